/- A symbolic walk over the model, and what it shows of functions of the program: parts of the proof that the text of the row joins. -/
import Derived.Test.YtkklpamllfkbaaaW1
import Derived.Test.YtkklpamllfkbaaaE3
import Derived.KernelRfl

namespace Go.Proofs.Ytkklpamllfkbaaa
open Go.SE Go.RowKit
set_option maxRecDepth 100000
set_option maxHeartbeats 4000000
set_option linter.unusedVariables false
attribute [local irreducible] Go.SE.vc

instance : Inhabited L.Pt := ⟨⟨0, 0⟩⟩
def L.lePt (a b : L.Pt) : Prop := L.cmpPt a b ≤ 0
theorem cmpPt_le {a b : L.Pt} : L.cmpPt a b ≤ 0 ↔ a.x < b.x ∨ (a.x = b.x ∧ a.y ≤ b.y) := by
  unfold L.cmpPt L.or2 L.cmp
  by_cases h1 : a.x < b.x
  · simp [h1]
  · by_cases h2 : b.x < a.x
    · simp [h1, h2]; omega
    · by_cases h3 : a.y < b.y
      · simp [h1, h2, h3]; omega
      · by_cases h4 : b.y < a.y
        · simp [h1, h2, h3, h4]; try omega
        · simp [h1, h2, h3, h4]; try omega
theorem swoPt : Go.Sort.SWO (Go.Proofs.ltOf L.cmpPt) := by
  have k : ∀ x y, Go.Proofs.ltOf L.cmpPt x y = true ↔ (x.x < y.x ∨ (x.x = y.x ∧ x.y < y.y)) := fun x y => by
    unfold Go.Proofs.ltOf; rw [decide_eq_true_iff]; exact cmpPt_lt
  have kf : ∀ x y, Go.Proofs.ltOf L.cmpPt x y = false ↔ ¬ (x.x < y.x ∨ (x.x = y.x ∧ x.y < y.y)) := fun x y => by
    rw [← k, Bool.not_eq_true]
  refine ⟨fun x => ?_, fun x y z => ?_, fun x y z => ?_⟩
  · rw [kf]; omega
  · simp only [k]; omega
  · simp only [kf]; omega
def L.insPt (p : L.Pt) : List L.Pt → List L.Pt
  | [] => [p]
  | q :: r => bif decide (L.cmpPt p q ≤ 0) then p :: q :: r else q :: L.insPt p r
def L.isortPt : List L.Pt → List L.Pt
  | [] => []
  | p :: r => L.insPt p (L.isortPt r)
def L.listPt (l : L.Sq L.Pt) : List L.Pt := (List.range l.n).map l.g
def L.sorted (l : L.Sq L.Pt) : L.Sq L.Pt := ⟨l.n, fun k => (L.isortPt (L.listPt l)).getD k ⟨0, 0⟩⟩
theorem lePt_total (a b : L.Pt) : L.lePt a b ∨ L.lePt b a := by unfold L.lePt; simp only [cmpPt_le]; omega
theorem lePt_trans {a b c : L.Pt} (h : L.lePt a b) (k : L.lePt b c) : L.lePt a c := by unfold L.lePt at *; simp only [cmpPt_le] at *; omega
theorem lePt_anti {a b : L.Pt} (h : L.lePt a b) (k : L.lePt b a) : a = b := by
  unfold L.lePt at *; simp only [cmpPt_le] at *
  obtain ⟨ax, ay⟩ := a; obtain ⟨bx, by'⟩ := b
  simp only at h k
  obtain rfl : ax = bx := by omega
  obtain rfl : ay = by' := by omega
  rfl
theorem insPt_perm (p : L.Pt) : ∀ l, (L.insPt p l).Perm (p :: l)
  | [] => .refl _
  | q :: r => by
    unfold L.insPt
    cases decide (L.cmpPt p q ≤ 0) with
    | true => exact .refl _
    | false => exact ((insPt_perm p r).cons q).trans (.swap p q r)
theorem isortPt_perm : ∀ l, (L.isortPt l).Perm l
  | [] => .refl _
  | p :: r => (insPt_perm p _).trans ((isortPt_perm r).cons p)
theorem insPt_asc {p : L.Pt} : ∀ {l}, l.Pairwise L.lePt → (L.insPt p l).Pairwise L.lePt
  | [], _ => List.pairwise_singleton _ _
  | q :: r, h => by
    obtain ⟨h1, h2⟩ := List.pairwise_cons.1 h
    unfold L.insPt
    cases hd : decide (L.cmpPt p q ≤ 0) with
    | true =>
      have hd : L.lePt p q := of_decide_eq_true (p := L.cmpPt p q ≤ 0) hd
      exact List.pairwise_cons.2 ⟨fun x hx => by
        rcases List.mem_cons.1 hx with rfl | hx
        · exact hd
        · exact lePt_trans hd (h1 x hx), h⟩
    | false =>
      have hd : ¬ L.lePt p q := of_decide_eq_false (p := L.cmpPt p q ≤ 0) hd
      have hqp : L.lePt q p := (lePt_total p q).resolve_left hd
      exact List.pairwise_cons.2 ⟨fun x hx => by
        rcases List.mem_cons.1 ((insPt_perm p r).mem_iff.1 hx) with rfl | hx
        · exact hqp
        · exact h1 x hx, insPt_asc h2⟩
theorem isortPt_asc : ∀ l, (L.isortPt l).Pairwise L.lePt
  | [] => .nil
  | p :: r => insPt_asc (isortPt_asc r)
theorem sorted_is {l : L.Sq L.Pt} {u : Nat → L.Pt} (h : SortedBy L.cmpPt l.n l.g u) : ∀ k, k < l.n → (L.sorted l).g k = u k := fun k hk => by
  have e : (List.range l.n).map u = L.isortPt (L.listPt l) := by
    refine List.Perm.eq_of_pairwise (le := L.lePt) (fun a b _ _ => lePt_anti) ?_ (isortPt_asc _) (h.perm.trans (isortPt_perm _).symm)
    rw [List.pairwise_iff_getElem]
    intro i j hi hj hij
    simp only [List.getElem_map, List.getElem_range]
    have hj : j < l.n := by simpa using hj
    have := h.asc i j hij hj
    rcases lePt_total (u i) (u j) with h1 | h1
    · exact h1
    · unfold L.lePt at *
      simp only [cmpPt_le, cmpPt_lt] at *
      omega
  show (L.isortPt (L.listPt l)).getD k ⟨0, 0⟩ = u k
  rw [← e]
  simp [List.getD_eq_getElem?_getD, hk]
theorem sorted_mem (l : L.Sq L.Pt) {k : Nat} (hk : k < l.n) : ∃ i, i < l.n ∧ (L.sorted l).g k = l.g i := by
  have hl : (L.isortPt (L.listPt l)).length = l.n := by rw [(isortPt_perm _).length_eq]; simp [L.listPt]
  have hm : (L.isortPt (L.listPt l)).getD k ⟨0, 0⟩ ∈ L.isortPt (L.listPt l) := by
    rw [List.getD_eq_getElem?_getD, List.getElem?_eq_getElem (by rw [hl]; exact hk)]
    exact List.getElem_mem _
  have hm := (isortPt_perm _).mem_iff.1 hm
  unfold L.listPt at hm
  obtain ⟨i, hi, e⟩ := List.mem_map.1 hm
  exact ⟨i, List.mem_range.1 hi, e.symm⟩
def encPt (p : L.Pt) : List Int := [p.x, p.y]
def sortPt_ren : Go.Shelf.Ren := ⟨fun | 6 => 95 | 15 => 90 | 14 => 109 | 28 => 106 | 29 => 107 | 20 => 115 | 21 => 116 | 22 => 117 | 23 => 118 | 24 => 119 | 25 => 120 | 26 => 121 | 27 => 122 | 46 => 124 | 47 => 111 | 48 => 112 | 49 => 125 | 50 => 126 | 57 => 127 | n => n, fun | 22 => 40 | 24 => 23 | 25 => 65 | 3 => 3 | 39 => 102 | 0 => 0 | 53 => 118 | 55 => 120 | 4 => 4 | 46 => 111 | 45 => 110 | 50 => 115 | 5 => 5 | 9 => 9 | 66 => 123 | 70 => 127 | 76 => 134 | 77 => 135 | n => n, fun | n => n⟩
theorem sortPt_lay : Go.Proofs.SlLaysF0.n6 Try.prog sortPt_ren := {
  mixed := by kernel_rfl
  f6 := ⟨Try.f95.name, by decide, Try.func95.trans (congrArg some (by kernel_rfl))⟩
  f14 := ⟨Try.f109.name, by decide, Try.func109.trans (congrArg some (by kernel_rfl))⟩
  f15 := Try.func90.trans (congrArg some (by kernel_rfl))
  f20 := ⟨Try.f115.name, by decide, Try.func115.trans (congrArg some (by kernel_rfl))⟩
  f21 := ⟨Try.f116.name, by decide, Try.func116.trans (congrArg some (by kernel_rfl))⟩
  f22 := ⟨Try.f117.name, by decide, Try.func117.trans (congrArg some (by kernel_rfl))⟩
  f23 := ⟨Try.f118.name, by decide, Try.func118.trans (congrArg some (by kernel_rfl))⟩
  f24 := ⟨Try.f119.name, by decide, Try.func119.trans (congrArg some (by kernel_rfl))⟩
  f25 := ⟨Try.f120.name, by decide, Try.func120.trans (congrArg some (by kernel_rfl))⟩
  f26 := ⟨Try.f121.name, by decide, Try.func121.trans (congrArg some (by kernel_rfl))⟩
  f27 := ⟨Try.f122.name, by decide, Try.func122.trans (congrArg some (by kernel_rfl))⟩
  f28 := Try.func106.trans (congrArg some (by kernel_rfl))
  f29 := Try.func107.trans (congrArg some (by kernel_rfl))
  f46 := ⟨Try.f124.name, by decide, Try.func124.trans (congrArg some (by kernel_rfl))⟩
  f47 := Try.func111.trans (congrArg some (by kernel_rfl))
  f48 := Try.func112.trans (congrArg some (by kernel_rfl))
  f49 := ⟨Try.f125.name, by decide, Try.func125.trans (congrArg some (by kernel_rfl))⟩
  f50 := ⟨Try.f126.name, by decide, Try.func126.trans (congrArg some (by kernel_rfl))⟩
  f57 := ⟨Try.f127.name, by decide, Try.func127.trans (congrArg some (by kernel_rfl))⟩
  t0 := Try.underlying0
  a0 := Try.isAgg0
  z0 := Try.sizeOf0
  v0 := Try.zeroValue0
  t3 := Try.underlying3
  a3 := Try.isAgg3
  z3 := Try.sizeOf3
  v3 := Try.zeroValue3
  t4 := Try.underlying4
  a4 := Try.isAgg4
  z4 := Try.sizeOf4
  v4 := Try.zeroValue4
  t5 := Try.underlying5
  a5 := Try.isAgg5
  z5 := Try.sizeOf5
  v5 := Try.zeroValue5
  t9 := Try.underlying9
  a9 := Try.isAgg9
  z9 := Try.sizeOf9
  v9 := Try.zeroValue9
  t22 := Try.underlying40
  a22 := Try.isAgg40
  z22 := Try.sizeOf40
  v22 := Try.zeroValue40
  t25 := Try.underlying65
  a25 := Try.isAgg65
  z25 := Try.sizeOf65
  v25 := Try.zeroValue65
  t39 := Try.underlying102
  a39 := Try.isAgg102
  z39 := Try.sizeOf102
  v39 := Try.zeroValue102
  t45 := Try.underlying110
  a45 := Try.isAgg110
  z45 := Try.sizeOf110
  v45 := Try.zeroValue110
  t46 := Try.underlying111
  a46 := Try.isAgg111
  z46 := Try.sizeOf111
  v46 := Try.zeroValue111
  t50 := Try.underlying115
  a50 := Try.isAgg115
  z50 := Try.sizeOf115
  v50 := Try.zeroValue115
  t53 := Try.underlying118
  a53 := Try.isAgg118
  z53 := Try.sizeOf118
  v53 := Try.zeroValue118
  t55 := Try.underlying120
  a55 := Try.isAgg120
  z55 := Try.sizeOf120
  v55 := Try.zeroValue120
  t66 := Try.underlying123
  a66 := Try.isAgg123
  z66 := Try.sizeOf123
  v66 := Try.zeroValue123
  t70 := Try.underlying127
  a70 := Try.isAgg127
  z70 := Try.sizeOf127
  v70 := Try.zeroValue127
  t76 := Try.underlying134
  a76 := Try.isAgg134
  z76 := Try.sizeOf134
  v76 := Try.zeroValue134
  t77 := Try.underlying135
  a77 := Try.isAgg135
  z77 := Try.sizeOf135
  v77 := Try.zeroValue135 }

abbrev s_sortP_tr : Tr := sortTr 23 2 67 1005 encPt L.cmpPt
theorem s_sortP_tok : TrOk Try.prog 95 s_sortP_tr := sortTr_ok (enc := encPt) sortPt_lay (by decide) (fun w => Try.isAgg23 w) (fun w => Try.sizeOf23 w) (fun _ => rfl) swoPt p_compare_ok p_compare_en (fun x y => show preO p_compare_s [.p (.agg [.int .i64 x.x, .int .i64 x.y]), .p (.agg [.int .i64 y.x, .int .i64 y.y])] from trivial) (fun x y => rfl) _ _
theorem s_sortP_en : Enters Try.prog 95 := fun args w => by kernel_rfl
def L.popPt (p : L.Pt) : List L.Pt → List L.Pt
  | [] => []
  | [a] => [a]
  | b :: a :: r => bif decide (L.cross a b p ≤ 0) then L.popPt p (a :: r) else b :: a :: r
def L.chainTo (l : L.Sq L.Pt) : Nat → List L.Pt
  | 0 => []
  | k + 1 => l.g k :: L.popPt (l.g k) (L.chainTo l k)
def L.len (st : List L.Pt) : Nat := st.length
def L.lmem (q : L.Pt) (st : List L.Pt) : Prop := q ∈ st
def L.fromTop (st : List L.Pt) (k : Nat) : L.Pt := st.getD (st.length - 1 - k) ⟨0, 0⟩
def L.chain (l : L.Sq L.Pt) : L.Sq L.Pt := ⟨(L.chainTo l l.n).length - 1, fun k => L.fromTop (L.chainTo l l.n) k⟩
theorem popPt_mem {p q : L.Pt} : ∀ {st : List L.Pt}, q ∈ L.popPt p st → q ∈ st
  | [], h => h
  | [a], h => h
  | b :: a :: r, h => by
    unfold L.popPt at h
    cases hd : decide (L.cross a b p ≤ 0) with
    | true => rw [hd] at h; exact List.mem_cons_of_mem _ (popPt_mem (st := a :: r) h)
    | false => rw [hd] at h; exact h
theorem popPt_len {p : L.Pt} : ∀ {st : List L.Pt}, (L.popPt p st).length ≤ st.length
  | [] => Nat.le_refl _
  | [a] => Nat.le_refl _
  | b :: a :: r => by
    unfold L.popPt
    cases decide (L.cross a b p ≤ 0) with
    | true => exact Nat.le_trans (popPt_len (st := a :: r)) (Nat.le_succ _)
    | false => exact Nat.le_refl _
theorem popPt_pos {p : L.Pt} : ∀ {st : List L.Pt}, 1 ≤ st.length → 1 ≤ (L.popPt p st).length
  | [], h => h
  | [a], h => h
  | b :: a :: r, h => by
    unfold L.popPt
    cases decide (L.cross a b p ≤ 0) with
    | true => exact popPt_pos (st := a :: r) (Nat.succ_le_succ (Nat.zero_le _))
    | false => exact h
theorem chain_pos {l : L.Sq L.Pt} (h : 2 ≤ l.n) : 1 ≤ (L.chainTo l l.n).length - 1 := by
  match hh : l.n, h with
  | m + 2, _ =>
    have := popPt_pos (p := l.g (m + 1)) (st := L.chainTo l (m + 1)) (Nat.succ_le_succ (Nat.zero_le _))
    show 1 ≤ (L.popPt (l.g (m + 1)) (L.chainTo l (m + 1))).length + 1 - 1
    omega
theorem chainTo_mem {l : L.Sq L.Pt} {q : L.Pt} : ∀ {k}, q ∈ L.chainTo l k → ∃ i, i < k ∧ q = l.g i
  | 0, h => nomatch h
  | k + 1, h => by
    rcases List.mem_cons.1 h with rfl | h
    · exact ⟨k, Nat.lt_succ_self _, rfl⟩
    · obtain ⟨i, hi, e⟩ := chainTo_mem (popPt_mem h)
      exact ⟨i, Nat.lt_succ_of_lt hi, e⟩
theorem chainTo_len (l : L.Sq L.Pt) : ∀ k, (L.chainTo l k).length ≤ k
  | 0 => Nat.le_refl _
  | k + 1 => Nat.succ_le_succ (Nat.le_trans popPt_len (chainTo_len l k))
theorem fromTop_mem {st : List L.Pt} {k : Nat} (h : k < st.length) : L.fromTop st k ∈ st := by
  unfold L.fromTop
  rw [List.getD_eq_getElem?_getD, List.getElem?_eq_getElem (by omega)]
  exact List.getElem_mem _
theorem fromTop_tail {a : L.Pt} {r : List L.Pt} {k : Nat} (h : k < r.length) : L.fromTop (a :: r) k = L.fromTop r k := by
  unfold L.fromTop
  rw [show (a :: r).length - 1 - k = (r.length - 1 - k) + 1 by simp only [List.length_cons]; omega]
  rfl
theorem fromTop_head {a : L.Pt} {r : List L.Pt} : L.fromTop (a :: r) r.length = a := by
  unfold L.fromTop
  rw [show (a :: r).length - 1 - r.length = 0 by simp only [List.length_cons]; omega]
  rfl
def L.revd (l : L.Sq L.Pt) : L.Sq L.Pt := ⟨l.n, fun k => l.g (l.n - 1 - k)⟩
def L.hull (l : L.Sq L.Pt) : L.Sq L.Pt := L.catTo (L.two (L.chain (L.sorted l)) (L.chain (L.revd (L.sorted l)))) 2
theorem chain_mem (l : L.Sq L.Pt) {k : Nat} (h : k < (L.chain l).n) : ∃ i, i < l.n ∧ (L.chain l).g k = l.g i := chainTo_mem (fromTop_mem (st := L.chainTo l l.n) (show k < _ by have : k < (L.chainTo l l.n).length - 1 := h; omega))
theorem hull_mem (l : L.Sq L.Pt) {k : Nat} (h : k < (L.hull l).n) : ∃ i, i < l.n ∧ (L.hull l).g k = l.g i := by
  have a1 : ∀ k, k < (L.chain (L.sorted l)).n → ∃ i, i < l.n ∧ (L.chain (L.sorted l)).g k = l.g i := fun k hk => by
    obtain ⟨i, hi, e⟩ := chain_mem _ hk
    obtain ⟨j, hj, e2⟩ := sorted_mem l hi
    exact ⟨j, hj, e.trans e2⟩
  have a2 : ∀ k, k < (L.chain (L.revd (L.sorted l))).n → ∃ i, i < l.n ∧ (L.chain (L.revd (L.sorted l))).g k = l.g i := fun k hk => by
    obtain ⟨i, hi, e⟩ := chain_mem _ hk
    have hi : i < l.n := hi
    obtain ⟨j, hj, e2⟩ := sorted_mem l (k := l.n - 1 - i) (by omega)
    exact ⟨j, hj, e.trans e2⟩
  have h : k < 0 + (L.chain (L.sorted l)).n + (L.chain (L.revd (L.sorted l))).n := h
  have e : (L.hull l).g k = bif decide (k < 0 + (L.chain (L.sorted l)).n) then (bif decide (k < 0) then (⟨0, 0⟩ : L.Pt) else (L.chain (L.sorted l)).g (k - 0)) else (L.chain (L.revd (L.sorted l))).g (k - (0 + (L.chain (L.sorted l)).n)) := rfl
  rw [e]
  cases hd : decide (k < 0 + (L.chain (L.sorted l)).n) with
  | true => have := of_decide_eq_true hd; exact a1 k (by omega)
  | false => have := of_decide_eq_false hd; exact a2 _ (by omega)
def s_values1_p (l : (L.Sq L.Pt)) : Prop := l.n ≤ 1000000
def s_values1_n (l : (L.Sq L.Pt)) : Nat := l.n
def s_values1_i (l : (L.Sq L.Pt)) : Nat → List SV := fun k => [(.agg [.int .i64 ((l.g (k : Int).toNat).x), .int .i64 ((l.g (k : Int).toNat).y)])]
def s_values1_ic : List SV → Option (Prop × Nat × (Nat → List SV))
  | [.ref [.sl 2 l_n l_g] 0] => some ((∀ i, i < l_n → l_g i = [.int .i64 ((ofPt (l_g i)).x), .int .i64 ((ofPt (l_g i)).y)]) ∧ s_values1_p (⟨l_n, fun i => ofPt (l_g i)⟩ : (L.Sq L.Pt)), s_values1_n (⟨l_n, fun i => ofPt (l_g i)⟩ : (L.Sq L.Pt)), s_values1_i (⟨l_n, fun i => ofPt (l_g i)⟩ : (L.Sq L.Pt)))
  | _ => none
abbrev s_values1_it : ItSpec := itOf s_values1_ic
def s_values1_C : Cfg := { muts := [], frz := lookN [], specs := lookS [], loops := fun _ => none, iters := lookI [], rfs := lookR [] }
theorem s_values1_vc (yl : Nat) (l : (L.Sq L.Pt)) (hp : s_values1_p l) : vc Try.prog { s_values1_C with loops := lookL [(1, { T := Nat, keep := [0, 1, 5, 6], keepO := [], chg := fun i => [(7, .p (.int .i64 (i : Int)))], own := fun _ => [], inv := fun i => i ≤ l.n, mu := fun i => l.n - i, yk := some (fun i => i) })], yld := some ⟨yl, s_values1_n l, s_values1_i l⟩ } (bodyOf Try.f96) (st0 Try.f96 (.yield yl :: ([.ref [.sl 2 l.n (fun i => [.int .i64 ((l.g i).x), .int .i64 ((l.g i).y)])] 0] : List SV).map .p)) (retIt Try.prog Try.f96 (s_values1_n l)) :=
  @Eq.mpr _ ((∃ (g : Nat), nat_lit 0 = g ∧ Bool.false = Bool.false ∧ (0 : Int) = (↑g : Int) ∧ g ≤ l.n) ∧ ∀ (g : Nat), g ≤ l.n → (Decidable.decide ((↑g : Int) < (↑l.n : Int)) = Bool.true → ((0 : Int) ≤ (↑g : Int) ∧ (↑g : Int) < (↑l.n : Int)) ∧ yl = yl ∧ g < l.n ∧ [Go.SE.SV.agg [Go.SE.SV.int Go.IntKind.i64 (l.g (Int.toNat (↑g : Int))).x, Go.SE.SV.int Go.IntKind.i64 (l.g (Int.toNat (↑g : Int))).y]] =
 [Go.SE.SV.agg [Go.SE.SV.int Go.IntKind.i64 (l.g (Int.toNat (↑g : Int))).x, Go.SE.SV.int Go.IntKind.i64 (l.g (Int.toNat (↑g : Int))).y]] ∧ ((Bool.false = Bool.true → g + (1 : Nat) = l.n ∨ g + (1 : Nat) = l.n + (1 : Nat)) ∧ (Bool.false = Bool.false → Go.SE.InK Go.IntKind.i64 ((↑g : Int) + (1 : Int)) ∧ ∃ (g' : Nat), g + (1 : Nat) = g' ∧ Bool.false = Bool.false ∧ (↑g : Int) + (1 : Int) = (↑g' : Int) ∧
 (↑l.n : Int) = (↑l.n : Int) ∧ (l.n = l.n ∧ ∀ (i : Nat), i < l.n → [Go.SE.SV.int Go.IntKind.i64 (l.g i).x, Go.SE.SV.int Go.IntKind.i64 (l.g i).y] = [Go.SE.SV.int Go.IntKind.i64 (l.g i).x, Go.SE.SV.int Go.IntKind.i64 (l.g i).y]) ∧ yl = yl ∧ Go.SE.SV.ref [Go.SE.SV.sl (nat_lit 2) l.n fun (i : Nat) ↦ [Go.SE.SV.int Go.IntKind.i64 (l.g i).x, Go.SE.SV.int Go.IntKind.i64 (l.g i).y]] (nat_lit 0) =
 Go.SE.SV.ref [Go.SE.SV.sl (nat_lit 2) l.n fun (i : Nat) ↦ [Go.SE.SV.int Go.IntKind.i64 (l.g i).x, Go.SE.SV.int Go.IntKind.i64 (l.g i).y]] (nat_lit 0) ∧ g' ≤ l.n ∧ l.n - g' < l.n - g)) ∧ (Bool.true = Bool.true → l.n + (1 : Nat) = l.n ∨ l.n + (1 : Nat) = l.n + (1 : Nat)) ∧ (Bool.true = Bool.false → Go.SE.InK Go.IntKind.i64 ((↑g : Int) + (1 : Int)) ∧ ∃ (g' : Nat), l.n + (1 : Nat) = g' ∧ Bool.false =
 Bool.false ∧ (↑g : Int) + (1 : Int) = (↑g' : Int) ∧ (↑l.n : Int) = (↑l.n : Int) ∧ (l.n = l.n ∧ ∀ (i : Nat), i < l.n → [Go.SE.SV.int Go.IntKind.i64 (l.g i).x, Go.SE.SV.int Go.IntKind.i64 (l.g i).y] = [Go.SE.SV.int Go.IntKind.i64 (l.g i).x, Go.SE.SV.int Go.IntKind.i64 (l.g i).y]) ∧ yl = yl ∧ Go.SE.SV.ref [Go.SE.SV.sl (nat_lit 2) l.n fun (i : Nat) ↦ [Go.SE.SV.int Go.IntKind.i64 (l.g i).x,
 Go.SE.SV.int Go.IntKind.i64 (l.g i).y]] (nat_lit 0) = Go.SE.SV.ref [Go.SE.SV.sl (nat_lit 2) l.n fun (i : Nat) ↦ [Go.SE.SV.int Go.IntKind.i64 (l.g i).x, Go.SE.SV.int Go.IntKind.i64 (l.g i).y]] (nat_lit 0) ∧ g' ≤ l.n ∧ l.n - g' < l.n - g)) ∧ (Decidable.decide ((↑g : Int) < (↑l.n : Int)) = Bool.false → g = l.n ∨ g = l.n + (1 : Nat))) (by kernel_rfl) (by
    have hn : l.n ≤ 1000000 := hp
    refine ⟨⟨(0 : Nat), rfl, rfl, rfl, Nat.zero_le _⟩, fun g hg => ⟨fun hlt => ?_, fun hge => ?_⟩⟩
    · have hb : (g : Int) < (l.n : Int) := of_decide_eq_true hlt
      refine ⟨⟨by omega, hb⟩, rfl, by omega, rfl, ?_⟩
      exact ⟨⟨fun h => (by cases h), fun _ => ⟨InK.of (by omega) (by omega), g + 1, rfl, rfl, by omega, rfl, ⟨rfl, fun _ _ => rfl⟩, rfl, rfl, by omega, by omega⟩⟩, fun _ => .inr rfl, fun h => (by cases h)⟩
    · have hb : ¬ (g : Int) < (l.n : Int) := of_decide_eq_false hge
      exact .inl (by omega))
theorem s_values1_itok : ItOk Try.prog 96 s_values1_it := iterX Try.func96 (c := bodyOf Try.f96) (by kernel_rfl) mixed (fun caps l p n g hs hp => by
  unfold s_values1_ic at hs
  split at hs
  · cases hs; exact ⟨_, _, s_values1_vc l _ hp.2, (.cons (Ext.ref rfl (fun i hi => by
      rcases i with _ | i
      · show Ext (SV.sl _ _ _) (SV.sl _ _ _); exact (Ext.sl hp.1)
      exact absurd hi (by simp; try omega))) .nil), rfl, show SpecsL Try.prog _ from SpecsL.nil, ⟨show ItersL Try.prog _ from ItersL.nil, TrsOk.none (fun _ => rfl)⟩⟩
  · cases hs)
theorem s_values1_en : Enters Try.prog 96 := fun args w => by kernel_rfl
def s_values_p (l : (L.Sq L.Pt)) : Prop := l.n ≤ 1000000
def s_values_r (l : (L.Sq L.Pt)) : SV := .clo 96 [.ref [(.sl 2 l.n (fun i => [.int .i64 ((l.g i).x), .int .i64 ((l.g i).y)]))] 0]
def s_values_s : List EV → Option (Prop × SV)
  | [.p (.sl 2 l_n l_g)] => some ((∀ i, i < l_n → l_g i = [.int .i64 ((ofPt (l_g i)).x), .int .i64 ((ofPt (l_g i)).y)]) ∧ s_values_p (⟨l_n, fun i => ofPt (l_g i)⟩ : (L.Sq L.Pt)), s_values_r (⟨l_n, fun i => ofPt (l_g i)⟩ : (L.Sq L.Pt)))
  | _ => none
abbrev s_values_S : SE.Spec := (specO s_values_s)
def s_values_C : Cfg := { muts := [], frz := lookN [], specs := lookS [], loops := lookL [], iters := lookI [], rfs := lookR [], nils := lookM [] }
theorem s_values_vc (l : (L.Sq L.Pt)) (hp : s_values_p l) : vc Try.prog (s_values_C) (bodyOf Try.f85) (st0 Try.f85 [.p (.sl 2 l.n (fun i => [.int .i64 ((l.g i).x), .int .i64 ((l.g i).y)]))]) (retFn Try.prog Try.f85 (s_values_r l)) :=
  @Eq.mpr _ (Go.SE.SV.clo (nat_lit 96) [Go.SE.SV.ref [Go.SE.SV.sl (nat_lit 2) l.n fun (i : Nat) ↦ [Go.SE.SV.int Go.IntKind.i64 (l.g i).x, Go.SE.SV.int Go.IntKind.i64 (l.g i).y]] (nat_lit 0)] = Go.SE.SV.clo (nat_lit 96) [Go.SE.SV.ref [Go.SE.SV.sl (nat_lit 2) l.n fun (i : Nat) ↦ [Go.SE.SV.int Go.IntKind.i64 (l.g i).x, Go.SE.SV.int Go.IntKind.i64 (l.g i).y]] (nat_lit 0)]) (by kernel_rfl) (by
    rfl)
theorem s_values_ok : SpecOk Try.prog 85 s_values_S := fnX Try.func85 (c := bodyOf Try.f85) (by kernel_rfl) mixed (fun args p r hs hp => by
  unfold s_values_s at hs
  split at hs
  · cases hs; exact ⟨_, _, s_values_vc _ hp.2, (.p (.sl hp.1) .nil), ⟨show SpecsL Try.prog _ from SpecsL.nil, rfl, ⟨show ItersL Try.prog _ from ItersL.nil, (TrsOk.none (fun _ => rfl))⟩⟩⟩
  · cases hs)
theorem s_values_en : Enters Try.prog 85 := fun args w => by kernel_rfl
def s_appendSeq_p (s : Nat) (l : (L.Sq L.Pt)) : Prop := l.n ≤ 1000000
def s_appendSeq_q (s : Nat) (l : (L.Sq L.Pt)) : Nat → Prop := fun _ => True
def s_appendSeq_n (s : Nat) (l : (L.Sq L.Pt)) : Nat → Nat := fun _ => l.n
def s_appendSeq_g (s : Nat) (l : (L.Sq L.Pt)) : Nat → Nat → List SV := fun _ k => [.int .i64 ((l.g k).x), .int .i64 ((l.g k).y)]
def s_appendSeq_s : List EV → Option (Prop × (Nat → Prop) × (Nat → Nat) × (Nat → Nat → List SV))
  | [.p (.raw (.slice none 0 0)), .p (.clo 96 [.ref [.sl 2 l_n l_g] 0])] => some ((∀ i, i < l_n → l_g i = [.int .i64 ((ofPt (l_g i)).x), .int .i64 ((ofPt (l_g i)).y)]) ∧ s_appendSeq_p (0 : Nat) (⟨l_n, fun i => ofPt (l_g i)⟩ : (L.Sq L.Pt)), s_appendSeq_q (0 : Nat) (⟨l_n, fun i => ofPt (l_g i)⟩ : (L.Sq L.Pt)), s_appendSeq_n (0 : Nat) (⟨l_n, fun i => ofPt (l_g i)⟩ : (L.Sq L.Pt)), s_appendSeq_g (0 : Nat) (⟨l_n, fun i => ofPt (l_g i)⟩ : (L.Sq L.Pt)))
  | _ => none
abbrev s_appendSeq_S : SE.Spec := (specF Nat 0 23 2 s_appendSeq_s)
def s_appendSeq_C : Cfg := { muts := [2, 5], frz := lookN [], specs := lookS [], loops := lookL [], iters := lookI [(96, s_values1_it)], rfs := lookR [], nils := lookM [(1, [(2, 10, 23, 2)])] }
theorem s_appendSeq_vc (s : Nat) (l : (L.Sq L.Pt)) (hp : s_appendSeq_p s l) : vc Try.prog ({ s_appendSeq_C with loops := lookL [], rfs := lookR [(2, { T := Nat, keep := [2], keepO := [], own := fun k _ => [(2, .blk 40 [.row 10]), (10, .row 23 2 k (fun k => [.int .i64 ((l.g k).x), .int .i64 ((l.g k).y)]))], inv := fun k _ => k ≤ l.n })] }) (bodyOf Try.f108) (st0 Try.f108 [.p (.raw (.slice none 0 0)), .p (.clo 96 [.ref [.sl 2 l.n (fun i => [.int .i64 ((l.g i).x), .int .i64 ((l.g i).y)])] 0])]) (retFresh Try.prog Try.f108 (Nat) (s_appendSeq_q s l) 23 2 (s_appendSeq_n s l) (s_appendSeq_g s l)) :=
  @Eq.mpr _ ((((∀ (i : Nat), i < l.n → [Go.SE.SV.int Go.IntKind.i64 (l.g i).x, Go.SE.SV.int Go.IntKind.i64 (l.g i).y] = [Go.SE.SV.int Go.IntKind.i64 (l.g i).x, Go.SE.SV.int Go.IntKind.i64 (l.g i).y]) ∧ l.n ≤ (1000000 : Nat)) ∧ ∃ (t : Nat), (nat_lit 0 = (0 : Nat) ∧ ∀ (i : Nat), i < nat_lit 0 → [] = [Go.SE.SV.int Go.IntKind.i64 (l.g i).x, Go.SE.SV.int Go.IntKind.i64 (l.g i).y]) ∧ (0 : Nat) ≤ l.n) ∧ (∀ (k t :
 Nat) (vk : Nat → Go.Value), k < l.n → k ≤ l.n → (k + nat_lit 1) * nat_lit 16 ≤ (140737488355328 : Nat) ∧ ∃ (t' : Nat), nat_lit 0 = nat_lit 0 ∧ vk (nat_lit 2) = vk (nat_lit 2) ∧ (k + nat_lit 1 = k + (1 : Nat) ∧ ∀ (i : Nat), i < k + nat_lit 1 → Go.SE.appGet k (fun (k : Nat) ↦ [Go.SE.SV.int Go.IntKind.i64 (l.g k).x, Go.SE.SV.int Go.IntKind.i64 (l.g k).y]) (fun (x : Nat) ↦ [Go.SE.SV.int Go.IntKind.i64
 (l.g (Int.toNat (↑k : Int))).x, Go.SE.SV.int Go.IntKind.i64 (l.g (Int.toNat (↑k : Int))).y]) i = [Go.SE.SV.int Go.IntKind.i64 (l.g i).x, Go.SE.SV.int Go.IntKind.i64 (l.g i).y]) ∧ k + (1 : Nat) ≤ l.n) ∧ ∀ (t : Nat), l.n ≤ l.n → ∃ (t : Nat), (l.n = l.n ∧ ∀ (i : Nat), i < l.n → [Go.SE.SV.int Go.IntKind.i64 (l.g i).x, Go.SE.SV.int Go.IntKind.i64 (l.g i).y] = [Go.SE.SV.int Go.IntKind.i64 (l.g i).x,
 Go.SE.SV.int Go.IntKind.i64 (l.g i).y]) ∧ True) (by kernel_rfl) (by
    have hn : l.n ≤ 1000000 := hp
    refine ⟨⟨⟨fun _ _ => rfl, hn⟩, (0 : Nat), ⟨rfl, fun i hi => absurd hi (Nat.not_lt_zero _)⟩, Nat.zero_le _⟩, fun k t vk hk hi => ⟨show (k + 1) * 16 ≤ 140737488355328 by omega, (0 : Nat), rfl, rfl, ⟨rfl, fun i hi => ?_⟩, by omega⟩, fun t hi => ⟨(0 : Nat), ⟨rfl, fun _ _ => rfl⟩, trivial⟩⟩
    have hi : i < k + 1 := hi
    have e0 : ((k : Int)).toNat = k := by omega
    unfold appGet
    by_cases h' : i < k
    · rw [if_pos h']
    · rw [if_neg h']
      obtain rfl : i = k := by omega
      dsimp only
      rw [e0])
theorem s_appendSeq_ok : SpecOk Try.prog 108 s_appendSeq_S := freshX Try.func108 (c := bodyOf Try.f108) (by kernel_rfl) mixed (fun args p q n g hs hp => by
  unfold s_appendSeq_s at hs
  split at hs
  · cases hs; exact ⟨_, _, s_appendSeq_vc _ _ hp.2, (.same _ (.p (Ext.clo rfl (fun i hi => by
      rcases i with _ | i
      · show Ext (SV.ref _ _) (SV.ref _ _); exact (Ext.ref rfl (fun i hi => by
      rcases i with _ | i
      · show Ext (SV.sl _ _ _) (SV.sl _ _ _); exact (Ext.sl hp.1)
      exact absurd hi (by simp; try omega)))
      exact absurd hi (by simp; try omega))) .nil)), ⟨show SpecsL Try.prog _ from SpecsL.nil, rfl, ⟨show ItersL Try.prog _ from (ItersL.cons s_values1_itok s_values1_en ItersL.nil), (TrsOk.none (fun _ => rfl))⟩⟩⟩
  · cases hs)
theorem s_appendSeq_en : Enters Try.prog 108 := fun args w => by kernel_rfl
def s_collect_p (l : (L.Sq L.Pt)) : Prop := l.n ≤ 1000000
def s_collect_q (l : (L.Sq L.Pt)) : Nat → Prop := fun _ => True
def s_collect_n (l : (L.Sq L.Pt)) : Nat → Nat := fun _ => l.n
def s_collect_g (l : (L.Sq L.Pt)) : Nat → Nat → List SV := fun _ k => [.int .i64 ((l.g k).x), .int .i64 ((l.g k).y)]
def s_collect_s : List EV → Option (Prop × (Nat → Prop) × (Nat → Nat) × (Nat → Nat → List SV))
  | [.p (.clo 96 [.ref [.sl 2 l_n l_g] 0])] => some ((∀ i, i < l_n → l_g i = [.int .i64 ((ofPt (l_g i)).x), .int .i64 ((ofPt (l_g i)).y)]) ∧ s_collect_p (⟨l_n, fun i => ofPt (l_g i)⟩ : (L.Sq L.Pt)), s_collect_q (⟨l_n, fun i => ofPt (l_g i)⟩ : (L.Sq L.Pt)), s_collect_n (⟨l_n, fun i => ofPt (l_g i)⟩ : (L.Sq L.Pt)), s_collect_g (⟨l_n, fun i => ofPt (l_g i)⟩ : (L.Sq L.Pt)))
  | _ => none
abbrev s_collect_S : SE.Spec := (specF Nat 0 23 2 s_collect_s)
def s_collect_C : Cfg := { muts := [4], frz := lookN [], specs := lookS [(108, s_appendSeq_S)], loops := lookL [], iters := lookI [], rfs := lookR [], nils := lookM [], raws := [108] }
theorem s_collect_vc (l : (L.Sq L.Pt)) (hp : s_collect_p l) : vc Try.prog (s_collect_C) (bodyOf Try.f94) (st0 Try.f94 [.p (.clo 96 [.ref [.sl 2 l.n (fun i => [.int .i64 ((l.g i).x), .int .i64 ((l.g i).y)])] 0])]) (retFresh Try.prog Try.f94 (Nat) (s_collect_q l) 23 2 (s_collect_n l) (s_collect_g l)) :=
  @Eq.mpr _ (((∀ (i : Nat), i < l.n → [Go.SE.SV.int Go.IntKind.i64 (l.g i).x, Go.SE.SV.int Go.IntKind.i64 (l.g i).y] = [Go.SE.SV.int Go.IntKind.i64 (l.g i).x, Go.SE.SV.int Go.IntKind.i64 (l.g i).y]) ∧ l.n ≤ (1000000 : Nat)) ∧ ∀ (t : Nat), True → ∃ (t : Nat), (l.n = l.n ∧ ∀ (i : Nat), i < l.n → [Go.SE.SV.int Go.IntKind.i64 (l.g i).x, Go.SE.SV.int Go.IntKind.i64 (l.g i).y] = [Go.SE.SV.int Go.IntKind.i64 (l.g
 i).x, Go.SE.SV.int Go.IntKind.i64 (l.g i).y]) ∧ True) (by kernel_rfl) (by
    exact ⟨⟨fun _ _ => rfl, hp⟩, fun t _ => ⟨(0 : Nat), ⟨rfl, fun _ _ => rfl⟩, trivial⟩⟩)
theorem s_collect_ok : SpecOk Try.prog 94 s_collect_S := freshX Try.func94 (c := bodyOf Try.f94) (by kernel_rfl) mixed (fun args p q n g hs hp => by
  unfold s_collect_s at hs
  split at hs
  · cases hs; exact ⟨_, _, s_collect_vc _ hp.2, (.p (Ext.clo rfl (fun i hi => by
      rcases i with _ | i
      · show Ext (SV.ref _ _) (SV.ref _ _); exact (Ext.ref rfl (fun i hi => by
      rcases i with _ | i
      · show Ext (SV.sl _ _ _) (SV.sl _ _ _); exact (Ext.sl hp.1)
      exact absurd hi (by simp; try omega)))
      exact absurd hi (by simp; try omega))) .nil), ⟨show SpecsL Try.prog _ from (SpecsL.cons s_appendSeq_ok s_appendSeq_en SpecsL.nil), rfl, ⟨show ItersL Try.prog _ from ItersL.nil, (TrsOk.none (fun _ => rfl))⟩⟩⟩
  · cases hs)
theorem s_collect_en : Enters Try.prog 94 := fun args w => by kernel_rfl
def s_sortedF_p (l : (L.Sq L.Pt)) : Prop := l.n ≤ 1000000
def s_sortedF_q (l : (L.Sq L.Pt)) : Nat → Prop := fun _ => True
def s_sortedF_n (l : (L.Sq L.Pt)) : Nat → Nat := fun _ => l.n
def s_sortedF_g (l : (L.Sq L.Pt)) : Nat → Nat → List SV := fun _ k => [.int .i64 (((L.sorted l).g k).x), .int .i64 (((L.sorted l).g k).y)]
def s_sortedF_s : List EV → Option (Prop × (Nat → Prop) × (Nat → Nat) × (Nat → Nat → List SV))
  | [.p (.clo 96 [.ref [.sl 2 l_n l_g] 0]), .p (.clo 67 [])] => some ((∀ i, i < l_n → l_g i = [.int .i64 ((ofPt (l_g i)).x), .int .i64 ((ofPt (l_g i)).y)]) ∧ s_sortedF_p (⟨l_n, fun i => ofPt (l_g i)⟩ : (L.Sq L.Pt)), s_sortedF_q (⟨l_n, fun i => ofPt (l_g i)⟩ : (L.Sq L.Pt)), s_sortedF_n (⟨l_n, fun i => ofPt (l_g i)⟩ : (L.Sq L.Pt)), s_sortedF_g (⟨l_n, fun i => ofPt (l_g i)⟩ : (L.Sq L.Pt)))
  | _ => none
abbrev s_sortedF_S : SE.Spec := (specF Nat 0 23 2 s_sortedF_s)
def s_sortedF_C : Cfg := { muts := [7], frz := lookN [], specs := lookS [(94, s_collect_S), (67, p_compare_S)], loops := lookL [], iters := lookI [], rfs := lookR [], nils := lookM [], trs := lookT [(95, s_sortP_tr)], ren := fun k => k - 998, raws := [94] }
theorem s_sortedF_vc (l : (L.Sq L.Pt)) (hp : s_sortedF_p l) : vc Try.prog (s_sortedF_C) (bodyOf Try.f84) (st0 Try.f84 [.p (.clo 96 [.ref [.sl 2 l.n (fun i => [.int .i64 ((l.g i).x), .int .i64 ((l.g i).y)])] 0]), .p (.clo 67 [])]) (retFresh Try.prog Try.f84 (Nat) (s_sortedF_q l) 23 2 (s_sortedF_n l) (s_sortedF_g l)) :=
  @Eq.mpr _ (((∀ (i : Nat), i < l.n → [Go.SE.SV.int Go.IntKind.i64 (l.g i).x, Go.SE.SV.int Go.IntKind.i64 (l.g i).y] = [Go.SE.SV.int Go.IntKind.i64 (l.g i).x, Go.SE.SV.int Go.IntKind.i64 (l.g i).y]) ∧ l.n ≤ (1000000 : Nat)) ∧ ∀ (t : Nat), True → ∃ (t : Nat × (Nat → L.Pt)), Go.SE.SV.clo (nat_lit 67) [] = Go.SE.SV.clo (67 : Nat) [] ∧ (l.n = t.1 ∧ ∀ (i : Nat), i < l.n → [Go.SE.SV.int Go.IntKind.i64 (l.g i).x,
 Go.SE.SV.int Go.IntKind.i64 (l.g i).y] = [Go.SE.SV.int Go.IntKind.i64 (t.2 i).x, Go.SE.SV.int Go.IntKind.i64 (t.2 i).y]) ∧ t.1 ≤ (1000000 : Nat) ∧ ∀ (u : Nat → L.Pt), Go.SE.SortedBy L.cmpPt t.1 t.2 u → ∃ (t_1 : Nat), (t.1 = l.n ∧ ∀ (i : Nat), i < t.1 → [Go.SE.SV.int Go.IntKind.i64 (u i).x, Go.SE.SV.int Go.IntKind.i64 (u i).y] = [Go.SE.SV.int Go.IntKind.i64 ((L.sorted l).g i).x, Go.SE.SV.int
 Go.IntKind.i64 ((L.sorted l).g i).y]) ∧ True) (by kernel_rfl) (by
    have hn : l.n ≤ 1000000 := hp
    refine ⟨⟨fun _ _ => rfl, hn⟩, fun t _ => ⟨(l.n, l.g), rfl, ⟨rfl, fun _ _ => rfl⟩, hn, fun u hu => ⟨(0 : Nat), ⟨rfl, fun i hi => ?_⟩, trivial⟩⟩⟩
    rw [sorted_is (l := l) hu i hi])
theorem s_sortedF_ok : SpecOk Try.prog 84 s_sortedF_S := freshX Try.func84 (c := bodyOf Try.f84) (by kernel_rfl) mixed (fun args p q n g hs hp => by
  unfold s_sortedF_s at hs
  split at hs
  · cases hs; exact ⟨_, _, s_sortedF_vc _ hp.2, (.p (Ext.clo rfl (fun i hi => by
      rcases i with _ | i
      · show Ext (SV.ref _ _) (SV.ref _ _); exact (Ext.ref rfl (fun i hi => by
      rcases i with _ | i
      · show Ext (SV.sl _ _ _) (SV.sl _ _ _); exact (Ext.sl hp.1)
      exact absurd hi (by simp; try omega)))
      exact absurd hi (by simp; try omega))) (.p (Ext.clo rfl (fun i hi => by
      
      exact absurd hi (by simp; try omega))) .nil)), ⟨show SpecsL Try.prog _ from (SpecsL.cons s_collect_ok s_collect_en (SpecsL.cons p_compare_ok p_compare_en SpecsL.nil)), rfl, ⟨show ItersL Try.prog _ from ItersL.nil, (show TrsL Try.prog _ from (TrsL.cons s_sortP_tok s_sortP_en TrsL.nil))⟩⟩⟩
  · cases hs)
theorem s_sortedF_en : Enters Try.prog 84 := fun args w => by kernel_rfl
def p_chain_p (l : (L.Sq L.Pt)) : Prop := 1 ≤ l.n ∧ l.n ≤ 1000000 ∧ ∀ i, i < l.n → L.bd (l.g i)
def p_chain_q (l : (L.Sq L.Pt)) : Nat → Prop := fun _ => True
def p_chain_n (l : (L.Sq L.Pt)) : Nat → Nat := fun _ => (L.chain l).n
def p_chain_g (l : (L.Sq L.Pt)) : Nat → Nat → List SV := fun _ k => [.int .i64 (((L.chain l).g k).x), .int .i64 (((L.chain l).g k).y)]
def p_chain_s : List EV → Option (Prop × (Nat → Prop) × (Nat → Nat) × (Nat → Nat → List SV))
  | [.p (.sl 2 l_n l_g)] => some ((∀ i, i < l_n → l_g i = [.int .i64 ((ofPt (l_g i)).x), .int .i64 ((ofPt (l_g i)).y)]) ∧ p_chain_p (⟨l_n, fun i => ofPt (l_g i)⟩ : (L.Sq L.Pt)), p_chain_q (⟨l_n, fun i => ofPt (l_g i)⟩ : (L.Sq L.Pt)), p_chain_n (⟨l_n, fun i => ofPt (l_g i)⟩ : (L.Sq L.Pt)), p_chain_g (⟨l_n, fun i => ofPt (l_g i)⟩ : (L.Sq L.Pt)))
  | _ => none
abbrev p_chain_S : SE.Spec := (specF Nat 0 23 2 p_chain_s)
def p_chain_C : Cfg := { muts := [5], frz := lookN [], specs := lookS [(34, p_cross_S)], loops := fun _ => none, iters := lookI [], rfs := lookR [], nils := lookM [(2, [(3, 32, 23, 2)])], cuts := [36, 46] }
theorem p_chain_vc (l : (L.Sq L.Pt)) (hp : p_chain_p l) : vc Try.prog ({ p_chain_C with loops := lookL [(3, { T := Nat, keep := [3, 6, 7], keepO := [], chg := fun i => [(8, .p (.int .i64 (i : Int)))], own := fun i => [(32, .row 23 2 (L.len (L.chainTo l i)) (fun k => [.int .i64 ((L.fromTop (L.chainTo l i) k).x), .int .i64 ((L.fromTop (L.chainTo l i) k).y)]))], inv := fun i => i ≤ l.n, mu := fun i => l.n - i }), (5, { T := Nat × List L.Pt, keep := [3, 5, 6, 7, 8], keepO := [5], tie := fun g => [(8, .int .i64 (g.1 : Int))], chg := fun g => [], own := fun g => [(32, .row 23 2 (L.len g.2) (fun k => [.int .i64 ((L.fromTop g.2 k).x), .int .i64 ((L.fromTop g.2 k).y)]))], inv := fun g => g.1 < l.n ∧ L.popPt (l.g g.1) g.2 = L.popPt (l.g g.1) (L.chainTo l g.1) ∧ (∀ q, L.lmem q g.2 → L.lmem q (L.chainTo l g.1)) ∧ L.len g.2 ≤ g.1, mu := fun g => L.len g.2 })], rfs := lookR [] }) (bodyOf Try.f86) (st0 Try.f86 [.p (.sl 2 l.n (fun i => [.int .i64 ((l.g i).x), .int .i64 ((l.g i).y)]))]) (retFresh Try.prog Try.f86 (Nat) (p_chain_q l) 23 2 (p_chain_n l) (p_chain_g l)) :=
  @Eq.mpr _ ((∃ (g : Nat), (0 : Int) = (↑g : Int) ∧ (nat_lit 0 = L.len (L.chainTo l g) ∧ ∀ (i : Nat), i < nat_lit 0 → [] = [Go.SE.SV.int Go.IntKind.i64 (L.fromTop (L.chainTo l g) i).x, Go.SE.SV.int Go.IntKind.i64 (L.fromTop (L.chainTo l g) i).y]) ∧ g ≤ l.n) ∧ ∀ (g : Nat), g ≤ l.n → (Decidable.decide ((↑g : Int) < (↑l.n : Int)) = Bool.true → ((0 : Int) ≤ (↑g : Int) ∧ (↑g : Int) < (↑l.n : Int)) ∧ (∃ (g_1 : Nat ×
 List L.Pt), (L.len (L.chainTo l g) = L.len g_1.2 ∧ ∀ (i : Nat), i < L.len (L.chainTo l g) → [Go.SE.SV.int Go.IntKind.i64 (L.fromTop (L.chainTo l g) i).x, Go.SE.SV.int Go.IntKind.i64 (L.fromTop (L.chainTo l g) i).y] = [Go.SE.SV.int Go.IntKind.i64 (L.fromTop g_1.2 i).x, Go.SE.SV.int Go.IntKind.i64 (L.fromTop g_1.2 i).y]) ∧ (↑g : Int) = (↑g_1.1 : Int) ∧ g_1.1 < l.n ∧ L.popPt (l.g g_1.1) g_1.2 =
 L.popPt (l.g g_1.1) (L.chainTo l g_1.1) ∧ (∀ (q : L.Pt), L.lmem q g_1.2 → L.lmem q (L.chainTo l g_1.1)) ∧ L.len g_1.2 ≤ g_1.1) ∧ ∀ (g_1 : Nat × List L.Pt), (↑g : Int) = (↑g_1.1 : Int) ∧ g_1.1 < l.n ∧ L.popPt (l.g g_1.1) g_1.2 = L.popPt (l.g g_1.1) (L.chainTo l g_1.1) ∧ (∀ (q : L.Pt), L.lmem q g_1.2 → L.lmem q (L.chainTo l g_1.1)) ∧ L.len g_1.2 ≤ g_1.1 → (Decidable.decide ((1 : Int) < (↑(L.len
 g_1.2) : Int)) = Bool.true → Go.SE.InK Go.IntKind.i64 ((↑(L.len g_1.2) : Int) - (2 : Int))) ∧ (Decidable.decide ((1 : Int) < (↑(L.len g_1.2) : Int)) = Bool.true → (0 : Int) ≤ (↑(L.len g_1.2) : Int) - (2 : Int) ∧ (↑(L.len g_1.2) : Int) - (2 : Int) < (↑(L.len g_1.2) : Int)) ∧ (Decidable.decide ((1 : Int) < (↑(L.len g_1.2) : Int)) = Bool.true → Int.toNat ((↑(L.len g_1.2) : Int) - (2 : Int)) < L.len
 g_1.2) ∧ (Decidable.decide ((1 : Int) < (↑(L.len g_1.2) : Int)) = Bool.true → Go.SE.InK Go.IntKind.i64 ((↑(L.len g_1.2) : Int) - (1 : Int))) ∧ (Decidable.decide ((1 : Int) < (↑(L.len g_1.2) : Int)) = Bool.true → (0 : Int) ≤ (↑(L.len g_1.2) : Int) - (1 : Int) ∧ (↑(L.len g_1.2) : Int) - (1 : Int) < (↑(L.len g_1.2) : Int)) ∧ (Decidable.decide ((1 : Int) < (↑(L.len g_1.2) : Int)) = Bool.true →
 Int.toNat ((↑(L.len g_1.2) : Int) - (1 : Int)) < L.len g_1.2) ∧ (Decidable.decide ((1 : Int) < (↑(L.len g_1.2) : Int)) = Bool.true → L.bd (L.fromTop g_1.2 (Int.toNat ((↑(L.len g_1.2) : Int) - (2 : Int)))) ∧ L.bd (L.fromTop g_1.2 (Int.toNat ((↑(L.len g_1.2) : Int) - (1 : Int)))) ∧ L.bd (l.g (Int.toNat (↑g : Int)))) ∧ ((bif Decidable.decide ((1 : Int) < (↑(L.len g_1.2) : Int)) then Decidable.decide
 (L.cross (L.fromTop g_1.2 (Int.toNat ((↑(L.len g_1.2) : Int) - (2 : Int)))) (L.fromTop g_1.2 (Int.toNat ((↑(L.len g_1.2) : Int) - (1 : Int)))) (l.g (Int.toNat (↑g : Int))) ≤ (0 : Int)) else Bool.false) = Bool.true → Go.SE.InK Go.IntKind.i64 ((↑(L.len g_1.2) : Int) - (1 : Int)) ∧ ((0 : Int) ≤ (↑(L.len g_1.2) : Int) - (1 : Int) ∧ (↑(L.len g_1.2) : Int) - (1 : Int) ≤ (↑(L.len g_1.2) : Int)) ∧ ∃ (g' :
 Nat × List L.Pt), nat_lit 0 = nat_lit 0 ∧ (↑g : Int) = (↑g : Int) ∧ (↑l.n : Int) = (↑l.n : Int) ∧ (l.n = l.n ∧ ∀ (i : Nat), i < l.n → [Go.SE.SV.int Go.IntKind.i64 (l.g i).x, Go.SE.SV.int Go.IntKind.i64 (l.g i).y] = [Go.SE.SV.int Go.IntKind.i64 (l.g i).x, Go.SE.SV.int Go.IntKind.i64 (l.g i).y]) ∧ (Int.toNat ((↑(L.len g_1.2) : Int) - (1 : Int)) = L.len g'.2 ∧ ∀ (i : Nat), i < Int.toNat ((↑(L.len
 g_1.2) : Int) - (1 : Int)) → [Go.SE.SV.int Go.IntKind.i64 (L.fromTop g_1.2 i).x, Go.SE.SV.int Go.IntKind.i64 (L.fromTop g_1.2 i).y] = [Go.SE.SV.int Go.IntKind.i64 (L.fromTop g'.2 i).x, Go.SE.SV.int Go.IntKind.i64 (L.fromTop g'.2 i).y]) ∧ (l.g (Int.toNat (↑g : Int))).x = (l.g (Int.toNat (↑g : Int))).x ∧ (l.g (Int.toNat (↑g : Int))).y = (l.g (Int.toNat (↑g : Int))).y ∧ ((↑g : Int) = (↑g'.1 : Int) ∧
 g'.1 < l.n ∧ L.popPt (l.g g'.1) g'.2 = L.popPt (l.g g'.1) (L.chainTo l g'.1) ∧ (∀ (q : L.Pt), L.lmem q g'.2 → L.lmem q (L.chainTo l g'.1)) ∧ L.len g'.2 ≤ g'.1) ∧ L.len g'.2 < L.len g_1.2) ∧ ((bif Decidable.decide ((1 : Int) < (↑(L.len g_1.2) : Int)) then Decidable.decide (L.cross (L.fromTop g_1.2 (Int.toNat ((↑(L.len g_1.2) : Int) - (2 : Int)))) (L.fromTop g_1.2 (Int.toNat ((↑(L.len g_1.2) : Int)
 - (1 : Int)))) (l.g (Int.toNat (↑g : Int))) ≤ (0 : Int)) else Bool.false) = Bool.false → (L.len g_1.2 + nat_lit 1) * nat_lit 16 ≤ (140737488355328 : Nat) ∧ Go.SE.InK Go.IntKind.i64 ((↑g : Int) + (1 : Int)) ∧ ∃ (g' : Nat), (↑g : Int) + (1 : Int) = (↑g' : Int) ∧ (↑l.n : Int) = (↑l.n : Int) ∧ (l.n = l.n ∧ ∀ (i : Nat), i < l.n → [Go.SE.SV.int Go.IntKind.i64 (l.g i).x, Go.SE.SV.int Go.IntKind.i64 (l.g
 i).y] = [Go.SE.SV.int Go.IntKind.i64 (l.g i).x, Go.SE.SV.int Go.IntKind.i64 (l.g i).y]) ∧ (L.len g_1.2 + nat_lit 1 = L.len (L.chainTo l g') ∧ ∀ (i : Nat), i < L.len g_1.2 + nat_lit 1 → Go.SE.appGet (L.len g_1.2) (fun (k : Nat) ↦ [Go.SE.SV.int Go.IntKind.i64 (L.fromTop g_1.2 k).x, Go.SE.SV.int Go.IntKind.i64 (L.fromTop g_1.2 k).y]) (fun (x : Nat) ↦ [Go.SE.SV.int Go.IntKind.i64 (l.g (Int.toNat (↑g :
 Int))).x, Go.SE.SV.int Go.IntKind.i64 (l.g (Int.toNat (↑g : Int))).y]) i = [Go.SE.SV.int Go.IntKind.i64 (L.fromTop (L.chainTo l g') i).x, Go.SE.SV.int Go.IntKind.i64 (L.fromTop (L.chainTo l g') i).y]) ∧ g' ≤ l.n ∧ l.n - g' < l.n - g)) ∧ (Decidable.decide ((↑g : Int) < (↑l.n : Int)) = Bool.false → Go.SE.InK Go.IntKind.i64 ((↑(L.len (L.chainTo l g)) : Int) - (1 : Int)) ∧ ((0 : Int) ≤ (↑(L.len
 (L.chainTo l g)) : Int) - (1 : Int) ∧ (↑(L.len (L.chainTo l g)) : Int) - (1 : Int) ≤ (↑(L.len (L.chainTo l g)) : Int)) ∧ ∃ (t : Nat), (Int.toNat ((↑(L.len (L.chainTo l g)) : Int) - (1 : Int)) = (L.chain l).n ∧ ∀ (i : Nat), i < Int.toNat ((↑(L.len (L.chainTo l g)) : Int) - (1 : Int)) → [Go.SE.SV.int Go.IntKind.i64 (L.fromTop (L.chainTo l g) i).x, Go.SE.SV.int Go.IntKind.i64 (L.fromTop (L.chainTo l
 g) i).y] = [Go.SE.SV.int Go.IntKind.i64 ((L.chain l).g i).x, Go.SE.SV.int Go.IntKind.i64 ((L.chain l).g i).y]) ∧ True)) (by kernel_rfl) (by
    obtain ⟨h1, hn, hb⟩ := hp
    have len0 : ∀ k, L.len (L.chainTo l k) ≤ k := chainTo_len l
    have bdc : ∀ k, k ≤ l.n → ∀ q, L.lmem q (L.chainTo l k) → L.bd q := fun k hk q hq => by
      obtain ⟨i, hi, rfl⟩ := chainTo_mem hq
      exact hb i (by omega)
    refine ⟨⟨(0 : Nat), rfl, ⟨rfl, fun i hi => absurd hi (Nat.not_lt_zero _)⟩, Nat.zero_le _⟩, fun g hg => ⟨fun hlt => ?_, fun hge => ?_⟩⟩
    · have hb' : (g : Int) < (l.n : Int) := of_decide_eq_true hlt
      have e0 : ((g : Int)).toNat = g := by omega
      refine ⟨⟨by omega, hb'⟩, ⟨(g, L.chainTo l g), ⟨rfl, fun _ _ => rfl⟩, rfl, by omega, rfl, fun _ h => h, len0 g⟩, fun g1 hg1 => ?_⟩
      obtain ⟨g0, st⟩ := g1
      obtain ⟨e1, q1, q2, q3, q4⟩ := hg1
      have e1 : (g : Int) = (g0 : Int) := e1
      obtain rfl : g = g0 := by omega
      have q2 : L.popPt (l.g g) st = L.popPt (l.g g) (L.chainTo l g) := q2
      have q3 : ∀ q, L.lmem q st → L.lmem q (L.chainTo l g) := q3
      have q4 : L.len st ≤ g := q4
      have mb : ∀ k, k < L.len st → L.bd (L.fromTop st k) := fun k hk => bdc g hg _ (q3 _ (fromTop_mem hk))
      rw [e0]
      dsimp only
      refine ⟨fun h => ?_, fun h => ?_, fun h => ?_, fun h => ?_, fun h => ?_, fun h => ?_, fun h => ?_, fun hc => ?_, fun hc => ?_⟩
      any_goals (try have h : (1 : Int) < (L.len st : Int) := of_decide_eq_true h)
      · exact InK.of (by omega) (by omega)
      · omega
      · omega
      · exact InK.of (by omega) (by omega)
      · omega
      · omega
      · exact ⟨mb _ (by omega), mb _ (by omega), hb g (by omega)⟩
      · cases hd : decide ((1 : Int) < (L.len st : Int)) with
        | false => rw [hd] at hc; cases hc
        | true =>
          have h : (1 : Int) < (L.len st : Int) := of_decide_eq_true hd
          rw [hd] at hc
          have hc := of_decide_eq_true hc
          match st, h with
          | b :: a :: r, h =>
            have f1 : (((L.len (b :: a :: r) : Nat) : Int) - 2).toNat = r.length := by show (((r.length + 1 + 1 : Nat) : Int) - 2).toNat = r.length; omega
            have f2 : (((L.len (b :: a :: r) : Nat) : Int) - 1).toNat = r.length + 1 := by show (((r.length + 1 + 1 : Nat) : Int) - 1).toNat = r.length + 1; omega
            have g1 : L.fromTop (b :: a :: r) (r.length + 1) = b := fromTop_head
            have g2 : L.fromTop (b :: a :: r) r.length = a := (fromTop_tail (by simp)).trans fromTop_head
            rw [f1, f2, g1, g2] at hc
            refine ⟨InK.of (by omega) (by omega), ⟨by omega, by omega⟩, (g, a :: r), rfl, rfl, rfl, ⟨rfl, fun _ _ => rfl⟩, ⟨f2, fun i hi => ?_⟩, rfl, rfl, ⟨rfl, q1, ?_, fun q hq => q3 q (List.mem_cons_of_mem _ hq), ?_⟩, ?_⟩
            · rw [f2] at hi
              have : L.fromTop (b :: a :: r) i = L.fromTop (a :: r) i := fromTop_tail (by simpa using hi)
              rw [this]
            · rw [← q2]
              show L.popPt (l.g g) (a :: r) = bif decide (L.cross a b (l.g g) ≤ 0) then L.popPt (l.g g) (a :: r) else b :: a :: r
              rw [decide_eq_true hc]; rfl
            · have : r.length + 1 + 1 ≤ g := q4
              show r.length + 1 ≤ g
              omega
            · show r.length + 1 < r.length + 1 + 1
              omega
          | [], h => exact absurd h (by show ¬ (1 : Int) < ((0 : Nat) : Int); omega)
          | [a], h => exact absurd h (by show ¬ (1 : Int) < ((1 : Nat) : Int); omega)
      · have hp' : L.popPt (l.g g) st = st := by
          match st, hc with
          | [], _ => rfl
          | [a], _ => rfl
          | b :: a :: r, hc =>
            have f1 : (((L.len (b :: a :: r) : Nat) : Int) - 2).toNat = r.length := by show (((r.length + 1 + 1 : Nat) : Int) - 2).toNat = r.length; omega
            have f2 : (((L.len (b :: a :: r) : Nat) : Int) - 1).toNat = r.length + 1 := by show (((r.length + 1 + 1 : Nat) : Int) - 1).toNat = r.length + 1; omega
            have g1 : L.fromTop (b :: a :: r) (r.length + 1) = b := fromTop_head
            have g2 : L.fromTop (b :: a :: r) r.length = a := (fromTop_tail (by simp)).trans fromTop_head
            have hl : (1 : Int) < ((L.len (b :: a :: r) : Nat) : Int) := by show (1 : Int) < ((r.length + 1 + 1 : Nat) : Int); omega
            rw [decide_eq_true hl, f1, f2, g1, g2] at hc
            have hc : decide (L.cross a b (l.g g) ≤ 0) = false := hc
            show (bif decide (L.cross a b (l.g g) ≤ 0) then L.popPt (l.g g) (a :: r) else b :: a :: r) = b :: a :: r
            rw [hc]; rfl
        have e2 : L.chainTo l (g + 1) = l.g g :: st := by
          show l.g g :: L.popPt (l.g g) (L.chainTo l g) = l.g g :: st
          rw [← q2, hp']
        refine ⟨show (L.len st + 1) * 16 ≤ 140737488355328 by omega, InK.of (by omega) (by omega), g + 1, by omega, rfl, ⟨rfl, fun _ _ => rfl⟩, ?_, by omega, by omega⟩
        rw [e2]
        refine ⟨rfl, fun i hi => ?_⟩
        have hi : i < L.len st + 1 := hi
        unfold appGet
        by_cases h' : i < L.len st
        · rw [if_pos h']
          have : L.fromTop (l.g g :: st) i = L.fromTop st i := fromTop_tail h'
          rw [this]
        · rw [if_neg h']
          obtain rfl : i = L.len st := by omega
          have : L.fromTop (l.g g :: st) (L.len st) = l.g g := fromTop_head
          rw [this]
    · have hb' : ¬ (g : Int) < (l.n : Int) := of_decide_eq_false hge
      obtain rfl : g = l.n := by omega
      have l1 : 1 ≤ L.len (L.chainTo l l.n) := by
        match hh : l.n, h1 with
        | m + 1, _ => exact Nat.succ_le_succ (Nat.zero_le _)
      have l2 := len0 l.n
      have e2 : (((L.len (L.chainTo l l.n) : Nat) : Int) - 1).toNat = (L.chain l).n := by
        show (((L.len (L.chainTo l l.n) : Nat) : Int) - 1).toNat = L.len (L.chainTo l l.n) - 1
        omega
      exact ⟨InK.of (by omega) (by omega), ⟨by omega, by omega⟩, (0 : Nat), ⟨e2, fun _ _ => rfl⟩, trivial⟩)
theorem p_chain_ok : SpecOk Try.prog 86 p_chain_S := freshX Try.func86 (c := bodyOf Try.f86) (by kernel_rfl) mixed (fun args p q n g hs hp => by
  unfold p_chain_s at hs
  split at hs
  · cases hs; exact ⟨_, _, p_chain_vc _ hp.2, (.p (.sl hp.1) .nil), ⟨show SpecsL Try.prog _ from (SpecsL.cons p_cross_ok p_cross_en SpecsL.nil), rfl, ⟨show ItersL Try.prog _ from ItersL.nil, (TrsOk.none (fun _ => rfl))⟩⟩⟩
  · cases hs)
theorem p_chain_en : Enters Try.prog 86 := fun args w => by kernel_rfl
def p_hull_p (l : (L.Sq L.Pt)) : Prop := 2 ≤ l.n ∧ l.n ≤ 1000 ∧ ∀ i, i < l.n → L.bd (l.g i)
def p_hull_q (l : (L.Sq L.Pt)) : Nat → Prop := fun _ => True
def p_hull_n (l : (L.Sq L.Pt)) : Nat → Nat := fun _ => (L.hull l).n
def p_hull_g (l : (L.Sq L.Pt)) : Nat → Nat → List SV := fun _ k => [.int .i64 (((L.hull l).g k).x), .int .i64 (((L.hull l).g k).y)]
def p_hull_s : List EV → Option (Prop × (Nat → Prop) × (Nat → Nat) × (Nat → Nat → List SV))
  | [.p (.sl 2 l_n l_g)] => some ((∀ i, i < l_n → l_g i = [.int .i64 ((ofPt (l_g i)).x), .int .i64 ((ofPt (l_g i)).y)]) ∧ p_hull_p (⟨l_n, fun i => ofPt (l_g i)⟩ : (L.Sq L.Pt)), p_hull_q (⟨l_n, fun i => ofPt (l_g i)⟩ : (L.Sq L.Pt)), p_hull_n (⟨l_n, fun i => ofPt (l_g i)⟩ : (L.Sq L.Pt)), p_hull_g (⟨l_n, fun i => ofPt (l_g i)⟩ : (L.Sq L.Pt)))
  | _ => none
abbrev p_hull_S : SE.Spec := (specF Nat 0 23 2 p_hull_s)
def p_hull_C : Cfg := { muts := [7, 18], frz := lookN [], specs := lookS [(85, s_values_S), (84, s_sortedF_S), (86, p_chain_S), (88, s_concat_S)], loops := lookL [], iters := lookI [], rfs := lookR [], nils := lookM [], trs := lookT [(87, s_revP_tr)], ren := fun k => k - 998, raws := [84] }
theorem p_hull_vc (l : (L.Sq L.Pt)) (hp : p_hull_p l) : vc Try.prog (p_hull_C) (bodyOf Try.f58) (st0 Try.f58 [.p (.sl 2 l.n (fun i => [.int .i64 ((l.g i).x), .int .i64 ((l.g i).y)]))]) (retFresh Try.prog Try.f58 (Nat) (p_hull_q l) 23 2 (p_hull_n l) (p_hull_g l)) :=
  @Eq.mpr _ (((∀ (i : Nat), i < l.n → [Go.SE.SV.int Go.IntKind.i64 (l.g i).x, Go.SE.SV.int Go.IntKind.i64 (l.g i).y] = [Go.SE.SV.int Go.IntKind.i64 (l.g i).x, Go.SE.SV.int Go.IntKind.i64 (l.g i).y]) ∧ l.n ≤ (1000000 : Nat)) ∧ ((∀ (i : Nat), i < l.n → [Go.SE.SV.int Go.IntKind.i64 (l.g i).x, Go.SE.SV.int Go.IntKind.i64 (l.g i).y] = [Go.SE.SV.int Go.IntKind.i64 (l.g i).x, Go.SE.SV.int Go.IntKind.i64 (l.g i).y]) ∧
 l.n ≤ (1000000 : Nat)) ∧ ∀ (t : Nat), True → ((∀ (i : Nat), i < l.n → [Go.SE.SV.int Go.IntKind.i64 ((L.sorted (L.Sq.mk l.n fun (i : Nat) ↦ l.g i)).g i).x, Go.SE.SV.int Go.IntKind.i64 ((L.sorted (L.Sq.mk l.n fun (i : Nat) ↦ l.g i)).g i).y] = [Go.SE.SV.int Go.IntKind.i64 ((L.sorted (L.Sq.mk l.n fun (i : Nat) ↦ l.g i)).g i).x, Go.SE.SV.int Go.IntKind.i64 ((L.sorted (L.Sq.mk l.n fun (i : Nat) ↦ l.g
 i)).g i).y]) ∧ (1 : Nat) ≤ l.n ∧ l.n ≤ (1000000 : Nat) ∧ ∀ (i : Nat), i < l.n → L.bd ((L.sorted (L.Sq.mk l.n fun (i : Nat) ↦ l.g i)).g i)) ∧ ∀ (t : Nat), True → (∀ (i : Nat), i < (L.chain (L.Sq.mk l.n fun (i : Nat) ↦ (L.sorted (L.Sq.mk l.n fun (i : Nat) ↦ l.g i)).g i)).n → (Bool.true && (Bool.true && Bool.true)) = Bool.true) ∧ ∃ (t : L.Sq L.Pt), (l.n = t.n ∧ ∀ (i : Nat), i < l.n → [Go.SE.SV.int
 Go.IntKind.i64 ((L.sorted (L.Sq.mk l.n fun (i : Nat) ↦ l.g i)).g i).x, Go.SE.SV.int Go.IntKind.i64 ((L.sorted (L.Sq.mk l.n fun (i : Nat) ↦ l.g i)).g i).y] = [Go.SE.SV.int Go.IntKind.i64 (t.g i).x, Go.SE.SV.int Go.IntKind.i64 (t.g i).y]) ∧ t.n ≤ (1000000 : Nat) ∧ ∀ (u : Nat), True → ((∀ (i : Nat), i < t.n → [Go.SE.SV.int Go.IntKind.i64 (t.g (t.n - (1 : Nat) - i)).x, Go.SE.SV.int Go.IntKind.i64 (t.g
 (t.n - (1 : Nat) - i)).y] = [Go.SE.SV.int Go.IntKind.i64 (t.g (t.n - (1 : Nat) - i)).x, Go.SE.SV.int Go.IntKind.i64 (t.g (t.n - (1 : Nat) - i)).y]) ∧ (1 : Nat) ≤ t.n ∧ t.n ≤ (1000000 : Nat) ∧ ∀ (i : Nat), i < t.n → L.bd (t.g (t.n - (1 : Nat) - i))) ∧ ∀ (t_1 : Nat), True → (∀ (i : Nat), i < (L.chain (L.Sq.mk t.n fun (i : Nat) ↦ t.g (t.n - (1 : Nat) - i))).n → (Bool.true && (Bool.true && Bool.true))
 = Bool.true) ∧ (((∀ (i : Nat), i < (L.chain (L.Sq.mk l.n fun (i : Nat) ↦ (L.sorted (L.Sq.mk l.n fun (i : Nat) ↦ l.g i)).g i)).n → [Go.SE.SV.int Go.IntKind.i64 ((L.chain (L.Sq.mk l.n fun (i : Nat) ↦ (L.sorted (L.Sq.mk l.n fun (i : Nat) ↦ l.g i)).g i)).g i).x, Go.SE.SV.int Go.IntKind.i64 ((L.chain (L.Sq.mk l.n fun (i : Nat) ↦ (L.sorted (L.Sq.mk l.n fun (i : Nat) ↦ l.g i)).g i)).g i).y] =
 [Go.SE.SV.int Go.IntKind.i64 ((L.chain (L.Sq.mk l.n fun (i : Nat) ↦ (L.sorted (L.Sq.mk l.n fun (i : Nat) ↦ l.g i)).g i)).g i).x, Go.SE.SV.int Go.IntKind.i64 ((L.chain (L.Sq.mk l.n fun (i : Nat) ↦ (L.sorted (L.Sq.mk l.n fun (i : Nat) ↦ l.g i)).g i)).g i).y]) ∧ ∀ (i : Nat), i < (L.chain (L.Sq.mk t.n fun (i : Nat) ↦ t.g (t.n - (1 : Nat) - i))).n → [Go.SE.SV.int Go.IntKind.i64 ((L.chain (L.Sq.mk t.n
 fun (i : Nat) ↦ t.g (t.n - (1 : Nat) - i))).g i).x, Go.SE.SV.int Go.IntKind.i64 ((L.chain (L.Sq.mk t.n fun (i : Nat) ↦ t.g (t.n - (1 : Nat) - i))).g i).y] = [Go.SE.SV.int Go.IntKind.i64 ((L.chain (L.Sq.mk t.n fun (i : Nat) ↦ t.g (t.n - (1 : Nat) - i))).g i).x, Go.SE.SV.int Go.IntKind.i64 ((L.chain (L.Sq.mk t.n fun (i : Nat) ↦ t.g (t.n - (1 : Nat) - i))).g i).y]) ∧ (1 : Nat) ≤ (L.two (L.Sq.mk
 (L.chain (L.Sq.mk l.n fun (i : Nat) ↦ (L.sorted (L.Sq.mk l.n fun (i : Nat) ↦ l.g i)).g i)).n fun (i : Nat) ↦ (L.chain (L.Sq.mk l.n fun (i : Nat) ↦ (L.sorted (L.Sq.mk l.n fun (i : Nat) ↦ l.g i)).g i)).g i) (L.Sq.mk (L.chain (L.Sq.mk t.n fun (i : Nat) ↦ t.g (t.n - (1 : Nat) - i))).n fun (i : Nat) ↦ (L.chain (L.Sq.mk t.n fun (i : Nat) ↦ t.g (t.n - (1 : Nat) - i))).g i) (0 : Nat)).n + (L.two (L.Sq.mk
 (L.chain (L.Sq.mk l.n fun (i : Nat) ↦ (L.sorted (L.Sq.mk l.n fun (i : Nat) ↦ l.g i)).g i)).n fun (i : Nat) ↦ (L.chain (L.Sq.mk l.n fun (i : Nat) ↦ (L.sorted (L.Sq.mk l.n fun (i : Nat) ↦ l.g i)).g i)).g i) (L.Sq.mk (L.chain (L.Sq.mk t.n fun (i : Nat) ↦ t.g (t.n - (1 : Nat) - i))).n fun (i : Nat) ↦ (L.chain (L.Sq.mk t.n fun (i : Nat) ↦ t.g (t.n - (1 : Nat) - i))).g i) (1 : Nat)).n ∧ (L.two (L.Sq.mk
 (L.chain (L.Sq.mk l.n fun (i : Nat) ↦ (L.sorted (L.Sq.mk l.n fun (i : Nat) ↦ l.g i)).g i)).n fun (i : Nat) ↦ (L.chain (L.Sq.mk l.n fun (i : Nat) ↦ (L.sorted (L.Sq.mk l.n fun (i : Nat) ↦ l.g i)).g i)).g i) (L.Sq.mk (L.chain (L.Sq.mk t.n fun (i : Nat) ↦ t.g (t.n - (1 : Nat) - i))).n fun (i : Nat) ↦ (L.chain (L.Sq.mk t.n fun (i : Nat) ↦ t.g (t.n - (1 : Nat) - i))).g i) (0 : Nat)).n ≤ (1000000 : Nat)
 ∧ (L.two (L.Sq.mk (L.chain (L.Sq.mk l.n fun (i : Nat) ↦ (L.sorted (L.Sq.mk l.n fun (i : Nat) ↦ l.g i)).g i)).n fun (i : Nat) ↦ (L.chain (L.Sq.mk l.n fun (i : Nat) ↦ (L.sorted (L.Sq.mk l.n fun (i : Nat) ↦ l.g i)).g i)).g i) (L.Sq.mk (L.chain (L.Sq.mk t.n fun (i : Nat) ↦ t.g (t.n - (1 : Nat) - i))).n fun (i : Nat) ↦ (L.chain (L.Sq.mk t.n fun (i : Nat) ↦ t.g (t.n - (1 : Nat) - i))).g i) (1 : Nat)).n
 ≤ (1000000 : Nat)) ∧ ∀ (t_2 : Nat), True → ∃ (t_3 : Nat), ((L.catTo (L.two (L.Sq.mk (L.chain (L.Sq.mk l.n fun (i : Nat) ↦ (L.sorted (L.Sq.mk l.n fun (i : Nat) ↦ l.g i)).g i)).n fun (i : Nat) ↦ (L.chain (L.Sq.mk l.n fun (i : Nat) ↦ (L.sorted (L.Sq.mk l.n fun (i : Nat) ↦ l.g i)).g i)).g i) (L.Sq.mk (L.chain (L.Sq.mk t.n fun (i : Nat) ↦ t.g (t.n - (1 : Nat) - i))).n fun (i : Nat) ↦ (L.chain (L.Sq.mk
 t.n fun (i : Nat) ↦ t.g (t.n - (1 : Nat) - i))).g i)) (2 : Nat)).n = (L.hull l).n ∧ ∀ (i : Nat), i < (L.catTo (L.two (L.Sq.mk (L.chain (L.Sq.mk l.n fun (i : Nat) ↦ (L.sorted (L.Sq.mk l.n fun (i : Nat) ↦ l.g i)).g i)).n fun (i : Nat) ↦ (L.chain (L.Sq.mk l.n fun (i : Nat) ↦ (L.sorted (L.Sq.mk l.n fun (i : Nat) ↦ l.g i)).g i)).g i) (L.Sq.mk (L.chain (L.Sq.mk t.n fun (i : Nat) ↦ t.g (t.n - (1 : Nat) -
 i))).n fun (i : Nat) ↦ (L.chain (L.Sq.mk t.n fun (i : Nat) ↦ t.g (t.n - (1 : Nat) - i))).g i)) (2 : Nat)).n → [Go.SE.SV.int Go.IntKind.i64 ((L.catTo (L.two (L.Sq.mk (L.chain (L.Sq.mk l.n fun (i : Nat) ↦ (L.sorted (L.Sq.mk l.n fun (i : Nat) ↦ l.g i)).g i)).n fun (i : Nat) ↦ (L.chain (L.Sq.mk l.n fun (i : Nat) ↦ (L.sorted (L.Sq.mk l.n fun (i : Nat) ↦ l.g i)).g i)).g i) (L.Sq.mk (L.chain (L.Sq.mk t.n
 fun (i : Nat) ↦ t.g (t.n - (1 : Nat) - i))).n fun (i : Nat) ↦ (L.chain (L.Sq.mk t.n fun (i : Nat) ↦ t.g (t.n - (1 : Nat) - i))).g i)) (2 : Nat)).g i).x, Go.SE.SV.int Go.IntKind.i64 ((L.catTo (L.two (L.Sq.mk (L.chain (L.Sq.mk l.n fun (i : Nat) ↦ (L.sorted (L.Sq.mk l.n fun (i : Nat) ↦ l.g i)).g i)).n fun (i : Nat) ↦ (L.chain (L.Sq.mk l.n fun (i : Nat) ↦ (L.sorted (L.Sq.mk l.n fun (i : Nat) ↦ l.g
 i)).g i)).g i) (L.Sq.mk (L.chain (L.Sq.mk t.n fun (i : Nat) ↦ t.g (t.n - (1 : Nat) - i))).n fun (i : Nat) ↦ (L.chain (L.Sq.mk t.n fun (i : Nat) ↦ t.g (t.n - (1 : Nat) - i))).g i)) (2 : Nat)).g i).y] = [Go.SE.SV.int Go.IntKind.i64 ((L.hull l).g i).x, Go.SE.SV.int Go.IntKind.i64 ((L.hull l).g i).y]) ∧ True) (by kernel_rfl) (by
    obtain ⟨h1, hn, hb⟩ := hp
    have sb : ∀ i, i < l.n → L.bd ((L.sorted l).g i) := fun i hi => by
      obtain ⟨j, hj, e⟩ := sorted_mem l hi
      rw [e]; exact hb j hj
    have cl : ∀ m : L.Sq L.Pt, (L.chain m).n ≤ m.n := fun m => by
      have := chainTo_len m m.n
      show (L.chainTo m m.n).length - 1 ≤ m.n
      omega
    have c1 : (L.chain (L.sorted l)).n ≤ l.n := cl (L.sorted l)
    have c2 : (L.chain (L.revd (L.sorted l))).n ≤ l.n := cl (L.revd (L.sorted l))
    have c3 : 1 ≤ (L.chain (L.sorted l)).n := chain_pos (l := L.sorted l) h1
    refine ⟨⟨fun _ _ => rfl, by omega⟩, ⟨fun _ _ => rfl, by omega⟩, fun t _ => ⟨⟨fun _ _ => rfl, by omega, by omega, sb⟩, fun t _ => ⟨fun _ _ => rfl, L.sorted l, ⟨rfl, fun _ _ => rfl⟩, show l.n ≤ 1000000 by omega, fun u _ => ⟨⟨fun _ _ => rfl, show 1 ≤ l.n by omega, show l.n ≤ 1000000 by omega, fun i hi => sb _ ?_⟩, fun t1 _ => ⟨fun _ _ => rfl, ⟨⟨fun _ _ => rfl, fun _ _ => rfl⟩, ?_, ?_, ?_⟩, fun t2 _ => ⟨(0 : Nat), ⟨rfl, fun _ _ => rfl⟩, trivial⟩⟩⟩⟩⟩⟩
    · have hi : i < l.n := hi
      show l.n - 1 - i < l.n
      omega
    · show 1 ≤ (L.chain (L.sorted l)).n + (L.chain (L.revd (L.sorted l))).n
      omega
    · show (L.chain (L.sorted l)).n ≤ 1000000
      omega
    · show (L.chain (L.revd (L.sorted l))).n ≤ 1000000
      omega)
theorem p_hull_ok : SpecOk Try.prog 58 p_hull_S := freshX Try.func58 (c := bodyOf Try.f58) (by kernel_rfl) mixed (fun args p q n g hs hp => by
  unfold p_hull_s at hs
  split at hs
  · cases hs; exact ⟨_, _, p_hull_vc _ hp.2, (.p (.sl hp.1) .nil), ⟨show SpecsL Try.prog _ from (SpecsL.cons s_values_ok s_values_en (SpecsL.cons s_sortedF_ok s_sortedF_en (SpecsL.cons p_chain_ok p_chain_en (SpecsL.cons s_concat_ok s_concat_en SpecsL.nil)))), rfl, ⟨show ItersL Try.prog _ from ItersL.nil, (show TrsL Try.prog _ from (TrsL.cons s_revP_tok s_revP_en TrsL.nil))⟩⟩⟩
  · cases hs)
theorem p_hull_en : Enters Try.prog 58 := fun args w => by kernel_rfl
end Go.Proofs.Ytkklpamllfkbaaa

namespace Go.Proofs.Ytkklpamllfkbaaa
open Go.SE Go.RowKit
set_option maxRecDepth 100000
set_option maxHeartbeats 4000000
set_option linter.unusedVariables false
attribute [local irreducible] Go.SE.vc

structure L.Pocket where
  fr : Int
  to_ : Int
  area : Int
def ofPocket : List SV → L.Pocket
  | [.int _ a, .int _ b, .int _ c] => ⟨a, b, c⟩
  | _ => ⟨0, 0, 0⟩
instance : Inhabited L.Pocket := ⟨⟨0, 0, 0⟩⟩
def encPk (p : L.Pocket) : List Int := [p.fr, p.to_, p.area]
def L.cmpFr (a b : L.Pocket) : Int := L.cmp a.fr b.fr
theorem swoPk : Go.Sort.SWO (Go.Proofs.ltOf L.cmpFr) := by
  have k : ∀ x y, Go.Proofs.ltOf L.cmpFr x y = true ↔ x.fr < y.fr := fun x y => by
    unfold Go.Proofs.ltOf L.cmpFr L.cmp; rw [decide_eq_true_iff]
    by_cases h1 : x.fr < y.fr
    · simp [h1]
    · by_cases h2 : y.fr < x.fr <;> simp [h1, h2]
  have kf : ∀ x y, Go.Proofs.ltOf L.cmpFr x y = false ↔ ¬ x.fr < y.fr := fun x y => by
    rw [← k, Bool.not_eq_true]
  refine ⟨fun x => ?_, fun x y z => ?_, fun x y z => ?_⟩
  · rw [kf]; omega
  · simp only [k]; omega
  · simp only [kf]; omega
def L.pkFrom (l h : L.Sq L.Pt) (k : Nat) : Int := L.ptIdx l (h.g k)
def L.pkTo (l h : L.Sq L.Pt) (k : Nat) : Int := L.ptIdx l (h.g (L.next h.n k))
def L.isPk (l h : L.Sq L.Pt) (k : Nat) : Bool := !decide (L.pkTo l h k = Int.tmod (L.pkFrom l h k + 1) (l.n : Int))
def L.back (n : Nat) (to_ : Int) (j : Nat) : Int := Int.tmod (to_ + (n : Int) - (j : Int)) (n : Int)
def L.pkLen (n : Nat) (fr to_ : Int) : Nat := (Int.tmod (to_ + (n : Int) - fr) (n : Int)).toNat
def L.pkRow (l : L.Sq L.Pt) (fr to_ : Int) : L.Sq L.Pt := ⟨L.pkLen l.n fr to_ + 1, fun j => l.g (L.back l.n to_ j).toNat⟩
def L.pk (l h : L.Sq L.Pt) (k : Nat) : L.Pocket := ⟨L.pkFrom l h k, L.pkTo l h k, L.areaTo (L.pkRow l (L.pkFrom l h k) (L.pkTo l h k)) (L.pkRow l (L.pkFrom l h k) (L.pkTo l h k)).n⟩
def L.pks (l : L.Sq L.Pt) : L.Sq L.Pocket := ⟨L.cnt (L.isPk l (L.hull l)) (L.hull l).n, fun i => L.pk l (L.hull l) (L.selN (L.isPk l (L.hull l)) (L.hull l).n i)⟩
def L.pkN (l : L.Sq L.Pt) : Nat := bif L.validOutline l then (L.pks l).n else 0
def sortPk_ren : Go.Shelf.Ren := ⟨fun | 6 => 60 | 15 => 90 | 14 => 89 | 28 => 106 | 29 => 107 | 20 => 98 | 21 => 99 | 22 => 100 | 23 => 101 | 24 => 102 | 25 => 103 | 26 => 104 | 27 => 105 | 46 => 110 | 47 => 111 | 48 => 112 | 49 => 113 | 50 => 114 | 57 => 123 | n => n, fun | 22 => 54 | 24 => 58 | 25 => 83 | 3 => 3 | 39 => 102 | 0 => 0 | 53 => 118 | 55 => 120 | 4 => 4 | 46 => 111 | 45 => 110 | 50 => 115 | 5 => 5 | 9 => 9 | 66 => 123 | 70 => 127 | 76 => 134 | 77 => 135 | n => n, fun | n => n⟩
theorem sortPk_lay : Go.Proofs.SlLaysF0.n6 Try.prog sortPk_ren := {
  mixed := by kernel_rfl
  f6 := ⟨Try.f60.name, by decide, Try.func60.trans (congrArg some (by kernel_rfl))⟩
  f14 := ⟨Try.f89.name, by decide, Try.func89.trans (congrArg some (by kernel_rfl))⟩
  f15 := Try.func90.trans (congrArg some (by kernel_rfl))
  f20 := ⟨Try.f98.name, by decide, Try.func98.trans (congrArg some (by kernel_rfl))⟩
  f21 := ⟨Try.f99.name, by decide, Try.func99.trans (congrArg some (by kernel_rfl))⟩
  f22 := ⟨Try.f100.name, by decide, Try.func100.trans (congrArg some (by kernel_rfl))⟩
  f23 := ⟨Try.f101.name, by decide, Try.func101.trans (congrArg some (by kernel_rfl))⟩
  f24 := ⟨Try.f102.name, by decide, Try.func102.trans (congrArg some (by kernel_rfl))⟩
  f25 := ⟨Try.f103.name, by decide, Try.func103.trans (congrArg some (by kernel_rfl))⟩
  f26 := ⟨Try.f104.name, by decide, Try.func104.trans (congrArg some (by kernel_rfl))⟩
  f27 := ⟨Try.f105.name, by decide, Try.func105.trans (congrArg some (by kernel_rfl))⟩
  f28 := Try.func106.trans (congrArg some (by kernel_rfl))
  f29 := Try.func107.trans (congrArg some (by kernel_rfl))
  f46 := ⟨Try.f110.name, by decide, Try.func110.trans (congrArg some (by kernel_rfl))⟩
  f47 := Try.func111.trans (congrArg some (by kernel_rfl))
  f48 := Try.func112.trans (congrArg some (by kernel_rfl))
  f49 := ⟨Try.f113.name, by decide, Try.func113.trans (congrArg some (by kernel_rfl))⟩
  f50 := ⟨Try.f114.name, by decide, Try.func114.trans (congrArg some (by kernel_rfl))⟩
  f57 := ⟨Try.f123.name, by decide, Try.func123.trans (congrArg some (by kernel_rfl))⟩
  t0 := Try.underlying0
  a0 := Try.isAgg0
  z0 := Try.sizeOf0
  v0 := Try.zeroValue0
  t3 := Try.underlying3
  a3 := Try.isAgg3
  z3 := Try.sizeOf3
  v3 := Try.zeroValue3
  t4 := Try.underlying4
  a4 := Try.isAgg4
  z4 := Try.sizeOf4
  v4 := Try.zeroValue4
  t5 := Try.underlying5
  a5 := Try.isAgg5
  z5 := Try.sizeOf5
  v5 := Try.zeroValue5
  t9 := Try.underlying9
  a9 := Try.isAgg9
  z9 := Try.sizeOf9
  v9 := Try.zeroValue9
  t22 := Try.underlying54
  a22 := Try.isAgg54
  z22 := Try.sizeOf54
  v22 := Try.zeroValue54
  t25 := Try.underlying83
  a25 := Try.isAgg83
  z25 := Try.sizeOf83
  v25 := Try.zeroValue83
  t39 := Try.underlying102
  a39 := Try.isAgg102
  z39 := Try.sizeOf102
  v39 := Try.zeroValue102
  t45 := Try.underlying110
  a45 := Try.isAgg110
  z45 := Try.sizeOf110
  v45 := Try.zeroValue110
  t46 := Try.underlying111
  a46 := Try.isAgg111
  z46 := Try.sizeOf111
  v46 := Try.zeroValue111
  t50 := Try.underlying115
  a50 := Try.isAgg115
  z50 := Try.sizeOf115
  v50 := Try.zeroValue115
  t53 := Try.underlying118
  a53 := Try.isAgg118
  z53 := Try.sizeOf118
  v53 := Try.zeroValue118
  t55 := Try.underlying120
  a55 := Try.isAgg120
  z55 := Try.sizeOf120
  v55 := Try.zeroValue120
  t66 := Try.underlying123
  a66 := Try.isAgg123
  z66 := Try.sizeOf123
  v66 := Try.zeroValue123
  t70 := Try.underlying127
  a70 := Try.isAgg127
  z70 := Try.sizeOf127
  v70 := Try.zeroValue127
  t76 := Try.underlying134
  a76 := Try.isAgg134
  z76 := Try.sizeOf134
  v76 := Try.zeroValue134
  t77 := Try.underlying135
  a77 := Try.isAgg135
  z77 := Try.sizeOf135
  v77 := Try.zeroValue135 }

theorem back_bd {n : Nat} {to_ : Int} (hn : 0 < n) (h0 : 0 ≤ to_) {j : Nat} (hj : j ≤ n) : 0 ≤ L.back n to_ j ∧ L.back n to_ j < (n : Int) := by
  unfold L.back
  exact ⟨Int.tmod_nonneg (n : Int) (by omega), Int.tmod_lt_of_pos _ (by omega)⟩
theorem back_0 {n : Nat} {to_ : Int} (h0 : 0 ≤ to_) (h1 : to_ < (n : Int)) : L.back n to_ 0 = to_ := by
  unfold L.back
  rw [show to_ + (n : Int) - ((0 : Nat) : Int) = to_ + (n : Int) by omega, Int.tmod_eq_emod_of_nonneg (by omega), Int.add_emod_right, Int.emod_eq_of_lt h0 h1]
theorem back_succ {n : Nat} {to_ : Int} (hn : 0 < n) (h0 : 0 ≤ to_) {j : Nat} (hj : j < n) : Int.tmod (L.back n to_ j + (n : Int) - 1) (n : Int) = L.back n to_ (j + 1) := by
  have hb := back_bd hn h0 (j := j) (by omega)
  unfold L.back at hb ⊢
  rw [Int.tmod_eq_emod_of_nonneg (a := to_ + (n : Int) - (j : Int)) (by omega)] at hb ⊢
  rw [Int.tmod_eq_emod_of_nonneg (by omega), Int.tmod_eq_emod_of_nonneg (a := to_ + (n : Int) - ((j + 1 : Nat) : Int)) (by omega)]
  rw [show (to_ + (n : Int) - (j : Int)) % (n : Int) + (n : Int) - 1 = (to_ + (n : Int) - (j : Int)) % (n : Int) + ((n : Int) - 1) by omega, Int.emod_add_emod, show to_ + (n : Int) - (j : Int) + ((n : Int) - 1) = to_ + (n : Int) - ((j + 1 : Nat) : Int) + (n : Int) by omega, Int.add_emod_right]
theorem back_end {n : Nat} {fr to_ : Int} (hf0 : 0 ≤ fr) (hf1 : fr < (n : Int)) (ht0 : 0 ≤ to_) (ht1 : to_ < (n : Int)) {j : Nat} (hj : j ≤ L.pkLen n fr to_) : (L.back n to_ j = fr ↔ j = L.pkLen n fr to_) ∧ L.pkLen n fr to_ < n := by
  unfold L.pkLen L.back at *
  rw [Int.tmod_eq_emod_of_nonneg (a := to_ + (n : Int) - fr) (by omega)] at hj ⊢
  by_cases h : fr ≤ to_
  · have e1 : (to_ + (n : Int) - fr) % (n : Int) = to_ - fr := by
      rw [show to_ + (n : Int) - fr = to_ - fr + (n : Int) by omega, Int.add_emod_right, Int.emod_eq_of_lt (by omega) (by omega)]
    rw [e1] at hj ⊢
    rw [Int.tmod_eq_emod_of_nonneg (by omega), show to_ + (n : Int) - (j : Int) = to_ - (j : Int) + (n : Int) by omega, Int.add_emod_right, Int.emod_eq_of_lt (by omega) (by omega)]
    omega
  · have e1 : (to_ + (n : Int) - fr) % (n : Int) = to_ + (n : Int) - fr := Int.emod_eq_of_lt (by omega) (by omega)
    rw [e1] at hj ⊢
    rw [Int.tmod_eq_emod_of_nonneg (by omega)]
    by_cases h2 : (j : Int) ≤ to_
    · rw [show to_ + (n : Int) - (j : Int) = to_ - (j : Int) + (n : Int) by omega, Int.add_emod_right, Int.emod_eq_of_lt (by omega) (by omega)]
      omega
    · rw [Int.emod_eq_of_lt (by omega) (by omega)]
      omega
theorem pkRow_small {l : L.Sq L.Pt} (hs : L.small l) {fr to_ : Int} (hn : l.n ≤ 900) (hf0 : 0 ≤ fr) (hf1 : fr < (l.n : Int)) (ht0 : 0 ≤ to_) (ht1 : to_ < (l.n : Int)) : L.small (L.pkRow l fr to_) := by
  have hlen := (back_end hf0 hf1 ht0 ht1 (j := 0) (Nat.zero_le _)).2
  refine ⟨show L.pkLen l.n fr to_ + 1 ≤ 1000 by omega, fun i hi => ?_⟩
  have hi : i < L.pkLen l.n fr to_ + 1 := hi
  have hb := back_bd (n := l.n) (by omega) ht0 (j := i) (by omega)
  exact hs.2 _ (by omega)
theorem pk_idx {l : L.Sq L.Pt} {k : Nat} (hk : k < (L.hull l).n) : 0 ≤ L.ptIdx l ((L.hull l).g k) ∧ L.ptIdx l ((L.hull l).g k) < (l.n : Int) := by
  obtain ⟨i, hi, e⟩ := hull_mem l hk
  obtain ⟨j, hj, e2, _⟩ := ptIdx_of (l := l) hi
  rw [e, e2]; omega
def p_pk1_p (a : L.Pocket) (b : L.Pocket) : Prop := True
def p_pk1_r (a : L.Pocket) (b : L.Pocket) : SV := .int .i64 (L.cmpFr a b)
def p_pk1_s : List EV → Option (Prop × SV)
  | [.p (.agg [.int .i64 a_fr, .int .i64 a_to_, .int .i64 a_area]), .p (.agg [.int .i64 b_fr, .int .i64 b_to_, .int .i64 b_area])] => some (p_pk1_p (⟨a_fr, a_to_, a_area⟩ : L.Pocket) (⟨b_fr, b_to_, b_area⟩ : L.Pocket), p_pk1_r (⟨a_fr, a_to_, a_area⟩ : L.Pocket) (⟨b_fr, b_to_, b_area⟩ : L.Pocket))
  | _ => none
abbrev p_pk1_S : SE.Spec := (specO p_pk1_s)
def p_pk1_C : Cfg := { muts := [], frz := lookN [], specs := lookS [(33, c_cmp_S)], loops := lookL [], iters := lookI [], rfs := lookR [], nils := lookM [] }
theorem p_pk1_vc (a : L.Pocket) (b : L.Pocket) (hp : p_pk1_p a b) : vc Try.prog (p_pk1_C) (bodyOf Try.f61) (st0 Try.f61 [.p (.agg [.int .i64 a.fr, .int .i64 a.to_, .int .i64 a.area]), .p (.agg [.int .i64 b.fr, .int .i64 b.to_, .int .i64 b.area])]) (retFn Try.prog Try.f61 (p_pk1_r a b)) :=
  @Eq.mpr _ (True ∧ L.cmp a.fr b.fr = L.cmpFr a b) (by kernel_rfl) (by
    exact ⟨trivial, rfl⟩)
theorem p_pk1_ok : SpecOk Try.prog 61 p_pk1_S := fnX Try.func61 (c := bodyOf Try.f61) (by kernel_rfl) mixed (fun args p r hs hp => by
  unfold p_pk1_s at hs
  split at hs
  · cases hs; exact ⟨_, _, p_pk1_vc _ _ hp, (.same _ (.same _ .nil)), ⟨show SpecsL Try.prog _ from (SpecsL.cons c_cmp_ok c_cmp_en SpecsL.nil), rfl, ⟨show ItersL Try.prog _ from ItersL.nil, (TrsOk.none (fun _ => rfl))⟩⟩⟩
  · cases hs)
theorem p_pk1_en : Enters Try.prog 61 := fun args w => by kernel_rfl
theorem p_pk1_I : ∀ args p r, p_pk1_s args = some (p, r) → ∃ n, r = .int .i64 n := by
  intro args p r h
  unfold p_pk1_s at h
  split at h
  · cases h; exact ⟨_, rfl⟩
  · cases h
abbrev s_sortK_tr : Tr := sortTr 58 3 61 1005 encPk L.cmpFr
theorem s_sortK_tok : TrOk Try.prog 60 s_sortK_tr := sortTr_ok (enc := encPk) sortPk_lay (by decide) (fun w => Try.isAgg58 w) (fun w => Try.sizeOf58 w) (fun _ => rfl) swoPk p_pk1_ok p_pk1_en (fun x y => show preO p_pk1_s [.p (.agg [.int .i64 x.fr, .int .i64 x.to_, .int .i64 x.area]), .p (.agg [.int .i64 y.fr, .int .i64 y.to_, .int .i64 y.area])] from trivial) (fun x y => rfl) _ _
theorem s_sortK_en : Enters Try.prog 60 := fun args w => by kernel_rfl
def p_Pockets_p (l : (L.Sq L.Pt)) : Prop := l.n ≤ 1000000
def p_Pockets_q (l : (L.Sq L.Pt)) : (Nat → L.Pocket) → Prop := fun u => L.validOutline l = true → SortedBy L.cmpFr (L.pks l).n (L.pks l).g u
def p_Pockets_r (l : (L.Sq L.Pt)) : (Nat → L.Pocket) → SV := fun u => .tup [.sl 3 (L.pkN l) (fun i => [.int .i64 ((u i).fr), .int .i64 ((u i).to_), .int .i64 ((u i).area)]), .int .i64 (bif L.validOutline l then 0 else 1)]
def p_Pockets_s : List EV → Option (Prop × ((Nat → L.Pocket) → Prop) × ((Nat → L.Pocket) → SV))
  | [.p (.sl 2 l_n l_g)] => some ((∀ i, i < l_n → l_g i = [.int .i64 ((ofPt (l_g i)).x), .int .i64 ((ofPt (l_g i)).y)]) ∧ p_Pockets_p (⟨l_n, fun i => ofPt (l_g i)⟩ : (L.Sq L.Pt)), p_Pockets_q (⟨l_n, fun i => ofPt (l_g i)⟩ : (L.Sq L.Pt)), p_Pockets_r (⟨l_n, fun i => ofPt (l_g i)⟩ : (L.Sq L.Pt)))
  | _ => none
abbrev p_Pockets_S : SE.Spec := (specR (Nat → L.Pocket) (fun _ => ⟨0, 0, 0⟩) p_Pockets_s)
def p_Pockets_C : Cfg := { muts := [4, 5, 7, 40], frz := lookN [], specs := lookS [(43, p_ValidOutline_S), (58, p_hull_S), (57, p_triples_S), (59, s_idxPt_S), (56, p_area_S), (61, p_pk1_S)], loops := fun _ => none, iters := lookI [(83, p_triples1_it)], rfs := lookR [], nils := lookM [(5, [(4, 68, 58, 3)])], trs := lookT [(60, s_sortK_tr)], ren := fun k => k - 937 }
theorem p_Pockets_vc (l : (L.Sq L.Pt)) (hp : p_Pockets_p l) : vc Try.prog ({ p_Pockets_C with loops := lookL [(11, { T := Nat × Int × Int, keep := [1, 4, 5, 8, 9, 10], keepO := [4, 5, 68], tie := fun g => [(8, .int .i64 g.2.1), (9, .int .i64 g.2.2)], chg := fun g => [(11, .p (.int .i64 (L.back l.n g.2.2 g.1)))], own := fun g => [(40, .row 23 2 (g.1 + 1) (fun j => [.int .i64 ((l.g (L.back l.n g.2.2 j).toNat).x), .int .i64 ((l.g (L.back l.n g.2.2 j).toNat).y)]))], inv := fun g => (0 ≤ g.2.1 ∧ g.2.1 < (l.n : Int)) ∧ (0 ≤ g.2.2 ∧ g.2.2 < (l.n : Int)) ∧ g.1 ≤ L.pkLen l.n g.2.1 g.2.2, mu := fun g => l.n - g.1 })], rfs := lookR [(6, { T := Nat, keep := [1, 4, 5], keepO := [5], own := fun k _ => [(4, .blk 54 [.row 68]), (68, .row 58 3 (L.cnt (L.isPk l (L.hull l)) k) (fun i => [.int .i64 ((L.pk l (L.hull l) (L.selN (L.isPk l (L.hull l)) k i)).fr), .int .i64 ((L.pk l (L.hull l) (L.selN (L.isPk l (L.hull l)) k i)).to_), .int .i64 ((L.pk l (L.hull l) (L.selN (L.isPk l (L.hull l)) k i)).area)]))], inv := fun k _ => k ≤ (L.hull l).n })] }) (bodyOf Try.f30) (st0 Try.f30 [.p (.sl 2 l.n (fun i => [.int .i64 ((l.g i).x), .int .i64 ((l.g i).y)]))]) (retRel Try.prog Try.f30 ((Nat → L.Pocket)) (p_Pockets_q l) (p_Pockets_r l)) :=
  @Eq.mpr _ (((∀ (i : Nat), i < l.n → [Go.SE.SV.int Go.IntKind.i64 (l.g i).x, Go.SE.SV.int Go.IntKind.i64 (l.g i).y] = [Go.SE.SV.int Go.IntKind.i64 (l.g i).x, Go.SE.SV.int Go.IntKind.i64 (l.g i).y]) ∧ l.n ≤ (1000000 : Nat)) ∧ ((!L.validOutline (L.Sq.mk l.n fun (i : Nat) ↦ l.g i)) = Bool.true → ∃ (t : Nat → L.Pocket), L.pkN l = (0 : Nat) ∧ ((1 : Int) = bif L.validOutline l then (0 : Int) else (1 : Int)) ∧
 (L.validOutline l = Bool.true → Go.SE.SortedBy L.cmpFr (L.pks l).n (L.pks l).g t)) ∧ ((!L.validOutline (L.Sq.mk l.n fun (i : Nat) ↦ l.g i)) = Bool.false → ((∀ (i : Nat), i < l.n → [Go.SE.SV.int Go.IntKind.i64 (l.g i).x, Go.SE.SV.int Go.IntKind.i64 (l.g i).y] = [Go.SE.SV.int Go.IntKind.i64 (l.g i).x, Go.SE.SV.int Go.IntKind.i64 (l.g i).y]) ∧ (2 : Nat) ≤ l.n ∧ l.n ≤ (1000 : Nat) ∧ ∀ (i : Nat), i <
 l.n → L.bd (l.g i)) ∧ ∀ (t : Nat), True → ((∀ (i : Nat), i < (L.hull (L.Sq.mk l.n fun (i : Nat) ↦ l.g i)).n → [Go.SE.SV.int Go.IntKind.i64 ((L.hull (L.Sq.mk l.n fun (i : Nat) ↦ l.g i)).g i).x, Go.SE.SV.int Go.IntKind.i64 ((L.hull (L.Sq.mk l.n fun (i : Nat) ↦ l.g i)).g i).y] = [Go.SE.SV.int Go.IntKind.i64 ((L.hull (L.Sq.mk l.n fun (i : Nat) ↦ l.g i)).g i).x, Go.SE.SV.int Go.IntKind.i64 ((L.hull
 (L.Sq.mk l.n fun (i : Nat) ↦ l.g i)).g i).y]) ∧ (L.hull (L.Sq.mk l.n fun (i : Nat) ↦ l.g i)).n ≤ (1000 : Nat)) ∧ (((∀ (i : Nat), i < (L.hull (L.Sq.mk l.n fun (i : Nat) ↦ l.g i)).n → [Go.SE.SV.int Go.IntKind.i64 ((L.hull (L.Sq.mk l.n fun (i : Nat) ↦ l.g i)).g i).x, Go.SE.SV.int Go.IntKind.i64 ((L.hull (L.Sq.mk l.n fun (i : Nat) ↦ l.g i)).g i).y] = [Go.SE.SV.int Go.IntKind.i64 ((L.hull (L.Sq.mk l.n
 fun (i : Nat) ↦ l.g i)).g i).x, Go.SE.SV.int Go.IntKind.i64 ((L.hull (L.Sq.mk l.n fun (i : Nat) ↦ l.g i)).g i).y]) ∧ (L.hull (L.Sq.mk l.n fun (i : Nat) ↦ l.g i)).n ≤ (1000 : Nat)) ∧ ∃ (t : Nat), (nat_lit 0 = L.cnt (L.isPk l (L.hull l)) (0 : Nat) ∧ ∀ (i : Nat), i < nat_lit 0 → [] = [Go.SE.SV.int Go.IntKind.i64 (L.pk l (L.hull l) (L.selN (L.isPk l (L.hull l)) (0 : Nat) i)).fr, Go.SE.SV.int
 Go.IntKind.i64 (L.pk l (L.hull l) (L.selN (L.isPk l (L.hull l)) (0 : Nat) i)).to_, Go.SE.SV.int Go.IntKind.i64 (L.pk l (L.hull l) (L.selN (L.isPk l (L.hull l)) (0 : Nat) i)).area]) ∧ (↑l.n : Int) = (↑l.n : Int) ∧ (0 : Nat) ≤ (L.hull l).n) ∧ (∀ (k t_1 : Nat) (vk : Nat → Go.Value), k < (L.hull (L.Sq.mk l.n fun (i : Nat) ↦ l.g i)).n → k ≤ (L.hull l).n → ((0 : Int) ≤ (1 : Int) ∧ (1 : Int) < (↑(3 :
 Nat) : Int)) ∧ ((∀ (i : Nat), i < l.n → [Go.SE.SV.int Go.IntKind.i64 (l.g i).x, Go.SE.SV.int Go.IntKind.i64 (l.g i).y] = [Go.SE.SV.int Go.IntKind.i64 (l.g i).x, Go.SE.SV.int Go.IntKind.i64 (l.g i).y]) ∧ l.n ≤ (1000000 : Nat)) ∧ ((0 : Int) ≤ (2 : Int) ∧ (2 : Int) < (↑(3 : Nat) : Int)) ∧ ((∀ (i : Nat), i < l.n → [Go.SE.SV.int Go.IntKind.i64 (l.g i).x, Go.SE.SV.int Go.IntKind.i64 (l.g i).y] =
 [Go.SE.SV.int Go.IntKind.i64 (l.g i).x, Go.SE.SV.int Go.IntKind.i64 (l.g i).y]) ∧ l.n ≤ (1000000 : Nat)) ∧ Go.SE.InK Go.IntKind.i64 (L.ptIdx (L.Sq.mk l.n fun (i : Nat) ↦ l.g i) ((L.hull (L.Sq.mk l.n fun (i : Nat) ↦ l.g i)).g (Int.toNat (↑k : Int))) + (1 : Int)) ∧ (↑l.n : Int) ≠ (0 : Int) ∧ (Decidable.decide (L.ptIdx (L.Sq.mk l.n fun (i : Nat) ↦ l.g i) ((L.hull (L.Sq.mk l.n fun (i : Nat) ↦ l.g
 i)).g (Int.toNat (Int.tmod ((↑k : Int) + (1 : Int)) (↑(L.hull (L.Sq.mk l.n fun (i : Nat) ↦ l.g i)).n : Int)))) = Int.tmod (L.ptIdx (L.Sq.mk l.n fun (i : Nat) ↦ l.g i) ((L.hull (L.Sq.mk l.n fun (i : Nat) ↦ l.g i)).g (Int.toNat (↑k : Int))) + (1 : Int)) (↑l.n : Int)) = Bool.true → ∃ (t' : Nat), nat_lit 0 = nat_lit 0 ∧ nat_lit 0 = nat_lit 0 ∧ Go.SE.SV.ref [Go.SE.SV.sl (nat_lit 2) l.n fun (i : Nat) ↦
 [Go.SE.SV.int Go.IntKind.i64 (l.g i).x, Go.SE.SV.int Go.IntKind.i64 (l.g i).y]] (nat_lit 0) = Go.SE.SV.ref [Go.SE.SV.sl (nat_lit 2) l.n fun (i : Nat) ↦ [Go.SE.SV.int Go.IntKind.i64 (l.g i).x, Go.SE.SV.int Go.IntKind.i64 (l.g i).y]] (nat_lit 0) ∧ vk (nat_lit 5) = vk (nat_lit 5) ∧ vk (nat_lit 4) = vk (nat_lit 4) ∧ vk (nat_lit 1) = vk (nat_lit 1) ∧ (L.cnt (L.isPk l (L.hull l)) k = L.cnt (L.isPk l
 (L.hull l)) (k + (1 : Nat)) ∧ ∀ (i : Nat), i < L.cnt (L.isPk l (L.hull l)) k → [Go.SE.SV.int Go.IntKind.i64 (L.pk l (L.hull l) (L.selN (L.isPk l (L.hull l)) k i)).fr, Go.SE.SV.int Go.IntKind.i64 (L.pk l (L.hull l) (L.selN (L.isPk l (L.hull l)) k i)).to_, Go.SE.SV.int Go.IntKind.i64 (L.pk l (L.hull l) (L.selN (L.isPk l (L.hull l)) k i)).area] = [Go.SE.SV.int Go.IntKind.i64 (L.pk l (L.hull l)
 (L.selN (L.isPk l (L.hull l)) (k + (1 : Nat)) i)).fr, Go.SE.SV.int Go.IntKind.i64 (L.pk l (L.hull l) (L.selN (L.isPk l (L.hull l)) (k + (1 : Nat)) i)).to_, Go.SE.SV.int Go.IntKind.i64 (L.pk l (L.hull l) (L.selN (L.isPk l (L.hull l)) (k + (1 : Nat)) i)).area]) ∧ (↑l.n : Int) = (↑l.n : Int) ∧ k + (1 : Nat) ≤ (L.hull l).n) ∧ (Decidable.decide (L.ptIdx (L.Sq.mk l.n fun (i : Nat) ↦ l.g i) ((L.hull
 (L.Sq.mk l.n fun (i : Nat) ↦ l.g i)).g (Int.toNat (Int.tmod ((↑k : Int) + (1 : Int)) (↑(L.hull (L.Sq.mk l.n fun (i : Nat) ↦ l.g i)).n : Int)))) = Int.tmod (L.ptIdx (L.Sq.mk l.n fun (i : Nat) ↦ l.g i) ((L.hull (L.Sq.mk l.n fun (i : Nat) ↦ l.g i)).g (Int.toNat (↑k : Int))) + (1 : Int)) (↑l.n : Int)) = Bool.false → ((0 : Int) ≤ L.ptIdx (L.Sq.mk l.n fun (i : Nat) ↦ l.g i) ((L.hull (L.Sq.mk l.n fun (i
 : Nat) ↦ l.g i)).g (Int.toNat (Int.tmod ((↑k : Int) + (1 : Int)) (↑(L.hull (L.Sq.mk l.n fun (i : Nat) ↦ l.g i)).n : Int)))) ∧ L.ptIdx (L.Sq.mk l.n fun (i : Nat) ↦ l.g i) ((L.hull (L.Sq.mk l.n fun (i : Nat) ↦ l.g i)).g (Int.toNat (Int.tmod ((↑k : Int) + (1 : Int)) (↑(L.hull (L.Sq.mk l.n fun (i : Nat) ↦ l.g i)).n : Int)))) < (↑l.n : Int)) ∧ (∃ (g : Nat × Int × Int), L.ptIdx (L.Sq.mk l.n fun (i :
 Nat) ↦ l.g i) ((L.hull (L.Sq.mk l.n fun (i : Nat) ↦ l.g i)).g (Int.toNat (Int.tmod ((↑k : Int) + (1 : Int)) (↑(L.hull (L.Sq.mk l.n fun (i : Nat) ↦ l.g i)).n : Int)))) = L.back l.n g.2.2 g.1 ∧ (nat_lit 1 = g.1 + (1 : Nat) ∧ ∀ (i : Nat), i < nat_lit 1 → Go.SE.rowsOf [Go.SE.SV.int Go.IntKind.i64 (l.g (Int.toNat (L.ptIdx (L.Sq.mk l.n fun (i : Nat) ↦ l.g i) ((L.hull (L.Sq.mk l.n fun (i : Nat) ↦ l.g
 i)).g (Int.toNat (Int.tmod ((↑k : Int) + (1 : Int)) (↑(L.hull (L.Sq.mk l.n fun (i : Nat) ↦ l.g i)).n : Int))))))).x, Go.SE.SV.int Go.IntKind.i64 (l.g (Int.toNat (L.ptIdx (L.Sq.mk l.n fun (i : Nat) ↦ l.g i) ((L.hull (L.Sq.mk l.n fun (i : Nat) ↦ l.g i)).g (Int.toNat (Int.tmod ((↑k : Int) + (1 : Int)) (↑(L.hull (L.Sq.mk l.n fun (i : Nat) ↦ l.g i)).n : Int))))))).y] (nat_lit 2) i = [Go.SE.SV.int
 Go.IntKind.i64 (l.g (Int.toNat (L.back l.n g.2.2 i))).x, Go.SE.SV.int Go.IntKind.i64 (l.g (Int.toNat (L.back l.n g.2.2 i))).y]) ∧ L.ptIdx (L.Sq.mk l.n fun (i : Nat) ↦ l.g i) ((L.hull (L.Sq.mk l.n fun (i : Nat) ↦ l.g i)).g (Int.toNat (↑k : Int))) = g.2.1 ∧ L.ptIdx (L.Sq.mk l.n fun (i : Nat) ↦ l.g i) ((L.hull (L.Sq.mk l.n fun (i : Nat) ↦ l.g i)).g (Int.toNat (Int.tmod ((↑k : Int) + (1 : Int))
 (↑(L.hull (L.Sq.mk l.n fun (i : Nat) ↦ l.g i)).n : Int)))) = g.2.2 ∧ ((0 : Int) ≤ g.2.1 ∧ g.2.1 < (↑l.n : Int)) ∧ ((0 : Int) ≤ g.2.2 ∧ g.2.2 < (↑l.n : Int)) ∧ g.1 ≤ L.pkLen l.n g.2.1 g.2.2) ∧ ∀ (g : Nat × Int × Int), L.ptIdx (L.Sq.mk l.n fun (i : Nat) ↦ l.g i) ((L.hull (L.Sq.mk l.n fun (i : Nat) ↦ l.g i)).g (Int.toNat (↑k : Int))) = g.2.1 ∧ L.ptIdx (L.Sq.mk l.n fun (i : Nat) ↦ l.g i) ((L.hull
 (L.Sq.mk l.n fun (i : Nat) ↦ l.g i)).g (Int.toNat (Int.tmod ((↑k : Int) + (1 : Int)) (↑(L.hull (L.Sq.mk l.n fun (i : Nat) ↦ l.g i)).n : Int)))) = g.2.2 ∧ ((0 : Int) ≤ g.2.1 ∧ g.2.1 < (↑l.n : Int)) ∧ ((0 : Int) ≤ g.2.2 ∧ g.2.2 < (↑l.n : Int)) ∧ g.1 ≤ L.pkLen l.n g.2.1 g.2.2 → ((!Decidable.decide (L.back l.n g.2.2 g.1 = L.ptIdx (L.Sq.mk l.n fun (i : Nat) ↦ l.g i) ((L.hull (L.Sq.mk l.n fun (i : Nat)
 ↦ l.g i)).g (Int.toNat (↑k : Int))))) = Bool.true → Go.SE.InK Go.IntKind.i64 (L.back l.n g.2.2 g.1 + (↑l.n : Int)) ∧ Go.SE.InK Go.IntKind.i64 (L.back l.n g.2.2 g.1 + (↑l.n : Int) - (1 : Int)) ∧ (↑l.n : Int) ≠ (0 : Int) ∧ ((0 : Int) ≤ Int.tmod (L.back l.n g.2.2 g.1 + (↑l.n : Int) - (1 : Int)) (↑l.n : Int) ∧ Int.tmod (L.back l.n g.2.2 g.1 + (↑l.n : Int) - (1 : Int)) (↑l.n : Int) < (↑l.n : Int)) ∧
 (g.1 + (1 : Nat) + nat_lit 1) * nat_lit 16 ≤ (140737488355328 : Nat) ∧ ∃ (g' : Nat × Int × Int), Int.tmod (L.back l.n g.2.2 g.1 + (↑l.n : Int) - (1 : Int)) (↑l.n : Int) = L.back l.n g'.2.2 g'.1 ∧ L.ptIdx (L.Sq.mk l.n fun (i : Nat) ↦ l.g i) ((L.hull (L.Sq.mk l.n fun (i : Nat) ↦ l.g i)).g (Int.toNat (Int.tmod ((↑k : Int) + (1 : Int)) (↑(L.hull (L.Sq.mk l.n fun (i : Nat) ↦ l.g i)).n : Int)))) =
 L.ptIdx (L.Sq.mk l.n fun (i : Nat) ↦ l.g i) ((L.hull (L.Sq.mk l.n fun (i : Nat) ↦ l.g i)).g (Int.toNat (Int.tmod ((↑k : Int) + (1 : Int)) (↑(L.hull (L.Sq.mk l.n fun (i : Nat) ↦ l.g i)).n : Int)))) ∧ L.ptIdx (L.Sq.mk l.n fun (i : Nat) ↦ l.g i) ((L.hull (L.Sq.mk l.n fun (i : Nat) ↦ l.g i)).g (Int.toNat (↑k : Int))) = L.ptIdx (L.Sq.mk l.n fun (i : Nat) ↦ l.g i) ((L.hull (L.Sq.mk l.n fun (i : Nat) ↦
 l.g i)).g (Int.toNat (↑k : Int))) ∧ nat_lit 0 = nat_lit 0 ∧ nat_lit 0 = nat_lit 0 ∧ Go.SE.SV.ref [Go.SE.SV.sl (nat_lit 2) l.n fun (i : Nat) ↦ [Go.SE.SV.int Go.IntKind.i64 (l.g i).x, Go.SE.SV.int Go.IntKind.i64 (l.g i).y]] (nat_lit 0) = Go.SE.SV.ref [Go.SE.SV.sl (nat_lit 2) l.n fun (i : Nat) ↦ [Go.SE.SV.int Go.IntKind.i64 (l.g i).x, Go.SE.SV.int Go.IntKind.i64 (l.g i).y]] (nat_lit 0) ∧ vk (nat_lit
 5) = vk (nat_lit 5) ∧ vk (nat_lit 4) = vk (nat_lit 4) ∧ vk (nat_lit 1) = vk (nat_lit 1) ∧ (g.1 + (1 : Nat) + nat_lit 1 = g'.1 + (1 : Nat) ∧ ∀ (i : Nat), i < g.1 + (1 : Nat) + nat_lit 1 → Go.SE.appGet (g.1 + (1 : Nat)) (fun (j : Nat) ↦ [Go.SE.SV.int Go.IntKind.i64 (l.g (Int.toNat (L.back l.n g.2.2 j))).x, Go.SE.SV.int Go.IntKind.i64 (l.g (Int.toNat (L.back l.n g.2.2 j))).y]) (fun (x : Nat) ↦
 [Go.SE.SV.int Go.IntKind.i64 (l.g (Int.toNat (Int.tmod (L.back l.n g.2.2 g.1 + (↑l.n : Int) - (1 : Int)) (↑l.n : Int)))).x, Go.SE.SV.int Go.IntKind.i64 (l.g (Int.toNat (Int.tmod (L.back l.n g.2.2 g.1 + (↑l.n : Int) - (1 : Int)) (↑l.n : Int)))).y]) i = [Go.SE.SV.int Go.IntKind.i64 (l.g (Int.toNat (L.back l.n g'.2.2 i))).x, Go.SE.SV.int Go.IntKind.i64 (l.g (Int.toNat (L.back l.n g'.2.2 i))).y]) ∧
 (L.cnt (L.isPk l (L.hull l)) k = L.cnt (L.isPk l (L.hull l)) k ∧ ∀ (i : Nat), i < L.cnt (L.isPk l (L.hull l)) k → [Go.SE.SV.int Go.IntKind.i64 (L.pk l (L.hull l) (L.selN (L.isPk l (L.hull l)) k i)).fr, Go.SE.SV.int Go.IntKind.i64 (L.pk l (L.hull l) (L.selN (L.isPk l (L.hull l)) k i)).to_, Go.SE.SV.int Go.IntKind.i64 (L.pk l (L.hull l) (L.selN (L.isPk l (L.hull l)) k i)).area] = [Go.SE.SV.int
 Go.IntKind.i64 (L.pk l (L.hull l) (L.selN (L.isPk l (L.hull l)) k i)).fr, Go.SE.SV.int Go.IntKind.i64 (L.pk l (L.hull l) (L.selN (L.isPk l (L.hull l)) k i)).to_, Go.SE.SV.int Go.IntKind.i64 (L.pk l (L.hull l) (L.selN (L.isPk l (L.hull l)) k i)).area]) ∧ (↑l.n : Int) = (↑l.n : Int) ∧ (L.ptIdx (L.Sq.mk l.n fun (i : Nat) ↦ l.g i) ((L.hull (L.Sq.mk l.n fun (i : Nat) ↦ l.g i)).g (Int.toNat (↑k : Int)))
 = g'.2.1 ∧ L.ptIdx (L.Sq.mk l.n fun (i : Nat) ↦ l.g i) ((L.hull (L.Sq.mk l.n fun (i : Nat) ↦ l.g i)).g (Int.toNat (Int.tmod ((↑k : Int) + (1 : Int)) (↑(L.hull (L.Sq.mk l.n fun (i : Nat) ↦ l.g i)).n : Int)))) = g'.2.2 ∧ ((0 : Int) ≤ g'.2.1 ∧ g'.2.1 < (↑l.n : Int)) ∧ ((0 : Int) ≤ g'.2.2 ∧ g'.2.2 < (↑l.n : Int)) ∧ g'.1 ≤ L.pkLen l.n g'.2.1 g'.2.2) ∧ l.n - g'.1 < l.n - g.1) ∧ ((!Decidable.decide
 (L.back l.n g.2.2 g.1 = L.ptIdx (L.Sq.mk l.n fun (i : Nat) ↦ l.g i) ((L.hull (L.Sq.mk l.n fun (i : Nat) ↦ l.g i)).g (Int.toNat (↑k : Int))))) = Bool.false → ((∀ (i : Nat), i < g.1 + (1 : Nat) → [Go.SE.SV.int Go.IntKind.i64 (l.g (Int.toNat (L.back l.n g.2.2 i))).x, Go.SE.SV.int Go.IntKind.i64 (l.g (Int.toNat (L.back l.n g.2.2 i))).y] = [Go.SE.SV.int Go.IntKind.i64 (l.g (Int.toNat (L.back l.n g.2.2
 i))).x, Go.SE.SV.int Go.IntKind.i64 (l.g (Int.toNat (L.back l.n g.2.2 i))).y]) ∧ L.small (L.Sq.mk (g.1 + (1 : Nat)) fun (i : Nat) ↦ l.g (Int.toNat (L.back l.n g.2.2 i)))) ∧ (L.cnt (L.isPk l (L.hull l)) k + nat_lit 1) * nat_lit 24 ≤ (140737488355328 : Nat) ∧ ∃ (t' : Nat), nat_lit 0 = nat_lit 0 ∧ nat_lit 0 = nat_lit 0 ∧ Go.SE.SV.ref [Go.SE.SV.sl (nat_lit 2) l.n fun (i : Nat) ↦ [Go.SE.SV.int
 Go.IntKind.i64 (l.g i).x, Go.SE.SV.int Go.IntKind.i64 (l.g i).y]] (nat_lit 0) = Go.SE.SV.ref [Go.SE.SV.sl (nat_lit 2) l.n fun (i : Nat) ↦ [Go.SE.SV.int Go.IntKind.i64 (l.g i).x, Go.SE.SV.int Go.IntKind.i64 (l.g i).y]] (nat_lit 0) ∧ vk (nat_lit 5) = vk (nat_lit 5) ∧ vk (nat_lit 4) = vk (nat_lit 4) ∧ vk (nat_lit 1) = vk (nat_lit 1) ∧ (L.cnt (L.isPk l (L.hull l)) k + nat_lit 1 = L.cnt (L.isPk l
 (L.hull l)) (k + (1 : Nat)) ∧ ∀ (i : Nat), i < L.cnt (L.isPk l (L.hull l)) k + nat_lit 1 → Go.SE.appGet (L.cnt (L.isPk l (L.hull l)) k) (fun (i : Nat) ↦ [Go.SE.SV.int Go.IntKind.i64 (L.pk l (L.hull l) (L.selN (L.isPk l (L.hull l)) k i)).fr, Go.SE.SV.int Go.IntKind.i64 (L.pk l (L.hull l) (L.selN (L.isPk l (L.hull l)) k i)).to_, Go.SE.SV.int Go.IntKind.i64 (L.pk l (L.hull l) (L.selN (L.isPk l
 (L.hull l)) k i)).area]) (fun (x : Nat) ↦ [Go.SE.SV.int Go.IntKind.i64 (L.ptIdx (L.Sq.mk l.n fun (i : Nat) ↦ l.g i) ((L.hull (L.Sq.mk l.n fun (i : Nat) ↦ l.g i)).g (Int.toNat (↑k : Int)))), Go.SE.SV.int Go.IntKind.i64 (L.ptIdx (L.Sq.mk l.n fun (i : Nat) ↦ l.g i) ((L.hull (L.Sq.mk l.n fun (i : Nat) ↦ l.g i)).g (Int.toNat (Int.tmod ((↑k : Int) + (1 : Int)) (↑(L.hull (L.Sq.mk l.n fun (i : Nat) ↦ l.g
 i)).n : Int))))), Go.SE.SV.int Go.IntKind.i64 (L.areaTo (L.Sq.mk (g.1 + (1 : Nat)) fun (i : Nat) ↦ l.g (Int.toNat (L.back l.n g.2.2 i))) (g.1 + (1 : Nat)))]) i = [Go.SE.SV.int Go.IntKind.i64 (L.pk l (L.hull l) (L.selN (L.isPk l (L.hull l)) (k + (1 : Nat)) i)).fr, Go.SE.SV.int Go.IntKind.i64 (L.pk l (L.hull l) (L.selN (L.isPk l (L.hull l)) (k + (1 : Nat)) i)).to_, Go.SE.SV.int Go.IntKind.i64 (L.pk
 l (L.hull l) (L.selN (L.isPk l (L.hull l)) (k + (1 : Nat)) i)).area]) ∧ (↑l.n : Int) = (↑l.n : Int) ∧ k + (1 : Nat) ≤ (L.hull l).n))) ∧ ∀ (t : Nat), (L.hull (L.Sq.mk l.n fun (i : Nat) ↦ l.g i)).n ≤ (L.hull l).n → ∃ (t : Nat × (Nat → L.Pocket)), Go.SE.SV.clo (nat_lit 61) [] = Go.SE.SV.clo (61 : Nat) [] ∧ (L.cnt (L.isPk l (L.hull l)) (L.hull (L.Sq.mk l.n fun (i : Nat) ↦ l.g i)).n = t.1 ∧ ∀ (i :
 Nat), i < L.cnt (L.isPk l (L.hull l)) (L.hull (L.Sq.mk l.n fun (i : Nat) ↦ l.g i)).n → [Go.SE.SV.int Go.IntKind.i64 (L.pk l (L.hull l) (L.selN (L.isPk l (L.hull l)) (L.hull (L.Sq.mk l.n fun (i : Nat) ↦ l.g i)).n i)).fr, Go.SE.SV.int Go.IntKind.i64 (L.pk l (L.hull l) (L.selN (L.isPk l (L.hull l)) (L.hull (L.Sq.mk l.n fun (i : Nat) ↦ l.g i)).n i)).to_, Go.SE.SV.int Go.IntKind.i64 (L.pk l (L.hull l)
 (L.selN (L.isPk l (L.hull l)) (L.hull (L.Sq.mk l.n fun (i : Nat) ↦ l.g i)).n i)).area] = [Go.SE.SV.int Go.IntKind.i64 (t.2 i).fr, Go.SE.SV.int Go.IntKind.i64 (t.2 i).to_, Go.SE.SV.int Go.IntKind.i64 (t.2 i).area]) ∧ t.1 ≤ (1000000 : Nat) ∧ ∀ (u : Nat → L.Pocket), Go.SE.SortedBy L.cmpFr t.1 t.2 u → ∃ (t_1 : Nat → L.Pocket), (t.1 = L.pkN l ∧ ∀ (i : Nat), i < t.1 → [Go.SE.SV.int Go.IntKind.i64 (u
 i).fr, Go.SE.SV.int Go.IntKind.i64 (u i).to_, Go.SE.SV.int Go.IntKind.i64 (u i).area] = [Go.SE.SV.int Go.IntKind.i64 (t_1 i).fr, Go.SE.SV.int Go.IntKind.i64 (t_1 i).to_, Go.SE.SV.int Go.IntKind.i64 (t_1 i).area]) ∧ ((0 : Int) = bif L.validOutline l then (0 : Int) else (1 : Int)) ∧ (L.validOutline l = Bool.true → Go.SE.SortedBy L.cmpFr (L.pks l).n (L.pks l).g t_1))) (by kernel_rfl) (by
    have hn : l.n ≤ 1000000 := hp
    refine ⟨⟨fun _ _ => rfl, hn⟩, fun h => ?_, fun h => ?_⟩
    · have hv : L.validOutline l = false := by simpa using (show (!L.validOutline l) = true from h)
      unfold L.pkN
      rw [hv]; exact ⟨fun _ => ⟨0, 0, 0⟩, rfl, rfl, fun h => (by cases h)⟩
    have hv : L.validOutline l = true := by simpa using (show (!L.validOutline l) = false from h)
    obtain ⟨n3, n24, hsm, hbd⟩ := validOutline_of hv
    have hHN : (L.hull l).n ≤ 1000 := by
      have cl : ∀ m : L.Sq L.Pt, (L.chain m).n ≤ m.n := fun m => by
        have := chainTo_len m m.n
        show (L.chainTo m m.n).length - 1 ≤ m.n
        omega
      have c1 : (L.chain (L.sorted l)).n ≤ l.n := cl (L.sorted l)
      have c2 : (L.chain (L.revd (L.sorted l))).n ≤ l.n := cl (L.revd (L.sorted l))
      show 0 + (L.chain (L.sorted l)).n + (L.chain (L.revd (L.sorted l))).n ≤ 1000
      omega
    have hck : ∀ k, L.cnt (L.isPk l (L.hull l)) k ≤ k := fun k => cnt_le
    refine ⟨⟨fun _ _ => rfl, by omega, by omega, hbd.2⟩, fun t _ => ⟨⟨fun _ _ => rfl, hHN⟩, ⟨⟨fun _ _ => rfl, hHN⟩, (0 : Nat), ⟨rfl, fun i hi => absurd hi (Nat.not_lt_zero _)⟩, rfl, Nat.zero_le _⟩, fun k t1 vk hk hk' => ?_, fun t _ => ?_⟩⟩
    · have hk : k < (L.hull l).n := hk
      have e0 : ((k : Int)).toNat = k := by omega
      have e1 : (Int.tmod ((k : Int) + 1) ((L.hull l).n : Int)).toNat = L.next (L.hull l).n k := rfl
      have hf := pk_idx (l := l) hk
      have ht := pk_idx (l := l) (k := L.next (L.hull l).n k) (next_lt (by omega))
      have eF : L.ptIdx l ((L.hull l).g k) = L.pkFrom l (L.hull l) k := rfl
      have eT : L.ptIdx l ((L.hull l).g (L.next (L.hull l).n k)) = L.pkTo l (L.hull l) k := rfl
      rw [eF] at hf
      rw [eT] at ht
      rw [e0, e1, eF, eT]
      have hkk := hck k
      refine ⟨⟨by decide, by decide⟩, ⟨fun _ _ => rfl, hn⟩, ⟨by decide, by decide⟩, ⟨fun _ _ => rfl, hn⟩, InK.of (by omega) (by omega), by omega, fun hc => ?_, fun hc => ?_⟩
      · have hp : L.isPk l (L.hull l) k = false := by unfold L.isPk; rw [hc]; rfl
        refine ⟨(0 : Nat), rfl, rfl, rfl, rfl, rfl, rfl, ⟨(cnt_not hp).symm, fun i hi => ?_⟩, rfl, by omega⟩
        rw [selN_not hp]
      have hp : L.isPk l (L.hull l) k = true := by unfold L.isPk; rw [hc]; rfl
      refine ⟨ht, ⟨(0, L.pkFrom l (L.hull l) k, L.pkTo l (L.hull l) k), (back_0 ht.1 ht.2).symm, ⟨rfl, fun i hi => ?_⟩, rfl, rfl, hf, ht, Nat.zero_le _⟩, fun g hg => ?_⟩
      · have hi : i < 1 := hi
        obtain rfl : i = 0 := by omega
        dsimp only
        rw [back_0 ht.1 ht.2]; rfl
      obtain ⟨j, fr, to_⟩ := g
      dsimp only at hg ⊢
      obtain ⟨e2, e3, _, _, hj⟩ := hg
      rw [← e2, ← e3] at *
      have hlen := back_end hf.1 hf.2 ht.1 ht.2 hj
      have hb := back_bd (n := l.n) (by omega) ht.1 (j := j) (by omega)
      refine ⟨fun hd => ?_, fun hd => ?_⟩
      · have hd : L.back l.n (L.pkTo l (L.hull l) k) j ≠ L.pkFrom l (L.hull l) k := fun e => by
          rw [decide_eq_true e] at hd; cases hd
        have hne : j ≠ L.pkLen l.n (L.pkFrom l (L.hull l) k) (L.pkTo l (L.hull l) k) := fun e => hd (hlen.1.2 e)
        have hs := back_succ (n := l.n) (by omega) ht.1 (j := j) (by omega)
        have hb2 := back_bd (n := l.n) (by omega) ht.1 (j := j + 1) (by omega)
        rw [hs]
        refine ⟨InK.of (by omega) (by omega), InK.of (by omega) (by omega), by omega, hb2, show (j + 1 + 1) * 16 ≤ 140737488355328 by omega, (j + 1, L.pkFrom l (L.hull l) k, L.pkTo l (L.hull l) k), rfl, rfl, rfl, rfl, rfl, rfl, rfl, rfl, rfl, ⟨rfl, fun i hi => ?_⟩, ⟨rfl, fun _ _ => rfl⟩, rfl, ⟨rfl, rfl, hf, ht, by show j + 1 ≤ L.pkLen l.n (L.pkFrom l (L.hull l) k) (L.pkTo l (L.hull l) k); omega⟩, by show l.n - (j + 1) < l.n - j; omega⟩
        have hi : i < j + 1 + 1 := hi
        unfold appGet
        by_cases h' : i < j + 1
        · rw [if_pos h']
        · rw [if_neg h']
          obtain rfl : i = j + 1 := by omega
          rfl
      · have hd : L.back l.n (L.pkTo l (L.hull l) k) j = L.pkFrom l (L.hull l) k := by
          apply Decidable.byContradiction
          intro e
          rw [decide_eq_false e] at hd; cases hd
        have hje := hlen.1.1 hd
        have hrow : (L.Sq.mk (j + 1) fun (i : Nat) => l.g (L.back l.n (L.pkTo l (L.hull l) k) i).toNat) = L.pkRow l (L.pkFrom l (L.hull l) k) (L.pkTo l (L.hull l) k) := by
          rw [hje]; rfl
        have hj1 : j + 1 = (L.pkRow l (L.pkFrom l (L.hull l) k) (L.pkTo l (L.hull l) k)).n := by rw [← hrow]
        rw [hrow, hj1]
        refine ⟨⟨fun _ _ => rfl, pkRow_small hsm (by omega) hf.1 hf.2 ht.1 ht.2⟩, show (L.cnt (L.isPk l (L.hull l)) k + 1) * 24 ≤ 140737488355328 by omega, (0 : Nat), rfl, rfl, rfl, rfl, rfl, rfl, ⟨(cnt_yes hp).symm, fun i hi => ?_⟩, rfl, by omega⟩
        have hi : i < L.cnt (L.isPk l (L.hull l)) k + 1 := hi
        unfold appGet
        by_cases h' : i < L.cnt (L.isPk l (L.hull l)) k
        · rw [if_pos h', selN_old (Nat.ne_of_lt h')]
        · rw [if_neg h']
          obtain rfl : i = L.cnt (L.isPk l (L.hull l)) k := by omega
          rw [selN_new hp]; rfl
    · have hcn := hck (L.hull l).n
      refine ⟨((L.pks l).n, (L.pks l).g), rfl, ⟨rfl, fun _ _ => rfl⟩, show L.cnt (L.isPk l (L.hull l)) (L.hull l).n ≤ 1000000 by omega, fun u hu => ⟨u, ⟨?_, fun _ _ => rfl⟩, ?_, fun _ => hu⟩⟩
      · unfold L.pkN; rw [hv]; rfl
      · rw [hv]; rfl)
theorem p_Pockets_ok : SpecOk Try.prog 30 p_Pockets_S := relX Try.func30 (c := bodyOf Try.f30) (by kernel_rfl) mixed (fun args p q r hs hp => by
  unfold p_Pockets_s at hs
  split at hs
  · cases hs; exact ⟨_, _, p_Pockets_vc _ hp.2, (.p (.sl hp.1) .nil), ⟨show SpecsL Try.prog _ from (SpecsL.cons p_ValidOutline_ok p_ValidOutline_en (SpecsL.cons p_hull_ok p_hull_en (SpecsL.cons p_triples_ok p_triples_en (SpecsL.cons s_idxPt_ok s_idxPt_en (SpecsL.cons p_area_ok p_area_en (SpecsL.cons p_pk1_ok p_pk1_en SpecsL.nil)))))), rfl, ⟨show ItersL Try.prog _ from (ItersL.cons p_triples1_itok p_triples1_en ItersL.nil), (show TrsL Try.prog _ from (TrsL.cons s_sortK_tok s_sortK_en TrsL.nil))⟩⟩⟩
  · cases hs)
theorem p_Pockets_en : Enters Try.prog 30 := fun args w => by kernel_rfl
end Go.Proofs.Ytkklpamllfkbaaa

namespace Go.Proofs.Ytkklpamllfkbaaa
open Go.SE Go.RowKit
set_option maxRecDepth 100000
set_option maxHeartbeats 4000000
set_option linter.unusedVariables false
attribute [local irreducible] Go.SE.vc

def L.gcd (a b : Int) : Int := ((Nat.gcd a.natAbs b.natAbs : Nat) : Int)
def L.ng (x y : Nat) : Nat := Nat.gcd x y
def L.nabs (a : Int) : Nat := a.natAbs
def L.hit (d n : L.Pt) : Bool := decide (0 < d.x * n.x + d.y * n.y)
def L.free (d : L.Pt) (N : L.Sq L.Pt) : Bool := !L.anyB N.n (fun i => L.hit d (N.g i))
def L.isNrm (p : L.Pt) : Bool := !(decide (p.x = 0) && decide (p.y = 0)) && (L.within p.x (-4096) 4096 && L.within p.y (-4096) 4096)
def L.nrms (N : L.Sq L.Pt) : Prop := N.n ≤ 1000000 ∧ ∀ i, i < N.n → L.isNrm (N.g i) = true
def L.dir (p : L.Pt) (s : Nat) : L.Pt := bif decide (s = 0) then ⟨Int.tdiv (0 - p.y) (L.gcd p.x p.y), Int.tdiv p.x (L.gcd p.x p.y)⟩ else ⟨Int.tdiv p.y (L.gcd p.x p.y), Int.tdiv (0 - p.x) (L.gcd p.x p.y)⟩
def L.cand (N : L.Sq L.Pt) (c : Nat) : L.Pt := L.dir (N.g (c / 2)) (c % 2)
def L.wayI (N : L.Sq L.Pt) : Int := L.idx (2 * N.n) (fun c => L.free (L.cand N c) N)
def L.wayOk (N : L.Sq L.Pt) : Bool := decide (N.n = 0) || decide (0 ≤ L.wayI N)
def L.wayD (N : L.Sq L.Pt) : L.Pt := bif decide (N.n = 0) then ⟨1, 0⟩ else bif decide (0 ≤ L.wayI N) then L.cand N (L.wayI N).toNat else ⟨0, 0⟩
theorem isNrm_of {p : L.Pt} (h : L.isNrm p = true) : ((-4096 ≤ p.x ∧ p.x ≤ 4096) ∧ (-4096 ≤ p.y ∧ p.y ≤ 4096)) ∧ 1 ≤ L.gcd p.x p.y ∧ L.bd p := by
  unfold L.isNrm L.within at h
  simp only [Bool.and_eq_true, Bool.not_eq_true', Bool.and_eq_false_iff, decide_eq_true_eq, decide_eq_false_iff_not] at h
  obtain ⟨h1, h2, h3⟩ := h
  have hg : 0 < Nat.gcd p.x.natAbs p.y.natAbs := by
    rcases h1 with h1 | h1
    · exact Nat.gcd_pos_of_pos_left _ (by omega)
    · exact Nat.gcd_pos_of_pos_right _ (by omega)
  refine ⟨⟨h2, h3⟩, ?_, ?_⟩
  · unfold L.gcd; omega
  · unfold L.bd; omega
theorem tdiv_bd {a g : Int} (h0 : -4096 ≤ a) (h1 : a ≤ 4096) (hg : 1 ≤ g) : -4096 ≤ Int.tdiv a g ∧ Int.tdiv a g ≤ 4096 := by
  have h : (Int.tdiv a g).natAbs = a.natAbs / g.natAbs := Int.natAbs_tdiv a g
  have h2 : a.natAbs / g.natAbs ≤ a.natAbs := Nat.div_le_self _ _
  omega
theorem cand_eq (N : L.Sq L.Pt) (g : Nat) {s : Nat} (h : s < 2) : L.cand N (2 * g + s) = L.dir (N.g g) s := by
  unfold L.cand
  rw [show (2 * g + s) / 2 = g by omega, show (2 * g + s) % 2 = s by omega]
theorem way_at {N : L.Sq L.Pt} {c : Nat} (h0 : ∀ j, j < c → L.free (L.cand N j) N = false) (hi : L.free (L.cand N c) N = true) (hc : c < 2 * N.n) : L.wayD N = L.cand N c ∧ L.wayOk N = true := by
  have e : L.wayI N = (c : Int) := idx_at (f := fun c => L.free (L.cand N c) N) h0 hi hc
  have hd : decide (N.n = 0) = false := decide_eq_false (by omega)
  unfold L.wayD L.wayOk
  rw [e, hd, decide_eq_true (show (0 : Int) ≤ (c : Int) by omega)]
  exact ⟨by show L.cand N (c : Int).toNat = _; rw [Int.toNat_natCast], rfl⟩
theorem way_no {N : L.Sq L.Pt} (h1 : 0 < N.n) (h0 : ∀ j, j < 2 * N.n → L.free (L.cand N j) N = false) : L.wayD N = ⟨0, 0⟩ ∧ L.wayOk N = false := by
  have e : L.wayI N = -1 := idx_none (f := fun c => L.free (L.cand N c) N) h0
  have hd : decide (N.n = 0) = false := decide_eq_false (by omega)
  unfold L.wayD L.wayOk
  rw [e, hd]
  exact ⟨rfl, rfl⟩
theorem way_0 {N : L.Sq L.Pt} (h : N.n = 0) : L.wayD N = ⟨1, 0⟩ ∧ L.wayOk N = true := by
  unfold L.wayD L.wayOk
  rw [decide_eq_true h]
  exact ⟨rfl, rfl⟩
theorem dir_bd {p : L.Pt} (h : L.isNrm p = true) (s : Nat) : L.bd (L.dir p s) := by
  obtain ⟨⟨⟨a1, a2⟩, b1, b2⟩, hg, _⟩ := isNrm_of h
  have t1 := tdiv_bd (a := p.x) (g := L.gcd p.x p.y) a1 a2 hg
  have t2 := tdiv_bd (a := p.y) (g := L.gcd p.x p.y) b1 b2 hg
  have t3 := tdiv_bd (a := 0 - p.x) (g := L.gcd p.x p.y) (by omega) (by omega) hg
  have t4 := tdiv_bd (a := 0 - p.y) (g := L.gcd p.x p.y) (by omega) (by omega) hg
  unfold L.dir
  cases decide (s = 0)
  · unfold L.bd; simp only [cond_false]; omega
  · unfold L.bd; simp only [cond_true]; omega
def p_gcd_p (a : Int) (b : Int) : Prop := (-4611686018427387904 ≤ a ∧ a ≤ 4611686018427387904) ∧ -4611686018427387904 ≤ b ∧ b ≤ 4611686018427387904
def p_gcd_r (a : Int) (b : Int) : SV := .int .i64 (L.gcd a b)
def p_gcd_s : List EV → Option (Prop × SV)
  | [.p (.int .i64 a), .p (.int .i64 b)] => some (p_gcd_p a b, p_gcd_r a b)
  | _ => none
abbrev p_gcd_S : SE.Spec := (specO p_gcd_s)
def p_gcd_C : Cfg := { muts := [], frz := lookN [], specs := lookS [], loops := fun _ => none, iters := lookI [], rfs := lookR [], nils := lookM [] }
theorem p_gcd_vc (a : Int) (b : Int) (hp : p_gcd_p a b) : vc Try.prog ({ p_gcd_C with loops := lookL [(2, { T := Nat × Nat, keep := [], keepO := [], chg := fun g => [(0, .p (.int .i64 (g.1 : Int))), (1, .p (.int .i64 (g.2 : Int)))], own := fun _ => [], inv := fun g => L.ng g.1 g.2 = L.ng (L.nabs a) (L.nabs b) ∧ g.1 ≤ 4611686018427387904 ∧ g.2 ≤ 4611686018427387904, mu := fun g => g.2 })], rfs := lookR [] }) (bodyOf Try.f76) (st0 Try.f76 [.p (.int .i64 a), .p (.int .i64 b)]) (retFn Try.prog Try.f76 (p_gcd_r a b)) :=
  @Eq.mpr _ (Go.SE.InK Go.IntKind.i64 ((0 : Int) - a) ∧ Go.SE.InK Go.IntKind.i64 ((0 : Int) - b) ∧ (∃ (g : Nat × Nat), Max.max a ((0 : Int) - a) = (↑g.1 : Int) ∧ Max.max b ((0 : Int) - b) = (↑g.2 : Int) ∧ L.ng g.1 g.2 = L.ng (L.nabs a) (L.nabs b) ∧ g.1 ≤ (4611686018427387904 : Nat) ∧ g.2 ≤ (4611686018427387904 : Nat)) ∧ ∀ (g : Nat × Nat), L.ng g.1 g.2 = L.ng (L.nabs a) (L.nabs b) ∧ g.1 ≤ (4611686018427387904 :
 Nat) ∧ g.2 ≤ (4611686018427387904 : Nat) → (Decidable.decide ((0 : Int) < (↑g.2 : Int)) = Bool.true → (↑g.2 : Int) ≠ (0 : Int) ∧ ∃ (g' : Nat × Nat), (↑g.2 : Int) = (↑g'.1 : Int) ∧ Int.tmod (↑g.1 : Int) (↑g.2 : Int) = (↑g'.2 : Int) ∧ (L.ng g'.1 g'.2 = L.ng (L.nabs a) (L.nabs b) ∧ g'.1 ≤ (4611686018427387904 : Nat) ∧ g'.2 ≤ (4611686018427387904 : Nat)) ∧ g'.2 < g.2) ∧ (Decidable.decide ((0 : Int) <
 (↑g.2 : Int)) = Bool.false → (↑g.1 : Int) = L.gcd a b)) (by kernel_rfl) (by
    obtain ⟨⟨a1, a2⟩, b1, b2⟩ := hp
    refine ⟨InK.of (by omega) (by omega), InK.of (by omega) (by omega), ⟨(a.natAbs, b.natAbs), by show max a (0 - a) = ((a.natAbs : Nat) : Int); omega, by show max b (0 - b) = ((b.natAbs : Nat) : Int); omega, rfl, by show a.natAbs ≤ 4611686018427387904; omega, by show b.natAbs ≤ 4611686018427387904; omega⟩, ?_⟩
    rintro ⟨x, y⟩ ⟨h1, h2, h3⟩
    have h1 : Nat.gcd x y = Nat.gcd a.natAbs b.natAbs := h1
    have h2 : x ≤ 4611686018427387904 := h2
    have h3 : y ≤ 4611686018427387904 := h3
    refine ⟨fun hd => ?_, fun hd => ?_⟩
    · have hd : (0 : Int) < (y : Int) := of_decide_eq_true hd
      have hm : x % y < y := Nat.mod_lt _ (by omega)
      refine ⟨by show (y : Int) ≠ 0; omega, (y, x % y), rfl, rfl, ⟨?_, h3, by show x % y ≤ 4611686018427387904; omega⟩, hm⟩
      show Nat.gcd y (x % y) = Nat.gcd a.natAbs b.natAbs
      rw [← h1, Nat.gcd_comm y (x % y), ← Nat.gcd_rec y x, Nat.gcd_comm y x]
    · have hd : ¬ (0 : Int) < (y : Int) := of_decide_eq_false hd
      obtain rfl : y = 0 := by omega
      rw [Nat.gcd_zero_right] at h1
      show (x : Int) = L.gcd a b
      unfold L.gcd
      rw [h1])
theorem p_gcd_ok : SpecOk Try.prog 76 p_gcd_S := fnX Try.func76 (c := bodyOf Try.f76) (by kernel_rfl) mixed (fun args p r hs hp => by
  unfold p_gcd_s at hs
  split at hs
  · cases hs; exact ⟨_, _, p_gcd_vc _ _ hp, (.same _ (.same _ .nil)), ⟨show SpecsL Try.prog _ from SpecsL.nil, rfl, ⟨show ItersL Try.prog _ from ItersL.nil, (TrsOk.none (fun _ => rfl))⟩⟩⟩
  · cases hs)
theorem p_gcd_en : Enters Try.prog 76 := fun args w => by kernel_rfl
theorem p_gcd_I : ∀ args p r, p_gcd_s args = some (p, r) → ∃ n, r = .int .i64 n := by
  intro args p r h
  unfold p_gcd_s at h
  split at h
  · cases h; exact ⟨_, rfl⟩
  · cases h
def p_free1_p (n : L.Pt) (d : L.Pt) : Prop := L.bd n ∧ L.bd d
def p_free1_r (n : L.Pt) (d : L.Pt) : SV := .bool (L.hit d n)
def p_free1_s : List EV → Option (Prop × SV)
  | [.p (.agg [.int .i64 n_x, .int .i64 n_y]), .p (.ref [.int .i64 d_x, .int .i64 d_y] 0)] => some (p_free1_p (⟨n_x, n_y⟩ : L.Pt) (⟨d_x, d_y⟩ : L.Pt), p_free1_r (⟨n_x, n_y⟩ : L.Pt) (⟨d_x, d_y⟩ : L.Pt))
  | _ => none
abbrev p_free1_S : SE.Spec := (specO p_free1_s)
def p_free1_C : Cfg := { muts := [], frz := lookN [], specs := lookS [], loops := lookL [], iters := lookI [], rfs := lookR [], nils := lookM [] }
theorem p_free1_vc (n : L.Pt) (d : L.Pt) (hp : p_free1_p n d) : vc Try.prog (p_free1_C) (bodyOf Try.f92) (st0 Try.f92 [.p (.agg [.int .i64 n.x, .int .i64 n.y]), .p (.ref [.int .i64 d.x, .int .i64 d.y] 0)]) (retFn Try.prog Try.f92 (p_free1_r n d)) :=
  @Eq.mpr _ (Go.SE.InK Go.IntKind.i64 (d.x * n.x) ∧ Go.SE.InK Go.IntKind.i64 (d.y * n.y) ∧ Go.SE.InK Go.IntKind.i64 (d.x * n.x + d.y * n.y) ∧ Decidable.decide ((0 : Int) < d.x * n.x + d.y * n.y) = L.hit d n) (by kernel_rfl) (by
    obtain ⟨h1, h2⟩ := hp
    unfold L.bd at h1 h2
    have m1 := mul_bd (a := d.x) (b := n.x) (m := 4000000) (n := 4000000) (by omega) (by omega) (by omega) (by omega)
    have m2 := mul_bd (a := d.y) (b := n.y) (m := 4000000) (n := 4000000) (by omega) (by omega) (by omega) (by omega)
    exact ⟨InK.of (by omega) (by omega), InK.of (by omega) (by omega), InK.of (by omega) (by omega), rfl⟩)
theorem p_free1_ok : SpecOk Try.prog 92 p_free1_S := fnX Try.func92 (c := bodyOf Try.f92) (by kernel_rfl) mixed (fun args p r hs hp => by
  unfold p_free1_s at hs
  split at hs
  · cases hs; exact ⟨_, _, p_free1_vc _ _ hp, (.same _ (.same _ .nil)), ⟨show SpecsL Try.prog _ from SpecsL.nil, rfl, ⟨show ItersL Try.prog _ from ItersL.nil, (TrsOk.none (fun _ => rfl))⟩⟩⟩
  · cases hs)
theorem p_free1_en : Enters Try.prog 92 := fun args w => by kernel_rfl
theorem p_free1_B : ∀ args p r, p_free1_s args = some (p, r) → ∃ b, r = .bool b := by
  intro args p r h
  unfold p_free1_s at h
  split at h
  · cases h; exact ⟨_, rfl⟩
  · cases h
def p_free_p (d : L.Pt) (l : (L.Sq L.Pt)) : Prop := l.n ≤ 1000000 ∧ L.bd d ∧ ∀ i, i < l.n → L.bd (l.g i)
def p_free_r (d : L.Pt) (l : (L.Sq L.Pt)) : SV := .bool (L.free d l)
def p_free_s : List EV → Option (Prop × SV)
  | [.p (.agg [.int .i64 d_x, .int .i64 d_y]), .p (.sl 2 l_n l_g)] => some ((∀ i, i < l_n → l_g i = [.int .i64 ((ofPt (l_g i)).x), .int .i64 ((ofPt (l_g i)).y)]) ∧ p_free_p (⟨d_x, d_y⟩ : L.Pt) (⟨l_n, fun i => ofPt (l_g i)⟩ : (L.Sq L.Pt)), p_free_r (⟨d_x, d_y⟩ : L.Pt) (⟨l_n, fun i => ofPt (l_g i)⟩ : (L.Sq L.Pt)))
  | _ => none
abbrev p_free_S : SE.Spec := (specO p_free_s)
def p_free_C : Cfg := { muts := [], frz := lookN [], specs := lookS [(49, s_conFP_S), (92, p_free1_S)], loops := lookL [], iters := lookI [], rfs := lookR [], nils := lookM [] }
theorem p_free_vc (d : L.Pt) (l : (L.Sq L.Pt)) (hp : p_free_p d l) : vc Try.prog (p_free_C) (bodyOf Try.f77) (st0 Try.f77 [.p (.agg [.int .i64 d.x, .int .i64 d.y]), .p (.sl 2 l.n (fun i => [.int .i64 ((l.g i).x), .int .i64 ((l.g i).y)]))]) (retFn Try.prog Try.f77 (p_free_r d l)) :=
  @Eq.mpr _ (((∀ (i : Nat), i < l.n → [Go.SE.SV.int Go.IntKind.i64 (l.g i).x, Go.SE.SV.int Go.IntKind.i64 (l.g i).y] = [Go.SE.SV.int Go.IntKind.i64 (l.g i).x, Go.SE.SV.int Go.IntKind.i64 (l.g i).y]) ∧ Go.SE.isB (Go.SE.FSpec.mk (fun («as» : List Go.SE.SV) ↦ Go.SE.preO p_free1_s (List.map Go.SE.EV.p «as» ++ List.map Go.SE.EV.p [Go.SE.SV.ref [Go.SE.SV.int Go.IntKind.i64 d.x, Go.SE.SV.int Go.IntKind.i64 d.y]
 (nat_lit 0)])) fun («as» : List Go.SE.SV) ↦ Go.SE.resO p_free1_s (List.map Go.SE.EV.p «as» ++ List.map Go.SE.EV.p [Go.SE.SV.ref [Go.SE.SV.int Go.IntKind.i64 d.x, Go.SE.SV.int Go.IntKind.i64 d.y] (nat_lit 0)])) ∧ l.n ≤ (1000000 : Nat) ∧ ∀ (i : Nat), i < l.n → L.bd (l.g i) ∧ L.bd d) ∧ (!L.anyB l.n fun (i : Nat) ↦ L.fbl (Go.SE.FSpec.mk (fun («as» : List Go.SE.SV) ↦ Go.SE.preO p_free1_s (List.map
 Go.SE.EV.p «as» ++ List.map Go.SE.EV.p [Go.SE.SV.ref [Go.SE.SV.int Go.IntKind.i64 d.x, Go.SE.SV.int Go.IntKind.i64 d.y] (nat_lit 0)])) fun («as» : List Go.SE.SV) ↦ Go.SE.resO p_free1_s (List.map Go.SE.EV.p «as» ++ List.map Go.SE.EV.p [Go.SE.SV.ref [Go.SE.SV.int Go.IntKind.i64 d.x, Go.SE.SV.int Go.IntKind.i64 d.y] (nat_lit 0)])) [Go.SE.SV.agg [Go.SE.SV.int Go.IntKind.i64 (l.g i).x, Go.SE.SV.int
 Go.IntKind.i64 (l.g i).y]]) = L.free d l) (by kernel_rfl) (by
    obtain ⟨h1, h2, h3⟩ := hp
    exact ⟨⟨fun _ _ => rfl, isB_of p_free1_B _, h1, fun i hi => ⟨h3 i hi, h2⟩⟩, rfl⟩)
theorem p_free_ok : SpecOk Try.prog 77 p_free_S := fnX Try.func77 (c := bodyOf Try.f77) (by kernel_rfl) mixed (fun args p r hs hp => by
  unfold p_free_s at hs
  split at hs
  · cases hs; exact ⟨_, _, p_free_vc _ _ hp.2, (.same _ (.p (.sl hp.1) .nil)), ⟨show SpecsL Try.prog _ from (SpecsL.cons s_conFP_ok s_conFP_en (SpecsL.cons p_free1_ok p_free1_en SpecsL.nil)), rfl, ⟨show ItersL Try.prog _ from ItersL.nil, (TrsOk.none (fun _ => rfl))⟩⟩⟩
  · cases hs)
theorem p_free_en : Enters Try.prog 77 := fun args w => by kernel_rfl
theorem p_free_B : ∀ args p r, p_free_s args = some (p, r) → ∃ b, r = .bool b := by
  intro args p r h
  unfold p_free_s at h
  split at h
  · cases h; exact ⟨_, rfl⟩
  · cases h
def p_way_p (l : (L.Sq L.Pt)) : Prop := L.nrms l
def p_way_r (l : (L.Sq L.Pt)) : SV := .tup [.agg [.int .i64 (L.wayD l).x, .int .i64 (L.wayD l).y], .bool (L.wayOk l)]
def p_way_s : List EV → Option (Prop × SV)
  | [.p (.sl 2 l_n l_g)] => some ((∀ i, i < l_n → l_g i = [.int .i64 ((ofPt (l_g i)).x), .int .i64 ((ofPt (l_g i)).y)]) ∧ p_way_p (⟨l_n, fun i => ofPt (l_g i)⟩ : (L.Sq L.Pt)), p_way_r (⟨l_n, fun i => ofPt (l_g i)⟩ : (L.Sq L.Pt)))
  | _ => none
abbrev p_way_S : SE.Spec := (specO p_way_s)
def p_way_C : Cfg := { muts := [2, 5, 8], frz := lookN [], specs := lookS [(76, p_gcd_S), (77, p_free_S)], loops := fun _ => none, iters := lookI [], rfs := lookR [], nils := lookM [] }
theorem p_way_vc (l : (L.Sq L.Pt)) (hp : p_way_p l) : vc Try.prog ({ p_way_C with loops := lookL [(4, { T := Nat, keep := [0, 2, 13, 14], keepO := [2], chg := fun i => [(15, .p (.int .i64 (i : Int)))], own := fun _ => [], inv := fun i => i ≤ l.n ∧ ∀ c, c < 2 * i → L.free (L.cand l c) l = false, mu := fun i => l.n - i }), (8, { T := Nat × Nat, keep := [0, 2, 5, 13, 14, 15, 45], keepO := [2, 5], tie := fun g => [(15, .int .i64 (g.1 : Int))], chg := fun g => [(46, .p (.int .i64 (g.2 : Int))), (44, .p (.sl 2 2 (fun s => [.int .i64 ((L.dir (l.g g.1) s).x), .int .i64 ((L.dir (l.g g.1) s).y)])))], own := fun _ => [], inv := fun g => g.1 < l.n ∧ g.2 ≤ 2 ∧ ∀ c, c < 2 * g.1 + g.2 → L.free (L.cand l c) l = false, mu := fun g => 2 - g.2 })], rfs := lookR [] }) (bodyOf Try.f50) (st0 Try.f50 [.p (.sl 2 l.n (fun i => [.int .i64 ((l.g i).x), .int .i64 ((l.g i).y)]))]) (retFn Try.prog Try.f50 (p_way_r l)) :=
  @Eq.mpr _ ((Decidable.decide ((↑l.n : Int) = (0 : Int)) = Bool.true → Go.SE.SV.agg [Go.SE.SV.int Go.IntKind.i64 (1 : Int), Go.SE.SV.int Go.IntKind.i64 (0 : Int)] = Go.SE.SV.agg [Go.SE.SV.int Go.IntKind.i64 (L.wayD l).x, Go.SE.SV.int Go.IntKind.i64 (L.wayD l).y] ∧ Bool.true = L.wayOk l) ∧ (Decidable.decide ((↑l.n : Int) = (0 : Int)) = Bool.false → (∃ (g : Nat), (0 : Int) = (↑g : Int) ∧ g ≤ l.n ∧ ∀ (c : Nat),
 c < (2 : Nat) * g → L.free (L.cand l c) l = Bool.false) ∧ ∀ (g : Nat), (g ≤ l.n ∧ ∀ (c : Nat), c < (2 : Nat) * g → L.free (L.cand l c) l = Bool.false) → (Decidable.decide ((↑g : Int) < (↑l.n : Int)) = Bool.true → ((0 : Int) ≤ (↑g : Int) ∧ (↑g : Int) < (↑l.n : Int)) ∧ (((-4611686018427387904 : Int) ≤ (l.g (Int.toNat (↑g : Int))).x ∧ (l.g (Int.toNat (↑g : Int))).x ≤ (4611686018427387904 : Int)) ∧
 (-4611686018427387904 : Int) ≤ (l.g (Int.toNat (↑g : Int))).y ∧ (l.g (Int.toNat (↑g : Int))).y ≤ (4611686018427387904 : Int)) ∧ Go.SE.InK Go.IntKind.i64 ((0 : Int) - (l.g (Int.toNat (↑g : Int))).y) ∧ L.gcd (l.g (Int.toNat (↑g : Int))).x (l.g (Int.toNat (↑g : Int))).y ≠ (0 : Int) ∧ Go.SE.InK Go.IntKind.i64 (Int.tdiv ((0 : Int) - (l.g (Int.toNat (↑g : Int))).y) (L.gcd (l.g (Int.toNat (↑g : Int))).x
 (l.g (Int.toNat (↑g : Int))).y)) ∧ L.gcd (l.g (Int.toNat (↑g : Int))).x (l.g (Int.toNat (↑g : Int))).y ≠ (0 : Int) ∧ Go.SE.InK Go.IntKind.i64 (Int.tdiv (l.g (Int.toNat (↑g : Int))).x (L.gcd (l.g (Int.toNat (↑g : Int))).x (l.g (Int.toNat (↑g : Int))).y)) ∧ L.gcd (l.g (Int.toNat (↑g : Int))).x (l.g (Int.toNat (↑g : Int))).y ≠ (0 : Int) ∧ Go.SE.InK Go.IntKind.i64 (Int.tdiv (l.g (Int.toNat (↑g :
 Int))).y (L.gcd (l.g (Int.toNat (↑g : Int))).x (l.g (Int.toNat (↑g : Int))).y)) ∧ Go.SE.InK Go.IntKind.i64 ((0 : Int) - (l.g (Int.toNat (↑g : Int))).x) ∧ L.gcd (l.g (Int.toNat (↑g : Int))).x (l.g (Int.toNat (↑g : Int))).y ≠ (0 : Int) ∧ Go.SE.InK Go.IntKind.i64 (Int.tdiv ((0 : Int) - (l.g (Int.toNat (↑g : Int))).x) (L.gcd (l.g (Int.toNat (↑g : Int))).x (l.g (Int.toNat (↑g : Int))).y)) ∧ (∃ (g_1 :
 Nat × Nat), (0 : Int) = (↑g_1.2 : Int) ∧ (nat_lit 2 = (2 : Nat) ∧ ∀ (i : Nat), i < nat_lit 2 → Go.SE.rowsOf [Go.SE.SV.int Go.IntKind.i64 (Int.tdiv ((0 : Int) - (l.g (Int.toNat (↑g : Int))).y) (L.gcd (l.g (Int.toNat (↑g : Int))).x (l.g (Int.toNat (↑g : Int))).y)), Go.SE.SV.int Go.IntKind.i64 (Int.tdiv (l.g (Int.toNat (↑g : Int))).x (L.gcd (l.g (Int.toNat (↑g : Int))).x (l.g (Int.toNat (↑g :
 Int))).y)), Go.SE.SV.int Go.IntKind.i64 (Int.tdiv (l.g (Int.toNat (↑g : Int))).y (L.gcd (l.g (Int.toNat (↑g : Int))).x (l.g (Int.toNat (↑g : Int))).y)), Go.SE.SV.int Go.IntKind.i64 (Int.tdiv ((0 : Int) - (l.g (Int.toNat (↑g : Int))).x) (L.gcd (l.g (Int.toNat (↑g : Int))).x (l.g (Int.toNat (↑g : Int))).y))] (nat_lit 2) i = [Go.SE.SV.int Go.IntKind.i64 (L.dir (l.g g_1.1) i).x, Go.SE.SV.int
 Go.IntKind.i64 (L.dir (l.g g_1.1) i).y]) ∧ (↑g : Int) = (↑g_1.1 : Int) ∧ g_1.1 < l.n ∧ g_1.2 ≤ (2 : Nat) ∧ ∀ (c : Nat), c < (2 : Nat) * g_1.1 + g_1.2 → L.free (L.cand l c) l = Bool.false) ∧ ∀ (g_1 : Nat × Nat), ((↑g : Int) = (↑g_1.1 : Int) ∧ g_1.1 < l.n ∧ g_1.2 ≤ (2 : Nat) ∧ ∀ (c : Nat), c < (2 : Nat) * g_1.1 + g_1.2 → L.free (L.cand l c) l = Bool.false) → (Decidable.decide ((↑g_1.2 : Int) < (↑(2
 : Nat) : Int)) = Bool.true → ((0 : Int) ≤ (↑g_1.2 : Int) ∧ (↑g_1.2 : Int) < (↑(nat_lit 2) : Int)) ∧ ((∀ (i : Nat), i < l.n → [Go.SE.SV.int Go.IntKind.i64 (l.g i).x, Go.SE.SV.int Go.IntKind.i64 (l.g i).y] = [Go.SE.SV.int Go.IntKind.i64 (l.g i).x, Go.SE.SV.int Go.IntKind.i64 (l.g i).y]) ∧ l.n ≤ (1000000 : Nat) ∧ L.bd (L.dir (l.g g_1.1) (Int.toNat (↑g_1.2 : Int))) ∧ ∀ (i : Nat), i < l.n → L.bd (l.g
 i)) ∧ (L.free (L.dir (l.g g_1.1) (Int.toNat (↑g_1.2 : Int))) (L.Sq.mk l.n fun (i : Nat) ↦ l.g i) = Bool.true → Go.SE.SV.agg [Go.SE.SV.int Go.IntKind.i64 (L.dir (l.g g_1.1) (Int.toNat (↑g_1.2 : Int))).x, Go.SE.SV.int Go.IntKind.i64 (L.dir (l.g g_1.1) (Int.toNat (↑g_1.2 : Int))).y] = Go.SE.SV.agg [Go.SE.SV.int Go.IntKind.i64 (L.wayD l).x, Go.SE.SV.int Go.IntKind.i64 (L.wayD l).y] ∧ Bool.true =
 L.wayOk l) ∧ (L.free (L.dir (l.g g_1.1) (Int.toNat (↑g_1.2 : Int))) (L.Sq.mk l.n fun (i : Nat) ↦ l.g i) = Bool.false → Go.SE.InK Go.IntKind.i64 ((↑g_1.2 : Int) + (1 : Int)) ∧ ∃ (g' : Nat × Nat), (↑g_1.2 : Int) + (1 : Int) = (↑g'.2 : Int) ∧ (nat_lit 2 = (2 : Nat) ∧ ∀ (i : Nat), i < nat_lit 2 → [Go.SE.SV.int Go.IntKind.i64 (L.dir (l.g g_1.1) i).x, Go.SE.SV.int Go.IntKind.i64 (L.dir (l.g g_1.1) i).y]
 = [Go.SE.SV.int Go.IntKind.i64 (L.dir (l.g g'.1) i).x, Go.SE.SV.int Go.IntKind.i64 (L.dir (l.g g'.1) i).y]) ∧ (↑(2 : Nat) : Int) = (↑(2 : Nat) : Int) ∧ nat_lit 0 = nat_lit 0 ∧ (↑g : Int) = (↑g : Int) ∧ (↑l.n : Int) = (↑l.n : Int) ∧ (l.n = l.n ∧ ∀ (i : Nat), i < l.n → [Go.SE.SV.int Go.IntKind.i64 (l.g i).x, Go.SE.SV.int Go.IntKind.i64 (l.g i).y] = [Go.SE.SV.int Go.IntKind.i64 (l.g i).x,
 Go.SE.SV.int Go.IntKind.i64 (l.g i).y]) ∧ nat_lit 0 = nat_lit 0 ∧ (l.n = l.n ∧ ∀ (i : Nat), i < l.n → [Go.SE.SV.int Go.IntKind.i64 (l.g i).x, Go.SE.SV.int Go.IntKind.i64 (l.g i).y] = [Go.SE.SV.int Go.IntKind.i64 (l.g i).x, Go.SE.SV.int Go.IntKind.i64 (l.g i).y]) ∧ (l.g (Int.toNat (↑g : Int))).x = (l.g (Int.toNat (↑g : Int))).x ∧ (l.g (Int.toNat (↑g : Int))).y = (l.g (Int.toNat (↑g : Int))).y ∧ (0
 : Int) = (0 : Int) ∧ (0 : Int) = (0 : Int) ∧ ((↑g : Int) = (↑g'.1 : Int) ∧ g'.1 < l.n ∧ g'.2 ≤ (2 : Nat) ∧ ∀ (c : Nat), c < (2 : Nat) * g'.1 + g'.2 → L.free (L.cand l c) l = Bool.false) ∧ (2 : Nat) - g'.2 < (2 : Nat) - g_1.2)) ∧ (Decidable.decide ((↑g_1.2 : Int) < (↑(2 : Nat) : Int)) = Bool.false → Go.SE.InK Go.IntKind.i64 ((↑g : Int) + (1 : Int)) ∧ ∃ (g' : Nat), (↑g : Int) + (1 : Int) = (↑g' :
 Int) ∧ (↑l.n : Int) = (↑l.n : Int) ∧ (l.n = l.n ∧ ∀ (i : Nat), i < l.n → [Go.SE.SV.int Go.IntKind.i64 (l.g i).x, Go.SE.SV.int Go.IntKind.i64 (l.g i).y] = [Go.SE.SV.int Go.IntKind.i64 (l.g i).x, Go.SE.SV.int Go.IntKind.i64 (l.g i).y]) ∧ nat_lit 0 = nat_lit 0 ∧ (l.n = l.n ∧ ∀ (i : Nat), i < l.n → [Go.SE.SV.int Go.IntKind.i64 (l.g i).x, Go.SE.SV.int Go.IntKind.i64 (l.g i).y] = [Go.SE.SV.int
 Go.IntKind.i64 (l.g i).x, Go.SE.SV.int Go.IntKind.i64 (l.g i).y]) ∧ (0 : Int) = (0 : Int) ∧ (0 : Int) = (0 : Int) ∧ (g' ≤ l.n ∧ ∀ (c : Nat), c < (2 : Nat) * g' → L.free (L.cand l c) l = Bool.false) ∧ l.n - g' < l.n - g)) ∧ (Decidable.decide ((↑g : Int) < (↑l.n : Int)) = Bool.false → Go.SE.SV.agg [Go.SE.SV.int Go.IntKind.i64 (0 : Int), Go.SE.SV.int Go.IntKind.i64 (0 : Int)] = Go.SE.SV.agg
 [Go.SE.SV.int Go.IntKind.i64 (L.wayD l).x, Go.SE.SV.int Go.IntKind.i64 (L.wayD l).y] ∧ Bool.false = L.wayOk l))) (by kernel_rfl) (by
    obtain ⟨hn, hN⟩ := hp
    refine ⟨fun h0 => ?_, fun h0 => ?_⟩
    · have h0 : ((l.n : Nat) : Int) = 0 := of_decide_eq_true h0
      obtain ⟨e1, e2⟩ := way_0 (N := l) (by omega)
      rw [e1, e2]; exact ⟨rfl, rfl⟩
    have h0 : ¬ ((l.n : Nat) : Int) = 0 := of_decide_eq_false h0
    refine ⟨⟨(0 : Nat), rfl, Nat.zero_le _, fun c hc => absurd hc (Nat.not_lt_zero _)⟩, fun g hg => ⟨fun hlt => ?_, fun hge => ?_⟩⟩
    · obtain ⟨hg1, hg2⟩ := hg
      have hb : (g : Int) < (l.n : Int) := of_decide_eq_true hlt
      have e0 : ((g : Int)).toNat = g := by omega
      have hgl : g < l.n := by omega
      obtain ⟨⟨⟨a1, a2⟩, b1, b2⟩, hgc, _⟩ := isNrm_of (hN g hgl)
      have t1 := tdiv_bd (a := (l.g g).x) (g := L.gcd (l.g g).x (l.g g).y) a1 a2 hgc
      have t2 := tdiv_bd (a := (l.g g).y) (g := L.gcd (l.g g).x (l.g g).y) b1 b2 hgc
      have t3 := tdiv_bd (a := 0 - (l.g g).x) (g := L.gcd (l.g g).x (l.g g).y) (by omega) (by omega) hgc
      have t4 := tdiv_bd (a := 0 - (l.g g).y) (g := L.gcd (l.g g).x (l.g g).y) (by omega) (by omega) hgc
      rw [e0]
      refine ⟨⟨by omega, hb⟩, ⟨⟨by omega, by omega⟩, by omega, by omega⟩, InK.of (by omega) (by omega), by omega, InK.of (by omega) (by omega), by omega, InK.of (by omega) (by omega), by omega, InK.of (by omega) (by omega), InK.of (by omega) (by omega), by omega, InK.of (by omega) (by omega), ⟨(g, 0), rfl, ⟨rfl, fun i hi => ?_⟩, rfl, hgl, Nat.zero_le _, hg2⟩, fun h hh => ?_⟩
      · match i, hi with
        | 0, _ => rfl
        | 1, _ => rfl
      obtain ⟨g0, s⟩ := h
      obtain ⟨e1, q1, q2, q3⟩ := hh
      have e1 : (g : Int) = (g0 : Int) := e1
      obtain rfl : g = g0 := by omega
      have q2 : s ≤ 2 := q2
      have q3 : ∀ c, c < 2 * g + s → L.free (L.cand l c) l = false := q3
      have es : ((s : Int)).toNat = s := by omega
      dsimp only
      rw [es]
      refine ⟨fun hs => ?_, fun hs => ?_⟩
      · have hs : (s : Int) < (2 : Int) := of_decide_eq_true hs
        have hs2 : s < 2 := by omega
        have hc := cand_eq l g hs2
        refine ⟨⟨by omega, hs⟩, ⟨fun _ _ => rfl, hn, dir_bd (hN g hgl) s, fun i hi => (isNrm_of (hN i hi)).2.2⟩, fun hf => ?_, fun hf => ?_⟩
        · rw [← hc] at hf
          obtain ⟨w1, w2⟩ := way_at q3 hf (by omega)
          rw [w1, w2, hc]; exact ⟨rfl, rfl⟩
        · rw [← hc] at hf
          refine ⟨InK.of (by omega) (by omega), (g, s + 1), by show (s : Int) + 1 = ((s + 1 : Nat) : Int); omega, ⟨rfl, fun _ _ => rfl⟩, rfl, rfl, rfl, rfl, ⟨rfl, fun _ _ => rfl⟩, rfl, ⟨rfl, fun _ _ => rfl⟩, rfl, rfl, rfl, rfl, ⟨rfl, q1, by show s + 1 ≤ 2; omega, fun c hc' => ?_⟩, by show 2 - (s + 1) < 2 - s; omega⟩
          have hc' : c < 2 * g + s + 1 := hc'
          rcases Nat.lt_succ_iff_lt_or_eq.1 hc' with h | rfl
          · exact q3 c h
          · exact hf
      · have hs : ¬ (s : Int) < (2 : Int) := of_decide_eq_false hs
        obtain rfl : s = 2 := by omega
        exact ⟨InK.of (by omega) (by omega), g + 1, by omega, rfl, ⟨rfl, fun _ _ => rfl⟩, rfl, ⟨rfl, fun _ _ => rfl⟩, rfl, rfl, ⟨by omega, fun c hc => q3 c (by omega)⟩, by omega⟩
    · obtain ⟨hg1, hg2⟩ := hg
      have hb : ¬ (g : Int) < (l.n : Int) := of_decide_eq_false hge
      obtain rfl : g = l.n := by omega
      obtain ⟨w1, w2⟩ := way_no (N := l) (by omega) hg2
      rw [w1, w2]; exact ⟨rfl, rfl⟩)
theorem p_way_ok : SpecOk Try.prog 50 p_way_S := fnX Try.func50 (c := bodyOf Try.f50) (by kernel_rfl) mixed (fun args p r hs hp => by
  unfold p_way_s at hs
  split at hs
  · cases hs; exact ⟨_, _, p_way_vc _ hp.2, (.p (.sl hp.1) .nil), ⟨show SpecsL Try.prog _ from (SpecsL.cons p_gcd_ok p_gcd_en (SpecsL.cons p_free_ok p_free_en SpecsL.nil)), rfl, ⟨show ItersL Try.prog _ from ItersL.nil, (TrsOk.none (fun _ => rfl))⟩⟩⟩
  · cases hs)
theorem p_way_en : Enters Try.prog 50 := fun args w => by kernel_rfl
def p_bad_p (n : L.Pt) : Prop := True
def p_bad_r (n : L.Pt) : SV := .bool (!L.isNrm n)
def p_bad_s : List EV → Option (Prop × SV)
  | [.p (.agg [.int .i64 n_x, .int .i64 n_y])] => some (p_bad_p (⟨n_x, n_y⟩ : L.Pt), p_bad_r (⟨n_x, n_y⟩ : L.Pt))
  | _ => none
abbrev p_bad_S : SE.Spec := (specO p_bad_s)
def p_bad_C : Cfg := { muts := [], frz := lookN [], specs := lookS [(37, p_within_S)], loops := lookL [], iters := lookI [], rfs := lookR [], nils := lookM [] }
theorem p_bad_vc (n : L.Pt) (hp : p_bad_p n) : vc Try.prog (p_bad_C) (bodyOf Try.f48) (st0 Try.f48 [.p (.agg [.int .i64 n.x, .int .i64 n.y])]) (retFn Try.prog Try.f48 (p_bad_r n)) :=
  @Eq.mpr _ (((!(Decidable.decide (n.x = (0 : Int)) && Decidable.decide (n.y = (0 : Int)))) = Bool.true → True) ∧ ((!bif Decidable.decide (n.x = (0 : Int)) && Decidable.decide (n.y = (0 : Int)) then Bool.true else !L.within n.x (-4096 : Int) (4096 : Int)) = Bool.true → True) ∧ (bif bif Decidable.decide (n.x = (0 : Int)) && Decidable.decide (n.y = (0 : Int)) then Bool.true else !L.within n.x (-4096 : Int) (4096
 : Int) then Bool.true else !L.within n.y (-4096 : Int) (4096 : Int)) = !L.isNrm n) (by kernel_rfl) (by
    refine ⟨fun _ => trivial, fun _ => trivial, ?_⟩
    unfold L.isNrm
    cases (decide (n.x = 0) && decide (n.y = 0)) <;> cases L.within n.x (-4096) 4096 <;> cases L.within n.y (-4096) 4096 <;> rfl)
theorem p_bad_ok : SpecOk Try.prog 48 p_bad_S := fnX Try.func48 (c := bodyOf Try.f48) (by kernel_rfl) mixed (fun args p r hs hp => by
  unfold p_bad_s at hs
  split at hs
  · cases hs; exact ⟨_, _, p_bad_vc _ hp, (.same _ .nil), ⟨show SpecsL Try.prog _ from (SpecsL.cons p_within_ok p_within_en SpecsL.nil), rfl, ⟨show ItersL Try.prog _ from ItersL.nil, (TrsOk.none (fun _ => rfl))⟩⟩⟩
  · cases hs)
theorem p_bad_en : Enters Try.prog 48 := fun args w => by kernel_rfl
theorem p_bad_B : ∀ args p r, p_bad_s args = some (p, r) → ∃ b, r = .bool b := by
  intro args p r h
  unfold p_bad_s at h
  split at h
  · cases h; exact ⟨_, rfl⟩
  · cases h
end Go.Proofs.Ytkklpamllfkbaaa

namespace Go.Proofs.Ytkklpamllfkbaaa
open Go.SE Go.RowKit
set_option maxRecDepth 100000
set_option maxHeartbeats 4000000
set_option linter.unusedVariables false
attribute [local irreducible] Go.SE.vc

def L.pck (N : L.Sq L.Pt) (l : L.Sq Int) : L.Sq L.Pt := ⟨l.n, fun i => N.g (l.g i).toNat⟩
def L.snoc (l : L.Sq Int) (x : Int) : L.Sq Int := ⟨l.n + 1, fun i => bif decide (i < l.n) then l.g i else x⟩
def L.nilI : L.Sq Int := ⟨0, fun _ => 0⟩
def L.first (f : Nat → Option (L.Sq Int)) : Nat → Option (L.Sq Int)
  | 0 => none
  | c + 1 => match L.first f c with
    | some x => some x
    | none => f c
def L.grp (N : L.Sq L.Pt) : Nat → L.Sq Int → Nat → Option (L.Sq Int)
  | 0, l, _ => bif L.wayOk (L.pck N l) then none else some l
  | d + 1, l, fr => L.first (fun j => L.grp N d (L.snoc l ((fr + j : Nat) : Int)) (fr + j + 1)) (N.n - fr)
def L.orB (o : Option (L.Sq Int)) (b : L.Sq Int) : L.Sq Int := match o with
  | some x => x
  | none => b
def L.isNo (o : Option (L.Sq Int)) : Bool := match o with
  | some _ => false
  | none => true
def L.aft (N : L.Sq L.Pt) (l b : L.Sq Int) : L.Sq Int := bif L.wayOk (L.pck N l) then b else l
def L.within0 (l : L.Sq Int) (n : Nat) : Prop := ∀ i, i < l.n → 0 ≤ l.g i ∧ l.g i < (n : Int)
def L.exF (N : L.Sq L.Pt) (j : Nat) : Option (L.Sq Int) := L.grp N (3 + j) L.nilI 0
def L.exL (N : L.Sq L.Pt) : L.Sq Int := L.orB (L.first (L.exF N) 22) L.nilI
def L.exBad (N : L.Sq L.Pt) : Bool := bif decide (24 < (N.n : Int)) then true else L.anyB N.n (fun i => !L.isNrm (N.g i))
def L.exE (N : L.Sq L.Pt) : Int := bif L.exBad N then 1 else bif L.wayOk N then 0 else 13
def L.exD (N : L.Sq L.Pt) : L.Pt := bif L.exBad N then ⟨0, 0⟩ else L.wayD N
def L.exN (N : L.Sq L.Pt) : Nat := bif L.exBad N then 0 else bif L.wayOk N then 0 else (L.exL N).n
theorem first_none {f : Nat → Option (L.Sq Int)} : ∀ {c : Nat}, (∀ j, j < c → f j = none) → L.first f c = none
  | 0, _ => rfl
  | c + 1, h => by rw [L.first, first_none (c := c) (fun j hj => h j (by omega))]; exact h c (by omega)
theorem first_none_of {f : Nat → Option (L.Sq Int)} : ∀ {c : Nat}, L.first f c = none → ∀ j, j < c → f j = none
  | 0, _, j, hj => absurd hj (Nat.not_lt_zero _)
  | c + 1, h, j, hj => by
    rw [L.first] at h
    cases hf : L.first f c with
    | some x => rw [hf] at h; cases h
    | none =>
      rw [hf] at h
      rcases Nat.lt_succ_iff_lt_or_eq.1 hj with hj | rfl
      · exact first_none_of hf j hj
      · exact h
theorem first_at {f : Nat → Option (L.Sq Int)} {j : Nat} {x : L.Sq Int} (h0 : ∀ i, i < j → f i = none) (h : f j = some x) : ∀ {c : Nat}, j < c → L.first f c = some x
  | c + 1, hc => by
    rw [L.first]
    rcases Nat.lt_succ_iff_lt_or_eq.1 hc with hc | rfl
    · rw [first_at h0 h hc]
    · rw [first_none h0]; exact h
theorem first_some {f : Nat → Option (L.Sq Int)} {x : L.Sq Int} : ∀ {c : Nat}, L.first f c = some x → ∃ j, j < c ∧ f j = some x ∧ ∀ i, i < j → f i = none
  | 0, h => by cases h
  | c + 1, h => by
    rw [L.first] at h
    cases hf : L.first f c with
    | some y =>
      rw [hf] at h
      cases h
      obtain ⟨j, h1, h2, h3⟩ := first_some hf
      exact ⟨j, by omega, h2, h3⟩
    | none =>
      rw [hf] at h
      exact ⟨c, Nat.lt_succ_self c, h, first_none_of hf⟩
theorem first_mono {f : Nat → Option (L.Sq Int)} {x : L.Sq Int} {c m : Nat} (h : L.first f c = some x) (hm : c ≤ m) : L.first f m = some x := by
  obtain ⟨j, h1, h2, h3⟩ := first_some h
  exact first_at h3 h2 (by omega)
theorem grp_len {N : L.Sq L.Pt} : ∀ {d : Nat} {l : L.Sq Int} {fr : Nat} {x : L.Sq Int}, L.grp N d l fr = some x → x.n = l.n + d
  | 0, l, fr, x, h => by
    rw [L.grp] at h
    cases hw : L.wayOk (L.pck N l) with
    | true => rw [hw] at h; cases h
    | false => rw [hw] at h; cases h; rfl
  | d + 1, l, fr, x, h => by
    rw [L.grp] at h
    obtain ⟨j, _, h2, _⟩ := first_some h
    have := grp_len h2
    rw [this]
    show l.n + 1 + d = l.n + (d + 1)
    omega
theorem snoc_within {l : L.Sq Int} {n : Nat} (h : L.within0 l n) {x : Int} (h0 : 0 ≤ x) (h1 : x < (n : Int)) : L.within0 (L.snoc l x) n := fun i hi => by
  have hi : i < l.n + 1 := hi
  show 0 ≤ (bif decide (i < l.n) then l.g i else x) ∧ (bif decide (i < l.n) then l.g i else x) < (n : Int)
  by_cases h' : i < l.n
  · rw [decide_eq_true h']; exact h i h'
  · rw [decide_eq_false h']; exact ⟨h0, h1⟩
theorem pick_nrms {N : L.Sq L.Pt} {l : L.Sq Int} (hN : L.nrms N) (h : L.within0 l N.n) (hn : l.n ≤ 1000000) : L.nrms (L.pck N l) := ⟨hn, fun i hi => hN.2 _ (by have := h i hi; omega)⟩
theorem isNo_none {o : Option (L.Sq Int)} (h : L.isNo o = true) : o = none := by
  cases o with
  | none => rfl
  | some x => cases h
theorem isNo_some {o : Option (L.Sq Int)} (h : L.isNo o = false) : ∃ x, o = some x := by
  cases o with
  | none => cases h
  | some x => exact ⟨x, rfl⟩
theorem exBad_false {N : L.Sq L.Pt} (h : L.exBad N = false) : N.n ≤ 24 ∧ L.nrms N := by
  unfold L.exBad at h
  cases hd : decide (24 < (N.n : Int)) with
  | true => rw [hd] at h; cases h
  | false =>
    have hd := of_decide_eq_false hd
    rw [decide_eq_false hd] at h
    refine ⟨by omega, by omega, fun i hi => ?_⟩
    cases hn : L.isNrm (N.g i) with
    | true => rfl
    | false =>
      have : L.anyB N.n (fun i => !L.isNrm (N.g i)) = true := anyB_iff.2 ⟨i, hi, by rw [hn]; rfl⟩
      rw [this] at h; cases h
theorem wayD_no {N : L.Sq L.Pt} (h : L.wayOk N = false) : L.wayD N = ⟨0, 0⟩ := by
  unfold L.wayOk at h
  obtain ⟨h1, h2⟩ := Bool.or_eq_false_iff.1 h
  unfold L.wayD
  rw [h1, h2]; rfl
abbrev p_exit2_tr : Tr := { T := (L.Sq Int) × (L.Sq L.Pt) × (L.Sq Int), U := Nat, args := fun t => (fun l N b => [.p (.sl 1 l.n (fun i => [.int .i64 (l.g i)])), .p (.ref [(.sl 2 N.n (fun i => [.int .i64 ((N.g i).x), .int .i64 ((N.g i).y)]))] 0), .loc 1003 0]) t.1 t.2.1 t.2.2, own := fun t => (fun l N b => [(1003, .blk 48 [.full false 1 (b).n (fun i => [.int .i64 ((b).g i)])])]) t.1 t.2.1 t.2.2, pre := fun t => (fun l N b => 1 ≤ l.n ∧ l.n ≤ 1000 ∧ L.nrms N ∧ L.within0 l N.n) t.1 t.2.1 t.2.2, post := fun t u => (fun l N b => fun u => True) t.1 t.2.1 t.2.2 u, own' := fun t u => (fun l N b => fun u => [(1003, .blk 48 [.full false 1 (L.aft N l b).n (fun i => [.int .i64 ((L.aft N l b).g i)])])]) t.1 t.2.1 t.2.2 u, res := fun t u => (fun l N b => fun u => .p (.bool (L.wayOk (L.pck N l)))) t.1 t.2.1 t.2.2 u }
theorem p_exit2_vc (l : L.Sq Int) (N : L.Sq L.Pt) (b : L.Sq Int) (hp : p_exit2_tr.pre (l, N, b)) : vc Try.prog ({ muts := [8], frz := lookN [], specs := lookS [(50, p_way_S)], loops := lookL [(3, { T := Nat, keep := [0, 1, 2, 5, 10, 11], keepO := [1003], chg := fun i => [(12, .p (.int .i64 (i : Int)))], own := fun i => [(20, .row 23 2 i (fun j => [.int .i64 ((N.g (l.g j).toNat).x), .int .i64 ((N.g (l.g j).toNat).y)]))], inv := fun i => i ≤ l.n, mu := fun i => l.n - i })], iters := lookI [], rfs := lookR [], nils := lookM [(2, [(5, 20, 23, 2)])] }) (bodyOf Try.f52) (stTr Try.f52 (p_exit2_tr.args (l, N, b)) (p_exit2_tr.own (l, N, b))) (retTr Try.prog Try.f52 p_exit2_tr (l, N, b)) :=
  @Eq.mpr _ ((∃ (g : Nat), (0 : Int) = (↑g : Int) ∧ (nat_lit 0 = g ∧ ∀ (i : Nat), i < nat_lit 0 → [] = [Go.SE.SV.int Go.IntKind.i64 (N.g (Int.toNat (l.g i))).x, Go.SE.SV.int Go.IntKind.i64 (N.g (Int.toNat (l.g i))).y]) ∧ g ≤ l.n) ∧ ∀ (g : Nat), g ≤ l.n → (Decidable.decide ((↑g : Int) < (↑l.n : Int)) = Bool.true → ((0 : Int) ≤ (↑g : Int) ∧ (↑g : Int) < (↑l.n : Int)) ∧ ((0 : Int) ≤ l.g (Int.toNat (↑g : Int)) ∧
 l.g (Int.toNat (↑g : Int)) < (↑N.n : Int)) ∧ (g + nat_lit 1) * nat_lit 16 ≤ (140737488355328 : Nat) ∧ Go.SE.InK Go.IntKind.i64 ((↑g : Int) + (1 : Int)) ∧ ∃ (g' : Nat), (↑g : Int) + (1 : Int) = (↑g' : Int) ∧ (↑l.n : Int) = (↑l.n : Int) ∧ (l.n = l.n ∧ ∀ (i : Nat), i < l.n → [Go.SE.SV.int Go.IntKind.i64 (l.g i)] = [Go.SE.SV.int Go.IntKind.i64 (l.g i)]) ∧ (l.n = l.n ∧ ∀ (i : Nat), i < l.n →
 [Go.SE.SV.int Go.IntKind.i64 (l.g i)] = [Go.SE.SV.int Go.IntKind.i64 (l.g i)]) ∧ Go.SE.SV.ref [Go.SE.SV.sl (nat_lit 2) N.n fun (i : Nat) ↦ [Go.SE.SV.int Go.IntKind.i64 (N.g i).x, Go.SE.SV.int Go.IntKind.i64 (N.g i).y]] (nat_lit 0) = Go.SE.SV.ref [Go.SE.SV.sl (nat_lit 2) N.n fun (i : Nat) ↦ [Go.SE.SV.int Go.IntKind.i64 (N.g i).x, Go.SE.SV.int Go.IntKind.i64 (N.g i).y]] (nat_lit 0) ∧ nat_lit 0 =
 nat_lit 0 ∧ (g + nat_lit 1 = g' ∧ ∀ (i : Nat), i < g + nat_lit 1 → Go.SE.appGet g (fun (j : Nat) ↦ [Go.SE.SV.int Go.IntKind.i64 (N.g (Int.toNat (l.g j))).x, Go.SE.SV.int Go.IntKind.i64 (N.g (Int.toNat (l.g j))).y]) (fun (x : Nat) ↦ [Go.SE.SV.int Go.IntKind.i64 (N.g (Int.toNat (l.g (Int.toNat (↑g : Int))))).x, Go.SE.SV.int Go.IntKind.i64 (N.g (Int.toNat (l.g (Int.toNat (↑g : Int))))).y]) i =
 [Go.SE.SV.int Go.IntKind.i64 (N.g (Int.toNat (l.g i))).x, Go.SE.SV.int Go.IntKind.i64 (N.g (Int.toNat (l.g i))).y]) ∧ (b.n = b.n ∧ ∀ (i : Nat), i < b.n → [Go.SE.SV.int Go.IntKind.i64 (b.g i)] = [Go.SE.SV.int Go.IntKind.i64 (b.g i)]) ∧ g' ≤ l.n ∧ l.n - g' < l.n - g) ∧ (Decidable.decide ((↑g : Int) < (↑l.n : Int)) = Bool.false → ((∀ (i : Nat), i < g → [Go.SE.SV.int Go.IntKind.i64 (N.g (Int.toNat
 (l.g i))).x, Go.SE.SV.int Go.IntKind.i64 (N.g (Int.toNat (l.g i))).y] = [Go.SE.SV.int Go.IntKind.i64 (N.g (Int.toNat (l.g i))).x, Go.SE.SV.int Go.IntKind.i64 (N.g (Int.toNat (l.g i))).y]) ∧ L.nrms (L.Sq.mk g fun (i : Nat) ↦ N.g (Int.toNat (l.g i)))) ∧ ((!L.wayOk (L.Sq.mk g fun (i : Nat) ↦ N.g (Int.toNat (l.g i)))) = Bool.true → ∃ (u : Nat), Bool.false = L.wayOk (L.pck N l) ∧ (l.n = (L.aft N l b).n
 ∧ (0 : Nat) < l.n ∧ ∀ (i : Nat), i < l.n → [Go.SE.SV.int Go.IntKind.i64 (l.g i)] = [Go.SE.SV.int Go.IntKind.i64 ((L.aft N l b).g i)]) ∧ True) ∧ ((!L.wayOk (L.Sq.mk g fun (i : Nat) ↦ N.g (Int.toNat (l.g i)))) = Bool.false → ∃ (u : Nat), Bool.true = L.wayOk (L.pck N l) ∧ (b.n = (L.aft N l b).n ∧ ∀ (i : Nat), i < b.n → [Go.SE.SV.int Go.IntKind.i64 (b.g i)] = [Go.SE.SV.int Go.IntKind.i64 ((L.aft N l
 b).g i)]) ∧ True))) (by kernel_rfl) (by
    have hp : 1 ≤ l.n ∧ l.n ≤ 1000 ∧ L.nrms N ∧ L.within0 l N.n := hp
    obtain ⟨h1, h2, hN, hw⟩ := hp
    refine ⟨⟨(0 : Nat), rfl, ⟨rfl, fun i hi => absurd hi (Nat.not_lt_zero _)⟩, Nat.zero_le _⟩, fun g hg => ⟨fun hlt => ?_, fun hge => ?_⟩⟩
    · have hb : (g : Int) < (l.n : Int) := of_decide_eq_true hlt
      have e0 : ((g : Int)).toNat = g := by omega
      have hx := hw g (by omega)
      rw [e0]
      refine ⟨⟨by omega, hb⟩, hx, show (g + 1) * 16 ≤ 140737488355328 by omega, InK.of (by omega) (by omega), g + 1, by omega, rfl, ⟨rfl, fun _ _ => rfl⟩, ⟨rfl, fun _ _ => rfl⟩, rfl, rfl, ⟨rfl, fun i hi => ?_⟩, ⟨rfl, fun _ _ => rfl⟩, by omega, by omega⟩
      have hi : i < g + 1 := hi
      unfold appGet
      by_cases h' : i < g
      · rw [if_pos h']
      · rw [if_neg h']
        obtain rfl : i = g := by omega
        rfl
    · have hb : ¬ (g : Int) < (l.n : Int) := of_decide_eq_false hge
      obtain rfl : g = l.n := by omega
      have e : (L.Sq.mk l.n fun (i : Nat) => N.g (l.g i).toNat) = L.pck N l := rfl
      rw [e]
      refine ⟨⟨fun _ _ => rfl, pick_nrms hN hw (by omega)⟩, fun hc => ?_, fun hc => ?_⟩
      · have hc : L.wayOk (L.pck N l) = false := by simpa using (show (!L.wayOk (L.pck N l)) = true from hc)
        unfold L.aft
        rw [hc]; exact ⟨(0 : Nat), rfl, ⟨rfl, h1, fun _ _ => rfl⟩, trivial⟩
      · have hc : L.wayOk (L.pck N l) = true := by simpa using (show (!L.wayOk (L.pck N l)) = false from hc)
        unfold L.aft
        rw [hc]; exact ⟨(0 : Nat), rfl, ⟨rfl, fun _ _ => rfl⟩, trivial⟩)
theorem p_exit2_en : Enters Try.prog 52 := fun args w => by kernel_rfl
theorem p_exit2_tok : TrOk Try.prog 52 p_exit2_tr := tr_ok (ks := [1003]) (n := 3) Try.func52 (c := bodyOf Try.f52) (by kernel_rfl) mixed ⟨fun t => rfl, fun t => rfl, fun t u => rfl, fun t u => rfl, fun t u => rfl, by kernel_rfl⟩ (fun ⟨l, N, b⟩ hp => ⟨_, p_exit2_vc l N b hp, ⟨show SpecsL Try.prog _ from (SpecsL.cons p_way_ok p_way_en SpecsL.nil), rfl, ⟨show ItersL Try.prog _ from ItersL.nil, (TrsOk.none (fun _ => rfl))⟩⟩⟩)
abbrev p_more_tr : Tr := { T := (L.Sq Int) × (Nat) × (Nat) × (L.Sq L.Pt) × (L.Sq Int), U := Nat, args := fun t => (fun l fr k N b => [.p (.sl 1 l.n (fun i => [.int .i64 (l.g i)])), .p (.int .i64 (fr : Int)), .p (.ref [.int .i64 (k : Int)] 0), .loc 1005 0, .p (.ref [.int .i64 (N.n : Int)] 0), .loc 1007 0]) t.1 t.2.1 t.2.2.1 t.2.2.2.1 t.2.2.2.2, own := fun t => (fun l fr k N b => [(1003, .blk 48 [.full false 1 (b).n (fun i => [.int .i64 ((b).g i)])]), (1005, .blk 73 [.cl 52 [.p (.ref [(.sl 2 N.n (fun i => [.int .i64 ((N.g i).x), .int .i64 ((N.g i).y)]))] 0), .loc 1003 0]]), (1007, .blk 91 [.cl 78 [.p (.ref [.int .i64 (k : Int)] 0), .loc 1005 0, .p (.ref [.int .i64 (N.n : Int)] 0), .loc 1007 0]])]) t.1 t.2.1 t.2.2.1 t.2.2.2.1 t.2.2.2.2, pre := fun t => (fun l fr k N b => (l.n ≤ k ∧ 1 ≤ k ∧ k ≤ 1000) ∧ (fr ≤ N.n ∧ N.n ≤ 1000) ∧ L.nrms N ∧ L.within0 l N.n) t.1 t.2.1 t.2.2.1 t.2.2.2.1 t.2.2.2.2, post := fun t u => (fun l fr k N b => fun u => True) t.1 t.2.1 t.2.2.1 t.2.2.2.1 t.2.2.2.2 u, own' := fun t u => (fun l fr k N b => fun u => [(1003, .blk 48 [.full false 1 (L.orB (L.grp N (k - l.n) l fr) b).n (fun i => [.int .i64 ((L.orB (L.grp N (k - l.n) l fr) b).g i)])]), (1005, .blk 73 [.cl 52 [.p (.ref [(.sl 2 N.n (fun i => [.int .i64 ((N.g i).x), .int .i64 ((N.g i).y)]))] 0), .loc 1003 0]]), (1007, .blk 91 [.cl 78 [.p (.ref [.int .i64 (k : Int)] 0), .loc 1005 0, .p (.ref [.int .i64 (N.n : Int)] 0), .loc 1007 0]])]) t.1 t.2.1 t.2.2.1 t.2.2.2.1 t.2.2.2.2 u, res := fun t u => (fun l fr k N b => fun u => .p (.bool (L.isNo (L.grp N (k - l.n) l fr)))) t.1 t.2.1 t.2.2.1 t.2.2.2.1 t.2.2.2.2 u }
abbrev p_more_mu : p_more_tr.T → Nat := fun t => (fun l fr k N b => k - l.n) t.1 t.2.1 t.2.2.1 t.2.2.2.1 t.2.2.2.2
theorem p_more_vc (rn : Nat) (l : L.Sq Int) (fr : Nat) (k : Nat) (N : L.Sq L.Pt) (b : L.Sq Int) (hp : p_more_tr.pre (l, fr, k, N, b)) (hmu : k - l.n < rn + 1) : vc Try.prog ({ muts := [], frz := lookN [], specs := lookS [], loops := lookL [(4, { T := Nat, keep := [0, 1, 2, 3, 4, 5, 8], keepO := [1003, 1005, 1007], chg := fun j => [(9, .p (.int .i64 ((fr + j : Nat) : Int)))], own := fun _ => [], inv := fun j => fr + j ≤ N.n ∧ ∀ c, c < j → L.isNo (L.grp N (k - l.n - 1) (L.snoc l ((fr + c : Nat) : Int)) (fr + c + 1)) = true, mu := fun j => N.n - (fr + j) })], iters := lookI [], rfs := lookR [], nils := lookM [], trs := lookT [(52, p_exit2_tr), (78, Tr.lt p_more_tr p_more_mu rn)], ren := fun k => k }) (bodyOf Try.f78) (stTr Try.f78 (p_more_tr.args (l, fr, k, N, b)) (p_more_tr.own (l, fr, k, N, b))) (retTr Try.prog Try.f78 p_more_tr (l, fr, k, N, b)) :=
  @Eq.mpr _ ((Decidable.decide ((↑l.n : Int) = (↑k : Int)) = Bool.true → ∃ (t : L.Sq Int × L.Sq L.Pt × L.Sq Int), (l.n = t.1.n ∧ ∀ (i : Nat), i < l.n → [Go.SE.SV.int Go.IntKind.i64 (l.g i)] = [Go.SE.SV.int Go.IntKind.i64 (t.1.g i)]) ∧ Go.SE.SV.ref [Go.SE.SV.sl (nat_lit 2) N.n fun (i : Nat) ↦ [Go.SE.SV.int Go.IntKind.i64 (N.g i).x, Go.SE.SV.int Go.IntKind.i64 (N.g i).y]] (nat_lit 0) = Go.SE.SV.ref [Go.SE.SV.sl
 (2 : Nat) t.2.1.n fun (i : Nat) ↦ [Go.SE.SV.int Go.IntKind.i64 (t.2.1.g i).x, Go.SE.SV.int Go.IntKind.i64 (t.2.1.g i).y]] (0 : Nat) ∧ nat_lit 0 = (0 : Nat) ∧ (b.n = t.2.2.n ∧ ∀ (i : Nat), i < b.n → [Go.SE.SV.int Go.IntKind.i64 (b.g i)] = [Go.SE.SV.int Go.IntKind.i64 (t.2.2.g i)]) ∧ ((1 : Nat) ≤ t.1.n ∧ t.1.n ≤ (1000 : Nat) ∧ L.nrms t.2.1 ∧ L.within0 t.1 t.2.1.n) ∧ ∀ (u : Nat), True → ∃ (u : Nat),
 L.wayOk (L.pck t.2.1 t.1) = L.isNo (L.grp N (k - l.n) l fr) ∧ ((L.aft t.2.1 t.1 t.2.2).n = (L.orB (L.grp N (k - l.n) l fr) b).n ∧ ∀ (i : Nat), i < (L.aft t.2.1 t.1 t.2.2).n → [Go.SE.SV.int Go.IntKind.i64 ((L.aft t.2.1 t.1 t.2.2).g i)] = [Go.SE.SV.int Go.IntKind.i64 ((L.orB (L.grp N (k - l.n) l fr) b).g i)]) ∧ Go.SE.EV.cl (nat_lit 52) [Go.SE.EV.p (Go.SE.SV.ref [Go.SE.SV.sl (nat_lit 2) N.n fun (i :
 Nat) ↦ [Go.SE.SV.int Go.IntKind.i64 (N.g i).x, Go.SE.SV.int Go.IntKind.i64 (N.g i).y]] (nat_lit 0)), Go.SE.EV.loc (nat_lit 1003) (nat_lit 0)] = Go.SE.EV.cl (52 : Nat) [Go.SE.EV.p (Go.SE.SV.ref [Go.SE.SV.sl (2 : Nat) N.n fun (i : Nat) ↦ [Go.SE.SV.int Go.IntKind.i64 (N.g i).x, Go.SE.SV.int Go.IntKind.i64 (N.g i).y]] (0 : Nat)), Go.SE.EV.loc (1003 : Nat) (0 : Nat)] ∧ Go.SE.EV.cl (nat_lit 78)
 [Go.SE.EV.p (Go.SE.SV.ref [Go.SE.SV.int Go.IntKind.i64 (↑k : Int)] (nat_lit 0)), Go.SE.EV.loc (nat_lit 1005) (nat_lit 0), Go.SE.EV.p (Go.SE.SV.ref [Go.SE.SV.int Go.IntKind.i64 (↑N.n : Int)] (nat_lit 0)), Go.SE.EV.loc (nat_lit 1007) (nat_lit 0)] = Go.SE.EV.cl (78 : Nat) [Go.SE.EV.p (Go.SE.SV.ref [Go.SE.SV.int Go.IntKind.i64 (↑k : Int)] (0 : Nat)), Go.SE.EV.loc (1005 : Nat) (0 : Nat), Go.SE.EV.p
 (Go.SE.SV.ref [Go.SE.SV.int Go.IntKind.i64 (↑N.n : Int)] (0 : Nat)), Go.SE.EV.loc (1007 : Nat) (0 : Nat)] ∧ True) ∧ (Decidable.decide ((↑l.n : Int) = (↑k : Int)) = Bool.false → (∃ (g : Nat), (↑fr : Int) = (↑(fr + g) : Int) ∧ fr + g ≤ N.n ∧ ∀ (c : Nat), c < g → L.isNo (L.grp N (k - l.n - (1 : Nat)) (L.snoc l (↑(fr + c) : Int)) (fr + c + (1 : Nat))) = Bool.true) ∧ ∀ (g : Nat), (fr + g ≤ N.n ∧ ∀ (c :
 Nat), c < g → L.isNo (L.grp N (k - l.n - (1 : Nat)) (L.snoc l (↑(fr + c) : Int)) (fr + c + (1 : Nat))) = Bool.true) → (Decidable.decide ((↑(fr + g) : Int) < (↑N.n : Int)) = Bool.true → ((0 : Int) ≤ (↑l.n : Int) ∧ (↑l.n : Int) ≤ (↑l.n : Int) ∧ (↑l.n : Int) = (↑l.n : Int)) ∧ ((0 : Nat) < (1 : Nat) ∧ (Int.toNat (↑l.n : Int) + (1 : Nat)) * nat_lit 8 ≤ (140737488355328 : Nat)) ∧ Go.SE.InK
 Go.IntKind.i64 ((↑(fr + g) : Int) + (1 : Int)) ∧ ∃ (t : L.Sq Int × Nat × Nat × L.Sq L.Pt × L.Sq Int), (Int.toNat (↑l.n : Int) + (1 : Nat) = t.1.n ∧ ∀ (i : Nat), i < Int.toNat (↑l.n : Int) + (1 : Nat) → Go.SE.appGet (Int.toNat (↑l.n : Int)) (fun (i : Nat) ↦ [Go.SE.SV.int Go.IntKind.i64 (l.g i)]) (fun (x : Nat) ↦ [Go.SE.SV.int Go.IntKind.i64 (↑(fr + g) : Int)]) i = [Go.SE.SV.int Go.IntKind.i64
 (t.1.g i)]) ∧ (↑(fr + g) : Int) + (1 : Int) = (↑t.2.1 : Int) ∧ Go.SE.SV.ref [Go.SE.SV.int Go.IntKind.i64 (↑k : Int)] (nat_lit 0) = Go.SE.SV.ref [Go.SE.SV.int Go.IntKind.i64 (↑t.snd.2.1 : Int)] (0 : Nat) ∧ nat_lit 0 = (0 : Nat) ∧ Go.SE.SV.ref [Go.SE.SV.int Go.IntKind.i64 (↑N.n : Int)] (nat_lit 0) = Go.SE.SV.ref [Go.SE.SV.int Go.IntKind.i64 (↑t.snd.snd.2.1.n : Int)] (0 : Nat) ∧ nat_lit 0 = (0 : Nat)
 ∧ (b.n = t.snd.snd.2.2.n ∧ ∀ (i : Nat), i < b.n → [Go.SE.SV.int Go.IntKind.i64 (b.g i)] = [Go.SE.SV.int Go.IntKind.i64 (t.snd.snd.2.2.g i)]) ∧ Go.SE.EV.cl (nat_lit 52) [Go.SE.EV.p (Go.SE.SV.ref [Go.SE.SV.sl (nat_lit 2) N.n fun (i : Nat) ↦ [Go.SE.SV.int Go.IntKind.i64 (N.g i).x, Go.SE.SV.int Go.IntKind.i64 (N.g i).y]] (nat_lit 0)), Go.SE.EV.loc (nat_lit 1003) (nat_lit 0)] = Go.SE.EV.cl (52 : Nat)
 [Go.SE.EV.p (Go.SE.SV.ref [Go.SE.SV.sl (nat_lit 2) t.snd.snd.2.1.n fun (i : Nat) ↦ [Go.SE.SV.int Go.IntKind.i64 (t.snd.snd.2.1.g i).x, Go.SE.SV.int Go.IntKind.i64 (t.snd.snd.2.1.g i).y]] (nat_lit 0)), Go.SE.EV.loc (nat_lit 1003) (nat_lit 0)] ∧ Go.SE.EV.cl (nat_lit 78) [Go.SE.EV.p (Go.SE.SV.ref [Go.SE.SV.int Go.IntKind.i64 (↑k : Int)] (nat_lit 0)), Go.SE.EV.loc (nat_lit 1005) (nat_lit 0),
 Go.SE.EV.p (Go.SE.SV.ref [Go.SE.SV.int Go.IntKind.i64 (↑N.n : Int)] (nat_lit 0)), Go.SE.EV.loc (nat_lit 1007) (nat_lit 0)] = Go.SE.EV.cl (78 : Nat) [Go.SE.EV.p (Go.SE.SV.ref [Go.SE.SV.int Go.IntKind.i64 (↑t.snd.2.1 : Int)] (nat_lit 0)), Go.SE.EV.loc (nat_lit 1005) (nat_lit 0), Go.SE.EV.p (Go.SE.SV.ref [Go.SE.SV.int Go.IntKind.i64 (↑t.snd.snd.2.1.n : Int)] (nat_lit 0)), Go.SE.EV.loc (nat_lit 1007)
 (nat_lit 0)] ∧ (((t.1.n ≤ t.snd.2.1 ∧ (1 : Nat) ≤ t.snd.2.1 ∧ t.snd.2.1 ≤ (1000 : Nat)) ∧ (t.2.1 ≤ t.snd.snd.2.1.n ∧ t.snd.snd.2.1.n ≤ (1000 : Nat)) ∧ L.nrms t.snd.snd.2.1 ∧ L.within0 t.1 t.snd.snd.2.1.n) ∧ t.snd.2.1 - t.1.n < rn) ∧ ∀ (u : Nat), True → ((!L.isNo (L.grp t.snd.snd.2.1 (t.snd.2.1 - t.1.n) t.1 t.2.1)) = Bool.true → ∃ (u : Nat), Bool.false = L.isNo (L.grp N (k - l.n) l fr) ∧ ((L.orB
 (L.grp t.snd.snd.2.1 (t.snd.2.1 - t.1.n) t.1 t.2.1) t.snd.snd.2.2).n = (L.orB (L.grp N (k - l.n) l fr) b).n ∧ ∀ (i : Nat), i < (L.orB (L.grp t.snd.snd.2.1 (t.snd.2.1 - t.1.n) t.1 t.2.1) t.snd.snd.2.2).n → [Go.SE.SV.int Go.IntKind.i64 ((L.orB (L.grp t.snd.snd.2.1 (t.snd.2.1 - t.1.n) t.1 t.2.1) t.snd.snd.2.2).g i)] = [Go.SE.SV.int Go.IntKind.i64 ((L.orB (L.grp N (k - l.n) l fr) b).g i)]) ∧
 Go.SE.EV.cl (nat_lit 52) [Go.SE.EV.p (Go.SE.SV.ref [Go.SE.SV.sl (nat_lit 2) t.snd.snd.2.1.n fun (i : Nat) ↦ [Go.SE.SV.int Go.IntKind.i64 (t.snd.snd.2.1.g i).x, Go.SE.SV.int Go.IntKind.i64 (t.snd.snd.2.1.g i).y]] (nat_lit 0)), Go.SE.EV.loc (1003 : Nat) (nat_lit 0)] = Go.SE.EV.cl (52 : Nat) [Go.SE.EV.p (Go.SE.SV.ref [Go.SE.SV.sl (2 : Nat) N.n fun (i : Nat) ↦ [Go.SE.SV.int Go.IntKind.i64 (N.g i).x,
 Go.SE.SV.int Go.IntKind.i64 (N.g i).y]] (0 : Nat)), Go.SE.EV.loc (1003 : Nat) (0 : Nat)] ∧ Go.SE.EV.cl (nat_lit 78) [Go.SE.EV.p (Go.SE.SV.ref [Go.SE.SV.int Go.IntKind.i64 (↑t.snd.2.1 : Int)] (nat_lit 0)), Go.SE.EV.loc (1005 : Nat) (nat_lit 0), Go.SE.EV.p (Go.SE.SV.ref [Go.SE.SV.int Go.IntKind.i64 (↑t.snd.snd.2.1.n : Int)] (nat_lit 0)), Go.SE.EV.loc (1007 : Nat) (nat_lit 0)] = Go.SE.EV.cl (78 :
 Nat) [Go.SE.EV.p (Go.SE.SV.ref [Go.SE.SV.int Go.IntKind.i64 (↑k : Int)] (0 : Nat)), Go.SE.EV.loc (1005 : Nat) (0 : Nat), Go.SE.EV.p (Go.SE.SV.ref [Go.SE.SV.int Go.IntKind.i64 (↑N.n : Int)] (0 : Nat)), Go.SE.EV.loc (1007 : Nat) (0 : Nat)] ∧ True) ∧ ((!L.isNo (L.grp t.snd.snd.2.1 (t.snd.2.1 - t.1.n) t.1 t.2.1)) = Bool.false → Go.SE.InK Go.IntKind.i64 ((↑(fr + g) : Int) + (1 : Int)) ∧ ∃ (g' : Nat),
 (↑(fr + g) : Int) + (1 : Int) = (↑(fr + g') : Int) ∧ Bool.false = Bool.false ∧ (l.n = l.n ∧ ∀ (i : Nat), i < l.n → [Go.SE.SV.int Go.IntKind.i64 (l.g i)] = [Go.SE.SV.int Go.IntKind.i64 (l.g i)]) ∧ (↑fr : Int) = (↑fr : Int) ∧ Go.SE.SV.ref [Go.SE.SV.int Go.IntKind.i64 (↑k : Int)] (nat_lit 0) = Go.SE.SV.ref [Go.SE.SV.int Go.IntKind.i64 (↑k : Int)] (nat_lit 0) ∧ nat_lit 0 = nat_lit 0 ∧ Go.SE.SV.ref
 [Go.SE.SV.int Go.IntKind.i64 (↑N.n : Int)] (nat_lit 0) = Go.SE.SV.ref [Go.SE.SV.int Go.IntKind.i64 (↑N.n : Int)] (nat_lit 0) ∧ nat_lit 0 = nat_lit 0 ∧ ((L.orB (L.grp t.snd.snd.2.1 (t.snd.2.1 - t.1.n) t.1 t.2.1) t.snd.snd.2.2).n = b.n ∧ ∀ (i : Nat), i < (L.orB (L.grp t.snd.snd.2.1 (t.snd.2.1 - t.1.n) t.1 t.2.1) t.snd.snd.2.2).n → [Go.SE.SV.int Go.IntKind.i64 ((L.orB (L.grp t.snd.snd.2.1 (t.snd.2.1
 - t.1.n) t.1 t.2.1) t.snd.snd.2.2).g i)] = [Go.SE.SV.int Go.IntKind.i64 (b.g i)]) ∧ Go.SE.EV.cl (nat_lit 52) [Go.SE.EV.p (Go.SE.SV.ref [Go.SE.SV.sl (nat_lit 2) t.snd.snd.2.1.n fun (i : Nat) ↦ [Go.SE.SV.int Go.IntKind.i64 (t.snd.snd.2.1.g i).x, Go.SE.SV.int Go.IntKind.i64 (t.snd.snd.2.1.g i).y]] (nat_lit 0)), Go.SE.EV.loc (1003 : Nat) (nat_lit 0)] = Go.SE.EV.cl (nat_lit 52) [Go.SE.EV.p
 (Go.SE.SV.ref [Go.SE.SV.sl (nat_lit 2) N.n fun (i : Nat) ↦ [Go.SE.SV.int Go.IntKind.i64 (N.g i).x, Go.SE.SV.int Go.IntKind.i64 (N.g i).y]] (nat_lit 0)), Go.SE.EV.loc (nat_lit 1003) (nat_lit 0)] ∧ Go.SE.EV.cl (nat_lit 78) [Go.SE.EV.p (Go.SE.SV.ref [Go.SE.SV.int Go.IntKind.i64 (↑t.snd.2.1 : Int)] (nat_lit 0)), Go.SE.EV.loc (1005 : Nat) (nat_lit 0), Go.SE.EV.p (Go.SE.SV.ref [Go.SE.SV.int
 Go.IntKind.i64 (↑t.snd.snd.2.1.n : Int)] (nat_lit 0)), Go.SE.EV.loc (1007 : Nat) (nat_lit 0)] = Go.SE.EV.cl (nat_lit 78) [Go.SE.EV.p (Go.SE.SV.ref [Go.SE.SV.int Go.IntKind.i64 (↑k : Int)] (nat_lit 0)), Go.SE.EV.loc (nat_lit 1005) (nat_lit 0), Go.SE.EV.p (Go.SE.SV.ref [Go.SE.SV.int Go.IntKind.i64 (↑N.n : Int)] (nat_lit 0)), Go.SE.EV.loc (nat_lit 1007) (nat_lit 0)] ∧ (fr + g' ≤ N.n ∧ ∀ (c : Nat), c
 < g' → L.isNo (L.grp N (k - l.n - (1 : Nat)) (L.snoc l (↑(fr + c) : Int)) (fr + c + (1 : Nat))) = Bool.true) ∧ N.n - (fr + g') < N.n - (fr + g))) ∧ (Decidable.decide ((↑(fr + g) : Int) < (↑N.n : Int)) = Bool.false → ∃ (u : Nat), Bool.true = L.isNo (L.grp N (k - l.n) l fr) ∧ (b.n = (L.orB (L.grp N (k - l.n) l fr) b).n ∧ ∀ (i : Nat), i < b.n → [Go.SE.SV.int Go.IntKind.i64 (b.g i)] = [Go.SE.SV.int
 Go.IntKind.i64 ((L.orB (L.grp N (k - l.n) l fr) b).g i)]) ∧ Go.SE.EV.cl (nat_lit 52) [Go.SE.EV.p (Go.SE.SV.ref [Go.SE.SV.sl (nat_lit 2) N.n fun (i : Nat) ↦ [Go.SE.SV.int Go.IntKind.i64 (N.g i).x, Go.SE.SV.int Go.IntKind.i64 (N.g i).y]] (nat_lit 0)), Go.SE.EV.loc (nat_lit 1003) (nat_lit 0)] = Go.SE.EV.cl (52 : Nat) [Go.SE.EV.p (Go.SE.SV.ref [Go.SE.SV.sl (2 : Nat) N.n fun (i : Nat) ↦ [Go.SE.SV.int
 Go.IntKind.i64 (N.g i).x, Go.SE.SV.int Go.IntKind.i64 (N.g i).y]] (0 : Nat)), Go.SE.EV.loc (1003 : Nat) (0 : Nat)] ∧ Go.SE.EV.cl (nat_lit 78) [Go.SE.EV.p (Go.SE.SV.ref [Go.SE.SV.int Go.IntKind.i64 (↑k : Int)] (nat_lit 0)), Go.SE.EV.loc (nat_lit 1005) (nat_lit 0), Go.SE.EV.p (Go.SE.SV.ref [Go.SE.SV.int Go.IntKind.i64 (↑N.n : Int)] (nat_lit 0)), Go.SE.EV.loc (nat_lit 1007) (nat_lit 0)] = Go.SE.EV.cl
 (78 : Nat) [Go.SE.EV.p (Go.SE.SV.ref [Go.SE.SV.int Go.IntKind.i64 (↑k : Int)] (0 : Nat)), Go.SE.EV.loc (1005 : Nat) (0 : Nat), Go.SE.EV.p (Go.SE.SV.ref [Go.SE.SV.int Go.IntKind.i64 (↑N.n : Int)] (0 : Nat)), Go.SE.EV.loc (1007 : Nat) (0 : Nat)] ∧ True))) (by kernel_rfl) (by
    have hp : (l.n ≤ k ∧ 1 ≤ k ∧ k ≤ 1000) ∧ (fr ≤ N.n ∧ N.n ≤ 1000) ∧ L.nrms N ∧ L.within0 l N.n := hp
    obtain ⟨⟨k1, k2, k3⟩, ⟨f1, f2⟩, hN, hw⟩ := hp
    have hmu : k - l.n < rn + 1 := hmu
    refine ⟨fun he => ?_, fun hne => ?_⟩
    · have he : ((l.n : Nat) : Int) = (k : Int) := of_decide_eq_true he
      have e0 : k - l.n = 0 := by omega
      have hR : L.isNo (L.grp N (k - l.n) l fr) = L.wayOk (L.pck N l) := by
        rw [e0, L.grp]; cases L.wayOk (L.pck N l) <;> rfl
      have hA : L.orB (L.grp N (k - l.n) l fr) b = L.aft N l b := by
        rw [e0, L.grp]; unfold L.aft; cases L.wayOk (L.pck N l) <;> rfl
      rw [hR, hA]
      exact ⟨(l, N, b), ⟨rfl, fun _ _ => rfl⟩, rfl, rfl, ⟨rfl, fun _ _ => rfl⟩, ⟨by show 1 ≤ l.n; omega, by show l.n ≤ 1000; omega, hN, hw⟩, fun u _ => ⟨(0 : Nat), rfl, ⟨rfl, fun _ _ => rfl⟩, rfl, rfl, trivial⟩⟩
    · have hne : ¬ ((l.n : Nat) : Int) = (k : Int) := of_decide_eq_false hne
      have hG : L.grp N (k - l.n) l fr = L.first (fun j => L.grp N (k - l.n - 1) (L.snoc l ((fr + j : Nat) : Int)) (fr + j + 1)) (N.n - fr) := by
        obtain ⟨d, hd⟩ : ∃ d, k - l.n = d + 1 := ⟨k - l.n - 1, by omega⟩
        rw [hd]; rfl
      rw [hG]
      refine ⟨⟨(0 : Nat), rfl, f1, fun c hc => absurd hc (Nat.not_lt_zero _)⟩, fun g hg => ⟨fun hlt => ?_, fun hge => ?_⟩⟩
      · obtain ⟨g1, g2⟩ := hg
        have hb : ((fr + g : Nat) : Int) < (N.n : Int) := of_decide_eq_true hlt
        have e1 : ((l.n : Nat) : Int).toNat = l.n := by omega
        have none : ∀ c, c < g → L.grp N (k - l.n - 1) (L.snoc l ((fr + c : Nat) : Int)) (fr + c + 1) = none := fun c hc => isNo_none (g2 c hc)
        rw [e1]
        refine ⟨⟨by omega, by omega, rfl⟩, ⟨by decide, show (l.n + 1) * 8 ≤ 140737488355328 by omega⟩, InK.of (by omega) (by omega), (L.snoc l ((fr + g : Nat) : Int), fr + g + 1, k, N, b), ⟨rfl, fun i hi => ?_⟩, by show ((fr + g : Nat) : Int) + 1 = ((fr + g + 1 : Nat) : Int); omega, rfl, rfl, rfl, rfl, ⟨rfl, fun _ _ => rfl⟩, rfl, rfl, ⟨⟨⟨by show l.n + 1 ≤ k; omega, k2, k3⟩, ⟨by show fr + g + 1 ≤ N.n; omega, f2⟩, hN, snoc_within hw (by omega) hb⟩, by show k - (l.n + 1) < rn; omega⟩, fun u _ => ?_⟩
        · have hi : i < l.n + 1 := hi
          show appGet l.n _ _ i = [SV.int .i64 (bif decide (i < l.n) then l.g i else ((fr + g : Nat) : Int))]
          unfold appGet
          by_cases h' : i < l.n
          · rw [if_pos h', decide_eq_true h']; rfl
          · rw [if_neg h', decide_eq_false h']; rfl
        · have hF : L.grp N (k - (L.snoc l ((fr + g : Nat) : Int)).n) (L.snoc l ((fr + g : Nat) : Int)) (fr + g + 1) = L.grp N (k - l.n - 1) (L.snoc l ((fr + g : Nat) : Int)) (fr + g + 1) := rfl
          dsimp only
          rw [hF]
          refine ⟨fun hc => ?_, fun hc => ?_⟩
          · have hc : L.isNo (L.grp N (k - l.n - 1) (L.snoc l ((fr + g : Nat) : Int)) (fr + g + 1)) = false := by simpa using (show (!L.isNo (L.grp N (k - l.n - 1) (L.snoc l ((fr + g : Nat) : Int)) (fr + g + 1))) = true from hc)
            obtain ⟨x, hx⟩ := isNo_some hc
            have hf := first_at (f := fun j => L.grp N (k - l.n - 1) (L.snoc l ((fr + j : Nat) : Int)) (fr + j + 1)) none hx (c := N.n - fr) (by omega)
            rw [hf, hx]
            exact ⟨(0 : Nat), rfl, ⟨rfl, fun _ _ => rfl⟩, rfl, rfl, trivial⟩
          · have hc : L.isNo (L.grp N (k - l.n - 1) (L.snoc l ((fr + g : Nat) : Int)) (fr + g + 1)) = true := by simpa using (show (!L.isNo (L.grp N (k - l.n - 1) (L.snoc l ((fr + g : Nat) : Int)) (fr + g + 1))) = false from hc)
            have hx := isNo_none hc
            rw [hx]
            refine ⟨InK.of (by omega) (by omega), g + 1, by omega, rfl, ⟨rfl, fun _ _ => rfl⟩, rfl, rfl, rfl, rfl, rfl, ⟨rfl, fun _ _ => rfl⟩, rfl, rfl, ⟨by omega, fun c hcc => ?_⟩, by omega⟩
            rcases Nat.lt_succ_iff_lt_or_eq.1 hcc with h | rfl
            · exact g2 c h
            · exact hc
      · obtain ⟨g1, g2⟩ := hg
        have hb : ¬ ((fr + g : Nat) : Int) < (N.n : Int) := of_decide_eq_false hge
        have hf : L.first (fun j => L.grp N (k - l.n - 1) (L.snoc l ((fr + j : Nat) : Int)) (fr + j + 1)) (N.n - fr) = none := first_none (fun j hj => isNo_none (g2 j (by omega)))
        rw [hf]
        exact ⟨(0 : Nat), rfl, ⟨rfl, fun _ _ => rfl⟩, rfl, rfl, trivial⟩)
theorem p_more_en : Enters Try.prog 78 := fun args w => by kernel_rfl
theorem p_more_tok : TrOk Try.prog 78 p_more_tr := tr_rec p_more_mu (fun t u => rfl) (fun rn ih => tr_ok (ks := [1003, 1005, 1007]) (n := 6) Try.func78 (c := bodyOf Try.f78) (by kernel_rfl) mixed ⟨fun t => rfl, fun t => rfl, fun t u => rfl, fun t u => rfl, fun t u => rfl, by kernel_rfl⟩ (fun ⟨l, fr, k, N, b⟩ hp => ⟨_, p_more_vc rn l fr k N b hp.1 hp.2, ⟨show SpecsL Try.prog _ from SpecsL.nil, rfl, ⟨show ItersL Try.prog _ from ItersL.nil, (show TrsL Try.prog _ from (TrsL.cons p_exit2_tok p_exit2_en (TrsL.cons ih p_more_en TrsL.nil)))⟩⟩⟩))
abbrev p_groups_tr : Tr := { T := (Nat) × (L.Sq L.Pt) × (L.Sq Int), U := Nat, args := fun t => (fun k N b => [.p (.int .i64 (N.n : Int)), .p (.int .i64 (k : Int)), .cl 52 [.p (.ref [(.sl 2 N.n (fun i => [.int .i64 ((N.g i).x), .int .i64 ((N.g i).y)]))] 0), .loc 1003 0]]) t.1 t.2.1 t.2.2, own := fun t => (fun k N b => [(1003, .blk 48 [.full false 1 (b).n (fun i => [.int .i64 ((b).g i)])])]) t.1 t.2.1 t.2.2, pre := fun t => (fun k N b => (1 ≤ k ∧ k ≤ 1000) ∧ N.n ≤ 1000 ∧ L.nrms N) t.1 t.2.1 t.2.2, post := fun t u => (fun k N b => fun u => True) t.1 t.2.1 t.2.2 u, own' := fun t u => (fun k N b => fun u => [(1003, .blk 48 [.full false 1 (L.orB (L.grp N k L.nilI 0) b).n (fun i => [.int .i64 ((L.orB (L.grp N k L.nilI 0) b).g i)])])]) t.1 t.2.1 t.2.2 u, res := fun t u => (fun k N b => fun u => .p (.bool (L.isNo (L.grp N k L.nilI 0)))) t.1 t.2.1 t.2.2 u }
theorem p_groups_vc (k : Nat) (N : L.Sq L.Pt) (b : L.Sq Int) (hp : p_groups_tr.pre (k, N, b)) : vc Try.prog ({ muts := [5, 7], frz := lookN [], specs := lookS [], loops := lookL [], iters := lookI [], rfs := lookR [], nils := lookM [], trs := lookT [(78, p_more_tr)], ren := fun k => bif k == 1003 then 1003 else k - 1000 }) (bodyOf Try.f51) (stTr Try.f51 (p_groups_tr.args (k, N, b)) (p_groups_tr.own (k, N, b))) (retTr Try.prog Try.f51 p_groups_tr (k, N, b)) :=
  @Eq.mpr _ (∃ (t : L.Sq Int × Nat × Nat × L.Sq L.Pt × L.Sq Int), t.1.n = (0 : Nat) ∧ (0 : Int) = (↑t.2.1 : Int) ∧ Go.SE.SV.ref [Go.SE.SV.int Go.IntKind.i64 (↑k : Int)] (nat_lit 0) = Go.SE.SV.ref [Go.SE.SV.int Go.IntKind.i64 (↑t.snd.2.1 : Int)] (0 : Nat) ∧ nat_lit 0 = (0 : Nat) ∧ Go.SE.SV.ref [Go.SE.SV.int Go.IntKind.i64 (↑N.n : Int)] (nat_lit 0) = Go.SE.SV.ref [Go.SE.SV.int Go.IntKind.i64 (↑t.snd.snd.2.1.n :
 Int)] (0 : Nat) ∧ nat_lit 0 = (0 : Nat) ∧ (b.n = t.snd.snd.2.2.n ∧ ∀ (i : Nat), i < b.n → [Go.SE.SV.int Go.IntKind.i64 (b.g i)] = [Go.SE.SV.int Go.IntKind.i64 (t.snd.snd.2.2.g i)]) ∧ Go.SE.EV.cl (nat_lit 52) [Go.SE.EV.p (Go.SE.SV.ref [Go.SE.SV.sl (nat_lit 2) N.n fun (i : Nat) ↦ [Go.SE.SV.int Go.IntKind.i64 (N.g i).x, Go.SE.SV.int Go.IntKind.i64 (N.g i).y]] (nat_lit 0)), Go.SE.EV.loc (nat_lit 1003)
 (nat_lit 0)] = Go.SE.EV.cl (52 : Nat) [Go.SE.EV.p (Go.SE.SV.ref [Go.SE.SV.sl (nat_lit 2) t.snd.snd.2.1.n fun (i : Nat) ↦ [Go.SE.SV.int Go.IntKind.i64 (t.snd.snd.2.1.g i).x, Go.SE.SV.int Go.IntKind.i64 (t.snd.snd.2.1.g i).y]] (nat_lit 0)), Go.SE.EV.loc (bif nat_lit 1003 == (1003 : Nat) then (1003 : Nat) else nat_lit 1003 - (1000 : Nat)) (nat_lit 0)] ∧ Go.SE.EV.cl (nat_lit 78) [Go.SE.EV.p
 (Go.SE.SV.ref [Go.SE.SV.int Go.IntKind.i64 (↑k : Int)] (nat_lit 0)), Go.SE.EV.loc (nat_lit 5) (nat_lit 0), Go.SE.EV.p (Go.SE.SV.ref [Go.SE.SV.int Go.IntKind.i64 (↑N.n : Int)] (nat_lit 0)), Go.SE.EV.loc (nat_lit 7) (nat_lit 0)] = Go.SE.EV.cl (78 : Nat) [Go.SE.EV.p (Go.SE.SV.ref [Go.SE.SV.int Go.IntKind.i64 (↑t.snd.2.1 : Int)] (nat_lit 0)), Go.SE.EV.loc (bif nat_lit 1005 == (1003 : Nat) then (1003 :
 Nat) else nat_lit 1005 - (1000 : Nat)) (nat_lit 0), Go.SE.EV.p (Go.SE.SV.ref [Go.SE.SV.int Go.IntKind.i64 (↑t.snd.snd.2.1.n : Int)] (nat_lit 0)), Go.SE.EV.loc (bif nat_lit 1007 == (1003 : Nat) then (1003 : Nat) else nat_lit 1007 - (1000 : Nat)) (nat_lit 0)] ∧ ((t.1.n ≤ t.snd.2.1 ∧ (1 : Nat) ≤ t.snd.2.1 ∧ t.snd.2.1 ≤ (1000 : Nat)) ∧ (t.2.1 ≤ t.snd.snd.2.1.n ∧ t.snd.snd.2.1.n ≤ (1000 : Nat)) ∧
 L.nrms t.snd.snd.2.1 ∧ L.within0 t.1 t.snd.snd.2.1.n) ∧ ∀ (u : Nat), True → ∃ (u : Nat), L.isNo (L.grp t.snd.snd.2.1 (t.snd.2.1 - t.1.n) t.1 t.2.1) = L.isNo (L.grp N k L.nilI (0 : Nat)) ∧ ((L.orB (L.grp t.snd.snd.2.1 (t.snd.2.1 - t.1.n) t.1 t.2.1) t.snd.snd.2.2).n = (L.orB (L.grp N k L.nilI (0 : Nat)) b).n ∧ ∀ (i : Nat), i < (L.orB (L.grp t.snd.snd.2.1 (t.snd.2.1 - t.1.n) t.1 t.2.1)
 t.snd.snd.2.2).n → [Go.SE.SV.int Go.IntKind.i64 ((L.orB (L.grp t.snd.snd.2.1 (t.snd.2.1 - t.1.n) t.1 t.2.1) t.snd.snd.2.2).g i)] = [Go.SE.SV.int Go.IntKind.i64 ((L.orB (L.grp N k L.nilI (0 : Nat)) b).g i)]) ∧ True) (by kernel_rfl) (by
    have hp : (1 ≤ k ∧ k ≤ 1000) ∧ N.n ≤ 1000 ∧ L.nrms N := hp
    obtain ⟨⟨k1, k2⟩, hn, hN⟩ := hp
    exact ⟨(L.nilI, 0, k, N, b), rfl, rfl, rfl, rfl, rfl, rfl, ⟨rfl, fun _ _ => rfl⟩, rfl, rfl, ⟨⟨Nat.zero_le _, k1, k2⟩, ⟨Nat.zero_le _, hn⟩, hN, fun i hi => absurd hi (Nat.not_lt_zero _)⟩, fun u _ => ⟨(0 : Nat), rfl, ⟨rfl, fun _ _ => rfl⟩, trivial⟩⟩)
theorem p_groups_en : Enters Try.prog 51 := fun args w => by kernel_rfl
theorem p_groups_tok : TrOk Try.prog 51 p_groups_tr := tr_ok (ks := [1003]) (n := 3) Try.func51 (c := bodyOf Try.f51) (by kernel_rfl) mixed ⟨fun t => rfl, fun t => rfl, fun t u => rfl, fun t u => rfl, fun t u => rfl, by kernel_rfl⟩ (fun ⟨k, N, b⟩ hp => ⟨_, p_groups_vc k N b hp, ⟨show SpecsL Try.prog _ from SpecsL.nil, rfl, ⟨show ItersL Try.prog _ from ItersL.nil, (show TrsL Try.prog _ from (TrsL.cons p_more_tok p_more_en TrsL.nil))⟩⟩⟩)
def p_Exit_p (l : (L.Sq L.Pt)) : Prop := l.n ≤ 1000000 ∧ (L.exBad l = false → L.wayOk l = false → L.isNo (L.first (L.exF l) 22) = false)
def p_Exit_r (l : (L.Sq L.Pt)) : SV := .tup [.agg [.int .i64 (L.exD l).x, .int .i64 (L.exD l).y], .sl 1 (L.exN l) (fun i => [.int .i64 ((L.exL l).g i)]), .int .i64 (L.exE l)]
def p_Exit_s : List EV → Option (Prop × SV)
  | [.p (.sl 2 l_n l_g)] => some ((∀ i, i < l_n → l_g i = [.int .i64 ((ofPt (l_g i)).x), .int .i64 ((ofPt (l_g i)).y)]) ∧ p_Exit_p (⟨l_n, fun i => ofPt (l_g i)⟩ : (L.Sq L.Pt)), p_Exit_r (⟨l_n, fun i => ofPt (l_g i)⟩ : (L.Sq L.Pt)))
  | _ => none
abbrev p_Exit_S : SE.Spec := (specO p_Exit_s)
def p_Exit_C : Cfg := { muts := [2, 3, 6], frz := lookN [], specs := lookS [(49, s_conFP_S), (48, p_bad_S), (50, p_way_S)], loops := fun _ => none, iters := lookI [], rfs := lookR [], nils := lookM [], anys := [11], trs := lookT [(51, p_groups_tr)], ren := fun k => k - 1000 }
theorem p_Exit_vc (l : (L.Sq L.Pt)) (hp : p_Exit_p l) : vc Try.prog ({ p_Exit_C with loops := lookL [(8, { T := Nat, keep := [1, 2, 3], keepO := [2], chg := fun j => [(8, .p (.int .i64 ((3 + j : Nat) : Int)))], own := fun j => [(3, .blk 48 [.full false 1 (L.orB (L.first (L.exF l) j) L.nilI).n (fun i => [.int .i64 ((L.orB (L.first (L.exF l) j) L.nilI).g i)])])], inv := fun j => j ≤ 22, mu := fun j => 23 - j })], rfs := lookR [] }) (bodyOf Try.f26) (st0 Try.f26 [.p (.sl 2 l.n (fun i => [.int .i64 ((l.g i).x), .int .i64 ((l.g i).y)]))]) (retFn Try.prog Try.f26 (p_Exit_r l)) :=
  @Eq.mpr _ (((!Decidable.decide ((24 : Int) < (↑l.n : Int))) = Bool.true → (∀ (i : Nat), i < l.n → [Go.SE.SV.int Go.IntKind.i64 (l.g i).x, Go.SE.SV.int Go.IntKind.i64 (l.g i).y] = [Go.SE.SV.int Go.IntKind.i64 (l.g i).x, Go.SE.SV.int Go.IntKind.i64 (l.g i).y]) ∧ Go.SE.isB (Go.SE.FSpec.mk (fun («as» : List Go.SE.SV) ↦ Go.SE.preO p_bad_s (List.map Go.SE.EV.p «as» ++ List.map Go.SE.EV.p [])) fun («as» : List
 Go.SE.SV) ↦ Go.SE.resO p_bad_s (List.map Go.SE.EV.p «as» ++ List.map Go.SE.EV.p [])) ∧ l.n ≤ (1000000 : Nat) ∧ ∀ (i : Nat), i < l.n → True) ∧ ((bif Decidable.decide ((24 : Int) < (↑l.n : Int)) then Bool.true else L.anyB l.n fun (i : Nat) ↦ L.fbl (Go.SE.FSpec.mk (fun («as» : List Go.SE.SV) ↦ Go.SE.preO p_bad_s (List.map Go.SE.EV.p «as» ++ List.map Go.SE.EV.p [])) fun («as» : List Go.SE.SV) ↦
 Go.SE.resO p_bad_s (List.map Go.SE.EV.p «as» ++ List.map Go.SE.EV.p [])) [Go.SE.SV.agg [Go.SE.SV.int Go.IntKind.i64 (l.g i).x, Go.SE.SV.int Go.IntKind.i64 (l.g i).y]]) = Bool.true → Go.SE.SV.agg [Go.SE.SV.int Go.IntKind.i64 (0 : Int), Go.SE.SV.int Go.IntKind.i64 (0 : Int)] = Go.SE.SV.agg [Go.SE.SV.int Go.IntKind.i64 (L.exD l).x, Go.SE.SV.int Go.IntKind.i64 (L.exD l).y] ∧ L.exN l = (0 : Nat) ∧ (1 :
 Int) = L.exE l) ∧ ((bif Decidable.decide ((24 : Int) < (↑l.n : Int)) then Bool.true else L.anyB l.n fun (i : Nat) ↦ L.fbl (Go.SE.FSpec.mk (fun («as» : List Go.SE.SV) ↦ Go.SE.preO p_bad_s (List.map Go.SE.EV.p «as» ++ List.map Go.SE.EV.p [])) fun («as» : List Go.SE.SV) ↦ Go.SE.resO p_bad_s (List.map Go.SE.EV.p «as» ++ List.map Go.SE.EV.p [])) [Go.SE.SV.agg [Go.SE.SV.int Go.IntKind.i64 (l.g i).x,
 Go.SE.SV.int Go.IntKind.i64 (l.g i).y]]) = Bool.false → ((∀ (i : Nat), i < l.n → [Go.SE.SV.int Go.IntKind.i64 (l.g i).x, Go.SE.SV.int Go.IntKind.i64 (l.g i).y] = [Go.SE.SV.int Go.IntKind.i64 (l.g i).x, Go.SE.SV.int Go.IntKind.i64 (l.g i).y]) ∧ L.nrms (L.Sq.mk l.n fun (i : Nat) ↦ l.g i)) ∧ (L.wayOk (L.Sq.mk l.n fun (i : Nat) ↦ l.g i) = Bool.true → Go.SE.SV.agg [Go.SE.SV.int Go.IntKind.i64 (L.wayD
 (L.Sq.mk l.n fun (i : Nat) ↦ l.g i)).x, Go.SE.SV.int Go.IntKind.i64 (L.wayD (L.Sq.mk l.n fun (i : Nat) ↦ l.g i)).y] = Go.SE.SV.agg [Go.SE.SV.int Go.IntKind.i64 (L.exD l).x, Go.SE.SV.int Go.IntKind.i64 (L.exD l).y] ∧ L.exN l = (0 : Nat) ∧ (0 : Int) = L.exE l) ∧ (L.wayOk (L.Sq.mk l.n fun (i : Nat) ↦ l.g i) = Bool.false → (∃ (g : Nat), (3 : Int) = (↑((3 : Nat) + g) : Int) ∧ (L.orB (L.first (L.exF l)
 g) L.nilI).n = (0 : Nat) ∧ g ≤ (22 : Nat)) ∧ ∀ (g : Nat), g ≤ (22 : Nat) → ((bif Bool.false then !Decidable.decide ((L.orB (L.first (L.exF l) g) L.nilI).n = (0 : Nat)) else Decidable.decide ((L.orB (L.first (L.exF l) g) L.nilI).n = (0 : Nat))) = Bool.true → ∃ (t : Nat × L.Sq L.Pt × L.Sq Int), (↑l.n : Int) = (↑t.2.1.n : Int) ∧ (↑((3 : Nat) + g) : Int) = (↑t.1 : Int) ∧ Go.SE.EV.cl (nat_lit 52)
 [Go.SE.EV.p (Go.SE.SV.ref [Go.SE.SV.sl (nat_lit 2) l.n fun (i : Nat) ↦ [Go.SE.SV.int Go.IntKind.i64 (l.g i).x, Go.SE.SV.int Go.IntKind.i64 (l.g i).y]] (nat_lit 0)), Go.SE.EV.loc (nat_lit 3) (nat_lit 0)] = Go.SE.EV.cl (52 : Nat) [Go.SE.EV.p (Go.SE.SV.ref [Go.SE.SV.sl (nat_lit 2) t.2.1.n fun (i : Nat) ↦ [Go.SE.SV.int Go.IntKind.i64 (t.2.1.g i).x, Go.SE.SV.int Go.IntKind.i64 (t.2.1.g i).y]] (nat_lit
 0)), Go.SE.EV.loc (nat_lit 1003 - (1000 : Nat)) (nat_lit 0)] ∧ ((L.orB (L.first (L.exF l) g) L.nilI).n = t.2.2.n ∧ ∀ (i : Nat), i < (L.orB (L.first (L.exF l) g) L.nilI).n → [Go.SE.SV.int Go.IntKind.i64 ((L.orB (L.first (L.exF l) g) L.nilI).g i)] = [Go.SE.SV.int Go.IntKind.i64 (t.2.2.g i)]) ∧ (((1 : Nat) ≤ t.1 ∧ t.1 ≤ (1000 : Nat)) ∧ t.2.1.n ≤ (1000 : Nat) ∧ L.nrms t.2.1) ∧ ∀ (u : Nat), True →
 Go.SE.InK Go.IntKind.i64 ((↑((3 : Nat) + g) : Int) + (1 : Int)) ∧ ∃ (g' : Nat), (↑((3 : Nat) + g) : Int) + (1 : Int) = (↑((3 : Nat) + g') : Int) ∧ nat_lit 0 = nat_lit 0 ∧ nat_lit 0 = nat_lit 0 ∧ Go.SE.SV.ref [Go.SE.SV.sl (nat_lit 2) l.n fun (i : Nat) ↦ [Go.SE.SV.int Go.IntKind.i64 (l.g i).x, Go.SE.SV.int Go.IntKind.i64 (l.g i).y]] (nat_lit 0) = Go.SE.SV.ref [Go.SE.SV.sl (nat_lit 2) l.n fun (i :
 Nat) ↦ [Go.SE.SV.int Go.IntKind.i64 (l.g i).x, Go.SE.SV.int Go.IntKind.i64 (l.g i).y]] (nat_lit 0) ∧ ((L.orB (L.grp t.2.1 t.1 L.nilI (0 : Nat)) t.2.2).n = (L.orB (L.first (L.exF l) g') L.nilI).n ∧ ∀ (i : Nat), i < (L.orB (L.grp t.2.1 t.1 L.nilI (0 : Nat)) t.2.2).n → [Go.SE.SV.int Go.IntKind.i64 ((L.orB (L.grp t.2.1 t.1 L.nilI (0 : Nat)) t.2.2).g i)] = [Go.SE.SV.int Go.IntKind.i64 ((L.orB (L.first
 (L.exF l) g') L.nilI).g i)]) ∧ (0 : Int) = (0 : Int) ∧ (0 : Int) = (0 : Int) ∧ g' ≤ (22 : Nat) ∧ (23 : Nat) - g' < (23 : Nat) - g) ∧ ((bif Bool.false then !Decidable.decide ((L.orB (L.first (L.exF l) g) L.nilI).n = (0 : Nat)) else Decidable.decide ((L.orB (L.first (L.exF l) g) L.nilI).n = (0 : Nat))) = Bool.false → ((Go.SE.SV.agg [Go.SE.SV.int Go.IntKind.i64 (0 : Int), Go.SE.SV.int Go.IntKind.i64
 (0 : Int)] = Go.SE.SV.agg [Go.SE.SV.int Go.IntKind.i64 (L.exD l).x, Go.SE.SV.int Go.IntKind.i64 (L.exD l).y] ∧ ((L.orB (L.first (L.exF l) g) L.nilI).n = L.exN l ∧ ∀ (i : Nat), i < (L.orB (L.first (L.exF l) g) L.nilI).n → [Go.SE.SV.int Go.IntKind.i64 ((L.orB (L.first (L.exF l) g) L.nilI).g i)] = [Go.SE.SV.int Go.IntKind.i64 ((L.exL l).g i)]) ∧ (13 : Int) = L.exE l) ∧ Go.SE.SV.agg [Go.SE.SV.int
 Go.IntKind.i64 (0 : Int), Go.SE.SV.int Go.IntKind.i64 (0 : Int)] = Go.SE.SV.agg [Go.SE.SV.int Go.IntKind.i64 (L.exD l).x, Go.SE.SV.int Go.IntKind.i64 (L.exD l).y] ∧ ((L.orB (L.first (L.exF l) g) L.nilI).n = L.exN l ∧ ∀ (i : Nat), i < (L.orB (L.first (L.exF l) g) L.nilI).n → [Go.SE.SV.int Go.IntKind.i64 ((L.orB (L.first (L.exF l) g) L.nilI).g i)] = [Go.SE.SV.int Go.IntKind.i64 ((L.exL l).g i)]) ∧
 (13 : Int) = L.exE l) ∧ Go.SE.SV.agg [Go.SE.SV.int Go.IntKind.i64 (0 : Int), Go.SE.SV.int Go.IntKind.i64 (0 : Int)] = Go.SE.SV.agg [Go.SE.SV.int Go.IntKind.i64 (L.exD l).x, Go.SE.SV.int Go.IntKind.i64 (L.exD l).y] ∧ ((L.orB (L.first (L.exF l) g) L.nilI).n = L.exN l ∧ ∀ (i : Nat), i < (L.orB (L.first (L.exF l) g) L.nilI).n → [Go.SE.SV.int Go.IntKind.i64 ((L.orB (L.first (L.exF l) g) L.nilI).g i)] =
 [Go.SE.SV.int Go.IntKind.i64 ((L.exL l).g i)]) ∧ (13 : Int) = L.exE l)))) (by kernel_rfl) (by
    obtain ⟨hn, hex⟩ := hp
    refine ⟨fun _ => ⟨fun _ _ => rfl, isB_of p_bad_B _, hn, fun _ _ => trivial⟩, fun h => ?_, fun h => ?_⟩
    · have hb : L.exBad l = true := h
      unfold L.exD L.exN L.exE
      rw [hb]; exact ⟨rfl, rfl, rfl⟩
    have hb : L.exBad l = false := h
    obtain ⟨h24, hN⟩ := exBad_false hb
    refine ⟨⟨fun _ _ => rfl, hN⟩, fun hw => ?_, fun hw => ?_⟩
    · unfold L.exD L.exN L.exE
      rw [hb, hw]; exact ⟨rfl, rfl, rfl⟩
    have hsm := hex hb hw
    have hD : L.exD l = ⟨0, 0⟩ := by unfold L.exD; rw [hb]; exact wayD_no hw
    have hE : L.exE l = 13 := by unfold L.exE; rw [hb, hw]; rfl
    have hNn : L.exN l = (L.exL l).n := by unfold L.exN; rw [hb, hw]; rfl
    refine ⟨⟨(0 : Nat), rfl, rfl, Nat.zero_le _⟩, fun g hg => ⟨fun hc => ?_, fun hc => ?_⟩⟩
    · have hc : (L.orB (L.first (L.exF l) g) L.nilI).n = 0 := of_decide_eq_true hc
      have hno : L.first (L.exF l) g = none := by
        cases hf : L.first (L.exF l) g with
        | none => rfl
        | some x =>
          rw [hf] at hc
          have hc : x.n = 0 := hc
          obtain ⟨j, _, hj, _⟩ := first_some hf
          have : x.n = 0 + (3 + j) := grp_len hj
          omega
      have hg22 : g ≠ 22 := fun e => by
        rw [e] at hno; rw [hno] at hsm; cases hsm
      have e1 : L.first (L.exF l) (g + 1) = L.exF l g := by rw [L.first, hno]
      refine ⟨(3 + g, l, L.orB (L.first (L.exF l) g) L.nilI), rfl, rfl, rfl, ⟨rfl, fun _ _ => rfl⟩, ⟨⟨by show 1 ≤ 3 + g; omega, by show 3 + g ≤ 1000; omega⟩, by show l.n ≤ 1000; omega, hN⟩, fun u _ => ⟨InK.of (by omega) (by omega), g + 1, by omega, rfl, rfl, rfl, ?_, rfl, rfl, by omega, by omega⟩⟩
      rw [e1, hno]
      exact ⟨rfl, fun _ _ => rfl⟩
    · have hc : ¬ (L.orB (L.first (L.exF l) g) L.nilI).n = 0 := of_decide_eq_false hc
      have hsom : L.orB (L.first (L.exF l) g) L.nilI = L.exL l := by
        cases hf : L.first (L.exF l) g with
        | none => rw [hf] at hc; exact absurd rfl hc
        | some x =>
          unfold L.exL
          rw [first_mono hf hg]
      rw [hsom, hD, hE, hNn]
      exact ⟨⟨⟨rfl, ⟨rfl, fun _ _ => rfl⟩, rfl⟩, ⟨rfl, ⟨rfl, fun _ _ => rfl⟩, rfl⟩⟩, ⟨rfl, ⟨rfl, fun _ _ => rfl⟩, rfl⟩⟩)
theorem p_Exit_ok : SpecOk Try.prog 26 p_Exit_S := fnX Try.func26 (c := bodyOf Try.f26) (by kernel_rfl) mixed (fun args p r hs hp => by
  unfold p_Exit_s at hs
  split at hs
  · cases hs; exact ⟨_, _, p_Exit_vc _ hp.2, (.p (.sl hp.1) .nil), ⟨show SpecsL Try.prog _ from (SpecsL.cons s_conFP_ok s_conFP_en (SpecsL.cons p_bad_ok p_bad_en (SpecsL.cons p_way_ok p_way_en SpecsL.nil))), rfl, ⟨show ItersL Try.prog _ from ItersL.nil, (show TrsL Try.prog _ from (TrsL.cons p_groups_tok p_groups_en TrsL.nil))⟩⟩⟩
  · cases hs)
theorem p_Exit_en : Enters Try.prog 26 := fun args w => by kernel_rfl
end Go.Proofs.Ytkklpamllfkbaaa

namespace Go.Proofs.Ytkklpamllfkbaaa
open Go.SE Go.RowKit
set_option maxRecDepth 100000
set_option maxHeartbeats 4000000
set_option linter.unusedVariables false
attribute [local irreducible] Go.SE.vc

def L.turnOk (a b c : L.Pt) : Bool := bif (bif L.validPt a then L.validPt b else false) then L.validPt c else false
def p_Area_p (l : (L.Sq L.Pt)) : Prop := l.n ≤ 1000000
def p_Area_r (l : (L.Sq L.Pt)) : SV := .tup [.int .i64 (bif L.validOutline l then L.areaTo l l.n else 0), .int .i64 (bif L.validOutline l then 0 else 1)]
def p_Area_s : List EV → Option (Prop × SV)
  | [.p (.sl 2 l_n l_g)] => some ((∀ i, i < l_n → l_g i = [.int .i64 ((ofPt (l_g i)).x), .int .i64 ((ofPt (l_g i)).y)]) ∧ p_Area_p (⟨l_n, fun i => ofPt (l_g i)⟩ : (L.Sq L.Pt)), p_Area_r (⟨l_n, fun i => ofPt (l_g i)⟩ : (L.Sq L.Pt)))
  | _ => none
abbrev p_Area_S : SE.Spec := (specO p_Area_s)
def p_Area_C : Cfg := { muts := [], frz := lookN [], specs := lookS [(43, p_ValidOutline_S), (56, p_area_S)], loops := lookL [], iters := lookI [], rfs := lookR [], nils := lookM [] }
theorem p_Area_vc (l : (L.Sq L.Pt)) (hp : p_Area_p l) : vc Try.prog (p_Area_C) (bodyOf Try.f29) (st0 Try.f29 [.p (.sl 2 l.n (fun i => [.int .i64 ((l.g i).x), .int .i64 ((l.g i).y)]))]) (retFn Try.prog Try.f29 (p_Area_r l)) :=
  @Eq.mpr _ (((∀ (i : Nat), i < l.n → [Go.SE.SV.int Go.IntKind.i64 (l.g i).x, Go.SE.SV.int Go.IntKind.i64 (l.g i).y] = [Go.SE.SV.int Go.IntKind.i64 (l.g i).x, Go.SE.SV.int Go.IntKind.i64 (l.g i).y]) ∧ l.n ≤ (1000000 : Nat)) ∧ ((!L.validOutline (L.Sq.mk l.n fun (i : Nat) ↦ l.g i)) = Bool.true → ((0 : Int) = bif L.validOutline l then L.areaTo l l.n else (0 : Int)) ∧ (1 : Int) = bif L.validOutline l then (0 :
 Int) else (1 : Int)) ∧ ((!L.validOutline (L.Sq.mk l.n fun (i : Nat) ↦ l.g i)) = Bool.false → ((∀ (i : Nat), i < l.n → [Go.SE.SV.int Go.IntKind.i64 (l.g i).x, Go.SE.SV.int Go.IntKind.i64 (l.g i).y] = [Go.SE.SV.int Go.IntKind.i64 (l.g i).x, Go.SE.SV.int Go.IntKind.i64 (l.g i).y]) ∧ L.small (L.Sq.mk l.n fun (i : Nat) ↦ l.g i)) ∧ (L.areaTo (L.Sq.mk l.n fun (i : Nat) ↦ l.g i) l.n = bif L.validOutline l
 then L.areaTo l l.n else (0 : Int)) ∧ (0 : Int) = bif L.validOutline l then (0 : Int) else (1 : Int))) (by kernel_rfl) (by
    have hn : l.n ≤ 1000000 := hp
    refine ⟨⟨fun _ _ => rfl, hn⟩, fun h => ?_, fun h => ?_⟩
    · have hv : L.validOutline l = false := by simpa using (show (!L.validOutline l) = true from h)
      rw [hv]; exact ⟨rfl, rfl⟩
    · have hv : L.validOutline l = true := by simpa using (show (!L.validOutline l) = false from h)
      rw [hv]; exact ⟨⟨fun _ _ => rfl, (validOutline_of hv).2.2.1⟩, rfl, rfl⟩)
theorem p_Area_ok : SpecOk Try.prog 29 p_Area_S := fnX Try.func29 (c := bodyOf Try.f29) (by kernel_rfl) mixed (fun args p r hs hp => by
  unfold p_Area_s at hs
  split at hs
  · cases hs; exact ⟨_, _, p_Area_vc _ hp.2, (.p (.sl hp.1) .nil), ⟨show SpecsL Try.prog _ from (SpecsL.cons p_ValidOutline_ok p_ValidOutline_en (SpecsL.cons p_area_ok p_area_en SpecsL.nil)), rfl, ⟨show ItersL Try.prog _ from ItersL.nil, (TrsOk.none (fun _ => rfl))⟩⟩⟩
  · cases hs)
theorem p_Area_en : Enters Try.prog 29 := fun args w => by kernel_rfl
def p_Turn_p (a : L.Pt) (b : L.Pt) (c : L.Pt) : Prop := True
def p_Turn_r (a : L.Pt) (b : L.Pt) (c : L.Pt) : SV := .tup [.int .i64 (bif L.validPt a && L.validPt b && L.validPt c then L.cmp (L.cross a b c) 0 else 0), .int .i64 (bif L.validPt a && L.validPt b && L.validPt c then 0 else 1)]
def p_Turn_s : List EV → Option (Prop × SV)
  | [.p (.agg [.int .i64 a_x, .int .i64 a_y]), .p (.agg [.int .i64 b_x, .int .i64 b_y]), .p (.agg [.int .i64 c_x, .int .i64 c_y])] => some (p_Turn_p (⟨a_x, a_y⟩ : L.Pt) (⟨b_x, b_y⟩ : L.Pt) (⟨c_x, c_y⟩ : L.Pt), p_Turn_r (⟨a_x, a_y⟩ : L.Pt) (⟨b_x, b_y⟩ : L.Pt) (⟨c_x, c_y⟩ : L.Pt))
  | _ => none
abbrev p_Turn_S : SE.Spec := (specO p_Turn_s)
def p_Turn_C : Cfg := { muts := [], frz := lookN [], specs := lookS [(31, p_valid_S), (34, p_cross_S), (33, c_cmp_S)], loops := lookL [], iters := lookI [], rfs := lookR [], nils := lookM [] }
theorem p_Turn_vc (a : L.Pt) (b : L.Pt) (c : L.Pt) (hp : p_Turn_p a b c) : vc Try.prog (p_Turn_C) (bodyOf Try.f11) (st0 Try.f11 [.p (.agg [.int .i64 a.x, .int .i64 a.y]), .p (.agg [.int .i64 b.x, .int .i64 b.y]), .p (.agg [.int .i64 c.x, .int .i64 c.y])]) (retFn Try.prog Try.f11 (p_Turn_r a b c)) :=
  @Eq.mpr _ (((∀ (i : Nat), i < nat_lit 3 → Go.SE.rowsOf [Go.SE.SV.int Go.IntKind.i64 a.x, Go.SE.SV.int Go.IntKind.i64 a.y, Go.SE.SV.int Go.IntKind.i64 b.x, Go.SE.SV.int Go.IntKind.i64 b.y, Go.SE.SV.int Go.IntKind.i64 c.x, Go.SE.SV.int Go.IntKind.i64 c.y] (nat_lit 2) i = [Go.SE.SV.int Go.IntKind.i64 (ofPt (Go.SE.rowsOf [Go.SE.SV.int Go.IntKind.i64 a.x, Go.SE.SV.int Go.IntKind.i64 a.y, Go.SE.SV.int
 Go.IntKind.i64 b.x, Go.SE.SV.int Go.IntKind.i64 b.y, Go.SE.SV.int Go.IntKind.i64 c.x, Go.SE.SV.int Go.IntKind.i64 c.y] (nat_lit 2) i)).x, Go.SE.SV.int Go.IntKind.i64 (ofPt (Go.SE.rowsOf [Go.SE.SV.int Go.IntKind.i64 a.x, Go.SE.SV.int Go.IntKind.i64 a.y, Go.SE.SV.int Go.IntKind.i64 b.x, Go.SE.SV.int Go.IntKind.i64 b.y, Go.SE.SV.int Go.IntKind.i64 c.x, Go.SE.SV.int Go.IntKind.i64 c.y] (nat_lit 2)
 i)).y]) ∧ nat_lit 3 ≤ (1000000 : Nat)) ∧ ((!L.allB (nat_lit 3) fun (i : Nat) ↦ L.validPt (ofPt (Go.SE.rowsOf [Go.SE.SV.int Go.IntKind.i64 a.x, Go.SE.SV.int Go.IntKind.i64 a.y, Go.SE.SV.int Go.IntKind.i64 b.x, Go.SE.SV.int Go.IntKind.i64 b.y, Go.SE.SV.int Go.IntKind.i64 c.x, Go.SE.SV.int Go.IntKind.i64 c.y] (nat_lit 2) i))) = Bool.true → ((0 : Int) = bif L.validPt a && L.validPt b && L.validPt c
 then L.cmp (L.cross a b c) (0 : Int) else (0 : Int)) ∧ (1 : Int) = bif L.validPt a && L.validPt b && L.validPt c then (0 : Int) else (1 : Int)) ∧ ((!L.allB (nat_lit 3) fun (i : Nat) ↦ L.validPt (ofPt (Go.SE.rowsOf [Go.SE.SV.int Go.IntKind.i64 a.x, Go.SE.SV.int Go.IntKind.i64 a.y, Go.SE.SV.int Go.IntKind.i64 b.x, Go.SE.SV.int Go.IntKind.i64 b.y, Go.SE.SV.int Go.IntKind.i64 c.x, Go.SE.SV.int
 Go.IntKind.i64 c.y] (nat_lit 2) i))) = Bool.false → (L.bd a ∧ L.bd b ∧ L.bd c) ∧ True ∧ (L.cmp (L.cross a b c) (0 : Int) = bif L.validPt a && L.validPt b && L.validPt c then L.cmp (L.cross a b c) (0 : Int) else (0 : Int)) ∧ (0 : Int) = bif L.validPt a && L.validPt b && L.validPt c then (0 : Int) else (1 : Int))) (by kernel_rfl) (by
    refine ⟨⟨fun i hi => by match i, hi with | 0, _ => rfl | 1, _ => rfl | 2, _ => rfl, by decide⟩, fun h => ?_, fun h => ?_⟩
    · have h' : (L.validPt a && L.validPt b && L.validPt c) = false := by simpa only [Bool.not_eq_true', Bool.not_eq_false'] using (show (!(L.validPt a && L.validPt b && L.validPt c)) = true from h)
      rw [h']; exact ⟨rfl, rfl⟩
    · have h' : (L.validPt a && L.validPt b && L.validPt c) = true := by simpa only [Bool.not_eq_true', Bool.not_eq_false'] using (show (!(L.validPt a && L.validPt b && L.validPt c)) = false from h)
      obtain ⟨vab, vc⟩ := Bool.and_eq_true_iff.1 h'
      obtain ⟨va, vb⟩ := Bool.and_eq_true_iff.1 vab
      rw [h']; exact ⟨⟨validPt_bd va, validPt_bd vb, validPt_bd vc⟩, trivial, rfl, rfl⟩)
theorem p_Turn_ok : SpecOk Try.prog 11 p_Turn_S := fnX Try.func11 (c := bodyOf Try.f11) (by kernel_rfl) mixed (fun args p r hs hp => by
  unfold p_Turn_s at hs
  split at hs
  · cases hs; exact ⟨_, _, p_Turn_vc _ _ _ hp, (.same _ (.same _ (.same _ .nil))), ⟨show SpecsL Try.prog _ from (SpecsL.cons p_valid_ok p_valid_en (SpecsL.cons p_cross_ok p_cross_en (SpecsL.cons c_cmp_ok c_cmp_en SpecsL.nil))), rfl, ⟨show ItersL Try.prog _ from ItersL.nil, (TrsOk.none (fun _ => rfl))⟩⟩⟩
  · cases hs)
theorem p_Turn_en : Enters Try.prog 11 := fun args w => by kernel_rfl
def w_awake_p  : Prop := True
def w_awake_r  : SV := .bool true
def w_awake_s : List EV → Option (Prop × SV)
  | [] => some (w_awake_p , w_awake_r )
  | _ => none
abbrev w_awake_S : SE.Spec := (specO w_awake_s)
def w_awake_C : Cfg := { muts := [8], frz := lookN [], specs := lookS [(29, p_Area_S), (30, p_Pockets_S), (11, p_Turn_S), (26, p_Exit_S)], loops := lookL [], iters := lookI [], rfs := lookR [], nils := lookM [] }
theorem w_awake_vc  (hp : w_awake_p) : vc Try.prog (w_awake_C) (bodyOf Try.f9) (st0 Try.f9 []) (retFn Try.prog Try.f9 (w_awake_r )) :=
  @Eq.mpr _ (((∀ (i : Nat), i < nat_lit 5 → Go.SE.rowsOf [Go.SE.SV.int Go.IntKind.i64 (0 : Int), Go.SE.SV.int Go.IntKind.i64 (0 : Int), Go.SE.SV.int Go.IntKind.i64 (4 : Int), Go.SE.SV.int Go.IntKind.i64 (0 : Int), Go.SE.SV.int Go.IntKind.i64 (4 : Int), Go.SE.SV.int Go.IntKind.i64 (4 : Int), Go.SE.SV.int Go.IntKind.i64 (2 : Int), Go.SE.SV.int Go.IntKind.i64 (1 : Int), Go.SE.SV.int Go.IntKind.i64 (0 : Int),
 Go.SE.SV.int Go.IntKind.i64 (4 : Int)] (nat_lit 2) i = [Go.SE.SV.int Go.IntKind.i64 (ofPt (Go.SE.rowsOf [Go.SE.SV.int Go.IntKind.i64 (0 : Int), Go.SE.SV.int Go.IntKind.i64 (0 : Int), Go.SE.SV.int Go.IntKind.i64 (4 : Int), Go.SE.SV.int Go.IntKind.i64 (0 : Int), Go.SE.SV.int Go.IntKind.i64 (4 : Int), Go.SE.SV.int Go.IntKind.i64 (4 : Int), Go.SE.SV.int Go.IntKind.i64 (2 : Int), Go.SE.SV.int
 Go.IntKind.i64 (1 : Int), Go.SE.SV.int Go.IntKind.i64 (0 : Int), Go.SE.SV.int Go.IntKind.i64 (4 : Int)] (nat_lit 2) i)).x, Go.SE.SV.int Go.IntKind.i64 (ofPt (Go.SE.rowsOf [Go.SE.SV.int Go.IntKind.i64 (0 : Int), Go.SE.SV.int Go.IntKind.i64 (0 : Int), Go.SE.SV.int Go.IntKind.i64 (4 : Int), Go.SE.SV.int Go.IntKind.i64 (0 : Int), Go.SE.SV.int Go.IntKind.i64 (4 : Int), Go.SE.SV.int Go.IntKind.i64 (4 :
 Int), Go.SE.SV.int Go.IntKind.i64 (2 : Int), Go.SE.SV.int Go.IntKind.i64 (1 : Int), Go.SE.SV.int Go.IntKind.i64 (0 : Int), Go.SE.SV.int Go.IntKind.i64 (4 : Int)] (nat_lit 2) i)).y]) ∧ nat_lit 5 ≤ (1000000 : Nat)) ∧ ((∀ (i : Nat), i < nat_lit 5 → Go.SE.rowsOf [Go.SE.SV.int Go.IntKind.i64 (0 : Int), Go.SE.SV.int Go.IntKind.i64 (0 : Int), Go.SE.SV.int Go.IntKind.i64 (4 : Int), Go.SE.SV.int
 Go.IntKind.i64 (0 : Int), Go.SE.SV.int Go.IntKind.i64 (4 : Int), Go.SE.SV.int Go.IntKind.i64 (4 : Int), Go.SE.SV.int Go.IntKind.i64 (2 : Int), Go.SE.SV.int Go.IntKind.i64 (1 : Int), Go.SE.SV.int Go.IntKind.i64 (0 : Int), Go.SE.SV.int Go.IntKind.i64 (4 : Int)] (nat_lit 2) i = [Go.SE.SV.int Go.IntKind.i64 (ofPt (Go.SE.rowsOf [Go.SE.SV.int Go.IntKind.i64 (0 : Int), Go.SE.SV.int Go.IntKind.i64 (0 :
 Int), Go.SE.SV.int Go.IntKind.i64 (4 : Int), Go.SE.SV.int Go.IntKind.i64 (0 : Int), Go.SE.SV.int Go.IntKind.i64 (4 : Int), Go.SE.SV.int Go.IntKind.i64 (4 : Int), Go.SE.SV.int Go.IntKind.i64 (2 : Int), Go.SE.SV.int Go.IntKind.i64 (1 : Int), Go.SE.SV.int Go.IntKind.i64 (0 : Int), Go.SE.SV.int Go.IntKind.i64 (4 : Int)] (nat_lit 2) i)).x, Go.SE.SV.int Go.IntKind.i64 (ofPt (Go.SE.rowsOf [Go.SE.SV.int
 Go.IntKind.i64 (0 : Int), Go.SE.SV.int Go.IntKind.i64 (0 : Int), Go.SE.SV.int Go.IntKind.i64 (4 : Int), Go.SE.SV.int Go.IntKind.i64 (0 : Int), Go.SE.SV.int Go.IntKind.i64 (4 : Int), Go.SE.SV.int Go.IntKind.i64 (4 : Int), Go.SE.SV.int Go.IntKind.i64 (2 : Int), Go.SE.SV.int Go.IntKind.i64 (1 : Int), Go.SE.SV.int Go.IntKind.i64 (0 : Int), Go.SE.SV.int Go.IntKind.i64 (4 : Int)] (nat_lit 2) i)).y]) ∧
 nat_lit 5 ≤ (1000000 : Nat)) ∧ ∀ (t : Nat → L.Pocket), (L.validOutline (L.Sq.mk (nat_lit 5) fun (i : Nat) ↦ ofPt (Go.SE.rowsOf [Go.SE.SV.int Go.IntKind.i64 (0 : Int), Go.SE.SV.int Go.IntKind.i64 (0 : Int), Go.SE.SV.int Go.IntKind.i64 (4 : Int), Go.SE.SV.int Go.IntKind.i64 (0 : Int), Go.SE.SV.int Go.IntKind.i64 (4 : Int), Go.SE.SV.int Go.IntKind.i64 (4 : Int), Go.SE.SV.int Go.IntKind.i64 (2 : Int),
 Go.SE.SV.int Go.IntKind.i64 (1 : Int), Go.SE.SV.int Go.IntKind.i64 (0 : Int), Go.SE.SV.int Go.IntKind.i64 (4 : Int)] (nat_lit 2) i)) = Bool.true → Go.SE.SortedBy L.cmpFr (L.pks (L.Sq.mk (nat_lit 5) fun (i : Nat) ↦ ofPt (Go.SE.rowsOf [Go.SE.SV.int Go.IntKind.i64 (0 : Int), Go.SE.SV.int Go.IntKind.i64 (0 : Int), Go.SE.SV.int Go.IntKind.i64 (4 : Int), Go.SE.SV.int Go.IntKind.i64 (0 : Int),
 Go.SE.SV.int Go.IntKind.i64 (4 : Int), Go.SE.SV.int Go.IntKind.i64 (4 : Int), Go.SE.SV.int Go.IntKind.i64 (2 : Int), Go.SE.SV.int Go.IntKind.i64 (1 : Int), Go.SE.SV.int Go.IntKind.i64 (0 : Int), Go.SE.SV.int Go.IntKind.i64 (4 : Int)] (nat_lit 2) i))).n (L.pks (L.Sq.mk (nat_lit 5) fun (i : Nat) ↦ ofPt (Go.SE.rowsOf [Go.SE.SV.int Go.IntKind.i64 (0 : Int), Go.SE.SV.int Go.IntKind.i64 (0 : Int),
 Go.SE.SV.int Go.IntKind.i64 (4 : Int), Go.SE.SV.int Go.IntKind.i64 (0 : Int), Go.SE.SV.int Go.IntKind.i64 (4 : Int), Go.SE.SV.int Go.IntKind.i64 (4 : Int), Go.SE.SV.int Go.IntKind.i64 (2 : Int), Go.SE.SV.int Go.IntKind.i64 (1 : Int), Go.SE.SV.int Go.IntKind.i64 (0 : Int), Go.SE.SV.int Go.IntKind.i64 (4 : Int)] (nat_lit 2) i))).g t) → ((0 : Int) ≤ (0 : Int) ∧ (0 : Int) < (↑(nat_lit 5) : Int)) ∧ ((0
 : Int) ≤ (1 : Int) ∧ (1 : Int) < (↑(nat_lit 5) : Int)) ∧ ((0 : Int) ≤ (2 : Int) ∧ (2 : Int) < (↑(nat_lit 5) : Int)) ∧ True ∧ ((∀ (i : Nat), i < nat_lit 3 → Go.SE.rowsOf [Go.SE.SV.int Go.IntKind.i64 (1 : Int), Go.SE.SV.int Go.IntKind.i64 (0 : Int), Go.SE.SV.int Go.IntKind.i64 (-1 : Int), Go.SE.SV.int Go.IntKind.i64 (1 : Int), Go.SE.SV.int Go.IntKind.i64 (-1 : Int), Go.SE.SV.int Go.IntKind.i64 (-1 :
 Int)] (nat_lit 2) i = [Go.SE.SV.int Go.IntKind.i64 (ofPt (Go.SE.rowsOf [Go.SE.SV.int Go.IntKind.i64 (1 : Int), Go.SE.SV.int Go.IntKind.i64 (0 : Int), Go.SE.SV.int Go.IntKind.i64 (-1 : Int), Go.SE.SV.int Go.IntKind.i64 (1 : Int), Go.SE.SV.int Go.IntKind.i64 (-1 : Int), Go.SE.SV.int Go.IntKind.i64 (-1 : Int)] (nat_lit 2) i)).x, Go.SE.SV.int Go.IntKind.i64 (ofPt (Go.SE.rowsOf [Go.SE.SV.int
 Go.IntKind.i64 (1 : Int), Go.SE.SV.int Go.IntKind.i64 (0 : Int), Go.SE.SV.int Go.IntKind.i64 (-1 : Int), Go.SE.SV.int Go.IntKind.i64 (1 : Int), Go.SE.SV.int Go.IntKind.i64 (-1 : Int), Go.SE.SV.int Go.IntKind.i64 (-1 : Int)] (nat_lit 2) i)).y]) ∧ nat_lit 3 ≤ (1000000 : Nat) ∧ (L.exBad (L.Sq.mk (nat_lit 3) fun (i : Nat) ↦ ofPt (Go.SE.rowsOf [Go.SE.SV.int Go.IntKind.i64 (1 : Int), Go.SE.SV.int
 Go.IntKind.i64 (0 : Int), Go.SE.SV.int Go.IntKind.i64 (-1 : Int), Go.SE.SV.int Go.IntKind.i64 (1 : Int), Go.SE.SV.int Go.IntKind.i64 (-1 : Int), Go.SE.SV.int Go.IntKind.i64 (-1 : Int)] (nat_lit 2) i)) = Bool.false → L.wayOk (L.Sq.mk (nat_lit 3) fun (i : Nat) ↦ ofPt (Go.SE.rowsOf [Go.SE.SV.int Go.IntKind.i64 (1 : Int), Go.SE.SV.int Go.IntKind.i64 (0 : Int), Go.SE.SV.int Go.IntKind.i64 (-1 : Int),
 Go.SE.SV.int Go.IntKind.i64 (1 : Int), Go.SE.SV.int Go.IntKind.i64 (-1 : Int), Go.SE.SV.int Go.IntKind.i64 (-1 : Int)] (nat_lit 2) i)) = Bool.false → L.isNo (L.first (L.exF (L.Sq.mk (nat_lit 3) fun (i : Nat) ↦ ofPt (Go.SE.rowsOf [Go.SE.SV.int Go.IntKind.i64 (1 : Int), Go.SE.SV.int Go.IntKind.i64 (0 : Int), Go.SE.SV.int Go.IntKind.i64 (-1 : Int), Go.SE.SV.int Go.IntKind.i64 (1 : Int), Go.SE.SV.int
 Go.IntKind.i64 (-1 : Int), Go.SE.SV.int Go.IntKind.i64 (-1 : Int)] (nat_lit 2) i))) (22 : Nat)) = Bool.false)) ∧ (Bool.true = Bool.true → (0 : Int) ≤ (0 : Int) ∧ (0 : Int) < (↑(nat_lit 1) : Int)) ∧ (bif bif bif bif bif Bool.true then Decidable.decide ((t (Int.toNat (0 : Int))).fr = (2 : Int)) && (Decidable.decide ((t (Int.toNat (0 : Int))).to_ = (4 : Int)) && Decidable.decide ((t (Int.toNat (0 :
 Int))).area = (12 : Int))) else Bool.false then Bool.true else Bool.false then Bool.true else Bool.false then Bool.true else Bool.false then Bool.true else Bool.false) = Bool.true) (by kernel_rfl) (by
    refine ⟨⟨fun i hi => by match i, hi with | 0, _ => rfl | 1, _ => rfl | 2, _ => rfl | 3, _ => rfl | 4, _ => rfl, by decide⟩, ⟨fun i hi => by match i, hi with | 0, _ => rfl | 1, _ => rfl | 2, _ => rfl | 3, _ => rfl | 4, _ => rfl, by decide⟩, fun t ht => ⟨⟨by decide, by decide⟩, ⟨by decide, by decide⟩, ⟨by decide, by decide⟩, trivial, ⟨fun i hi => by match i, hi with | 0, _ => rfl | 1, _ => rfl | 2, _ => rfl, by decide, fun _ _ => by kernel_rfl⟩, fun _ => ⟨by decide, by decide⟩, ?_⟩⟩
    have h := ht (by kernel_rfl)
    have hn : (L.pks (L.Sq.mk 5 fun (i : Nat) => ofPt (rowsOf [SV.int .i64 0, SV.int .i64 0, SV.int .i64 4, SV.int .i64 0, SV.int .i64 4, SV.int .i64 4, SV.int .i64 2, SV.int .i64 1, SV.int .i64 0, SV.int .i64 4] 2 i))).n = 1 := by kernel_rfl
    have hg : (L.pks (L.Sq.mk 5 fun (i : Nat) => ofPt (rowsOf [SV.int .i64 0, SV.int .i64 0, SV.int .i64 4, SV.int .i64 0, SV.int .i64 4, SV.int .i64 4, SV.int .i64 2, SV.int .i64 1, SV.int .i64 0, SV.int .i64 4] 2 i))).g 0 = ⟨2, 4, 12⟩ := by kernel_rfl
    have h1 := h.perm
    rw [hn] at h1
    have h2 : [t 0].Perm [(L.pks (L.Sq.mk 5 fun (i : Nat) => ofPt (rowsOf [SV.int .i64 0, SV.int .i64 0, SV.int .i64 4, SV.int .i64 0, SV.int .i64 4, SV.int .i64 4, SV.int .i64 2, SV.int .i64 1, SV.int .i64 0, SV.int .i64 4] 2 i))).g 0] := h1
    have h3 := List.singleton_perm_singleton.1 h2
    rw [hg] at h3
    have h4 : t (Int.toNat 0) = ⟨2, 4, 12⟩ := h3
    rw [h4]; rfl)
theorem w_awake_ok : SpecOk Try.prog 9 w_awake_S := fnX Try.func9 (c := bodyOf Try.f9) (by kernel_rfl) mixed (fun args p r hs hp => by
  unfold w_awake_s at hs
  split at hs
  · cases hs; exact ⟨_, _, w_awake_vc  hp, .nil, ⟨show SpecsL Try.prog _ from (SpecsL.cons p_Area_ok p_Area_en (SpecsL.cons p_Pockets_ok p_Pockets_en (SpecsL.cons p_Turn_ok p_Turn_en (SpecsL.cons p_Exit_ok p_Exit_en SpecsL.nil)))), rfl, ⟨show ItersL Try.prog _ from ItersL.nil, (TrsOk.none (fun _ => rfl))⟩⟩⟩
  · cases hs)
theorem w_awake_en : Enters Try.prog 9 := fun args w => by kernel_rfl
theorem w_awake_B : ∀ args p r, w_awake_s args = some (p, r) → ∃ b, r = .bool b := by
  intro args p r h
  unfold w_awake_s at h
  split at h
  · cases h; exact ⟨_, rfl⟩
  · cases h
end Go.Proofs.Ytkklpamllfkbaaa

namespace Go.Proofs.Ytkklpamllfkbaaa
open Go.SE Go.RowKit
set_option maxRecDepth 100000
set_option maxHeartbeats 4000000
set_option linter.unusedVariables false
attribute [local irreducible] Go.SE.vc

/-- Where a setting lays an edge, as a number of the whole line. -/
def L.sg (b : Bool) : Int := bif b then -1 else 1
theorem emod_lin (a e b n : Int) : (a + e * (b % n)) % n = (a + e * b) % n := by
  have h : a + e * (b % n) = a + e * b + n * (-(e * (b / n))) := by
    rw [Int.emod_def]
    simp only [Int.mul_sub, Int.mul_neg, ← Int.mul_assoc, Int.mul_comm n e, Int.mul_left_comm n e]
    omega
  rw [h, Int.add_mul_emod_self_left]
theorem lay_lin {s : L.Setting} {n i : Int} (h0 : 0 ≤ s.shift) (h1 : s.shift < n) (h2 : 0 ≤ i) (h3 : i < n) : L.lay s n i = (s.shift + L.sg s.back * i) % n := by
  unfold L.lay L.sg
  cases s.back with
  | true =>
    simp only [cond_true]
    rw [Int.tmod_eq_emod_of_nonneg (by omega), show s.shift + n - i = s.shift + -1 * i + n by omega, Int.add_emod_right]
  | false =>
    simp only [cond_false]
    rw [Int.tmod_eq_emod_of_nonneg (by omega), Int.one_mul]
theorem sg_xor (a b : Bool) : L.sg (!(a == b)) = L.sg b * L.sg a := by cases a <;> cases b <;> rfl
theorem comp_ok {s t : L.Setting} {n : Int} (hs : L.validSet s n = true) (ht : L.validSet t n = true) : L.compE s t n = 0 ∧ L.comp s t n = ⟨(t.shift + L.sg t.back * s.shift) % n, !(s.back == t.back)⟩ ∧ L.validSet (L.comp s t n) n = true := by
  have a := validSet_iff.1 hs
  have b := validSet_iff.1 ht
  have e : L.compE s t n = 0 := by unfold L.compE; rw [hs, ht]; rfl
  have e2 : L.comp s t n = ⟨(t.shift + L.sg t.back * s.shift) % n, !(s.back == t.back)⟩ := by
    unfold L.comp
    rw [e, lay_lin b.2.1 b.2.2 a.2.1 a.2.2]; rfl
  refine ⟨e, e2, validSet_iff.2 ⟨a.1, ?_⟩⟩
  rw [e2]
  exact ⟨Int.emod_nonneg _ (by omega), Int.emod_lt_of_pos _ (by omega)⟩
theorem comp_assoc {s t u : L.Setting} {n : Int} (hs : L.validSet s n = true) (ht : L.validSet t n = true) (hu : L.validSet u n = true) : L.comp (L.comp s t n) u n = L.comp s (L.comp t u n) n := by
  obtain ⟨_, e1, v1⟩ := comp_ok hs ht
  obtain ⟨_, e2, v2⟩ := comp_ok ht hu
  obtain ⟨_, e3, _⟩ := comp_ok v1 hu
  obtain ⟨_, e4, _⟩ := comp_ok hs v2
  have A : (u.shift + L.sg u.back * ((t.shift + L.sg t.back * s.shift) % n)) % n = ((u.shift + L.sg u.back * t.shift) % n + L.sg (!(t.back == u.back)) * s.shift) % n := by
    rw [emod_lin, sg_xor, Int.emod_add_emod, Int.mul_add, Int.mul_assoc, Int.add_assoc]
  have B : (!((!(s.back == t.back)) == u.back)) = !(s.back == !(t.back == u.back)) := by
    cases s.back <;> cases t.back <;> cases u.back <;> rfl
  rw [e3, e4, e1, e2]
  dsimp only
  rw [A, B]
def L.one : L.Setting := ⟨0, false⟩
theorem one_valid {s : L.Setting} {n : Int} (hs : L.validSet s n = true) : L.validSet L.one n = true := by
  have a := validSet_iff.1 hs
  exact validSet_iff.2 ⟨a.1, Int.le_refl _, show (0 : Int) < n by omega⟩
theorem set_ext {s t : L.Setting} (h : s.shift = t.shift) (k : s.back = t.back) : s = t := by cases s; cases t; simp only at h k; rw [h, k]
theorem comp_one {s : L.Setting} {n : Int} (hs : L.validSet s n = true) : L.comp s L.one n = s := by
  have a := validSet_iff.1 hs
  rw [(comp_ok hs (one_valid hs)).2.1]
  refine set_ext ?_ ?_
  · show (0 + 1 * s.shift) % n = s.shift
    rw [Int.zero_add, Int.one_mul, Int.emod_eq_of_lt a.2.1 a.2.2]
  · show (!(s.back == false)) = s.back
    cases s.back <;> rfl
theorem one_comp {s : L.Setting} {n : Int} (hs : L.validSet s n = true) : L.comp L.one s n = s := by
  have a := validSet_iff.1 hs
  rw [(comp_ok (one_valid hs) hs).2.1]
  refine set_ext ?_ ?_
  · show (s.shift + L.sg s.back * 0) % n = s.shift
    rw [Int.mul_zero, Int.add_zero, Int.emod_eq_of_lt a.2.1 a.2.2]
  · show (!(false == s.back)) = s.back
    cases s.back <;> rfl
theorem inv_ok {s : L.Setting} {n : Int} (hs : L.validSet s n = true) : L.invE s n = 0 ∧ L.validSet (L.inv s n) n = true ∧ L.comp s (L.inv s n) n = L.one := by
  have a := validSet_iff.1 hs
  have hv : L.validSet (L.inv s n) n = true := by
    unfold L.inv
    rw [hs]
    cases hb : s.back with
    | true => exact hs
    | false =>
      refine validSet_iff.2 ⟨a.1, ?_⟩
      show 0 ≤ Int.tmod (n - s.shift) n ∧ Int.tmod (n - s.shift) n < n
      exact ⟨Int.tmod_nonneg _ (by omega), Int.tmod_lt_of_pos _ (by omega)⟩
  refine ⟨by unfold L.invE; rw [hs]; rfl, hv, ?_⟩
  rw [(comp_ok hs hv).2.1]
  unfold L.inv
  rw [hs]
  cases hb : s.back with
  | true =>
    simp only [cond_true]
    refine set_ext ?_ ?_
    · show (s.shift + L.sg s.back * s.shift) % n = 0
      rw [hb]
      show (s.shift + -1 * s.shift) % n = 0
      rw [show s.shift + -1 * s.shift = 0 by omega, Int.zero_emod]
    · show (!(true == s.back)) = false
      rw [hb]; rfl
  | false =>
    simp only [cond_true, cond_false]
    refine set_ext ?_ ?_
    · show (Int.tmod (n - s.shift) n + 1 * s.shift) % n = 0
      rw [Int.tmod_eq_emod_of_nonneg (by omega), Int.emod_add_emod, Int.one_mul, show n - s.shift + s.shift = n by omega, Int.emod_self]
    · rfl
theorem lay_comp {s t : L.Setting} {n i : Int} (hs : L.validSet s n = true) (ht : L.validSet t n = true) (h0 : 0 ≤ i) (h1 : i < n) : L.lay t n (L.lay s n i) = L.lay (L.comp s t n) n i ∧ 0 ≤ L.lay s n i ∧ L.lay s n i < n := by
  have a := validSet_iff.1 hs
  have b := validSet_iff.1 ht
  obtain ⟨_, e1, v1⟩ := comp_ok hs ht
  have c := validSet_iff.1 v1
  have l1 := lay_lin a.2.1 a.2.2 h0 h1
  have r1 : 0 ≤ L.lay s n i ∧ L.lay s n i < n := by
    rw [l1]; exact ⟨Int.emod_nonneg _ (by omega), Int.emod_lt_of_pos _ (by omega)⟩
  refine ⟨?_, r1⟩
  rw [lay_lin b.2.1 b.2.2 r1.1 r1.2, lay_lin c.2.1 c.2.2 h0 h1, l1, e1]
  dsimp only
  rw [emod_lin, sg_xor, Int.emod_add_emod, Int.mul_add, Int.mul_assoc, Int.add_assoc]
theorem ed_ok {s : L.Setting} {n i : Int} (hs : L.validSet s n = true) (h0 : 0 ≤ i) (h1 : i < n) : L.edE s n i = 0 ∧ L.ed s n i = L.lay s n i := by
  have e : L.edE s n i = 0 := by
    unfold L.edE
    rw [hs, within_iff.2 ⟨h0, by omega⟩]; rfl
  exact ⟨e, by unfold L.ed; rw [e]; rfl⟩
def w_Group_p (s : L.Setting) (t : L.Setting) (u : L.Setting) (n : Int) (i : Int) : Prop := True
def w_Group_r (s : L.Setting) (t : L.Setting) (u : L.Setting) (n : Int) (i : Int) : SV := .bool true
def w_Group_s : List EV → Option (Prop × SV)
  | [.p (.agg [.int .i64 s_shift, .bool s_back]), .p (.agg [.int .i64 t_shift, .bool t_back]), .p (.agg [.int .i64 u_shift, .bool u_back]), .p (.int .i64 n), .p (.int .i64 i)] => some (w_Group_p (⟨s_shift, s_back⟩ : L.Setting) (⟨t_shift, t_back⟩ : L.Setting) (⟨u_shift, u_back⟩ : L.Setting) n i, w_Group_r (⟨s_shift, s_back⟩ : L.Setting) (⟨t_shift, t_back⟩ : L.Setting) (⟨u_shift, u_back⟩ : L.Setting) n i)
  | _ => none
abbrev w_Group_S : SE.Spec := (specO w_Group_s)
def w_Group_C : Cfg := { muts := [12, 14, 16, 18, 20, 22, 24, 26], frz := lookN [], specs := lookS [(9, w_awake_S), (18, r1_ValidSetting_S), (19, p_Compose_S), (20, p_Inverse_S), (21, p_Edge_S)], loops := lookL [], iters := lookI [], rfs := lookR [], nils := lookM [] }
theorem w_Group_vc (s : L.Setting) (t : L.Setting) (u : L.Setting) (n : Int) (i : Int) (hp : w_Group_p s t u n i) : vc Try.prog (w_Group_C) (bodyOf Try.f5) (st0 Try.f5 [.p (.agg [.int .i64 s.shift, .bool s.back]), .p (.agg [.int .i64 t.shift, .bool t.back]), .p (.agg [.int .i64 u.shift, .bool u.back]), .p (.int .i64 n), .p (.int .i64 i)]) (retFn Try.prog Try.f5 (w_Group_r s t u n i)) :=
  @Eq.mpr _ (True ∧ True ∧ ((!!L.validSet s n) = Bool.true → True) ∧ ((!bif !L.validSet s n then Bool.true else !L.validSet t n) = Bool.true → True) ∧ ((bif bif bif bif !L.validSet s n then Bool.true else !L.validSet t n then Bool.true else !L.validSet u n then Bool.true else Decidable.decide (i < (0 : Int)) then Bool.true else Decidable.decide (n ≤ i)) = Bool.true → Bool.true = Bool.true) ∧ ((bif bif bif bif
 !L.validSet s n then Bool.true else !L.validSet t n then Bool.true else !L.validSet u n then Bool.true else Decidable.decide (i < (0 : Int)) then Bool.true else Decidable.decide (n ≤ i)) = Bool.false → True ∧ True ∧ True ∧ True ∧ ((bif bif bif bif !Decidable.decide (L.compE s t n = (0 : Int)) then Bool.true else !Decidable.decide (L.compE (L.comp s t n) u n = (0 : Int)) then Bool.true else
 !Decidable.decide (L.compE t u n = (0 : Int)) then Bool.true else !Decidable.decide (L.compE s (L.comp t u n) n = (0 : Int)) then Bool.true else !(Decidable.decide ((L.comp (L.comp s t n) u n).shift = (L.comp s (L.comp t u n) n).shift) && (L.comp (L.comp s t n) u n).back == (L.comp s (L.comp t u n) n).back)) = Bool.true → Bool.false = Bool.true) ∧ ((bif bif bif bif !Decidable.decide (L.compE s t n
 = (0 : Int)) then Bool.true else !Decidable.decide (L.compE (L.comp s t n) u n = (0 : Int)) then Bool.true else !Decidable.decide (L.compE t u n = (0 : Int)) then Bool.true else !Decidable.decide (L.compE s (L.comp t u n) n = (0 : Int)) then Bool.true else !(Decidable.decide ((L.comp (L.comp s t n) u n).shift = (L.comp s (L.comp t u n) n).shift) && (L.comp (L.comp s t n) u n).back == (L.comp s
 (L.comp t u n) n).back)) = Bool.false → True ∧ True ∧ True ∧ True ∧ ((bif bif bif bif bif bif !Decidable.decide (L.compE s (L.Setting.mk (0 : Int) Bool.false) n = (0 : Int)) then Bool.true else !Decidable.decide (L.compE (L.Setting.mk (0 : Int) Bool.false) s n = (0 : Int)) then Bool.true else !Decidable.decide (L.invE s n = (0 : Int)) then Bool.true else !Decidable.decide (L.compE s (L.inv s n) n
 = (0 : Int)) then Bool.true else !(Decidable.decide ((L.comp s (L.Setting.mk (0 : Int) Bool.false) n).shift = s.shift) && (L.comp s (L.Setting.mk (0 : Int) Bool.false) n).back == s.back) then Bool.true else !(Decidable.decide ((L.comp (L.Setting.mk (0 : Int) Bool.false) s n).shift = s.shift) && (L.comp (L.Setting.mk (0 : Int) Bool.false) s n).back == s.back) then Bool.true else !(Decidable.decide
 ((L.comp s (L.inv s n) n).shift = (0 : Int)) && (L.comp s (L.inv s n) n).back == Bool.false)) = Bool.true → Bool.false = Bool.true) ∧ ((bif bif bif bif bif bif !Decidable.decide (L.compE s (L.Setting.mk (0 : Int) Bool.false) n = (0 : Int)) then Bool.true else !Decidable.decide (L.compE (L.Setting.mk (0 : Int) Bool.false) s n = (0 : Int)) then Bool.true else !Decidable.decide (L.invE s n = (0 :
 Int)) then Bool.true else !Decidable.decide (L.compE s (L.inv s n) n = (0 : Int)) then Bool.true else !(Decidable.decide ((L.comp s (L.Setting.mk (0 : Int) Bool.false) n).shift = s.shift) && (L.comp s (L.Setting.mk (0 : Int) Bool.false) n).back == s.back) then Bool.true else !(Decidable.decide ((L.comp (L.Setting.mk (0 : Int) Bool.false) s n).shift = s.shift) && (L.comp (L.Setting.mk (0 : Int)
 Bool.false) s n).back == s.back) then Bool.true else !(Decidable.decide ((L.comp s (L.inv s n) n).shift = (0 : Int)) && (L.comp s (L.inv s n) n).back == Bool.false)) = Bool.false → True ∧ True ∧ True ∧ (bif bif bif bif Bool.true then Decidable.decide (L.edE s n i = (0 : Int)) else Bool.false then Decidable.decide (L.edE t n (L.ed s n i) = (0 : Int)) else Bool.false then Decidable.decide (L.edE
 (L.comp s t n) n i = (0 : Int)) else Bool.false then Decidable.decide (L.ed t n (L.ed s n i) = L.ed (L.comp s t n) n i) else Bool.false) = Bool.true)))) (by kernel_rfl) (by
    refine ⟨trivial, trivial, fun _ => trivial, fun _ => trivial, fun _ => rfl, fun h => ?_⟩
    simp only [bor, Bool.or_eq_false_iff] at h
    obtain ⟨⟨⟨⟨hs, ht⟩, hu⟩, h0⟩, h1⟩ := h
    have hs := notF hs
    have ht := notF ht
    have hu := notF hu
    have h0 : 0 ≤ i := by have := of_decide_eq_false h0; omega
    have h1 : i < n := by have := of_decide_eq_false h1; omega
    obtain ⟨c1, _, v1⟩ := comp_ok hs ht
    obtain ⟨c2, _, _⟩ := comp_ok v1 hu
    obtain ⟨c3, _, v3⟩ := comp_ok ht hu
    obtain ⟨c4, _, _⟩ := comp_ok hs v3
    have ha := comp_assoc hs ht hu
    have h1v := one_valid hs
    have k1 : L.compE s (L.Setting.mk 0 false) n = 0 := (comp_ok hs h1v).1
    have k2 : L.compE (L.Setting.mk 0 false) s n = 0 := (comp_ok h1v hs).1
    have k3 : L.comp s (L.Setting.mk 0 false) n = s := comp_one hs
    have k4 : L.comp (L.Setting.mk 0 false) s n = s := one_comp hs
    obtain ⟨k5, vi, k6⟩ := inv_ok hs
    have k6 : L.comp s (L.inv s n) n = L.Setting.mk 0 false := k6
    have k7 := (comp_ok hs vi).1
    obtain ⟨l1, l2, l3⟩ := lay_comp hs ht h0 h1
    obtain ⟨d1, d2⟩ := ed_ok hs h0 h1
    obtain ⟨d3, d4⟩ := ed_ok ht l2 l3
    obtain ⟨d5, d6⟩ := ed_ok v1 h0 h1
    refine ⟨trivial, trivial, trivial, trivial, fun hx => ?_, fun _ => ⟨trivial, trivial, trivial, trivial, fun hx => ?_, fun _ => ⟨trivial, trivial, trivial, ?_⟩⟩⟩
    · rw [c1, c2, c3, c4, ha] at hx
      simp at hx
    · rw [k1, k2, k3, k4, k5, k6, k7] at hx
      simp at hx
    · rw [d2, d1, d3, d4, d5, d6, l1]
      simp)
theorem w_Group_ok : SpecOk Try.prog 5 w_Group_S := fnX Try.func5 (c := bodyOf Try.f5) (by kernel_rfl) mixed (fun args p r hs hp => by
  unfold w_Group_s at hs
  split at hs
  · cases hs; exact ⟨_, _, w_Group_vc _ _ _ _ _ hp, (.same _ (.same _ (.same _ (.same _ (.same _ .nil))))), ⟨show SpecsL Try.prog _ from (SpecsL.cons w_awake_ok w_awake_en (SpecsL.cons r1_ValidSetting_ok r1_ValidSetting_en (SpecsL.cons p_Compose_ok p_Compose_en (SpecsL.cons p_Inverse_ok p_Inverse_en (SpecsL.cons p_Edge_ok p_Edge_en SpecsL.nil))))), rfl, ⟨show ItersL Try.prog _ from ItersL.nil, (TrsOk.none (fun _ => rfl))⟩⟩⟩
  · cases hs)
theorem w_Group_en : Enters Try.prog 5 := fun args w => by kernel_rfl
theorem w_Group_B : ∀ args p r, w_Group_s args = some (p, r) → ∃ b, r = .bool b := by
  intro args p r h
  unfold w_Group_s at h
  split at h
  · cases h; exact ⟨_, rfl⟩
  · cases h
end Go.Proofs.Ytkklpamllfkbaaa

namespace Go.Proofs.Ytkklpamllfkbaaa
open Go.SE Go.RowKit
set_option maxRecDepth 100000
set_option maxHeartbeats 4000000
set_option linter.unusedVariables false
attribute [local irreducible] Go.SE.vc

theorem dist_sym (a b : L.Pt) : L.dist a b = L.dist b a := by
  unfold L.dist
  rw [show a.x - b.x = -(b.x - a.x) by omega, show a.y - b.y = -(b.y - a.y) by omega, Int.neg_mul_neg, Int.neg_mul_neg]
theorem dist_self (a : L.Pt) : L.dist a a = 0 := by
  unfold L.dist; rw [Int.sub_self, Int.sub_self]; rfl
theorem cross_ix {l : L.Sq L.Pt} (hv : L.validOutline l = true) (a : Int) : L.cross (l.g (L.ix l.n (a - 1))) (l.g (L.ix l.n a)) (l.g (L.ix l.n (a + 1))) ≠ 0 := by
  have hn := (validOutline_of hv).1
  have hk := ix_lt (n := l.n) (i := a) (by omega)
  have hc := (outline_all hv).2 _ hk
  have e1 : L.prev l.n (L.ix l.n a) = L.ix l.n (a - 1) := by
    rw [← ix_prev hk, show ((L.ix l.n a : Nat) : Int) - 1 = ((L.ix l.n a : Nat) : Int) + -1 by omega, ix_ix (by omega)]; rfl
  have e2 : L.next l.n (L.ix l.n a) = L.ix l.n (a + 1) := by
    rw [← ix_next hk, ix_ix (by omega)]
  rwa [e1, e2] at hc
theorem among_of {p q : Nat → Bool} {n g : Nat} (h : ∀ c, c < n → p c = true → q c = true) (hg : g < L.cnt p n) : L.among ⟨L.cnt q n, fun k => L.sett (L.selN q n k)⟩ (L.sett (L.selN p n g)) = true := by
  obtain ⟨h1, h2⟩ := sel_in hg
  obtain ⟨k, h3, h4⟩ := sel_of (h _ h1 h2) h1
  unfold L.among
  refine anyB_iff.2 ⟨k, h3, ?_⟩
  dsimp only
  rw [h4]; exact sameS_refl _
theorem laid_ix {q : L.Sq L.Pt} {s : L.Setting} {n : Nat} (hn : 0 < n) (s0 : 0 ≤ s.shift) (a : Int) : L.laid q s n (L.ix n a) = q.g (L.ix n (bif s.back then s.shift - a + 1 else s.shift + a)) := by
  have hk := ix_lt (n := n) (i := a) hn
  have he := ix_emod (a := a) hn
  unfold L.laid L.cor
  cases s.back with
  | false =>
    simp only [cond_false]
    have h1 : ((L.ix n (s.shift + a) : Nat) : Int) = Int.tmod (s.shift + ((L.ix n a : Nat) : Int)) (n : Int) := by
      rw [ix_emod hn, Int.tmod_eq_emod_of_nonneg (by omega), he, Int.add_emod_emod]
    rw [← h1, Int.toNat_natCast]
  | true =>
    simp only [cond_true]
    have h1 : ((L.ix n (s.shift - a + 1) : Nat) : Int) = Int.tmod (s.shift + (n : Int) - ((L.ix n a : Nat) : Int) + 1) (n : Int) := by
      rw [ix_emod hn, Int.tmod_eq_emod_of_nonneg (by omega), he]
      rw [show s.shift + (n : Int) - a % (n : Int) + 1 = (s.shift + 1 - a % (n : Int)) + (n : Int) by omega, Int.add_emod_right, show s.shift - a + 1 = s.shift + 1 - a by omega]
      rw [Int.sub_emod, Int.sub_emod (s.shift + 1) (a % (n : Int)), Int.emod_emod]
    rw [← h1, Int.toNat_natCast]
theorem congr_of {p q : L.Sq L.Pt} {s : L.Setting} (h : L.congr p q s = true) : (∀ i j, i < p.n → j < p.n → L.dist (p.g i) (p.g j) = L.dist (L.laid q s p.n i) (L.laid q s p.n j)) ∧ ∀ i, i < p.n → L.conB p q s i = true := by
  have h1 : ∀ i, i < p.n → L.conI p q s i = true := allB_iff.1 h
  have h2 : ∀ i k, i < p.n → k < i → L.dist (p.g i) (p.g k) = L.dist (L.laid q s p.n i) (L.laid q s p.n k) := fun i k hi hk => by
    have := h1 i hi
    unfold L.conI at this
    rw [Bool.and_eq_true] at this
    exact of_decide_eq_true (allB_iff.1 this.1 k hk)
  refine ⟨fun i j hi hj => ?_, fun i hi => ?_⟩
  · rcases Nat.lt_trichotomy i j with h | h | h
    · rw [dist_sym, h2 j i hj h, dist_sym]
    · subst h; rw [dist_self, dist_self]
    · exact h2 i j hi h
  · have := h1 i hi
    unfold L.conI at this
    rw [Bool.and_eq_true] at this
    exact this.2
theorem cross_rev (a b c : L.Pt) : L.cross a b c = - L.cross c b a := by
  unfold L.cross
  grind
def L.cy (l : L.Sq L.Pt) (a : Int) : L.Pt := l.g (L.ix l.n a)
theorem cy_mod {l : L.Sq L.Pt} {a b : Int} (hn : 0 < l.n) (h : a % (l.n : Int) = b % (l.n : Int)) : L.cy l a = L.cy l b := by
  unfold L.cy
  have := ix_congr hn h 0
  rw [Int.add_zero, Int.add_zero] at this
  rw [this]
def L.es (s : L.Setting) (a : Int) : Int := bif s.back then s.shift - a + 1 else s.shift + a
def L.bnd (l : L.Sq L.Pt) (a : Int) : Bool := decide (0 < L.cross (L.cy l (a - 1)) (L.cy l a) (L.cy l (a + 1)))
def L.isoS (p q : L.Sq L.Pt) (s : L.Setting) : Prop := (∀ a b : Int, L.dist (L.cy p a) (L.cy p b) = L.dist (L.cy q (L.es s a)) (L.cy q (L.es s b))) ∧ ∀ a : Int, L.bnd p a = L.bnd q (L.es s a)
theorem dec_rev {a b c : L.Pt} (h : L.cross a b c ≠ 0) : decide (0 < L.cross c b a) = !decide (0 < L.cross a b c) := by
  rw [Bool.eq_iff_iff, Bool.not_eq_true', decide_eq_true_eq, decide_eq_false_iff_not, cross_rev c b a]
  omega
theorem beq_x (x y : Bool) : (x == !(y == false)) = (x == y) := by cases x <;> cases y <;> rfl
theorem beq_y (x y : Bool) : (x == !((!y) == true)) = (x == y) := by cases x <;> cases y <;> rfl
theorem conB_at {p q : L.Sq L.Pt} {s : L.Setting} (hq : L.validOutline q = true) (hn : p.n = q.n) (hp : 0 < p.n) (s0 : 0 ≤ s.shift) (a : Int) : L.conB p q s (L.ix p.n a) = (L.bnd p a == L.bnd q (L.es s a)) := by
  have hk := ix_lt (n := p.n) (i := a) hp
  have e1 : L.prev p.n (L.ix p.n a) = L.ix p.n (a - 1) := by
    rw [← ix_prev hk, show ((L.ix p.n a : Nat) : Int) - 1 = ((L.ix p.n a : Nat) : Int) + -1 by omega, ix_ix hp]; rfl
  have e2 : L.next p.n (L.ix p.n a) = L.ix p.n (a + 1) := by
    rw [← ix_next hk, ix_ix hp]
  have hl : ∀ b, L.laid q s p.n (L.ix p.n b) = L.cy q (L.es s b) := fun b => by rw [laid_ix hp s0]; unfold L.cy L.es; rw [hn]
  have hc : L.cross (L.cy q (L.es s a - 1)) (L.cy q (L.es s a)) (L.cy q (L.es s a + 1)) ≠ 0 := cross_ix hq (L.es s a)
  have hb2 : decide (0 < L.cross (L.cy p (a - 1)) (L.cy p a) (L.cy p (a + 1))) = L.bnd p a := rfl
  unfold L.conB
  rw [e1, e2, hl, hl, hl]
  show (L.bnd p a == !(decide (0 < L.cross (L.cy q (L.es s (a - 1))) (L.cy q (L.es s a)) (L.cy q (L.es s (a + 1)))) == s.back)) = _
  cases hb : s.back with
  | false =>
    have f1 : L.es s (a - 1) = L.es s a - 1 := by unfold L.es; rw [hb]; dsimp only [cond_false]; omega
    have f2 : L.es s (a + 1) = L.es s a + 1 := by unfold L.es; rw [hb]; dsimp only [cond_false]; omega
    rw [f1, f2, beq_x]; rfl
  | true =>
    have f1 : L.es s (a - 1) = L.es s a + 1 := by unfold L.es; rw [hb]; dsimp only [cond_true]; omega
    have f2 : L.es s (a + 1) = L.es s a - 1 := by unfold L.es; rw [hb]; dsimp only [cond_true]; omega
    rw [f1, f2, dec_rev hc, beq_y]; rfl
theorem congr_iff {p q : L.Sq L.Pt} {s : L.Setting} (hq : L.validOutline q = true) (hn : p.n = q.n) (hp : 0 < p.n) (s0 : 0 ≤ s.shift) : L.congr p q s = true ↔ L.isoS p q s := by
  have hd : ∀ a, L.laid q s p.n (L.ix p.n a) = L.cy q (L.es s a) := fun a => by rw [laid_ix hp s0]; unfold L.cy L.es; rw [hn]
  constructor
  · intro h
    obtain ⟨h1, h2⟩ := congr_of h
    refine ⟨fun a b => ?_, fun a => ?_⟩
    · have := h1 (L.ix p.n a) (L.ix p.n b) (ix_lt hp) (ix_lt hp)
      rw [hd, hd] at this
      exact this
    · have := h2 (L.ix p.n a) (ix_lt hp)
      rw [conB_at hq hn hp s0] at this
      exact eq_of_beq this
  · intro ⟨h1, h2⟩
    refine allB_iff.2 (fun i hi => ?_)
    unfold L.conI
    have ei : L.ix p.n (i : Int) = i := ix_self hi
    rw [Bool.and_eq_true]
    refine ⟨allB_iff.2 (fun k hk => decide_eq_true ?_), ?_⟩
    · have hk' : k < p.n := by omega
      have ek : L.ix p.n (k : Int) = k := ix_self hk'
      have := h1 (i : Int) (k : Int)
      rw [← hd, ← hd] at this
      unfold L.cy at this
      rw [ei, ek] at this
      exact this
    · have := conB_at hq hn hp s0 (i : Int)
      rw [ei] at this
      rw [this, h2]
      exact beq_self_eq_true _
theorem emod_of_eq {n a b : Int} (k : Int) (h : a = b + n * k) : a % n = b % n := by rw [h, Int.add_mul_emod_self_left]
theorem es_comp {s t : L.Setting} {n : Int} (hs : L.validSet s n = true) (ht : L.validSet t n = true) (a : Int) : (L.es t (L.es s a)) % n = (L.es (L.comp s t n) a) % n := by
  obtain ⟨_, e, _⟩ := comp_ok hs ht
  have hd : ∀ x : Int, x % n = x + n * (-(x / n)) := fun x => by rw [Int.emod_def, Int.mul_neg]; rfl
  rw [e]
  unfold L.es L.sg
  cases s.back <;> cases t.back <;> simp only [cond_true, cond_false, Bool.not_true, Bool.not_false, beq_self_eq_true, show (true == false) = false from rfl, show (false == true) = false from rfl, Int.one_mul]
  · rw [hd (t.shift + s.shift)]
    exact emod_of_eq ((t.shift + s.shift) / n) (by rw [Int.mul_neg]; omega)
  · rw [hd (t.shift + -1 * s.shift)]
    exact emod_of_eq ((t.shift + -1 * s.shift) / n) (by rw [Int.mul_neg]; omega)
  · rw [hd (t.shift + s.shift)]
    exact emod_of_eq ((t.shift + s.shift) / n) (by rw [Int.mul_neg]; omega)
  · rw [hd (t.shift + -1 * s.shift)]
    exact emod_of_eq ((t.shift + -1 * s.shift) / n) (by rw [Int.mul_neg]; omega)
theorem bnd_mod {l : L.Sq L.Pt} {a b : Int} (hn : 0 < l.n) (h : a % (l.n : Int) = b % (l.n : Int)) : L.bnd l a = L.bnd l b := by
  unfold L.bnd
  rw [cy_mod hn h, cy_mod hn (a := a - 1) (b := b - 1) (Int.emod_sub_cancel_right _ |>.2 h), cy_mod hn (a := a + 1) (b := b + 1) (Int.emod_add_cancel_right _ |>.2 h)]
theorem iso_comp {p q r : L.Sq L.Pt} {s t : L.Setting} {n : Nat} (hr : r.n = n) (h0 : 0 < n) (hs : L.validSet s n = true) (ht : L.validSet t n = true) (h : L.isoS p q s) (k : L.isoS q r t) : L.isoS p r (L.comp s t n) := by
  have e : ∀ a, L.cy r (L.es t (L.es s a)) = L.cy r (L.es (L.comp s t n) a) := fun a => cy_mod (by omega) (by rw [hr]; exact es_comp hs ht a)
  refine ⟨fun a b => ?_, fun a => ?_⟩
  · rw [h.1, k.1, e, e]
  · rw [h.2, k.2]
    exact bnd_mod (by omega) (by rw [hr]; exact es_comp hs ht a)
theorem es_inv {s : L.Setting} {n : Int} (hs : L.validSet s n = true) (a : Int) : (L.es s (L.es (L.inv s n) a)) % n = a % n := by
  have b := validSet_iff.1 hs
  have hd : ∀ x : Int, x % n = x + n * (-(x / n)) := fun x => by rw [Int.emod_def, Int.mul_neg]; rfl
  unfold L.inv
  rw [hs]
  unfold L.es
  cases hb : s.back with
  | true =>
    simp only [cond_true, hb]
    exact emod_of_eq 0 (by omega)
  | false =>
    simp only [cond_true, cond_false]
    rw [Int.tmod_eq_emod_of_nonneg (by omega), hd (n - s.shift)]
    exact emod_of_eq (1 - (n - s.shift) / n) (by rw [Int.mul_neg, Int.mul_sub]; omega)
theorem iso_inv {p q : L.Sq L.Pt} {s : L.Setting} {n : Nat} (hq : q.n = n) (h0 : 0 < n) (hs : L.validSet s n = true) (h : L.isoS p q s) : L.isoS q p (L.inv s n) := by
  have e : ∀ a, L.cy q (L.es s (L.es (L.inv s n) a)) = L.cy q a := fun a => cy_mod (by omega) (by rw [hq]; exact es_inv hs a)
  refine ⟨fun a b => ?_, fun a => ?_⟩
  · rw [h.1, e, e]
  · rw [h.2]
    exact (bnd_mod (by omega) (by rw [hq]; exact es_inv hs a)).symm
end Go.Proofs.Ytkklpamllfkbaaa
