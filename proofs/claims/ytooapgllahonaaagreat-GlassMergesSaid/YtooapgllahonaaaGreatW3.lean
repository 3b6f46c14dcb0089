/- A symbolic walk over the model, and what it shows of functions of the program: parts of the proof that the text of the row joins. -/
import Derived.Test.YtooapgllahonaaaGreatW2
import Derived.Test.YtooapgllahonaaaGreatE4
import Derived.KernelRfl

namespace Go.Proofs.YtooapgllahonaaaGreat
open Go.SE Go.RowKit
set_option maxRecDepth 100000
set_option maxHeartbeats 4000000
set_option linter.unusedVariables false
attribute [local irreducible] vc

instance : Inhabited L.Mark := ⟨⟨0, 0, 0⟩⟩
def L.leMk (a b : L.Mark) : Prop := L.cmpMark a b ≤ 0
theorem cmpMk_lt {a b : L.Mark} : L.cmpMark a b < 0 ↔ a.edge < b.edge ∨ (a.edge = b.edge ∧ (a.place < b.place ∨ (a.place = b.place ∧ a.tone < b.tone))) := by
  unfold L.cmpMark L.or2 L.cmp
  rcases Int.lt_trichotomy a.edge b.edge with h1 | h1 | h1 <;> rcases Int.lt_trichotomy a.place b.place with h2 | h2 | h2 <;> rcases Int.lt_trichotomy a.tone b.tone with h3 | h3 | h3 <;> grind
theorem cmpMk_le {a b : L.Mark} : L.cmpMark a b ≤ 0 ↔ a.edge < b.edge ∨ (a.edge = b.edge ∧ (a.place < b.place ∨ (a.place = b.place ∧ a.tone ≤ b.tone))) := by
  unfold L.cmpMark L.or2 L.cmp
  rcases Int.lt_trichotomy a.edge b.edge with h1 | h1 | h1 <;> rcases Int.lt_trichotomy a.place b.place with h2 | h2 | h2 <;> rcases Int.lt_trichotomy a.tone b.tone with h3 | h3 | h3 <;> grind
theorem swoMk : Go.Sort.SWO (Go.Proofs.ltOf L.cmpMark) := by
  have k : ∀ x y, Go.Proofs.ltOf L.cmpMark x y = true ↔ L.cmpMark x y < 0 := fun x y => by
    unfold Go.Proofs.ltOf; rw [decide_eq_true_iff]
  have kf : ∀ x y, Go.Proofs.ltOf L.cmpMark x y = false ↔ ¬ L.cmpMark x y < 0 := fun x y => by
    rw [← k, Bool.not_eq_true]
  refine ⟨fun x => ?_, fun x y z => ?_, fun x y z => ?_⟩
  · rw [kf, cmpMk_lt]; omega
  · simp only [k, cmpMk_lt]; omega
  · simp only [kf, cmpMk_lt]; omega
def L.insMk (p : L.Mark) : List L.Mark → List L.Mark
  | [] => [p]
  | q :: r => bif decide (L.cmpMark p q ≤ 0) then p :: q :: r else q :: L.insMk p r
def L.isortMk : List L.Mark → List L.Mark
  | [] => []
  | p :: r => L.insMk p (L.isortMk r)
def L.listMk (l : L.Sq L.Mark) : List L.Mark := (List.range l.n).map l.g
def L.sortM (l : L.Sq L.Mark) : L.Sq L.Mark := ⟨l.n, fun k => (L.isortMk (L.listMk l)).getD k ⟨0, 0, 0⟩⟩
theorem leMk_total (a b : L.Mark) : L.leMk a b ∨ L.leMk b a := by unfold L.leMk; simp only [cmpMk_le]; omega
theorem leMk_trans {a b c : L.Mark} (h : L.leMk a b) (k : L.leMk b c) : L.leMk a c := by unfold L.leMk at *; simp only [cmpMk_le] at *; omega
theorem mk_ext {a b : L.Mark} (h1 : a.edge = b.edge) (h2 : a.place = b.place) (h3 : a.tone = b.tone) : a = b := by cases a; cases b; simp only at h1 h2 h3; rw [h1, h2, h3]
theorem leMk_anti {a b : L.Mark} (h : L.leMk a b) (k : L.leMk b a) : a = b := by
  unfold L.leMk at *; simp only [cmpMk_le] at *
  exact mk_ext (by omega) (by omega) (by omega)
theorem insMk_perm (p : L.Mark) : ∀ l, (L.insMk p l).Perm (p :: l)
  | [] => .refl _
  | q :: r => by
    unfold L.insMk
    cases decide (L.cmpMark p q ≤ 0) with
    | true => exact .refl _
    | false => exact ((insMk_perm p r).cons q).trans (.swap p q r)
theorem isortMk_perm : ∀ l, (L.isortMk l).Perm l
  | [] => .refl _
  | p :: r => (insMk_perm p _).trans ((isortMk_perm r).cons p)
theorem insMk_asc {p : L.Mark} : ∀ {l}, l.Pairwise L.leMk → (L.insMk p l).Pairwise L.leMk
  | [], _ => List.pairwise_singleton _ _
  | q :: r, h => by
    obtain ⟨h1, h2⟩ := List.pairwise_cons.1 h
    unfold L.insMk
    cases hd : decide (L.cmpMark p q ≤ 0) with
    | true =>
      have hd : L.leMk p q := of_decide_eq_true (p := L.cmpMark p q ≤ 0) hd
      exact List.pairwise_cons.2 ⟨fun x hx => by
        rcases List.mem_cons.1 hx with rfl | hx
        · exact hd
        · exact leMk_trans hd (h1 x hx), h⟩
    | false =>
      have hd : ¬ L.leMk p q := of_decide_eq_false (p := L.cmpMark p q ≤ 0) hd
      have hqp : L.leMk q p := (leMk_total p q).resolve_left hd
      exact List.pairwise_cons.2 ⟨fun x hx => by
        rcases List.mem_cons.1 ((insMk_perm p r).mem_iff.1 hx) with rfl | hx
        · exact hqp
        · exact h1 x hx, insMk_asc h2⟩
theorem isortMk_asc : ∀ l, (L.isortMk l).Pairwise L.leMk
  | [] => .nil
  | p :: r => insMk_asc (isortMk_asc r)
theorem sortM_is {l : L.Sq L.Mark} {u : Nat → L.Mark} (h : SortedBy L.cmpMark l.n l.g u) : ∀ k, k < l.n → (L.sortM l).g k = u k := fun k hk => by
  have e : (List.range l.n).map u = L.isortMk (L.listMk l) := by
    refine List.Perm.eq_of_pairwise (le := L.leMk) (fun a b _ _ => leMk_anti) ?_ (isortMk_asc _) (h.perm.trans (isortMk_perm _).symm)
    rw [List.pairwise_iff_getElem]
    intro i j hi hj hij
    simp only [List.getElem_map, List.getElem_range]
    have hj : j < l.n := by simpa using hj
    have := h.asc i j hij hj
    rcases leMk_total (u i) (u j) with h1 | h1
    · exact h1
    · unfold L.leMk at *
      simp only [cmpMk_le, cmpMk_lt] at *
      omega
  show (L.isortMk (L.listMk l)).getD k ⟨0, 0, 0⟩ = u k
  rw [← e]
  simp [List.getD_eq_getElem?_getD, hk]
def encMk (p : L.Mark) : List Int := [p.edge, p.place, p.tone]
def sortMk_ren : Go.Shelf.Ren := ⟨fun | 6 => 197 | 15 => 184 | 14 => 214 | 28 => 210 | 29 => 211 | 20 => 222 | 21 => 223 | 22 => 224 | 23 => 225 | 24 => 226 | 25 => 227 | 26 => 228 | 27 => 229 | 46 => 239 | 47 => 218 | 48 => 219 | 49 => 240 | 50 => 241 | 57 => 245 | n => n, fun | 22 => 23 | 24 => 87 | 25 => 156 | 3 => 3 | 39 => 199 | 0 => 0 | 53 => 224 | 55 => 226 | 4 => 4 | 46 => 217 | 45 => 216 | 50 => 221 | 5 => 5 | 9 => 9 | 66 => 231 | 70 => 235 | 76 => 247 | 77 => 248 | n => n, fun | n => n⟩
theorem sortMk_lay : Go.Proofs.SlLaysF0.n6 Tryz.prog sortMk_ren := {
  mixed := by kernel_rfl
  f6 := ⟨Tryz.f197.name, by decide, Tryz.func197.trans (congrArg some (by kernel_rfl))⟩
  f14 := ⟨Tryz.f214.name, by decide, Tryz.func214.trans (congrArg some (by kernel_rfl))⟩
  f15 := Tryz.func184.trans (congrArg some (by kernel_rfl))
  f20 := ⟨Tryz.f222.name, by decide, Tryz.func222.trans (congrArg some (by kernel_rfl))⟩
  f21 := ⟨Tryz.f223.name, by decide, Tryz.func223.trans (congrArg some (by kernel_rfl))⟩
  f22 := ⟨Tryz.f224.name, by decide, Tryz.func224.trans (congrArg some (by kernel_rfl))⟩
  f23 := ⟨Tryz.f225.name, by decide, Tryz.func225.trans (congrArg some (by kernel_rfl))⟩
  f24 := ⟨Tryz.f226.name, by decide, Tryz.func226.trans (congrArg some (by kernel_rfl))⟩
  f25 := ⟨Tryz.f227.name, by decide, Tryz.func227.trans (congrArg some (by kernel_rfl))⟩
  f26 := ⟨Tryz.f228.name, by decide, Tryz.func228.trans (congrArg some (by kernel_rfl))⟩
  f27 := ⟨Tryz.f229.name, by decide, Tryz.func229.trans (congrArg some (by kernel_rfl))⟩
  f28 := Tryz.func210.trans (congrArg some (by kernel_rfl))
  f29 := Tryz.func211.trans (congrArg some (by kernel_rfl))
  f46 := ⟨Tryz.f239.name, by decide, Tryz.func239.trans (congrArg some (by kernel_rfl))⟩
  f47 := Tryz.func218.trans (congrArg some (by kernel_rfl))
  f48 := Tryz.func219.trans (congrArg some (by kernel_rfl))
  f49 := ⟨Tryz.f240.name, by decide, Tryz.func240.trans (congrArg some (by kernel_rfl))⟩
  f50 := ⟨Tryz.f241.name, by decide, Tryz.func241.trans (congrArg some (by kernel_rfl))⟩
  f57 := ⟨Tryz.f245.name, by decide, Tryz.func245.trans (congrArg some (by kernel_rfl))⟩
  t0 := Tryz.underlying0
  a0 := Tryz.isAgg0
  z0 := Tryz.sizeOf0
  v0 := Tryz.zeroValue0
  t3 := Tryz.underlying3
  a3 := Tryz.isAgg3
  z3 := Tryz.sizeOf3
  v3 := Tryz.zeroValue3
  t4 := Tryz.underlying4
  a4 := Tryz.isAgg4
  z4 := Tryz.sizeOf4
  v4 := Tryz.zeroValue4
  t5 := Tryz.underlying5
  a5 := Tryz.isAgg5
  z5 := Tryz.sizeOf5
  v5 := Tryz.zeroValue5
  t9 := Tryz.underlying9
  a9 := Tryz.isAgg9
  z9 := Tryz.sizeOf9
  v9 := Tryz.zeroValue9
  t22 := Tryz.underlying23
  a22 := Tryz.isAgg23
  z22 := Tryz.sizeOf23
  v22 := Tryz.zeroValue23
  t25 := Tryz.underlying156
  a25 := Tryz.isAgg156
  z25 := Tryz.sizeOf156
  v25 := Tryz.zeroValue156
  t39 := Tryz.underlying199
  a39 := Tryz.isAgg199
  z39 := Tryz.sizeOf199
  v39 := Tryz.zeroValue199
  t45 := Tryz.underlying216
  a45 := Tryz.isAgg216
  z45 := Tryz.sizeOf216
  v45 := Tryz.zeroValue216
  t46 := Tryz.underlying217
  a46 := Tryz.isAgg217
  z46 := Tryz.sizeOf217
  v46 := Tryz.zeroValue217
  t50 := Tryz.underlying221
  a50 := Tryz.isAgg221
  z50 := Tryz.sizeOf221
  v50 := Tryz.zeroValue221
  t53 := Tryz.underlying224
  a53 := Tryz.isAgg224
  z53 := Tryz.sizeOf224
  v53 := Tryz.zeroValue224
  t55 := Tryz.underlying226
  a55 := Tryz.isAgg226
  z55 := Tryz.sizeOf226
  v55 := Tryz.zeroValue226
  t66 := Tryz.underlying231
  a66 := Tryz.isAgg231
  z66 := Tryz.sizeOf231
  v66 := Tryz.zeroValue231
  t70 := Tryz.underlying235
  a70 := Tryz.isAgg235
  z70 := Tryz.sizeOf235
  v70 := Tryz.zeroValue235
  t76 := Tryz.underlying247
  a76 := Tryz.isAgg247
  z76 := Tryz.sizeOf247
  v76 := Tryz.zeroValue247
  t77 := Tryz.underlying248
  a77 := Tryz.isAgg248
  z77 := Tryz.sizeOf248
  v77 := Tryz.zeroValue248 }

abbrev s_sortMk_tr : Tr := sortTr 87 3 129 1005 encMk L.cmpMark
theorem s_sortMk_tok : TrOk Tryz.prog 197 s_sortMk_tr := sortTr_ok (enc := encMk) sortMk_lay (by decide) (fun w => Tryz.isAgg87 w) (fun w => Tryz.sizeOf87 w) (fun _ => rfl) swoMk g_cmpMarks_ok g_cmpMarks_en (fun x y => show preO g_cmpMarks_s [.p (.agg [.int .i64 x.edge, .int .i64 x.place, .int .i64 x.tone]), .p (.agg [.int .i64 y.edge, .int .i64 y.place, .int .i64 y.tone])] from trivial) (fun x y => rfl) _ _
theorem s_sortMk_en : Enters Tryz.prog 197 := fun args w => by kernel_rfl
def s_valM1_p (l : (L.Sq L.Mark)) : Prop := l.n ≤ 1000000
def s_valM1_n (l : (L.Sq L.Mark)) : Nat := l.n
def s_valM1_i (l : (L.Sq L.Mark)) : Nat → List SV := fun k => [(.agg [.int .i64 ((l.g (k : Int).toNat).edge), .int .i64 ((l.g (k : Int).toNat).place), .int .i64 ((l.g (k : Int).toNat).tone)])]
def s_valM1_ic : List SV → Option (Prop × Nat × (Nat → List SV))
  | [.ref [.sl 3 l_n l_g] 0] => some ((∀ i, i < l_n → l_g i = [.int .i64 ((ofMark (l_g i)).edge), .int .i64 ((ofMark (l_g i)).place), .int .i64 ((ofMark (l_g i)).tone)]) ∧ s_valM1_p (⟨l_n, fun i => ofMark (l_g i)⟩ : (L.Sq L.Mark)), s_valM1_n (⟨l_n, fun i => ofMark (l_g i)⟩ : (L.Sq L.Mark)), s_valM1_i (⟨l_n, fun i => ofMark (l_g i)⟩ : (L.Sq L.Mark)))
  | _ => none
abbrev s_valM1_it : ItSpec := itOf s_valM1_ic
def s_valM1_C : Cfg := { muts := [], frz := lookN [], specs := lookS [], loops := fun _ => none, iters := lookI [], rfs := lookR [] }
theorem s_valM1_vc (yl : Nat) (l : (L.Sq L.Mark)) (hp : s_valM1_p l) : vc Tryz.prog { s_valM1_C with loops := lookL [(1, { T := Nat, keep := [0, 1, 5, 6], keepO := [], chg := fun i => [(7, .p (.int .i64 (i : Int)))], own := fun _ => [], inv := fun i => i ≤ l.n, mu := fun i => l.n - i, yk := some (fun i => i) })], yld := some ⟨yl, s_valM1_n l, s_valM1_i l⟩ } (bodyOf Tryz.f198) (st0 Tryz.f198 (.yield yl :: ([.ref [.sl 3 l.n (fun i => [.int .i64 ((l.g i).edge), .int .i64 ((l.g i).place), .int .i64 ((l.g i).tone)])] 0] : List SV).map .p)) (retIt Tryz.prog Tryz.f198 (s_valM1_n l)) :=
  @Eq.mpr _ ((∃ (g : Nat), nat_lit 0 = g ∧ false = false ∧ (0 : Int) = (↑g : Int) ∧ g ≤ l.n) ∧ ∀ (g : Nat), g ≤ l.n → (decide ((↑g : Int) < (↑l.n : Int)) = true → ((0 : Int) ≤ (↑g : Int) ∧ (↑g : Int) < (↑l.n : Int)) ∧ yl = yl ∧ g < l.n ∧ [SV.agg [SV.int .i64 (l.g (Int.toNat (↑g : Int))).edge, SV.int .i64 (l.g (Int.toNat (↑g : Int))).place,
 SV.int .i64 (l.g (Int.toNat (↑g : Int))).tone]] = [SV.agg [SV.int .i64 (l.g (Int.toNat (↑g : Int))).edge, SV.int .i64 (l.g (Int.toNat (↑g : Int))).place, SV.int .i64 (l.g (Int.toNat (↑g : Int))).tone]] ∧ ((false = true → g + (1 : Nat) = l.n ∨ g + (1 : Nat) = l.n + (1 : Nat)) ∧ (false = false → InK
 .i64 ((↑g : Int) + (1 : Int)) ∧ ∃ (g' : Nat), g + (1 : Nat) = g' ∧ false = false ∧ (↑g : Int) + (1 : Int) = (↑g' : Int) ∧ (↑l.n : Int) = (↑l.n : Int) ∧ (l.n = l.n ∧ ∀ (i : Nat), i < l.n → [SV.int .i64 (l.g i).edge, SV.int .i64 (l.g i).place, SV.int .i64 (l.g i).tone] = [SV.int .i64 (l.g i).edge, SV.int
 .i64 (l.g i).place, SV.int .i64 (l.g i).tone]) ∧ yl = yl ∧ SV.ref [SV.sl (nat_lit 3) l.n fun (i : Nat) ↦ [SV.int .i64 (l.g i).edge, SV.int .i64 (l.g i).place, SV.int .i64 (l.g i).tone]] (nat_lit 0) = SV.ref [SV.sl (nat_lit 3) l.n fun (i : Nat) ↦ [SV.int .i64 (l.g i).edge, SV.int
 .i64 (l.g i).place, SV.int .i64 (l.g i).tone]] (nat_lit 0) ∧ g' ≤ l.n ∧ l.n - g' < l.n - g)) ∧ (true = true → l.n + (1 : Nat) = l.n ∨ l.n + (1 : Nat) = l.n + (1 : Nat)) ∧ (true = false → InK .i64 ((↑g : Int) + (1 : Int)) ∧ ∃ (g' : Nat), l.n + (1 : Nat) = g' ∧ false = false ∧ (↑g : Int) + (1 : Int) = (↑g' : Int) ∧ (↑l.n : Int)
 = (↑l.n : Int) ∧ (l.n = l.n ∧ ∀ (i : Nat), i < l.n → [SV.int .i64 (l.g i).edge, SV.int .i64 (l.g i).place, SV.int .i64 (l.g i).tone] = [SV.int .i64 (l.g i).edge, SV.int .i64 (l.g i).place, SV.int .i64 (l.g i).tone]) ∧ yl = yl ∧ SV.ref [SV.sl (nat_lit 3) l.n fun (i : Nat) ↦ [SV.int
 .i64 (l.g i).edge, SV.int .i64 (l.g i).place, SV.int .i64 (l.g i).tone]] (nat_lit 0) = SV.ref [SV.sl (nat_lit 3) l.n fun (i : Nat) ↦ [SV.int .i64 (l.g i).edge, SV.int .i64 (l.g i).place, SV.int .i64 (l.g i).tone]] (nat_lit 0) ∧ g' ≤ l.n ∧ l.n - g' < l.n - g)) ∧ (decide ((↑g : Int) <
 (↑l.n : Int)) = false → g = l.n ∨ g = l.n + (1 : Nat))) (by kernel_rfl) (by
    have hn : l.n ≤ 1000000 := hp
    refine ⟨⟨(0 : Nat), rfl, rfl, rfl, Nat.zero_le _⟩, fun g hg => ⟨fun hlt => ?_, fun hge => ?_⟩⟩
    · have hb : (g : Int) < (l.n : Int) := of_decide_eq_true hlt
      refine ⟨⟨by omega, hb⟩, rfl, by omega, rfl, ?_⟩
      exact ⟨⟨fun h => (by cases h), fun _ => ⟨InK.of (by omega) (by omega), g + 1, rfl, rfl, by omega, rfl, ⟨rfl, fun _ _ => rfl⟩, rfl, rfl, by omega, by omega⟩⟩, fun _ => .inr rfl, fun h => (by cases h)⟩
    · have hb : ¬ (g : Int) < (l.n : Int) := of_decide_eq_false hge
      exact .inl (by omega))
theorem s_valM1_itok : ItOk Tryz.prog 198 s_valM1_it := iterX Tryz.func198 (c := bodyOf Tryz.f198) (by kernel_rfl) mixed (fun caps l p n g hs hp => by
  unfold s_valM1_ic at hs
  split at hs
  · cases hs; exact ⟨_, _, s_valM1_vc l _ hp.2, (.cons (Ext.ref rfl (fun i hi => by
      rcases i with _ | i
      · show Ext (SV.sl _ _ _) (SV.sl _ _ _); exact (Ext.sl hp.1)
      exact absurd hi (by simp; try omega))) .nil), rfl, show SpecsL Tryz.prog _ from SpecsL.nil, ⟨show ItersL Tryz.prog _ from ItersL.nil, TrsOk.none (fun _ => rfl)⟩⟩
  · cases hs)
theorem s_valM1_en : Enters Tryz.prog 198 := fun args w => by kernel_rfl
def s_valM_p (l : (L.Sq L.Mark)) : Prop := l.n ≤ 1000000
def s_valM_r (l : (L.Sq L.Mark)) : SV := .clo 198 [.ref [(.sl 3 l.n (fun i => [.int .i64 ((l.g i).edge), .int .i64 ((l.g i).place), .int .i64 ((l.g i).tone)]))] 0]
def s_valM_s : List EV → Option (Prop × SV)
  | [.p (.sl 3 l_n l_g)] => some ((∀ i, i < l_n → l_g i = [.int .i64 ((ofMark (l_g i)).edge), .int .i64 ((ofMark (l_g i)).place), .int .i64 ((ofMark (l_g i)).tone)]) ∧ s_valM_p (⟨l_n, fun i => ofMark (l_g i)⟩ : (L.Sq L.Mark)), s_valM_r (⟨l_n, fun i => ofMark (l_g i)⟩ : (L.Sq L.Mark)))
  | _ => none
abbrev s_valM_S : SE.Spec := (specO s_valM_s)
def s_valM_C : Cfg := { muts := [], frz := lookN [], specs := lookS [], loops := lookL [], iters := lookI [], rfs := lookR [], nils := lookM [] }
theorem s_valM_vc (l : (L.Sq L.Mark)) (hp : s_valM_p l) : vc Tryz.prog (s_valM_C) (bodyOf Tryz.f178) (st0 Tryz.f178 [.p (.sl 3 l.n (fun i => [.int .i64 ((l.g i).edge), .int .i64 ((l.g i).place), .int .i64 ((l.g i).tone)]))]) (retFn Tryz.prog Tryz.f178 (s_valM_r l)) :=
  @Eq.mpr _ (SV.clo (nat_lit 198) [SV.ref [SV.sl (nat_lit 3) l.n fun (i : Nat) ↦ [SV.int .i64 (l.g i).edge, SV.int .i64 (l.g i).place, SV.int .i64 (l.g i).tone]] (nat_lit 0)] = SV.clo (nat_lit 198) [SV.ref [SV.sl (nat_lit 3) l.n fun (i : Nat) ↦ [SV.int .i64 (l.g i).edge, SV.int .i64 (l.g
 i).place, SV.int .i64 (l.g i).tone]] (nat_lit 0)]) (by kernel_rfl) (by
    rfl)
theorem s_valM_ok : SpecOk Tryz.prog 178 s_valM_S := fnX Tryz.func178 (c := bodyOf Tryz.f178) (by kernel_rfl) mixed (fun args p r hs hp => by
  unfold s_valM_s at hs
  split at hs
  · cases hs; exact ⟨_, _, s_valM_vc _ hp.2, (.p (.sl hp.1) .nil), ⟨show SpecsL Tryz.prog _ from SpecsL.nil, rfl, ⟨show ItersL Tryz.prog _ from ItersL.nil, (TrsOk.none (fun _ => rfl))⟩⟩⟩
  · cases hs)
theorem s_valM_en : Enters Tryz.prog 178 := fun args w => by kernel_rfl
def s_appSeqM_p (s : Nat) (l : (L.Sq L.Mark)) : Prop := l.n ≤ 1000000
def s_appSeqM_q (s : Nat) (l : (L.Sq L.Mark)) : Nat → Prop := fun _ => True
def s_appSeqM_n (s : Nat) (l : (L.Sq L.Mark)) : Nat → Nat := fun _ => l.n
def s_appSeqM_g (s : Nat) (l : (L.Sq L.Mark)) : Nat → Nat → List SV := fun _ k => [.int .i64 ((l.g k).edge), .int .i64 ((l.g k).place), .int .i64 ((l.g k).tone)]
def s_appSeqM_s : List EV → Option (Prop × (Nat → Prop) × (Nat → Nat) × (Nat → Nat → List SV))
  | [.p (.raw (.slice none 0 0)), .p (.clo 198 [.ref [.sl 3 l_n l_g] 0])] => some ((∀ i, i < l_n → l_g i = [.int .i64 ((ofMark (l_g i)).edge), .int .i64 ((ofMark (l_g i)).place), .int .i64 ((ofMark (l_g i)).tone)]) ∧ s_appSeqM_p (0 : Nat) (⟨l_n, fun i => ofMark (l_g i)⟩ : (L.Sq L.Mark)), s_appSeqM_q (0 : Nat) (⟨l_n, fun i => ofMark (l_g i)⟩ : (L.Sq L.Mark)), s_appSeqM_n (0 : Nat) (⟨l_n, fun i => ofMark (l_g i)⟩ : (L.Sq L.Mark)), s_appSeqM_g (0 : Nat) (⟨l_n, fun i => ofMark (l_g i)⟩ : (L.Sq L.Mark)))
  | _ => none
abbrev s_appSeqM_S : SE.Spec := (specF Nat 0 87 3 s_appSeqM_s)
def s_appSeqM_C : Cfg := { muts := [2, 5], frz := lookN [], specs := lookS [], loops := lookL [], iters := lookI [(198, s_valM1_it)], rfs := lookR [], nils := lookM [(1, [(2, 10, 87, 3)])] }
theorem s_appSeqM_vc (s : Nat) (l : (L.Sq L.Mark)) (hp : s_appSeqM_p s l) : vc Tryz.prog ({ s_appSeqM_C with loops := lookL [], rfs := lookR [(2, { T := Nat, keep := [2], keepO := [], own := fun k _ => [(2, .blk 23 [.row 10]), (10, .row 87 3 k (fun k => [.int .i64 ((l.g k).edge), .int .i64 ((l.g k).place), .int .i64 ((l.g k).tone)]))], inv := fun k _ => k ≤ l.n })] }) (bodyOf Tryz.f213) (st0 Tryz.f213 [.p (.raw (.slice none 0 0)), .p (.clo 198 [.ref [.sl 3 l.n (fun i => [.int .i64 ((l.g i).edge), .int .i64 ((l.g i).place), .int .i64 ((l.g i).tone)])] 0])]) (retFresh Tryz.prog Tryz.f213 (Nat) (s_appSeqM_q s l) 87 3 (s_appSeqM_n s l) (s_appSeqM_g s l)) :=
  @Eq.mpr _ ((((∀ (i : Nat), i < l.n → [SV.int .i64 (l.g i).edge, SV.int .i64 (l.g i).place, SV.int .i64 (l.g i).tone] = [SV.int .i64 (l.g i).edge, SV.int .i64 (l.g i).place, SV.int .i64 (l.g i).tone]) ∧ l.n ≤ (1000000 : Nat)) ∧ ∃ (t : Nat), (nat_lit 0 = (0 : Nat) ∧ ∀ (i : Nat), i < nat_lit 0 → [] = [SV.int
 .i64 (l.g i).edge, SV.int .i64 (l.g i).place, SV.int .i64 (l.g i).tone]) ∧ (0 : Nat) ≤ l.n) ∧ (∀ (k t : Nat) (vk : Nat → Go.Value), k < l.n → k ≤ l.n → (k + nat_lit 1) * nat_lit 24 ≤ (140737488355328 : Nat) ∧ ∃ (t' : Nat), nat_lit 0 = nat_lit 0 ∧ vk (nat_lit 2) = vk (nat_lit 2) ∧ (k + nat_lit 1 = k + (1 : Nat) ∧ ∀ (i : Nat), i < k + nat_lit 1 →
 appGet k (fun (k : Nat) ↦ [SV.int .i64 (l.g k).edge, SV.int .i64 (l.g k).place, SV.int .i64 (l.g k).tone]) (fun (x : Nat) ↦ [SV.int .i64 (l.g (Int.toNat (↑k : Int))).edge, SV.int .i64 (l.g (Int.toNat (↑k : Int))).place, SV.int .i64 (l.g (Int.toNat (↑k : Int))).tone]) i = [SV.int
 .i64 (l.g i).edge, SV.int .i64 (l.g i).place, SV.int .i64 (l.g i).tone]) ∧ k + (1 : Nat) ≤ l.n) ∧ ∀ (t : Nat), l.n ≤ l.n → ∃ (t : Nat), (l.n = l.n ∧ ∀ (i : Nat), i < l.n → [SV.int .i64 (l.g i).edge, SV.int .i64 (l.g i).place, SV.int .i64 (l.g i).tone] = [SV.int .i64 (l.g i).edge, SV.int
 .i64 (l.g i).place, SV.int .i64 (l.g i).tone]) ∧ True) (by kernel_rfl) (by
    have hn : l.n ≤ 1000000 := hp
    refine ⟨⟨⟨fun _ _ => rfl, hn⟩, (0 : Nat), ⟨rfl, fun i hi => absurd hi (Nat.not_lt_zero _)⟩, Nat.zero_le _⟩, fun k t vk hk hi => ⟨show (k + 1) * 24 ≤ 140737488355328 by omega, (0 : Nat), rfl, rfl, ⟨rfl, fun i hi => ?_⟩, by omega⟩, fun t hi => ⟨(0 : Nat), ⟨rfl, fun _ _ => rfl⟩, trivial⟩⟩
    have hi : i < k + 1 := hi
    have e0 : ((k : Int)).toNat = k := by omega
    unfold appGet
    by_cases h' : i < k
    · rw [if_pos h']
    · rw [if_neg h']
      obtain rfl : i = k := by omega
      dsimp only
      rw [e0])
theorem s_appSeqM_ok : SpecOk Tryz.prog 213 s_appSeqM_S := freshX Tryz.func213 (c := bodyOf Tryz.f213) (by kernel_rfl) mixed (fun args p q n g hs hp => by
  unfold s_appSeqM_s at hs
  split at hs
  · cases hs; exact ⟨_, _, s_appSeqM_vc _ _ hp.2, (.same _ (.p (Ext.clo rfl (fun i hi => by
      rcases i with _ | i
      · show Ext (SV.ref _ _) (SV.ref _ _); exact (Ext.ref rfl (fun i hi => by
      rcases i with _ | i
      · show Ext (SV.sl _ _ _) (SV.sl _ _ _); exact (Ext.sl hp.1)
      exact absurd hi (by simp; try omega)))
      exact absurd hi (by simp; try omega))) .nil)), ⟨show SpecsL Tryz.prog _ from SpecsL.nil, rfl, ⟨show ItersL Tryz.prog _ from (ItersL.cons s_valM1_itok s_valM1_en ItersL.nil), (TrsOk.none (fun _ => rfl))⟩⟩⟩
  · cases hs)
theorem s_appSeqM_en : Enters Tryz.prog 213 := fun args w => by kernel_rfl
def s_collM_p (l : (L.Sq L.Mark)) : Prop := l.n ≤ 1000000
def s_collM_q (l : (L.Sq L.Mark)) : Nat → Prop := fun _ => True
def s_collM_n (l : (L.Sq L.Mark)) : Nat → Nat := fun _ => l.n
def s_collM_g (l : (L.Sq L.Mark)) : Nat → Nat → List SV := fun _ k => [.int .i64 ((l.g k).edge), .int .i64 ((l.g k).place), .int .i64 ((l.g k).tone)]
def s_collM_s : List EV → Option (Prop × (Nat → Prop) × (Nat → Nat) × (Nat → Nat → List SV))
  | [.p (.clo 198 [.ref [.sl 3 l_n l_g] 0])] => some ((∀ i, i < l_n → l_g i = [.int .i64 ((ofMark (l_g i)).edge), .int .i64 ((ofMark (l_g i)).place), .int .i64 ((ofMark (l_g i)).tone)]) ∧ s_collM_p (⟨l_n, fun i => ofMark (l_g i)⟩ : (L.Sq L.Mark)), s_collM_q (⟨l_n, fun i => ofMark (l_g i)⟩ : (L.Sq L.Mark)), s_collM_n (⟨l_n, fun i => ofMark (l_g i)⟩ : (L.Sq L.Mark)), s_collM_g (⟨l_n, fun i => ofMark (l_g i)⟩ : (L.Sq L.Mark)))
  | _ => none
abbrev s_collM_S : SE.Spec := (specF Nat 0 87 3 s_collM_s)
def s_collM_C : Cfg := { muts := [4], frz := lookN [], specs := lookS [(213, s_appSeqM_S)], loops := lookL [], iters := lookI [], rfs := lookR [], nils := lookM [], raws := [213] }
theorem s_collM_vc (l : (L.Sq L.Mark)) (hp : s_collM_p l) : vc Tryz.prog (s_collM_C) (bodyOf Tryz.f196) (st0 Tryz.f196 [.p (.clo 198 [.ref [.sl 3 l.n (fun i => [.int .i64 ((l.g i).edge), .int .i64 ((l.g i).place), .int .i64 ((l.g i).tone)])] 0])]) (retFresh Tryz.prog Tryz.f196 (Nat) (s_collM_q l) 87 3 (s_collM_n l) (s_collM_g l)) :=
  @Eq.mpr _ (((∀ (i : Nat), i < l.n → [SV.int .i64 (l.g i).edge, SV.int .i64 (l.g i).place, SV.int .i64 (l.g i).tone] = [SV.int .i64 (l.g i).edge, SV.int .i64 (l.g i).place, SV.int .i64 (l.g i).tone]) ∧ l.n ≤ (1000000 : Nat)) ∧ ∀ (t : Nat), True → ∃ (t : Nat), (l.n = l.n ∧ ∀ (i : Nat), i < l.n → [SV.int
 .i64 (l.g i).edge, SV.int .i64 (l.g i).place, SV.int .i64 (l.g i).tone] = [SV.int .i64 (l.g i).edge, SV.int .i64 (l.g i).place, SV.int .i64 (l.g i).tone]) ∧ True) (by kernel_rfl) (by
    exact ⟨⟨fun _ _ => rfl, hp⟩, fun t _ => ⟨(0 : Nat), ⟨rfl, fun _ _ => rfl⟩, trivial⟩⟩)
theorem s_collM_ok : SpecOk Tryz.prog 196 s_collM_S := freshX Tryz.func196 (c := bodyOf Tryz.f196) (by kernel_rfl) mixed (fun args p q n g hs hp => by
  unfold s_collM_s at hs
  split at hs
  · cases hs; exact ⟨_, _, s_collM_vc _ hp.2, (.p (Ext.clo rfl (fun i hi => by
      rcases i with _ | i
      · show Ext (SV.ref _ _) (SV.ref _ _); exact (Ext.ref rfl (fun i hi => by
      rcases i with _ | i
      · show Ext (SV.sl _ _ _) (SV.sl _ _ _); exact (Ext.sl hp.1)
      exact absurd hi (by simp; try omega)))
      exact absurd hi (by simp; try omega))) .nil), ⟨show SpecsL Tryz.prog _ from (SpecsL.cons s_appSeqM_ok s_appSeqM_en SpecsL.nil), rfl, ⟨show ItersL Tryz.prog _ from ItersL.nil, (TrsOk.none (fun _ => rfl))⟩⟩⟩
  · cases hs)
theorem s_collM_en : Enters Tryz.prog 196 := fun args w => by kernel_rfl
def s_sortedM_p (l : (L.Sq L.Mark)) : Prop := l.n ≤ 1000000
def s_sortedM_q (l : (L.Sq L.Mark)) : Nat → Prop := fun _ => True
def s_sortedM_n (l : (L.Sq L.Mark)) : Nat → Nat := fun _ => l.n
def s_sortedM_g (l : (L.Sq L.Mark)) : Nat → Nat → List SV := fun _ k => [.int .i64 (((L.sortM l).g k).edge), .int .i64 (((L.sortM l).g k).place), .int .i64 (((L.sortM l).g k).tone)]
def s_sortedM_s : List EV → Option (Prop × (Nat → Prop) × (Nat → Nat) × (Nat → Nat → List SV))
  | [.p (.clo 198 [.ref [.sl 3 l_n l_g] 0]), .p (.clo 129 [])] => some ((∀ i, i < l_n → l_g i = [.int .i64 ((ofMark (l_g i)).edge), .int .i64 ((ofMark (l_g i)).place), .int .i64 ((ofMark (l_g i)).tone)]) ∧ s_sortedM_p (⟨l_n, fun i => ofMark (l_g i)⟩ : (L.Sq L.Mark)), s_sortedM_q (⟨l_n, fun i => ofMark (l_g i)⟩ : (L.Sq L.Mark)), s_sortedM_n (⟨l_n, fun i => ofMark (l_g i)⟩ : (L.Sq L.Mark)), s_sortedM_g (⟨l_n, fun i => ofMark (l_g i)⟩ : (L.Sq L.Mark)))
  | _ => none
abbrev s_sortedM_S : SE.Spec := (specF Nat 0 87 3 s_sortedM_s)
def s_sortedM_C : Cfg := { muts := [7], frz := lookN [], specs := lookS [(196, s_collM_S), (129, g_cmpMarks_S)], loops := lookL [], iters := lookI [], rfs := lookR [], nils := lookM [], trs := lookT [(197, s_sortMk_tr)], ren := fun k => k - 998, raws := [196] }
theorem s_sortedM_vc (l : (L.Sq L.Mark)) (hp : s_sortedM_p l) : vc Tryz.prog (s_sortedM_C) (bodyOf Tryz.f177) (st0 Tryz.f177 [.p (.clo 198 [.ref [.sl 3 l.n (fun i => [.int .i64 ((l.g i).edge), .int .i64 ((l.g i).place), .int .i64 ((l.g i).tone)])] 0]), .p (.clo 129 [])]) (retFresh Tryz.prog Tryz.f177 (Nat) (s_sortedM_q l) 87 3 (s_sortedM_n l) (s_sortedM_g l)) :=
  @Eq.mpr _ (((∀ (i : Nat), i < l.n → [SV.int .i64 (l.g i).edge, SV.int .i64 (l.g i).place, SV.int .i64 (l.g i).tone] = [SV.int .i64 (l.g i).edge, SV.int .i64 (l.g i).place, SV.int .i64 (l.g i).tone]) ∧ l.n ≤ (1000000 : Nat)) ∧ ∀ (t : Nat), True → ∃ (t : Nat × (Nat → L.Mark)), SV.clo (nat_lit 129) [] =
 SV.clo (129 : Nat) [] ∧ (l.n = t.1 ∧ ∀ (i : Nat), i < l.n → [SV.int .i64 (l.g i).edge, SV.int .i64 (l.g i).place, SV.int .i64 (l.g i).tone] = [SV.int .i64 (t.2 i).edge, SV.int .i64 (t.2 i).place, SV.int .i64 (t.2 i).tone]) ∧ t.1 ≤ (1000000 : Nat) ∧ ∀ (u : Nat → L.Mark), SortedBy L.cmpMark
 t.1 t.2 u → ∃ (t_1 : Nat), (t.1 = l.n ∧ ∀ (i : Nat), i < t.1 → [SV.int .i64 (u i).edge, SV.int .i64 (u i).place, SV.int .i64 (u i).tone] = [SV.int .i64 ((L.sortM l).g i).edge, SV.int .i64 ((L.sortM l).g i).place, SV.int .i64 ((L.sortM l).g i).tone]) ∧ True) (by kernel_rfl) (by
    have hn : l.n ≤ 1000000 := hp
    refine ⟨⟨fun _ _ => rfl, hn⟩, fun t _ => ⟨(l.n, l.g), rfl, ⟨rfl, fun _ _ => rfl⟩, hn, fun u hu => ⟨(0 : Nat), ⟨rfl, fun i hi => ?_⟩, trivial⟩⟩⟩
    rw [sortM_is (l := l) hu i hi])
theorem s_sortedM_ok : SpecOk Tryz.prog 177 s_sortedM_S := freshX Tryz.func177 (c := bodyOf Tryz.f177) (by kernel_rfl) mixed (fun args p q n g hs hp => by
  unfold s_sortedM_s at hs
  split at hs
  · cases hs; exact ⟨_, _, s_sortedM_vc _ hp.2, (.p (Ext.clo rfl (fun i hi => by
      rcases i with _ | i
      · show Ext (SV.ref _ _) (SV.ref _ _); exact (Ext.ref rfl (fun i hi => by
      rcases i with _ | i
      · show Ext (SV.sl _ _ _) (SV.sl _ _ _); exact (Ext.sl hp.1)
      exact absurd hi (by simp; try omega)))
      exact absurd hi (by simp; try omega))) (.p (Ext.clo rfl (fun i hi => by
      
      exact absurd hi (by simp; try omega))) .nil)), ⟨show SpecsL Tryz.prog _ from (SpecsL.cons s_collM_ok s_collM_en (SpecsL.cons g_cmpMarks_ok g_cmpMarks_en SpecsL.nil)), rfl, ⟨show ItersL Tryz.prog _ from ItersL.nil, (show TrsL Tryz.prog _ from (TrsL.cons s_sortMk_tok s_sortMk_en TrsL.nil))⟩⟩⟩
  · cases hs)
theorem s_sortedM_en : Enters Tryz.prog 177 := fun args w => by kernel_rfl
end Go.Proofs.YtooapgllahonaaaGreat

namespace Go.Proofs.YtooapgllahonaaaGreat
open Go.SE Go.RowKit
set_option maxRecDepth 100000
set_option maxHeartbeats 4000000
set_option linter.unusedVariables false
attribute [local irreducible] vc

/-- Where a setting lays an edge, as a number of the whole line. -/
def L.sg (b : Bool) : Int := bif b then -1 else 1
theorem emod_lin (a e b n : Int) : (a + e * (b % n)) % n = (a + e * b) % n := by
  have h : a + e * (b % n) = a + e * b + n * (-(e * (b / n))) := by
    rw [Int.emod_def]
    simp only [Int.mul_sub, Int.mul_neg, ← Int.mul_assoc, Int.mul_comm n e, Int.mul_left_comm n e]
    omega
  rw [h, Int.add_mul_emod_self_left]
theorem lay_lin {s : L.Setting} {n i : Int} (h0 : 0 ≤ s.shift) (h1 : s.shift < n) (h2 : 0 ≤ i) (h3 : i < n) : L.lay s n i = (s.shift + L.sg s.back * i) % n := by
  unfold L.lay L.sg
  cases s.back with
  | true =>
    simp only [cond_true]
    rw [Int.tmod_eq_emod_of_nonneg (by omega), show s.shift + n - i = s.shift + -1 * i + n by omega, Int.add_emod_right]
  | false =>
    simp only [cond_false]
    rw [Int.tmod_eq_emod_of_nonneg (by omega), Int.one_mul]
theorem sg_xor (a b : Bool) : L.sg (!(a == b)) = L.sg b * L.sg a := by cases a <;> cases b <;> rfl
theorem comp_ok {s t : L.Setting} {n : Int} (hs : L.validSet s n = true) (ht : L.validSet t n = true) : L.compE s t n = 0 ∧ L.comp s t n = ⟨(t.shift + L.sg t.back * s.shift) % n, !(s.back == t.back)⟩ ∧ L.validSet (L.comp s t n) n = true := by
  have a := validSet_iff.1 hs
  have b := validSet_iff.1 ht
  have e : L.compE s t n = 0 := by unfold L.compE; rw [hs, ht]; rfl
  have e2 : L.comp s t n = ⟨(t.shift + L.sg t.back * s.shift) % n, !(s.back == t.back)⟩ := by
    unfold L.comp
    rw [e, lay_lin b.2.1 b.2.2 a.2.1 a.2.2]; rfl
  refine ⟨e, e2, validSet_iff.2 ⟨a.1, ?_⟩⟩
  rw [e2]
  exact ⟨Int.emod_nonneg _ (by omega), Int.emod_lt_of_pos _ (by omega)⟩
theorem comp_assoc {s t u : L.Setting} {n : Int} (hs : L.validSet s n = true) (ht : L.validSet t n = true) (hu : L.validSet u n = true) : L.comp (L.comp s t n) u n = L.comp s (L.comp t u n) n := by
  obtain ⟨_, e1, v1⟩ := comp_ok hs ht
  obtain ⟨_, e2, v2⟩ := comp_ok ht hu
  obtain ⟨_, e3, _⟩ := comp_ok v1 hu
  obtain ⟨_, e4, _⟩ := comp_ok hs v2
  have A : (u.shift + L.sg u.back * ((t.shift + L.sg t.back * s.shift) % n)) % n = ((u.shift + L.sg u.back * t.shift) % n + L.sg (!(t.back == u.back)) * s.shift) % n := by
    rw [emod_lin, sg_xor, Int.emod_add_emod, Int.mul_add, Int.mul_assoc, Int.add_assoc]
  have B : (!((!(s.back == t.back)) == u.back)) = !(s.back == !(t.back == u.back)) := by
    cases s.back <;> cases t.back <;> cases u.back <;> rfl
  rw [e3, e4, e1, e2]
  dsimp only
  rw [A, B]
def L.one : L.Setting := ⟨0, false⟩
theorem one_valid {s : L.Setting} {n : Int} (hs : L.validSet s n = true) : L.validSet L.one n = true := by
  have a := validSet_iff.1 hs
  exact validSet_iff.2 ⟨a.1, Int.le_refl _, show (0 : Int) < n by omega⟩
theorem set_ext {s t : L.Setting} (h : s.shift = t.shift) (k : s.back = t.back) : s = t := by cases s; cases t; simp only at h k; rw [h, k]
theorem comp_one {s : L.Setting} {n : Int} (hs : L.validSet s n = true) : L.comp s L.one n = s := by
  have a := validSet_iff.1 hs
  rw [(comp_ok hs (one_valid hs)).2.1]
  refine set_ext ?_ ?_
  · show (0 + 1 * s.shift) % n = s.shift
    rw [Int.zero_add, Int.one_mul, Int.emod_eq_of_lt a.2.1 a.2.2]
  · show (!(s.back == false)) = s.back
    cases s.back <;> rfl
theorem inv_ok {s : L.Setting} {n : Int} (hs : L.validSet s n = true) : L.invE s n = 0 ∧ L.validSet (L.inv s n) n = true ∧ L.comp s (L.inv s n) n = L.one := by
  have a := validSet_iff.1 hs
  have hv : L.validSet (L.inv s n) n = true := by
    unfold L.inv
    rw [hs]
    cases hb : s.back with
    | true => exact hs
    | false =>
      refine validSet_iff.2 ⟨a.1, ?_⟩
      show 0 ≤ Int.tmod (n - s.shift) n ∧ Int.tmod (n - s.shift) n < n
      exact ⟨Int.tmod_nonneg _ (by omega), Int.tmod_lt_of_pos _ (by omega)⟩
  refine ⟨by unfold L.invE; rw [hs]; rfl, hv, ?_⟩
  rw [(comp_ok hs hv).2.1]
  unfold L.inv
  rw [hs]
  cases hb : s.back with
  | true =>
    simp only [cond_true]
    refine set_ext ?_ ?_
    · show (s.shift + L.sg s.back * s.shift) % n = 0
      rw [hb]
      show (s.shift + -1 * s.shift) % n = 0
      rw [show s.shift + -1 * s.shift = 0 by omega, Int.zero_emod]
    · show (!(true == s.back)) = false
      rw [hb]; rfl
  | false =>
    simp only [cond_true, cond_false]
    refine set_ext ?_ ?_
    · show (Int.tmod (n - s.shift) n + 1 * s.shift) % n = 0
      rw [Int.tmod_eq_emod_of_nonneg (by omega), Int.emod_add_emod, Int.one_mul, show n - s.shift + s.shift = n by omega, Int.emod_self]
    · rfl
theorem lay_comp {s t : L.Setting} {n i : Int} (hs : L.validSet s n = true) (ht : L.validSet t n = true) (h0 : 0 ≤ i) (h1 : i < n) : L.lay t n (L.lay s n i) = L.lay (L.comp s t n) n i ∧ 0 ≤ L.lay s n i ∧ L.lay s n i < n := by
  have a := validSet_iff.1 hs
  have b := validSet_iff.1 ht
  obtain ⟨_, e1, v1⟩ := comp_ok hs ht
  have c := validSet_iff.1 v1
  have l1 := lay_lin a.2.1 a.2.2 h0 h1
  have r1 : 0 ≤ L.lay s n i ∧ L.lay s n i < n := by
    rw [l1]; exact ⟨Int.emod_nonneg _ (by omega), Int.emod_lt_of_pos _ (by omega)⟩
  refine ⟨?_, r1⟩
  rw [lay_lin b.2.1 b.2.2 r1.1 r1.2, lay_lin c.2.1 c.2.2 h0 h1, l1, e1]
  dsimp only
  rw [emod_lin, sg_xor, Int.emod_add_emod, Int.mul_add, Int.mul_assoc, Int.add_assoc]
theorem ed_ok {s : L.Setting} {n i : Int} (hs : L.validSet s n = true) (h0 : 0 ≤ i) (h1 : i < n) : L.edE s n i = 0 ∧ L.ed s n i = L.lay s n i := by
  have e : L.edE s n i = 0 := by
    unfold L.edE
    rw [hs, within_iff.2 ⟨h0, by omega⟩]; rfl
  exact ⟨e, by unfold L.ed; rw [e]; rfl⟩
theorem one_inv {s : L.Setting} {n : Int} (hs : L.validSet s n = true) : L.comp (L.inv s n) s n = L.one := by
  have i1 := inv_ok hs
  have i2 := inv_ok i1.2.1
  have v := (comp_ok i1.2.1 hs).2.2
  have a1 := comp_assoc i1.2.1 hs i1.2.1
  rw [i1.2.2, comp_one i1.2.1] at a1
  have a2 := comp_assoc v i1.2.1 i2.2.1
  rw [a1, i2.2.2, comp_one v] at a2
  exact a2.symm
end Go.Proofs.YtooapgllahonaaaGreat

namespace Go.Proofs.YtooapgllahonaaaGreat
open Go.SE Go.RowKit
set_option maxRecDepth 100000
set_option maxHeartbeats 4000000
set_option linter.unusedVariables false
attribute [local irreducible] vc

def L.rsI (s : L.Setting) (n j : Nat) : Nat := (L.lay (L.inv s n) n j).toNat
def L.rsG1 (p : L.Piece) (s : L.Setting) (i : Nat) : L.Gauge := bif s.back then ⟨(p.gauges.g i).edge, (p.gauges.g (L.prev p.gauges.n i)).across, (p.gauges.g (L.prev p.gauges.n i)).bend⟩ else p.gauges.g i
def L.rsTo (p : L.Piece) (s : L.Setting) (i j : Nat) : L.Gauge := bif decide (L.rsI s p.gauges.n j < i) then L.rsG1 p s (L.rsI s p.gauges.n j) else ⟨⟨0, 0⟩, ⟨0, 0⟩, 0⟩
def L.rsGs (p : L.Piece) (s : L.Setting) : L.Sq L.Gauge := ⟨p.gauges.n, fun j => L.rsG1 p s (L.rsI s p.gauges.n j)⟩
def L.rsM1 (s : L.Setting) (n : Nat) (m : L.Mark) : L.Mark := ⟨L.lay s n m.edge, bif s.back then 16 - m.place else m.place, m.tone⟩
def L.rsMs (l : L.Sq L.Mark) (s : L.Setting) (n : Nat) : L.Sq L.Mark := ⟨l.n, fun k => L.rsM1 s n (l.g k)⟩
def L.rsMTo (l : L.Sq L.Mark) (s : L.Setting) (n i k : Nat) : L.Mark := bif decide (k < i) then L.rsM1 s n (l.g k) else l.g k
def L.rs (p : L.Piece) (s : L.Setting) : L.Piece := ⟨p.id, bif s.back then p.rev else p.colour, bif s.back then p.colour else p.rev, p.made, p.swell, L.rsGs p s, L.sortM (L.rsMs p.marks s p.gauges.n)⟩
theorem lay_one {n i : Int} (h0 : 0 ≤ i) (h1 : i < n) : L.lay L.one n i = i := by
  rw [lay_lin (s := L.one) (Int.le_refl 0) (show (0 : Int) < n by omega) h0 h1]
  show (0 + 1 * i) % n = i
  rw [Int.zero_add, Int.one_mul, Int.emod_eq_of_lt h0 h1]
theorem rsI_lay {s : L.Setting} {n i : Nat} (hs : L.validSet s n = true) (hi : i < n) : 0 ≤ L.lay s n i ∧ L.lay s n i < n ∧ L.rsI s n (L.lay s n i).toNat = i := by
  have h := inv_ok hs
  obtain ⟨e, a, b⟩ := lay_comp hs h.2.1 (i := (i : Int)) (by omega) (by omega)
  refine ⟨a, b, ?_⟩
  unfold L.rsI
  rw [Int.toNat_of_nonneg a, e, h.2.2, lay_one (by omega) (by omega), Int.toNat_natCast]
theorem lay_rsI {s : L.Setting} {n j : Nat} (hs : L.validSet s n = true) (hj : j < n) : L.rsI s n j < n ∧ L.lay s n ((L.rsI s n j : Nat) : Int) = (j : Int) := by
  have h := inv_ok hs
  obtain ⟨e, a, b⟩ := lay_comp h.2.1 hs (i := (j : Int)) (by omega) (by omega)
  unfold L.rsI
  rw [one_inv hs, lay_one (by omega) (by omega)] at e
  exact ⟨by omega, by rw [Int.toNat_of_nonneg a, e]⟩
theorem rsTo_step {p : L.Piece} {s : L.Setting} {i : Nat} (hs : L.validSet s p.gauges.n = true) (hi : i < p.gauges.n) {j : Nat} (hj : j < p.gauges.n) : L.rsTo p s (i + 1) j = if j = (L.lay s p.gauges.n i).toNat then L.rsG1 p s i else L.rsTo p s i j := by
  obtain ⟨a, b, c⟩ := rsI_lay hs hi
  obtain ⟨d, e⟩ := lay_rsI hs hj
  unfold L.rsTo
  by_cases h : j = (L.lay s p.gauges.n i).toNat
  · rw [if_pos h, h, c, decide_eq_true (Nat.lt_succ_self i)]; rfl
  · rw [if_neg h]
    have hne : L.rsI s p.gauges.n j ≠ i := fun hx => by rw [hx] at e; omega
    by_cases hl : L.rsI s p.gauges.n j < i
    · rw [decide_eq_true hl, decide_eq_true (by omega)]
    · rw [decide_eq_false hl, decide_eq_false (by omega)]
theorem fif {p : Prop} (h : p) : (((p ∧ p ∧ p) ∧ (p ∧ p) ∧ p) ∧ (p ∧ p ∧ p) ∧ p) ∧ ((p ∧ p ∧ p) ∧ p) ∧ p := ⟨⟨⟨⟨h, h, h⟩, ⟨h, h⟩, h⟩, ⟨h, h, h⟩, h⟩, ⟨⟨h, h, h⟩, h⟩, h⟩
theorem rsI_lt (s : L.Setting) {n : Nat} (hn : 0 < n) (j : Nat) : L.rsI s n j < n := by
  have h : ∀ x : Int, Int.tmod x n < n := fun x => Int.tmod_lt_of_pos x (by omega)
  unfold L.rsI L.lay
  cases (L.inv s n).back with
  | true => have := h ((L.inv s n).shift + n - j); rw [cond_true]; omega
  | false => have := h ((L.inv s n).shift + j); rw [cond_false]; omega
theorem rsTo_full {p : L.Piece} {s : L.Setting} (hn : 0 < p.gauges.n) (j : Nat) : L.rsTo p s p.gauges.n j = L.rsG1 p s (L.rsI s p.gauges.n j) := by
  unfold L.rsTo
  rw [decide_eq_true (rsI_lt s hn j)]; rfl
theorem sortM_congr {n : Nat} {f g : Nat → L.Mark} (h : ∀ k, k < n → f k = g k) : L.sortM ⟨n, f⟩ = L.sortM ⟨n, g⟩ := by
  have : L.listMk ⟨n, f⟩ = L.listMk ⟨n, g⟩ := List.map_congr_left fun k hk => h k (List.mem_range.1 hk)
  unfold L.sortM
  rw [this]
theorem rsMTo_at {l : L.Sq L.Mark} {s : L.Setting} {n q : Nat} : L.rsMTo l s n q q = l.g q := by
  unfold L.rsMTo; rw [decide_eq_false (Nat.lt_irrefl q)]; rfl
theorem rsMTo_step {l : L.Sq L.Mark} {s : L.Setting} {n q i : Nat} : L.rsMTo l s n (q + 1) i = if i = q then L.rsM1 s n (l.g q) else L.rsMTo l s n q i := by
  unfold L.rsMTo
  by_cases h : i = q
  · rw [if_pos h, h, decide_eq_true (Nat.lt_succ_self q)]; rfl
  · rw [if_neg h]
    by_cases hl : i < q
    · rw [decide_eq_true hl, decide_eq_true (by omega)]
    · rw [decide_eq_false hl, decide_eq_false (by omega)]
theorem piece_of {p : L.Piece} (h : L.validPiece p = true) : L.nums p = true ∧ L.gauges p.gauges = true ∧ L.vMarks p.marks p.gauges.n = true := by
  unfold L.validPiece at h
  rw [band, band, Bool.and_eq_true, Bool.and_eq_true] at h
  exact ⟨h.1.1, h.1.2, h.2⟩
theorem gauges_n {l : L.Sq L.Gauge} (h : L.gauges l = true) : 3 ≤ l.n ∧ l.n ≤ 24 := by
  unfold L.gauges at h
  rw [band, Bool.and_eq_true, within_iff] at h
  omega
theorem marks_in {l : L.Sq L.Mark} {n : Int} (h : L.vMarks l n = true) : l.n ≤ 32 ∧ ∀ k, k < l.n → (0 ≤ (l.g k).edge ∧ (l.g k).edge < n) ∧ (0 ≤ (l.g k).place ∧ (l.g k).place ≤ 16) ∧ 1 ≤ (l.g k).tone ∧ (l.g k).tone ≤ 16 := by
  unfold L.vMarks L.edges L.marks at h
  simp only [band, Bool.and_eq_true, decide_eq_true_eq, allB_iff, within_iff] at h
  refine ⟨by omega, fun k hk => ?_⟩
  have a := h.1 k hk
  have b := (h.2.2 k hk)
  unfold L.mark1 at b
  simp only [band, Bool.and_eq_true, bor, Bool.or_eq_true, Bool.not_eq_true', within_iff] at b
  omega
def g_sortedM_p (l : (L.Sq L.Mark)) : Prop := l.n ≤ 1000000
def g_sortedM_q (l : (L.Sq L.Mark)) : Nat → Prop := fun _ => True
def g_sortedM_n (l : (L.Sq L.Mark)) : Nat → Nat := fun _ => l.n
def g_sortedM_g (l : (L.Sq L.Mark)) : Nat → Nat → List SV := fun _ k => [.int .i64 (((L.sortM l).g k).edge), .int .i64 (((L.sortM l).g k).place), .int .i64 (((L.sortM l).g k).tone)]
def g_sortedM_s : List EV → Option (Prop × (Nat → Prop) × (Nat → Nat) × (Nat → Nat → List SV))
  | [.p (.sl 3 l_n l_g), .p (.clo 129 [])] => some ((∀ i, i < l_n → l_g i = [.int .i64 ((ofMark (l_g i)).edge), .int .i64 ((ofMark (l_g i)).place), .int .i64 ((ofMark (l_g i)).tone)]) ∧ g_sortedM_p (⟨l_n, fun i => ofMark (l_g i)⟩ : (L.Sq L.Mark)), g_sortedM_q (⟨l_n, fun i => ofMark (l_g i)⟩ : (L.Sq L.Mark)), g_sortedM_n (⟨l_n, fun i => ofMark (l_g i)⟩ : (L.Sq L.Mark)), g_sortedM_g (⟨l_n, fun i => ofMark (l_g i)⟩ : (L.Sq L.Mark)))
  | _ => none
abbrev g_sortedM_S : SE.Spec := (specF Nat 0 87 3 g_sortedM_s)
def g_sortedM_C : Cfg := { muts := [8], frz := lookN [], specs := lookS [(178, s_valM_S), (177, s_sortedM_S)], loops := lookL [], iters := lookI [], rfs := lookR [], nils := lookM [], raws := [177] }
theorem g_sortedM_vc (l : (L.Sq L.Mark)) (hp : g_sortedM_p l) : vc Tryz.prog (g_sortedM_C) (bodyOf Tryz.f128) (st0 Tryz.f128 [.p (.sl 3 l.n (fun i => [.int .i64 ((l.g i).edge), .int .i64 ((l.g i).place), .int .i64 ((l.g i).tone)])), .p (.clo 129 [])]) (retFresh Tryz.prog Tryz.f128 (Nat) (g_sortedM_q l) 87 3 (g_sortedM_n l) (g_sortedM_g l)) :=
  @Eq.mpr _ (((∀ (i : Nat), i < l.n → [SV.int .i64 (l.g i).edge, SV.int .i64 (l.g i).place, SV.int .i64 (l.g i).tone] = [SV.int .i64 (l.g i).edge, SV.int .i64 (l.g i).place, SV.int .i64 (l.g i).tone]) ∧ l.n ≤ (1000000 : Nat)) ∧ ((∀ (i : Nat), i < l.n → [SV.int .i64 (l.g i).edge, SV.int
 .i64 (l.g i).place, SV.int .i64 (l.g i).tone] = [SV.int .i64 (l.g i).edge, SV.int .i64 (l.g i).place, SV.int .i64 (l.g i).tone]) ∧ l.n ≤ (1000000 : Nat)) ∧ ∀ (t : Nat), True → ∃ (t : Nat), (l.n = l.n ∧ ∀ (i : Nat), i < l.n → [SV.int .i64 ((L.sortM (L.Sq.mk l.n fun (i : Nat) ↦ l.g i)).g i).edge, SV.int
 .i64 ((L.sortM (L.Sq.mk l.n fun (i : Nat) ↦ l.g i)).g i).place, SV.int .i64 ((L.sortM (L.Sq.mk l.n fun (i : Nat) ↦ l.g i)).g i).tone] = [SV.int .i64 ((L.sortM l).g i).edge, SV.int .i64 ((L.sortM l).g i).place, SV.int .i64 ((L.sortM l).g i).tone]) ∧ True) (by kernel_rfl) (by
    have hn : l.n ≤ 1000000 := hp
    exact ⟨⟨fun _ _ => rfl, hn⟩, ⟨fun _ _ => rfl, hn⟩, fun t _ => ⟨(0 : Nat), ⟨rfl, fun _ _ => rfl⟩, trivial⟩⟩)
theorem g_sortedM_ok : SpecOk Tryz.prog 128 g_sortedM_S := freshX Tryz.func128 (c := bodyOf Tryz.f128) (by kernel_rfl) mixed (fun args p q n g hs hp => by
  unfold g_sortedM_s at hs
  split at hs
  · cases hs; exact ⟨_, _, g_sortedM_vc _ hp.2, (.p (.sl hp.1) (.p (Ext.clo rfl (fun i hi => by
      
      exact absurd hi (by simp; try omega))) .nil)), ⟨show SpecsL Tryz.prog _ from (SpecsL.cons s_valM_ok s_valM_en (SpecsL.cons s_sortedM_ok s_sortedM_en SpecsL.nil)), rfl, ⟨show ItersL Tryz.prog _ from ItersL.nil, (TrsOk.none (fun _ => rfl))⟩⟩⟩
  · cases hs)
theorem g_sortedM_en : Enters Tryz.prog 128 := fun args w => by kernel_rfl
def g_reset_p (p : L.Piece) (s : L.Setting) : Prop := L.validPiece p = true ∧ L.validSet s p.gauges.n = true
def g_reset_r (p : L.Piece) (s : L.Setting) : SV := (.agg [.int .i64 ((L.rs p s).id), .int .i64 ((L.rs p s).colour), .int .i64 ((L.rs p s).rev), .int .i64 ((L.rs p s).made), .int .i64 ((L.rs p s).swell), .sl 5 (L.rs p s).gauges.n (fun i => [.int .i64 (((L.rs p s).gauges.g i).edge.lo), .int .i64 (((L.rs p s).gauges.g i).edge.hi), .int .i64 (((L.rs p s).gauges.g i).across.lo), .int .i64 (((L.rs p s).gauges.g i).across.hi), .int .i64 (((L.rs p s).gauges.g i).bend)]), .sl 3 (L.rs p s).marks.n (fun i => [.int .i64 (((L.rs p s).marks.g i).edge), .int .i64 (((L.rs p s).marks.g i).place), .int .i64 (((L.rs p s).marks.g i).tone)])])
def g_reset_s : List EV → Option (Prop × SV)
  | [.p (.agg [.int .i64 p_id, .int .i64 p_colour, .int .i64 p_rev, .int .i64 p_made, .int .i64 p_swell, .sl 5 p_gauges_n p_gauges_g, .sl 3 p_marks_n p_marks_g]), .p (.agg [.int .i64 s_shift, .bool s_back])] => some ((∀ i, i < p_gauges_n → p_gauges_g i = [.int .i64 ((ofGauge (p_gauges_g i)).edge.lo), .int .i64 ((ofGauge (p_gauges_g i)).edge.hi), .int .i64 ((ofGauge (p_gauges_g i)).across.lo), .int .i64 ((ofGauge (p_gauges_g i)).across.hi), .int .i64 ((ofGauge (p_gauges_g i)).bend)]) ∧ (∀ i, i < p_marks_n → p_marks_g i = [.int .i64 ((ofMark (p_marks_g i)).edge), .int .i64 ((ofMark (p_marks_g i)).place), .int .i64 ((ofMark (p_marks_g i)).tone)]) ∧ g_reset_p (⟨p_id, p_colour, p_rev, p_made, p_swell, (⟨p_gauges_n, fun i => ofGauge (p_gauges_g i)⟩ : (L.Sq L.Gauge)), (⟨p_marks_n, fun i => ofMark (p_marks_g i)⟩ : (L.Sq L.Mark))⟩ : L.Piece) (⟨s_shift, s_back⟩ : L.Setting), g_reset_r (⟨p_id, p_colour, p_rev, p_made, p_swell, (⟨p_gauges_n, fun i => ofGauge (p_gauges_g i)⟩ : (L.Sq L.Gauge)), (⟨p_marks_n, fun i => ofMark (p_marks_g i)⟩ : (L.Sq L.Mark))⟩ : L.Piece) (⟨s_shift, s_back⟩ : L.Setting))
  | _ => none
abbrev g_reset_S : SE.Spec := (specO g_reset_s)
def g_reset_C : Cfg := { muts := [4, 6, 8, 11, 13, 19, 62, 98], frz := lookN [(22, [19, 98])], specs := lookS [(127, p_Edge_S), (114, s_cloneM_S), (128, g_sortedM_S), (129, g_cmpMarks_S)], loops := fun _ => none, iters := lookI [], rfs := lookR [], nils := lookM [], anys := [10, 23], raws := [128] }
theorem g_reset_vc (p : L.Piece) (s : L.Setting) (hp : g_reset_p p s) : vc Tryz.prog ({ g_reset_C with loops := lookL [(5, { T := Nat, keep := [2, 3, 4, 5, 6, 22, 23], keepO := [4, 6], chg := fun i => [(24, .p (.int .i64 (i : Int)))], own := fun i => [(19, .row 92 5 p.gauges.n (fun j => [.int .i64 ((L.rsTo p s i j).edge.lo), .int .i64 ((L.rsTo p s i j).edge.hi), .int .i64 ((L.rsTo p s i j).across.lo), .int .i64 ((L.rsTo p s i j).across.hi), .int .i64 ((L.rsTo p s i j).bend)]))], inv := fun i => i ≤ p.gauges.n, mu := fun i => p.gauges.n - i }), (15, { T := Nat, keep := [2, 3, 4, 5, 6, 65, 66], keepO := [4, 6, 19], chg := fun i => [(67, .p (.int .i64 (i : Int)))], own := fun i => [(62, .row 87 3 p.marks.n (fun k => [.int .i64 ((L.rsMTo p.marks s p.gauges.n i k).edge), .int .i64 ((L.rsMTo p.marks s p.gauges.n i k).place), .int .i64 ((L.rsMTo p.marks s p.gauges.n i k).tone)]))], inv := fun i => i ≤ p.marks.n, mu := fun i => p.marks.n - i })], rfs := lookR [] }) (bodyOf Tryz.f62) (st0 Tryz.f62 [.p (.agg [.int .i64 p.id, .int .i64 p.colour, .int .i64 p.rev, .int .i64 p.made, .int .i64 p.swell, .sl 5 p.gauges.n (fun i => [.int .i64 ((p.gauges.g i).edge.lo), .int .i64 ((p.gauges.g i).edge.hi), .int .i64 ((p.gauges.g i).across.lo), .int .i64 ((p.gauges.g i).across.hi), .int .i64 ((p.gauges.g i).bend)]), .sl 3 p.marks.n (fun i => [.int .i64 ((p.marks.g i).edge), .int .i64 ((p.marks.g i).place), .int .i64 ((p.marks.g i).tone)])]), .p (.agg [.int .i64 s.shift, .bool s.back])]) (retFn Tryz.prog Tryz.f62 (g_reset_r p s)) :=
  @Eq.mpr _ (((0 : Int) ≤ (↑p.gauges.n : Int) ∧ (↑p.gauges.n : Int) ≤ (↑p.gauges.n : Int) ∧ (↑p.gauges.n : Int) * (↑(nat_lit 40) : Int) ≤ (140737488355328 : Int)) ∧ (∃ (g : Nat), (0 : Int) = (↑g : Int) ∧ (Int.toNat (↑p.gauges.n : Int) = p.gauges.n ∧ ∀ (i : Nat), i < Int.toNat (↑p.gauges.n : Int) → [SV.int .i64 (0 : Int), SV.int .i64 (0 : Int), SV.int .i64 (0 :
 Int), SV.int .i64 (0 : Int), SV.int .i64 (0 : Int)] = [SV.int .i64 (L.rsTo p s g i).edge.lo, SV.int .i64 (L.rsTo p s g i).edge.hi, SV.int .i64 (L.rsTo p s g i).across.lo, SV.int .i64 (L.rsTo p s g i).across.hi, SV.int .i64 (L.rsTo p s g i).bend]) ∧ g ≤ p.gauges.n) ∧ ∀ (g : Nat), g ≤
 p.gauges.n → (decide ((↑g : Int) < (↑p.gauges.n : Int)) = true → ((0 : Int) ≤ (↑g : Int) ∧ (↑g : Int) < (↑p.gauges.n : Int)) ∧ True ∧ (s.back = true → InK .i64 ((↑g : Int) + (↑p.gauges.n : Int)) ∧ InK .i64 ((↑g : Int) + (↑p.gauges.n : Int) - (1 : Int)) ∧ (↑p.gauges.n : Int) ≠ (0 : Int) ∧ ((0 : Int) ≤ Int.tmod ((↑g : Int) + (↑p.gauges.n : Int) -
 (1 : Int)) (↑p.gauges.n : Int) ∧ Int.tmod ((↑g : Int) + (↑p.gauges.n : Int) - (1 : Int)) (↑p.gauges.n : Int) < (↑p.gauges.n : Int)) ∧ ((((((0 : Int) ≤ L.ed s (↑p.gauges.n : Int) (↑g : Int) ∧ L.ed s (↑p.gauges.n : Int) (↑g : Int) < (↑p.gauges.n : Int)) ∧ Int.toNat (L.ed s (↑p.gauges.n : Int) (↑g : Int)) < p.gauges.n ∧ InK .i64 ((↑g : Int) + (1 : Int)) ∧ ∃ (g' : Nat), (↑g : Int) + (1
 : Int) = (↑g' : Int) ∧ (↑p.gauges.n : Int) = (↑p.gauges.n : Int) ∧ (p.gauges.n = p.gauges.n ∧ ∀ (i : Nat), i < p.gauges.n → [SV.int .i64 (p.gauges.g i).edge.lo, SV.int .i64 (p.gauges.g i).edge.hi, SV.int .i64 (p.gauges.g i).across.lo, SV.int .i64 (p.gauges.g i).across.hi, SV.int .i64 (p.gauges.g i).bend] =
 [SV.int .i64 (p.gauges.g i).edge.lo, SV.int .i64 (p.gauges.g i).edge.hi, SV.int .i64 (p.gauges.g i).across.lo, SV.int .i64 (p.gauges.g i).across.hi, SV.int .i64 (p.gauges.g i).bend]) ∧ nat_lit 0 = nat_lit 0 ∧ (↑p.gauges.n : Int) = (↑p.gauges.n : Int) ∧ nat_lit 0 = nat_lit 0 ∧ SV.ref [SV.int .i64
 s.shift, SV.bool s.back] (nat_lit 0) = SV.ref [SV.int .i64 s.shift, SV.bool s.back] (nat_lit 0) ∧ SV.ref [SV.int .i64 p.id, SV.int .i64 p.colour, SV.int .i64 p.rev, SV.int .i64 p.made, SV.int .i64 p.swell, SV.sl (nat_lit 5) p.gauges.n fun (i : Nat) ↦ [SV.int
 .i64 (p.gauges.g i).edge.lo, SV.int .i64 (p.gauges.g i).edge.hi, SV.int .i64 (p.gauges.g i).across.lo, SV.int .i64 (p.gauges.g i).across.hi, SV.int .i64 (p.gauges.g i).bend], SV.sl (nat_lit 3) p.marks.n fun (i : Nat) ↦ [SV.int .i64 (p.marks.g i).edge, SV.int .i64 (p.marks.g i).place,
 SV.int .i64 (p.marks.g i).tone]] (nat_lit 0) = SV.ref [SV.int .i64 p.id, SV.int .i64 p.colour, SV.int .i64 p.rev, SV.int .i64 p.made, SV.int .i64 p.swell, SV.sl (nat_lit 5) p.gauges.n fun (i : Nat) ↦ [SV.int .i64 (p.gauges.g i).edge.lo, SV.int .i64 (p.gauges.g
 i).edge.hi, SV.int .i64 (p.gauges.g i).across.lo, SV.int .i64 (p.gauges.g i).across.hi, SV.int .i64 (p.gauges.g i).bend], SV.sl (nat_lit 3) p.marks.n fun (i : Nat) ↦ [SV.int .i64 (p.marks.g i).edge, SV.int .i64 (p.marks.g i).place, SV.int .i64 (p.marks.g i).tone]] (nat_lit 0) ∧ (p.gauges.n =
 p.gauges.n ∧ ∀ (i : Nat), i < p.gauges.n → setRow (fun (j : Nat) ↦ [SV.int .i64 (L.rsTo p s g j).edge.lo, SV.int .i64 (L.rsTo p s g j).edge.hi, SV.int .i64 (L.rsTo p s g j).across.lo, SV.int .i64 (L.rsTo p s g j).across.hi, SV.int .i64 (L.rsTo p s g j).bend]) (Int.toNat (L.ed s (↑p.gauges.n : Int) (↑g : Int)))
 (nat_lit 0) [SV.int .i64 (p.gauges.g (Int.toNat (↑g : Int))).edge.lo, SV.int .i64 (p.gauges.g (Int.toNat (↑g : Int))).edge.hi, SV.int .i64 (p.gauges.g (Int.toNat (Int.tmod ((↑g : Int) + (↑p.gauges.n : Int) - (1 : Int)) (↑p.gauges.n : Int)))).across.lo, SV.int .i64 (p.gauges.g (Int.toNat (Int.tmod ((↑g : Int) + (↑p.gauges.n : Int) - (1
 : Int)) (↑p.gauges.n : Int)))).across.hi, SV.int .i64 (p.gauges.g (Int.toNat (Int.tmod ((↑g : Int) + (↑p.gauges.n : Int) - (1 : Int)) (↑p.gauges.n : Int)))).bend] i = [SV.int .i64 (L.rsTo p s g' i).edge.lo, SV.int .i64 (L.rsTo p s g' i).edge.hi, SV.int .i64 (L.rsTo p s g' i).across.lo, SV.int .i64 (L.rsTo p s g'
 i).across.hi, SV.int .i64 (L.rsTo p s g' i).bend]) ∧ p.id = p.id ∧ p.colour = p.colour ∧ p.rev = p.rev ∧ p.made = p.made ∧ p.swell = p.swell ∧ (p.marks.n = p.marks.n ∧ ∀ (i : Nat), i < p.marks.n → [SV.int .i64 (p.marks.g i).edge, SV.int .i64 (p.marks.g i).place, SV.int .i64 (p.marks.g i).tone] = [SV.int .i64 (p.marks.g
 i).edge, SV.int .i64 (p.marks.g i).place, SV.int .i64 (p.marks.g i).tone]) ∧ (0 : Int) = (0 : Int) ∧ (0 : Int) = (0 : Int) ∧ (0 : Int) = (0 : Int) ∧ (0 : Int) = (0 : Int) ∧ (0 : Int) = (0 : Int) ∧ Value.slice Option.none (0 : Nat) (0 : Nat) = Value.slice Option.none (0 : Nat) (0 : Nat) ∧ Value.slice Option.none (0 : Nat) (0 : Nat) = Value.slice
 Option.none (0 : Nat) (0 : Nat) ∧ g' ≤ p.gauges.n ∧ p.gauges.n - g' < p.gauges.n - g) ∧ (((0 : Int) ≤ L.ed s (↑p.gauges.n : Int) (↑g : Int) ∧ L.ed s (↑p.gauges.n : Int) (↑g : Int) < (↑p.gauges.n : Int)) ∧ Int.toNat (L.ed s (↑p.gauges.n : Int) (↑g : Int)) < p.gauges.n ∧ InK .i64 ((↑g : Int) + (1 : Int)) ∧ ∃ (g' : Nat), (↑g : Int) + (1 : Int) = (↑g' : Int) ∧ (↑p.gauges.n : Int) =
 (↑p.gauges.n : Int) ∧ (p.gauges.n = p.gauges.n ∧ ∀ (i : Nat), i < p.gauges.n → [SV.int .i64 (p.gauges.g i).edge.lo, SV.int .i64 (p.gauges.g i).edge.hi, SV.int .i64 (p.gauges.g i).across.lo, SV.int .i64 (p.gauges.g i).across.hi, SV.int .i64 (p.gauges.g i).bend] = [SV.int .i64 (p.gauges.g i).edge.lo,
 SV.int .i64 (p.gauges.g i).edge.hi, SV.int .i64 (p.gauges.g i).across.lo, SV.int .i64 (p.gauges.g i).across.hi, SV.int .i64 (p.gauges.g i).bend]) ∧ nat_lit 0 = nat_lit 0 ∧ (↑p.gauges.n : Int) = (↑p.gauges.n : Int) ∧ nat_lit 0 = nat_lit 0 ∧ SV.ref [SV.int .i64 s.shift, SV.bool s.back] (nat_lit 0) =
 SV.ref [SV.int .i64 s.shift, SV.bool s.back] (nat_lit 0) ∧ SV.ref [SV.int .i64 p.id, SV.int .i64 p.colour, SV.int .i64 p.rev, SV.int .i64 p.made, SV.int .i64 p.swell, SV.sl (nat_lit 5) p.gauges.n fun (i : Nat) ↦ [SV.int .i64 (p.gauges.g i).edge.lo, SV.int
 .i64 (p.gauges.g i).edge.hi, SV.int .i64 (p.gauges.g i).across.lo, SV.int .i64 (p.gauges.g i).across.hi, SV.int .i64 (p.gauges.g i).bend], SV.sl (nat_lit 3) p.marks.n fun (i : Nat) ↦ [SV.int .i64 (p.marks.g i).edge, SV.int .i64 (p.marks.g i).place, SV.int .i64 (p.marks.g i).tone]]
 (nat_lit 0) = SV.ref [SV.int .i64 p.id, SV.int .i64 p.colour, SV.int .i64 p.rev, SV.int .i64 p.made, SV.int .i64 p.swell, SV.sl (nat_lit 5) p.gauges.n fun (i : Nat) ↦ [SV.int .i64 (p.gauges.g i).edge.lo, SV.int .i64 (p.gauges.g i).edge.hi, SV.int .i64
 (p.gauges.g i).across.lo, SV.int .i64 (p.gauges.g i).across.hi, SV.int .i64 (p.gauges.g i).bend], SV.sl (nat_lit 3) p.marks.n fun (i : Nat) ↦ [SV.int .i64 (p.marks.g i).edge, SV.int .i64 (p.marks.g i).place, SV.int .i64 (p.marks.g i).tone]] (nat_lit 0) ∧ (p.gauges.n = p.gauges.n ∧ ∀ (i : Nat), i < p.gauges.n →
 setRow (fun (j : Nat) ↦ [SV.int .i64 (L.rsTo p s g j).edge.lo, SV.int .i64 (L.rsTo p s g j).edge.hi, SV.int .i64 (L.rsTo p s g j).across.lo, SV.int .i64 (L.rsTo p s g j).across.hi, SV.int .i64 (L.rsTo p s g j).bend]) (Int.toNat (L.ed s (↑p.gauges.n : Int) (↑g : Int))) (nat_lit 0) [SV.int .i64
 (p.gauges.g (Int.toNat (↑g : Int))).edge.lo, SV.int .i64 (p.gauges.g (Int.toNat (↑g : Int))).edge.hi, SV.int .i64 (p.gauges.g (Int.toNat (Int.tmod ((↑g : Int) + (↑p.gauges.n : Int) - (1 : Int)) (↑p.gauges.n : Int)))).across.lo, SV.int .i64 (p.gauges.g (Int.toNat (Int.tmod ((↑g : Int) + (↑p.gauges.n : Int) - (1 : Int)) (↑p.gauges.n :
 Int)))).across.hi, SV.int .i64 (p.gauges.g (Int.toNat (Int.tmod ((↑g : Int) + (↑p.gauges.n : Int) - (1 : Int)) (↑p.gauges.n : Int)))).bend] i = [SV.int .i64 (L.rsTo p s g' i).edge.lo, SV.int .i64 (L.rsTo p s g' i).edge.hi, SV.int .i64 (L.rsTo p s g' i).across.lo, SV.int .i64 (L.rsTo p s g' i).across.hi, SV.int
 .i64 (L.rsTo p s g' i).bend]) ∧ p.id = p.id ∧ p.colour = p.colour ∧ p.rev = p.rev ∧ p.made = p.made ∧ p.swell = p.swell ∧ (p.marks.n = p.marks.n ∧ ∀ (i : Nat), i < p.marks.n → [SV.int .i64 (p.marks.g i).edge, SV.int .i64 (p.marks.g i).place, SV.int .i64 (p.marks.g i).tone] = [SV.int .i64 (p.marks.g i).edge, SV.int
 .i64 (p.marks.g i).place, SV.int .i64 (p.marks.g i).tone]) ∧ (0 : Int) = (0 : Int) ∧ (0 : Int) = (0 : Int) ∧ (0 : Int) = (0 : Int) ∧ (0 : Int) = (0 : Int) ∧ (0 : Int) = (0 : Int) ∧ Value.slice Option.none (0 : Nat) (0 : Nat) = Value.slice Option.none (0 : Nat) (0 : Nat) ∧ Value.slice Option.none (0 : Nat) (0 : Nat) = Value.slice Option.none (0 : Nat) (0 : Nat)
 ∧ g' ≤ p.gauges.n ∧ p.gauges.n - g' < p.gauges.n - g) ∧ ((0 : Int) ≤ L.ed s (↑p.gauges.n : Int) (↑g : Int) ∧ L.ed s (↑p.gauges.n : Int) (↑g : Int) < (↑p.gauges.n : Int)) ∧ Int.toNat (L.ed s (↑p.gauges.n : Int) (↑g : Int)) < p.gauges.n ∧ InK .i64 ((↑g : Int) + (1 : Int)) ∧ ∃ (g' : Nat), (↑g : Int) + (1 : Int) = (↑g' : Int) ∧ (↑p.gauges.n : Int) = (↑p.gauges.n : Int) ∧ (p.gauges.n =
 p.gauges.n ∧ ∀ (i : Nat), i < p.gauges.n → [SV.int .i64 (p.gauges.g i).edge.lo, SV.int .i64 (p.gauges.g i).edge.hi, SV.int .i64 (p.gauges.g i).across.lo, SV.int .i64 (p.gauges.g i).across.hi, SV.int .i64 (p.gauges.g i).bend] = [SV.int .i64 (p.gauges.g i).edge.lo, SV.int .i64 (p.gauges.g
 i).edge.hi, SV.int .i64 (p.gauges.g i).across.lo, SV.int .i64 (p.gauges.g i).across.hi, SV.int .i64 (p.gauges.g i).bend]) ∧ nat_lit 0 = nat_lit 0 ∧ (↑p.gauges.n : Int) = (↑p.gauges.n : Int) ∧ nat_lit 0 = nat_lit 0 ∧ SV.ref [SV.int .i64 s.shift, SV.bool s.back] (nat_lit 0) = SV.ref [SV.int .i64
 s.shift, SV.bool s.back] (nat_lit 0) ∧ SV.ref [SV.int .i64 p.id, SV.int .i64 p.colour, SV.int .i64 p.rev, SV.int .i64 p.made, SV.int .i64 p.swell, SV.sl (nat_lit 5) p.gauges.n fun (i : Nat) ↦ [SV.int .i64 (p.gauges.g i).edge.lo, SV.int .i64 (p.gauges.g i).edge.hi,
 SV.int .i64 (p.gauges.g i).across.lo, SV.int .i64 (p.gauges.g i).across.hi, SV.int .i64 (p.gauges.g i).bend], SV.sl (nat_lit 3) p.marks.n fun (i : Nat) ↦ [SV.int .i64 (p.marks.g i).edge, SV.int .i64 (p.marks.g i).place, SV.int .i64 (p.marks.g i).tone]] (nat_lit 0) = SV.ref [SV.int
 .i64 p.id, SV.int .i64 p.colour, SV.int .i64 p.rev, SV.int .i64 p.made, SV.int .i64 p.swell, SV.sl (nat_lit 5) p.gauges.n fun (i : Nat) ↦ [SV.int .i64 (p.gauges.g i).edge.lo, SV.int .i64 (p.gauges.g i).edge.hi, SV.int .i64 (p.gauges.g i).across.lo, SV.int
 .i64 (p.gauges.g i).across.hi, SV.int .i64 (p.gauges.g i).bend], SV.sl (nat_lit 3) p.marks.n fun (i : Nat) ↦ [SV.int .i64 (p.marks.g i).edge, SV.int .i64 (p.marks.g i).place, SV.int .i64 (p.marks.g i).tone]] (nat_lit 0) ∧ (p.gauges.n = p.gauges.n ∧ ∀ (i : Nat), i < p.gauges.n → setRow (fun (j : Nat) ↦
 [SV.int .i64 (L.rsTo p s g j).edge.lo, SV.int .i64 (L.rsTo p s g j).edge.hi, SV.int .i64 (L.rsTo p s g j).across.lo, SV.int .i64 (L.rsTo p s g j).across.hi, SV.int .i64 (L.rsTo p s g j).bend]) (Int.toNat (L.ed s (↑p.gauges.n : Int) (↑g : Int))) (nat_lit 0) [SV.int .i64 (p.gauges.g (Int.toNat (↑g :
 Int))).edge.lo, SV.int .i64 (p.gauges.g (Int.toNat (↑g : Int))).edge.hi, SV.int .i64 (p.gauges.g (Int.toNat (Int.tmod ((↑g : Int) + (↑p.gauges.n : Int) - (1 : Int)) (↑p.gauges.n : Int)))).across.lo, SV.int .i64 (p.gauges.g (Int.toNat (Int.tmod ((↑g : Int) + (↑p.gauges.n : Int) - (1 : Int)) (↑p.gauges.n : Int)))).across.hi, SV.int .i64
 (p.gauges.g (Int.toNat (Int.tmod ((↑g : Int) + (↑p.gauges.n : Int) - (1 : Int)) (↑p.gauges.n : Int)))).bend] i = [SV.int .i64 (L.rsTo p s g' i).edge.lo, SV.int .i64 (L.rsTo p s g' i).edge.hi, SV.int .i64 (L.rsTo p s g' i).across.lo, SV.int .i64 (L.rsTo p s g' i).across.hi, SV.int .i64 (L.rsTo p s g' i).bend]) ∧ p.id =
 p.id ∧ p.colour = p.colour ∧ p.rev = p.rev ∧ p.made = p.made ∧ p.swell = p.swell ∧ (p.marks.n = p.marks.n ∧ ∀ (i : Nat), i < p.marks.n → [SV.int .i64 (p.marks.g i).edge, SV.int .i64 (p.marks.g i).place, SV.int .i64 (p.marks.g i).tone] = [SV.int .i64 (p.marks.g i).edge, SV.int .i64 (p.marks.g i).place, SV.int
 .i64 (p.marks.g i).tone]) ∧ (0 : Int) = (0 : Int) ∧ (0 : Int) = (0 : Int) ∧ (0 : Int) = (0 : Int) ∧ (0 : Int) = (0 : Int) ∧ (0 : Int) = (0 : Int) ∧ Value.slice Option.none (0 : Nat) (0 : Nat) = Value.slice Option.none (0 : Nat) (0 : Nat) ∧ Value.slice Option.none (0 : Nat) (0 : Nat) = Value.slice Option.none (0 : Nat) (0 : Nat) ∧ g' ≤ p.gauges.n ∧ p.gauges.n - g' < p.gauges.n
 - g) ∧ ((((0 : Int) ≤ L.ed s (↑p.gauges.n : Int) (↑g : Int) ∧ L.ed s (↑p.gauges.n : Int) (↑g : Int) < (↑p.gauges.n : Int)) ∧ Int.toNat (L.ed s (↑p.gauges.n : Int) (↑g : Int)) < p.gauges.n ∧ InK .i64 ((↑g : Int) + (1 : Int)) ∧ ∃ (g' : Nat), (↑g : Int) + (1 : Int) = (↑g' : Int) ∧ (↑p.gauges.n : Int) = (↑p.gauges.n : Int) ∧ (p.gauges.n = p.gauges.n ∧ ∀ (i : Nat), i < p.gauges.n →
 [SV.int .i64 (p.gauges.g i).edge.lo, SV.int .i64 (p.gauges.g i).edge.hi, SV.int .i64 (p.gauges.g i).across.lo, SV.int .i64 (p.gauges.g i).across.hi, SV.int .i64 (p.gauges.g i).bend] = [SV.int .i64 (p.gauges.g i).edge.lo, SV.int .i64 (p.gauges.g i).edge.hi, SV.int .i64
 (p.gauges.g i).across.lo, SV.int .i64 (p.gauges.g i).across.hi, SV.int .i64 (p.gauges.g i).bend]) ∧ nat_lit 0 = nat_lit 0 ∧ (↑p.gauges.n : Int) = (↑p.gauges.n : Int) ∧ nat_lit 0 = nat_lit 0 ∧ SV.ref [SV.int .i64 s.shift, SV.bool s.back] (nat_lit 0) = SV.ref [SV.int .i64 s.shift, SV.bool s.back] (nat_lit 0) ∧
 SV.ref [SV.int .i64 p.id, SV.int .i64 p.colour, SV.int .i64 p.rev, SV.int .i64 p.made, SV.int .i64 p.swell, SV.sl (nat_lit 5) p.gauges.n fun (i : Nat) ↦ [SV.int .i64 (p.gauges.g i).edge.lo, SV.int .i64 (p.gauges.g i).edge.hi, SV.int .i64 (p.gauges.g
 i).across.lo, SV.int .i64 (p.gauges.g i).across.hi, SV.int .i64 (p.gauges.g i).bend], SV.sl (nat_lit 3) p.marks.n fun (i : Nat) ↦ [SV.int .i64 (p.marks.g i).edge, SV.int .i64 (p.marks.g i).place, SV.int .i64 (p.marks.g i).tone]] (nat_lit 0) = SV.ref [SV.int .i64 p.id, SV.int
 .i64 p.colour, SV.int .i64 p.rev, SV.int .i64 p.made, SV.int .i64 p.swell, SV.sl (nat_lit 5) p.gauges.n fun (i : Nat) ↦ [SV.int .i64 (p.gauges.g i).edge.lo, SV.int .i64 (p.gauges.g i).edge.hi, SV.int .i64 (p.gauges.g i).across.lo, SV.int .i64 (p.gauges.g i).across.hi,
 SV.int .i64 (p.gauges.g i).bend], SV.sl (nat_lit 3) p.marks.n fun (i : Nat) ↦ [SV.int .i64 (p.marks.g i).edge, SV.int .i64 (p.marks.g i).place, SV.int .i64 (p.marks.g i).tone]] (nat_lit 0) ∧ (p.gauges.n = p.gauges.n ∧ ∀ (i : Nat), i < p.gauges.n → setRow (fun (j : Nat) ↦ [SV.int .i64 (L.rsTo p s g
 j).edge.lo, SV.int .i64 (L.rsTo p s g j).edge.hi, SV.int .i64 (L.rsTo p s g j).across.lo, SV.int .i64 (L.rsTo p s g j).across.hi, SV.int .i64 (L.rsTo p s g j).bend]) (Int.toNat (L.ed s (↑p.gauges.n : Int) (↑g : Int))) (nat_lit 0) [SV.int .i64 (p.gauges.g (Int.toNat (↑g : Int))).edge.lo, SV.int .i64
 (p.gauges.g (Int.toNat (↑g : Int))).edge.hi, SV.int .i64 (p.gauges.g (Int.toNat (Int.tmod ((↑g : Int) + (↑p.gauges.n : Int) - (1 : Int)) (↑p.gauges.n : Int)))).across.lo, SV.int .i64 (p.gauges.g (Int.toNat (Int.tmod ((↑g : Int) + (↑p.gauges.n : Int) - (1 : Int)) (↑p.gauges.n : Int)))).across.hi, SV.int .i64 (p.gauges.g (Int.toNat (Int.tmod ((↑g :
 Int) + (↑p.gauges.n : Int) - (1 : Int)) (↑p.gauges.n : Int)))).bend] i = [SV.int .i64 (L.rsTo p s g' i).edge.lo, SV.int .i64 (L.rsTo p s g' i).edge.hi, SV.int .i64 (L.rsTo p s g' i).across.lo, SV.int .i64 (L.rsTo p s g' i).across.hi, SV.int .i64 (L.rsTo p s g' i).bend]) ∧ p.id = p.id ∧ p.colour = p.colour ∧ p.rev =
 p.rev ∧ p.made = p.made ∧ p.swell = p.swell ∧ (p.marks.n = p.marks.n ∧ ∀ (i : Nat), i < p.marks.n → [SV.int .i64 (p.marks.g i).edge, SV.int .i64 (p.marks.g i).place, SV.int .i64 (p.marks.g i).tone] = [SV.int .i64 (p.marks.g i).edge, SV.int .i64 (p.marks.g i).place, SV.int .i64 (p.marks.g i).tone]) ∧ (0
 : Int) = (0 : Int) ∧ (0 : Int) = (0 : Int) ∧ (0 : Int) = (0 : Int) ∧ (0 : Int) = (0 : Int) ∧ (0 : Int) = (0 : Int) ∧ Value.slice Option.none (0 : Nat) (0 : Nat) = Value.slice Option.none (0 : Nat) (0 : Nat) ∧ Value.slice Option.none (0 : Nat) (0 : Nat) = Value.slice Option.none (0 : Nat) (0 : Nat) ∧ g' ≤ p.gauges.n ∧ p.gauges.n - g' < p.gauges.n - g) ∧ ((0 : Int) ≤ L.ed s (↑p.gauges.n
 : Int) (↑g : Int) ∧ L.ed s (↑p.gauges.n : Int) (↑g : Int) < (↑p.gauges.n : Int)) ∧ Int.toNat (L.ed s (↑p.gauges.n : Int) (↑g : Int)) < p.gauges.n ∧ InK .i64 ((↑g : Int) + (1 : Int)) ∧ ∃ (g' : Nat), (↑g : Int) + (1 : Int) = (↑g' : Int) ∧ (↑p.gauges.n : Int) = (↑p.gauges.n : Int) ∧ (p.gauges.n = p.gauges.n ∧ ∀ (i : Nat), i < p.gauges.n → [SV.int .i64 (p.gauges.g
 i).edge.lo, SV.int .i64 (p.gauges.g i).edge.hi, SV.int .i64 (p.gauges.g i).across.lo, SV.int .i64 (p.gauges.g i).across.hi, SV.int .i64 (p.gauges.g i).bend] = [SV.int .i64 (p.gauges.g i).edge.lo, SV.int .i64 (p.gauges.g i).edge.hi, SV.int .i64 (p.gauges.g i).across.lo, SV.int
 .i64 (p.gauges.g i).across.hi, SV.int .i64 (p.gauges.g i).bend]) ∧ nat_lit 0 = nat_lit 0 ∧ (↑p.gauges.n : Int) = (↑p.gauges.n : Int) ∧ nat_lit 0 = nat_lit 0 ∧ SV.ref [SV.int .i64 s.shift, SV.bool s.back] (nat_lit 0) = SV.ref [SV.int .i64 s.shift, SV.bool s.back] (nat_lit 0) ∧ SV.ref [SV.int .i64
 p.id, SV.int .i64 p.colour, SV.int .i64 p.rev, SV.int .i64 p.made, SV.int .i64 p.swell, SV.sl (nat_lit 5) p.gauges.n fun (i : Nat) ↦ [SV.int .i64 (p.gauges.g i).edge.lo, SV.int .i64 (p.gauges.g i).edge.hi, SV.int .i64 (p.gauges.g i).across.lo, SV.int .i64
 (p.gauges.g i).across.hi, SV.int .i64 (p.gauges.g i).bend], SV.sl (nat_lit 3) p.marks.n fun (i : Nat) ↦ [SV.int .i64 (p.marks.g i).edge, SV.int .i64 (p.marks.g i).place, SV.int .i64 (p.marks.g i).tone]] (nat_lit 0) = SV.ref [SV.int .i64 p.id, SV.int .i64 p.colour, SV.int .i64
 p.rev, SV.int .i64 p.made, SV.int .i64 p.swell, SV.sl (nat_lit 5) p.gauges.n fun (i : Nat) ↦ [SV.int .i64 (p.gauges.g i).edge.lo, SV.int .i64 (p.gauges.g i).edge.hi, SV.int .i64 (p.gauges.g i).across.lo, SV.int .i64 (p.gauges.g i).across.hi, SV.int .i64 (p.gauges.g i).bend],
 SV.sl (nat_lit 3) p.marks.n fun (i : Nat) ↦ [SV.int .i64 (p.marks.g i).edge, SV.int .i64 (p.marks.g i).place, SV.int .i64 (p.marks.g i).tone]] (nat_lit 0) ∧ (p.gauges.n = p.gauges.n ∧ ∀ (i : Nat), i < p.gauges.n → setRow (fun (j : Nat) ↦ [SV.int .i64 (L.rsTo p s g j).edge.lo, SV.int .i64 (L.rsTo p s g
 j).edge.hi, SV.int .i64 (L.rsTo p s g j).across.lo, SV.int .i64 (L.rsTo p s g j).across.hi, SV.int .i64 (L.rsTo p s g j).bend]) (Int.toNat (L.ed s (↑p.gauges.n : Int) (↑g : Int))) (nat_lit 0) [SV.int .i64 (p.gauges.g (Int.toNat (↑g : Int))).edge.lo, SV.int .i64 (p.gauges.g (Int.toNat (↑g : Int))).edge.hi, SV.int
 .i64 (p.gauges.g (Int.toNat (Int.tmod ((↑g : Int) + (↑p.gauges.n : Int) - (1 : Int)) (↑p.gauges.n : Int)))).across.lo, SV.int .i64 (p.gauges.g (Int.toNat (Int.tmod ((↑g : Int) + (↑p.gauges.n : Int) - (1 : Int)) (↑p.gauges.n : Int)))).across.hi, SV.int .i64 (p.gauges.g (Int.toNat (Int.tmod ((↑g : Int) + (↑p.gauges.n : Int) - (1 : Int)) (↑p.gauges.n :
 Int)))).bend] i = [SV.int .i64 (L.rsTo p s g' i).edge.lo, SV.int .i64 (L.rsTo p s g' i).edge.hi, SV.int .i64 (L.rsTo p s g' i).across.lo, SV.int .i64 (L.rsTo p s g' i).across.hi, SV.int .i64 (L.rsTo p s g' i).bend]) ∧ p.id = p.id ∧ p.colour = p.colour ∧ p.rev = p.rev ∧ p.made = p.made ∧ p.swell = p.swell ∧ (p.marks.n =
 p.marks.n ∧ ∀ (i : Nat), i < p.marks.n → [SV.int .i64 (p.marks.g i).edge, SV.int .i64 (p.marks.g i).place, SV.int .i64 (p.marks.g i).tone] = [SV.int .i64 (p.marks.g i).edge, SV.int .i64 (p.marks.g i).place, SV.int .i64 (p.marks.g i).tone]) ∧ (0 : Int) = (0 : Int) ∧ (0 : Int) = (0 : Int) ∧ (0 : Int) = (0
 : Int) ∧ (0 : Int) = (0 : Int) ∧ (0 : Int) = (0 : Int) ∧ Value.slice Option.none (0 : Nat) (0 : Nat) = Value.slice Option.none (0 : Nat) (0 : Nat) ∧ Value.slice Option.none (0 : Nat) (0 : Nat) = Value.slice Option.none (0 : Nat) (0 : Nat) ∧ g' ≤ p.gauges.n ∧ p.gauges.n - g' < p.gauges.n - g) ∧ ((0 : Int) ≤ L.ed s (↑p.gauges.n : Int) (↑g : Int) ∧ L.ed s (↑p.gauges.n : Int) (↑g : Int) <
 (↑p.gauges.n : Int)) ∧ Int.toNat (L.ed s (↑p.gauges.n : Int) (↑g : Int)) < p.gauges.n ∧ InK .i64 ((↑g : Int) + (1 : Int)) ∧ ∃ (g' : Nat), (↑g : Int) + (1 : Int) = (↑g' : Int) ∧ (↑p.gauges.n : Int) = (↑p.gauges.n : Int) ∧ (p.gauges.n = p.gauges.n ∧ ∀ (i : Nat), i < p.gauges.n → [SV.int .i64 (p.gauges.g i).edge.lo, SV.int .i64 (p.gauges.g i).edge.hi,
 SV.int .i64 (p.gauges.g i).across.lo, SV.int .i64 (p.gauges.g i).across.hi, SV.int .i64 (p.gauges.g i).bend] = [SV.int .i64 (p.gauges.g i).edge.lo, SV.int .i64 (p.gauges.g i).edge.hi, SV.int .i64 (p.gauges.g i).across.lo, SV.int .i64 (p.gauges.g i).across.hi, SV.int .i64
 (p.gauges.g i).bend]) ∧ nat_lit 0 = nat_lit 0 ∧ (↑p.gauges.n : Int) = (↑p.gauges.n : Int) ∧ nat_lit 0 = nat_lit 0 ∧ SV.ref [SV.int .i64 s.shift, SV.bool s.back] (nat_lit 0) = SV.ref [SV.int .i64 s.shift, SV.bool s.back] (nat_lit 0) ∧ SV.ref [SV.int .i64 p.id, SV.int .i64 p.colour, SV.int
 .i64 p.rev, SV.int .i64 p.made, SV.int .i64 p.swell, SV.sl (nat_lit 5) p.gauges.n fun (i : Nat) ↦ [SV.int .i64 (p.gauges.g i).edge.lo, SV.int .i64 (p.gauges.g i).edge.hi, SV.int .i64 (p.gauges.g i).across.lo, SV.int .i64 (p.gauges.g i).across.hi, SV.int .i64 (p.gauges.g
 i).bend], SV.sl (nat_lit 3) p.marks.n fun (i : Nat) ↦ [SV.int .i64 (p.marks.g i).edge, SV.int .i64 (p.marks.g i).place, SV.int .i64 (p.marks.g i).tone]] (nat_lit 0) = SV.ref [SV.int .i64 p.id, SV.int .i64 p.colour, SV.int .i64 p.rev, SV.int .i64 p.made, SV.int
 .i64 p.swell, SV.sl (nat_lit 5) p.gauges.n fun (i : Nat) ↦ [SV.int .i64 (p.gauges.g i).edge.lo, SV.int .i64 (p.gauges.g i).edge.hi, SV.int .i64 (p.gauges.g i).across.lo, SV.int .i64 (p.gauges.g i).across.hi, SV.int .i64 (p.gauges.g i).bend], SV.sl (nat_lit 3) p.marks.n fun (i : Nat) ↦
 [SV.int .i64 (p.marks.g i).edge, SV.int .i64 (p.marks.g i).place, SV.int .i64 (p.marks.g i).tone]] (nat_lit 0) ∧ (p.gauges.n = p.gauges.n ∧ ∀ (i : Nat), i < p.gauges.n → setRow (fun (j : Nat) ↦ [SV.int .i64 (L.rsTo p s g j).edge.lo, SV.int .i64 (L.rsTo p s g j).edge.hi, SV.int .i64 (L.rsTo p s g
 j).across.lo, SV.int .i64 (L.rsTo p s g j).across.hi, SV.int .i64 (L.rsTo p s g j).bend]) (Int.toNat (L.ed s (↑p.gauges.n : Int) (↑g : Int))) (nat_lit 0) [SV.int .i64 (p.gauges.g (Int.toNat (↑g : Int))).edge.lo, SV.int .i64 (p.gauges.g (Int.toNat (↑g : Int))).edge.hi, SV.int .i64 (p.gauges.g (Int.toNat (Int.tmod ((↑g :
 Int) + (↑p.gauges.n : Int) - (1 : Int)) (↑p.gauges.n : Int)))).across.lo, SV.int .i64 (p.gauges.g (Int.toNat (Int.tmod ((↑g : Int) + (↑p.gauges.n : Int) - (1 : Int)) (↑p.gauges.n : Int)))).across.hi, SV.int .i64 (p.gauges.g (Int.toNat (Int.tmod ((↑g : Int) + (↑p.gauges.n : Int) - (1 : Int)) (↑p.gauges.n : Int)))).bend] i = [SV.int .i64 (L.rsTo p s g'
 i).edge.lo, SV.int .i64 (L.rsTo p s g' i).edge.hi, SV.int .i64 (L.rsTo p s g' i).across.lo, SV.int .i64 (L.rsTo p s g' i).across.hi, SV.int .i64 (L.rsTo p s g' i).bend]) ∧ p.id = p.id ∧ p.colour = p.colour ∧ p.rev = p.rev ∧ p.made = p.made ∧ p.swell = p.swell ∧ (p.marks.n = p.marks.n ∧ ∀ (i : Nat), i < p.marks.n → [SV.int
 .i64 (p.marks.g i).edge, SV.int .i64 (p.marks.g i).place, SV.int .i64 (p.marks.g i).tone] = [SV.int .i64 (p.marks.g i).edge, SV.int .i64 (p.marks.g i).place, SV.int .i64 (p.marks.g i).tone]) ∧ (0 : Int) = (0 : Int) ∧ (0 : Int) = (0 : Int) ∧ (0 : Int) = (0 : Int) ∧ (0 : Int) = (0 : Int) ∧ (0 : Int) = (0 : Int)
 ∧ Value.slice Option.none (0 : Nat) (0 : Nat) = Value.slice Option.none (0 : Nat) (0 : Nat) ∧ Value.slice Option.none (0 : Nat) (0 : Nat) = Value.slice Option.none (0 : Nat) (0 : Nat) ∧ g' ≤ p.gauges.n ∧ p.gauges.n - g' < p.gauges.n - g) ∧ ((((0 : Int) ≤ L.ed s (↑p.gauges.n : Int) (↑g : Int) ∧ L.ed s (↑p.gauges.n : Int) (↑g : Int) < (↑p.gauges.n : Int)) ∧ Int.toNat (L.ed s (↑p.gauges.n
 : Int) (↑g : Int)) < p.gauges.n ∧ InK .i64 ((↑g : Int) + (1 : Int)) ∧ ∃ (g' : Nat), (↑g : Int) + (1 : Int) = (↑g' : Int) ∧ (↑p.gauges.n : Int) = (↑p.gauges.n : Int) ∧ (p.gauges.n = p.gauges.n ∧ ∀ (i : Nat), i < p.gauges.n → [SV.int .i64 (p.gauges.g i).edge.lo, SV.int .i64 (p.gauges.g i).edge.hi, SV.int .i64 (p.gauges.g i).across.lo,
 SV.int .i64 (p.gauges.g i).across.hi, SV.int .i64 (p.gauges.g i).bend] = [SV.int .i64 (p.gauges.g i).edge.lo, SV.int .i64 (p.gauges.g i).edge.hi, SV.int .i64 (p.gauges.g i).across.lo, SV.int .i64 (p.gauges.g i).across.hi, SV.int .i64 (p.gauges.g i).bend]) ∧ nat_lit 0 = nat_lit 0 ∧
 (↑p.gauges.n : Int) = (↑p.gauges.n : Int) ∧ nat_lit 0 = nat_lit 0 ∧ SV.ref [SV.int .i64 s.shift, SV.bool s.back] (nat_lit 0) = SV.ref [SV.int .i64 s.shift, SV.bool s.back] (nat_lit 0) ∧ SV.ref [SV.int .i64 p.id, SV.int .i64 p.colour, SV.int .i64 p.rev, SV.int .i64 p.made,
 SV.int .i64 p.swell, SV.sl (nat_lit 5) p.gauges.n fun (i : Nat) ↦ [SV.int .i64 (p.gauges.g i).edge.lo, SV.int .i64 (p.gauges.g i).edge.hi, SV.int .i64 (p.gauges.g i).across.lo, SV.int .i64 (p.gauges.g i).across.hi, SV.int .i64 (p.gauges.g i).bend], SV.sl (nat_lit 3) p.marks.n fun (i : Nat) ↦
 [SV.int .i64 (p.marks.g i).edge, SV.int .i64 (p.marks.g i).place, SV.int .i64 (p.marks.g i).tone]] (nat_lit 0) = SV.ref [SV.int .i64 p.id, SV.int .i64 p.colour, SV.int .i64 p.rev, SV.int .i64 p.made, SV.int .i64 p.swell, SV.sl (nat_lit 5) p.gauges.n fun (i :
 Nat) ↦ [SV.int .i64 (p.gauges.g i).edge.lo, SV.int .i64 (p.gauges.g i).edge.hi, SV.int .i64 (p.gauges.g i).across.lo, SV.int .i64 (p.gauges.g i).across.hi, SV.int .i64 (p.gauges.g i).bend], SV.sl (nat_lit 3) p.marks.n fun (i : Nat) ↦ [SV.int .i64 (p.marks.g i).edge, SV.int .i64
 (p.marks.g i).place, SV.int .i64 (p.marks.g i).tone]] (nat_lit 0) ∧ (p.gauges.n = p.gauges.n ∧ ∀ (i : Nat), i < p.gauges.n → setRow (fun (j : Nat) ↦ [SV.int .i64 (L.rsTo p s g j).edge.lo, SV.int .i64 (L.rsTo p s g j).edge.hi, SV.int .i64 (L.rsTo p s g j).across.lo, SV.int .i64 (L.rsTo p s g j).across.hi,
 SV.int .i64 (L.rsTo p s g j).bend]) (Int.toNat (L.ed s (↑p.gauges.n : Int) (↑g : Int))) (nat_lit 0) [SV.int .i64 (p.gauges.g (Int.toNat (↑g : Int))).edge.lo, SV.int .i64 (p.gauges.g (Int.toNat (↑g : Int))).edge.hi, SV.int .i64 (p.gauges.g (Int.toNat (Int.tmod ((↑g : Int) + (↑p.gauges.n : Int) - (1 : Int)) (↑p.gauges.n :
 Int)))).across.lo, SV.int .i64 (p.gauges.g (Int.toNat (Int.tmod ((↑g : Int) + (↑p.gauges.n : Int) - (1 : Int)) (↑p.gauges.n : Int)))).across.hi, SV.int .i64 (p.gauges.g (Int.toNat (Int.tmod ((↑g : Int) + (↑p.gauges.n : Int) - (1 : Int)) (↑p.gauges.n : Int)))).bend] i = [SV.int .i64 (L.rsTo p s g' i).edge.lo, SV.int .i64 (L.rsTo p s g'
 i).edge.hi, SV.int .i64 (L.rsTo p s g' i).across.lo, SV.int .i64 (L.rsTo p s g' i).across.hi, SV.int .i64 (L.rsTo p s g' i).bend]) ∧ p.id = p.id ∧ p.colour = p.colour ∧ p.rev = p.rev ∧ p.made = p.made ∧ p.swell = p.swell ∧ (p.marks.n = p.marks.n ∧ ∀ (i : Nat), i < p.marks.n → [SV.int .i64 (p.marks.g i).edge, SV.int
 .i64 (p.marks.g i).place, SV.int .i64 (p.marks.g i).tone] = [SV.int .i64 (p.marks.g i).edge, SV.int .i64 (p.marks.g i).place, SV.int .i64 (p.marks.g i).tone]) ∧ (0 : Int) = (0 : Int) ∧ (0 : Int) = (0 : Int) ∧ (0 : Int) = (0 : Int) ∧ (0 : Int) = (0 : Int) ∧ (0 : Int) = (0 : Int) ∧ Value.slice Option.none (0 : Nat) (0 :
 Nat) = Value.slice Option.none (0 : Nat) (0 : Nat) ∧ Value.slice Option.none (0 : Nat) (0 : Nat) = Value.slice Option.none (0 : Nat) (0 : Nat) ∧ g' ≤ p.gauges.n ∧ p.gauges.n - g' < p.gauges.n - g) ∧ (((0 : Int) ≤ L.ed s (↑p.gauges.n : Int) (↑g : Int) ∧ L.ed s (↑p.gauges.n : Int) (↑g : Int) < (↑p.gauges.n : Int)) ∧ Int.toNat (L.ed s (↑p.gauges.n : Int) (↑g : Int)) < p.gauges.n ∧ InK
 .i64 ((↑g : Int) + (1 : Int)) ∧ ∃ (g' : Nat), (↑g : Int) + (1 : Int) = (↑g' : Int) ∧ (↑p.gauges.n : Int) = (↑p.gauges.n : Int) ∧ (p.gauges.n = p.gauges.n ∧ ∀ (i : Nat), i < p.gauges.n → [SV.int .i64 (p.gauges.g i).edge.lo, SV.int .i64 (p.gauges.g i).edge.hi, SV.int .i64 (p.gauges.g i).across.lo, SV.int .i64 (p.gauges.g
 i).across.hi, SV.int .i64 (p.gauges.g i).bend] = [SV.int .i64 (p.gauges.g i).edge.lo, SV.int .i64 (p.gauges.g i).edge.hi, SV.int .i64 (p.gauges.g i).across.lo, SV.int .i64 (p.gauges.g i).across.hi, SV.int .i64 (p.gauges.g i).bend]) ∧ nat_lit 0 = nat_lit 0 ∧ (↑p.gauges.n : Int) = (↑p.gauges.n : Int) ∧
 nat_lit 0 = nat_lit 0 ∧ SV.ref [SV.int .i64 s.shift, SV.bool s.back] (nat_lit 0) = SV.ref [SV.int .i64 s.shift, SV.bool s.back] (nat_lit 0) ∧ SV.ref [SV.int .i64 p.id, SV.int .i64 p.colour, SV.int .i64 p.rev, SV.int .i64 p.made, SV.int .i64 p.swell,
 SV.sl (nat_lit 5) p.gauges.n fun (i : Nat) ↦ [SV.int .i64 (p.gauges.g i).edge.lo, SV.int .i64 (p.gauges.g i).edge.hi, SV.int .i64 (p.gauges.g i).across.lo, SV.int .i64 (p.gauges.g i).across.hi, SV.int .i64 (p.gauges.g i).bend], SV.sl (nat_lit 3) p.marks.n fun (i : Nat) ↦ [SV.int .i64
 (p.marks.g i).edge, SV.int .i64 (p.marks.g i).place, SV.int .i64 (p.marks.g i).tone]] (nat_lit 0) = SV.ref [SV.int .i64 p.id, SV.int .i64 p.colour, SV.int .i64 p.rev, SV.int .i64 p.made, SV.int .i64 p.swell, SV.sl (nat_lit 5) p.gauges.n fun (i : Nat) ↦ [SV.int
 .i64 (p.gauges.g i).edge.lo, SV.int .i64 (p.gauges.g i).edge.hi, SV.int .i64 (p.gauges.g i).across.lo, SV.int .i64 (p.gauges.g i).across.hi, SV.int .i64 (p.gauges.g i).bend], SV.sl (nat_lit 3) p.marks.n fun (i : Nat) ↦ [SV.int .i64 (p.marks.g i).edge, SV.int .i64 (p.marks.g i).place,
 SV.int .i64 (p.marks.g i).tone]] (nat_lit 0) ∧ (p.gauges.n = p.gauges.n ∧ ∀ (i : Nat), i < p.gauges.n → setRow (fun (j : Nat) ↦ [SV.int .i64 (L.rsTo p s g j).edge.lo, SV.int .i64 (L.rsTo p s g j).edge.hi, SV.int .i64 (L.rsTo p s g j).across.lo, SV.int .i64 (L.rsTo p s g j).across.hi, SV.int .i64
 (L.rsTo p s g j).bend]) (Int.toNat (L.ed s (↑p.gauges.n : Int) (↑g : Int))) (nat_lit 0) [SV.int .i64 (p.gauges.g (Int.toNat (↑g : Int))).edge.lo, SV.int .i64 (p.gauges.g (Int.toNat (↑g : Int))).edge.hi, SV.int .i64 (p.gauges.g (Int.toNat (Int.tmod ((↑g : Int) + (↑p.gauges.n : Int) - (1 : Int)) (↑p.gauges.n : Int)))).across.lo, SV.int
 .i64 (p.gauges.g (Int.toNat (Int.tmod ((↑g : Int) + (↑p.gauges.n : Int) - (1 : Int)) (↑p.gauges.n : Int)))).across.hi, SV.int .i64 (p.gauges.g (Int.toNat (Int.tmod ((↑g : Int) + (↑p.gauges.n : Int) - (1 : Int)) (↑p.gauges.n : Int)))).bend] i = [SV.int .i64 (L.rsTo p s g' i).edge.lo, SV.int .i64 (L.rsTo p s g' i).edge.hi, SV.int
 .i64 (L.rsTo p s g' i).across.lo, SV.int .i64 (L.rsTo p s g' i).across.hi, SV.int .i64 (L.rsTo p s g' i).bend]) ∧ p.id = p.id ∧ p.colour = p.colour ∧ p.rev = p.rev ∧ p.made = p.made ∧ p.swell = p.swell ∧ (p.marks.n = p.marks.n ∧ ∀ (i : Nat), i < p.marks.n → [SV.int .i64 (p.marks.g i).edge, SV.int .i64 (p.marks.g i).place,
 SV.int .i64 (p.marks.g i).tone] = [SV.int .i64 (p.marks.g i).edge, SV.int .i64 (p.marks.g i).place, SV.int .i64 (p.marks.g i).tone]) ∧ (0 : Int) = (0 : Int) ∧ (0 : Int) = (0 : Int) ∧ (0 : Int) = (0 : Int) ∧ (0 : Int) = (0 : Int) ∧ (0 : Int) = (0 : Int) ∧ Value.slice Option.none (0 : Nat) (0 : Nat) = Value.slice Option.none (0 :
 Nat) (0 : Nat) ∧ Value.slice Option.none (0 : Nat) (0 : Nat) = Value.slice Option.none (0 : Nat) (0 : Nat) ∧ g' ≤ p.gauges.n ∧ p.gauges.n - g' < p.gauges.n - g) ∧ ((0 : Int) ≤ L.ed s (↑p.gauges.n : Int) (↑g : Int) ∧ L.ed s (↑p.gauges.n : Int) (↑g : Int) < (↑p.gauges.n : Int)) ∧ Int.toNat (L.ed s (↑p.gauges.n : Int) (↑g : Int)) < p.gauges.n ∧ InK .i64 ((↑g : Int) + (1 : Int))
 ∧ ∃ (g' : Nat), (↑g : Int) + (1 : Int) = (↑g' : Int) ∧ (↑p.gauges.n : Int) = (↑p.gauges.n : Int) ∧ (p.gauges.n = p.gauges.n ∧ ∀ (i : Nat), i < p.gauges.n → [SV.int .i64 (p.gauges.g i).edge.lo, SV.int .i64 (p.gauges.g i).edge.hi, SV.int .i64 (p.gauges.g i).across.lo, SV.int .i64 (p.gauges.g i).across.hi, SV.int .i64
 (p.gauges.g i).bend] = [SV.int .i64 (p.gauges.g i).edge.lo, SV.int .i64 (p.gauges.g i).edge.hi, SV.int .i64 (p.gauges.g i).across.lo, SV.int .i64 (p.gauges.g i).across.hi, SV.int .i64 (p.gauges.g i).bend]) ∧ nat_lit 0 = nat_lit 0 ∧ (↑p.gauges.n : Int) = (↑p.gauges.n : Int) ∧ nat_lit 0 = nat_lit 0 ∧ SV.ref
 [SV.int .i64 s.shift, SV.bool s.back] (nat_lit 0) = SV.ref [SV.int .i64 s.shift, SV.bool s.back] (nat_lit 0) ∧ SV.ref [SV.int .i64 p.id, SV.int .i64 p.colour, SV.int .i64 p.rev, SV.int .i64 p.made, SV.int .i64 p.swell, SV.sl (nat_lit 5) p.gauges.n fun (i :
 Nat) ↦ [SV.int .i64 (p.gauges.g i).edge.lo, SV.int .i64 (p.gauges.g i).edge.hi, SV.int .i64 (p.gauges.g i).across.lo, SV.int .i64 (p.gauges.g i).across.hi, SV.int .i64 (p.gauges.g i).bend], SV.sl (nat_lit 3) p.marks.n fun (i : Nat) ↦ [SV.int .i64 (p.marks.g i).edge, SV.int .i64
 (p.marks.g i).place, SV.int .i64 (p.marks.g i).tone]] (nat_lit 0) = SV.ref [SV.int .i64 p.id, SV.int .i64 p.colour, SV.int .i64 p.rev, SV.int .i64 p.made, SV.int .i64 p.swell, SV.sl (nat_lit 5) p.gauges.n fun (i : Nat) ↦ [SV.int .i64 (p.gauges.g i).edge.lo, SV.int
 .i64 (p.gauges.g i).edge.hi, SV.int .i64 (p.gauges.g i).across.lo, SV.int .i64 (p.gauges.g i).across.hi, SV.int .i64 (p.gauges.g i).bend], SV.sl (nat_lit 3) p.marks.n fun (i : Nat) ↦ [SV.int .i64 (p.marks.g i).edge, SV.int .i64 (p.marks.g i).place, SV.int .i64 (p.marks.g i).tone]]
 (nat_lit 0) ∧ (p.gauges.n = p.gauges.n ∧ ∀ (i : Nat), i < p.gauges.n → setRow (fun (j : Nat) ↦ [SV.int .i64 (L.rsTo p s g j).edge.lo, SV.int .i64 (L.rsTo p s g j).edge.hi, SV.int .i64 (L.rsTo p s g j).across.lo, SV.int .i64 (L.rsTo p s g j).across.hi, SV.int .i64 (L.rsTo p s g j).bend]) (Int.toNat (L.ed s
 (↑p.gauges.n : Int) (↑g : Int))) (nat_lit 0) [SV.int .i64 (p.gauges.g (Int.toNat (↑g : Int))).edge.lo, SV.int .i64 (p.gauges.g (Int.toNat (↑g : Int))).edge.hi, SV.int .i64 (p.gauges.g (Int.toNat (Int.tmod ((↑g : Int) + (↑p.gauges.n : Int) - (1 : Int)) (↑p.gauges.n : Int)))).across.lo, SV.int .i64 (p.gauges.g (Int.toNat (Int.tmod ((↑g
 : Int) + (↑p.gauges.n : Int) - (1 : Int)) (↑p.gauges.n : Int)))).across.hi, SV.int .i64 (p.gauges.g (Int.toNat (Int.tmod ((↑g : Int) + (↑p.gauges.n : Int) - (1 : Int)) (↑p.gauges.n : Int)))).bend] i = [SV.int .i64 (L.rsTo p s g' i).edge.lo, SV.int .i64 (L.rsTo p s g' i).edge.hi, SV.int .i64 (L.rsTo p s g' i).across.lo, SV.int
 .i64 (L.rsTo p s g' i).across.hi, SV.int .i64 (L.rsTo p s g' i).bend]) ∧ p.id = p.id ∧ p.colour = p.colour ∧ p.rev = p.rev ∧ p.made = p.made ∧ p.swell = p.swell ∧ (p.marks.n = p.marks.n ∧ ∀ (i : Nat), i < p.marks.n → [SV.int .i64 (p.marks.g i).edge, SV.int .i64 (p.marks.g i).place, SV.int .i64 (p.marks.g i).tone] =
 [SV.int .i64 (p.marks.g i).edge, SV.int .i64 (p.marks.g i).place, SV.int .i64 (p.marks.g i).tone]) ∧ (0 : Int) = (0 : Int) ∧ (0 : Int) = (0 : Int) ∧ (0 : Int) = (0 : Int) ∧ (0 : Int) = (0 : Int) ∧ (0 : Int) = (0 : Int) ∧ Value.slice Option.none (0 : Nat) (0 : Nat) = Value.slice Option.none (0 : Nat) (0 : Nat) ∧ Value.slice Option.none (0 :
 Nat) (0 : Nat) = Value.slice Option.none (0 : Nat) (0 : Nat) ∧ g' ≤ p.gauges.n ∧ p.gauges.n - g' < p.gauges.n - g) ∧ ((0 : Int) ≤ L.ed s (↑p.gauges.n : Int) (↑g : Int) ∧ L.ed s (↑p.gauges.n : Int) (↑g : Int) < (↑p.gauges.n : Int)) ∧ Int.toNat (L.ed s (↑p.gauges.n : Int) (↑g : Int)) < p.gauges.n ∧ InK .i64 ((↑g : Int) + (1 : Int)) ∧ ∃ (g' : Nat), (↑g : Int) + (1 : Int) = (↑g' :
 Int) ∧ (↑p.gauges.n : Int) = (↑p.gauges.n : Int) ∧ (p.gauges.n = p.gauges.n ∧ ∀ (i : Nat), i < p.gauges.n → [SV.int .i64 (p.gauges.g i).edge.lo, SV.int .i64 (p.gauges.g i).edge.hi, SV.int .i64 (p.gauges.g i).across.lo, SV.int .i64 (p.gauges.g i).across.hi, SV.int .i64 (p.gauges.g i).bend] = [SV.int .i64
 (p.gauges.g i).edge.lo, SV.int .i64 (p.gauges.g i).edge.hi, SV.int .i64 (p.gauges.g i).across.lo, SV.int .i64 (p.gauges.g i).across.hi, SV.int .i64 (p.gauges.g i).bend]) ∧ nat_lit 0 = nat_lit 0 ∧ (↑p.gauges.n : Int) = (↑p.gauges.n : Int) ∧ nat_lit 0 = nat_lit 0 ∧ SV.ref [SV.int .i64 s.shift, SV.bool s.back]
 (nat_lit 0) = SV.ref [SV.int .i64 s.shift, SV.bool s.back] (nat_lit 0) ∧ SV.ref [SV.int .i64 p.id, SV.int .i64 p.colour, SV.int .i64 p.rev, SV.int .i64 p.made, SV.int .i64 p.swell, SV.sl (nat_lit 5) p.gauges.n fun (i : Nat) ↦ [SV.int .i64 (p.gauges.g i).edge.lo,
 SV.int .i64 (p.gauges.g i).edge.hi, SV.int .i64 (p.gauges.g i).across.lo, SV.int .i64 (p.gauges.g i).across.hi, SV.int .i64 (p.gauges.g i).bend], SV.sl (nat_lit 3) p.marks.n fun (i : Nat) ↦ [SV.int .i64 (p.marks.g i).edge, SV.int .i64 (p.marks.g i).place, SV.int .i64 (p.marks.g
 i).tone]] (nat_lit 0) = SV.ref [SV.int .i64 p.id, SV.int .i64 p.colour, SV.int .i64 p.rev, SV.int .i64 p.made, SV.int .i64 p.swell, SV.sl (nat_lit 5) p.gauges.n fun (i : Nat) ↦ [SV.int .i64 (p.gauges.g i).edge.lo, SV.int .i64 (p.gauges.g i).edge.hi, SV.int
 .i64 (p.gauges.g i).across.lo, SV.int .i64 (p.gauges.g i).across.hi, SV.int .i64 (p.gauges.g i).bend], SV.sl (nat_lit 3) p.marks.n fun (i : Nat) ↦ [SV.int .i64 (p.marks.g i).edge, SV.int .i64 (p.marks.g i).place, SV.int .i64 (p.marks.g i).tone]] (nat_lit 0) ∧ (p.gauges.n = p.gauges.n ∧ ∀ (i : Nat), i <
 p.gauges.n → setRow (fun (j : Nat) ↦ [SV.int .i64 (L.rsTo p s g j).edge.lo, SV.int .i64 (L.rsTo p s g j).edge.hi, SV.int .i64 (L.rsTo p s g j).across.lo, SV.int .i64 (L.rsTo p s g j).across.hi, SV.int .i64 (L.rsTo p s g j).bend]) (Int.toNat (L.ed s (↑p.gauges.n : Int) (↑g : Int))) (nat_lit 0) [SV.int
 .i64 (p.gauges.g (Int.toNat (↑g : Int))).edge.lo, SV.int .i64 (p.gauges.g (Int.toNat (↑g : Int))).edge.hi, SV.int .i64 (p.gauges.g (Int.toNat (Int.tmod ((↑g : Int) + (↑p.gauges.n : Int) - (1 : Int)) (↑p.gauges.n : Int)))).across.lo, SV.int .i64 (p.gauges.g (Int.toNat (Int.tmod ((↑g : Int) + (↑p.gauges.n : Int) - (1 : Int)) (↑p.gauges.n :
 Int)))).across.hi, SV.int .i64 (p.gauges.g (Int.toNat (Int.tmod ((↑g : Int) + (↑p.gauges.n : Int) - (1 : Int)) (↑p.gauges.n : Int)))).bend] i = [SV.int .i64 (L.rsTo p s g' i).edge.lo, SV.int .i64 (L.rsTo p s g' i).edge.hi, SV.int .i64 (L.rsTo p s g' i).across.lo, SV.int .i64 (L.rsTo p s g' i).across.hi, SV.int
 .i64 (L.rsTo p s g' i).bend]) ∧ p.id = p.id ∧ p.colour = p.colour ∧ p.rev = p.rev ∧ p.made = p.made ∧ p.swell = p.swell ∧ (p.marks.n = p.marks.n ∧ ∀ (i : Nat), i < p.marks.n → [SV.int .i64 (p.marks.g i).edge, SV.int .i64 (p.marks.g i).place, SV.int .i64 (p.marks.g i).tone] = [SV.int .i64 (p.marks.g i).edge, SV.int
 .i64 (p.marks.g i).place, SV.int .i64 (p.marks.g i).tone]) ∧ (0 : Int) = (0 : Int) ∧ (0 : Int) = (0 : Int) ∧ (0 : Int) = (0 : Int) ∧ (0 : Int) = (0 : Int) ∧ (0 : Int) = (0 : Int) ∧ Value.slice Option.none (0 : Nat) (0 : Nat) = Value.slice Option.none (0 : Nat) (0 : Nat) ∧ Value.slice Option.none (0 : Nat) (0 : Nat) = Value.slice Option.none (0 : Nat) (0 : Nat)
 ∧ g' ≤ p.gauges.n ∧ p.gauges.n - g' < p.gauges.n - g) ∧ (((((0 : Int) ≤ L.ed s (↑p.gauges.n : Int) (↑g : Int) ∧ L.ed s (↑p.gauges.n : Int) (↑g : Int) < (↑p.gauges.n : Int)) ∧ Int.toNat (L.ed s (↑p.gauges.n : Int) (↑g : Int)) < p.gauges.n ∧ InK .i64 ((↑g : Int) + (1 : Int)) ∧ ∃ (g' : Nat), (↑g : Int) + (1 : Int) = (↑g' : Int) ∧ (↑p.gauges.n : Int) = (↑p.gauges.n : Int) ∧ (p.gauges.n
 = p.gauges.n ∧ ∀ (i : Nat), i < p.gauges.n → [SV.int .i64 (p.gauges.g i).edge.lo, SV.int .i64 (p.gauges.g i).edge.hi, SV.int .i64 (p.gauges.g i).across.lo, SV.int .i64 (p.gauges.g i).across.hi, SV.int .i64 (p.gauges.g i).bend] = [SV.int .i64 (p.gauges.g i).edge.lo, SV.int .i64
 (p.gauges.g i).edge.hi, SV.int .i64 (p.gauges.g i).across.lo, SV.int .i64 (p.gauges.g i).across.hi, SV.int .i64 (p.gauges.g i).bend]) ∧ nat_lit 0 = nat_lit 0 ∧ (↑p.gauges.n : Int) = (↑p.gauges.n : Int) ∧ nat_lit 0 = nat_lit 0 ∧ SV.ref [SV.int .i64 s.shift, SV.bool s.back] (nat_lit 0) = SV.ref [SV.int
 .i64 s.shift, SV.bool s.back] (nat_lit 0) ∧ SV.ref [SV.int .i64 p.id, SV.int .i64 p.colour, SV.int .i64 p.rev, SV.int .i64 p.made, SV.int .i64 p.swell, SV.sl (nat_lit 5) p.gauges.n fun (i : Nat) ↦ [SV.int .i64 (p.gauges.g i).edge.lo, SV.int .i64 (p.gauges.g
 i).edge.hi, SV.int .i64 (p.gauges.g i).across.lo, SV.int .i64 (p.gauges.g i).across.hi, SV.int .i64 (p.gauges.g i).bend], SV.sl (nat_lit 3) p.marks.n fun (i : Nat) ↦ [SV.int .i64 (p.marks.g i).edge, SV.int .i64 (p.marks.g i).place, SV.int .i64 (p.marks.g i).tone]] (nat_lit 0) = SV.ref
 [SV.int .i64 p.id, SV.int .i64 p.colour, SV.int .i64 p.rev, SV.int .i64 p.made, SV.int .i64 p.swell, SV.sl (nat_lit 5) p.gauges.n fun (i : Nat) ↦ [SV.int .i64 (p.gauges.g i).edge.lo, SV.int .i64 (p.gauges.g i).edge.hi, SV.int .i64 (p.gauges.g i).across.lo,
 SV.int .i64 (p.gauges.g i).across.hi, SV.int .i64 (p.gauges.g i).bend], SV.sl (nat_lit 3) p.marks.n fun (i : Nat) ↦ [SV.int .i64 (p.marks.g i).edge, SV.int .i64 (p.marks.g i).place, SV.int .i64 (p.marks.g i).tone]] (nat_lit 0) ∧ (p.gauges.n = p.gauges.n ∧ ∀ (i : Nat), i < p.gauges.n → setRow (fun (j : Nat)
 ↦ [SV.int .i64 (L.rsTo p s g j).edge.lo, SV.int .i64 (L.rsTo p s g j).edge.hi, SV.int .i64 (L.rsTo p s g j).across.lo, SV.int .i64 (L.rsTo p s g j).across.hi, SV.int .i64 (L.rsTo p s g j).bend]) (Int.toNat (L.ed s (↑p.gauges.n : Int) (↑g : Int))) (nat_lit 0) [SV.int .i64 (p.gauges.g (Int.toNat (↑g :
 Int))).edge.lo, SV.int .i64 (p.gauges.g (Int.toNat (↑g : Int))).edge.hi, SV.int .i64 (p.gauges.g (Int.toNat (Int.tmod ((↑g : Int) + (↑p.gauges.n : Int) - (1 : Int)) (↑p.gauges.n : Int)))).across.lo, SV.int .i64 (p.gauges.g (Int.toNat (Int.tmod ((↑g : Int) + (↑p.gauges.n : Int) - (1 : Int)) (↑p.gauges.n : Int)))).across.hi, SV.int .i64
 (p.gauges.g (Int.toNat (Int.tmod ((↑g : Int) + (↑p.gauges.n : Int) - (1 : Int)) (↑p.gauges.n : Int)))).bend] i = [SV.int .i64 (L.rsTo p s g' i).edge.lo, SV.int .i64 (L.rsTo p s g' i).edge.hi, SV.int .i64 (L.rsTo p s g' i).across.lo, SV.int .i64 (L.rsTo p s g' i).across.hi, SV.int .i64 (L.rsTo p s g' i).bend]) ∧ p.id =
 p.id ∧ p.colour = p.colour ∧ p.rev = p.rev ∧ p.made = p.made ∧ p.swell = p.swell ∧ (p.marks.n = p.marks.n ∧ ∀ (i : Nat), i < p.marks.n → [SV.int .i64 (p.marks.g i).edge, SV.int .i64 (p.marks.g i).place, SV.int .i64 (p.marks.g i).tone] = [SV.int .i64 (p.marks.g i).edge, SV.int .i64 (p.marks.g i).place, SV.int
 .i64 (p.marks.g i).tone]) ∧ (0 : Int) = (0 : Int) ∧ (0 : Int) = (0 : Int) ∧ (0 : Int) = (0 : Int) ∧ (0 : Int) = (0 : Int) ∧ (0 : Int) = (0 : Int) ∧ Value.slice Option.none (0 : Nat) (0 : Nat) = Value.slice Option.none (0 : Nat) (0 : Nat) ∧ Value.slice Option.none (0 : Nat) (0 : Nat) = Value.slice Option.none (0 : Nat) (0 : Nat) ∧ g' ≤ p.gauges.n ∧ p.gauges.n - g' < p.gauges.n
 - g) ∧ (((0 : Int) ≤ L.ed s (↑p.gauges.n : Int) (↑g : Int) ∧ L.ed s (↑p.gauges.n : Int) (↑g : Int) < (↑p.gauges.n : Int)) ∧ Int.toNat (L.ed s (↑p.gauges.n : Int) (↑g : Int)) < p.gauges.n ∧ InK .i64 ((↑g : Int) + (1 : Int)) ∧ ∃ (g' : Nat), (↑g : Int) + (1 : Int) = (↑g' : Int) ∧ (↑p.gauges.n : Int) = (↑p.gauges.n : Int) ∧ (p.gauges.n = p.gauges.n ∧ ∀ (i : Nat), i < p.gauges.n →
 [SV.int .i64 (p.gauges.g i).edge.lo, SV.int .i64 (p.gauges.g i).edge.hi, SV.int .i64 (p.gauges.g i).across.lo, SV.int .i64 (p.gauges.g i).across.hi, SV.int .i64 (p.gauges.g i).bend] = [SV.int .i64 (p.gauges.g i).edge.lo, SV.int .i64 (p.gauges.g i).edge.hi, SV.int .i64
 (p.gauges.g i).across.lo, SV.int .i64 (p.gauges.g i).across.hi, SV.int .i64 (p.gauges.g i).bend]) ∧ nat_lit 0 = nat_lit 0 ∧ (↑p.gauges.n : Int) = (↑p.gauges.n : Int) ∧ nat_lit 0 = nat_lit 0 ∧ SV.ref [SV.int .i64 s.shift, SV.bool s.back] (nat_lit 0) = SV.ref [SV.int .i64 s.shift, SV.bool s.back] (nat_lit 0) ∧
 SV.ref [SV.int .i64 p.id, SV.int .i64 p.colour, SV.int .i64 p.rev, SV.int .i64 p.made, SV.int .i64 p.swell, SV.sl (nat_lit 5) p.gauges.n fun (i : Nat) ↦ [SV.int .i64 (p.gauges.g i).edge.lo, SV.int .i64 (p.gauges.g i).edge.hi, SV.int .i64 (p.gauges.g
 i).across.lo, SV.int .i64 (p.gauges.g i).across.hi, SV.int .i64 (p.gauges.g i).bend], SV.sl (nat_lit 3) p.marks.n fun (i : Nat) ↦ [SV.int .i64 (p.marks.g i).edge, SV.int .i64 (p.marks.g i).place, SV.int .i64 (p.marks.g i).tone]] (nat_lit 0) = SV.ref [SV.int .i64 p.id, SV.int
 .i64 p.colour, SV.int .i64 p.rev, SV.int .i64 p.made, SV.int .i64 p.swell, SV.sl (nat_lit 5) p.gauges.n fun (i : Nat) ↦ [SV.int .i64 (p.gauges.g i).edge.lo, SV.int .i64 (p.gauges.g i).edge.hi, SV.int .i64 (p.gauges.g i).across.lo, SV.int .i64 (p.gauges.g i).across.hi,
 SV.int .i64 (p.gauges.g i).bend], SV.sl (nat_lit 3) p.marks.n fun (i : Nat) ↦ [SV.int .i64 (p.marks.g i).edge, SV.int .i64 (p.marks.g i).place, SV.int .i64 (p.marks.g i).tone]] (nat_lit 0) ∧ (p.gauges.n = p.gauges.n ∧ ∀ (i : Nat), i < p.gauges.n → setRow (fun (j : Nat) ↦ [SV.int .i64 (L.rsTo p s g
 j).edge.lo, SV.int .i64 (L.rsTo p s g j).edge.hi, SV.int .i64 (L.rsTo p s g j).across.lo, SV.int .i64 (L.rsTo p s g j).across.hi, SV.int .i64 (L.rsTo p s g j).bend]) (Int.toNat (L.ed s (↑p.gauges.n : Int) (↑g : Int))) (nat_lit 0) [SV.int .i64 (p.gauges.g (Int.toNat (↑g : Int))).edge.lo, SV.int .i64
 (p.gauges.g (Int.toNat (↑g : Int))).edge.hi, SV.int .i64 (p.gauges.g (Int.toNat (Int.tmod ((↑g : Int) + (↑p.gauges.n : Int) - (1 : Int)) (↑p.gauges.n : Int)))).across.lo, SV.int .i64 (p.gauges.g (Int.toNat (Int.tmod ((↑g : Int) + (↑p.gauges.n : Int) - (1 : Int)) (↑p.gauges.n : Int)))).across.hi, SV.int .i64 (p.gauges.g (Int.toNat (Int.tmod ((↑g :
 Int) + (↑p.gauges.n : Int) - (1 : Int)) (↑p.gauges.n : Int)))).bend] i = [SV.int .i64 (L.rsTo p s g' i).edge.lo, SV.int .i64 (L.rsTo p s g' i).edge.hi, SV.int .i64 (L.rsTo p s g' i).across.lo, SV.int .i64 (L.rsTo p s g' i).across.hi, SV.int .i64 (L.rsTo p s g' i).bend]) ∧ p.id = p.id ∧ p.colour = p.colour ∧ p.rev =
 p.rev ∧ p.made = p.made ∧ p.swell = p.swell ∧ (p.marks.n = p.marks.n ∧ ∀ (i : Nat), i < p.marks.n → [SV.int .i64 (p.marks.g i).edge, SV.int .i64 (p.marks.g i).place, SV.int .i64 (p.marks.g i).tone] = [SV.int .i64 (p.marks.g i).edge, SV.int .i64 (p.marks.g i).place, SV.int .i64 (p.marks.g i).tone]) ∧ (0
 : Int) = (0 : Int) ∧ (0 : Int) = (0 : Int) ∧ (0 : Int) = (0 : Int) ∧ (0 : Int) = (0 : Int) ∧ (0 : Int) = (0 : Int) ∧ Value.slice Option.none (0 : Nat) (0 : Nat) = Value.slice Option.none (0 : Nat) (0 : Nat) ∧ Value.slice Option.none (0 : Nat) (0 : Nat) = Value.slice Option.none (0 : Nat) (0 : Nat) ∧ g' ≤ p.gauges.n ∧ p.gauges.n - g' < p.gauges.n - g) ∧ ((0 : Int) ≤ L.ed s (↑p.gauges.n
 : Int) (↑g : Int) ∧ L.ed s (↑p.gauges.n : Int) (↑g : Int) < (↑p.gauges.n : Int)) ∧ Int.toNat (L.ed s (↑p.gauges.n : Int) (↑g : Int)) < p.gauges.n ∧ InK .i64 ((↑g : Int) + (1 : Int)) ∧ ∃ (g' : Nat), (↑g : Int) + (1 : Int) = (↑g' : Int) ∧ (↑p.gauges.n : Int) = (↑p.gauges.n : Int) ∧ (p.gauges.n = p.gauges.n ∧ ∀ (i : Nat), i < p.gauges.n → [SV.int .i64 (p.gauges.g
 i).edge.lo, SV.int .i64 (p.gauges.g i).edge.hi, SV.int .i64 (p.gauges.g i).across.lo, SV.int .i64 (p.gauges.g i).across.hi, SV.int .i64 (p.gauges.g i).bend] = [SV.int .i64 (p.gauges.g i).edge.lo, SV.int .i64 (p.gauges.g i).edge.hi, SV.int .i64 (p.gauges.g i).across.lo, SV.int
 .i64 (p.gauges.g i).across.hi, SV.int .i64 (p.gauges.g i).bend]) ∧ nat_lit 0 = nat_lit 0 ∧ (↑p.gauges.n : Int) = (↑p.gauges.n : Int) ∧ nat_lit 0 = nat_lit 0 ∧ SV.ref [SV.int .i64 s.shift, SV.bool s.back] (nat_lit 0) = SV.ref [SV.int .i64 s.shift, SV.bool s.back] (nat_lit 0) ∧ SV.ref [SV.int .i64
 p.id, SV.int .i64 p.colour, SV.int .i64 p.rev, SV.int .i64 p.made, SV.int .i64 p.swell, SV.sl (nat_lit 5) p.gauges.n fun (i : Nat) ↦ [SV.int .i64 (p.gauges.g i).edge.lo, SV.int .i64 (p.gauges.g i).edge.hi, SV.int .i64 (p.gauges.g i).across.lo, SV.int .i64
 (p.gauges.g i).across.hi, SV.int .i64 (p.gauges.g i).bend], SV.sl (nat_lit 3) p.marks.n fun (i : Nat) ↦ [SV.int .i64 (p.marks.g i).edge, SV.int .i64 (p.marks.g i).place, SV.int .i64 (p.marks.g i).tone]] (nat_lit 0) = SV.ref [SV.int .i64 p.id, SV.int .i64 p.colour, SV.int .i64
 p.rev, SV.int .i64 p.made, SV.int .i64 p.swell, SV.sl (nat_lit 5) p.gauges.n fun (i : Nat) ↦ [SV.int .i64 (p.gauges.g i).edge.lo, SV.int .i64 (p.gauges.g i).edge.hi, SV.int .i64 (p.gauges.g i).across.lo, SV.int .i64 (p.gauges.g i).across.hi, SV.int .i64 (p.gauges.g i).bend],
 SV.sl (nat_lit 3) p.marks.n fun (i : Nat) ↦ [SV.int .i64 (p.marks.g i).edge, SV.int .i64 (p.marks.g i).place, SV.int .i64 (p.marks.g i).tone]] (nat_lit 0) ∧ (p.gauges.n = p.gauges.n ∧ ∀ (i : Nat), i < p.gauges.n → setRow (fun (j : Nat) ↦ [SV.int .i64 (L.rsTo p s g j).edge.lo, SV.int .i64 (L.rsTo p s g
 j).edge.hi, SV.int .i64 (L.rsTo p s g j).across.lo, SV.int .i64 (L.rsTo p s g j).across.hi, SV.int .i64 (L.rsTo p s g j).bend]) (Int.toNat (L.ed s (↑p.gauges.n : Int) (↑g : Int))) (nat_lit 0) [SV.int .i64 (p.gauges.g (Int.toNat (↑g : Int))).edge.lo, SV.int .i64 (p.gauges.g (Int.toNat (↑g : Int))).edge.hi, SV.int
 .i64 (p.gauges.g (Int.toNat (Int.tmod ((↑g : Int) + (↑p.gauges.n : Int) - (1 : Int)) (↑p.gauges.n : Int)))).across.lo, SV.int .i64 (p.gauges.g (Int.toNat (Int.tmod ((↑g : Int) + (↑p.gauges.n : Int) - (1 : Int)) (↑p.gauges.n : Int)))).across.hi, SV.int .i64 (p.gauges.g (Int.toNat (Int.tmod ((↑g : Int) + (↑p.gauges.n : Int) - (1 : Int)) (↑p.gauges.n :
 Int)))).bend] i = [SV.int .i64 (L.rsTo p s g' i).edge.lo, SV.int .i64 (L.rsTo p s g' i).edge.hi, SV.int .i64 (L.rsTo p s g' i).across.lo, SV.int .i64 (L.rsTo p s g' i).across.hi, SV.int .i64 (L.rsTo p s g' i).bend]) ∧ p.id = p.id ∧ p.colour = p.colour ∧ p.rev = p.rev ∧ p.made = p.made ∧ p.swell = p.swell ∧ (p.marks.n =
 p.marks.n ∧ ∀ (i : Nat), i < p.marks.n → [SV.int .i64 (p.marks.g i).edge, SV.int .i64 (p.marks.g i).place, SV.int .i64 (p.marks.g i).tone] = [SV.int .i64 (p.marks.g i).edge, SV.int .i64 (p.marks.g i).place, SV.int .i64 (p.marks.g i).tone]) ∧ (0 : Int) = (0 : Int) ∧ (0 : Int) = (0 : Int) ∧ (0 : Int) = (0
 : Int) ∧ (0 : Int) = (0 : Int) ∧ (0 : Int) = (0 : Int) ∧ Value.slice Option.none (0 : Nat) (0 : Nat) = Value.slice Option.none (0 : Nat) (0 : Nat) ∧ Value.slice Option.none (0 : Nat) (0 : Nat) = Value.slice Option.none (0 : Nat) (0 : Nat) ∧ g' ≤ p.gauges.n ∧ p.gauges.n - g' < p.gauges.n - g) ∧ ((0 : Int) ≤ L.ed s (↑p.gauges.n : Int) (↑g : Int) ∧ L.ed s (↑p.gauges.n : Int) (↑g : Int) <
 (↑p.gauges.n : Int)) ∧ Int.toNat (L.ed s (↑p.gauges.n : Int) (↑g : Int)) < p.gauges.n ∧ InK .i64 ((↑g : Int) + (1 : Int)) ∧ ∃ (g' : Nat), (↑g : Int) + (1 : Int) = (↑g' : Int) ∧ (↑p.gauges.n : Int) = (↑p.gauges.n : Int) ∧ (p.gauges.n = p.gauges.n ∧ ∀ (i : Nat), i < p.gauges.n → [SV.int .i64 (p.gauges.g i).edge.lo, SV.int .i64 (p.gauges.g i).edge.hi,
 SV.int .i64 (p.gauges.g i).across.lo, SV.int .i64 (p.gauges.g i).across.hi, SV.int .i64 (p.gauges.g i).bend] = [SV.int .i64 (p.gauges.g i).edge.lo, SV.int .i64 (p.gauges.g i).edge.hi, SV.int .i64 (p.gauges.g i).across.lo, SV.int .i64 (p.gauges.g i).across.hi, SV.int .i64
 (p.gauges.g i).bend]) ∧ nat_lit 0 = nat_lit 0 ∧ (↑p.gauges.n : Int) = (↑p.gauges.n : Int) ∧ nat_lit 0 = nat_lit 0 ∧ SV.ref [SV.int .i64 s.shift, SV.bool s.back] (nat_lit 0) = SV.ref [SV.int .i64 s.shift, SV.bool s.back] (nat_lit 0) ∧ SV.ref [SV.int .i64 p.id, SV.int .i64 p.colour, SV.int
 .i64 p.rev, SV.int .i64 p.made, SV.int .i64 p.swell, SV.sl (nat_lit 5) p.gauges.n fun (i : Nat) ↦ [SV.int .i64 (p.gauges.g i).edge.lo, SV.int .i64 (p.gauges.g i).edge.hi, SV.int .i64 (p.gauges.g i).across.lo, SV.int .i64 (p.gauges.g i).across.hi, SV.int .i64 (p.gauges.g
 i).bend], SV.sl (nat_lit 3) p.marks.n fun (i : Nat) ↦ [SV.int .i64 (p.marks.g i).edge, SV.int .i64 (p.marks.g i).place, SV.int .i64 (p.marks.g i).tone]] (nat_lit 0) = SV.ref [SV.int .i64 p.id, SV.int .i64 p.colour, SV.int .i64 p.rev, SV.int .i64 p.made, SV.int
 .i64 p.swell, SV.sl (nat_lit 5) p.gauges.n fun (i : Nat) ↦ [SV.int .i64 (p.gauges.g i).edge.lo, SV.int .i64 (p.gauges.g i).edge.hi, SV.int .i64 (p.gauges.g i).across.lo, SV.int .i64 (p.gauges.g i).across.hi, SV.int .i64 (p.gauges.g i).bend], SV.sl (nat_lit 3) p.marks.n fun (i : Nat) ↦
 [SV.int .i64 (p.marks.g i).edge, SV.int .i64 (p.marks.g i).place, SV.int .i64 (p.marks.g i).tone]] (nat_lit 0) ∧ (p.gauges.n = p.gauges.n ∧ ∀ (i : Nat), i < p.gauges.n → setRow (fun (j : Nat) ↦ [SV.int .i64 (L.rsTo p s g j).edge.lo, SV.int .i64 (L.rsTo p s g j).edge.hi, SV.int .i64 (L.rsTo p s g
 j).across.lo, SV.int .i64 (L.rsTo p s g j).across.hi, SV.int .i64 (L.rsTo p s g j).bend]) (Int.toNat (L.ed s (↑p.gauges.n : Int) (↑g : Int))) (nat_lit 0) [SV.int .i64 (p.gauges.g (Int.toNat (↑g : Int))).edge.lo, SV.int .i64 (p.gauges.g (Int.toNat (↑g : Int))).edge.hi, SV.int .i64 (p.gauges.g (Int.toNat (Int.tmod ((↑g :
 Int) + (↑p.gauges.n : Int) - (1 : Int)) (↑p.gauges.n : Int)))).across.lo, SV.int .i64 (p.gauges.g (Int.toNat (Int.tmod ((↑g : Int) + (↑p.gauges.n : Int) - (1 : Int)) (↑p.gauges.n : Int)))).across.hi, SV.int .i64 (p.gauges.g (Int.toNat (Int.tmod ((↑g : Int) + (↑p.gauges.n : Int) - (1 : Int)) (↑p.gauges.n : Int)))).bend] i = [SV.int .i64 (L.rsTo p s g'
 i).edge.lo, SV.int .i64 (L.rsTo p s g' i).edge.hi, SV.int .i64 (L.rsTo p s g' i).across.lo, SV.int .i64 (L.rsTo p s g' i).across.hi, SV.int .i64 (L.rsTo p s g' i).bend]) ∧ p.id = p.id ∧ p.colour = p.colour ∧ p.rev = p.rev ∧ p.made = p.made ∧ p.swell = p.swell ∧ (p.marks.n = p.marks.n ∧ ∀ (i : Nat), i < p.marks.n → [SV.int
 .i64 (p.marks.g i).edge, SV.int .i64 (p.marks.g i).place, SV.int .i64 (p.marks.g i).tone] = [SV.int .i64 (p.marks.g i).edge, SV.int .i64 (p.marks.g i).place, SV.int .i64 (p.marks.g i).tone]) ∧ (0 : Int) = (0 : Int) ∧ (0 : Int) = (0 : Int) ∧ (0 : Int) = (0 : Int) ∧ (0 : Int) = (0 : Int) ∧ (0 : Int) = (0 : Int)
 ∧ Value.slice Option.none (0 : Nat) (0 : Nat) = Value.slice Option.none (0 : Nat) (0 : Nat) ∧ Value.slice Option.none (0 : Nat) (0 : Nat) = Value.slice Option.none (0 : Nat) (0 : Nat) ∧ g' ≤ p.gauges.n ∧ p.gauges.n - g' < p.gauges.n - g) ∧ ((0 : Int) ≤ L.ed s (↑p.gauges.n : Int) (↑g : Int) ∧ L.ed s (↑p.gauges.n : Int) (↑g : Int) < (↑p.gauges.n : Int)) ∧ Int.toNat (L.ed s (↑p.gauges.n :
 Int) (↑g : Int)) < p.gauges.n ∧ InK .i64 ((↑g : Int) + (1 : Int)) ∧ ∃ (g' : Nat), (↑g : Int) + (1 : Int) = (↑g' : Int) ∧ (↑p.gauges.n : Int) = (↑p.gauges.n : Int) ∧ (p.gauges.n = p.gauges.n ∧ ∀ (i : Nat), i < p.gauges.n → [SV.int .i64 (p.gauges.g i).edge.lo, SV.int .i64 (p.gauges.g i).edge.hi, SV.int .i64 (p.gauges.g i).across.lo,
 SV.int .i64 (p.gauges.g i).across.hi, SV.int .i64 (p.gauges.g i).bend] = [SV.int .i64 (p.gauges.g i).edge.lo, SV.int .i64 (p.gauges.g i).edge.hi, SV.int .i64 (p.gauges.g i).across.lo, SV.int .i64 (p.gauges.g i).across.hi, SV.int .i64 (p.gauges.g i).bend]) ∧ nat_lit 0 = nat_lit 0 ∧
 (↑p.gauges.n : Int) = (↑p.gauges.n : Int) ∧ nat_lit 0 = nat_lit 0 ∧ SV.ref [SV.int .i64 s.shift, SV.bool s.back] (nat_lit 0) = SV.ref [SV.int .i64 s.shift, SV.bool s.back] (nat_lit 0) ∧ SV.ref [SV.int .i64 p.id, SV.int .i64 p.colour, SV.int .i64 p.rev, SV.int .i64 p.made,
 SV.int .i64 p.swell, SV.sl (nat_lit 5) p.gauges.n fun (i : Nat) ↦ [SV.int .i64 (p.gauges.g i).edge.lo, SV.int .i64 (p.gauges.g i).edge.hi, SV.int .i64 (p.gauges.g i).across.lo, SV.int .i64 (p.gauges.g i).across.hi, SV.int .i64 (p.gauges.g i).bend], SV.sl (nat_lit 3) p.marks.n fun (i : Nat) ↦
 [SV.int .i64 (p.marks.g i).edge, SV.int .i64 (p.marks.g i).place, SV.int .i64 (p.marks.g i).tone]] (nat_lit 0) = SV.ref [SV.int .i64 p.id, SV.int .i64 p.colour, SV.int .i64 p.rev, SV.int .i64 p.made, SV.int .i64 p.swell, SV.sl (nat_lit 5) p.gauges.n fun (i :
 Nat) ↦ [SV.int .i64 (p.gauges.g i).edge.lo, SV.int .i64 (p.gauges.g i).edge.hi, SV.int .i64 (p.gauges.g i).across.lo, SV.int .i64 (p.gauges.g i).across.hi, SV.int .i64 (p.gauges.g i).bend], SV.sl (nat_lit 3) p.marks.n fun (i : Nat) ↦ [SV.int .i64 (p.marks.g i).edge, SV.int .i64
 (p.marks.g i).place, SV.int .i64 (p.marks.g i).tone]] (nat_lit 0) ∧ (p.gauges.n = p.gauges.n ∧ ∀ (i : Nat), i < p.gauges.n → setRow (fun (j : Nat) ↦ [SV.int .i64 (L.rsTo p s g j).edge.lo, SV.int .i64 (L.rsTo p s g j).edge.hi, SV.int .i64 (L.rsTo p s g j).across.lo, SV.int .i64 (L.rsTo p s g j).across.hi,
 SV.int .i64 (L.rsTo p s g j).bend]) (Int.toNat (L.ed s (↑p.gauges.n : Int) (↑g : Int))) (nat_lit 0) [SV.int .i64 (p.gauges.g (Int.toNat (↑g : Int))).edge.lo, SV.int .i64 (p.gauges.g (Int.toNat (↑g : Int))).edge.hi, SV.int .i64 (p.gauges.g (Int.toNat (Int.tmod ((↑g : Int) + (↑p.gauges.n : Int) - (1 : Int)) (↑p.gauges.n :
 Int)))).across.lo, SV.int .i64 (p.gauges.g (Int.toNat (Int.tmod ((↑g : Int) + (↑p.gauges.n : Int) - (1 : Int)) (↑p.gauges.n : Int)))).across.hi, SV.int .i64 (p.gauges.g (Int.toNat (Int.tmod ((↑g : Int) + (↑p.gauges.n : Int) - (1 : Int)) (↑p.gauges.n : Int)))).bend] i = [SV.int .i64 (L.rsTo p s g' i).edge.lo, SV.int .i64 (L.rsTo p s g'
 i).edge.hi, SV.int .i64 (L.rsTo p s g' i).across.lo, SV.int .i64 (L.rsTo p s g' i).across.hi, SV.int .i64 (L.rsTo p s g' i).bend]) ∧ p.id = p.id ∧ p.colour = p.colour ∧ p.rev = p.rev ∧ p.made = p.made ∧ p.swell = p.swell ∧ (p.marks.n = p.marks.n ∧ ∀ (i : Nat), i < p.marks.n → [SV.int .i64 (p.marks.g i).edge, SV.int
 .i64 (p.marks.g i).place, SV.int .i64 (p.marks.g i).tone] = [SV.int .i64 (p.marks.g i).edge, SV.int .i64 (p.marks.g i).place, SV.int .i64 (p.marks.g i).tone]) ∧ (0 : Int) = (0 : Int) ∧ (0 : Int) = (0 : Int) ∧ (0 : Int) = (0 : Int) ∧ (0 : Int) = (0 : Int) ∧ (0 : Int) = (0 : Int) ∧ Value.slice Option.none (0 : Nat) (0 :
 Nat) = Value.slice Option.none (0 : Nat) (0 : Nat) ∧ Value.slice Option.none (0 : Nat) (0 : Nat) = Value.slice Option.none (0 : Nat) (0 : Nat) ∧ g' ≤ p.gauges.n ∧ p.gauges.n - g' < p.gauges.n - g) ∧ (s.back = false → ((0 : Int) ≤ L.ed s (↑p.gauges.n : Int) (↑g : Int) ∧ L.ed s (↑p.gauges.n : Int) (↑g : Int) < (↑p.gauges.n : Int)) ∧ Int.toNat (L.ed s (↑p.gauges.n : Int) (↑g : Int)) <
 p.gauges.n ∧ InK .i64 ((↑g : Int) + (1 : Int)) ∧ ∃ (g' : Nat), (↑g : Int) + (1 : Int) = (↑g' : Int) ∧ (↑p.gauges.n : Int) = (↑p.gauges.n : Int) ∧ (p.gauges.n = p.gauges.n ∧ ∀ (i : Nat), i < p.gauges.n → [SV.int .i64 (p.gauges.g i).edge.lo, SV.int .i64 (p.gauges.g i).edge.hi, SV.int .i64 (p.gauges.g i).across.lo, SV.int
 .i64 (p.gauges.g i).across.hi, SV.int .i64 (p.gauges.g i).bend] = [SV.int .i64 (p.gauges.g i).edge.lo, SV.int .i64 (p.gauges.g i).edge.hi, SV.int .i64 (p.gauges.g i).across.lo, SV.int .i64 (p.gauges.g i).across.hi, SV.int .i64 (p.gauges.g i).bend]) ∧ nat_lit 0 = nat_lit 0 ∧ (↑p.gauges.n : Int)
 = (↑p.gauges.n : Int) ∧ nat_lit 0 = nat_lit 0 ∧ SV.ref [SV.int .i64 s.shift, SV.bool s.back] (nat_lit 0) = SV.ref [SV.int .i64 s.shift, SV.bool s.back] (nat_lit 0) ∧ SV.ref [SV.int .i64 p.id, SV.int .i64 p.colour, SV.int .i64 p.rev, SV.int .i64 p.made, SV.int
 .i64 p.swell, SV.sl (nat_lit 5) p.gauges.n fun (i : Nat) ↦ [SV.int .i64 (p.gauges.g i).edge.lo, SV.int .i64 (p.gauges.g i).edge.hi, SV.int .i64 (p.gauges.g i).across.lo, SV.int .i64 (p.gauges.g i).across.hi, SV.int .i64 (p.gauges.g i).bend], SV.sl (nat_lit 3) p.marks.n fun (i : Nat) ↦
 [SV.int .i64 (p.marks.g i).edge, SV.int .i64 (p.marks.g i).place, SV.int .i64 (p.marks.g i).tone]] (nat_lit 0) = SV.ref [SV.int .i64 p.id, SV.int .i64 p.colour, SV.int .i64 p.rev, SV.int .i64 p.made, SV.int .i64 p.swell, SV.sl (nat_lit 5) p.gauges.n fun (i :
 Nat) ↦ [SV.int .i64 (p.gauges.g i).edge.lo, SV.int .i64 (p.gauges.g i).edge.hi, SV.int .i64 (p.gauges.g i).across.lo, SV.int .i64 (p.gauges.g i).across.hi, SV.int .i64 (p.gauges.g i).bend], SV.sl (nat_lit 3) p.marks.n fun (i : Nat) ↦ [SV.int .i64 (p.marks.g i).edge, SV.int .i64
 (p.marks.g i).place, SV.int .i64 (p.marks.g i).tone]] (nat_lit 0) ∧ (p.gauges.n = p.gauges.n ∧ ∀ (i : Nat), i < p.gauges.n → setRow (fun (j : Nat) ↦ [SV.int .i64 (L.rsTo p s g j).edge.lo, SV.int .i64 (L.rsTo p s g j).edge.hi, SV.int .i64 (L.rsTo p s g j).across.lo, SV.int .i64 (L.rsTo p s g j).across.hi,
 SV.int .i64 (L.rsTo p s g j).bend]) (Int.toNat (L.ed s (↑p.gauges.n : Int) (↑g : Int))) (nat_lit 0) [SV.int .i64 (p.gauges.g (Int.toNat (↑g : Int))).edge.lo, SV.int .i64 (p.gauges.g (Int.toNat (↑g : Int))).edge.hi, SV.int .i64 (p.gauges.g (Int.toNat (↑g : Int))).across.lo, SV.int .i64 (p.gauges.g (Int.toNat (↑g :
 Int))).across.hi, SV.int .i64 (p.gauges.g (Int.toNat (↑g : Int))).bend] i = [SV.int .i64 (L.rsTo p s g' i).edge.lo, SV.int .i64 (L.rsTo p s g' i).edge.hi, SV.int .i64 (L.rsTo p s g' i).across.lo, SV.int .i64 (L.rsTo p s g' i).across.hi, SV.int .i64 (L.rsTo p s g' i).bend]) ∧ p.id = p.id ∧ p.colour =
 p.colour ∧ p.rev = p.rev ∧ p.made = p.made ∧ p.swell = p.swell ∧ (p.marks.n = p.marks.n ∧ ∀ (i : Nat), i < p.marks.n → [SV.int .i64 (p.marks.g i).edge, SV.int .i64 (p.marks.g i).place, SV.int .i64 (p.marks.g i).tone] = [SV.int .i64 (p.marks.g i).edge, SV.int .i64 (p.marks.g i).place, SV.int .i64
 (p.marks.g i).tone]) ∧ (0 : Int) = (0 : Int) ∧ (0 : Int) = (0 : Int) ∧ (0 : Int) = (0 : Int) ∧ (0 : Int) = (0 : Int) ∧ (0 : Int) = (0 : Int) ∧ Value.slice Option.none (0 : Nat) (0 : Nat) = Value.slice Option.none (0 : Nat) (0 : Nat) ∧ Value.slice Option.none (0 : Nat) (0 : Nat) = Value.slice Option.none (0 : Nat) (0 : Nat) ∧ g' ≤ p.gauges.n ∧ p.gauges.n - g' < p.gauges.n - g)) ∧
 (decide ((↑g : Int) < (↑p.gauges.n : Int)) = false → ((∀ (i : Nat), i < p.marks.n → [SV.int .i64 (p.marks.g i).edge, SV.int .i64 (p.marks.g i).place, SV.int .i64 (p.marks.g i).tone] = [SV.int .i64 (p.marks.g i).edge, SV.int .i64 (p.marks.g i).place, SV.int .i64 (p.marks.g i).tone]) ∧
 p.marks.n ≤ (1000000 : Nat)) ∧ ∀ (t : Nat), True → (∃ (g : Nat), (0 : Int) = (↑g : Int) ∧ (p.marks.n = p.marks.n ∧ ∀ (i : Nat), i < p.marks.n → [SV.int .i64 (p.marks.g i).edge, SV.int .i64 (p.marks.g i).place, SV.int .i64 (p.marks.g i).tone] = [SV.int .i64 (L.rsMTo p.marks s p.gauges.n g i).edge, SV.int .i64 (L.rsMTo
 p.marks s p.gauges.n g i).place, SV.int .i64 (L.rsMTo p.marks s p.gauges.n g i).tone]) ∧ g ≤ p.marks.n) ∧ ∀ (g_1 : Nat), g_1 ≤ p.marks.n → (decide ((↑g_1 : Int) < (↑p.marks.n : Int)) = true → ((0 : Int) ≤ (↑g_1 : Int) ∧ (↑g_1 : Int) < (↑p.marks.n : Int)) ∧ Int.toNat (↑g_1 : Int) < p.marks.n ∧ True ∧ ((0 : Int) ≤ (↑g_1 : Int) ∧ (↑g_1 : Int) < (↑p.marks.n : Int)) ∧
 Int.toNat (↑g_1 : Int) < p.marks.n ∧ (s.back = true → InK .i64 ((16 : Int) - (L.rsMTo p.marks s p.gauges.n g_1 (Int.toNat (↑g_1 : Int))).place) ∧ ((0 : Int) ≤ (↑g_1 : Int) ∧ (↑g_1 : Int) < (↑p.marks.n : Int)) ∧ Int.toNat (↑g_1 : Int) < p.marks.n ∧ InK .i64 ((↑g_1 : Int) + (1 : Int)) ∧ ∃ (g' : Nat), (↑g_1 : Int) + (1 : Int) = (↑g' : Int) ∧ (↑p.marks.n : Int) =
 (↑p.marks.n : Int) ∧ nat_lit 0 = nat_lit 0 ∧ (↑p.gauges.n : Int) = (↑p.gauges.n : Int) ∧ nat_lit 0 = nat_lit 0 ∧ SV.ref [SV.int .i64 s.shift, SV.bool s.back] (nat_lit 0) = SV.ref [SV.int .i64 s.shift, SV.bool s.back] (nat_lit 0) ∧ SV.ref [SV.int .i64 p.id, SV.int .i64 p.colour, SV.int .i64
 p.rev, SV.int .i64 p.made, SV.int .i64 p.swell, SV.sl (nat_lit 5) p.gauges.n fun (i : Nat) ↦ [SV.int .i64 (p.gauges.g i).edge.lo, SV.int .i64 (p.gauges.g i).edge.hi, SV.int .i64 (p.gauges.g i).across.lo, SV.int .i64 (p.gauges.g i).across.hi, SV.int .i64 (p.gauges.g i).bend],
 SV.sl (nat_lit 3) p.marks.n fun (i : Nat) ↦ [SV.int .i64 (p.marks.g i).edge, SV.int .i64 (p.marks.g i).place, SV.int .i64 (p.marks.g i).tone]] (nat_lit 0) = SV.ref [SV.int .i64 p.id, SV.int .i64 p.colour, SV.int .i64 p.rev, SV.int .i64 p.made, SV.int .i64
 p.swell, SV.sl (nat_lit 5) p.gauges.n fun (i : Nat) ↦ [SV.int .i64 (p.gauges.g i).edge.lo, SV.int .i64 (p.gauges.g i).edge.hi, SV.int .i64 (p.gauges.g i).across.lo, SV.int .i64 (p.gauges.g i).across.hi, SV.int .i64 (p.gauges.g i).bend], SV.sl (nat_lit 3) p.marks.n fun (i : Nat) ↦ [SV.int
 .i64 (p.marks.g i).edge, SV.int .i64 (p.marks.g i).place, SV.int .i64 (p.marks.g i).tone]] (nat_lit 0) ∧ (p.marks.n = p.marks.n ∧ ∀ (i : Nat), i < p.marks.n → setRow (setRow (fun (k : Nat) ↦ [SV.int .i64 (L.rsMTo p.marks s p.gauges.n g_1 k).edge, SV.int .i64 (L.rsMTo p.marks s p.gauges.n g_1 k).place,
 SV.int .i64 (L.rsMTo p.marks s p.gauges.n g_1 k).tone]) (Int.toNat (↑g_1 : Int)) (nat_lit 0) [SV.int .i64 (L.ed s (↑p.gauges.n : Int) (L.rsMTo p.marks s p.gauges.n g_1 (Int.toNat (↑g_1 : Int))).edge)]) (Int.toNat (↑g_1 : Int)) (nat_lit 1) [SV.int .i64 ((16 : Int) - (L.rsMTo p.marks s p.gauges.n g_1 (Int.toNat (↑g_1 : Int))).place)] i = [SV.int
 .i64 (L.rsMTo p.marks s p.gauges.n g' i).edge, SV.int .i64 (L.rsMTo p.marks s p.gauges.n g' i).place, SV.int .i64 (L.rsMTo p.marks s p.gauges.n g' i).tone]) ∧ (p.gauges.n = p.gauges.n ∧ ∀ (i : Nat), i < p.gauges.n → [SV.int .i64 (L.rsTo p s g i).edge.lo, SV.int .i64 (L.rsTo p s g i).edge.hi, SV.int .i64
 (L.rsTo p s g i).across.lo, SV.int .i64 (L.rsTo p s g i).across.hi, SV.int .i64 (L.rsTo p s g i).bend] = [SV.int .i64 (L.rsTo p s g i).edge.lo, SV.int .i64 (L.rsTo p s g i).edge.hi, SV.int .i64 (L.rsTo p s g i).across.lo, SV.int .i64 (L.rsTo p s g i).across.hi, SV.int .i64 (L.rsTo p s g
 i).bend]) ∧ p.id = p.id ∧ p.colour = p.colour ∧ p.rev = p.rev ∧ p.made = p.made ∧ p.swell = p.swell ∧ (0 : Int) = (0 : Int) ∧ (0 : Int) = (0 : Int) ∧ (0 : Int) = (0 : Int) ∧ (0 : Int) = (0 : Int) ∧ (0 : Int) = (0 : Int) ∧ Value.slice Option.none (0 : Nat) (0 : Nat) = Value.slice Option.none (0 : Nat) (0 : Nat) ∧ Value.slice Option.none (0 : Nat) (0 : Nat) = Value.slice Option.none (0 :
 Nat) (0 : Nat) ∧ g' ≤ p.marks.n ∧ p.marks.n - g' < p.marks.n - g_1) ∧ (s.back = false → InK .i64 ((↑g_1 : Int) + (1 : Int)) ∧ ∃ (g' : Nat), (↑g_1 : Int) + (1 : Int) = (↑g' : Int) ∧ (↑p.marks.n : Int) = (↑p.marks.n : Int) ∧ nat_lit 0 = nat_lit 0 ∧ (↑p.gauges.n : Int) = (↑p.gauges.n : Int) ∧ nat_lit 0 = nat_lit 0 ∧ SV.ref [SV.int .i64 s.shift, SV.bool
 s.back] (nat_lit 0) = SV.ref [SV.int .i64 s.shift, SV.bool s.back] (nat_lit 0) ∧ SV.ref [SV.int .i64 p.id, SV.int .i64 p.colour, SV.int .i64 p.rev, SV.int .i64 p.made, SV.int .i64 p.swell, SV.sl (nat_lit 5) p.gauges.n fun (i : Nat) ↦ [SV.int .i64 (p.gauges.g
 i).edge.lo, SV.int .i64 (p.gauges.g i).edge.hi, SV.int .i64 (p.gauges.g i).across.lo, SV.int .i64 (p.gauges.g i).across.hi, SV.int .i64 (p.gauges.g i).bend], SV.sl (nat_lit 3) p.marks.n fun (i : Nat) ↦ [SV.int .i64 (p.marks.g i).edge, SV.int .i64 (p.marks.g i).place, SV.int .i64
 (p.marks.g i).tone]] (nat_lit 0) = SV.ref [SV.int .i64 p.id, SV.int .i64 p.colour, SV.int .i64 p.rev, SV.int .i64 p.made, SV.int .i64 p.swell, SV.sl (nat_lit 5) p.gauges.n fun (i : Nat) ↦ [SV.int .i64 (p.gauges.g i).edge.lo, SV.int .i64 (p.gauges.g i).edge.hi, SV.int
 .i64 (p.gauges.g i).across.lo, SV.int .i64 (p.gauges.g i).across.hi, SV.int .i64 (p.gauges.g i).bend], SV.sl (nat_lit 3) p.marks.n fun (i : Nat) ↦ [SV.int .i64 (p.marks.g i).edge, SV.int .i64 (p.marks.g i).place, SV.int .i64 (p.marks.g i).tone]] (nat_lit 0) ∧ (p.marks.n = p.marks.n ∧ ∀ (i : Nat), i <
 p.marks.n → setRow (fun (k : Nat) ↦ [SV.int .i64 (L.rsMTo p.marks s p.gauges.n g_1 k).edge, SV.int .i64 (L.rsMTo p.marks s p.gauges.n g_1 k).place, SV.int .i64 (L.rsMTo p.marks s p.gauges.n g_1 k).tone]) (Int.toNat (↑g_1 : Int)) (nat_lit 0) [SV.int .i64 (L.ed s (↑p.gauges.n : Int) (L.rsMTo p.marks s p.gauges.n g_1 (Int.toNat
 (↑g_1 : Int))).edge)] i = [SV.int .i64 (L.rsMTo p.marks s p.gauges.n g' i).edge, SV.int .i64 (L.rsMTo p.marks s p.gauges.n g' i).place, SV.int .i64 (L.rsMTo p.marks s p.gauges.n g' i).tone]) ∧ (p.gauges.n = p.gauges.n ∧ ∀ (i : Nat), i < p.gauges.n → [SV.int .i64 (L.rsTo p s g i).edge.lo, SV.int .i64 (L.rsTo p s g
 i).edge.hi, SV.int .i64 (L.rsTo p s g i).across.lo, SV.int .i64 (L.rsTo p s g i).across.hi, SV.int .i64 (L.rsTo p s g i).bend] = [SV.int .i64 (L.rsTo p s g i).edge.lo, SV.int .i64 (L.rsTo p s g i).edge.hi, SV.int .i64 (L.rsTo p s g i).across.lo, SV.int .i64 (L.rsTo p s g i).across.hi,
 SV.int .i64 (L.rsTo p s g i).bend]) ∧ p.id = p.id ∧ p.colour = p.colour ∧ p.rev = p.rev ∧ p.made = p.made ∧ p.swell = p.swell ∧ (0 : Int) = (0 : Int) ∧ (0 : Int) = (0 : Int) ∧ (0 : Int) = (0 : Int) ∧ (0 : Int) = (0 : Int) ∧ (0 : Int) = (0 : Int) ∧ Value.slice Option.none (0 : Nat) (0 : Nat) = Value.slice Option.none (0 : Nat) (0 : Nat) ∧ Value.slice Option.none (0 : Nat)
 (0 : Nat) = Value.slice Option.none (0 : Nat) (0 : Nat) ∧ g' ≤ p.marks.n ∧ p.marks.n - g' < p.marks.n - g_1)) ∧ (decide ((↑g_1 : Int) < (↑p.marks.n : Int)) = false → ((∀ (i : Nat), i < p.marks.n → [SV.int .i64 (L.rsMTo p.marks s p.gauges.n g_1 i).edge, SV.int .i64 (L.rsMTo p.marks s p.gauges.n g_1 i).place, SV.int .i64 (L.rsMTo
 p.marks s p.gauges.n g_1 i).tone] = [SV.int .i64 (L.rsMTo p.marks s p.gauges.n g_1 i).edge, SV.int .i64 (L.rsMTo p.marks s p.gauges.n g_1 i).place, SV.int .i64 (L.rsMTo p.marks s p.gauges.n g_1 i).tone]) ∧ p.marks.n ≤ (1000000 : Nat)) ∧ ∀ (t : Nat), True → (∀ (i : Nat), i < p.marks.n → (true && (true && (true && true))) =
 true) ∧ (s.back = true → ((((p.id = (L.rs p s).id ∧ p.rev = (L.rs p s).colour ∧ p.colour = (L.rs p s).rev ∧ p.made = (L.rs p s).made ∧ p.swell = (L.rs p s).swell ∧ (p.gauges.n = (L.rs p s).gauges.n ∧ ∀ (i : Nat), i < p.gauges.n → [SV.int .i64 (L.rsTo p s g i).edge.lo, SV.int .i64 (L.rsTo p s g i).edge.hi, SV.int .i64 (L.rsTo p s g
 i).across.lo, SV.int .i64 (L.rsTo p s g i).across.hi, SV.int .i64 (L.rsTo p s g i).bend] = [SV.int .i64 ((L.rs p s).gauges.g i).edge.lo, SV.int .i64 ((L.rs p s).gauges.g i).edge.hi, SV.int .i64 ((L.rs p s).gauges.g i).across.lo, SV.int .i64 ((L.rs p s).gauges.g i).across.hi, SV.int .i64
 ((L.rs p s).gauges.g i).bend]) ∧ p.marks.n = (L.rs p s).marks.n ∧ ∀ (i : Nat), i < p.marks.n → [SV.int .i64 ((L.sortM (L.Sq.mk p.marks.n fun (i : Nat) ↦ L.rsMTo p.marks s p.gauges.n g_1 i)).g i).edge, SV.int .i64 ((L.sortM (L.Sq.mk p.marks.n fun (i : Nat) ↦ L.rsMTo p.marks s p.gauges.n g_1 i)).g i).place, SV.int .i64 ((L.sortM (L.Sq.mk p.marks.n fun
 (i : Nat) ↦ L.rsMTo p.marks s p.gauges.n g_1 i)).g i).tone] = [SV.int .i64 ((L.rs p s).marks.g i).edge, SV.int .i64 ((L.rs p s).marks.g i).place, SV.int .i64 ((L.rs p s).marks.g i).tone]) ∧ (p.id = (L.rs p s).id ∧ p.rev = (L.rs p s).colour ∧ p.colour = (L.rs p s).rev ∧ p.made = (L.rs p s).made ∧ p.swell = (L.rs p s).swell ∧ (p.gauges.n = (L.rs p
 s).gauges.n ∧ ∀ (i : Nat), i < p.gauges.n → [SV.int .i64 (L.rsTo p s g i).edge.lo, SV.int .i64 (L.rsTo p s g i).edge.hi, SV.int .i64 (L.rsTo p s g i).across.lo, SV.int .i64 (L.rsTo p s g i).across.hi, SV.int .i64 (L.rsTo p s g i).bend] = [SV.int .i64 ((L.rs p s).gauges.g i).edge.lo, SV.int
 .i64 ((L.rs p s).gauges.g i).edge.hi, SV.int .i64 ((L.rs p s).gauges.g i).across.lo, SV.int .i64 ((L.rs p s).gauges.g i).across.hi, SV.int .i64 ((L.rs p s).gauges.g i).bend]) ∧ p.marks.n = (L.rs p s).marks.n ∧ ∀ (i : Nat), i < p.marks.n → [SV.int .i64 ((L.sortM (L.Sq.mk p.marks.n fun (i : Nat) ↦ L.rsMTo p.marks s p.gauges.n
 g_1 i)).g i).edge, SV.int .i64 ((L.sortM (L.Sq.mk p.marks.n fun (i : Nat) ↦ L.rsMTo p.marks s p.gauges.n g_1 i)).g i).place, SV.int .i64 ((L.sortM (L.Sq.mk p.marks.n fun (i : Nat) ↦ L.rsMTo p.marks s p.gauges.n g_1 i)).g i).tone] = [SV.int .i64 ((L.rs p s).marks.g i).edge, SV.int .i64 ((L.rs p s).marks.g i).place, SV.int
 .i64 ((L.rs p s).marks.g i).tone]) ∧ p.id = (L.rs p s).id ∧ p.rev = (L.rs p s).colour ∧ p.colour = (L.rs p s).rev ∧ p.made = (L.rs p s).made ∧ p.swell = (L.rs p s).swell ∧ (p.gauges.n = (L.rs p s).gauges.n ∧ ∀ (i : Nat), i < p.gauges.n → [SV.int .i64 (L.rsTo p s g i).edge.lo, SV.int .i64 (L.rsTo p s g i).edge.hi, SV.int .i64 (L.rsTo p s g
 i).across.lo, SV.int .i64 (L.rsTo p s g i).across.hi, SV.int .i64 (L.rsTo p s g i).bend] = [SV.int .i64 ((L.rs p s).gauges.g i).edge.lo, SV.int .i64 ((L.rs p s).gauges.g i).edge.hi, SV.int .i64 ((L.rs p s).gauges.g i).across.lo, SV.int .i64 ((L.rs p s).gauges.g i).across.hi, SV.int .i64
 ((L.rs p s).gauges.g i).bend]) ∧ p.marks.n = (L.rs p s).marks.n ∧ ∀ (i : Nat), i < p.marks.n → [SV.int .i64 ((L.sortM (L.Sq.mk p.marks.n fun (i : Nat) ↦ L.rsMTo p.marks s p.gauges.n g_1 i)).g i).edge, SV.int .i64 ((L.sortM (L.Sq.mk p.marks.n fun (i : Nat) ↦ L.rsMTo p.marks s p.gauges.n g_1 i)).g i).place, SV.int .i64 ((L.sortM (L.Sq.mk p.marks.n fun
 (i : Nat) ↦ L.rsMTo p.marks s p.gauges.n g_1 i)).g i).tone] = [SV.int .i64 ((L.rs p s).marks.g i).edge, SV.int .i64 ((L.rs p s).marks.g i).place, SV.int .i64 ((L.rs p s).marks.g i).tone]) ∧ ((p.id = (L.rs p s).id ∧ p.rev = (L.rs p s).colour ∧ p.colour = (L.rs p s).rev ∧ p.made = (L.rs p s).made ∧ p.swell = (L.rs p s).swell ∧ (p.gauges.n = (L.rs p
 s).gauges.n ∧ ∀ (i : Nat), i < p.gauges.n → [SV.int .i64 (L.rsTo p s g i).edge.lo, SV.int .i64 (L.rsTo p s g i).edge.hi, SV.int .i64 (L.rsTo p s g i).across.lo, SV.int .i64 (L.rsTo p s g i).across.hi, SV.int .i64 (L.rsTo p s g i).bend] = [SV.int .i64 ((L.rs p s).gauges.g i).edge.lo, SV.int
 .i64 ((L.rs p s).gauges.g i).edge.hi, SV.int .i64 ((L.rs p s).gauges.g i).across.lo, SV.int .i64 ((L.rs p s).gauges.g i).across.hi, SV.int .i64 ((L.rs p s).gauges.g i).bend]) ∧ p.marks.n = (L.rs p s).marks.n ∧ ∀ (i : Nat), i < p.marks.n → [SV.int .i64 ((L.sortM (L.Sq.mk p.marks.n fun (i : Nat) ↦ L.rsMTo p.marks s p.gauges.n
 g_1 i)).g i).edge, SV.int .i64 ((L.sortM (L.Sq.mk p.marks.n fun (i : Nat) ↦ L.rsMTo p.marks s p.gauges.n g_1 i)).g i).place, SV.int .i64 ((L.sortM (L.Sq.mk p.marks.n fun (i : Nat) ↦ L.rsMTo p.marks s p.gauges.n g_1 i)).g i).tone] = [SV.int .i64 ((L.rs p s).marks.g i).edge, SV.int .i64 ((L.rs p s).marks.g i).place, SV.int
 .i64 ((L.rs p s).marks.g i).tone]) ∧ p.id = (L.rs p s).id ∧ p.rev = (L.rs p s).colour ∧ p.colour = (L.rs p s).rev ∧ p.made = (L.rs p s).made ∧ p.swell = (L.rs p s).swell ∧ (p.gauges.n = (L.rs p s).gauges.n ∧ ∀ (i : Nat), i < p.gauges.n → [SV.int .i64 (L.rsTo p s g i).edge.lo, SV.int .i64 (L.rsTo p s g i).edge.hi, SV.int .i64 (L.rsTo p s g
 i).across.lo, SV.int .i64 (L.rsTo p s g i).across.hi, SV.int .i64 (L.rsTo p s g i).bend] = [SV.int .i64 ((L.rs p s).gauges.g i).edge.lo, SV.int .i64 ((L.rs p s).gauges.g i).edge.hi, SV.int .i64 ((L.rs p s).gauges.g i).across.lo, SV.int .i64 ((L.rs p s).gauges.g i).across.hi, SV.int .i64
 ((L.rs p s).gauges.g i).bend]) ∧ p.marks.n = (L.rs p s).marks.n ∧ ∀ (i : Nat), i < p.marks.n → [SV.int .i64 ((L.sortM (L.Sq.mk p.marks.n fun (i : Nat) ↦ L.rsMTo p.marks s p.gauges.n g_1 i)).g i).edge, SV.int .i64 ((L.sortM (L.Sq.mk p.marks.n fun (i : Nat) ↦ L.rsMTo p.marks s p.gauges.n g_1 i)).g i).place, SV.int .i64 ((L.sortM (L.Sq.mk p.marks.n fun
 (i : Nat) ↦ L.rsMTo p.marks s p.gauges.n g_1 i)).g i).tone] = [SV.int .i64 ((L.rs p s).marks.g i).edge, SV.int .i64 ((L.rs p s).marks.g i).place, SV.int .i64 ((L.rs p s).marks.g i).tone]) ∧ p.id = (L.rs p s).id ∧ p.rev = (L.rs p s).colour ∧ p.colour = (L.rs p s).rev ∧ p.made = (L.rs p s).made ∧ p.swell = (L.rs p s).swell ∧ (p.gauges.n = (L.rs p
 s).gauges.n ∧ ∀ (i : Nat), i < p.gauges.n → [SV.int .i64 (L.rsTo p s g i).edge.lo, SV.int .i64 (L.rsTo p s g i).edge.hi, SV.int .i64 (L.rsTo p s g i).across.lo, SV.int .i64 (L.rsTo p s g i).across.hi, SV.int .i64 (L.rsTo p s g i).bend] = [SV.int .i64 ((L.rs p s).gauges.g i).edge.lo, SV.int
 .i64 ((L.rs p s).gauges.g i).edge.hi, SV.int .i64 ((L.rs p s).gauges.g i).across.lo, SV.int .i64 ((L.rs p s).gauges.g i).across.hi, SV.int .i64 ((L.rs p s).gauges.g i).bend]) ∧ p.marks.n = (L.rs p s).marks.n ∧ ∀ (i : Nat), i < p.marks.n → [SV.int .i64 ((L.sortM (L.Sq.mk p.marks.n fun (i : Nat) ↦ L.rsMTo p.marks s p.gauges.n
 g_1 i)).g i).edge, SV.int .i64 ((L.sortM (L.Sq.mk p.marks.n fun (i : Nat) ↦ L.rsMTo p.marks s p.gauges.n g_1 i)).g i).place, SV.int .i64 ((L.sortM (L.Sq.mk p.marks.n fun (i : Nat) ↦ L.rsMTo p.marks s p.gauges.n g_1 i)).g i).tone] = [SV.int .i64 ((L.rs p s).marks.g i).edge, SV.int .i64 ((L.rs p s).marks.g i).place, SV.int
 .i64 ((L.rs p s).marks.g i).tone]) ∧ ((p.id = (L.rs p s).id ∧ p.rev = (L.rs p s).colour ∧ p.colour = (L.rs p s).rev ∧ p.made = (L.rs p s).made ∧ p.swell = (L.rs p s).swell ∧ (p.gauges.n = (L.rs p s).gauges.n ∧ ∀ (i : Nat), i < p.gauges.n → [SV.int .i64 (L.rsTo p s g i).edge.lo, SV.int .i64 (L.rsTo p s g i).edge.hi, SV.int .i64 (L.rsTo p s g
 i).across.lo, SV.int .i64 (L.rsTo p s g i).across.hi, SV.int .i64 (L.rsTo p s g i).bend] = [SV.int .i64 ((L.rs p s).gauges.g i).edge.lo, SV.int .i64 ((L.rs p s).gauges.g i).edge.hi, SV.int .i64 ((L.rs p s).gauges.g i).across.lo, SV.int .i64 ((L.rs p s).gauges.g i).across.hi, SV.int .i64
 ((L.rs p s).gauges.g i).bend]) ∧ p.marks.n = (L.rs p s).marks.n ∧ ∀ (i : Nat), i < p.marks.n → [SV.int .i64 ((L.sortM (L.Sq.mk p.marks.n fun (i : Nat) ↦ L.rsMTo p.marks s p.gauges.n g_1 i)).g i).edge, SV.int .i64 ((L.sortM (L.Sq.mk p.marks.n fun (i : Nat) ↦ L.rsMTo p.marks s p.gauges.n g_1 i)).g i).place, SV.int .i64 ((L.sortM (L.Sq.mk p.marks.n fun
 (i : Nat) ↦ L.rsMTo p.marks s p.gauges.n g_1 i)).g i).tone] = [SV.int .i64 ((L.rs p s).marks.g i).edge, SV.int .i64 ((L.rs p s).marks.g i).place, SV.int .i64 ((L.rs p s).marks.g i).tone]) ∧ (p.id = (L.rs p s).id ∧ p.rev = (L.rs p s).colour ∧ p.colour = (L.rs p s).rev ∧ p.made = (L.rs p s).made ∧ p.swell = (L.rs p s).swell ∧ (p.gauges.n = (L.rs p
 s).gauges.n ∧ ∀ (i : Nat), i < p.gauges.n → [SV.int .i64 (L.rsTo p s g i).edge.lo, SV.int .i64 (L.rsTo p s g i).edge.hi, SV.int .i64 (L.rsTo p s g i).across.lo, SV.int .i64 (L.rsTo p s g i).across.hi, SV.int .i64 (L.rsTo p s g i).bend] = [SV.int .i64 ((L.rs p s).gauges.g i).edge.lo, SV.int
 .i64 ((L.rs p s).gauges.g i).edge.hi, SV.int .i64 ((L.rs p s).gauges.g i).across.lo, SV.int .i64 ((L.rs p s).gauges.g i).across.hi, SV.int .i64 ((L.rs p s).gauges.g i).bend]) ∧ p.marks.n = (L.rs p s).marks.n ∧ ∀ (i : Nat), i < p.marks.n → [SV.int .i64 ((L.sortM (L.Sq.mk p.marks.n fun (i : Nat) ↦ L.rsMTo p.marks s p.gauges.n
 g_1 i)).g i).edge, SV.int .i64 ((L.sortM (L.Sq.mk p.marks.n fun (i : Nat) ↦ L.rsMTo p.marks s p.gauges.n g_1 i)).g i).place, SV.int .i64 ((L.sortM (L.Sq.mk p.marks.n fun (i : Nat) ↦ L.rsMTo p.marks s p.gauges.n g_1 i)).g i).tone] = [SV.int .i64 ((L.rs p s).marks.g i).edge, SV.int .i64 ((L.rs p s).marks.g i).place, SV.int
 .i64 ((L.rs p s).marks.g i).tone]) ∧ p.id = (L.rs p s).id ∧ p.rev = (L.rs p s).colour ∧ p.colour = (L.rs p s).rev ∧ p.made = (L.rs p s).made ∧ p.swell = (L.rs p s).swell ∧ (p.gauges.n = (L.rs p s).gauges.n ∧ ∀ (i : Nat), i < p.gauges.n → [SV.int .i64 (L.rsTo p s g i).edge.lo, SV.int .i64 (L.rsTo p s g i).edge.hi, SV.int .i64 (L.rsTo p s g
 i).across.lo, SV.int .i64 (L.rsTo p s g i).across.hi, SV.int .i64 (L.rsTo p s g i).bend] = [SV.int .i64 ((L.rs p s).gauges.g i).edge.lo, SV.int .i64 ((L.rs p s).gauges.g i).edge.hi, SV.int .i64 ((L.rs p s).gauges.g i).across.lo, SV.int .i64 ((L.rs p s).gauges.g i).across.hi, SV.int .i64
 ((L.rs p s).gauges.g i).bend]) ∧ p.marks.n = (L.rs p s).marks.n ∧ ∀ (i : Nat), i < p.marks.n → [SV.int .i64 ((L.sortM (L.Sq.mk p.marks.n fun (i : Nat) ↦ L.rsMTo p.marks s p.gauges.n g_1 i)).g i).edge, SV.int .i64 ((L.sortM (L.Sq.mk p.marks.n fun (i : Nat) ↦ L.rsMTo p.marks s p.gauges.n g_1 i)).g i).place, SV.int .i64 ((L.sortM (L.Sq.mk p.marks.n fun
 (i : Nat) ↦ L.rsMTo p.marks s p.gauges.n g_1 i)).g i).tone] = [SV.int .i64 ((L.rs p s).marks.g i).edge, SV.int .i64 ((L.rs p s).marks.g i).place, SV.int .i64 ((L.rs p s).marks.g i).tone]) ∧ p.id = (L.rs p s).id ∧ p.rev = (L.rs p s).colour ∧ p.colour = (L.rs p s).rev ∧ p.made = (L.rs p s).made ∧ p.swell = (L.rs p s).swell ∧ (p.gauges.n = (L.rs p
 s).gauges.n ∧ ∀ (i : Nat), i < p.gauges.n → [SV.int .i64 (L.rsTo p s g i).edge.lo, SV.int .i64 (L.rsTo p s g i).edge.hi, SV.int .i64 (L.rsTo p s g i).across.lo, SV.int .i64 (L.rsTo p s g i).across.hi, SV.int .i64 (L.rsTo p s g i).bend] = [SV.int .i64 ((L.rs p s).gauges.g i).edge.lo, SV.int
 .i64 ((L.rs p s).gauges.g i).edge.hi, SV.int .i64 ((L.rs p s).gauges.g i).across.lo, SV.int .i64 ((L.rs p s).gauges.g i).across.hi, SV.int .i64 ((L.rs p s).gauges.g i).bend]) ∧ p.marks.n = (L.rs p s).marks.n ∧ ∀ (i : Nat), i < p.marks.n → [SV.int .i64 ((L.sortM (L.Sq.mk p.marks.n fun (i : Nat) ↦ L.rsMTo p.marks s p.gauges.n
 g_1 i)).g i).edge, SV.int .i64 ((L.sortM (L.Sq.mk p.marks.n fun (i : Nat) ↦ L.rsMTo p.marks s p.gauges.n g_1 i)).g i).place, SV.int .i64 ((L.sortM (L.Sq.mk p.marks.n fun (i : Nat) ↦ L.rsMTo p.marks s p.gauges.n g_1 i)).g i).tone] = [SV.int .i64 ((L.rs p s).marks.g i).edge, SV.int .i64 ((L.rs p s).marks.g i).place, SV.int
 .i64 ((L.rs p s).marks.g i).tone]) ∧ (((p.id = (L.rs p s).id ∧ p.rev = (L.rs p s).colour ∧ p.colour = (L.rs p s).rev ∧ p.made = (L.rs p s).made ∧ p.swell = (L.rs p s).swell ∧ (p.gauges.n = (L.rs p s).gauges.n ∧ ∀ (i : Nat), i < p.gauges.n → [SV.int .i64 (L.rsTo p s g i).edge.lo, SV.int .i64 (L.rsTo p s g i).edge.hi, SV.int .i64 (L.rsTo p s
 g i).across.lo, SV.int .i64 (L.rsTo p s g i).across.hi, SV.int .i64 (L.rsTo p s g i).bend] = [SV.int .i64 ((L.rs p s).gauges.g i).edge.lo, SV.int .i64 ((L.rs p s).gauges.g i).edge.hi, SV.int .i64 ((L.rs p s).gauges.g i).across.lo, SV.int .i64 ((L.rs p s).gauges.g i).across.hi, SV.int
 .i64 ((L.rs p s).gauges.g i).bend]) ∧ p.marks.n = (L.rs p s).marks.n ∧ ∀ (i : Nat), i < p.marks.n → [SV.int .i64 ((L.sortM (L.Sq.mk p.marks.n fun (i : Nat) ↦ L.rsMTo p.marks s p.gauges.n g_1 i)).g i).edge, SV.int .i64 ((L.sortM (L.Sq.mk p.marks.n fun (i : Nat) ↦ L.rsMTo p.marks s p.gauges.n g_1 i)).g i).place, SV.int .i64 ((L.sortM (L.Sq.mk
 p.marks.n fun (i : Nat) ↦ L.rsMTo p.marks s p.gauges.n g_1 i)).g i).tone] = [SV.int .i64 ((L.rs p s).marks.g i).edge, SV.int .i64 ((L.rs p s).marks.g i).place, SV.int .i64 ((L.rs p s).marks.g i).tone]) ∧ (p.id = (L.rs p s).id ∧ p.rev = (L.rs p s).colour ∧ p.colour = (L.rs p s).rev ∧ p.made = (L.rs p s).made ∧ p.swell = (L.rs p s).swell ∧ (p.gauges.n
 = (L.rs p s).gauges.n ∧ ∀ (i : Nat), i < p.gauges.n → [SV.int .i64 (L.rsTo p s g i).edge.lo, SV.int .i64 (L.rsTo p s g i).edge.hi, SV.int .i64 (L.rsTo p s g i).across.lo, SV.int .i64 (L.rsTo p s g i).across.hi, SV.int .i64 (L.rsTo p s g i).bend] = [SV.int .i64 ((L.rs p s).gauges.g i).edge.lo,
 SV.int .i64 ((L.rs p s).gauges.g i).edge.hi, SV.int .i64 ((L.rs p s).gauges.g i).across.lo, SV.int .i64 ((L.rs p s).gauges.g i).across.hi, SV.int .i64 ((L.rs p s).gauges.g i).bend]) ∧ p.marks.n = (L.rs p s).marks.n ∧ ∀ (i : Nat), i < p.marks.n → [SV.int .i64 ((L.sortM (L.Sq.mk p.marks.n fun (i : Nat) ↦ L.rsMTo p.marks
 s p.gauges.n g_1 i)).g i).edge, SV.int .i64 ((L.sortM (L.Sq.mk p.marks.n fun (i : Nat) ↦ L.rsMTo p.marks s p.gauges.n g_1 i)).g i).place, SV.int .i64 ((L.sortM (L.Sq.mk p.marks.n fun (i : Nat) ↦ L.rsMTo p.marks s p.gauges.n g_1 i)).g i).tone] = [SV.int .i64 ((L.rs p s).marks.g i).edge, SV.int .i64 ((L.rs p s).marks.g i).place,
 SV.int .i64 ((L.rs p s).marks.g i).tone]) ∧ p.id = (L.rs p s).id ∧ p.rev = (L.rs p s).colour ∧ p.colour = (L.rs p s).rev ∧ p.made = (L.rs p s).made ∧ p.swell = (L.rs p s).swell ∧ (p.gauges.n = (L.rs p s).gauges.n ∧ ∀ (i : Nat), i < p.gauges.n → [SV.int .i64 (L.rsTo p s g i).edge.lo, SV.int .i64 (L.rsTo p s g i).edge.hi, SV.int .i64
 (L.rsTo p s g i).across.lo, SV.int .i64 (L.rsTo p s g i).across.hi, SV.int .i64 (L.rsTo p s g i).bend] = [SV.int .i64 ((L.rs p s).gauges.g i).edge.lo, SV.int .i64 ((L.rs p s).gauges.g i).edge.hi, SV.int .i64 ((L.rs p s).gauges.g i).across.lo, SV.int .i64 ((L.rs p s).gauges.g i).across.hi, SV.int
 .i64 ((L.rs p s).gauges.g i).bend]) ∧ p.marks.n = (L.rs p s).marks.n ∧ ∀ (i : Nat), i < p.marks.n → [SV.int .i64 ((L.sortM (L.Sq.mk p.marks.n fun (i : Nat) ↦ L.rsMTo p.marks s p.gauges.n g_1 i)).g i).edge, SV.int .i64 ((L.sortM (L.Sq.mk p.marks.n fun (i : Nat) ↦ L.rsMTo p.marks s p.gauges.n g_1 i)).g i).place, SV.int .i64 ((L.sortM (L.Sq.mk
 p.marks.n fun (i : Nat) ↦ L.rsMTo p.marks s p.gauges.n g_1 i)).g i).tone] = [SV.int .i64 ((L.rs p s).marks.g i).edge, SV.int .i64 ((L.rs p s).marks.g i).place, SV.int .i64 ((L.rs p s).marks.g i).tone]) ∧ p.id = (L.rs p s).id ∧ p.rev = (L.rs p s).colour ∧ p.colour = (L.rs p s).rev ∧ p.made = (L.rs p s).made ∧ p.swell = (L.rs p s).swell ∧ (p.gauges.n =
 (L.rs p s).gauges.n ∧ ∀ (i : Nat), i < p.gauges.n → [SV.int .i64 (L.rsTo p s g i).edge.lo, SV.int .i64 (L.rsTo p s g i).edge.hi, SV.int .i64 (L.rsTo p s g i).across.lo, SV.int .i64 (L.rsTo p s g i).across.hi, SV.int .i64 (L.rsTo p s g i).bend] = [SV.int .i64 ((L.rs p s).gauges.g i).edge.lo, SV.int
 .i64 ((L.rs p s).gauges.g i).edge.hi, SV.int .i64 ((L.rs p s).gauges.g i).across.lo, SV.int .i64 ((L.rs p s).gauges.g i).across.hi, SV.int .i64 ((L.rs p s).gauges.g i).bend]) ∧ p.marks.n = (L.rs p s).marks.n ∧ ∀ (i : Nat), i < p.marks.n → [SV.int .i64 ((L.sortM (L.Sq.mk p.marks.n fun (i : Nat) ↦ L.rsMTo p.marks s p.gauges.n
 g_1 i)).g i).edge, SV.int .i64 ((L.sortM (L.Sq.mk p.marks.n fun (i : Nat) ↦ L.rsMTo p.marks s p.gauges.n g_1 i)).g i).place, SV.int .i64 ((L.sortM (L.Sq.mk p.marks.n fun (i : Nat) ↦ L.rsMTo p.marks s p.gauges.n g_1 i)).g i).tone] = [SV.int .i64 ((L.rs p s).marks.g i).edge, SV.int .i64 ((L.rs p s).marks.g i).place, SV.int
 .i64 ((L.rs p s).marks.g i).tone]) ∧ p.id = (L.rs p s).id ∧ p.rev = (L.rs p s).colour ∧ p.colour = (L.rs p s).rev ∧ p.made = (L.rs p s).made ∧ p.swell = (L.rs p s).swell ∧ (p.gauges.n = (L.rs p s).gauges.n ∧ ∀ (i : Nat), i < p.gauges.n → [SV.int .i64 (L.rsTo p s g i).edge.lo, SV.int .i64 (L.rsTo p s g i).edge.hi, SV.int .i64 (L.rsTo p s g
 i).across.lo, SV.int .i64 (L.rsTo p s g i).across.hi, SV.int .i64 (L.rsTo p s g i).bend] = [SV.int .i64 ((L.rs p s).gauges.g i).edge.lo, SV.int .i64 ((L.rs p s).gauges.g i).edge.hi, SV.int .i64 ((L.rs p s).gauges.g i).across.lo, SV.int .i64 ((L.rs p s).gauges.g i).across.hi, SV.int .i64
 ((L.rs p s).gauges.g i).bend]) ∧ p.marks.n = (L.rs p s).marks.n ∧ ∀ (i : Nat), i < p.marks.n → [SV.int .i64 ((L.sortM (L.Sq.mk p.marks.n fun (i : Nat) ↦ L.rsMTo p.marks s p.gauges.n g_1 i)).g i).edge, SV.int .i64 ((L.sortM (L.Sq.mk p.marks.n fun (i : Nat) ↦ L.rsMTo p.marks s p.gauges.n g_1 i)).g i).place, SV.int .i64 ((L.sortM (L.Sq.mk p.marks.n fun
 (i : Nat) ↦ L.rsMTo p.marks s p.gauges.n g_1 i)).g i).tone] = [SV.int .i64 ((L.rs p s).marks.g i).edge, SV.int .i64 ((L.rs p s).marks.g i).place, SV.int .i64 ((L.rs p s).marks.g i).tone]) ∧ (s.back = false → p.id = (L.rs p s).id ∧ p.colour = (L.rs p s).colour ∧ p.rev = (L.rs p s).rev ∧ p.made = (L.rs p s).made ∧ p.swell = (L.rs p s).swell ∧
 (p.gauges.n = (L.rs p s).gauges.n ∧ ∀ (i : Nat), i < p.gauges.n → [SV.int .i64 (L.rsTo p s g i).edge.lo, SV.int .i64 (L.rsTo p s g i).edge.hi, SV.int .i64 (L.rsTo p s g i).across.lo, SV.int .i64 (L.rsTo p s g i).across.hi, SV.int .i64 (L.rsTo p s g i).bend] = [SV.int .i64 ((L.rs p s).gauges.g
 i).edge.lo, SV.int .i64 ((L.rs p s).gauges.g i).edge.hi, SV.int .i64 ((L.rs p s).gauges.g i).across.lo, SV.int .i64 ((L.rs p s).gauges.g i).across.hi, SV.int .i64 ((L.rs p s).gauges.g i).bend]) ∧ p.marks.n = (L.rs p s).marks.n ∧ ∀ (i : Nat), i < p.marks.n → [SV.int .i64 ((L.sortM (L.Sq.mk p.marks.n fun (i : Nat) ↦
 L.rsMTo p.marks s p.gauges.n g_1 i)).g i).edge, SV.int .i64 ((L.sortM (L.Sq.mk p.marks.n fun (i : Nat) ↦ L.rsMTo p.marks s p.gauges.n g_1 i)).g i).place, SV.int .i64 ((L.sortM (L.Sq.mk p.marks.n fun (i : Nat) ↦ L.rsMTo p.marks s p.gauges.n g_1 i)).g i).tone] = [SV.int .i64 ((L.rs p s).marks.g i).edge, SV.int .i64 ((L.rs p s).marks.g
 i).place, SV.int .i64 ((L.rs p s).marks.g i).tone])))) (by kernel_rfl) (by
    obtain ⟨hv, hs⟩ := hp
    obtain ⟨_, hg0, hm0⟩ := piece_of hv
    have hgn := gauges_n hg0
    have hmk := marks_in hm0
    have hn0 : 0 < p.gauges.n := by omega
    refine ⟨⟨by omega, Int.le_refl _, show (p.gauges.n : Int) * 40 ≤ 140737488355328 by omega⟩, ⟨(0 : Nat), rfl, ⟨Int.toNat_natCast _, fun i _ => ?_⟩, Nat.zero_le _⟩, fun g hg => ⟨fun hlt => ?_, fun hge => ?_⟩⟩
    · unfold L.rsTo; rw [decide_eq_false (Nat.not_lt_zero _)]; rfl
    · have hb : (g : Int) < (p.gauges.n : Int) := of_decide_eq_true hlt
      have hgl : g < p.gauges.n := by omega
      have hE := ed_ok hs (i := (g : Int)) (by omega) hb
      obtain ⟨a1, a2, _⟩ := rsI_lay hs hgl
      have e0 : ((g : Int)).toNat = g := Int.toNat_natCast g
      rw [hE.2, e0]
      have row : ∀ v : L.Gauge, v = L.rsG1 p s g → ∀ i, i < p.gauges.n → setRow (fun (j : Nat) => [.int .i64 ((L.rsTo p s g j).edge.lo), .int .i64 ((L.rsTo p s g j).edge.hi), .int .i64 ((L.rsTo p s g j).across.lo), .int .i64 ((L.rsTo p s g j).across.hi), .int .i64 ((L.rsTo p s g j).bend)]) (L.lay s p.gauges.n g).toNat 0 [.int .i64 v.edge.lo, .int .i64 v.edge.hi, .int .i64 v.across.lo, .int .i64 v.across.hi, .int .i64 v.bend] i = [.int .i64 ((L.rsTo p s (g + 1) i).edge.lo), .int .i64 ((L.rsTo p s (g + 1) i).edge.hi), .int .i64 ((L.rsTo p s (g + 1) i).across.lo), .int .i64 ((L.rsTo p s (g + 1) i).across.hi), .int .i64 ((L.rsTo p s (g + 1) i).bend)] := fun v hv i hi => by
        rw [rsTo_step hs hgl hi]
        unfold setRow
        by_cases h : i = (L.lay s p.gauges.n g).toNat
        · rw [if_pos h, if_pos h, hv]; rfl
        · rw [if_neg h, if_neg h]
      refine ⟨⟨by omega, hb⟩, trivial, fun hk => ⟨InK.of (by omega) (by omega), InK.of (by omega) (by omega), by omega, ⟨Int.tmod_nonneg _ (by omega), Int.tmod_lt_of_pos _ (by omega)⟩, fif ?_⟩, fun hk => ?_⟩
      · have hw := row ⟨(p.gauges.g g).edge, (p.gauges.g (L.prev p.gauges.n g)).across, (p.gauges.g (L.prev p.gauges.n g)).bend⟩ (by unfold L.rsG1; rw [hk]; rfl)
        exact ⟨⟨a1, a2⟩, by omega, InK.of (by omega) (by omega), g + 1, by omega, rfl, ⟨rfl, fun _ _ => rfl⟩, rfl, rfl, rfl, rfl, rfl, ⟨rfl, hw⟩, rfl, rfl, rfl, rfl, rfl, ⟨rfl, fun _ _ => rfl⟩, rfl, rfl, rfl, rfl, rfl, rfl, rfl, by omega, by omega⟩
      · have hw := row (p.gauges.g g) (by unfold L.rsG1; rw [hk]; rfl)
        exact ⟨⟨a1, a2⟩, by omega, InK.of (by omega) (by omega), g + 1, by omega, rfl, ⟨rfl, fun _ _ => rfl⟩, rfl, rfl, rfl, rfl, rfl, ⟨rfl, hw⟩, rfl, rfl, rfl, rfl, rfl, ⟨rfl, fun _ _ => rfl⟩, rfl, rfl, rfl, rfl, rfl, rfl, rfl, by omega, by omega⟩
    have hb : ¬ (g : Int) < (p.gauges.n : Int) := of_decide_eq_false hge
    obtain rfl : g = p.gauges.n := by omega
    refine ⟨⟨fun _ _ => rfl, by omega⟩, fun t _ => ⟨⟨(0 : Nat), rfl, ⟨rfl, fun i _ => ?_⟩, Nat.zero_le _⟩, fun q hq => ⟨fun hlt => ?_, fun hge => ?_⟩⟩⟩
    · have : L.rsMTo p.marks s p.gauges.n 0 i = p.marks.g i := by unfold L.rsMTo; rw [decide_eq_false (Nat.not_lt_zero _)]; rfl
      rw [this]
    · have hq1 : (q : Int) < (p.marks.n : Int) := of_decide_eq_true hlt
      obtain ⟨m1, m2, _⟩ := hmk.2 q (by omega)
      have hE := ed_ok hs m1.1 m1.2
      have e0 : ((q : Int)).toNat = q := Int.toNat_natCast q
      rw [e0, rsMTo_at, hE.2]
      have w0 : L.rsM1 s p.gauges.n (p.marks.g q) = ⟨L.lay s p.gauges.n (p.marks.g q).edge, bif s.back then 16 - (p.marks.g q).place else (p.marks.g q).place, (p.marks.g q).tone⟩ := rfl
      refine ⟨⟨by omega, hq1⟩, by omega, trivial, ⟨by omega, hq1⟩, by omega, fun hk => ?_, fun hk => ?_⟩
      · refine ⟨InK.of (by omega) (by omega), ⟨by omega, hq1⟩, by omega, InK.of (by omega) (by omega), q + 1, by omega, rfl, rfl, rfl, rfl, rfl, rfl, ⟨rfl, fun i hi => ?_⟩, ⟨rfl, fun _ _ => rfl⟩, rfl, rfl, rfl, rfl, rfl, rfl, rfl, rfl, rfl, rfl, rfl, rfl, by omega, by omega⟩
        rw [rsMTo_step, w0, hk]
        unfold setRow
        by_cases h : i = q
        · rw [if_pos h, if_pos h, if_pos h, h]; simp only [rsMTo_at]; rfl
        · rw [if_neg h, if_neg h, if_neg h]
      · refine ⟨InK.of (by omega) (by omega), q + 1, by omega, rfl, rfl, rfl, rfl, rfl, rfl, ⟨rfl, fun i hi => ?_⟩, ⟨rfl, fun _ _ => rfl⟩, rfl, rfl, rfl, rfl, rfl, rfl, rfl, rfl, rfl, rfl, rfl, rfl, by omega, by omega⟩
        rw [rsMTo_step, w0, hk]
        unfold setRow
        by_cases h : i = q
        · rw [if_pos h, if_pos h, h]; simp only [rsMTo_at]; rfl
        · rw [if_neg h, if_neg h]
    have hq1 : ¬ (q : Int) < (p.marks.n : Int) := of_decide_eq_false hge
    obtain rfl : q = p.marks.n := by omega
    have e2 : L.sortM ⟨p.marks.n, fun i => L.rsMTo p.marks s p.gauges.n p.marks.n i⟩ = L.sortM (L.rsMs p.marks s p.gauges.n) := sortM_congr fun k hk => by
      unfold L.rsMTo; rw [decide_eq_true hk]; rfl
    have e1 : ∀ i, i < p.gauges.n → ([.int .i64 ((L.rsTo p s p.gauges.n i).edge.lo), .int .i64 ((L.rsTo p s p.gauges.n i).edge.hi), .int .i64 ((L.rsTo p s p.gauges.n i).across.lo), .int .i64 ((L.rsTo p s p.gauges.n i).across.hi), .int .i64 ((L.rsTo p s p.gauges.n i).bend)] : List SV) = [.int .i64 (((L.rs p s).gauges.g i).edge.lo), .int .i64 (((L.rs p s).gauges.g i).edge.hi), .int .i64 (((L.rs p s).gauges.g i).across.lo), .int .i64 (((L.rs p s).gauges.g i).across.hi), .int .i64 (((L.rs p s).gauges.g i).bend)] := fun i _ => by
      rw [rsTo_full (p := p) (s := s) hn0 i]; rfl
    have e3 : ∀ i, i < p.marks.n → ([.int .i64 (((L.sortM ⟨p.marks.n, fun i => L.rsMTo p.marks s p.gauges.n p.marks.n i⟩).g i).edge), .int .i64 (((L.sortM ⟨p.marks.n, fun i => L.rsMTo p.marks s p.gauges.n p.marks.n i⟩).g i).place), .int .i64 (((L.sortM ⟨p.marks.n, fun i => L.rsMTo p.marks s p.gauges.n p.marks.n i⟩).g i).tone)] : List SV) = [.int .i64 (((L.rs p s).marks.g i).edge), .int .i64 (((L.rs p s).marks.g i).place), .int .i64 (((L.rs p s).marks.g i).tone)] := fun i _ => by
      rw [e2]; rfl
    refine ⟨⟨fun _ _ => rfl, by omega⟩, fun t _ => ⟨fun _ _ => rfl, fun hk => fif ?_, fun hk => ?_⟩⟩
    · have c1 : p.rev = (L.rs p s).colour := by unfold L.rs; rw [hk]; rfl
      have c2 : p.colour = (L.rs p s).rev := by unfold L.rs; rw [hk]; rfl
      exact ⟨rfl, c1, c2, rfl, rfl, ⟨rfl, e1⟩, rfl, e3⟩
    · have c1 : p.colour = (L.rs p s).colour := by unfold L.rs; rw [hk]; rfl
      have c2 : p.rev = (L.rs p s).rev := by unfold L.rs; rw [hk]; rfl
      exact ⟨rfl, c1, c2, rfl, rfl, ⟨rfl, e1⟩, rfl, e3⟩)
theorem g_reset_ok : SpecOk Tryz.prog 62 g_reset_S := fnX Tryz.func62 (c := bodyOf Tryz.f62) (by kernel_rfl) mixed (fun args p r hs hp => by
  unfold g_reset_s at hs
  split at hs
  · cases hs; exact ⟨_, _, g_reset_vc _ _ hp.2.2, (.p (.agg rfl (fun i hi => by
      rcases i with _ | i
      · exact (Ext.refl _ : Ext _ _)
      rcases i with _ | i
      · exact (Ext.refl _ : Ext _ _)
      rcases i with _ | i
      · exact (Ext.refl _ : Ext _ _)
      rcases i with _ | i
      · exact (Ext.refl _ : Ext _ _)
      rcases i with _ | i
      · exact (Ext.refl _ : Ext _ _)
      rcases i with _ | i
      · exact (Ext.sl hp.1 : Ext _ _)
      rcases i with _ | i
      · exact (Ext.sl hp.2.1 : Ext _ _)
      exact absurd hi (by simp; try omega))) (.same _ .nil)), ⟨show SpecsL Tryz.prog _ from (SpecsL.cons p_Edge_ok p_Edge_en (SpecsL.cons s_cloneM_ok s_cloneM_en (SpecsL.cons g_sortedM_ok g_sortedM_en (SpecsL.cons g_cmpMarks_ok g_cmpMarks_en SpecsL.nil)))), rfl, ⟨show ItersL Tryz.prog _ from ItersL.nil, (TrsOk.none (fun _ => rfl))⟩⟩⟩
  · cases hs)
theorem g_reset_en : Enters Tryz.prog 62 := fun args w => by kernel_rfl
end Go.Proofs.YtooapgllahonaaaGreat

namespace Go.Proofs.YtooapgllahonaaaGreat
open Go.SE Go.RowKit
set_option maxRecDepth 100000
set_option maxHeartbeats 4000000
set_option linter.unusedVariables false
attribute [local irreducible] vc

def L.srt (l : L.Sq L.Mark) (i : Nat) : L.Sq L.Mark := L.sortM ⟨i, l.g⟩
theorem ins_getD (S : List L.Mark) (x : L.Mark) (k j : Nat) (hk : k ≤ S.length) (d : L.Mark) : (S.take k ++ x :: S.drop k).getD j d = if j < k then S.getD j d else if j = k then x else S.getD (j - 1) d := by
  have hl : (S.take k).length = k := by rw [List.length_take]; omega
  by_cases h1 : j < k
  · rw [if_pos h1, List.getD_eq_getElem?_getD, List.getElem?_append_left (by omega), List.getElem?_take, if_pos h1, List.getD_eq_getElem?_getD]
  · rw [if_neg h1, List.getD_eq_getElem?_getD, List.getElem?_append_right (by omega), hl]
    by_cases h2 : j = k
    · rw [if_pos h2, h2, Nat.sub_self]; rfl
    · rw [if_neg h2]
      obtain ⟨m, rfl⟩ : ∃ m, j = k + 1 + m := ⟨j - k - 1, by omega⟩
      rw [show k + 1 + m - k = m + 1 by omega, List.getElem?_cons_succ, List.getElem?_drop, List.getD_eq_getElem?_getD, show k + 1 + m - 1 = k + m by omega]
theorem leMk_of_lt {a b : L.Mark} (h : L.cmpMark a b < 0) : L.leMk a b := Int.le_of_lt h
theorem ins_at {l : L.Sq L.Mark} {i k : Nat} (hk : k ≤ i) (h1 : ∀ j, k ≤ j → j < i → L.earlier (l.g i) ((L.srt l i).g j) = true) (h2 : 0 < k → L.earlier (l.g i) ((L.srt l i).g (k - 1)) = false) (j : Nat) : (L.srt l (i + 1)).g j = if j < k then (L.srt l i).g j else if j = k then l.g i else (L.srt l i).g (j - 1) := by
  have hS : ∀ j, (L.srt l i).g j = (L.isortMk (L.listMk ⟨i, l.g⟩)).getD j ⟨0, 0, 0⟩ := fun j => rfl
  have hT : ∀ j, (L.srt l (i + 1)).g j = (L.isortMk (L.listMk ⟨i + 1, l.g⟩)).getD j ⟨0, 0, 0⟩ := fun j => rfl
  have hlen : (L.isortMk (L.listMk ⟨i, l.g⟩)).length = i := by rw [(isortMk_perm _).length_eq]; simp [L.listMk]
  have hasc := isortMk_asc (L.listMk ⟨i, l.g⟩)
  have hperm := isortMk_perm (L.listMk ⟨i, l.g⟩)
  rw [hT, hS, hS]
  simp only [hS] at h1 h2
  generalize L.isortMk (L.listMk ⟨i, l.g⟩) = S at *
  have key : L.isortMk (L.listMk ⟨i + 1, l.g⟩) = S.take k ++ l.g i :: S.drop k := by
    refine List.Perm.eq_of_pairwise (le := L.leMk) (fun a b _ _ => leMk_anti) (isortMk_asc _) ?_ ?_
    · have hd : S.take k ++ S.drop k = S := List.take_append_drop k S
      have hpt : ∀ a, a ∈ S.take k → L.leMk a (l.g i) := fun a ha => by
        obtain ⟨q, hq, rfl⟩ := List.getElem_of_mem ha
        rw [List.length_take] at hq
        have h3 := h2 (by omega)
        rw [List.getElem_take]
        have h4 : L.leMk (S.getD (k - 1) ⟨0, 0, 0⟩) (l.g i) := by
          rcases leMk_total (S.getD (k - 1) ⟨0, 0, 0⟩) (l.g i) with h5 | h5
          · exact h5
          · have h6 : ¬ L.cmpMark (l.g i) (S.getD (k - 1) ⟨0, 0, 0⟩) < 0 := fun h => by rw [cmpMark_lt, h3] at h; cases h
            unfold L.leMk at h5 ⊢
            rw [cmpMk_lt] at h6
            rw [cmpMk_le] at h5 ⊢
            omega
        rw [List.getD_eq_getElem?_getD, List.getElem?_eq_getElem (by omega)] at h4
        rcases Nat.lt_or_ge q (k - 1) with hlt | hge
        · exact leMk_trans (List.pairwise_iff_getElem.1 hasc q (k - 1) (by omega) (by omega) hlt) h4
        · obtain rfl : q = k - 1 := by omega
          exact h4
      have hdp : ∀ b, b ∈ S.drop k → L.leMk (l.g i) b := fun b hb => by
        obtain ⟨q, hq, rfl⟩ := List.getElem_of_mem hb
        rw [List.length_drop] at hq
        rw [List.getElem_drop]
        have h3 := h1 (k + q) (by omega) (by omega)
        rw [List.getD_eq_getElem?_getD, List.getElem?_eq_getElem (by omega)] at h3
        exact leMk_of_lt (cmpMark_lt.2 h3)
      rw [List.pairwise_append, List.pairwise_cons]
      have hasc' := hasc
      rw [← hd, List.pairwise_append] at hasc'
      refine ⟨hasc'.1, ⟨hdp, hasc'.2.1⟩, fun a ha b hb => ?_⟩
      rcases List.mem_cons.1 hb with rfl | hb
      · exact hpt a ha
      · exact leMk_trans (hpt a ha) (hdp b hb)
    · have e : L.listMk ⟨i + 1, l.g⟩ = L.listMk ⟨i, l.g⟩ ++ [l.g i] := by
        unfold L.listMk
        show (List.range (i + 1)).map l.g = (List.range i).map l.g ++ [l.g i]
        rw [List.range_succ, List.map_append]; rfl
      refine (isortMk_perm _).trans ?_
      rw [e]
      refine (List.perm_append_comm).trans ?_
      have h3 : (S.take k ++ l.g i :: S.drop k).Perm (l.g i :: (S.take k ++ S.drop k)) := List.perm_middle
      rw [List.take_append_drop] at h3
      exact ((hperm.symm.cons (l.g i)).trans h3.symm)
  rw [key]
  exact ins_getD S (l.g i) k j (by omega) _
def r3_inOrder_p (l : (L.Sq L.Mark)) : Prop := l.n ≤ 1000000
def r3_inOrder_q (l : (L.Sq L.Mark)) : Nat → Prop := fun _ => True
def r3_inOrder_n (l : (L.Sq L.Mark)) : Nat → Nat := fun _ => l.n
def r3_inOrder_g (l : (L.Sq L.Mark)) : Nat → Nat → List SV := fun _ k => [.int .i64 (((L.sortM l).g k).edge), .int .i64 (((L.sortM l).g k).place), .int .i64 (((L.sortM l).g k).tone)]
def r3_inOrder_s : List EV → Option (Prop × (Nat → Prop) × (Nat → Nat) × (Nat → Nat → List SV))
  | [.p (.sl 3 l_n l_g)] => some ((∀ i, i < l_n → l_g i = [.int .i64 ((ofMark (l_g i)).edge), .int .i64 ((ofMark (l_g i)).place), .int .i64 ((ofMark (l_g i)).tone)]) ∧ r3_inOrder_p (⟨l_n, fun i => ofMark (l_g i)⟩ : (L.Sq L.Mark)), r3_inOrder_q (⟨l_n, fun i => ofMark (l_g i)⟩ : (L.Sq L.Mark)), r3_inOrder_n (⟨l_n, fun i => ofMark (l_g i)⟩ : (L.Sq L.Mark)), r3_inOrder_g (⟨l_n, fun i => ofMark (l_g i)⟩ : (L.Sq L.Mark)))
  | _ => none
abbrev r3_inOrder_S : SE.Spec := (specF Nat 0 87 3 r3_inOrder_s)
def r3_inOrder_C : Cfg := { muts := [], frz := lookN [(5, [35])], specs := lookS [(158, r3_earlier_S)], loops := fun _ => none, iters := lookI [], rfs := lookR [], nils := lookM [(2, [(3, 35, 87, 3)]), (9, [(6, 35, 87, 3)])] }
theorem r3_inOrder_vc (l : (L.Sq L.Mark)) (hp : r3_inOrder_p l) : vc Tryz.prog ({ r3_inOrder_C with loops := lookL [(3, { T := Nat, keep := [0], keepO := [], chg := fun i => [(3, .row 35), (4, .p (.int .i64 (i : Int)))], own := fun i => [(35, .row 87 3 i (fun k => [.int .i64 (((L.srt l i).g k).edge), .int .i64 (((L.srt l i).g k).place), .int .i64 (((L.srt l i).g k).tone)]))], inv := fun i => i ≤ l.n, mu := fun i => l.n - i }), (6, { T := Nat × Nat, keep := [0, 3, 4], keepO := [], tie := fun g => [(4, .int .i64 (g.1 : Int)), (3, .sl 3 g.1 (fun k => [.int .i64 (((L.srt l g.1).g k).edge), .int .i64 (((L.srt l g.1).g k).place), .int .i64 (((L.srt l g.1).g k).tone)]))], chg := fun g => [(5, .p (.int .i64 (g.2 : Int)))], own := fun _ => [], inv := fun g => g.1 < l.n ∧ g.2 ≤ g.1 ∧ ∀ j, g.2 ≤ j → j < g.1 → L.earlier (l.g g.1) ((L.srt l g.1).g j) = true, mu := fun g => g.2 })], rfs := lookR [] }) (bodyOf Tryz.f179) (st0 Tryz.f179 [.p (.sl 3 l.n (fun i => [.int .i64 ((l.g i).edge), .int .i64 ((l.g i).place), .int .i64 ((l.g i).tone)]))]) (retFresh Tryz.prog Tryz.f179 (Nat) (r3_inOrder_q l) 87 3 (r3_inOrder_n l) (r3_inOrder_g l)) :=
  @Eq.mpr _ ((∃ (g : Nat), (0 : Int) = (↑g : Int) ∧ (nat_lit 0 = g ∧ ∀ (i : Nat), i < nat_lit 0 → [] = [SV.int .i64 ((L.srt l g).g i).edge, SV.int .i64 ((L.srt l g).g i).place, SV.int .i64 ((L.srt l g).g i).tone]) ∧ g ≤ l.n) ∧ ∀ (g : Nat), g ≤ l.n → (decide ((↑g : Int) < (↑l.n : Int)) = true → (∃ (g_1 : Nat × Nat), (↑g : Int) = (↑g_1.2 : Int) ∧ (↑g
 : Int) = (↑g_1.1 : Int) ∧ (g = g_1.1 ∧ ∀ (i : Nat), i < g → [SV.int .i64 ((L.srt l g).g i).edge, SV.int .i64 ((L.srt l g).g i).place, SV.int .i64 ((L.srt l g).g i).tone] = [SV.int .i64 ((L.srt l g_1.1).g i).edge, SV.int .i64 ((L.srt l g_1.1).g i).place, SV.int .i64 ((L.srt l g_1.1).g i).tone]) ∧ g_1.1 <
 l.n ∧ g_1.2 ≤ g_1.1 ∧ ∀ (j : Nat), g_1.2 ≤ j → j < g_1.1 → L.earlier (l.g g_1.1) ((L.srt l g_1.1).g j) = true) ∧ ∀ (g_1 : Nat × Nat), ((↑g : Int) = (↑g_1.1 : Int) ∧ (g = g_1.1 ∧ ∀ (i : Nat), i < g → [SV.int .i64 ((L.srt l g).g i).edge, SV.int .i64 ((L.srt l g).g i).place, SV.int .i64 ((L.srt l g).g i).tone] = [SV.int .i64 ((L.srt
 l g_1.1).g i).edge, SV.int .i64 ((L.srt l g_1.1).g i).place, SV.int .i64 ((L.srt l g_1.1).g i).tone]) ∧ g_1.1 < l.n ∧ g_1.2 ≤ g_1.1 ∧ ∀ (j : Nat), g_1.2 ≤ j → j < g_1.1 → L.earlier (l.g g_1.1) ((L.srt l g_1.1).g j) = true) → (decide ((0 : Int) < (↑g_1.2 : Int)) = true → (0 : Int) ≤ (↑g : Int) ∧ (↑g : Int) < (↑l.n : Int)) ∧ (decide ((0 :
 Int) < (↑g_1.2 : Int)) = true → InK .i64 ((↑g_1.2 : Int) - (1 : Int))) ∧ (decide ((0 : Int) < (↑g_1.2 : Int)) = true → (0 : Int) ≤ (↑g_1.2 : Int) - (1 : Int) ∧ (↑g_1.2 : Int) - (1 : Int) < (↑g : Int)) ∧ (decide ((0 : Int) < (↑g_1.2 : Int)) = true → True) ∧ ((bif decide ((0 : Int) < (↑g_1.2 : Int)) then L.earlier (l.g (Int.toNat (↑g :
 Int))) ((L.srt l g).g (Int.toNat ((↑g_1.2 : Int) - (1 : Int)))) else false) = true → InK .i64 ((↑g_1.2 : Int) - (1 : Int)) ∧ ∃ (g' : Nat × Nat), (↑g_1.2 : Int) - (1 : Int) = (↑g'.2 : Int) ∧ (g = g ∧ ∀ (i : Nat), i < g → [SV.int .i64 ((L.srt l g).g i).edge, SV.int .i64 ((L.srt l g).g i).place, SV.int .i64 ((L.srt l g).g
 i).tone] = [SV.int .i64 ((L.srt l g).g i).edge, SV.int .i64 ((L.srt l g).g i).place, SV.int .i64 ((L.srt l g).g i).tone]) ∧ (↑g : Int) = (↑g : Int) ∧ (l.n = l.n ∧ ∀ (i : Nat), i < l.n → [SV.int .i64 (l.g i).edge, SV.int .i64 (l.g i).place, SV.int .i64 (l.g i).tone] = [SV.int .i64 (l.g
 i).edge, SV.int .i64 (l.g i).place, SV.int .i64 (l.g i).tone]) ∧ ((↑g : Int) = (↑g'.1 : Int) ∧ (g = g'.1 ∧ ∀ (i : Nat), i < g → [SV.int .i64 ((L.srt l g).g i).edge, SV.int .i64 ((L.srt l g).g i).place, SV.int .i64 ((L.srt l g).g i).tone] = [SV.int .i64 ((L.srt l g'.1).g i).edge, SV.int
 .i64 ((L.srt l g'.1).g i).place, SV.int .i64 ((L.srt l g'.1).g i).tone]) ∧ g'.1 < l.n ∧ g'.2 ≤ g'.1 ∧ ∀ (j : Nat), g'.2 ≤ j → j < g'.1 → L.earlier (l.g g'.1) ((L.srt l g'.1).g j) = true) ∧ g'.2 < g_1.2) ∧ ((bif decide ((0 : Int) < (↑g_1.2 : Int)) then L.earlier (l.g (Int.toNat (↑g : Int))) ((L.srt l g).g (Int.toNat ((↑g_1.2 : Int) - (1 : Int)))) else
 false) = false → ((0 : Int) ≤ (0 : Int) ∧ (0 : Int) ≤ (↑g_1.2 : Int) ∧ (↑g_1.2 : Int) ≤ (↑g : Int)) ∧ (nat_lit 0 + Int.toNat ((↑g_1.2 : Int) - (0 : Int))) * nat_lit 24 ≤ (140737488355328 : Nat) ∧ ((0 : Int) ≤ (↑g : Int) ∧ (↑g : Int) < (↑l.n : Int)) ∧ (nat_lit 0 + Int.toNat ((↑g_1.2 : Int) - (0 : Int)) + nat_lit 1) * nat_lit 24 ≤ (140737488355328 : Nat) ∧ ((0 : Int) ≤ (↑g_1.2 : Int) ∧
 (↑g_1.2 : Int) ≤ (↑g : Int) ∧ (↑g : Int) ≤ (↑g : Int)) ∧ (nat_lit 0 + Int.toNat ((↑g_1.2 : Int) - (0 : Int)) + nat_lit 1 + Int.toNat ((↑g : Int) - (↑g_1.2 : Int))) * nat_lit 24 ≤ (140737488355328 : Nat) ∧ InK .i64 ((↑g : Int) + (1 : Int)) ∧ ∃ (g' : Nat), (↑g : Int) + (1 : Int) = (↑g' : Int) ∧ (l.n = l.n ∧ ∀ (i : Nat), i < l.n → [SV.int .i64 (l.g i).edge,
 SV.int .i64 (l.g i).place, SV.int .i64 (l.g i).tone] = [SV.int .i64 (l.g i).edge, SV.int .i64 (l.g i).place, SV.int .i64 (l.g i).tone]) ∧ (nat_lit 0 + Int.toNat ((↑g_1.2 : Int) - (0 : Int)) + nat_lit 1 + Int.toNat ((↑g : Int) - (↑g_1.2 : Int)) = g' ∧ ∀ (i : Nat), i < nat_lit 0 + Int.toNat ((↑g_1.2 : Int) - (0 : Int)) +
 nat_lit 1 + Int.toNat ((↑g : Int) - (↑g_1.2 : Int)) → appGet (nat_lit 0 + Int.toNat ((↑g_1.2 : Int) - (0 : Int)) + nat_lit 1) (appGet (nat_lit 0 + Int.toNat ((↑g_1.2 : Int) - (0 : Int))) (appGet (nat_lit 0) (fun (x : Nat) ↦ []) fun (i : Nat) ↦ [SV.int .i64 ((L.srt l g).g (Int.toNat (0 : Int) + i)).edge, SV.int .i64 ((L.srt l g).g (Int.toNat (0 :
 Int) + i)).place, SV.int .i64 ((L.srt l g).g (Int.toNat (0 : Int) + i)).tone]) fun (x : Nat) ↦ [SV.int .i64 (l.g (Int.toNat (↑g : Int))).edge, SV.int .i64 (l.g (Int.toNat (↑g : Int))).place, SV.int .i64 (l.g (Int.toNat (↑g : Int))).tone]) (fun (i : Nat) ↦ [SV.int .i64 ((L.srt l g).g (Int.toNat (↑g_1.2 : Int) +
 i)).edge, SV.int .i64 ((L.srt l g).g (Int.toNat (↑g_1.2 : Int) + i)).place, SV.int .i64 ((L.srt l g).g (Int.toNat (↑g_1.2 : Int) + i)).tone]) i = [SV.int .i64 ((L.srt l g').g i).edge, SV.int .i64 ((L.srt l g').g i).place, SV.int .i64 ((L.srt l g').g i).tone]) ∧ g' ≤ l.n ∧ l.n - g' < l.n - g)) ∧ (decide ((↑g :
 Int) < (↑l.n : Int)) = false → ∃ (t : Nat), (g = l.n ∧ ∀ (i : Nat), i < g → [SV.int .i64 ((L.srt l g).g i).edge, SV.int .i64 ((L.srt l g).g i).place, SV.int .i64 ((L.srt l g).g i).tone] = [SV.int .i64 ((L.sortM l).g i).edge, SV.int .i64 ((L.sortM l).g i).place, SV.int .i64 ((L.sortM l).g i).tone])
 ∧ True)) (by kernel_rfl) (by
    have hn : l.n ≤ 1000000 := hp
    have A : ∀ (n : Nat) (f1 f2 : Nat → List SV) (i : Nat), i < n → appGet n f1 f2 i = f1 i := fun n f1 f2 i h => if_pos h
    have B : ∀ (n : Nat) (f1 f2 : Nat → List SV) (i : Nat), ¬ i < n → appGet n f1 f2 i = f2 (i - n) := fun n f1 f2 i h => if_neg h
    refine ⟨⟨(0 : Nat), rfl, ⟨rfl, fun i hi => absurd hi (Nat.not_lt_zero _)⟩, Nat.zero_le _⟩, fun g hg => ⟨fun hlt => ?_, fun hge => ?_⟩⟩
    · have hb : (g : Int) < (l.n : Int) := of_decide_eq_true hlt
      have e0 : ((g : Int)).toNat = g := Int.toNat_natCast g
      rw [e0]
      refine ⟨⟨(g, g), rfl, rfl, ⟨rfl, fun _ _ => rfl⟩, show g < l.n by omega, Nat.le_refl _, fun j h1 h2 => absurd (show j < g from h2) (Nat.not_lt.2 h1)⟩, fun q hq => ?_⟩
      obtain ⟨i, k⟩ := q
      obtain ⟨_, ⟨e1, _⟩, q2, q3, q4⟩ := hq
      have e1 : g = i := e1
      subst e1
      have q3 : k ≤ g := q3
      have q4 : ∀ j, k ≤ j → j < g → L.earlier (l.g g) ((L.srt l g).g j) = true := q4
      have e3 : ((k : Int) - 1).toNat = k - 1 := by omega
      rw [e3]
      refine ⟨fun _ => ⟨by omega, hb⟩, fun h => ?_, fun h => ?_, fun _ => trivial, fun h => ?_, fun h => ?_⟩
      · have := of_decide_eq_true h
        exact InK.of (by omega) (by omega)
      · have h : (0 : Int) < (k : Int) := of_decide_eq_true h
        exact ⟨show (0 : Int) ≤ (k : Int) - 1 by omega, show (k : Int) - 1 < (g : Int) by omega⟩
      · have h : (bif decide (0 < (k : Int)) then L.earlier (l.g g) ((L.srt l g).g (k - 1)) else false) = true := h
        rw [band, Bool.and_eq_true] at h
        have hk : (0 : Int) < (k : Int) := of_decide_eq_true h.1
        refine ⟨InK.of (show _ ≤ (k : Int) - 1 by omega) (show (k : Int) - 1 ≤ _ by omega), (g, k - 1), show (k : Int) - 1 = ((k - 1 : Nat) : Int) by omega, ⟨rfl, fun _ _ => rfl⟩, rfl, ⟨rfl, fun _ _ => rfl⟩, ⟨rfl, ⟨rfl, fun _ _ => rfl⟩, show g < l.n by omega, show k - 1 ≤ g by omega, fun j h1 h2 => ?_⟩, show k - 1 < k by omega⟩
        have h1 : k - 1 ≤ j := h1
        rcases Nat.lt_or_ge j k with h3 | h3
        · obtain rfl : j = k - 1 := by omega
          exact h.2
        · exact q4 j h3 h2
      · have h : (bif decide (0 < (k : Int)) then L.earlier (l.g g) ((L.srt l g).g (k - 1)) else false) = false := h
        have h2 : 0 < k → L.earlier (l.g g) ((L.srt l g).g (k - 1)) = false := fun hk => by
          rw [decide_eq_true (show (0 : Int) < (k : Int) by omega)] at h
          exact h
        have e4 : ((k : Int) - 0).toNat = k := by omega
        have e5 : ((g : Int) - (k : Int)).toNat = g - k := by omega
        rw [e4, e5]
        refine ⟨⟨Int.le_refl _, show (0 : Int) ≤ (k : Int) by omega, show (k : Int) ≤ (g : Int) by omega⟩, show (0 + k) * 24 ≤ 140737488355328 by omega, ⟨by omega, hb⟩, show (0 + k + 1) * 24 ≤ 140737488355328 by omega, ⟨show (0 : Int) ≤ (k : Int) by omega, show (k : Int) ≤ (g : Int) by omega, Int.le_refl _⟩, show (0 + k + 1 + (g - k)) * 24 ≤ 140737488355328 by omega, InK.of (by omega) (by omega), g + 1, by omega, ⟨rfl, fun _ _ => rfl⟩, ⟨show 0 + k + 1 + (g - k) = g + 1 by omega, fun i hi => ?_⟩, by omega, by omega⟩
        rw [ins_at q3 q4 h2 i]
        by_cases c1 : i < k
        · rw [if_pos c1, A _ _ _ _ (show i < 0 + k + 1 by omega), A _ _ _ _ (show i < 0 + k by omega), B _ _ _ _ (Nat.not_lt_zero i)]
          show ([.int .i64 (((L.srt l g).g (0 + (i - 0))).edge), .int .i64 (((L.srt l g).g (0 + (i - 0))).place), .int .i64 (((L.srt l g).g (0 + (i - 0))).tone)] : List SV) = _
          rw [Nat.sub_zero, Nat.zero_add]
        · rw [if_neg c1]
          by_cases c2 : i = k
          · rw [if_pos c2, A _ _ _ _ (show i < 0 + k + 1 by omega), B _ _ _ _ (show ¬ i < 0 + k by omega)]
          · rw [if_neg c2, B _ _ _ _ (show ¬ i < 0 + k + 1 by omega)]
            show ([.int .i64 (((L.srt l g).g ((k : Int).toNat + (i - (0 + k + 1)))).edge), .int .i64 (((L.srt l g).g ((k : Int).toNat + (i - (0 + k + 1)))).place), .int .i64 (((L.srt l g).g ((k : Int).toNat + (i - (0 + k + 1)))).tone)] : List SV) = _
            rw [show (k : Int).toNat + (i - (0 + k + 1)) = i - 1 by omega]
    · have hb : ¬ (g : Int) < (l.n : Int) := of_decide_eq_false hge
      obtain rfl : g = l.n := by omega
      exact ⟨(0 : Nat), ⟨rfl, fun _ _ => rfl⟩, trivial⟩)
theorem r3_inOrder_ok : SpecOk Tryz.prog 179 r3_inOrder_S := freshX Tryz.func179 (c := bodyOf Tryz.f179) (by kernel_rfl) mixed (fun args p q n g hs hp => by
  unfold r3_inOrder_s at hs
  split at hs
  · cases hs; exact ⟨_, _, r3_inOrder_vc _ hp.2, (.p (.sl hp.1) .nil), ⟨show SpecsL Tryz.prog _ from (SpecsL.cons r3_earlier_ok r3_earlier_en SpecsL.nil), rfl, ⟨show ItersL Tryz.prog _ from ItersL.nil, (TrsOk.none (fun _ => rfl))⟩⟩⟩
  · cases hs)
theorem r3_inOrder_en : Enters Tryz.prog 179 := fun args w => by kernel_rfl
def r3_shown_p (l : (L.Sq L.Mark)) (s : L.Setting) (n : Int) : Prop := l.n ≤ 1000000 ∧ L.validSet s n = true ∧ ∀ k, k < l.n → (0 ≤ (l.g k).edge ∧ (l.g k).edge < n) ∧ 0 ≤ (l.g k).place ∧ (l.g k).place ≤ 16
def r3_shown_q (l : (L.Sq L.Mark)) (s : L.Setting) (n : Int) : Nat → Prop := fun _ => True
def r3_shown_n (l : (L.Sq L.Mark)) (s : L.Setting) (n : Int) : Nat → Nat := fun _ => l.n
def r3_shown_g (l : (L.Sq L.Mark)) (s : L.Setting) (n : Int) : Nat → Nat → List SV := fun _ k => [.int .i64 (((L.sortM (L.rsMs l s n.toNat)).g k).edge), .int .i64 (((L.sortM (L.rsMs l s n.toNat)).g k).place), .int .i64 (((L.sortM (L.rsMs l s n.toNat)).g k).tone)]
def r3_shown_s : List EV → Option (Prop × (Nat → Prop) × (Nat → Nat) × (Nat → Nat → List SV))
  | [.p (.sl 3 l_n l_g), .p (.agg [.int .i64 s_shift, .bool s_back]), .p (.int .i64 n)] => some ((∀ i, i < l_n → l_g i = [.int .i64 ((ofMark (l_g i)).edge), .int .i64 ((ofMark (l_g i)).place), .int .i64 ((ofMark (l_g i)).tone)]) ∧ r3_shown_p (⟨l_n, fun i => ofMark (l_g i)⟩ : (L.Sq L.Mark)) (⟨s_shift, s_back⟩ : L.Setting) n, r3_shown_q (⟨l_n, fun i => ofMark (l_g i)⟩ : (L.Sq L.Mark)) (⟨s_shift, s_back⟩ : L.Setting) n, r3_shown_n (⟨l_n, fun i => ofMark (l_g i)⟩ : (L.Sq L.Mark)) (⟨s_shift, s_back⟩ : L.Setting) n, r3_shown_g (⟨l_n, fun i => ofMark (l_g i)⟩ : (L.Sq L.Mark)) (⟨s_shift, s_back⟩ : L.Setting) n)
  | _ => none
abbrev r3_shown_S : SE.Spec := (specF Nat 0 87 3 r3_shown_s)
def r3_shown_C : Cfg := { muts := [9, 37], frz := lookN [], specs := lookS [(130, r1_Laid_S), (179, r3_inOrder_S)], loops := fun _ => none, iters := lookI [], rfs := lookR [], nils := lookM [(2, [(7, 35, 87, 3)])] }
theorem r3_shown_vc (l : (L.Sq L.Mark)) (s : L.Setting) (n : Int) (hp : r3_shown_p l s n) : vc Tryz.prog ({ r3_shown_C with loops := lookL [(3, { T := Nat, keep := [0, 2, 4, 7], keepO := [], chg := fun i => [(8, .p (.int .i64 (i : Int)))], own := fun i => [(35, .row 87 3 i (fun k => [.int .i64 ((L.rsM1 s n.toNat (l.g k)).edge), .int .i64 ((L.rsM1 s n.toNat (l.g k)).place), .int .i64 ((L.rsM1 s n.toNat (l.g k)).tone)]))], inv := fun i => i ≤ l.n, mu := fun i => l.n - i })], rfs := lookR [] }) (bodyOf Tryz.f131) (st0 Tryz.f131 [.p (.sl 3 l.n (fun i => [.int .i64 ((l.g i).edge), .int .i64 ((l.g i).place), .int .i64 ((l.g i).tone)])), .p (.agg [.int .i64 s.shift, .bool s.back]), .p (.int .i64 n)]) (retFresh Tryz.prog Tryz.f131 (Nat) (r3_shown_q l s n) 87 3 (r3_shown_n l s n) (r3_shown_g l s n)) :=
  @Eq.mpr _ ((∃ (g : Nat), (0 : Int) = (↑g : Int) ∧ (nat_lit 0 = g ∧ ∀ (i : Nat), i < nat_lit 0 → [] = [SV.int .i64 (L.rsM1 s (Int.toNat n) (l.g i)).edge, SV.int .i64 (L.rsM1 s (Int.toNat n) (l.g i)).place, SV.int .i64 (L.rsM1 s (Int.toNat n) (l.g i)).tone]) ∧ g ≤ l.n) ∧ ∀ (g : Nat), g ≤ l.n → (decide ((↑g : Int) < (↑l.n : Int)) = true → ((0 : Int)
 ≤ (↑g : Int) ∧ (↑g : Int) < (↑l.n : Int)) ∧ ((1 : Int) ≤ n ∧ n ≤ (1000000 : Int) ∧ (-1000000 : Int) ≤ s.shift ∧ s.shift ≤ (1000000 : Int) ∧ (-1000000 : Int) ≤ (l.g (Int.toNat (↑g : Int))).edge ∧ (l.g (Int.toNat (↑g : Int))).edge ≤ (1000000 : Int)) ∧ (s.back = true → InK .i64 ((16 : Int) - (l.g (Int.toNat (↑g : Int))).place) ∧ (g + nat_lit 1) * nat_lit 24 ≤ (140737488355328 :
 Nat) ∧ InK .i64 ((↑g : Int) + (1 : Int)) ∧ ∃ (g' : Nat), (↑g : Int) + (1 : Int) = (↑g' : Int) ∧ SV.ref [SV.int .i64 s.shift, SV.bool s.back] (nat_lit 0) = SV.ref [SV.int .i64 s.shift, SV.bool s.back] (nat_lit 0) ∧ (l.n = l.n ∧ ∀ (i : Nat), i < l.n → [SV.int .i64 (l.g i).edge, SV.int .i64 (l.g
 i).place, SV.int .i64 (l.g i).tone] = [SV.int .i64 (l.g i).edge, SV.int .i64 (l.g i).place, SV.int .i64 (l.g i).tone]) ∧ n = n ∧ (g + nat_lit 1 = g' ∧ ∀ (i : Nat), i < g + nat_lit 1 → appGet g (fun (k : Nat) ↦ [SV.int .i64 (L.rsM1 s (Int.toNat n) (l.g k)).edge, SV.int .i64 (L.rsM1 s (Int.toNat n)
 (l.g k)).place, SV.int .i64 (L.rsM1 s (Int.toNat n) (l.g k)).tone]) (fun (x : Nat) ↦ [SV.int .i64 (L.lay s n (l.g (Int.toNat (↑g : Int))).edge), SV.int .i64 ((16 : Int) - (l.g (Int.toNat (↑g : Int))).place), SV.int .i64 (l.g (Int.toNat (↑g : Int))).tone]) i = [SV.int .i64 (L.rsM1 s (Int.toNat n) (l.g i)).edge,
 SV.int .i64 (L.rsM1 s (Int.toNat n) (l.g i)).place, SV.int .i64 (L.rsM1 s (Int.toNat n) (l.g i)).tone]) ∧ g' ≤ l.n ∧ l.n - g' < l.n - g) ∧ (s.back = false → (g + nat_lit 1) * nat_lit 24 ≤ (140737488355328 : Nat) ∧ InK .i64 ((↑g : Int) + (1 : Int)) ∧ ∃ (g' : Nat), (↑g : Int) + (1 : Int) = (↑g' : Int) ∧ SV.ref [SV.int .i64
 s.shift, SV.bool s.back] (nat_lit 0) = SV.ref [SV.int .i64 s.shift, SV.bool s.back] (nat_lit 0) ∧ (l.n = l.n ∧ ∀ (i : Nat), i < l.n → [SV.int .i64 (l.g i).edge, SV.int .i64 (l.g i).place, SV.int .i64 (l.g i).tone] = [SV.int .i64 (l.g i).edge, SV.int .i64 (l.g i).place, SV.int
 .i64 (l.g i).tone]) ∧ n = n ∧ (g + nat_lit 1 = g' ∧ ∀ (i : Nat), i < g + nat_lit 1 → appGet g (fun (k : Nat) ↦ [SV.int .i64 (L.rsM1 s (Int.toNat n) (l.g k)).edge, SV.int .i64 (L.rsM1 s (Int.toNat n) (l.g k)).place, SV.int .i64 (L.rsM1 s (Int.toNat n) (l.g k)).tone]) (fun (x : Nat) ↦ [SV.int .i64 (L.lay s n (l.g
 (Int.toNat (↑g : Int))).edge), SV.int .i64 (l.g (Int.toNat (↑g : Int))).place, SV.int .i64 (l.g (Int.toNat (↑g : Int))).tone]) i = [SV.int .i64 (L.rsM1 s (Int.toNat n) (l.g i)).edge, SV.int .i64 (L.rsM1 s (Int.toNat n) (l.g i)).place, SV.int .i64 (L.rsM1 s (Int.toNat n) (l.g i)).tone]) ∧ g' ≤ l.n ∧ l.n - g' < l.n - g))
 ∧ (decide ((↑g : Int) < (↑l.n : Int)) = false → ((∀ (i : Nat), i < g → [SV.int .i64 (L.rsM1 s (Int.toNat n) (l.g i)).edge, SV.int .i64 (L.rsM1 s (Int.toNat n) (l.g i)).place, SV.int .i64 (L.rsM1 s (Int.toNat n) (l.g i)).tone] = [SV.int .i64 (L.rsM1 s (Int.toNat n) (l.g i)).edge, SV.int .i64 (L.rsM1 s
 (Int.toNat n) (l.g i)).place, SV.int .i64 (L.rsM1 s (Int.toNat n) (l.g i)).tone]) ∧ g ≤ (1000000 : Nat)) ∧ ∀ (t : Nat), True → (∀ (i : Nat), i < g → (true && (true && (true && true))) = true) ∧ ∃ (t : Nat), (g = l.n ∧ ∀ (i : Nat), i < g → [SV.int .i64 ((L.sortM (L.Sq.mk g fun (i : Nat) ↦ L.rsM1 s (Int.toNat n) (l.g i))).g i).edge,
 SV.int .i64 ((L.sortM (L.Sq.mk g fun (i : Nat) ↦ L.rsM1 s (Int.toNat n) (l.g i))).g i).place, SV.int .i64 ((L.sortM (L.Sq.mk g fun (i : Nat) ↦ L.rsM1 s (Int.toNat n) (l.g i))).g i).tone] = [SV.int .i64 ((L.sortM (L.rsMs l s (Int.toNat n))).g i).edge, SV.int .i64 ((L.sortM (L.rsMs l s (Int.toNat n))).g i).place, SV.int
 .i64 ((L.sortM (L.rsMs l s (Int.toNat n))).g i).tone]) ∧ True)) (by kernel_rfl) (by
    obtain ⟨hn, hs, hm⟩ := hp
    have hv := validSet_iff.1 hs
    have en : ((n.toNat : Nat) : Int) = n := by omega
    refine ⟨⟨(0 : Nat), rfl, ⟨rfl, fun i hi => absurd hi (Nat.not_lt_zero _)⟩, Nat.zero_le _⟩, fun g hg => ⟨fun hlt => ?_, fun hge => ?_⟩⟩
    · have hb : (g : Int) < (l.n : Int) := of_decide_eq_true hlt
      have e0 : ((g : Int)).toNat = g := Int.toNat_natCast g
      rw [e0]
      have m := hm g (by omega)
      have app : ∀ v : L.Mark, v = L.rsM1 s n.toNat (l.g g) → ∀ i, i < g + 1 → appGet g (fun (k : Nat) => [.int .i64 ((L.rsM1 s n.toNat (l.g k)).edge), .int .i64 ((L.rsM1 s n.toNat (l.g k)).place), .int .i64 ((L.rsM1 s n.toNat (l.g k)).tone)]) (fun (x : Nat) => [.int .i64 v.edge, .int .i64 v.place, .int .i64 v.tone]) i = [.int .i64 ((L.rsM1 s n.toNat (l.g i)).edge), .int .i64 ((L.rsM1 s n.toNat (l.g i)).place), .int .i64 ((L.rsM1 s n.toNat (l.g i)).tone)] := fun v hv i hi => by
        unfold appGet
        by_cases h : i < g
        · rw [if_pos h]
        · rw [if_neg h, hv]
          obtain rfl : i = g := by omega
          rfl
      refine ⟨⟨by omega, hb⟩, ⟨by omega, by omega, by omega, by omega, by omega, by omega⟩, fun hk => ?_, fun hk => ?_⟩
      · have w := app ⟨L.lay s n (l.g g).edge, 16 - (l.g g).place, (l.g g).tone⟩ (by unfold L.rsM1; rw [hk, en]; rfl)
        exact ⟨InK.of (by omega) (by omega), show (g + 1) * 24 ≤ 140737488355328 by omega, InK.of (by omega) (by omega), g + 1, by omega, rfl, ⟨rfl, fun _ _ => rfl⟩, rfl, ⟨rfl, w⟩, by omega, by omega⟩
      · have w := app ⟨L.lay s n (l.g g).edge, (l.g g).place, (l.g g).tone⟩ (by unfold L.rsM1; rw [hk, en]; rfl)
        exact ⟨show (g + 1) * 24 ≤ 140737488355328 by omega, InK.of (by omega) (by omega), g + 1, by omega, rfl, ⟨rfl, fun _ _ => rfl⟩, rfl, ⟨rfl, w⟩, by omega, by omega⟩
    · have hb : ¬ (g : Int) < (l.n : Int) := of_decide_eq_false hge
      obtain rfl : g = l.n := by omega
      exact ⟨⟨fun _ _ => rfl, hn⟩, fun t _ => ⟨fun _ _ => rfl, (0 : Nat), ⟨rfl, fun _ _ => rfl⟩, trivial⟩⟩)
theorem r3_shown_ok : SpecOk Tryz.prog 131 r3_shown_S := freshX Tryz.func131 (c := bodyOf Tryz.f131) (by kernel_rfl) mixed (fun args p q n g hs hp => by
  unfold r3_shown_s at hs
  split at hs
  · cases hs; exact ⟨_, _, r3_shown_vc _ _ _ hp.2, (.p (.sl hp.1) (.same _ (.same _ .nil))), ⟨show SpecsL Tryz.prog _ from (SpecsL.cons r1_Laid_ok r1_Laid_en (SpecsL.cons r3_inOrder_ok r3_inOrder_en SpecsL.nil)), rfl, ⟨show ItersL Tryz.prog _ from ItersL.nil, (TrsOk.none (fun _ => rfl))⟩⟩⟩
  · cases hs)
theorem r3_shown_en : Enters Tryz.prog 131 := fun args w => by kernel_rfl
def r3_reset_p (p : L.Piece) (s : L.Setting) : Prop := L.validPiece p = true ∧ L.validSet s p.gauges.n = true
def r3_reset_r (p : L.Piece) (s : L.Setting) : SV := (.agg [.int .i64 ((L.rs p s).id), .int .i64 ((L.rs p s).colour), .int .i64 ((L.rs p s).rev), .int .i64 ((L.rs p s).made), .int .i64 ((L.rs p s).swell), .sl 5 (L.rs p s).gauges.n (fun i => [.int .i64 (((L.rs p s).gauges.g i).edge.lo), .int .i64 (((L.rs p s).gauges.g i).edge.hi), .int .i64 (((L.rs p s).gauges.g i).across.lo), .int .i64 (((L.rs p s).gauges.g i).across.hi), .int .i64 (((L.rs p s).gauges.g i).bend)]), .sl 3 (L.rs p s).marks.n (fun i => [.int .i64 (((L.rs p s).marks.g i).edge), .int .i64 (((L.rs p s).marks.g i).place), .int .i64 (((L.rs p s).marks.g i).tone)])])
def r3_reset_s : List EV → Option (Prop × SV)
  | [.p (.agg [.int .i64 p_id, .int .i64 p_colour, .int .i64 p_rev, .int .i64 p_made, .int .i64 p_swell, .sl 5 p_gauges_n p_gauges_g, .sl 3 p_marks_n p_marks_g]), .p (.agg [.int .i64 s_shift, .bool s_back])] => some ((∀ i, i < p_gauges_n → p_gauges_g i = [.int .i64 ((ofGauge (p_gauges_g i)).edge.lo), .int .i64 ((ofGauge (p_gauges_g i)).edge.hi), .int .i64 ((ofGauge (p_gauges_g i)).across.lo), .int .i64 ((ofGauge (p_gauges_g i)).across.hi), .int .i64 ((ofGauge (p_gauges_g i)).bend)]) ∧ (∀ i, i < p_marks_n → p_marks_g i = [.int .i64 ((ofMark (p_marks_g i)).edge), .int .i64 ((ofMark (p_marks_g i)).place), .int .i64 ((ofMark (p_marks_g i)).tone)]) ∧ r3_reset_p (⟨p_id, p_colour, p_rev, p_made, p_swell, (⟨p_gauges_n, fun i => ofGauge (p_gauges_g i)⟩ : (L.Sq L.Gauge)), (⟨p_marks_n, fun i => ofMark (p_marks_g i)⟩ : (L.Sq L.Mark))⟩ : L.Piece) (⟨s_shift, s_back⟩ : L.Setting), r3_reset_r (⟨p_id, p_colour, p_rev, p_made, p_swell, (⟨p_gauges_n, fun i => ofGauge (p_gauges_g i)⟩ : (L.Sq L.Gauge)), (⟨p_marks_n, fun i => ofMark (p_marks_g i)⟩ : (L.Sq L.Mark))⟩ : L.Piece) (⟨s_shift, s_back⟩ : L.Setting))
  | _ => none
abbrev r3_reset_S : SE.Spec := (specO r3_reset_s)
def r3_reset_C : Cfg := { muts := [4, 6, 8, 14], frz := lookN [(13, [14])], specs := lookS [(130, r1_Laid_S), (131, r3_shown_S)], loops := fun _ => none, iters := lookI [], rfs := lookR [], nils := lookM [] }
theorem r3_reset_vc (p : L.Piece) (s : L.Setting) (hp : r3_reset_p p s) : vc Tryz.prog ({ r3_reset_C with loops := lookL [(5, { T := Nat, keep := [2, 3, 4, 5, 6], keepO := [4, 6], chg := fun i => [(7, .p (.int .i64 (i : Int)))], own := fun i => [(14, .row 92 5 p.gauges.n (fun j => [.int .i64 ((L.rsTo p s i j).edge.lo), .int .i64 ((L.rsTo p s i j).edge.hi), .int .i64 ((L.rsTo p s i j).across.lo), .int .i64 ((L.rsTo p s i j).across.hi), .int .i64 ((L.rsTo p s i j).bend)]))], inv := fun i => i ≤ p.gauges.n, mu := fun i => p.gauges.n - i })], rfs := lookR [] }) (bodyOf Tryz.f63) (st0 Tryz.f63 [.p (.agg [.int .i64 p.id, .int .i64 p.colour, .int .i64 p.rev, .int .i64 p.made, .int .i64 p.swell, .sl 5 p.gauges.n (fun i => [.int .i64 ((p.gauges.g i).edge.lo), .int .i64 ((p.gauges.g i).edge.hi), .int .i64 ((p.gauges.g i).across.lo), .int .i64 ((p.gauges.g i).across.hi), .int .i64 ((p.gauges.g i).bend)]), .sl 3 p.marks.n (fun i => [.int .i64 ((p.marks.g i).edge), .int .i64 ((p.marks.g i).place), .int .i64 ((p.marks.g i).tone)])]), .p (.agg [.int .i64 s.shift, .bool s.back])]) (retFn Tryz.prog Tryz.f63 (r3_reset_r p s)) :=
  @Eq.mpr _ (((0 : Int) ≤ (↑p.gauges.n : Int) ∧ (↑p.gauges.n : Int) ≤ (↑p.gauges.n : Int) ∧ (↑p.gauges.n : Int) * (↑(nat_lit 40) : Int) ≤ (140737488355328 : Int)) ∧ (∃ (g : Nat), (0 : Int) = (↑g : Int) ∧ (Int.toNat (↑p.gauges.n : Int) = p.gauges.n ∧ ∀ (i : Nat), i < Int.toNat (↑p.gauges.n : Int) → [SV.int .i64 (0 : Int), SV.int .i64 (0 : Int), SV.int .i64 (0 :
 Int), SV.int .i64 (0 : Int), SV.int .i64 (0 : Int)] = [SV.int .i64 (L.rsTo p s g i).edge.lo, SV.int .i64 (L.rsTo p s g i).edge.hi, SV.int .i64 (L.rsTo p s g i).across.lo, SV.int .i64 (L.rsTo p s g i).across.hi, SV.int .i64 (L.rsTo p s g i).bend]) ∧ g ≤ p.gauges.n) ∧ ∀ (g : Nat), g ≤
 p.gauges.n → (decide ((↑g : Int) < (↑p.gauges.n : Int)) = true → ((0 : Int) ≤ (↑g : Int) ∧ (↑g : Int) < (↑p.gauges.n : Int)) ∧ (s.back = true → InK .i64 ((↑g : Int) + (↑p.gauges.n : Int)) ∧ InK .i64 ((↑g : Int) + (↑p.gauges.n : Int) - (1 : Int)) ∧ (↑p.gauges.n : Int) ≠ (0 : Int) ∧ ((0 : Int) ≤ Int.tmod ((↑g : Int) + (↑p.gauges.n : Int) - (1 :
 Int)) (↑p.gauges.n : Int) ∧ Int.tmod ((↑g : Int) + (↑p.gauges.n : Int) - (1 : Int)) (↑p.gauges.n : Int) < (↑p.gauges.n : Int)) ∧ InK .i64 ((↑g : Int) + (↑p.gauges.n : Int)) ∧ InK .i64 ((↑g : Int) + (↑p.gauges.n : Int) - (1 : Int)) ∧ (↑p.gauges.n : Int) ≠ (0 : Int) ∧ ((0 : Int) ≤ Int.tmod ((↑g : Int) + (↑p.gauges.n : Int) - (1 : Int)) (↑p.gauges.n : Int) ∧ Int.tmod
 ((↑g : Int) + (↑p.gauges.n : Int) - (1 : Int)) (↑p.gauges.n : Int) < (↑p.gauges.n : Int)) ∧ ((1 : Int) ≤ (↑p.gauges.n : Int) ∧ (↑p.gauges.n : Int) ≤ (1000000 : Int) ∧ (-1000000 : Int) ≤ s.shift ∧ s.shift ≤ (1000000 : Int) ∧ (-1000000 : Int) ≤ (↑g : Int) ∧ (↑g : Int) ≤ (1000000 : Int)) ∧ ((0 : Int) ≤ L.lay s (↑p.gauges.n : Int) (↑g : Int) ∧ L.lay s (↑p.gauges.n : Int) (↑g : Int) < (↑p.gauges.n :
 Int)) ∧ Int.toNat (L.lay s (↑p.gauges.n : Int) (↑g : Int)) < p.gauges.n ∧ InK .i64 ((↑g : Int) + (1 : Int)) ∧ ∃ (g' : Nat), (↑g : Int) + (1 : Int) = (↑g' : Int) ∧ nat_lit 0 = nat_lit 0 ∧ (↑p.gauges.n : Int) = (↑p.gauges.n : Int) ∧ nat_lit 0 = nat_lit 0 ∧ SV.ref [SV.int .i64 s.shift, SV.bool s.back] (nat_lit 0) = SV.ref [SV.int .i64
 s.shift, SV.bool s.back] (nat_lit 0) ∧ SV.ref [SV.int .i64 p.id, SV.int .i64 p.colour, SV.int .i64 p.rev, SV.int .i64 p.made, SV.int .i64 p.swell, SV.sl (nat_lit 5) p.gauges.n fun (i : Nat) ↦ [SV.int .i64 (p.gauges.g i).edge.lo, SV.int .i64 (p.gauges.g i).edge.hi,
 SV.int .i64 (p.gauges.g i).across.lo, SV.int .i64 (p.gauges.g i).across.hi, SV.int .i64 (p.gauges.g i).bend], SV.sl (nat_lit 3) p.marks.n fun (i : Nat) ↦ [SV.int .i64 (p.marks.g i).edge, SV.int .i64 (p.marks.g i).place, SV.int .i64 (p.marks.g i).tone]] (nat_lit 0) = SV.ref [SV.int
 .i64 p.id, SV.int .i64 p.colour, SV.int .i64 p.rev, SV.int .i64 p.made, SV.int .i64 p.swell, SV.sl (nat_lit 5) p.gauges.n fun (i : Nat) ↦ [SV.int .i64 (p.gauges.g i).edge.lo, SV.int .i64 (p.gauges.g i).edge.hi, SV.int .i64 (p.gauges.g i).across.lo, SV.int
 .i64 (p.gauges.g i).across.hi, SV.int .i64 (p.gauges.g i).bend], SV.sl (nat_lit 3) p.marks.n fun (i : Nat) ↦ [SV.int .i64 (p.marks.g i).edge, SV.int .i64 (p.marks.g i).place, SV.int .i64 (p.marks.g i).tone]] (nat_lit 0) ∧ (p.gauges.n = p.gauges.n ∧ ∀ (i : Nat), i < p.gauges.n → setRow (fun (j : Nat) ↦
 [SV.int .i64 (L.rsTo p s g j).edge.lo, SV.int .i64 (L.rsTo p s g j).edge.hi, SV.int .i64 (L.rsTo p s g j).across.lo, SV.int .i64 (L.rsTo p s g j).across.hi, SV.int .i64 (L.rsTo p s g j).bend]) (Int.toNat (L.lay s (↑p.gauges.n : Int) (↑g : Int))) (nat_lit 0) [SV.int .i64 (p.gauges.g (Int.toNat (↑g :
 Int))).edge.lo, SV.int .i64 (p.gauges.g (Int.toNat (↑g : Int))).edge.hi, SV.int .i64 (p.gauges.g (Int.toNat (Int.tmod ((↑g : Int) + (↑p.gauges.n : Int) - (1 : Int)) (↑p.gauges.n : Int)))).across.lo, SV.int .i64 (p.gauges.g (Int.toNat (Int.tmod ((↑g : Int) + (↑p.gauges.n : Int) - (1 : Int)) (↑p.gauges.n : Int)))).across.hi, SV.int .i64
 (p.gauges.g (Int.toNat (Int.tmod ((↑g : Int) + (↑p.gauges.n : Int) - (1 : Int)) (↑p.gauges.n : Int)))).bend] i = [SV.int .i64 (L.rsTo p s g' i).edge.lo, SV.int .i64 (L.rsTo p s g' i).edge.hi, SV.int .i64 (L.rsTo p s g' i).across.lo, SV.int .i64 (L.rsTo p s g' i).across.hi, SV.int .i64 (L.rsTo p s g' i).bend]) ∧ p.id =
 p.id ∧ p.colour = p.colour ∧ p.rev = p.rev ∧ p.made = p.made ∧ p.swell = p.swell ∧ (p.marks.n = p.marks.n ∧ ∀ (i : Nat), i < p.marks.n → [SV.int .i64 (p.marks.g i).edge, SV.int .i64 (p.marks.g i).place, SV.int .i64 (p.marks.g i).tone] = [SV.int .i64 (p.marks.g i).edge, SV.int .i64 (p.marks.g i).place, SV.int
 .i64 (p.marks.g i).tone]) ∧ (0 : Int) = (0 : Int) ∧ (0 : Int) = (0 : Int) ∧ (0 : Int) = (0 : Int) ∧ (0 : Int) = (0 : Int) ∧ (0 : Int) = (0 : Int) ∧ Value.slice Option.none (0 : Nat) (0 : Nat) = Value.slice Option.none (0 : Nat) (0 : Nat) ∧ Value.slice Option.none (0 : Nat) (0 : Nat) = Value.slice Option.none (0 : Nat) (0 : Nat) ∧ g' ≤ p.gauges.n ∧ p.gauges.n - g' < p.gauges.n
 - g) ∧ (s.back = false → ((1 : Int) ≤ (↑p.gauges.n : Int) ∧ (↑p.gauges.n : Int) ≤ (1000000 : Int) ∧ (-1000000 : Int) ≤ s.shift ∧ s.shift ≤ (1000000 : Int) ∧ (-1000000 : Int) ≤ (↑g : Int) ∧ (↑g : Int) ≤ (1000000 : Int)) ∧ ((0 : Int) ≤ L.lay s (↑p.gauges.n : Int) (↑g : Int) ∧ L.lay s (↑p.gauges.n : Int) (↑g : Int) < (↑p.gauges.n : Int)) ∧ Int.toNat (L.lay s (↑p.gauges.n : Int) (↑g : Int)) <
 p.gauges.n ∧ InK .i64 ((↑g : Int) + (1 : Int)) ∧ ∃ (g' : Nat), (↑g : Int) + (1 : Int) = (↑g' : Int) ∧ nat_lit 0 = nat_lit 0 ∧ (↑p.gauges.n : Int) = (↑p.gauges.n : Int) ∧ nat_lit 0 = nat_lit 0 ∧ SV.ref [SV.int .i64 s.shift, SV.bool s.back] (nat_lit 0) = SV.ref [SV.int .i64 s.shift, SV.bool s.back] (nat_lit 0) ∧ SV.ref
 [SV.int .i64 p.id, SV.int .i64 p.colour, SV.int .i64 p.rev, SV.int .i64 p.made, SV.int .i64 p.swell, SV.sl (nat_lit 5) p.gauges.n fun (i : Nat) ↦ [SV.int .i64 (p.gauges.g i).edge.lo, SV.int .i64 (p.gauges.g i).edge.hi, SV.int .i64 (p.gauges.g i).across.lo,
 SV.int .i64 (p.gauges.g i).across.hi, SV.int .i64 (p.gauges.g i).bend], SV.sl (nat_lit 3) p.marks.n fun (i : Nat) ↦ [SV.int .i64 (p.marks.g i).edge, SV.int .i64 (p.marks.g i).place, SV.int .i64 (p.marks.g i).tone]] (nat_lit 0) = SV.ref [SV.int .i64 p.id, SV.int .i64 p.colour,
 SV.int .i64 p.rev, SV.int .i64 p.made, SV.int .i64 p.swell, SV.sl (nat_lit 5) p.gauges.n fun (i : Nat) ↦ [SV.int .i64 (p.gauges.g i).edge.lo, SV.int .i64 (p.gauges.g i).edge.hi, SV.int .i64 (p.gauges.g i).across.lo, SV.int .i64 (p.gauges.g i).across.hi, SV.int .i64
 (p.gauges.g i).bend], SV.sl (nat_lit 3) p.marks.n fun (i : Nat) ↦ [SV.int .i64 (p.marks.g i).edge, SV.int .i64 (p.marks.g i).place, SV.int .i64 (p.marks.g i).tone]] (nat_lit 0) ∧ (p.gauges.n = p.gauges.n ∧ ∀ (i : Nat), i < p.gauges.n → setRow (fun (j : Nat) ↦ [SV.int .i64 (L.rsTo p s g j).edge.lo, SV.int
 .i64 (L.rsTo p s g j).edge.hi, SV.int .i64 (L.rsTo p s g j).across.lo, SV.int .i64 (L.rsTo p s g j).across.hi, SV.int .i64 (L.rsTo p s g j).bend]) (Int.toNat (L.lay s (↑p.gauges.n : Int) (↑g : Int))) (nat_lit 0) [SV.int .i64 (p.gauges.g (Int.toNat (↑g : Int))).edge.lo, SV.int .i64 (p.gauges.g (Int.toNat (↑g :
 Int))).edge.hi, SV.int .i64 (p.gauges.g (Int.toNat (↑g : Int))).across.lo, SV.int .i64 (p.gauges.g (Int.toNat (↑g : Int))).across.hi, SV.int .i64 (p.gauges.g (Int.toNat (↑g : Int))).bend] i = [SV.int .i64 (L.rsTo p s g' i).edge.lo, SV.int .i64 (L.rsTo p s g' i).edge.hi, SV.int .i64 (L.rsTo p s g'
 i).across.lo, SV.int .i64 (L.rsTo p s g' i).across.hi, SV.int .i64 (L.rsTo p s g' i).bend]) ∧ p.id = p.id ∧ p.colour = p.colour ∧ p.rev = p.rev ∧ p.made = p.made ∧ p.swell = p.swell ∧ (p.marks.n = p.marks.n ∧ ∀ (i : Nat), i < p.marks.n → [SV.int .i64 (p.marks.g i).edge, SV.int .i64 (p.marks.g i).place, SV.int .i64
 (p.marks.g i).tone] = [SV.int .i64 (p.marks.g i).edge, SV.int .i64 (p.marks.g i).place, SV.int .i64 (p.marks.g i).tone]) ∧ (0 : Int) = (0 : Int) ∧ (0 : Int) = (0 : Int) ∧ (0 : Int) = (0 : Int) ∧ (0 : Int) = (0 : Int) ∧ (0 : Int) = (0 : Int) ∧ Value.slice Option.none (0 : Nat) (0 : Nat) = Value.slice Option.none (0 : Nat) (0 : Nat) ∧
 Value.slice Option.none (0 : Nat) (0 : Nat) = Value.slice Option.none (0 : Nat) (0 : Nat) ∧ g' ≤ p.gauges.n ∧ p.gauges.n - g' < p.gauges.n - g)) ∧ (decide ((↑g : Int) < (↑p.gauges.n : Int)) = false → ((∀ (i : Nat), i < p.marks.n → [SV.int .i64 (p.marks.g i).edge, SV.int .i64 (p.marks.g i).place, SV.int .i64 (p.marks.g i).tone] =
 [SV.int .i64 (p.marks.g i).edge, SV.int .i64 (p.marks.g i).place, SV.int .i64 (p.marks.g i).tone]) ∧ p.marks.n ≤ (1000000 : Nat) ∧ L.validSet s (↑p.gauges.n : Int) = true ∧ ∀ (k : Nat), k < p.marks.n → ((0 : Int) ≤ (p.marks.g k).edge ∧ (p.marks.g k).edge < (↑p.gauges.n : Int)) ∧ (0 : Int) ≤ (p.marks.g k).place ∧ (p.marks.g k).place ≤ (16 : Int))
 ∧ ∀ (t : Nat), True → (s.back = true → p.id = (L.rs p s).id ∧ p.rev = (L.rs p s).colour ∧ p.colour = (L.rs p s).rev ∧ p.made = (L.rs p s).made ∧ p.swell = (L.rs p s).swell ∧ (p.gauges.n = (L.rs p s).gauges.n ∧ ∀ (i : Nat), i < p.gauges.n → [SV.int .i64 (L.rsTo p s g i).edge.lo, SV.int .i64 (L.rsTo p s g i).edge.hi, SV.int .i64 (L.rsTo p s g
 i).across.lo, SV.int .i64 (L.rsTo p s g i).across.hi, SV.int .i64 (L.rsTo p s g i).bend] = [SV.int .i64 ((L.rs p s).gauges.g i).edge.lo, SV.int .i64 ((L.rs p s).gauges.g i).edge.hi, SV.int .i64 ((L.rs p s).gauges.g i).across.lo, SV.int .i64 ((L.rs p s).gauges.g i).across.hi, SV.int .i64
 ((L.rs p s).gauges.g i).bend]) ∧ p.marks.n = (L.rs p s).marks.n ∧ ∀ (i : Nat), i < p.marks.n → [SV.int .i64 ((L.sortM (L.rsMs (L.Sq.mk p.marks.n fun (i : Nat) ↦ p.marks.g i) s (Int.toNat (↑p.gauges.n : Int)))).g i).edge, SV.int .i64 ((L.sortM (L.rsMs (L.Sq.mk p.marks.n fun (i : Nat) ↦ p.marks.g i) s (Int.toNat (↑p.gauges.n : Int)))).g i).place, SV.int
 .i64 ((L.sortM (L.rsMs (L.Sq.mk p.marks.n fun (i : Nat) ↦ p.marks.g i) s (Int.toNat (↑p.gauges.n : Int)))).g i).tone] = [SV.int .i64 ((L.rs p s).marks.g i).edge, SV.int .i64 ((L.rs p s).marks.g i).place, SV.int .i64 ((L.rs p s).marks.g i).tone]) ∧ (s.back = false → p.id = (L.rs p s).id ∧ p.colour = (L.rs p s).colour ∧ p.rev = (L.rs p
 s).rev ∧ p.made = (L.rs p s).made ∧ p.swell = (L.rs p s).swell ∧ (p.gauges.n = (L.rs p s).gauges.n ∧ ∀ (i : Nat), i < p.gauges.n → [SV.int .i64 (L.rsTo p s g i).edge.lo, SV.int .i64 (L.rsTo p s g i).edge.hi, SV.int .i64 (L.rsTo p s g i).across.lo, SV.int .i64 (L.rsTo p s g i).across.hi, SV.int .i64 (L.rsTo p s g
 i).bend] = [SV.int .i64 ((L.rs p s).gauges.g i).edge.lo, SV.int .i64 ((L.rs p s).gauges.g i).edge.hi, SV.int .i64 ((L.rs p s).gauges.g i).across.lo, SV.int .i64 ((L.rs p s).gauges.g i).across.hi, SV.int .i64 ((L.rs p s).gauges.g i).bend]) ∧ p.marks.n = (L.rs p s).marks.n ∧ ∀ (i : Nat), i < p.marks.n → [SV.int
 .i64 ((L.sortM (L.rsMs (L.Sq.mk p.marks.n fun (i : Nat) ↦ p.marks.g i) s (Int.toNat (↑p.gauges.n : Int)))).g i).edge, SV.int .i64 ((L.sortM (L.rsMs (L.Sq.mk p.marks.n fun (i : Nat) ↦ p.marks.g i) s (Int.toNat (↑p.gauges.n : Int)))).g i).place, SV.int .i64 ((L.sortM (L.rsMs (L.Sq.mk p.marks.n fun (i : Nat) ↦ p.marks.g i) s (Int.toNat (↑p.gauges.n :
 Int)))).g i).tone] = [SV.int .i64 ((L.rs p s).marks.g i).edge, SV.int .i64 ((L.rs p s).marks.g i).place, SV.int .i64 ((L.rs p s).marks.g i).tone]))) (by kernel_rfl) (by
    obtain ⟨hv, hs⟩ := hp
    obtain ⟨_, hg0, hm0⟩ := piece_of hv
    have hgn := gauges_n hg0
    have hmk := marks_in hm0
    have hn0 : 0 < p.gauges.n := by omega
    have hsv := validSet_iff.1 hs
    refine ⟨⟨by omega, Int.le_refl _, show (p.gauges.n : Int) * 40 ≤ 140737488355328 by omega⟩, ⟨(0 : Nat), rfl, ⟨Int.toNat_natCast _, fun i _ => ?_⟩, Nat.zero_le _⟩, fun g hg => ⟨fun hlt => ?_, fun hge => ?_⟩⟩
    · unfold L.rsTo; rw [decide_eq_false (Nat.not_lt_zero _)]; rfl
    · have hb : (g : Int) < (p.gauges.n : Int) := of_decide_eq_true hlt
      have hgl : g < p.gauges.n := by omega
      obtain ⟨a1, a2, _⟩ := rsI_lay hs hgl
      have e0 : ((g : Int)).toNat = g := Int.toNat_natCast g
      rw [e0]
      have row : ∀ v : L.Gauge, v = L.rsG1 p s g → ∀ i, i < p.gauges.n → setRow (fun (j : Nat) => [.int .i64 ((L.rsTo p s g j).edge.lo), .int .i64 ((L.rsTo p s g j).edge.hi), .int .i64 ((L.rsTo p s g j).across.lo), .int .i64 ((L.rsTo p s g j).across.hi), .int .i64 ((L.rsTo p s g j).bend)]) (L.lay s p.gauges.n g).toNat 0 [.int .i64 v.edge.lo, .int .i64 v.edge.hi, .int .i64 v.across.lo, .int .i64 v.across.hi, .int .i64 v.bend] i = [.int .i64 ((L.rsTo p s (g + 1) i).edge.lo), .int .i64 ((L.rsTo p s (g + 1) i).edge.hi), .int .i64 ((L.rsTo p s (g + 1) i).across.lo), .int .i64 ((L.rsTo p s (g + 1) i).across.hi), .int .i64 ((L.rsTo p s (g + 1) i).bend)] := fun v hv i hi => by
        rw [rsTo_step hs hgl hi]
        unfold setRow
        by_cases h : i = (L.lay s p.gauges.n g).toNat
        · rw [if_pos h, if_pos h, hv]; rfl
        · rw [if_neg h, if_neg h]
      have t1 : 0 ≤ Int.tmod ((g : Int) + p.gauges.n - 1) p.gauges.n := Int.tmod_nonneg _ (by omega)
      have t2 : Int.tmod ((g : Int) + p.gauges.n - 1) p.gauges.n < p.gauges.n := Int.tmod_lt_of_pos _ (by omega)
      refine ⟨⟨by omega, hb⟩, fun hk => ?_, fun hk => ?_⟩
      · have hw := row ⟨(p.gauges.g g).edge, (p.gauges.g (L.prev p.gauges.n g)).across, (p.gauges.g (L.prev p.gauges.n g)).bend⟩ (by unfold L.rsG1; rw [hk]; rfl)
        exact ⟨InK.of (by omega) (by omega), InK.of (by omega) (by omega), by omega, ⟨t1, t2⟩, InK.of (by omega) (by omega), InK.of (by omega) (by omega), by omega, ⟨t1, t2⟩, ⟨by omega, by omega, by omega, by omega, by omega, by omega⟩, ⟨a1, a2⟩, by omega, InK.of (by omega) (by omega), g + 1, by omega, rfl, rfl, rfl, rfl, rfl, ⟨rfl, hw⟩, rfl, rfl, rfl, rfl, rfl, ⟨rfl, fun _ _ => rfl⟩, rfl, rfl, rfl, rfl, rfl, rfl, rfl, by omega, by omega⟩
      · have hw := row (p.gauges.g g) (by unfold L.rsG1; rw [hk]; rfl)
        exact ⟨⟨by omega, by omega, by omega, by omega, by omega, by omega⟩, ⟨a1, a2⟩, by omega, InK.of (by omega) (by omega), g + 1, by omega, rfl, rfl, rfl, rfl, rfl, ⟨rfl, hw⟩, rfl, rfl, rfl, rfl, rfl, ⟨rfl, fun _ _ => rfl⟩, rfl, rfl, rfl, rfl, rfl, rfl, rfl, by omega, by omega⟩
    have hb : ¬ (g : Int) < (p.gauges.n : Int) := of_decide_eq_false hge
    obtain rfl : g = p.gauges.n := by omega
    have e1 : ∀ i, i < p.gauges.n → ([.int .i64 ((L.rsTo p s p.gauges.n i).edge.lo), .int .i64 ((L.rsTo p s p.gauges.n i).edge.hi), .int .i64 ((L.rsTo p s p.gauges.n i).across.lo), .int .i64 ((L.rsTo p s p.gauges.n i).across.hi), .int .i64 ((L.rsTo p s p.gauges.n i).bend)] : List SV) = [.int .i64 (((L.rs p s).gauges.g i).edge.lo), .int .i64 (((L.rs p s).gauges.g i).edge.hi), .int .i64 (((L.rs p s).gauges.g i).across.lo), .int .i64 (((L.rs p s).gauges.g i).across.hi), .int .i64 (((L.rs p s).gauges.g i).bend)] := fun i _ => by
      rw [rsTo_full (p := p) (s := s) hn0 i]; rfl
    have e0 : ((p.gauges.n : Int)).toNat = p.gauges.n := Int.toNat_natCast _
    rw [e0]
    refine ⟨⟨fun _ _ => rfl, by omega, hs, fun k hk => ⟨(hmk.2 k hk).1, (hmk.2 k hk).2.1⟩⟩, fun t _ => ⟨fun hk => ?_, fun hk => ?_⟩⟩
    · have c1 : p.rev = (L.rs p s).colour := by unfold L.rs; rw [hk]; rfl
      have c2 : p.colour = (L.rs p s).rev := by unfold L.rs; rw [hk]; rfl
      exact ⟨rfl, c1, c2, rfl, rfl, ⟨rfl, e1⟩, rfl, fun _ _ => rfl⟩
    · have c1 : p.colour = (L.rs p s).colour := by unfold L.rs; rw [hk]; rfl
      have c2 : p.rev = (L.rs p s).rev := by unfold L.rs; rw [hk]; rfl
      exact ⟨rfl, c1, c2, rfl, rfl, ⟨rfl, e1⟩, rfl, fun _ _ => rfl⟩)
theorem r3_reset_ok : SpecOk Tryz.prog 63 r3_reset_S := fnX Tryz.func63 (c := bodyOf Tryz.f63) (by kernel_rfl) mixed (fun args p r hs hp => by
  unfold r3_reset_s at hs
  split at hs
  · cases hs; exact ⟨_, _, r3_reset_vc _ _ hp.2.2, (.p (.agg rfl (fun i hi => by
      rcases i with _ | i
      · exact (Ext.refl _ : Ext _ _)
      rcases i with _ | i
      · exact (Ext.refl _ : Ext _ _)
      rcases i with _ | i
      · exact (Ext.refl _ : Ext _ _)
      rcases i with _ | i
      · exact (Ext.refl _ : Ext _ _)
      rcases i with _ | i
      · exact (Ext.refl _ : Ext _ _)
      rcases i with _ | i
      · exact (Ext.sl hp.1 : Ext _ _)
      rcases i with _ | i
      · exact (Ext.sl hp.2.1 : Ext _ _)
      exact absurd hi (by simp; try omega))) (.same _ .nil)), ⟨show SpecsL Tryz.prog _ from (SpecsL.cons r1_Laid_ok r1_Laid_en (SpecsL.cons r3_shown_ok r3_shown_en SpecsL.nil)), rfl, ⟨show ItersL Tryz.prog _ from ItersL.nil, (TrsOk.none (fun _ => rfl))⟩⟩⟩
  · cases hs)
theorem r3_reset_en : Enters Tryz.prog 63 := fun args w => by kernel_rfl
end Go.Proofs.YtooapgllahonaaaGreat

namespace Go.Proofs.YtooapgllahonaaaGreat
open Go.SE Go.RowKit
set_option maxRecDepth 100000
set_option maxHeartbeats 4000000
set_option linter.unusedVariables false
attribute [local irreducible] vc

def L.zeroP : L.Piece := ⟨0, 0, 0, 0, 0, ⟨0, fun _ => ⟨⟨0, 0⟩, ⟨0, 0⟩, 0⟩⟩, ⟨0, fun _ => ⟨0, 0, 0⟩⟩⟩
def L.wrE (p : L.Piece) (s : L.Setting) : Int := bif !L.validPiece p then 30 else bif !L.validSet s p.gauges.n then 1 else 0
def L.rsV (p : L.Piece) (s : L.Setting) : L.Piece := bif decide (L.wrE p s = 0) then L.rs p s else L.zeroP
def L.samePc (a b : L.Piece) : Bool := bif (bif (bif (bif (bif (bif decide (a.id = b.id) then decide (a.colour = b.colour) else false) then decide (a.rev = b.rev) else false) then decide (a.made = b.made) else false) then decide (a.swell = b.swell) else false) then L.sameGs a.gauges b.gauges else false) then L.sameMs a.marks b.marks else false
theorem samePc_refl (a : L.Piece) : L.samePc a a = true := by
  unfold L.samePc
  rw [sameGs_refl, sameMs_refl]
  simp
theorem wrE_cases (p : L.Piece) (s : L.Setting) : (L.wrE p s = 0 ∧ L.validPiece p = true ∧ L.validSet s p.gauges.n = true ∧ L.rsV p s = L.rs p s) ∨ (L.wrE p s ≠ 0 ∧ L.rsV p s = L.zeroP) := by
  unfold L.rsV
  cases h1 : L.validPiece p with
  | false =>
    have : L.wrE p s = 30 := by unfold L.wrE; rw [h1]; rfl
    rw [this]
    exact .inr ⟨by decide, rfl⟩
  | true =>
    cases h2 : L.validSet s p.gauges.n with
    | false =>
      have : L.wrE p s = 1 := by unfold L.wrE; rw [h1, h2]; rfl
      rw [this]
      exact .inr ⟨by decide, rfl⟩
    | true =>
      have : L.wrE p s = 0 := by unfold L.wrE; rw [h1, h2]; rfl
      rw [this]
      exact .inl ⟨rfl, rfl, rfl, rfl⟩
def g_wrong_p (p : L.Piece) (s : L.Setting) : Prop := p.gauges.n ≤ 1000000 ∧ p.marks.n ≤ 1000000
def g_wrong_r (p : L.Piece) (s : L.Setting) : SV := .int .i64 (L.wrE p s)
def g_wrong_s : List EV → Option (Prop × SV)
  | [.p (.agg [.int .i64 p_id, .int .i64 p_colour, .int .i64 p_rev, .int .i64 p_made, .int .i64 p_swell, .sl 5 p_gauges_n p_gauges_g, .sl 3 p_marks_n p_marks_g]), .p (.agg [.int .i64 s_shift, .bool s_back])] => some ((∀ i, i < p_gauges_n → p_gauges_g i = [.int .i64 ((ofGauge (p_gauges_g i)).edge.lo), .int .i64 ((ofGauge (p_gauges_g i)).edge.hi), .int .i64 ((ofGauge (p_gauges_g i)).across.lo), .int .i64 ((ofGauge (p_gauges_g i)).across.hi), .int .i64 ((ofGauge (p_gauges_g i)).bend)]) ∧ (∀ i, i < p_marks_n → p_marks_g i = [.int .i64 ((ofMark (p_marks_g i)).edge), .int .i64 ((ofMark (p_marks_g i)).place), .int .i64 ((ofMark (p_marks_g i)).tone)]) ∧ g_wrong_p (⟨p_id, p_colour, p_rev, p_made, p_swell, (⟨p_gauges_n, fun i => ofGauge (p_gauges_g i)⟩ : (L.Sq L.Gauge)), (⟨p_marks_n, fun i => ofMark (p_marks_g i)⟩ : (L.Sq L.Mark))⟩ : L.Piece) (⟨s_shift, s_back⟩ : L.Setting), g_wrong_r (⟨p_id, p_colour, p_rev, p_made, p_swell, (⟨p_gauges_n, fun i => ofGauge (p_gauges_g i)⟩ : (L.Sq L.Gauge)), (⟨p_marks_n, fun i => ofMark (p_marks_g i)⟩ : (L.Sq L.Mark))⟩ : L.Piece) (⟨s_shift, s_back⟩ : L.Setting))
  | _ => none
abbrev g_wrong_S : SE.Spec := (specO g_wrong_s)
def g_wrong_C : Cfg := { muts := [], frz := lookN [], specs := lookS [(47, g_ValidPiece_S), (103, p_ValidSetting_S)], loops := lookL [], iters := lookI [], rfs := lookR [], nils := lookM [] }
theorem g_wrong_vc (p : L.Piece) (s : L.Setting) (hp : g_wrong_p p s) : vc Tryz.prog (g_wrong_C) (bodyOf Tryz.f61) (st0 Tryz.f61 [.p (.agg [.int .i64 p.id, .int .i64 p.colour, .int .i64 p.rev, .int .i64 p.made, .int .i64 p.swell, .sl 5 p.gauges.n (fun i => [.int .i64 ((p.gauges.g i).edge.lo), .int .i64 ((p.gauges.g i).edge.hi), .int .i64 ((p.gauges.g i).across.lo), .int .i64 ((p.gauges.g i).across.hi), .int .i64 ((p.gauges.g i).bend)]), .sl 3 p.marks.n (fun i => [.int .i64 ((p.marks.g i).edge), .int .i64 ((p.marks.g i).place), .int .i64 ((p.marks.g i).tone)])]), .p (.agg [.int .i64 s.shift, .bool s.back])]) (retFn Tryz.prog Tryz.f61 (g_wrong_r p s)) :=
  @Eq.mpr _ (((∀ (i : Nat), i < p.gauges.n → [SV.int .i64 (p.gauges.g i).edge.lo, SV.int .i64 (p.gauges.g i).edge.hi, SV.int .i64 (p.gauges.g i).across.lo, SV.int .i64 (p.gauges.g i).across.hi, SV.int .i64 (p.gauges.g i).bend] = [SV.int .i64 (p.gauges.g i).edge.lo, SV.int .i64 (p.gauges.g i).edge.hi,
 SV.int .i64 (p.gauges.g i).across.lo, SV.int .i64 (p.gauges.g i).across.hi, SV.int .i64 (p.gauges.g i).bend]) ∧ (∀ (i : Nat), i < p.marks.n → [SV.int .i64 (p.marks.g i).edge, SV.int .i64 (p.marks.g i).place, SV.int .i64 (p.marks.g i).tone] = [SV.int .i64 (p.marks.g i).edge, SV.int
 .i64 (p.marks.g i).place, SV.int .i64 (p.marks.g i).tone]) ∧ p.gauges.n ≤ (1000000 : Nat) ∧ p.marks.n ≤ (1000000 : Nat)) ∧ ((!L.validPiece (L.Piece.mk p.id p.colour p.rev p.made p.swell (L.Sq.mk p.gauges.n fun (i : Nat) ↦ p.gauges.g i) (L.Sq.mk p.marks.n fun (i : Nat) ↦ p.marks.g i))) = true → (30 : Int) = L.wrE p s) ∧ ((!L.validPiece (L.Piece.mk p.id p.colour p.rev
 p.made p.swell (L.Sq.mk p.gauges.n fun (i : Nat) ↦ p.gauges.g i) (L.Sq.mk p.marks.n fun (i : Nat) ↦ p.marks.g i))) = false → True ∧ ((!L.validSet s (↑p.gauges.n : Int)) = true → (1 : Int) = L.wrE p s) ∧ ((!L.validSet s (↑p.gauges.n : Int)) = false → (0 : Int) = L.wrE p s))) (by kernel_rfl) (by
    refine ⟨⟨fun _ _ => rfl, fun _ _ => rfl, hp.1, hp.2⟩, fun h => ?_, fun h => ⟨trivial, fun k => ?_, fun k => ?_⟩⟩
    · have h : (!L.validPiece p) = true := h
      unfold L.wrE; rw [h]; rfl
    · have h : (!L.validPiece p) = false := h
      unfold L.wrE; rw [h, k]; rfl
    · have h : (!L.validPiece p) = false := h
      unfold L.wrE; rw [h, k]; rfl)
theorem g_wrong_ok : SpecOk Tryz.prog 61 g_wrong_S := fnX Tryz.func61 (c := bodyOf Tryz.f61) (by kernel_rfl) mixed (fun args p r hs hp => by
  unfold g_wrong_s at hs
  split at hs
  · cases hs; exact ⟨_, _, g_wrong_vc _ _ hp.2.2, (.p (.agg rfl (fun i hi => by
      rcases i with _ | i
      · exact (Ext.refl _ : Ext _ _)
      rcases i with _ | i
      · exact (Ext.refl _ : Ext _ _)
      rcases i with _ | i
      · exact (Ext.refl _ : Ext _ _)
      rcases i with _ | i
      · exact (Ext.refl _ : Ext _ _)
      rcases i with _ | i
      · exact (Ext.refl _ : Ext _ _)
      rcases i with _ | i
      · exact (Ext.sl hp.1 : Ext _ _)
      rcases i with _ | i
      · exact (Ext.sl hp.2.1 : Ext _ _)
      exact absurd hi (by simp; try omega))) (.same _ .nil)), ⟨show SpecsL Tryz.prog _ from (SpecsL.cons g_ValidPiece_ok g_ValidPiece_en (SpecsL.cons p_ValidSetting_ok p_ValidSetting_en SpecsL.nil)), rfl, ⟨show ItersL Tryz.prog _ from ItersL.nil, (TrsOk.none (fun _ => rfl))⟩⟩⟩
  · cases hs)
theorem g_wrong_en : Enters Tryz.prog 61 := fun args w => by kernel_rfl
def r3_SamePiece_p (p : L.Piece) (q : L.Piece) : Prop := p.gauges.n ≤ 1000000 ∧ p.marks.n ≤ 1000000
def r3_SamePiece_r (p : L.Piece) (q : L.Piece) : SV := .bool (L.samePc p q)
def r3_SamePiece_s : List EV → Option (Prop × SV)
  | [.p (.agg [.int .i64 p_id, .int .i64 p_colour, .int .i64 p_rev, .int .i64 p_made, .int .i64 p_swell, .sl 5 p_gauges_n p_gauges_g, .sl 3 p_marks_n p_marks_g]), .p (.agg [.int .i64 q_id, .int .i64 q_colour, .int .i64 q_rev, .int .i64 q_made, .int .i64 q_swell, .sl 5 q_gauges_n q_gauges_g, .sl 3 q_marks_n q_marks_g])] => some ((∀ i, i < p_gauges_n → p_gauges_g i = [.int .i64 ((ofGauge (p_gauges_g i)).edge.lo), .int .i64 ((ofGauge (p_gauges_g i)).edge.hi), .int .i64 ((ofGauge (p_gauges_g i)).across.lo), .int .i64 ((ofGauge (p_gauges_g i)).across.hi), .int .i64 ((ofGauge (p_gauges_g i)).bend)]) ∧ (∀ i, i < p_marks_n → p_marks_g i = [.int .i64 ((ofMark (p_marks_g i)).edge), .int .i64 ((ofMark (p_marks_g i)).place), .int .i64 ((ofMark (p_marks_g i)).tone)]) ∧ (∀ i, i < q_gauges_n → q_gauges_g i = [.int .i64 ((ofGauge (q_gauges_g i)).edge.lo), .int .i64 ((ofGauge (q_gauges_g i)).edge.hi), .int .i64 ((ofGauge (q_gauges_g i)).across.lo), .int .i64 ((ofGauge (q_gauges_g i)).across.hi), .int .i64 ((ofGauge (q_gauges_g i)).bend)]) ∧ (∀ i, i < q_marks_n → q_marks_g i = [.int .i64 ((ofMark (q_marks_g i)).edge), .int .i64 ((ofMark (q_marks_g i)).place), .int .i64 ((ofMark (q_marks_g i)).tone)]) ∧ r3_SamePiece_p (⟨p_id, p_colour, p_rev, p_made, p_swell, (⟨p_gauges_n, fun i => ofGauge (p_gauges_g i)⟩ : (L.Sq L.Gauge)), (⟨p_marks_n, fun i => ofMark (p_marks_g i)⟩ : (L.Sq L.Mark))⟩ : L.Piece) (⟨q_id, q_colour, q_rev, q_made, q_swell, (⟨q_gauges_n, fun i => ofGauge (q_gauges_g i)⟩ : (L.Sq L.Gauge)), (⟨q_marks_n, fun i => ofMark (q_marks_g i)⟩ : (L.Sq L.Mark))⟩ : L.Piece), r3_SamePiece_r (⟨p_id, p_colour, p_rev, p_made, p_swell, (⟨p_gauges_n, fun i => ofGauge (p_gauges_g i)⟩ : (L.Sq L.Gauge)), (⟨p_marks_n, fun i => ofMark (p_marks_g i)⟩ : (L.Sq L.Mark))⟩ : L.Piece) (⟨q_id, q_colour, q_rev, q_made, q_swell, (⟨q_gauges_n, fun i => ofGauge (q_gauges_g i)⟩ : (L.Sq L.Gauge)), (⟨q_marks_n, fun i => ofMark (q_marks_g i)⟩ : (L.Sq L.Mark))⟩ : L.Piece))
  | _ => none
abbrev r3_SamePiece_S : SE.Spec := (specO r3_SamePiece_s)
def r3_SamePiece_C : Cfg := { muts := [], frz := lookN [], specs := lookS [(64, r3_SameGauges_S), (19, r3_SameMarks_S)], loops := lookL [], iters := lookI [], rfs := lookR [], nils := lookM [] }
theorem r3_SamePiece_vc (p : L.Piece) (q : L.Piece) (hp : r3_SamePiece_p p q) : vc Tryz.prog (r3_SamePiece_C) (bodyOf Tryz.f18) (st0 Tryz.f18 [.p (.agg [.int .i64 p.id, .int .i64 p.colour, .int .i64 p.rev, .int .i64 p.made, .int .i64 p.swell, .sl 5 p.gauges.n (fun i => [.int .i64 ((p.gauges.g i).edge.lo), .int .i64 ((p.gauges.g i).edge.hi), .int .i64 ((p.gauges.g i).across.lo), .int .i64 ((p.gauges.g i).across.hi), .int .i64 ((p.gauges.g i).bend)]), .sl 3 p.marks.n (fun i => [.int .i64 ((p.marks.g i).edge), .int .i64 ((p.marks.g i).place), .int .i64 ((p.marks.g i).tone)])]), .p (.agg [.int .i64 q.id, .int .i64 q.colour, .int .i64 q.rev, .int .i64 q.made, .int .i64 q.swell, .sl 5 q.gauges.n (fun i => [.int .i64 ((q.gauges.g i).edge.lo), .int .i64 ((q.gauges.g i).edge.hi), .int .i64 ((q.gauges.g i).across.lo), .int .i64 ((q.gauges.g i).across.hi), .int .i64 ((q.gauges.g i).bend)]), .sl 3 q.marks.n (fun i => [.int .i64 ((q.marks.g i).edge), .int .i64 ((q.marks.g i).place), .int .i64 ((q.marks.g i).tone)])])]) (retFn Tryz.prog Tryz.f18 (r3_SamePiece_r p q)) :=
  @Eq.mpr _ (((bif bif bif bif decide (p.id = q.id) then decide (p.colour = q.colour) else false then decide (p.rev = q.rev) else false then decide (p.made = q.made) else false then decide (p.swell = q.swell) else false) = true → (∀ (i : Nat), i < p.gauges.n → [SV.int .i64 (p.gauges.g i).edge.lo, SV.int
 .i64 (p.gauges.g i).edge.hi, SV.int .i64 (p.gauges.g i).across.lo, SV.int .i64 (p.gauges.g i).across.hi, SV.int .i64 (p.gauges.g i).bend] = [SV.int .i64 (p.gauges.g i).edge.lo, SV.int .i64 (p.gauges.g i).edge.hi, SV.int .i64 (p.gauges.g i).across.lo, SV.int .i64 (p.gauges.g
 i).across.hi, SV.int .i64 (p.gauges.g i).bend]) ∧ (∀ (i : Nat), i < q.gauges.n → [SV.int .i64 (q.gauges.g i).edge.lo, SV.int .i64 (q.gauges.g i).edge.hi, SV.int .i64 (q.gauges.g i).across.lo, SV.int .i64 (q.gauges.g i).across.hi, SV.int .i64 (q.gauges.g i).bend] = [SV.int .i64
 (q.gauges.g i).edge.lo, SV.int .i64 (q.gauges.g i).edge.hi, SV.int .i64 (q.gauges.g i).across.lo, SV.int .i64 (q.gauges.g i).across.hi, SV.int .i64 (q.gauges.g i).bend]) ∧ p.gauges.n ≤ (1000000 : Nat)) ∧ ((bif bif bif bif bif decide (p.id = q.id) then decide (p.colour = q.colour) else false then
 decide (p.rev = q.rev) else false then decide (p.made = q.made) else false then decide (p.swell = q.swell) else false then L.sameGs (L.Sq.mk p.gauges.n fun (i : Nat) ↦ p.gauges.g i) (L.Sq.mk q.gauges.n fun (i : Nat) ↦ q.gauges.g i) else false) = true → (∀ (i : Nat), i < p.marks.n → [SV.int .i64 (p.marks.g i).edge, SV.int
 .i64 (p.marks.g i).place, SV.int .i64 (p.marks.g i).tone] = [SV.int .i64 (p.marks.g i).edge, SV.int .i64 (p.marks.g i).place, SV.int .i64 (p.marks.g i).tone]) ∧ (∀ (i : Nat), i < q.marks.n → [SV.int .i64 (q.marks.g i).edge, SV.int .i64 (q.marks.g i).place, SV.int .i64
 (q.marks.g i).tone] = [SV.int .i64 (q.marks.g i).edge, SV.int .i64 (q.marks.g i).place, SV.int .i64 (q.marks.g i).tone]) ∧ p.marks.n ≤ (1000000 : Nat)) ∧ (bif bif bif bif bif bif decide (p.id = q.id) then decide (p.colour = q.colour) else false then decide (p.rev = q.rev) else false then decide
 (p.made = q.made) else false then decide (p.swell = q.swell) else false then L.sameGs (L.Sq.mk p.gauges.n fun (i : Nat) ↦ p.gauges.g i) (L.Sq.mk q.gauges.n fun (i : Nat) ↦ q.gauges.g i) else false then L.sameMs (L.Sq.mk p.marks.n fun (i : Nat) ↦ p.marks.g i) (L.Sq.mk q.marks.n fun (i : Nat) ↦ q.marks.g i) else false) = L.samePc p q) (by kernel_rfl) (by
    exact ⟨fun _ => ⟨fun _ _ => rfl, fun _ _ => rfl, hp.1⟩, fun _ => ⟨fun _ _ => rfl, fun _ _ => rfl, hp.2⟩, rfl⟩)
theorem r3_SamePiece_ok : SpecOk Tryz.prog 18 r3_SamePiece_S := fnX Tryz.func18 (c := bodyOf Tryz.f18) (by kernel_rfl) mixed (fun args p r hs hp => by
  unfold r3_SamePiece_s at hs
  split at hs
  · cases hs; exact ⟨_, _, r3_SamePiece_vc _ _ hp.2.2.2.2, (.p (.agg rfl (fun i hi => by
      rcases i with _ | i
      · exact (Ext.refl _ : Ext _ _)
      rcases i with _ | i
      · exact (Ext.refl _ : Ext _ _)
      rcases i with _ | i
      · exact (Ext.refl _ : Ext _ _)
      rcases i with _ | i
      · exact (Ext.refl _ : Ext _ _)
      rcases i with _ | i
      · exact (Ext.refl _ : Ext _ _)
      rcases i with _ | i
      · exact (Ext.sl hp.1 : Ext _ _)
      rcases i with _ | i
      · exact (Ext.sl hp.2.1 : Ext _ _)
      exact absurd hi (by simp; try omega))) (.p (.agg rfl (fun i hi => by
      rcases i with _ | i
      · exact (Ext.refl _ : Ext _ _)
      rcases i with _ | i
      · exact (Ext.refl _ : Ext _ _)
      rcases i with _ | i
      · exact (Ext.refl _ : Ext _ _)
      rcases i with _ | i
      · exact (Ext.refl _ : Ext _ _)
      rcases i with _ | i
      · exact (Ext.refl _ : Ext _ _)
      rcases i with _ | i
      · exact (Ext.sl hp.2.2.1 : Ext _ _)
      rcases i with _ | i
      · exact (Ext.sl hp.2.2.2.1 : Ext _ _)
      exact absurd hi (by simp; try omega))) .nil)), ⟨show SpecsL Tryz.prog _ from (SpecsL.cons r3_SameGauges_ok r3_SameGauges_en (SpecsL.cons r3_SameMarks_ok r3_SameMarks_en SpecsL.nil)), rfl, ⟨show ItersL Tryz.prog _ from ItersL.nil, (TrsOk.none (fun _ => rfl))⟩⟩⟩
  · cases hs)
theorem r3_SamePiece_en : Enters Tryz.prog 18 := fun args w => by kernel_rfl
end Go.Proofs.YtooapgllahonaaaGreat

namespace Go.Proofs.YtooapgllahonaaaGreat
open Go.SE Go.RowKit
set_option maxRecDepth 100000
set_option maxHeartbeats 4000000
set_option linter.unusedVariables false
attribute [local irreducible] vc

end Go.Proofs.YtooapgllahonaaaGreat

namespace Go.Proofs.YtooapgllahonaaaGreat
open Go.SE Go.RowKit
set_option maxRecDepth 100000
set_option maxHeartbeats 4000000
set_option linter.unusedVariables false
attribute [local irreducible] vc

abbrev cG (g : L.Gauge) : List SV := [.int .i64 g.edge.lo, .int .i64 g.edge.hi, .int .i64 g.across.lo, .int .i64 g.across.hi, .int .i64 g.bend]
abbrev cM (m : L.Mark) : List SV := [.int .i64 m.edge, .int .i64 m.place, .int .i64 m.tone]
theorem wrE_of {p : L.Piece} {s : L.Setting} (hv : L.validPiece p = true) (hs : L.validSet s p.gauges.n = true) : L.wrE p s = 0 ∧ L.rsV p s = L.rs p s := by
  have e : L.wrE p s = 0 := by unfold L.wrE; rw [hv, hs]; rfl
  rcases wrE_cases p s with ⟨_, _, _, h⟩ | ⟨h, _⟩
  · exact ⟨e, h⟩
  · exact absurd e h
end Go.Proofs.YtooapgllahonaaaGreat

namespace Go.Proofs.YtooapgllahonaaaGreat
open Go.SE Go.RowKit
set_option maxRecDepth 100000
set_option maxHeartbeats 4000000
set_option linter.unusedVariables false
attribute [local irreducible] vc
def g_all1_p (n : Int) : Prop := 0 ≤ n ∧ n ≤ 1000
def g_all1_n (n : Int) : Nat := (2 * n).toNat
def g_all1_i (n : Int) : Nat → List SV := fun k => [(.agg [.int .i64 ((L.sett k).shift), .bool ((L.sett k).back)])]
def g_all1_ic : List SV → Option (Prop × Nat × (Nat → List SV))
  | [.ref [.int .i64 n] 0] => some (g_all1_p n, g_all1_n n, g_all1_i n)
  | _ => none
abbrev g_all1_it : ItSpec := itOf g_all1_ic
def g_all1_C : Cfg := { muts := [], frz := lookN [], specs := lookS [], loops := fun _ => none, iters := lookI [], rfs := lookR [] }
theorem g_all1_vc (yl : Nat) (n : Int) (hp : g_all1_p n) : vc Tryz.prog { g_all1_C with loops := lookL [(1, { T := Nat, keep := [0, 1, 5], keepO := [], chg := fun i => [(6, .p (.int .i64 (i : Int)))], own := fun _ => [], inv := fun i => i ≤ (2 * n).toNat, mu := fun i => (2 * n).toNat - i, yk := some (fun i => i) })], yld := some ⟨yl, g_all1_n n, g_all1_i n⟩ } (bodyOf Tryz.f166) (st0 Tryz.f166 (.yield yl :: ([.ref [.int .i64 n] 0] : List SV).map .p)) (retIt Tryz.prog Tryz.f166 (g_all1_n n)) :=
  @Eq.mpr _ (InK .i64 ((2 : Int) * n) ∧ (∃ (g : Nat), nat_lit 0 = g ∧ false = false ∧ (0 : Int) = (↑g : Int) ∧ g ≤ Int.toNat ((2 : Int) * n)) ∧ ∀ (g : Nat), g ≤ Int.toNat ((2 : Int) * n) → (decide ((↑g : Int) < (2 : Int) * n) = true → (2 : Int) ≠ (0 : Int) ∧ InK .i64 (Int.tdiv (↑g : Int) (2 : Int)) ∧ (2 : Int) ≠ (0 : Int) ∧ yl = yl ∧ g < Int.toNat ((2 :
 Int) * n) ∧ [SV.agg [SV.int .i64 (Int.tdiv (↑g : Int) (2 : Int)), SV.bool (decide (Int.tmod (↑g : Int) (2 : Int) = (1 : Int)))]] = [SV.agg [SV.int .i64 (L.sett g).shift, SV.bool (L.sett g).back]] ∧ ((false = true → g + (1 : Nat) = Int.toNat ((2 : Int) * n) ∨ g + (1 : Nat) = Int.toNat ((2 : Int) * n) + (1 : Nat)) ∧
 (false = false → InK .i64 ((↑g : Int) + (1 : Int)) ∧ ∃ (g' : Nat), g + (1 : Nat) = g' ∧ false = false ∧ (↑g : Int) + (1 : Int) = (↑g' : Int) ∧ (2 : Int) * n = (2 : Int) * n ∧ yl = yl ∧ SV.ref [SV.int .i64 n] (nat_lit 0) = SV.ref [SV.int .i64 n] (nat_lit 0) ∧ g' ≤ Int.toNat ((2 : Int) * n) ∧ Int.toNat ((2 : Int) * n) -
 g' < Int.toNat ((2 : Int) * n) - g)) ∧ (true = true → Int.toNat ((2 : Int) * n) + (1 : Nat) = Int.toNat ((2 : Int) * n) ∨ Int.toNat ((2 : Int) * n) + (1 : Nat) = Int.toNat ((2 : Int) * n) + (1 : Nat)) ∧ (true = false → InK .i64 ((↑g : Int) + (1 : Int)) ∧ ∃ (g' : Nat), Int.toNat ((2 : Int) * n) + (1 : Nat) = g' ∧ false = false ∧ (↑g : Int) + (1 : Int) =
 (↑g' : Int) ∧ (2 : Int) * n = (2 : Int) * n ∧ yl = yl ∧ SV.ref [SV.int .i64 n] (nat_lit 0) = SV.ref [SV.int .i64 n] (nat_lit 0) ∧ g' ≤ Int.toNat ((2 : Int) * n) ∧ Int.toNat ((2 : Int) * n) - g' < Int.toNat ((2 : Int) * n) - g)) ∧ (decide ((↑g : Int) < (2 : Int) * n) = false → g = Int.toNat ((2 : Int) * n) ∨ g = Int.toNat ((2 : Int) * n) +
 (1 : Nat))) (by kernel_rfl) (by
    obtain ⟨h0, h1⟩ := hp
    refine ⟨InK.of (by omega) (by omega), ⟨(0 : Nat), rfl, rfl, rfl, Nat.zero_le _⟩, fun g hg => ⟨fun hlt => ?_, fun hge => ?_⟩⟩
    rotate_left
    · have : ¬ (g : Int) < 2 * n := of_decide_eq_false hge
      exact .inl (by omega)
    have hb : (g : Int) < 2 * n := of_decide_eq_true hlt
    have t1 : 0 ≤ Int.tdiv (g : Int) 2 ∧ Int.tdiv (g : Int) 2 ≤ (g : Int) := by
      rw [Int.tdiv_eq_ediv_of_nonneg (by omega)]; omega
    exact ⟨by omega, InK.of (by omega) (by omega), by omega, rfl, by omega, rfl, ⟨fun h => (by cases h), fun _ => ⟨InK.of (by omega) (by omega), g + 1, rfl, rfl, by omega, rfl, rfl, rfl, by omega, by omega⟩⟩, fun _ => .inr rfl, fun h => (by cases h)⟩)
theorem g_all1_itok : ItOk Tryz.prog 166 g_all1_it := iterX Tryz.func166 (c := bodyOf Tryz.f166) (by kernel_rfl) mixed (fun caps l p n g hs hp => by
  unfold g_all1_ic at hs
  split at hs
  · cases hs; exact ⟨_, _, g_all1_vc l _ hp, (.cons (Ext.refl _) .nil), rfl, show SpecsL Tryz.prog _ from SpecsL.nil, ⟨show ItersL Tryz.prog _ from ItersL.nil, TrsOk.none (fun _ => rfl)⟩⟩
  · cases hs)
theorem g_all1_en : Enters Tryz.prog 166 := fun args w => by kernel_rfl
def g_all_p (n : Int) : Prop := True
def g_all_r (n : Int) : SV := .clo 166 [.ref [.int .i64 n] 0]
def g_all_s : List EV → Option (Prop × SV)
  | [.p (.int .i64 n)] => some (g_all_p n, g_all_r n)
  | _ => none
abbrev g_all_S : SE.Spec := (specO g_all_s)
def g_all_C : Cfg := { muts := [], frz := lookN [], specs := lookS [], loops := lookL [], iters := lookI [], rfs := lookR [], nils := lookM [] }
theorem g_all_vc (n : Int) (hp : g_all_p n) : vc Tryz.prog (g_all_C) (bodyOf Tryz.f109) (st0 Tryz.f109 [.p (.int .i64 n)]) (retFn Tryz.prog Tryz.f109 (g_all_r n)) :=
  @Eq.mpr _ (SV.clo (nat_lit 166) [SV.ref [SV.int .i64 n] (nat_lit 0)] = SV.clo (nat_lit 166) [SV.ref [SV.int .i64 n] (nat_lit 0)]) (by kernel_rfl) (by
    exact rfl)
theorem g_all_ok : SpecOk Tryz.prog 109 g_all_S := fnX Tryz.func109 (c := bodyOf Tryz.f109) (by kernel_rfl) mixed (fun args p r hs hp => by
  unfold g_all_s at hs
  split at hs
  · cases hs; exact ⟨_, _, g_all_vc _ hp, (.same _ .nil), ⟨show SpecsL Tryz.prog _ from SpecsL.nil, rfl, ⟨show ItersL Tryz.prog _ from ItersL.nil, (TrsOk.none (fun _ => rfl))⟩⟩⟩
  · cases hs)
theorem g_all_en : Enters Tryz.prog 109 := fun args w => by kernel_rfl
end Go.Proofs.YtooapgllahonaaaGreat
