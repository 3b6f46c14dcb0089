/- A symbolic walk over the model, and what it shows of functions of the program: parts of the proof that the text of the row joins. -/
import Derived.Test.YtdlhpdidgfgomaaW1
import Derived.Test.YtdlhpdidgfgomaaE4
import Derived.KernelRfl

namespace Go.Proofs.Ytdlhpdidgfgomaa
open Go.SE Go.RowKit
set_option maxRecDepth 100000
set_option maxHeartbeats 4000000
set_option linter.unusedVariables false
attribute [local irreducible] vc

structure L.Pocket where
  fr : Int
  to_ : Int
  area : Int
instance : Inhabited L.Pocket := ⟨⟨0, 0, 0⟩⟩
def encPk (p : L.Pocket) : List Int := [p.fr, p.to_, p.area]
def L.cmpFr (a b : L.Pocket) : Int := L.cmp a.fr b.fr
theorem swoPk : Go.Sort.SWO (Go.Proofs.ltOf L.cmpFr) := by
  have k : ∀ x y, Go.Proofs.ltOf L.cmpFr x y = true ↔ x.fr < y.fr := fun x y => by
    unfold Go.Proofs.ltOf L.cmpFr L.cmp; rw [decide_eq_true_iff]
    by_cases h1 : x.fr < y.fr
    · simp [h1]
    · by_cases h2 : y.fr < x.fr <;> simp [h1, h2]
  have kf : ∀ x y, Go.Proofs.ltOf L.cmpFr x y = false ↔ ¬ x.fr < y.fr := fun x y => by
    rw [← k, Bool.not_eq_true]
  refine ⟨fun x => ?_, fun x y z => ?_, fun x y z => ?_⟩
  · rw [kf]; omega
  · simp only [k]; omega
  · simp only [kf]; omega
def L.pkFrom (l h : L.Sq L.Pt) (k : Nat) : Int := L.ptIdx l (h.g k)
def L.pkTo (l h : L.Sq L.Pt) (k : Nat) : Int := L.ptIdx l (h.g (L.next h.n k))
def L.isPk (l h : L.Sq L.Pt) (k : Nat) : Bool := !decide (L.pkTo l h k = Int.tmod (L.pkFrom l h k + 1) (l.n : Int))
def L.back (n : Nat) (to_ : Int) (j : Nat) : Int := Int.tmod (to_ + (n : Int) - (j : Int)) (n : Int)
def L.pkLen (n : Nat) (fr to_ : Int) : Nat := (Int.tmod (to_ + (n : Int) - fr) (n : Int)).toNat
def L.pkRow (l : L.Sq L.Pt) (fr to_ : Int) : L.Sq L.Pt := ⟨L.pkLen l.n fr to_ + 1, fun j => l.g (L.back l.n to_ j).toNat⟩
def L.pk (l h : L.Sq L.Pt) (k : Nat) : L.Pocket := ⟨L.pkFrom l h k, L.pkTo l h k, L.areaTo (L.pkRow l (L.pkFrom l h k) (L.pkTo l h k)) (L.pkRow l (L.pkFrom l h k) (L.pkTo l h k)).n⟩
def L.pks (l : L.Sq L.Pt) : L.Sq L.Pocket := ⟨L.cnt (L.isPk l (L.hull l)) (L.hull l).n, fun i => L.pk l (L.hull l) (L.selN (L.isPk l (L.hull l)) (L.hull l).n i)⟩
def L.pkN (l : L.Sq L.Pt) : Nat := bif L.validOutline l then (L.pks l).n else 0
def sortPk_ren : Go.Shelf.Ren := ⟨fun | 6 => 49 | 15 => 74 | 14 => 73 | 28 => 91 | 29 => 92 | 20 => 83 | 21 => 84 | 22 => 85 | 23 => 86 | 24 => 87 | 25 => 88 | 26 => 89 | 27 => 90 | 46 => 95 | 47 => 96 | 48 => 97 | 49 => 98 | 50 => 99 | 57 => 108 | n => n, fun | 22 => 48 | 24 => 53 | 25 => 75 | 3 => 3 | 39 => 94 | 0 => 0 | 53 => 112 | 55 => 114 | 4 => 4 | 46 => 105 | 45 => 104 | 50 => 109 | 5 => 5 | 9 => 9 | 66 => 117 | 70 => 121 | 76 => 128 | 77 => 129 | n => n, fun | n => n⟩
theorem sortPk_lay : Go.Proofs.SlLaysF0.n6 Try.prog sortPk_ren := {
  mixed := by kernel_rfl
  f6 := ⟨Try.f49.name, by decide, Try.func49.trans (congrArg some (by kernel_rfl))⟩
  f14 := ⟨Try.f73.name, by decide, Try.func73.trans (congrArg some (by kernel_rfl))⟩
  f15 := Try.func74.trans (congrArg some (by kernel_rfl))
  f20 := ⟨Try.f83.name, by decide, Try.func83.trans (congrArg some (by kernel_rfl))⟩
  f21 := ⟨Try.f84.name, by decide, Try.func84.trans (congrArg some (by kernel_rfl))⟩
  f22 := ⟨Try.f85.name, by decide, Try.func85.trans (congrArg some (by kernel_rfl))⟩
  f23 := ⟨Try.f86.name, by decide, Try.func86.trans (congrArg some (by kernel_rfl))⟩
  f24 := ⟨Try.f87.name, by decide, Try.func87.trans (congrArg some (by kernel_rfl))⟩
  f25 := ⟨Try.f88.name, by decide, Try.func88.trans (congrArg some (by kernel_rfl))⟩
  f26 := ⟨Try.f89.name, by decide, Try.func89.trans (congrArg some (by kernel_rfl))⟩
  f27 := ⟨Try.f90.name, by decide, Try.func90.trans (congrArg some (by kernel_rfl))⟩
  f28 := Try.func91.trans (congrArg some (by kernel_rfl))
  f29 := Try.func92.trans (congrArg some (by kernel_rfl))
  f46 := ⟨Try.f95.name, by decide, Try.func95.trans (congrArg some (by kernel_rfl))⟩
  f47 := Try.func96.trans (congrArg some (by kernel_rfl))
  f48 := Try.func97.trans (congrArg some (by kernel_rfl))
  f49 := ⟨Try.f98.name, by decide, Try.func98.trans (congrArg some (by kernel_rfl))⟩
  f50 := ⟨Try.f99.name, by decide, Try.func99.trans (congrArg some (by kernel_rfl))⟩
  f57 := ⟨Try.f108.name, by decide, Try.func108.trans (congrArg some (by kernel_rfl))⟩
  t0 := Try.underlying0
  a0 := Try.isAgg0
  z0 := Try.sizeOf0
  v0 := Try.zeroValue0
  t3 := Try.underlying3
  a3 := Try.isAgg3
  z3 := Try.sizeOf3
  v3 := Try.zeroValue3
  t4 := Try.underlying4
  a4 := Try.isAgg4
  z4 := Try.sizeOf4
  v4 := Try.zeroValue4
  t5 := Try.underlying5
  a5 := Try.isAgg5
  z5 := Try.sizeOf5
  v5 := Try.zeroValue5
  t9 := Try.underlying9
  a9 := Try.isAgg9
  z9 := Try.sizeOf9
  v9 := Try.zeroValue9
  t22 := Try.underlying48
  a22 := Try.isAgg48
  z22 := Try.sizeOf48
  v22 := Try.zeroValue48
  t25 := Try.underlying75
  a25 := Try.isAgg75
  z25 := Try.sizeOf75
  v25 := Try.zeroValue75
  t39 := Try.underlying94
  a39 := Try.isAgg94
  z39 := Try.sizeOf94
  v39 := Try.zeroValue94
  t45 := Try.underlying104
  a45 := Try.isAgg104
  z45 := Try.sizeOf104
  v45 := Try.zeroValue104
  t46 := Try.underlying105
  a46 := Try.isAgg105
  z46 := Try.sizeOf105
  v46 := Try.zeroValue105
  t50 := Try.underlying109
  a50 := Try.isAgg109
  z50 := Try.sizeOf109
  v50 := Try.zeroValue109
  t53 := Try.underlying112
  a53 := Try.isAgg112
  z53 := Try.sizeOf112
  v53 := Try.zeroValue112
  t55 := Try.underlying114
  a55 := Try.isAgg114
  z55 := Try.sizeOf114
  v55 := Try.zeroValue114
  t66 := Try.underlying117
  a66 := Try.isAgg117
  z66 := Try.sizeOf117
  v66 := Try.zeroValue117
  t70 := Try.underlying121
  a70 := Try.isAgg121
  z70 := Try.sizeOf121
  v70 := Try.zeroValue121
  t76 := Try.underlying128
  a76 := Try.isAgg128
  z76 := Try.sizeOf128
  v76 := Try.zeroValue128
  t77 := Try.underlying129
  a77 := Try.isAgg129
  z77 := Try.sizeOf129
  v77 := Try.zeroValue129 }

theorem back_bd {n : Nat} {to_ : Int} (hn : 0 < n) (h0 : 0 ≤ to_) {j : Nat} (hj : j ≤ n) : 0 ≤ L.back n to_ j ∧ L.back n to_ j < (n : Int) := by
  unfold L.back
  exact ⟨Int.tmod_nonneg (n : Int) (by omega), Int.tmod_lt_of_pos _ (by omega)⟩
theorem back_0 {n : Nat} {to_ : Int} (h0 : 0 ≤ to_) (h1 : to_ < (n : Int)) : L.back n to_ 0 = to_ := by
  unfold L.back
  rw [show to_ + (n : Int) - ((0 : Nat) : Int) = to_ + (n : Int) by omega, Int.tmod_eq_emod_of_nonneg (by omega), Int.add_emod_right, Int.emod_eq_of_lt h0 h1]
theorem back_succ {n : Nat} {to_ : Int} (hn : 0 < n) (h0 : 0 ≤ to_) {j : Nat} (hj : j < n) : Int.tmod (L.back n to_ j + (n : Int) - 1) (n : Int) = L.back n to_ (j + 1) := by
  have hb := back_bd hn h0 (j := j) (by omega)
  unfold L.back at hb ⊢
  rw [Int.tmod_eq_emod_of_nonneg (a := to_ + (n : Int) - (j : Int)) (by omega)] at hb ⊢
  rw [Int.tmod_eq_emod_of_nonneg (by omega), Int.tmod_eq_emod_of_nonneg (a := to_ + (n : Int) - ((j + 1 : Nat) : Int)) (by omega)]
  rw [show (to_ + (n : Int) - (j : Int)) % (n : Int) + (n : Int) - 1 = (to_ + (n : Int) - (j : Int)) % (n : Int) + ((n : Int) - 1) by omega, Int.emod_add_emod, show to_ + (n : Int) - (j : Int) + ((n : Int) - 1) = to_ + (n : Int) - ((j + 1 : Nat) : Int) + (n : Int) by omega, Int.add_emod_right]
theorem back_end {n : Nat} {fr to_ : Int} (hf0 : 0 ≤ fr) (hf1 : fr < (n : Int)) (ht0 : 0 ≤ to_) (ht1 : to_ < (n : Int)) {j : Nat} (hj : j ≤ L.pkLen n fr to_) : (L.back n to_ j = fr ↔ j = L.pkLen n fr to_) ∧ L.pkLen n fr to_ < n := by
  unfold L.pkLen L.back at *
  rw [Int.tmod_eq_emod_of_nonneg (a := to_ + (n : Int) - fr) (by omega)] at hj ⊢
  by_cases h : fr ≤ to_
  · have e1 : (to_ + (n : Int) - fr) % (n : Int) = to_ - fr := by
      rw [show to_ + (n : Int) - fr = to_ - fr + (n : Int) by omega, Int.add_emod_right, Int.emod_eq_of_lt (by omega) (by omega)]
    rw [e1] at hj ⊢
    rw [Int.tmod_eq_emod_of_nonneg (by omega), show to_ + (n : Int) - (j : Int) = to_ - (j : Int) + (n : Int) by omega, Int.add_emod_right, Int.emod_eq_of_lt (by omega) (by omega)]
    omega
  · have e1 : (to_ + (n : Int) - fr) % (n : Int) = to_ + (n : Int) - fr := Int.emod_eq_of_lt (by omega) (by omega)
    rw [e1] at hj ⊢
    rw [Int.tmod_eq_emod_of_nonneg (by omega)]
    by_cases h2 : (j : Int) ≤ to_
    · rw [show to_ + (n : Int) - (j : Int) = to_ - (j : Int) + (n : Int) by omega, Int.add_emod_right, Int.emod_eq_of_lt (by omega) (by omega)]
      omega
    · rw [Int.emod_eq_of_lt (by omega) (by omega)]
      omega
theorem pkRow_small {l : L.Sq L.Pt} (hs : L.small l) {fr to_ : Int} (hn : l.n ≤ 900) (hf0 : 0 ≤ fr) (hf1 : fr < (l.n : Int)) (ht0 : 0 ≤ to_) (ht1 : to_ < (l.n : Int)) : L.small (L.pkRow l fr to_) := by
  have hlen := (back_end hf0 hf1 ht0 ht1 (j := 0) (Nat.zero_le _)).2
  refine ⟨show L.pkLen l.n fr to_ + 1 ≤ 1000 by omega, fun i hi => ?_⟩
  have hi : i < L.pkLen l.n fr to_ + 1 := hi
  have hb := back_bd (n := l.n) (by omega) ht0 (j := i) (by omega)
  exact hs.2 _ (by omega)
theorem pk_idx {l : L.Sq L.Pt} {k : Nat} (hk : k < (L.hull l).n) : 0 ≤ L.ptIdx l ((L.hull l).g k) ∧ L.ptIdx l ((L.hull l).g k) < (l.n : Int) := by
  obtain ⟨i, hi, e⟩ := hull_mem l hk
  obtain ⟨j, hj, e2, _⟩ := ptIdx_of (l := l) hi
  rw [e, e2]; omega
def p_pk1_p (a : L.Pocket) (b : L.Pocket) : Prop := True
def p_pk1_r (a : L.Pocket) (b : L.Pocket) : SV := .int .i64 (L.cmpFr a b)
def p_pk1_s : List EV → Option (Prop × SV)
  | [.p (.agg [.int .i64 a_fr, .int .i64 a_to_, .int .i64 a_area]), .p (.agg [.int .i64 b_fr, .int .i64 b_to_, .int .i64 b_area])] => some (p_pk1_p (⟨a_fr, a_to_, a_area⟩ : L.Pocket) (⟨b_fr, b_to_, b_area⟩ : L.Pocket), p_pk1_r (⟨a_fr, a_to_, a_area⟩ : L.Pocket) (⟨b_fr, b_to_, b_area⟩ : L.Pocket))
  | _ => none
abbrev p_pk1_S : SE.Spec := (specO p_pk1_s)
def p_pk1_C : Cfg := { muts := [], frz := lookN [], specs := lookS [(51, c_cmp_S)], loops := lookL [], iters := lookI [], rfs := lookR [], nils := lookM [] }
theorem p_pk1_vc (a : L.Pocket) (b : L.Pocket) (hp : p_pk1_p a b) : vc Try.prog (p_pk1_C) (bodyOf Try.f50) (st0 Try.f50 [.p (.agg [.int .i64 a.fr, .int .i64 a.to_, .int .i64 a.area]), .p (.agg [.int .i64 b.fr, .int .i64 b.to_, .int .i64 b.area])]) (retFn Try.prog Try.f50 (p_pk1_r a b)) :=
  @Eq.mpr _ (True ∧ L.cmp a.fr b.fr = L.cmpFr a b) (by kernel_rfl) (by
    exact ⟨trivial, rfl⟩)
theorem p_pk1_ok : SpecOk Try.prog 50 p_pk1_S := fnX Try.func50 (c := bodyOf Try.f50) (by kernel_rfl) mixed (fun args p r hs hp => by
  unfold p_pk1_s at hs
  split at hs
  · cases hs; exact ⟨_, _, p_pk1_vc _ _ hp, (.same _ (.same _ .nil)), ⟨show SpecsL Try.prog _ from (SpecsL.cons c_cmp_ok c_cmp_en SpecsL.nil), rfl, ⟨show ItersL Try.prog _ from ItersL.nil, (TrsOk.none (fun _ => rfl))⟩⟩⟩
  · cases hs)
theorem p_pk1_en : Enters Try.prog 50 := fun args w => by kernel_rfl
abbrev s_sortK_tr : Tr := sortTr 53 3 50 1005 encPk L.cmpFr
theorem s_sortK_tok : TrOk Try.prog 49 s_sortK_tr := sortTr_ok (enc := encPk) sortPk_lay (by decide) (fun w => Try.isAgg53 w) (fun w => Try.sizeOf53 w) (fun _ => rfl) swoPk p_pk1_ok p_pk1_en (fun x y => show preO p_pk1_s [.p (.agg [.int .i64 x.fr, .int .i64 x.to_, .int .i64 x.area]), .p (.agg [.int .i64 y.fr, .int .i64 y.to_, .int .i64 y.area])] from trivial) (fun x y => rfl) _ _
theorem s_sortK_en : Enters Try.prog 49 := fun args w => by kernel_rfl
def p_Pockets_p (l : (L.Sq L.Pt)) : Prop := l.n ≤ 1000000
def p_Pockets_q (l : (L.Sq L.Pt)) : (Nat → L.Pocket) → Prop := fun u => L.validOutline l = true → SortedBy L.cmpFr (L.pks l).n (L.pks l).g u
def p_Pockets_r (l : (L.Sq L.Pt)) : (Nat → L.Pocket) → SV := fun u => .tup [.sl 3 (L.pkN l) (fun i => [.int .i64 ((u i).fr), .int .i64 ((u i).to_), .int .i64 ((u i).area)]), .int .i64 (bif L.validOutline l then 0 else 1)]
def p_Pockets_s : List EV → Option (Prop × ((Nat → L.Pocket) → Prop) × ((Nat → L.Pocket) → SV))
  | [.p (.sl 2 l_n l_g)] => some ((∀ i, i < l_n → l_g i = [.int .i64 ((ofPt (l_g i)).x), .int .i64 ((ofPt (l_g i)).y)]) ∧ p_Pockets_p (⟨l_n, fun i => ofPt (l_g i)⟩ : (L.Sq L.Pt)), p_Pockets_q (⟨l_n, fun i => ofPt (l_g i)⟩ : (L.Sq L.Pt)), p_Pockets_r (⟨l_n, fun i => ofPt (l_g i)⟩ : (L.Sq L.Pt)))
  | _ => none
abbrev p_Pockets_S : SE.Spec := (specR (Nat → L.Pocket) (fun _ => ⟨0, 0, 0⟩) p_Pockets_s)
def p_Pockets_C : Cfg := { muts := [4, 5, 7, 40], frz := lookN [], specs := lookS [(16, p_ValidOutline_S), (47, p_hull_S), (42, p_triples_S), (48, s_idxPt_S), (41, p_area_S), (50, p_pk1_S)], loops := fun _ => none, iters := lookI [(67, p_triples1_it)], rfs := lookR [], nils := lookM [(5, [(4, 68, 53, 3)])], trs := lookT [(49, s_sortK_tr)], ren := fun k => k - 937 }
theorem p_Pockets_vc (l : (L.Sq L.Pt)) (hp : p_Pockets_p l) : vc Try.prog ({ p_Pockets_C with loops := lookL [(11, { T := Nat × Int × Int, keep := [1, 4, 5, 8, 9, 10], keepO := [4, 5, 68], tie := fun g => [(8, .int .i64 g.2.1), (9, .int .i64 g.2.2)], chg := fun g => [(11, .p (.int .i64 (L.back l.n g.2.2 g.1)))], own := fun g => [(40, .row 25 2 (g.1 + 1) (fun j => [.int .i64 ((l.g (L.back l.n g.2.2 j).toNat).x), .int .i64 ((l.g (L.back l.n g.2.2 j).toNat).y)]))], inv := fun g => (0 ≤ g.2.1 ∧ g.2.1 < (l.n : Int)) ∧ (0 ≤ g.2.2 ∧ g.2.2 < (l.n : Int)) ∧ g.1 ≤ L.pkLen l.n g.2.1 g.2.2, mu := fun g => l.n - g.1 })], rfs := lookR [(6, { T := Nat, keep := [1, 4, 5], keepO := [5], own := fun k _ => [(4, .blk 48 [.row 68]), (68, .row 53 3 (L.cnt (L.isPk l (L.hull l)) k) (fun i => [.int .i64 ((L.pk l (L.hull l) (L.selN (L.isPk l (L.hull l)) k i)).fr), .int .i64 ((L.pk l (L.hull l) (L.selN (L.isPk l (L.hull l)) k i)).to_), .int .i64 ((L.pk l (L.hull l) (L.selN (L.isPk l (L.hull l)) k i)).area)]))], inv := fun k _ => k ≤ (L.hull l).n })] }) (bodyOf Try.f22) (st0 Try.f22 [.p (.sl 2 l.n (fun i => [.int .i64 ((l.g i).x), .int .i64 ((l.g i).y)]))]) (retRel Try.prog Try.f22 ((Nat → L.Pocket)) (p_Pockets_q l) (p_Pockets_r l)) :=
  @Eq.mpr _ (((∀ (i : Nat), i < l.n → [SV.int .i64 (l.g i).x, SV.int .i64 (l.g i).y] = [SV.int .i64 (l.g i).x, SV.int .i64 (l.g i).y]) ∧ l.n ≤ (1000000 : Nat)) ∧ ((!L.validOutline (L.Sq.mk l.n fun (i : Nat) ↦ l.g i)) = true → ∃ (t : Nat → L.Pocket), L.pkN l = (0 : Nat) ∧ ((1 : Int) = bif L.validOutline l then (0 : Int) else (1 : Int)) ∧
 (L.validOutline l = true → SortedBy L.cmpFr (L.pks l).n (L.pks l).g t)) ∧ ((!L.validOutline (L.Sq.mk l.n fun (i : Nat) ↦ l.g i)) = false → ((∀ (i : Nat), i < l.n → [SV.int .i64 (l.g i).x, SV.int .i64 (l.g i).y] = [SV.int .i64 (l.g i).x, SV.int .i64 (l.g i).y]) ∧ (2 : Nat) ≤ l.n ∧ l.n ≤ (1000 : Nat) ∧ ∀ (i : Nat), i <
 l.n → L.bd (l.g i)) ∧ ∀ (t : Nat), True → ((∀ (i : Nat), i < (L.hull (L.Sq.mk l.n fun (i : Nat) ↦ l.g i)).n → [SV.int .i64 ((L.hull (L.Sq.mk l.n fun (i : Nat) ↦ l.g i)).g i).x, SV.int .i64 ((L.hull (L.Sq.mk l.n fun (i : Nat) ↦ l.g i)).g i).y] = [SV.int .i64 ((L.hull (L.Sq.mk l.n fun (i : Nat) ↦ l.g i)).g i).x, SV.int .i64 ((L.hull
 (L.Sq.mk l.n fun (i : Nat) ↦ l.g i)).g i).y]) ∧ (L.hull (L.Sq.mk l.n fun (i : Nat) ↦ l.g i)).n ≤ (1000 : Nat)) ∧ (((∀ (i : Nat), i < (L.hull (L.Sq.mk l.n fun (i : Nat) ↦ l.g i)).n → [SV.int .i64 ((L.hull (L.Sq.mk l.n fun (i : Nat) ↦ l.g i)).g i).x, SV.int .i64 ((L.hull (L.Sq.mk l.n fun (i : Nat) ↦ l.g i)).g i).y] = [SV.int .i64 ((L.hull (L.Sq.mk l.n
 fun (i : Nat) ↦ l.g i)).g i).x, SV.int .i64 ((L.hull (L.Sq.mk l.n fun (i : Nat) ↦ l.g i)).g i).y]) ∧ (L.hull (L.Sq.mk l.n fun (i : Nat) ↦ l.g i)).n ≤ (1000 : Nat)) ∧ ∃ (t : Nat), (nat_lit 0 = L.cnt (L.isPk l (L.hull l)) (0 : Nat) ∧ ∀ (i : Nat), i < nat_lit 0 → [] = [SV.int .i64 (L.pk l (L.hull l) (L.selN (L.isPk l (L.hull l)) (0 : Nat) i)).fr, SV.int
 .i64 (L.pk l (L.hull l) (L.selN (L.isPk l (L.hull l)) (0 : Nat) i)).to_, SV.int .i64 (L.pk l (L.hull l) (L.selN (L.isPk l (L.hull l)) (0 : Nat) i)).area]) ∧ (↑l.n : Int) = (↑l.n : Int) ∧ (0 : Nat) ≤ (L.hull l).n) ∧ (∀ (k t_1 : Nat) (vk : Nat → Go.Value), k < (L.hull (L.Sq.mk l.n fun (i : Nat) ↦ l.g i)).n → k ≤ (L.hull l).n → ((0 : Int) ≤ (1 : Int) ∧ (1 : Int) < (↑(3 :
 Nat) : Int)) ∧ ((∀ (i : Nat), i < l.n → [SV.int .i64 (l.g i).x, SV.int .i64 (l.g i).y] = [SV.int .i64 (l.g i).x, SV.int .i64 (l.g i).y]) ∧ l.n ≤ (1000000 : Nat)) ∧ ((0 : Int) ≤ (2 : Int) ∧ (2 : Int) < (↑(3 : Nat) : Int)) ∧ ((∀ (i : Nat), i < l.n → [SV.int .i64 (l.g i).x, SV.int .i64 (l.g i).y] =
 [SV.int .i64 (l.g i).x, SV.int .i64 (l.g i).y]) ∧ l.n ≤ (1000000 : Nat)) ∧ InK .i64 (L.ptIdx (L.Sq.mk l.n fun (i : Nat) ↦ l.g i) ((L.hull (L.Sq.mk l.n fun (i : Nat) ↦ l.g i)).g (Int.toNat (↑k : Int))) + (1 : Int)) ∧ (↑l.n : Int) ≠ (0 : Int) ∧ (decide (L.ptIdx (L.Sq.mk l.n fun (i : Nat) ↦ l.g i) ((L.hull (L.Sq.mk l.n fun (i : Nat) ↦ l.g
 i)).g (Int.toNat (Int.tmod ((↑k : Int) + (1 : Int)) (↑(L.hull (L.Sq.mk l.n fun (i : Nat) ↦ l.g i)).n : Int)))) = Int.tmod (L.ptIdx (L.Sq.mk l.n fun (i : Nat) ↦ l.g i) ((L.hull (L.Sq.mk l.n fun (i : Nat) ↦ l.g i)).g (Int.toNat (↑k : Int))) + (1 : Int)) (↑l.n : Int)) = true → ∃ (t' : Nat), nat_lit 0 = nat_lit 0 ∧ nat_lit 0 = nat_lit 0 ∧ SV.ref [SV.sl (nat_lit 2) l.n fun (i : Nat) ↦
 [SV.int .i64 (l.g i).x, SV.int .i64 (l.g i).y]] (nat_lit 0) = SV.ref [SV.sl (nat_lit 2) l.n fun (i : Nat) ↦ [SV.int .i64 (l.g i).x, SV.int .i64 (l.g i).y]] (nat_lit 0) ∧ vk (nat_lit 5) = vk (nat_lit 5) ∧ vk (nat_lit 4) = vk (nat_lit 4) ∧ vk (nat_lit 1) = vk (nat_lit 1) ∧ (L.cnt (L.isPk l (L.hull l)) k = L.cnt (L.isPk l
 (L.hull l)) (k + (1 : Nat)) ∧ ∀ (i : Nat), i < L.cnt (L.isPk l (L.hull l)) k → [SV.int .i64 (L.pk l (L.hull l) (L.selN (L.isPk l (L.hull l)) k i)).fr, SV.int .i64 (L.pk l (L.hull l) (L.selN (L.isPk l (L.hull l)) k i)).to_, SV.int .i64 (L.pk l (L.hull l) (L.selN (L.isPk l (L.hull l)) k i)).area] = [SV.int .i64 (L.pk l (L.hull l)
 (L.selN (L.isPk l (L.hull l)) (k + (1 : Nat)) i)).fr, SV.int .i64 (L.pk l (L.hull l) (L.selN (L.isPk l (L.hull l)) (k + (1 : Nat)) i)).to_, SV.int .i64 (L.pk l (L.hull l) (L.selN (L.isPk l (L.hull l)) (k + (1 : Nat)) i)).area]) ∧ (↑l.n : Int) = (↑l.n : Int) ∧ k + (1 : Nat) ≤ (L.hull l).n) ∧ (decide (L.ptIdx (L.Sq.mk l.n fun (i : Nat) ↦ l.g i) ((L.hull
 (L.Sq.mk l.n fun (i : Nat) ↦ l.g i)).g (Int.toNat (Int.tmod ((↑k : Int) + (1 : Int)) (↑(L.hull (L.Sq.mk l.n fun (i : Nat) ↦ l.g i)).n : Int)))) = Int.tmod (L.ptIdx (L.Sq.mk l.n fun (i : Nat) ↦ l.g i) ((L.hull (L.Sq.mk l.n fun (i : Nat) ↦ l.g i)).g (Int.toNat (↑k : Int))) + (1 : Int)) (↑l.n : Int)) = false → ((0 : Int) ≤ L.ptIdx (L.Sq.mk l.n fun (i : Nat) ↦ l.g i) ((L.hull (L.Sq.mk l.n fun (i
 : Nat) ↦ l.g i)).g (Int.toNat (Int.tmod ((↑k : Int) + (1 : Int)) (↑(L.hull (L.Sq.mk l.n fun (i : Nat) ↦ l.g i)).n : Int)))) ∧ L.ptIdx (L.Sq.mk l.n fun (i : Nat) ↦ l.g i) ((L.hull (L.Sq.mk l.n fun (i : Nat) ↦ l.g i)).g (Int.toNat (Int.tmod ((↑k : Int) + (1 : Int)) (↑(L.hull (L.Sq.mk l.n fun (i : Nat) ↦ l.g i)).n : Int)))) < (↑l.n : Int)) ∧ (∃ (g : Nat × Int × Int), L.ptIdx (L.Sq.mk l.n fun (i :
 Nat) ↦ l.g i) ((L.hull (L.Sq.mk l.n fun (i : Nat) ↦ l.g i)).g (Int.toNat (Int.tmod ((↑k : Int) + (1 : Int)) (↑(L.hull (L.Sq.mk l.n fun (i : Nat) ↦ l.g i)).n : Int)))) = L.back l.n g.2.2 g.1 ∧ (nat_lit 1 = g.1 + (1 : Nat) ∧ ∀ (i : Nat), i < nat_lit 1 → rowsOf [SV.int .i64 (l.g (Int.toNat (L.ptIdx (L.Sq.mk l.n fun (i : Nat) ↦ l.g i) ((L.hull (L.Sq.mk l.n fun (i : Nat) ↦ l.g
 i)).g (Int.toNat (Int.tmod ((↑k : Int) + (1 : Int)) (↑(L.hull (L.Sq.mk l.n fun (i : Nat) ↦ l.g i)).n : Int))))))).x, SV.int .i64 (l.g (Int.toNat (L.ptIdx (L.Sq.mk l.n fun (i : Nat) ↦ l.g i) ((L.hull (L.Sq.mk l.n fun (i : Nat) ↦ l.g i)).g (Int.toNat (Int.tmod ((↑k : Int) + (1 : Int)) (↑(L.hull (L.Sq.mk l.n fun (i : Nat) ↦ l.g i)).n : Int))))))).y] (nat_lit 2) i = [SV.int
 .i64 (l.g (Int.toNat (L.back l.n g.2.2 i))).x, SV.int .i64 (l.g (Int.toNat (L.back l.n g.2.2 i))).y]) ∧ L.ptIdx (L.Sq.mk l.n fun (i : Nat) ↦ l.g i) ((L.hull (L.Sq.mk l.n fun (i : Nat) ↦ l.g i)).g (Int.toNat (↑k : Int))) = g.2.1 ∧ L.ptIdx (L.Sq.mk l.n fun (i : Nat) ↦ l.g i) ((L.hull (L.Sq.mk l.n fun (i : Nat) ↦ l.g i)).g (Int.toNat (Int.tmod ((↑k : Int) + (1 : Int))
 (↑(L.hull (L.Sq.mk l.n fun (i : Nat) ↦ l.g i)).n : Int)))) = g.2.2 ∧ ((0 : Int) ≤ g.2.1 ∧ g.2.1 < (↑l.n : Int)) ∧ ((0 : Int) ≤ g.2.2 ∧ g.2.2 < (↑l.n : Int)) ∧ g.1 ≤ L.pkLen l.n g.2.1 g.2.2) ∧ ∀ (g : Nat × Int × Int), L.ptIdx (L.Sq.mk l.n fun (i : Nat) ↦ l.g i) ((L.hull (L.Sq.mk l.n fun (i : Nat) ↦ l.g i)).g (Int.toNat (↑k : Int))) = g.2.1 ∧ L.ptIdx (L.Sq.mk l.n fun (i : Nat) ↦ l.g i) ((L.hull
 (L.Sq.mk l.n fun (i : Nat) ↦ l.g i)).g (Int.toNat (Int.tmod ((↑k : Int) + (1 : Int)) (↑(L.hull (L.Sq.mk l.n fun (i : Nat) ↦ l.g i)).n : Int)))) = g.2.2 ∧ ((0 : Int) ≤ g.2.1 ∧ g.2.1 < (↑l.n : Int)) ∧ ((0 : Int) ≤ g.2.2 ∧ g.2.2 < (↑l.n : Int)) ∧ g.1 ≤ L.pkLen l.n g.2.1 g.2.2 → ((!decide (L.back l.n g.2.2 g.1 = L.ptIdx (L.Sq.mk l.n fun (i : Nat) ↦ l.g i) ((L.hull (L.Sq.mk l.n fun (i : Nat)
 ↦ l.g i)).g (Int.toNat (↑k : Int))))) = true → InK .i64 (L.back l.n g.2.2 g.1 + (↑l.n : Int)) ∧ InK .i64 (L.back l.n g.2.2 g.1 + (↑l.n : Int) - (1 : Int)) ∧ (↑l.n : Int) ≠ (0 : Int) ∧ ((0 : Int) ≤ Int.tmod (L.back l.n g.2.2 g.1 + (↑l.n : Int) - (1 : Int)) (↑l.n : Int) ∧ Int.tmod (L.back l.n g.2.2 g.1 + (↑l.n : Int) - (1 : Int)) (↑l.n : Int) < (↑l.n : Int)) ∧
 (g.1 + (1 : Nat) + nat_lit 1) * nat_lit 16 ≤ (140737488355328 : Nat) ∧ ∃ (g' : Nat × Int × Int), Int.tmod (L.back l.n g.2.2 g.1 + (↑l.n : Int) - (1 : Int)) (↑l.n : Int) = L.back l.n g'.2.2 g'.1 ∧ L.ptIdx (L.Sq.mk l.n fun (i : Nat) ↦ l.g i) ((L.hull (L.Sq.mk l.n fun (i : Nat) ↦ l.g i)).g (Int.toNat (Int.tmod ((↑k : Int) + (1 : Int)) (↑(L.hull (L.Sq.mk l.n fun (i : Nat) ↦ l.g i)).n : Int)))) =
 L.ptIdx (L.Sq.mk l.n fun (i : Nat) ↦ l.g i) ((L.hull (L.Sq.mk l.n fun (i : Nat) ↦ l.g i)).g (Int.toNat (Int.tmod ((↑k : Int) + (1 : Int)) (↑(L.hull (L.Sq.mk l.n fun (i : Nat) ↦ l.g i)).n : Int)))) ∧ L.ptIdx (L.Sq.mk l.n fun (i : Nat) ↦ l.g i) ((L.hull (L.Sq.mk l.n fun (i : Nat) ↦ l.g i)).g (Int.toNat (↑k : Int))) = L.ptIdx (L.Sq.mk l.n fun (i : Nat) ↦ l.g i) ((L.hull (L.Sq.mk l.n fun (i : Nat) ↦
 l.g i)).g (Int.toNat (↑k : Int))) ∧ nat_lit 0 = nat_lit 0 ∧ nat_lit 0 = nat_lit 0 ∧ SV.ref [SV.sl (nat_lit 2) l.n fun (i : Nat) ↦ [SV.int .i64 (l.g i).x, SV.int .i64 (l.g i).y]] (nat_lit 0) = SV.ref [SV.sl (nat_lit 2) l.n fun (i : Nat) ↦ [SV.int .i64 (l.g i).x, SV.int .i64 (l.g i).y]] (nat_lit 0) ∧ vk (nat_lit
 5) = vk (nat_lit 5) ∧ vk (nat_lit 4) = vk (nat_lit 4) ∧ vk (nat_lit 1) = vk (nat_lit 1) ∧ (g.1 + (1 : Nat) + nat_lit 1 = g'.1 + (1 : Nat) ∧ ∀ (i : Nat), i < g.1 + (1 : Nat) + nat_lit 1 → appGet (g.1 + (1 : Nat)) (fun (j : Nat) ↦ [SV.int .i64 (l.g (Int.toNat (L.back l.n g.2.2 j))).x, SV.int .i64 (l.g (Int.toNat (L.back l.n g.2.2 j))).y]) (fun (x : Nat) ↦
 [SV.int .i64 (l.g (Int.toNat (Int.tmod (L.back l.n g.2.2 g.1 + (↑l.n : Int) - (1 : Int)) (↑l.n : Int)))).x, SV.int .i64 (l.g (Int.toNat (Int.tmod (L.back l.n g.2.2 g.1 + (↑l.n : Int) - (1 : Int)) (↑l.n : Int)))).y]) i = [SV.int .i64 (l.g (Int.toNat (L.back l.n g'.2.2 i))).x, SV.int .i64 (l.g (Int.toNat (L.back l.n g'.2.2 i))).y]) ∧
 (L.cnt (L.isPk l (L.hull l)) k = L.cnt (L.isPk l (L.hull l)) k ∧ ∀ (i : Nat), i < L.cnt (L.isPk l (L.hull l)) k → [SV.int .i64 (L.pk l (L.hull l) (L.selN (L.isPk l (L.hull l)) k i)).fr, SV.int .i64 (L.pk l (L.hull l) (L.selN (L.isPk l (L.hull l)) k i)).to_, SV.int .i64 (L.pk l (L.hull l) (L.selN (L.isPk l (L.hull l)) k i)).area] = [SV.int
 .i64 (L.pk l (L.hull l) (L.selN (L.isPk l (L.hull l)) k i)).fr, SV.int .i64 (L.pk l (L.hull l) (L.selN (L.isPk l (L.hull l)) k i)).to_, SV.int .i64 (L.pk l (L.hull l) (L.selN (L.isPk l (L.hull l)) k i)).area]) ∧ (↑l.n : Int) = (↑l.n : Int) ∧ (L.ptIdx (L.Sq.mk l.n fun (i : Nat) ↦ l.g i) ((L.hull (L.Sq.mk l.n fun (i : Nat) ↦ l.g i)).g (Int.toNat (↑k : Int)))
 = g'.2.1 ∧ L.ptIdx (L.Sq.mk l.n fun (i : Nat) ↦ l.g i) ((L.hull (L.Sq.mk l.n fun (i : Nat) ↦ l.g i)).g (Int.toNat (Int.tmod ((↑k : Int) + (1 : Int)) (↑(L.hull (L.Sq.mk l.n fun (i : Nat) ↦ l.g i)).n : Int)))) = g'.2.2 ∧ ((0 : Int) ≤ g'.2.1 ∧ g'.2.1 < (↑l.n : Int)) ∧ ((0 : Int) ≤ g'.2.2 ∧ g'.2.2 < (↑l.n : Int)) ∧ g'.1 ≤ L.pkLen l.n g'.2.1 g'.2.2) ∧ l.n - g'.1 < l.n - g.1) ∧ ((!decide
 (L.back l.n g.2.2 g.1 = L.ptIdx (L.Sq.mk l.n fun (i : Nat) ↦ l.g i) ((L.hull (L.Sq.mk l.n fun (i : Nat) ↦ l.g i)).g (Int.toNat (↑k : Int))))) = false → ((∀ (i : Nat), i < g.1 + (1 : Nat) → [SV.int .i64 (l.g (Int.toNat (L.back l.n g.2.2 i))).x, SV.int .i64 (l.g (Int.toNat (L.back l.n g.2.2 i))).y] = [SV.int .i64 (l.g (Int.toNat (L.back l.n g.2.2
 i))).x, SV.int .i64 (l.g (Int.toNat (L.back l.n g.2.2 i))).y]) ∧ L.small (L.Sq.mk (g.1 + (1 : Nat)) fun (i : Nat) ↦ l.g (Int.toNat (L.back l.n g.2.2 i)))) ∧ (L.cnt (L.isPk l (L.hull l)) k + nat_lit 1) * nat_lit 24 ≤ (140737488355328 : Nat) ∧ ∃ (t' : Nat), nat_lit 0 = nat_lit 0 ∧ nat_lit 0 = nat_lit 0 ∧ SV.ref [SV.sl (nat_lit 2) l.n fun (i : Nat) ↦ [SV.int
 .i64 (l.g i).x, SV.int .i64 (l.g i).y]] (nat_lit 0) = SV.ref [SV.sl (nat_lit 2) l.n fun (i : Nat) ↦ [SV.int .i64 (l.g i).x, SV.int .i64 (l.g i).y]] (nat_lit 0) ∧ vk (nat_lit 5) = vk (nat_lit 5) ∧ vk (nat_lit 4) = vk (nat_lit 4) ∧ vk (nat_lit 1) = vk (nat_lit 1) ∧ (L.cnt (L.isPk l (L.hull l)) k + nat_lit 1 = L.cnt (L.isPk l
 (L.hull l)) (k + (1 : Nat)) ∧ ∀ (i : Nat), i < L.cnt (L.isPk l (L.hull l)) k + nat_lit 1 → appGet (L.cnt (L.isPk l (L.hull l)) k) (fun (i : Nat) ↦ [SV.int .i64 (L.pk l (L.hull l) (L.selN (L.isPk l (L.hull l)) k i)).fr, SV.int .i64 (L.pk l (L.hull l) (L.selN (L.isPk l (L.hull l)) k i)).to_, SV.int .i64 (L.pk l (L.hull l) (L.selN (L.isPk l
 (L.hull l)) k i)).area]) (fun (x : Nat) ↦ [SV.int .i64 (L.ptIdx (L.Sq.mk l.n fun (i : Nat) ↦ l.g i) ((L.hull (L.Sq.mk l.n fun (i : Nat) ↦ l.g i)).g (Int.toNat (↑k : Int)))), SV.int .i64 (L.ptIdx (L.Sq.mk l.n fun (i : Nat) ↦ l.g i) ((L.hull (L.Sq.mk l.n fun (i : Nat) ↦ l.g i)).g (Int.toNat (Int.tmod ((↑k : Int) + (1 : Int)) (↑(L.hull (L.Sq.mk l.n fun (i : Nat) ↦ l.g
 i)).n : Int))))), SV.int .i64 (L.areaTo (L.Sq.mk (g.1 + (1 : Nat)) fun (i : Nat) ↦ l.g (Int.toNat (L.back l.n g.2.2 i))) (g.1 + (1 : Nat)))]) i = [SV.int .i64 (L.pk l (L.hull l) (L.selN (L.isPk l (L.hull l)) (k + (1 : Nat)) i)).fr, SV.int .i64 (L.pk l (L.hull l) (L.selN (L.isPk l (L.hull l)) (k + (1 : Nat)) i)).to_, SV.int .i64 (L.pk
 l (L.hull l) (L.selN (L.isPk l (L.hull l)) (k + (1 : Nat)) i)).area]) ∧ (↑l.n : Int) = (↑l.n : Int) ∧ k + (1 : Nat) ≤ (L.hull l).n))) ∧ ∀ (t : Nat), (L.hull (L.Sq.mk l.n fun (i : Nat) ↦ l.g i)).n ≤ (L.hull l).n → ∃ (t : Nat × (Nat → L.Pocket)), SV.clo (nat_lit 50) [] = SV.clo (50 : Nat) [] ∧ (L.cnt (L.isPk l (L.hull l)) (L.hull (L.Sq.mk l.n fun (i : Nat) ↦ l.g i)).n = t.1 ∧ ∀ (i :
 Nat), i < L.cnt (L.isPk l (L.hull l)) (L.hull (L.Sq.mk l.n fun (i : Nat) ↦ l.g i)).n → [SV.int .i64 (L.pk l (L.hull l) (L.selN (L.isPk l (L.hull l)) (L.hull (L.Sq.mk l.n fun (i : Nat) ↦ l.g i)).n i)).fr, SV.int .i64 (L.pk l (L.hull l) (L.selN (L.isPk l (L.hull l)) (L.hull (L.Sq.mk l.n fun (i : Nat) ↦ l.g i)).n i)).to_, SV.int .i64 (L.pk l (L.hull l)
 (L.selN (L.isPk l (L.hull l)) (L.hull (L.Sq.mk l.n fun (i : Nat) ↦ l.g i)).n i)).area] = [SV.int .i64 (t.2 i).fr, SV.int .i64 (t.2 i).to_, SV.int .i64 (t.2 i).area]) ∧ t.1 ≤ (1000000 : Nat) ∧ ∀ (u : Nat → L.Pocket), SortedBy L.cmpFr t.1 t.2 u → ∃ (t_1 : Nat → L.Pocket), (t.1 = L.pkN l ∧ ∀ (i : Nat), i < t.1 → [SV.int .i64 (u
 i).fr, SV.int .i64 (u i).to_, SV.int .i64 (u i).area] = [SV.int .i64 (t_1 i).fr, SV.int .i64 (t_1 i).to_, SV.int .i64 (t_1 i).area]) ∧ ((0 : Int) = bif L.validOutline l then (0 : Int) else (1 : Int)) ∧ (L.validOutline l = true → SortedBy L.cmpFr (L.pks l).n (L.pks l).g t_1))) (by kernel_rfl) (by
    have hn : l.n ≤ 1000000 := hp
    refine ⟨⟨fun _ _ => rfl, hn⟩, fun h => ?_, fun h => ?_⟩
    · have hv : L.validOutline l = false := by simpa using (show (!L.validOutline l) = true from h)
      unfold L.pkN
      rw [hv]; exact ⟨fun _ => ⟨0, 0, 0⟩, rfl, rfl, fun h => (by cases h)⟩
    have hv : L.validOutline l = true := by simpa using (show (!L.validOutline l) = false from h)
    obtain ⟨n3, n24, hsm, hbd⟩ := validOutline_of hv
    have hHN : (L.hull l).n ≤ 1000 := by
      have cl : ∀ m : L.Sq L.Pt, (L.chain m).n ≤ m.n := fun m => by
        have := chainTo_len m m.n
        show (L.chainTo m m.n).length - 1 ≤ m.n
        omega
      have c1 : (L.chain (L.sorted l)).n ≤ l.n := cl (L.sorted l)
      have c2 : (L.chain (L.revd (L.sorted l))).n ≤ l.n := cl (L.revd (L.sorted l))
      show 0 + (L.chain (L.sorted l)).n + (L.chain (L.revd (L.sorted l))).n ≤ 1000
      omega
    have hck : ∀ k, L.cnt (L.isPk l (L.hull l)) k ≤ k := fun k => cnt_le
    refine ⟨⟨fun _ _ => rfl, by omega, by omega, hbd.2⟩, fun t _ => ⟨⟨fun _ _ => rfl, hHN⟩, ⟨⟨fun _ _ => rfl, hHN⟩, (0 : Nat), ⟨rfl, fun i hi => absurd hi (Nat.not_lt_zero _)⟩, rfl, Nat.zero_le _⟩, fun k t1 vk hk hk' => ?_, fun t _ => ?_⟩⟩
    · have hk : k < (L.hull l).n := hk
      have e0 : ((k : Int)).toNat = k := by omega
      have e1 : (Int.tmod ((k : Int) + 1) ((L.hull l).n : Int)).toNat = L.next (L.hull l).n k := rfl
      have hf := pk_idx (l := l) hk
      have ht := pk_idx (l := l) (k := L.next (L.hull l).n k) (next_lt (by omega))
      have eF : L.ptIdx l ((L.hull l).g k) = L.pkFrom l (L.hull l) k := rfl
      have eT : L.ptIdx l ((L.hull l).g (L.next (L.hull l).n k)) = L.pkTo l (L.hull l) k := rfl
      rw [eF] at hf
      rw [eT] at ht
      rw [e0, e1, eF, eT]
      have hkk := hck k
      refine ⟨⟨by decide, by decide⟩, ⟨fun _ _ => rfl, hn⟩, ⟨by decide, by decide⟩, ⟨fun _ _ => rfl, hn⟩, InK.of (by omega) (by omega), by omega, fun hc => ?_, fun hc => ?_⟩
      · have hp : L.isPk l (L.hull l) k = false := by unfold L.isPk; rw [hc]; rfl
        refine ⟨(0 : Nat), rfl, rfl, rfl, rfl, rfl, rfl, ⟨(cnt_not hp).symm, fun i hi => ?_⟩, rfl, by omega⟩
        rw [selN_not hp]
      have hp : L.isPk l (L.hull l) k = true := by unfold L.isPk; rw [hc]; rfl
      refine ⟨ht, ⟨(0, L.pkFrom l (L.hull l) k, L.pkTo l (L.hull l) k), (back_0 ht.1 ht.2).symm, ⟨rfl, fun i hi => ?_⟩, rfl, rfl, hf, ht, Nat.zero_le _⟩, fun g hg => ?_⟩
      · have hi : i < 1 := hi
        obtain rfl : i = 0 := by omega
        dsimp only
        rw [back_0 ht.1 ht.2]; rfl
      obtain ⟨j, fr, to_⟩ := g
      dsimp only at hg ⊢
      obtain ⟨e2, e3, _, _, hj⟩ := hg
      rw [← e2, ← e3] at *
      have hlen := back_end hf.1 hf.2 ht.1 ht.2 hj
      have hb := back_bd (n := l.n) (by omega) ht.1 (j := j) (by omega)
      refine ⟨fun hd => ?_, fun hd => ?_⟩
      · have hd : L.back l.n (L.pkTo l (L.hull l) k) j ≠ L.pkFrom l (L.hull l) k := fun e => by
          rw [decide_eq_true e] at hd; cases hd
        have hne : j ≠ L.pkLen l.n (L.pkFrom l (L.hull l) k) (L.pkTo l (L.hull l) k) := fun e => hd (hlen.1.2 e)
        have hs := back_succ (n := l.n) (by omega) ht.1 (j := j) (by omega)
        have hb2 := back_bd (n := l.n) (by omega) ht.1 (j := j + 1) (by omega)
        rw [hs]
        refine ⟨InK.of (by omega) (by omega), InK.of (by omega) (by omega), by omega, hb2, show (j + 1 + 1) * 16 ≤ 140737488355328 by omega, (j + 1, L.pkFrom l (L.hull l) k, L.pkTo l (L.hull l) k), rfl, rfl, rfl, rfl, rfl, rfl, rfl, rfl, rfl, ⟨rfl, fun i hi => ?_⟩, ⟨rfl, fun _ _ => rfl⟩, rfl, ⟨rfl, rfl, hf, ht, by show j + 1 ≤ L.pkLen l.n (L.pkFrom l (L.hull l) k) (L.pkTo l (L.hull l) k); omega⟩, by show l.n - (j + 1) < l.n - j; omega⟩
        have hi : i < j + 1 + 1 := hi
        unfold appGet
        by_cases h' : i < j + 1
        · rw [if_pos h']
        · rw [if_neg h']
          obtain rfl : i = j + 1 := by omega
          rfl
      · have hd : L.back l.n (L.pkTo l (L.hull l) k) j = L.pkFrom l (L.hull l) k := by
          apply Decidable.byContradiction
          intro e
          rw [decide_eq_false e] at hd; cases hd
        have hje := hlen.1.1 hd
        have hrow : (L.Sq.mk (j + 1) fun (i : Nat) => l.g (L.back l.n (L.pkTo l (L.hull l) k) i).toNat) = L.pkRow l (L.pkFrom l (L.hull l) k) (L.pkTo l (L.hull l) k) := by
          rw [hje]; rfl
        have hj1 : j + 1 = (L.pkRow l (L.pkFrom l (L.hull l) k) (L.pkTo l (L.hull l) k)).n := by rw [← hrow]
        rw [hrow, hj1]
        refine ⟨⟨fun _ _ => rfl, pkRow_small hsm (by omega) hf.1 hf.2 ht.1 ht.2⟩, show (L.cnt (L.isPk l (L.hull l)) k + 1) * 24 ≤ 140737488355328 by omega, (0 : Nat), rfl, rfl, rfl, rfl, rfl, rfl, ⟨(cnt_yes hp).symm, fun i hi => ?_⟩, rfl, by omega⟩
        have hi : i < L.cnt (L.isPk l (L.hull l)) k + 1 := hi
        unfold appGet
        by_cases h' : i < L.cnt (L.isPk l (L.hull l)) k
        · rw [if_pos h', selN_old (Nat.ne_of_lt h')]
        · rw [if_neg h']
          obtain rfl : i = L.cnt (L.isPk l (L.hull l)) k := by omega
          rw [selN_new hp]; rfl
    · have hcn := hck (L.hull l).n
      refine ⟨((L.pks l).n, (L.pks l).g), rfl, ⟨rfl, fun _ _ => rfl⟩, show L.cnt (L.isPk l (L.hull l)) (L.hull l).n ≤ 1000000 by omega, fun u hu => ⟨u, ⟨?_, fun _ _ => rfl⟩, ?_, fun _ => hu⟩⟩
      · unfold L.pkN; rw [hv]; rfl
      · rw [hv]; rfl)
theorem p_Pockets_ok : SpecOk Try.prog 22 p_Pockets_S := relX Try.func22 (c := bodyOf Try.f22) (by kernel_rfl) mixed (fun args p q r hs hp => by
  unfold p_Pockets_s at hs
  split at hs
  · cases hs; exact ⟨_, _, p_Pockets_vc _ hp.2, (.p (.sl hp.1) .nil), ⟨show SpecsL Try.prog _ from (SpecsL.cons p_ValidOutline_ok p_ValidOutline_en (SpecsL.cons p_hull_ok p_hull_en (SpecsL.cons p_triples_ok p_triples_en (SpecsL.cons s_idxPt_ok s_idxPt_en (SpecsL.cons p_area_ok p_area_en (SpecsL.cons p_pk1_ok p_pk1_en SpecsL.nil)))))), rfl, ⟨show ItersL Try.prog _ from (ItersL.cons p_triples1_itok p_triples1_en ItersL.nil), (show TrsL Try.prog _ from (TrsL.cons s_sortK_tok s_sortK_en TrsL.nil))⟩⟩⟩
  · cases hs)
theorem p_Pockets_en : Enters Try.prog 22 := fun args w => by kernel_rfl
end Go.Proofs.Ytdlhpdidgfgomaa

namespace Go.Proofs.Ytdlhpdidgfgomaa
open Go.SE Go.RowKit
set_option maxRecDepth 100000
set_option maxHeartbeats 4000000
set_option linter.unusedVariables false
attribute [local irreducible] vc

def L.gcd (a b : Int) : Int := ((Nat.gcd a.natAbs b.natAbs : Nat) : Int)
def L.ng (x y : Nat) : Nat := Nat.gcd x y
def L.nabs (a : Int) : Nat := a.natAbs
def L.hit (d n : L.Pt) : Bool := decide (0 < d.x * n.x + d.y * n.y)
def L.free (d : L.Pt) (N : L.Sq L.Pt) : Bool := !L.anyB N.n (fun i => L.hit d (N.g i))
def L.isNrm (p : L.Pt) : Bool := !(decide (p.x = 0) && decide (p.y = 0)) && (L.within p.x (-4096) 4096 && L.within p.y (-4096) 4096)
def L.nrms (N : L.Sq L.Pt) : Prop := N.n ≤ 1000000 ∧ ∀ i, i < N.n → L.isNrm (N.g i) = true
def L.dir (p : L.Pt) (s : Nat) : L.Pt := bif decide (s = 0) then ⟨Int.tdiv (0 - p.y) (L.gcd p.x p.y), Int.tdiv p.x (L.gcd p.x p.y)⟩ else ⟨Int.tdiv p.y (L.gcd p.x p.y), Int.tdiv (0 - p.x) (L.gcd p.x p.y)⟩
def L.cand (N : L.Sq L.Pt) (c : Nat) : L.Pt := L.dir (N.g (c / 2)) (c % 2)
def L.wayI (N : L.Sq L.Pt) : Int := L.idx (2 * N.n) (fun c => L.free (L.cand N c) N)
def L.wayOk (N : L.Sq L.Pt) : Bool := decide (N.n = 0) || decide (0 ≤ L.wayI N)
def L.wayD (N : L.Sq L.Pt) : L.Pt := bif decide (N.n = 0) then ⟨1, 0⟩ else bif decide (0 ≤ L.wayI N) then L.cand N (L.wayI N).toNat else ⟨0, 0⟩
theorem isNrm_of {p : L.Pt} (h : L.isNrm p = true) : ((-4096 ≤ p.x ∧ p.x ≤ 4096) ∧ (-4096 ≤ p.y ∧ p.y ≤ 4096)) ∧ 1 ≤ L.gcd p.x p.y ∧ L.bd p := by
  unfold L.isNrm L.within at h
  simp only [Bool.and_eq_true, Bool.not_eq_true', Bool.and_eq_false_iff, decide_eq_true_eq, decide_eq_false_iff_not] at h
  obtain ⟨h1, h2, h3⟩ := h
  have hg : 0 < Nat.gcd p.x.natAbs p.y.natAbs := by
    rcases h1 with h1 | h1
    · exact Nat.gcd_pos_of_pos_left _ (by omega)
    · exact Nat.gcd_pos_of_pos_right _ (by omega)
  refine ⟨⟨h2, h3⟩, ?_, ?_⟩
  · unfold L.gcd; omega
  · unfold L.bd; omega
theorem tdiv_bd {a g : Int} (h0 : -4096 ≤ a) (h1 : a ≤ 4096) (hg : 1 ≤ g) : -4096 ≤ Int.tdiv a g ∧ Int.tdiv a g ≤ 4096 := by
  have h : (Int.tdiv a g).natAbs = a.natAbs / g.natAbs := Int.natAbs_tdiv a g
  have h2 : a.natAbs / g.natAbs ≤ a.natAbs := Nat.div_le_self _ _
  omega
theorem cand_eq (N : L.Sq L.Pt) (g : Nat) {s : Nat} (h : s < 2) : L.cand N (2 * g + s) = L.dir (N.g g) s := by
  unfold L.cand
  rw [show (2 * g + s) / 2 = g by omega, show (2 * g + s) % 2 = s by omega]
theorem way_at {N : L.Sq L.Pt} {c : Nat} (h0 : ∀ j, j < c → L.free (L.cand N j) N = false) (hi : L.free (L.cand N c) N = true) (hc : c < 2 * N.n) : L.wayD N = L.cand N c ∧ L.wayOk N = true := by
  have e : L.wayI N = (c : Int) := idx_at (f := fun c => L.free (L.cand N c) N) h0 hi hc
  have hd : decide (N.n = 0) = false := decide_eq_false (by omega)
  unfold L.wayD L.wayOk
  rw [e, hd, decide_eq_true (show (0 : Int) ≤ (c : Int) by omega)]
  exact ⟨by show L.cand N (c : Int).toNat = _; rw [Int.toNat_natCast], rfl⟩
theorem way_no {N : L.Sq L.Pt} (h1 : 0 < N.n) (h0 : ∀ j, j < 2 * N.n → L.free (L.cand N j) N = false) : L.wayD N = ⟨0, 0⟩ ∧ L.wayOk N = false := by
  have e : L.wayI N = -1 := idx_none (f := fun c => L.free (L.cand N c) N) h0
  have hd : decide (N.n = 0) = false := decide_eq_false (by omega)
  unfold L.wayD L.wayOk
  rw [e, hd]
  exact ⟨rfl, rfl⟩
theorem way_0 {N : L.Sq L.Pt} (h : N.n = 0) : L.wayD N = ⟨1, 0⟩ ∧ L.wayOk N = true := by
  unfold L.wayD L.wayOk
  rw [decide_eq_true h]
  exact ⟨rfl, rfl⟩
theorem dir_bd {p : L.Pt} (h : L.isNrm p = true) (s : Nat) : L.bd (L.dir p s) := by
  obtain ⟨⟨⟨a1, a2⟩, b1, b2⟩, hg, _⟩ := isNrm_of h
  have t1 := tdiv_bd (a := p.x) (g := L.gcd p.x p.y) a1 a2 hg
  have t2 := tdiv_bd (a := p.y) (g := L.gcd p.x p.y) b1 b2 hg
  have t3 := tdiv_bd (a := 0 - p.x) (g := L.gcd p.x p.y) (by omega) (by omega) hg
  have t4 := tdiv_bd (a := 0 - p.y) (g := L.gcd p.x p.y) (by omega) (by omega) hg
  unfold L.dir
  cases decide (s = 0)
  · unfold L.bd; simp only [cond_false]; omega
  · unfold L.bd; simp only [cond_true]; omega
def p_gcd_p (a : Int) (b : Int) : Prop := (-4611686018427387904 ≤ a ∧ a ≤ 4611686018427387904) ∧ -4611686018427387904 ≤ b ∧ b ≤ 4611686018427387904
def p_gcd_r (a : Int) (b : Int) : SV := .int .i64 (L.gcd a b)
def p_gcd_s : List EV → Option (Prop × SV)
  | [.p (.int .i64 a), .p (.int .i64 b)] => some (p_gcd_p a b, p_gcd_r a b)
  | _ => none
abbrev p_gcd_S : SE.Spec := (specO p_gcd_s)
def p_gcd_C : Cfg := { muts := [], frz := lookN [], specs := lookS [], loops := fun _ => none, iters := lookI [], rfs := lookR [], nils := lookM [] }
theorem p_gcd_vc (a : Int) (b : Int) (hp : p_gcd_p a b) : vc Try.prog ({ p_gcd_C with loops := lookL [(2, { T := Nat × Nat, keep := [], keepO := [], chg := fun g => [(0, .p (.int .i64 (g.1 : Int))), (1, .p (.int .i64 (g.2 : Int)))], own := fun _ => [], inv := fun g => L.ng g.1 g.2 = L.ng (L.nabs a) (L.nabs b) ∧ g.1 ≤ 4611686018427387904 ∧ g.2 ≤ 4611686018427387904, mu := fun g => g.2 })], rfs := lookR [] }) (bodyOf Try.f44) (st0 Try.f44 [.p (.int .i64 a), .p (.int .i64 b)]) (retFn Try.prog Try.f44 (p_gcd_r a b)) :=
  @Eq.mpr _ (InK .i64 ((0 : Int) - a) ∧ InK .i64 ((0 : Int) - b) ∧ (∃ (g : Nat × Nat), Max.max a ((0 : Int) - a) = (↑g.1 : Int) ∧ Max.max b ((0 : Int) - b) = (↑g.2 : Int) ∧ L.ng g.1 g.2 = L.ng (L.nabs a) (L.nabs b) ∧ g.1 ≤ (4611686018427387904 : Nat) ∧ g.2 ≤ (4611686018427387904 : Nat)) ∧ ∀ (g : Nat × Nat), L.ng g.1 g.2 = L.ng (L.nabs a) (L.nabs b) ∧ g.1 ≤ (4611686018427387904 :
 Nat) ∧ g.2 ≤ (4611686018427387904 : Nat) → (decide ((0 : Int) < (↑g.2 : Int)) = true → (↑g.2 : Int) ≠ (0 : Int) ∧ ∃ (g' : Nat × Nat), (↑g.2 : Int) = (↑g'.1 : Int) ∧ Int.tmod (↑g.1 : Int) (↑g.2 : Int) = (↑g'.2 : Int) ∧ (L.ng g'.1 g'.2 = L.ng (L.nabs a) (L.nabs b) ∧ g'.1 ≤ (4611686018427387904 : Nat) ∧ g'.2 ≤ (4611686018427387904 : Nat)) ∧ g'.2 < g.2) ∧ (decide ((0 : Int) <
 (↑g.2 : Int)) = false → (↑g.1 : Int) = L.gcd a b)) (by kernel_rfl) (by
    obtain ⟨⟨a1, a2⟩, b1, b2⟩ := hp
    refine ⟨InK.of (by omega) (by omega), InK.of (by omega) (by omega), ⟨(a.natAbs, b.natAbs), by show max a (0 - a) = ((a.natAbs : Nat) : Int); omega, by show max b (0 - b) = ((b.natAbs : Nat) : Int); omega, rfl, by show a.natAbs ≤ 4611686018427387904; omega, by show b.natAbs ≤ 4611686018427387904; omega⟩, ?_⟩
    rintro ⟨x, y⟩ ⟨h1, h2, h3⟩
    have h1 : Nat.gcd x y = Nat.gcd a.natAbs b.natAbs := h1
    have h2 : x ≤ 4611686018427387904 := h2
    have h3 : y ≤ 4611686018427387904 := h3
    refine ⟨fun hd => ?_, fun hd => ?_⟩
    · have hd : (0 : Int) < (y : Int) := of_decide_eq_true hd
      have hm : x % y < y := Nat.mod_lt _ (by omega)
      refine ⟨by show (y : Int) ≠ 0; omega, (y, x % y), rfl, rfl, ⟨?_, h3, by show x % y ≤ 4611686018427387904; omega⟩, hm⟩
      show Nat.gcd y (x % y) = Nat.gcd a.natAbs b.natAbs
      rw [← h1, Nat.gcd_comm y (x % y), ← Nat.gcd_rec y x, Nat.gcd_comm y x]
    · have hd : ¬ (0 : Int) < (y : Int) := of_decide_eq_false hd
      obtain rfl : y = 0 := by omega
      rw [Nat.gcd_zero_right] at h1
      show (x : Int) = L.gcd a b
      unfold L.gcd
      rw [h1])
theorem p_gcd_ok : SpecOk Try.prog 44 p_gcd_S := fnX Try.func44 (c := bodyOf Try.f44) (by kernel_rfl) mixed (fun args p r hs hp => by
  unfold p_gcd_s at hs
  split at hs
  · cases hs; exact ⟨_, _, p_gcd_vc _ _ hp, (.same _ (.same _ .nil)), ⟨show SpecsL Try.prog _ from SpecsL.nil, rfl, ⟨show ItersL Try.prog _ from ItersL.nil, (TrsOk.none (fun _ => rfl))⟩⟩⟩
  · cases hs)
theorem p_gcd_en : Enters Try.prog 44 := fun args w => by kernel_rfl
def p_free1_p (n : L.Pt) (d : L.Pt) : Prop := L.bd n ∧ L.bd d
def p_free1_r (n : L.Pt) (d : L.Pt) : SV := .bool (L.hit d n)
def p_free1_s : List EV → Option (Prop × SV)
  | [.p (.agg [.int .i64 n_x, .int .i64 n_y]), .p (.ref [.int .i64 d_x, .int .i64 d_y] 0)] => some (p_free1_p (⟨n_x, n_y⟩ : L.Pt) (⟨d_x, d_y⟩ : L.Pt), p_free1_r (⟨n_x, n_y⟩ : L.Pt) (⟨d_x, d_y⟩ : L.Pt))
  | _ => none
abbrev p_free1_S : SE.Spec := (specO p_free1_s)
def p_free1_C : Cfg := { muts := [], frz := lookN [], specs := lookS [], loops := lookL [], iters := lookI [], rfs := lookR [], nils := lookM [] }
theorem p_free1_vc (n : L.Pt) (d : L.Pt) (hp : p_free1_p n d) : vc Try.prog (p_free1_C) (bodyOf Try.f76) (st0 Try.f76 [.p (.agg [.int .i64 n.x, .int .i64 n.y]), .p (.ref [.int .i64 d.x, .int .i64 d.y] 0)]) (retFn Try.prog Try.f76 (p_free1_r n d)) :=
  @Eq.mpr _ (InK .i64 (d.x * n.x) ∧ InK .i64 (d.y * n.y) ∧ InK .i64 (d.x * n.x + d.y * n.y) ∧ decide ((0 : Int) < d.x * n.x + d.y * n.y) = L.hit d n) (by kernel_rfl) (by
    obtain ⟨h1, h2⟩ := hp
    unfold L.bd at h1 h2
    have m1 := mul_bd (a := d.x) (b := n.x) (m := 4000000) (n := 4000000) (by omega) (by omega) (by omega) (by omega)
    have m2 := mul_bd (a := d.y) (b := n.y) (m := 4000000) (n := 4000000) (by omega) (by omega) (by omega) (by omega)
    exact ⟨InK.of (by omega) (by omega), InK.of (by omega) (by omega), InK.of (by omega) (by omega), rfl⟩)
theorem p_free1_ok : SpecOk Try.prog 76 p_free1_S := fnX Try.func76 (c := bodyOf Try.f76) (by kernel_rfl) mixed (fun args p r hs hp => by
  unfold p_free1_s at hs
  split at hs
  · cases hs; exact ⟨_, _, p_free1_vc _ _ hp, (.same _ (.same _ .nil)), ⟨show SpecsL Try.prog _ from SpecsL.nil, rfl, ⟨show ItersL Try.prog _ from ItersL.nil, (TrsOk.none (fun _ => rfl))⟩⟩⟩
  · cases hs)
theorem p_free1_en : Enters Try.prog 76 := fun args w => by kernel_rfl
theorem p_free1_B : ∀ args p r, p_free1_s args = some (p, r) → ∃ b, r = .bool b := by
  intro args p r h
  unfold p_free1_s at h
  split at h
  · cases h; exact ⟨_, rfl⟩
  · cases h
def p_free_p (d : L.Pt) (l : (L.Sq L.Pt)) : Prop := l.n ≤ 1000000 ∧ L.bd d ∧ ∀ i, i < l.n → L.bd (l.g i)
def p_free_r (d : L.Pt) (l : (L.Sq L.Pt)) : SV := .bool (L.free d l)
def p_free_s : List EV → Option (Prop × SV)
  | [.p (.agg [.int .i64 d_x, .int .i64 d_y]), .p (.sl 2 l_n l_g)] => some ((∀ i, i < l_n → l_g i = [.int .i64 ((ofPt (l_g i)).x), .int .i64 ((ofPt (l_g i)).y)]) ∧ p_free_p (⟨d_x, d_y⟩ : L.Pt) (⟨l_n, fun i => ofPt (l_g i)⟩ : (L.Sq L.Pt)), p_free_r (⟨d_x, d_y⟩ : L.Pt) (⟨l_n, fun i => ofPt (l_g i)⟩ : (L.Sq L.Pt)))
  | _ => none
abbrev p_free_S : SE.Spec := (specO p_free_s)
def p_free_C : Cfg := { muts := [], frz := lookN [], specs := lookS [(26, s_conFP_S), (76, p_free1_S)], loops := lookL [], iters := lookI [], rfs := lookR [], nils := lookM [] }
theorem p_free_vc (d : L.Pt) (l : (L.Sq L.Pt)) (hp : p_free_p d l) : vc Try.prog (p_free_C) (bodyOf Try.f53) (st0 Try.f53 [.p (.agg [.int .i64 d.x, .int .i64 d.y]), .p (.sl 2 l.n (fun i => [.int .i64 ((l.g i).x), .int .i64 ((l.g i).y)]))]) (retFn Try.prog Try.f53 (p_free_r d l)) :=
  @Eq.mpr _ (((∀ (i : Nat), i < l.n → [SV.int .i64 (l.g i).x, SV.int .i64 (l.g i).y] = [SV.int .i64 (l.g i).x, SV.int .i64 (l.g i).y]) ∧ isB (FSpec.mk (fun («as» : List SV) ↦ preO p_free1_s (List.map EV.p «as» ++ List.map EV.p [SV.ref [SV.int .i64 d.x, SV.int .i64 d.y]
 (nat_lit 0)])) fun («as» : List SV) ↦ resO p_free1_s (List.map EV.p «as» ++ List.map EV.p [SV.ref [SV.int .i64 d.x, SV.int .i64 d.y] (nat_lit 0)])) ∧ l.n ≤ (1000000 : Nat) ∧ ∀ (i : Nat), i < l.n → L.bd (l.g i) ∧ L.bd d) ∧ (!L.anyB l.n fun (i : Nat) ↦ L.fbl (FSpec.mk (fun («as» : List SV) ↦ preO p_free1_s (List.map
 EV.p «as» ++ List.map EV.p [SV.ref [SV.int .i64 d.x, SV.int .i64 d.y] (nat_lit 0)])) fun («as» : List SV) ↦ resO p_free1_s (List.map EV.p «as» ++ List.map EV.p [SV.ref [SV.int .i64 d.x, SV.int .i64 d.y] (nat_lit 0)])) [SV.agg [SV.int .i64 (l.g i).x, SV.int
 .i64 (l.g i).y]]) = L.free d l) (by kernel_rfl) (by
    obtain ⟨h1, h2, h3⟩ := hp
    exact ⟨⟨fun _ _ => rfl, isB_of p_free1_B _, h1, fun i hi => ⟨h3 i hi, h2⟩⟩, rfl⟩)
theorem p_free_ok : SpecOk Try.prog 53 p_free_S := fnX Try.func53 (c := bodyOf Try.f53) (by kernel_rfl) mixed (fun args p r hs hp => by
  unfold p_free_s at hs
  split at hs
  · cases hs; exact ⟨_, _, p_free_vc _ _ hp.2, (.same _ (.p (.sl hp.1) .nil)), ⟨show SpecsL Try.prog _ from (SpecsL.cons s_conFP_ok s_conFP_en (SpecsL.cons p_free1_ok p_free1_en SpecsL.nil)), rfl, ⟨show ItersL Try.prog _ from ItersL.nil, (TrsOk.none (fun _ => rfl))⟩⟩⟩
  · cases hs)
theorem p_free_en : Enters Try.prog 53 := fun args w => by kernel_rfl
def p_way_p (l : (L.Sq L.Pt)) : Prop := L.nrms l
def p_way_r (l : (L.Sq L.Pt)) : SV := .tup [.agg [.int .i64 (L.wayD l).x, .int .i64 (L.wayD l).y], .bool (L.wayOk l)]
def p_way_s : List EV → Option (Prop × SV)
  | [.p (.sl 2 l_n l_g)] => some ((∀ i, i < l_n → l_g i = [.int .i64 ((ofPt (l_g i)).x), .int .i64 ((ofPt (l_g i)).y)]) ∧ p_way_p (⟨l_n, fun i => ofPt (l_g i)⟩ : (L.Sq L.Pt)), p_way_r (⟨l_n, fun i => ofPt (l_g i)⟩ : (L.Sq L.Pt)))
  | _ => none
abbrev p_way_S : SE.Spec := (specO p_way_s)
def p_way_C : Cfg := { muts := [2, 5, 8], frz := lookN [], specs := lookS [(44, p_gcd_S), (53, p_free_S)], loops := fun _ => none, iters := lookI [], rfs := lookR [], nils := lookM [] }
theorem p_way_vc (l : (L.Sq L.Pt)) (hp : p_way_p l) : vc Try.prog ({ p_way_C with loops := lookL [(4, { T := Nat, keep := [0, 2, 13, 14], keepO := [2], chg := fun i => [(15, .p (.int .i64 (i : Int)))], own := fun _ => [], inv := fun i => i ≤ l.n ∧ ∀ c, c < 2 * i → L.free (L.cand l c) l = false, mu := fun i => l.n - i }), (8, { T := Nat × Nat, keep := [0, 2, 5, 13, 14, 15, 45], keepO := [2, 5], tie := fun g => [(15, .int .i64 (g.1 : Int))], chg := fun g => [(46, .p (.int .i64 (g.2 : Int))), (44, .p (.sl 2 2 (fun s => [.int .i64 ((L.dir (l.g g.1) s).x), .int .i64 ((L.dir (l.g g.1) s).y)])))], own := fun _ => [], inv := fun g => g.1 < l.n ∧ g.2 ≤ 2 ∧ ∀ c, c < 2 * g.1 + g.2 → L.free (L.cand l c) l = false, mu := fun g => 2 - g.2 })], rfs := lookR [] }) (bodyOf Try.f27) (st0 Try.f27 [.p (.sl 2 l.n (fun i => [.int .i64 ((l.g i).x), .int .i64 ((l.g i).y)]))]) (retFn Try.prog Try.f27 (p_way_r l)) :=
  @Eq.mpr _ ((decide ((↑l.n : Int) = (0 : Int)) = true → SV.agg [SV.int .i64 (1 : Int), SV.int .i64 (0 : Int)] = SV.agg [SV.int .i64 (L.wayD l).x, SV.int .i64 (L.wayD l).y] ∧ true = L.wayOk l) ∧ (decide ((↑l.n : Int) = (0 : Int)) = false → (∃ (g : Nat), (0 : Int) = (↑g : Int) ∧ g ≤ l.n ∧ ∀ (c : Nat),
 c < (2 : Nat) * g → L.free (L.cand l c) l = false) ∧ ∀ (g : Nat), (g ≤ l.n ∧ ∀ (c : Nat), c < (2 : Nat) * g → L.free (L.cand l c) l = false) → (decide ((↑g : Int) < (↑l.n : Int)) = true → ((0 : Int) ≤ (↑g : Int) ∧ (↑g : Int) < (↑l.n : Int)) ∧ (((-4611686018427387904 : Int) ≤ (l.g (Int.toNat (↑g : Int))).x ∧ (l.g (Int.toNat (↑g : Int))).x ≤ (4611686018427387904 : Int)) ∧
 (-4611686018427387904 : Int) ≤ (l.g (Int.toNat (↑g : Int))).y ∧ (l.g (Int.toNat (↑g : Int))).y ≤ (4611686018427387904 : Int)) ∧ InK .i64 ((0 : Int) - (l.g (Int.toNat (↑g : Int))).y) ∧ L.gcd (l.g (Int.toNat (↑g : Int))).x (l.g (Int.toNat (↑g : Int))).y ≠ (0 : Int) ∧ InK .i64 (Int.tdiv ((0 : Int) - (l.g (Int.toNat (↑g : Int))).y) (L.gcd (l.g (Int.toNat (↑g : Int))).x
 (l.g (Int.toNat (↑g : Int))).y)) ∧ L.gcd (l.g (Int.toNat (↑g : Int))).x (l.g (Int.toNat (↑g : Int))).y ≠ (0 : Int) ∧ InK .i64 (Int.tdiv (l.g (Int.toNat (↑g : Int))).x (L.gcd (l.g (Int.toNat (↑g : Int))).x (l.g (Int.toNat (↑g : Int))).y)) ∧ L.gcd (l.g (Int.toNat (↑g : Int))).x (l.g (Int.toNat (↑g : Int))).y ≠ (0 : Int) ∧ InK .i64 (Int.tdiv (l.g (Int.toNat (↑g :
 Int))).y (L.gcd (l.g (Int.toNat (↑g : Int))).x (l.g (Int.toNat (↑g : Int))).y)) ∧ InK .i64 ((0 : Int) - (l.g (Int.toNat (↑g : Int))).x) ∧ L.gcd (l.g (Int.toNat (↑g : Int))).x (l.g (Int.toNat (↑g : Int))).y ≠ (0 : Int) ∧ InK .i64 (Int.tdiv ((0 : Int) - (l.g (Int.toNat (↑g : Int))).x) (L.gcd (l.g (Int.toNat (↑g : Int))).x (l.g (Int.toNat (↑g : Int))).y)) ∧ (∃ (g_1 :
 Nat × Nat), (0 : Int) = (↑g_1.2 : Int) ∧ (nat_lit 2 = (2 : Nat) ∧ ∀ (i : Nat), i < nat_lit 2 → rowsOf [SV.int .i64 (Int.tdiv ((0 : Int) - (l.g (Int.toNat (↑g : Int))).y) (L.gcd (l.g (Int.toNat (↑g : Int))).x (l.g (Int.toNat (↑g : Int))).y)), SV.int .i64 (Int.tdiv (l.g (Int.toNat (↑g : Int))).x (L.gcd (l.g (Int.toNat (↑g : Int))).x (l.g (Int.toNat (↑g :
 Int))).y)), SV.int .i64 (Int.tdiv (l.g (Int.toNat (↑g : Int))).y (L.gcd (l.g (Int.toNat (↑g : Int))).x (l.g (Int.toNat (↑g : Int))).y)), SV.int .i64 (Int.tdiv ((0 : Int) - (l.g (Int.toNat (↑g : Int))).x) (L.gcd (l.g (Int.toNat (↑g : Int))).x (l.g (Int.toNat (↑g : Int))).y))] (nat_lit 2) i = [SV.int .i64 (L.dir (l.g g_1.1) i).x, SV.int
 .i64 (L.dir (l.g g_1.1) i).y]) ∧ (↑g : Int) = (↑g_1.1 : Int) ∧ g_1.1 < l.n ∧ g_1.2 ≤ (2 : Nat) ∧ ∀ (c : Nat), c < (2 : Nat) * g_1.1 + g_1.2 → L.free (L.cand l c) l = false) ∧ ∀ (g_1 : Nat × Nat), ((↑g : Int) = (↑g_1.1 : Int) ∧ g_1.1 < l.n ∧ g_1.2 ≤ (2 : Nat) ∧ ∀ (c : Nat), c < (2 : Nat) * g_1.1 + g_1.2 → L.free (L.cand l c) l = false) → (decide ((↑g_1.2 : Int) < (↑(2
 : Nat) : Int)) = true → ((0 : Int) ≤ (↑g_1.2 : Int) ∧ (↑g_1.2 : Int) < (↑(nat_lit 2) : Int)) ∧ ((∀ (i : Nat), i < l.n → [SV.int .i64 (l.g i).x, SV.int .i64 (l.g i).y] = [SV.int .i64 (l.g i).x, SV.int .i64 (l.g i).y]) ∧ l.n ≤ (1000000 : Nat) ∧ L.bd (L.dir (l.g g_1.1) (Int.toNat (↑g_1.2 : Int))) ∧ ∀ (i : Nat), i < l.n → L.bd (l.g
 i)) ∧ (L.free (L.dir (l.g g_1.1) (Int.toNat (↑g_1.2 : Int))) (L.Sq.mk l.n fun (i : Nat) ↦ l.g i) = true → SV.agg [SV.int .i64 (L.dir (l.g g_1.1) (Int.toNat (↑g_1.2 : Int))).x, SV.int .i64 (L.dir (l.g g_1.1) (Int.toNat (↑g_1.2 : Int))).y] = SV.agg [SV.int .i64 (L.wayD l).x, SV.int .i64 (L.wayD l).y] ∧ true =
 L.wayOk l) ∧ (L.free (L.dir (l.g g_1.1) (Int.toNat (↑g_1.2 : Int))) (L.Sq.mk l.n fun (i : Nat) ↦ l.g i) = false → InK .i64 ((↑g_1.2 : Int) + (1 : Int)) ∧ ∃ (g' : Nat × Nat), (↑g_1.2 : Int) + (1 : Int) = (↑g'.2 : Int) ∧ (nat_lit 2 = (2 : Nat) ∧ ∀ (i : Nat), i < nat_lit 2 → [SV.int .i64 (L.dir (l.g g_1.1) i).x, SV.int .i64 (L.dir (l.g g_1.1) i).y]
 = [SV.int .i64 (L.dir (l.g g'.1) i).x, SV.int .i64 (L.dir (l.g g'.1) i).y]) ∧ (↑(2 : Nat) : Int) = (↑(2 : Nat) : Int) ∧ nat_lit 0 = nat_lit 0 ∧ (↑g : Int) = (↑g : Int) ∧ (↑l.n : Int) = (↑l.n : Int) ∧ (l.n = l.n ∧ ∀ (i : Nat), i < l.n → [SV.int .i64 (l.g i).x, SV.int .i64 (l.g i).y] = [SV.int .i64 (l.g i).x,
 SV.int .i64 (l.g i).y]) ∧ nat_lit 0 = nat_lit 0 ∧ (l.n = l.n ∧ ∀ (i : Nat), i < l.n → [SV.int .i64 (l.g i).x, SV.int .i64 (l.g i).y] = [SV.int .i64 (l.g i).x, SV.int .i64 (l.g i).y]) ∧ (l.g (Int.toNat (↑g : Int))).x = (l.g (Int.toNat (↑g : Int))).x ∧ (l.g (Int.toNat (↑g : Int))).y = (l.g (Int.toNat (↑g : Int))).y ∧ (0
 : Int) = (0 : Int) ∧ (0 : Int) = (0 : Int) ∧ ((↑g : Int) = (↑g'.1 : Int) ∧ g'.1 < l.n ∧ g'.2 ≤ (2 : Nat) ∧ ∀ (c : Nat), c < (2 : Nat) * g'.1 + g'.2 → L.free (L.cand l c) l = false) ∧ (2 : Nat) - g'.2 < (2 : Nat) - g_1.2)) ∧ (decide ((↑g_1.2 : Int) < (↑(2 : Nat) : Int)) = false → InK .i64 ((↑g : Int) + (1 : Int)) ∧ ∃ (g' : Nat), (↑g : Int) + (1 : Int) = (↑g' :
 Int) ∧ (↑l.n : Int) = (↑l.n : Int) ∧ (l.n = l.n ∧ ∀ (i : Nat), i < l.n → [SV.int .i64 (l.g i).x, SV.int .i64 (l.g i).y] = [SV.int .i64 (l.g i).x, SV.int .i64 (l.g i).y]) ∧ nat_lit 0 = nat_lit 0 ∧ (l.n = l.n ∧ ∀ (i : Nat), i < l.n → [SV.int .i64 (l.g i).x, SV.int .i64 (l.g i).y] = [SV.int
 .i64 (l.g i).x, SV.int .i64 (l.g i).y]) ∧ (0 : Int) = (0 : Int) ∧ (0 : Int) = (0 : Int) ∧ (g' ≤ l.n ∧ ∀ (c : Nat), c < (2 : Nat) * g' → L.free (L.cand l c) l = false) ∧ l.n - g' < l.n - g)) ∧ (decide ((↑g : Int) < (↑l.n : Int)) = false → SV.agg [SV.int .i64 (0 : Int), SV.int .i64 (0 : Int)] = SV.agg
 [SV.int .i64 (L.wayD l).x, SV.int .i64 (L.wayD l).y] ∧ false = L.wayOk l))) (by kernel_rfl) (by
    obtain ⟨hn, hN⟩ := hp
    refine ⟨fun h0 => ?_, fun h0 => ?_⟩
    · have h0 : ((l.n : Nat) : Int) = 0 := of_decide_eq_true h0
      obtain ⟨e1, e2⟩ := way_0 (N := l) (by omega)
      rw [e1, e2]; exact ⟨rfl, rfl⟩
    have h0 : ¬ ((l.n : Nat) : Int) = 0 := of_decide_eq_false h0
    refine ⟨⟨(0 : Nat), rfl, Nat.zero_le _, fun c hc => absurd hc (Nat.not_lt_zero _)⟩, fun g hg => ⟨fun hlt => ?_, fun hge => ?_⟩⟩
    · obtain ⟨hg1, hg2⟩ := hg
      have hb : (g : Int) < (l.n : Int) := of_decide_eq_true hlt
      have e0 : ((g : Int)).toNat = g := by omega
      have hgl : g < l.n := by omega
      obtain ⟨⟨⟨a1, a2⟩, b1, b2⟩, hgc, _⟩ := isNrm_of (hN g hgl)
      have t1 := tdiv_bd (a := (l.g g).x) (g := L.gcd (l.g g).x (l.g g).y) a1 a2 hgc
      have t2 := tdiv_bd (a := (l.g g).y) (g := L.gcd (l.g g).x (l.g g).y) b1 b2 hgc
      have t3 := tdiv_bd (a := 0 - (l.g g).x) (g := L.gcd (l.g g).x (l.g g).y) (by omega) (by omega) hgc
      have t4 := tdiv_bd (a := 0 - (l.g g).y) (g := L.gcd (l.g g).x (l.g g).y) (by omega) (by omega) hgc
      rw [e0]
      refine ⟨⟨by omega, hb⟩, ⟨⟨by omega, by omega⟩, by omega, by omega⟩, InK.of (by omega) (by omega), by omega, InK.of (by omega) (by omega), by omega, InK.of (by omega) (by omega), by omega, InK.of (by omega) (by omega), InK.of (by omega) (by omega), by omega, InK.of (by omega) (by omega), ⟨(g, 0), rfl, ⟨rfl, fun i hi => ?_⟩, rfl, hgl, Nat.zero_le _, hg2⟩, fun h hh => ?_⟩
      · match i, hi with
        | 0, _ => rfl
        | 1, _ => rfl
      obtain ⟨g0, s⟩ := h
      obtain ⟨e1, q1, q2, q3⟩ := hh
      have e1 : (g : Int) = (g0 : Int) := e1
      obtain rfl : g = g0 := by omega
      have q2 : s ≤ 2 := q2
      have q3 : ∀ c, c < 2 * g + s → L.free (L.cand l c) l = false := q3
      have es : ((s : Int)).toNat = s := by omega
      dsimp only
      rw [es]
      refine ⟨fun hs => ?_, fun hs => ?_⟩
      · have hs : (s : Int) < (2 : Int) := of_decide_eq_true hs
        have hs2 : s < 2 := by omega
        have hc := cand_eq l g hs2
        refine ⟨⟨by omega, hs⟩, ⟨fun _ _ => rfl, hn, dir_bd (hN g hgl) s, fun i hi => (isNrm_of (hN i hi)).2.2⟩, fun hf => ?_, fun hf => ?_⟩
        · rw [← hc] at hf
          obtain ⟨w1, w2⟩ := way_at q3 hf (by omega)
          rw [w1, w2, hc]; exact ⟨rfl, rfl⟩
        · rw [← hc] at hf
          refine ⟨InK.of (by omega) (by omega), (g, s + 1), by show (s : Int) + 1 = ((s + 1 : Nat) : Int); omega, ⟨rfl, fun _ _ => rfl⟩, rfl, rfl, rfl, rfl, ⟨rfl, fun _ _ => rfl⟩, rfl, ⟨rfl, fun _ _ => rfl⟩, rfl, rfl, rfl, rfl, ⟨rfl, q1, by show s + 1 ≤ 2; omega, fun c hc' => ?_⟩, by show 2 - (s + 1) < 2 - s; omega⟩
          have hc' : c < 2 * g + s + 1 := hc'
          rcases Nat.lt_succ_iff_lt_or_eq.1 hc' with h | rfl
          · exact q3 c h
          · exact hf
      · have hs : ¬ (s : Int) < (2 : Int) := of_decide_eq_false hs
        obtain rfl : s = 2 := by omega
        exact ⟨InK.of (by omega) (by omega), g + 1, by omega, rfl, ⟨rfl, fun _ _ => rfl⟩, rfl, ⟨rfl, fun _ _ => rfl⟩, rfl, rfl, ⟨by omega, fun c hc => q3 c (by omega)⟩, by omega⟩
    · obtain ⟨hg1, hg2⟩ := hg
      have hb : ¬ (g : Int) < (l.n : Int) := of_decide_eq_false hge
      obtain rfl : g = l.n := by omega
      obtain ⟨w1, w2⟩ := way_no (N := l) (by omega) hg2
      rw [w1, w2]; exact ⟨rfl, rfl⟩)
theorem p_way_ok : SpecOk Try.prog 27 p_way_S := fnX Try.func27 (c := bodyOf Try.f27) (by kernel_rfl) mixed (fun args p r hs hp => by
  unfold p_way_s at hs
  split at hs
  · cases hs; exact ⟨_, _, p_way_vc _ hp.2, (.p (.sl hp.1) .nil), ⟨show SpecsL Try.prog _ from (SpecsL.cons p_gcd_ok p_gcd_en (SpecsL.cons p_free_ok p_free_en SpecsL.nil)), rfl, ⟨show ItersL Try.prog _ from ItersL.nil, (TrsOk.none (fun _ => rfl))⟩⟩⟩
  · cases hs)
theorem p_way_en : Enters Try.prog 27 := fun args w => by kernel_rfl
def p_bad_p (n : L.Pt) : Prop := True
def p_bad_r (n : L.Pt) : SV := .bool (!L.isNrm n)
def p_bad_s : List EV → Option (Prop × SV)
  | [.p (.agg [.int .i64 n_x, .int .i64 n_y])] => some (p_bad_p (⟨n_x, n_y⟩ : L.Pt), p_bad_r (⟨n_x, n_y⟩ : L.Pt))
  | _ => none
abbrev p_bad_S : SE.Spec := (specO p_bad_s)
def p_bad_C : Cfg := { muts := [], frz := lookN [], specs := lookS [(25, p_within_S)], loops := lookL [], iters := lookI [], rfs := lookR [], nils := lookM [] }
theorem p_bad_vc (n : L.Pt) (hp : p_bad_p n) : vc Try.prog (p_bad_C) (bodyOf Try.f24) (st0 Try.f24 [.p (.agg [.int .i64 n.x, .int .i64 n.y])]) (retFn Try.prog Try.f24 (p_bad_r n)) :=
  @Eq.mpr _ (((!(decide (n.x = (0 : Int)) && decide (n.y = (0 : Int)))) = true → True) ∧ ((!bif decide (n.x = (0 : Int)) && decide (n.y = (0 : Int)) then true else !L.within n.x (-4096 : Int) (4096 : Int)) = true → True) ∧ (bif bif decide (n.x = (0 : Int)) && decide (n.y = (0 : Int)) then true else !L.within n.x (-4096 : Int) (4096
 : Int) then true else !L.within n.y (-4096 : Int) (4096 : Int)) = !L.isNrm n) (by kernel_rfl) (by
    refine ⟨fun _ => trivial, fun _ => trivial, ?_⟩
    unfold L.isNrm
    cases (decide (n.x = 0) && decide (n.y = 0)) <;> cases L.within n.x (-4096) 4096 <;> cases L.within n.y (-4096) 4096 <;> rfl)
theorem p_bad_ok : SpecOk Try.prog 24 p_bad_S := fnX Try.func24 (c := bodyOf Try.f24) (by kernel_rfl) mixed (fun args p r hs hp => by
  unfold p_bad_s at hs
  split at hs
  · cases hs; exact ⟨_, _, p_bad_vc _ hp, (.same _ .nil), ⟨show SpecsL Try.prog _ from (SpecsL.cons p_within_ok p_within_en SpecsL.nil), rfl, ⟨show ItersL Try.prog _ from ItersL.nil, (TrsOk.none (fun _ => rfl))⟩⟩⟩
  · cases hs)
theorem p_bad_en : Enters Try.prog 24 := fun args w => by kernel_rfl
theorem p_bad_B : ∀ args p r, p_bad_s args = some (p, r) → ∃ b, r = .bool b := by
  intro args p r h
  unfold p_bad_s at h
  split at h
  · cases h; exact ⟨_, rfl⟩
  · cases h
end Go.Proofs.Ytdlhpdidgfgomaa

namespace Go.Proofs.Ytdlhpdidgfgomaa
open Go.SE Go.RowKit
set_option maxRecDepth 100000
set_option maxHeartbeats 4000000
set_option linter.unusedVariables false
attribute [local irreducible] vc

def L.pck (N : L.Sq L.Pt) (l : L.Sq Int) : L.Sq L.Pt := ⟨l.n, fun i => N.g (l.g i).toNat⟩
def L.snoc (l : L.Sq Int) (x : Int) : L.Sq Int := ⟨l.n + 1, fun i => bif decide (i < l.n) then l.g i else x⟩
def L.nilI : L.Sq Int := ⟨0, fun _ => 0⟩
def L.first (f : Nat → Option (L.Sq Int)) : Nat → Option (L.Sq Int)
  | 0 => none
  | c + 1 => match L.first f c with
    | some x => some x
    | none => f c
def L.grp (N : L.Sq L.Pt) : Nat → L.Sq Int → Nat → Option (L.Sq Int)
  | 0, l, _ => bif L.wayOk (L.pck N l) then none else some l
  | d + 1, l, fr => L.first (fun j => L.grp N d (L.snoc l ((fr + j : Nat) : Int)) (fr + j + 1)) (N.n - fr)
def L.orB (o : Option (L.Sq Int)) (b : L.Sq Int) : L.Sq Int := match o with
  | some x => x
  | none => b
def L.isNo (o : Option (L.Sq Int)) : Bool := match o with
  | some _ => false
  | none => true
def L.aft (N : L.Sq L.Pt) (l b : L.Sq Int) : L.Sq Int := bif L.wayOk (L.pck N l) then b else l
def L.within0 (l : L.Sq Int) (n : Nat) : Prop := ∀ i, i < l.n → 0 ≤ l.g i ∧ l.g i < (n : Int)
def L.exF (N : L.Sq L.Pt) (j : Nat) : Option (L.Sq Int) := L.grp N (3 + j) L.nilI 0
def L.exL (N : L.Sq L.Pt) : L.Sq Int := L.orB (L.first (L.exF N) 22) L.nilI
def L.exBad (N : L.Sq L.Pt) : Bool := bif decide (24 < (N.n : Int)) then true else L.anyB N.n (fun i => !L.isNrm (N.g i))
def L.exE (N : L.Sq L.Pt) : Int := bif L.exBad N then 1 else bif L.wayOk N then 0 else 13
def L.exD (N : L.Sq L.Pt) : L.Pt := bif L.exBad N then ⟨0, 0⟩ else L.wayD N
def L.exN (N : L.Sq L.Pt) : Nat := bif L.exBad N then 0 else bif L.wayOk N then 0 else (L.exL N).n
theorem first_none {f : Nat → Option (L.Sq Int)} : ∀ {c : Nat}, (∀ j, j < c → f j = none) → L.first f c = none
  | 0, _ => rfl
  | c + 1, h => by rw [L.first, first_none (c := c) (fun j hj => h j (by omega))]; exact h c (by omega)
theorem first_none_of {f : Nat → Option (L.Sq Int)} : ∀ {c : Nat}, L.first f c = none → ∀ j, j < c → f j = none
  | 0, _, j, hj => absurd hj (Nat.not_lt_zero _)
  | c + 1, h, j, hj => by
    rw [L.first] at h
    cases hf : L.first f c with
    | some x => rw [hf] at h; cases h
    | none =>
      rw [hf] at h
      rcases Nat.lt_succ_iff_lt_or_eq.1 hj with hj | rfl
      · exact first_none_of hf j hj
      · exact h
theorem first_at {f : Nat → Option (L.Sq Int)} {j : Nat} {x : L.Sq Int} (h0 : ∀ i, i < j → f i = none) (h : f j = some x) : ∀ {c : Nat}, j < c → L.first f c = some x
  | c + 1, hc => by
    rw [L.first]
    rcases Nat.lt_succ_iff_lt_or_eq.1 hc with hc | rfl
    · rw [first_at h0 h hc]
    · rw [first_none h0]; exact h
theorem first_some {f : Nat → Option (L.Sq Int)} {x : L.Sq Int} : ∀ {c : Nat}, L.first f c = some x → ∃ j, j < c ∧ f j = some x ∧ ∀ i, i < j → f i = none
  | 0, h => by cases h
  | c + 1, h => by
    rw [L.first] at h
    cases hf : L.first f c with
    | some y =>
      rw [hf] at h
      cases h
      obtain ⟨j, h1, h2, h3⟩ := first_some hf
      exact ⟨j, by omega, h2, h3⟩
    | none =>
      rw [hf] at h
      exact ⟨c, Nat.lt_succ_self c, h, first_none_of hf⟩
theorem first_mono {f : Nat → Option (L.Sq Int)} {x : L.Sq Int} {c m : Nat} (h : L.first f c = some x) (hm : c ≤ m) : L.first f m = some x := by
  obtain ⟨j, h1, h2, h3⟩ := first_some h
  exact first_at h3 h2 (by omega)
theorem grp_len {N : L.Sq L.Pt} : ∀ {d : Nat} {l : L.Sq Int} {fr : Nat} {x : L.Sq Int}, L.grp N d l fr = some x → x.n = l.n + d
  | 0, l, fr, x, h => by
    rw [L.grp] at h
    cases hw : L.wayOk (L.pck N l) with
    | true => rw [hw] at h; cases h
    | false => rw [hw] at h; cases h; rfl
  | d + 1, l, fr, x, h => by
    rw [L.grp] at h
    obtain ⟨j, _, h2, _⟩ := first_some h
    have := grp_len h2
    rw [this]
    show l.n + 1 + d = l.n + (d + 1)
    omega
theorem snoc_within {l : L.Sq Int} {n : Nat} (h : L.within0 l n) {x : Int} (h0 : 0 ≤ x) (h1 : x < (n : Int)) : L.within0 (L.snoc l x) n := fun i hi => by
  have hi : i < l.n + 1 := hi
  show 0 ≤ (bif decide (i < l.n) then l.g i else x) ∧ (bif decide (i < l.n) then l.g i else x) < (n : Int)
  by_cases h' : i < l.n
  · rw [decide_eq_true h']; exact h i h'
  · rw [decide_eq_false h']; exact ⟨h0, h1⟩
theorem pick_nrms {N : L.Sq L.Pt} {l : L.Sq Int} (hN : L.nrms N) (h : L.within0 l N.n) (hn : l.n ≤ 1000000) : L.nrms (L.pck N l) := ⟨hn, fun i hi => hN.2 _ (by have := h i hi; omega)⟩
theorem isNo_none {o : Option (L.Sq Int)} (h : L.isNo o = true) : o = none := by
  cases o with
  | none => rfl
  | some x => cases h
theorem isNo_some {o : Option (L.Sq Int)} (h : L.isNo o = false) : ∃ x, o = some x := by
  cases o with
  | none => cases h
  | some x => exact ⟨x, rfl⟩
theorem exBad_false {N : L.Sq L.Pt} (h : L.exBad N = false) : N.n ≤ 24 ∧ L.nrms N := by
  unfold L.exBad at h
  cases hd : decide (24 < (N.n : Int)) with
  | true => rw [hd] at h; cases h
  | false =>
    have hd := of_decide_eq_false hd
    rw [decide_eq_false hd] at h
    refine ⟨by omega, by omega, fun i hi => ?_⟩
    cases hn : L.isNrm (N.g i) with
    | true => rfl
    | false =>
      have : L.anyB N.n (fun i => !L.isNrm (N.g i)) = true := anyB_iff.2 ⟨i, hi, by rw [hn]; rfl⟩
      rw [this] at h; cases h
theorem wayD_no {N : L.Sq L.Pt} (h : L.wayOk N = false) : L.wayD N = ⟨0, 0⟩ := by
  unfold L.wayOk at h
  obtain ⟨h1, h2⟩ := Bool.or_eq_false_iff.1 h
  unfold L.wayD
  rw [h1, h2]; rfl
abbrev p_exit2_tr : Tr := { T := (L.Sq Int) × (L.Sq L.Pt) × (L.Sq Int), U := Nat, args := fun t => (fun l N b => [.p (.sl 1 l.n (fun i => [.int .i64 (l.g i)])), .p (.ref [(.sl 2 N.n (fun i => [.int .i64 ((N.g i).x), .int .i64 ((N.g i).y)]))] 0), .loc 1003 0]) t.1 t.2.1 t.2.2, own := fun t => (fun l N b => [(1003, .blk 26 [.full false 1 (b).n (fun i => [.int .i64 ((b).g i)])])]) t.1 t.2.1 t.2.2, pre := fun t => (fun l N b => 1 ≤ l.n ∧ l.n ≤ 1000 ∧ L.nrms N ∧ L.within0 l N.n) t.1 t.2.1 t.2.2, post := fun t u => (fun l N b => fun u => True) t.1 t.2.1 t.2.2 u, own' := fun t u => (fun l N b => fun u => [(1003, .blk 26 [.full false 1 (L.aft N l b).n (fun i => [.int .i64 ((L.aft N l b).g i)])])]) t.1 t.2.1 t.2.2 u, res := fun t u => (fun l N b => fun u => .p (.bool (L.wayOk (L.pck N l)))) t.1 t.2.1 t.2.2 u }
theorem p_exit2_vc (l : L.Sq Int) (N : L.Sq L.Pt) (b : L.Sq Int) (hp : p_exit2_tr.pre (l, N, b)) : vc Try.prog ({ muts := [8], frz := lookN [], specs := lookS [(27, p_way_S)], loops := lookL [(3, { T := Nat, keep := [0, 1, 2, 5, 10, 11], keepO := [1003], chg := fun i => [(12, .p (.int .i64 (i : Int)))], own := fun i => [(20, .row 25 2 i (fun j => [.int .i64 ((N.g (l.g j).toNat).x), .int .i64 ((N.g (l.g j).toNat).y)]))], inv := fun i => i ≤ l.n, mu := fun i => l.n - i })], iters := lookI [], rfs := lookR [], nils := lookM [(2, [(5, 20, 25, 2)])] }) (bodyOf Try.f29) (stTr Try.f29 (p_exit2_tr.args (l, N, b)) (p_exit2_tr.own (l, N, b))) (retTr Try.prog Try.f29 p_exit2_tr (l, N, b)) :=
  @Eq.mpr _ ((∃ (g : Nat), (0 : Int) = (↑g : Int) ∧ (nat_lit 0 = g ∧ ∀ (i : Nat), i < nat_lit 0 → [] = [SV.int .i64 (N.g (Int.toNat (l.g i))).x, SV.int .i64 (N.g (Int.toNat (l.g i))).y]) ∧ g ≤ l.n) ∧ ∀ (g : Nat), g ≤ l.n → (decide ((↑g : Int) < (↑l.n : Int)) = true → ((0 : Int) ≤ (↑g : Int) ∧ (↑g : Int) < (↑l.n : Int)) ∧ ((0 : Int) ≤ l.g (Int.toNat (↑g : Int)) ∧
 l.g (Int.toNat (↑g : Int)) < (↑N.n : Int)) ∧ (g + nat_lit 1) * nat_lit 16 ≤ (140737488355328 : Nat) ∧ InK .i64 ((↑g : Int) + (1 : Int)) ∧ ∃ (g' : Nat), (↑g : Int) + (1 : Int) = (↑g' : Int) ∧ (↑l.n : Int) = (↑l.n : Int) ∧ (l.n = l.n ∧ ∀ (i : Nat), i < l.n → [SV.int .i64 (l.g i)] = [SV.int .i64 (l.g i)]) ∧ (l.n = l.n ∧ ∀ (i : Nat), i < l.n →
 [SV.int .i64 (l.g i)] = [SV.int .i64 (l.g i)]) ∧ SV.ref [SV.sl (nat_lit 2) N.n fun (i : Nat) ↦ [SV.int .i64 (N.g i).x, SV.int .i64 (N.g i).y]] (nat_lit 0) = SV.ref [SV.sl (nat_lit 2) N.n fun (i : Nat) ↦ [SV.int .i64 (N.g i).x, SV.int .i64 (N.g i).y]] (nat_lit 0) ∧ nat_lit 0 =
 nat_lit 0 ∧ (g + nat_lit 1 = g' ∧ ∀ (i : Nat), i < g + nat_lit 1 → appGet g (fun (j : Nat) ↦ [SV.int .i64 (N.g (Int.toNat (l.g j))).x, SV.int .i64 (N.g (Int.toNat (l.g j))).y]) (fun (x : Nat) ↦ [SV.int .i64 (N.g (Int.toNat (l.g (Int.toNat (↑g : Int))))).x, SV.int .i64 (N.g (Int.toNat (l.g (Int.toNat (↑g : Int))))).y]) i =
 [SV.int .i64 (N.g (Int.toNat (l.g i))).x, SV.int .i64 (N.g (Int.toNat (l.g i))).y]) ∧ (b.n = b.n ∧ ∀ (i : Nat), i < b.n → [SV.int .i64 (b.g i)] = [SV.int .i64 (b.g i)]) ∧ g' ≤ l.n ∧ l.n - g' < l.n - g) ∧ (decide ((↑g : Int) < (↑l.n : Int)) = false → ((∀ (i : Nat), i < g → [SV.int .i64 (N.g (Int.toNat
 (l.g i))).x, SV.int .i64 (N.g (Int.toNat (l.g i))).y] = [SV.int .i64 (N.g (Int.toNat (l.g i))).x, SV.int .i64 (N.g (Int.toNat (l.g i))).y]) ∧ L.nrms (L.Sq.mk g fun (i : Nat) ↦ N.g (Int.toNat (l.g i)))) ∧ ((!L.wayOk (L.Sq.mk g fun (i : Nat) ↦ N.g (Int.toNat (l.g i)))) = true → ∃ (u : Nat), false = L.wayOk (L.pck N l) ∧ (l.n = (L.aft N l b).n
 ∧ (0 : Nat) < l.n ∧ ∀ (i : Nat), i < l.n → [SV.int .i64 (l.g i)] = [SV.int .i64 ((L.aft N l b).g i)]) ∧ True) ∧ ((!L.wayOk (L.Sq.mk g fun (i : Nat) ↦ N.g (Int.toNat (l.g i)))) = false → ∃ (u : Nat), true = L.wayOk (L.pck N l) ∧ (b.n = (L.aft N l b).n ∧ ∀ (i : Nat), i < b.n → [SV.int .i64 (b.g i)] = [SV.int .i64 ((L.aft N l
 b).g i)]) ∧ True))) (by kernel_rfl) (by
    have hp : 1 ≤ l.n ∧ l.n ≤ 1000 ∧ L.nrms N ∧ L.within0 l N.n := hp
    obtain ⟨h1, h2, hN, hw⟩ := hp
    refine ⟨⟨(0 : Nat), rfl, ⟨rfl, fun i hi => absurd hi (Nat.not_lt_zero _)⟩, Nat.zero_le _⟩, fun g hg => ⟨fun hlt => ?_, fun hge => ?_⟩⟩
    · have hb : (g : Int) < (l.n : Int) := of_decide_eq_true hlt
      have e0 : ((g : Int)).toNat = g := by omega
      have hx := hw g (by omega)
      rw [e0]
      refine ⟨⟨by omega, hb⟩, hx, show (g + 1) * 16 ≤ 140737488355328 by omega, InK.of (by omega) (by omega), g + 1, by omega, rfl, ⟨rfl, fun _ _ => rfl⟩, ⟨rfl, fun _ _ => rfl⟩, rfl, rfl, ⟨rfl, fun i hi => ?_⟩, ⟨rfl, fun _ _ => rfl⟩, by omega, by omega⟩
      have hi : i < g + 1 := hi
      unfold appGet
      by_cases h' : i < g
      · rw [if_pos h']
      · rw [if_neg h']
        obtain rfl : i = g := by omega
        rfl
    · have hb : ¬ (g : Int) < (l.n : Int) := of_decide_eq_false hge
      obtain rfl : g = l.n := by omega
      have e : (L.Sq.mk l.n fun (i : Nat) => N.g (l.g i).toNat) = L.pck N l := rfl
      rw [e]
      refine ⟨⟨fun _ _ => rfl, pick_nrms hN hw (by omega)⟩, fun hc => ?_, fun hc => ?_⟩
      · have hc : L.wayOk (L.pck N l) = false := by simpa using (show (!L.wayOk (L.pck N l)) = true from hc)
        unfold L.aft
        rw [hc]; exact ⟨(0 : Nat), rfl, ⟨rfl, h1, fun _ _ => rfl⟩, trivial⟩
      · have hc : L.wayOk (L.pck N l) = true := by simpa using (show (!L.wayOk (L.pck N l)) = false from hc)
        unfold L.aft
        rw [hc]; exact ⟨(0 : Nat), rfl, ⟨rfl, fun _ _ => rfl⟩, trivial⟩)
theorem p_exit2_en : Enters Try.prog 29 := fun args w => by kernel_rfl
theorem p_exit2_tok : TrOk Try.prog 29 p_exit2_tr := tr_ok (ks := [1003]) (n := 3) Try.func29 (c := bodyOf Try.f29) (by kernel_rfl) mixed ⟨fun t => rfl, fun t => rfl, fun t u => rfl, fun t u => rfl, fun t u => rfl, by kernel_rfl⟩ (fun ⟨l, N, b⟩ hp => ⟨_, p_exit2_vc l N b hp, ⟨show SpecsL Try.prog _ from (SpecsL.cons p_way_ok p_way_en SpecsL.nil), rfl, ⟨show ItersL Try.prog _ from ItersL.nil, (TrsOk.none (fun _ => rfl))⟩⟩⟩)
abbrev p_more_tr : Tr := { T := (L.Sq Int) × (Nat) × (Nat) × (L.Sq L.Pt) × (L.Sq Int), U := Nat, args := fun t => (fun l fr k N b => [.p (.sl 1 l.n (fun i => [.int .i64 (l.g i)])), .p (.int .i64 (fr : Int)), .p (.ref [.int .i64 (k : Int)] 0), .loc 1005 0, .p (.ref [.int .i64 (N.n : Int)] 0), .loc 1007 0]) t.1 t.2.1 t.2.2.1 t.2.2.2.1 t.2.2.2.2, own := fun t => (fun l fr k N b => [(1003, .blk 26 [.full false 1 (b).n (fun i => [.int .i64 ((b).g i)])]), (1005, .blk 60 [.cl 29 [.p (.ref [(.sl 2 N.n (fun i => [.int .i64 ((N.g i).x), .int .i64 ((N.g i).y)]))] 0), .loc 1003 0]]), (1007, .blk 77 [.cl 54 [.p (.ref [.int .i64 (k : Int)] 0), .loc 1005 0, .p (.ref [.int .i64 (N.n : Int)] 0), .loc 1007 0]])]) t.1 t.2.1 t.2.2.1 t.2.2.2.1 t.2.2.2.2, pre := fun t => (fun l fr k N b => (l.n ≤ k ∧ 1 ≤ k ∧ k ≤ 1000) ∧ (fr ≤ N.n ∧ N.n ≤ 1000) ∧ L.nrms N ∧ L.within0 l N.n) t.1 t.2.1 t.2.2.1 t.2.2.2.1 t.2.2.2.2, post := fun t u => (fun l fr k N b => fun u => True) t.1 t.2.1 t.2.2.1 t.2.2.2.1 t.2.2.2.2 u, own' := fun t u => (fun l fr k N b => fun u => [(1003, .blk 26 [.full false 1 (L.orB (L.grp N (k - l.n) l fr) b).n (fun i => [.int .i64 ((L.orB (L.grp N (k - l.n) l fr) b).g i)])]), (1005, .blk 60 [.cl 29 [.p (.ref [(.sl 2 N.n (fun i => [.int .i64 ((N.g i).x), .int .i64 ((N.g i).y)]))] 0), .loc 1003 0]]), (1007, .blk 77 [.cl 54 [.p (.ref [.int .i64 (k : Int)] 0), .loc 1005 0, .p (.ref [.int .i64 (N.n : Int)] 0), .loc 1007 0]])]) t.1 t.2.1 t.2.2.1 t.2.2.2.1 t.2.2.2.2 u, res := fun t u => (fun l fr k N b => fun u => .p (.bool (L.isNo (L.grp N (k - l.n) l fr)))) t.1 t.2.1 t.2.2.1 t.2.2.2.1 t.2.2.2.2 u }
abbrev p_more_mu : p_more_tr.T → Nat := fun t => (fun l fr k N b => k - l.n) t.1 t.2.1 t.2.2.1 t.2.2.2.1 t.2.2.2.2
theorem p_more_vc (rn : Nat) (l : L.Sq Int) (fr : Nat) (k : Nat) (N : L.Sq L.Pt) (b : L.Sq Int) (hp : p_more_tr.pre (l, fr, k, N, b)) (hmu : k - l.n < rn + 1) : vc Try.prog ({ muts := [], frz := lookN [], specs := lookS [], loops := lookL [(4, { T := Nat, keep := [0, 1, 2, 3, 4, 5, 8], keepO := [1003, 1005, 1007], chg := fun j => [(9, .p (.int .i64 ((fr + j : Nat) : Int)))], own := fun _ => [], inv := fun j => fr + j ≤ N.n ∧ ∀ c, c < j → L.isNo (L.grp N (k - l.n - 1) (L.snoc l ((fr + c : Nat) : Int)) (fr + c + 1)) = true, mu := fun j => N.n - (fr + j) })], iters := lookI [], rfs := lookR [], nils := lookM [], trs := lookT [(29, p_exit2_tr), (54, Tr.lt p_more_tr p_more_mu rn)], ren := fun k => k }) (bodyOf Try.f54) (stTr Try.f54 (p_more_tr.args (l, fr, k, N, b)) (p_more_tr.own (l, fr, k, N, b))) (retTr Try.prog Try.f54 p_more_tr (l, fr, k, N, b)) :=
  @Eq.mpr _ ((decide ((↑l.n : Int) = (↑k : Int)) = true → ∃ (t : L.Sq Int × L.Sq L.Pt × L.Sq Int), (l.n = t.1.n ∧ ∀ (i : Nat), i < l.n → [SV.int .i64 (l.g i)] = [SV.int .i64 (t.1.g i)]) ∧ SV.ref [SV.sl (nat_lit 2) N.n fun (i : Nat) ↦ [SV.int .i64 (N.g i).x, SV.int .i64 (N.g i).y]] (nat_lit 0) = SV.ref [SV.sl
 (2 : Nat) t.2.1.n fun (i : Nat) ↦ [SV.int .i64 (t.2.1.g i).x, SV.int .i64 (t.2.1.g i).y]] (0 : Nat) ∧ nat_lit 0 = (0 : Nat) ∧ (b.n = t.2.2.n ∧ ∀ (i : Nat), i < b.n → [SV.int .i64 (b.g i)] = [SV.int .i64 (t.2.2.g i)]) ∧ ((1 : Nat) ≤ t.1.n ∧ t.1.n ≤ (1000 : Nat) ∧ L.nrms t.2.1 ∧ L.within0 t.1 t.2.1.n) ∧ ∀ (u : Nat), True → ∃ (u : Nat),
 L.wayOk (L.pck t.2.1 t.1) = L.isNo (L.grp N (k - l.n) l fr) ∧ ((L.aft t.2.1 t.1 t.2.2).n = (L.orB (L.grp N (k - l.n) l fr) b).n ∧ ∀ (i : Nat), i < (L.aft t.2.1 t.1 t.2.2).n → [SV.int .i64 ((L.aft t.2.1 t.1 t.2.2).g i)] = [SV.int .i64 ((L.orB (L.grp N (k - l.n) l fr) b).g i)]) ∧ EV.cl (nat_lit 29) [EV.p (SV.ref [SV.sl (nat_lit 2) N.n fun (i :
 Nat) ↦ [SV.int .i64 (N.g i).x, SV.int .i64 (N.g i).y]] (nat_lit 0)), EV.loc (nat_lit 1003) (nat_lit 0)] = EV.cl (29 : Nat) [EV.p (SV.ref [SV.sl (2 : Nat) N.n fun (i : Nat) ↦ [SV.int .i64 (N.g i).x, SV.int .i64 (N.g i).y]] (0 : Nat)), EV.loc (1003 : Nat) (0 : Nat)] ∧ EV.cl (nat_lit 54)
 [EV.p (SV.ref [SV.int .i64 (↑k : Int)] (nat_lit 0)), EV.loc (nat_lit 1005) (nat_lit 0), EV.p (SV.ref [SV.int .i64 (↑N.n : Int)] (nat_lit 0)), EV.loc (nat_lit 1007) (nat_lit 0)] = EV.cl (54 : Nat) [EV.p (SV.ref [SV.int .i64 (↑k : Int)] (0 : Nat)), EV.loc (1005 : Nat) (0 : Nat), EV.p
 (SV.ref [SV.int .i64 (↑N.n : Int)] (0 : Nat)), EV.loc (1007 : Nat) (0 : Nat)] ∧ True) ∧ (decide ((↑l.n : Int) = (↑k : Int)) = false → (∃ (g : Nat), (↑fr : Int) = (↑(fr + g) : Int) ∧ fr + g ≤ N.n ∧ ∀ (c : Nat), c < g → L.isNo (L.grp N (k - l.n - (1 : Nat)) (L.snoc l (↑(fr + c) : Int)) (fr + c + (1 : Nat))) = true) ∧ ∀ (g : Nat), (fr + g ≤ N.n ∧ ∀ (c :
 Nat), c < g → L.isNo (L.grp N (k - l.n - (1 : Nat)) (L.snoc l (↑(fr + c) : Int)) (fr + c + (1 : Nat))) = true) → (decide ((↑(fr + g) : Int) < (↑N.n : Int)) = true → ((0 : Int) ≤ (↑l.n : Int) ∧ (↑l.n : Int) ≤ (↑l.n : Int) ∧ (↑l.n : Int) = (↑l.n : Int)) ∧ ((0 : Nat) < (1 : Nat) ∧ (Int.toNat (↑l.n : Int) + (1 : Nat)) * nat_lit 8 ≤ (140737488355328 : Nat)) ∧ InK
 .i64 ((↑(fr + g) : Int) + (1 : Int)) ∧ ∃ (t : L.Sq Int × Nat × Nat × L.Sq L.Pt × L.Sq Int), (Int.toNat (↑l.n : Int) + (1 : Nat) = t.1.n ∧ ∀ (i : Nat), i < Int.toNat (↑l.n : Int) + (1 : Nat) → appGet (Int.toNat (↑l.n : Int)) (fun (i : Nat) ↦ [SV.int .i64 (l.g i)]) (fun (x : Nat) ↦ [SV.int .i64 (↑(fr + g) : Int)]) i = [SV.int .i64
 (t.1.g i)]) ∧ (↑(fr + g) : Int) + (1 : Int) = (↑t.2.1 : Int) ∧ SV.ref [SV.int .i64 (↑k : Int)] (nat_lit 0) = SV.ref [SV.int .i64 (↑t.snd.2.1 : Int)] (0 : Nat) ∧ nat_lit 0 = (0 : Nat) ∧ SV.ref [SV.int .i64 (↑N.n : Int)] (nat_lit 0) = SV.ref [SV.int .i64 (↑t.snd.snd.2.1.n : Int)] (0 : Nat) ∧ nat_lit 0 = (0 : Nat)
 ∧ (b.n = t.snd.snd.2.2.n ∧ ∀ (i : Nat), i < b.n → [SV.int .i64 (b.g i)] = [SV.int .i64 (t.snd.snd.2.2.g i)]) ∧ EV.cl (nat_lit 29) [EV.p (SV.ref [SV.sl (nat_lit 2) N.n fun (i : Nat) ↦ [SV.int .i64 (N.g i).x, SV.int .i64 (N.g i).y]] (nat_lit 0)), EV.loc (nat_lit 1003) (nat_lit 0)] = EV.cl (29 : Nat)
 [EV.p (SV.ref [SV.sl (nat_lit 2) t.snd.snd.2.1.n fun (i : Nat) ↦ [SV.int .i64 (t.snd.snd.2.1.g i).x, SV.int .i64 (t.snd.snd.2.1.g i).y]] (nat_lit 0)), EV.loc (nat_lit 1003) (nat_lit 0)] ∧ EV.cl (nat_lit 54) [EV.p (SV.ref [SV.int .i64 (↑k : Int)] (nat_lit 0)), EV.loc (nat_lit 1005) (nat_lit 0),
 EV.p (SV.ref [SV.int .i64 (↑N.n : Int)] (nat_lit 0)), EV.loc (nat_lit 1007) (nat_lit 0)] = EV.cl (54 : Nat) [EV.p (SV.ref [SV.int .i64 (↑t.snd.2.1 : Int)] (nat_lit 0)), EV.loc (nat_lit 1005) (nat_lit 0), EV.p (SV.ref [SV.int .i64 (↑t.snd.snd.2.1.n : Int)] (nat_lit 0)), EV.loc (nat_lit 1007)
 (nat_lit 0)] ∧ (((t.1.n ≤ t.snd.2.1 ∧ (1 : Nat) ≤ t.snd.2.1 ∧ t.snd.2.1 ≤ (1000 : Nat)) ∧ (t.2.1 ≤ t.snd.snd.2.1.n ∧ t.snd.snd.2.1.n ≤ (1000 : Nat)) ∧ L.nrms t.snd.snd.2.1 ∧ L.within0 t.1 t.snd.snd.2.1.n) ∧ t.snd.2.1 - t.1.n < rn) ∧ ∀ (u : Nat), True → ((!L.isNo (L.grp t.snd.snd.2.1 (t.snd.2.1 - t.1.n) t.1 t.2.1)) = true → ∃ (u : Nat), false = L.isNo (L.grp N (k - l.n) l fr) ∧ ((L.orB
 (L.grp t.snd.snd.2.1 (t.snd.2.1 - t.1.n) t.1 t.2.1) t.snd.snd.2.2).n = (L.orB (L.grp N (k - l.n) l fr) b).n ∧ ∀ (i : Nat), i < (L.orB (L.grp t.snd.snd.2.1 (t.snd.2.1 - t.1.n) t.1 t.2.1) t.snd.snd.2.2).n → [SV.int .i64 ((L.orB (L.grp t.snd.snd.2.1 (t.snd.2.1 - t.1.n) t.1 t.2.1) t.snd.snd.2.2).g i)] = [SV.int .i64 ((L.orB (L.grp N (k - l.n) l fr) b).g i)]) ∧
 EV.cl (nat_lit 29) [EV.p (SV.ref [SV.sl (nat_lit 2) t.snd.snd.2.1.n fun (i : Nat) ↦ [SV.int .i64 (t.snd.snd.2.1.g i).x, SV.int .i64 (t.snd.snd.2.1.g i).y]] (nat_lit 0)), EV.loc (1003 : Nat) (nat_lit 0)] = EV.cl (29 : Nat) [EV.p (SV.ref [SV.sl (2 : Nat) N.n fun (i : Nat) ↦ [SV.int .i64 (N.g i).x,
 SV.int .i64 (N.g i).y]] (0 : Nat)), EV.loc (1003 : Nat) (0 : Nat)] ∧ EV.cl (nat_lit 54) [EV.p (SV.ref [SV.int .i64 (↑t.snd.2.1 : Int)] (nat_lit 0)), EV.loc (1005 : Nat) (nat_lit 0), EV.p (SV.ref [SV.int .i64 (↑t.snd.snd.2.1.n : Int)] (nat_lit 0)), EV.loc (1007 : Nat) (nat_lit 0)] = EV.cl (54 :
 Nat) [EV.p (SV.ref [SV.int .i64 (↑k : Int)] (0 : Nat)), EV.loc (1005 : Nat) (0 : Nat), EV.p (SV.ref [SV.int .i64 (↑N.n : Int)] (0 : Nat)), EV.loc (1007 : Nat) (0 : Nat)] ∧ True) ∧ ((!L.isNo (L.grp t.snd.snd.2.1 (t.snd.2.1 - t.1.n) t.1 t.2.1)) = false → InK .i64 ((↑(fr + g) : Int) + (1 : Int)) ∧ ∃ (g' : Nat),
 (↑(fr + g) : Int) + (1 : Int) = (↑(fr + g') : Int) ∧ false = false ∧ (l.n = l.n ∧ ∀ (i : Nat), i < l.n → [SV.int .i64 (l.g i)] = [SV.int .i64 (l.g i)]) ∧ (↑fr : Int) = (↑fr : Int) ∧ SV.ref [SV.int .i64 (↑k : Int)] (nat_lit 0) = SV.ref [SV.int .i64 (↑k : Int)] (nat_lit 0) ∧ nat_lit 0 = nat_lit 0 ∧ SV.ref
 [SV.int .i64 (↑N.n : Int)] (nat_lit 0) = SV.ref [SV.int .i64 (↑N.n : Int)] (nat_lit 0) ∧ nat_lit 0 = nat_lit 0 ∧ ((L.orB (L.grp t.snd.snd.2.1 (t.snd.2.1 - t.1.n) t.1 t.2.1) t.snd.snd.2.2).n = b.n ∧ ∀ (i : Nat), i < (L.orB (L.grp t.snd.snd.2.1 (t.snd.2.1 - t.1.n) t.1 t.2.1) t.snd.snd.2.2).n → [SV.int .i64 ((L.orB (L.grp t.snd.snd.2.1 (t.snd.2.1
 - t.1.n) t.1 t.2.1) t.snd.snd.2.2).g i)] = [SV.int .i64 (b.g i)]) ∧ EV.cl (nat_lit 29) [EV.p (SV.ref [SV.sl (nat_lit 2) t.snd.snd.2.1.n fun (i : Nat) ↦ [SV.int .i64 (t.snd.snd.2.1.g i).x, SV.int .i64 (t.snd.snd.2.1.g i).y]] (nat_lit 0)), EV.loc (1003 : Nat) (nat_lit 0)] = EV.cl (nat_lit 29) [EV.p
 (SV.ref [SV.sl (nat_lit 2) N.n fun (i : Nat) ↦ [SV.int .i64 (N.g i).x, SV.int .i64 (N.g i).y]] (nat_lit 0)), EV.loc (nat_lit 1003) (nat_lit 0)] ∧ EV.cl (nat_lit 54) [EV.p (SV.ref [SV.int .i64 (↑t.snd.2.1 : Int)] (nat_lit 0)), EV.loc (1005 : Nat) (nat_lit 0), EV.p (SV.ref [SV.int
 .i64 (↑t.snd.snd.2.1.n : Int)] (nat_lit 0)), EV.loc (1007 : Nat) (nat_lit 0)] = EV.cl (nat_lit 54) [EV.p (SV.ref [SV.int .i64 (↑k : Int)] (nat_lit 0)), EV.loc (nat_lit 1005) (nat_lit 0), EV.p (SV.ref [SV.int .i64 (↑N.n : Int)] (nat_lit 0)), EV.loc (nat_lit 1007) (nat_lit 0)] ∧ (fr + g' ≤ N.n ∧ ∀ (c : Nat), c
 < g' → L.isNo (L.grp N (k - l.n - (1 : Nat)) (L.snoc l (↑(fr + c) : Int)) (fr + c + (1 : Nat))) = true) ∧ N.n - (fr + g') < N.n - (fr + g))) ∧ (decide ((↑(fr + g) : Int) < (↑N.n : Int)) = false → ∃ (u : Nat), true = L.isNo (L.grp N (k - l.n) l fr) ∧ (b.n = (L.orB (L.grp N (k - l.n) l fr) b).n ∧ ∀ (i : Nat), i < b.n → [SV.int .i64 (b.g i)] = [SV.int
 .i64 ((L.orB (L.grp N (k - l.n) l fr) b).g i)]) ∧ EV.cl (nat_lit 29) [EV.p (SV.ref [SV.sl (nat_lit 2) N.n fun (i : Nat) ↦ [SV.int .i64 (N.g i).x, SV.int .i64 (N.g i).y]] (nat_lit 0)), EV.loc (nat_lit 1003) (nat_lit 0)] = EV.cl (29 : Nat) [EV.p (SV.ref [SV.sl (2 : Nat) N.n fun (i : Nat) ↦ [SV.int
 .i64 (N.g i).x, SV.int .i64 (N.g i).y]] (0 : Nat)), EV.loc (1003 : Nat) (0 : Nat)] ∧ EV.cl (nat_lit 54) [EV.p (SV.ref [SV.int .i64 (↑k : Int)] (nat_lit 0)), EV.loc (nat_lit 1005) (nat_lit 0), EV.p (SV.ref [SV.int .i64 (↑N.n : Int)] (nat_lit 0)), EV.loc (nat_lit 1007) (nat_lit 0)] = EV.cl
 (54 : Nat) [EV.p (SV.ref [SV.int .i64 (↑k : Int)] (0 : Nat)), EV.loc (1005 : Nat) (0 : Nat), EV.p (SV.ref [SV.int .i64 (↑N.n : Int)] (0 : Nat)), EV.loc (1007 : Nat) (0 : Nat)] ∧ True))) (by kernel_rfl) (by
    have hp : (l.n ≤ k ∧ 1 ≤ k ∧ k ≤ 1000) ∧ (fr ≤ N.n ∧ N.n ≤ 1000) ∧ L.nrms N ∧ L.within0 l N.n := hp
    obtain ⟨⟨k1, k2, k3⟩, ⟨f1, f2⟩, hN, hw⟩ := hp
    have hmu : k - l.n < rn + 1 := hmu
    refine ⟨fun he => ?_, fun hne => ?_⟩
    · have he : ((l.n : Nat) : Int) = (k : Int) := of_decide_eq_true he
      have e0 : k - l.n = 0 := by omega
      have hR : L.isNo (L.grp N (k - l.n) l fr) = L.wayOk (L.pck N l) := by
        rw [e0, L.grp]; cases L.wayOk (L.pck N l) <;> rfl
      have hA : L.orB (L.grp N (k - l.n) l fr) b = L.aft N l b := by
        rw [e0, L.grp]; unfold L.aft; cases L.wayOk (L.pck N l) <;> rfl
      rw [hR, hA]
      exact ⟨(l, N, b), ⟨rfl, fun _ _ => rfl⟩, rfl, rfl, ⟨rfl, fun _ _ => rfl⟩, ⟨by show 1 ≤ l.n; omega, by show l.n ≤ 1000; omega, hN, hw⟩, fun u _ => ⟨(0 : Nat), rfl, ⟨rfl, fun _ _ => rfl⟩, rfl, rfl, trivial⟩⟩
    · have hne : ¬ ((l.n : Nat) : Int) = (k : Int) := of_decide_eq_false hne
      have hG : L.grp N (k - l.n) l fr = L.first (fun j => L.grp N (k - l.n - 1) (L.snoc l ((fr + j : Nat) : Int)) (fr + j + 1)) (N.n - fr) := by
        obtain ⟨d, hd⟩ : ∃ d, k - l.n = d + 1 := ⟨k - l.n - 1, by omega⟩
        rw [hd]; rfl
      rw [hG]
      refine ⟨⟨(0 : Nat), rfl, f1, fun c hc => absurd hc (Nat.not_lt_zero _)⟩, fun g hg => ⟨fun hlt => ?_, fun hge => ?_⟩⟩
      · obtain ⟨g1, g2⟩ := hg
        have hb : ((fr + g : Nat) : Int) < (N.n : Int) := of_decide_eq_true hlt
        have e1 : ((l.n : Nat) : Int).toNat = l.n := by omega
        have none : ∀ c, c < g → L.grp N (k - l.n - 1) (L.snoc l ((fr + c : Nat) : Int)) (fr + c + 1) = none := fun c hc => isNo_none (g2 c hc)
        rw [e1]
        refine ⟨⟨by omega, by omega, rfl⟩, ⟨by decide, show (l.n + 1) * 8 ≤ 140737488355328 by omega⟩, InK.of (by omega) (by omega), (L.snoc l ((fr + g : Nat) : Int), fr + g + 1, k, N, b), ⟨rfl, fun i hi => ?_⟩, by show ((fr + g : Nat) : Int) + 1 = ((fr + g + 1 : Nat) : Int); omega, rfl, rfl, rfl, rfl, ⟨rfl, fun _ _ => rfl⟩, rfl, rfl, ⟨⟨⟨by show l.n + 1 ≤ k; omega, k2, k3⟩, ⟨by show fr + g + 1 ≤ N.n; omega, f2⟩, hN, snoc_within hw (by omega) hb⟩, by show k - (l.n + 1) < rn; omega⟩, fun u _ => ?_⟩
        · have hi : i < l.n + 1 := hi
          show appGet l.n _ _ i = [SV.int .i64 (bif decide (i < l.n) then l.g i else ((fr + g : Nat) : Int))]
          unfold appGet
          by_cases h' : i < l.n
          · rw [if_pos h', decide_eq_true h']; rfl
          · rw [if_neg h', decide_eq_false h']; rfl
        · have hF : L.grp N (k - (L.snoc l ((fr + g : Nat) : Int)).n) (L.snoc l ((fr + g : Nat) : Int)) (fr + g + 1) = L.grp N (k - l.n - 1) (L.snoc l ((fr + g : Nat) : Int)) (fr + g + 1) := rfl
          dsimp only
          rw [hF]
          refine ⟨fun hc => ?_, fun hc => ?_⟩
          · have hc : L.isNo (L.grp N (k - l.n - 1) (L.snoc l ((fr + g : Nat) : Int)) (fr + g + 1)) = false := by simpa using (show (!L.isNo (L.grp N (k - l.n - 1) (L.snoc l ((fr + g : Nat) : Int)) (fr + g + 1))) = true from hc)
            obtain ⟨x, hx⟩ := isNo_some hc
            have hf := first_at (f := fun j => L.grp N (k - l.n - 1) (L.snoc l ((fr + j : Nat) : Int)) (fr + j + 1)) none hx (c := N.n - fr) (by omega)
            rw [hf, hx]
            exact ⟨(0 : Nat), rfl, ⟨rfl, fun _ _ => rfl⟩, rfl, rfl, trivial⟩
          · have hc : L.isNo (L.grp N (k - l.n - 1) (L.snoc l ((fr + g : Nat) : Int)) (fr + g + 1)) = true := by simpa using (show (!L.isNo (L.grp N (k - l.n - 1) (L.snoc l ((fr + g : Nat) : Int)) (fr + g + 1))) = false from hc)
            have hx := isNo_none hc
            rw [hx]
            refine ⟨InK.of (by omega) (by omega), g + 1, by omega, rfl, ⟨rfl, fun _ _ => rfl⟩, rfl, rfl, rfl, rfl, rfl, ⟨rfl, fun _ _ => rfl⟩, rfl, rfl, ⟨by omega, fun c hcc => ?_⟩, by omega⟩
            rcases Nat.lt_succ_iff_lt_or_eq.1 hcc with h | rfl
            · exact g2 c h
            · exact hc
      · obtain ⟨g1, g2⟩ := hg
        have hb : ¬ ((fr + g : Nat) : Int) < (N.n : Int) := of_decide_eq_false hge
        have hf : L.first (fun j => L.grp N (k - l.n - 1) (L.snoc l ((fr + j : Nat) : Int)) (fr + j + 1)) (N.n - fr) = none := first_none (fun j hj => isNo_none (g2 j (by omega)))
        rw [hf]
        exact ⟨(0 : Nat), rfl, ⟨rfl, fun _ _ => rfl⟩, rfl, rfl, trivial⟩)
theorem p_more_en : Enters Try.prog 54 := fun args w => by kernel_rfl
theorem p_more_tok : TrOk Try.prog 54 p_more_tr := tr_rec p_more_mu (fun t u => rfl) (fun rn ih => tr_ok (ks := [1003, 1005, 1007]) (n := 6) Try.func54 (c := bodyOf Try.f54) (by kernel_rfl) mixed ⟨fun t => rfl, fun t => rfl, fun t u => rfl, fun t u => rfl, fun t u => rfl, by kernel_rfl⟩ (fun ⟨l, fr, k, N, b⟩ hp => ⟨_, p_more_vc rn l fr k N b hp.1 hp.2, ⟨show SpecsL Try.prog _ from SpecsL.nil, rfl, ⟨show ItersL Try.prog _ from ItersL.nil, (show TrsL Try.prog _ from (TrsL.cons p_exit2_tok p_exit2_en (TrsL.cons ih p_more_en TrsL.nil)))⟩⟩⟩))
abbrev p_groups_tr : Tr := { T := (Nat) × (L.Sq L.Pt) × (L.Sq Int), U := Nat, args := fun t => (fun k N b => [.p (.int .i64 (N.n : Int)), .p (.int .i64 (k : Int)), .cl 29 [.p (.ref [(.sl 2 N.n (fun i => [.int .i64 ((N.g i).x), .int .i64 ((N.g i).y)]))] 0), .loc 1003 0]]) t.1 t.2.1 t.2.2, own := fun t => (fun k N b => [(1003, .blk 26 [.full false 1 (b).n (fun i => [.int .i64 ((b).g i)])])]) t.1 t.2.1 t.2.2, pre := fun t => (fun k N b => (1 ≤ k ∧ k ≤ 1000) ∧ N.n ≤ 1000 ∧ L.nrms N) t.1 t.2.1 t.2.2, post := fun t u => (fun k N b => fun u => True) t.1 t.2.1 t.2.2 u, own' := fun t u => (fun k N b => fun u => [(1003, .blk 26 [.full false 1 (L.orB (L.grp N k L.nilI 0) b).n (fun i => [.int .i64 ((L.orB (L.grp N k L.nilI 0) b).g i)])])]) t.1 t.2.1 t.2.2 u, res := fun t u => (fun k N b => fun u => .p (.bool (L.isNo (L.grp N k L.nilI 0)))) t.1 t.2.1 t.2.2 u }
theorem p_groups_vc (k : Nat) (N : L.Sq L.Pt) (b : L.Sq Int) (hp : p_groups_tr.pre (k, N, b)) : vc Try.prog ({ muts := [5, 7], frz := lookN [], specs := lookS [], loops := lookL [], iters := lookI [], rfs := lookR [], nils := lookM [], trs := lookT [(54, p_more_tr)], ren := fun k => bif k == 1003 then 1003 else k - 1000 }) (bodyOf Try.f28) (stTr Try.f28 (p_groups_tr.args (k, N, b)) (p_groups_tr.own (k, N, b))) (retTr Try.prog Try.f28 p_groups_tr (k, N, b)) :=
  @Eq.mpr _ (∃ (t : L.Sq Int × Nat × Nat × L.Sq L.Pt × L.Sq Int), t.1.n = (0 : Nat) ∧ (0 : Int) = (↑t.2.1 : Int) ∧ SV.ref [SV.int .i64 (↑k : Int)] (nat_lit 0) = SV.ref [SV.int .i64 (↑t.snd.2.1 : Int)] (0 : Nat) ∧ nat_lit 0 = (0 : Nat) ∧ SV.ref [SV.int .i64 (↑N.n : Int)] (nat_lit 0) = SV.ref [SV.int .i64 (↑t.snd.snd.2.1.n :
 Int)] (0 : Nat) ∧ nat_lit 0 = (0 : Nat) ∧ (b.n = t.snd.snd.2.2.n ∧ ∀ (i : Nat), i < b.n → [SV.int .i64 (b.g i)] = [SV.int .i64 (t.snd.snd.2.2.g i)]) ∧ EV.cl (nat_lit 29) [EV.p (SV.ref [SV.sl (nat_lit 2) N.n fun (i : Nat) ↦ [SV.int .i64 (N.g i).x, SV.int .i64 (N.g i).y]] (nat_lit 0)), EV.loc (nat_lit 1003)
 (nat_lit 0)] = EV.cl (29 : Nat) [EV.p (SV.ref [SV.sl (nat_lit 2) t.snd.snd.2.1.n fun (i : Nat) ↦ [SV.int .i64 (t.snd.snd.2.1.g i).x, SV.int .i64 (t.snd.snd.2.1.g i).y]] (nat_lit 0)), EV.loc (bif nat_lit 1003 == (1003 : Nat) then (1003 : Nat) else nat_lit 1003 - (1000 : Nat)) (nat_lit 0)] ∧ EV.cl (nat_lit 54) [EV.p
 (SV.ref [SV.int .i64 (↑k : Int)] (nat_lit 0)), EV.loc (nat_lit 5) (nat_lit 0), EV.p (SV.ref [SV.int .i64 (↑N.n : Int)] (nat_lit 0)), EV.loc (nat_lit 7) (nat_lit 0)] = EV.cl (54 : Nat) [EV.p (SV.ref [SV.int .i64 (↑t.snd.2.1 : Int)] (nat_lit 0)), EV.loc (bif nat_lit 1005 == (1003 : Nat) then (1003 :
 Nat) else nat_lit 1005 - (1000 : Nat)) (nat_lit 0), EV.p (SV.ref [SV.int .i64 (↑t.snd.snd.2.1.n : Int)] (nat_lit 0)), EV.loc (bif nat_lit 1007 == (1003 : Nat) then (1003 : Nat) else nat_lit 1007 - (1000 : Nat)) (nat_lit 0)] ∧ ((t.1.n ≤ t.snd.2.1 ∧ (1 : Nat) ≤ t.snd.2.1 ∧ t.snd.2.1 ≤ (1000 : Nat)) ∧ (t.2.1 ≤ t.snd.snd.2.1.n ∧ t.snd.snd.2.1.n ≤ (1000 : Nat)) ∧
 L.nrms t.snd.snd.2.1 ∧ L.within0 t.1 t.snd.snd.2.1.n) ∧ ∀ (u : Nat), True → ∃ (u : Nat), L.isNo (L.grp t.snd.snd.2.1 (t.snd.2.1 - t.1.n) t.1 t.2.1) = L.isNo (L.grp N k L.nilI (0 : Nat)) ∧ ((L.orB (L.grp t.snd.snd.2.1 (t.snd.2.1 - t.1.n) t.1 t.2.1) t.snd.snd.2.2).n = (L.orB (L.grp N k L.nilI (0 : Nat)) b).n ∧ ∀ (i : Nat), i < (L.orB (L.grp t.snd.snd.2.1 (t.snd.2.1 - t.1.n) t.1 t.2.1)
 t.snd.snd.2.2).n → [SV.int .i64 ((L.orB (L.grp t.snd.snd.2.1 (t.snd.2.1 - t.1.n) t.1 t.2.1) t.snd.snd.2.2).g i)] = [SV.int .i64 ((L.orB (L.grp N k L.nilI (0 : Nat)) b).g i)]) ∧ True) (by kernel_rfl) (by
    have hp : (1 ≤ k ∧ k ≤ 1000) ∧ N.n ≤ 1000 ∧ L.nrms N := hp
    obtain ⟨⟨k1, k2⟩, hn, hN⟩ := hp
    exact ⟨(L.nilI, 0, k, N, b), rfl, rfl, rfl, rfl, rfl, rfl, ⟨rfl, fun _ _ => rfl⟩, rfl, rfl, ⟨⟨Nat.zero_le _, k1, k2⟩, ⟨Nat.zero_le _, hn⟩, hN, fun i hi => absurd hi (Nat.not_lt_zero _)⟩, fun u _ => ⟨(0 : Nat), rfl, ⟨rfl, fun _ _ => rfl⟩, trivial⟩⟩)
theorem p_groups_en : Enters Try.prog 28 := fun args w => by kernel_rfl
theorem p_groups_tok : TrOk Try.prog 28 p_groups_tr := tr_ok (ks := [1003]) (n := 3) Try.func28 (c := bodyOf Try.f28) (by kernel_rfl) mixed ⟨fun t => rfl, fun t => rfl, fun t u => rfl, fun t u => rfl, fun t u => rfl, by kernel_rfl⟩ (fun ⟨k, N, b⟩ hp => ⟨_, p_groups_vc k N b hp, ⟨show SpecsL Try.prog _ from SpecsL.nil, rfl, ⟨show ItersL Try.prog _ from ItersL.nil, (show TrsL Try.prog _ from (TrsL.cons p_more_tok p_more_en TrsL.nil))⟩⟩⟩)
def p_Exit_p (l : (L.Sq L.Pt)) : Prop := l.n ≤ 9223372036854775807 ∧ (L.exBad l = false → L.wayOk l = false → L.isNo (L.first (L.exF l) 22) = false)
def p_Exit_r (l : (L.Sq L.Pt)) : SV := .tup [.agg [.int .i64 (L.exD l).x, .int .i64 (L.exD l).y], .sl 1 (L.exN l) (fun i => [.int .i64 ((L.exL l).g i)]), .int .i64 (L.exE l)]
def p_Exit_s : List EV → Option (Prop × SV)
  | [.p (.sl 2 l_n l_g)] => some ((∀ i, i < l_n → l_g i = [.int .i64 ((ofPt (l_g i)).x), .int .i64 ((ofPt (l_g i)).y)]) ∧ p_Exit_p (⟨l_n, fun i => ofPt (l_g i)⟩ : (L.Sq L.Pt)), p_Exit_r (⟨l_n, fun i => ofPt (l_g i)⟩ : (L.Sq L.Pt)))
  | _ => none
abbrev p_Exit_S : SE.Spec := (specO p_Exit_s)
def p_Exit_C : Cfg := { muts := [2, 3, 6], frz := lookN [], specs := lookS [(26, s_conFP_S), (24, p_bad_S), (27, p_way_S)], loops := fun _ => none, iters := lookI [], rfs := lookR [], nils := lookM [], anys := [11], trs := lookT [(28, p_groups_tr)], ren := fun k => k - 1000 }
theorem p_Exit_vc (l : (L.Sq L.Pt)) (hp : p_Exit_p l) : vc Try.prog ({ p_Exit_C with loops := lookL [(8, { T := Nat, keep := [1, 2, 3], keepO := [2], chg := fun j => [(8, .p (.int .i64 ((3 + j : Nat) : Int)))], own := fun j => [(3, .blk 26 [.full false 1 (L.orB (L.first (L.exF l) j) L.nilI).n (fun i => [.int .i64 ((L.orB (L.first (L.exF l) j) L.nilI).g i)])])], inv := fun j => j ≤ 22, mu := fun j => 23 - j })], rfs := lookR [] }) (bodyOf Try.f8) (st0 Try.f8 [.p (.sl 2 l.n (fun i => [.int .i64 ((l.g i).x), .int .i64 ((l.g i).y)]))]) (retFn Try.prog Try.f8 (p_Exit_r l)) :=
  @Eq.mpr _ (((!decide ((24 : Int) < (↑l.n : Int))) = true → (∀ (i : Nat), i < l.n → [SV.int .i64 (l.g i).x, SV.int .i64 (l.g i).y] = [SV.int .i64 (l.g i).x, SV.int .i64 (l.g i).y]) ∧ isB (FSpec.mk (fun («as» : List SV) ↦ preO p_bad_s (List.map EV.p «as» ++ List.map EV.p [])) fun («as» : List
 SV) ↦ resO p_bad_s (List.map EV.p «as» ++ List.map EV.p [])) ∧ l.n ≤ (1000000 : Nat) ∧ ∀ (i : Nat), i < l.n → True) ∧ ((bif decide ((24 : Int) < (↑l.n : Int)) then true else L.anyB l.n fun (i : Nat) ↦ L.fbl (FSpec.mk (fun («as» : List SV) ↦ preO p_bad_s (List.map EV.p «as» ++ List.map EV.p [])) fun («as» : List SV) ↦
 resO p_bad_s (List.map EV.p «as» ++ List.map EV.p [])) [SV.agg [SV.int .i64 (l.g i).x, SV.int .i64 (l.g i).y]]) = true → SV.agg [SV.int .i64 (0 : Int), SV.int .i64 (0 : Int)] = SV.agg [SV.int .i64 (L.exD l).x, SV.int .i64 (L.exD l).y] ∧ L.exN l = (0 : Nat) ∧ (1 :
 Int) = L.exE l) ∧ ((bif decide ((24 : Int) < (↑l.n : Int)) then true else L.anyB l.n fun (i : Nat) ↦ L.fbl (FSpec.mk (fun («as» : List SV) ↦ preO p_bad_s (List.map EV.p «as» ++ List.map EV.p [])) fun («as» : List SV) ↦ resO p_bad_s (List.map EV.p «as» ++ List.map EV.p [])) [SV.agg [SV.int .i64 (l.g i).x,
 SV.int .i64 (l.g i).y]]) = false → ((∀ (i : Nat), i < l.n → [SV.int .i64 (l.g i).x, SV.int .i64 (l.g i).y] = [SV.int .i64 (l.g i).x, SV.int .i64 (l.g i).y]) ∧ L.nrms (L.Sq.mk l.n fun (i : Nat) ↦ l.g i)) ∧ (L.wayOk (L.Sq.mk l.n fun (i : Nat) ↦ l.g i) = true → SV.agg [SV.int .i64 (L.wayD
 (L.Sq.mk l.n fun (i : Nat) ↦ l.g i)).x, SV.int .i64 (L.wayD (L.Sq.mk l.n fun (i : Nat) ↦ l.g i)).y] = SV.agg [SV.int .i64 (L.exD l).x, SV.int .i64 (L.exD l).y] ∧ L.exN l = (0 : Nat) ∧ (0 : Int) = L.exE l) ∧ (L.wayOk (L.Sq.mk l.n fun (i : Nat) ↦ l.g i) = false → (∃ (g : Nat), (3 : Int) = (↑((3 : Nat) + g) : Int) ∧ (L.orB (L.first (L.exF l)
 g) L.nilI).n = (0 : Nat) ∧ g ≤ (22 : Nat)) ∧ ∀ (g : Nat), g ≤ (22 : Nat) → ((bif false then !decide ((L.orB (L.first (L.exF l) g) L.nilI).n = (0 : Nat)) else decide ((L.orB (L.first (L.exF l) g) L.nilI).n = (0 : Nat))) = true → ∃ (t : Nat × L.Sq L.Pt × L.Sq Int), (↑l.n : Int) = (↑t.2.1.n : Int) ∧ (↑((3 : Nat) + g) : Int) = (↑t.1 : Int) ∧ EV.cl (nat_lit 29)
 [EV.p (SV.ref [SV.sl (nat_lit 2) l.n fun (i : Nat) ↦ [SV.int .i64 (l.g i).x, SV.int .i64 (l.g i).y]] (nat_lit 0)), EV.loc (nat_lit 3) (nat_lit 0)] = EV.cl (29 : Nat) [EV.p (SV.ref [SV.sl (nat_lit 2) t.2.1.n fun (i : Nat) ↦ [SV.int .i64 (t.2.1.g i).x, SV.int .i64 (t.2.1.g i).y]] (nat_lit
 0)), EV.loc (nat_lit 1003 - (1000 : Nat)) (nat_lit 0)] ∧ ((L.orB (L.first (L.exF l) g) L.nilI).n = t.2.2.n ∧ ∀ (i : Nat), i < (L.orB (L.first (L.exF l) g) L.nilI).n → [SV.int .i64 ((L.orB (L.first (L.exF l) g) L.nilI).g i)] = [SV.int .i64 (t.2.2.g i)]) ∧ (((1 : Nat) ≤ t.1 ∧ t.1 ≤ (1000 : Nat)) ∧ t.2.1.n ≤ (1000 : Nat) ∧ L.nrms t.2.1) ∧ ∀ (u : Nat), True →
 InK .i64 ((↑((3 : Nat) + g) : Int) + (1 : Int)) ∧ ∃ (g' : Nat), (↑((3 : Nat) + g) : Int) + (1 : Int) = (↑((3 : Nat) + g') : Int) ∧ nat_lit 0 = nat_lit 0 ∧ nat_lit 0 = nat_lit 0 ∧ SV.ref [SV.sl (nat_lit 2) l.n fun (i : Nat) ↦ [SV.int .i64 (l.g i).x, SV.int .i64 (l.g i).y]] (nat_lit 0) = SV.ref [SV.sl (nat_lit 2) l.n fun (i :
 Nat) ↦ [SV.int .i64 (l.g i).x, SV.int .i64 (l.g i).y]] (nat_lit 0) ∧ ((L.orB (L.grp t.2.1 t.1 L.nilI (0 : Nat)) t.2.2).n = (L.orB (L.first (L.exF l) g') L.nilI).n ∧ ∀ (i : Nat), i < (L.orB (L.grp t.2.1 t.1 L.nilI (0 : Nat)) t.2.2).n → [SV.int .i64 ((L.orB (L.grp t.2.1 t.1 L.nilI (0 : Nat)) t.2.2).g i)] = [SV.int .i64 ((L.orB (L.first
 (L.exF l) g') L.nilI).g i)]) ∧ (0 : Int) = (0 : Int) ∧ (0 : Int) = (0 : Int) ∧ g' ≤ (22 : Nat) ∧ (23 : Nat) - g' < (23 : Nat) - g) ∧ ((bif false then !decide ((L.orB (L.first (L.exF l) g) L.nilI).n = (0 : Nat)) else decide ((L.orB (L.first (L.exF l) g) L.nilI).n = (0 : Nat))) = false → ((SV.agg [SV.int .i64 (0 : Int), SV.int .i64
 (0 : Int)] = SV.agg [SV.int .i64 (L.exD l).x, SV.int .i64 (L.exD l).y] ∧ ((L.orB (L.first (L.exF l) g) L.nilI).n = L.exN l ∧ ∀ (i : Nat), i < (L.orB (L.first (L.exF l) g) L.nilI).n → [SV.int .i64 ((L.orB (L.first (L.exF l) g) L.nilI).g i)] = [SV.int .i64 ((L.exL l).g i)]) ∧ (13 : Int) = L.exE l) ∧ SV.agg [SV.int
 .i64 (0 : Int), SV.int .i64 (0 : Int)] = SV.agg [SV.int .i64 (L.exD l).x, SV.int .i64 (L.exD l).y] ∧ ((L.orB (L.first (L.exF l) g) L.nilI).n = L.exN l ∧ ∀ (i : Nat), i < (L.orB (L.first (L.exF l) g) L.nilI).n → [SV.int .i64 ((L.orB (L.first (L.exF l) g) L.nilI).g i)] = [SV.int .i64 ((L.exL l).g i)]) ∧
 (13 : Int) = L.exE l) ∧ SV.agg [SV.int .i64 (0 : Int), SV.int .i64 (0 : Int)] = SV.agg [SV.int .i64 (L.exD l).x, SV.int .i64 (L.exD l).y] ∧ ((L.orB (L.first (L.exF l) g) L.nilI).n = L.exN l ∧ ∀ (i : Nat), i < (L.orB (L.first (L.exF l) g) L.nilI).n → [SV.int .i64 ((L.orB (L.first (L.exF l) g) L.nilI).g i)] =
 [SV.int .i64 ((L.exL l).g i)]) ∧ (13 : Int) = L.exE l)))) (by kernel_rfl) (by
    obtain ⟨hn, hex⟩ := hp
    refine ⟨fun h0 => ⟨fun _ _ => rfl, isB_of p_bad_B _, by have := of_decide_eq_false (notT h0); omega, fun _ _ => trivial⟩, fun h => ?_, fun h => ?_⟩
    · have hb : L.exBad l = true := h
      unfold L.exD L.exN L.exE
      rw [hb]; exact ⟨rfl, rfl, rfl⟩
    have hb : L.exBad l = false := h
    obtain ⟨h24, hN⟩ := exBad_false hb
    refine ⟨⟨fun _ _ => rfl, hN⟩, fun hw => ?_, fun hw => ?_⟩
    · unfold L.exD L.exN L.exE
      rw [hb, hw]; exact ⟨rfl, rfl, rfl⟩
    have hsm := hex hb hw
    have hD : L.exD l = ⟨0, 0⟩ := by unfold L.exD; rw [hb]; exact wayD_no hw
    have hE : L.exE l = 13 := by unfold L.exE; rw [hb, hw]; rfl
    have hNn : L.exN l = (L.exL l).n := by unfold L.exN; rw [hb, hw]; rfl
    refine ⟨⟨(0 : Nat), rfl, rfl, Nat.zero_le _⟩, fun g hg => ⟨fun hc => ?_, fun hc => ?_⟩⟩
    · have hc : (L.orB (L.first (L.exF l) g) L.nilI).n = 0 := of_decide_eq_true hc
      have hno : L.first (L.exF l) g = none := by
        cases hf : L.first (L.exF l) g with
        | none => rfl
        | some x =>
          rw [hf] at hc
          have hc : x.n = 0 := hc
          obtain ⟨j, _, hj, _⟩ := first_some hf
          have : x.n = 0 + (3 + j) := grp_len hj
          omega
      have hg22 : g ≠ 22 := fun e => by
        rw [e] at hno; rw [hno] at hsm; cases hsm
      have e1 : L.first (L.exF l) (g + 1) = L.exF l g := by rw [L.first, hno]
      refine ⟨(3 + g, l, L.orB (L.first (L.exF l) g) L.nilI), rfl, rfl, rfl, ⟨rfl, fun _ _ => rfl⟩, ⟨⟨by show 1 ≤ 3 + g; omega, by show 3 + g ≤ 1000; omega⟩, by show l.n ≤ 1000; omega, hN⟩, fun u _ => ⟨InK.of (by omega) (by omega), g + 1, by omega, rfl, rfl, rfl, ?_, rfl, rfl, by omega, by omega⟩⟩
      rw [e1, hno]
      exact ⟨rfl, fun _ _ => rfl⟩
    · have hc : ¬ (L.orB (L.first (L.exF l) g) L.nilI).n = 0 := of_decide_eq_false hc
      have hsom : L.orB (L.first (L.exF l) g) L.nilI = L.exL l := by
        cases hf : L.first (L.exF l) g with
        | none => rw [hf] at hc; exact absurd rfl hc
        | some x =>
          unfold L.exL
          rw [first_mono hf hg]
      rw [hsom, hD, hE, hNn]
      exact ⟨⟨⟨rfl, ⟨rfl, fun _ _ => rfl⟩, rfl⟩, ⟨rfl, ⟨rfl, fun _ _ => rfl⟩, rfl⟩⟩, ⟨rfl, ⟨rfl, fun _ _ => rfl⟩, rfl⟩⟩)
theorem p_Exit_ok : SpecOk Try.prog 8 p_Exit_S := fnX Try.func8 (c := bodyOf Try.f8) (by kernel_rfl) mixed (fun args p r hs hp => by
  unfold p_Exit_s at hs
  split at hs
  · cases hs; exact ⟨_, _, p_Exit_vc _ hp.2, (.p (.sl hp.1) .nil), ⟨show SpecsL Try.prog _ from (SpecsL.cons s_conFP_ok s_conFP_en (SpecsL.cons p_bad_ok p_bad_en (SpecsL.cons p_way_ok p_way_en SpecsL.nil))), rfl, ⟨show ItersL Try.prog _ from ItersL.nil, (show TrsL Try.prog _ from (TrsL.cons p_groups_tok p_groups_en TrsL.nil))⟩⟩⟩
  · cases hs)
theorem p_Exit_en : Enters Try.prog 8 := fun args w => by kernel_rfl
end Go.Proofs.Ytdlhpdidgfgomaa

namespace Go.Proofs.Ytdlhpdidgfgomaa
open Go.SE Go.RowKit
set_option maxRecDepth 100000
set_option maxHeartbeats 4000000
set_option linter.unusedVariables false
attribute [local irreducible] vc

def p_Area_p (l : (L.Sq L.Pt)) : Prop := l.n ≤ 1000000
def p_Area_r (l : (L.Sq L.Pt)) : SV := .tup [.int .i64 (bif L.validOutline l then L.areaTo l l.n else 0), .int .i64 (bif L.validOutline l then 0 else 1)]
def p_Area_s : List EV → Option (Prop × SV)
  | [.p (.sl 2 l_n l_g)] => some ((∀ i, i < l_n → l_g i = [.int .i64 ((ofPt (l_g i)).x), .int .i64 ((ofPt (l_g i)).y)]) ∧ p_Area_p (⟨l_n, fun i => ofPt (l_g i)⟩ : (L.Sq L.Pt)), p_Area_r (⟨l_n, fun i => ofPt (l_g i)⟩ : (L.Sq L.Pt)))
  | _ => none
abbrev p_Area_S : SE.Spec := (specO p_Area_s)
def p_Area_C : Cfg := { muts := [], frz := lookN [], specs := lookS [(16, p_ValidOutline_S), (41, p_area_S)], loops := lookL [], iters := lookI [], rfs := lookR [], nils := lookM [] }
theorem p_Area_vc (l : (L.Sq L.Pt)) (hp : p_Area_p l) : vc Try.prog (p_Area_C) (bodyOf Try.f18) (st0 Try.f18 [.p (.sl 2 l.n (fun i => [.int .i64 ((l.g i).x), .int .i64 ((l.g i).y)]))]) (retFn Try.prog Try.f18 (p_Area_r l)) :=
  @Eq.mpr _ (((∀ (i : Nat), i < l.n → [SV.int .i64 (l.g i).x, SV.int .i64 (l.g i).y] = [SV.int .i64 (l.g i).x, SV.int .i64 (l.g i).y]) ∧ l.n ≤ (1000000 : Nat)) ∧ ((!L.validOutline (L.Sq.mk l.n fun (i : Nat) ↦ l.g i)) = true → ((0 : Int) = bif L.validOutline l then L.areaTo l l.n else (0 : Int)) ∧ (1 : Int) = bif L.validOutline l then (0 :
 Int) else (1 : Int)) ∧ ((!L.validOutline (L.Sq.mk l.n fun (i : Nat) ↦ l.g i)) = false → ((∀ (i : Nat), i < l.n → [SV.int .i64 (l.g i).x, SV.int .i64 (l.g i).y] = [SV.int .i64 (l.g i).x, SV.int .i64 (l.g i).y]) ∧ L.small (L.Sq.mk l.n fun (i : Nat) ↦ l.g i)) ∧ (L.areaTo (L.Sq.mk l.n fun (i : Nat) ↦ l.g i) l.n = bif L.validOutline l
 then L.areaTo l l.n else (0 : Int)) ∧ (0 : Int) = bif L.validOutline l then (0 : Int) else (1 : Int))) (by kernel_rfl) (by
    have hn : l.n ≤ 1000000 := hp
    refine ⟨⟨fun _ _ => rfl, hn⟩, fun h => ?_, fun h => ?_⟩
    · have hv : L.validOutline l = false := by simpa using (show (!L.validOutline l) = true from h)
      rw [hv]; exact ⟨rfl, rfl⟩
    · have hv : L.validOutline l = true := by simpa using (show (!L.validOutline l) = false from h)
      rw [hv]; exact ⟨⟨fun _ _ => rfl, (validOutline_of hv).2.2.1⟩, rfl, rfl⟩)
theorem p_Area_ok : SpecOk Try.prog 18 p_Area_S := fnX Try.func18 (c := bodyOf Try.f18) (by kernel_rfl) mixed (fun args p r hs hp => by
  unfold p_Area_s at hs
  split at hs
  · cases hs; exact ⟨_, _, p_Area_vc _ hp.2, (.p (.sl hp.1) .nil), ⟨show SpecsL Try.prog _ from (SpecsL.cons p_ValidOutline_ok p_ValidOutline_en (SpecsL.cons p_area_ok p_area_en SpecsL.nil)), rfl, ⟨show ItersL Try.prog _ from ItersL.nil, (TrsOk.none (fun _ => rfl))⟩⟩⟩
  · cases hs)
theorem p_Area_en : Enters Try.prog 18 := fun args w => by kernel_rfl
def p_Turn_p (a : L.Pt) (b : L.Pt) (c : L.Pt) : Prop := True
def p_Turn_r (a : L.Pt) (b : L.Pt) (c : L.Pt) : SV := .tup [.int .i64 (bif L.validPt a && L.validPt b && L.validPt c then L.cmp (L.cross a b c) 0 else 0), .int .i64 (bif L.validPt a && L.validPt b && L.validPt c then 0 else 1)]
def p_Turn_s : List EV → Option (Prop × SV)
  | [.p (.agg [.int .i64 a_x, .int .i64 a_y]), .p (.agg [.int .i64 b_x, .int .i64 b_y]), .p (.agg [.int .i64 c_x, .int .i64 c_y])] => some (p_Turn_p (⟨a_x, a_y⟩ : L.Pt) (⟨b_x, b_y⟩ : L.Pt) (⟨c_x, c_y⟩ : L.Pt), p_Turn_r (⟨a_x, a_y⟩ : L.Pt) (⟨b_x, b_y⟩ : L.Pt) (⟨c_x, c_y⟩ : L.Pt))
  | _ => none
abbrev p_Turn_S : SE.Spec := (specO p_Turn_s)
def p_Turn_C : Cfg := { muts := [], frz := lookN [], specs := lookS [(33, p_valid_S), (38, p_cross_S), (51, c_cmp_S)], loops := lookL [], iters := lookI [], rfs := lookR [], nils := lookM [] }
theorem p_Turn_vc (a : L.Pt) (b : L.Pt) (c : L.Pt) (hp : p_Turn_p a b c) : vc Try.prog (p_Turn_C) (bodyOf Try.f23) (st0 Try.f23 [.p (.agg [.int .i64 a.x, .int .i64 a.y]), .p (.agg [.int .i64 b.x, .int .i64 b.y]), .p (.agg [.int .i64 c.x, .int .i64 c.y])]) (retFn Try.prog Try.f23 (p_Turn_r a b c)) :=
  @Eq.mpr _ (((∀ (i : Nat), i < nat_lit 3 → rowsOf [SV.int .i64 a.x, SV.int .i64 a.y, SV.int .i64 b.x, SV.int .i64 b.y, SV.int .i64 c.x, SV.int .i64 c.y] (nat_lit 2) i = [SV.int .i64 (ofPt (rowsOf [SV.int .i64 a.x, SV.int .i64 a.y, SV.int
 .i64 b.x, SV.int .i64 b.y, SV.int .i64 c.x, SV.int .i64 c.y] (nat_lit 2) i)).x, SV.int .i64 (ofPt (rowsOf [SV.int .i64 a.x, SV.int .i64 a.y, SV.int .i64 b.x, SV.int .i64 b.y, SV.int .i64 c.x, SV.int .i64 c.y] (nat_lit 2)
 i)).y]) ∧ nat_lit 3 ≤ (1000000 : Nat)) ∧ ((!L.allB (nat_lit 3) fun (i : Nat) ↦ L.validPt (ofPt (rowsOf [SV.int .i64 a.x, SV.int .i64 a.y, SV.int .i64 b.x, SV.int .i64 b.y, SV.int .i64 c.x, SV.int .i64 c.y] (nat_lit 2) i))) = true → ((0 : Int) = bif L.validPt a && L.validPt b && L.validPt c
 then L.cmp (L.cross a b c) (0 : Int) else (0 : Int)) ∧ (1 : Int) = bif L.validPt a && L.validPt b && L.validPt c then (0 : Int) else (1 : Int)) ∧ ((!L.allB (nat_lit 3) fun (i : Nat) ↦ L.validPt (ofPt (rowsOf [SV.int .i64 a.x, SV.int .i64 a.y, SV.int .i64 b.x, SV.int .i64 b.y, SV.int .i64 c.x, SV.int
 .i64 c.y] (nat_lit 2) i))) = false → (L.bd a ∧ L.bd b ∧ L.bd c) ∧ True ∧ (L.cmp (L.cross a b c) (0 : Int) = bif L.validPt a && L.validPt b && L.validPt c then L.cmp (L.cross a b c) (0 : Int) else (0 : Int)) ∧ (0 : Int) = bif L.validPt a && L.validPt b && L.validPt c then (0 : Int) else (1 : Int))) (by kernel_rfl) (by
    refine ⟨⟨fun i hi => by match i, hi with | 0, _ => rfl | 1, _ => rfl | 2, _ => rfl, by decide⟩, fun h => ?_, fun h => ?_⟩
    · have h' : (L.validPt a && L.validPt b && L.validPt c) = false := by simpa only [Bool.not_eq_true', Bool.not_eq_false'] using (show (!(L.validPt a && L.validPt b && L.validPt c)) = true from h)
      rw [h']; exact ⟨rfl, rfl⟩
    · have h' : (L.validPt a && L.validPt b && L.validPt c) = true := by simpa only [Bool.not_eq_true', Bool.not_eq_false'] using (show (!(L.validPt a && L.validPt b && L.validPt c)) = false from h)
      obtain ⟨vab, vc⟩ := Bool.and_eq_true_iff.1 h'
      obtain ⟨va, vb⟩ := Bool.and_eq_true_iff.1 vab
      rw [h']; exact ⟨⟨validPt_bd va, validPt_bd vb, validPt_bd vc⟩, trivial, rfl, rfl⟩)
theorem p_Turn_ok : SpecOk Try.prog 23 p_Turn_S := fnX Try.func23 (c := bodyOf Try.f23) (by kernel_rfl) mixed (fun args p r hs hp => by
  unfold p_Turn_s at hs
  split at hs
  · cases hs; exact ⟨_, _, p_Turn_vc _ _ _ hp, (.same _ (.same _ (.same _ .nil))), ⟨show SpecsL Try.prog _ from (SpecsL.cons p_valid_ok p_valid_en (SpecsL.cons p_cross_ok p_cross_en (SpecsL.cons c_cmp_ok c_cmp_en SpecsL.nil))), rfl, ⟨show ItersL Try.prog _ from ItersL.nil, (TrsOk.none (fun _ => rfl))⟩⟩⟩
  · cases hs)
theorem p_Turn_en : Enters Try.prog 23 := fun args w => by kernel_rfl
def w_awake_p  : Prop := True
def w_awake_r  : SV := .bool true
def w_awake_s : List EV → Option (Prop × SV)
  | [] => some (w_awake_p , w_awake_r )
  | _ => none
abbrev w_awake_S : SE.Spec := (specO w_awake_s)
def w_awake_C : Cfg := { muts := [8], frz := lookN [], specs := lookS [(18, p_Area_S), (22, p_Pockets_S), (23, p_Turn_S), (8, p_Exit_S)], loops := lookL [], iters := lookI [], rfs := lookR [], nils := lookM [] }
theorem w_awake_vc  (hp : w_awake_p) : vc Try.prog (w_awake_C) (bodyOf Try.f7) (st0 Try.f7 []) (retFn Try.prog Try.f7 (w_awake_r )) :=
  @Eq.mpr _ (((∀ (i : Nat), i < nat_lit 5 → rowsOf [SV.int .i64 (0 : Int), SV.int .i64 (0 : Int), SV.int .i64 (4 : Int), SV.int .i64 (0 : Int), SV.int .i64 (4 : Int), SV.int .i64 (4 : Int), SV.int .i64 (2 : Int), SV.int .i64 (1 : Int), SV.int .i64 (0 : Int),
 SV.int .i64 (4 : Int)] (nat_lit 2) i = [SV.int .i64 (ofPt (rowsOf [SV.int .i64 (0 : Int), SV.int .i64 (0 : Int), SV.int .i64 (4 : Int), SV.int .i64 (0 : Int), SV.int .i64 (4 : Int), SV.int .i64 (4 : Int), SV.int .i64 (2 : Int), SV.int
 .i64 (1 : Int), SV.int .i64 (0 : Int), SV.int .i64 (4 : Int)] (nat_lit 2) i)).x, SV.int .i64 (ofPt (rowsOf [SV.int .i64 (0 : Int), SV.int .i64 (0 : Int), SV.int .i64 (4 : Int), SV.int .i64 (0 : Int), SV.int .i64 (4 : Int), SV.int .i64 (4 :
 Int), SV.int .i64 (2 : Int), SV.int .i64 (1 : Int), SV.int .i64 (0 : Int), SV.int .i64 (4 : Int)] (nat_lit 2) i)).y]) ∧ nat_lit 5 ≤ (1000000 : Nat)) ∧ ((∀ (i : Nat), i < nat_lit 5 → rowsOf [SV.int .i64 (0 : Int), SV.int .i64 (0 : Int), SV.int .i64 (4 : Int), SV.int
 .i64 (0 : Int), SV.int .i64 (4 : Int), SV.int .i64 (4 : Int), SV.int .i64 (2 : Int), SV.int .i64 (1 : Int), SV.int .i64 (0 : Int), SV.int .i64 (4 : Int)] (nat_lit 2) i = [SV.int .i64 (ofPt (rowsOf [SV.int .i64 (0 : Int), SV.int .i64 (0 :
 Int), SV.int .i64 (4 : Int), SV.int .i64 (0 : Int), SV.int .i64 (4 : Int), SV.int .i64 (4 : Int), SV.int .i64 (2 : Int), SV.int .i64 (1 : Int), SV.int .i64 (0 : Int), SV.int .i64 (4 : Int)] (nat_lit 2) i)).x, SV.int .i64 (ofPt (rowsOf [SV.int
 .i64 (0 : Int), SV.int .i64 (0 : Int), SV.int .i64 (4 : Int), SV.int .i64 (0 : Int), SV.int .i64 (4 : Int), SV.int .i64 (4 : Int), SV.int .i64 (2 : Int), SV.int .i64 (1 : Int), SV.int .i64 (0 : Int), SV.int .i64 (4 : Int)] (nat_lit 2) i)).y]) ∧
 nat_lit 5 ≤ (1000000 : Nat)) ∧ ∀ (t : Nat → L.Pocket), (L.validOutline (L.Sq.mk (nat_lit 5) fun (i : Nat) ↦ ofPt (rowsOf [SV.int .i64 (0 : Int), SV.int .i64 (0 : Int), SV.int .i64 (4 : Int), SV.int .i64 (0 : Int), SV.int .i64 (4 : Int), SV.int .i64 (4 : Int), SV.int .i64 (2 : Int),
 SV.int .i64 (1 : Int), SV.int .i64 (0 : Int), SV.int .i64 (4 : Int)] (nat_lit 2) i)) = true → SortedBy L.cmpFr (L.pks (L.Sq.mk (nat_lit 5) fun (i : Nat) ↦ ofPt (rowsOf [SV.int .i64 (0 : Int), SV.int .i64 (0 : Int), SV.int .i64 (4 : Int), SV.int .i64 (0 : Int),
 SV.int .i64 (4 : Int), SV.int .i64 (4 : Int), SV.int .i64 (2 : Int), SV.int .i64 (1 : Int), SV.int .i64 (0 : Int), SV.int .i64 (4 : Int)] (nat_lit 2) i))).n (L.pks (L.Sq.mk (nat_lit 5) fun (i : Nat) ↦ ofPt (rowsOf [SV.int .i64 (0 : Int), SV.int .i64 (0 : Int),
 SV.int .i64 (4 : Int), SV.int .i64 (0 : Int), SV.int .i64 (4 : Int), SV.int .i64 (4 : Int), SV.int .i64 (2 : Int), SV.int .i64 (1 : Int), SV.int .i64 (0 : Int), SV.int .i64 (4 : Int)] (nat_lit 2) i))).g t) → ((0 : Int) ≤ (0 : Int) ∧ (0 : Int) < (↑(nat_lit 5) : Int)) ∧ ((0
 : Int) ≤ (1 : Int) ∧ (1 : Int) < (↑(nat_lit 5) : Int)) ∧ ((0 : Int) ≤ (2 : Int) ∧ (2 : Int) < (↑(nat_lit 5) : Int)) ∧ True ∧ ((∀ (i : Nat), i < nat_lit 3 → rowsOf [SV.int .i64 (1 : Int), SV.int .i64 (0 : Int), SV.int .i64 (-1 : Int), SV.int .i64 (1 : Int), SV.int .i64 (-1 : Int), SV.int .i64 (-1 :
 Int)] (nat_lit 2) i = [SV.int .i64 (ofPt (rowsOf [SV.int .i64 (1 : Int), SV.int .i64 (0 : Int), SV.int .i64 (-1 : Int), SV.int .i64 (1 : Int), SV.int .i64 (-1 : Int), SV.int .i64 (-1 : Int)] (nat_lit 2) i)).x, SV.int .i64 (ofPt (rowsOf [SV.int
 .i64 (1 : Int), SV.int .i64 (0 : Int), SV.int .i64 (-1 : Int), SV.int .i64 (1 : Int), SV.int .i64 (-1 : Int), SV.int .i64 (-1 : Int)] (nat_lit 2) i)).y]) ∧ nat_lit 3 ≤ (9223372036854775807 : Nat) ∧ (L.exBad (L.Sq.mk (nat_lit 3) fun (i : Nat) ↦ ofPt (rowsOf [SV.int .i64 (1 : Int),
 SV.int .i64 (0 : Int), SV.int .i64 (-1 : Int), SV.int .i64 (1 : Int), SV.int .i64 (-1 : Int), SV.int .i64 (-1 : Int)] (nat_lit 2) i)) = false → L.wayOk (L.Sq.mk (nat_lit 3) fun (i : Nat) ↦ ofPt (rowsOf [SV.int .i64 (1 : Int), SV.int .i64 (0 : Int), SV.int .i64
 (-1 : Int), SV.int .i64 (1 : Int), SV.int .i64 (-1 : Int), SV.int .i64 (-1 : Int)] (nat_lit 2) i)) = false → L.isNo (L.first (L.exF (L.Sq.mk (nat_lit 3) fun (i : Nat) ↦ ofPt (rowsOf [SV.int .i64 (1 : Int), SV.int .i64 (0 : Int), SV.int .i64 (-1 : Int), SV.int .i64 (1 : Int),
 SV.int .i64 (-1 : Int), SV.int .i64 (-1 : Int)] (nat_lit 2) i))) (22 : Nat)) = false)) ∧ (true = true → (0 : Int) ≤ (0 : Int) ∧ (0 : Int) < (↑(nat_lit 1) : Int)) ∧ (bif bif bif bif bif true then decide ((t (Int.toNat (0 : Int))).fr = (2 : Int)) && (decide ((t (Int.toNat (0 : Int))).to_ = (4 : Int)) && decide ((t
 (Int.toNat (0 : Int))).area = (12 : Int))) else false then true else false then true else false then true else false then true else false) = true) (by kernel_rfl) (by
    refine ⟨⟨fun i hi => by match i, hi with | 0, _ => rfl | 1, _ => rfl | 2, _ => rfl | 3, _ => rfl | 4, _ => rfl, by decide⟩, ⟨fun i hi => by match i, hi with | 0, _ => rfl | 1, _ => rfl | 2, _ => rfl | 3, _ => rfl | 4, _ => rfl, by decide⟩, fun t ht => ⟨⟨by decide, by decide⟩, ⟨by decide, by decide⟩, ⟨by decide, by decide⟩, trivial, ⟨fun i hi => by match i, hi with | 0, _ => rfl | 1, _ => rfl | 2, _ => rfl, by decide, fun _ _ => by kernel_rfl⟩, fun _ => ⟨by decide, by decide⟩, ?_⟩⟩
    have h := ht (by kernel_rfl)
    have hn : (L.pks (L.Sq.mk 5 fun (i : Nat) => ofPt (rowsOf [SV.int .i64 0, SV.int .i64 0, SV.int .i64 4, SV.int .i64 0, SV.int .i64 4, SV.int .i64 4, SV.int .i64 2, SV.int .i64 1, SV.int .i64 0, SV.int .i64 4] 2 i))).n = 1 := by kernel_rfl
    have hg : (L.pks (L.Sq.mk 5 fun (i : Nat) => ofPt (rowsOf [SV.int .i64 0, SV.int .i64 0, SV.int .i64 4, SV.int .i64 0, SV.int .i64 4, SV.int .i64 4, SV.int .i64 2, SV.int .i64 1, SV.int .i64 0, SV.int .i64 4] 2 i))).g 0 = ⟨2, 4, 12⟩ := by kernel_rfl
    have h1 := h.perm
    rw [hn] at h1
    have h2 : [t 0].Perm [(L.pks (L.Sq.mk 5 fun (i : Nat) => ofPt (rowsOf [SV.int .i64 0, SV.int .i64 0, SV.int .i64 4, SV.int .i64 0, SV.int .i64 4, SV.int .i64 4, SV.int .i64 2, SV.int .i64 1, SV.int .i64 0, SV.int .i64 4] 2 i))).g 0] := h1
    have h3 := List.singleton_perm_singleton.1 h2
    rw [hg] at h3
    have h4 : t (Int.toNat 0) = ⟨2, 4, 12⟩ := h3
    rw [h4]; rfl)
theorem w_awake_ok : SpecOk Try.prog 7 w_awake_S := fnX Try.func7 (c := bodyOf Try.f7) (by kernel_rfl) mixed (fun args p r hs hp => by
  unfold w_awake_s at hs
  split at hs
  · cases hs; exact ⟨_, _, w_awake_vc  hp, .nil, ⟨show SpecsL Try.prog _ from (SpecsL.cons p_Area_ok p_Area_en (SpecsL.cons p_Pockets_ok p_Pockets_en (SpecsL.cons p_Turn_ok p_Turn_en (SpecsL.cons p_Exit_ok p_Exit_en SpecsL.nil)))), rfl, ⟨show ItersL Try.prog _ from ItersL.nil, (TrsOk.none (fun _ => rfl))⟩⟩⟩
  · cases hs)
theorem w_awake_en : Enters Try.prog 7 := fun args w => by kernel_rfl
end Go.Proofs.Ytdlhpdidgfgomaa

namespace Go.Proofs.Ytdlhpdidgfgomaa
open Go.SE Go.RowKit
set_option maxRecDepth 100000
set_option maxHeartbeats 4000000
set_option linter.unusedVariables false
attribute [local irreducible] vc

def L.cr (p q : L.Pt) : Int := p.x * q.y - p.y * q.x
theorem within0_snoc {l : L.Sq Int} {n a : Nat} (h : L.within0 l n) (ha : a < n) : L.within0 (L.snoc l (a : Int)) n := fun i hi => by
  have hi : i < l.n + 1 := hi
  show 0 ≤ (bif decide (i < l.n) then l.g i else (a : Int)) ∧ (bif decide (i < l.n) then l.g i else (a : Int)) < (n : Int)
  by_cases h' : i < l.n
  · rw [decide_eq_true h']; exact h i h'
  · rw [decide_eq_false h']; show 0 ≤ (a : Int) ∧ (a : Int) < n; omega
def L.s1 (a : Nat) : L.Sq Int := L.snoc L.nilI (a : Int)
def L.s2 (a b : Nat) : L.Sq Int := L.snoc (L.s1 a) (b : Int)
def L.s3 (a b c : Nat) : L.Sq Int := L.snoc (L.s2 a b) (c : Int)
def L.s4 (a b c d : Nat) : L.Sq Int := L.snoc (L.s3 a b c) (d : Int)
theorem w_nil {n : Nat} : L.within0 L.nilI n := fun i hi => absurd hi (Nat.not_lt_zero _)
theorem w3 {a b c n : Nat} (ha : a < n) (hb : b < n) (hc : c < n) : L.within0 (L.s3 a b c) n := within0_snoc (within0_snoc (within0_snoc w_nil ha) hb) hc
theorem w4 {a b c d n : Nat} (ha : a < n) (hb : b < n) (hc : c < n) (hd : d < n) : L.within0 (L.s4 a b c d) n := within0_snoc (w3 ha hb hc) hd
end Go.Proofs.Ytdlhpdidgfgomaa

namespace Go.Proofs.Ytdlhpdidgfgomaa
open Go.SE Go.RowKit
set_option maxRecDepth 100000
set_option maxHeartbeats 4000000
set_option linter.unusedVariables false
attribute [local irreducible] vc

def L.ix (n : Nat) (i : Int) : Nat := (Int.tmod (Int.tmod i (n : Int) + (n : Int)) (n : Int)).toNat
theorem tmod_add {m n : Int} (h0 : 0 ≤ m) (h1 : m < n) : Int.tmod (m + n) n = m := by
  rw [Int.tmod_eq_emod_of_nonneg (by omega), Int.add_emod_right, Int.emod_eq_of_lt h0 h1]
theorem ix_self {n k : Nat} (h : k < n) : L.ix n (k : Int) = k := by
  unfold L.ix
  rw [Int.tmod_eq_of_lt (show 0 ≤ (k : Int) by omega) (show (k : Int) < n by omega), tmod_add (by omega) (by omega)]
  omega
theorem ix_next {n k : Nat} (h : k < n) : L.ix n ((k : Int) + 1) = L.next n k := by
  unfold L.ix L.next
  by_cases e : k + 1 < n
  · rw [Int.tmod_eq_of_lt (show 0 ≤ (k : Int) + 1 by omega) (show (k : Int) + 1 < n by omega), tmod_add (by omega) (by omega)]
  · rw [show (k : Int) + 1 = (n : Int) by omega, Int.tmod_self, Int.zero_add, Int.tmod_self]
theorem ix_prev {n k : Nat} (h : k < n) : L.ix n ((k : Int) - 1) = L.prev n k := by
  unfold L.ix L.prev
  by_cases e : 1 ≤ k
  · rw [Int.tmod_eq_of_lt (show 0 ≤ (k : Int) - 1 by omega) (show (k : Int) - 1 < n by omega), show (k : Int) + (n : Int) - 1 = (k : Int) - 1 + n by omega]
  · obtain rfl : k = 0 := by omega
    by_cases e1 : n = 1
    · subst e1; rfl
    · rw [show ((0 : Nat) : Int) - 1 = -(1 : Int) by omega, Int.neg_tmod, Int.tmod_eq_of_lt (show 0 ≤ (1 : Int) by omega) (show (1 : Int) < n by omega), show -(1 : Int) + (n : Int) = ((0 : Nat) : Int) + (n : Int) - 1 by omega]
theorem ix_bd {n : Nat} {i : Int} (h : 0 < n) : 0 ≤ Int.tmod i (n : Int) + (n : Int) ∧ Int.tmod i (n : Int) + (n : Int) ≤ 2 * (n : Int) ∧ 0 ≤ Int.tmod (Int.tmod i (n : Int) + (n : Int)) (n : Int) ∧ Int.tmod (Int.tmod i (n : Int) + (n : Int)) (n : Int) < (n : Int) := by
  have h1 := Int.lt_tmod_of_pos i (show 0 < (n : Int) by omega)
  have h2 := Int.tmod_lt_of_pos i (show 0 < (n : Int) by omega)
  exact ⟨by omega, by omega, Int.tmod_nonneg _ (by omega), Int.tmod_lt_of_pos _ (by omega)⟩
theorem ix_lt {n : Nat} {i : Int} (h : 0 < n) : L.ix n i < n := by
  have := ix_bd (i := i) h
  unfold L.ix; omega
theorem ix_emod {n : Nat} {a : Int} (h : 0 < n) : ((L.ix n a : Nat) : Int) = a % (n : Int) := by
  obtain ⟨q1, q2, q3, q4⟩ := ix_bd (i := a) h
  unfold L.ix
  rw [Int.toNat_of_nonneg q3, Int.tmod_eq_emod_of_nonneg q1, Int.add_emod_right]
  have := Int.tmod_add_mul_tdiv a (n : Int)
  conv => rhs; rw [← this]
  rw [Int.add_mul_emod_self_left]
theorem ix_congr {n : Nat} {a b : Int} (hn : 0 < n) (h : a % (n : Int) = b % (n : Int)) (c : Int) : L.ix n (a + c) = L.ix n (b + c) := by
  have h1 := ix_emod (a := a + c) hn
  have h2 := ix_emod (a := b + c) hn
  rw [← Int.emod_add_emod, h, Int.emod_add_emod] at h1
  omega
theorem ix_ix {n : Nat} {a : Int} (hn : 0 < n) (c : Int) : L.ix n (((L.ix n a : Nat) : Int) + c) = L.ix n (a + c) :=
  ix_congr hn (by rw [ix_emod hn, Int.emod_emod]) c
def r1_Cross_p (a : L.Pt) (b : L.Pt) (c : L.Pt) : Prop := L.bd a ∧ L.bd b ∧ L.bd c
def r1_Cross_r (a : L.Pt) (b : L.Pt) (c : L.Pt) : SV := .int .i64 (L.cross a b c)
def r1_Cross_s : List EV → Option (Prop × SV)
  | [.p (.agg [.int .i64 a_x, .int .i64 a_y]), .p (.agg [.int .i64 b_x, .int .i64 b_y]), .p (.agg [.int .i64 c_x, .int .i64 c_y])] => some (r1_Cross_p (⟨a_x, a_y⟩ : L.Pt) (⟨b_x, b_y⟩ : L.Pt) (⟨c_x, c_y⟩ : L.Pt), r1_Cross_r (⟨a_x, a_y⟩ : L.Pt) (⟨b_x, b_y⟩ : L.Pt) (⟨c_x, c_y⟩ : L.Pt))
  | _ => none
abbrev r1_Cross_S : SE.Spec := (specO r1_Cross_s)
def r1_Cross_C : Cfg := { muts := [], frz := lookN [], specs := lookS [], loops := lookL [], iters := lookI [], rfs := lookR [], nils := lookM [] }
theorem r1_Cross_vc (a : L.Pt) (b : L.Pt) (c : L.Pt) (hp : r1_Cross_p a b c) : vc Try.prog (r1_Cross_C) (bodyOf Try.f17) (st0 Try.f17 [.p (.agg [.int .i64 a.x, .int .i64 a.y]), .p (.agg [.int .i64 b.x, .int .i64 b.y]), .p (.agg [.int .i64 c.x, .int .i64 c.y])]) (retFn Try.prog Try.f17 (r1_Cross_r a b c)) :=
  @Eq.mpr _ (InK .i64 (b.x - a.x) ∧ InK .i64 (c.y - a.y) ∧ InK .i64 ((b.x - a.x) * (c.y - a.y)) ∧ InK .i64 (b.y - a.y) ∧ InK .i64 (c.x - a.x) ∧ InK .i64 ((b.y - a.y) * (c.x - a.x)) ∧ InK .i64 ((b.x - a.x) * (c.y - a.y) - (b.y - a.y) * (c.x - a.x)) ∧ (b.x - a.x) * (c.y - a.y) - (b.y - a.y) * (c.x -
 a.x) = L.cross a b c) (by kernel_rfl) (by
    obtain ⟨h1, h2, h3⟩ := hp
    unfold L.bd at h1 h2 h3
    have m1 := mul_bd (a := b.x - a.x) (b := c.y - a.y) (m := 8000000) (n := 8000000) (by omega) (by omega) (by omega) (by omega)
    have m2 := mul_bd (a := b.y - a.y) (b := c.x - a.x) (m := 8000000) (n := 8000000) (by omega) (by omega) (by omega) (by omega)
    exact ⟨InK.of (by omega) (by omega), InK.of (by omega) (by omega), InK.of (by omega) (by omega), InK.of (by omega) (by omega), InK.of (by omega) (by omega), InK.of (by omega) (by omega), InK.of (by omega) (by omega), rfl⟩)
theorem r1_Cross_ok : SpecOk Try.prog 17 r1_Cross_S := fnX Try.func17 (c := bodyOf Try.f17) (by kernel_rfl) mixed (fun args p r hs hp => by
  unfold r1_Cross_s at hs
  split at hs
  · cases hs; exact ⟨_, _, r1_Cross_vc _ _ _ hp, (.same _ (.same _ (.same _ .nil))), ⟨show SpecsL Try.prog _ from SpecsL.nil, rfl, ⟨show ItersL Try.prog _ from ItersL.nil, (TrsOk.none (fun _ => rfl))⟩⟩⟩
  · cases hs)
theorem r1_Cross_en : Enters Try.prog 17 := fun args w => by kernel_rfl
end Go.Proofs.Ytdlhpdidgfgomaa

namespace Go.Proofs.Ytdlhpdidgfgomaa
open Go.SE Go.RowKit
set_option maxRecDepth 100000
set_option maxHeartbeats 4000000
set_option linter.unusedVariables false
attribute [local irreducible] vc

theorem on_left {a b : L.Pt} : L.on a b a = true := by
  unfold L.on
  rw [Bool.and_eq_true, Bool.and_eq_true, within_iff, within_iff]
  refine ⟨⟨decide_eq_true ?_, by omega⟩, by omega⟩
  unfold L.cross; simp
end Go.Proofs.Ytdlhpdidgfgomaa

namespace Go.Proofs.Ytdlhpdidgfgomaa
open Go.SE Go.RowKit
set_option maxRecDepth 100000
set_option maxHeartbeats 4000000
set_option linter.unusedVariables false
attribute [local irreducible] vc
theorem minTo_mem (l : L.Sq L.Pt) : ∀ i, ∃ j, j ≤ i ∧ L.minTo l i = l.g j
  | 0 => ⟨0, Nat.le_refl _, rfl⟩
  | i + 1 => by
    obtain ⟨j, h1, h2⟩ := minTo_mem l i
    cases h : decide (L.cmpPt (l.g (i + 1)) (L.minTo l i) < 0) with
    | true => exact ⟨i + 1, Nat.le_refl _, by rw [L.minTo, h]; rfl⟩
    | false => exact ⟨j, by omega, by rw [L.minTo, h]; exact h2⟩
theorem minIdx {l : L.Sq L.Pt} (h : 1 ≤ l.n) : ∃ i, i < l.n ∧ L.ptIdx l (L.minTo l (l.n - 1)) = (i : Int) ∧ l.g i = L.minTo l (l.n - 1) := by
  obtain ⟨j, h1, h2⟩ := minTo_mem l (l.n - 1)
  obtain ⟨i, h3, h4, h5, _⟩ := ptIdx_of (l := l) (j := j) (by omega)
  rw [h2]
  exact ⟨i, by omega, h4, h5⟩
theorem norm_cat {t : L.Sq L.Pt} {K : Int} (h0 : 0 ≤ K) (h1 : K ≤ (t.n : Int)) (hn : 1 ≤ t.n) (hm : t.n ≤ 1000000) :
    (1 ≤ (L.two ⟨((t.n : Int) - K).toNat, fun i => t.g (K.toNat + i)⟩ ⟨(K - 0).toNat, fun i => t.g ((0 : Int).toNat + i)⟩ 0).n + (L.two ⟨((t.n : Int) - K).toNat, fun i => t.g (K.toNat + i)⟩ ⟨(K - 0).toNat, fun i => t.g ((0 : Int).toNat + i)⟩ 1).n ∧
     (L.two ⟨((t.n : Int) - K).toNat, fun i => t.g (K.toNat + i)⟩ ⟨(K - 0).toNat, fun i => t.g ((0 : Int).toNat + i)⟩ 0).n ≤ 1000000 ∧ (L.two ⟨((t.n : Int) - K).toNat, fun i => t.g (K.toNat + i)⟩ ⟨(K - 0).toNat, fun i => t.g ((0 : Int).toNat + i)⟩ 1).n ≤ 1000000) ∧
    (L.catTo (L.two ⟨((t.n : Int) - K).toNat, fun i => t.g (K.toNat + i)⟩ ⟨(K - 0).toNat, fun i => t.g ((0 : Int).toNat + i)⟩) 2).n = t.n ∧
    ∀ i, (L.catTo (L.two ⟨((t.n : Int) - K).toNat, fun i => t.g (K.toNat + i)⟩ ⟨(K - 0).toNat, fun i => t.g ((0 : Int).toNat + i)⟩) 2).g i = (L.rot t K.toNat).g i := by
  refine ⟨⟨?_, ?_, ?_⟩, ?_, fun i => ?_⟩
  · show 1 ≤ ((t.n : Int) - K).toNat + (K - 0).toNat
    omega
  · show ((t.n : Int) - K).toNat ≤ 1000000
    omega
  · show (K - 0).toNat ≤ 1000000
    omega
  · show 0 + ((t.n : Int) - K).toNat + (K - 0).toNat = t.n
    omega
  · show (bif decide (i < 0 + ((t.n : Int) - K).toNat) then (bif decide (i < 0) then (⟨0, 0⟩ : L.Pt) else t.g (K.toNat + (i - 0))) else t.g ((0 : Int).toNat + (i - (0 + ((t.n : Int) - K).toNat)))) = (bif decide (i < t.n - K.toNat) then t.g (K.toNat + i) else t.g (i - (t.n - K.toNat)))
    rw [decide_eq_false (Nat.not_lt_zero i), show 0 + ((t.n : Int) - K).toNat = t.n - K.toNat by omega, show (0 : Int).toNat + (i - (t.n - K.toNat)) = i - (t.n - K.toNat) by simp]
    rfl
theorem bd_of_valid {p : L.Pt} (h : L.validPt p = true) : L.bd p := by
  unfold L.validPt at h
  rw [Bool.and_eq_true, within_iff, within_iff] at h
  unfold L.bd
  omega
theorem small_of_valid {l : L.Sq L.Pt} (hn : l.n ≤ 1000) (h : L.validPts l = true) : L.small l :=
  ⟨hn, fun i hi => bd_of_valid (allB_iff.1 h i hi)⟩
theorem minTo_le {l : L.Sq L.Pt} : ∀ {i j : Nat}, j ≤ i → ¬ L.cmpPt (l.g j) (L.minTo l i) < 0
  | 0, j, h => by
    obtain rfl : j = 0 := by omega
    rw [cmpPt_lt, L.minTo]; omega
  | i + 1, j, h => by
    rw [L.minTo]
    cases hd : decide (L.cmpPt (l.g (i + 1)) (L.minTo l i) < 0) with
    | false =>
      rw [cond_false]
      by_cases e : j = i + 1
      · rw [e]; exact of_decide_eq_false hd
      · exact minTo_le (by omega)
    | true =>
      rw [cond_true]
      have h1 := of_decide_eq_true hd
      by_cases e : j = i + 1
      · rw [e, cmpPt_lt]; omega
      · have h2 := minTo_le (l := l) (i := i) (j := j) (by omega)
        rw [cmpPt_lt] at h1 h2 ⊢
        omega
structure L.Iso (e : Int) (T : L.Pt → L.Pt) : Prop where
  sg : e = 1 ∨ e = -1
  ds : ∀ a b, L.dist (T a) (T b) = L.dist a b
  cr : ∀ a b c, L.cross (T a) (T b) (T c) = e * L.cross a b c
  on : ∀ a b p, L.on (T a) (T b) (T p) = L.on a b p
  inj : ∀ a b, T a = T b → a = b
def L.sameP (a b : L.Sq L.Pt) : Bool := bif decide ((a.n : Int) = b.n) then L.allB a.n (fun i => L.same (a.g i) (b.g i)) else false
def L.revG (l : L.Sq L.Pt) : L.Sq L.Pt := ⟨l.n, fun k => l.g (l.n - 1 - k)⟩
def L.far (l : L.Sq L.Pt) : Int := L.idx l.n (fun i => !L.same (l.g i) (l.g 0))
def L.flat (l : L.Sq L.Pt) : Bool := bif decide (L.far l < 0) then true else !L.anyB l.n (fun i => !decide (L.cross (l.g 0) (l.g (L.far l).toNat) (l.g i) = 0))
def L.str (l : L.Sq L.Pt) : L.Sq L.Pt := L.thin L.cFlat (L.thin L.cDup l)
def L.outE (l : L.Sq L.Pt) : Int := bif (bif !L.within (l.n : Int) 3 400 then true else !L.validPts l) then 1 else bif L.flat l then 11 else bif (bif decide (((L.str l).n : Int) < 3) then true else !L.simple (L.str l)) then 10 else bif decide ((24 : Int) < ((L.str l).n : Int)) then 2 else 0
def L.outN (l : L.Sq L.Pt) : Nat := bif decide (L.outE l = 0) then (L.str l).n else 0
def L.two2 (l : L.Sq L.Pt) : Prop := ∃ i j, i < l.n ∧ j < l.n ∧ l.g i ≠ l.g j
theorem del_has {c : L.Pt → L.Pt → L.Pt → Bool} {x : L.Sq L.Pt} {i : Nat} {v : L.Pt} (hn : 2 ≤ x.n) (hi : i < x.n) (he : x.g i = x.g (L.next x.n i)) (hv : ∃ k, k < x.n ∧ x.g k = v) : ∃ k, k < x.n - 1 ∧ L.delF x.g i x.n k = v := by
  have key : ∃ k, k < x.n ∧ k ≠ i ∧ x.g k = v := by
    obtain ⟨k, hk, e⟩ := hv
    by_cases h : k = i
    · subst h
      refine ⟨L.next x.n k, next_lt (by omega), fun h => ?_, he.symm.trans e⟩
      unfold L.next at h
      by_cases e2 : k + 1 < x.n
      · rw [Int.tmod_eq_of_lt (by omega) (by omega)] at h
        omega
      · rw [show (k : Int) + 1 = (x.n : Int) by omega, Int.tmod_self] at h
        have : (0 : Int).toNat = 0 := rfl
        omega
    · exact ⟨k, hk, h, e⟩
  obtain ⟨k, hk, hne, e⟩ := key
  rcases Nat.lt_or_ge k i with h | h
  · refine ⟨k, by omega, ?_⟩
    unfold L.delF
    rw [decide_eq_true h, cond_true, e]
  · refine ⟨k - 1, by omega, ?_⟩
    unfold L.delF
    rw [decide_eq_false (show ¬ k - 1 < i by omega), cond_false, decide_eq_true (show k - 1 + 1 < x.n by omega), cond_true, show k - 1 + 1 = k by omega, e]
theorem two2_n {x : L.Sq L.Pt} (h : L.two2 x) : 2 ≤ x.n := by
  obtain ⟨i, j, hi, hj, hne⟩ := h
  have : i ≠ j := fun e => hne (by rw [e])
  omega
theorem del_two {x : L.Sq L.Pt} {i : Nat} (h : L.two2 x) (hi : i < x.n) (he : L.outAt L.cDup x i = true) : L.two2 ⟨x.n - 1, L.delF x.g i x.n⟩ := by
  have hn := two2_n h
  obtain ⟨p, q, hp, hq, hne⟩ := h
  have e : x.g i = x.g (L.next x.n i) := same_eq he
  obtain ⟨a, ha, ea⟩ := del_has (c := L.cDup) hn hi e ⟨p, hp, rfl⟩
  obtain ⟨b, hb, eb⟩ := del_has (c := L.cDup) hn hi e ⟨q, hq, rfl⟩
  exact ⟨a, b, ha, hb, fun h => hne (ea.symm.trans (h.trans eb))⟩
theorem thinF_ind {c : L.Pt → L.Pt → L.Pt → Bool} {Q : L.Sq L.Pt → Prop} (hs : ∀ x i, Q x → i < x.n → L.outAt c x i = true → Q ⟨x.n - 1, L.delF x.g i x.n⟩) : ∀ k x, Q x → Q (L.thinF c k x)
  | 0, _, h => h
  | k + 1, x, h => by
    show Q (bif decide (0 ≤ L.idx x.n (L.outAt c x)) then L.thinF c k ⟨x.n - 1, L.delF x.g (L.idx x.n (L.outAt c x)).toNat x.n⟩ else x)
    rcases idx_cases (f := L.outAt c x) (n := x.n) with ⟨h1, _⟩ | ⟨i, h1, h2, h3, _⟩
    · rw [h1]; exact h
    · rw [h2, decide_eq_true (show (0 : Int) ≤ (i : Int) by omega), cond_true, Int.toNat_natCast]
      exact thinF_ind hs k _ (hs x i h h1 h3)
theorem thin_ind {c : L.Pt → L.Pt → L.Pt → Bool} {Q : L.Sq L.Pt → Prop} (hs : ∀ x i, Q x → i < x.n → L.outAt c x i = true → Q ⟨x.n - 1, L.delF x.g i x.n⟩) {x : L.Sq L.Pt} (h : Q x) : Q (L.thin c x) := thinF_ind hs _ x h
theorem del_allBd {x : L.Sq L.Pt} {i : Nat} (h : L.allBd x) : L.allBd ⟨x.n - 1, L.delF x.g i x.n⟩ := ⟨by show x.n - 1 ≤ 1000; have := h.1; omega, fun k hk => delF_bd (n := x.n) h.2 (Nat.le_refl _) k (by have hk : k < x.n - 1 := hk; omega)⟩
theorem thin_allBd {c : L.Pt → L.Pt → L.Pt → Bool} {x : L.Sq L.Pt} (h : L.allBd x) : L.allBd (L.thin c x) := thin_ind (fun _ _ h _ _ => del_allBd h) h
theorem thin_two {x : L.Sq L.Pt} (h : L.two2 x) : L.two2 (L.thin L.cDup x) := thin_ind (fun _ _ h hi he => del_two h hi he) h
theorem flat_two {l : L.Sq L.Pt} (h : L.flat l = false) (h1 : 1 ≤ l.n) : L.two2 l := by
  unfold L.flat L.far at h
  rcases idx_cases (f := fun i => !L.same (l.g i) (l.g 0)) (n := l.n) with ⟨q1, _⟩ | ⟨i, q1, q2, q3, _⟩
  · rw [q1] at h; cases h
  · refine ⟨i, 0, q1, h1, fun e => ?_⟩
    have q3 : (!L.same (l.g i) (l.g 0)) = true := q3
    rw [e, same_refl] at q3; cases q3
theorem out_of {l : L.Sq L.Pt} (h : (bif !L.within (l.n : Int) 3 400 then true else !L.validPts l) = false) : 3 ≤ l.n ∧ l.n ≤ 400 ∧ L.validPts l = true := by
  rw [bor, Bool.or_eq_false_iff] at h
  have h1 := notF h.1
  unfold L.within at h1
  rw [Bool.and_eq_true, decide_eq_true_eq, decide_eq_true_eq] at h1
  exact ⟨by omega, by omega, notF h.2⟩
theorem flip_n (x : L.Sq L.Pt) : (L.flip x).n = x.n := by
  unfold L.flip
  cases decide (L.areaTo x x.n < 0) <;> rfl
theorem flip_neg {x : L.Sq L.Pt} (h : decide (L.areaTo x x.n < 0) = true) : L.flip x = L.revG x := by unfold L.flip; rw [h]; rfl
theorem flip_pos {x : L.Sq L.Pt} (h : decide (L.areaTo x x.n < 0) = false) : L.flip x = x := by unfold L.flip; rw [h]; rfl
theorem far_lt {l : L.Sq L.Pt} (h : ¬ L.far l < 0) : 0 ≤ L.far l ∧ L.far l < (l.n : Int) := by
  unfold L.far at h ⊢
  rcases idx_cases (f := fun i => !L.same (l.g i) (l.g 0)) (n := l.n) with ⟨q1, _⟩ | ⟨i, q1, q2, q3, _⟩
  · rw [q1] at h; exact absurd (by decide) h
  · rw [q2]; omega
def p_normal_p (l : (L.Sq L.Pt)) : Prop := L.small l ∧ 1 ≤ l.n
def p_normal_q (l : (L.Sq L.Pt)) : Nat → Prop := fun _ => True
def p_normal_n (l : (L.Sq L.Pt)) : Nat → Nat := fun _ => l.n
def p_normal_g (l : (L.Sq L.Pt)) : Nat → Nat → List SV := fun _ k => [.int .i64 (((L.norm l).g k).x), .int .i64 (((L.norm l).g k).y)]
def p_normal_s : List EV → Option (Prop × (Nat → Prop) × (Nat → Nat) × (Nat → Nat → List SV))
  | [.p (.sl 2 l_n l_g)] => some ((∀ i, i < l_n → l_g i = [.int .i64 ((ofPt (l_g i)).x), .int .i64 ((ofPt (l_g i)).y)]) ∧ p_normal_p (⟨l_n, fun i => ofPt (l_g i)⟩ : (L.Sq L.Pt)), p_normal_q (⟨l_n, fun i => ofPt (l_g i)⟩ : (L.Sq L.Pt)), p_normal_n (⟨l_n, fun i => ofPt (l_g i)⟩ : (L.Sq L.Pt)), p_normal_g (⟨l_n, fun i => ofPt (l_g i)⟩ : (L.Sq L.Pt)))
  | _ => none
abbrev p_normal_S : SE.Spec := (specF Nat 0 25 2 p_normal_s)
def p_normal_C : Cfg := { muts := [5, 22], frz := lookN [(5, [5])], specs := lookS [(61, s_cloneP_S), (41, p_area_S), (65, s_minP_S), (48, s_idxPt_S), (66, s_concat_S), (43, p_compare_S)], loops := lookL [], iters := lookI [], rfs := lookR [], nils := lookM [], trs := lookT [(64, s_revP_tr)], ren := fun k => k - 1000 }
theorem p_normal_vc (l : (L.Sq L.Pt)) (hp : p_normal_p l) : vc Try.prog (p_normal_C) (bodyOf Try.f40) (st0 Try.f40 [.p (.sl 2 l.n (fun i => [.int .i64 ((l.g i).x), .int .i64 ((l.g i).y)]))]) (retFresh Try.prog Try.f40 (Nat) (p_normal_q l) 25 2 (p_normal_n l) (p_normal_g l)) :=
  @Eq.mpr _ (((∀ (i : Nat), i < l.n → [SV.int .i64 (l.g i).x, SV.int .i64 (l.g i).y] = [SV.int .i64 (l.g i).x, SV.int .i64 (l.g i).y]) ∧ l.n ≤ (1000000 : Nat)) ∧ ∀ (t : Nat), True → ((∀ (i : Nat), i < l.n → [SV.int .i64 (l.g i).x, SV.int .i64 (l.g i).y] = [SV.int .i64 (l.g i).x, SV.int
 .i64 (l.g i).y]) ∧ L.small (L.Sq.mk l.n fun (i : Nat) ↦ l.g i)) ∧ (decide (L.areaTo (L.Sq.mk l.n fun (i : Nat) ↦ l.g i) l.n < (0 : Int)) = true → ∃ (t : L.Sq L.Pt), (l.n = t.n ∧ ∀ (i : Nat), i < l.n → [SV.int .i64 (l.g i).x, SV.int .i64 (l.g i).y] = [SV.int .i64 (t.g i).x, SV.int .i64 (t.g i).y]) ∧ t.n ≤
 (1000000 : Nat) ∧ ∀ (u : Nat), True → ((∀ (i : Nat), i < t.n → [SV.int .i64 (t.g (t.n - (1 : Nat) - i)).x, SV.int .i64 (t.g (t.n - (1 : Nat) - i)).y] = [SV.int .i64 (t.g (t.n - (1 : Nat) - i)).x, SV.int .i64 (t.g (t.n - (1 : Nat) - i)).y]) ∧ isI (FSpec.mk (fun («as» : List SV) ↦ preO p_compare_s (List.map
 EV.p «as» ++ List.map EV.p [])) fun («as» : List SV) ↦ resO p_compare_s (List.map EV.p «as» ++ List.map EV.p [])) ∧ (1 : Nat) ≤ t.n ∧ t.n ≤ (1000000 : Nat) ∧ ∀ (a b : L.Pt), True ∧ L.fil (FSpec.mk (fun («as» : List SV) ↦ preO p_compare_s (List.map EV.p «as» ++ List.map EV.p [])) fun («as» : List SV) ↦ resO p_compare_s
 (List.map EV.p «as» ++ List.map EV.p [])) [SV.agg [SV.int .i64 a.x, SV.int .i64 a.y], SV.agg [SV.int .i64 b.x, SV.int .i64 b.y]] = L.cmpPt a b) ∧ ((∀ (i : Nat), i < t.n → [SV.int .i64 (t.g (t.n - (1 : Nat) - i)).x, SV.int .i64 (t.g (t.n - (1 : Nat) - i)).y] = [SV.int
 .i64 (t.g (t.n - (1 : Nat) - i)).x, SV.int .i64 (t.g (t.n - (1 : Nat) - i)).y]) ∧ t.n ≤ (1000000 : Nat)) ∧ ((0 : Int) ≤ L.ptIdx (L.Sq.mk t.n fun (i : Nat) ↦ t.g (t.n - (1 : Nat) - i)) (L.minTo (L.Sq.mk t.n fun (i : Nat) ↦ t.g (t.n - (1 : Nat) - i)) (t.n - (1 : Nat))) ∧ L.ptIdx (L.Sq.mk t.n fun (i : Nat) ↦ t.g (t.n - (1 : Nat) - i)) (L.minTo (L.Sq.mk t.n fun (i : Nat) ↦
 t.g (t.n - (1 : Nat) - i)) (t.n - (1 : Nat))) ≤ (↑t.n : Int) ∧ (↑t.n : Int) ≤ (↑t.n : Int)) ∧ ((0 : Int) ≤ (0 : Int) ∧ (0 : Int) ≤ L.ptIdx (L.Sq.mk t.n fun (i : Nat) ↦ t.g (t.n - (1 : Nat) - i)) (L.minTo (L.Sq.mk t.n fun (i : Nat) ↦ t.g (t.n - (1 : Nat) - i)) (t.n - (1 : Nat))) ∧ L.ptIdx (L.Sq.mk t.n fun (i : Nat) ↦ t.g (t.n - (1 : Nat) - i)) (L.minTo (L.Sq.mk t.n fun (i : Nat) ↦ t.g (t.n - (1 :
 Nat) - i)) (t.n - (1 : Nat))) ≤ (↑t.n : Int)) ∧ (((∀ (i : Nat), i < Int.toNat ((↑t.n : Int) - L.ptIdx (L.Sq.mk t.n fun (i : Nat) ↦ t.g (t.n - (1 : Nat) - i)) (L.minTo (L.Sq.mk t.n fun (i : Nat) ↦ t.g (t.n - (1 : Nat) - i)) (t.n - (1 : Nat)))) → [SV.int .i64 (t.g (t.n - (1 : Nat) - (Int.toNat (L.ptIdx (L.Sq.mk t.n fun (i : Nat) ↦ t.g (t.n - (1 : Nat) - i)) (L.minTo (L.Sq.mk t.n fun
 (i : Nat) ↦ t.g (t.n - (1 : Nat) - i)) (t.n - (1 : Nat)))) + i))).x, SV.int .i64 (t.g (t.n - (1 : Nat) - (Int.toNat (L.ptIdx (L.Sq.mk t.n fun (i : Nat) ↦ t.g (t.n - (1 : Nat) - i)) (L.minTo (L.Sq.mk t.n fun (i : Nat) ↦ t.g (t.n - (1 : Nat) - i)) (t.n - (1 : Nat)))) + i))).y] = [SV.int .i64 (t.g (t.n - (1 : Nat) - (Int.toNat (L.ptIdx (L.Sq.mk t.n fun (i : Nat) ↦ t.g
 (t.n - (1 : Nat) - i)) (L.minTo (L.Sq.mk t.n fun (i : Nat) ↦ t.g (t.n - (1 : Nat) - i)) (t.n - (1 : Nat)))) + i))).x, SV.int .i64 (t.g (t.n - (1 : Nat) - (Int.toNat (L.ptIdx (L.Sq.mk t.n fun (i : Nat) ↦ t.g (t.n - (1 : Nat) - i)) (L.minTo (L.Sq.mk t.n fun (i : Nat) ↦ t.g (t.n - (1 : Nat) - i)) (t.n - (1 : Nat)))) + i))).y]) ∧ ∀ (i : Nat), i < Int.toNat (L.ptIdx (L.Sq.mk t.n fun (i
 : Nat) ↦ t.g (t.n - (1 : Nat) - i)) (L.minTo (L.Sq.mk t.n fun (i : Nat) ↦ t.g (t.n - (1 : Nat) - i)) (t.n - (1 : Nat))) - (0 : Int)) → [SV.int .i64 (t.g (t.n - (1 : Nat) - (Int.toNat (0 : Int) + i))).x, SV.int .i64 (t.g (t.n - (1 : Nat) - (Int.toNat (0 : Int) + i))).y] = [SV.int .i64 (t.g (t.n - (1 : Nat) - (Int.toNat (0 : Int) + i))).x, SV.int
 .i64 (t.g (t.n - (1 : Nat) - (Int.toNat (0 : Int) + i))).y]) ∧ (1 : Nat) ≤ (L.two (L.Sq.mk (Int.toNat ((↑t.n : Int) - L.ptIdx (L.Sq.mk t.n fun (i : Nat) ↦ t.g (t.n - (1 : Nat) - i)) (L.minTo (L.Sq.mk t.n fun (i : Nat) ↦ t.g (t.n - (1 : Nat) - i)) (t.n - (1 : Nat))))) fun (i : Nat) ↦ t.g (t.n - (1 : Nat) - (Int.toNat (L.ptIdx (L.Sq.mk t.n fun (i : Nat) ↦ t.g (t.n - (1 : Nat) - i))
 (L.minTo (L.Sq.mk t.n fun (i : Nat) ↦ t.g (t.n - (1 : Nat) - i)) (t.n - (1 : Nat)))) + i))) (L.Sq.mk (Int.toNat (L.ptIdx (L.Sq.mk t.n fun (i : Nat) ↦ t.g (t.n - (1 : Nat) - i)) (L.minTo (L.Sq.mk t.n fun (i : Nat) ↦ t.g (t.n - (1 : Nat) - i)) (t.n - (1 : Nat))) - (0 : Int))) fun (i : Nat) ↦ t.g (t.n - (1 : Nat) - (Int.toNat (0 : Int) + i))) (0 : Nat)).n + (L.two (L.Sq.mk (Int.toNat ((↑t.n : Int) -
 L.ptIdx (L.Sq.mk t.n fun (i : Nat) ↦ t.g (t.n - (1 : Nat) - i)) (L.minTo (L.Sq.mk t.n fun (i : Nat) ↦ t.g (t.n - (1 : Nat) - i)) (t.n - (1 : Nat))))) fun (i : Nat) ↦ t.g (t.n - (1 : Nat) - (Int.toNat (L.ptIdx (L.Sq.mk t.n fun (i : Nat) ↦ t.g (t.n - (1 : Nat) - i)) (L.minTo (L.Sq.mk t.n fun (i : Nat) ↦ t.g (t.n - (1 : Nat) - i)) (t.n - (1 : Nat)))) + i))) (L.Sq.mk (Int.toNat (L.ptIdx (L.Sq.mk t.n
 fun (i : Nat) ↦ t.g (t.n - (1 : Nat) - i)) (L.minTo (L.Sq.mk t.n fun (i : Nat) ↦ t.g (t.n - (1 : Nat) - i)) (t.n - (1 : Nat))) - (0 : Int))) fun (i : Nat) ↦ t.g (t.n - (1 : Nat) - (Int.toNat (0 : Int) + i))) (1 : Nat)).n ∧ (L.two (L.Sq.mk (Int.toNat ((↑t.n : Int) - L.ptIdx (L.Sq.mk t.n fun (i : Nat) ↦ t.g (t.n - (1 : Nat) - i)) (L.minTo (L.Sq.mk t.n fun (i : Nat) ↦ t.g (t.n - (1 : Nat) - i)) (t.n
 - (1 : Nat))))) fun (i : Nat) ↦ t.g (t.n - (1 : Nat) - (Int.toNat (L.ptIdx (L.Sq.mk t.n fun (i : Nat) ↦ t.g (t.n - (1 : Nat) - i)) (L.minTo (L.Sq.mk t.n fun (i : Nat) ↦ t.g (t.n - (1 : Nat) - i)) (t.n - (1 : Nat)))) + i))) (L.Sq.mk (Int.toNat (L.ptIdx (L.Sq.mk t.n fun (i : Nat) ↦ t.g (t.n - (1 : Nat) - i)) (L.minTo (L.Sq.mk t.n fun (i : Nat) ↦ t.g (t.n - (1 : Nat) - i)) (t.n - (1 : Nat))) - (0 :
 Int))) fun (i : Nat) ↦ t.g (t.n - (1 : Nat) - (Int.toNat (0 : Int) + i))) (0 : Nat)).n ≤ (1000000 : Nat) ∧ (L.two (L.Sq.mk (Int.toNat ((↑t.n : Int) - L.ptIdx (L.Sq.mk t.n fun (i : Nat) ↦ t.g (t.n - (1 : Nat) - i)) (L.minTo (L.Sq.mk t.n fun (i : Nat) ↦ t.g (t.n - (1 : Nat) - i)) (t.n - (1 : Nat))))) fun (i : Nat) ↦ t.g (t.n - (1 : Nat) - (Int.toNat (L.ptIdx (L.Sq.mk t.n fun (i : Nat) ↦ t.g (t.n -
 (1 : Nat) - i)) (L.minTo (L.Sq.mk t.n fun (i : Nat) ↦ t.g (t.n - (1 : Nat) - i)) (t.n - (1 : Nat)))) + i))) (L.Sq.mk (Int.toNat (L.ptIdx (L.Sq.mk t.n fun (i : Nat) ↦ t.g (t.n - (1 : Nat) - i)) (L.minTo (L.Sq.mk t.n fun (i : Nat) ↦ t.g (t.n - (1 : Nat) - i)) (t.n - (1 : Nat))) - (0 : Int))) fun (i : Nat) ↦ t.g (t.n - (1 : Nat) - (Int.toNat (0 : Int) + i))) (1 : Nat)).n ≤ (1000000 : Nat)) ∧ ∀ (t_1 :
 Nat), True → ∃ (t_2 : Nat), ((L.catTo (L.two (L.Sq.mk (Int.toNat ((↑t.n : Int) - L.ptIdx (L.Sq.mk t.n fun (i : Nat) ↦ t.g (t.n - (1 : Nat) - i)) (L.minTo (L.Sq.mk t.n fun (i : Nat) ↦ t.g (t.n - (1 : Nat) - i)) (t.n - (1 : Nat))))) fun (i : Nat) ↦ t.g (t.n - (1 : Nat) - (Int.toNat (L.ptIdx (L.Sq.mk t.n fun (i : Nat) ↦ t.g (t.n - (1 : Nat) - i)) (L.minTo (L.Sq.mk t.n fun (i : Nat) ↦ t.g (t.n - (1 :
 Nat) - i)) (t.n - (1 : Nat)))) + i))) (L.Sq.mk (Int.toNat (L.ptIdx (L.Sq.mk t.n fun (i : Nat) ↦ t.g (t.n - (1 : Nat) - i)) (L.minTo (L.Sq.mk t.n fun (i : Nat) ↦ t.g (t.n - (1 : Nat) - i)) (t.n - (1 : Nat))) - (0 : Int))) fun (i : Nat) ↦ t.g (t.n - (1 : Nat) - (Int.toNat (0 : Int) + i)))) (2 : Nat)).n = l.n ∧ ∀ (i : Nat), i < (L.catTo (L.two (L.Sq.mk (Int.toNat ((↑t.n : Int) - L.ptIdx (L.Sq.mk t.n
 fun (i : Nat) ↦ t.g (t.n - (1 : Nat) - i)) (L.minTo (L.Sq.mk t.n fun (i : Nat) ↦ t.g (t.n - (1 : Nat) - i)) (t.n - (1 : Nat))))) fun (i : Nat) ↦ t.g (t.n - (1 : Nat) - (Int.toNat (L.ptIdx (L.Sq.mk t.n fun (i : Nat) ↦ t.g (t.n - (1 : Nat) - i)) (L.minTo (L.Sq.mk t.n fun (i : Nat) ↦ t.g (t.n - (1 : Nat) - i)) (t.n - (1 : Nat)))) + i))) (L.Sq.mk (Int.toNat (L.ptIdx (L.Sq.mk t.n fun (i : Nat) ↦ t.g
 (t.n - (1 : Nat) - i)) (L.minTo (L.Sq.mk t.n fun (i : Nat) ↦ t.g (t.n - (1 : Nat) - i)) (t.n - (1 : Nat))) - (0 : Int))) fun (i : Nat) ↦ t.g (t.n - (1 : Nat) - (Int.toNat (0 : Int) + i)))) (2 : Nat)).n → [SV.int .i64 ((L.catTo (L.two (L.Sq.mk (Int.toNat ((↑t.n : Int) - L.ptIdx (L.Sq.mk t.n fun (i : Nat) ↦ t.g (t.n - (1 : Nat) - i)) (L.minTo (L.Sq.mk t.n fun (i : Nat) ↦ t.g (t.n -
 (1 : Nat) - i)) (t.n - (1 : Nat))))) fun (i : Nat) ↦ t.g (t.n - (1 : Nat) - (Int.toNat (L.ptIdx (L.Sq.mk t.n fun (i : Nat) ↦ t.g (t.n - (1 : Nat) - i)) (L.minTo (L.Sq.mk t.n fun (i : Nat) ↦ t.g (t.n - (1 : Nat) - i)) (t.n - (1 : Nat)))) + i))) (L.Sq.mk (Int.toNat (L.ptIdx (L.Sq.mk t.n fun (i : Nat) ↦ t.g (t.n - (1 : Nat) - i)) (L.minTo (L.Sq.mk t.n fun (i : Nat) ↦ t.g (t.n - (1 : Nat) - i)) (t.n -
 (1 : Nat))) - (0 : Int))) fun (i : Nat) ↦ t.g (t.n - (1 : Nat) - (Int.toNat (0 : Int) + i)))) (2 : Nat)).g i).x, SV.int .i64 ((L.catTo (L.two (L.Sq.mk (Int.toNat ((↑t.n : Int) - L.ptIdx (L.Sq.mk t.n fun (i : Nat) ↦ t.g (t.n - (1 : Nat) - i)) (L.minTo (L.Sq.mk t.n fun (i : Nat) ↦ t.g (t.n - (1 : Nat) - i)) (t.n - (1 : Nat))))) fun (i : Nat) ↦ t.g (t.n - (1 : Nat) - (Int.toNat
 (L.ptIdx (L.Sq.mk t.n fun (i : Nat) ↦ t.g (t.n - (1 : Nat) - i)) (L.minTo (L.Sq.mk t.n fun (i : Nat) ↦ t.g (t.n - (1 : Nat) - i)) (t.n - (1 : Nat)))) + i))) (L.Sq.mk (Int.toNat (L.ptIdx (L.Sq.mk t.n fun (i : Nat) ↦ t.g (t.n - (1 : Nat) - i)) (L.minTo (L.Sq.mk t.n fun (i : Nat) ↦ t.g (t.n - (1 : Nat) - i)) (t.n - (1 : Nat))) - (0 : Int))) fun (i : Nat) ↦ t.g (t.n - (1 : Nat) - (Int.toNat (0 : Int)
 + i)))) (2 : Nat)).g i).y] = [SV.int .i64 ((L.norm l).g i).x, SV.int .i64 ((L.norm l).g i).y]) ∧ True) ∧ (decide (L.areaTo (L.Sq.mk l.n fun (i : Nat) ↦ l.g i) l.n < (0 : Int)) = false → ((∀ (i : Nat), i < l.n → [SV.int .i64 (l.g i).x, SV.int .i64 (l.g i).y] = [SV.int .i64 (l.g i).x, SV.int
 .i64 (l.g i).y]) ∧ isI (FSpec.mk (fun («as» : List SV) ↦ preO p_compare_s (List.map EV.p «as» ++ List.map EV.p [])) fun («as» : List SV) ↦ resO p_compare_s (List.map EV.p «as» ++ List.map EV.p [])) ∧ (1 : Nat) ≤ l.n ∧ l.n ≤ (1000000 : Nat) ∧ ∀ (a b : L.Pt), True ∧ L.fil (FSpec.mk (fun («as» : List SV) ↦ preO
 p_compare_s (List.map EV.p «as» ++ List.map EV.p [])) fun («as» : List SV) ↦ resO p_compare_s (List.map EV.p «as» ++ List.map EV.p [])) [SV.agg [SV.int .i64 a.x, SV.int .i64 a.y], SV.agg [SV.int .i64 b.x, SV.int .i64 b.y]] = L.cmpPt a b) ∧ ((∀ (i : Nat), i < l.n → [SV.int
 .i64 (l.g i).x, SV.int .i64 (l.g i).y] = [SV.int .i64 (l.g i).x, SV.int .i64 (l.g i).y]) ∧ l.n ≤ (1000000 : Nat)) ∧ ((0 : Int) ≤ L.ptIdx (L.Sq.mk l.n fun (i : Nat) ↦ l.g i) (L.minTo (L.Sq.mk l.n fun (i : Nat) ↦ l.g i) (l.n - (1 : Nat))) ∧ L.ptIdx (L.Sq.mk l.n fun (i : Nat) ↦ l.g i) (L.minTo (L.Sq.mk l.n fun (i : Nat) ↦ l.g i) (l.n - (1 :
 Nat))) ≤ (↑l.n : Int) ∧ (↑l.n : Int) ≤ (↑l.n : Int)) ∧ ((0 : Int) ≤ (0 : Int) ∧ (0 : Int) ≤ L.ptIdx (L.Sq.mk l.n fun (i : Nat) ↦ l.g i) (L.minTo (L.Sq.mk l.n fun (i : Nat) ↦ l.g i) (l.n - (1 : Nat))) ∧ L.ptIdx (L.Sq.mk l.n fun (i : Nat) ↦ l.g i) (L.minTo (L.Sq.mk l.n fun (i : Nat) ↦ l.g i) (l.n - (1 : Nat))) ≤ (↑l.n : Int)) ∧ (((∀ (i : Nat), i < Int.toNat ((↑l.n : Int) - L.ptIdx (L.Sq.mk l.n fun
 (i : Nat) ↦ l.g i) (L.minTo (L.Sq.mk l.n fun (i : Nat) ↦ l.g i) (l.n - (1 : Nat)))) → [SV.int .i64 (l.g (Int.toNat (L.ptIdx (L.Sq.mk l.n fun (i : Nat) ↦ l.g i) (L.minTo (L.Sq.mk l.n fun (i : Nat) ↦ l.g i) (l.n - (1 : Nat)))) + i)).x, SV.int .i64 (l.g (Int.toNat (L.ptIdx (L.Sq.mk l.n fun (i : Nat) ↦ l.g i) (L.minTo (L.Sq.mk l.n fun (i : Nat) ↦ l.g i) (l.n - (1 :
 Nat)))) + i)).y] = [SV.int .i64 (l.g (Int.toNat (L.ptIdx (L.Sq.mk l.n fun (i : Nat) ↦ l.g i) (L.minTo (L.Sq.mk l.n fun (i : Nat) ↦ l.g i) (l.n - (1 : Nat)))) + i)).x, SV.int .i64 (l.g (Int.toNat (L.ptIdx (L.Sq.mk l.n fun (i : Nat) ↦ l.g i) (L.minTo (L.Sq.mk l.n fun (i : Nat) ↦ l.g i) (l.n - (1 : Nat)))) + i)).y]) ∧ ∀ (i : Nat), i < Int.toNat (L.ptIdx (L.Sq.mk l.n
 fun (i : Nat) ↦ l.g i) (L.minTo (L.Sq.mk l.n fun (i : Nat) ↦ l.g i) (l.n - (1 : Nat))) - (0 : Int)) → [SV.int .i64 (l.g (Int.toNat (0 : Int) + i)).x, SV.int .i64 (l.g (Int.toNat (0 : Int) + i)).y] = [SV.int .i64 (l.g (Int.toNat (0 : Int) + i)).x, SV.int .i64 (l.g (Int.toNat (0 : Int) + i)).y]) ∧ (1 : Nat) ≤ (L.two (L.Sq.mk (Int.toNat
 ((↑l.n : Int) - L.ptIdx (L.Sq.mk l.n fun (i : Nat) ↦ l.g i) (L.minTo (L.Sq.mk l.n fun (i : Nat) ↦ l.g i) (l.n - (1 : Nat))))) fun (i : Nat) ↦ l.g (Int.toNat (L.ptIdx (L.Sq.mk l.n fun (i : Nat) ↦ l.g i) (L.minTo (L.Sq.mk l.n fun (i : Nat) ↦ l.g i) (l.n - (1 : Nat)))) + i)) (L.Sq.mk (Int.toNat (L.ptIdx (L.Sq.mk l.n fun (i : Nat) ↦ l.g i) (L.minTo (L.Sq.mk l.n fun (i : Nat) ↦ l.g i) (l.n - (1 :
 Nat))) - (0 : Int))) fun (i : Nat) ↦ l.g (Int.toNat (0 : Int) + i)) (0 : Nat)).n + (L.two (L.Sq.mk (Int.toNat ((↑l.n : Int) - L.ptIdx (L.Sq.mk l.n fun (i : Nat) ↦ l.g i) (L.minTo (L.Sq.mk l.n fun (i : Nat) ↦ l.g i) (l.n - (1 : Nat))))) fun (i : Nat) ↦ l.g (Int.toNat (L.ptIdx (L.Sq.mk l.n fun (i : Nat) ↦ l.g i) (L.minTo (L.Sq.mk l.n fun (i : Nat) ↦ l.g i) (l.n - (1 : Nat)))) + i)) (L.Sq.mk
 (Int.toNat (L.ptIdx (L.Sq.mk l.n fun (i : Nat) ↦ l.g i) (L.minTo (L.Sq.mk l.n fun (i : Nat) ↦ l.g i) (l.n - (1 : Nat))) - (0 : Int))) fun (i : Nat) ↦ l.g (Int.toNat (0 : Int) + i)) (1 : Nat)).n ∧ (L.two (L.Sq.mk (Int.toNat ((↑l.n : Int) - L.ptIdx (L.Sq.mk l.n fun (i : Nat) ↦ l.g i) (L.minTo (L.Sq.mk l.n fun (i : Nat) ↦ l.g i) (l.n - (1 : Nat))))) fun (i : Nat) ↦ l.g (Int.toNat (L.ptIdx (L.Sq.mk
 l.n fun (i : Nat) ↦ l.g i) (L.minTo (L.Sq.mk l.n fun (i : Nat) ↦ l.g i) (l.n - (1 : Nat)))) + i)) (L.Sq.mk (Int.toNat (L.ptIdx (L.Sq.mk l.n fun (i : Nat) ↦ l.g i) (L.minTo (L.Sq.mk l.n fun (i : Nat) ↦ l.g i) (l.n - (1 : Nat))) - (0 : Int))) fun (i : Nat) ↦ l.g (Int.toNat (0 : Int) + i)) (0 : Nat)).n ≤ (1000000 : Nat) ∧ (L.two (L.Sq.mk (Int.toNat ((↑l.n : Int) - L.ptIdx (L.Sq.mk l.n fun (i : Nat) ↦
 l.g i) (L.minTo (L.Sq.mk l.n fun (i : Nat) ↦ l.g i) (l.n - (1 : Nat))))) fun (i : Nat) ↦ l.g (Int.toNat (L.ptIdx (L.Sq.mk l.n fun (i : Nat) ↦ l.g i) (L.minTo (L.Sq.mk l.n fun (i : Nat) ↦ l.g i) (l.n - (1 : Nat)))) + i)) (L.Sq.mk (Int.toNat (L.ptIdx (L.Sq.mk l.n fun (i : Nat) ↦ l.g i) (L.minTo (L.Sq.mk l.n fun (i : Nat) ↦ l.g i) (l.n - (1 : Nat))) - (0 : Int))) fun (i : Nat) ↦ l.g (Int.toNat (0 :
 Int) + i)) (1 : Nat)).n ≤ (1000000 : Nat)) ∧ ∀ (t : Nat), True → ∃ (t : Nat), ((L.catTo (L.two (L.Sq.mk (Int.toNat ((↑l.n : Int) - L.ptIdx (L.Sq.mk l.n fun (i : Nat) ↦ l.g i) (L.minTo (L.Sq.mk l.n fun (i : Nat) ↦ l.g i) (l.n - (1 : Nat))))) fun (i : Nat) ↦ l.g (Int.toNat (L.ptIdx (L.Sq.mk l.n fun (i : Nat) ↦ l.g i) (L.minTo (L.Sq.mk l.n fun (i : Nat) ↦ l.g i) (l.n - (1 : Nat)))) + i)) (L.Sq.mk
 (Int.toNat (L.ptIdx (L.Sq.mk l.n fun (i : Nat) ↦ l.g i) (L.minTo (L.Sq.mk l.n fun (i : Nat) ↦ l.g i) (l.n - (1 : Nat))) - (0 : Int))) fun (i : Nat) ↦ l.g (Int.toNat (0 : Int) + i))) (2 : Nat)).n = l.n ∧ ∀ (i : Nat), i < (L.catTo (L.two (L.Sq.mk (Int.toNat ((↑l.n : Int) - L.ptIdx (L.Sq.mk l.n fun (i : Nat) ↦ l.g i) (L.minTo (L.Sq.mk l.n fun (i : Nat) ↦ l.g i) (l.n - (1 : Nat))))) fun (i : Nat) ↦
 l.g (Int.toNat (L.ptIdx (L.Sq.mk l.n fun (i : Nat) ↦ l.g i) (L.minTo (L.Sq.mk l.n fun (i : Nat) ↦ l.g i) (l.n - (1 : Nat)))) + i)) (L.Sq.mk (Int.toNat (L.ptIdx (L.Sq.mk l.n fun (i : Nat) ↦ l.g i) (L.minTo (L.Sq.mk l.n fun (i : Nat) ↦ l.g i) (l.n - (1 : Nat))) - (0 : Int))) fun (i : Nat) ↦ l.g (Int.toNat (0 : Int) + i))) (2 : Nat)).n → [SV.int .i64 ((L.catTo (L.two (L.Sq.mk
 (Int.toNat ((↑l.n : Int) - L.ptIdx (L.Sq.mk l.n fun (i : Nat) ↦ l.g i) (L.minTo (L.Sq.mk l.n fun (i : Nat) ↦ l.g i) (l.n - (1 : Nat))))) fun (i : Nat) ↦ l.g (Int.toNat (L.ptIdx (L.Sq.mk l.n fun (i : Nat) ↦ l.g i) (L.minTo (L.Sq.mk l.n fun (i : Nat) ↦ l.g i) (l.n - (1 : Nat)))) + i)) (L.Sq.mk (Int.toNat (L.ptIdx (L.Sq.mk l.n fun (i : Nat) ↦ l.g i) (L.minTo (L.Sq.mk l.n fun (i : Nat) ↦ l.g i) (l.n -
 (1 : Nat))) - (0 : Int))) fun (i : Nat) ↦ l.g (Int.toNat (0 : Int) + i))) (2 : Nat)).g i).x, SV.int .i64 ((L.catTo (L.two (L.Sq.mk (Int.toNat ((↑l.n : Int) - L.ptIdx (L.Sq.mk l.n fun (i : Nat) ↦ l.g i) (L.minTo (L.Sq.mk l.n fun (i : Nat) ↦ l.g i) (l.n - (1 : Nat))))) fun (i : Nat) ↦ l.g (Int.toNat (L.ptIdx (L.Sq.mk l.n fun (i : Nat) ↦ l.g i) (L.minTo (L.Sq.mk l.n fun (i : Nat) ↦
 l.g i) (l.n - (1 : Nat)))) + i)) (L.Sq.mk (Int.toNat (L.ptIdx (L.Sq.mk l.n fun (i : Nat) ↦ l.g i) (L.minTo (L.Sq.mk l.n fun (i : Nat) ↦ l.g i) (l.n - (1 : Nat))) - (0 : Int))) fun (i : Nat) ↦ l.g (Int.toNat (0 : Int) + i))) (2 : Nat)).g i).y] = [SV.int .i64 ((L.norm l).g i).x, SV.int .i64 ((L.norm l).g i).y]) ∧ True)) (by kernel_rfl) (by
    obtain ⟨hs, h1⟩ := hp
    have hn := hs.1
    refine ⟨⟨fun _ _ => rfl, by omega⟩, fun _ _ => ⟨⟨fun _ _ => rfl, hs⟩, fun hA => ?_, fun hA => ?_⟩⟩
    · have fl : L.flip l = ⟨l.n, fun k => l.g (l.n - 1 - k)⟩ := by unfold L.flip; rw [hA]; rfl
      obtain ⟨i0, k1, k2, _⟩ := minIdx (l := ⟨l.n, fun k => l.g (l.n - 1 - k)⟩) h1
      have k1 : i0 < l.n := k1
      obtain ⟨q, c1, c2⟩ := norm_cat (t := ⟨l.n, fun k => l.g (l.n - 1 - k)⟩) (K := L.ptIdx ⟨l.n, fun k => l.g (l.n - 1 - k)⟩ (L.minTo ⟨l.n, fun k => l.g (l.n - 1 - k)⟩ (l.n - 1))) (by rw [k2]; omega) (by rw [k2]; show (i0 : Int) ≤ (l.n : Int); omega) h1 (by show l.n ≤ 1000000; omega)
      have a1 : 0 ≤ L.ptIdx ⟨l.n, fun k => l.g (l.n - 1 - k)⟩ (L.minTo ⟨l.n, fun k => l.g (l.n - 1 - k)⟩ (l.n - 1)) := by rw [k2]; omega
      have a2 : L.ptIdx ⟨l.n, fun k => l.g (l.n - 1 - k)⟩ (L.minTo ⟨l.n, fun k => l.g (l.n - 1 - k)⟩ (l.n - 1)) ≤ (l.n : Int) := by rw [k2]; omega
      refine ⟨l, ⟨rfl, fun _ _ => rfl⟩, by omega, fun _ _ => ⟨⟨fun _ _ => rfl, isI_of p_compare_I _, h1, by omega, fun _ _ => ⟨trivial, rfl⟩⟩, ⟨fun _ _ => rfl, by omega⟩, ⟨a1, a2, Int.le_refl _⟩, ⟨Int.le_refl _, a1, a2⟩, ⟨⟨fun _ _ => rfl, fun _ _ => rfl⟩, q⟩, fun _ _ => ⟨(0 : Nat), ⟨c1, fun i _ => ?_⟩, trivial⟩⟩⟩
      have w : (L.norm l).g i = (L.rot ⟨l.n, fun k => l.g (l.n - 1 - k)⟩ (L.ptIdx ⟨l.n, fun k => l.g (l.n - 1 - k)⟩ (L.minTo ⟨l.n, fun k => l.g (l.n - 1 - k)⟩ (l.n - 1))).toNat).g i := by
        show (L.rot (L.flip l) (L.minK (L.flip l))).g i = _
        unfold L.minK
        rw [fl]
      rw [w, ← c2 i]
    · have fl : L.flip l = l := by unfold L.flip; rw [hA]; rfl
      obtain ⟨i0, k1, k2, _⟩ := minIdx (l := l) h1
      obtain ⟨q, c1, c2⟩ := norm_cat (t := l) (K := L.ptIdx l (L.minTo l (l.n - 1))) (by rw [k2]; omega) (by rw [k2]; omega) h1 (by omega)
      have a1 : 0 ≤ L.ptIdx l (L.minTo l (l.n - 1)) := by rw [k2]; omega
      have a2 : L.ptIdx l (L.minTo l (l.n - 1)) ≤ (l.n : Int) := by rw [k2]; omega
      refine ⟨⟨fun _ _ => rfl, isI_of p_compare_I _, h1, by omega, fun _ _ => ⟨trivial, rfl⟩⟩, ⟨fun _ _ => rfl, by omega⟩, ⟨a1, a2, Int.le_refl _⟩, ⟨Int.le_refl _, a1, a2⟩, ⟨⟨fun _ _ => rfl, fun _ _ => rfl⟩, q⟩, fun _ _ => ⟨(0 : Nat), ⟨c1, fun i _ => ?_⟩, trivial⟩⟩
      have w : (L.norm l).g i = (L.rot l (L.ptIdx l (L.minTo l (l.n - 1))).toNat).g i := by
        show (L.rot (L.flip l) (L.minK (L.flip l))).g i = _
        unfold L.minK
        rw [fl]
      rw [w, ← c2 i])
theorem p_normal_ok : SpecOk Try.prog 40 p_normal_S := freshX Try.func40 (c := bodyOf Try.f40) (by kernel_rfl) mixed (fun args p q n g hs hp => by
  unfold p_normal_s at hs
  split at hs
  · cases hs; exact ⟨_, _, p_normal_vc _ hp.2, (.p (.sl hp.1) .nil), ⟨show SpecsL Try.prog _ from (SpecsL.cons s_cloneP_ok s_cloneP_en (SpecsL.cons p_area_ok p_area_en (SpecsL.cons s_minP_ok s_minP_en (SpecsL.cons s_idxPt_ok s_idxPt_en (SpecsL.cons s_concat_ok s_concat_en (SpecsL.cons p_compare_ok p_compare_en SpecsL.nil)))))), rfl, ⟨show ItersL Try.prog _ from ItersL.nil, (show TrsL Try.prog _ from (TrsL.cons s_revP_tok s_revP_en TrsL.nil))⟩⟩⟩
  · cases hs)
theorem p_normal_en : Enters Try.prog 40 := fun args w => by kernel_rfl
def r1_SamePoints_p (a : (L.Sq L.Pt)) (b : (L.Sq L.Pt)) : Prop := a.n ≤ 1000000
def r1_SamePoints_r (a : (L.Sq L.Pt)) (b : (L.Sq L.Pt)) : SV := .bool (L.sameP a b)
def r1_SamePoints_s : List EV → Option (Prop × SV)
  | [.p (.sl 2 a_n a_g), .p (.sl 2 b_n b_g)] => some ((∀ i, i < a_n → a_g i = [.int .i64 ((ofPt (a_g i)).x), .int .i64 ((ofPt (a_g i)).y)]) ∧ (∀ i, i < b_n → b_g i = [.int .i64 ((ofPt (b_g i)).x), .int .i64 ((ofPt (b_g i)).y)]) ∧ r1_SamePoints_p (⟨a_n, fun i => ofPt (a_g i)⟩ : (L.Sq L.Pt)) (⟨b_n, fun i => ofPt (b_g i)⟩ : (L.Sq L.Pt)), r1_SamePoints_r (⟨a_n, fun i => ofPt (a_g i)⟩ : (L.Sq L.Pt)) (⟨b_n, fun i => ofPt (b_g i)⟩ : (L.Sq L.Pt)))
  | _ => none
abbrev r1_SamePoints_S : SE.Spec := (specO r1_SamePoints_s)
def r1_SamePoints_C : Cfg := { muts := [], frz := lookN [], specs := lookS [], loops := fun _ => none, iters := lookI [], rfs := lookR [], nils := lookM [] }
theorem r1_SamePoints_vc (a : (L.Sq L.Pt)) (b : (L.Sq L.Pt)) (hp : r1_SamePoints_p a b) : vc Try.prog ({ r1_SamePoints_C with loops := lookL [(4, { T := Nat, keep := [0, 1], keepO := [], chg := fun i => [(5, .p (.int .i64 (i : Int)))], own := fun _ => [], inv := fun i => i ≤ a.n ∧ ∀ j, j < i → L.same (a.g j) (b.g j) = true, mu := fun i => a.n - i })], rfs := lookR [] }) (bodyOf Try.f15) (st0 Try.f15 [.p (.sl 2 a.n (fun i => [.int .i64 ((a.g i).x), .int .i64 ((a.g i).y)])), .p (.sl 2 b.n (fun i => [.int .i64 ((b.g i).x), .int .i64 ((b.g i).y)]))]) (retFn Try.prog Try.f15 (r1_SamePoints_r a b)) :=
  @Eq.mpr _ (((!decide ((↑a.n : Int) = (↑b.n : Int))) = true → false = L.sameP a b) ∧ ((!decide ((↑a.n : Int) = (↑b.n : Int))) = false → (∃ (g : Nat), (0 : Int) = (↑g : Int) ∧ g ≤ a.n ∧ ∀ (j : Nat), j < g → L.same (a.g j) (b.g j) = true) ∧ ∀ (g : Nat), (g ≤ a.n ∧ ∀ (j : Nat), j < g → L.same (a.g j) (b.g j) = true) → (decide ((↑g : Int) < (↑a.n : Int)) =
 true → ((0 : Int) ≤ (↑g : Int) ∧ (↑g : Int) < (↑a.n : Int)) ∧ ((0 : Int) ≤ (↑g : Int) ∧ (↑g : Int) < (↑b.n : Int)) ∧ ((!(decide ((a.g (Int.toNat (↑g : Int))).x = (b.g (Int.toNat (↑g : Int))).x) && decide ((a.g (Int.toNat (↑g : Int))).y = (b.g (Int.toNat (↑g : Int))).y))) = true → false = L.sameP a b) ∧ ((!(decide ((a.g (Int.toNat (↑g : Int))).x = (b.g
 (Int.toNat (↑g : Int))).x) && decide ((a.g (Int.toNat (↑g : Int))).y = (b.g (Int.toNat (↑g : Int))).y))) = false → InK .i64 ((↑g : Int) + (1 : Int)) ∧ ∃ (g' : Nat), (↑g : Int) + (1 : Int) = (↑g' : Int) ∧ (a.n = a.n ∧ ∀ (i : Nat), i < a.n → [SV.int .i64 (a.g i).x, SV.int .i64 (a.g i).y] = [SV.int .i64 (a.g i).x,
 SV.int .i64 (a.g i).y]) ∧ (b.n = b.n ∧ ∀ (i : Nat), i < b.n → [SV.int .i64 (b.g i).x, SV.int .i64 (b.g i).y] = [SV.int .i64 (b.g i).x, SV.int .i64 (b.g i).y]) ∧ (g' ≤ a.n ∧ ∀ (j : Nat), j < g' → L.same (a.g j) (b.g j) = true) ∧ a.n - g' < a.n - g)) ∧ (decide ((↑g : Int) < (↑a.n : Int)) = false →
 true = L.sameP a b))) (by kernel_rfl) (by
    have ha : a.n ≤ 1000000 := hp
    refine ⟨fun h => ?_, fun h => ?_⟩
    · unfold L.sameP; rw [notT h]; rfl
    have hd := notF h
    have hn := of_decide_eq_true hd
    refine ⟨⟨(0 : Nat), rfl, Nat.zero_le _, fun j hj => absurd hj (Nat.not_lt_zero _)⟩, fun g hg => ⟨fun hlt => ?_, fun hge => ?_⟩⟩
    · have hb : (g : Int) < (a.n : Int) := of_decide_eq_true hlt
      have e0 : ((g : Int)).toNat = g := by omega
      rw [e0]
      refine ⟨by omega, by omega, fun h1 => ?_, fun h1 => ?_⟩
      · have h1 : L.same (a.g g) (b.g g) = false := notT h1
        unfold L.sameP; rw [hd, allB_false (i := g) (by omega) h1]; rfl
      · have h1 : L.same (a.g g) (b.g g) = true := notF h1
        exact ⟨InK.of (by omega) (by omega), g + 1, by omega, ⟨rfl, fun _ _ => rfl⟩, ⟨rfl, fun _ _ => rfl⟩, ⟨by omega, fun j hj => by
          rcases Nat.lt_succ_iff_lt_or_eq.1 hj with h' | rfl
          · exact hg.2 j h'
          · exact h1⟩, by omega⟩
    · have hb : ¬ (g : Int) < (a.n : Int) := of_decide_eq_false hge
      unfold L.sameP; rw [hd, allB_iff.2 (fun i hi => hg.2 i (by omega))]; rfl)
theorem r1_SamePoints_ok : SpecOk Try.prog 15 r1_SamePoints_S := fnX Try.func15 (c := bodyOf Try.f15) (by kernel_rfl) mixed (fun args p r hs hp => by
  unfold r1_SamePoints_s at hs
  split at hs
  · cases hs; exact ⟨_, _, r1_SamePoints_vc _ _ hp.2.2, (.p (.sl hp.1) (.p (.sl hp.2.1) .nil)), ⟨show SpecsL Try.prog _ from SpecsL.nil, rfl, ⟨show ItersL Try.prog _ from ItersL.nil, (TrsOk.none (fun _ => rfl))⟩⟩⟩
  · cases hs)
theorem r1_SamePoints_en : Enters Try.prog 15 := fun args w => by kernel_rfl
def p_thin_s (args : List EV) : Option (Prop × SV) := match p_thinA_s args with
  | some x => some x
  | none => p_thinB_s args
abbrev p_thin_S : SE.Spec := specO p_thin_s
theorem p_thin_ok : SpecOk Try.prog 35 p_thin_S := fun M w args vals h1 h2 hp => by
  have hp : preO p_thin_s args := hp
  show CallsIn Fence.wide 0 Try.prog 35 vals.toArray w (Gives M w (resO p_thin_s args))
  unfold preO resO p_thin_s at *
  cases hA : p_thinA_s args with
  | some x =>
    rw [hA] at hp
    have := p_thinA_ok M w args vals h1 h2 (by show preO p_thinA_s args; unfold preO; rw [hA]; exact hp)
    have e : resO p_thinA_s args = x.2 := by unfold resO; rw [hA]
    change CallsIn Fence.wide 0 Try.prog _ vals.toArray w (Gives M w (resO p_thinA_s args)) at this
    rw [e] at this
    exact this
  | none =>
    rw [hA] at hp
    have := p_thinB_ok M w args vals h1 h2 (by show preO p_thinB_s args; unfold preO; exact hp)
    exact this
theorem p_thin_en : Enters Try.prog 35 := p_thinA_en
def p_flat1_p (p : L.Pt) (l : (L.Sq L.Pt)) : Prop := 1 ≤ l.n
def p_flat1_r (p : L.Pt) (l : (L.Sq L.Pt)) : SV := .bool (!L.same p (l.g 0))
def p_flat1_s : List EV → Option (Prop × SV)
  | [.p (.agg [.int .i64 p_x, .int .i64 p_y]), .p (.ref [.sl 2 l_n l_g] 0)] => some ((∀ i, i < l_n → l_g i = [.int .i64 ((ofPt (l_g i)).x), .int .i64 ((ofPt (l_g i)).y)]) ∧ p_flat1_p (⟨p_x, p_y⟩ : L.Pt) (⟨l_n, fun i => ofPt (l_g i)⟩ : (L.Sq L.Pt)), p_flat1_r (⟨p_x, p_y⟩ : L.Pt) (⟨l_n, fun i => ofPt (l_g i)⟩ : (L.Sq L.Pt)))
  | _ => none
abbrev p_flat1_S : SE.Spec := (specO p_flat1_s)
def p_flat1_C : Cfg := { muts := [], frz := lookN [], specs := lookS [], loops := lookL [], iters := lookI [], rfs := lookR [], nils := lookM [] }
theorem p_flat1_vc (p : L.Pt) (l : (L.Sq L.Pt)) (hp : p_flat1_p p l) : vc Try.prog (p_flat1_C) (bodyOf Try.f59) (st0 Try.f59 [.p (.agg [.int .i64 p.x, .int .i64 p.y]), .p (.ref [.sl 2 l.n (fun i => [.int .i64 ((l.g i).x), .int .i64 ((l.g i).y)])] 0)]) (retFn Try.prog Try.f59 (p_flat1_r p l)) :=
  @Eq.mpr _ (((0 : Int) ≤ (0 : Int) ∧ (0 : Int) < (↑l.n : Int)) ∧ (!(decide (p.x = (l.g (Int.toNat (0 : Int))).x) && decide (p.y = (l.g (Int.toNat (0 : Int))).y))) = !L.same p (l.g (0 : Nat))) (by kernel_rfl) (by
    exact ⟨⟨Int.le_refl _, by have : 1 ≤ l.n := hp; omega⟩, rfl⟩)
theorem p_flat1_ok : SpecOk Try.prog 59 p_flat1_S := fnX Try.func59 (c := bodyOf Try.f59) (by kernel_rfl) mixed (fun args p r hs hp => by
  unfold p_flat1_s at hs
  split at hs
  · cases hs; exact ⟨_, _, p_flat1_vc _ _ hp.2, (.same _ (.p (Ext.ref rfl (fun i hi => by
      rcases i with _ | i
      · show Ext (SV.sl _ _ _) (SV.sl _ _ _); exact (Ext.sl hp.1)
      exact absurd hi (by simp; try omega))) .nil)), ⟨show SpecsL Try.prog _ from SpecsL.nil, rfl, ⟨show ItersL Try.prog _ from ItersL.nil, (TrsOk.none (fun _ => rfl))⟩⟩⟩
  · cases hs)
theorem p_flat1_en : Enters Try.prog 59 := fun args w => by kernel_rfl
theorem p_flat1_B : ∀ args p r, p_flat1_s args = some (p, r) → ∃ b, r = .bool b := by
  intro args p r h
  unfold p_flat1_s at h
  split at h
  · cases h; exact ⟨_, rfl⟩
  · cases h
def p_flat2_p (p : L.Pt) (l : (L.Sq L.Pt)) (far : Int) : Prop := (0 ≤ far ∧ far < l.n) ∧ L.bd p ∧ ∀ k, k < l.n → L.bd (l.g k)
def p_flat2_r (p : L.Pt) (l : (L.Sq L.Pt)) (far : Int) : SV := .bool (!decide (L.cross (l.g 0) (l.g far.toNat) p = 0))
def p_flat2_s : List EV → Option (Prop × SV)
  | [.p (.agg [.int .i64 p_x, .int .i64 p_y]), .p (.ref [.sl 2 l_n l_g] 0), .p (.ref [.int .i64 far] 0)] => some ((∀ i, i < l_n → l_g i = [.int .i64 ((ofPt (l_g i)).x), .int .i64 ((ofPt (l_g i)).y)]) ∧ p_flat2_p (⟨p_x, p_y⟩ : L.Pt) (⟨l_n, fun i => ofPt (l_g i)⟩ : (L.Sq L.Pt)) far, p_flat2_r (⟨p_x, p_y⟩ : L.Pt) (⟨l_n, fun i => ofPt (l_g i)⟩ : (L.Sq L.Pt)) far)
  | _ => none
abbrev p_flat2_S : SE.Spec := (specO p_flat2_s)
def p_flat2_C : Cfg := { muts := [], frz := lookN [], specs := lookS [(38, p_cross_S)], loops := lookL [], iters := lookI [], rfs := lookR [], nils := lookM [] }
theorem p_flat2_vc (p : L.Pt) (l : (L.Sq L.Pt)) (far : Int) (hp : p_flat2_p p l far) : vc Try.prog (p_flat2_C) (bodyOf Try.f60) (st0 Try.f60 [.p (.agg [.int .i64 p.x, .int .i64 p.y]), .p (.ref [.sl 2 l.n (fun i => [.int .i64 ((l.g i).x), .int .i64 ((l.g i).y)])] 0), .p (.ref [.int .i64 far] 0)]) (retFn Try.prog Try.f60 (p_flat2_r p l far)) :=
  @Eq.mpr _ (((0 : Int) ≤ (0 : Int) ∧ (0 : Int) < (↑l.n : Int)) ∧ ((0 : Int) ≤ far ∧ far < (↑l.n : Int)) ∧ (L.bd (l.g (Int.toNat (0 : Int))) ∧ L.bd (l.g (Int.toNat far)) ∧ L.bd p) ∧ (!decide (L.cross (l.g (Int.toNat (0 : Int))) (l.g (Int.toNat far)) p = (0 : Int))) = !decide (L.cross (l.g (0 : Nat)) (l.g (Int.toNat far)) p = (0 : Int))) (by kernel_rfl) (by
    obtain ⟨⟨h1, h2⟩, hb, hl⟩ := hp
    exact ⟨⟨Int.le_refl _, by omega⟩, ⟨h1, h2⟩, ⟨hl 0 (by omega), hl far.toNat (by omega), hb⟩, rfl⟩)
theorem p_flat2_ok : SpecOk Try.prog 60 p_flat2_S := fnX Try.func60 (c := bodyOf Try.f60) (by kernel_rfl) mixed (fun args p r hs hp => by
  unfold p_flat2_s at hs
  split at hs
  · cases hs; exact ⟨_, _, p_flat2_vc _ _ _ hp.2, (.same _ (.p (Ext.ref rfl (fun i hi => by
      rcases i with _ | i
      · show Ext (SV.sl _ _ _) (SV.sl _ _ _); exact (Ext.sl hp.1)
      exact absurd hi (by simp; try omega))) (.same _ .nil))), ⟨show SpecsL Try.prog _ from (SpecsL.cons p_cross_ok p_cross_en SpecsL.nil), rfl, ⟨show ItersL Try.prog _ from ItersL.nil, (TrsOk.none (fun _ => rfl))⟩⟩⟩
  · cases hs)
theorem p_flat2_en : Enters Try.prog 60 := fun args w => by kernel_rfl
theorem p_flat2_B : ∀ args p r, p_flat2_s args = some (p, r) → ∃ b, r = .bool b := by
  intro args p r h
  unfold p_flat2_s at h
  split at h
  · cases h; exact ⟨_, rfl⟩
  · cases h
def p_flat_p (l : (L.Sq L.Pt)) : Prop := 1 ≤ l.n ∧ l.n ≤ 1000000 ∧ ∀ k, k < l.n → L.bd (l.g k)
def p_flat_r (l : (L.Sq L.Pt)) : SV := .bool (L.flat l)
def p_flat_s : List EV → Option (Prop × SV)
  | [.p (.sl 2 l_n l_g)] => some ((∀ i, i < l_n → l_g i = [.int .i64 ((ofPt (l_g i)).x), .int .i64 ((ofPt (l_g i)).y)]) ∧ p_flat_p (⟨l_n, fun i => ofPt (l_g i)⟩ : (L.Sq L.Pt)), p_flat_r (⟨l_n, fun i => ofPt (l_g i)⟩ : (L.Sq L.Pt)))
  | _ => none
abbrev p_flat_S : SE.Spec := (specO p_flat_s)
def p_flat_C : Cfg := { muts := [], frz := lookN [(2, [3])], specs := lookS [(52, s_idxFP_S), (26, s_conFP_S), (59, p_flat1_S), (60, p_flat2_S)], loops := lookL [], iters := lookI [], rfs := lookR [], nils := lookM [] }
theorem p_flat_vc (l : (L.Sq L.Pt)) (hp : p_flat_p l) : vc Try.prog (p_flat_C) (bodyOf Try.f34) (st0 Try.f34 [.p (.sl 2 l.n (fun i => [.int .i64 ((l.g i).x), .int .i64 ((l.g i).y)]))]) (retFn Try.prog Try.f34 (p_flat_r l)) :=
  @Eq.mpr _ (((∀ (i : Nat), i < l.n → [SV.int .i64 (l.g i).x, SV.int .i64 (l.g i).y] = [SV.int .i64 (l.g i).x, SV.int .i64 (l.g i).y]) ∧ isB (FSpec.mk (fun («as» : List SV) ↦ preO p_flat1_s (List.map EV.p «as» ++ List.map EV.p [SV.ref [SV.sl (nat_lit 2) l.n fun (i : Nat) ↦ [SV.int
 .i64 (l.g i).x, SV.int .i64 (l.g i).y]] (nat_lit 0)])) fun («as» : List SV) ↦ resO p_flat1_s (List.map EV.p «as» ++ List.map EV.p [SV.ref [SV.sl (nat_lit 2) l.n fun (i : Nat) ↦ [SV.int .i64 (l.g i).x, SV.int .i64 (l.g i).y]] (nat_lit 0)])) ∧ l.n ≤ (1000000 : Nat) ∧ ∀ (i : Nat), i < l.n → (∀ (i : Nat), i <
 l.n → [SV.int .i64 (l.g i).x, SV.int .i64 (l.g i).y] = [SV.int .i64 (l.g i).x, SV.int .i64 (l.g i).y]) ∧ (1 : Nat) ≤ l.n) ∧ ((!decide ((L.idx l.n fun (i : Nat) ↦ L.fbl (FSpec.mk (fun («as» : List SV) ↦ preO p_flat1_s (List.map EV.p «as» ++ List.map EV.p [SV.ref [SV.sl (nat_lit 2) l.n
 fun (i : Nat) ↦ [SV.int .i64 (l.g i).x, SV.int .i64 (l.g i).y]] (nat_lit 0)])) fun («as» : List SV) ↦ resO p_flat1_s (List.map EV.p «as» ++ List.map EV.p [SV.ref [SV.sl (nat_lit 2) l.n fun (i : Nat) ↦ [SV.int .i64 (l.g i).x, SV.int .i64 (l.g i).y]] (nat_lit 0)])) [SV.agg [SV.int
 .i64 (l.g i).x, SV.int .i64 (l.g i).y]]) < (0 : Int))) = true → (∀ (i : Nat), i < l.n → [SV.int .i64 (l.g i).x, SV.int .i64 (l.g i).y] = [SV.int .i64 (l.g i).x, SV.int .i64 (l.g i).y]) ∧ isB (FSpec.mk (fun («as» : List SV) ↦ preO p_flat2_s (List.map EV.p «as» ++ List.map
 EV.p [SV.ref [SV.sl (nat_lit 2) l.n fun (i : Nat) ↦ [SV.int .i64 (l.g i).x, SV.int .i64 (l.g i).y]] (nat_lit 0), SV.ref [SV.int .i64 (L.idx (L.Sq.mk l.n fun (i : Nat) ↦ ofPt ((fun (i : Nat) ↦ [SV.int .i64 (l.g i).x, SV.int .i64 (l.g i).y]) i)).n fun (i : Nat) ↦ L.fbl (FSpec.mk (fun («as» :
 List SV) ↦ preO p_flat1_s (List.map EV.p «as» ++ List.map EV.p [SV.ref [SV.sl (nat_lit 2) l.n fun (i : Nat) ↦ [SV.int .i64 (l.g i).x, SV.int .i64 (l.g i).y]] (nat_lit 0)])) fun («as» : List SV) ↦ resO p_flat1_s (List.map EV.p «as» ++ List.map EV.p [SV.ref [SV.sl (nat_lit 2) l.n fun (i : Nat) ↦
 [SV.int .i64 (l.g i).x, SV.int .i64 (l.g i).y]] (nat_lit 0)])) [SV.agg [SV.int .i64 ((L.Sq.mk l.n fun (i : Nat) ↦ ofPt ((fun (i : Nat) ↦ [SV.int .i64 (l.g i).x, SV.int .i64 (l.g i).y]) i)).g i).x, SV.int .i64 ((L.Sq.mk l.n fun (i : Nat) ↦ ofPt ((fun (i : Nat) ↦ [SV.int .i64 (l.g
 i).x, SV.int .i64 (l.g i).y]) i)).g i).y]])] (nat_lit 0)])) fun («as» : List SV) ↦ resO p_flat2_s (List.map EV.p «as» ++ List.map EV.p [SV.ref [SV.sl (nat_lit 2) l.n fun (i : Nat) ↦ [SV.int .i64 (l.g i).x, SV.int .i64 (l.g i).y]] (nat_lit 0), SV.ref [SV.int .i64 (L.idx (L.Sq.mk l.n fun (i :
 Nat) ↦ ofPt ((fun (i : Nat) ↦ [SV.int .i64 (l.g i).x, SV.int .i64 (l.g i).y]) i)).n fun (i : Nat) ↦ L.fbl (FSpec.mk (fun («as» : List SV) ↦ preO p_flat1_s (List.map EV.p «as» ++ List.map EV.p [SV.ref [SV.sl (nat_lit 2) l.n fun (i : Nat) ↦ [SV.int .i64 (l.g i).x, SV.int .i64 (l.g i).y]]
 (nat_lit 0)])) fun («as» : List SV) ↦ resO p_flat1_s (List.map EV.p «as» ++ List.map EV.p [SV.ref [SV.sl (nat_lit 2) l.n fun (i : Nat) ↦ [SV.int .i64 (l.g i).x, SV.int .i64 (l.g i).y]] (nat_lit 0)])) [SV.agg [SV.int .i64 ((L.Sq.mk l.n fun (i : Nat) ↦ ofPt ((fun (i : Nat) ↦ [SV.int .i64 (l.g
 i).x, SV.int .i64 (l.g i).y]) i)).g i).x, SV.int .i64 ((L.Sq.mk l.n fun (i : Nat) ↦ ofPt ((fun (i : Nat) ↦ [SV.int .i64 (l.g i).x, SV.int .i64 (l.g i).y]) i)).g i).y]])] (nat_lit 0)])) ∧ l.n ≤ (1000000 : Nat) ∧ ∀ (i : Nat), i < l.n → (∀ (i : Nat), i < l.n → [SV.int .i64 (l.g i).x, SV.int .i64 (l.g i).y]
 = [SV.int .i64 (l.g i).x, SV.int .i64 (l.g i).y]) ∧ (((0 : Int) ≤ L.idx l.n fun (i : Nat) ↦ L.fbl (FSpec.mk (fun («as» : List SV) ↦ preO p_flat1_s (List.map EV.p «as» ++ List.map EV.p [SV.ref [SV.sl (nat_lit 2) l.n fun (i : Nat) ↦ [SV.int .i64 (l.g i).x, SV.int .i64 (l.g i).y]] (nat_lit 0)]))
 fun («as» : List SV) ↦ resO p_flat1_s (List.map EV.p «as» ++ List.map EV.p [SV.ref [SV.sl (nat_lit 2) l.n fun (i : Nat) ↦ [SV.int .i64 (l.g i).x, SV.int .i64 (l.g i).y]] (nat_lit 0)])) [SV.agg [SV.int .i64 (l.g i).x, SV.int .i64 (l.g i).y]]) ∧ (L.idx l.n fun (i : Nat) ↦ L.fbl (FSpec.mk
 (fun («as» : List SV) ↦ preO p_flat1_s (List.map EV.p «as» ++ List.map EV.p [SV.ref [SV.sl (nat_lit 2) l.n fun (i : Nat) ↦ [SV.int .i64 (l.g i).x, SV.int .i64 (l.g i).y]] (nat_lit 0)])) fun («as» : List SV) ↦ resO p_flat1_s (List.map EV.p «as» ++ List.map EV.p [SV.ref [SV.sl (nat_lit 2) l.n fun
 (i : Nat) ↦ [SV.int .i64 (l.g i).x, SV.int .i64 (l.g i).y]] (nat_lit 0)])) [SV.agg [SV.int .i64 (l.g i).x, SV.int .i64 (l.g i).y]]) < (↑l.n : Int)) ∧ L.bd (l.g i) ∧ ∀ (k : Nat), k < l.n → L.bd (l.g k)) ∧ (bif decide ((L.idx l.n fun (i : Nat) ↦ L.fbl (FSpec.mk (fun («as» : List SV) ↦ preO p_flat1_s
 (List.map EV.p «as» ++ List.map EV.p [SV.ref [SV.sl (nat_lit 2) l.n fun (i : Nat) ↦ [SV.int .i64 (l.g i).x, SV.int .i64 (l.g i).y]] (nat_lit 0)])) fun («as» : List SV) ↦ resO p_flat1_s (List.map EV.p «as» ++ List.map EV.p [SV.ref [SV.sl (nat_lit 2) l.n fun (i : Nat) ↦ [SV.int .i64 (l.g i).x,
 SV.int .i64 (l.g i).y]] (nat_lit 0)])) [SV.agg [SV.int .i64 (l.g i).x, SV.int .i64 (l.g i).y]]) < (0 : Int)) then true else !L.anyB l.n fun (i : Nat) ↦ L.fbl (FSpec.mk (fun («as» : List SV) ↦ preO p_flat2_s (List.map EV.p «as» ++ List.map EV.p [SV.ref [SV.sl (nat_lit 2) l.n fun (i : Nat) ↦
 [SV.int .i64 (l.g i).x, SV.int .i64 (l.g i).y]] (nat_lit 0), SV.ref [SV.int .i64 (L.idx (L.Sq.mk l.n fun (i : Nat) ↦ ofPt ((fun (i : Nat) ↦ [SV.int .i64 (l.g i).x, SV.int .i64 (l.g i).y]) i)).n fun (i : Nat) ↦ L.fbl (FSpec.mk (fun («as» : List SV) ↦ preO p_flat1_s (List.map EV.p «as» ++
 List.map EV.p [SV.ref [SV.sl (nat_lit 2) l.n fun (i : Nat) ↦ [SV.int .i64 (l.g i).x, SV.int .i64 (l.g i).y]] (nat_lit 0)])) fun («as» : List SV) ↦ resO p_flat1_s (List.map EV.p «as» ++ List.map EV.p [SV.ref [SV.sl (nat_lit 2) l.n fun (i : Nat) ↦ [SV.int .i64 (l.g i).x, SV.int .i64
 (l.g i).y]] (nat_lit 0)])) [SV.agg [SV.int .i64 ((L.Sq.mk l.n fun (i : Nat) ↦ ofPt ((fun (i : Nat) ↦ [SV.int .i64 (l.g i).x, SV.int .i64 (l.g i).y]) i)).g i).x, SV.int .i64 ((L.Sq.mk l.n fun (i : Nat) ↦ ofPt ((fun (i : Nat) ↦ [SV.int .i64 (l.g i).x, SV.int .i64 (l.g i).y]) i)).g i).y]])] (nat_lit
 0)])) fun («as» : List SV) ↦ resO p_flat2_s (List.map EV.p «as» ++ List.map EV.p [SV.ref [SV.sl (nat_lit 2) l.n fun (i : Nat) ↦ [SV.int .i64 (l.g i).x, SV.int .i64 (l.g i).y]] (nat_lit 0), SV.ref [SV.int .i64 (L.idx (L.Sq.mk l.n fun (i : Nat) ↦ ofPt ((fun (i : Nat) ↦ [SV.int .i64 (l.g i).x,
 SV.int .i64 (l.g i).y]) i)).n fun (i : Nat) ↦ L.fbl (FSpec.mk (fun («as» : List SV) ↦ preO p_flat1_s (List.map EV.p «as» ++ List.map EV.p [SV.ref [SV.sl (nat_lit 2) l.n fun (i : Nat) ↦ [SV.int .i64 (l.g i).x, SV.int .i64 (l.g i).y]] (nat_lit 0)])) fun («as» : List SV) ↦ resO p_flat1_s (List.map
 EV.p «as» ++ List.map EV.p [SV.ref [SV.sl (nat_lit 2) l.n fun (i : Nat) ↦ [SV.int .i64 (l.g i).x, SV.int .i64 (l.g i).y]] (nat_lit 0)])) [SV.agg [SV.int .i64 ((L.Sq.mk l.n fun (i : Nat) ↦ ofPt ((fun (i : Nat) ↦ [SV.int .i64 (l.g i).x, SV.int .i64 (l.g i).y]) i)).g i).x, SV.int
 .i64 ((L.Sq.mk l.n fun (i : Nat) ↦ ofPt ((fun (i : Nat) ↦ [SV.int .i64 (l.g i).x, SV.int .i64 (l.g i).y]) i)).g i).y]])] (nat_lit 0)])) [SV.agg [SV.int .i64 (l.g i).x, SV.int .i64 (l.g i).y]]) = L.flat l) (by kernel_rfl) (by
    obtain ⟨h1, hn, hb⟩ := hp
    refine ⟨⟨fun _ _ => rfl, isB_of p_flat1_B _, hn, fun i hi => ⟨fun _ _ => rfl, h1⟩⟩, fun hf => ?_, rfl⟩
    have hf : (!decide (L.far l < 0)) = true := hf
    have hq := far_lt (of_decide_eq_false (notT hf))
    exact ⟨fun _ _ => rfl, isB_of p_flat2_B _, hn, fun i hi => ⟨fun _ _ => rfl, hq, hb i hi, hb⟩⟩)
theorem p_flat_ok : SpecOk Try.prog 34 p_flat_S := fnX Try.func34 (c := bodyOf Try.f34) (by kernel_rfl) mixed (fun args p r hs hp => by
  unfold p_flat_s at hs
  split at hs
  · cases hs; exact ⟨_, _, p_flat_vc _ hp.2, (.p (.sl hp.1) .nil), ⟨show SpecsL Try.prog _ from (SpecsL.cons s_idxFP_ok s_idxFP_en (SpecsL.cons s_conFP_ok s_conFP_en (SpecsL.cons p_flat1_ok p_flat1_en (SpecsL.cons p_flat2_ok p_flat2_en SpecsL.nil)))), rfl, ⟨show ItersL Try.prog _ from ItersL.nil, (TrsOk.none (fun _ => rfl))⟩⟩⟩
  · cases hs)
theorem p_flat_en : Enters Try.prog 34 := fun args w => by kernel_rfl
def p_Outline_p (l : (L.Sq L.Pt)) : Prop := l.n ≤ 1000000
def p_Outline_r (l : (L.Sq L.Pt)) : SV := .tup [.sl 2 (L.outN l) (fun k => [.int .i64 (((L.norm (L.str l)).g k).x), .int .i64 (((L.norm (L.str l)).g k).y)]), .int .i64 (L.outE l)]
def p_Outline_s : List EV → Option (Prop × SV)
  | [.p (.sl 2 l_n l_g)] => some ((∀ i, i < l_n → l_g i = [.int .i64 ((ofPt (l_g i)).x), .int .i64 ((ofPt (l_g i)).y)]) ∧ p_Outline_p (⟨l_n, fun i => ofPt (l_g i)⟩ : (L.Sq L.Pt)), p_Outline_r (⟨l_n, fun i => ofPt (l_g i)⟩ : (L.Sq L.Pt)))
  | _ => none
abbrev p_Outline_S : SE.Spec := (specO p_Outline_s)
def p_Outline_C : Cfg := { muts := [], frz := lookN [], specs := lookS [(25, p_within_S), (33, p_valid_S), (34, p_flat_S), (35, p_thin_S), (39, p_simple_S), (40, p_normal_S)], loops := lookL [], iters := lookI [], rfs := lookR [], nils := lookM [], raws := [35] }
theorem p_Outline_vc (l : (L.Sq L.Pt)) (hp : p_Outline_p l) : vc Try.prog (p_Outline_C) (bodyOf Try.f13) (st0 Try.f13 [.p (.sl 2 l.n (fun i => [.int .i64 ((l.g i).x), .int .i64 ((l.g i).y)]))]) (retFn Try.prog Try.f13 (p_Outline_r l)) :=
  @Eq.mpr _ (True ∧ ((!!L.within (↑l.n : Int) (3 : Int) (400 : Int)) = true → (∀ (i : Nat), i < l.n → [SV.int .i64 (l.g i).x, SV.int .i64 (l.g i).y] = [SV.int .i64 (l.g i).x, SV.int .i64 (l.g i).y]) ∧ l.n ≤ (1000000 : Nat)) ∧ ((bif !L.within (↑l.n : Int) (3 : Int) (400 : Int) then true else !L.allB l.n fun (i : Nat) ↦ L.validPt (l.g i))
 = true → L.outN l = (0 : Nat) ∧ (1 : Int) = L.outE l) ∧ ((bif !L.within (↑l.n : Int) (3 : Int) (400 : Int) then true else !L.allB l.n fun (i : Nat) ↦ L.validPt (l.g i)) = false → ((∀ (i : Nat), i < l.n → [SV.int .i64 (l.g i).x, SV.int .i64 (l.g i).y] = [SV.int .i64 (l.g i).x, SV.int .i64 (l.g i).y]) ∧ (1 : Nat) ≤ l.n ∧
 l.n ≤ (1000000 : Nat) ∧ ∀ (k : Nat), k < l.n → L.bd (l.g k)) ∧ (L.flat (L.Sq.mk l.n fun (i : Nat) ↦ l.g i) = true → L.outN l = (0 : Nat) ∧ (11 : Int) = L.outE l) ∧ (L.flat (L.Sq.mk l.n fun (i : Nat) ↦ l.g i) = false → ((∀ (i : Nat), i < l.n → [SV.int .i64 (l.g i).x, SV.int .i64 (l.g i).y] = [SV.int .i64 (l.g i).x, SV.int
 .i64 (l.g i).y]) ∧ ((1 : Nat) ≤ l.n ∧ l.n ≤ (1000 : Nat)) ∧ ∀ (k : Nat), k < l.n → L.bd (l.g k)) ∧ ((∀ (i : Nat), i < (L.thin L.cDup (L.Sq.mk l.n fun (i : Nat) ↦ l.g i)).n → [SV.int .i64 ((L.thin L.cDup (L.Sq.mk l.n fun (i : Nat) ↦ l.g i)).g i).x, SV.int .i64 ((L.thin L.cDup (L.Sq.mk l.n fun (i : Nat) ↦ l.g i)).g i).y] = [SV.int .i64
 ((L.thin L.cDup (L.Sq.mk l.n fun (i : Nat) ↦ l.g i)).g i).x, SV.int .i64 ((L.thin L.cDup (L.Sq.mk l.n fun (i : Nat) ↦ l.g i)).g i).y]) ∧ ((1 : Nat) ≤ (L.thin L.cDup (L.Sq.mk l.n fun (i : Nat) ↦ l.g i)).n ∧ (L.thin L.cDup (L.Sq.mk l.n fun (i : Nat) ↦ l.g i)).n ≤ (1000 : Nat)) ∧ ∀ (k : Nat), k < (L.thin L.cDup (L.Sq.mk l.n fun (i : Nat) ↦ l.g i)).n → L.bd ((L.thin L.cDup (L.Sq.mk l.n
 fun (i : Nat) ↦ l.g i)).g k)) ∧ ((!decide ((↑(L.thin L.cFlat (L.Sq.mk (L.thin L.cDup (L.Sq.mk l.n fun (i : Nat) ↦ l.g i)).n fun (i : Nat) ↦ (L.thin L.cDup (L.Sq.mk l.n fun (i : Nat) ↦ l.g i)).g i)).n : Int) < (3 : Int))) = true → (∀ (i : Nat), i < (L.thin L.cFlat (L.Sq.mk (L.thin L.cDup (L.Sq.mk l.n fun (i : Nat) ↦ l.g i)).n fun (i : Nat) ↦ (L.thin L.cDup (L.Sq.mk l.n fun (i : Nat)
 ↦ l.g i)).g i)).n → [SV.int .i64 ((L.thin L.cFlat (L.Sq.mk (L.thin L.cDup (L.Sq.mk l.n fun (i : Nat) ↦ l.g i)).n fun (i : Nat) ↦ (L.thin L.cDup (L.Sq.mk l.n fun (i : Nat) ↦ l.g i)).g i)).g i).x, SV.int .i64 ((L.thin L.cFlat (L.Sq.mk (L.thin L.cDup (L.Sq.mk l.n fun (i : Nat) ↦ l.g i)).n fun (i : Nat) ↦ (L.thin L.cDup (L.Sq.mk l.n fun (i : Nat) ↦ l.g i)).g i)).g i).y]
 = [SV.int .i64 ((L.thin L.cFlat (L.Sq.mk (L.thin L.cDup (L.Sq.mk l.n fun (i : Nat) ↦ l.g i)).n fun (i : Nat) ↦ (L.thin L.cDup (L.Sq.mk l.n fun (i : Nat) ↦ l.g i)).g i)).g i).x, SV.int .i64 ((L.thin L.cFlat (L.Sq.mk (L.thin L.cDup (L.Sq.mk l.n fun (i : Nat) ↦ l.g i)).n fun (i : Nat) ↦ (L.thin L.cDup (L.Sq.mk l.n fun (i : Nat) ↦ l.g i)).g i)).g i).y]) ∧ L.allBd
 (L.Sq.mk (L.thin L.cFlat (L.Sq.mk (L.thin L.cDup (L.Sq.mk l.n fun (i : Nat) ↦ l.g i)).n fun (i : Nat) ↦ (L.thin L.cDup (L.Sq.mk l.n fun (i : Nat) ↦ l.g i)).g i)).n fun (i : Nat) ↦ (L.thin L.cFlat (L.Sq.mk (L.thin L.cDup (L.Sq.mk l.n fun (i : Nat) ↦ l.g i)).n fun (i : Nat) ↦ (L.thin L.cDup (L.Sq.mk l.n fun (i : Nat) ↦ l.g i)).g i)).g i)) ∧ ((bif decide ((↑(L.thin L.cFlat (L.Sq.mk (L.thin
 L.cDup (L.Sq.mk l.n fun (i : Nat) ↦ l.g i)).n fun (i : Nat) ↦ (L.thin L.cDup (L.Sq.mk l.n fun (i : Nat) ↦ l.g i)).g i)).n : Int) < (3 : Int)) then true else !L.simple (L.Sq.mk (L.thin L.cFlat (L.Sq.mk (L.thin L.cDup (L.Sq.mk l.n fun (i : Nat) ↦ l.g i)).n fun (i : Nat) ↦ (L.thin L.cDup (L.Sq.mk l.n fun (i : Nat) ↦ l.g i)).g i)).n fun (i : Nat) ↦ (L.thin L.cFlat (L.Sq.mk (L.thin L.cDup (L.Sq.mk
 l.n fun (i : Nat) ↦ l.g i)).n fun (i : Nat) ↦ (L.thin L.cDup (L.Sq.mk l.n fun (i : Nat) ↦ l.g i)).g i)).g i)) = true → L.outN l = (0 : Nat) ∧ (10 : Int) = L.outE l) ∧ ((bif decide ((↑(L.thin L.cFlat (L.Sq.mk (L.thin L.cDup (L.Sq.mk l.n fun (i : Nat) ↦ l.g i)).n fun (i : Nat) ↦ (L.thin L.cDup (L.Sq.mk l.n fun (i : Nat) ↦ l.g i)).g i)).n : Int) < (3 : Int)) then true else
 !L.simple (L.Sq.mk (L.thin L.cFlat (L.Sq.mk (L.thin L.cDup (L.Sq.mk l.n fun (i : Nat) ↦ l.g i)).n fun (i : Nat) ↦ (L.thin L.cDup (L.Sq.mk l.n fun (i : Nat) ↦ l.g i)).g i)).n fun (i : Nat) ↦ (L.thin L.cFlat (L.Sq.mk (L.thin L.cDup (L.Sq.mk l.n fun (i : Nat) ↦ l.g i)).n fun (i : Nat) ↦ (L.thin L.cDup (L.Sq.mk l.n fun (i : Nat) ↦ l.g i)).g i)).g i)) = false → (decide ((24 : Int) <
 (↑(L.thin L.cFlat (L.Sq.mk (L.thin L.cDup (L.Sq.mk l.n fun (i : Nat) ↦ l.g i)).n fun (i : Nat) ↦ (L.thin L.cDup (L.Sq.mk l.n fun (i : Nat) ↦ l.g i)).g i)).n : Int)) = true → L.outN l = (0 : Nat) ∧ (2 : Int) = L.outE l) ∧ (decide ((24 : Int) < (↑(L.thin L.cFlat (L.Sq.mk (L.thin L.cDup (L.Sq.mk l.n fun (i : Nat) ↦ l.g i)).n fun (i : Nat) ↦ (L.thin L.cDup (L.Sq.mk l.n fun (i : Nat) ↦
 l.g i)).g i)).n : Int)) = false → ((∀ (i : Nat), i < (L.thin L.cFlat (L.Sq.mk (L.thin L.cDup (L.Sq.mk l.n fun (i : Nat) ↦ l.g i)).n fun (i : Nat) ↦ (L.thin L.cDup (L.Sq.mk l.n fun (i : Nat) ↦ l.g i)).g i)).n → [SV.int .i64 ((L.thin L.cFlat (L.Sq.mk (L.thin L.cDup (L.Sq.mk l.n fun (i : Nat) ↦ l.g i)).n fun (i : Nat) ↦ (L.thin L.cDup (L.Sq.mk l.n fun (i : Nat) ↦ l.g i)).g i)).g
 i).x, SV.int .i64 ((L.thin L.cFlat (L.Sq.mk (L.thin L.cDup (L.Sq.mk l.n fun (i : Nat) ↦ l.g i)).n fun (i : Nat) ↦ (L.thin L.cDup (L.Sq.mk l.n fun (i : Nat) ↦ l.g i)).g i)).g i).y] = [SV.int .i64 ((L.thin L.cFlat (L.Sq.mk (L.thin L.cDup (L.Sq.mk l.n fun (i : Nat) ↦ l.g i)).n fun (i : Nat) ↦ (L.thin L.cDup (L.Sq.mk l.n fun (i : Nat) ↦ l.g i)).g i)).g i).x,
 SV.int .i64 ((L.thin L.cFlat (L.Sq.mk (L.thin L.cDup (L.Sq.mk l.n fun (i : Nat) ↦ l.g i)).n fun (i : Nat) ↦ (L.thin L.cDup (L.Sq.mk l.n fun (i : Nat) ↦ l.g i)).g i)).g i).y]) ∧ L.small (L.Sq.mk (L.thin L.cFlat (L.Sq.mk (L.thin L.cDup (L.Sq.mk l.n fun (i : Nat) ↦ l.g i)).n fun (i : Nat) ↦ (L.thin L.cDup (L.Sq.mk l.n fun (i : Nat) ↦ l.g i)).g i)).n fun (i : Nat) ↦ (L.thin L.cFlat
 (L.Sq.mk (L.thin L.cDup (L.Sq.mk l.n fun (i : Nat) ↦ l.g i)).n fun (i : Nat) ↦ (L.thin L.cDup (L.Sq.mk l.n fun (i : Nat) ↦ l.g i)).g i)).g i) ∧ (1 : Nat) ≤ (L.thin L.cFlat (L.Sq.mk (L.thin L.cDup (L.Sq.mk l.n fun (i : Nat) ↦ l.g i)).n fun (i : Nat) ↦ (L.thin L.cDup (L.Sq.mk l.n fun (i : Nat) ↦ l.g i)).g i)).n) ∧ ∀ (t : Nat), True → ((L.thin L.cFlat (L.Sq.mk (L.thin L.cDup (L.Sq.mk l.n fun (i :
 Nat) ↦ l.g i)).n fun (i : Nat) ↦ (L.thin L.cDup (L.Sq.mk l.n fun (i : Nat) ↦ l.g i)).g i)).n = L.outN l ∧ ∀ (i : Nat), i < (L.thin L.cFlat (L.Sq.mk (L.thin L.cDup (L.Sq.mk l.n fun (i : Nat) ↦ l.g i)).n fun (i : Nat) ↦ (L.thin L.cDup (L.Sq.mk l.n fun (i : Nat) ↦ l.g i)).g i)).n → [SV.int .i64 ((L.norm (L.Sq.mk (L.thin L.cFlat (L.Sq.mk (L.thin L.cDup (L.Sq.mk l.n fun (i : Nat) ↦ l.g
 i)).n fun (i : Nat) ↦ (L.thin L.cDup (L.Sq.mk l.n fun (i : Nat) ↦ l.g i)).g i)).n fun (i : Nat) ↦ (L.thin L.cFlat (L.Sq.mk (L.thin L.cDup (L.Sq.mk l.n fun (i : Nat) ↦ l.g i)).n fun (i : Nat) ↦ (L.thin L.cDup (L.Sq.mk l.n fun (i : Nat) ↦ l.g i)).g i)).g i)).g i).x, SV.int .i64 ((L.norm (L.Sq.mk (L.thin L.cFlat (L.Sq.mk (L.thin L.cDup (L.Sq.mk l.n fun (i : Nat) ↦ l.g i)).n fun (i :
 Nat) ↦ (L.thin L.cDup (L.Sq.mk l.n fun (i : Nat) ↦ l.g i)).g i)).n fun (i : Nat) ↦ (L.thin L.cFlat (L.Sq.mk (L.thin L.cDup (L.Sq.mk l.n fun (i : Nat) ↦ l.g i)).n fun (i : Nat) ↦ (L.thin L.cDup (L.Sq.mk l.n fun (i : Nat) ↦ l.g i)).g i)).g i)).g i).y] = [SV.int .i64 ((L.norm (L.str l)).g i).x, SV.int .i64 ((L.norm (L.str l)).g i).y]) ∧ (0 : Int) = L.outE l))))) (by kernel_rfl) (by
    have hn : l.n ≤ 1000000 := hp
    refine ⟨trivial, fun _ => ⟨fun _ _ => rfl, hn⟩, fun h => ?_, fun h => ?_⟩
    · have h : (bif !L.within (l.n : Int) 3 400 then true else !L.validPts l) = true := h
      have e : L.outE l = 1 := by unfold L.outE; rw [h]; rfl
      unfold L.outN; rw [e]; exact ⟨rfl, rfl⟩
    have h0 : (bif !L.within (l.n : Int) 3 400 then true else !L.validPts l) = false := h
    obtain ⟨n3, n400, hv⟩ := out_of h0
    have hb : ∀ k, k < l.n → L.bd (l.g k) := fun k hk => bd_of_valid (allB_iff.1 hv k hk)
    refine ⟨⟨fun _ _ => rfl, by omega, hn, hb⟩, fun hf => ?_, fun hf => ?_⟩
    · have e : L.outE l = 11 := by unfold L.outE; rw [h0, hf]; rfl
      unfold L.outN; rw [e]; exact ⟨rfl, rfl⟩
    have ha : L.allBd l := ⟨by omega, hb⟩
    have h2 : L.two2 l := flat_two (l := l) hf (by omega)
    have ha1 := thin_allBd (c := L.cDup) (x := l) ha
    have t2 := two2_n (thin_two (x := l) h2)
    have ha2 : L.allBd (L.str l) := thin_allBd (c := L.cFlat) (x := L.thin L.cDup l) ha1
    refine ⟨⟨fun _ _ => rfl, ⟨by omega, by omega⟩, hb⟩, ⟨fun _ _ => rfl, ⟨show 1 ≤ (L.thin L.cDup l).n by omega, ha1.1⟩, ha1.2⟩, fun _ => ⟨fun _ _ => rfl, ha2⟩, fun h3 => ?_, fun h3 => ?_⟩
    · have h3 : (bif decide (((L.str l).n : Int) < 3) then true else !L.simple (L.str l)) = true := h3
      have e : L.outE l = 10 := by unfold L.outE; rw [h0, hf, h3]; rfl
      unfold L.outN; rw [e]; exact ⟨rfl, rfl⟩
    have h3 : (bif decide (((L.str l).n : Int) < 3) then true else !L.simple (L.str l)) = false := h3
    have m3 : 3 ≤ (L.str l).n := by
      have h := h3
      rw [bor, Bool.or_eq_false_iff] at h
      have := of_decide_eq_false h.1
      omega
    refine ⟨fun h4 => ?_, fun h4 => ?_⟩
    · have h4 : decide ((24 : Int) < ((L.str l).n : Int)) = true := h4
      have e : L.outE l = 2 := by unfold L.outE; rw [h0, hf, h3, h4]; rfl
      unfold L.outN; rw [e]; exact ⟨rfl, rfl⟩
    have h4 : decide ((24 : Int) < ((L.str l).n : Int)) = false := h4
    have m24 := of_decide_eq_false h4
    have e : L.outE l = 0 := by unfold L.outE; rw [h0, hf, h3, h4]; rfl
    have eN : (L.str l).n = L.outN l := by unfold L.outN; rw [e]; rfl
    exact ⟨⟨fun _ _ => rfl, ha2, by show 1 ≤ (L.str l).n; omega⟩, fun _ _ => ⟨⟨eN, fun _ _ => rfl⟩, e.symm⟩⟩)
theorem p_Outline_ok : SpecOk Try.prog 13 p_Outline_S := fnX Try.func13 (c := bodyOf Try.f13) (by kernel_rfl) mixed (fun args p r hs hp => by
  unfold p_Outline_s at hs
  split at hs
  · cases hs; exact ⟨_, _, p_Outline_vc _ hp.2, (.p (.sl hp.1) .nil), ⟨show SpecsL Try.prog _ from (SpecsL.cons p_within_ok p_within_en (SpecsL.cons p_valid_ok p_valid_en (SpecsL.cons p_flat_ok p_flat_en (SpecsL.cons p_thin_ok p_thin_en (SpecsL.cons p_simple_ok p_simple_en (SpecsL.cons p_normal_ok p_normal_en SpecsL.nil)))))), rfl, ⟨show ItersL Try.prog _ from ItersL.nil, (TrsOk.none (fun _ => rfl))⟩⟩⟩
  · cases hs)
theorem p_Outline_en : Enters Try.prog 13 := fun args w => by kernel_rfl
end Go.Proofs.Ytdlhpdidgfgomaa

namespace Go.Proofs.Ytdlhpdidgfgomaa
open Go.SE Go.RowKit
set_option maxRecDepth 100000
set_option maxHeartbeats 4000000
set_option linter.unusedVariables false
attribute [local irreducible] vc

def L.mem (ks : L.Sq L.Pt) (p : L.Pt) : Prop := ∃ i, i < ks.n ∧ ks.g i = p
def L.nod (ks : L.Sq L.Pt) : Prop := ∀ i j, i < ks.n → j < ks.n → ks.g i = ks.g j → i = j
theorem has_iff {ks : L.Sq L.Pt} {p : L.Pt} : L.has ks p = true ↔ L.mem ks p := by
  unfold L.has L.mem
  rw [anyB_iff]
  exact ⟨fun ⟨i, h1, h2⟩ => ⟨i, h1, (same_eq h2).symm⟩, fun ⟨i, h1, h2⟩ => ⟨i, h1, by rw [h2]; exact same_refl p⟩⟩
theorem put_mem {ks : L.Sq L.Pt} {p q : L.Pt} : L.mem (L.put ks p) q ↔ L.mem ks q ∨ q = p := by
  unfold L.put
  cases h : L.has ks p with
  | true =>
    rw [cond_true]
    exact ⟨.inl, fun h' => by rcases h' with h' | rfl; exact h'; exact has_iff.1 h⟩
  | false =>
    rw [cond_false]
    constructor
    · rintro ⟨i, h1, h2⟩
      dsimp only at h1 h2
      by_cases hi : i < ks.n
      · rw [if_pos hi] at h2; exact .inl ⟨i, hi, h2⟩
      · rw [if_neg hi] at h2; exact .inr h2.symm
    · rintro (⟨i, h1, h2⟩ | rfl)
      · exact ⟨i, Nat.lt_succ_of_lt h1, by dsimp only; rw [if_pos h1]; exact h2⟩
      · exact ⟨ks.n, Nat.lt_succ_self _, by dsimp only; rw [if_neg (Nat.lt_irrefl _)]⟩
theorem put_nod {ks : L.Sq L.Pt} {p : L.Pt} (h : L.nod ks) : L.nod (L.put ks p) := by
  unfold L.put
  cases hp : L.has ks p with
  | true => exact h
  | false =>
    have hno : ∀ i, i < ks.n → ks.g i ≠ p := fun i hi e => by
      rw [has_iff.2 ⟨i, hi, e⟩] at hp; cases hp
    rw [cond_false]
    intro i j hi hj e
    dsimp only at hi hj e
    by_cases h1 : i < ks.n <;> by_cases h2 : j < ks.n
    · rw [if_pos h1, if_pos h2] at e; exact h i j h1 h2 e
    · rw [if_pos h1, if_neg h2] at e; exact absurd e (hno i h1)
    · rw [if_neg h1, if_pos h2] at e; exact absurd e.symm (hno j h2)
    · omega
theorem putIf_mem {c : Bool} {ks : L.Sq L.Pt} {p q : L.Pt} : L.mem (L.putIf c ks p) q ↔ L.mem ks q ∨ (c = true ∧ q = p) := by
  unfold L.putIf
  cases c with
  | true => rw [cond_true, put_mem]; exact ⟨fun h => h.imp id (fun e => ⟨rfl, e⟩), fun h => h.imp id (fun e => e.2)⟩
  | false => rw [cond_false]; exact ⟨.inl, fun h => by rcases h with h | h; exact h; exact absurd h.1 Bool.false_ne_true⟩
theorem putIf_nod {c : Bool} {ks : L.Sq L.Pt} {p : L.Pt} (h : L.nod ks) : L.nod (L.putIf c ks p) := by
  unfold L.putIf
  cases c with
  | true => exact put_nod h
  | false => exact h
def L.S (a b c d q : L.Pt) : Prop := (L.on c d a = true ∧ q = a) ∨ (L.on c d b = true ∧ q = b) ∨ (L.on a b c = true ∧ q = c) ∨ (L.on a b d = true ∧ q = d)
theorem no_mem {q : L.Pt} : ¬ L.mem L.no q := fun ⟨_, h, _⟩ => absurd h (Nat.not_lt_zero _)
theorem k2_mem {a b c d q : L.Pt} : L.mem (L.k2 a b c d 2) q ↔ L.S a b c d q := by
  show L.mem (L.putIf (L.on a b d) (L.putIf (L.on a b c) (L.putIf (L.on c d b) (L.putIf (L.on c d a) L.no a) b) c) d) q ↔ _
  rw [putIf_mem, putIf_mem, putIf_mem, putIf_mem]
  unfold L.S
  have := no_mem (q := q)
  constructor
  · rintro ((((h | h) | h) | h) | h)
    · exact absurd h this
    · exact .inl h
    · exact .inr (.inl h)
    · exact .inr (.inr (.inl h))
    · exact .inr (.inr (.inr h))
  · rintro (h | h | h | h)
    · exact .inl (.inl (.inl (.inr h)))
    · exact .inl (.inl (.inr h))
    · exact .inl (.inr h)
    · exact .inr h
theorem k2_nod {a b c d : L.Pt} : L.nod (L.k2 a b c d 2) := by
  show L.nod (L.putIf (L.on a b d) (L.putIf (L.on a b c) (L.putIf (L.on c d b) (L.putIf (L.on c d a) L.no a) b) c) d)
  exact putIf_nod (putIf_nod (putIf_nod (putIf_nod (fun i j hi => absurd hi (Nat.not_lt_zero _)))))
theorem n_two {ks : L.Sq L.Pt} (h : L.nod ks) : 1 < ks.n ↔ ∃ p q, L.mem ks p ∧ L.mem ks q ∧ p ≠ q := by
  constructor
  · intro h1
    refine ⟨ks.g 0, ks.g 1, ⟨0, by omega, rfl⟩, ⟨1, h1, rfl⟩, fun e => ?_⟩
    have := h 0 1 (by omega) h1 e
    omega
  · rintro ⟨p, q, ⟨i, hi, rfl⟩, ⟨j, hj, rfl⟩, hne⟩
    have : i ≠ j := fun e => hne (by rw [e])
    omega
theorem n_pos {ks : L.Sq L.Pt} : 0 < ks.n ↔ ∃ p, L.mem ks p :=
  ⟨fun h => ⟨ks.g 0, 0, h, rfl⟩, fun ⟨_, i, hi, _⟩ => by omega⟩
theorem meet_map {a b c d a' b' c' d' : L.Pt} (T : L.Pt → L.Pt) (inj : ∀ p q, T p = T q → p = q) (hS : ∀ q, L.S a' b' c' d' q ↔ ∃ p, L.S a b c d p ∧ T p = q)
    (hA : (L.apart a' b' c' d' && L.apart c' d' a' b') = (L.apart a b c d && L.apart c d a b)) : L.meet a' b' c' d' = L.meet a b c d := by
  have h2 : 1 < (L.k2 a' b' c' d' 2).n ↔ 1 < (L.k2 a b c d 2).n := by
    rw [n_two k2_nod, n_two k2_nod]
    constructor
    · rintro ⟨p, q, hp, hq, hne⟩
      rw [k2_mem, hS] at hp hq
      obtain ⟨p0, hp, rfl⟩ := hp
      obtain ⟨q0, hq, rfl⟩ := hq
      exact ⟨p0, q0, k2_mem.2 hp, k2_mem.2 hq, fun e => hne (by rw [e])⟩
    · rintro ⟨p, q, hp, hq, hne⟩
      exact ⟨T p, T q, k2_mem.2 ((hS _).2 ⟨p, k2_mem.1 hp, rfl⟩), k2_mem.2 ((hS _).2 ⟨q, k2_mem.1 hq, rfl⟩), fun e => hne (inj _ _ e)⟩
  have h0 : 0 < (L.k2 a' b' c' d' 2).n ↔ 0 < (L.k2 a b c d 2).n := by
    rw [n_pos, n_pos]
    constructor
    · rintro ⟨p, hp⟩
      rw [k2_mem, hS] at hp
      obtain ⟨p0, hp, rfl⟩ := hp
      exact ⟨p0, k2_mem.2 hp⟩
    · rintro ⟨p, hp⟩
      exact ⟨T p, k2_mem.2 ((hS _).2 ⟨p, k2_mem.1 hp, rfl⟩)⟩
  unfold L.meet
  rw [band, band, hA]
  have e1 : decide (1 < ((L.k2 a' b' c' d' 2).n : Int)) = decide (1 < ((L.k2 a b c d 2).n : Int)) := by rw [decide_eq_decide]; omega
  have e2 : decide (((L.k2 a' b' c' d' 2).n : Int) = 1) = decide (((L.k2 a b c d 2).n : Int) = 1) := by rw [decide_eq_decide]; omega
  rw [e1, e2]
theorem meet_none {a b c d : L.Pt} (h : L.meet a b c d = 0) (q : L.Pt) : ¬ L.S a b c d q := fun hS => by
  have h0 := n_pos.2 ⟨q, k2_mem.2 hS⟩
  unfold L.meet at h
  by_cases h1 : 1 < ((L.k2 a b c d 2).n : Int)
  · rw [decide_eq_true h1] at h; cases h
  · rw [decide_eq_false h1, decide_eq_true (show ((L.k2 a b c d 2).n : Int) = 1 by omega)] at h; cases h
theorem meet_swap (a b c d : L.Pt) : L.meet c d a b = L.meet a b c d := by
  refine meet_map id (fun _ _ h => h) (fun q => ?_) (Bool.and_comm _ _)
  unfold L.S
  constructor
  · rintro (h | h | h | h)
    · exact ⟨q, .inr (.inr (.inl h)), rfl⟩
    · exact ⟨q, .inr (.inr (.inr h)), rfl⟩
    · exact ⟨q, .inl h, rfl⟩
    · exact ⟨q, .inr (.inl h), rfl⟩
  · rintro ⟨p, h, rfl⟩
    rcases h with h | h | h | h
    · exact .inr (.inr (.inl h))
    · exact .inr (.inr (.inr h))
    · exact .inl h
    · exact .inr (.inl h)
theorem cross_flip (a b c : L.Pt) : L.cross b a c = - L.cross a b c := by
  unfold L.cross
  grind
theorem on_flip (a b p : L.Pt) : L.on b a p = L.on a b p := by
  unfold L.on
  rw [cross_flip, Int.min_comm b.x, Int.max_comm b.x, Int.min_comm b.y, Int.max_comm b.y]
  congr 2
  rw [decide_eq_decide]
  omega
theorem cmp0 (a : Int) : L.cmp (-a) 0 = - L.cmp a 0 := by
  unfold L.cmp
  rcases Int.lt_trichotomy a 0 with h | h | h
  · rw [decide_eq_true h, decide_eq_false (show ¬ -a < 0 by omega), decide_eq_true (show 0 < -a by omega)]; rfl
  · subst h; rfl
  · rw [decide_eq_false (show ¬ a < 0 by omega), decide_eq_true h, decide_eq_true (show -a < 0 by omega)]; rfl
theorem apart_eq {a b c d a' b' c' d' : L.Pt} {e : Int} (he : e = 1 ∨ e = -1) (h1 : L.cross a' b' c' = e * L.cross a b c) (h2 : L.cross a' b' d' = e * L.cross a b d) : L.apart a' b' c' d' = L.apart a b c d := by
  unfold L.apart
  rw [h1, h2]
  rcases he with rfl | rfl
  · rw [Int.one_mul, Int.one_mul]
  · rw [show ∀ x : Int, -1 * x = -x from fun x => by omega, show ∀ x : Int, -1 * x = -x from fun x => by omega, cmp0, cmp0, Int.neg_mul_neg]
theorem apart_sym (a b c d : L.Pt) : L.apart a b d c = L.apart a b c d := by
  unfold L.apart; rw [Int.mul_comm]
theorem meet_rev (a b c d : L.Pt) : L.meet b a c d = L.meet a b c d := by
  refine meet_map id (fun _ _ h => h) (fun q => ?_) ?_
  · unfold L.S
    rw [on_flip a b c, on_flip a b d]
    constructor
    · rintro (h | h | h | h)
      · exact ⟨q, .inr (.inl h), rfl⟩
      · exact ⟨q, .inl h, rfl⟩
      · exact ⟨q, .inr (.inr (.inl h)), rfl⟩
      · exact ⟨q, .inr (.inr (.inr h)), rfl⟩
    · rintro ⟨p, h, rfl⟩
      rcases h with h | h | h | h
      · exact .inr (.inl h)
      · exact .inl h
      · exact .inr (.inr (.inl h))
      · exact .inr (.inr (.inr h))
  · have e := apart_eq (a := a) (b := b) (c := c) (d := d) (a' := b) (b' := a) (c' := c) (d' := d) (e := -1) (.inr rfl) (by rw [cross_flip a b c]; omega) (by rw [cross_flip a b d]; omega)
    rw [apart_sym c d a b, e]
theorem meet_rev2 (a b c d : L.Pt) : L.meet b a d c = L.meet a b c d := by
  rw [meet_rev, ← meet_swap, meet_rev, meet_swap]
end Go.Proofs.Ytdlhpdidgfgomaa
