/- A symbolic walk over the model, and what it shows of functions of the program: parts of the proof that the text of the row joins. -/
import Derived.Test.YtinfalehnaejbaaW3
import Derived.Test.YtinfalehnaejbaaE4
import Derived.KernelRfl

namespace Go.Proofs.Ytinfalehnaejbaa
open Go.SE Go.RowKit
set_option maxRecDepth 100000
set_option maxHeartbeats 4000000
set_option linter.unusedVariables false
attribute [local irreducible] vc

theorem cols_bd (l : L.Sq L.Pt) (w : Int) : (∀ x j, 0 ≤ L.col l w x j ∧ L.col l w x j ≤ (j : Int)) := fun x j => by
  unfold L.col
  induction j with
  | zero => exact ⟨Int.le_refl _, Int.le_refl _⟩
  | succ j ih =>
    rw [PArea.sm]
    have : PArea.ind (L.wher l ⟨x, (L.lowTo l l.n).y + (j : Int)⟩ = w) = 0 ∨ PArea.ind (L.wher l ⟨x, (L.lowTo l l.n).y + (j : Int)⟩ = w) = 1 := by
      unfold PArea.ind; split
      · exact .inr rfl
      · exact .inl rfl
    omega
theorem cols_bd2 (l : L.Sq L.Pt) (w : Int) (h : L.ky l ≤ 4097) : (∀ i, 0 ≤ L.cols l w i ∧ L.cols l w i ≤ 4097 * (i : Int)) := fun i => by
  unfold L.cols
  induction i with
  | zero => exact ⟨Int.le_refl _, Int.le_refl _⟩
  | succ i ih =>
    rw [PArea.sm]
    have := cols_bd l w ((L.lowTo l l.n).x + (i : Int)) (L.ky l)
    omega
def p_VO2_p (l : (L.Sq L.Pt)) : Prop := l.n ≤ 9223372036854775807
def p_VO2_r (l : (L.Sq L.Pt)) : SV := .bool (L.validOutline l)
def p_VO2_s : List EV → Option (Prop × SV)
  | [.p (.sl 2 l_n l_g)] => some ((∀ i, i < l_n → l_g i = [.int .i64 ((ofPt (l_g i)).x), .int .i64 ((ofPt (l_g i)).y)]) ∧ p_VO2_p (⟨l_n, fun i => ofPt (l_g i)⟩ : (L.Sq L.Pt)), p_VO2_r (⟨l_n, fun i => ofPt (l_g i)⟩ : (L.Sq L.Pt)))
  | _ => none
abbrev p_VO2_S : SE.Spec := (specO p_VO2_s)
def p_VO2_C : Cfg := { muts := [], frz := lookN [], specs := lookS [(26, p_within_S), (23, p_valid_S), (13, p_area_S), (14, p_triples_S), (24, p_cross_S), (31, p_compare_S), (32, p_simple_S)], loops := lookL [], iters := lookI [(33, p_triples1_it)], rfs := lookR [], nils := lookM [] }
theorem p_VO2_vc (l : (L.Sq L.Pt)) (hp : p_VO2_p l) : vc Try.prog ({ p_VO2_C with loops := lookL [], rfs := lookR [(4, { T := Nat, keep := [1, 2], keepO := [2], own := fun k _ => [], inv := fun k _ => ∀ j, j < k → L.corner l j = true })] }) (bodyOf Try.f12) (st0 Try.f12 [.p (.sl 2 l.n (fun i => [.int .i64 ((l.g i).x), .int .i64 ((l.g i).y)]))]) (retFn Try.prog Try.f12 (p_VO2_r l)) :=
  @Eq.mpr _ (True ∧ ((!!L.within (↑l.n : Int) (3 : Int) (24 : Int)) = true → (∀ (i : Nat), i < l.n → [SV.int .i64 (l.g i).x, SV.int .i64 (l.g i).y] = [SV.int .i64 (l.g i).x, SV.int .i64 (l.g i).y]) ∧ l.n ≤ (1000000 : Nat)) ∧ ((!bif !L.within (↑l.n : Int) (3 : Int) (24 : Int) then true else !L.allB l.n fun (i : Nat) ↦ L.validPt (l.g i)) =
 true → (∀ (i : Nat), i < l.n → [SV.int .i64 (l.g i).x, SV.int .i64 (l.g i).y] = [SV.int .i64 (l.g i).x, SV.int .i64 (l.g i).y]) ∧ L.small (L.Sq.mk l.n fun (i : Nat) ↦ l.g i)) ∧ ((bif bif !L.within (↑l.n : Int) (3 : Int) (24 : Int) then true else !L.allB l.n fun (i : Nat) ↦ L.validPt (l.g i) then true else
 decide (L.areaTo (L.Sq.mk l.n fun (i : Nat) ↦ l.g i) l.n ≤ (0 : Int))) = true → false = L.validOutline l) ∧ ((bif bif !L.within (↑l.n : Int) (3 : Int) (24 : Int) then true else !L.allB l.n fun (i : Nat) ↦ L.validPt (l.g i) then true else decide (L.areaTo (L.Sq.mk l.n fun (i : Nat) ↦ l.g i) l.n ≤ (0 : Int))) = false → ((∀ (i : Nat), i < l.n →
 [SV.int .i64 (l.g i).x, SV.int .i64 (l.g i).y] = [SV.int .i64 (l.g i).x, SV.int .i64 (l.g i).y]) ∧ l.n ≤ (1000 : Nat)) ∧ (((∀ (i : Nat), i < l.n → [SV.int .i64 (l.g i).x, SV.int .i64 (l.g i).y] = [SV.int .i64 (l.g i).x, SV.int .i64 (l.g i).y]) ∧ l.n ≤ (1000 : Nat)) ∧ ∃ (t
 : Nat), false = false ∧ ∀ (j : Nat), j < (0 : Nat) → L.corner l j = true) ∧ (∀ (k t : Nat) (vk : Nat → Go.Value), k < l.n → (∀ (j : Nat), j < k → L.corner l j = true) → ((0 : Int) ≤ (0 : Int) ∧ (0 : Int) < (↑(3 : Nat) : Int)) ∧ ((0 : Int) ≤ (1 : Int) ∧ (1 : Int) < (↑(3 : Nat) : Int)) ∧ ((0 : Int) ≤ (2 : Int) ∧ (2 : Int) < (↑(3 : Nat) : Int)) ∧ (L.bd (l.g (Int.toNat (Int.tmod
 ((↑k : Int) + (↑l.n : Int) - (1 : Int)) (↑l.n : Int)))) ∧ L.bd (l.g (Int.toNat (↑k : Int))) ∧ L.bd (l.g (Int.toNat (Int.tmod ((↑k : Int) + (1 : Int)) (↑l.n : Int))))) ∧ ((!decide (L.cross (l.g (Int.toNat (Int.tmod ((↑k : Int) + (↑l.n : Int) - (1 : Int)) (↑l.n : Int)))) (l.g (Int.toNat (↑k : Int))) (l.g (Int.toNat (Int.tmod ((↑k : Int) + (1 : Int)) (↑l.n : Int)))) = (0 : Int)) &&
 decide ((0 : Int) < (↑k : Int))) = true → (0 : Int) ≤ (0 : Int) ∧ (0 : Int) < (↑l.n : Int)) ∧ ((!decide (L.cross (l.g (Int.toNat (Int.tmod ((↑k : Int) + (↑l.n : Int) - (1 : Int)) (↑l.n : Int)))) (l.g (Int.toNat (↑k : Int))) (l.g (Int.toNat (Int.tmod ((↑k : Int) + (1 : Int)) (↑l.n : Int)))) = (0 : Int)) && decide ((0 : Int) < (↑k : Int))) = true → (0 : Int) ≤
 (1 : Int) ∧ (1 : Int) < (↑(3 : Nat) : Int)) ∧ ((!decide (L.cross (l.g (Int.toNat (Int.tmod ((↑k : Int) + (↑l.n : Int) - (1 : Int)) (↑l.n : Int)))) (l.g (Int.toNat (↑k : Int))) (l.g (Int.toNat (Int.tmod ((↑k : Int) + (1 : Int)) (↑l.n : Int)))) = (0 : Int)) && decide ((0 : Int) < (↑k : Int))) = true → True) ∧ ((bif decide (L.cross (l.g (Int.toNat (Int.tmod ((↑k :
 Int) + (↑l.n : Int) - (1 : Int)) (↑l.n : Int)))) (l.g (Int.toNat (↑k : Int))) (l.g (Int.toNat (Int.tmod ((↑k : Int) + (1 : Int)) (↑l.n : Int)))) = (0 : Int)) then true else bif decide ((0 : Int) < (↑k : Int)) then decide ((0 : Int) ≤ L.cmpPt (l.g (Int.toNat (0 : Int))) (l.g (Int.toNat (↑k : Int)))) else false) = true → nat_lit 0 = nat_lit 0 ∧ SV.ref
 [SV.sl (nat_lit 2) l.n fun (i : Nat) ↦ [SV.int .i64 (l.g i).x, SV.int .i64 (l.g i).y]] (nat_lit 0) = SV.ref [SV.sl (nat_lit 2) l.n fun (i : Nat) ↦ [SV.int .i64 (l.g i).x, SV.int .i64 (l.g i).y]] (nat_lit 0) ∧ vk (nat_lit 2) = vk (nat_lit 2) ∧ vk (nat_lit 1) = vk (nat_lit 1) ∧ false = L.validOutline l) ∧ ((bif
 decide (L.cross (l.g (Int.toNat (Int.tmod ((↑k : Int) + (↑l.n : Int) - (1 : Int)) (↑l.n : Int)))) (l.g (Int.toNat (↑k : Int))) (l.g (Int.toNat (Int.tmod ((↑k : Int) + (1 : Int)) (↑l.n : Int)))) = (0 : Int)) then true else bif decide ((0 : Int) < (↑k : Int)) then decide ((0 : Int) ≤ L.cmpPt (l.g (Int.toNat (0 : Int))) (l.g (Int.toNat (↑k : Int)))) else false)
 = false → ∃ (t' : Nat), nat_lit 0 = nat_lit 0 ∧ SV.ref [SV.sl (nat_lit 2) l.n fun (i : Nat) ↦ [SV.int .i64 (l.g i).x, SV.int .i64 (l.g i).y]] (nat_lit 0) = SV.ref [SV.sl (nat_lit 2) l.n fun (i : Nat) ↦ [SV.int .i64 (l.g i).x, SV.int .i64 (l.g i).y]] (nat_lit 0) ∧ vk (nat_lit 2) = vk (nat_lit 2) ∧ vk
 (nat_lit 1) = vk (nat_lit 1) ∧ false = false ∧ ∀ (j : Nat), j < k + (1 : Nat) → L.corner l j = true)) ∧ ∀ (t : Nat), (∀ (j : Nat), j < l.n → L.corner l j = true) → ((∀ (i : Nat), i < l.n → [SV.int .i64 (l.g i).x, SV.int .i64 (l.g i).y] = [SV.int .i64 (l.g i).x, SV.int .i64 (l.g i).y]) ∧ L.allBd (L.Sq.mk l.n fun (i
 : Nat) ↦ l.g i)) ∧ L.simple (L.Sq.mk l.n fun (i : Nat) ↦ l.g i) = L.validOutline l)) (by kernel_rfl) (by
    have hn : l.n ≤ 9223372036854775807 := hp
    have e3 := valid3_eq l
    refine ⟨trivial, fun hw => ⟨fun _ _ => rfl, by have := within_iff.1 (notF (notT hw)); omega⟩, fun h => ⟨fun _ _ => rfl, ?_⟩, fun h => ?_, fun h => ?_⟩
    · cases h1 : L.within (l.n : Int) 3 24 with
      | false => simp [h1] at h
      | true => cases h2 : L.validPts l with
        | false => rw [h1] at h; rw [show (L.allB l.n fun i => L.validPt (l.g i)) = false from h2] at h; simp at h
        | true => exact (valid3_spec h1 h2).2.2.1
    · have h := e3.symm.trans h
      have : L.valid3 l = false := by simpa using h
      unfold L.validOutline; rw [this]; rfl
    · have h := e3.symm.trans h
      have hv : L.valid3 l = true := by simpa using h
      obtain ⟨n3, n24, hsm, hbd⟩ := valid3_of hv
      refine ⟨⟨fun _ _ => rfl, by omega⟩, ⟨⟨fun _ _ => rfl, by omega⟩, (0 : Nat), rfl, fun j hj => absurd hj (Nat.not_lt_zero _)⟩, fun k t vk hk hi => ?_, fun t hi => ?_⟩
      · have c1 : (Int.tmod ((k : Int) + (l.n : Int) - 1) (l.n : Int)).toNat = L.prev l.n k := rfl
        have c2 : ((k : Int)).toNat = k := by omega
        have c3 : (Int.tmod ((k : Int) + 1) (l.n : Int)).toNat = L.next l.n k := rfl
        rw [c1, c2, c3]
        have key : (bif decide (L.cross (l.g (L.prev l.n k)) (l.g k) (l.g (L.next l.n k)) = 0) then true else bif decide (0 < (k : Int)) then decide (0 ≤ L.cmpPt (l.g (Int.toNat 0)) (l.g k)) else false) = !L.corner l k := by
          unfold L.corner; rw [Bool.not_not]; rfl
        rw [key]
        refine ⟨by omega, by omega, by omega, ⟨hbd.2 _ (prev_lt (by omega)), hbd.2 _ hk, hbd.2 _ (next_lt (by omega))⟩, fun _ => by omega, fun _ => by omega, fun _ => trivial, fun h => ⟨rfl, rfl, rfl, rfl, ?_⟩, fun h => ⟨t, rfl, rfl, rfl, rfl, rfl, fun j hj => ?_⟩⟩
        · have : L.corner l k = false := by simpa using h
          unfold L.validOutline
          rw [allB_false hk this]; simp
        · rcases Nat.lt_succ_iff_lt_or_eq.1 hj with h' | rfl
          · exact hi j h'
          · simpa using h
      · refine ⟨⟨fun _ _ => rfl, hbd⟩, ?_⟩
        unfold L.validOutline
        rw [hv, allB_iff.2 hi]; rfl)
theorem p_VO2_ok : SpecOk Try.prog 12 p_VO2_S := fnX Try.func12 (c := bodyOf Try.f12) (by kernel_rfl) mixed (fun args p r hs hp => by
  unfold p_VO2_s at hs
  split at hs
  · cases hs; exact ⟨_, _, p_VO2_vc _ hp.2, (.p (.sl hp.1) .nil), ⟨show SpecsL Try.prog _ from (SpecsL.cons p_within_ok p_within_en (SpecsL.cons p_valid_ok p_valid_en (SpecsL.cons p_area_ok p_area_en (SpecsL.cons p_triples_ok p_triples_en (SpecsL.cons p_cross_ok p_cross_en (SpecsL.cons p_compare_ok p_compare_en (SpecsL.cons p_simple_ok p_simple_en SpecsL.nil))))))), rfl, ⟨show ItersL Try.prog _ from (ItersL.cons p_triples1_itok p_triples1_en ItersL.nil), (TrsOk.none (fun _ => rfl))⟩⟩⟩
  · cases hs)
theorem p_VO2_en : Enters Try.prog 12 := fun args w => by kernel_rfl
def p_Area2_p (l : (L.Sq L.Pt)) : Prop := l.n ≤ 9223372036854775807
def p_Area2_r (l : (L.Sq L.Pt)) : SV := .tup [.int .i64 (bif L.validOutline l then L.areaTo l l.n else 0), .int .i64 (bif L.validOutline l then 0 else 1)]
def p_Area2_s : List EV → Option (Prop × SV)
  | [.p (.sl 2 l_n l_g)] => some ((∀ i, i < l_n → l_g i = [.int .i64 ((ofPt (l_g i)).x), .int .i64 ((ofPt (l_g i)).y)]) ∧ p_Area2_p (⟨l_n, fun i => ofPt (l_g i)⟩ : (L.Sq L.Pt)), p_Area2_r (⟨l_n, fun i => ofPt (l_g i)⟩ : (L.Sq L.Pt)))
  | _ => none
abbrev p_Area2_S : SE.Spec := (specO p_Area2_s)
def p_Area2_C : Cfg := { muts := [], frz := lookN [], specs := lookS [(12, p_VO2_S), (13, p_area_S)], loops := lookL [], iters := lookI [], rfs := lookR [], nils := lookM [] }
theorem p_Area2_vc (l : (L.Sq L.Pt)) (hp : p_Area2_p l) : vc Try.prog (p_Area2_C) (bodyOf Try.f5) (st0 Try.f5 [.p (.sl 2 l.n (fun i => [.int .i64 ((l.g i).x), .int .i64 ((l.g i).y)]))]) (retFn Try.prog Try.f5 (p_Area2_r l)) :=
  @Eq.mpr _ (((∀ (i : Nat), i < l.n → [SV.int .i64 (l.g i).x, SV.int .i64 (l.g i).y] = [SV.int .i64 (l.g i).x, SV.int .i64 (l.g i).y]) ∧ l.n ≤ (9223372036854775807 : Nat)) ∧ ((!L.validOutline (L.Sq.mk l.n fun (i : Nat) ↦ l.g i)) = true → ((0 : Int) = bif L.validOutline l then L.areaTo l l.n else (0 : Int)) ∧ (1 : Int) = bif L.validOutline l
 then (0 : Int) else (1 : Int)) ∧ ((!L.validOutline (L.Sq.mk l.n fun (i : Nat) ↦ l.g i)) = false → ((∀ (i : Nat), i < l.n → [SV.int .i64 (l.g i).x, SV.int .i64 (l.g i).y] = [SV.int .i64 (l.g i).x, SV.int .i64 (l.g i).y]) ∧ L.small (L.Sq.mk l.n fun (i : Nat) ↦ l.g i)) ∧ (L.areaTo (L.Sq.mk l.n fun (i : Nat) ↦ l.g i) l.n = bif
 L.validOutline l then L.areaTo l l.n else (0 : Int)) ∧ (0 : Int) = bif L.validOutline l then (0 : Int) else (1 : Int))) (by kernel_rfl) (by
    have hn : l.n ≤ 9223372036854775807 := hp
    refine ⟨⟨fun _ _ => rfl, hn⟩, fun h => ?_, fun h => ?_⟩
    · have hv : L.validOutline l = false := by simpa using (show (!L.validOutline l) = true from h)
      rw [hv]; exact ⟨rfl, rfl⟩
    · have hv : L.validOutline l = true := by simpa using (show (!L.validOutline l) = false from h)
      rw [hv]; exact ⟨⟨fun _ _ => rfl, (validOutline_of hv).2.2.1⟩, rfl, rfl⟩)
theorem p_Area2_ok : SpecOk Try.prog 5 p_Area2_S := fnX Try.func5 (c := bodyOf Try.f5) (by kernel_rfl) mixed (fun args p r hs hp => by
  unfold p_Area2_s at hs
  split at hs
  · cases hs; exact ⟨_, _, p_Area2_vc _ hp.2, (.p (.sl hp.1) .nil), ⟨show SpecsL Try.prog _ from (SpecsL.cons p_VO2_ok p_VO2_en (SpecsL.cons p_area_ok p_area_en SpecsL.nil)), rfl, ⟨show ItersL Try.prog _ from ItersL.nil, (TrsOk.none (fun _ => rfl))⟩⟩⟩
  · cases hs)
theorem p_Area2_en : Enters Try.prog 5 := fun args w => by kernel_rfl
def p_Grid2_p (l : (L.Sq L.Pt)) : Prop := l.n ≤ 9223372036854775807
def p_Grid2_r (l : (L.Sq L.Pt)) : SV := .tup [.int .i64 (L.grN l), .int .i64 (L.grI l), .int .i64 (L.oE l)]
def p_Grid2_s : List EV → Option (Prop × SV)
  | [.p (.sl 2 l_n l_g)] => some ((∀ i, i < l_n → l_g i = [.int .i64 ((ofPt (l_g i)).x), .int .i64 ((ofPt (l_g i)).y)]) ∧ p_Grid2_p (⟨l_n, fun i => ofPt (l_g i)⟩ : (L.Sq L.Pt)), p_Grid2_r (⟨l_n, fun i => ofPt (l_g i)⟩ : (L.Sq L.Pt)))
  | _ => none
abbrev p_Grid2_S : SE.Spec := (specO p_Grid2_s)
def p_Grid2_C : Cfg := { muts := [2, 6], frz := lookN [], specs := lookS [(12, p_VO2_S), (14, p_triples_S), (15, p_gcd_S), (13, p_area_S)], loops := lookL [], iters := lookI [(33, p_triples1_it)], rfs := lookR [], nils := lookM [], anys := [6] }
theorem p_Grid2_vc (l : (L.Sq L.Pt)) (hp : p_Grid2_p l) : vc Try.prog ({ p_Grid2_C with loops := lookL [], rfs := lookR [(4, { T := Nat, keep := [0, 2], keepO := [], own := fun k _ => [(2, .blk 3 [.p (.int .i64 (L.gridTo l k))])], inv := fun k _ => k ≤ l.n })] }) (bodyOf Try.f6) (st0 Try.f6 [.p (.sl 2 l.n (fun i => [.int .i64 ((l.g i).x), .int .i64 ((l.g i).y)]))]) (retFn Try.prog Try.f6 (p_Grid2_r l)) :=
  @Eq.mpr _ (((∀ (i : Nat), i < l.n → [SV.int .i64 (l.g i).x, SV.int .i64 (l.g i).y] = [SV.int .i64 (l.g i).x, SV.int .i64 (l.g i).y]) ∧ l.n ≤ (9223372036854775807 : Nat)) ∧ ((!L.validOutline (L.Sq.mk l.n fun (i : Nat) ↦ l.g i)) = true → (0 : Int) = L.grN l ∧ (0 : Int) = L.grI l ∧ (1 : Int) = L.oE l) ∧ ((!L.validOutline (L.Sq.mk l.n fun (i :
 Nat) ↦ l.g i)) = false → ((∀ (i : Nat), i < l.n → [SV.int .i64 (l.g i).x, SV.int .i64 (l.g i).y] = [SV.int .i64 (l.g i).x, SV.int .i64 (l.g i).y]) ∧ l.n ≤ (1000 : Nat)) ∧ (((∀ (i : Nat), i < l.n → [SV.int .i64 (l.g i).x, SV.int .i64 (l.g i).y] = [SV.int .i64 (l.g i).x, SV.int
 .i64 (l.g i).y]) ∧ l.n ≤ (1000 : Nat)) ∧ ∃ (t : Nat), (0 : Int) = L.gridTo l (0 : Nat) ∧ (0 : Nat) ≤ l.n) ∧ (∀ (k t : Nat) (vk : Nat → Go.Value), k < l.n → k ≤ l.n → ((0 : Int) ≤ (2 : Int) ∧ (2 : Int) < (↑(3 : Nat) : Int)) ∧ ((0 : Int) ≤ (1 : Int) ∧ (1 : Int) < (↑(3 : Nat) : Int)) ∧ InK .i64 ((l.g (Int.toNat (Int.tmod ((↑k : Int) + (1 : Int)) (↑l.n : Int)))).x - (l.g
 (Int.toNat (↑k : Int))).x) ∧ ((0 : Int) ≤ (2 : Int) ∧ (2 : Int) < (↑(3 : Nat) : Int)) ∧ ((0 : Int) ≤ (1 : Int) ∧ (1 : Int) < (↑(3 : Nat) : Int)) ∧ InK .i64 ((l.g (Int.toNat (Int.tmod ((↑k : Int) + (1 : Int)) (↑l.n : Int)))).y - (l.g (Int.toNat (↑k : Int))).y) ∧ (((-4611686018427387904 : Int) ≤ (l.g (Int.toNat (Int.tmod ((↑k : Int) + (1 : Int)) (↑l.n : Int)))).x - (l.g (Int.toNat
 (↑k : Int))).x ∧ (l.g (Int.toNat (Int.tmod ((↑k : Int) + (1 : Int)) (↑l.n : Int)))).x - (l.g (Int.toNat (↑k : Int))).x ≤ (4611686018427387904 : Int)) ∧ (-4611686018427387904 : Int) ≤ (l.g (Int.toNat (Int.tmod ((↑k : Int) + (1 : Int)) (↑l.n : Int)))).y - (l.g (Int.toNat (↑k : Int))).y ∧ (l.g (Int.toNat (Int.tmod ((↑k : Int) + (1 : Int)) (↑l.n : Int)))).y - (l.g (Int.toNat (↑k : Int))).y ≤
 (4611686018427387904 : Int)) ∧ InK .i64 (L.gridTo l k + L.gcd ((l.g (Int.toNat (Int.tmod ((↑k : Int) + (1 : Int)) (↑l.n : Int)))).x - (l.g (Int.toNat (↑k : Int))).x) ((l.g (Int.toNat (Int.tmod ((↑k : Int) + (1 : Int)) (↑l.n : Int)))).y - (l.g (Int.toNat (↑k : Int))).y)) ∧ ∃ (t' : Nat), nat_lit 0 = nat_lit 0 ∧ (l.n = l.n ∧ ∀ (i : Nat), i < l.n → [SV.int .i64 (l.g
 i).x, SV.int .i64 (l.g i).y] = [SV.int .i64 (l.g i).x, SV.int .i64 (l.g i).y]) ∧ vk (nat_lit 2) = vk (nat_lit 2) ∧ vk (nat_lit 0) = vk (nat_lit 0) ∧ L.gridTo l k + L.gcd ((l.g (Int.toNat (Int.tmod ((↑k : Int) + (1 : Int)) (↑l.n : Int)))).x - (l.g (Int.toNat (↑k : Int))).x) ((l.g (Int.toNat (Int.tmod ((↑k : Int) + (1 : Int)) (↑l.n : Int)))).y - (l.g
 (Int.toNat (↑k : Int))).y) = L.gridTo l (k + (1 : Nat)) ∧ k + (1 : Nat) ≤ l.n) ∧ ∀ (t : Nat), l.n ≤ l.n → (((((∀ (i : Nat), i < l.n → [SV.int .i64 (l.g i).x, SV.int .i64 (l.g i).y] = [SV.int .i64 (l.g i).x, SV.int .i64 (l.g i).y]) ∧ L.small (L.Sq.mk l.n fun (i : Nat) ↦ l.g i)) ∧ (InK .i64 (L.areaTo (L.Sq.mk l.n fun (i
 : Nat) ↦ l.g i) l.n - L.gridTo l l.n) ∧ (InK .i64 (L.areaTo (L.Sq.mk l.n fun (i : Nat) ↦ l.g i) l.n - L.gridTo l l.n + (2 : Int)) ∧ ((2 : Int) ≠ (0 : Int) ∧ InK .i64 (Int.tdiv (L.areaTo (L.Sq.mk l.n fun (i : Nat) ↦ l.g i) l.n - L.gridTo l l.n + (2 : Int)) (2 : Int)) ∧ L.gridTo l l.n = L.grN l ∧ Int.tdiv (L.areaTo (L.Sq.mk l.n fun (i : Nat) ↦ l.g i) l.n - L.gridTo l
 l.n + (2 : Int)) (2 : Int) = L.grI l ∧ (0 : Int) = L.oE l) ∧ (2 : Int) ≠ (0 : Int) ∧ InK .i64 (Int.tdiv (L.areaTo (L.Sq.mk l.n fun (i : Nat) ↦ l.g i) l.n - L.gridTo l l.n + (2 : Int)) (2 : Int)) ∧ L.gridTo l l.n = L.grN l ∧ Int.tdiv (L.areaTo (L.Sq.mk l.n fun (i : Nat) ↦ l.g i) l.n - L.gridTo l l.n + (2 : Int)) (2 : Int) = L.grI l ∧ (0 : Int) = L.oE l) ∧ InK .i64
 (L.areaTo (L.Sq.mk l.n fun (i : Nat) ↦ l.g i) l.n - L.gridTo l l.n + (2 : Int)) ∧ (2 : Int) ≠ (0 : Int) ∧ InK .i64 (Int.tdiv (L.areaTo (L.Sq.mk l.n fun (i : Nat) ↦ l.g i) l.n - L.gridTo l l.n + (2 : Int)) (2 : Int)) ∧ L.gridTo l l.n = L.grN l ∧ Int.tdiv (L.areaTo (L.Sq.mk l.n fun (i : Nat) ↦ l.g i) l.n - L.gridTo l l.n + (2 : Int)) (2 : Int) = L.grI l ∧ (0 : Int) = L.oE l) ∧
 InK .i64 (L.areaTo (L.Sq.mk l.n fun (i : Nat) ↦ l.g i) l.n - L.gridTo l l.n) ∧ InK .i64 (L.areaTo (L.Sq.mk l.n fun (i : Nat) ↦ l.g i) l.n - L.gridTo l l.n + (2 : Int)) ∧ (2 : Int) ≠ (0 : Int) ∧ InK .i64 (Int.tdiv (L.areaTo (L.Sq.mk l.n fun (i : Nat) ↦ l.g i) l.n - L.gridTo l l.n + (2 : Int)) (2 : Int)) ∧ L.gridTo l l.n = L.grN l ∧ Int.tdiv (L.areaTo
 (L.Sq.mk l.n fun (i : Nat) ↦ l.g i) l.n - L.gridTo l l.n + (2 : Int)) (2 : Int) = L.grI l ∧ (0 : Int) = L.oE l) ∧ ((∀ (i : Nat), i < l.n → [SV.int .i64 (l.g i).x, SV.int .i64 (l.g i).y] = [SV.int .i64 (l.g i).x, SV.int .i64 (l.g i).y]) ∧ L.small (L.Sq.mk l.n fun (i : Nat) ↦ l.g i)) ∧ (InK .i64 (L.areaTo (L.Sq.mk l.n
 fun (i : Nat) ↦ l.g i) l.n - L.gridTo l l.n) ∧ (InK .i64 (L.areaTo (L.Sq.mk l.n fun (i : Nat) ↦ l.g i) l.n - L.gridTo l l.n + (2 : Int)) ∧ ((2 : Int) ≠ (0 : Int) ∧ InK .i64 (Int.tdiv (L.areaTo (L.Sq.mk l.n fun (i : Nat) ↦ l.g i) l.n - L.gridTo l l.n + (2 : Int)) (2 : Int)) ∧ L.gridTo l l.n = L.grN l ∧ Int.tdiv (L.areaTo (L.Sq.mk l.n fun (i : Nat) ↦ l.g i) l.n -
 L.gridTo l l.n + (2 : Int)) (2 : Int) = L.grI l ∧ (0 : Int) = L.oE l) ∧ (2 : Int) ≠ (0 : Int) ∧ InK .i64 (Int.tdiv (L.areaTo (L.Sq.mk l.n fun (i : Nat) ↦ l.g i) l.n - L.gridTo l l.n + (2 : Int)) (2 : Int)) ∧ L.gridTo l l.n = L.grN l ∧ Int.tdiv (L.areaTo (L.Sq.mk l.n fun (i : Nat) ↦ l.g i) l.n - L.gridTo l l.n + (2 : Int)) (2 : Int) = L.grI l ∧ (0 : Int) = L.oE l) ∧ InK
 .i64 (L.areaTo (L.Sq.mk l.n fun (i : Nat) ↦ l.g i) l.n - L.gridTo l l.n + (2 : Int)) ∧ (2 : Int) ≠ (0 : Int) ∧ InK .i64 (Int.tdiv (L.areaTo (L.Sq.mk l.n fun (i : Nat) ↦ l.g i) l.n - L.gridTo l l.n + (2 : Int)) (2 : Int)) ∧ L.gridTo l l.n = L.grN l ∧ Int.tdiv (L.areaTo (L.Sq.mk l.n fun (i : Nat) ↦ l.g i) l.n - L.gridTo l l.n + (2 : Int)) (2 : Int) = L.grI l ∧ (0 : Int) =
 L.oE l) ∧ InK .i64 (L.areaTo (L.Sq.mk l.n fun (i : Nat) ↦ l.g i) l.n - L.gridTo l l.n) ∧ InK .i64 (L.areaTo (L.Sq.mk l.n fun (i : Nat) ↦ l.g i) l.n - L.gridTo l l.n + (2 : Int)) ∧ (2 : Int) ≠ (0 : Int) ∧ InK .i64 (Int.tdiv (L.areaTo (L.Sq.mk l.n fun (i : Nat) ↦ l.g i) l.n - L.gridTo l l.n + (2 : Int)) (2 : Int)) ∧ L.gridTo l l.n = L.grN l ∧ Int.tdiv
 (L.areaTo (L.Sq.mk l.n fun (i : Nat) ↦ l.g i) l.n - L.gridTo l l.n + (2 : Int)) (2 : Int) = L.grI l ∧ (0 : Int) = L.oE l) ∧ ((∀ (i : Nat), i < l.n → [SV.int .i64 (l.g i).x, SV.int .i64 (l.g i).y] = [SV.int .i64 (l.g i).x, SV.int .i64 (l.g i).y]) ∧ L.small (L.Sq.mk l.n fun (i : Nat) ↦ l.g i)) ∧ (InK .i64 (L.areaTo
 (L.Sq.mk l.n fun (i : Nat) ↦ l.g i) l.n - L.gridTo l l.n) ∧ (InK .i64 (L.areaTo (L.Sq.mk l.n fun (i : Nat) ↦ l.g i) l.n - L.gridTo l l.n + (2 : Int)) ∧ ((2 : Int) ≠ (0 : Int) ∧ InK .i64 (Int.tdiv (L.areaTo (L.Sq.mk l.n fun (i : Nat) ↦ l.g i) l.n - L.gridTo l l.n + (2 : Int)) (2 : Int)) ∧ L.gridTo l l.n = L.grN l ∧ Int.tdiv (L.areaTo (L.Sq.mk l.n fun (i : Nat) ↦ l.g
 i) l.n - L.gridTo l l.n + (2 : Int)) (2 : Int) = L.grI l ∧ (0 : Int) = L.oE l) ∧ (2 : Int) ≠ (0 : Int) ∧ InK .i64 (Int.tdiv (L.areaTo (L.Sq.mk l.n fun (i : Nat) ↦ l.g i) l.n - L.gridTo l l.n + (2 : Int)) (2 : Int)) ∧ L.gridTo l l.n = L.grN l ∧ Int.tdiv (L.areaTo (L.Sq.mk l.n fun (i : Nat) ↦ l.g i) l.n - L.gridTo l l.n + (2 : Int)) (2 : Int) = L.grI l ∧ (0 : Int) = L.oE l) ∧
 InK .i64 (L.areaTo (L.Sq.mk l.n fun (i : Nat) ↦ l.g i) l.n - L.gridTo l l.n + (2 : Int)) ∧ (2 : Int) ≠ (0 : Int) ∧ InK .i64 (Int.tdiv (L.areaTo (L.Sq.mk l.n fun (i : Nat) ↦ l.g i) l.n - L.gridTo l l.n + (2 : Int)) (2 : Int)) ∧ L.gridTo l l.n = L.grN l ∧ Int.tdiv (L.areaTo (L.Sq.mk l.n fun (i : Nat) ↦ l.g i) l.n - L.gridTo l l.n + (2 : Int)) (2 : Int) = L.grI l ∧ (0
 : Int) = L.oE l) ∧ InK .i64 (L.areaTo (L.Sq.mk l.n fun (i : Nat) ↦ l.g i) l.n - L.gridTo l l.n) ∧ InK .i64 (L.areaTo (L.Sq.mk l.n fun (i : Nat) ↦ l.g i) l.n - L.gridTo l l.n + (2 : Int)) ∧ (2 : Int) ≠ (0 : Int) ∧ InK .i64 (Int.tdiv (L.areaTo (L.Sq.mk l.n fun (i : Nat) ↦ l.g i) l.n - L.gridTo l l.n + (2 : Int)) (2 : Int)) ∧ L.gridTo l l.n = L.grN l ∧
 Int.tdiv (L.areaTo (L.Sq.mk l.n fun (i : Nat) ↦ l.g i) l.n - L.gridTo l l.n + (2 : Int)) (2 : Int) = L.grI l ∧ (0 : Int) = L.oE l) ∧ (((((∀ (i : Nat), i < l.n → [SV.int .i64 (l.g i).x, SV.int .i64 (l.g i).y] = [SV.int .i64 (l.g i).x, SV.int .i64 (l.g i).y]) ∧ L.small (L.Sq.mk l.n fun (i : Nat) ↦ l.g i)) ∧ (InK .i64
 (L.areaTo (L.Sq.mk l.n fun (i : Nat) ↦ l.g i) l.n - L.gridTo l l.n) ∧ (InK .i64 (L.areaTo (L.Sq.mk l.n fun (i : Nat) ↦ l.g i) l.n - L.gridTo l l.n + (2 : Int)) ∧ ((2 : Int) ≠ (0 : Int) ∧ InK .i64 (Int.tdiv (L.areaTo (L.Sq.mk l.n fun (i : Nat) ↦ l.g i) l.n - L.gridTo l l.n + (2 : Int)) (2 : Int)) ∧ L.gridTo l l.n = L.grN l ∧ Int.tdiv (L.areaTo (L.Sq.mk l.n fun (i :
 Nat) ↦ l.g i) l.n - L.gridTo l l.n + (2 : Int)) (2 : Int) = L.grI l ∧ (0 : Int) = L.oE l) ∧ (2 : Int) ≠ (0 : Int) ∧ InK .i64 (Int.tdiv (L.areaTo (L.Sq.mk l.n fun (i : Nat) ↦ l.g i) l.n - L.gridTo l l.n + (2 : Int)) (2 : Int)) ∧ L.gridTo l l.n = L.grN l ∧ Int.tdiv (L.areaTo (L.Sq.mk l.n fun (i : Nat) ↦ l.g i) l.n - L.gridTo l l.n + (2 : Int)) (2 : Int) = L.grI l ∧ (0 : Int) = L.oE
 l) ∧ InK .i64 (L.areaTo (L.Sq.mk l.n fun (i : Nat) ↦ l.g i) l.n - L.gridTo l l.n + (2 : Int)) ∧ (2 : Int) ≠ (0 : Int) ∧ InK .i64 (Int.tdiv (L.areaTo (L.Sq.mk l.n fun (i : Nat) ↦ l.g i) l.n - L.gridTo l l.n + (2 : Int)) (2 : Int)) ∧ L.gridTo l l.n = L.grN l ∧ Int.tdiv (L.areaTo (L.Sq.mk l.n fun (i : Nat) ↦ l.g i) l.n - L.gridTo l l.n + (2 : Int)) (2 : Int) = L.grI l
 ∧ (0 : Int) = L.oE l) ∧ InK .i64 (L.areaTo (L.Sq.mk l.n fun (i : Nat) ↦ l.g i) l.n - L.gridTo l l.n) ∧ InK .i64 (L.areaTo (L.Sq.mk l.n fun (i : Nat) ↦ l.g i) l.n - L.gridTo l l.n + (2 : Int)) ∧ (2 : Int) ≠ (0 : Int) ∧ InK .i64 (Int.tdiv (L.areaTo (L.Sq.mk l.n fun (i : Nat) ↦ l.g i) l.n - L.gridTo l l.n + (2 : Int)) (2 : Int)) ∧ L.gridTo l l.n = L.grN
 l ∧ Int.tdiv (L.areaTo (L.Sq.mk l.n fun (i : Nat) ↦ l.g i) l.n - L.gridTo l l.n + (2 : Int)) (2 : Int) = L.grI l ∧ (0 : Int) = L.oE l) ∧ ((∀ (i : Nat), i < l.n → [SV.int .i64 (l.g i).x, SV.int .i64 (l.g i).y] = [SV.int .i64 (l.g i).x, SV.int .i64 (l.g i).y]) ∧ L.small (L.Sq.mk l.n fun (i : Nat) ↦ l.g i)) ∧ (InK .i64
 (L.areaTo (L.Sq.mk l.n fun (i : Nat) ↦ l.g i) l.n - L.gridTo l l.n) ∧ (InK .i64 (L.areaTo (L.Sq.mk l.n fun (i : Nat) ↦ l.g i) l.n - L.gridTo l l.n + (2 : Int)) ∧ ((2 : Int) ≠ (0 : Int) ∧ InK .i64 (Int.tdiv (L.areaTo (L.Sq.mk l.n fun (i : Nat) ↦ l.g i) l.n - L.gridTo l l.n + (2 : Int)) (2 : Int)) ∧ L.gridTo l l.n = L.grN l ∧ Int.tdiv (L.areaTo (L.Sq.mk l.n fun (i :
 Nat) ↦ l.g i) l.n - L.gridTo l l.n + (2 : Int)) (2 : Int) = L.grI l ∧ (0 : Int) = L.oE l) ∧ (2 : Int) ≠ (0 : Int) ∧ InK .i64 (Int.tdiv (L.areaTo (L.Sq.mk l.n fun (i : Nat) ↦ l.g i) l.n - L.gridTo l l.n + (2 : Int)) (2 : Int)) ∧ L.gridTo l l.n = L.grN l ∧ Int.tdiv (L.areaTo (L.Sq.mk l.n fun (i : Nat) ↦ l.g i) l.n - L.gridTo l l.n + (2 : Int)) (2 : Int) = L.grI l ∧ (0 : Int) = L.oE
 l) ∧ InK .i64 (L.areaTo (L.Sq.mk l.n fun (i : Nat) ↦ l.g i) l.n - L.gridTo l l.n + (2 : Int)) ∧ (2 : Int) ≠ (0 : Int) ∧ InK .i64 (Int.tdiv (L.areaTo (L.Sq.mk l.n fun (i : Nat) ↦ l.g i) l.n - L.gridTo l l.n + (2 : Int)) (2 : Int)) ∧ L.gridTo l l.n = L.grN l ∧ Int.tdiv (L.areaTo (L.Sq.mk l.n fun (i : Nat) ↦ l.g i) l.n - L.gridTo l l.n + (2 : Int)) (2 : Int) = L.grI l
 ∧ (0 : Int) = L.oE l) ∧ InK .i64 (L.areaTo (L.Sq.mk l.n fun (i : Nat) ↦ l.g i) l.n - L.gridTo l l.n) ∧ InK .i64 (L.areaTo (L.Sq.mk l.n fun (i : Nat) ↦ l.g i) l.n - L.gridTo l l.n + (2 : Int)) ∧ (2 : Int) ≠ (0 : Int) ∧ InK .i64 (Int.tdiv (L.areaTo (L.Sq.mk l.n fun (i : Nat) ↦ l.g i) l.n - L.gridTo l l.n + (2 : Int)) (2 : Int)) ∧ L.gridTo l l.n = L.grN
 l ∧ Int.tdiv (L.areaTo (L.Sq.mk l.n fun (i : Nat) ↦ l.g i) l.n - L.gridTo l l.n + (2 : Int)) (2 : Int) = L.grI l ∧ (0 : Int) = L.oE l) ∧ (((∀ (i : Nat), i < l.n → [SV.int .i64 (l.g i).x, SV.int .i64 (l.g i).y] = [SV.int .i64 (l.g i).x, SV.int .i64 (l.g i).y]) ∧ L.small (L.Sq.mk l.n fun (i : Nat) ↦ l.g i)) ∧ ((InK .i64
 (L.areaTo (L.Sq.mk l.n fun (i : Nat) ↦ l.g i) l.n - L.gridTo l l.n) ∧ (InK .i64 (L.areaTo (L.Sq.mk l.n fun (i : Nat) ↦ l.g i) l.n - L.gridTo l l.n + (2 : Int)) ∧ ((2 : Int) ≠ (0 : Int) ∧ InK .i64 (Int.tdiv (L.areaTo (L.Sq.mk l.n fun (i : Nat) ↦ l.g i) l.n - L.gridTo l l.n + (2 : Int)) (2 : Int)) ∧ L.gridTo l l.n = L.grN l ∧ Int.tdiv (L.areaTo (L.Sq.mk l.n fun (i :
 Nat) ↦ l.g i) l.n - L.gridTo l l.n + (2 : Int)) (2 : Int) = L.grI l ∧ (0 : Int) = L.oE l) ∧ (2 : Int) ≠ (0 : Int) ∧ InK .i64 (Int.tdiv (L.areaTo (L.Sq.mk l.n fun (i : Nat) ↦ l.g i) l.n - L.gridTo l l.n + (2 : Int)) (2 : Int)) ∧ L.gridTo l l.n = L.grN l ∧ Int.tdiv (L.areaTo (L.Sq.mk l.n fun (i : Nat) ↦ l.g i) l.n - L.gridTo l l.n + (2 : Int)) (2 : Int) = L.grI l ∧ (0 : Int) = L.oE
 l) ∧ InK .i64 (L.areaTo (L.Sq.mk l.n fun (i : Nat) ↦ l.g i) l.n - L.gridTo l l.n + (2 : Int)) ∧ (2 : Int) ≠ (0 : Int) ∧ InK .i64 (Int.tdiv (L.areaTo (L.Sq.mk l.n fun (i : Nat) ↦ l.g i) l.n - L.gridTo l l.n + (2 : Int)) (2 : Int)) ∧ L.gridTo l l.n = L.grN l ∧ Int.tdiv (L.areaTo (L.Sq.mk l.n fun (i : Nat) ↦ l.g i) l.n - L.gridTo l l.n + (2 : Int)) (2 : Int) = L.grI l
 ∧ (0 : Int) = L.oE l) ∧ InK .i64 (L.areaTo (L.Sq.mk l.n fun (i : Nat) ↦ l.g i) l.n - L.gridTo l l.n) ∧ InK .i64 (L.areaTo (L.Sq.mk l.n fun (i : Nat) ↦ l.g i) l.n - L.gridTo l l.n + (2 : Int)) ∧ (2 : Int) ≠ (0 : Int) ∧ InK .i64 (Int.tdiv (L.areaTo (L.Sq.mk l.n fun (i : Nat) ↦ l.g i) l.n - L.gridTo l l.n + (2 : Int)) (2 : Int)) ∧ L.gridTo l l.n = L.grN
 l ∧ Int.tdiv (L.areaTo (L.Sq.mk l.n fun (i : Nat) ↦ l.g i) l.n - L.gridTo l l.n + (2 : Int)) (2 : Int) = L.grI l ∧ (0 : Int) = L.oE l) ∧ ((InK .i64 (L.areaTo (L.Sq.mk l.n fun (i : Nat) ↦ l.g i) l.n - L.gridTo l l.n) ∧ (InK .i64 (L.areaTo (L.Sq.mk l.n fun (i : Nat) ↦ l.g i) l.n - L.gridTo l l.n + (2 : Int)) ∧ ((2 : Int) ≠ (0 : Int) ∧ InK .i64
 (Int.tdiv (L.areaTo (L.Sq.mk l.n fun (i : Nat) ↦ l.g i) l.n - L.gridTo l l.n + (2 : Int)) (2 : Int)) ∧ L.gridTo l l.n = L.grN l ∧ Int.tdiv (L.areaTo (L.Sq.mk l.n fun (i : Nat) ↦ l.g i) l.n - L.gridTo l l.n + (2 : Int)) (2 : Int) = L.grI l ∧ (0 : Int) = L.oE l) ∧ (2 : Int) ≠ (0 : Int) ∧ InK .i64 (Int.tdiv (L.areaTo (L.Sq.mk l.n fun (i : Nat) ↦ l.g i) l.n - L.gridTo l l.n + (2 :
 Int)) (2 : Int)) ∧ L.gridTo l l.n = L.grN l ∧ Int.tdiv (L.areaTo (L.Sq.mk l.n fun (i : Nat) ↦ l.g i) l.n - L.gridTo l l.n + (2 : Int)) (2 : Int) = L.grI l ∧ (0 : Int) = L.oE l) ∧ InK .i64 (L.areaTo (L.Sq.mk l.n fun (i : Nat) ↦ l.g i) l.n - L.gridTo l l.n + (2 : Int)) ∧ (2 : Int) ≠ (0 : Int) ∧ InK .i64 (Int.tdiv (L.areaTo (L.Sq.mk l.n fun (i : Nat) ↦ l.g i) l.n -
 L.gridTo l l.n + (2 : Int)) (2 : Int)) ∧ L.gridTo l l.n = L.grN l ∧ Int.tdiv (L.areaTo (L.Sq.mk l.n fun (i : Nat) ↦ l.g i) l.n - L.gridTo l l.n + (2 : Int)) (2 : Int) = L.grI l ∧ (0 : Int) = L.oE l) ∧ InK .i64 (L.areaTo (L.Sq.mk l.n fun (i : Nat) ↦ l.g i) l.n - L.gridTo l l.n) ∧ InK .i64 (L.areaTo (L.Sq.mk l.n fun (i : Nat) ↦ l.g i) l.n - L.gridTo l l.n + (2 : Int))
 ∧ (2 : Int) ≠ (0 : Int) ∧ InK .i64 (Int.tdiv (L.areaTo (L.Sq.mk l.n fun (i : Nat) ↦ l.g i) l.n - L.gridTo l l.n + (2 : Int)) (2 : Int)) ∧ L.gridTo l l.n = L.grN l ∧ Int.tdiv (L.areaTo (L.Sq.mk l.n fun (i : Nat) ↦ l.g i) l.n - L.gridTo l l.n + (2 : Int)) (2 : Int) = L.grI l ∧ (0 : Int) = L.oE l) ∧ InK .i64 (L.areaTo (L.Sq.mk l.n fun (i : Nat) ↦ l.g i) l.n - L.gridTo
 l l.n) ∧ ((InK .i64 (L.areaTo (L.Sq.mk l.n fun (i : Nat) ↦ l.g i) l.n - L.gridTo l l.n + (2 : Int)) ∧ ((2 : Int) ≠ (0 : Int) ∧ InK .i64 (Int.tdiv (L.areaTo (L.Sq.mk l.n fun (i : Nat) ↦ l.g i) l.n - L.gridTo l l.n + (2 : Int)) (2 : Int)) ∧ L.gridTo l l.n = L.grN l ∧ Int.tdiv (L.areaTo (L.Sq.mk l.n fun (i : Nat) ↦ l.g i) l.n - L.gridTo l l.n + (2 : Int)) (2 : Int) =
 L.grI l ∧ (0 : Int) = L.oE l) ∧ (2 : Int) ≠ (0 : Int) ∧ InK .i64 (Int.tdiv (L.areaTo (L.Sq.mk l.n fun (i : Nat) ↦ l.g i) l.n - L.gridTo l l.n + (2 : Int)) (2 : Int)) ∧ L.gridTo l l.n = L.grN l ∧ Int.tdiv (L.areaTo (L.Sq.mk l.n fun (i : Nat) ↦ l.g i) l.n - L.gridTo l l.n + (2 : Int)) (2 : Int) = L.grI l ∧ (0 : Int) = L.oE l) ∧ InK .i64 (L.areaTo (L.Sq.mk l.n fun (i :
 Nat) ↦ l.g i) l.n - L.gridTo l l.n + (2 : Int)) ∧ (2 : Int) ≠ (0 : Int) ∧ InK .i64 (Int.tdiv (L.areaTo (L.Sq.mk l.n fun (i : Nat) ↦ l.g i) l.n - L.gridTo l l.n + (2 : Int)) (2 : Int)) ∧ L.gridTo l l.n = L.grN l ∧ Int.tdiv (L.areaTo (L.Sq.mk l.n fun (i : Nat) ↦ l.g i) l.n - L.gridTo l l.n + (2 : Int)) (2 : Int) = L.grI l ∧ (0 : Int) = L.oE l) ∧ InK .i64 (L.areaTo
 (L.Sq.mk l.n fun (i : Nat) ↦ l.g i) l.n - L.gridTo l l.n + (2 : Int)) ∧ (((2 : Int) ≠ (0 : Int) ∧ InK .i64 (Int.tdiv (L.areaTo (L.Sq.mk l.n fun (i : Nat) ↦ l.g i) l.n - L.gridTo l l.n + (2 : Int)) (2 : Int)) ∧ L.gridTo l l.n = L.grN l ∧ Int.tdiv (L.areaTo (L.Sq.mk l.n fun (i : Nat) ↦ l.g i) l.n - L.gridTo l l.n + (2 : Int)) (2 : Int) = L.grI l ∧ (0 : Int) = L.oE l) ∧ (2 : Int) ≠ (0
 : Int) ∧ InK .i64 (Int.tdiv (L.areaTo (L.Sq.mk l.n fun (i : Nat) ↦ l.g i) l.n - L.gridTo l l.n + (2 : Int)) (2 : Int)) ∧ L.gridTo l l.n = L.grN l ∧ Int.tdiv (L.areaTo (L.Sq.mk l.n fun (i : Nat) ↦ l.g i) l.n - L.gridTo l l.n + (2 : Int)) (2 : Int) = L.grI l ∧ (0 : Int) = L.oE l) ∧ (2 : Int) ≠ (0 : Int) ∧ InK .i64 (Int.tdiv (L.areaTo (L.Sq.mk l.n fun (i : Nat) ↦ l.g
 i) l.n - L.gridTo l l.n + (2 : Int)) (2 : Int)) ∧ L.gridTo l l.n = L.grN l ∧ Int.tdiv (L.areaTo (L.Sq.mk l.n fun (i : Nat) ↦ l.g i) l.n - L.gridTo l l.n + (2 : Int)) (2 : Int) = L.grI l ∧ (0 : Int) = L.oE l) ∧ (((∀ (i : Nat), i < l.n → [SV.int .i64 (l.g i).x, SV.int .i64 (l.g i).y] = [SV.int .i64 (l.g i).x, SV.int .i64 (l.g i).y]) ∧
 L.small (L.Sq.mk l.n fun (i : Nat) ↦ l.g i)) ∧ (InK .i64 (L.areaTo (L.Sq.mk l.n fun (i : Nat) ↦ l.g i) l.n - L.gridTo l l.n) ∧ (InK .i64 (L.areaTo (L.Sq.mk l.n fun (i : Nat) ↦ l.g i) l.n - L.gridTo l l.n + (2 : Int)) ∧ ((2 : Int) ≠ (0 : Int) ∧ InK .i64 (Int.tdiv (L.areaTo (L.Sq.mk l.n fun (i : Nat) ↦ l.g i) l.n - L.gridTo l l.n + (2 : Int)) (2 :
 Int)) ∧ L.gridTo l l.n = L.grN l ∧ Int.tdiv (L.areaTo (L.Sq.mk l.n fun (i : Nat) ↦ l.g i) l.n - L.gridTo l l.n + (2 : Int)) (2 : Int) = L.grI l ∧ (0 : Int) = L.oE l) ∧ (2 : Int) ≠ (0 : Int) ∧ InK .i64 (Int.tdiv (L.areaTo (L.Sq.mk l.n fun (i : Nat) ↦ l.g i) l.n - L.gridTo l l.n + (2 : Int)) (2 : Int)) ∧ L.gridTo l l.n = L.grN l ∧ Int.tdiv (L.areaTo (L.Sq.mk l.n fun (i : Nat) ↦ l.g
 i) l.n - L.gridTo l l.n + (2 : Int)) (2 : Int) = L.grI l ∧ (0 : Int) = L.oE l) ∧ InK .i64 (L.areaTo (L.Sq.mk l.n fun (i : Nat) ↦ l.g i) l.n - L.gridTo l l.n + (2 : Int)) ∧ (2 : Int) ≠ (0 : Int) ∧ InK .i64 (Int.tdiv (L.areaTo (L.Sq.mk l.n fun (i : Nat) ↦ l.g i) l.n - L.gridTo l l.n + (2 : Int)) (2 : Int)) ∧ L.gridTo l l.n = L.grN l ∧ Int.tdiv (L.areaTo (L.Sq.mk l.n
 fun (i : Nat) ↦ l.g i) l.n - L.gridTo l l.n + (2 : Int)) (2 : Int) = L.grI l ∧ (0 : Int) = L.oE l) ∧ InK .i64 (L.areaTo (L.Sq.mk l.n fun (i : Nat) ↦ l.g i) l.n - L.gridTo l l.n) ∧ InK .i64 (L.areaTo (L.Sq.mk l.n fun (i : Nat) ↦ l.g i) l.n - L.gridTo l l.n + (2 : Int)) ∧ (2 : Int) ≠ (0 : Int) ∧ InK .i64 (Int.tdiv (L.areaTo (L.Sq.mk l.n fun (i : Nat) ↦
 l.g i) l.n - L.gridTo l l.n + (2 : Int)) (2 : Int)) ∧ L.gridTo l l.n = L.grN l ∧ Int.tdiv (L.areaTo (L.Sq.mk l.n fun (i : Nat) ↦ l.g i) l.n - L.gridTo l l.n + (2 : Int)) (2 : Int) = L.grI l ∧ (0 : Int) = L.oE l) ∧ ((∀ (i : Nat), i < l.n → [SV.int .i64 (l.g i).x, SV.int .i64 (l.g i).y] = [SV.int .i64 (l.g i).x, SV.int .i64 (l.g i).y])
 ∧ L.small (L.Sq.mk l.n fun (i : Nat) ↦ l.g i)) ∧ ((InK .i64 (L.areaTo (L.Sq.mk l.n fun (i : Nat) ↦ l.g i) l.n - L.gridTo l l.n) ∧ (InK .i64 (L.areaTo (L.Sq.mk l.n fun (i : Nat) ↦ l.g i) l.n - L.gridTo l l.n + (2 : Int)) ∧ ((2 : Int) ≠ (0 : Int) ∧ InK .i64 (Int.tdiv (L.areaTo (L.Sq.mk l.n fun (i : Nat) ↦ l.g i) l.n - L.gridTo l l.n + (2 : Int)) (2 :
 Int)) ∧ L.gridTo l l.n = L.grN l ∧ Int.tdiv (L.areaTo (L.Sq.mk l.n fun (i : Nat) ↦ l.g i) l.n - L.gridTo l l.n + (2 : Int)) (2 : Int) = L.grI l ∧ (0 : Int) = L.oE l) ∧ (2 : Int) ≠ (0 : Int) ∧ InK .i64 (Int.tdiv (L.areaTo (L.Sq.mk l.n fun (i : Nat) ↦ l.g i) l.n - L.gridTo l l.n + (2 : Int)) (2 : Int)) ∧ L.gridTo l l.n = L.grN l ∧ Int.tdiv (L.areaTo (L.Sq.mk l.n fun (i : Nat) ↦ l.g
 i) l.n - L.gridTo l l.n + (2 : Int)) (2 : Int) = L.grI l ∧ (0 : Int) = L.oE l) ∧ InK .i64 (L.areaTo (L.Sq.mk l.n fun (i : Nat) ↦ l.g i) l.n - L.gridTo l l.n + (2 : Int)) ∧ (2 : Int) ≠ (0 : Int) ∧ InK .i64 (Int.tdiv (L.areaTo (L.Sq.mk l.n fun (i : Nat) ↦ l.g i) l.n - L.gridTo l l.n + (2 : Int)) (2 : Int)) ∧ L.gridTo l l.n = L.grN l ∧ Int.tdiv (L.areaTo (L.Sq.mk l.n
 fun (i : Nat) ↦ l.g i) l.n - L.gridTo l l.n + (2 : Int)) (2 : Int) = L.grI l ∧ (0 : Int) = L.oE l) ∧ InK .i64 (L.areaTo (L.Sq.mk l.n fun (i : Nat) ↦ l.g i) l.n - L.gridTo l l.n) ∧ InK .i64 (L.areaTo (L.Sq.mk l.n fun (i : Nat) ↦ l.g i) l.n - L.gridTo l l.n + (2 : Int)) ∧ (2 : Int) ≠ (0 : Int) ∧ InK .i64 (Int.tdiv (L.areaTo (L.Sq.mk l.n fun (i : Nat) ↦
 l.g i) l.n - L.gridTo l l.n + (2 : Int)) (2 : Int)) ∧ L.gridTo l l.n = L.grN l ∧ Int.tdiv (L.areaTo (L.Sq.mk l.n fun (i : Nat) ↦ l.g i) l.n - L.gridTo l l.n + (2 : Int)) (2 : Int) = L.grI l ∧ (0 : Int) = L.oE l) ∧ InK .i64 (L.areaTo (L.Sq.mk l.n fun (i : Nat) ↦ l.g i) l.n - L.gridTo l l.n) ∧ ((InK .i64 (L.areaTo (L.Sq.mk l.n fun (i : Nat) ↦ l.g i) l.n - L.gridTo l
 l.n + (2 : Int)) ∧ ((2 : Int) ≠ (0 : Int) ∧ InK .i64 (Int.tdiv (L.areaTo (L.Sq.mk l.n fun (i : Nat) ↦ l.g i) l.n - L.gridTo l l.n + (2 : Int)) (2 : Int)) ∧ L.gridTo l l.n = L.grN l ∧ Int.tdiv (L.areaTo (L.Sq.mk l.n fun (i : Nat) ↦ l.g i) l.n - L.gridTo l l.n + (2 : Int)) (2 : Int) = L.grI l ∧ (0 : Int) = L.oE l) ∧ (2 : Int) ≠ (0 : Int) ∧ InK .i64 (Int.tdiv (L.areaTo
 (L.Sq.mk l.n fun (i : Nat) ↦ l.g i) l.n - L.gridTo l l.n + (2 : Int)) (2 : Int)) ∧ L.gridTo l l.n = L.grN l ∧ Int.tdiv (L.areaTo (L.Sq.mk l.n fun (i : Nat) ↦ l.g i) l.n - L.gridTo l l.n + (2 : Int)) (2 : Int) = L.grI l ∧ (0 : Int) = L.oE l) ∧ InK .i64 (L.areaTo (L.Sq.mk l.n fun (i : Nat) ↦ l.g i) l.n - L.gridTo l l.n + (2 : Int)) ∧ (2 : Int) ≠ (0 : Int) ∧ InK .i64
 (Int.tdiv (L.areaTo (L.Sq.mk l.n fun (i : Nat) ↦ l.g i) l.n - L.gridTo l l.n + (2 : Int)) (2 : Int)) ∧ L.gridTo l l.n = L.grN l ∧ Int.tdiv (L.areaTo (L.Sq.mk l.n fun (i : Nat) ↦ l.g i) l.n - L.gridTo l l.n + (2 : Int)) (2 : Int) = L.grI l ∧ (0 : Int) = L.oE l) ∧ InK .i64 (L.areaTo (L.Sq.mk l.n fun (i : Nat) ↦ l.g i) l.n - L.gridTo l l.n + (2 : Int)) ∧ (((2 : Int) ≠ (0 : Int) ∧
 InK .i64 (Int.tdiv (L.areaTo (L.Sq.mk l.n fun (i : Nat) ↦ l.g i) l.n - L.gridTo l l.n + (2 : Int)) (2 : Int)) ∧ L.gridTo l l.n = L.grN l ∧ Int.tdiv (L.areaTo (L.Sq.mk l.n fun (i : Nat) ↦ l.g i) l.n - L.gridTo l l.n + (2 : Int)) (2 : Int) = L.grI l ∧ (0 : Int) = L.oE l) ∧ (2 : Int) ≠ (0 : Int) ∧ InK .i64 (Int.tdiv (L.areaTo (L.Sq.mk l.n fun (i : Nat) ↦ l.g i) l.n -
 L.gridTo l l.n + (2 : Int)) (2 : Int)) ∧ L.gridTo l l.n = L.grN l ∧ Int.tdiv (L.areaTo (L.Sq.mk l.n fun (i : Nat) ↦ l.g i) l.n - L.gridTo l l.n + (2 : Int)) (2 : Int) = L.grI l ∧ (0 : Int) = L.oE l) ∧ (2 : Int) ≠ (0 : Int) ∧ InK .i64 (Int.tdiv (L.areaTo (L.Sq.mk l.n fun (i : Nat) ↦ l.g i) l.n - L.gridTo l l.n + (2 : Int)) (2 : Int)) ∧ L.gridTo l l.n = L.grN l ∧ Int.tdiv (L.areaTo
 (L.Sq.mk l.n fun (i : Nat) ↦ l.g i) l.n - L.gridTo l l.n + (2 : Int)) (2 : Int) = L.grI l ∧ (0 : Int) = L.oE l) ∧ (((∀ (i : Nat), i < l.n → [SV.int .i64 (l.g i).x, SV.int .i64 (l.g i).y] = [SV.int .i64 (l.g i).x, SV.int .i64 (l.g i).y]) ∧ L.small (L.Sq.mk l.n fun (i : Nat) ↦ l.g i)) ∧ (InK .i64 (L.areaTo (L.Sq.mk l.n
 fun (i : Nat) ↦ l.g i) l.n - L.gridTo l l.n) ∧ (InK .i64 (L.areaTo (L.Sq.mk l.n fun (i : Nat) ↦ l.g i) l.n - L.gridTo l l.n + (2 : Int)) ∧ ((2 : Int) ≠ (0 : Int) ∧ InK .i64 (Int.tdiv (L.areaTo (L.Sq.mk l.n fun (i : Nat) ↦ l.g i) l.n - L.gridTo l l.n + (2 : Int)) (2 : Int)) ∧ L.gridTo l l.n = L.grN l ∧ Int.tdiv (L.areaTo (L.Sq.mk l.n fun (i : Nat) ↦ l.g i) l.n -
 L.gridTo l l.n + (2 : Int)) (2 : Int) = L.grI l ∧ (0 : Int) = L.oE l) ∧ (2 : Int) ≠ (0 : Int) ∧ InK .i64 (Int.tdiv (L.areaTo (L.Sq.mk l.n fun (i : Nat) ↦ l.g i) l.n - L.gridTo l l.n + (2 : Int)) (2 : Int)) ∧ L.gridTo l l.n = L.grN l ∧ Int.tdiv (L.areaTo (L.Sq.mk l.n fun (i : Nat) ↦ l.g i) l.n - L.gridTo l l.n + (2 : Int)) (2 : Int) = L.grI l ∧ (0 : Int) = L.oE l) ∧ InK
 .i64 (L.areaTo (L.Sq.mk l.n fun (i : Nat) ↦ l.g i) l.n - L.gridTo l l.n + (2 : Int)) ∧ (2 : Int) ≠ (0 : Int) ∧ InK .i64 (Int.tdiv (L.areaTo (L.Sq.mk l.n fun (i : Nat) ↦ l.g i) l.n - L.gridTo l l.n + (2 : Int)) (2 : Int)) ∧ L.gridTo l l.n = L.grN l ∧ Int.tdiv (L.areaTo (L.Sq.mk l.n fun (i : Nat) ↦ l.g i) l.n - L.gridTo l l.n + (2 : Int)) (2 : Int) = L.grI l ∧ (0 : Int) =
 L.oE l) ∧ InK .i64 (L.areaTo (L.Sq.mk l.n fun (i : Nat) ↦ l.g i) l.n - L.gridTo l l.n) ∧ InK .i64 (L.areaTo (L.Sq.mk l.n fun (i : Nat) ↦ l.g i) l.n - L.gridTo l l.n + (2 : Int)) ∧ (2 : Int) ≠ (0 : Int) ∧ InK .i64 (Int.tdiv (L.areaTo (L.Sq.mk l.n fun (i : Nat) ↦ l.g i) l.n - L.gridTo l l.n + (2 : Int)) (2 : Int)) ∧ L.gridTo l l.n = L.grN l ∧ Int.tdiv
 (L.areaTo (L.Sq.mk l.n fun (i : Nat) ↦ l.g i) l.n - L.gridTo l l.n + (2 : Int)) (2 : Int) = L.grI l ∧ (0 : Int) = L.oE l) ∧ (((∀ (i : Nat), i < l.n → [SV.int .i64 (l.g i).x, SV.int .i64 (l.g i).y] = [SV.int .i64 (l.g i).x, SV.int .i64 (l.g i).y]) ∧ L.small (L.Sq.mk l.n fun (i : Nat) ↦ l.g i)) ∧ (InK .i64 (L.areaTo
 (L.Sq.mk l.n fun (i : Nat) ↦ l.g i) l.n - L.gridTo l l.n) ∧ (InK .i64 (L.areaTo (L.Sq.mk l.n fun (i : Nat) ↦ l.g i) l.n - L.gridTo l l.n + (2 : Int)) ∧ ((2 : Int) ≠ (0 : Int) ∧ InK .i64 (Int.tdiv (L.areaTo (L.Sq.mk l.n fun (i : Nat) ↦ l.g i) l.n - L.gridTo l l.n + (2 : Int)) (2 : Int)) ∧ L.gridTo l l.n = L.grN l ∧ Int.tdiv (L.areaTo (L.Sq.mk l.n fun (i : Nat) ↦ l.g
 i) l.n - L.gridTo l l.n + (2 : Int)) (2 : Int) = L.grI l ∧ (0 : Int) = L.oE l) ∧ (2 : Int) ≠ (0 : Int) ∧ InK .i64 (Int.tdiv (L.areaTo (L.Sq.mk l.n fun (i : Nat) ↦ l.g i) l.n - L.gridTo l l.n + (2 : Int)) (2 : Int)) ∧ L.gridTo l l.n = L.grN l ∧ Int.tdiv (L.areaTo (L.Sq.mk l.n fun (i : Nat) ↦ l.g i) l.n - L.gridTo l l.n + (2 : Int)) (2 : Int) = L.grI l ∧ (0 : Int) = L.oE l) ∧
 InK .i64 (L.areaTo (L.Sq.mk l.n fun (i : Nat) ↦ l.g i) l.n - L.gridTo l l.n + (2 : Int)) ∧ (2 : Int) ≠ (0 : Int) ∧ InK .i64 (Int.tdiv (L.areaTo (L.Sq.mk l.n fun (i : Nat) ↦ l.g i) l.n - L.gridTo l l.n + (2 : Int)) (2 : Int)) ∧ L.gridTo l l.n = L.grN l ∧ Int.tdiv (L.areaTo (L.Sq.mk l.n fun (i : Nat) ↦ l.g i) l.n - L.gridTo l l.n + (2 : Int)) (2 : Int) = L.grI l ∧ (0
 : Int) = L.oE l) ∧ InK .i64 (L.areaTo (L.Sq.mk l.n fun (i : Nat) ↦ l.g i) l.n - L.gridTo l l.n) ∧ InK .i64 (L.areaTo (L.Sq.mk l.n fun (i : Nat) ↦ l.g i) l.n - L.gridTo l l.n + (2 : Int)) ∧ (2 : Int) ≠ (0 : Int) ∧ InK .i64 (Int.tdiv (L.areaTo (L.Sq.mk l.n fun (i : Nat) ↦ l.g i) l.n - L.gridTo l l.n + (2 : Int)) (2 : Int)) ∧ L.gridTo l l.n = L.grN l ∧
 Int.tdiv (L.areaTo (L.Sq.mk l.n fun (i : Nat) ↦ l.g i) l.n - L.gridTo l l.n + (2 : Int)) (2 : Int) = L.grI l ∧ (0 : Int) = L.oE l) ∧ ((∀ (i : Nat), i < l.n → [SV.int .i64 (l.g i).x, SV.int .i64 (l.g i).y] = [SV.int .i64 (l.g i).x, SV.int .i64 (l.g i).y]) ∧ L.small (L.Sq.mk l.n fun (i : Nat) ↦ l.g i)) ∧ ((InK .i64
 (L.areaTo (L.Sq.mk l.n fun (i : Nat) ↦ l.g i) l.n - L.gridTo l l.n) ∧ (InK .i64 (L.areaTo (L.Sq.mk l.n fun (i : Nat) ↦ l.g i) l.n - L.gridTo l l.n + (2 : Int)) ∧ ((2 : Int) ≠ (0 : Int) ∧ InK .i64 (Int.tdiv (L.areaTo (L.Sq.mk l.n fun (i : Nat) ↦ l.g i) l.n - L.gridTo l l.n + (2 : Int)) (2 : Int)) ∧ L.gridTo l l.n = L.grN l ∧ Int.tdiv (L.areaTo (L.Sq.mk l.n fun (i :
 Nat) ↦ l.g i) l.n - L.gridTo l l.n + (2 : Int)) (2 : Int) = L.grI l ∧ (0 : Int) = L.oE l) ∧ (2 : Int) ≠ (0 : Int) ∧ InK .i64 (Int.tdiv (L.areaTo (L.Sq.mk l.n fun (i : Nat) ↦ l.g i) l.n - L.gridTo l l.n + (2 : Int)) (2 : Int)) ∧ L.gridTo l l.n = L.grN l ∧ Int.tdiv (L.areaTo (L.Sq.mk l.n fun (i : Nat) ↦ l.g i) l.n - L.gridTo l l.n + (2 : Int)) (2 : Int) = L.grI l ∧ (0 : Int) = L.oE
 l) ∧ InK .i64 (L.areaTo (L.Sq.mk l.n fun (i : Nat) ↦ l.g i) l.n - L.gridTo l l.n + (2 : Int)) ∧ (2 : Int) ≠ (0 : Int) ∧ InK .i64 (Int.tdiv (L.areaTo (L.Sq.mk l.n fun (i : Nat) ↦ l.g i) l.n - L.gridTo l l.n + (2 : Int)) (2 : Int)) ∧ L.gridTo l l.n = L.grN l ∧ Int.tdiv (L.areaTo (L.Sq.mk l.n fun (i : Nat) ↦ l.g i) l.n - L.gridTo l l.n + (2 : Int)) (2 : Int) = L.grI l
 ∧ (0 : Int) = L.oE l) ∧ InK .i64 (L.areaTo (L.Sq.mk l.n fun (i : Nat) ↦ l.g i) l.n - L.gridTo l l.n) ∧ InK .i64 (L.areaTo (L.Sq.mk l.n fun (i : Nat) ↦ l.g i) l.n - L.gridTo l l.n + (2 : Int)) ∧ (2 : Int) ≠ (0 : Int) ∧ InK .i64 (Int.tdiv (L.areaTo (L.Sq.mk l.n fun (i : Nat) ↦ l.g i) l.n - L.gridTo l l.n + (2 : Int)) (2 : Int)) ∧ L.gridTo l l.n = L.grN
 l ∧ Int.tdiv (L.areaTo (L.Sq.mk l.n fun (i : Nat) ↦ l.g i) l.n - L.gridTo l l.n + (2 : Int)) (2 : Int) = L.grI l ∧ (0 : Int) = L.oE l) ∧ InK .i64 (L.areaTo (L.Sq.mk l.n fun (i : Nat) ↦ l.g i) l.n - L.gridTo l l.n) ∧ ((InK .i64 (L.areaTo (L.Sq.mk l.n fun (i : Nat) ↦ l.g i) l.n - L.gridTo l l.n + (2 : Int)) ∧ ((2 : Int) ≠ (0 : Int) ∧ InK .i64 (Int.tdiv
 (L.areaTo (L.Sq.mk l.n fun (i : Nat) ↦ l.g i) l.n - L.gridTo l l.n + (2 : Int)) (2 : Int)) ∧ L.gridTo l l.n = L.grN l ∧ Int.tdiv (L.areaTo (L.Sq.mk l.n fun (i : Nat) ↦ l.g i) l.n - L.gridTo l l.n + (2 : Int)) (2 : Int) = L.grI l ∧ (0 : Int) = L.oE l) ∧ (2 : Int) ≠ (0 : Int) ∧ InK .i64 (Int.tdiv (L.areaTo (L.Sq.mk l.n fun (i : Nat) ↦ l.g i) l.n - L.gridTo l l.n + (2 : Int)) (2 :
 Int)) ∧ L.gridTo l l.n = L.grN l ∧ Int.tdiv (L.areaTo (L.Sq.mk l.n fun (i : Nat) ↦ l.g i) l.n - L.gridTo l l.n + (2 : Int)) (2 : Int) = L.grI l ∧ (0 : Int) = L.oE l) ∧ InK .i64 (L.areaTo (L.Sq.mk l.n fun (i : Nat) ↦ l.g i) l.n - L.gridTo l l.n + (2 : Int)) ∧ (2 : Int) ≠ (0 : Int) ∧ InK .i64 (Int.tdiv (L.areaTo (L.Sq.mk l.n fun (i : Nat) ↦ l.g i) l.n - L.gridTo l l.n
 + (2 : Int)) (2 : Int)) ∧ L.gridTo l l.n = L.grN l ∧ Int.tdiv (L.areaTo (L.Sq.mk l.n fun (i : Nat) ↦ l.g i) l.n - L.gridTo l l.n + (2 : Int)) (2 : Int) = L.grI l ∧ (0 : Int) = L.oE l) ∧ InK .i64 (L.areaTo (L.Sq.mk l.n fun (i : Nat) ↦ l.g i) l.n - L.gridTo l l.n + (2 : Int)) ∧ (((2 : Int) ≠ (0 : Int) ∧ InK .i64 (Int.tdiv (L.areaTo (L.Sq.mk l.n fun (i : Nat) ↦ l.g i)
 l.n - L.gridTo l l.n + (2 : Int)) (2 : Int)) ∧ L.gridTo l l.n = L.grN l ∧ Int.tdiv (L.areaTo (L.Sq.mk l.n fun (i : Nat) ↦ l.g i) l.n - L.gridTo l l.n + (2 : Int)) (2 : Int) = L.grI l ∧ (0 : Int) = L.oE l) ∧ (2 : Int) ≠ (0 : Int) ∧ InK .i64 (Int.tdiv (L.areaTo (L.Sq.mk l.n fun (i : Nat) ↦ l.g i) l.n - L.gridTo l l.n + (2 : Int)) (2 : Int)) ∧ L.gridTo l l.n = L.grN l ∧ Int.tdiv
 (L.areaTo (L.Sq.mk l.n fun (i : Nat) ↦ l.g i) l.n - L.gridTo l l.n + (2 : Int)) (2 : Int) = L.grI l ∧ (0 : Int) = L.oE l) ∧ (2 : Int) ≠ (0 : Int) ∧ InK .i64 (Int.tdiv (L.areaTo (L.Sq.mk l.n fun (i : Nat) ↦ l.g i) l.n - L.gridTo l l.n + (2 : Int)) (2 : Int)) ∧ L.gridTo l l.n = L.grN l ∧ Int.tdiv (L.areaTo (L.Sq.mk l.n fun (i : Nat) ↦ l.g i) l.n - L.gridTo l l.n + (2 : Int)) (2 :
 Int) = L.grI l ∧ (0 : Int) = L.oE l)) (by kernel_rfl) (by
    have hn : l.n ≤ 9223372036854775807 := hp
    refine ⟨⟨fun _ _ => rfl, hn⟩, fun h => ?_, fun h => ?_⟩
    · have h : L.validOutline l = false := notT h
      unfold L.grN L.grI L.oE
      rw [h]; exact ⟨rfl, rfl, rfl⟩
    have hv : L.validOutline l = true := notF h
    obtain ⟨n3, n24, hsm, hbd⟩ := validOutline_of hv
    refine ⟨⟨fun _ _ => rfl, by omega⟩, ⟨⟨fun _ _ => rfl, by omega⟩, (0 : Nat), rfl, Nat.zero_le _⟩, fun k t vk hk _ => ?_, fun t _ => ?_⟩
    · have c2 : ((k : Int)).toNat = k := Int.toNat_natCast k
      have c3 : (Int.tmod ((k : Int) + 1) (l.n : Int)).toNat = L.next l.n k := rfl
      rw [c2, c3]
      have h1 := hbd.2 k hk
      have h2 := hbd.2 _ (next_lt (n := l.n) (k := k) (by omega))
      unfold L.bd at h1 h2
      have b := gridTo_bd hbd k (by omega)
      have q := gcd_bd (a := (l.g (L.next l.n k)).x - (l.g k).x) (b := (l.g (L.next l.n k)).y - (l.g k).y) (m := 8000000) (by omega) (by omega) (by omega) (by omega)
      exact ⟨by omega, by omega, InK.of (by omega) (by omega), by omega, by omega, InK.of (by omega) (by omega), ⟨⟨by omega, by omega⟩, by omega, by omega⟩, InK.of (by omega) (by omega), (0 : Nat), rfl, ⟨rfl, fun _ _ => rfl⟩, rfl, rfl, rfl, hk⟩
    · have e1 : L.grN l = L.gridTo l l.n := by unfold L.grN; rw [hv]; rfl
      have e2 : L.grI l = Int.tdiv (L.areaTo l l.n - L.gridTo l l.n + 2) 2 := by unfold L.grI; rw [hv]; rfl
      have e3 : L.oE l = 0 := by unfold L.oE; rw [hv]; rfl
      have bA := areaTo_bd hsm l.n (Nat.le_refl _)
      have bG := gridTo_bd hbd l.n (Nat.le_refl _)
      have t1 := Int.tmod_add_mul_tdiv (L.areaTo l l.n - L.gridTo l l.n + 2) 2
      have t2 := Int.lt_tmod_of_pos (L.areaTo l l.n - L.gridTo l l.n + 2) (show (0 : Int) < 2 by omega)
      have t3 := Int.tmod_lt_of_pos (L.areaTo l l.n - L.gridTo l l.n + 2) (show (0 : Int) < 2 by omega)
      have f1 : InK .i64 (L.areaTo l l.n - L.gridTo l l.n) := InK.of (by omega) (by omega)
      have f2 : InK .i64 (L.areaTo l l.n - L.gridTo l l.n + 2) := InK.of (by omega) (by omega)
      have f3 : InK .i64 (Int.tdiv (L.areaTo l l.n - L.gridTo l l.n + 2) 2) := InK.of (by omega) (by omega)
      have f4 : (2 : Int) ≠ 0 := by decide
      rw [e1, e2, e3]
      repeat' first
        | exact f1
        | exact f2
        | exact f3
        | exact f4
        | exact hsm
        | exact fun _ _ => rfl
        | exact rfl
        | apply And.intro)
theorem p_Grid2_ok : SpecOk Try.prog 6 p_Grid2_S := fnX Try.func6 (c := bodyOf Try.f6) (by kernel_rfl) mixed (fun args p r hs hp => by
  unfold p_Grid2_s at hs
  split at hs
  · cases hs; exact ⟨_, _, p_Grid2_vc _ hp.2, (.p (.sl hp.1) .nil), ⟨show SpecsL Try.prog _ from (SpecsL.cons p_VO2_ok p_VO2_en (SpecsL.cons p_triples_ok p_triples_en (SpecsL.cons p_gcd_ok p_gcd_en (SpecsL.cons p_area_ok p_area_en SpecsL.nil)))), rfl, ⟨show ItersL Try.prog _ from (ItersL.cons p_triples1_itok p_triples1_en ItersL.nil), (TrsOk.none (fun _ => rfl))⟩⟩⟩
  · cases hs)
theorem p_Grid2_en : Enters Try.prog 6 := fun args w => by kernel_rfl
def p_Box2_p (l : (L.Sq L.Pt)) : Prop := l.n ≤ 9223372036854775807
def p_Box2_r (l : (L.Sq L.Pt)) : SV := .tup [(.agg [.int .i64 ((L.boxL l).x), .int .i64 ((L.boxL l).y)]), (.agg [.int .i64 ((L.boxH l).x), .int .i64 ((L.boxH l).y)]), .int .i64 (L.oE l)]
def p_Box2_s : List EV → Option (Prop × SV)
  | [.p (.sl 2 l_n l_g)] => some ((∀ i, i < l_n → l_g i = [.int .i64 ((ofPt (l_g i)).x), .int .i64 ((ofPt (l_g i)).y)]) ∧ p_Box2_p (⟨l_n, fun i => ofPt (l_g i)⟩ : (L.Sq L.Pt)), p_Box2_r (⟨l_n, fun i => ofPt (l_g i)⟩ : (L.Sq L.Pt)))
  | _ => none
abbrev p_Box2_S : SE.Spec := (specO p_Box2_s)
def p_Box2_C : Cfg := { muts := [2, 3, 6], frz := lookN [], specs := lookS [(12, p_VO2_S)], loops := fun _ => none, iters := lookI [], rfs := lookR [], nils := lookM [], anys := [2, 10] }
theorem p_Box2_vc (l : (L.Sq L.Pt)) (hp : p_Box2_p l) : vc Try.prog ({ p_Box2_C with loops := lookL [(5, { T := Nat, keep := [0, 2, 3, 18, 19], keepO := [], chg := fun i => [(20, .p (.int .i64 (i : Int)))], own := fun i => [(2, .blk 30 [.p (.int .i64 (L.lowTo l i).x), .p (.int .i64 (L.lowTo l i).y)]), (3, .blk 30 [.p (.int .i64 (L.highTo l i).x), .p (.int .i64 (L.highTo l i).y)])], inv := fun i => i ≤ l.n, mu := fun i => l.n - i })], rfs := lookR [] }) (bodyOf Try.f7) (st0 Try.f7 [.p (.sl 2 l.n (fun i => [.int .i64 ((l.g i).x), .int .i64 ((l.g i).y)]))]) (retFn Try.prog Try.f7 (p_Box2_r l)) :=
  @Eq.mpr _ (((∀ (i : Nat), i < l.n → [SV.int .i64 (l.g i).x, SV.int .i64 (l.g i).y] = [SV.int .i64 (l.g i).x, SV.int .i64 (l.g i).y]) ∧ l.n ≤ (9223372036854775807 : Nat)) ∧ ((!L.validOutline (L.Sq.mk l.n fun (i : Nat) ↦ l.g i)) = true → ((SV.agg [SV.int .i64 (0 : Int), SV.int .i64 (0 : Int)] =
 SV.agg [SV.int .i64 (L.boxL l).x, SV.int .i64 (L.boxL l).y] ∧ SV.agg [SV.int .i64 (0 : Int), SV.int .i64 (0 : Int)] = SV.agg [SV.int .i64 (L.boxH l).x, SV.int .i64 (L.boxH l).y] ∧ (1 : Int) = L.oE l) ∧ SV.agg [SV.int .i64 (0 : Int), SV.int .i64 (0
 : Int)] = SV.agg [SV.int .i64 (L.boxL l).x, SV.int .i64 (L.boxL l).y] ∧ SV.agg [SV.int .i64 (0 : Int), SV.int .i64 (0 : Int)] = SV.agg [SV.int .i64 (L.boxH l).x, SV.int .i64 (L.boxH l).y] ∧ (1 : Int) = L.oE l) ∧ SV.agg [SV.int .i64 (0 : Int), SV.int
 .i64 (0 : Int)] = SV.agg [SV.int .i64 (L.boxL l).x, SV.int .i64 (L.boxL l).y] ∧ SV.agg [SV.int .i64 (0 : Int), SV.int .i64 (0 : Int)] = SV.agg [SV.int .i64 (L.boxH l).x, SV.int .i64 (L.boxH l).y] ∧ (1 : Int) = L.oE l) ∧ ((!L.validOutline (L.Sq.mk l.n fun (i : Nat) ↦ l.g i)) =
 false → ((0 : Int) ≤ (0 : Int) ∧ (0 : Int) < (↑l.n : Int)) ∧ ((0 : Int) ≤ (0 : Int) ∧ (0 : Int) < (↑l.n : Int)) ∧ (∃ (g : Nat), (0 : Int) = (↑g : Int) ∧ (l.g (Int.toNat (0 : Int))).x = (L.lowTo l g).x ∧ (l.g (Int.toNat (0 : Int))).y = (L.lowTo l g).y ∧ (l.g (Int.toNat (0 : Int))).x = (L.highTo l g).x ∧ (l.g (Int.toNat (0 : Int))).y = (L.highTo l g).y ∧ g ≤ l.n) ∧ ∀ (g : Nat), g ≤ l.n →
 (decide ((↑g : Int) < (↑l.n : Int)) = true → ((0 : Int) ≤ (↑g : Int) ∧ (↑g : Int) < (↑l.n : Int)) ∧ InK .i64 ((↑g : Int) + (1 : Int)) ∧ ∃ (g' : Nat), (↑g : Int) + (1 : Int) = (↑g' : Int) ∧ (↑l.n : Int) = (↑l.n : Int) ∧ (l.n = l.n ∧ ∀ (i : Nat), i < l.n → [SV.int .i64 (l.g i).x, SV.int .i64 (l.g i).y] = [SV.int .i64 (l.g
 i).x, SV.int .i64 (l.g i).y]) ∧ nat_lit 0 = nat_lit 0 ∧ nat_lit 0 = nat_lit 0 ∧ (l.n = l.n ∧ ∀ (i : Nat), i < l.n → [SV.int .i64 (l.g i).x, SV.int .i64 (l.g i).y] = [SV.int .i64 (l.g i).x, SV.int .i64 (l.g i).y]) ∧ Min.min (L.lowTo l g).x (l.g (Int.toNat (↑g : Int))).x = (L.lowTo l g').x ∧ Min.min (L.lowTo l g).y (l.g
 (Int.toNat (↑g : Int))).y = (L.lowTo l g').y ∧ Max.max (L.highTo l g).x (l.g (Int.toNat (↑g : Int))).x = (L.highTo l g').x ∧ Max.max (L.highTo l g).y (l.g (Int.toNat (↑g : Int))).y = (L.highTo l g').y ∧ g' ≤ l.n ∧ l.n - g' < l.n - g) ∧ (decide ((↑g : Int) < (↑l.n : Int)) = false → ((SV.agg [SV.int .i64 (L.lowTo l g).x, SV.int .i64 (L.lowTo l
 g).y] = SV.agg [SV.int .i64 (L.boxL l).x, SV.int .i64 (L.boxL l).y] ∧ SV.agg [SV.int .i64 (L.highTo l g).x, SV.int .i64 (L.highTo l g).y] = SV.agg [SV.int .i64 (L.boxH l).x, SV.int .i64 (L.boxH l).y] ∧ (0 : Int) = L.oE l) ∧ SV.agg [SV.int .i64 (L.lowTo l g).x,
 SV.int .i64 (L.lowTo l g).y] = SV.agg [SV.int .i64 (L.boxL l).x, SV.int .i64 (L.boxL l).y] ∧ SV.agg [SV.int .i64 (L.highTo l g).x, SV.int .i64 (L.highTo l g).y] = SV.agg [SV.int .i64 (L.boxH l).x, SV.int .i64 (L.boxH l).y] ∧ (0 : Int) = L.oE l) ∧ SV.agg
 [SV.int .i64 (L.lowTo l g).x, SV.int .i64 (L.lowTo l g).y] = SV.agg [SV.int .i64 (L.boxL l).x, SV.int .i64 (L.boxL l).y] ∧ SV.agg [SV.int .i64 (L.highTo l g).x, SV.int .i64 (L.highTo l g).y] = SV.agg [SV.int .i64 (L.boxH l).x, SV.int .i64 (L.boxH l).y] ∧
 (0 : Int) = L.oE l))) (by kernel_rfl) (by
    have hn : l.n ≤ 9223372036854775807 := hp
    refine ⟨⟨fun _ _ => rfl, hn⟩, fun h => ?_, fun h => ?_⟩
    · have h : L.validOutline l = false := notT h
      have eL : L.boxL l = ⟨0, 0⟩ := by unfold L.boxL; rw [h]; rfl
      have eH : L.boxH l = ⟨0, 0⟩ := by unfold L.boxH; rw [h]; rfl
      have e3 : L.oE l = 1 := by unfold L.oE; rw [h]; rfl
      rw [eL, eH, e3]
      repeat' first
        | exact rfl
        | apply And.intro
    have hv : L.validOutline l = true := notF h
    obtain ⟨n3, n24, hsm, hbd⟩ := validOutline_of hv
    have eL : L.boxL l = L.lowTo l l.n := by unfold L.boxL; rw [hv]; rfl
    have eH : L.boxH l = L.highTo l l.n := by unfold L.boxH; rw [hv]; rfl
    have e3 : L.oE l = 0 := by unfold L.oE; rw [hv]; rfl
    refine ⟨⟨Int.le_refl _, by omega⟩, ⟨Int.le_refl _, by omega⟩, ⟨(0 : Nat), rfl, rfl, rfl, rfl, rfl, Nat.zero_le _⟩, fun g hg => ⟨fun hlt => ?_, fun hge => ?_⟩⟩
    · have hlt : (g : Int) < (l.n : Int) := of_decide_eq_true hlt
      exact ⟨⟨by omega, hlt⟩, InK.of (by omega) (by omega), g + 1, by omega, rfl, ⟨rfl, fun _ _ => rfl⟩, rfl, rfl, ⟨rfl, fun _ _ => rfl⟩, rfl, rfl, rfl, rfl, by omega, by omega⟩
    · have hge : ¬ (g : Int) < (l.n : Int) := of_decide_eq_false hge
      obtain rfl : g = l.n := by omega
      rw [eL, eH, e3]
      repeat' first
        | exact rfl
        | apply And.intro)
theorem p_Box2_ok : SpecOk Try.prog 7 p_Box2_S := fnX Try.func7 (c := bodyOf Try.f7) (by kernel_rfl) mixed (fun args p r hs hp => by
  unfold p_Box2_s at hs
  split at hs
  · cases hs; exact ⟨_, _, p_Box2_vc _ hp.2, (.p (.sl hp.1) .nil), ⟨show SpecsL Try.prog _ from (SpecsL.cons p_VO2_ok p_VO2_en SpecsL.nil), rfl, ⟨show ItersL Try.prog _ from ItersL.nil, (TrsOk.none (fun _ => rfl))⟩⟩⟩
  · cases hs)
theorem p_Box2_en : Enters Try.prog 7 := fun args w => by kernel_rfl
def w_Pick_p (l : (L.Sq L.Pt)) : Prop := l.n ≤ 9223372036854775807
def w_Pick_r (l : (L.Sq L.Pt)) : SV := .bool true
def w_Pick_s : List EV → Option (Prop × SV)
  | [.p (.sl 2 l_n l_g)] => some ((∀ i, i < l_n → l_g i = [.int .i64 ((ofPt (l_g i)).x), .int .i64 ((ofPt (l_g i)).y)]) ∧ w_Pick_p (⟨l_n, fun i => ofPt (l_g i)⟩ : (L.Sq L.Pt)), w_Pick_r (⟨l_n, fun i => ofPt (l_g i)⟩ : (L.Sq L.Pt)))
  | _ => none
abbrev w_Pick_S : SE.Spec := (specO w_Pick_s)
def w_Pick_C : Cfg := { muts := [9, 10], frz := lookN [], specs := lookS [(4, w_awake_S), (5, p_Area2_S), (6, p_Grid2_S), (7, p_Box2_S), (8, p_Place_S)], loops := fun _ => none, iters := lookI [], rfs := lookR [], nils := lookM [] }
theorem w_Pick_vc (l : (L.Sq L.Pt)) (hp : w_Pick_p l) : vc Try.prog ({ w_Pick_C with loops := lookL [(12, { T := Nat, keep := [0, 3, 9, 10], keepO := [9, 10], chg := fun i => [(6, .p (.int .i64 (L.grN l - L.cols l 0 i))), (7, .p (.int .i64 (L.grI l - L.cols l 1 i))), (12, .p (.int .i64 ((L.boxL l).x + (i : Int))))], own := fun _ => [], inv := fun i => i ≤ L.kx l, mu := fun i => L.kx l - i }), (15, { T := Nat × Nat, keep := [0, 3, 9, 10, 12], keepO := [9, 10], tie := fun p => [(12, .int .i64 ((L.boxL l).x + (p.1 : Int)))], chg := fun p => [(6, .p (.int .i64 (L.grN l - L.cols l 0 p.1 - L.col l 0 ((L.boxL l).x + (p.1 : Int)) p.2))), (7, .p (.int .i64 (L.grI l - L.cols l 1 p.1 - L.col l 1 ((L.boxL l).x + (p.1 : Int)) p.2))), (13, .p (.int .i64 ((L.boxL l).y + (p.2 : Int))))], own := fun _ => [], inv := fun p => p.1 < L.kx l ∧ p.2 ≤ L.ky l, mu := fun p => L.ky l - p.2 })], rfs := lookR [] }) (bodyOf Try.f3) (st0 Try.f3 [.p (.sl 2 l.n (fun i => [.int .i64 ((l.g i).x), .int .i64 ((l.g i).y)]))]) (retFn Try.prog Try.f3 (w_Pick_r l)) :=
  @Eq.mpr _ (True ∧ ((∀ (i : Nat), i < l.n → [SV.int .i64 (l.g i).x, SV.int .i64 (l.g i).y] = [SV.int .i64 (l.g i).x, SV.int .i64 (l.g i).y]) ∧ l.n ≤ (9223372036854775807 : Nat)) ∧ ((∀ (i : Nat), i < l.n → [SV.int .i64 (l.g i).x, SV.int .i64 (l.g i).y] = [SV.int .i64 (l.g i).x, SV.int
 .i64 (l.g i).y]) ∧ l.n ≤ (9223372036854775807 : Nat)) ∧ ((∀ (i : Nat), i < l.n → [SV.int .i64 (l.g i).x, SV.int .i64 (l.g i).y] = [SV.int .i64 (l.g i).x, SV.int .i64 (l.g i).y]) ∧ l.n ≤ (9223372036854775807 : Nat)) ∧ ((bif bif !decide ((bif L.validOutline (L.Sq.mk l.n fun (i : Nat) ↦ l.g i) then (0 : Int) else (1 :
 Int)) = (0 : Int)) then true else !decide (L.oE (L.Sq.mk l.n fun (i : Nat) ↦ l.g i) = (0 : Int)) then true else !decide (L.oE (L.Sq.mk l.n fun (i : Nat) ↦ l.g i) = (0 : Int))) = true → (bif bif true then decide ((bif L.validOutline (L.Sq.mk l.n fun (i : Nat) ↦ l.g i) then (0 : Int) else (1 : Int)) = L.oE (L.Sq.mk l.n fun (i : Nat) ↦ l.g i)) else
 false then decide ((bif L.validOutline (L.Sq.mk l.n fun (i : Nat) ↦ l.g i) then (0 : Int) else (1 : Int)) = L.oE (L.Sq.mk l.n fun (i : Nat) ↦ l.g i)) else false) = true) ∧ ((bif bif !decide ((bif L.validOutline (L.Sq.mk l.n fun (i : Nat) ↦ l.g i) then (0 : Int) else (1 : Int)) = (0 : Int)) then true else !decide (L.oE (L.Sq.mk l.n fun (i : Nat) ↦
 l.g i) = (0 : Int)) then true else !decide (L.oE (L.Sq.mk l.n fun (i : Nat) ↦ l.g i) = (0 : Int))) = false → InK .i64 ((2 : Int) * L.grI (L.Sq.mk l.n fun (i : Nat) ↦ l.g i)) ∧ InK .i64 ((2 : Int) * L.grI (L.Sq.mk l.n fun (i : Nat) ↦ l.g i) + L.grN (L.Sq.mk l.n fun (i : Nat) ↦ l.g i)) ∧ InK .i64 ((2 : Int) * L.grI (L.Sq.mk l.n fun
 (i : Nat) ↦ l.g i) + L.grN (L.Sq.mk l.n fun (i : Nat) ↦ l.g i) - (2 : Int)) ∧ ((!decide ((2 : Int) * L.grI (L.Sq.mk l.n fun (i : Nat) ↦ l.g i) + L.grN (L.Sq.mk l.n fun (i : Nat) ↦ l.g i) - (2 : Int) = bif L.validOutline (L.Sq.mk l.n fun (i : Nat) ↦ l.g i) then L.areaTo (L.Sq.mk l.n fun (i : Nat) ↦ l.g i) l.n else (0 : Int))) = true → false = true) ∧ ((!decide ((2
 : Int) * L.grI (L.Sq.mk l.n fun (i : Nat) ↦ l.g i) + L.grN (L.Sq.mk l.n fun (i : Nat) ↦ l.g i) - (2 : Int) = bif L.validOutline (L.Sq.mk l.n fun (i : Nat) ↦ l.g i) then L.areaTo (L.Sq.mk l.n fun (i : Nat) ↦ l.g i) l.n else (0 : Int))) = false → ((!decide ((12 : Int) < (↑l.n : Int))) = true → InK .i64 ((L.boxH (L.Sq.mk l.n fun (i : Nat) ↦ l.g i)).x - (L.boxL
 (L.Sq.mk l.n fun (i : Nat) ↦ l.g i)).x)) ∧ ((!decide ((12 : Int) < (↑l.n : Int))) = true → InK .i64 ((L.boxH (L.Sq.mk l.n fun (i : Nat) ↦ l.g i)).y - (L.boxL (L.Sq.mk l.n fun (i : Nat) ↦ l.g i)).y)) ∧ ((!decide ((12 : Int) < (↑l.n : Int))) = true → InK .i64 (((L.boxH (L.Sq.mk l.n fun (i : Nat) ↦ l.g i)).x - (L.boxL (L.Sq.mk l.n fun (i :
 Nat) ↦ l.g i)).x) * ((L.boxH (L.Sq.mk l.n fun (i : Nat) ↦ l.g i)).y - (L.boxL (L.Sq.mk l.n fun (i : Nat) ↦ l.g i)).y))) ∧ ((bif decide ((12 : Int) < (↑l.n : Int)) then true else decide ((400 : Int) < ((L.boxH (L.Sq.mk l.n fun (i : Nat) ↦ l.g i)).x - (L.boxL (L.Sq.mk l.n fun (i : Nat) ↦ l.g i)).x) * ((L.boxH (L.Sq.mk l.n fun (i : Nat) ↦ l.g i)).y - (L.boxL (L.Sq.mk l.n fun
 (i : Nat) ↦ l.g i)).y))) = true → true = true) ∧ ((bif decide ((12 : Int) < (↑l.n : Int)) then true else decide ((400 : Int) < ((L.boxH (L.Sq.mk l.n fun (i : Nat) ↦ l.g i)).x - (L.boxL (L.Sq.mk l.n fun (i : Nat) ↦ l.g i)).x) * ((L.boxH (L.Sq.mk l.n fun (i : Nat) ↦ l.g i)).y - (L.boxL (L.Sq.mk l.n fun (i : Nat) ↦ l.g i)).y))) = false → (∃ (g : Nat),
 L.grN (L.Sq.mk l.n fun (i : Nat) ↦ l.g i) = L.grN l - L.cols l (0 : Int) g ∧ L.grI (L.Sq.mk l.n fun (i : Nat) ↦ l.g i) = L.grI l - L.cols l (1 : Int) g ∧ (L.boxL (L.Sq.mk l.n fun (i : Nat) ↦ l.g i)).x = (L.boxL l).x + (↑g : Int) ∧ g ≤ L.kx l) ∧ ∀ (g : Nat), g ≤ L.kx l → (decide ((L.boxL l).x + (↑g : Int) ≤ (L.boxH (L.Sq.mk l.n fun (i : Nat) ↦ l.g i)).x) = true → (∃ (g_1 : Nat ×
 Nat), L.grN l - L.cols l (0 : Int) g = L.grN l - L.cols l (0 : Int) g_1.1 - L.col l (0 : Int) ((L.boxL l).x + (↑g_1.1 : Int)) g_1.2 ∧ L.grI l - L.cols l (1 : Int) g = L.grI l - L.cols l (1 : Int) g_1.1 - L.col l (1 : Int) ((L.boxL l).x + (↑g_1.1 : Int)) g_1.2 ∧ (L.boxL (L.Sq.mk l.n fun (i : Nat) ↦ l.g i)).y = (L.boxL l).y + (↑g_1.2 : Int) ∧ (L.boxL l).x + (↑g : Int) = (L.boxL l).x + (↑g_1.1 : Int)
 ∧ g_1.1 < L.kx l ∧ g_1.2 ≤ L.ky l) ∧ ∀ (g_1 : Nat × Nat), (L.boxL l).x + (↑g : Int) = (L.boxL l).x + (↑g_1.1 : Int) ∧ g_1.1 < L.kx l ∧ g_1.2 ≤ L.ky l → (decide ((L.boxL l).y + (↑g_1.2 : Int) ≤ (L.boxH (L.Sq.mk l.n fun (i : Nat) ↦ l.g i)).y) = true → ((∀ (i : Nat), i < l.n → [SV.int .i64 (l.g i).x, SV.int .i64 (l.g i).y] = [SV.int .i64
 (l.g i).x, SV.int .i64 (l.g i).y]) ∧ l.n ≤ (1000000 : Nat)) ∧ ((!decide (L.plE (L.Sq.mk l.n fun (i : Nat) ↦ l.g i) (L.Pt.mk ((L.boxL l).x + (↑g : Int)) ((L.boxL l).y + (↑g_1.2 : Int))) = (0 : Int))) = true → false = true) ∧ ((!decide (L.plE (L.Sq.mk l.n fun (i : Nat) ↦ l.g i) (L.Pt.mk ((L.boxL l).x + (↑g : Int)) ((L.boxL l).y + (↑g_1.2 : Int))) =
 (0 : Int))) = false → (decide (L.plV (L.Sq.mk l.n fun (i : Nat) ↦ l.g i) (L.Pt.mk ((L.boxL l).x + (↑g : Int)) ((L.boxL l).y + (↑g_1.2 : Int))) = (0 : Int)) = true → InK .i64 (L.grN l - L.cols l (0 : Int) g_1.1 - L.col l (0 : Int) ((L.boxL l).x + (↑g_1.1 : Int)) g_1.2 - (1 : Int)) ∧ (decide (L.plV (L.Sq.mk l.n fun (i : Nat) ↦ l.g i) (L.Pt.mk ((L.boxL
 l).x + (↑g : Int)) ((L.boxL l).y + (↑g_1.2 : Int))) = (1 : Int)) = true → InK .i64 (L.grI l - L.cols l (1 : Int) g_1.1 - L.col l (1 : Int) ((L.boxL l).x + (↑g_1.1 : Int)) g_1.2 - (1 : Int)) ∧ InK .i64 ((L.boxL l).y + (↑g_1.2 : Int) + (1 : Int)) ∧ ∃ (g' : Nat × Nat), L.grN l - L.cols l (0 : Int) g_1.1 - L.col l (0 : Int) ((L.boxL l).x + (↑g_1.1 : Int)) g_1.2 -
 (1 : Int) = L.grN l - L.cols l (0 : Int) g'.1 - L.col l (0 : Int) ((L.boxL l).x + (↑g'.1 : Int)) g'.2 ∧ L.grI l - L.cols l (1 : Int) g_1.1 - L.col l (1 : Int) ((L.boxL l).x + (↑g_1.1 : Int)) g_1.2 - (1 : Int) = L.grI l - L.cols l (1 : Int) g'.1 - L.col l (1 : Int) ((L.boxL l).x + (↑g'.1 : Int)) g'.2 ∧ (L.boxL l).y + (↑g_1.2 : Int) + (1 : Int) = (L.boxL l).y + (↑g'.2 : Int) ∧ (L.boxL l).x + (↑g :
 Int) = (L.boxL l).x + (↑g : Int) ∧ nat_lit 0 = nat_lit 0 ∧ nat_lit 0 = nat_lit 0 ∧ true = true ∧ (l.n = l.n ∧ ∀ (i : Nat), i < l.n → [SV.int .i64 (l.g i).x, SV.int .i64 (l.g i).y] = [SV.int .i64 (l.g i).x, SV.int .i64 (l.g i).y]) ∧ (L.boxH (L.Sq.mk l.n fun (i : Nat) ↦ l.g i)).x = (L.boxH (L.Sq.mk l.n fun (i : Nat) ↦ l.g
 i)).x ∧ (L.boxH (L.Sq.mk l.n fun (i : Nat) ↦ l.g i)).y = (L.boxH (L.Sq.mk l.n fun (i : Nat) ↦ l.g i)).y ∧ (L.boxL (L.Sq.mk l.n fun (i : Nat) ↦ l.g i)).x = (L.boxL (L.Sq.mk l.n fun (i : Nat) ↦ l.g i)).x ∧ (L.boxL (L.Sq.mk l.n fun (i : Nat) ↦ l.g i)).y = (L.boxL (L.Sq.mk l.n fun (i : Nat) ↦ l.g i)).y ∧ ((L.boxL l).x + (↑g : Int) = (L.boxL l).x + (↑g'.1 : Int) ∧ g'.1 < L.kx l ∧ g'.2 ≤ L.ky l) ∧ L.ky
 l - g'.2 < L.ky l - g_1.2) ∧ (decide (L.plV (L.Sq.mk l.n fun (i : Nat) ↦ l.g i) (L.Pt.mk ((L.boxL l).x + (↑g : Int)) ((L.boxL l).y + (↑g_1.2 : Int))) = (1 : Int)) = false → InK .i64 ((L.boxL l).y + (↑g_1.2 : Int) + (1 : Int)) ∧ ∃ (g' : Nat × Nat), L.grN l - L.cols l (0 : Int) g_1.1 - L.col l (0 : Int) ((L.boxL l).x + (↑g_1.1 : Int)) g_1.2 - (1 : Int) = L.grN l -
 L.cols l (0 : Int) g'.1 - L.col l (0 : Int) ((L.boxL l).x + (↑g'.1 : Int)) g'.2 ∧ L.grI l - L.cols l (1 : Int) g_1.1 - L.col l (1 : Int) ((L.boxL l).x + (↑g_1.1 : Int)) g_1.2 = L.grI l - L.cols l (1 : Int) g'.1 - L.col l (1 : Int) ((L.boxL l).x + (↑g'.1 : Int)) g'.2 ∧ (L.boxL l).y + (↑g_1.2 : Int) + (1 : Int) = (L.boxL l).y + (↑g'.2 : Int) ∧ (L.boxL l).x + (↑g : Int) = (L.boxL l).x + (↑g : Int) ∧
 nat_lit 0 = nat_lit 0 ∧ nat_lit 0 = nat_lit 0 ∧ true = true ∧ (l.n = l.n ∧ ∀ (i : Nat), i < l.n → [SV.int .i64 (l.g i).x, SV.int .i64 (l.g i).y] = [SV.int .i64 (l.g i).x, SV.int .i64 (l.g i).y]) ∧ (L.boxH (L.Sq.mk l.n fun (i : Nat) ↦ l.g i)).x = (L.boxH (L.Sq.mk l.n fun (i : Nat) ↦ l.g i)).x ∧ (L.boxH (L.Sq.mk l.n fun (i :
 Nat) ↦ l.g i)).y = (L.boxH (L.Sq.mk l.n fun (i : Nat) ↦ l.g i)).y ∧ (L.boxL (L.Sq.mk l.n fun (i : Nat) ↦ l.g i)).x = (L.boxL (L.Sq.mk l.n fun (i : Nat) ↦ l.g i)).x ∧ (L.boxL (L.Sq.mk l.n fun (i : Nat) ↦ l.g i)).y = (L.boxL (L.Sq.mk l.n fun (i : Nat) ↦ l.g i)).y ∧ ((L.boxL l).x + (↑g : Int) = (L.boxL l).x + (↑g'.1 : Int) ∧ g'.1 < L.kx l ∧ g'.2 ≤ L.ky l) ∧ L.ky l - g'.2 < L.ky l - g_1.2)) ∧
 (decide (L.plV (L.Sq.mk l.n fun (i : Nat) ↦ l.g i) (L.Pt.mk ((L.boxL l).x + (↑g : Int)) ((L.boxL l).y + (↑g_1.2 : Int))) = (0 : Int)) = false → (decide (L.plV (L.Sq.mk l.n fun (i : Nat) ↦ l.g i) (L.Pt.mk ((L.boxL l).x + (↑g : Int)) ((L.boxL l).y + (↑g_1.2 : Int))) = (1 : Int)) = true → InK .i64 (L.grI l - L.cols l (1 : Int) g_1.1 - L.col l (1 : Int)
 ((L.boxL l).x + (↑g_1.1 : Int)) g_1.2 - (1 : Int)) ∧ InK .i64 ((L.boxL l).y + (↑g_1.2 : Int) + (1 : Int)) ∧ ∃ (g' : Nat × Nat), L.grN l - L.cols l (0 : Int) g_1.1 - L.col l (0 : Int) ((L.boxL l).x + (↑g_1.1 : Int)) g_1.2 = L.grN l - L.cols l (0 : Int) g'.1 - L.col l (0 : Int) ((L.boxL l).x + (↑g'.1 : Int)) g'.2 ∧ L.grI l - L.cols l (1 : Int) g_1.1 - L.col l (1 : Int) ((L.boxL l).x
 + (↑g_1.1 : Int)) g_1.2 - (1 : Int) = L.grI l - L.cols l (1 : Int) g'.1 - L.col l (1 : Int) ((L.boxL l).x + (↑g'.1 : Int)) g'.2 ∧ (L.boxL l).y + (↑g_1.2 : Int) + (1 : Int) = (L.boxL l).y + (↑g'.2 : Int) ∧ (L.boxL l).x + (↑g : Int) = (L.boxL l).x + (↑g : Int) ∧ nat_lit 0 = nat_lit 0 ∧ nat_lit 0 = nat_lit 0 ∧ true = true ∧ (l.n = l.n ∧ ∀ (i : Nat), i < l.n → [SV.int .i64
 (l.g i).x, SV.int .i64 (l.g i).y] = [SV.int .i64 (l.g i).x, SV.int .i64 (l.g i).y]) ∧ (L.boxH (L.Sq.mk l.n fun (i : Nat) ↦ l.g i)).x = (L.boxH (L.Sq.mk l.n fun (i : Nat) ↦ l.g i)).x ∧ (L.boxH (L.Sq.mk l.n fun (i : Nat) ↦ l.g i)).y = (L.boxH (L.Sq.mk l.n fun (i : Nat) ↦ l.g i)).y ∧ (L.boxL (L.Sq.mk l.n fun (i : Nat) ↦ l.g i)).x = (L.boxL (L.Sq.mk l.n
 fun (i : Nat) ↦ l.g i)).x ∧ (L.boxL (L.Sq.mk l.n fun (i : Nat) ↦ l.g i)).y = (L.boxL (L.Sq.mk l.n fun (i : Nat) ↦ l.g i)).y ∧ ((L.boxL l).x + (↑g : Int) = (L.boxL l).x + (↑g'.1 : Int) ∧ g'.1 < L.kx l ∧ g'.2 ≤ L.ky l) ∧ L.ky l - g'.2 < L.ky l - g_1.2) ∧ (decide (L.plV (L.Sq.mk l.n fun (i : Nat) ↦ l.g i) (L.Pt.mk ((L.boxL l).x + (↑g : Int)) ((L.boxL l).y + (↑g_1.2 : Int))) = (1 : Int)) =
 false → InK .i64 ((L.boxL l).y + (↑g_1.2 : Int) + (1 : Int)) ∧ ∃ (g' : Nat × Nat), L.grN l - L.cols l (0 : Int) g_1.1 - L.col l (0 : Int) ((L.boxL l).x + (↑g_1.1 : Int)) g_1.2 = L.grN l - L.cols l (0 : Int) g'.1 - L.col l (0 : Int) ((L.boxL l).x + (↑g'.1 : Int)) g'.2 ∧ L.grI l - L.cols l (1 : Int) g_1.1 - L.col l (1 : Int) ((L.boxL l).x + (↑g_1.1 : Int)) g_1.2 = L.grI l -
 L.cols l (1 : Int) g'.1 - L.col l (1 : Int) ((L.boxL l).x + (↑g'.1 : Int)) g'.2 ∧ (L.boxL l).y + (↑g_1.2 : Int) + (1 : Int) = (L.boxL l).y + (↑g'.2 : Int) ∧ (L.boxL l).x + (↑g : Int) = (L.boxL l).x + (↑g : Int) ∧ nat_lit 0 = nat_lit 0 ∧ nat_lit 0 = nat_lit 0 ∧ true = true ∧ (l.n = l.n ∧ ∀ (i : Nat), i < l.n → [SV.int .i64 (l.g i).x, SV.int .i64 (l.g i).y]
 = [SV.int .i64 (l.g i).x, SV.int .i64 (l.g i).y]) ∧ (L.boxH (L.Sq.mk l.n fun (i : Nat) ↦ l.g i)).x = (L.boxH (L.Sq.mk l.n fun (i : Nat) ↦ l.g i)).x ∧ (L.boxH (L.Sq.mk l.n fun (i : Nat) ↦ l.g i)).y = (L.boxH (L.Sq.mk l.n fun (i : Nat) ↦ l.g i)).y ∧ (L.boxL (L.Sq.mk l.n fun (i : Nat) ↦ l.g i)).x = (L.boxL (L.Sq.mk l.n fun (i : Nat) ↦ l.g i)).x ∧ (L.boxL (L.Sq.mk l.n
 fun (i : Nat) ↦ l.g i)).y = (L.boxL (L.Sq.mk l.n fun (i : Nat) ↦ l.g i)).y ∧ ((L.boxL l).x + (↑g : Int) = (L.boxL l).x + (↑g'.1 : Int) ∧ g'.1 < L.kx l ∧ g'.2 ≤ L.ky l) ∧ L.ky l - g'.2 < L.ky l - g_1.2)))) ∧ (decide ((L.boxL l).y + (↑g_1.2 : Int) ≤ (L.boxH (L.Sq.mk l.n fun (i : Nat) ↦ l.g i)).y) = false → InK .i64 ((L.boxL l).x + (↑g : Int) + (1 : Int)) ∧ ∃ (g' :
 Nat), L.grN l - L.cols l (0 : Int) g_1.1 - L.col l (0 : Int) ((L.boxL l).x + (↑g_1.1 : Int)) g_1.2 = L.grN l - L.cols l (0 : Int) g' ∧ L.grI l - L.cols l (1 : Int) g_1.1 - L.col l (1 : Int) ((L.boxL l).x + (↑g_1.1 : Int)) g_1.2 = L.grI l - L.cols l (1 : Int) g' ∧ (L.boxL l).x + (↑g : Int) + (1 : Int) = (L.boxL l).x + (↑g' : Int) ∧ nat_lit 0 = nat_lit 0 ∧ nat_lit 0 = nat_lit 0 ∧ true =
 true ∧ (l.n = l.n ∧ ∀ (i : Nat), i < l.n → [SV.int .i64 (l.g i).x, SV.int .i64 (l.g i).y] = [SV.int .i64 (l.g i).x, SV.int .i64 (l.g i).y]) ∧ (L.boxH (L.Sq.mk l.n fun (i : Nat) ↦ l.g i)).x = (L.boxH (L.Sq.mk l.n fun (i : Nat) ↦ l.g i)).x ∧ (L.boxH (L.Sq.mk l.n fun (i : Nat) ↦ l.g i)).y = (L.boxH (L.Sq.mk l.n fun (i : Nat) ↦ l.g
 i)).y ∧ (L.boxL (L.Sq.mk l.n fun (i : Nat) ↦ l.g i)).x = (L.boxL (L.Sq.mk l.n fun (i : Nat) ↦ l.g i)).x ∧ (L.boxL (L.Sq.mk l.n fun (i : Nat) ↦ l.g i)).y = (L.boxL (L.Sq.mk l.n fun (i : Nat) ↦ l.g i)).y ∧ g' ≤ L.kx l ∧ L.kx l - g' < L.kx l - g)) ∧ (decide ((L.boxL l).x + (↑g : Int) ≤ (L.boxH (L.Sq.mk l.n fun (i : Nat) ↦ l.g i)).x) = false → (bif bif true then decide
 (L.grN l - L.cols l (0 : Int) g = (0 : Int)) else false then decide (L.grI l - L.cols l (1 : Int) g = (0 : Int)) else false) = true))))) (by kernel_rfl) (by
    have hn : l.n ≤ 9223372036854775807 := hp
    rw [show (L.Sq.mk l.n fun (i : Nat) => l.g i) = l from rfl]
    refine ⟨trivial, ⟨fun _ _ => rfl, hn⟩, ⟨fun _ _ => rfl, hn⟩, ⟨fun _ _ => rfl, hn⟩, fun h => ?_, fun h => ?_⟩
    · unfold L.oE
      cases L.validOutline l <;> rfl
    have hv : L.validOutline l = true := by
      cases hc : L.validOutline l with
      | true => rfl
      | false =>
        unfold L.oE at h
        rw [hc] at h
        exact absurd h (by decide)
    obtain ⟨n3, n24, hsm, hbd⟩ := validOutline_of hv
    obtain ⟨pk1, pk2⟩ := pick_l hv
    have e1 : L.grN l = L.cols l 0 (L.kx l) := by unfold L.grN; rw [hv, pk2]; rfl
    have e2 : L.grI l = L.cols l 1 (L.kx l) := by
      unfold L.grI
      rw [hv, cond_true, show L.areaTo l l.n - L.gridTo l l.n + 2 = 2 * L.cols l 1 (L.kx l) by omega]
      exact Int.mul_tdiv_cancel_left _ (by decide)
    have eL : L.boxL l = L.lowTo l l.n := by unfold L.boxL; rw [hv]; rfl
    have eH : L.boxH l = L.highTo l l.n := by unfold L.boxH; rw [hv]; rfl
    have bb := box_bd (by omega) (pts_valid hv) l.n (Nat.le_refl _)
    have ll := low_le l l.n 0 (by omega)
    have ekx : ((L.kx l : Nat) : Int) = (L.highTo l l.n).x - (L.lowTo l l.n).x + 1 := by unfold L.kx; omega
    have eky : ((L.ky l : Nat) : Int) = (L.highTo l l.n).y - (L.lowTo l l.n).y + 1 := by unfold L.ky; omega
    have ky4 : L.ky l ≤ 4097 := by omega
    have kx4 : L.kx l ≤ 4097 := by omega
    have c0 := cols_bd2 l 0 ky4
    have c1 := cols_bd2 l 1 ky4
    have d0 := cols_bd l 0
    have d1 := cols_bd l 1
    have hm : 0 ≤ ((L.highTo l l.n).x - (L.lowTo l l.n).x) * ((L.highTo l l.n).y - (L.lowTo l l.n).y) ∧ ((L.highTo l l.n).x - (L.lowTo l l.n).x) * ((L.highTo l l.n).y - (L.lowTo l l.n).y) ≤ 4096 * 4096 :=
      ⟨Int.mul_nonneg (by omega) (by omega), Int.mul_le_mul (by omega) (by omega) (by omega) (by omega)⟩
    have b0 := c0 (L.kx l)
    have b1 := c1 (L.kx l)
    rw [e1, e2, eL, eH]
    refine ⟨InK.of (by omega) (by omega), InK.of (by omega) (by omega), InK.of (by omega) (by omega), fun h2 => ?_, fun _ => ⟨fun _ => InK.of (by omega) (by omega), fun _ => InK.of (by omega) (by omega), fun _ => InK.of (by omega) (by omega), fun _ => rfl, fun h3 => ⟨⟨(0 : Nat), (Int.sub_zero _).symm, (Int.sub_zero _).symm, by omega, Nat.zero_le _⟩, fun g hg => ⟨fun hlt => ?_, fun hge => ?_⟩⟩⟩⟩
    · rw [hv, decide_eq_true (show 2 * L.cols l 1 (L.kx l) + L.cols l 0 (L.kx l) - 2 = bif true then L.areaTo l l.n else 0 by rw [pk1]; rfl)] at h2
      exact absurd h2 (by decide)
    · have hlt : (L.lowTo l l.n).x + (g : Int) ≤ (L.highTo l l.n).x := of_decide_eq_true hlt
      have hgk : g < L.kx l := by omega
      have n12 : ¬ (12 : Int) < (l.n : Int) := by
        rw [bor, Bool.or_eq_false_iff] at h3
        exact of_decide_eq_false h3.1
      refine ⟨⟨(g, 0), (Int.sub_zero _).symm, (Int.sub_zero _).symm, by omega, rfl, hgk, Nat.zero_le _⟩, fun p hp' => ?_⟩
      obtain ⟨i, j⟩ := p
      obtain ⟨q1, q2, q3⟩ := hp'
      have q1 : (L.lowTo l l.n).x + (g : Int) = (L.lowTo l l.n).x + (i : Int) := q1
      obtain rfl : i = g := by omega
      have q3 : j ≤ L.ky l := q3
      have a0 := c0 i
      have a1 := c1 i
      have z0 := d0 ((L.lowTo l l.n).x + (i : Int)) j
      have z1 := d1 ((L.lowTo l l.n).x + (i : Int)) j
      refine ⟨fun hlt2 => ?_, fun hge2 => ?_⟩
      · have hlt2 : (L.lowTo l l.n).y + (j : Int) ≤ (L.highTo l l.n).y := of_decide_eq_true hlt2
        have vp : L.validPt ⟨(L.lowTo l l.n).x + (i : Int), (L.lowTo l l.n).y + (j : Int)⟩ = true := by
          unfold L.validPt
          rw [Bool.and_eq_true, within_iff, within_iff]
          dsimp only
          omega
        have eE : L.plE l ⟨(L.lowTo l l.n).x + (i : Int), (L.lowTo l l.n).y + (j : Int)⟩ = 0 := by unfold L.plE; rw [hv, vp]; rfl
        have eV : L.plV l ⟨(L.lowTo l l.n).x + (i : Int), (L.lowTo l l.n).y + (j : Int)⟩ = L.wher l ⟨(L.lowTo l l.n).x + (i : Int), (L.lowTo l l.n).y + (j : Int)⟩ := by unfold L.plV; rw [eE]; rfl
        have st : ∀ w, L.col l w ((L.lowTo l l.n).x + (i : Int)) (j + 1) = L.col l w ((L.lowTo l l.n).x + (i : Int)) j + PArea.ind (L.wher l ⟨(L.lowTo l l.n).x + (i : Int), (L.lowTo l l.n).y + (j : Int)⟩ = w) := fun w => rfl
        have fin : ∀ {r0 r1 : Int}, PArea.ind (L.wher l ⟨(L.lowTo l l.n).x + (i : Int), (L.lowTo l l.n).y + (j : Int)⟩ = 0) = r0 → PArea.ind (L.wher l ⟨(L.lowTo l l.n).x + (i : Int), (L.lowTo l l.n).y + (j : Int)⟩ = 1) = r1 →
            L.cols l 0 (L.kx l) - L.cols l 0 i - L.col l 0 ((L.lowTo l l.n).x + (i : Int)) j - r0 = L.cols l 0 (L.kx l) - L.cols l 0 i - L.col l 0 ((L.lowTo l l.n).x + (i : Int)) (j + 1) ∧
            L.cols l 1 (L.kx l) - L.cols l 1 i - L.col l 1 ((L.lowTo l l.n).x + (i : Int)) j - r1 = L.cols l 1 (L.kx l) - L.cols l 1 i - L.col l 1 ((L.lowTo l l.n).x + (i : Int)) (j + 1) := fun h0 h1 => by
          rw [st, st, h0, h1]; omega
        rw [eE]
        refine ⟨⟨fun _ _ => rfl, by omega⟩, fun h => absurd h (by decide), fun _ => ⟨fun f0 => ?_, fun f0 => ?_⟩⟩
        · have f0 := of_decide_eq_true f0
          rw [eV] at f0
          refine ⟨InK.of (by dsimp only; omega) (by dsimp only; omega), fun f1 => ?_, fun f1 => ?_⟩
          · have f1 := of_decide_eq_true f1
            rw [eV, f0] at f1
            exact absurd f1 (by decide)
          · obtain ⟨k0, k1⟩ := fin (r0 := 1) (r1 := 0) (PArea.ind_t f0) (PArea.ind_f (by rw [f0]; decide))
            rw [Int.sub_zero] at k1
            exact ⟨InK.of (by dsimp only; omega) (by dsimp only; omega), (i, j + 1), k0, k1, by show _ = _ + ((j + 1 : Nat) : Int); omega, rfl, rfl, rfl, rfl, ⟨rfl, fun _ _ => rfl⟩, rfl, rfl, rfl, rfl, ⟨rfl, hgk, show j + 1 ≤ L.ky l by omega⟩, show L.ky l - (j + 1) < L.ky l - j by omega⟩
        · have f0 := of_decide_eq_false f0
          rw [eV] at f0
          refine ⟨fun f1 => ?_, fun f1 => ?_⟩
          · have f1 := of_decide_eq_true f1
            rw [eV] at f1
            obtain ⟨k0, k1⟩ := fin (r0 := 0) (r1 := 1) (PArea.ind_f f0) (PArea.ind_t f1)
            rw [Int.sub_zero] at k0
            exact ⟨InK.of (by dsimp only; omega) (by dsimp only; omega), InK.of (by dsimp only; omega) (by dsimp only; omega), (i, j + 1), k0, k1, by show _ = _ + ((j + 1 : Nat) : Int); omega, rfl, rfl, rfl, rfl, ⟨rfl, fun _ _ => rfl⟩, rfl, rfl, rfl, rfl, ⟨rfl, hgk, show j + 1 ≤ L.ky l by omega⟩, show L.ky l - (j + 1) < L.ky l - j by omega⟩
          · have f1 := of_decide_eq_false f1
            rw [eV] at f1
            obtain ⟨k0, k1⟩ := fin (r0 := 0) (r1 := 0) (PArea.ind_f f0) (PArea.ind_f f1)
            rw [Int.sub_zero] at k0 k1
            exact ⟨InK.of (by dsimp only; omega) (by dsimp only; omega), (i, j + 1), k0, k1, by show _ = _ + ((j + 1 : Nat) : Int); omega, rfl, rfl, rfl, rfl, ⟨rfl, fun _ _ => rfl⟩, rfl, rfl, rfl, rfl, ⟨rfl, hgk, show j + 1 ≤ L.ky l by omega⟩, show L.ky l - (j + 1) < L.ky l - j by omega⟩
      · have hge2 : ¬ (L.lowTo l l.n).y + (j : Int) ≤ (L.highTo l l.n).y := of_decide_eq_false hge2
        obtain rfl : j = L.ky l := by omega
        have st : ∀ w, L.cols l w (i + 1) = L.cols l w i + L.col l w ((L.lowTo l l.n).x + (i : Int)) (L.ky l) := fun w => rfl
        have s0 := st 0
        have s1 := st 1
        have t0 : L.cols l 0 (L.kx l) - L.cols l 0 i - L.col l 0 ((L.lowTo l l.n).x + (i : Int)) (L.ky l) = L.cols l 0 (L.kx l) - L.cols l 0 (i + 1) := by rw [s0]; omega
        have t1 : L.cols l 1 (L.kx l) - L.cols l 1 i - L.col l 1 ((L.lowTo l l.n).x + (i : Int)) (L.ky l) = L.cols l 1 (L.kx l) - L.cols l 1 (i + 1) := by rw [s1]; omega
        exact ⟨InK.of (by omega) (by omega), i + 1, t0, t1, by omega, rfl, rfl, rfl, ⟨rfl, fun _ _ => rfl⟩, rfl, rfl, rfl, rfl, by omega, by omega⟩
    · have hge : ¬ (L.lowTo l l.n).x + (g : Int) ≤ (L.highTo l l.n).x := of_decide_eq_false hge
      obtain rfl : g = L.kx l := by omega
      rw [Int.sub_self, Int.sub_self]; rfl)
theorem w_Pick_ok : SpecOk Try.prog 3 w_Pick_S := fnX Try.func3 (c := bodyOf Try.f3) (by kernel_rfl) mixed (fun args p r hs hp => by
  unfold w_Pick_s at hs
  split at hs
  · cases hs; exact ⟨_, _, w_Pick_vc _ hp.2, (.p (.sl hp.1) .nil), ⟨show SpecsL Try.prog _ from (SpecsL.cons w_awake_ok w_awake_en (SpecsL.cons p_Area2_ok p_Area2_en (SpecsL.cons p_Grid2_ok p_Grid2_en (SpecsL.cons p_Box2_ok p_Box2_en (SpecsL.cons p_Place_ok p_Place_en SpecsL.nil))))), rfl, ⟨show ItersL Try.prog _ from ItersL.nil, (TrsOk.none (fun _ => rfl))⟩⟩⟩
  · cases hs)
end Go.Proofs.Ytinfalehnaejbaa
