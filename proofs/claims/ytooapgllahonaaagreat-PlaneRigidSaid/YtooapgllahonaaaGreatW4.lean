/- A symbolic walk over the model, and what it shows of functions of the program: parts of the proof that the text of the row joins. -/
import Derived.Test.YtooapgllahonaaaGreatW3
import Derived.Test.YtooapgllahonaaaGreatE3
import Derived.KernelRfl
import Derived.Test.YtooapgllahonaaaGreatW2

namespace Go.Proofs.YtooapgllahonaaaGreat
open Go.SE Go.RowKit
set_option maxRecDepth 100000
set_option maxHeartbeats 4000000
set_option linter.unusedVariables false
attribute [local irreducible] Go.SE.vc

def L.pck (N : L.Sq L.Pt) (l : L.Sq Int) : L.Sq L.Pt := ⟨l.n, fun i => N.g (l.g i).toNat⟩
def L.snoc (l : L.Sq Int) (x : Int) : L.Sq Int := ⟨l.n + 1, fun i => bif decide (i < l.n) then l.g i else x⟩
def L.nilI : L.Sq Int := ⟨0, fun _ => 0⟩
def L.first (f : Nat → Option (L.Sq Int)) : Nat → Option (L.Sq Int)
  | 0 => none
  | c + 1 => match L.first f c with
    | some x => some x
    | none => f c
def L.grp (N : L.Sq L.Pt) : Nat → L.Sq Int → Nat → Option (L.Sq Int)
  | 0, l, _ => bif L.wayOk (L.pck N l) then none else some l
  | d + 1, l, fr => L.first (fun j => L.grp N d (L.snoc l ((fr + j : Nat) : Int)) (fr + j + 1)) (N.n - fr)
def L.orB (o : Option (L.Sq Int)) (b : L.Sq Int) : L.Sq Int := match o with
  | some x => x
  | none => b
def L.isNo (o : Option (L.Sq Int)) : Bool := match o with
  | some _ => false
  | none => true
def L.aft (N : L.Sq L.Pt) (l b : L.Sq Int) : L.Sq Int := bif L.wayOk (L.pck N l) then b else l
def L.within0 (l : L.Sq Int) (n : Nat) : Prop := ∀ i, i < l.n → 0 ≤ l.g i ∧ l.g i < (n : Int)
def L.exF (N : L.Sq L.Pt) (j : Nat) : Option (L.Sq Int) := L.grp N (3 + j) L.nilI 0
def L.exL (N : L.Sq L.Pt) : L.Sq Int := L.orB (L.first (L.exF N) 22) L.nilI
def L.exBad (N : L.Sq L.Pt) : Bool := bif decide (24 < (N.n : Int)) then true else L.anyB N.n (fun i => !L.isNrm (N.g i))
def L.exE (N : L.Sq L.Pt) : Int := bif L.exBad N then 1 else bif L.wayOk N then 0 else 13
def L.exD (N : L.Sq L.Pt) : L.Pt := bif L.exBad N then ⟨0, 0⟩ else L.wayD N
def L.exN (N : L.Sq L.Pt) : Nat := bif L.exBad N then 0 else bif L.wayOk N then 0 else (L.exL N).n
theorem first_none {f : Nat → Option (L.Sq Int)} : ∀ {c : Nat}, (∀ j, j < c → f j = none) → L.first f c = none
  | 0, _ => rfl
  | c + 1, h => by rw [L.first, first_none (c := c) (fun j hj => h j (by omega))]; exact h c (by omega)
theorem first_none_of {f : Nat → Option (L.Sq Int)} : ∀ {c : Nat}, L.first f c = none → ∀ j, j < c → f j = none
  | 0, _, j, hj => absurd hj (Nat.not_lt_zero _)
  | c + 1, h, j, hj => by
    rw [L.first] at h
    cases hf : L.first f c with
    | some x => rw [hf] at h; cases h
    | none =>
      rw [hf] at h
      rcases Nat.lt_succ_iff_lt_or_eq.1 hj with hj | rfl
      · exact first_none_of hf j hj
      · exact h
theorem first_at {f : Nat → Option (L.Sq Int)} {j : Nat} {x : L.Sq Int} (h0 : ∀ i, i < j → f i = none) (h : f j = some x) : ∀ {c : Nat}, j < c → L.first f c = some x
  | c + 1, hc => by
    rw [L.first]
    rcases Nat.lt_succ_iff_lt_or_eq.1 hc with hc | rfl
    · rw [first_at h0 h hc]
    · rw [first_none h0]; exact h
theorem first_some {f : Nat → Option (L.Sq Int)} {x : L.Sq Int} : ∀ {c : Nat}, L.first f c = some x → ∃ j, j < c ∧ f j = some x ∧ ∀ i, i < j → f i = none
  | 0, h => by cases h
  | c + 1, h => by
    rw [L.first] at h
    cases hf : L.first f c with
    | some y =>
      rw [hf] at h
      cases h
      obtain ⟨j, h1, h2, h3⟩ := first_some hf
      exact ⟨j, by omega, h2, h3⟩
    | none =>
      rw [hf] at h
      exact ⟨c, Nat.lt_succ_self c, h, first_none_of hf⟩
theorem first_mono {f : Nat → Option (L.Sq Int)} {x : L.Sq Int} {c m : Nat} (h : L.first f c = some x) (hm : c ≤ m) : L.first f m = some x := by
  obtain ⟨j, h1, h2, h3⟩ := first_some h
  exact first_at h3 h2 (by omega)
theorem grp_len {N : L.Sq L.Pt} : ∀ {d : Nat} {l : L.Sq Int} {fr : Nat} {x : L.Sq Int}, L.grp N d l fr = some x → x.n = l.n + d
  | 0, l, fr, x, h => by
    rw [L.grp] at h
    cases hw : L.wayOk (L.pck N l) with
    | true => rw [hw] at h; cases h
    | false => rw [hw] at h; cases h; rfl
  | d + 1, l, fr, x, h => by
    rw [L.grp] at h
    obtain ⟨j, _, h2, _⟩ := first_some h
    have := grp_len h2
    rw [this]
    show l.n + 1 + d = l.n + (d + 1)
    omega
theorem snoc_within {l : L.Sq Int} {n : Nat} (h : L.within0 l n) {x : Int} (h0 : 0 ≤ x) (h1 : x < (n : Int)) : L.within0 (L.snoc l x) n := fun i hi => by
  have hi : i < l.n + 1 := hi
  show 0 ≤ (bif decide (i < l.n) then l.g i else x) ∧ (bif decide (i < l.n) then l.g i else x) < (n : Int)
  by_cases h' : i < l.n
  · rw [decide_eq_true h']; exact h i h'
  · rw [decide_eq_false h']; exact ⟨h0, h1⟩
theorem pick_nrms {N : L.Sq L.Pt} {l : L.Sq Int} (hN : L.nrms N) (h : L.within0 l N.n) (hn : l.n ≤ 1000000) : L.nrms (L.pck N l) := ⟨hn, fun i hi => hN.2 _ (by have := h i hi; omega)⟩
theorem isNo_none {o : Option (L.Sq Int)} (h : L.isNo o = true) : o = none := by
  cases o with
  | none => rfl
  | some x => cases h
theorem isNo_some {o : Option (L.Sq Int)} (h : L.isNo o = false) : ∃ x, o = some x := by
  cases o with
  | none => cases h
  | some x => exact ⟨x, rfl⟩
theorem exBad_false {N : L.Sq L.Pt} (h : L.exBad N = false) : N.n ≤ 24 ∧ L.nrms N := by
  unfold L.exBad at h
  cases hd : decide (24 < (N.n : Int)) with
  | true => rw [hd] at h; cases h
  | false =>
    have hd := of_decide_eq_false hd
    rw [decide_eq_false hd] at h
    refine ⟨by omega, by omega, fun i hi => ?_⟩
    cases hn : L.isNrm (N.g i) with
    | true => rfl
    | false =>
      have : L.anyB N.n (fun i => !L.isNrm (N.g i)) = true := anyB_iff.2 ⟨i, hi, by rw [hn]; rfl⟩
      rw [this] at h; cases h
theorem wayD_no {N : L.Sq L.Pt} (h : L.wayOk N = false) : L.wayD N = ⟨0, 0⟩ := by
  unfold L.wayOk at h
  obtain ⟨h1, h2⟩ := Bool.or_eq_false_iff.1 h
  unfold L.wayD
  rw [h1, h2]; rfl
abbrev p_exit2_tr : Tr := { T := (L.Sq Int) × (L.Sq L.Pt) × (L.Sq Int), U := Nat, args := fun t => (fun l N b => [.p (.sl 1 l.n (fun i => [.int .i64 (l.g i)])), .p (.ref [(.sl 2 N.n (fun i => [.int .i64 ((N.g i).x), .int .i64 ((N.g i).y)]))] 0), .loc 1003 0]) t.1 t.2.1 t.2.2, own := fun t => (fun l N b => [(1003, .blk 57 [.full false 1 (b).n (fun i => [.int .i64 ((b).g i)])])]) t.1 t.2.1 t.2.2, pre := fun t => (fun l N b => 1 ≤ l.n ∧ l.n ≤ 1000 ∧ L.nrms N ∧ L.within0 l N.n) t.1 t.2.1 t.2.2, post := fun t u => (fun l N b => fun u => True) t.1 t.2.1 t.2.2 u, own' := fun t u => (fun l N b => fun u => [(1003, .blk 57 [.full false 1 (L.aft N l b).n (fun i => [.int .i64 ((L.aft N l b).g i)])])]) t.1 t.2.1 t.2.2 u, res := fun t u => (fun l N b => fun u => .p (.bool (L.wayOk (L.pck N l)))) t.1 t.2.1 t.2.2 u }
theorem p_exit2_vc (l : L.Sq Int) (N : L.Sq L.Pt) (b : L.Sq Int) (hp : p_exit2_tr.pre (l, N, b)) : vc Tryz.prog ({ muts := [8], frz := lookN [], specs := lookS [(137, p_way_S)], loops := lookL [(3, { T := Nat, keep := [0, 1, 2, 5, 10, 11], keepO := [1003], chg := fun i => [(12, .p (.int .i64 (i : Int)))], own := fun i => [(20, .row 42 2 i (fun j => [.int .i64 ((N.g (l.g j).toNat).x), .int .i64 ((N.g (l.g j).toNat).y)]))], inv := fun i => i ≤ l.n, mu := fun i => l.n - i })], iters := lookI [], rfs := lookR [], nils := lookM [(2, [(5, 20, 42, 2)])] }) (bodyOf Tryz.f139) (stTr Tryz.f139 (p_exit2_tr.args (l, N, b)) (p_exit2_tr.own (l, N, b))) (retTr Tryz.prog Tryz.f139 p_exit2_tr (l, N, b)) :=
  @Eq.mpr _ ((∃ (g : Nat), (0 : Int) = (↑g : Int) ∧ (nat_lit 0 = g ∧ ∀ (i : Nat), i < nat_lit 0 → [] = [Go.SE.SV.int Go.IntKind.i64 (N.g (Int.toNat (l.g i))).x, Go.SE.SV.int Go.IntKind.i64 (N.g (Int.toNat (l.g i))).y]) ∧ g ≤ l.n) ∧ ∀ (g : Nat), g ≤ l.n → (Decidable.decide ((↑g : Int) < (↑l.n : Int)) = Bool.true → ((0 : Int) ≤ (↑g : Int) ∧ (↑g : Int) < (↑l.n : Int)) ∧ ((0 : Int) ≤ l.g (Int.toNat (↑g : Int)) ∧
 l.g (Int.toNat (↑g : Int)) < (↑N.n : Int)) ∧ (g + nat_lit 1) * nat_lit 16 ≤ (140737488355328 : Nat) ∧ Go.SE.InK Go.IntKind.i64 ((↑g : Int) + (1 : Int)) ∧ ∃ (g' : Nat), (↑g : Int) + (1 : Int) = (↑g' : Int) ∧ (↑l.n : Int) = (↑l.n : Int) ∧ (l.n = l.n ∧ ∀ (i : Nat), i < l.n → [Go.SE.SV.int Go.IntKind.i64 (l.g i)] = [Go.SE.SV.int Go.IntKind.i64 (l.g i)]) ∧ (l.n = l.n ∧ ∀ (i : Nat), i < l.n →
 [Go.SE.SV.int Go.IntKind.i64 (l.g i)] = [Go.SE.SV.int Go.IntKind.i64 (l.g i)]) ∧ Go.SE.SV.ref [Go.SE.SV.sl (nat_lit 2) N.n fun (i : Nat) ↦ [Go.SE.SV.int Go.IntKind.i64 (N.g i).x, Go.SE.SV.int Go.IntKind.i64 (N.g i).y]] (nat_lit 0) = Go.SE.SV.ref [Go.SE.SV.sl (nat_lit 2) N.n fun (i : Nat) ↦ [Go.SE.SV.int Go.IntKind.i64 (N.g i).x, Go.SE.SV.int Go.IntKind.i64 (N.g i).y]] (nat_lit 0) ∧ nat_lit 0 =
 nat_lit 0 ∧ (g + nat_lit 1 = g' ∧ ∀ (i : Nat), i < g + nat_lit 1 → Go.SE.appGet g (fun (j : Nat) ↦ [Go.SE.SV.int Go.IntKind.i64 (N.g (Int.toNat (l.g j))).x, Go.SE.SV.int Go.IntKind.i64 (N.g (Int.toNat (l.g j))).y]) (fun (x : Nat) ↦ [Go.SE.SV.int Go.IntKind.i64 (N.g (Int.toNat (l.g (Int.toNat (↑g : Int))))).x, Go.SE.SV.int Go.IntKind.i64 (N.g (Int.toNat (l.g (Int.toNat (↑g : Int))))).y]) i =
 [Go.SE.SV.int Go.IntKind.i64 (N.g (Int.toNat (l.g i))).x, Go.SE.SV.int Go.IntKind.i64 (N.g (Int.toNat (l.g i))).y]) ∧ (b.n = b.n ∧ ∀ (i : Nat), i < b.n → [Go.SE.SV.int Go.IntKind.i64 (b.g i)] = [Go.SE.SV.int Go.IntKind.i64 (b.g i)]) ∧ g' ≤ l.n ∧ l.n - g' < l.n - g) ∧ (Decidable.decide ((↑g : Int) < (↑l.n : Int)) = Bool.false → ((∀ (i : Nat), i < g → [Go.SE.SV.int Go.IntKind.i64 (N.g (Int.toNat
 (l.g i))).x, Go.SE.SV.int Go.IntKind.i64 (N.g (Int.toNat (l.g i))).y] = [Go.SE.SV.int Go.IntKind.i64 (N.g (Int.toNat (l.g i))).x, Go.SE.SV.int Go.IntKind.i64 (N.g (Int.toNat (l.g i))).y]) ∧ L.nrms (L.Sq.mk g fun (i : Nat) ↦ N.g (Int.toNat (l.g i)))) ∧ ((!L.wayOk (L.Sq.mk g fun (i : Nat) ↦ N.g (Int.toNat (l.g i)))) = Bool.true → ∃ (u : Nat), Bool.false = L.wayOk (L.pck N l) ∧ (l.n = (L.aft N l b).n
 ∧ (0 : Nat) < l.n ∧ ∀ (i : Nat), i < l.n → [Go.SE.SV.int Go.IntKind.i64 (l.g i)] = [Go.SE.SV.int Go.IntKind.i64 ((L.aft N l b).g i)]) ∧ True) ∧ ((!L.wayOk (L.Sq.mk g fun (i : Nat) ↦ N.g (Int.toNat (l.g i)))) = Bool.false → ∃ (u : Nat), Bool.true = L.wayOk (L.pck N l) ∧ (b.n = (L.aft N l b).n ∧ ∀ (i : Nat), i < b.n → [Go.SE.SV.int Go.IntKind.i64 (b.g i)] = [Go.SE.SV.int Go.IntKind.i64 ((L.aft N l
 b).g i)]) ∧ True))) (by kernel_rfl) (by
    have hp : 1 ≤ l.n ∧ l.n ≤ 1000 ∧ L.nrms N ∧ L.within0 l N.n := hp
    obtain ⟨h1, h2, hN, hw⟩ := hp
    refine ⟨⟨(0 : Nat), rfl, ⟨rfl, fun i hi => absurd hi (Nat.not_lt_zero _)⟩, Nat.zero_le _⟩, fun g hg => ⟨fun hlt => ?_, fun hge => ?_⟩⟩
    · have hb : (g : Int) < (l.n : Int) := of_decide_eq_true hlt
      have e0 : ((g : Int)).toNat = g := by omega
      have hx := hw g (by omega)
      rw [e0]
      refine ⟨⟨by omega, hb⟩, hx, show (g + 1) * 16 ≤ 140737488355328 by omega, InK.of (by omega) (by omega), g + 1, by omega, rfl, ⟨rfl, fun _ _ => rfl⟩, ⟨rfl, fun _ _ => rfl⟩, rfl, rfl, ⟨rfl, fun i hi => ?_⟩, ⟨rfl, fun _ _ => rfl⟩, by omega, by omega⟩
      have hi : i < g + 1 := hi
      unfold appGet
      by_cases h' : i < g
      · rw [if_pos h']
      · rw [if_neg h']
        obtain rfl : i = g := by omega
        rfl
    · have hb : ¬ (g : Int) < (l.n : Int) := of_decide_eq_false hge
      obtain rfl : g = l.n := by omega
      have e : (L.Sq.mk l.n fun (i : Nat) => N.g (l.g i).toNat) = L.pck N l := rfl
      rw [e]
      refine ⟨⟨fun _ _ => rfl, pick_nrms hN hw (by omega)⟩, fun hc => ?_, fun hc => ?_⟩
      · have hc : L.wayOk (L.pck N l) = false := by simpa using (show (!L.wayOk (L.pck N l)) = true from hc)
        unfold L.aft
        rw [hc]; exact ⟨(0 : Nat), rfl, ⟨rfl, h1, fun _ _ => rfl⟩, trivial⟩
      · have hc : L.wayOk (L.pck N l) = true := by simpa using (show (!L.wayOk (L.pck N l)) = false from hc)
        unfold L.aft
        rw [hc]; exact ⟨(0 : Nat), rfl, ⟨rfl, fun _ _ => rfl⟩, trivial⟩)
theorem p_exit2_en : Enters Tryz.prog 139 := fun args w => by kernel_rfl
theorem p_exit2_tok : TrOk Tryz.prog 139 p_exit2_tr := tr_ok (ks := [1003]) (n := 3) Tryz.func139 (c := bodyOf Tryz.f139) (by kernel_rfl) mixed ⟨fun t => rfl, fun t => rfl, fun t u => rfl, fun t u => rfl, fun t u => rfl, by kernel_rfl⟩ (fun ⟨l, N, b⟩ hp => ⟨_, p_exit2_vc l N b hp, ⟨show SpecsL Tryz.prog _ from (SpecsL.cons p_way_ok p_way_en SpecsL.nil), rfl, ⟨show ItersL Tryz.prog _ from ItersL.nil, (TrsOk.none (fun _ => rfl))⟩⟩⟩)
abbrev p_more_tr : Tr := { T := (L.Sq Int) × (Nat) × (Nat) × (L.Sq L.Pt) × (L.Sq Int), U := Nat, args := fun t => (fun l fr k N b => [.p (.sl 1 l.n (fun i => [.int .i64 (l.g i)])), .p (.int .i64 (fr : Int)), .p (.ref [.int .i64 (k : Int)] 0), .loc 1005 0, .p (.ref [.int .i64 (N.n : Int)] 0), .loc 1007 0]) t.1 t.2.1 t.2.2.1 t.2.2.2.1 t.2.2.2.2, own := fun t => (fun l fr k N b => [(1003, .blk 57 [.full false 1 (b).n (fun i => [.int .i64 ((b).g i)])]), (1005, .blk 165 [.cl 139 [.p (.ref [(.sl 2 N.n (fun i => [.int .i64 ((N.g i).x), .int .i64 ((N.g i).y)]))] 0), .loc 1003 0]]), (1007, .blk 152 [.cl 186 [.p (.ref [.int .i64 (k : Int)] 0), .loc 1005 0, .p (.ref [.int .i64 (N.n : Int)] 0), .loc 1007 0]])]) t.1 t.2.1 t.2.2.1 t.2.2.2.1 t.2.2.2.2, pre := fun t => (fun l fr k N b => (l.n ≤ k ∧ 1 ≤ k ∧ k ≤ 1000) ∧ (fr ≤ N.n ∧ N.n ≤ 1000) ∧ L.nrms N ∧ L.within0 l N.n) t.1 t.2.1 t.2.2.1 t.2.2.2.1 t.2.2.2.2, post := fun t u => (fun l fr k N b => fun u => True) t.1 t.2.1 t.2.2.1 t.2.2.2.1 t.2.2.2.2 u, own' := fun t u => (fun l fr k N b => fun u => [(1003, .blk 57 [.full false 1 (L.orB (L.grp N (k - l.n) l fr) b).n (fun i => [.int .i64 ((L.orB (L.grp N (k - l.n) l fr) b).g i)])]), (1005, .blk 165 [.cl 139 [.p (.ref [(.sl 2 N.n (fun i => [.int .i64 ((N.g i).x), .int .i64 ((N.g i).y)]))] 0), .loc 1003 0]]), (1007, .blk 152 [.cl 186 [.p (.ref [.int .i64 (k : Int)] 0), .loc 1005 0, .p (.ref [.int .i64 (N.n : Int)] 0), .loc 1007 0]])]) t.1 t.2.1 t.2.2.1 t.2.2.2.1 t.2.2.2.2 u, res := fun t u => (fun l fr k N b => fun u => .p (.bool (L.isNo (L.grp N (k - l.n) l fr)))) t.1 t.2.1 t.2.2.1 t.2.2.2.1 t.2.2.2.2 u }
abbrev p_more_mu : p_more_tr.T → Nat := fun t => (fun l fr k N b => k - l.n) t.1 t.2.1 t.2.2.1 t.2.2.2.1 t.2.2.2.2
theorem p_more_vc (rn : Nat) (l : L.Sq Int) (fr : Nat) (k : Nat) (N : L.Sq L.Pt) (b : L.Sq Int) (hp : p_more_tr.pre (l, fr, k, N, b)) (hmu : k - l.n < rn + 1) : vc Tryz.prog ({ muts := [], frz := lookN [], specs := lookS [], loops := lookL [(4, { T := Nat, keep := [0, 1, 2, 3, 4, 5, 8], keepO := [1003, 1005, 1007], chg := fun j => [(9, .p (.int .i64 ((fr + j : Nat) : Int)))], own := fun _ => [], inv := fun j => fr + j ≤ N.n ∧ ∀ c, c < j → L.isNo (L.grp N (k - l.n - 1) (L.snoc l ((fr + c : Nat) : Int)) (fr + c + 1)) = true, mu := fun j => N.n - (fr + j) })], iters := lookI [], rfs := lookR [], nils := lookM [], trs := lookT [(139, p_exit2_tr), (186, Tr.lt p_more_tr p_more_mu rn)], ren := fun k => k }) (bodyOf Tryz.f186) (stTr Tryz.f186 (p_more_tr.args (l, fr, k, N, b)) (p_more_tr.own (l, fr, k, N, b))) (retTr Tryz.prog Tryz.f186 p_more_tr (l, fr, k, N, b)) :=
  @Eq.mpr _ ((Decidable.decide ((↑l.n : Int) = (↑k : Int)) = Bool.true → ∃ (t : L.Sq Int × L.Sq L.Pt × L.Sq Int), (l.n = t.1.n ∧ ∀ (i : Nat), i < l.n → [Go.SE.SV.int Go.IntKind.i64 (l.g i)] = [Go.SE.SV.int Go.IntKind.i64 (t.1.g i)]) ∧ Go.SE.SV.ref [Go.SE.SV.sl (nat_lit 2) N.n fun (i : Nat) ↦ [Go.SE.SV.int Go.IntKind.i64 (N.g i).x, Go.SE.SV.int Go.IntKind.i64 (N.g i).y]] (nat_lit 0) = Go.SE.SV.ref [Go.SE.SV.sl
 (2 : Nat) t.2.1.n fun (i : Nat) ↦ [Go.SE.SV.int Go.IntKind.i64 (t.2.1.g i).x, Go.SE.SV.int Go.IntKind.i64 (t.2.1.g i).y]] (0 : Nat) ∧ nat_lit 0 = (0 : Nat) ∧ (b.n = t.2.2.n ∧ ∀ (i : Nat), i < b.n → [Go.SE.SV.int Go.IntKind.i64 (b.g i)] = [Go.SE.SV.int Go.IntKind.i64 (t.2.2.g i)]) ∧ ((1 : Nat) ≤ t.1.n ∧ t.1.n ≤ (1000 : Nat) ∧ L.nrms t.2.1 ∧ L.within0 t.1 t.2.1.n) ∧ ∀ (u : Nat), True → ∃ (u : Nat),
 L.wayOk (L.pck t.2.1 t.1) = L.isNo (L.grp N (k - l.n) l fr) ∧ ((L.aft t.2.1 t.1 t.2.2).n = (L.orB (L.grp N (k - l.n) l fr) b).n ∧ ∀ (i : Nat), i < (L.aft t.2.1 t.1 t.2.2).n → [Go.SE.SV.int Go.IntKind.i64 ((L.aft t.2.1 t.1 t.2.2).g i)] = [Go.SE.SV.int Go.IntKind.i64 ((L.orB (L.grp N (k - l.n) l fr) b).g i)]) ∧ Go.SE.EV.cl (nat_lit 139) [Go.SE.EV.p (Go.SE.SV.ref [Go.SE.SV.sl (nat_lit 2) N.n fun (i :
 Nat) ↦ [Go.SE.SV.int Go.IntKind.i64 (N.g i).x, Go.SE.SV.int Go.IntKind.i64 (N.g i).y]] (nat_lit 0)), Go.SE.EV.loc (nat_lit 1003) (nat_lit 0)] = Go.SE.EV.cl (139 : Nat) [Go.SE.EV.p (Go.SE.SV.ref [Go.SE.SV.sl (2 : Nat) N.n fun (i : Nat) ↦ [Go.SE.SV.int Go.IntKind.i64 (N.g i).x, Go.SE.SV.int Go.IntKind.i64 (N.g i).y]] (0 : Nat)), Go.SE.EV.loc (1003 : Nat) (0 : Nat)] ∧ Go.SE.EV.cl (nat_lit 186)
 [Go.SE.EV.p (Go.SE.SV.ref [Go.SE.SV.int Go.IntKind.i64 (↑k : Int)] (nat_lit 0)), Go.SE.EV.loc (nat_lit 1005) (nat_lit 0), Go.SE.EV.p (Go.SE.SV.ref [Go.SE.SV.int Go.IntKind.i64 (↑N.n : Int)] (nat_lit 0)), Go.SE.EV.loc (nat_lit 1007) (nat_lit 0)] = Go.SE.EV.cl (186 : Nat) [Go.SE.EV.p (Go.SE.SV.ref [Go.SE.SV.int Go.IntKind.i64 (↑k : Int)] (0 : Nat)), Go.SE.EV.loc (1005 : Nat) (0 : Nat), Go.SE.EV.p
 (Go.SE.SV.ref [Go.SE.SV.int Go.IntKind.i64 (↑N.n : Int)] (0 : Nat)), Go.SE.EV.loc (1007 : Nat) (0 : Nat)] ∧ True) ∧ (Decidable.decide ((↑l.n : Int) = (↑k : Int)) = Bool.false → (∃ (g : Nat), (↑fr : Int) = (↑(fr + g) : Int) ∧ fr + g ≤ N.n ∧ ∀ (c : Nat), c < g → L.isNo (L.grp N (k - l.n - (1 : Nat)) (L.snoc l (↑(fr + c) : Int)) (fr + c + (1 : Nat))) = Bool.true) ∧ ∀ (g : Nat), (fr + g ≤ N.n ∧ ∀ (c :
 Nat), c < g → L.isNo (L.grp N (k - l.n - (1 : Nat)) (L.snoc l (↑(fr + c) : Int)) (fr + c + (1 : Nat))) = Bool.true) → (Decidable.decide ((↑(fr + g) : Int) < (↑N.n : Int)) = Bool.true → ((0 : Int) ≤ (↑l.n : Int) ∧ (↑l.n : Int) ≤ (↑l.n : Int) ∧ (↑l.n : Int) = (↑l.n : Int)) ∧ ((0 : Nat) < (1 : Nat) ∧ (Int.toNat (↑l.n : Int) + (1 : Nat)) * nat_lit 8 ≤ (140737488355328 : Nat)) ∧ Go.SE.InK
 Go.IntKind.i64 ((↑(fr + g) : Int) + (1 : Int)) ∧ ∃ (t : L.Sq Int × Nat × Nat × L.Sq L.Pt × L.Sq Int), (Int.toNat (↑l.n : Int) + (1 : Nat) = t.1.n ∧ ∀ (i : Nat), i < Int.toNat (↑l.n : Int) + (1 : Nat) → Go.SE.appGet (Int.toNat (↑l.n : Int)) (fun (i : Nat) ↦ [Go.SE.SV.int Go.IntKind.i64 (l.g i)]) (fun (x : Nat) ↦ [Go.SE.SV.int Go.IntKind.i64 (↑(fr + g) : Int)]) i = [Go.SE.SV.int Go.IntKind.i64
 (t.1.g i)]) ∧ (↑(fr + g) : Int) + (1 : Int) = (↑t.2.1 : Int) ∧ Go.SE.SV.ref [Go.SE.SV.int Go.IntKind.i64 (↑k : Int)] (nat_lit 0) = Go.SE.SV.ref [Go.SE.SV.int Go.IntKind.i64 (↑t.snd.2.1 : Int)] (0 : Nat) ∧ nat_lit 0 = (0 : Nat) ∧ Go.SE.SV.ref [Go.SE.SV.int Go.IntKind.i64 (↑N.n : Int)] (nat_lit 0) = Go.SE.SV.ref [Go.SE.SV.int Go.IntKind.i64 (↑t.snd.snd.2.1.n : Int)] (0 : Nat) ∧ nat_lit 0 = (0 : Nat)
 ∧ (b.n = t.snd.snd.2.2.n ∧ ∀ (i : Nat), i < b.n → [Go.SE.SV.int Go.IntKind.i64 (b.g i)] = [Go.SE.SV.int Go.IntKind.i64 (t.snd.snd.2.2.g i)]) ∧ Go.SE.EV.cl (nat_lit 139) [Go.SE.EV.p (Go.SE.SV.ref [Go.SE.SV.sl (nat_lit 2) N.n fun (i : Nat) ↦ [Go.SE.SV.int Go.IntKind.i64 (N.g i).x, Go.SE.SV.int Go.IntKind.i64 (N.g i).y]] (nat_lit 0)), Go.SE.EV.loc (nat_lit 1003) (nat_lit 0)] = Go.SE.EV.cl (139 : Nat)
 [Go.SE.EV.p (Go.SE.SV.ref [Go.SE.SV.sl (nat_lit 2) t.snd.snd.2.1.n fun (i : Nat) ↦ [Go.SE.SV.int Go.IntKind.i64 (t.snd.snd.2.1.g i).x, Go.SE.SV.int Go.IntKind.i64 (t.snd.snd.2.1.g i).y]] (nat_lit 0)), Go.SE.EV.loc (nat_lit 1003) (nat_lit 0)] ∧ Go.SE.EV.cl (nat_lit 186) [Go.SE.EV.p (Go.SE.SV.ref [Go.SE.SV.int Go.IntKind.i64 (↑k : Int)] (nat_lit 0)), Go.SE.EV.loc (nat_lit 1005) (nat_lit 0),
 Go.SE.EV.p (Go.SE.SV.ref [Go.SE.SV.int Go.IntKind.i64 (↑N.n : Int)] (nat_lit 0)), Go.SE.EV.loc (nat_lit 1007) (nat_lit 0)] = Go.SE.EV.cl (186 : Nat) [Go.SE.EV.p (Go.SE.SV.ref [Go.SE.SV.int Go.IntKind.i64 (↑t.snd.2.1 : Int)] (nat_lit 0)), Go.SE.EV.loc (nat_lit 1005) (nat_lit 0), Go.SE.EV.p (Go.SE.SV.ref [Go.SE.SV.int Go.IntKind.i64 (↑t.snd.snd.2.1.n : Int)] (nat_lit 0)), Go.SE.EV.loc (nat_lit 1007)
 (nat_lit 0)] ∧ (((t.1.n ≤ t.snd.2.1 ∧ (1 : Nat) ≤ t.snd.2.1 ∧ t.snd.2.1 ≤ (1000 : Nat)) ∧ (t.2.1 ≤ t.snd.snd.2.1.n ∧ t.snd.snd.2.1.n ≤ (1000 : Nat)) ∧ L.nrms t.snd.snd.2.1 ∧ L.within0 t.1 t.snd.snd.2.1.n) ∧ t.snd.2.1 - t.1.n < rn) ∧ ∀ (u : Nat), True → ((!L.isNo (L.grp t.snd.snd.2.1 (t.snd.2.1 - t.1.n) t.1 t.2.1)) = Bool.true → ∃ (u : Nat), Bool.false = L.isNo (L.grp N (k - l.n) l fr) ∧ ((L.orB
 (L.grp t.snd.snd.2.1 (t.snd.2.1 - t.1.n) t.1 t.2.1) t.snd.snd.2.2).n = (L.orB (L.grp N (k - l.n) l fr) b).n ∧ ∀ (i : Nat), i < (L.orB (L.grp t.snd.snd.2.1 (t.snd.2.1 - t.1.n) t.1 t.2.1) t.snd.snd.2.2).n → [Go.SE.SV.int Go.IntKind.i64 ((L.orB (L.grp t.snd.snd.2.1 (t.snd.2.1 - t.1.n) t.1 t.2.1) t.snd.snd.2.2).g i)] = [Go.SE.SV.int Go.IntKind.i64 ((L.orB (L.grp N (k - l.n) l fr) b).g i)]) ∧
 Go.SE.EV.cl (nat_lit 139) [Go.SE.EV.p (Go.SE.SV.ref [Go.SE.SV.sl (nat_lit 2) t.snd.snd.2.1.n fun (i : Nat) ↦ [Go.SE.SV.int Go.IntKind.i64 (t.snd.snd.2.1.g i).x, Go.SE.SV.int Go.IntKind.i64 (t.snd.snd.2.1.g i).y]] (nat_lit 0)), Go.SE.EV.loc (1003 : Nat) (nat_lit 0)] = Go.SE.EV.cl (139 : Nat) [Go.SE.EV.p (Go.SE.SV.ref [Go.SE.SV.sl (2 : Nat) N.n fun (i : Nat) ↦ [Go.SE.SV.int Go.IntKind.i64 (N.g i).x,
 Go.SE.SV.int Go.IntKind.i64 (N.g i).y]] (0 : Nat)), Go.SE.EV.loc (1003 : Nat) (0 : Nat)] ∧ Go.SE.EV.cl (nat_lit 186) [Go.SE.EV.p (Go.SE.SV.ref [Go.SE.SV.int Go.IntKind.i64 (↑t.snd.2.1 : Int)] (nat_lit 0)), Go.SE.EV.loc (1005 : Nat) (nat_lit 0), Go.SE.EV.p (Go.SE.SV.ref [Go.SE.SV.int Go.IntKind.i64 (↑t.snd.snd.2.1.n : Int)] (nat_lit 0)), Go.SE.EV.loc (1007 : Nat) (nat_lit 0)] = Go.SE.EV.cl (186 :
 Nat) [Go.SE.EV.p (Go.SE.SV.ref [Go.SE.SV.int Go.IntKind.i64 (↑k : Int)] (0 : Nat)), Go.SE.EV.loc (1005 : Nat) (0 : Nat), Go.SE.EV.p (Go.SE.SV.ref [Go.SE.SV.int Go.IntKind.i64 (↑N.n : Int)] (0 : Nat)), Go.SE.EV.loc (1007 : Nat) (0 : Nat)] ∧ True) ∧ ((!L.isNo (L.grp t.snd.snd.2.1 (t.snd.2.1 - t.1.n) t.1 t.2.1)) = Bool.false → Go.SE.InK Go.IntKind.i64 ((↑(fr + g) : Int) + (1 : Int)) ∧ ∃ (g' : Nat),
 (↑(fr + g) : Int) + (1 : Int) = (↑(fr + g') : Int) ∧ Bool.false = Bool.false ∧ (l.n = l.n ∧ ∀ (i : Nat), i < l.n → [Go.SE.SV.int Go.IntKind.i64 (l.g i)] = [Go.SE.SV.int Go.IntKind.i64 (l.g i)]) ∧ (↑fr : Int) = (↑fr : Int) ∧ Go.SE.SV.ref [Go.SE.SV.int Go.IntKind.i64 (↑k : Int)] (nat_lit 0) = Go.SE.SV.ref [Go.SE.SV.int Go.IntKind.i64 (↑k : Int)] (nat_lit 0) ∧ nat_lit 0 = nat_lit 0 ∧ Go.SE.SV.ref
 [Go.SE.SV.int Go.IntKind.i64 (↑N.n : Int)] (nat_lit 0) = Go.SE.SV.ref [Go.SE.SV.int Go.IntKind.i64 (↑N.n : Int)] (nat_lit 0) ∧ nat_lit 0 = nat_lit 0 ∧ ((L.orB (L.grp t.snd.snd.2.1 (t.snd.2.1 - t.1.n) t.1 t.2.1) t.snd.snd.2.2).n = b.n ∧ ∀ (i : Nat), i < (L.orB (L.grp t.snd.snd.2.1 (t.snd.2.1 - t.1.n) t.1 t.2.1) t.snd.snd.2.2).n → [Go.SE.SV.int Go.IntKind.i64 ((L.orB (L.grp t.snd.snd.2.1 (t.snd.2.1
 - t.1.n) t.1 t.2.1) t.snd.snd.2.2).g i)] = [Go.SE.SV.int Go.IntKind.i64 (b.g i)]) ∧ Go.SE.EV.cl (nat_lit 139) [Go.SE.EV.p (Go.SE.SV.ref [Go.SE.SV.sl (nat_lit 2) t.snd.snd.2.1.n fun (i : Nat) ↦ [Go.SE.SV.int Go.IntKind.i64 (t.snd.snd.2.1.g i).x, Go.SE.SV.int Go.IntKind.i64 (t.snd.snd.2.1.g i).y]] (nat_lit 0)), Go.SE.EV.loc (1003 : Nat) (nat_lit 0)] = Go.SE.EV.cl (nat_lit 139) [Go.SE.EV.p
 (Go.SE.SV.ref [Go.SE.SV.sl (nat_lit 2) N.n fun (i : Nat) ↦ [Go.SE.SV.int Go.IntKind.i64 (N.g i).x, Go.SE.SV.int Go.IntKind.i64 (N.g i).y]] (nat_lit 0)), Go.SE.EV.loc (nat_lit 1003) (nat_lit 0)] ∧ Go.SE.EV.cl (nat_lit 186) [Go.SE.EV.p (Go.SE.SV.ref [Go.SE.SV.int Go.IntKind.i64 (↑t.snd.2.1 : Int)] (nat_lit 0)), Go.SE.EV.loc (1005 : Nat) (nat_lit 0), Go.SE.EV.p (Go.SE.SV.ref [Go.SE.SV.int
 Go.IntKind.i64 (↑t.snd.snd.2.1.n : Int)] (nat_lit 0)), Go.SE.EV.loc (1007 : Nat) (nat_lit 0)] = Go.SE.EV.cl (nat_lit 186) [Go.SE.EV.p (Go.SE.SV.ref [Go.SE.SV.int Go.IntKind.i64 (↑k : Int)] (nat_lit 0)), Go.SE.EV.loc (nat_lit 1005) (nat_lit 0), Go.SE.EV.p (Go.SE.SV.ref [Go.SE.SV.int Go.IntKind.i64 (↑N.n : Int)] (nat_lit 0)), Go.SE.EV.loc (nat_lit 1007) (nat_lit 0)] ∧ (fr + g' ≤ N.n ∧ ∀ (c : Nat), c
 < g' → L.isNo (L.grp N (k - l.n - (1 : Nat)) (L.snoc l (↑(fr + c) : Int)) (fr + c + (1 : Nat))) = Bool.true) ∧ N.n - (fr + g') < N.n - (fr + g))) ∧ (Decidable.decide ((↑(fr + g) : Int) < (↑N.n : Int)) = Bool.false → ∃ (u : Nat), Bool.true = L.isNo (L.grp N (k - l.n) l fr) ∧ (b.n = (L.orB (L.grp N (k - l.n) l fr) b).n ∧ ∀ (i : Nat), i < b.n → [Go.SE.SV.int Go.IntKind.i64 (b.g i)] = [Go.SE.SV.int
 Go.IntKind.i64 ((L.orB (L.grp N (k - l.n) l fr) b).g i)]) ∧ Go.SE.EV.cl (nat_lit 139) [Go.SE.EV.p (Go.SE.SV.ref [Go.SE.SV.sl (nat_lit 2) N.n fun (i : Nat) ↦ [Go.SE.SV.int Go.IntKind.i64 (N.g i).x, Go.SE.SV.int Go.IntKind.i64 (N.g i).y]] (nat_lit 0)), Go.SE.EV.loc (nat_lit 1003) (nat_lit 0)] = Go.SE.EV.cl (139 : Nat) [Go.SE.EV.p (Go.SE.SV.ref [Go.SE.SV.sl (2 : Nat) N.n fun (i : Nat) ↦ [Go.SE.SV.int
 Go.IntKind.i64 (N.g i).x, Go.SE.SV.int Go.IntKind.i64 (N.g i).y]] (0 : Nat)), Go.SE.EV.loc (1003 : Nat) (0 : Nat)] ∧ Go.SE.EV.cl (nat_lit 186) [Go.SE.EV.p (Go.SE.SV.ref [Go.SE.SV.int Go.IntKind.i64 (↑k : Int)] (nat_lit 0)), Go.SE.EV.loc (nat_lit 1005) (nat_lit 0), Go.SE.EV.p (Go.SE.SV.ref [Go.SE.SV.int Go.IntKind.i64 (↑N.n : Int)] (nat_lit 0)), Go.SE.EV.loc (nat_lit 1007) (nat_lit 0)] =
 Go.SE.EV.cl (186 : Nat) [Go.SE.EV.p (Go.SE.SV.ref [Go.SE.SV.int Go.IntKind.i64 (↑k : Int)] (0 : Nat)), Go.SE.EV.loc (1005 : Nat) (0 : Nat), Go.SE.EV.p (Go.SE.SV.ref [Go.SE.SV.int Go.IntKind.i64 (↑N.n : Int)] (0 : Nat)), Go.SE.EV.loc (1007 : Nat) (0 : Nat)] ∧ True))) (by kernel_rfl) (by
    have hp : (l.n ≤ k ∧ 1 ≤ k ∧ k ≤ 1000) ∧ (fr ≤ N.n ∧ N.n ≤ 1000) ∧ L.nrms N ∧ L.within0 l N.n := hp
    obtain ⟨⟨k1, k2, k3⟩, ⟨f1, f2⟩, hN, hw⟩ := hp
    have hmu : k - l.n < rn + 1 := hmu
    refine ⟨fun he => ?_, fun hne => ?_⟩
    · have he : ((l.n : Nat) : Int) = (k : Int) := of_decide_eq_true he
      have e0 : k - l.n = 0 := by omega
      have hR : L.isNo (L.grp N (k - l.n) l fr) = L.wayOk (L.pck N l) := by
        rw [e0, L.grp]; cases L.wayOk (L.pck N l) <;> rfl
      have hA : L.orB (L.grp N (k - l.n) l fr) b = L.aft N l b := by
        rw [e0, L.grp]; unfold L.aft; cases L.wayOk (L.pck N l) <;> rfl
      rw [hR, hA]
      exact ⟨(l, N, b), ⟨rfl, fun _ _ => rfl⟩, rfl, rfl, ⟨rfl, fun _ _ => rfl⟩, ⟨by show 1 ≤ l.n; omega, by show l.n ≤ 1000; omega, hN, hw⟩, fun u _ => ⟨(0 : Nat), rfl, ⟨rfl, fun _ _ => rfl⟩, rfl, rfl, trivial⟩⟩
    · have hne : ¬ ((l.n : Nat) : Int) = (k : Int) := of_decide_eq_false hne
      have hG : L.grp N (k - l.n) l fr = L.first (fun j => L.grp N (k - l.n - 1) (L.snoc l ((fr + j : Nat) : Int)) (fr + j + 1)) (N.n - fr) := by
        obtain ⟨d, hd⟩ : ∃ d, k - l.n = d + 1 := ⟨k - l.n - 1, by omega⟩
        rw [hd]; rfl
      rw [hG]
      refine ⟨⟨(0 : Nat), rfl, f1, fun c hc => absurd hc (Nat.not_lt_zero _)⟩, fun g hg => ⟨fun hlt => ?_, fun hge => ?_⟩⟩
      · obtain ⟨g1, g2⟩ := hg
        have hb : ((fr + g : Nat) : Int) < (N.n : Int) := of_decide_eq_true hlt
        have e1 : ((l.n : Nat) : Int).toNat = l.n := by omega
        have none : ∀ c, c < g → L.grp N (k - l.n - 1) (L.snoc l ((fr + c : Nat) : Int)) (fr + c + 1) = none := fun c hc => isNo_none (g2 c hc)
        rw [e1]
        refine ⟨⟨by omega, by omega, rfl⟩, ⟨by decide, show (l.n + 1) * 8 ≤ 140737488355328 by omega⟩, InK.of (by omega) (by omega), (L.snoc l ((fr + g : Nat) : Int), fr + g + 1, k, N, b), ⟨rfl, fun i hi => ?_⟩, by show ((fr + g : Nat) : Int) + 1 = ((fr + g + 1 : Nat) : Int); omega, rfl, rfl, rfl, rfl, ⟨rfl, fun _ _ => rfl⟩, rfl, rfl, ⟨⟨⟨by show l.n + 1 ≤ k; omega, k2, k3⟩, ⟨by show fr + g + 1 ≤ N.n; omega, f2⟩, hN, snoc_within hw (by omega) hb⟩, by show k - (l.n + 1) < rn; omega⟩, fun u _ => ?_⟩
        · have hi : i < l.n + 1 := hi
          show appGet l.n _ _ i = [SV.int .i64 (bif decide (i < l.n) then l.g i else ((fr + g : Nat) : Int))]
          unfold appGet
          by_cases h' : i < l.n
          · rw [if_pos h', decide_eq_true h']; rfl
          · rw [if_neg h', decide_eq_false h']; rfl
        · have hF : L.grp N (k - (L.snoc l ((fr + g : Nat) : Int)).n) (L.snoc l ((fr + g : Nat) : Int)) (fr + g + 1) = L.grp N (k - l.n - 1) (L.snoc l ((fr + g : Nat) : Int)) (fr + g + 1) := rfl
          dsimp only
          rw [hF]
          refine ⟨fun hc => ?_, fun hc => ?_⟩
          · have hc : L.isNo (L.grp N (k - l.n - 1) (L.snoc l ((fr + g : Nat) : Int)) (fr + g + 1)) = false := by simpa using (show (!L.isNo (L.grp N (k - l.n - 1) (L.snoc l ((fr + g : Nat) : Int)) (fr + g + 1))) = true from hc)
            obtain ⟨x, hx⟩ := isNo_some hc
            have hf := first_at (f := fun j => L.grp N (k - l.n - 1) (L.snoc l ((fr + j : Nat) : Int)) (fr + j + 1)) none hx (c := N.n - fr) (by omega)
            rw [hf, hx]
            exact ⟨(0 : Nat), rfl, ⟨rfl, fun _ _ => rfl⟩, rfl, rfl, trivial⟩
          · have hc : L.isNo (L.grp N (k - l.n - 1) (L.snoc l ((fr + g : Nat) : Int)) (fr + g + 1)) = true := by simpa using (show (!L.isNo (L.grp N (k - l.n - 1) (L.snoc l ((fr + g : Nat) : Int)) (fr + g + 1))) = false from hc)
            have hx := isNo_none hc
            rw [hx]
            refine ⟨InK.of (by omega) (by omega), g + 1, by omega, rfl, ⟨rfl, fun _ _ => rfl⟩, rfl, rfl, rfl, rfl, rfl, ⟨rfl, fun _ _ => rfl⟩, rfl, rfl, ⟨by omega, fun c hcc => ?_⟩, by omega⟩
            rcases Nat.lt_succ_iff_lt_or_eq.1 hcc with h | rfl
            · exact g2 c h
            · exact hc
      · obtain ⟨g1, g2⟩ := hg
        have hb : ¬ ((fr + g : Nat) : Int) < (N.n : Int) := of_decide_eq_false hge
        have hf : L.first (fun j => L.grp N (k - l.n - 1) (L.snoc l ((fr + j : Nat) : Int)) (fr + j + 1)) (N.n - fr) = none := first_none (fun j hj => isNo_none (g2 j (by omega)))
        rw [hf]
        exact ⟨(0 : Nat), rfl, ⟨rfl, fun _ _ => rfl⟩, rfl, rfl, trivial⟩)
theorem p_more_en : Enters Tryz.prog 186 := fun args w => by kernel_rfl
theorem p_more_tok : TrOk Tryz.prog 186 p_more_tr := tr_rec p_more_mu (fun t u => rfl) (fun rn ih => tr_ok (ks := [1003, 1005, 1007]) (n := 6) Tryz.func186 (c := bodyOf Tryz.f186) (by kernel_rfl) mixed ⟨fun t => rfl, fun t => rfl, fun t u => rfl, fun t u => rfl, fun t u => rfl, by kernel_rfl⟩ (fun ⟨l, fr, k, N, b⟩ hp => ⟨_, p_more_vc rn l fr k N b hp.1 hp.2, ⟨show SpecsL Tryz.prog _ from SpecsL.nil, rfl, ⟨show ItersL Tryz.prog _ from ItersL.nil, (show TrsL Tryz.prog _ from (TrsL.cons p_exit2_tok p_exit2_en (TrsL.cons ih p_more_en TrsL.nil)))⟩⟩⟩))
abbrev p_groups_tr : Tr := { T := (Nat) × (L.Sq L.Pt) × (L.Sq Int), U := Nat, args := fun t => (fun k N b => [.p (.int .i64 (N.n : Int)), .p (.int .i64 (k : Int)), .cl 139 [.p (.ref [(.sl 2 N.n (fun i => [.int .i64 ((N.g i).x), .int .i64 ((N.g i).y)]))] 0), .loc 1003 0]]) t.1 t.2.1 t.2.2, own := fun t => (fun k N b => [(1003, .blk 57 [.full false 1 (b).n (fun i => [.int .i64 ((b).g i)])])]) t.1 t.2.1 t.2.2, pre := fun t => (fun k N b => (1 ≤ k ∧ k ≤ 1000) ∧ N.n ≤ 1000 ∧ L.nrms N) t.1 t.2.1 t.2.2, post := fun t u => (fun k N b => fun u => True) t.1 t.2.1 t.2.2 u, own' := fun t u => (fun k N b => fun u => [(1003, .blk 57 [.full false 1 (L.orB (L.grp N k L.nilI 0) b).n (fun i => [.int .i64 ((L.orB (L.grp N k L.nilI 0) b).g i)])])]) t.1 t.2.1 t.2.2 u, res := fun t u => (fun k N b => fun u => .p (.bool (L.isNo (L.grp N k L.nilI 0)))) t.1 t.2.1 t.2.2 u }
theorem p_groups_vc (k : Nat) (N : L.Sq L.Pt) (b : L.Sq Int) (hp : p_groups_tr.pre (k, N, b)) : vc Tryz.prog ({ muts := [5, 7], frz := lookN [], specs := lookS [], loops := lookL [], iters := lookI [], rfs := lookR [], nils := lookM [], trs := lookT [(186, p_more_tr)], ren := fun k => bif k == 1003 then 1003 else k - 1000 }) (bodyOf Tryz.f138) (stTr Tryz.f138 (p_groups_tr.args (k, N, b)) (p_groups_tr.own (k, N, b))) (retTr Tryz.prog Tryz.f138 p_groups_tr (k, N, b)) :=
  @Eq.mpr _ (∃ (t : L.Sq Int × Nat × Nat × L.Sq L.Pt × L.Sq Int), t.1.n = (0 : Nat) ∧ (0 : Int) = (↑t.2.1 : Int) ∧ Go.SE.SV.ref [Go.SE.SV.int Go.IntKind.i64 (↑k : Int)] (nat_lit 0) = Go.SE.SV.ref [Go.SE.SV.int Go.IntKind.i64 (↑t.snd.2.1 : Int)] (0 : Nat) ∧ nat_lit 0 = (0 : Nat) ∧ Go.SE.SV.ref [Go.SE.SV.int Go.IntKind.i64 (↑N.n : Int)] (nat_lit 0) = Go.SE.SV.ref [Go.SE.SV.int Go.IntKind.i64 (↑t.snd.snd.2.1.n :
 Int)] (0 : Nat) ∧ nat_lit 0 = (0 : Nat) ∧ (b.n = t.snd.snd.2.2.n ∧ ∀ (i : Nat), i < b.n → [Go.SE.SV.int Go.IntKind.i64 (b.g i)] = [Go.SE.SV.int Go.IntKind.i64 (t.snd.snd.2.2.g i)]) ∧ Go.SE.EV.cl (nat_lit 139) [Go.SE.EV.p (Go.SE.SV.ref [Go.SE.SV.sl (nat_lit 2) N.n fun (i : Nat) ↦ [Go.SE.SV.int Go.IntKind.i64 (N.g i).x, Go.SE.SV.int Go.IntKind.i64 (N.g i).y]] (nat_lit 0)), Go.SE.EV.loc (nat_lit
 1003) (nat_lit 0)] = Go.SE.EV.cl (139 : Nat) [Go.SE.EV.p (Go.SE.SV.ref [Go.SE.SV.sl (nat_lit 2) t.snd.snd.2.1.n fun (i : Nat) ↦ [Go.SE.SV.int Go.IntKind.i64 (t.snd.snd.2.1.g i).x, Go.SE.SV.int Go.IntKind.i64 (t.snd.snd.2.1.g i).y]] (nat_lit 0)), Go.SE.EV.loc (bif nat_lit 1003 == (1003 : Nat) then (1003 : Nat) else nat_lit 1003 - (1000 : Nat)) (nat_lit 0)] ∧ Go.SE.EV.cl (nat_lit 186) [Go.SE.EV.p
 (Go.SE.SV.ref [Go.SE.SV.int Go.IntKind.i64 (↑k : Int)] (nat_lit 0)), Go.SE.EV.loc (nat_lit 5) (nat_lit 0), Go.SE.EV.p (Go.SE.SV.ref [Go.SE.SV.int Go.IntKind.i64 (↑N.n : Int)] (nat_lit 0)), Go.SE.EV.loc (nat_lit 7) (nat_lit 0)] = Go.SE.EV.cl (186 : Nat) [Go.SE.EV.p (Go.SE.SV.ref [Go.SE.SV.int Go.IntKind.i64 (↑t.snd.2.1 : Int)] (nat_lit 0)), Go.SE.EV.loc (bif nat_lit 1005 == (1003 : Nat) then (1003
 : Nat) else nat_lit 1005 - (1000 : Nat)) (nat_lit 0), Go.SE.EV.p (Go.SE.SV.ref [Go.SE.SV.int Go.IntKind.i64 (↑t.snd.snd.2.1.n : Int)] (nat_lit 0)), Go.SE.EV.loc (bif nat_lit 1007 == (1003 : Nat) then (1003 : Nat) else nat_lit 1007 - (1000 : Nat)) (nat_lit 0)] ∧ ((t.1.n ≤ t.snd.2.1 ∧ (1 : Nat) ≤ t.snd.2.1 ∧ t.snd.2.1 ≤ (1000 : Nat)) ∧ (t.2.1 ≤ t.snd.snd.2.1.n ∧ t.snd.snd.2.1.n ≤ (1000 : Nat)) ∧
 L.nrms t.snd.snd.2.1 ∧ L.within0 t.1 t.snd.snd.2.1.n) ∧ ∀ (u : Nat), True → ∃ (u : Nat), L.isNo (L.grp t.snd.snd.2.1 (t.snd.2.1 - t.1.n) t.1 t.2.1) = L.isNo (L.grp N k L.nilI (0 : Nat)) ∧ ((L.orB (L.grp t.snd.snd.2.1 (t.snd.2.1 - t.1.n) t.1 t.2.1) t.snd.snd.2.2).n = (L.orB (L.grp N k L.nilI (0 : Nat)) b).n ∧ ∀ (i : Nat), i < (L.orB (L.grp t.snd.snd.2.1 (t.snd.2.1 - t.1.n) t.1 t.2.1)
 t.snd.snd.2.2).n → [Go.SE.SV.int Go.IntKind.i64 ((L.orB (L.grp t.snd.snd.2.1 (t.snd.2.1 - t.1.n) t.1 t.2.1) t.snd.snd.2.2).g i)] = [Go.SE.SV.int Go.IntKind.i64 ((L.orB (L.grp N k L.nilI (0 : Nat)) b).g i)]) ∧ True) (by kernel_rfl) (by
    have hp : (1 ≤ k ∧ k ≤ 1000) ∧ N.n ≤ 1000 ∧ L.nrms N := hp
    obtain ⟨⟨k1, k2⟩, hn, hN⟩ := hp
    exact ⟨(L.nilI, 0, k, N, b), rfl, rfl, rfl, rfl, rfl, rfl, ⟨rfl, fun _ _ => rfl⟩, rfl, rfl, ⟨⟨Nat.zero_le _, k1, k2⟩, ⟨Nat.zero_le _, hn⟩, hN, fun i hi => absurd hi (Nat.not_lt_zero _)⟩, fun u _ => ⟨(0 : Nat), rfl, ⟨rfl, fun _ _ => rfl⟩, trivial⟩⟩)
theorem p_groups_en : Enters Tryz.prog 138 := fun args w => by kernel_rfl
theorem p_groups_tok : TrOk Tryz.prog 138 p_groups_tr := tr_ok (ks := [1003]) (n := 3) Tryz.func138 (c := bodyOf Tryz.f138) (by kernel_rfl) mixed ⟨fun t => rfl, fun t => rfl, fun t u => rfl, fun t u => rfl, fun t u => rfl, by kernel_rfl⟩ (fun ⟨k, N, b⟩ hp => ⟨_, p_groups_vc k N b hp, ⟨show SpecsL Tryz.prog _ from SpecsL.nil, rfl, ⟨show ItersL Tryz.prog _ from ItersL.nil, (show TrsL Tryz.prog _ from (TrsL.cons p_more_tok p_more_en TrsL.nil))⟩⟩⟩)
def p_Exit_p (l : (L.Sq L.Pt)) : Prop := l.n ≤ 1000000 ∧ (L.exBad l = false → L.wayOk l = false → L.isNo (L.first (L.exF l) 22) = false)
def p_Exit_r (l : (L.Sq L.Pt)) : SV := .tup [.agg [.int .i64 (L.exD l).x, .int .i64 (L.exD l).y], .sl 1 (L.exN l) (fun i => [.int .i64 ((L.exL l).g i)]), .int .i64 (L.exE l)]
def p_Exit_s : List EV → Option (Prop × SV)
  | [.p (.sl 2 l_n l_g)] => some ((∀ i, i < l_n → l_g i = [.int .i64 ((ofPt (l_g i)).x), .int .i64 ((ofPt (l_g i)).y)]) ∧ p_Exit_p (⟨l_n, fun i => ofPt (l_g i)⟩ : (L.Sq L.Pt)), p_Exit_r (⟨l_n, fun i => ofPt (l_g i)⟩ : (L.Sq L.Pt)))
  | _ => none
abbrev p_Exit_S : SE.Spec := (specO p_Exit_s)
def p_Exit_C : Cfg := { muts := [2, 3, 6], frz := lookN [], specs := lookS [(136, s_conFP_S), (135, p_bad_S), (137, p_way_S)], loops := fun _ => none, iters := lookI [], rfs := lookR [], nils := lookM [], anys := [11], trs := lookT [(138, p_groups_tr)], ren := fun k => k - 1000 }
theorem p_Exit_vc (l : (L.Sq L.Pt)) (hp : p_Exit_p l) : vc Tryz.prog ({ p_Exit_C with loops := lookL [(8, { T := Nat, keep := [1, 2, 3], keepO := [2], chg := fun j => [(8, .p (.int .i64 ((3 + j : Nat) : Int)))], own := fun j => [(3, .blk 57 [.full false 1 (L.orB (L.first (L.exF l) j) L.nilI).n (fun i => [.int .i64 ((L.orB (L.first (L.exF l) j) L.nilI).g i)])])], inv := fun j => j ≤ 22, mu := fun j => 23 - j })], rfs := lookR [] }) (bodyOf Tryz.f67) (st0 Tryz.f67 [.p (.sl 2 l.n (fun i => [.int .i64 ((l.g i).x), .int .i64 ((l.g i).y)]))]) (retFn Tryz.prog Tryz.f67 (p_Exit_r l)) :=
  @Eq.mpr _ (((!Decidable.decide ((24 : Int) < (↑l.n : Int))) = Bool.true → (∀ (i : Nat), i < l.n → [Go.SE.SV.int Go.IntKind.i64 (l.g i).x, Go.SE.SV.int Go.IntKind.i64 (l.g i).y] = [Go.SE.SV.int Go.IntKind.i64 (l.g i).x, Go.SE.SV.int Go.IntKind.i64 (l.g i).y]) ∧ Go.SE.isB (Go.SE.FSpec.mk (fun («as» : List Go.SE.SV) ↦ Go.SE.preO p_bad_s (List.map Go.SE.EV.p «as» ++ List.map Go.SE.EV.p [])) fun («as» : List
 Go.SE.SV) ↦ Go.SE.resO p_bad_s (List.map Go.SE.EV.p «as» ++ List.map Go.SE.EV.p [])) ∧ l.n ≤ (1000000 : Nat) ∧ ∀ (i : Nat), i < l.n → True) ∧ ((bif Decidable.decide ((24 : Int) < (↑l.n : Int)) then Bool.true else L.anyB l.n fun (i : Nat) ↦ L.fbl (Go.SE.FSpec.mk (fun («as» : List Go.SE.SV) ↦ Go.SE.preO p_bad_s (List.map Go.SE.EV.p «as» ++ List.map Go.SE.EV.p [])) fun («as» : List Go.SE.SV) ↦
 Go.SE.resO p_bad_s (List.map Go.SE.EV.p «as» ++ List.map Go.SE.EV.p [])) [Go.SE.SV.agg [Go.SE.SV.int Go.IntKind.i64 (l.g i).x, Go.SE.SV.int Go.IntKind.i64 (l.g i).y]]) = Bool.true → Go.SE.SV.agg [Go.SE.SV.int Go.IntKind.i64 (0 : Int), Go.SE.SV.int Go.IntKind.i64 (0 : Int)] = Go.SE.SV.agg [Go.SE.SV.int Go.IntKind.i64 (L.exD l).x, Go.SE.SV.int Go.IntKind.i64 (L.exD l).y] ∧ L.exN l = (0 : Nat) ∧ (1 :
 Int) = L.exE l) ∧ ((bif Decidable.decide ((24 : Int) < (↑l.n : Int)) then Bool.true else L.anyB l.n fun (i : Nat) ↦ L.fbl (Go.SE.FSpec.mk (fun («as» : List Go.SE.SV) ↦ Go.SE.preO p_bad_s (List.map Go.SE.EV.p «as» ++ List.map Go.SE.EV.p [])) fun («as» : List Go.SE.SV) ↦ Go.SE.resO p_bad_s (List.map Go.SE.EV.p «as» ++ List.map Go.SE.EV.p [])) [Go.SE.SV.agg [Go.SE.SV.int Go.IntKind.i64 (l.g i).x,
 Go.SE.SV.int Go.IntKind.i64 (l.g i).y]]) = Bool.false → ((∀ (i : Nat), i < l.n → [Go.SE.SV.int Go.IntKind.i64 (l.g i).x, Go.SE.SV.int Go.IntKind.i64 (l.g i).y] = [Go.SE.SV.int Go.IntKind.i64 (l.g i).x, Go.SE.SV.int Go.IntKind.i64 (l.g i).y]) ∧ L.nrms (L.Sq.mk l.n fun (i : Nat) ↦ l.g i)) ∧ (L.wayOk (L.Sq.mk l.n fun (i : Nat) ↦ l.g i) = Bool.true → Go.SE.SV.agg [Go.SE.SV.int Go.IntKind.i64 (L.wayD
 (L.Sq.mk l.n fun (i : Nat) ↦ l.g i)).x, Go.SE.SV.int Go.IntKind.i64 (L.wayD (L.Sq.mk l.n fun (i : Nat) ↦ l.g i)).y] = Go.SE.SV.agg [Go.SE.SV.int Go.IntKind.i64 (L.exD l).x, Go.SE.SV.int Go.IntKind.i64 (L.exD l).y] ∧ L.exN l = (0 : Nat) ∧ (0 : Int) = L.exE l) ∧ (L.wayOk (L.Sq.mk l.n fun (i : Nat) ↦ l.g i) = Bool.false → (∃ (g : Nat), (3 : Int) = (↑((3 : Nat) + g) : Int) ∧ (L.orB (L.first (L.exF l)
 g) L.nilI).n = (0 : Nat) ∧ g ≤ (22 : Nat)) ∧ ∀ (g : Nat), g ≤ (22 : Nat) → ((bif Bool.false then !Decidable.decide ((L.orB (L.first (L.exF l) g) L.nilI).n = (0 : Nat)) else Decidable.decide ((L.orB (L.first (L.exF l) g) L.nilI).n = (0 : Nat))) = Bool.true → ∃ (t : Nat × L.Sq L.Pt × L.Sq Int), (↑l.n : Int) = (↑t.2.1.n : Int) ∧ (↑((3 : Nat) + g) : Int) = (↑t.1 : Int) ∧ Go.SE.EV.cl (nat_lit 139)
 [Go.SE.EV.p (Go.SE.SV.ref [Go.SE.SV.sl (nat_lit 2) l.n fun (i : Nat) ↦ [Go.SE.SV.int Go.IntKind.i64 (l.g i).x, Go.SE.SV.int Go.IntKind.i64 (l.g i).y]] (nat_lit 0)), Go.SE.EV.loc (nat_lit 3) (nat_lit 0)] = Go.SE.EV.cl (139 : Nat) [Go.SE.EV.p (Go.SE.SV.ref [Go.SE.SV.sl (nat_lit 2) t.2.1.n fun (i : Nat) ↦ [Go.SE.SV.int Go.IntKind.i64 (t.2.1.g i).x, Go.SE.SV.int Go.IntKind.i64 (t.2.1.g i).y]] (nat_lit
 0)), Go.SE.EV.loc (nat_lit 1003 - (1000 : Nat)) (nat_lit 0)] ∧ ((L.orB (L.first (L.exF l) g) L.nilI).n = t.2.2.n ∧ ∀ (i : Nat), i < (L.orB (L.first (L.exF l) g) L.nilI).n → [Go.SE.SV.int Go.IntKind.i64 ((L.orB (L.first (L.exF l) g) L.nilI).g i)] = [Go.SE.SV.int Go.IntKind.i64 (t.2.2.g i)]) ∧ (((1 : Nat) ≤ t.1 ∧ t.1 ≤ (1000 : Nat)) ∧ t.2.1.n ≤ (1000 : Nat) ∧ L.nrms t.2.1) ∧ ∀ (u : Nat), True →
 Go.SE.InK Go.IntKind.i64 ((↑((3 : Nat) + g) : Int) + (1 : Int)) ∧ ∃ (g' : Nat), (↑((3 : Nat) + g) : Int) + (1 : Int) = (↑((3 : Nat) + g') : Int) ∧ nat_lit 0 = nat_lit 0 ∧ nat_lit 0 = nat_lit 0 ∧ Go.SE.SV.ref [Go.SE.SV.sl (nat_lit 2) l.n fun (i : Nat) ↦ [Go.SE.SV.int Go.IntKind.i64 (l.g i).x, Go.SE.SV.int Go.IntKind.i64 (l.g i).y]] (nat_lit 0) = Go.SE.SV.ref [Go.SE.SV.sl (nat_lit 2) l.n fun (i :
 Nat) ↦ [Go.SE.SV.int Go.IntKind.i64 (l.g i).x, Go.SE.SV.int Go.IntKind.i64 (l.g i).y]] (nat_lit 0) ∧ ((L.orB (L.grp t.2.1 t.1 L.nilI (0 : Nat)) t.2.2).n = (L.orB (L.first (L.exF l) g') L.nilI).n ∧ ∀ (i : Nat), i < (L.orB (L.grp t.2.1 t.1 L.nilI (0 : Nat)) t.2.2).n → [Go.SE.SV.int Go.IntKind.i64 ((L.orB (L.grp t.2.1 t.1 L.nilI (0 : Nat)) t.2.2).g i)] = [Go.SE.SV.int Go.IntKind.i64 ((L.orB (L.first
 (L.exF l) g') L.nilI).g i)]) ∧ (0 : Int) = (0 : Int) ∧ (0 : Int) = (0 : Int) ∧ g' ≤ (22 : Nat) ∧ (23 : Nat) - g' < (23 : Nat) - g) ∧ ((bif Bool.false then !Decidable.decide ((L.orB (L.first (L.exF l) g) L.nilI).n = (0 : Nat)) else Decidable.decide ((L.orB (L.first (L.exF l) g) L.nilI).n = (0 : Nat))) = Bool.false → ((Go.SE.SV.agg [Go.SE.SV.int Go.IntKind.i64 (0 : Int), Go.SE.SV.int Go.IntKind.i64
 (0 : Int)] = Go.SE.SV.agg [Go.SE.SV.int Go.IntKind.i64 (L.exD l).x, Go.SE.SV.int Go.IntKind.i64 (L.exD l).y] ∧ ((L.orB (L.first (L.exF l) g) L.nilI).n = L.exN l ∧ ∀ (i : Nat), i < (L.orB (L.first (L.exF l) g) L.nilI).n → [Go.SE.SV.int Go.IntKind.i64 ((L.orB (L.first (L.exF l) g) L.nilI).g i)] = [Go.SE.SV.int Go.IntKind.i64 ((L.exL l).g i)]) ∧ (13 : Int) = L.exE l) ∧ Go.SE.SV.agg [Go.SE.SV.int
 Go.IntKind.i64 (0 : Int), Go.SE.SV.int Go.IntKind.i64 (0 : Int)] = Go.SE.SV.agg [Go.SE.SV.int Go.IntKind.i64 (L.exD l).x, Go.SE.SV.int Go.IntKind.i64 (L.exD l).y] ∧ ((L.orB (L.first (L.exF l) g) L.nilI).n = L.exN l ∧ ∀ (i : Nat), i < (L.orB (L.first (L.exF l) g) L.nilI).n → [Go.SE.SV.int Go.IntKind.i64 ((L.orB (L.first (L.exF l) g) L.nilI).g i)] = [Go.SE.SV.int Go.IntKind.i64 ((L.exL l).g i)]) ∧
 (13 : Int) = L.exE l) ∧ Go.SE.SV.agg [Go.SE.SV.int Go.IntKind.i64 (0 : Int), Go.SE.SV.int Go.IntKind.i64 (0 : Int)] = Go.SE.SV.agg [Go.SE.SV.int Go.IntKind.i64 (L.exD l).x, Go.SE.SV.int Go.IntKind.i64 (L.exD l).y] ∧ ((L.orB (L.first (L.exF l) g) L.nilI).n = L.exN l ∧ ∀ (i : Nat), i < (L.orB (L.first (L.exF l) g) L.nilI).n → [Go.SE.SV.int Go.IntKind.i64 ((L.orB (L.first (L.exF l) g) L.nilI).g i)] =
 [Go.SE.SV.int Go.IntKind.i64 ((L.exL l).g i)]) ∧ (13 : Int) = L.exE l)))) (by kernel_rfl) (by
    obtain ⟨hn, hex⟩ := hp
    refine ⟨fun _ => ⟨fun _ _ => rfl, isB_of p_bad_B _, hn, fun _ _ => trivial⟩, fun h => ?_, fun h => ?_⟩
    · have hb : L.exBad l = true := h
      unfold L.exD L.exN L.exE
      rw [hb]; exact ⟨rfl, rfl, rfl⟩
    have hb : L.exBad l = false := h
    obtain ⟨h24, hN⟩ := exBad_false hb
    refine ⟨⟨fun _ _ => rfl, hN⟩, fun hw => ?_, fun hw => ?_⟩
    · unfold L.exD L.exN L.exE
      rw [hb, hw]; exact ⟨rfl, rfl, rfl⟩
    have hsm := hex hb hw
    have hD : L.exD l = ⟨0, 0⟩ := by unfold L.exD; rw [hb]; exact wayD_no hw
    have hE : L.exE l = 13 := by unfold L.exE; rw [hb, hw]; rfl
    have hNn : L.exN l = (L.exL l).n := by unfold L.exN; rw [hb, hw]; rfl
    refine ⟨⟨(0 : Nat), rfl, rfl, Nat.zero_le _⟩, fun g hg => ⟨fun hc => ?_, fun hc => ?_⟩⟩
    · have hc : (L.orB (L.first (L.exF l) g) L.nilI).n = 0 := of_decide_eq_true hc
      have hno : L.first (L.exF l) g = none := by
        cases hf : L.first (L.exF l) g with
        | none => rfl
        | some x =>
          rw [hf] at hc
          have hc : x.n = 0 := hc
          obtain ⟨j, _, hj, _⟩ := first_some hf
          have : x.n = 0 + (3 + j) := grp_len hj
          omega
      have hg22 : g ≠ 22 := fun e => by
        rw [e] at hno; rw [hno] at hsm; cases hsm
      have e1 : L.first (L.exF l) (g + 1) = L.exF l g := by rw [L.first, hno]
      refine ⟨(3 + g, l, L.orB (L.first (L.exF l) g) L.nilI), rfl, rfl, rfl, ⟨rfl, fun _ _ => rfl⟩, ⟨⟨by show 1 ≤ 3 + g; omega, by show 3 + g ≤ 1000; omega⟩, by show l.n ≤ 1000; omega, hN⟩, fun u _ => ⟨InK.of (by omega) (by omega), g + 1, by omega, rfl, rfl, rfl, ?_, rfl, rfl, by omega, by omega⟩⟩
      rw [e1, hno]
      exact ⟨rfl, fun _ _ => rfl⟩
    · have hc : ¬ (L.orB (L.first (L.exF l) g) L.nilI).n = 0 := of_decide_eq_false hc
      have hsom : L.orB (L.first (L.exF l) g) L.nilI = L.exL l := by
        cases hf : L.first (L.exF l) g with
        | none => rw [hf] at hc; exact absurd rfl hc
        | some x =>
          unfold L.exL
          rw [first_mono hf hg]
      rw [hsom, hD, hE, hNn]
      exact ⟨⟨⟨rfl, ⟨rfl, fun _ _ => rfl⟩, rfl⟩, ⟨rfl, ⟨rfl, fun _ _ => rfl⟩, rfl⟩⟩, ⟨rfl, ⟨rfl, fun _ _ => rfl⟩, rfl⟩⟩)
theorem p_Exit_ok : SpecOk Tryz.prog 67 p_Exit_S := fnX Tryz.func67 (c := bodyOf Tryz.f67) (by kernel_rfl) mixed (fun args p r hs hp => by
  unfold p_Exit_s at hs
  split at hs
  · cases hs; exact ⟨_, _, p_Exit_vc _ hp.2, (.p (.sl hp.1) .nil), ⟨show SpecsL Tryz.prog _ from (SpecsL.cons s_conFP_ok s_conFP_en (SpecsL.cons p_bad_ok p_bad_en (SpecsL.cons p_way_ok p_way_en SpecsL.nil))), rfl, ⟨show ItersL Tryz.prog _ from ItersL.nil, (show TrsL Tryz.prog _ from (TrsL.cons p_groups_tok p_groups_en TrsL.nil))⟩⟩⟩
  · cases hs)
theorem p_Exit_en : Enters Tryz.prog 67 := fun args w => by kernel_rfl
end Go.Proofs.YtooapgllahonaaaGreat

namespace Go.Proofs.YtooapgllahonaaaGreat
open Go.SE Go.RowKit
set_option maxRecDepth 100000
set_option maxHeartbeats 4000000
set_option linter.unusedVariables false
attribute [local irreducible] Go.SE.vc

def L.turnOk (a b c : L.Pt) : Bool := bif (bif L.validPt a then L.validPt b else false) then L.validPt c else false
def p_Area_p (l : (L.Sq L.Pt)) : Prop := l.n ≤ 1000000
def p_Area_r (l : (L.Sq L.Pt)) : SV := .tup [.int .i64 (bif L.validOutline l then L.areaTo l l.n else 0), .int .i64 (bif L.validOutline l then 0 else 1)]
def p_Area_s : List EV → Option (Prop × SV)
  | [.p (.sl 2 l_n l_g)] => some ((∀ i, i < l_n → l_g i = [.int .i64 ((ofPt (l_g i)).x), .int .i64 ((ofPt (l_g i)).y)]) ∧ p_Area_p (⟨l_n, fun i => ofPt (l_g i)⟩ : (L.Sq L.Pt)), p_Area_r (⟨l_n, fun i => ofPt (l_g i)⟩ : (L.Sq L.Pt)))
  | _ => none
abbrev p_Area_S : SE.Spec := (specO p_Area_s)
def p_Area_C : Cfg := { muts := [], frz := lookN [], specs := lookS [(32, p_ValidOutline_S), (89, p_area_S)], loops := lookL [], iters := lookI [], rfs := lookR [], nils := lookM [] }
theorem p_Area_vc (l : (L.Sq L.Pt)) (hp : p_Area_p l) : vc Tryz.prog (p_Area_C) (bodyOf Tryz.f34) (st0 Tryz.f34 [.p (.sl 2 l.n (fun i => [.int .i64 ((l.g i).x), .int .i64 ((l.g i).y)]))]) (retFn Tryz.prog Tryz.f34 (p_Area_r l)) :=
  @Eq.mpr _ (((∀ (i : Nat), i < l.n → [Go.SE.SV.int Go.IntKind.i64 (l.g i).x, Go.SE.SV.int Go.IntKind.i64 (l.g i).y] = [Go.SE.SV.int Go.IntKind.i64 (l.g i).x, Go.SE.SV.int Go.IntKind.i64 (l.g i).y]) ∧ l.n ≤ (1000000 : Nat)) ∧ ((!L.validOutline (L.Sq.mk l.n fun (i : Nat) ↦ l.g i)) = Bool.true → ((0 : Int) = bif L.validOutline l then L.areaTo l l.n else (0 : Int)) ∧ (1 : Int) = bif L.validOutline l then (0 :
 Int) else (1 : Int)) ∧ ((!L.validOutline (L.Sq.mk l.n fun (i : Nat) ↦ l.g i)) = Bool.false → ((∀ (i : Nat), i < l.n → [Go.SE.SV.int Go.IntKind.i64 (l.g i).x, Go.SE.SV.int Go.IntKind.i64 (l.g i).y] = [Go.SE.SV.int Go.IntKind.i64 (l.g i).x, Go.SE.SV.int Go.IntKind.i64 (l.g i).y]) ∧ L.small (L.Sq.mk l.n fun (i : Nat) ↦ l.g i)) ∧ (L.areaTo (L.Sq.mk l.n fun (i : Nat) ↦ l.g i) l.n = bif L.validOutline l
 then L.areaTo l l.n else (0 : Int)) ∧ (0 : Int) = bif L.validOutline l then (0 : Int) else (1 : Int))) (by kernel_rfl) (by
    have hn : l.n ≤ 1000000 := hp
    refine ⟨⟨fun _ _ => rfl, hn⟩, fun h => ?_, fun h => ?_⟩
    · have hv : L.validOutline l = false := by simpa using (show (!L.validOutline l) = true from h)
      rw [hv]; exact ⟨rfl, rfl⟩
    · have hv : L.validOutline l = true := by simpa using (show (!L.validOutline l) = false from h)
      rw [hv]; exact ⟨⟨fun _ _ => rfl, (validOutline_of hv).2.2.1⟩, rfl, rfl⟩)
theorem p_Area_ok : SpecOk Tryz.prog 34 p_Area_S := fnX Tryz.func34 (c := bodyOf Tryz.f34) (by kernel_rfl) mixed (fun args p r hs hp => by
  unfold p_Area_s at hs
  split at hs
  · cases hs; exact ⟨_, _, p_Area_vc _ hp.2, (.p (.sl hp.1) .nil), ⟨show SpecsL Tryz.prog _ from (SpecsL.cons p_ValidOutline_ok p_ValidOutline_en (SpecsL.cons p_area_ok p_area_en SpecsL.nil)), rfl, ⟨show ItersL Tryz.prog _ from ItersL.nil, (TrsOk.none (fun _ => rfl))⟩⟩⟩
  · cases hs)
theorem p_Area_en : Enters Tryz.prog 34 := fun args w => by kernel_rfl
def p_Turn_p (a : L.Pt) (b : L.Pt) (c : L.Pt) : Prop := True
def p_Turn_r (a : L.Pt) (b : L.Pt) (c : L.Pt) : SV := .tup [.int .i64 (bif L.validPt a && L.validPt b && L.validPt c then L.cmp (L.cross a b c) 0 else 0), .int .i64 (bif L.validPt a && L.validPt b && L.validPt c then 0 else 1)]
def p_Turn_s : List EV → Option (Prop × SV)
  | [.p (.agg [.int .i64 a_x, .int .i64 a_y]), .p (.agg [.int .i64 b_x, .int .i64 b_y]), .p (.agg [.int .i64 c_x, .int .i64 c_y])] => some (p_Turn_p (⟨a_x, a_y⟩ : L.Pt) (⟨b_x, b_y⟩ : L.Pt) (⟨c_x, c_y⟩ : L.Pt), p_Turn_r (⟨a_x, a_y⟩ : L.Pt) (⟨b_x, b_y⟩ : L.Pt) (⟨c_x, c_y⟩ : L.Pt))
  | _ => none
abbrev p_Turn_S : SE.Spec := (specO p_Turn_s)
def p_Turn_C : Cfg := { muts := [], frz := lookN [], specs := lookS [(70, p_valid_S), (83, p_cross_S), (94, c_cmp_S)], loops := lookL [], iters := lookI [], rfs := lookR [], nils := lookM [] }
theorem p_Turn_vc (a : L.Pt) (b : L.Pt) (c : L.Pt) (hp : p_Turn_p a b c) : vc Tryz.prog (p_Turn_C) (bodyOf Tryz.f66) (st0 Tryz.f66 [.p (.agg [.int .i64 a.x, .int .i64 a.y]), .p (.agg [.int .i64 b.x, .int .i64 b.y]), .p (.agg [.int .i64 c.x, .int .i64 c.y])]) (retFn Tryz.prog Tryz.f66 (p_Turn_r a b c)) :=
  @Eq.mpr _ (((∀ (i : Nat), i < nat_lit 3 → Go.SE.rowsOf [Go.SE.SV.int Go.IntKind.i64 a.x, Go.SE.SV.int Go.IntKind.i64 a.y, Go.SE.SV.int Go.IntKind.i64 b.x, Go.SE.SV.int Go.IntKind.i64 b.y, Go.SE.SV.int Go.IntKind.i64 c.x, Go.SE.SV.int Go.IntKind.i64 c.y] (nat_lit 2) i = [Go.SE.SV.int Go.IntKind.i64 (ofPt (Go.SE.rowsOf [Go.SE.SV.int Go.IntKind.i64 a.x, Go.SE.SV.int Go.IntKind.i64 a.y, Go.SE.SV.int
 Go.IntKind.i64 b.x, Go.SE.SV.int Go.IntKind.i64 b.y, Go.SE.SV.int Go.IntKind.i64 c.x, Go.SE.SV.int Go.IntKind.i64 c.y] (nat_lit 2) i)).x, Go.SE.SV.int Go.IntKind.i64 (ofPt (Go.SE.rowsOf [Go.SE.SV.int Go.IntKind.i64 a.x, Go.SE.SV.int Go.IntKind.i64 a.y, Go.SE.SV.int Go.IntKind.i64 b.x, Go.SE.SV.int Go.IntKind.i64 b.y, Go.SE.SV.int Go.IntKind.i64 c.x, Go.SE.SV.int Go.IntKind.i64 c.y] (nat_lit 2)
 i)).y]) ∧ nat_lit 3 ≤ (1000000 : Nat)) ∧ ((!L.allB (nat_lit 3) fun (i : Nat) ↦ L.validPt (ofPt (Go.SE.rowsOf [Go.SE.SV.int Go.IntKind.i64 a.x, Go.SE.SV.int Go.IntKind.i64 a.y, Go.SE.SV.int Go.IntKind.i64 b.x, Go.SE.SV.int Go.IntKind.i64 b.y, Go.SE.SV.int Go.IntKind.i64 c.x, Go.SE.SV.int Go.IntKind.i64 c.y] (nat_lit 2) i))) = Bool.true → ((0 : Int) = bif L.validPt a && L.validPt b && L.validPt c
 then L.cmp (L.cross a b c) (0 : Int) else (0 : Int)) ∧ (1 : Int) = bif L.validPt a && L.validPt b && L.validPt c then (0 : Int) else (1 : Int)) ∧ ((!L.allB (nat_lit 3) fun (i : Nat) ↦ L.validPt (ofPt (Go.SE.rowsOf [Go.SE.SV.int Go.IntKind.i64 a.x, Go.SE.SV.int Go.IntKind.i64 a.y, Go.SE.SV.int Go.IntKind.i64 b.x, Go.SE.SV.int Go.IntKind.i64 b.y, Go.SE.SV.int Go.IntKind.i64 c.x, Go.SE.SV.int
 Go.IntKind.i64 c.y] (nat_lit 2) i))) = Bool.false → (L.bd a ∧ L.bd b ∧ L.bd c) ∧ True ∧ (L.cmp (L.cross a b c) (0 : Int) = bif L.validPt a && L.validPt b && L.validPt c then L.cmp (L.cross a b c) (0 : Int) else (0 : Int)) ∧ (0 : Int) = bif L.validPt a && L.validPt b && L.validPt c then (0 : Int) else (1 : Int))) (by kernel_rfl) (by
    refine ⟨⟨fun i hi => by match i, hi with | 0, _ => rfl | 1, _ => rfl | 2, _ => rfl, by decide⟩, fun h => ?_, fun h => ?_⟩
    · have h' : (L.validPt a && L.validPt b && L.validPt c) = false := by simpa only [Bool.not_eq_true', Bool.not_eq_false'] using (show (!(L.validPt a && L.validPt b && L.validPt c)) = true from h)
      rw [h']; exact ⟨rfl, rfl⟩
    · have h' : (L.validPt a && L.validPt b && L.validPt c) = true := by simpa only [Bool.not_eq_true', Bool.not_eq_false'] using (show (!(L.validPt a && L.validPt b && L.validPt c)) = false from h)
      obtain ⟨vab, vc⟩ := Bool.and_eq_true_iff.1 h'
      obtain ⟨va, vb⟩ := Bool.and_eq_true_iff.1 vab
      rw [h']; exact ⟨⟨validPt_bd va, validPt_bd vb, validPt_bd vc⟩, trivial, rfl, rfl⟩)
theorem p_Turn_ok : SpecOk Tryz.prog 66 p_Turn_S := fnX Tryz.func66 (c := bodyOf Tryz.f66) (by kernel_rfl) mixed (fun args p r hs hp => by
  unfold p_Turn_s at hs
  split at hs
  · cases hs; exact ⟨_, _, p_Turn_vc _ _ _ hp, (.same _ (.same _ (.same _ .nil))), ⟨show SpecsL Tryz.prog _ from (SpecsL.cons p_valid_ok p_valid_en (SpecsL.cons p_cross_ok p_cross_en (SpecsL.cons c_cmp_ok c_cmp_en SpecsL.nil))), rfl, ⟨show ItersL Tryz.prog _ from ItersL.nil, (TrsOk.none (fun _ => rfl))⟩⟩⟩
  · cases hs)
theorem p_Turn_en : Enters Tryz.prog 66 := fun args w => by kernel_rfl
def w_awake_p  : Prop := True
def w_awake_r  : SV := .bool true
def w_awake_s : List EV → Option (Prop × SV)
  | [] => some (w_awake_p , w_awake_r )
  | _ => none
abbrev w_awake_S : SE.Spec := (specO w_awake_s)
def w_awake_C : Cfg := { muts := [8], frz := lookN [], specs := lookS [(34, p_Area_S), (65, p_Pockets_S), (66, p_Turn_S), (67, p_Exit_S)], loops := lookL [], iters := lookI [], rfs := lookR [], nils := lookM [] }
theorem w_awake_vc  (hp : w_awake_p) : vc Tryz.prog (w_awake_C) (bodyOf Tryz.f20) (st0 Tryz.f20 []) (retFn Tryz.prog Tryz.f20 (w_awake_r )) :=
  @Eq.mpr _ (((∀ (i : Nat), i < nat_lit 5 → Go.SE.rowsOf [Go.SE.SV.int Go.IntKind.i64 (0 : Int), Go.SE.SV.int Go.IntKind.i64 (0 : Int), Go.SE.SV.int Go.IntKind.i64 (4 : Int), Go.SE.SV.int Go.IntKind.i64 (0 : Int), Go.SE.SV.int Go.IntKind.i64 (4 : Int), Go.SE.SV.int Go.IntKind.i64 (4 : Int), Go.SE.SV.int Go.IntKind.i64 (2 : Int), Go.SE.SV.int Go.IntKind.i64 (1 : Int), Go.SE.SV.int Go.IntKind.i64 (0 : Int),
 Go.SE.SV.int Go.IntKind.i64 (4 : Int)] (nat_lit 2) i = [Go.SE.SV.int Go.IntKind.i64 (ofPt (Go.SE.rowsOf [Go.SE.SV.int Go.IntKind.i64 (0 : Int), Go.SE.SV.int Go.IntKind.i64 (0 : Int), Go.SE.SV.int Go.IntKind.i64 (4 : Int), Go.SE.SV.int Go.IntKind.i64 (0 : Int), Go.SE.SV.int Go.IntKind.i64 (4 : Int), Go.SE.SV.int Go.IntKind.i64 (4 : Int), Go.SE.SV.int Go.IntKind.i64 (2 : Int), Go.SE.SV.int
 Go.IntKind.i64 (1 : Int), Go.SE.SV.int Go.IntKind.i64 (0 : Int), Go.SE.SV.int Go.IntKind.i64 (4 : Int)] (nat_lit 2) i)).x, Go.SE.SV.int Go.IntKind.i64 (ofPt (Go.SE.rowsOf [Go.SE.SV.int Go.IntKind.i64 (0 : Int), Go.SE.SV.int Go.IntKind.i64 (0 : Int), Go.SE.SV.int Go.IntKind.i64 (4 : Int), Go.SE.SV.int Go.IntKind.i64 (0 : Int), Go.SE.SV.int Go.IntKind.i64 (4 : Int), Go.SE.SV.int Go.IntKind.i64 (4 :
 Int), Go.SE.SV.int Go.IntKind.i64 (2 : Int), Go.SE.SV.int Go.IntKind.i64 (1 : Int), Go.SE.SV.int Go.IntKind.i64 (0 : Int), Go.SE.SV.int Go.IntKind.i64 (4 : Int)] (nat_lit 2) i)).y]) ∧ nat_lit 5 ≤ (1000000 : Nat)) ∧ ((∀ (i : Nat), i < nat_lit 5 → Go.SE.rowsOf [Go.SE.SV.int Go.IntKind.i64 (0 : Int), Go.SE.SV.int Go.IntKind.i64 (0 : Int), Go.SE.SV.int Go.IntKind.i64 (4 : Int), Go.SE.SV.int
 Go.IntKind.i64 (0 : Int), Go.SE.SV.int Go.IntKind.i64 (4 : Int), Go.SE.SV.int Go.IntKind.i64 (4 : Int), Go.SE.SV.int Go.IntKind.i64 (2 : Int), Go.SE.SV.int Go.IntKind.i64 (1 : Int), Go.SE.SV.int Go.IntKind.i64 (0 : Int), Go.SE.SV.int Go.IntKind.i64 (4 : Int)] (nat_lit 2) i = [Go.SE.SV.int Go.IntKind.i64 (ofPt (Go.SE.rowsOf [Go.SE.SV.int Go.IntKind.i64 (0 : Int), Go.SE.SV.int Go.IntKind.i64 (0 :
 Int), Go.SE.SV.int Go.IntKind.i64 (4 : Int), Go.SE.SV.int Go.IntKind.i64 (0 : Int), Go.SE.SV.int Go.IntKind.i64 (4 : Int), Go.SE.SV.int Go.IntKind.i64 (4 : Int), Go.SE.SV.int Go.IntKind.i64 (2 : Int), Go.SE.SV.int Go.IntKind.i64 (1 : Int), Go.SE.SV.int Go.IntKind.i64 (0 : Int), Go.SE.SV.int Go.IntKind.i64 (4 : Int)] (nat_lit 2) i)).x, Go.SE.SV.int Go.IntKind.i64 (ofPt (Go.SE.rowsOf [Go.SE.SV.int
 Go.IntKind.i64 (0 : Int), Go.SE.SV.int Go.IntKind.i64 (0 : Int), Go.SE.SV.int Go.IntKind.i64 (4 : Int), Go.SE.SV.int Go.IntKind.i64 (0 : Int), Go.SE.SV.int Go.IntKind.i64 (4 : Int), Go.SE.SV.int Go.IntKind.i64 (4 : Int), Go.SE.SV.int Go.IntKind.i64 (2 : Int), Go.SE.SV.int Go.IntKind.i64 (1 : Int), Go.SE.SV.int Go.IntKind.i64 (0 : Int), Go.SE.SV.int Go.IntKind.i64 (4 : Int)] (nat_lit 2) i)).y]) ∧
 nat_lit 5 ≤ (1000000 : Nat)) ∧ ∀ (t : Nat → L.Pocket), (L.validOutline (L.Sq.mk (nat_lit 5) fun (i : Nat) ↦ ofPt (Go.SE.rowsOf [Go.SE.SV.int Go.IntKind.i64 (0 : Int), Go.SE.SV.int Go.IntKind.i64 (0 : Int), Go.SE.SV.int Go.IntKind.i64 (4 : Int), Go.SE.SV.int Go.IntKind.i64 (0 : Int), Go.SE.SV.int Go.IntKind.i64 (4 : Int), Go.SE.SV.int Go.IntKind.i64 (4 : Int), Go.SE.SV.int Go.IntKind.i64 (2 : Int),
 Go.SE.SV.int Go.IntKind.i64 (1 : Int), Go.SE.SV.int Go.IntKind.i64 (0 : Int), Go.SE.SV.int Go.IntKind.i64 (4 : Int)] (nat_lit 2) i)) = Bool.true → Go.SE.SortedBy L.cmpFr (L.pks (L.Sq.mk (nat_lit 5) fun (i : Nat) ↦ ofPt (Go.SE.rowsOf [Go.SE.SV.int Go.IntKind.i64 (0 : Int), Go.SE.SV.int Go.IntKind.i64 (0 : Int), Go.SE.SV.int Go.IntKind.i64 (4 : Int), Go.SE.SV.int Go.IntKind.i64 (0 : Int),
 Go.SE.SV.int Go.IntKind.i64 (4 : Int), Go.SE.SV.int Go.IntKind.i64 (4 : Int), Go.SE.SV.int Go.IntKind.i64 (2 : Int), Go.SE.SV.int Go.IntKind.i64 (1 : Int), Go.SE.SV.int Go.IntKind.i64 (0 : Int), Go.SE.SV.int Go.IntKind.i64 (4 : Int)] (nat_lit 2) i))).n (L.pks (L.Sq.mk (nat_lit 5) fun (i : Nat) ↦ ofPt (Go.SE.rowsOf [Go.SE.SV.int Go.IntKind.i64 (0 : Int), Go.SE.SV.int Go.IntKind.i64 (0 : Int),
 Go.SE.SV.int Go.IntKind.i64 (4 : Int), Go.SE.SV.int Go.IntKind.i64 (0 : Int), Go.SE.SV.int Go.IntKind.i64 (4 : Int), Go.SE.SV.int Go.IntKind.i64 (4 : Int), Go.SE.SV.int Go.IntKind.i64 (2 : Int), Go.SE.SV.int Go.IntKind.i64 (1 : Int), Go.SE.SV.int Go.IntKind.i64 (0 : Int), Go.SE.SV.int Go.IntKind.i64 (4 : Int)] (nat_lit 2) i))).g t) → ((0 : Int) ≤ (0 : Int) ∧ (0 : Int) < (↑(nat_lit 5) : Int)) ∧ ((0
 : Int) ≤ (1 : Int) ∧ (1 : Int) < (↑(nat_lit 5) : Int)) ∧ ((0 : Int) ≤ (2 : Int) ∧ (2 : Int) < (↑(nat_lit 5) : Int)) ∧ True ∧ ((∀ (i : Nat), i < nat_lit 3 → Go.SE.rowsOf [Go.SE.SV.int Go.IntKind.i64 (1 : Int), Go.SE.SV.int Go.IntKind.i64 (0 : Int), Go.SE.SV.int Go.IntKind.i64 (-1 : Int), Go.SE.SV.int Go.IntKind.i64 (1 : Int), Go.SE.SV.int Go.IntKind.i64 (-1 : Int), Go.SE.SV.int Go.IntKind.i64 (-1 :
 Int)] (nat_lit 2) i = [Go.SE.SV.int Go.IntKind.i64 (ofPt (Go.SE.rowsOf [Go.SE.SV.int Go.IntKind.i64 (1 : Int), Go.SE.SV.int Go.IntKind.i64 (0 : Int), Go.SE.SV.int Go.IntKind.i64 (-1 : Int), Go.SE.SV.int Go.IntKind.i64 (1 : Int), Go.SE.SV.int Go.IntKind.i64 (-1 : Int), Go.SE.SV.int Go.IntKind.i64 (-1 : Int)] (nat_lit 2) i)).x, Go.SE.SV.int Go.IntKind.i64 (ofPt (Go.SE.rowsOf [Go.SE.SV.int
 Go.IntKind.i64 (1 : Int), Go.SE.SV.int Go.IntKind.i64 (0 : Int), Go.SE.SV.int Go.IntKind.i64 (-1 : Int), Go.SE.SV.int Go.IntKind.i64 (1 : Int), Go.SE.SV.int Go.IntKind.i64 (-1 : Int), Go.SE.SV.int Go.IntKind.i64 (-1 : Int)] (nat_lit 2) i)).y]) ∧ nat_lit 3 ≤ (1000000 : Nat) ∧ (L.exBad (L.Sq.mk (nat_lit 3) fun (i : Nat) ↦ ofPt (Go.SE.rowsOf [Go.SE.SV.int Go.IntKind.i64 (1 : Int), Go.SE.SV.int
 Go.IntKind.i64 (0 : Int), Go.SE.SV.int Go.IntKind.i64 (-1 : Int), Go.SE.SV.int Go.IntKind.i64 (1 : Int), Go.SE.SV.int Go.IntKind.i64 (-1 : Int), Go.SE.SV.int Go.IntKind.i64 (-1 : Int)] (nat_lit 2) i)) = Bool.false → L.wayOk (L.Sq.mk (nat_lit 3) fun (i : Nat) ↦ ofPt (Go.SE.rowsOf [Go.SE.SV.int Go.IntKind.i64 (1 : Int), Go.SE.SV.int Go.IntKind.i64 (0 : Int), Go.SE.SV.int Go.IntKind.i64 (-1 : Int),
 Go.SE.SV.int Go.IntKind.i64 (1 : Int), Go.SE.SV.int Go.IntKind.i64 (-1 : Int), Go.SE.SV.int Go.IntKind.i64 (-1 : Int)] (nat_lit 2) i)) = Bool.false → L.isNo (L.first (L.exF (L.Sq.mk (nat_lit 3) fun (i : Nat) ↦ ofPt (Go.SE.rowsOf [Go.SE.SV.int Go.IntKind.i64 (1 : Int), Go.SE.SV.int Go.IntKind.i64 (0 : Int), Go.SE.SV.int Go.IntKind.i64 (-1 : Int), Go.SE.SV.int Go.IntKind.i64 (1 : Int), Go.SE.SV.int
 Go.IntKind.i64 (-1 : Int), Go.SE.SV.int Go.IntKind.i64 (-1 : Int)] (nat_lit 2) i))) (22 : Nat)) = Bool.false)) ∧ (Bool.true = Bool.true → (0 : Int) ≤ (0 : Int) ∧ (0 : Int) < (↑(nat_lit 1) : Int)) ∧ (bif bif bif bif bif Bool.true then Decidable.decide ((t (Int.toNat (0 : Int))).fr = (2 : Int)) && (Decidable.decide ((t (Int.toNat (0 : Int))).to_ = (4 : Int)) && Decidable.decide ((t (Int.toNat (0 :
 Int))).area = (12 : Int))) else Bool.false then Bool.true else Bool.false then Bool.true else Bool.false then Bool.true else Bool.false then Bool.true else Bool.false) = Bool.true) (by kernel_rfl) (by
    refine ⟨⟨fun i hi => by match i, hi with | 0, _ => rfl | 1, _ => rfl | 2, _ => rfl | 3, _ => rfl | 4, _ => rfl, by decide⟩, ⟨fun i hi => by match i, hi with | 0, _ => rfl | 1, _ => rfl | 2, _ => rfl | 3, _ => rfl | 4, _ => rfl, by decide⟩, fun t ht => ⟨⟨by decide, by decide⟩, ⟨by decide, by decide⟩, ⟨by decide, by decide⟩, trivial, ⟨fun i hi => by match i, hi with | 0, _ => rfl | 1, _ => rfl | 2, _ => rfl, by decide, fun _ _ => by kernel_rfl⟩, fun _ => ⟨by decide, by decide⟩, ?_⟩⟩
    have h := ht (by kernel_rfl)
    have hn : (L.pks (L.Sq.mk 5 fun (i : Nat) => ofPt (rowsOf [SV.int .i64 0, SV.int .i64 0, SV.int .i64 4, SV.int .i64 0, SV.int .i64 4, SV.int .i64 4, SV.int .i64 2, SV.int .i64 1, SV.int .i64 0, SV.int .i64 4] 2 i))).n = 1 := by kernel_rfl
    have hg : (L.pks (L.Sq.mk 5 fun (i : Nat) => ofPt (rowsOf [SV.int .i64 0, SV.int .i64 0, SV.int .i64 4, SV.int .i64 0, SV.int .i64 4, SV.int .i64 4, SV.int .i64 2, SV.int .i64 1, SV.int .i64 0, SV.int .i64 4] 2 i))).g 0 = ⟨2, 4, 12⟩ := by kernel_rfl
    have h1 := h.perm
    rw [hn] at h1
    have h2 : [t 0].Perm [(L.pks (L.Sq.mk 5 fun (i : Nat) => ofPt (rowsOf [SV.int .i64 0, SV.int .i64 0, SV.int .i64 4, SV.int .i64 0, SV.int .i64 4, SV.int .i64 4, SV.int .i64 2, SV.int .i64 1, SV.int .i64 0, SV.int .i64 4] 2 i))).g 0] := h1
    have h3 := List.singleton_perm_singleton.1 h2
    rw [hg] at h3
    have h4 : t (Int.toNat 0) = ⟨2, 4, 12⟩ := h3
    rw [h4]; rfl)
theorem w_awake_ok : SpecOk Tryz.prog 20 w_awake_S := fnX Tryz.func20 (c := bodyOf Tryz.f20) (by kernel_rfl) mixed (fun args p r hs hp => by
  unfold w_awake_s at hs
  split at hs
  · cases hs; exact ⟨_, _, w_awake_vc  hp, .nil, ⟨show SpecsL Tryz.prog _ from (SpecsL.cons p_Area_ok p_Area_en (SpecsL.cons p_Pockets_ok p_Pockets_en (SpecsL.cons p_Turn_ok p_Turn_en (SpecsL.cons p_Exit_ok p_Exit_en SpecsL.nil)))), rfl, ⟨show ItersL Tryz.prog _ from ItersL.nil, (TrsOk.none (fun _ => rfl))⟩⟩⟩
  · cases hs)
theorem w_awake_en : Enters Tryz.prog 20 := fun args w => by kernel_rfl
theorem w_awake_B : ∀ args p r, w_awake_s args = some (p, r) → ∃ b, r = .bool b := by
  intro args p r h
  unfold w_awake_s at h
  split at h
  · cases h; exact ⟨_, rfl⟩
  · cases h
end Go.Proofs.YtooapgllahonaaaGreat

namespace Go.Proofs.YtooapgllahonaaaGreat
open Go.SE Go.RowKit
set_option maxRecDepth 100000
set_option maxHeartbeats 4000000
set_option linter.unusedVariables false
attribute [local irreducible] Go.SE.vc

def L.argTo (l : L.Sq L.Pt) : Nat → Nat
  | 0 => 0
  | i + 1 => bif decide (L.cmpPt (l.g i) (l.g (L.argTo l i)) < 0) then i else L.argTo l i
def L.fstK (l : L.Sq L.Pt) : Nat := L.argTo l l.n
def L.plc (l : L.Sq L.Pt) (k : Nat) : L.Pt := (L.rot l (L.fstK l)).g k
def L.cmM (m n : L.Motion) : L.Motion := ⟨Int.tmod ((bif n.mirror then 4 - m.turn else m.turn) + n.turn) 4, !(m.mirror == n.mirror), L.apply n m.by_⟩
def L.cmE (m n : L.Motion) : Int := bif (bif !L.validM m then true else !L.validM n) then 1 else bif !L.validM (L.cmM m n) then 2 else 0
def L.cmV (m n : L.Motion) : L.Motion := bif decide (L.cmE m n = 0) then L.cmM m n else ⟨0, false, ⟨0, 0⟩⟩
def L.ivT (m : L.Motion) : L.Motion := ⟨bif m.mirror then m.turn else Int.tmod (4 - m.turn) 4, m.mirror, ⟨0, 0⟩⟩
def L.ivM (m : L.Motion) : L.Motion := ⟨(L.ivT m).turn, m.mirror, ⟨-(L.turned (L.ivT m) m.by_).x, -(L.turned (L.ivT m) m.by_).y⟩⟩
def L.ivE (m : L.Motion) : Int := bif !L.validM m then 1 else 0
def L.ivV (m : L.Motion) : L.Motion := bif !L.validM m then ⟨0, false, ⟨0, 0⟩⟩ else L.ivM m
def L.sameP (a b : L.Sq L.Pt) : Bool := bif decide ((a.n : Int) = b.n) then L.allB a.n (fun i => L.same (a.g i) (b.g i)) else false
def L.revG (l : L.Sq L.Pt) : L.Sq L.Pt := ⟨l.n, fun k => l.g (l.n - 1 - k)⟩
def L.mrev (l : L.Sq L.Pt) (m : L.Motion) : L.Sq L.Pt := bif m.mirror then L.revG (L.moved l m) else L.moved l m
theorem sameP_refl (a : L.Sq L.Pt) : L.sameP a a = true := by
  unfold L.sameP
  rw [decide_eq_true rfl]
  exact allB_iff.2 fun i _ => same_refl _
theorem argTo_min (l : L.Sq L.Pt) : ∀ i, l.g (L.argTo l (i + 1)) = L.minTo l i ∧ L.argTo l (i + 1) ≤ i ∧ ∀ j, j < L.argTo l (i + 1) → l.g j ≠ L.minTo l i
  | 0 => by
    have h : L.argTo l 1 = 0 := by
      show (bif decide (L.cmpPt (l.g 0) (l.g 0) < 0) then 0 else 0) = 0
      cases decide (L.cmpPt (l.g 0) (l.g 0) < 0) <;> rfl
    rw [h]
    exact ⟨rfl, Nat.le_refl _, fun j hj => absurd hj (Nat.not_lt_zero _)⟩
  | i + 1 => by
    obtain ⟨h1, h2, h3⟩ := argTo_min l i
    have ha : L.argTo l (i + 1 + 1) = bif decide (L.cmpPt (l.g (i + 1)) (l.g (L.argTo l (i + 1))) < 0) then i + 1 else L.argTo l (i + 1) := rfl
    have hm : L.minTo l (i + 1) = bif decide (L.cmpPt (l.g (i + 1)) (L.minTo l i) < 0) then l.g (i + 1) else L.minTo l i := rfl
    rw [ha, hm, h1]
    cases hc : decide (L.cmpPt (l.g (i + 1)) (L.minTo l i) < 0) with
    | false => exact ⟨h1, by show L.argTo l (i + 1) ≤ i + 1; omega, h3⟩
    | true =>
      refine ⟨rfl, Nat.le_refl _, fun j hj e => ?_⟩
      have hj : j < i + 1 := hj
      have e : l.g j = l.g (i + 1) := e
      have := minTo_le (l := l) (i := i) (j := j) (by omega)
      rw [e] at this
      exact this (of_decide_eq_true hc)
theorem argTo_lt {l : L.Sq L.Pt} (h : 1 ≤ l.n) : ∀ i, i ≤ l.n → L.argTo l i < l.n
  | 0, _ => h
  | i + 1, hi => by have := (argTo_min l i).2.1; omega
theorem minK_eq {l : L.Sq L.Pt} (h : 1 ≤ l.n) : L.minK l = L.fstK l := by
  obtain ⟨h1, h2, h3⟩ := argTo_min l (l.n - 1)
  rw [show l.n - 1 + 1 = l.n by omega] at h1 h2 h3
  obtain ⟨i, g1, g2, g3, _⟩ := ptIdx_of (l := l) (j := L.argTo l l.n) (by omega)
  unfold L.minK L.fstK
  rw [← h1, g2]
  rcases Nat.lt_or_ge i (L.argTo l l.n) with hi | hi
  · exact absurd (g3.trans h1) (h3 i hi)
  · have : i = L.argTo l l.n := by omega
    rw [Int.toNat_natCast, this]
theorem flip_moved {l : L.Sq L.Pt} {m : L.Motion} (hv : L.validOutline l = true) : L.flip (L.moved l m) = L.mrev l m := by
  obtain ⟨n3, _, _, _⟩ := validOutline_of hv
  have hA : 0 < L.areaTo l l.n := by
    unfold L.validOutline L.valid3 at hv
    rw [Bool.and_eq_true] at hv
    have h1 := hv.1
    cases hx : (bif !L.within (l.n : Int) 3 24 then true else !L.validPts l) with
    | true => rw [hx] at h1; cases h1
    | false => rw [hx] at h1; exact of_decide_eq_true h1
  have hM := area_moved (l := l) (m := m) (by omega)
  unfold L.flip L.mrev
  show (bif decide (L.areaTo (L.moved l m) l.n < 0) then L.revG (L.moved l m) else L.moved l m) = _
  rw [hM]
  unfold L.sgM
  cases m.mirror with
  | true => rw [decide_eq_true (show (bif true then (-1 : Int) else 1) * L.areaTo l l.n < 0 by rw [cond_true]; omega)]
  | false => rw [decide_eq_false (show ¬ (bif false then (-1 : Int) else 1) * L.areaTo l l.n < 0 by rw [cond_false]; omega)]
theorem plc_norm {l : L.Sq L.Pt} {m : L.Motion} (hv : L.validOutline l = true) : L.plc (L.mrev l m) = (L.norm (L.moved l m)).g := by
  obtain ⟨n3, _, _, _⟩ := validOutline_of hv
  funext k
  have hn : (L.mrev l m).n = l.n := by unfold L.mrev; cases m.mirror <;> rfl
  show (L.rot (L.mrev l m) (L.fstK (L.mrev l m))).g k = (L.rot (L.flip (L.moved l m)) (L.minK (L.flip (L.moved l m)))).g k
  rw [flip_moved hv, minK_eq (by omega)]
def L.edgeHit (P : Nat → L.Pt) (n : Nat) (a b : L.Pt) (k : Nat) : Bool := bif (bif L.same (P k) a then L.same (P (L.ix n ((k : Int) + 1))) b else false) then true else (bif L.same (P k) b then L.same (P (L.ix n ((k : Int) + 1))) a else false)
theorem hit_iff {l : L.Sq L.Pt} {m : L.Motion} (hv : L.validOutline l = true) (he : L.movE l m = 0) {k : Nat} (hk : k < l.n) : L.edgeHit (L.norm (L.moved l m)).g l.n ((L.moved l m).g 0) ((L.moved l m).g 1) k = true ↔ (k : Int) = (L.movS l m).shift := by
  obtain ⟨n3, _, _, _⟩ := validOutline_of hv
  obtain ⟨s0, s1, _, hs⟩ := movS_of hv he
  generalize (L.movS l m).shift = S at s0 s1 hs ⊢
  have c0 : (L.moved l m).g 0 = L.cy (L.moved l m) 0 := (cy_nat (l := L.moved l m) (k := 0) (by show 0 < l.n; omega)).symm
  have c1 : (L.moved l m).g 1 = L.cy (L.moved l m) 1 := (cy_nat (l := L.moved l m) (k := 1) (by show 1 < l.n; omega)).symm
  have ck : (L.norm (L.moved l m)).g k = L.cy (L.norm (L.moved l m)) (k : Int) := (cy_nat (l := L.norm (L.moved l m)) (k := k) hk).symm
  have cn : (L.norm (L.moved l m)).g (L.ix l.n ((k : Int) + 1)) = L.cy (L.norm (L.moved l m)) ((k : Int) + 1) := rfl
  have h0 := hs 0
  have h1 := hs 1
  rw [Int.add_zero] at h0
  have inj := fun {a b : Int} => norm_inj (l := l) (m := m) hv (a := a) (b := b)
  have sm : ∀ {a b : L.Pt}, L.same a b = true ↔ a = b := fun {a b} => ⟨same_eq, fun e => e ▸ same_refl _⟩
  unfold L.edgeHit
  rw [ck, cn, c0, c1]
  simp only [bor, band, Bool.or_eq_true, Bool.and_eq_true, sm]
  have two : ∀ {x : Int}, x % (l.n : Int) = (x + 2) % (l.n : Int) → False := fun {x} h => by
    have := Int.emod_emod_of_dvd (x + 2 - x) (Int.dvd_refl (l.n : Int))
    have h2 := Int.sub_emod (x + 2) x (l.n : Int)
    rw [← h, Int.sub_self, Int.zero_emod, show x + 2 - x = 2 by omega, Int.emod_eq_of_lt (by omega) (by omega)] at h2
    omega
  have eqk : (k : Int) % (l.n : Int) = S % (l.n : Int) → (k : Int) = S := fun h => by
    rwa [Int.emod_eq_of_lt (by omega) (by omega), Int.emod_eq_of_lt s0 s1] at h
  have add1 : ∀ {x y : Int}, x % (l.n : Int) = y % (l.n : Int) → (x + 1) % (l.n : Int) = (y + 1) % (l.n : Int) := fun {x y} h => Int.emod_add_cancel_right 1 |>.2 h
  cases hm : m.mirror with
  | false =>
    rw [hm, cond_false] at h0 h1
    constructor
    · rintro (⟨q1, q2⟩ | ⟨q1, q2⟩)
      · exact eqk (inj (q1.trans h0.symm))
      · have w1 := add1 (inj (q1.trans h1.symm))
        have w2 := inj (q2.trans h0.symm)
        rw [w1, show S + 1 + 1 = S + 2 by omega] at w2
        exact (two w2.symm).elim
    · intro e
      rw [e]
      exact .inl ⟨h0, h1⟩
  | true =>
    rw [hm, cond_true] at h0 h1
    rw [show (1 : Int) - 0 = 1 by omega] at h0
    rw [show (1 : Int) - 1 = 0 by omega] at h1
    constructor
    · rintro (⟨q1, q2⟩ | ⟨q1, q2⟩)
      · have w1 := add1 (inj (q1.trans h1.symm))
        have w2 := inj (q2.trans h0.symm)
        rw [w1, show S + 1 + 1 = S + 2 by omega] at w2
        exact (two w2.symm).elim
      · exact eqk (inj (q1.trans h0.symm))
    · intro e
      rw [e]
      exact .inr ⟨h0, h1⟩
def r1_SamePoints_p (a : (L.Sq L.Pt)) (b : (L.Sq L.Pt)) : Prop := a.n ≤ 1000000
def r1_SamePoints_r (a : (L.Sq L.Pt)) (b : (L.Sq L.Pt)) : SV := .bool (L.sameP a b)
def r1_SamePoints_s : List EV → Option (Prop × SV)
  | [.p (.sl 2 a_n a_g), .p (.sl 2 b_n b_g)] => some ((∀ i, i < a_n → a_g i = [.int .i64 ((ofPt (a_g i)).x), .int .i64 ((ofPt (a_g i)).y)]) ∧ (∀ i, i < b_n → b_g i = [.int .i64 ((ofPt (b_g i)).x), .int .i64 ((ofPt (b_g i)).y)]) ∧ r1_SamePoints_p (⟨a_n, fun i => ofPt (a_g i)⟩ : (L.Sq L.Pt)) (⟨b_n, fun i => ofPt (b_g i)⟩ : (L.Sq L.Pt)), r1_SamePoints_r (⟨a_n, fun i => ofPt (a_g i)⟩ : (L.Sq L.Pt)) (⟨b_n, fun i => ofPt (b_g i)⟩ : (L.Sq L.Pt)))
  | _ => none
abbrev r1_SamePoints_S : SE.Spec := (specO r1_SamePoints_s)
def r1_SamePoints_C : Cfg := { muts := [], frz := lookN [], specs := lookS [], loops := fun _ => none, iters := lookI [], rfs := lookR [], nils := lookM [] }
theorem r1_SamePoints_vc (a : (L.Sq L.Pt)) (b : (L.Sq L.Pt)) (hp : r1_SamePoints_p a b) : vc Tryz.prog ({ r1_SamePoints_C with loops := lookL [(4, { T := Nat, keep := [0, 1], keepO := [], chg := fun i => [(5, .p (.int .i64 (i : Int)))], own := fun _ => [], inv := fun i => i ≤ a.n ∧ ∀ j, j < i → L.same (a.g j) (b.g j) = true, mu := fun i => a.n - i })], rfs := lookR [] }) (bodyOf Tryz.f23) (st0 Tryz.f23 [.p (.sl 2 a.n (fun i => [.int .i64 ((a.g i).x), .int .i64 ((a.g i).y)])), .p (.sl 2 b.n (fun i => [.int .i64 ((b.g i).x), .int .i64 ((b.g i).y)]))]) (retFn Tryz.prog Tryz.f23 (r1_SamePoints_r a b)) :=
  @Eq.mpr _ (((!Decidable.decide ((↑a.n : Int) = (↑b.n : Int))) = Bool.true → Bool.false = L.sameP a b) ∧ ((!Decidable.decide ((↑a.n : Int) = (↑b.n : Int))) = Bool.false → (∃ (g : Nat), (0 : Int) = (↑g : Int) ∧ g ≤ a.n ∧ ∀ (j : Nat), j < g → L.same (a.g j) (b.g j) = Bool.true) ∧ ∀ (g : Nat), (g ≤ a.n ∧ ∀ (j : Nat), j < g → L.same (a.g j) (b.g j) = Bool.true) → (Decidable.decide ((↑g : Int) < (↑a.n : Int)) =
 Bool.true → ((0 : Int) ≤ (↑g : Int) ∧ (↑g : Int) < (↑a.n : Int)) ∧ ((0 : Int) ≤ (↑g : Int) ∧ (↑g : Int) < (↑b.n : Int)) ∧ ((!(Decidable.decide ((a.g (Int.toNat (↑g : Int))).x = (b.g (Int.toNat (↑g : Int))).x) && Decidable.decide ((a.g (Int.toNat (↑g : Int))).y = (b.g (Int.toNat (↑g : Int))).y))) = Bool.true → Bool.false = L.sameP a b) ∧ ((!(Decidable.decide ((a.g (Int.toNat (↑g : Int))).x = (b.g
 (Int.toNat (↑g : Int))).x) && Decidable.decide ((a.g (Int.toNat (↑g : Int))).y = (b.g (Int.toNat (↑g : Int))).y))) = Bool.false → Go.SE.InK Go.IntKind.i64 ((↑g : Int) + (1 : Int)) ∧ ∃ (g' : Nat), (↑g : Int) + (1 : Int) = (↑g' : Int) ∧ (a.n = a.n ∧ ∀ (i : Nat), i < a.n → [Go.SE.SV.int Go.IntKind.i64 (a.g i).x, Go.SE.SV.int Go.IntKind.i64 (a.g i).y] = [Go.SE.SV.int Go.IntKind.i64 (a.g i).x,
 Go.SE.SV.int Go.IntKind.i64 (a.g i).y]) ∧ (b.n = b.n ∧ ∀ (i : Nat), i < b.n → [Go.SE.SV.int Go.IntKind.i64 (b.g i).x, Go.SE.SV.int Go.IntKind.i64 (b.g i).y] = [Go.SE.SV.int Go.IntKind.i64 (b.g i).x, Go.SE.SV.int Go.IntKind.i64 (b.g i).y]) ∧ (g' ≤ a.n ∧ ∀ (j : Nat), j < g' → L.same (a.g j) (b.g j) = Bool.true) ∧ a.n - g' < a.n - g)) ∧ (Decidable.decide ((↑g : Int) < (↑a.n : Int)) = Bool.false →
 Bool.true = L.sameP a b))) (by kernel_rfl) (by
    have ha : a.n ≤ 1000000 := hp
    refine ⟨fun h => ?_, fun h => ?_⟩
    · unfold L.sameP; rw [notT h]; rfl
    have hd := notF h
    have hn := of_decide_eq_true hd
    refine ⟨⟨(0 : Nat), rfl, Nat.zero_le _, fun j hj => absurd hj (Nat.not_lt_zero _)⟩, fun g hg => ⟨fun hlt => ?_, fun hge => ?_⟩⟩
    · have hb : (g : Int) < (a.n : Int) := of_decide_eq_true hlt
      have e0 : ((g : Int)).toNat = g := by omega
      rw [e0]
      refine ⟨by omega, by omega, fun h1 => ?_, fun h1 => ?_⟩
      · have h1 : L.same (a.g g) (b.g g) = false := notT h1
        unfold L.sameP; rw [hd, allB_false (i := g) (by omega) h1]; rfl
      · have h1 : L.same (a.g g) (b.g g) = true := notF h1
        exact ⟨InK.of (by omega) (by omega), g + 1, by omega, ⟨rfl, fun _ _ => rfl⟩, ⟨rfl, fun _ _ => rfl⟩, ⟨by omega, fun j hj => by
          rcases Nat.lt_succ_iff_lt_or_eq.1 hj with h' | rfl
          · exact hg.2 j h'
          · exact h1⟩, by omega⟩
    · have hb : ¬ (g : Int) < (a.n : Int) := of_decide_eq_false hge
      unfold L.sameP; rw [hd, allB_iff.2 (fun i hi => hg.2 i (by omega))]; rfl)
theorem r1_SamePoints_ok : SpecOk Tryz.prog 23 r1_SamePoints_S := fnX Tryz.func23 (c := bodyOf Tryz.f23) (by kernel_rfl) mixed (fun args p r hs hp => by
  unfold r1_SamePoints_s at hs
  split at hs
  · cases hs; exact ⟨_, _, r1_SamePoints_vc _ _ hp.2.2, (.p (.sl hp.1) (.p (.sl hp.2.1) .nil)), ⟨show SpecsL Tryz.prog _ from SpecsL.nil, rfl, ⟨show ItersL Tryz.prog _ from ItersL.nil, (TrsOk.none (fun _ => rfl))⟩⟩⟩
  · cases hs)
theorem r1_SamePoints_en : Enters Tryz.prog 23 := fun args w => by kernel_rfl
theorem r1_SamePoints_B : ∀ args p r, r1_SamePoints_s args = some (p, r) → ∃ b, r = .bool b := by
  intro args p r h
  unfold r1_SamePoints_s at h
  split at h
  · cases h; exact ⟨_, rfl⟩
  · cases h
def r1_turned_p (p : L.Pt) (t : Int) : Prop := L.bd p ∧ 0 ≤ t ∧ t ≤ 3
def r1_turned_r (p : L.Pt) (t : Int) : SV := (.agg [.int .i64 ((L.turnN p t.toNat).x), .int .i64 ((L.turnN p t.toNat).y)])
def r1_turned_s : List EV → Option (Prop × SV)
  | [.p (.agg [.int .i64 p_x, .int .i64 p_y]), .p (.int .i64 t)] => some (r1_turned_p (⟨p_x, p_y⟩ : L.Pt) t, r1_turned_r (⟨p_x, p_y⟩ : L.Pt) t)
  | _ => none
abbrev r1_turned_S : SE.Spec := (specO r1_turned_s)
def r1_turned_C : Cfg := { muts := [2, 4], frz := lookN [], specs := lookS [], loops := fun _ => none, iters := lookI [], rfs := lookR [], nils := lookM [] }
theorem r1_turned_vc (p : L.Pt) (t : Int) (hp : r1_turned_p p t) : vc Tryz.prog ({ r1_turned_C with loops := lookL [(2, { T := Nat, keep := [1, 2, 4], keepO := [4], chg := fun i => [(5, .p (.int .i64 (i : Int)))], own := fun i => [(2, .blk 42 [.p (.int .i64 (L.turnN p i).x), .p (.int .i64 (L.turnN p i).y)])], inv := fun i => i ≤ t.toNat, mu := fun i => t.toNat - i })], rfs := lookR [] }) (bodyOf Tryz.f146) (st0 Tryz.f146 [.p (.agg [.int .i64 p.x, .int .i64 p.y]), .p (.int .i64 t)]) (retFn Tryz.prog Tryz.f146 (r1_turned_r p t)) :=
  @Eq.mpr _ ((∃ (g : Nat), (0 : Int) = (↑g : Int) ∧ p.x = (L.turnN p g).x ∧ p.y = (L.turnN p g).y ∧ g ≤ Int.toNat t) ∧ ∀ (g : Nat), g ≤ Int.toNat t → (Decidable.decide ((↑g : Int) < t) = Bool.true → Go.SE.InK Go.IntKind.i64 ((0 : Int) - (L.turnN p g).y) ∧ Go.SE.InK Go.IntKind.i64 ((↑g : Int) + (1 : Int)) ∧ ∃ (g' : Nat), (↑g : Int) + (1 : Int) = (↑g' : Int) ∧ nat_lit 0 = nat_lit 0 ∧ nat_lit 0 = nat_lit 0 ∧ t =
 t ∧ (0 : Int) - (L.turnN p g).y = (L.turnN p g').x ∧ (L.turnN p g).x = (L.turnN p g').y ∧ (0 : Int) = (0 : Int) ∧ (0 : Int) = (0 : Int) ∧ g' ≤ Int.toNat t ∧ Int.toNat t - g' < Int.toNat t - g) ∧ (Decidable.decide ((↑g : Int) < t) = Bool.false → Go.SE.SV.agg [Go.SE.SV.int Go.IntKind.i64 (L.turnN p g).x, Go.SE.SV.int Go.IntKind.i64 (L.turnN p g).y] = Go.SE.SV.agg [Go.SE.SV.int Go.IntKind.i64
 (L.turnN p (Int.toNat t)).x, Go.SE.SV.int Go.IntKind.i64 (L.turnN p (Int.toNat t)).y])) (by kernel_rfl) (by
    obtain ⟨hb, t0, t3⟩ := hp
    refine ⟨⟨(0 : Nat), rfl, rfl, rfl, Nat.zero_le _⟩, fun g hg => ⟨fun hlt => ?_, fun hge => ?_⟩⟩
    · have h := of_decide_eq_true hlt
      have hbg := turnN_bd hb g
      unfold L.bd at hbg
      exact ⟨InK.of (by omega) (by omega), InK.of (by omega) (by omega), g + 1, by omega, rfl, rfl, rfl, by show 0 - (L.turnN p g).y = -(L.turnN p g).y; omega, rfl, rfl, rfl, by omega, by omega⟩
    · have h := of_decide_eq_false hge
      obtain rfl : g = t.toNat := by omega
      rfl)
theorem r1_turned_ok : SpecOk Tryz.prog 146 r1_turned_S := fnX Tryz.func146 (c := bodyOf Tryz.f146) (by kernel_rfl) mixed (fun args p r hs hp => by
  unfold r1_turned_s at hs
  split at hs
  · cases hs; exact ⟨_, _, r1_turned_vc _ _ hp, (.same _ (.same _ .nil)), ⟨show SpecsL Tryz.prog _ from SpecsL.nil, rfl, ⟨show ItersL Tryz.prog _ from ItersL.nil, (TrsOk.none (fun _ => rfl))⟩⟩⟩
  · cases hs)
theorem r1_turned_en : Enters Tryz.prog 146 := fun args w => by kernel_rfl
def r1_Moved_p (p : L.Pt) (m : L.Motion) : Prop := L.bd p ∧ L.validM m
def r1_Moved_r (p : L.Pt) (m : L.Motion) : SV := (.agg [.int .i64 ((L.apply m p).x), .int .i64 ((L.apply m p).y)])
def r1_Moved_s : List EV → Option (Prop × SV)
  | [.p (.agg [.int .i64 p_x, .int .i64 p_y]), .p (.agg [.int .i64 m_turn, .bool m_mirror, .int .i64 m_by__x, .int .i64 m_by__y])] => some (r1_Moved_p (⟨p_x, p_y⟩ : L.Pt) (⟨m_turn, m_mirror, (⟨m_by__x, m_by__y⟩ : L.Pt)⟩ : L.Motion), r1_Moved_r (⟨p_x, p_y⟩ : L.Pt) (⟨m_turn, m_mirror, (⟨m_by__x, m_by__y⟩ : L.Pt)⟩ : L.Motion))
  | _ => none
abbrev r1_Moved_S : SE.Spec := (specO r1_Moved_s)
def r1_Moved_C : Cfg := { muts := [2, 4, 5], frz := lookN [], specs := lookS [(146, r1_turned_S)], loops := lookL [], iters := lookI [], rfs := lookR [], nils := lookM [] }
theorem r1_Moved_vc (p : L.Pt) (m : L.Motion) (hp : r1_Moved_p p m) : vc Tryz.prog (r1_Moved_C) (bodyOf Tryz.f73) (st0 Tryz.f73 [.p (.agg [.int .i64 p.x, .int .i64 p.y]), .p (.agg [.int .i64 m.turn, .bool m.mirror, .int .i64 m.by_.x, .int .i64 m.by_.y])]) (retFn Tryz.prog Tryz.f73 (r1_Moved_r p m)) :=
  @Eq.mpr _ ((m.mirror = Bool.true → Go.SE.InK Go.IntKind.i64 ((0 : Int) - p.x) ∧ (L.bd (L.Pt.mk ((0 : Int) - p.x) p.y) ∧ (0 : Int) ≤ m.turn ∧ m.turn ≤ (3 : Int)) ∧ Go.SE.InK Go.IntKind.i64 ((L.turnN (L.Pt.mk ((0 : Int) - p.x) p.y) (Int.toNat m.turn)).x + m.by_.x) ∧ Go.SE.InK Go.IntKind.i64 ((L.turnN (L.Pt.mk ((0 : Int) - p.x) p.y) (Int.toNat m.turn)).y + m.by_.y) ∧ Go.SE.SV.agg [Go.SE.SV.int Go.IntKind.i64
 ((L.turnN (L.Pt.mk ((0 : Int) - p.x) p.y) (Int.toNat m.turn)).x + m.by_.x), Go.SE.SV.int Go.IntKind.i64 ((L.turnN (L.Pt.mk ((0 : Int) - p.x) p.y) (Int.toNat m.turn)).y + m.by_.y)] = Go.SE.SV.agg [Go.SE.SV.int Go.IntKind.i64 (L.apply m p).x, Go.SE.SV.int Go.IntKind.i64 (L.apply m p).y]) ∧ (m.mirror = Bool.false → (L.bd p ∧ (0 : Int) ≤ m.turn ∧ m.turn ≤ (3 : Int)) ∧ Go.SE.InK Go.IntKind.i64
 ((L.turnN p (Int.toNat m.turn)).x + m.by_.x) ∧ Go.SE.InK Go.IntKind.i64 ((L.turnN p (Int.toNat m.turn)).y + m.by_.y) ∧ Go.SE.SV.agg [Go.SE.SV.int Go.IntKind.i64 ((L.turnN p (Int.toNat m.turn)).x + m.by_.x), Go.SE.SV.int Go.IntKind.i64 ((L.turnN p (Int.toNat m.turn)).y + m.by_.y)] = Go.SE.SV.agg [Go.SE.SV.int Go.IntKind.i64 (L.apply m p).x, Go.SE.SV.int Go.IntKind.i64 (L.apply m p).y])) (by kernel_rfl) (by
    obtain ⟨hb, hm⟩ := hp
    have hm := validM_iff.1 hm
    have hb1 := mir_bd (m := m) hb
    have hb' : L.bd (L.turned m p) := turnN_bd hb1 m.turn.toNat
    have hbb := hb
    unfold L.bd at hb' hbb
    refine ⟨fun hk => ?_, fun hk => ?_⟩
    · have e : (⟨0 - p.x, p.y⟩ : L.Pt) = L.mir m p := by unfold L.mir; rw [hk, cond_true, Int.zero_sub]
      rw [e]
      exact ⟨InK.of (by omega) (by omega), ⟨hb1, hm.1.1, hm.1.2⟩, InK.of (by show _ ≤ (L.turned m p).x + m.by_.x; omega) (by show (L.turned m p).x + m.by_.x ≤ _; omega), InK.of (by show _ ≤ (L.turned m p).y + m.by_.y; omega) (by show (L.turned m p).y + m.by_.y ≤ _; omega), rfl⟩
    · have e : p = L.mir m p := by unfold L.mir; rw [hk, cond_false]
      have ht : L.turnN p m.turn.toNat = L.turned m p := by unfold L.turned; rw [← e]
      rw [ht]
      exact ⟨⟨hb, hm.1.1, hm.1.2⟩, InK.of (by omega) (by omega), InK.of (by omega) (by omega), rfl⟩)
theorem r1_Moved_ok : SpecOk Tryz.prog 73 r1_Moved_S := fnX Tryz.func73 (c := bodyOf Tryz.f73) (by kernel_rfl) mixed (fun args p r hs hp => by
  unfold r1_Moved_s at hs
  split at hs
  · cases hs; exact ⟨_, _, r1_Moved_vc _ _ hp, (.same _ (.same _ .nil)), ⟨show SpecsL Tryz.prog _ from (SpecsL.cons r1_turned_ok r1_turned_en SpecsL.nil), rfl, ⟨show ItersL Tryz.prog _ from ItersL.nil, (TrsOk.none (fun _ => rfl))⟩⟩⟩
  · cases hs)
theorem r1_Moved_en : Enters Tryz.prog 73 := fun args w => by kernel_rfl
def r1_placed_p (l : (L.Sq L.Pt)) : Prop := 1 ≤ l.n ∧ l.n ≤ 1000000
def r1_placed_q (l : (L.Sq L.Pt)) : Nat → Prop := fun _ => True
def r1_placed_n (l : (L.Sq L.Pt)) : Nat → Nat := fun _ => l.n
def r1_placed_g (l : (L.Sq L.Pt)) : Nat → Nat → List SV := fun _ k => [.int .i64 ((L.plc l k).x), .int .i64 ((L.plc l k).y)]
def r1_placed_s : List EV → Option (Prop × (Nat → Prop) × (Nat → Nat) × (Nat → Nat → List SV))
  | [.p (.sl 2 l_n l_g)] => some ((∀ i, i < l_n → l_g i = [.int .i64 ((ofPt (l_g i)).x), .int .i64 ((ofPt (l_g i)).y)]) ∧ r1_placed_p (⟨l_n, fun i => ofPt (l_g i)⟩ : (L.Sq L.Pt)), r1_placed_q (⟨l_n, fun i => ofPt (l_g i)⟩ : (L.Sq L.Pt)), r1_placed_n (⟨l_n, fun i => ofPt (l_g i)⟩ : (L.Sq L.Pt)), r1_placed_g (⟨l_n, fun i => ofPt (l_g i)⟩ : (L.Sq L.Pt)))
  | _ => none
abbrev r1_placed_S : SE.Spec := (specF Nat 0 42 2 r1_placed_s)
def r1_placed_C : Cfg := { muts := [], frz := lookN [], specs := lookS [(92, r1_less_S)], loops := fun _ => none, iters := lookI [], rfs := lookR [], nils := lookM [(8, [(5, 26, 42, 2)])] }
theorem r1_placed_vc (l : (L.Sq L.Pt)) (hp : r1_placed_p l) : vc Tryz.prog ({ r1_placed_C with loops := lookL [(3, { T := Nat, keep := [0], keepO := [], chg := fun i => [(3, .p (.int .i64 ((L.argTo l i : Nat) : Int))), (4, .p (.int .i64 (i : Int)))], own := fun _ => [], inv := fun i => i ≤ l.n, mu := fun i => l.n - i })], rfs := lookR [] }) (bodyOf Tryz.f75) (st0 Tryz.f75 [.p (.sl 2 l.n (fun i => [.int .i64 ((l.g i).x), .int .i64 ((l.g i).y)]))]) (retFresh Tryz.prog Tryz.f75 (Nat) (r1_placed_q l) 42 2 (r1_placed_n l) (r1_placed_g l)) :=
  @Eq.mpr _ ((∃ (g : Nat), (0 : Int) = (↑(L.argTo l g) : Int) ∧ (0 : Int) = (↑g : Int) ∧ g ≤ l.n) ∧ ∀ (g : Nat), g ≤ l.n → (Decidable.decide ((↑g : Int) < (↑l.n : Int)) = Bool.true → ((0 : Int) ≤ (↑g : Int) ∧ (↑g : Int) < (↑l.n : Int)) ∧ ((0 : Int) ≤ (↑(L.argTo l g) : Int) ∧ (↑(L.argTo l g) : Int) < (↑l.n : Int)) ∧ True ∧ (Decidable.decide (L.cmpPt (l.g (Int.toNat (↑g : Int))) (l.g (Int.toNat (↑(L.argTo l g) :
 Int))) < (0 : Int)) = Bool.true → Go.SE.InK Go.IntKind.i64 ((↑g : Int) + (1 : Int)) ∧ ∃ (g' : Nat), (↑g : Int) = (↑(L.argTo l g') : Int) ∧ (↑g : Int) + (1 : Int) = (↑g' : Int) ∧ (l.n = l.n ∧ ∀ (i : Nat), i < l.n → [Go.SE.SV.int Go.IntKind.i64 (l.g i).x, Go.SE.SV.int Go.IntKind.i64 (l.g i).y] = [Go.SE.SV.int Go.IntKind.i64 (l.g i).x, Go.SE.SV.int Go.IntKind.i64 (l.g i).y]) ∧ g' ≤ l.n ∧ l.n - g' <
 l.n - g) ∧ (Decidable.decide (L.cmpPt (l.g (Int.toNat (↑g : Int))) (l.g (Int.toNat (↑(L.argTo l g) : Int))) < (0 : Int)) = Bool.false → Go.SE.InK Go.IntKind.i64 ((↑g : Int) + (1 : Int)) ∧ ∃ (g' : Nat), (↑(L.argTo l g) : Int) = (↑(L.argTo l g') : Int) ∧ (↑g : Int) + (1 : Int) = (↑g' : Int) ∧ (l.n = l.n ∧ ∀ (i : Nat), i < l.n → [Go.SE.SV.int Go.IntKind.i64 (l.g i).x, Go.SE.SV.int Go.IntKind.i64 (l.g
 i).y] = [Go.SE.SV.int Go.IntKind.i64 (l.g i).x, Go.SE.SV.int Go.IntKind.i64 (l.g i).y]) ∧ g' ≤ l.n ∧ l.n - g' < l.n - g)) ∧ (Decidable.decide ((↑g : Int) < (↑l.n : Int)) = Bool.false → ((0 : Int) ≤ (↑(L.argTo l g) : Int) ∧ (↑(L.argTo l g) : Int) ≤ (↑l.n : Int) ∧ (↑l.n : Int) ≤ (↑l.n : Int)) ∧ (nat_lit 0 + Int.toNat ((↑l.n : Int) - (↑(L.argTo l g) : Int))) * nat_lit 16 ≤ (140737488355328 : Nat) ∧
 ((0 : Int) ≤ (0 : Int) ∧ (0 : Int) ≤ (↑(L.argTo l g) : Int) ∧ (↑(L.argTo l g) : Int) ≤ (↑l.n : Int)) ∧ (nat_lit 0 + Int.toNat ((↑l.n : Int) - (↑(L.argTo l g) : Int)) + Int.toNat ((↑(L.argTo l g) : Int) - (0 : Int))) * nat_lit 16 ≤ (140737488355328 : Nat) ∧ ∃ (t : Nat), (nat_lit 0 + Int.toNat ((↑l.n : Int) - (↑(L.argTo l g) : Int)) + Int.toNat ((↑(L.argTo l g) : Int) - (0 : Int)) = l.n ∧ ∀ (i :
 Nat), i < nat_lit 0 + Int.toNat ((↑l.n : Int) - (↑(L.argTo l g) : Int)) + Int.toNat ((↑(L.argTo l g) : Int) - (0 : Int)) → Go.SE.appGet (nat_lit 0 + Int.toNat ((↑l.n : Int) - (↑(L.argTo l g) : Int))) (Go.SE.appGet (nat_lit 0) (fun (x : Nat) ↦ []) fun (i : Nat) ↦ [Go.SE.SV.int Go.IntKind.i64 (l.g (Int.toNat (↑(L.argTo l g) : Int) + i)).x, Go.SE.SV.int Go.IntKind.i64 (l.g (Int.toNat (↑(L.argTo l g)
 : Int) + i)).y]) (fun (i : Nat) ↦ [Go.SE.SV.int Go.IntKind.i64 (l.g (Int.toNat (0 : Int) + i)).x, Go.SE.SV.int Go.IntKind.i64 (l.g (Int.toNat (0 : Int) + i)).y]) i = [Go.SE.SV.int Go.IntKind.i64 (L.plc l i).x, Go.SE.SV.int Go.IntKind.i64 (L.plc l i).y]) ∧ True)) (by kernel_rfl) (by
    obtain ⟨h1, hn⟩ := hp
    refine ⟨⟨(0 : Nat), rfl, rfl, Nat.zero_le _⟩, fun g hg => ⟨fun hlt => ?_, fun hge => ?_⟩⟩
    · have hb : (g : Int) < (l.n : Int) := of_decide_eq_true hlt
      have e0 : ((g : Int)).toNat = g := Int.toNat_natCast g
      have ha := argTo_lt h1 g hg
      have e1 : ((L.argTo l g : Int)).toNat = L.argTo l g := Int.toNat_natCast _
      rw [e0, e1]
      have hs : L.argTo l (g + 1) = bif decide (L.cmpPt (l.g g) (l.g (L.argTo l g)) < 0) then g else L.argTo l g := rfl
      refine ⟨⟨by omega, hb⟩, ⟨by omega, by omega⟩, trivial, fun h => ?_, fun h => ?_⟩
      · rw [h] at hs
        exact ⟨InK.of (by omega) (by omega), g + 1, by rw [hs]; rfl, by omega, ⟨rfl, fun _ _ => rfl⟩, by omega, by omega⟩
      · rw [h] at hs
        exact ⟨InK.of (by omega) (by omega), g + 1, by rw [hs]; rfl, by omega, ⟨rfl, fun _ _ => rfl⟩, by omega, by omega⟩
    · have hb : ¬ (g : Int) < (l.n : Int) := of_decide_eq_false hge
      obtain rfl : g = l.n := by omega
      have ha := argTo_lt h1 l.n (Nat.le_refl _)
      have e1 : ((L.argTo l l.n : Int)).toNat = L.argTo l l.n := Int.toNat_natCast _
      refine ⟨⟨by omega, by omega, Int.le_refl _⟩, show (0 + ((l.n : Int) - (L.argTo l l.n : Int)).toNat) * 16 ≤ 140737488355328 by omega, ⟨Int.le_refl _, by omega, by omega⟩, show (0 + ((l.n : Int) - (L.argTo l l.n : Int)).toNat + ((L.argTo l l.n : Int) - 0).toNat) * 16 ≤ 140737488355328 by omega, (0 : Nat), ⟨show 0 + ((l.n : Int) - (L.argTo l l.n : Int)).toNat + ((L.argTo l l.n : Int) - 0).toNat = l.n by omega, fun i _ => ?_⟩, trivial⟩
      have e2 : 0 + ((l.n : Int) - (L.argTo l l.n : Int)).toNat = l.n - L.argTo l l.n := by omega
      rw [e1, e2]
      unfold appGet
      have w : L.plc l i = bif decide (i < l.n - L.argTo l l.n) then l.g (L.argTo l l.n + i) else l.g (i - (l.n - L.argTo l l.n)) := rfl
      by_cases h : i < l.n - L.argTo l l.n
      · rw [if_pos h, w, decide_eq_true h, if_neg (Nat.not_lt_zero _)]; rfl
      · rw [if_neg h, w, decide_eq_false h]
        show [SV.int .i64 (l.g (0 + (i - (l.n - L.argTo l l.n)))).x, SV.int .i64 (l.g (0 + (i - (l.n - L.argTo l l.n)))).y] = _
        rw [Nat.zero_add]; rfl)
theorem r1_placed_ok : SpecOk Tryz.prog 75 r1_placed_S := freshX Tryz.func75 (c := bodyOf Tryz.f75) (by kernel_rfl) mixed (fun args p q n g hs hp => by
  unfold r1_placed_s at hs
  split at hs
  · cases hs; exact ⟨_, _, r1_placed_vc _ hp.2, (.p (.sl hp.1) .nil), ⟨show SpecsL Tryz.prog _ from (SpecsL.cons r1_less_ok r1_less_en SpecsL.nil), rfl, ⟨show ItersL Tryz.prog _ from ItersL.nil, (TrsOk.none (fun _ => rfl))⟩⟩⟩
  · cases hs)
theorem r1_placed_en : Enters Tryz.prog 75 := fun args w => by kernel_rfl
def r1_Move_p (l : (L.Sq L.Pt)) (m : L.Motion) : Prop := l.n ≤ 1000000
def r1_Move_r (l : (L.Sq L.Pt)) (m : L.Motion) : SV := .tup [.sl 2 (L.movN l m) (fun k => [.int .i64 (((L.norm (L.moved l m)).g k).x), .int .i64 (((L.norm (L.moved l m)).g k).y)]), (.agg [.int .i64 ((L.movS l m).shift), .bool ((L.movS l m).back)]), .int .i64 (L.movE l m)]
def r1_Move_s : List EV → Option (Prop × SV)
  | [.p (.sl 2 l_n l_g), .p (.agg [.int .i64 m_turn, .bool m_mirror, .int .i64 m_by__x, .int .i64 m_by__y])] => some ((∀ i, i < l_n → l_g i = [.int .i64 ((ofPt (l_g i)).x), .int .i64 ((ofPt (l_g i)).y)]) ∧ r1_Move_p (⟨l_n, fun i => ofPt (l_g i)⟩ : (L.Sq L.Pt)) (⟨m_turn, m_mirror, (⟨m_by__x, m_by__y⟩ : L.Pt)⟩ : L.Motion), r1_Move_r (⟨l_n, fun i => ofPt (l_g i)⟩ : (L.Sq L.Pt)) (⟨m_turn, m_mirror, (⟨m_by__x, m_by__y⟩ : L.Pt)⟩ : L.Motion))
  | _ => none
abbrev r1_Move_S : SE.Spec := (specO r1_Move_s)
def r1_Move_C : Cfg := { muts := [5, 9, 10], frz := lookN [], specs := lookS [(33, r1_ValidOutline_S), (25, r1_ValidMotion_S), (73, r1_Moved_S), (74, r1_points_S), (75, r1_placed_S), (76, r1_at_S)], loops := fun _ => none, iters := lookI [], rfs := lookR [], nils := lookM [(4, [(7, 37, 42, 2)]), (14, [(11, 63, 42, 2)])] }
theorem r1_Move_vc (l : (L.Sq L.Pt)) (m : L.Motion) (hp : r1_Move_p l m) : vc Tryz.prog ({ r1_Move_C with loops := lookL [(5, { T := Nat, keep := [0, 3, 5, 7], keepO := [3, 5], chg := fun i => [(8, .p (.int .i64 (i : Int)))], own := fun i => [(37, .row 42 2 i (fun k => [.int .i64 (((L.moved l m).g k).x), .int .i64 (((L.moved l m).g k).y)]))], inv := fun i => i ≤ l.n, mu := fun i => l.n - i }), (15, { T := Nat, keep := [3, 5, 7, 9, 10, 11], keepO := [3, 5, 9, 10, 37], chg := fun i => [(12, .p (.int .i64 ((l.n : Int) - 1 - (i : Int))))], own := fun i => [(63, .row 42 2 i (fun k => [.int .i64 (((L.revG (L.moved l m)).g k).x), .int .i64 (((L.revG (L.moved l m)).g k).y)]))], inv := fun i => i ≤ l.n, mu := fun i => l.n - i }), (21, { T := Nat, keep := [3, 5, 7, 9, 10], keepO := [3, 5, 9, 10, 66], chg := fun i => [(13, .p (.int .i64 (i : Int)))], own := fun i => [], inv := fun i => i ≤ l.n ∧ (i : Int) ≤ (L.movS l m).shift, mu := fun i => l.n - i })], rfs := lookR [] }) (bodyOf Tryz.f22) (st0 Tryz.f22 [.p (.sl 2 l.n (fun i => [.int .i64 ((l.g i).x), .int .i64 ((l.g i).y)])), .p (.agg [.int .i64 m.turn, .bool m.mirror, .int .i64 m.by_.x, .int .i64 m.by_.y])]) (retFn Tryz.prog Tryz.f22 (r1_Move_r l m)) :=
  @Eq.mpr _ (((∀ (i : Nat), i < l.n → [Go.SE.SV.int Go.IntKind.i64 (l.g i).x, Go.SE.SV.int Go.IntKind.i64 (l.g i).y] = [Go.SE.SV.int Go.IntKind.i64 (l.g i).x, Go.SE.SV.int Go.IntKind.i64 (l.g i).y]) ∧ True) ∧ ((!!L.validOutline (L.Sq.mk l.n fun (i : Nat) ↦ l.g i)) = Bool.true → True) ∧ ((bif !L.validOutline (L.Sq.mk l.n fun (i : Nat) ↦ l.g i) then Bool.true else !L.validM m) = Bool.true → L.movN l m = (0 :
 Nat) ∧ Go.SE.SV.agg [Go.SE.SV.int Go.IntKind.i64 (0 : Int), Go.SE.SV.bool Bool.false] = Go.SE.SV.agg [Go.SE.SV.int Go.IntKind.i64 (L.movS l m).shift, Go.SE.SV.bool (L.movS l m).back] ∧ (1 : Int) = L.movE l m) ∧ ((bif !L.validOutline (L.Sq.mk l.n fun (i : Nat) ↦ l.g i) then Bool.true else !L.validM m) = Bool.false → (∃ (g : Nat), (0 : Int) = (↑g : Int) ∧ (nat_lit 0 = g ∧ ∀ (i : Nat), i < nat_lit 0
 → [] = [Go.SE.SV.int Go.IntKind.i64 ((L.moved l m).g i).x, Go.SE.SV.int Go.IntKind.i64 ((L.moved l m).g i).y]) ∧ g ≤ l.n) ∧ ∀ (g : Nat), g ≤ l.n → (Decidable.decide ((↑g : Int) < (↑l.n : Int)) = Bool.true → ((0 : Int) ≤ (↑g : Int) ∧ (↑g : Int) < (↑l.n : Int)) ∧ (L.bd (l.g (Int.toNat (↑g : Int))) ∧ L.validM m = Bool.true) ∧ (g + nat_lit 1) * nat_lit 16 ≤ (140737488355328 : Nat) ∧ Go.SE.InK
 Go.IntKind.i64 ((↑g : Int) + (1 : Int)) ∧ ∃ (g' : Nat), (↑g : Int) + (1 : Int) = (↑g' : Int) ∧ nat_lit 0 = nat_lit 0 ∧ Go.SE.SV.ref [Go.SE.SV.int Go.IntKind.i64 m.turn, Go.SE.SV.bool m.mirror, Go.SE.SV.int Go.IntKind.i64 m.by_.x, Go.SE.SV.int Go.IntKind.i64 m.by_.y] (nat_lit 0) = Go.SE.SV.ref [Go.SE.SV.int Go.IntKind.i64 m.turn, Go.SE.SV.bool m.mirror, Go.SE.SV.int Go.IntKind.i64 m.by_.x,
 Go.SE.SV.int Go.IntKind.i64 m.by_.y] (nat_lit 0) ∧ (l.n = l.n ∧ ∀ (i : Nat), i < l.n → [Go.SE.SV.int Go.IntKind.i64 (l.g i).x, Go.SE.SV.int Go.IntKind.i64 (l.g i).y] = [Go.SE.SV.int Go.IntKind.i64 (l.g i).x, Go.SE.SV.int Go.IntKind.i64 (l.g i).y]) ∧ (g + nat_lit 1 = g' ∧ ∀ (i : Nat), i < g + nat_lit 1 → Go.SE.appGet g (fun (k : Nat) ↦ [Go.SE.SV.int Go.IntKind.i64 ((L.moved l m).g k).x,
 Go.SE.SV.int Go.IntKind.i64 ((L.moved l m).g k).y]) (fun (x : Nat) ↦ [Go.SE.SV.int Go.IntKind.i64 (L.apply m (l.g (Int.toNat (↑g : Int)))).x, Go.SE.SV.int Go.IntKind.i64 (L.apply m (l.g (Int.toNat (↑g : Int)))).y]) i = [Go.SE.SV.int Go.IntKind.i64 ((L.moved l m).g i).x, Go.SE.SV.int Go.IntKind.i64 ((L.moved l m).g i).y]) ∧ (0 : Int) = (0 : Int) ∧ Bool.false = Bool.false ∧ g' ≤ l.n ∧ l.n - g' < l.n
 - g) ∧ (Decidable.decide ((↑g : Int) < (↑l.n : Int)) = Bool.false → ((∀ (i : Nat), i < g → [Go.SE.SV.int Go.IntKind.i64 ((L.moved l m).g i).x, Go.SE.SV.int Go.IntKind.i64 ((L.moved l m).g i).y] = [Go.SE.SV.int Go.IntKind.i64 ((L.moved l m).g i).x, Go.SE.SV.int Go.IntKind.i64 ((L.moved l m).g i).y]) ∧ g ≤ (1000000 : Nat)) ∧ ((!L.validPts (L.Sq.mk g fun (i : Nat) ↦ (L.moved l m).g i)) = Bool.true →
 L.movN l m = (0 : Nat) ∧ Go.SE.SV.agg [Go.SE.SV.int Go.IntKind.i64 (0 : Int), Go.SE.SV.bool Bool.false] = Go.SE.SV.agg [Go.SE.SV.int Go.IntKind.i64 (L.movS l m).shift, Go.SE.SV.bool (L.movS l m).back] ∧ (2 : Int) = L.movE l m) ∧ ((!L.validPts (L.Sq.mk g fun (i : Nat) ↦ (L.moved l m).g i)) = Bool.false → ((0 : Int) ≤ (0 : Int) ∧ (0 : Int) < (↑g : Int)) ∧ nat_lit 0 < g ∧ ((0 : Int) ≤ (1 : Int) ∧ (1
 : Int) < (↑g : Int)) ∧ nat_lit 1 < g ∧ (m.mirror = Bool.true → Go.SE.InK Go.IntKind.i64 ((↑g : Int) - (1 : Int)) ∧ (∃ (g_1 : Nat), (↑g : Int) - (1 : Int) = (↑l.n : Int) - (1 : Int) - (↑g_1 : Int) ∧ (nat_lit 0 = g_1 ∧ ∀ (i : Nat), i < nat_lit 0 → [] = [Go.SE.SV.int Go.IntKind.i64 ((L.revG (L.moved l m)).g i).x, Go.SE.SV.int Go.IntKind.i64 ((L.revG (L.moved l m)).g i).y]) ∧ g_1 ≤ l.n) ∧ ∀ (g_1 :
 Nat), g_1 ≤ l.n → (Decidable.decide ((0 : Int) ≤ (↑l.n : Int) - (1 : Int) - (↑g_1 : Int)) = Bool.true → ((0 : Int) ≤ (↑l.n : Int) - (1 : Int) - (↑g_1 : Int) ∧ (↑l.n : Int) - (1 : Int) - (↑g_1 : Int) < (↑g : Int)) ∧ Int.toNat ((↑l.n : Int) - (1 : Int) - (↑g_1 : Int)) < g ∧ (g_1 + nat_lit 1) * nat_lit 16 ≤ (140737488355328 : Nat) ∧ Go.SE.InK Go.IntKind.i64 ((↑l.n : Int) - (1 : Int) - (↑g_1 : Int) -
 (1 : Int)) ∧ ∃ (g' : Nat), (↑l.n : Int) - (1 : Int) - (↑g_1 : Int) - (1 : Int) = (↑l.n : Int) - (1 : Int) - (↑g' : Int) ∧ nat_lit 0 = nat_lit 0 ∧ nat_lit 0 = nat_lit 0 ∧ nat_lit 0 = nat_lit 0 ∧ Go.SE.SV.ref [Go.SE.SV.int Go.IntKind.i64 m.turn, Go.SE.SV.bool m.mirror, Go.SE.SV.int Go.IntKind.i64 m.by_.x, Go.SE.SV.int Go.IntKind.i64 m.by_.y] (nat_lit 0) = Go.SE.SV.ref [Go.SE.SV.int Go.IntKind.i64
 m.turn, Go.SE.SV.bool m.mirror, Go.SE.SV.int Go.IntKind.i64 m.by_.x, Go.SE.SV.int Go.IntKind.i64 m.by_.y] (nat_lit 0) ∧ (g_1 + nat_lit 1 = g' ∧ ∀ (i : Nat), i < g_1 + nat_lit 1 → Go.SE.appGet g_1 (fun (k : Nat) ↦ [Go.SE.SV.int Go.IntKind.i64 ((L.revG (L.moved l m)).g k).x, Go.SE.SV.int Go.IntKind.i64 ((L.revG (L.moved l m)).g k).y]) (fun (x : Nat) ↦ [Go.SE.SV.int Go.IntKind.i64 ((L.moved l m).g
 (Int.toNat ((↑l.n : Int) - (1 : Int) - (↑g_1 : Int)))).x, Go.SE.SV.int Go.IntKind.i64 ((L.moved l m).g (Int.toNat ((↑l.n : Int) - (1 : Int) - (↑g_1 : Int)))).y]) i = [Go.SE.SV.int Go.IntKind.i64 ((L.revG (L.moved l m)).g i).x, Go.SE.SV.int Go.IntKind.i64 ((L.revG (L.moved l m)).g i).y]) ∧ ((L.moved l m).g (nat_lit 1)).x = ((L.moved l m).g (nat_lit 1)).x ∧ ((L.moved l m).g (nat_lit 1)).y =
 ((L.moved l m).g (nat_lit 1)).y ∧ ((L.moved l m).g (nat_lit 0)).x = ((L.moved l m).g (nat_lit 0)).x ∧ ((L.moved l m).g (nat_lit 0)).y = ((L.moved l m).g (nat_lit 0)).y ∧ (g = g ∧ ∀ (i : Nat), i < g → [Go.SE.SV.int Go.IntKind.i64 ((L.moved l m).g i).x, Go.SE.SV.int Go.IntKind.i64 ((L.moved l m).g i).y] = [Go.SE.SV.int Go.IntKind.i64 ((L.moved l m).g i).x, Go.SE.SV.int Go.IntKind.i64 ((L.moved l
 m).g i).y]) ∧ (0 : Int) = (0 : Int) ∧ Bool.false = Bool.false ∧ g' ≤ l.n ∧ l.n - g' < l.n - g_1) ∧ (Decidable.decide ((0 : Int) ≤ (↑l.n : Int) - (1 : Int) - (↑g_1 : Int)) = Bool.false → ((∀ (i : Nat), i < g_1 → [Go.SE.SV.int Go.IntKind.i64 ((L.revG (L.moved l m)).g i).x, Go.SE.SV.int Go.IntKind.i64 ((L.revG (L.moved l m)).g i).y] = [Go.SE.SV.int Go.IntKind.i64 ((L.revG (L.moved l m)).g i).x,
 Go.SE.SV.int Go.IntKind.i64 ((L.revG (L.moved l m)).g i).y]) ∧ (1 : Nat) ≤ g_1 ∧ g_1 ≤ (1000000 : Nat)) ∧ ∀ (t : Nat), True → (∀ (i : Nat), i < g_1 → (Bool.true && (Bool.true && Bool.true)) = Bool.true) ∧ (∃ (g : Nat), (0 : Int) = (↑g : Int) ∧ g ≤ l.n ∧ (↑g : Int) ≤ (L.movS l m).shift) ∧ ∀ (g_2 : Nat), g_2 ≤ l.n ∧ (↑g_2 : Int) ≤ (L.movS l m).shift → (Decidable.decide ((↑g_2 : Int) < (↑g_1 : Int))
 = Bool.true → ((0 : Int) ≤ (↑g_2 : Int) ∧ (↑g_2 : Int) < (↑g_1 : Int)) ∧ ((Decidable.decide ((L.plc (L.Sq.mk g_1 fun (i : Nat) ↦ (L.revG (L.moved l m)).g i) (Int.toNat (↑g_2 : Int))).x = ((L.moved l m).g (nat_lit 0)).x) && Decidable.decide ((L.plc (L.Sq.mk g_1 fun (i : Nat) ↦ (L.revG (L.moved l m)).g i) (Int.toNat (↑g_2 : Int))).y = ((L.moved l m).g (nat_lit 0)).y)) = Bool.true → Go.SE.InK
 Go.IntKind.i64 ((↑g_2 : Int) + (1 : Int))) ∧ ((Decidable.decide ((L.plc (L.Sq.mk g_1 fun (i : Nat) ↦ (L.revG (L.moved l m)).g i) (Int.toNat (↑g_2 : Int))).x = ((L.moved l m).g (nat_lit 0)).x) && Decidable.decide ((L.plc (L.Sq.mk g_1 fun (i : Nat) ↦ (L.revG (L.moved l m)).g i) (Int.toNat (↑g_2 : Int))).y = ((L.moved l m).g (nat_lit 0)).y)) = Bool.true → (∀ (i : Nat), i < g_1 → [Go.SE.SV.int
 Go.IntKind.i64 (L.plc (L.Sq.mk g_1 fun (i : Nat) ↦ (L.revG (L.moved l m)).g i) i).x, Go.SE.SV.int Go.IntKind.i64 (L.plc (L.Sq.mk g_1 fun (i : Nat) ↦ (L.revG (L.moved l m)).g i) i).y] = [Go.SE.SV.int Go.IntKind.i64 (L.plc (L.Sq.mk g_1 fun (i : Nat) ↦ (L.revG (L.moved l m)).g i) i).x, Go.SE.SV.int Go.IntKind.i64 (L.plc (L.Sq.mk g_1 fun (i : Nat) ↦ (L.revG (L.moved l m)).g i) i).y]) ∧ (1 : Nat) ≤ g_1
 ∧ g_1 ≤ (1000000 : Nat) ∧ (-1000000 : Int) ≤ (↑g_2 : Int) + (1 : Int) ∧ (↑g_2 : Int) + (1 : Int) ≤ (1000000 : Int)) ∧ ((!bif Decidable.decide ((L.plc (L.Sq.mk g_1 fun (i : Nat) ↦ (L.revG (L.moved l m)).g i) (Int.toNat (↑g_2 : Int))).x = ((L.moved l m).g (nat_lit 0)).x) && Decidable.decide ((L.plc (L.Sq.mk g_1 fun (i : Nat) ↦ (L.revG (L.moved l m)).g i) (Int.toNat (↑g_2 : Int))).y = ((L.moved l
 m).g (nat_lit 0)).y) then Decidable.decide ((L.plc (L.Sq.mk g_1 fun (i : Nat) ↦ (L.revG (L.moved l m)).g i) (L.ix g_1 ((↑g_2 : Int) + (1 : Int)))).x = ((L.moved l m).g (nat_lit 1)).x) && Decidable.decide ((L.plc (L.Sq.mk g_1 fun (i : Nat) ↦ (L.revG (L.moved l m)).g i) (L.ix g_1 ((↑g_2 : Int) + (1 : Int)))).y = ((L.moved l m).g (nat_lit 1)).y) else Bool.false) = Bool.true → (0 : Int) ≤ (↑g_2 : Int)
 ∧ (↑g_2 : Int) < (↑g_1 : Int)) ∧ (((!bif Decidable.decide ((L.plc (L.Sq.mk g_1 fun (i : Nat) ↦ (L.revG (L.moved l m)).g i) (Int.toNat (↑g_2 : Int))).x = ((L.moved l m).g (nat_lit 0)).x) && Decidable.decide ((L.plc (L.Sq.mk g_1 fun (i : Nat) ↦ (L.revG (L.moved l m)).g i) (Int.toNat (↑g_2 : Int))).y = ((L.moved l m).g (nat_lit 0)).y) then Decidable.decide ((L.plc (L.Sq.mk g_1 fun (i : Nat) ↦ (L.revG
 (L.moved l m)).g i) (L.ix g_1 ((↑g_2 : Int) + (1 : Int)))).x = ((L.moved l m).g (nat_lit 1)).x) && Decidable.decide ((L.plc (L.Sq.mk g_1 fun (i : Nat) ↦ (L.revG (L.moved l m)).g i) (L.ix g_1 ((↑g_2 : Int) + (1 : Int)))).y = ((L.moved l m).g (nat_lit 1)).y) else Bool.false) && (Decidable.decide ((L.plc (L.Sq.mk g_1 fun (i : Nat) ↦ (L.revG (L.moved l m)).g i) (Int.toNat (↑g_2 : Int))).x = ((L.moved
 l m).g (nat_lit 1)).x) && Decidable.decide ((L.plc (L.Sq.mk g_1 fun (i : Nat) ↦ (L.revG (L.moved l m)).g i) (Int.toNat (↑g_2 : Int))).y = ((L.moved l m).g (nat_lit 1)).y))) = Bool.true → Go.SE.InK Go.IntKind.i64 ((↑g_2 : Int) + (1 : Int))) ∧ (((!bif Decidable.decide ((L.plc (L.Sq.mk g_1 fun (i : Nat) ↦ (L.revG (L.moved l m)).g i) (Int.toNat (↑g_2 : Int))).x = ((L.moved l m).g (nat_lit 0)).x) &&
 Decidable.decide ((L.plc (L.Sq.mk g_1 fun (i : Nat) ↦ (L.revG (L.moved l m)).g i) (Int.toNat (↑g_2 : Int))).y = ((L.moved l m).g (nat_lit 0)).y) then Decidable.decide ((L.plc (L.Sq.mk g_1 fun (i : Nat) ↦ (L.revG (L.moved l m)).g i) (L.ix g_1 ((↑g_2 : Int) + (1 : Int)))).x = ((L.moved l m).g (nat_lit 1)).x) && Decidable.decide ((L.plc (L.Sq.mk g_1 fun (i : Nat) ↦ (L.revG (L.moved l m)).g i) (L.ix
 g_1 ((↑g_2 : Int) + (1 : Int)))).y = ((L.moved l m).g (nat_lit 1)).y) else Bool.false) && (Decidable.decide ((L.plc (L.Sq.mk g_1 fun (i : Nat) ↦ (L.revG (L.moved l m)).g i) (Int.toNat (↑g_2 : Int))).x = ((L.moved l m).g (nat_lit 1)).x) && Decidable.decide ((L.plc (L.Sq.mk g_1 fun (i : Nat) ↦ (L.revG (L.moved l m)).g i) (Int.toNat (↑g_2 : Int))).y = ((L.moved l m).g (nat_lit 1)).y))) = Bool.true →
 (∀ (i : Nat), i < g_1 → [Go.SE.SV.int Go.IntKind.i64 (L.plc (L.Sq.mk g_1 fun (i : Nat) ↦ (L.revG (L.moved l m)).g i) i).x, Go.SE.SV.int Go.IntKind.i64 (L.plc (L.Sq.mk g_1 fun (i : Nat) ↦ (L.revG (L.moved l m)).g i) i).y] = [Go.SE.SV.int Go.IntKind.i64 (L.plc (L.Sq.mk g_1 fun (i : Nat) ↦ (L.revG (L.moved l m)).g i) i).x, Go.SE.SV.int Go.IntKind.i64 (L.plc (L.Sq.mk g_1 fun (i : Nat) ↦ (L.revG
 (L.moved l m)).g i) i).y]) ∧ (1 : Nat) ≤ g_1 ∧ g_1 ≤ (1000000 : Nat) ∧ (-1000000 : Int) ≤ (↑g_2 : Int) + (1 : Int) ∧ (↑g_2 : Int) + (1 : Int) ≤ (1000000 : Int)) ∧ ((bif bif Decidable.decide ((L.plc (L.Sq.mk g_1 fun (i : Nat) ↦ (L.revG (L.moved l m)).g i) (Int.toNat (↑g_2 : Int))).x = ((L.moved l m).g (nat_lit 0)).x) && Decidable.decide ((L.plc (L.Sq.mk g_1 fun (i : Nat) ↦ (L.revG (L.moved l m)).g
 i) (Int.toNat (↑g_2 : Int))).y = ((L.moved l m).g (nat_lit 0)).y) then Decidable.decide ((L.plc (L.Sq.mk g_1 fun (i : Nat) ↦ (L.revG (L.moved l m)).g i) (L.ix g_1 ((↑g_2 : Int) + (1 : Int)))).x = ((L.moved l m).g (nat_lit 1)).x) && Decidable.decide ((L.plc (L.Sq.mk g_1 fun (i : Nat) ↦ (L.revG (L.moved l m)).g i) (L.ix g_1 ((↑g_2 : Int) + (1 : Int)))).y = ((L.moved l m).g (nat_lit 1)).y) else
 Bool.false then Bool.true else bif Decidable.decide ((L.plc (L.Sq.mk g_1 fun (i : Nat) ↦ (L.revG (L.moved l m)).g i) (Int.toNat (↑g_2 : Int))).x = ((L.moved l m).g (nat_lit 1)).x) && Decidable.decide ((L.plc (L.Sq.mk g_1 fun (i : Nat) ↦ (L.revG (L.moved l m)).g i) (Int.toNat (↑g_2 : Int))).y = ((L.moved l m).g (nat_lit 1)).y) then Decidable.decide ((L.plc (L.Sq.mk g_1 fun (i : Nat) ↦ (L.revG
 (L.moved l m)).g i) (L.ix g_1 ((↑g_2 : Int) + (1 : Int)))).x = ((L.moved l m).g (nat_lit 0)).x) && Decidable.decide ((L.plc (L.Sq.mk g_1 fun (i : Nat) ↦ (L.revG (L.moved l m)).g i) (L.ix g_1 ((↑g_2 : Int) + (1 : Int)))).y = ((L.moved l m).g (nat_lit 0)).y) else Bool.false) = Bool.true → (g_1 = L.movN l m ∧ ∀ (i : Nat), i < g_1 → [Go.SE.SV.int Go.IntKind.i64 (L.plc (L.Sq.mk g_1 fun (i : Nat) ↦
 (L.revG (L.moved l m)).g i) i).x, Go.SE.SV.int Go.IntKind.i64 (L.plc (L.Sq.mk g_1 fun (i : Nat) ↦ (L.revG (L.moved l m)).g i) i).y] = [Go.SE.SV.int Go.IntKind.i64 ((L.norm (L.moved l m)).g i).x, Go.SE.SV.int Go.IntKind.i64 ((L.norm (L.moved l m)).g i).y]) ∧ Go.SE.SV.agg [Go.SE.SV.int Go.IntKind.i64 (↑g_2 : Int), Go.SE.SV.bool m.mirror] = Go.SE.SV.agg [Go.SE.SV.int Go.IntKind.i64 (L.movS l
 m).shift, Go.SE.SV.bool (L.movS l m).back] ∧ (0 : Int) = L.movE l m) ∧ ((bif bif Decidable.decide ((L.plc (L.Sq.mk g_1 fun (i : Nat) ↦ (L.revG (L.moved l m)).g i) (Int.toNat (↑g_2 : Int))).x = ((L.moved l m).g (nat_lit 0)).x) && Decidable.decide ((L.plc (L.Sq.mk g_1 fun (i : Nat) ↦ (L.revG (L.moved l m)).g i) (Int.toNat (↑g_2 : Int))).y = ((L.moved l m).g (nat_lit 0)).y) then Decidable.decide
 ((L.plc (L.Sq.mk g_1 fun (i : Nat) ↦ (L.revG (L.moved l m)).g i) (L.ix g_1 ((↑g_2 : Int) + (1 : Int)))).x = ((L.moved l m).g (nat_lit 1)).x) && Decidable.decide ((L.plc (L.Sq.mk g_1 fun (i : Nat) ↦ (L.revG (L.moved l m)).g i) (L.ix g_1 ((↑g_2 : Int) + (1 : Int)))).y = ((L.moved l m).g (nat_lit 1)).y) else Bool.false then Bool.true else bif Decidable.decide ((L.plc (L.Sq.mk g_1 fun (i : Nat) ↦
 (L.revG (L.moved l m)).g i) (Int.toNat (↑g_2 : Int))).x = ((L.moved l m).g (nat_lit 1)).x) && Decidable.decide ((L.plc (L.Sq.mk g_1 fun (i : Nat) ↦ (L.revG (L.moved l m)).g i) (Int.toNat (↑g_2 : Int))).y = ((L.moved l m).g (nat_lit 1)).y) then Decidable.decide ((L.plc (L.Sq.mk g_1 fun (i : Nat) ↦ (L.revG (L.moved l m)).g i) (L.ix g_1 ((↑g_2 : Int) + (1 : Int)))).x = ((L.moved l m).g (nat_lit
 0)).x) && Decidable.decide ((L.plc (L.Sq.mk g_1 fun (i : Nat) ↦ (L.revG (L.moved l m)).g i) (L.ix g_1 ((↑g_2 : Int) + (1 : Int)))).y = ((L.moved l m).g (nat_lit 0)).y) else Bool.false) = Bool.false → Go.SE.InK Go.IntKind.i64 ((↑g_2 : Int) + (1 : Int)) ∧ ∃ (g' : Nat), (↑g_2 : Int) + (1 : Int) = (↑g' : Int) ∧ (g_1 = g_1 ∧ ∀ (i : Nat), i < g_1 → [Go.SE.SV.int Go.IntKind.i64 (L.plc (L.Sq.mk g_1 fun (i
 : Nat) ↦ (L.revG (L.moved l m)).g i) i).x, Go.SE.SV.int Go.IntKind.i64 (L.plc (L.Sq.mk g_1 fun (i : Nat) ↦ (L.revG (L.moved l m)).g i) i).y] = [Go.SE.SV.int Go.IntKind.i64 (L.plc (L.Sq.mk g_1 fun (i : Nat) ↦ (L.revG (L.moved l m)).g i) i).x, Go.SE.SV.int Go.IntKind.i64 (L.plc (L.Sq.mk g_1 fun (i : Nat) ↦ (L.revG (L.moved l m)).g i) i).y]) ∧ nat_lit 0 = nat_lit 0 ∧ nat_lit 0 = nat_lit 0 ∧ nat_lit 0
 = nat_lit 0 ∧ Go.SE.SV.ref [Go.SE.SV.int Go.IntKind.i64 m.turn, Go.SE.SV.bool m.mirror, Go.SE.SV.int Go.IntKind.i64 m.by_.x, Go.SE.SV.int Go.IntKind.i64 m.by_.y] (nat_lit 0) = Go.SE.SV.ref [Go.SE.SV.int Go.IntKind.i64 m.turn, Go.SE.SV.bool m.mirror, Go.SE.SV.int Go.IntKind.i64 m.by_.x, Go.SE.SV.int Go.IntKind.i64 m.by_.y] (nat_lit 0) ∧ ((L.moved l m).g (nat_lit 1)).x = ((L.moved l m).g (nat_lit
 1)).x ∧ ((L.moved l m).g (nat_lit 1)).y = ((L.moved l m).g (nat_lit 1)).y ∧ ((L.moved l m).g (nat_lit 0)).x = ((L.moved l m).g (nat_lit 0)).x ∧ ((L.moved l m).g (nat_lit 0)).y = ((L.moved l m).g (nat_lit 0)).y ∧ (0 : Int) = (0 : Int) ∧ Bool.false = Bool.false ∧ (g' ≤ l.n ∧ (↑g' : Int) ≤ (L.movS l m).shift) ∧ l.n - g' < l.n - g_2)) ∧ (Decidable.decide ((↑g_2 : Int) < (↑g_1 : Int)) = Bool.false →
 (g_1 = L.movN l m ∧ ∀ (i : Nat), i < g_1 → [Go.SE.SV.int Go.IntKind.i64 (L.plc (L.Sq.mk g_1 fun (i : Nat) ↦ (L.revG (L.moved l m)).g i) i).x, Go.SE.SV.int Go.IntKind.i64 (L.plc (L.Sq.mk g_1 fun (i : Nat) ↦ (L.revG (L.moved l m)).g i) i).y] = [Go.SE.SV.int Go.IntKind.i64 ((L.norm (L.moved l m)).g i).x, Go.SE.SV.int Go.IntKind.i64 ((L.norm (L.moved l m)).g i).y]) ∧ Go.SE.SV.agg [Go.SE.SV.int
 Go.IntKind.i64 (0 : Int), Go.SE.SV.bool Bool.false] = Go.SE.SV.agg [Go.SE.SV.int Go.IntKind.i64 (L.movS l m).shift, Go.SE.SV.bool (L.movS l m).back] ∧ (0 : Int) = L.movE l m))) ∧ (m.mirror = Bool.false → ((∀ (i : Nat), i < g → [Go.SE.SV.int Go.IntKind.i64 ((L.moved l m).g i).x, Go.SE.SV.int Go.IntKind.i64 ((L.moved l m).g i).y] = [Go.SE.SV.int Go.IntKind.i64 ((L.moved l m).g i).x, Go.SE.SV.int
 Go.IntKind.i64 ((L.moved l m).g i).y]) ∧ (1 : Nat) ≤ g ∧ g ≤ (1000000 : Nat)) ∧ ∀ (t : Nat), True → (∀ (i : Nat), i < g → (Bool.true && (Bool.true && Bool.true)) = Bool.true) ∧ (∃ (g : Nat), (0 : Int) = (↑g : Int) ∧ g ≤ l.n ∧ (↑g : Int) ≤ (L.movS l m).shift) ∧ ∀ (g_1 : Nat), g_1 ≤ l.n ∧ (↑g_1 : Int) ≤ (L.movS l m).shift → (Decidable.decide ((↑g_1 : Int) < (↑g : Int)) = Bool.true → ((0 : Int) ≤
 (↑g_1 : Int) ∧ (↑g_1 : Int) < (↑g : Int)) ∧ ((Decidable.decide ((L.plc (L.Sq.mk g fun (i : Nat) ↦ (L.moved l m).g i) (Int.toNat (↑g_1 : Int))).x = ((L.moved l m).g (nat_lit 0)).x) && Decidable.decide ((L.plc (L.Sq.mk g fun (i : Nat) ↦ (L.moved l m).g i) (Int.toNat (↑g_1 : Int))).y = ((L.moved l m).g (nat_lit 0)).y)) = Bool.true → Go.SE.InK Go.IntKind.i64 ((↑g_1 : Int) + (1 : Int))) ∧
 ((Decidable.decide ((L.plc (L.Sq.mk g fun (i : Nat) ↦ (L.moved l m).g i) (Int.toNat (↑g_1 : Int))).x = ((L.moved l m).g (nat_lit 0)).x) && Decidable.decide ((L.plc (L.Sq.mk g fun (i : Nat) ↦ (L.moved l m).g i) (Int.toNat (↑g_1 : Int))).y = ((L.moved l m).g (nat_lit 0)).y)) = Bool.true → (∀ (i : Nat), i < g → [Go.SE.SV.int Go.IntKind.i64 (L.plc (L.Sq.mk g fun (i : Nat) ↦ (L.moved l m).g i) i).x,
 Go.SE.SV.int Go.IntKind.i64 (L.plc (L.Sq.mk g fun (i : Nat) ↦ (L.moved l m).g i) i).y] = [Go.SE.SV.int Go.IntKind.i64 (L.plc (L.Sq.mk g fun (i : Nat) ↦ (L.moved l m).g i) i).x, Go.SE.SV.int Go.IntKind.i64 (L.plc (L.Sq.mk g fun (i : Nat) ↦ (L.moved l m).g i) i).y]) ∧ (1 : Nat) ≤ g ∧ g ≤ (1000000 : Nat) ∧ (-1000000 : Int) ≤ (↑g_1 : Int) + (1 : Int) ∧ (↑g_1 : Int) + (1 : Int) ≤ (1000000 : Int)) ∧
 ((!bif Decidable.decide ((L.plc (L.Sq.mk g fun (i : Nat) ↦ (L.moved l m).g i) (Int.toNat (↑g_1 : Int))).x = ((L.moved l m).g (nat_lit 0)).x) && Decidable.decide ((L.plc (L.Sq.mk g fun (i : Nat) ↦ (L.moved l m).g i) (Int.toNat (↑g_1 : Int))).y = ((L.moved l m).g (nat_lit 0)).y) then Decidable.decide ((L.plc (L.Sq.mk g fun (i : Nat) ↦ (L.moved l m).g i) (L.ix g ((↑g_1 : Int) + (1 : Int)))).x =
 ((L.moved l m).g (nat_lit 1)).x) && Decidable.decide ((L.plc (L.Sq.mk g fun (i : Nat) ↦ (L.moved l m).g i) (L.ix g ((↑g_1 : Int) + (1 : Int)))).y = ((L.moved l m).g (nat_lit 1)).y) else Bool.false) = Bool.true → (0 : Int) ≤ (↑g_1 : Int) ∧ (↑g_1 : Int) < (↑g : Int)) ∧ (((!bif Decidable.decide ((L.plc (L.Sq.mk g fun (i : Nat) ↦ (L.moved l m).g i) (Int.toNat (↑g_1 : Int))).x = ((L.moved l m).g
 (nat_lit 0)).x) && Decidable.decide ((L.plc (L.Sq.mk g fun (i : Nat) ↦ (L.moved l m).g i) (Int.toNat (↑g_1 : Int))).y = ((L.moved l m).g (nat_lit 0)).y) then Decidable.decide ((L.plc (L.Sq.mk g fun (i : Nat) ↦ (L.moved l m).g i) (L.ix g ((↑g_1 : Int) + (1 : Int)))).x = ((L.moved l m).g (nat_lit 1)).x) && Decidable.decide ((L.plc (L.Sq.mk g fun (i : Nat) ↦ (L.moved l m).g i) (L.ix g ((↑g_1 : Int) +
 (1 : Int)))).y = ((L.moved l m).g (nat_lit 1)).y) else Bool.false) && (Decidable.decide ((L.plc (L.Sq.mk g fun (i : Nat) ↦ (L.moved l m).g i) (Int.toNat (↑g_1 : Int))).x = ((L.moved l m).g (nat_lit 1)).x) && Decidable.decide ((L.plc (L.Sq.mk g fun (i : Nat) ↦ (L.moved l m).g i) (Int.toNat (↑g_1 : Int))).y = ((L.moved l m).g (nat_lit 1)).y))) = Bool.true → Go.SE.InK Go.IntKind.i64 ((↑g_1 : Int) +
 (1 : Int))) ∧ (((!bif Decidable.decide ((L.plc (L.Sq.mk g fun (i : Nat) ↦ (L.moved l m).g i) (Int.toNat (↑g_1 : Int))).x = ((L.moved l m).g (nat_lit 0)).x) && Decidable.decide ((L.plc (L.Sq.mk g fun (i : Nat) ↦ (L.moved l m).g i) (Int.toNat (↑g_1 : Int))).y = ((L.moved l m).g (nat_lit 0)).y) then Decidable.decide ((L.plc (L.Sq.mk g fun (i : Nat) ↦ (L.moved l m).g i) (L.ix g ((↑g_1 : Int) + (1 :
 Int)))).x = ((L.moved l m).g (nat_lit 1)).x) && Decidable.decide ((L.plc (L.Sq.mk g fun (i : Nat) ↦ (L.moved l m).g i) (L.ix g ((↑g_1 : Int) + (1 : Int)))).y = ((L.moved l m).g (nat_lit 1)).y) else Bool.false) && (Decidable.decide ((L.plc (L.Sq.mk g fun (i : Nat) ↦ (L.moved l m).g i) (Int.toNat (↑g_1 : Int))).x = ((L.moved l m).g (nat_lit 1)).x) && Decidable.decide ((L.plc (L.Sq.mk g fun (i : Nat)
 ↦ (L.moved l m).g i) (Int.toNat (↑g_1 : Int))).y = ((L.moved l m).g (nat_lit 1)).y))) = Bool.true → (∀ (i : Nat), i < g → [Go.SE.SV.int Go.IntKind.i64 (L.plc (L.Sq.mk g fun (i : Nat) ↦ (L.moved l m).g i) i).x, Go.SE.SV.int Go.IntKind.i64 (L.plc (L.Sq.mk g fun (i : Nat) ↦ (L.moved l m).g i) i).y] = [Go.SE.SV.int Go.IntKind.i64 (L.plc (L.Sq.mk g fun (i : Nat) ↦ (L.moved l m).g i) i).x, Go.SE.SV.int
 Go.IntKind.i64 (L.plc (L.Sq.mk g fun (i : Nat) ↦ (L.moved l m).g i) i).y]) ∧ (1 : Nat) ≤ g ∧ g ≤ (1000000 : Nat) ∧ (-1000000 : Int) ≤ (↑g_1 : Int) + (1 : Int) ∧ (↑g_1 : Int) + (1 : Int) ≤ (1000000 : Int)) ∧ ((bif bif Decidable.decide ((L.plc (L.Sq.mk g fun (i : Nat) ↦ (L.moved l m).g i) (Int.toNat (↑g_1 : Int))).x = ((L.moved l m).g (nat_lit 0)).x) && Decidable.decide ((L.plc (L.Sq.mk g fun (i :
 Nat) ↦ (L.moved l m).g i) (Int.toNat (↑g_1 : Int))).y = ((L.moved l m).g (nat_lit 0)).y) then Decidable.decide ((L.plc (L.Sq.mk g fun (i : Nat) ↦ (L.moved l m).g i) (L.ix g ((↑g_1 : Int) + (1 : Int)))).x = ((L.moved l m).g (nat_lit 1)).x) && Decidable.decide ((L.plc (L.Sq.mk g fun (i : Nat) ↦ (L.moved l m).g i) (L.ix g ((↑g_1 : Int) + (1 : Int)))).y = ((L.moved l m).g (nat_lit 1)).y) else
 Bool.false then Bool.true else bif Decidable.decide ((L.plc (L.Sq.mk g fun (i : Nat) ↦ (L.moved l m).g i) (Int.toNat (↑g_1 : Int))).x = ((L.moved l m).g (nat_lit 1)).x) && Decidable.decide ((L.plc (L.Sq.mk g fun (i : Nat) ↦ (L.moved l m).g i) (Int.toNat (↑g_1 : Int))).y = ((L.moved l m).g (nat_lit 1)).y) then Decidable.decide ((L.plc (L.Sq.mk g fun (i : Nat) ↦ (L.moved l m).g i) (L.ix g ((↑g_1 :
 Int) + (1 : Int)))).x = ((L.moved l m).g (nat_lit 0)).x) && Decidable.decide ((L.plc (L.Sq.mk g fun (i : Nat) ↦ (L.moved l m).g i) (L.ix g ((↑g_1 : Int) + (1 : Int)))).y = ((L.moved l m).g (nat_lit 0)).y) else Bool.false) = Bool.true → (g = L.movN l m ∧ ∀ (i : Nat), i < g → [Go.SE.SV.int Go.IntKind.i64 (L.plc (L.Sq.mk g fun (i : Nat) ↦ (L.moved l m).g i) i).x, Go.SE.SV.int Go.IntKind.i64 (L.plc
 (L.Sq.mk g fun (i : Nat) ↦ (L.moved l m).g i) i).y] = [Go.SE.SV.int Go.IntKind.i64 ((L.norm (L.moved l m)).g i).x, Go.SE.SV.int Go.IntKind.i64 ((L.norm (L.moved l m)).g i).y]) ∧ Go.SE.SV.agg [Go.SE.SV.int Go.IntKind.i64 (↑g_1 : Int), Go.SE.SV.bool m.mirror] = Go.SE.SV.agg [Go.SE.SV.int Go.IntKind.i64 (L.movS l m).shift, Go.SE.SV.bool (L.movS l m).back] ∧ (0 : Int) = L.movE l m) ∧ ((bif bif
 Decidable.decide ((L.plc (L.Sq.mk g fun (i : Nat) ↦ (L.moved l m).g i) (Int.toNat (↑g_1 : Int))).x = ((L.moved l m).g (nat_lit 0)).x) && Decidable.decide ((L.plc (L.Sq.mk g fun (i : Nat) ↦ (L.moved l m).g i) (Int.toNat (↑g_1 : Int))).y = ((L.moved l m).g (nat_lit 0)).y) then Decidable.decide ((L.plc (L.Sq.mk g fun (i : Nat) ↦ (L.moved l m).g i) (L.ix g ((↑g_1 : Int) + (1 : Int)))).x = ((L.moved l
 m).g (nat_lit 1)).x) && Decidable.decide ((L.plc (L.Sq.mk g fun (i : Nat) ↦ (L.moved l m).g i) (L.ix g ((↑g_1 : Int) + (1 : Int)))).y = ((L.moved l m).g (nat_lit 1)).y) else Bool.false then Bool.true else bif Decidable.decide ((L.plc (L.Sq.mk g fun (i : Nat) ↦ (L.moved l m).g i) (Int.toNat (↑g_1 : Int))).x = ((L.moved l m).g (nat_lit 1)).x) && Decidable.decide ((L.plc (L.Sq.mk g fun (i : Nat) ↦
 (L.moved l m).g i) (Int.toNat (↑g_1 : Int))).y = ((L.moved l m).g (nat_lit 1)).y) then Decidable.decide ((L.plc (L.Sq.mk g fun (i : Nat) ↦ (L.moved l m).g i) (L.ix g ((↑g_1 : Int) + (1 : Int)))).x = ((L.moved l m).g (nat_lit 0)).x) && Decidable.decide ((L.plc (L.Sq.mk g fun (i : Nat) ↦ (L.moved l m).g i) (L.ix g ((↑g_1 : Int) + (1 : Int)))).y = ((L.moved l m).g (nat_lit 0)).y) else Bool.false) =
 Bool.false → Go.SE.InK Go.IntKind.i64 ((↑g_1 : Int) + (1 : Int)) ∧ ∃ (g' : Nat), (↑g_1 : Int) + (1 : Int) = (↑g' : Int) ∧ (g = g ∧ ∀ (i : Nat), i < g → [Go.SE.SV.int Go.IntKind.i64 (L.plc (L.Sq.mk g fun (i : Nat) ↦ (L.moved l m).g i) i).x, Go.SE.SV.int Go.IntKind.i64 (L.plc (L.Sq.mk g fun (i : Nat) ↦ (L.moved l m).g i) i).y] = [Go.SE.SV.int Go.IntKind.i64 (L.plc (L.Sq.mk g fun (i : Nat) ↦ (L.moved
 l m).g i) i).x, Go.SE.SV.int Go.IntKind.i64 (L.plc (L.Sq.mk g fun (i : Nat) ↦ (L.moved l m).g i) i).y]) ∧ nat_lit 0 = nat_lit 0 ∧ nat_lit 0 = nat_lit 0 ∧ nat_lit 0 = nat_lit 0 ∧ Go.SE.SV.ref [Go.SE.SV.int Go.IntKind.i64 m.turn, Go.SE.SV.bool m.mirror, Go.SE.SV.int Go.IntKind.i64 m.by_.x, Go.SE.SV.int Go.IntKind.i64 m.by_.y] (nat_lit 0) = Go.SE.SV.ref [Go.SE.SV.int Go.IntKind.i64 m.turn,
 Go.SE.SV.bool m.mirror, Go.SE.SV.int Go.IntKind.i64 m.by_.x, Go.SE.SV.int Go.IntKind.i64 m.by_.y] (nat_lit 0) ∧ ((L.moved l m).g (nat_lit 1)).x = ((L.moved l m).g (nat_lit 1)).x ∧ ((L.moved l m).g (nat_lit 1)).y = ((L.moved l m).g (nat_lit 1)).y ∧ ((L.moved l m).g (nat_lit 0)).x = ((L.moved l m).g (nat_lit 0)).x ∧ ((L.moved l m).g (nat_lit 0)).y = ((L.moved l m).g (nat_lit 0)).y ∧ (0 : Int) = (0 :
 Int) ∧ Bool.false = Bool.false ∧ (g' ≤ l.n ∧ (↑g' : Int) ≤ (L.movS l m).shift) ∧ l.n - g' < l.n - g_1)) ∧ (Decidable.decide ((↑g_1 : Int) < (↑g : Int)) = Bool.false → (g = L.movN l m ∧ ∀ (i : Nat), i < g → [Go.SE.SV.int Go.IntKind.i64 (L.plc (L.Sq.mk g fun (i : Nat) ↦ (L.moved l m).g i) i).x, Go.SE.SV.int Go.IntKind.i64 (L.plc (L.Sq.mk g fun (i : Nat) ↦ (L.moved l m).g i) i).y] = [Go.SE.SV.int
 Go.IntKind.i64 ((L.norm (L.moved l m)).g i).x, Go.SE.SV.int Go.IntKind.i64 ((L.norm (L.moved l m)).g i).y]) ∧ Go.SE.SV.agg [Go.SE.SV.int Go.IntKind.i64 (0 : Int), Go.SE.SV.bool Bool.false] = Go.SE.SV.agg [Go.SE.SV.int Go.IntKind.i64 (L.movS l m).shift, Go.SE.SV.bool (L.movS l m).back] ∧ (0 : Int) = L.movE l m)))))) (by kernel_rfl) (by
    have hn : l.n ≤ 1000000 := hp
    refine ⟨⟨fun _ _ => rfl, trivial⟩, fun _ => trivial, fun h => ?_, fun h => ?_⟩
    · have h : (bif !L.validOutline l then true else !L.validM m) = true := h
      have e : L.movE l m = 1 := by unfold L.movE; rw [h]; rfl
      unfold L.movN L.movS; rw [e]; exact ⟨rfl, rfl, rfl⟩
    have h0 : (bif !L.validOutline l then true else !L.validM m) = false := h
    have h := h0
    rw [bor, Bool.or_eq_false_iff] at h
    have hv := notF h.1
    have hm := notF h.2
    obtain ⟨n3, n24, _, _⟩ := validOutline_of hv
    have hvp := (outline_all hv).1
    refine ⟨⟨(0 : Nat), rfl, ⟨rfl, fun i hi => absurd hi (Nat.not_lt_zero _)⟩, Nat.zero_le _⟩, fun g hg => ⟨fun hlt => ?_, fun hge => ?_⟩⟩
    · have hlt : (g : Int) < (l.n : Int) := of_decide_eq_true hlt
      have e0 : ((g : Int)).toNat = g := Int.toNat_natCast g
      rw [e0]
      refine ⟨⟨by omega, hlt⟩, ⟨bd_of_valid (hvp g (by omega)), hm⟩, show (g + 1) * 16 ≤ 140737488355328 by omega, InK.of (by omega) (by omega), g + 1, by omega, rfl, rfl, ⟨rfl, fun _ _ => rfl⟩, ⟨rfl, fun i hi => ?_⟩, rfl, rfl, by omega, by omega⟩
      have hi : i < g + 1 := hi
      unfold appGet
      by_cases h' : i < g
      · rw [if_pos h']
      · have : i = g := by omega
        rw [if_neg h', this]; rfl
    have hge : ¬ (g : Int) < (l.n : Int) := of_decide_eq_false hge
    obtain rfl : g = l.n := by omega
    refine ⟨⟨fun _ _ => rfl, hn⟩, fun h2 => ?_, fun h2 => ?_⟩
    · have h2 : L.validPts (L.moved l m) = false := notT h2
      have e : L.movE l m = 2 := by unfold L.movE; rw [h0, h2]; rfl
      unfold L.movN L.movS; rw [e]; exact ⟨rfl, rfl, rfl⟩
    have h2 : L.validPts (L.moved l m) = true := notF h2
    have e : L.movE l m = 0 := by unfold L.movE; rw [h0, h2]; rfl
    have eN : l.n = L.movN l m := by unfold L.movN; rw [e]; rfl
    obtain ⟨s0, s1, hback, _⟩ := movS_of hv e
    have hP := plc_norm (m := m) hv
    unfold L.mrev at hP
    refine ⟨⟨by omega, by omega⟩, show 0 < l.n by omega, ⟨by omega, by omega⟩, show 1 < l.n by omega, fun hk => ?_, fun hk => ?_⟩
    · rw [hk, cond_true] at hP
      refine ⟨InK.of (by omega) (by omega), ⟨(0 : Nat), by omega, ⟨rfl, fun i hi => absurd hi (Nat.not_lt_zero _)⟩, Nat.zero_le _⟩, fun g hg => ⟨fun hlt => ?_, fun hge => ?_⟩⟩
      · have hlt : (0 : Int) ≤ (l.n : Int) - 1 - (g : Int) := of_decide_eq_true hlt
        have e1 : ((l.n : Int) - 1 - (g : Int)).toNat = l.n - 1 - g := by omega
        rw [e1]
        refine ⟨⟨by omega, by omega⟩, by omega, show (g + 1) * 16 ≤ 140737488355328 by omega, InK.of (by omega) (by omega), g + 1, by omega, rfl, rfl, rfl, rfl, ⟨rfl, fun i hi => ?_⟩, rfl, rfl, rfl, rfl, ⟨rfl, fun _ _ => rfl⟩, rfl, rfl, by omega, by omega⟩
        have hi : i < g + 1 := hi
        unfold appGet
        by_cases h' : i < g
        · rw [if_pos h']
        · have : i = g := by omega
          rw [if_neg h', this]; rfl
      have hge : ¬ (0 : Int) ≤ (l.n : Int) - 1 - (g : Int) := of_decide_eq_false hge
      obtain rfl : g = l.n := by omega
      refine ⟨⟨fun _ _ => rfl, by omega, by omega⟩, fun t _ => ⟨fun _ _ => rfl, ⟨(0 : Nat), rfl, Nat.zero_le _, s0⟩, fun g hg => ⟨fun hlt => ?_, fun hge => ?_⟩⟩⟩
      · have hlt : (g : Int) < (l.n : Int) := of_decide_eq_true hlt
        have e0 : ((g : Int)).toNat = g := Int.toNat_natCast g
        rw [e0]
        have hgl : g < l.n := by omega
        have hI := hit_iff (m := m) hv e hgl
        rw [← hP] at hI
        refine ⟨⟨by omega, hlt⟩, fun _ => InK.of (by omega) (by omega), fun _ => ⟨fun _ _ => rfl, by omega, by omega, by omega, by omega⟩, fun _ => ⟨by omega, hlt⟩, fun _ => InK.of (by omega) (by omega), fun _ => ⟨fun _ _ => rfl, by omega, by omega, by omega, by omega⟩, fun hc => ?_, fun hc => ?_⟩
        · have hc : L.edgeHit (L.plc (L.revG (L.moved l m))) l.n ((L.moved l m).g 0) ((L.moved l m).g 1) g = true := hc
          have hc := hI.1 hc
          refine ⟨⟨eN, fun i _ => ?_⟩, by rw [hback, ← hc], e.symm⟩
          show [SV.int .i64 (L.plc (L.revG (L.moved l m)) i).x, SV.int .i64 (L.plc (L.revG (L.moved l m)) i).y] = _
          rw [hP]
        · have hc : L.edgeHit (L.plc (L.revG (L.moved l m))) l.n ((L.moved l m).g 0) ((L.moved l m).g 1) g = false := hc
          have hne : (g : Int) ≠ (L.movS l m).shift := fun h => by rw [hI.2 h] at hc; cases hc
          exact ⟨InK.of (by omega) (by omega), g + 1, by omega, ⟨rfl, fun _ _ => rfl⟩, rfl, rfl, rfl, rfl, rfl, rfl, rfl, rfl, rfl, rfl, ⟨by omega, by omega⟩, by omega⟩
      · have hge : ¬ (g : Int) < (l.n : Int) := of_decide_eq_false hge
        exfalso; omega
    · rw [hk, cond_false] at hP
      refine ⟨⟨fun _ _ => rfl, by omega, by omega⟩, fun t _ => ⟨fun _ _ => rfl, ⟨(0 : Nat), rfl, Nat.zero_le _, s0⟩, fun g hg => ⟨fun hlt => ?_, fun hge => ?_⟩⟩⟩
      · have hlt : (g : Int) < (l.n : Int) := of_decide_eq_true hlt
        have e0 : ((g : Int)).toNat = g := Int.toNat_natCast g
        rw [e0]
        have hgl : g < l.n := by omega
        have hI := hit_iff (m := m) hv e hgl
        rw [← hP] at hI
        refine ⟨⟨by omega, hlt⟩, fun _ => InK.of (by omega) (by omega), fun _ => ⟨fun _ _ => rfl, by omega, by omega, by omega, by omega⟩, fun _ => ⟨by omega, hlt⟩, fun _ => InK.of (by omega) (by omega), fun _ => ⟨fun _ _ => rfl, by omega, by omega, by omega, by omega⟩, fun hc => ?_, fun hc => ?_⟩
        · have hc : L.edgeHit (L.plc (L.moved l m)) l.n ((L.moved l m).g 0) ((L.moved l m).g 1) g = true := hc
          have hc := hI.1 hc
          refine ⟨⟨eN, fun i _ => ?_⟩, by rw [hback, ← hc], e.symm⟩
          show [SV.int .i64 (L.plc (L.moved l m) i).x, SV.int .i64 (L.plc (L.moved l m) i).y] = _
          rw [hP]
        · have hc : L.edgeHit (L.plc (L.moved l m)) l.n ((L.moved l m).g 0) ((L.moved l m).g 1) g = false := hc
          have hne : (g : Int) ≠ (L.movS l m).shift := fun h => by rw [hI.2 h] at hc; cases hc
          exact ⟨InK.of (by omega) (by omega), g + 1, by omega, ⟨rfl, fun _ _ => rfl⟩, rfl, rfl, rfl, rfl, rfl, rfl, rfl, rfl, rfl, rfl, ⟨by omega, by omega⟩, by omega⟩
      · have hge : ¬ (g : Int) < (l.n : Int) := of_decide_eq_false hge
        exfalso; omega)
theorem r1_Move_ok : SpecOk Tryz.prog 22 r1_Move_S := fnX Tryz.func22 (c := bodyOf Tryz.f22) (by kernel_rfl) mixed (fun args p r hs hp => by
  unfold r1_Move_s at hs
  split at hs
  · cases hs; exact ⟨_, _, r1_Move_vc _ _ hp.2, (.p (.sl hp.1) (.same _ .nil)), ⟨show SpecsL Tryz.prog _ from (SpecsL.cons r1_ValidOutline_ok r1_ValidOutline_en (SpecsL.cons r1_ValidMotion_ok r1_ValidMotion_en (SpecsL.cons r1_Moved_ok r1_Moved_en (SpecsL.cons r1_points_ok r1_points_en (SpecsL.cons r1_placed_ok r1_placed_en (SpecsL.cons r1_at_ok r1_at_en SpecsL.nil)))))), rfl, ⟨show ItersL Tryz.prog _ from ItersL.nil, (TrsOk.none (fun _ => rfl))⟩⟩⟩
  · cases hs)
theorem r1_Move_en : Enters Tryz.prog 22 := fun args w => by kernel_rfl
def p_ComposeM_p (m : L.Motion) (n : L.Motion) : Prop := True
def p_ComposeM_r (m : L.Motion) (n : L.Motion) : SV := .tup [(.agg [.int .i64 ((L.cmV m n).turn), .bool ((L.cmV m n).mirror), .int .i64 ((L.cmV m n).by_.x), .int .i64 ((L.cmV m n).by_.y)]), .int .i64 (L.cmE m n)]
def p_ComposeM_s : List EV → Option (Prop × SV)
  | [.p (.agg [.int .i64 m_turn, .bool m_mirror, .int .i64 m_by__x, .int .i64 m_by__y]), .p (.agg [.int .i64 n_turn, .bool n_mirror, .int .i64 n_by__x, .int .i64 n_by__y])] => some (p_ComposeM_p (⟨m_turn, m_mirror, (⟨m_by__x, m_by__y⟩ : L.Pt)⟩ : L.Motion) (⟨n_turn, n_mirror, (⟨n_by__x, n_by__y⟩ : L.Pt)⟩ : L.Motion), p_ComposeM_r (⟨m_turn, m_mirror, (⟨m_by__x, m_by__y⟩ : L.Pt)⟩ : L.Motion) (⟨n_turn, n_mirror, (⟨n_by__x, n_by__y⟩ : L.Pt)⟩ : L.Motion))
  | _ => none
abbrev p_ComposeM_S : SE.Spec := (specO p_ComposeM_s)
def p_ComposeM_C : Cfg := { muts := [4, 7], frz := lookN [], specs := lookS [(24, p_ValidMotion_S), (69, p_apply_S)], loops := lookL [], iters := lookI [], rfs := lookR [], nils := lookM [] }
theorem p_ComposeM_vc (m : L.Motion) (n : L.Motion) (hp : p_ComposeM_p m n) : vc Tryz.prog (p_ComposeM_C) (bodyOf Tryz.f26) (st0 Tryz.f26 [.p (.agg [.int .i64 m.turn, .bool m.mirror, .int .i64 m.by_.x, .int .i64 m.by_.y]), .p (.agg [.int .i64 n.turn, .bool n.mirror, .int .i64 n.by_.x, .int .i64 n.by_.y])]) (retFn Tryz.prog Tryz.f26 (p_ComposeM_r m n)) :=
  @Eq.mpr _ (True ∧ ((!!L.validM m) = Bool.true → True) ∧ ((bif !L.validM m then Bool.true else !L.validM n) = Bool.true → Go.SE.SV.agg [Go.SE.SV.int Go.IntKind.i64 (0 : Int), Go.SE.SV.bool Bool.false, Go.SE.SV.int Go.IntKind.i64 (0 : Int), Go.SE.SV.int Go.IntKind.i64 (0 : Int)] = Go.SE.SV.agg [Go.SE.SV.int Go.IntKind.i64 (L.cmV m n).turn, Go.SE.SV.bool (L.cmV m n).mirror, Go.SE.SV.int Go.IntKind.i64 (L.cmV m
 n).by_.x, Go.SE.SV.int Go.IntKind.i64 (L.cmV m n).by_.y] ∧ (1 : Int) = L.cmE m n) ∧ ((bif !L.validM m then Bool.true else !L.validM n) = Bool.false → (n.mirror = Bool.true → Go.SE.InK Go.IntKind.i64 ((4 : Int) - m.turn) ∧ Go.SE.InK Go.IntKind.i64 ((4 : Int) - m.turn + n.turn) ∧ (4 : Int) ≠ (0 : Int) ∧ (L.bd m.by_ ∧ L.validM n = Bool.true) ∧ True ∧ ((!L.validM (L.Motion.mk (Int.tmod ((4 : Int) -
 m.turn + n.turn) (4 : Int)) (!m.mirror == n.mirror) (L.apply n m.by_))) = Bool.true → Go.SE.SV.agg [Go.SE.SV.int Go.IntKind.i64 (0 : Int), Go.SE.SV.bool Bool.false, Go.SE.SV.int Go.IntKind.i64 (0 : Int), Go.SE.SV.int Go.IntKind.i64 (0 : Int)] = Go.SE.SV.agg [Go.SE.SV.int Go.IntKind.i64 (L.cmV m n).turn, Go.SE.SV.bool (L.cmV m n).mirror, Go.SE.SV.int Go.IntKind.i64 (L.cmV m n).by_.x, Go.SE.SV.int
 Go.IntKind.i64 (L.cmV m n).by_.y] ∧ (2 : Int) = L.cmE m n) ∧ ((!L.validM (L.Motion.mk (Int.tmod ((4 : Int) - m.turn + n.turn) (4 : Int)) (!m.mirror == n.mirror) (L.apply n m.by_))) = Bool.false → Go.SE.SV.agg [Go.SE.SV.int Go.IntKind.i64 (Int.tmod ((4 : Int) - m.turn + n.turn) (4 : Int)), Go.SE.SV.bool !m.mirror == n.mirror, Go.SE.SV.int Go.IntKind.i64 (L.apply n m.by_).x, Go.SE.SV.int
 Go.IntKind.i64 (L.apply n m.by_).y] = Go.SE.SV.agg [Go.SE.SV.int Go.IntKind.i64 (L.cmV m n).turn, Go.SE.SV.bool (L.cmV m n).mirror, Go.SE.SV.int Go.IntKind.i64 (L.cmV m n).by_.x, Go.SE.SV.int Go.IntKind.i64 (L.cmV m n).by_.y] ∧ (0 : Int) = L.cmE m n)) ∧ (n.mirror = Bool.false → Go.SE.InK Go.IntKind.i64 (m.turn + n.turn) ∧ (4 : Int) ≠ (0 : Int) ∧ (L.bd m.by_ ∧ L.validM n = Bool.true) ∧ True ∧
 ((!L.validM (L.Motion.mk (Int.tmod (m.turn + n.turn) (4 : Int)) (!m.mirror == n.mirror) (L.apply n m.by_))) = Bool.true → Go.SE.SV.agg [Go.SE.SV.int Go.IntKind.i64 (0 : Int), Go.SE.SV.bool Bool.false, Go.SE.SV.int Go.IntKind.i64 (0 : Int), Go.SE.SV.int Go.IntKind.i64 (0 : Int)] = Go.SE.SV.agg [Go.SE.SV.int Go.IntKind.i64 (L.cmV m n).turn, Go.SE.SV.bool (L.cmV m n).mirror, Go.SE.SV.int
 Go.IntKind.i64 (L.cmV m n).by_.x, Go.SE.SV.int Go.IntKind.i64 (L.cmV m n).by_.y] ∧ (2 : Int) = L.cmE m n) ∧ ((!L.validM (L.Motion.mk (Int.tmod (m.turn + n.turn) (4 : Int)) (!m.mirror == n.mirror) (L.apply n m.by_))) = Bool.false → Go.SE.SV.agg [Go.SE.SV.int Go.IntKind.i64 (Int.tmod (m.turn + n.turn) (4 : Int)), Go.SE.SV.bool !m.mirror == n.mirror, Go.SE.SV.int Go.IntKind.i64 (L.apply n m.by_).x,
 Go.SE.SV.int Go.IntKind.i64 (L.apply n m.by_).y] = Go.SE.SV.agg [Go.SE.SV.int Go.IntKind.i64 (L.cmV m n).turn, Go.SE.SV.bool (L.cmV m n).mirror, Go.SE.SV.int Go.IntKind.i64 (L.cmV m n).by_.x, Go.SE.SV.int Go.IntKind.i64 (L.cmV m n).by_.y] ∧ (0 : Int) = L.cmE m n)))) (by kernel_rfl) (by
    refine ⟨trivial, fun _ => trivial, fun h => ?_, fun h => ?_⟩
    · have e : L.cmE m n = 1 := by unfold L.cmE; rw [h]; rfl
      unfold L.cmV; rw [e]; exact ⟨rfl, rfl⟩
    have h0 := h
    rw [bor, Bool.or_eq_false_iff] at h
    have hn := notF h.2
    have a := validM_iff.1 (notF h.1)
    have b := validM_iff.1 hn
    have hb : L.bd m.by_ := by unfold L.bd; omega
    refine ⟨fun hk => ?_, fun hk => ?_⟩
    · have w : (⟨Int.tmod (4 - m.turn + n.turn) 4, !(m.mirror == n.mirror), L.apply n m.by_⟩ : L.Motion) = L.cmM m n := by unfold L.cmM; rw [hk]; rfl
      refine ⟨InK.of (by omega) (by omega), InK.of (by omega) (by omega), by omega, ⟨hb, hn⟩, trivial, fun h1 => ?_, fun h1 => ?_⟩
      · rw [w] at h1
        have e : L.cmE m n = 2 := by unfold L.cmE; rw [h0, h1]; rfl
        unfold L.cmV; rw [e]; exact ⟨rfl, rfl⟩
      · rw [w] at h1
        have e : L.cmE m n = 0 := by unfold L.cmE; rw [h0, h1]; rfl
        refine ⟨?_, e.symm⟩
        unfold L.cmV; rw [e, ← w]; rfl
    · have w : (⟨Int.tmod (m.turn + n.turn) 4, !(m.mirror == n.mirror), L.apply n m.by_⟩ : L.Motion) = L.cmM m n := by unfold L.cmM; rw [hk]; rfl
      refine ⟨InK.of (by omega) (by omega), by omega, ⟨hb, hn⟩, trivial, fun h1 => ?_, fun h1 => ?_⟩
      · rw [w] at h1
        have e : L.cmE m n = 2 := by unfold L.cmE; rw [h0, h1]; rfl
        unfold L.cmV; rw [e]; exact ⟨rfl, rfl⟩
      · rw [w] at h1
        have e : L.cmE m n = 0 := by unfold L.cmE; rw [h0, h1]; rfl
        refine ⟨?_, e.symm⟩
        unfold L.cmV; rw [e, ← w]; rfl)
theorem p_ComposeM_ok : SpecOk Tryz.prog 26 p_ComposeM_S := fnX Tryz.func26 (c := bodyOf Tryz.f26) (by kernel_rfl) mixed (fun args p r hs hp => by
  unfold p_ComposeM_s at hs
  split at hs
  · cases hs; exact ⟨_, _, p_ComposeM_vc _ _ hp, (.same _ (.same _ .nil)), ⟨show SpecsL Tryz.prog _ from (SpecsL.cons p_ValidMotion_ok p_ValidMotion_en (SpecsL.cons p_apply_ok p_apply_en SpecsL.nil)), rfl, ⟨show ItersL Tryz.prog _ from ItersL.nil, (TrsOk.none (fun _ => rfl))⟩⟩⟩
  · cases hs)
theorem p_ComposeM_en : Enters Tryz.prog 26 := fun args w => by kernel_rfl
def r1_ComposeM_p (m : L.Motion) (n : L.Motion) : Prop := True
def r1_ComposeM_r (m : L.Motion) (n : L.Motion) : SV := .tup [(.agg [.int .i64 ((L.cmV m n).turn), .bool ((L.cmV m n).mirror), .int .i64 ((L.cmV m n).by_.x), .int .i64 ((L.cmV m n).by_.y)]), .int .i64 (L.cmE m n)]
def r1_ComposeM_s : List EV → Option (Prop × SV)
  | [.p (.agg [.int .i64 m_turn, .bool m_mirror, .int .i64 m_by__x, .int .i64 m_by__y]), .p (.agg [.int .i64 n_turn, .bool n_mirror, .int .i64 n_by__x, .int .i64 n_by__y])] => some (r1_ComposeM_p (⟨m_turn, m_mirror, (⟨m_by__x, m_by__y⟩ : L.Pt)⟩ : L.Motion) (⟨n_turn, n_mirror, (⟨n_by__x, n_by__y⟩ : L.Pt)⟩ : L.Motion), r1_ComposeM_r (⟨m_turn, m_mirror, (⟨m_by__x, m_by__y⟩ : L.Pt)⟩ : L.Motion) (⟨n_turn, n_mirror, (⟨n_by__x, n_by__y⟩ : L.Pt)⟩ : L.Motion))
  | _ => none
abbrev r1_ComposeM_S : SE.Spec := (specO r1_ComposeM_s)
def r1_ComposeM_C : Cfg := { muts := [4, 7], frz := lookN [], specs := lookS [(25, r1_ValidMotion_S), (73, r1_Moved_S)], loops := lookL [], iters := lookI [], rfs := lookR [], nils := lookM [] }
theorem r1_ComposeM_vc (m : L.Motion) (n : L.Motion) (hp : r1_ComposeM_p m n) : vc Tryz.prog (r1_ComposeM_C) (bodyOf Tryz.f27) (st0 Tryz.f27 [.p (.agg [.int .i64 m.turn, .bool m.mirror, .int .i64 m.by_.x, .int .i64 m.by_.y]), .p (.agg [.int .i64 n.turn, .bool n.mirror, .int .i64 n.by_.x, .int .i64 n.by_.y])]) (retFn Tryz.prog Tryz.f27 (r1_ComposeM_r m n)) :=
  @Eq.mpr _ (True ∧ ((!!L.validM m) = Bool.true → True) ∧ ((bif !L.validM m then Bool.true else !L.validM n) = Bool.true → Go.SE.SV.agg [Go.SE.SV.int Go.IntKind.i64 (0 : Int), Go.SE.SV.bool Bool.false, Go.SE.SV.int Go.IntKind.i64 (0 : Int), Go.SE.SV.int Go.IntKind.i64 (0 : Int)] = Go.SE.SV.agg [Go.SE.SV.int Go.IntKind.i64 (L.cmV m n).turn, Go.SE.SV.bool (L.cmV m n).mirror, Go.SE.SV.int Go.IntKind.i64 (L.cmV m
 n).by_.x, Go.SE.SV.int Go.IntKind.i64 (L.cmV m n).by_.y] ∧ (1 : Int) = L.cmE m n) ∧ ((bif !L.validM m then Bool.true else !L.validM n) = Bool.false → Go.SE.InK Go.IntKind.i64 (n.turn + m.turn) ∧ (n.mirror = Bool.true → Go.SE.InK Go.IntKind.i64 (n.turn + (4 : Int)) ∧ Go.SE.InK Go.IntKind.i64 (n.turn + (4 : Int) - m.turn) ∧ (4 : Int) ≠ (0 : Int) ∧ (L.bd m.by_ ∧ L.validM n = Bool.true) ∧ True ∧
 ((!L.validM (L.Motion.mk (Int.tmod (n.turn + (4 : Int) - m.turn) (4 : Int)) (!m.mirror == n.mirror) (L.apply n m.by_))) = Bool.true → Go.SE.SV.agg [Go.SE.SV.int Go.IntKind.i64 (0 : Int), Go.SE.SV.bool Bool.false, Go.SE.SV.int Go.IntKind.i64 (0 : Int), Go.SE.SV.int Go.IntKind.i64 (0 : Int)] = Go.SE.SV.agg [Go.SE.SV.int Go.IntKind.i64 (L.cmV m n).turn, Go.SE.SV.bool (L.cmV m n).mirror, Go.SE.SV.int
 Go.IntKind.i64 (L.cmV m n).by_.x, Go.SE.SV.int Go.IntKind.i64 (L.cmV m n).by_.y] ∧ (2 : Int) = L.cmE m n) ∧ ((!L.validM (L.Motion.mk (Int.tmod (n.turn + (4 : Int) - m.turn) (4 : Int)) (!m.mirror == n.mirror) (L.apply n m.by_))) = Bool.false → Go.SE.SV.agg [Go.SE.SV.int Go.IntKind.i64 (Int.tmod (n.turn + (4 : Int) - m.turn) (4 : Int)), Go.SE.SV.bool !m.mirror == n.mirror, Go.SE.SV.int
 Go.IntKind.i64 (L.apply n m.by_).x, Go.SE.SV.int Go.IntKind.i64 (L.apply n m.by_).y] = Go.SE.SV.agg [Go.SE.SV.int Go.IntKind.i64 (L.cmV m n).turn, Go.SE.SV.bool (L.cmV m n).mirror, Go.SE.SV.int Go.IntKind.i64 (L.cmV m n).by_.x, Go.SE.SV.int Go.IntKind.i64 (L.cmV m n).by_.y] ∧ (0 : Int) = L.cmE m n)) ∧ (n.mirror = Bool.false → (4 : Int) ≠ (0 : Int) ∧ (L.bd m.by_ ∧ L.validM n = Bool.true) ∧ True ∧
 ((!L.validM (L.Motion.mk (Int.tmod (n.turn + m.turn) (4 : Int)) (!m.mirror == n.mirror) (L.apply n m.by_))) = Bool.true → Go.SE.SV.agg [Go.SE.SV.int Go.IntKind.i64 (0 : Int), Go.SE.SV.bool Bool.false, Go.SE.SV.int Go.IntKind.i64 (0 : Int), Go.SE.SV.int Go.IntKind.i64 (0 : Int)] = Go.SE.SV.agg [Go.SE.SV.int Go.IntKind.i64 (L.cmV m n).turn, Go.SE.SV.bool (L.cmV m n).mirror, Go.SE.SV.int
 Go.IntKind.i64 (L.cmV m n).by_.x, Go.SE.SV.int Go.IntKind.i64 (L.cmV m n).by_.y] ∧ (2 : Int) = L.cmE m n) ∧ ((!L.validM (L.Motion.mk (Int.tmod (n.turn + m.turn) (4 : Int)) (!m.mirror == n.mirror) (L.apply n m.by_))) = Bool.false → Go.SE.SV.agg [Go.SE.SV.int Go.IntKind.i64 (Int.tmod (n.turn + m.turn) (4 : Int)), Go.SE.SV.bool !m.mirror == n.mirror, Go.SE.SV.int Go.IntKind.i64 (L.apply n m.by_).x,
 Go.SE.SV.int Go.IntKind.i64 (L.apply n m.by_).y] = Go.SE.SV.agg [Go.SE.SV.int Go.IntKind.i64 (L.cmV m n).turn, Go.SE.SV.bool (L.cmV m n).mirror, Go.SE.SV.int Go.IntKind.i64 (L.cmV m n).by_.x, Go.SE.SV.int Go.IntKind.i64 (L.cmV m n).by_.y] ∧ (0 : Int) = L.cmE m n)))) (by kernel_rfl) (by
    refine ⟨trivial, fun _ => trivial, fun h => ?_, fun h => ?_⟩
    · have e : L.cmE m n = 1 := by unfold L.cmE; rw [h]; rfl
      unfold L.cmV; rw [e]; exact ⟨rfl, rfl⟩
    have h0 := h
    rw [bor, Bool.or_eq_false_iff] at h
    have hn := notF h.2
    have a := validM_iff.1 (notF h.1)
    have b := validM_iff.1 hn
    have hb : L.bd m.by_ := by unfold L.bd; omega
    have t1 : n.turn + 4 - m.turn = 4 - m.turn + n.turn := by omega
    have t2 : n.turn + m.turn = m.turn + n.turn := by omega
    rw [t1, t2]
    refine ⟨InK.of (by omega) (by omega), fun hk => ?_, fun hk => ?_⟩
    · have w : (⟨Int.tmod (4 - m.turn + n.turn) 4, !(m.mirror == n.mirror), L.apply n m.by_⟩ : L.Motion) = L.cmM m n := by unfold L.cmM; rw [hk]; rfl
      refine ⟨InK.of (by omega) (by omega), InK.of (by omega) (by omega), by omega, ⟨hb, hn⟩, trivial, fun h1 => ?_, fun h1 => ?_⟩
      · rw [w] at h1
        have e : L.cmE m n = 2 := by unfold L.cmE; rw [h0, h1]; rfl
        unfold L.cmV; rw [e]; exact ⟨rfl, rfl⟩
      · rw [w] at h1
        have e : L.cmE m n = 0 := by unfold L.cmE; rw [h0, h1]; rfl
        refine ⟨?_, e.symm⟩
        unfold L.cmV; rw [e, ← w]; rfl
    · have w : (⟨Int.tmod (m.turn + n.turn) 4, !(m.mirror == n.mirror), L.apply n m.by_⟩ : L.Motion) = L.cmM m n := by unfold L.cmM; rw [hk]; rfl
      refine ⟨by omega, ⟨hb, hn⟩, trivial, fun h1 => ?_, fun h1 => ?_⟩
      · rw [w] at h1
        have e : L.cmE m n = 2 := by unfold L.cmE; rw [h0, h1]; rfl
        unfold L.cmV; rw [e]; exact ⟨rfl, rfl⟩
      · rw [w] at h1
        have e : L.cmE m n = 0 := by unfold L.cmE; rw [h0, h1]; rfl
        refine ⟨?_, e.symm⟩
        unfold L.cmV; rw [e, ← w]; rfl)
theorem r1_ComposeM_ok : SpecOk Tryz.prog 27 r1_ComposeM_S := fnX Tryz.func27 (c := bodyOf Tryz.f27) (by kernel_rfl) mixed (fun args p r hs hp => by
  unfold r1_ComposeM_s at hs
  split at hs
  · cases hs; exact ⟨_, _, r1_ComposeM_vc _ _ hp, (.same _ (.same _ .nil)), ⟨show SpecsL Tryz.prog _ from (SpecsL.cons r1_ValidMotion_ok r1_ValidMotion_en (SpecsL.cons r1_Moved_ok r1_Moved_en SpecsL.nil)), rfl, ⟨show ItersL Tryz.prog _ from ItersL.nil, (TrsOk.none (fun _ => rfl))⟩⟩⟩
  · cases hs)
theorem r1_ComposeM_en : Enters Tryz.prog 27 := fun args w => by kernel_rfl
def p_InvertM_p (m : L.Motion) : Prop := True
def p_InvertM_r (m : L.Motion) : SV := .tup [(.agg [.int .i64 ((L.ivV m).turn), .bool ((L.ivV m).mirror), .int .i64 ((L.ivV m).by_.x), .int .i64 ((L.ivV m).by_.y)]), .int .i64 (L.ivE m)]
def p_InvertM_s : List EV → Option (Prop × SV)
  | [.p (.agg [.int .i64 m_turn, .bool m_mirror, .int .i64 m_by__x, .int .i64 m_by__y])] => some (p_InvertM_p (⟨m_turn, m_mirror, (⟨m_by__x, m_by__y⟩ : L.Pt)⟩ : L.Motion), p_InvertM_r (⟨m_turn, m_mirror, (⟨m_by__x, m_by__y⟩ : L.Pt)⟩ : L.Motion))
  | _ => none
abbrev p_InvertM_S : SE.Spec := (specO p_InvertM_s)
def p_InvertM_C : Cfg := { muts := [2, 4, 5], frz := lookN [], specs := lookS [(24, p_ValidMotion_S), (78, p_turned_S)], loops := lookL [], iters := lookI [], rfs := lookR [], nils := lookM [] }
theorem p_InvertM_vc (m : L.Motion) (hp : p_InvertM_p m) : vc Tryz.prog (p_InvertM_C) (bodyOf Tryz.f28) (st0 Tryz.f28 [.p (.agg [.int .i64 m.turn, .bool m.mirror, .int .i64 m.by_.x, .int .i64 m.by_.y])]) (retFn Tryz.prog Tryz.f28 (p_InvertM_r m)) :=
  @Eq.mpr _ (True ∧ ((!L.validM m) = Bool.true → Go.SE.SV.agg [Go.SE.SV.int Go.IntKind.i64 (0 : Int), Go.SE.SV.bool Bool.false, Go.SE.SV.int Go.IntKind.i64 (0 : Int), Go.SE.SV.int Go.IntKind.i64 (0 : Int)] = Go.SE.SV.agg [Go.SE.SV.int Go.IntKind.i64 (L.ivV m).turn, Go.SE.SV.bool (L.ivV m).mirror, Go.SE.SV.int Go.IntKind.i64 (L.ivV m).by_.x, Go.SE.SV.int Go.IntKind.i64 (L.ivV m).by_.y] ∧ (1 : Int) = L.ivE m) ∧
 ((!L.validM m) = Bool.false → Go.SE.InK Go.IntKind.i64 ((4 : Int) - m.turn) ∧ (4 : Int) ≠ (0 : Int) ∧ (m.mirror = Bool.true → (L.bd m.by_ ∧ (0 : Int) ≤ m.turn ∧ m.turn ≤ (3 : Int)) ∧ Go.SE.InK Go.IntKind.i64 ((0 : Int) - (L.turned (L.Motion.mk m.turn m.mirror (L.Pt.mk (0 : Int) (0 : Int))) m.by_).x) ∧ Go.SE.InK Go.IntKind.i64 ((0 : Int) - (L.turned (L.Motion.mk m.turn m.mirror (L.Pt.mk (0 : Int)
 (0 : Int))) m.by_).y) ∧ Go.SE.SV.agg [Go.SE.SV.int Go.IntKind.i64 m.turn, Go.SE.SV.bool m.mirror, Go.SE.SV.int Go.IntKind.i64 ((0 : Int) - (L.turned (L.Motion.mk m.turn m.mirror (L.Pt.mk (0 : Int) (0 : Int))) m.by_).x), Go.SE.SV.int Go.IntKind.i64 ((0 : Int) - (L.turned (L.Motion.mk m.turn m.mirror (L.Pt.mk (0 : Int) (0 : Int))) m.by_).y)] = Go.SE.SV.agg [Go.SE.SV.int Go.IntKind.i64 (L.ivV
 m).turn, Go.SE.SV.bool (L.ivV m).mirror, Go.SE.SV.int Go.IntKind.i64 (L.ivV m).by_.x, Go.SE.SV.int Go.IntKind.i64 (L.ivV m).by_.y] ∧ (0 : Int) = L.ivE m) ∧ (m.mirror = Bool.false → (L.bd m.by_ ∧ (0 : Int) ≤ Int.tmod ((4 : Int) - m.turn) (4 : Int) ∧ Int.tmod ((4 : Int) - m.turn) (4 : Int) ≤ (3 : Int)) ∧ Go.SE.InK Go.IntKind.i64 ((0 : Int) - (L.turned (L.Motion.mk (Int.tmod ((4 : Int) - m.turn) (4 :
 Int)) m.mirror (L.Pt.mk (0 : Int) (0 : Int))) m.by_).x) ∧ Go.SE.InK Go.IntKind.i64 ((0 : Int) - (L.turned (L.Motion.mk (Int.tmod ((4 : Int) - m.turn) (4 : Int)) m.mirror (L.Pt.mk (0 : Int) (0 : Int))) m.by_).y) ∧ Go.SE.SV.agg [Go.SE.SV.int Go.IntKind.i64 (Int.tmod ((4 : Int) - m.turn) (4 : Int)), Go.SE.SV.bool m.mirror, Go.SE.SV.int Go.IntKind.i64 ((0 : Int) - (L.turned (L.Motion.mk (Int.tmod ((4
 : Int) - m.turn) (4 : Int)) m.mirror (L.Pt.mk (0 : Int) (0 : Int))) m.by_).x), Go.SE.SV.int Go.IntKind.i64 ((0 : Int) - (L.turned (L.Motion.mk (Int.tmod ((4 : Int) - m.turn) (4 : Int)) m.mirror (L.Pt.mk (0 : Int) (0 : Int))) m.by_).y)] = Go.SE.SV.agg [Go.SE.SV.int Go.IntKind.i64 (L.ivV m).turn, Go.SE.SV.bool (L.ivV m).mirror, Go.SE.SV.int Go.IntKind.i64 (L.ivV m).by_.x, Go.SE.SV.int Go.IntKind.i64
 (L.ivV m).by_.y] ∧ (0 : Int) = L.ivE m))) (by kernel_rfl) (by
    refine ⟨trivial, fun h => ?_, fun h => ?_⟩
    · unfold L.ivV L.ivE; rw [h]; exact ⟨rfl, rfl⟩
    have hv : (!L.validM m) = false := h
    have a := validM_iff.1 (notF h)
    have hb : L.bd m.by_ := by unfold L.bd; omega
    have hT : L.bd (L.turned (L.ivT m) m.by_) := turnN_bd (mir_bd hb) _
    unfold L.bd at hT
    have z : ∀ q : L.Motion, q = L.ivT m → SV.agg [.int .i64 q.turn, .bool m.mirror, .int .i64 (0 - (L.turned q m.by_).x), .int .i64 (0 - (L.turned q m.by_).y)] = .agg [.int .i64 (L.ivV m).turn, .bool (L.ivV m).mirror, .int .i64 (L.ivV m).by_.x, .int .i64 (L.ivV m).by_.y] ∧ 0 = L.ivE m := fun q hq => by
      subst hq
      unfold L.ivV L.ivE
      rw [hv, Int.zero_sub, Int.zero_sub]; exact ⟨rfl, rfl⟩
    refine ⟨InK.of (by omega) (by omega), by omega, fun hk => ?_, fun hk => ?_⟩
    · have w : (⟨m.turn, m.mirror, ⟨0, 0⟩⟩ : L.Motion) = L.ivT m := by unfold L.ivT; rw [hk]; rfl
      refine ⟨⟨hb, a.1.1, a.1.2⟩, ?_, ?_, z ⟨m.turn, m.mirror, ⟨0, 0⟩⟩ w⟩
      · rw [w]; exact InK.of (by omega) (by omega)
      · rw [w]; exact InK.of (by omega) (by omega)
    · have w : (⟨Int.tmod (4 - m.turn) 4, m.mirror, ⟨0, 0⟩⟩ : L.Motion) = L.ivT m := by unfold L.ivT; rw [hk]; rfl
      have t0 : 0 ≤ Int.tmod (4 - m.turn) 4 := Int.tmod_nonneg _ (by omega)
      have t1 := Int.tmod_lt_of_pos (4 - m.turn) (show (0 : Int) < 4 by omega)
      refine ⟨⟨hb, t0, by omega⟩, ?_, ?_, z ⟨Int.tmod (4 - m.turn) 4, m.mirror, ⟨0, 0⟩⟩ w⟩
      · rw [w]; exact InK.of (by omega) (by omega)
      · rw [w]; exact InK.of (by omega) (by omega))
theorem p_InvertM_ok : SpecOk Tryz.prog 28 p_InvertM_S := fnX Tryz.func28 (c := bodyOf Tryz.f28) (by kernel_rfl) mixed (fun args p r hs hp => by
  unfold p_InvertM_s at hs
  split at hs
  · cases hs; exact ⟨_, _, p_InvertM_vc _ hp, (.same _ .nil), ⟨show SpecsL Tryz.prog _ from (SpecsL.cons p_ValidMotion_ok p_ValidMotion_en (SpecsL.cons p_turned_ok p_turned_en SpecsL.nil)), rfl, ⟨show ItersL Tryz.prog _ from ItersL.nil, (TrsOk.none (fun _ => rfl))⟩⟩⟩
  · cases hs)
theorem p_InvertM_en : Enters Tryz.prog 28 := fun args w => by kernel_rfl
def r1_InvertM_p (m : L.Motion) : Prop := True
def r1_InvertM_r (m : L.Motion) : SV := .tup [(.agg [.int .i64 ((L.ivV m).turn), .bool ((L.ivV m).mirror), .int .i64 ((L.ivV m).by_.x), .int .i64 ((L.ivV m).by_.y)]), .int .i64 (L.ivE m)]
def r1_InvertM_s : List EV → Option (Prop × SV)
  | [.p (.agg [.int .i64 m_turn, .bool m_mirror, .int .i64 m_by__x, .int .i64 m_by__y])] => some (r1_InvertM_p (⟨m_turn, m_mirror, (⟨m_by__x, m_by__y⟩ : L.Pt)⟩ : L.Motion), r1_InvertM_r (⟨m_turn, m_mirror, (⟨m_by__x, m_by__y⟩ : L.Pt)⟩ : L.Motion))
  | _ => none
abbrev r1_InvertM_S : SE.Spec := (specO r1_InvertM_s)
def r1_InvertM_C : Cfg := { muts := [2, 4, 5], frz := lookN [], specs := lookS [(25, r1_ValidMotion_S), (73, r1_Moved_S)], loops := lookL [], iters := lookI [], rfs := lookR [], nils := lookM [] }
theorem r1_InvertM_vc (m : L.Motion) (hp : r1_InvertM_p m) : vc Tryz.prog (r1_InvertM_C) (bodyOf Tryz.f29) (st0 Tryz.f29 [.p (.agg [.int .i64 m.turn, .bool m.mirror, .int .i64 m.by_.x, .int .i64 m.by_.y])]) (retFn Tryz.prog Tryz.f29 (r1_InvertM_r m)) :=
  @Eq.mpr _ (True ∧ ((!L.validM m) = Bool.true → Go.SE.SV.agg [Go.SE.SV.int Go.IntKind.i64 (0 : Int), Go.SE.SV.bool Bool.false, Go.SE.SV.int Go.IntKind.i64 (0 : Int), Go.SE.SV.int Go.IntKind.i64 (0 : Int)] = Go.SE.SV.agg [Go.SE.SV.int Go.IntKind.i64 (L.ivV m).turn, Go.SE.SV.bool (L.ivV m).mirror, Go.SE.SV.int Go.IntKind.i64 (L.ivV m).by_.x, Go.SE.SV.int Go.IntKind.i64 (L.ivV m).by_.y] ∧ (1 : Int) = L.ivE m) ∧
 ((!L.validM m) = Bool.false → Go.SE.InK Go.IntKind.i64 ((4 : Int) - m.turn) ∧ (4 : Int) ≠ (0 : Int) ∧ (m.mirror = Bool.true → (L.bd m.by_ ∧ L.validM (L.Motion.mk m.turn Bool.true (L.Pt.mk (0 : Int) (0 : Int))) = Bool.true) ∧ Go.SE.InK Go.IntKind.i64 ((0 : Int) - (L.apply (L.Motion.mk m.turn Bool.true (L.Pt.mk (0 : Int) (0 : Int))) m.by_).x) ∧ Go.SE.InK Go.IntKind.i64 ((0 : Int) - (L.apply
 (L.Motion.mk m.turn Bool.true (L.Pt.mk (0 : Int) (0 : Int))) m.by_).y) ∧ Go.SE.SV.agg [Go.SE.SV.int Go.IntKind.i64 m.turn, Go.SE.SV.bool Bool.true, Go.SE.SV.int Go.IntKind.i64 ((0 : Int) - (L.apply (L.Motion.mk m.turn Bool.true (L.Pt.mk (0 : Int) (0 : Int))) m.by_).x), Go.SE.SV.int Go.IntKind.i64 ((0 : Int) - (L.apply (L.Motion.mk m.turn Bool.true (L.Pt.mk (0 : Int) (0 : Int))) m.by_).y)] =
 Go.SE.SV.agg [Go.SE.SV.int Go.IntKind.i64 (L.ivV m).turn, Go.SE.SV.bool (L.ivV m).mirror, Go.SE.SV.int Go.IntKind.i64 (L.ivV m).by_.x, Go.SE.SV.int Go.IntKind.i64 (L.ivV m).by_.y] ∧ (0 : Int) = L.ivE m) ∧ (m.mirror = Bool.false → (L.bd m.by_ ∧ L.validM (L.Motion.mk (Int.tmod ((4 : Int) - m.turn) (4 : Int)) Bool.false (L.Pt.mk (0 : Int) (0 : Int))) = Bool.true) ∧ Go.SE.InK Go.IntKind.i64 ((0 : Int)
 - (L.apply (L.Motion.mk (Int.tmod ((4 : Int) - m.turn) (4 : Int)) Bool.false (L.Pt.mk (0 : Int) (0 : Int))) m.by_).x) ∧ Go.SE.InK Go.IntKind.i64 ((0 : Int) - (L.apply (L.Motion.mk (Int.tmod ((4 : Int) - m.turn) (4 : Int)) Bool.false (L.Pt.mk (0 : Int) (0 : Int))) m.by_).y) ∧ Go.SE.SV.agg [Go.SE.SV.int Go.IntKind.i64 (Int.tmod ((4 : Int) - m.turn) (4 : Int)), Go.SE.SV.bool Bool.false, Go.SE.SV.int
 Go.IntKind.i64 ((0 : Int) - (L.apply (L.Motion.mk (Int.tmod ((4 : Int) - m.turn) (4 : Int)) Bool.false (L.Pt.mk (0 : Int) (0 : Int))) m.by_).x), Go.SE.SV.int Go.IntKind.i64 ((0 : Int) - (L.apply (L.Motion.mk (Int.tmod ((4 : Int) - m.turn) (4 : Int)) Bool.false (L.Pt.mk (0 : Int) (0 : Int))) m.by_).y)] = Go.SE.SV.agg [Go.SE.SV.int Go.IntKind.i64 (L.ivV m).turn, Go.SE.SV.bool (L.ivV m).mirror,
 Go.SE.SV.int Go.IntKind.i64 (L.ivV m).by_.x, Go.SE.SV.int Go.IntKind.i64 (L.ivV m).by_.y] ∧ (0 : Int) = L.ivE m))) (by kernel_rfl) (by
    refine ⟨trivial, fun h => ?_, fun h => ?_⟩
    · unfold L.ivV L.ivE; rw [h]; exact ⟨rfl, rfl⟩
    have hv : (!L.validM m) = false := h
    have a := validM_iff.1 (notF h)
    have hb : L.bd m.by_ := by unfold L.bd; omega
    have hT : L.bd (L.turned (L.ivT m) m.by_) := turnN_bd (mir_bd hb) _
    unfold L.bd at hT
    have ap : L.apply (L.ivT m) m.by_ = L.turned (L.ivT m) m.by_ := by
      have e1 : (L.ivT m).by_ = ⟨0, 0⟩ := rfl
      unfold L.apply
      rw [e1]
      show (⟨(L.turned (L.ivT m) m.by_).x + 0, (L.turned (L.ivT m) m.by_).y + 0⟩ : L.Pt) = _
      rw [Int.add_zero, Int.add_zero]
    have z : ∀ q : L.Motion, q = L.ivT m → SV.agg [.int .i64 q.turn, .bool q.mirror, .int .i64 (0 - (L.apply q m.by_).x), .int .i64 (0 - (L.apply q m.by_).y)] = .agg [.int .i64 (L.ivV m).turn, .bool (L.ivV m).mirror, .int .i64 (L.ivV m).by_.x, .int .i64 (L.ivV m).by_.y] ∧ 0 = L.ivE m := fun q hq => by
      subst hq
      unfold L.ivV L.ivE
      rw [hv, ap, Int.zero_sub, Int.zero_sub]; exact ⟨rfl, rfl⟩
    have t0 : 0 ≤ Int.tmod (4 - m.turn) 4 := Int.tmod_nonneg _ (by omega)
    have t1 := Int.tmod_lt_of_pos (4 - m.turn) (show (0 : Int) < 4 by omega)
    have vT : L.validM (L.ivT m) = true := by
      refine validM_iff.2 ⟨?_, ⟨by show (-8192 : Int) ≤ 0; omega, by show (0 : Int) ≤ 8192; omega⟩, by show (-8192 : Int) ≤ 0; omega, by show (0 : Int) ≤ 8192; omega⟩
      unfold L.ivT
      cases m.mirror
      · exact ⟨t0, by show Int.tmod (4 - m.turn) 4 ≤ 3; omega⟩
      · exact a.1
    refine ⟨InK.of (by omega) (by omega), by omega, fun hk => ?_, fun hk => ?_⟩
    · have w : (⟨m.turn, true, ⟨0, 0⟩⟩ : L.Motion) = L.ivT m := by unfold L.ivT; rw [hk]; rfl
      refine ⟨⟨hb, by rw [w]; exact vT⟩, ?_, ?_, z ⟨m.turn, true, ⟨0, 0⟩⟩ w⟩
      · rw [w, ap]; exact InK.of (by omega) (by omega)
      · rw [w, ap]; exact InK.of (by omega) (by omega)
    · have w : (⟨Int.tmod (4 - m.turn) 4, false, ⟨0, 0⟩⟩ : L.Motion) = L.ivT m := by unfold L.ivT; rw [hk]; rfl
      refine ⟨⟨hb, by rw [w]; exact vT⟩, ?_, ?_, z ⟨Int.tmod (4 - m.turn) 4, false, ⟨0, 0⟩⟩ w⟩
      · rw [w, ap]; exact InK.of (by omega) (by omega)
      · rw [w, ap]; exact InK.of (by omega) (by omega))
theorem r1_InvertM_ok : SpecOk Tryz.prog 29 r1_InvertM_S := fnX Tryz.func29 (c := bodyOf Tryz.f29) (by kernel_rfl) mixed (fun args p r hs hp => by
  unfold r1_InvertM_s at hs
  split at hs
  · cases hs; exact ⟨_, _, r1_InvertM_vc _ hp, (.same _ .nil), ⟨show SpecsL Tryz.prog _ from (SpecsL.cons r1_ValidMotion_ok r1_ValidMotion_en (SpecsL.cons r1_Moved_ok r1_Moved_en SpecsL.nil)), rfl, ⟨show ItersL Tryz.prog _ from ItersL.nil, (TrsOk.none (fun _ => rfl))⟩⟩⟩
  · cases hs)
theorem r1_InvertM_en : Enters Tryz.prog 29 := fun args w => by kernel_rfl
def w_PMoves_p (l : (L.Sq L.Pt)) (m : L.Motion) (n : L.Motion) : Prop := l.n ≤ 9223372036854775807
def w_PMoves_r (l : (L.Sq L.Pt)) (m : L.Motion) (n : L.Motion) : SV := .bool true
def w_PMoves_s : List EV → Option (Prop × SV)
  | [.p (.sl 2 l_n l_g), .p (.agg [.int .i64 m_turn, .bool m_mirror, .int .i64 m_by__x, .int .i64 m_by__y]), .p (.agg [.int .i64 n_turn, .bool n_mirror, .int .i64 n_by__x, .int .i64 n_by__y])] => some ((∀ i, i < l_n → l_g i = [.int .i64 ((ofPt (l_g i)).x), .int .i64 ((ofPt (l_g i)).y)]) ∧ w_PMoves_p (⟨l_n, fun i => ofPt (l_g i)⟩ : (L.Sq L.Pt)) (⟨m_turn, m_mirror, (⟨m_by__x, m_by__y⟩ : L.Pt)⟩ : L.Motion) (⟨n_turn, n_mirror, (⟨n_by__x, n_by__y⟩ : L.Pt)⟩ : L.Motion), w_PMoves_r (⟨l_n, fun i => ofPt (l_g i)⟩ : (L.Sq L.Pt)) (⟨m_turn, m_mirror, (⟨m_by__x, m_by__y⟩ : L.Pt)⟩ : L.Motion) (⟨n_turn, n_mirror, (⟨n_by__x, n_by__y⟩ : L.Pt)⟩ : L.Motion))
  | _ => none
abbrev w_PMoves_S : SE.Spec := (specO w_PMoves_s)
def w_PMoves_C : Cfg := { muts := [9, 12, 14, 16, 18, 20], frz := lookN [], specs := lookS [(20, w_awake_S), (21, p_Move_S), (22, r1_Move_S), (23, r1_SamePoints_S), (24, p_ValidMotion_S), (25, r1_ValidMotion_S), (26, p_ComposeM_S), (27, r1_ComposeM_S), (28, p_InvertM_S), (29, r1_InvertM_S)], loops := lookL [], iters := lookI [], rfs := lookR [], nils := lookM [] }
theorem w_PMoves_vc (l : (L.Sq L.Pt)) (m : L.Motion) (n : L.Motion) (hp : w_PMoves_p l m n) : vc Tryz.prog (w_PMoves_C) (bodyOf Tryz.f4) (st0 Tryz.f4 [.p (.sl 2 l.n (fun i => [.int .i64 ((l.g i).x), .int .i64 ((l.g i).y)])), .p (.agg [.int .i64 m.turn, .bool m.mirror, .int .i64 m.by_.x, .int .i64 m.by_.y]), .p (.agg [.int .i64 n.turn, .bool n.mirror, .int .i64 n.by_.x, .int .i64 n.by_.y])]) (retFn Tryz.prog Tryz.f4 (w_PMoves_r l m n)) :=
  @Eq.mpr _ (True ∧ (Decidable.decide ((60 : Int) < (↑l.n : Int)) = Bool.true → Bool.true = Bool.true) ∧ (Decidable.decide ((60 : Int) < (↑l.n : Int)) = Bool.false → ((∀ (i : Nat), i < l.n → [Go.SE.SV.int Go.IntKind.i64 (l.g i).x, Go.SE.SV.int Go.IntKind.i64 (l.g i).y] = [Go.SE.SV.int Go.IntKind.i64 (l.g i).x, Go.SE.SV.int Go.IntKind.i64 (l.g i).y]) ∧ l.n ≤ (1000000 : Nat)) ∧ ((∀ (i : Nat), i < l.n →
 [Go.SE.SV.int Go.IntKind.i64 (l.g i).x, Go.SE.SV.int Go.IntKind.i64 (l.g i).y] = [Go.SE.SV.int Go.IntKind.i64 (l.g i).x, Go.SE.SV.int Go.IntKind.i64 (l.g i).y]) ∧ l.n ≤ (1000000 : Nat)) ∧ ((!bif !Decidable.decide (L.movE (L.Sq.mk l.n fun (i : Nat) ↦ l.g i) m = L.movE (L.Sq.mk l.n fun (i : Nat) ↦ l.g i) m) then Bool.true else !(Decidable.decide ((L.movS (L.Sq.mk l.n fun (i : Nat) ↦ l.g i) m).shift
 = (L.movS (L.Sq.mk l.n fun (i : Nat) ↦ l.g i) m).shift) && (L.movS (L.Sq.mk l.n fun (i : Nat) ↦ l.g i) m).back == (L.movS (L.Sq.mk l.n fun (i : Nat) ↦ l.g i) m).back)) = Bool.true → (∀ (i : Nat), i < L.movN (L.Sq.mk l.n fun (i : Nat) ↦ l.g i) m → [Go.SE.SV.int Go.IntKind.i64 ((L.norm (L.moved (L.Sq.mk l.n fun (i : Nat) ↦ l.g i) m)).g i).x, Go.SE.SV.int Go.IntKind.i64 ((L.norm (L.moved (L.Sq.mk l.n
 fun (i : Nat) ↦ l.g i) m)).g i).y] = [Go.SE.SV.int Go.IntKind.i64 ((L.norm (L.moved (L.Sq.mk l.n fun (i : Nat) ↦ l.g i) m)).g i).x, Go.SE.SV.int Go.IntKind.i64 ((L.norm (L.moved (L.Sq.mk l.n fun (i : Nat) ↦ l.g i) m)).g i).y]) ∧ (∀ (i : Nat), i < L.movN (L.Sq.mk l.n fun (i : Nat) ↦ l.g i) m → [Go.SE.SV.int Go.IntKind.i64 ((L.norm (L.moved (L.Sq.mk l.n fun (i : Nat) ↦ l.g i) m)).g i).x,
 Go.SE.SV.int Go.IntKind.i64 ((L.norm (L.moved (L.Sq.mk l.n fun (i : Nat) ↦ l.g i) m)).g i).y] = [Go.SE.SV.int Go.IntKind.i64 ((L.norm (L.moved (L.Sq.mk l.n fun (i : Nat) ↦ l.g i) m)).g i).x, Go.SE.SV.int Go.IntKind.i64 ((L.norm (L.moved (L.Sq.mk l.n fun (i : Nat) ↦ l.g i) m)).g i).y]) ∧ L.movN (L.Sq.mk l.n fun (i : Nat) ↦ l.g i) m ≤ (1000000 : Nat)) ∧ ((!bif bif !Decidable.decide (L.movE (L.Sq.mk
 l.n fun (i : Nat) ↦ l.g i) m = L.movE (L.Sq.mk l.n fun (i : Nat) ↦ l.g i) m) then Bool.true else !(Decidable.decide ((L.movS (L.Sq.mk l.n fun (i : Nat) ↦ l.g i) m).shift = (L.movS (L.Sq.mk l.n fun (i : Nat) ↦ l.g i) m).shift) && (L.movS (L.Sq.mk l.n fun (i : Nat) ↦ l.g i) m).back == (L.movS (L.Sq.mk l.n fun (i : Nat) ↦ l.g i) m).back) then Bool.true else !L.sameP (L.Sq.mk (L.movN (L.Sq.mk l.n fun
 (i : Nat) ↦ l.g i) m) fun (i : Nat) ↦ (L.norm (L.moved (L.Sq.mk l.n fun (i : Nat) ↦ l.g i) m)).g i) (L.Sq.mk (L.movN (L.Sq.mk l.n fun (i : Nat) ↦ l.g i) m) fun (i : Nat) ↦ (L.norm (L.moved (L.Sq.mk l.n fun (i : Nat) ↦ l.g i) m)).g i)) = Bool.true → True) ∧ ((!bif bif !Decidable.decide (L.movE (L.Sq.mk l.n fun (i : Nat) ↦ l.g i) m = L.movE (L.Sq.mk l.n fun (i : Nat) ↦ l.g i) m) then Bool.true else
 !(Decidable.decide ((L.movS (L.Sq.mk l.n fun (i : Nat) ↦ l.g i) m).shift = (L.movS (L.Sq.mk l.n fun (i : Nat) ↦ l.g i) m).shift) && (L.movS (L.Sq.mk l.n fun (i : Nat) ↦ l.g i) m).back == (L.movS (L.Sq.mk l.n fun (i : Nat) ↦ l.g i) m).back) then Bool.true else !L.sameP (L.Sq.mk (L.movN (L.Sq.mk l.n fun (i : Nat) ↦ l.g i) m) fun (i : Nat) ↦ (L.norm (L.moved (L.Sq.mk l.n fun (i : Nat) ↦ l.g i) m)).g
 i) (L.Sq.mk (L.movN (L.Sq.mk l.n fun (i : Nat) ↦ l.g i) m) fun (i : Nat) ↦ (L.norm (L.moved (L.Sq.mk l.n fun (i : Nat) ↦ l.g i) m)).g i)) = Bool.true → True) ∧ ((bif bif bif !Decidable.decide (L.movE (L.Sq.mk l.n fun (i : Nat) ↦ l.g i) m = L.movE (L.Sq.mk l.n fun (i : Nat) ↦ l.g i) m) then Bool.true else !(Decidable.decide ((L.movS (L.Sq.mk l.n fun (i : Nat) ↦ l.g i) m).shift = (L.movS (L.Sq.mk
 l.n fun (i : Nat) ↦ l.g i) m).shift) && (L.movS (L.Sq.mk l.n fun (i : Nat) ↦ l.g i) m).back == (L.movS (L.Sq.mk l.n fun (i : Nat) ↦ l.g i) m).back) then Bool.true else !L.sameP (L.Sq.mk (L.movN (L.Sq.mk l.n fun (i : Nat) ↦ l.g i) m) fun (i : Nat) ↦ (L.norm (L.moved (L.Sq.mk l.n fun (i : Nat) ↦ l.g i) m)).g i) (L.Sq.mk (L.movN (L.Sq.mk l.n fun (i : Nat) ↦ l.g i) m) fun (i : Nat) ↦ (L.norm (L.moved
 (L.Sq.mk l.n fun (i : Nat) ↦ l.g i) m)).g i) then Bool.true else !L.validM m == L.validM m) = Bool.true → Bool.false = Bool.true) ∧ ((bif bif bif !Decidable.decide (L.movE (L.Sq.mk l.n fun (i : Nat) ↦ l.g i) m = L.movE (L.Sq.mk l.n fun (i : Nat) ↦ l.g i) m) then Bool.true else !(Decidable.decide ((L.movS (L.Sq.mk l.n fun (i : Nat) ↦ l.g i) m).shift = (L.movS (L.Sq.mk l.n fun (i : Nat) ↦ l.g i)
 m).shift) && (L.movS (L.Sq.mk l.n fun (i : Nat) ↦ l.g i) m).back == (L.movS (L.Sq.mk l.n fun (i : Nat) ↦ l.g i) m).back) then Bool.true else !L.sameP (L.Sq.mk (L.movN (L.Sq.mk l.n fun (i : Nat) ↦ l.g i) m) fun (i : Nat) ↦ (L.norm (L.moved (L.Sq.mk l.n fun (i : Nat) ↦ l.g i) m)).g i) (L.Sq.mk (L.movN (L.Sq.mk l.n fun (i : Nat) ↦ l.g i) m) fun (i : Nat) ↦ (L.norm (L.moved (L.Sq.mk l.n fun (i : Nat)
 ↦ l.g i) m)).g i) then Bool.true else !L.validM m == L.validM m) = Bool.false → True ∧ True ∧ True ∧ True ∧ (bif bif bif bif Bool.true then Decidable.decide (L.cmE m n = L.cmE m n) else Bool.false then Decidable.decide ((L.cmV m n).turn = (L.cmV m n).turn) && ((L.cmV m n).mirror == (L.cmV m n).mirror && (Decidable.decide ((L.cmV m n).by_.x = (L.cmV m n).by_.x) && Decidable.decide ((L.cmV m
 n).by_.y = (L.cmV m n).by_.y))) else Bool.false then Decidable.decide (L.ivE m = L.ivE m) else Bool.false then Decidable.decide ((L.ivV m).turn = (L.ivV m).turn) && ((L.ivV m).mirror == (L.ivV m).mirror && (Decidable.decide ((L.ivV m).by_.x = (L.ivV m).by_.x) && Decidable.decide ((L.ivV m).by_.y = (L.ivV m).by_.y))) else Bool.false) = Bool.true))) (by kernel_rfl) (by
    have _ := hp
    refine ⟨trivial, fun _ => rfl, fun h => ?_⟩
    have h : ¬ (60 : Int) < (l.n : Int) := of_decide_eq_false h
    have hc : L.movN l m ≤ l.n := by
      unfold L.movN
      cases decide (L.movE l m = 0)
      · exact Nat.zero_le _
      · exact Nat.le_refl _
    refine ⟨⟨fun _ _ => rfl, by omega⟩, ⟨fun _ _ => rfl, by omega⟩, fun _ => ⟨fun _ _ => rfl, fun _ _ => rfl, show L.movN l m ≤ 1000000 by omega⟩, fun _ => trivial, fun _ => trivial, fun h => ?_, fun _ => ⟨trivial, trivial, trivial, trivial, ?_⟩⟩
    · simp [sameP_refl] at h
    · simp)
theorem w_PMoves_ok : SpecOk Tryz.prog 4 w_PMoves_S := fnX Tryz.func4 (c := bodyOf Tryz.f4) (by kernel_rfl) mixed (fun args p r hs hp => by
  unfold w_PMoves_s at hs
  split at hs
  · cases hs; exact ⟨_, _, w_PMoves_vc _ _ _ hp.2, (.p (.sl hp.1) (.same _ (.same _ .nil))), ⟨show SpecsL Tryz.prog _ from (SpecsL.cons w_awake_ok w_awake_en (SpecsL.cons p_Move_ok p_Move_en (SpecsL.cons r1_Move_ok r1_Move_en (SpecsL.cons r1_SamePoints_ok r1_SamePoints_en (SpecsL.cons p_ValidMotion_ok p_ValidMotion_en (SpecsL.cons r1_ValidMotion_ok r1_ValidMotion_en (SpecsL.cons p_ComposeM_ok p_ComposeM_en (SpecsL.cons r1_ComposeM_ok r1_ComposeM_en (SpecsL.cons p_InvertM_ok p_InvertM_en (SpecsL.cons r1_InvertM_ok r1_InvertM_en SpecsL.nil)))))))))), rfl, ⟨show ItersL Tryz.prog _ from ItersL.nil, (TrsOk.none (fun _ => rfl))⟩⟩⟩
  · cases hs)
theorem w_PMoves_en : Enters Tryz.prog 4 := fun args w => by kernel_rfl
theorem w_PMoves_B : ∀ args p r, w_PMoves_s args = some (p, r) → ∃ b, r = .bool b := by
  intro args p r h
  unfold w_PMoves_s at h
  split at h
  · cases h; exact ⟨_, rfl⟩
  · cases h
end Go.Proofs.YtooapgllahonaaaGreat

namespace Go.Proofs.YtooapgllahonaaaGreat
open Go.SE Go.RowKit
set_option maxRecDepth 100000
set_option maxHeartbeats 4000000
set_option linter.unusedVariables false
attribute [local irreducible] Go.SE.vc

def L.kOf (s : L.Setting) : Nat := 2 * s.shift.toNat + (bif s.back then 1 else 0)
theorem sett_kOf {s : L.Setting} {n : Nat} (h : L.validSet s n = true) : L.sett (L.kOf s) = s ∧ L.kOf s < 2 * n := by
  have a := validSet_iff.1 h
  unfold L.kOf
  cases hb : s.back with
  | false =>
    rw [cond_false, Nat.add_zero, sett_even]
    exact ⟨set_ext (by show ((s.shift.toNat : Nat) : Int) = s.shift; omega) hb.symm, by omega⟩
  | true =>
    rw [cond_true, sett_odd]
    exact ⟨set_ext (by show ((s.shift.toNat : Nat) : Int) = s.shift; omega) hb.symm, by omega⟩
theorem sett_valid {k n : Nat} (h3 : 3 ≤ n) (h24 : n ≤ 24) (h : k < 2 * n) : L.validSet (L.sett k) n = true := by
  have := sett_lt h
  exact validSet_iff.2 ⟨⟨by omega, by omega⟩, this.1, this.2⟩
theorem kOf_sett (k : Nat) : L.kOf (L.sett k) = k := by
  have hk : k = 2 * (k / 2) ∨ k = 2 * (k / 2) + 1 := by omega
  generalize k / 2 = m at hk
  rcases hk with rfl | rfl
  · rw [sett_even]; unfold L.kOf; rw [cond_false]; show 2 * ((m : Int)).toNat + 0 = 2 * m; omega
  · rw [sett_odd]; unfold L.kOf; rw [cond_true]; show 2 * ((m : Int)).toNat + 1 = 2 * m + 1; omega
theorem cnt_del {q : Nat → Bool} {a : Nat} (hq : q a = true) : ∀ {m : Nat}, a < m → L.cnt q m = L.cnt (fun j => q j && !decide (j = a)) m + 1
  | 0, h => absurd h (Nat.not_lt_zero _)
  | m + 1, h => by
    rcases Nat.lt_succ_iff_lt_or_eq.1 h with h' | rfl
    · have ih := cnt_del hq h'
      have e : (q m && !decide (m = a)) = q m := by rw [decide_eq_false (by omega)]; simp
      cases hm : q m with
      | true => rw [cnt_yes hm, cnt_yes (p := fun j => q j && !decide (j = a)) (by show (q m && !decide (m = a)) = true; rw [e, hm]), ih]
      | false => rw [cnt_not hm, cnt_not (p := fun j => q j && !decide (j = a)) (by show (q m && !decide (m = a)) = false; rw [e, hm]), ih]
    · rw [cnt_yes hq, cnt_not (p := fun j => q j && !decide (j = a)) (by show (q a && !decide (a = a)) = false; simp)]
      have : ∀ c, c ≤ a → L.cnt q c = L.cnt (fun j => q j && !decide (j = a)) c := by
        intro c
        induction c with
        | zero => intro _; rfl
        | succ c ih =>
          intro hc
          have e : (q c && !decide (c = a)) = q c := by rw [decide_eq_false (by omega)]; simp
          cases hm : q c with
          | true => rw [cnt_yes hm, cnt_yes (p := fun j => q j && !decide (j = a)) (by show (q c && !decide (c = a)) = true; rw [e, hm]), ih (by omega)]
          | false => rw [cnt_not hm, cnt_not (p := fun j => q j && !decide (j = a)) (by show (q c && !decide (c = a)) = false; rw [e, hm]), ih (by omega)]
      rw [this a (Nat.le_refl _)]
theorem cnt_inj {p : Nat → Bool} {m : Nat} {f : Nat → Nat} : ∀ {n : Nat} {q : Nat → Bool}, (∀ k, k < n → p k = true → f k < m ∧ q (f k) = true) → (∀ j k, j < n → k < n → p j = true → p k = true → f j = f k → j = k) → L.cnt p n ≤ L.cnt q m
  | 0, q, _, _ => Nat.zero_le _
  | n + 1, q, h1, h2 => by
    cases hp : p n with
    | false =>
      rw [cnt_not hp]
      exact cnt_inj (fun k hk => h1 k (by omega)) (fun j k hj hk => h2 j k (by omega) (by omega))
    | true =>
      obtain ⟨a1, a2⟩ := h1 n (Nat.lt_succ_self n) hp
      rw [cnt_yes hp, cnt_del a2 a1]
      refine Nat.succ_le_succ (cnt_inj (fun k hk hpk => ?_) (fun j k hj hk => h2 j k (by omega) (by omega)))
      obtain ⟨b1, b2⟩ := h1 k (by omega) hpk
      refine ⟨b1, ?_⟩
      rw [b2, decide_eq_false (fun e => by have := h2 k n (by omega) (Nat.lt_succ_self n) hpk hp e; omega)]; rfl
theorem inv_inj {s t : L.Setting} {n : Int} (hs : L.validSet s n = true) (ht : L.validSet t n = true) (h : L.inv s n = L.inv t n) : s = t := by
  have e1 := comp_assoc hs (inv_ok hs).2.1 ht
  rw [(inv_ok hs).2.2, one_comp ht] at e1
  rw [e1]
  have e2 : L.comp (L.inv s n) t n = L.one := by
    rw [h]
    have i1 := (inv_ok ht)
    have i2 := (inv_ok i1.2.1)
    have a1 := comp_assoc i1.2.1 ht i1.2.1
    rw [i1.2.2, comp_one i1.2.1] at a1
    have a2 := comp_assoc (comp_ok i1.2.1 ht).2.2 i1.2.1 i2.2.1
    rw [a1, i2.2.2, comp_one (comp_ok i1.2.1 ht).2.2] at a2
    exact a2.symm
  rw [e2, comp_one hs]
theorem conE_cases (p q : L.Sq L.Pt) : L.conE p q = 1 ∨ (L.conE p q = 0 ∧ L.validOutline p = true ∧ L.validOutline q = true) := by
  unfold L.conE
  cases L.validOutline p <;> cases L.validOutline q <;> simp
theorem conE_zero {p q : L.Sq L.Pt} (hp : L.validOutline p = true) (hq : L.validOutline q = true) : L.conE p q = 0 := by
  unfold L.conE; rw [hp, hq]; rfl
theorem conN_eq {p q : L.Sq L.Pt} (hp : L.validOutline p = true) (hq : L.validOutline q = true) (hn : p.n = q.n) : L.conN p q = L.cnt (L.conK p q) (2 * p.n) := by
  unfold L.conN; rw [conE_zero hp hq, hn, decide_eq_true rfl, decide_eq_true rfl]; rfl
theorem conN_ne {p q : L.Sq L.Pt} (hn : p.n ≠ q.n) : L.conN p q = 0 := by
  unfold L.conN
  rw [decide_eq_false (p := (p.n : Int) = (q.n : Int)) (by omega)]
  cases decide (L.conE p q = 0) <;> rfl
theorem con_in {p q : L.Sq L.Pt} {g : Nat} (h : g < L.conN p q) : p.n = q.n ∧ L.validSet (L.conG p q g) p.n = true ∧ L.congr p q (L.conG p q g) = true := by
  have hn : p.n = q.n := Decidable.byContradiction fun hn => by rw [conN_ne hn] at h; omega
  rcases conE_cases p q with e | ⟨_, hp, hq⟩
  · unfold L.conN at h; rw [e] at h; exact absurd h (Nat.not_lt_zero _)
  rw [conN_eq hp hq hn] at h
  obtain ⟨h1, h2⟩ := sel_in h
  have hb := validOutline_of hp
  exact ⟨hn, sett_valid hb.1 hb.2.1 h1, h2⟩
theorem con_of {p q : L.Sq L.Pt} {s : L.Setting} (hp : L.validOutline p = true) (hq : L.validOutline q = true) (hn : p.n = q.n) (hs : L.validSet s p.n = true) (h : L.congr p q s = true) : L.among ⟨L.conN p q, fun i => L.conG p q i⟩ s = true := by
  obtain ⟨h1, h2⟩ := sett_kOf hs
  have h3 : L.conK p q (L.kOf s) = true := by unfold L.conK; rw [h1]; exact h
  obtain ⟨k, h4, h5⟩ := sel_of h3 h2
  unfold L.among
  rw [conN_eq hp hq hn]
  refine anyB_iff.2 ⟨k, h4, ?_⟩
  unfold L.conG
  dsimp only
  rw [h5, h1]; exact sameS_refl _
theorem con_inv {p q : L.Sq L.Pt} {s : L.Setting} (hp : L.validOutline p = true) (hq : L.validOutline q = true) (hn : p.n = q.n) (hs : L.validSet s p.n = true) (h : L.congr p q s = true) : L.congr q p (L.inv s p.n) = true := by
  have h3 := (validOutline_of hp).1
  have i := (validSet_iff.1 hs)
  have j := (validSet_iff.1 (inv_ok hs).2.1)
  exact (congr_iff hp hn.symm (by omega) j.2.1).2 (iso_inv hn.symm (by omega) hs ((congr_iff hq hn (by omega) i.2.1).1 h))
theorem con_comp {p q r : L.Sq L.Pt} {s t : L.Setting} (hp : L.validOutline p = true) (hq : L.validOutline q = true) (hr : L.validOutline r = true) (hn : p.n = q.n) (hm : q.n = r.n) (hs : L.validSet s p.n = true) (ht : L.validSet t p.n = true) (h : L.congr p q s = true) (k : L.congr q r t = true) : L.congr p r (L.comp s t p.n) = true := by
  have h3 := (validOutline_of hp).1
  have i := (validSet_iff.1 hs)
  have i' := (validSet_iff.1 ht)
  have j := (validSet_iff.1 (comp_ok hs ht).2.2)
  exact (congr_iff hr (by omega) (by omega) j.2.1).2 (iso_comp (by omega) (by omega) hs ht ((congr_iff hq hn (by omega) i.2.1).1 h) ((congr_iff hr hm (by omega) i'.2.1).1 k))
theorem con_le {p q : L.Sq L.Pt} (hp : L.validOutline p = true) (hq : L.validOutline q = true) (hn : p.n = q.n) : L.cnt (L.conK p q) (2 * p.n) ≤ L.cnt (L.conK q p) (2 * q.n) := by
  obtain ⟨h3, h24, _⟩ := validOutline_of hp
  refine cnt_inj (f := fun k => L.kOf (L.inv (L.sett k) p.n)) (fun k hk hpk => ?_) (fun j k hj hk _ _ e => ?_)
  · have v := sett_valid h3 h24 hk
    have w := sett_kOf (inv_ok v).2.1
    refine ⟨by have := w.2; omega, ?_⟩
    unfold L.conK
    rw [w.1]
    exact con_inv hp hq hn v hpk
  · have vj := sett_valid h3 h24 hj
    have vk := sett_valid h3 h24 hk
    have e : L.kOf (L.inv (L.sett j) p.n) = L.kOf (L.inv (L.sett k) p.n) := e
    have wj := (sett_kOf (inv_ok vj).2.1).1
    have wk := (sett_kOf (inv_ok vk).2.1).1
    rw [e, wk] at wj
    have := inv_inj vk vj wj
    rw [← kOf_sett j, ← kOf_sett k, this]
theorem con_sym {p q : L.Sq L.Pt} (hp : L.validOutline p = true) (hq : L.validOutline q = true) : L.conN p q = L.conN q p := by
  by_cases hn : p.n = q.n
  · rw [conN_eq hp hq hn, conN_eq hq hp hn.symm]
    exact Nat.le_antisymm (con_le hp hq hn) (con_le hq hp hn.symm)
  · rw [conN_ne hn, conN_ne (fun e => hn e.symm)]
theorem con_le2 (p q : L.Sq L.Pt) : L.conN p q ≤ 2 * p.n := by
  unfold L.conN
  have := cnt_le (p := L.conK p q) (n := 2 * p.n)
  cases decide (L.conE p q = 0)
  · exact Nat.zero_le _
  · cases decide ((p.n : Int) = q.n)
    · exact Nat.zero_le _
    · exact this
def w_among1_p (l : (L.Sq L.Setting)) (s : L.Setting) : Prop := l.n ≤ 1000000
def w_among1_r (l : (L.Sq L.Setting)) (s : L.Setting) : SV := .bool (L.among l s)
def w_among1_s : List EV → Option (Prop × SV)
  | [.p (.sl 2 l_n l_g), .p (.agg [.int .i64 s_shift, .bool s_back])] => some ((∀ i, i < l_n → l_g i = [.int .i64 ((ofSetting (l_g i)).shift), .bool ((ofSetting (l_g i)).back)]) ∧ w_among1_p (⟨l_n, fun i => ofSetting (l_g i)⟩ : (L.Sq L.Setting)) (⟨s_shift, s_back⟩ : L.Setting), w_among1_r (⟨l_n, fun i => ofSetting (l_g i)⟩ : (L.Sq L.Setting)) (⟨s_shift, s_back⟩ : L.Setting))
  | _ => none
abbrev w_among1_S : SE.Spec := (specO w_among1_s)
def w_among1_C : Cfg := { muts := [], frz := lookN [], specs := lookS [], loops := fun _ => none, iters := lookI [], rfs := lookR [], nils := lookM [] }
theorem w_among1_vc (l : (L.Sq L.Setting)) (s : L.Setting) (hp : w_among1_p l s) : vc Tryz.prog ({ w_among1_C with loops := lookL [(2, { T := Nat, keep := [0, 3], keepO := [], chg := fun i => [(5, .p (.int .i64 (i : Int)))], own := fun _ => [], inv := fun i => i ≤ l.n ∧ ∀ j, j < i → L.sameS (l.g j) s = false, mu := fun i => l.n - i })], rfs := lookR [] }) (bodyOf Tryz.f55) (st0 Tryz.f55 [.p (.sl 2 l.n (fun i => [.int .i64 ((l.g i).shift), .bool ((l.g i).back)])), .p (.agg [.int .i64 s.shift, .bool s.back])]) (retFn Tryz.prog Tryz.f55 (w_among1_r l s)) :=
  @Eq.mpr _ ((∃ (g : Nat), (0 : Int) = (↑g : Int) ∧ g ≤ l.n ∧ ∀ (j : Nat), j < g → L.sameS (l.g j) s = Bool.false) ∧ ∀ (g : Nat), (g ≤ l.n ∧ ∀ (j : Nat), j < g → L.sameS (l.g j) s = Bool.false) → (Decidable.decide ((↑g : Int) < (↑l.n : Int)) = Bool.true → ((0 : Int) ≤ (↑g : Int) ∧ (↑g : Int) < (↑l.n : Int)) ∧ ((Decidable.decide ((l.g (Int.toNat (↑g : Int))).shift = s.shift) && (l.g (Int.toNat (↑g : Int))).back
 == s.back) = Bool.true → Bool.true = L.among l s) ∧ ((Decidable.decide ((l.g (Int.toNat (↑g : Int))).shift = s.shift) && (l.g (Int.toNat (↑g : Int))).back == s.back) = Bool.false → Go.SE.InK Go.IntKind.i64 ((↑g : Int) + (1 : Int)) ∧ ∃ (g' : Nat), (↑g : Int) + (1 : Int) = (↑g' : Int) ∧ Go.SE.SV.ref [Go.SE.SV.int Go.IntKind.i64 s.shift, Go.SE.SV.bool s.back] (nat_lit 0) = Go.SE.SV.ref [Go.SE.SV.int
 Go.IntKind.i64 s.shift, Go.SE.SV.bool s.back] (nat_lit 0) ∧ (l.n = l.n ∧ ∀ (i : Nat), i < l.n → [Go.SE.SV.int Go.IntKind.i64 (l.g i).shift, Go.SE.SV.bool (l.g i).back] = [Go.SE.SV.int Go.IntKind.i64 (l.g i).shift, Go.SE.SV.bool (l.g i).back]) ∧ (g' ≤ l.n ∧ ∀ (j : Nat), j < g' → L.sameS (l.g j) s = Bool.false) ∧ l.n - g' < l.n - g)) ∧ (Decidable.decide ((↑g : Int) < (↑l.n : Int)) = Bool.false →
 Bool.false = L.among l s)) (by kernel_rfl) (by
    have hn : l.n ≤ 1000000 := hp
    refine ⟨⟨(0 : Nat), rfl, Nat.zero_le _, fun j hj => absurd hj (Nat.not_lt_zero _)⟩, fun g hg => ⟨fun hlt => ?_, fun hge => ?_⟩⟩
    · have hb : (g : Int) < (l.n : Int) := of_decide_eq_true hlt
      have e0 : ((g : Int)).toNat = g := by omega
      rw [e0]
      refine ⟨⟨by omega, hb⟩, fun h => ?_, fun h => ?_⟩
      · have h : L.sameS (l.g g) s = true := h
        exact (anyB_iff.2 ⟨g, by omega, h⟩).symm
      · have h : L.sameS (l.g g) s = false := h
        exact ⟨InK.of (by omega) (by omega), g + 1, by omega, rfl, ⟨rfl, fun _ _ => rfl⟩, ⟨by omega, fun j hj => by
          rcases Nat.lt_succ_iff_lt_or_eq.1 hj with h' | rfl
          · exact hg.2 j h'
          · exact h⟩, by omega⟩
    · have hb : ¬ (g : Int) < (l.n : Int) := of_decide_eq_false hge
      exact (anyB_no (fun i hi => hg.2 i (by omega))).symm)
theorem w_among1_ok : SpecOk Tryz.prog 55 w_among1_S := fnX Tryz.func55 (c := bodyOf Tryz.f55) (by kernel_rfl) mixed (fun args p r hs hp => by
  unfold w_among1_s at hs
  split at hs
  · cases hs; exact ⟨_, _, w_among1_vc _ _ hp.2, (.p (.sl hp.1) (.same _ .nil)), ⟨show SpecsL Tryz.prog _ from SpecsL.nil, rfl, ⟨show ItersL Tryz.prog _ from ItersL.nil, (TrsOk.none (fun _ => rfl))⟩⟩⟩
  · cases hs)
theorem w_among1_en : Enters Tryz.prog 55 := fun args w => by kernel_rfl
theorem w_among1_B : ∀ args p r, w_among1_s args = some (p, r) → ∃ b, r = .bool b := by
  intro args p r h
  unfold w_among1_s at h
  split at h
  · cases h; exact ⟨_, rfl⟩
  · cases h
end Go.Proofs.YtooapgllahonaaaGreat
