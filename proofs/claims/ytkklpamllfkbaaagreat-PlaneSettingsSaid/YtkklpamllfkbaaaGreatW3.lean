/- A symbolic walk over the model, and what it shows of functions of the program: parts of the proof that the text of the row joins. -/
import Derived.Test.YtkklpamllfkbaaaGreatW2
import Derived.Test.YtkklpamllfkbaaaGreatE3
import Derived.KernelRfl
import Derived.Test.YtkklpamllfkbaaaGreatW1

namespace Go.Proofs.YtkklpamllfkbaaaGreat
open Go.SE Go.RowKit
set_option maxRecDepth 100000
set_option maxHeartbeats 4000000
set_option linter.unusedVariables false
attribute [local irreducible] Go.SE.vc

def L.pck (N : L.Sq L.Pt) (l : L.Sq Int) : L.Sq L.Pt := ⟨l.n, fun i => N.g (l.g i).toNat⟩
def L.snoc (l : L.Sq Int) (x : Int) : L.Sq Int := ⟨l.n + 1, fun i => bif decide (i < l.n) then l.g i else x⟩
def L.nilI : L.Sq Int := ⟨0, fun _ => 0⟩
def L.first (f : Nat → Option (L.Sq Int)) : Nat → Option (L.Sq Int)
  | 0 => none
  | c + 1 => match L.first f c with
    | some x => some x
    | none => f c
def L.grp (N : L.Sq L.Pt) : Nat → L.Sq Int → Nat → Option (L.Sq Int)
  | 0, l, _ => bif L.wayOk (L.pck N l) then none else some l
  | d + 1, l, fr => L.first (fun j => L.grp N d (L.snoc l ((fr + j : Nat) : Int)) (fr + j + 1)) (N.n - fr)
def L.orB (o : Option (L.Sq Int)) (b : L.Sq Int) : L.Sq Int := match o with
  | some x => x
  | none => b
def L.isNo (o : Option (L.Sq Int)) : Bool := match o with
  | some _ => false
  | none => true
def L.aft (N : L.Sq L.Pt) (l b : L.Sq Int) : L.Sq Int := bif L.wayOk (L.pck N l) then b else l
def L.within0 (l : L.Sq Int) (n : Nat) : Prop := ∀ i, i < l.n → 0 ≤ l.g i ∧ l.g i < (n : Int)
def L.exF (N : L.Sq L.Pt) (j : Nat) : Option (L.Sq Int) := L.grp N (3 + j) L.nilI 0
def L.exL (N : L.Sq L.Pt) : L.Sq Int := L.orB (L.first (L.exF N) 22) L.nilI
def L.exBad (N : L.Sq L.Pt) : Bool := bif decide (24 < (N.n : Int)) then true else L.anyB N.n (fun i => !L.isNrm (N.g i))
def L.exE (N : L.Sq L.Pt) : Int := bif L.exBad N then 1 else bif L.wayOk N then 0 else 13
def L.exD (N : L.Sq L.Pt) : L.Pt := bif L.exBad N then ⟨0, 0⟩ else L.wayD N
def L.exN (N : L.Sq L.Pt) : Nat := bif L.exBad N then 0 else bif L.wayOk N then 0 else (L.exL N).n
theorem first_none {f : Nat → Option (L.Sq Int)} : ∀ {c : Nat}, (∀ j, j < c → f j = none) → L.first f c = none
  | 0, _ => rfl
  | c + 1, h => by rw [L.first, first_none (c := c) (fun j hj => h j (by omega))]; exact h c (by omega)
theorem first_none_of {f : Nat → Option (L.Sq Int)} : ∀ {c : Nat}, L.first f c = none → ∀ j, j < c → f j = none
  | 0, _, j, hj => absurd hj (Nat.not_lt_zero _)
  | c + 1, h, j, hj => by
    rw [L.first] at h
    cases hf : L.first f c with
    | some x => rw [hf] at h; cases h
    | none =>
      rw [hf] at h
      rcases Nat.lt_succ_iff_lt_or_eq.1 hj with hj | rfl
      · exact first_none_of hf j hj
      · exact h
theorem first_at {f : Nat → Option (L.Sq Int)} {j : Nat} {x : L.Sq Int} (h0 : ∀ i, i < j → f i = none) (h : f j = some x) : ∀ {c : Nat}, j < c → L.first f c = some x
  | c + 1, hc => by
    rw [L.first]
    rcases Nat.lt_succ_iff_lt_or_eq.1 hc with hc | rfl
    · rw [first_at h0 h hc]
    · rw [first_none h0]; exact h
theorem first_some {f : Nat → Option (L.Sq Int)} {x : L.Sq Int} : ∀ {c : Nat}, L.first f c = some x → ∃ j, j < c ∧ f j = some x ∧ ∀ i, i < j → f i = none
  | 0, h => by cases h
  | c + 1, h => by
    rw [L.first] at h
    cases hf : L.first f c with
    | some y =>
      rw [hf] at h
      cases h
      obtain ⟨j, h1, h2, h3⟩ := first_some hf
      exact ⟨j, by omega, h2, h3⟩
    | none =>
      rw [hf] at h
      exact ⟨c, Nat.lt_succ_self c, h, first_none_of hf⟩
theorem first_mono {f : Nat → Option (L.Sq Int)} {x : L.Sq Int} {c m : Nat} (h : L.first f c = some x) (hm : c ≤ m) : L.first f m = some x := by
  obtain ⟨j, h1, h2, h3⟩ := first_some h
  exact first_at h3 h2 (by omega)
theorem grp_len {N : L.Sq L.Pt} : ∀ {d : Nat} {l : L.Sq Int} {fr : Nat} {x : L.Sq Int}, L.grp N d l fr = some x → x.n = l.n + d
  | 0, l, fr, x, h => by
    rw [L.grp] at h
    cases hw : L.wayOk (L.pck N l) with
    | true => rw [hw] at h; cases h
    | false => rw [hw] at h; cases h; rfl
  | d + 1, l, fr, x, h => by
    rw [L.grp] at h
    obtain ⟨j, _, h2, _⟩ := first_some h
    have := grp_len h2
    rw [this]
    show l.n + 1 + d = l.n + (d + 1)
    omega
theorem snoc_within {l : L.Sq Int} {n : Nat} (h : L.within0 l n) {x : Int} (h0 : 0 ≤ x) (h1 : x < (n : Int)) : L.within0 (L.snoc l x) n := fun i hi => by
  have hi : i < l.n + 1 := hi
  show 0 ≤ (bif decide (i < l.n) then l.g i else x) ∧ (bif decide (i < l.n) then l.g i else x) < (n : Int)
  by_cases h' : i < l.n
  · rw [decide_eq_true h']; exact h i h'
  · rw [decide_eq_false h']; exact ⟨h0, h1⟩
theorem pick_nrms {N : L.Sq L.Pt} {l : L.Sq Int} (hN : L.nrms N) (h : L.within0 l N.n) (hn : l.n ≤ 1000000) : L.nrms (L.pck N l) := ⟨hn, fun i hi => hN.2 _ (by have := h i hi; omega)⟩
theorem isNo_none {o : Option (L.Sq Int)} (h : L.isNo o = true) : o = none := by
  cases o with
  | none => rfl
  | some x => cases h
theorem isNo_some {o : Option (L.Sq Int)} (h : L.isNo o = false) : ∃ x, o = some x := by
  cases o with
  | none => cases h
  | some x => exact ⟨x, rfl⟩
theorem exBad_false {N : L.Sq L.Pt} (h : L.exBad N = false) : N.n ≤ 24 ∧ L.nrms N := by
  unfold L.exBad at h
  cases hd : decide (24 < (N.n : Int)) with
  | true => rw [hd] at h; cases h
  | false =>
    have hd := of_decide_eq_false hd
    rw [decide_eq_false hd] at h
    refine ⟨by omega, by omega, fun i hi => ?_⟩
    cases hn : L.isNrm (N.g i) with
    | true => rfl
    | false =>
      have : L.anyB N.n (fun i => !L.isNrm (N.g i)) = true := anyB_iff.2 ⟨i, hi, by rw [hn]; rfl⟩
      rw [this] at h; cases h
theorem wayD_no {N : L.Sq L.Pt} (h : L.wayOk N = false) : L.wayD N = ⟨0, 0⟩ := by
  unfold L.wayOk at h
  obtain ⟨h1, h2⟩ := Bool.or_eq_false_iff.1 h
  unfold L.wayD
  rw [h1, h2]; rfl
abbrev p_exit2_tr : Tr := { T := (L.Sq Int) × (L.Sq L.Pt) × (L.Sq Int), U := Nat, args := fun t => (fun l N b => [.p (.sl 1 l.n (fun i => [.int .i64 (l.g i)])), .p (.ref [(.sl 2 N.n (fun i => [.int .i64 ((N.g i).x), .int .i64 ((N.g i).y)]))] 0), .loc 1003 0]) t.1 t.2.1 t.2.2, own := fun t => (fun l N b => [(1003, .blk 76 [.full false 1 (b).n (fun i => [.int .i64 ((b).g i)])])]) t.1 t.2.1 t.2.2, pre := fun t => (fun l N b => 1 ≤ l.n ∧ l.n ≤ 1000 ∧ L.nrms N ∧ L.within0 l N.n) t.1 t.2.1 t.2.2, post := fun t u => (fun l N b => fun u => True) t.1 t.2.1 t.2.2 u, own' := fun t u => (fun l N b => fun u => [(1003, .blk 76 [.full false 1 (L.aft N l b).n (fun i => [.int .i64 ((L.aft N l b).g i)])])]) t.1 t.2.1 t.2.2 u, res := fun t u => (fun l N b => fun u => .p (.bool (L.wayOk (L.pck N l)))) t.1 t.2.1 t.2.2 u }
theorem p_exit2_vc (l : L.Sq Int) (N : L.Sq L.Pt) (b : L.Sq Int) (hp : p_exit2_tr.pre (l, N, b)) : vc Tryz.prog ({ muts := [8], frz := lookN [], specs := lookS [(133, p_way_S)], loops := lookL [(3, { T := Nat, keep := [0, 1, 2, 5, 10, 11], keepO := [1003], chg := fun i => [(12, .p (.int .i64 (i : Int)))], own := fun i => [(20, .row 63 2 i (fun j => [.int .i64 ((N.g (l.g j).toNat).x), .int .i64 ((N.g (l.g j).toNat).y)]))], inv := fun i => i ≤ l.n, mu := fun i => l.n - i })], iters := lookI [], rfs := lookR [], nils := lookM [(2, [(5, 20, 63, 2)])] }) (bodyOf Tryz.f135) (stTr Tryz.f135 (p_exit2_tr.args (l, N, b)) (p_exit2_tr.own (l, N, b))) (retTr Tryz.prog Tryz.f135 p_exit2_tr (l, N, b)) :=
  @Eq.mpr _ ((∃ (g : Nat), (0 : Int) = (↑g : Int) ∧ (nat_lit 0 = g ∧ ∀ (i : Nat), i < nat_lit 0 → [] = [Go.SE.SV.int Go.IntKind.i64 (N.g (Int.toNat (l.g i))).x, Go.SE.SV.int Go.IntKind.i64 (N.g (Int.toNat (l.g i))).y]) ∧ g ≤ l.n) ∧ ∀ (g : Nat), g ≤ l.n → (Decidable.decide ((↑g : Int) < (↑l.n : Int)) = Bool.true → ((0 : Int) ≤ (↑g : Int) ∧ (↑g : Int) < (↑l.n : Int)) ∧ ((0 : Int) ≤ l.g (Int.toNat (↑g : Int)) ∧
 l.g (Int.toNat (↑g : Int)) < (↑N.n : Int)) ∧ (g + nat_lit 1) * nat_lit 16 ≤ (140737488355328 : Nat) ∧ Go.SE.InK Go.IntKind.i64 ((↑g : Int) + (1 : Int)) ∧ ∃ (g' : Nat), (↑g : Int) + (1 : Int) = (↑g' : Int) ∧ (↑l.n : Int) = (↑l.n : Int) ∧ (l.n = l.n ∧ ∀ (i : Nat), i < l.n → [Go.SE.SV.int Go.IntKind.i64 (l.g i)] = [Go.SE.SV.int Go.IntKind.i64 (l.g i)]) ∧ (l.n = l.n ∧ ∀ (i : Nat), i < l.n →
 [Go.SE.SV.int Go.IntKind.i64 (l.g i)] = [Go.SE.SV.int Go.IntKind.i64 (l.g i)]) ∧ Go.SE.SV.ref [Go.SE.SV.sl (nat_lit 2) N.n fun (i : Nat) ↦ [Go.SE.SV.int Go.IntKind.i64 (N.g i).x, Go.SE.SV.int Go.IntKind.i64 (N.g i).y]] (nat_lit 0) = Go.SE.SV.ref [Go.SE.SV.sl (nat_lit 2) N.n fun (i : Nat) ↦ [Go.SE.SV.int Go.IntKind.i64 (N.g i).x, Go.SE.SV.int Go.IntKind.i64 (N.g i).y]] (nat_lit 0) ∧ nat_lit 0 =
 nat_lit 0 ∧ (g + nat_lit 1 = g' ∧ ∀ (i : Nat), i < g + nat_lit 1 → Go.SE.appGet g (fun (j : Nat) ↦ [Go.SE.SV.int Go.IntKind.i64 (N.g (Int.toNat (l.g j))).x, Go.SE.SV.int Go.IntKind.i64 (N.g (Int.toNat (l.g j))).y]) (fun (x : Nat) ↦ [Go.SE.SV.int Go.IntKind.i64 (N.g (Int.toNat (l.g (Int.toNat (↑g : Int))))).x, Go.SE.SV.int Go.IntKind.i64 (N.g (Int.toNat (l.g (Int.toNat (↑g : Int))))).y]) i =
 [Go.SE.SV.int Go.IntKind.i64 (N.g (Int.toNat (l.g i))).x, Go.SE.SV.int Go.IntKind.i64 (N.g (Int.toNat (l.g i))).y]) ∧ (b.n = b.n ∧ ∀ (i : Nat), i < b.n → [Go.SE.SV.int Go.IntKind.i64 (b.g i)] = [Go.SE.SV.int Go.IntKind.i64 (b.g i)]) ∧ g' ≤ l.n ∧ l.n - g' < l.n - g) ∧ (Decidable.decide ((↑g : Int) < (↑l.n : Int)) = Bool.false → ((∀ (i : Nat), i < g → [Go.SE.SV.int Go.IntKind.i64 (N.g (Int.toNat
 (l.g i))).x, Go.SE.SV.int Go.IntKind.i64 (N.g (Int.toNat (l.g i))).y] = [Go.SE.SV.int Go.IntKind.i64 (N.g (Int.toNat (l.g i))).x, Go.SE.SV.int Go.IntKind.i64 (N.g (Int.toNat (l.g i))).y]) ∧ L.nrms (L.Sq.mk g fun (i : Nat) ↦ N.g (Int.toNat (l.g i)))) ∧ ((!L.wayOk (L.Sq.mk g fun (i : Nat) ↦ N.g (Int.toNat (l.g i)))) = Bool.true → ∃ (u : Nat), Bool.false = L.wayOk (L.pck N l) ∧ (l.n = (L.aft N l b).n
 ∧ (0 : Nat) < l.n ∧ ∀ (i : Nat), i < l.n → [Go.SE.SV.int Go.IntKind.i64 (l.g i)] = [Go.SE.SV.int Go.IntKind.i64 ((L.aft N l b).g i)]) ∧ True) ∧ ((!L.wayOk (L.Sq.mk g fun (i : Nat) ↦ N.g (Int.toNat (l.g i)))) = Bool.false → ∃ (u : Nat), Bool.true = L.wayOk (L.pck N l) ∧ (b.n = (L.aft N l b).n ∧ ∀ (i : Nat), i < b.n → [Go.SE.SV.int Go.IntKind.i64 (b.g i)] = [Go.SE.SV.int Go.IntKind.i64 ((L.aft N l
 b).g i)]) ∧ True))) (by kernel_rfl) (by
    have hp : 1 ≤ l.n ∧ l.n ≤ 1000 ∧ L.nrms N ∧ L.within0 l N.n := hp
    obtain ⟨h1, h2, hN, hw⟩ := hp
    refine ⟨⟨(0 : Nat), rfl, ⟨rfl, fun i hi => absurd hi (Nat.not_lt_zero _)⟩, Nat.zero_le _⟩, fun g hg => ⟨fun hlt => ?_, fun hge => ?_⟩⟩
    · have hb : (g : Int) < (l.n : Int) := of_decide_eq_true hlt
      have e0 : ((g : Int)).toNat = g := by omega
      have hx := hw g (by omega)
      rw [e0]
      refine ⟨⟨by omega, hb⟩, hx, show (g + 1) * 16 ≤ 140737488355328 by omega, InK.of (by omega) (by omega), g + 1, by omega, rfl, ⟨rfl, fun _ _ => rfl⟩, ⟨rfl, fun _ _ => rfl⟩, rfl, rfl, ⟨rfl, fun i hi => ?_⟩, ⟨rfl, fun _ _ => rfl⟩, by omega, by omega⟩
      have hi : i < g + 1 := hi
      unfold appGet
      by_cases h' : i < g
      · rw [if_pos h']
      · rw [if_neg h']
        obtain rfl : i = g := by omega
        rfl
    · have hb : ¬ (g : Int) < (l.n : Int) := of_decide_eq_false hge
      obtain rfl : g = l.n := by omega
      have e : (L.Sq.mk l.n fun (i : Nat) => N.g (l.g i).toNat) = L.pck N l := rfl
      rw [e]
      refine ⟨⟨fun _ _ => rfl, pick_nrms hN hw (by omega)⟩, fun hc => ?_, fun hc => ?_⟩
      · have hc : L.wayOk (L.pck N l) = false := by simpa using (show (!L.wayOk (L.pck N l)) = true from hc)
        unfold L.aft
        rw [hc]; exact ⟨(0 : Nat), rfl, ⟨rfl, h1, fun _ _ => rfl⟩, trivial⟩
      · have hc : L.wayOk (L.pck N l) = true := by simpa using (show (!L.wayOk (L.pck N l)) = false from hc)
        unfold L.aft
        rw [hc]; exact ⟨(0 : Nat), rfl, ⟨rfl, fun _ _ => rfl⟩, trivial⟩)
theorem p_exit2_en : Enters Tryz.prog 135 := fun args w => by kernel_rfl
theorem p_exit2_tok : TrOk Tryz.prog 135 p_exit2_tr := tr_ok (ks := [1003]) (n := 3) Tryz.func135 (c := bodyOf Tryz.f135) (by kernel_rfl) mixed ⟨fun t => rfl, fun t => rfl, fun t u => rfl, fun t u => rfl, fun t u => rfl, by kernel_rfl⟩ (fun ⟨l, N, b⟩ hp => ⟨_, p_exit2_vc l N b hp, ⟨show SpecsL Tryz.prog _ from (SpecsL.cons p_way_ok p_way_en SpecsL.nil), rfl, ⟨show ItersL Tryz.prog _ from ItersL.nil, (TrsOk.none (fun _ => rfl))⟩⟩⟩)
abbrev p_more_tr : Tr := { T := (L.Sq Int) × (Nat) × (Nat) × (L.Sq L.Pt) × (L.Sq Int), U := Nat, args := fun t => (fun l fr k N b => [.p (.sl 1 l.n (fun i => [.int .i64 (l.g i)])), .p (.int .i64 (fr : Int)), .p (.ref [.int .i64 (k : Int)] 0), .loc 1005 0, .p (.ref [.int .i64 (N.n : Int)] 0), .loc 1007 0]) t.1 t.2.1 t.2.2.1 t.2.2.2.1 t.2.2.2.2, own := fun t => (fun l fr k N b => [(1003, .blk 76 [.full false 1 (b).n (fun i => [.int .i64 ((b).g i)])]), (1005, .blk 164 [.cl 135 [.p (.ref [(.sl 2 N.n (fun i => [.int .i64 ((N.g i).x), .int .i64 ((N.g i).y)]))] 0), .loc 1003 0]]), (1007, .blk 135 [.cl 175 [.p (.ref [.int .i64 (k : Int)] 0), .loc 1005 0, .p (.ref [.int .i64 (N.n : Int)] 0), .loc 1007 0]])]) t.1 t.2.1 t.2.2.1 t.2.2.2.1 t.2.2.2.2, pre := fun t => (fun l fr k N b => (l.n ≤ k ∧ 1 ≤ k ∧ k ≤ 1000) ∧ (fr ≤ N.n ∧ N.n ≤ 1000) ∧ L.nrms N ∧ L.within0 l N.n) t.1 t.2.1 t.2.2.1 t.2.2.2.1 t.2.2.2.2, post := fun t u => (fun l fr k N b => fun u => True) t.1 t.2.1 t.2.2.1 t.2.2.2.1 t.2.2.2.2 u, own' := fun t u => (fun l fr k N b => fun u => [(1003, .blk 76 [.full false 1 (L.orB (L.grp N (k - l.n) l fr) b).n (fun i => [.int .i64 ((L.orB (L.grp N (k - l.n) l fr) b).g i)])]), (1005, .blk 164 [.cl 135 [.p (.ref [(.sl 2 N.n (fun i => [.int .i64 ((N.g i).x), .int .i64 ((N.g i).y)]))] 0), .loc 1003 0]]), (1007, .blk 135 [.cl 175 [.p (.ref [.int .i64 (k : Int)] 0), .loc 1005 0, .p (.ref [.int .i64 (N.n : Int)] 0), .loc 1007 0]])]) t.1 t.2.1 t.2.2.1 t.2.2.2.1 t.2.2.2.2 u, res := fun t u => (fun l fr k N b => fun u => .p (.bool (L.isNo (L.grp N (k - l.n) l fr)))) t.1 t.2.1 t.2.2.1 t.2.2.2.1 t.2.2.2.2 u }
abbrev p_more_mu : p_more_tr.T → Nat := fun t => (fun l fr k N b => k - l.n) t.1 t.2.1 t.2.2.1 t.2.2.2.1 t.2.2.2.2
theorem p_more_vc (rn : Nat) (l : L.Sq Int) (fr : Nat) (k : Nat) (N : L.Sq L.Pt) (b : L.Sq Int) (hp : p_more_tr.pre (l, fr, k, N, b)) (hmu : k - l.n < rn + 1) : vc Tryz.prog ({ muts := [], frz := lookN [], specs := lookS [], loops := lookL [(4, { T := Nat, keep := [0, 1, 2, 3, 4, 5, 8], keepO := [1003, 1005, 1007], chg := fun j => [(9, .p (.int .i64 ((fr + j : Nat) : Int)))], own := fun _ => [], inv := fun j => fr + j ≤ N.n ∧ ∀ c, c < j → L.isNo (L.grp N (k - l.n - 1) (L.snoc l ((fr + c : Nat) : Int)) (fr + c + 1)) = true, mu := fun j => N.n - (fr + j) })], iters := lookI [], rfs := lookR [], nils := lookM [], trs := lookT [(135, p_exit2_tr), (175, Tr.lt p_more_tr p_more_mu rn)], ren := fun k => k }) (bodyOf Tryz.f175) (stTr Tryz.f175 (p_more_tr.args (l, fr, k, N, b)) (p_more_tr.own (l, fr, k, N, b))) (retTr Tryz.prog Tryz.f175 p_more_tr (l, fr, k, N, b)) :=
  @Eq.mpr _ ((Decidable.decide ((↑l.n : Int) = (↑k : Int)) = Bool.true → ∃ (t : L.Sq Int × L.Sq L.Pt × L.Sq Int), (l.n = t.1.n ∧ ∀ (i : Nat), i < l.n → [Go.SE.SV.int Go.IntKind.i64 (l.g i)] = [Go.SE.SV.int Go.IntKind.i64 (t.1.g i)]) ∧ Go.SE.SV.ref [Go.SE.SV.sl (nat_lit 2) N.n fun (i : Nat) ↦ [Go.SE.SV.int Go.IntKind.i64 (N.g i).x, Go.SE.SV.int Go.IntKind.i64 (N.g i).y]] (nat_lit 0) = Go.SE.SV.ref [Go.SE.SV.sl
 (2 : Nat) t.2.1.n fun (i : Nat) ↦ [Go.SE.SV.int Go.IntKind.i64 (t.2.1.g i).x, Go.SE.SV.int Go.IntKind.i64 (t.2.1.g i).y]] (0 : Nat) ∧ nat_lit 0 = (0 : Nat) ∧ (b.n = t.2.2.n ∧ ∀ (i : Nat), i < b.n → [Go.SE.SV.int Go.IntKind.i64 (b.g i)] = [Go.SE.SV.int Go.IntKind.i64 (t.2.2.g i)]) ∧ ((1 : Nat) ≤ t.1.n ∧ t.1.n ≤ (1000 : Nat) ∧ L.nrms t.2.1 ∧ L.within0 t.1 t.2.1.n) ∧ ∀ (u : Nat), True → ∃ (u : Nat),
 L.wayOk (L.pck t.2.1 t.1) = L.isNo (L.grp N (k - l.n) l fr) ∧ ((L.aft t.2.1 t.1 t.2.2).n = (L.orB (L.grp N (k - l.n) l fr) b).n ∧ ∀ (i : Nat), i < (L.aft t.2.1 t.1 t.2.2).n → [Go.SE.SV.int Go.IntKind.i64 ((L.aft t.2.1 t.1 t.2.2).g i)] = [Go.SE.SV.int Go.IntKind.i64 ((L.orB (L.grp N (k - l.n) l fr) b).g i)]) ∧ Go.SE.EV.cl (nat_lit 135) [Go.SE.EV.p (Go.SE.SV.ref [Go.SE.SV.sl (nat_lit 2) N.n fun (i :
 Nat) ↦ [Go.SE.SV.int Go.IntKind.i64 (N.g i).x, Go.SE.SV.int Go.IntKind.i64 (N.g i).y]] (nat_lit 0)), Go.SE.EV.loc (nat_lit 1003) (nat_lit 0)] = Go.SE.EV.cl (135 : Nat) [Go.SE.EV.p (Go.SE.SV.ref [Go.SE.SV.sl (2 : Nat) N.n fun (i : Nat) ↦ [Go.SE.SV.int Go.IntKind.i64 (N.g i).x, Go.SE.SV.int Go.IntKind.i64 (N.g i).y]] (0 : Nat)), Go.SE.EV.loc (1003 : Nat) (0 : Nat)] ∧ Go.SE.EV.cl (nat_lit 175)
 [Go.SE.EV.p (Go.SE.SV.ref [Go.SE.SV.int Go.IntKind.i64 (↑k : Int)] (nat_lit 0)), Go.SE.EV.loc (nat_lit 1005) (nat_lit 0), Go.SE.EV.p (Go.SE.SV.ref [Go.SE.SV.int Go.IntKind.i64 (↑N.n : Int)] (nat_lit 0)), Go.SE.EV.loc (nat_lit 1007) (nat_lit 0)] = Go.SE.EV.cl (175 : Nat) [Go.SE.EV.p (Go.SE.SV.ref [Go.SE.SV.int Go.IntKind.i64 (↑k : Int)] (0 : Nat)), Go.SE.EV.loc (1005 : Nat) (0 : Nat), Go.SE.EV.p
 (Go.SE.SV.ref [Go.SE.SV.int Go.IntKind.i64 (↑N.n : Int)] (0 : Nat)), Go.SE.EV.loc (1007 : Nat) (0 : Nat)] ∧ True) ∧ (Decidable.decide ((↑l.n : Int) = (↑k : Int)) = Bool.false → (∃ (g : Nat), (↑fr : Int) = (↑(fr + g) : Int) ∧ fr + g ≤ N.n ∧ ∀ (c : Nat), c < g → L.isNo (L.grp N (k - l.n - (1 : Nat)) (L.snoc l (↑(fr + c) : Int)) (fr + c + (1 : Nat))) = Bool.true) ∧ ∀ (g : Nat), (fr + g ≤ N.n ∧ ∀ (c :
 Nat), c < g → L.isNo (L.grp N (k - l.n - (1 : Nat)) (L.snoc l (↑(fr + c) : Int)) (fr + c + (1 : Nat))) = Bool.true) → (Decidable.decide ((↑(fr + g) : Int) < (↑N.n : Int)) = Bool.true → ((0 : Int) ≤ (↑l.n : Int) ∧ (↑l.n : Int) ≤ (↑l.n : Int) ∧ (↑l.n : Int) = (↑l.n : Int)) ∧ ((0 : Nat) < (1 : Nat) ∧ (Int.toNat (↑l.n : Int) + (1 : Nat)) * nat_lit 8 ≤ (140737488355328 : Nat)) ∧ Go.SE.InK
 Go.IntKind.i64 ((↑(fr + g) : Int) + (1 : Int)) ∧ ∃ (t : L.Sq Int × Nat × Nat × L.Sq L.Pt × L.Sq Int), (Int.toNat (↑l.n : Int) + (1 : Nat) = t.1.n ∧ ∀ (i : Nat), i < Int.toNat (↑l.n : Int) + (1 : Nat) → Go.SE.appGet (Int.toNat (↑l.n : Int)) (fun (i : Nat) ↦ [Go.SE.SV.int Go.IntKind.i64 (l.g i)]) (fun (x : Nat) ↦ [Go.SE.SV.int Go.IntKind.i64 (↑(fr + g) : Int)]) i = [Go.SE.SV.int Go.IntKind.i64
 (t.1.g i)]) ∧ (↑(fr + g) : Int) + (1 : Int) = (↑t.2.1 : Int) ∧ Go.SE.SV.ref [Go.SE.SV.int Go.IntKind.i64 (↑k : Int)] (nat_lit 0) = Go.SE.SV.ref [Go.SE.SV.int Go.IntKind.i64 (↑t.snd.2.1 : Int)] (0 : Nat) ∧ nat_lit 0 = (0 : Nat) ∧ Go.SE.SV.ref [Go.SE.SV.int Go.IntKind.i64 (↑N.n : Int)] (nat_lit 0) = Go.SE.SV.ref [Go.SE.SV.int Go.IntKind.i64 (↑t.snd.snd.2.1.n : Int)] (0 : Nat) ∧ nat_lit 0 = (0 : Nat)
 ∧ (b.n = t.snd.snd.2.2.n ∧ ∀ (i : Nat), i < b.n → [Go.SE.SV.int Go.IntKind.i64 (b.g i)] = [Go.SE.SV.int Go.IntKind.i64 (t.snd.snd.2.2.g i)]) ∧ Go.SE.EV.cl (nat_lit 135) [Go.SE.EV.p (Go.SE.SV.ref [Go.SE.SV.sl (nat_lit 2) N.n fun (i : Nat) ↦ [Go.SE.SV.int Go.IntKind.i64 (N.g i).x, Go.SE.SV.int Go.IntKind.i64 (N.g i).y]] (nat_lit 0)), Go.SE.EV.loc (nat_lit 1003) (nat_lit 0)] = Go.SE.EV.cl (135 : Nat)
 [Go.SE.EV.p (Go.SE.SV.ref [Go.SE.SV.sl (nat_lit 2) t.snd.snd.2.1.n fun (i : Nat) ↦ [Go.SE.SV.int Go.IntKind.i64 (t.snd.snd.2.1.g i).x, Go.SE.SV.int Go.IntKind.i64 (t.snd.snd.2.1.g i).y]] (nat_lit 0)), Go.SE.EV.loc (nat_lit 1003) (nat_lit 0)] ∧ Go.SE.EV.cl (nat_lit 175) [Go.SE.EV.p (Go.SE.SV.ref [Go.SE.SV.int Go.IntKind.i64 (↑k : Int)] (nat_lit 0)), Go.SE.EV.loc (nat_lit 1005) (nat_lit 0),
 Go.SE.EV.p (Go.SE.SV.ref [Go.SE.SV.int Go.IntKind.i64 (↑N.n : Int)] (nat_lit 0)), Go.SE.EV.loc (nat_lit 1007) (nat_lit 0)] = Go.SE.EV.cl (175 : Nat) [Go.SE.EV.p (Go.SE.SV.ref [Go.SE.SV.int Go.IntKind.i64 (↑t.snd.2.1 : Int)] (nat_lit 0)), Go.SE.EV.loc (nat_lit 1005) (nat_lit 0), Go.SE.EV.p (Go.SE.SV.ref [Go.SE.SV.int Go.IntKind.i64 (↑t.snd.snd.2.1.n : Int)] (nat_lit 0)), Go.SE.EV.loc (nat_lit 1007)
 (nat_lit 0)] ∧ (((t.1.n ≤ t.snd.2.1 ∧ (1 : Nat) ≤ t.snd.2.1 ∧ t.snd.2.1 ≤ (1000 : Nat)) ∧ (t.2.1 ≤ t.snd.snd.2.1.n ∧ t.snd.snd.2.1.n ≤ (1000 : Nat)) ∧ L.nrms t.snd.snd.2.1 ∧ L.within0 t.1 t.snd.snd.2.1.n) ∧ t.snd.2.1 - t.1.n < rn) ∧ ∀ (u : Nat), True → ((!L.isNo (L.grp t.snd.snd.2.1 (t.snd.2.1 - t.1.n) t.1 t.2.1)) = Bool.true → ∃ (u : Nat), Bool.false = L.isNo (L.grp N (k - l.n) l fr) ∧ ((L.orB
 (L.grp t.snd.snd.2.1 (t.snd.2.1 - t.1.n) t.1 t.2.1) t.snd.snd.2.2).n = (L.orB (L.grp N (k - l.n) l fr) b).n ∧ ∀ (i : Nat), i < (L.orB (L.grp t.snd.snd.2.1 (t.snd.2.1 - t.1.n) t.1 t.2.1) t.snd.snd.2.2).n → [Go.SE.SV.int Go.IntKind.i64 ((L.orB (L.grp t.snd.snd.2.1 (t.snd.2.1 - t.1.n) t.1 t.2.1) t.snd.snd.2.2).g i)] = [Go.SE.SV.int Go.IntKind.i64 ((L.orB (L.grp N (k - l.n) l fr) b).g i)]) ∧
 Go.SE.EV.cl (nat_lit 135) [Go.SE.EV.p (Go.SE.SV.ref [Go.SE.SV.sl (nat_lit 2) t.snd.snd.2.1.n fun (i : Nat) ↦ [Go.SE.SV.int Go.IntKind.i64 (t.snd.snd.2.1.g i).x, Go.SE.SV.int Go.IntKind.i64 (t.snd.snd.2.1.g i).y]] (nat_lit 0)), Go.SE.EV.loc (1003 : Nat) (nat_lit 0)] = Go.SE.EV.cl (135 : Nat) [Go.SE.EV.p (Go.SE.SV.ref [Go.SE.SV.sl (2 : Nat) N.n fun (i : Nat) ↦ [Go.SE.SV.int Go.IntKind.i64 (N.g i).x,
 Go.SE.SV.int Go.IntKind.i64 (N.g i).y]] (0 : Nat)), Go.SE.EV.loc (1003 : Nat) (0 : Nat)] ∧ Go.SE.EV.cl (nat_lit 175) [Go.SE.EV.p (Go.SE.SV.ref [Go.SE.SV.int Go.IntKind.i64 (↑t.snd.2.1 : Int)] (nat_lit 0)), Go.SE.EV.loc (1005 : Nat) (nat_lit 0), Go.SE.EV.p (Go.SE.SV.ref [Go.SE.SV.int Go.IntKind.i64 (↑t.snd.snd.2.1.n : Int)] (nat_lit 0)), Go.SE.EV.loc (1007 : Nat) (nat_lit 0)] = Go.SE.EV.cl (175 :
 Nat) [Go.SE.EV.p (Go.SE.SV.ref [Go.SE.SV.int Go.IntKind.i64 (↑k : Int)] (0 : Nat)), Go.SE.EV.loc (1005 : Nat) (0 : Nat), Go.SE.EV.p (Go.SE.SV.ref [Go.SE.SV.int Go.IntKind.i64 (↑N.n : Int)] (0 : Nat)), Go.SE.EV.loc (1007 : Nat) (0 : Nat)] ∧ True) ∧ ((!L.isNo (L.grp t.snd.snd.2.1 (t.snd.2.1 - t.1.n) t.1 t.2.1)) = Bool.false → Go.SE.InK Go.IntKind.i64 ((↑(fr + g) : Int) + (1 : Int)) ∧ ∃ (g' : Nat),
 (↑(fr + g) : Int) + (1 : Int) = (↑(fr + g') : Int) ∧ Bool.false = Bool.false ∧ (l.n = l.n ∧ ∀ (i : Nat), i < l.n → [Go.SE.SV.int Go.IntKind.i64 (l.g i)] = [Go.SE.SV.int Go.IntKind.i64 (l.g i)]) ∧ (↑fr : Int) = (↑fr : Int) ∧ Go.SE.SV.ref [Go.SE.SV.int Go.IntKind.i64 (↑k : Int)] (nat_lit 0) = Go.SE.SV.ref [Go.SE.SV.int Go.IntKind.i64 (↑k : Int)] (nat_lit 0) ∧ nat_lit 0 = nat_lit 0 ∧ Go.SE.SV.ref
 [Go.SE.SV.int Go.IntKind.i64 (↑N.n : Int)] (nat_lit 0) = Go.SE.SV.ref [Go.SE.SV.int Go.IntKind.i64 (↑N.n : Int)] (nat_lit 0) ∧ nat_lit 0 = nat_lit 0 ∧ ((L.orB (L.grp t.snd.snd.2.1 (t.snd.2.1 - t.1.n) t.1 t.2.1) t.snd.snd.2.2).n = b.n ∧ ∀ (i : Nat), i < (L.orB (L.grp t.snd.snd.2.1 (t.snd.2.1 - t.1.n) t.1 t.2.1) t.snd.snd.2.2).n → [Go.SE.SV.int Go.IntKind.i64 ((L.orB (L.grp t.snd.snd.2.1 (t.snd.2.1
 - t.1.n) t.1 t.2.1) t.snd.snd.2.2).g i)] = [Go.SE.SV.int Go.IntKind.i64 (b.g i)]) ∧ Go.SE.EV.cl (nat_lit 135) [Go.SE.EV.p (Go.SE.SV.ref [Go.SE.SV.sl (nat_lit 2) t.snd.snd.2.1.n fun (i : Nat) ↦ [Go.SE.SV.int Go.IntKind.i64 (t.snd.snd.2.1.g i).x, Go.SE.SV.int Go.IntKind.i64 (t.snd.snd.2.1.g i).y]] (nat_lit 0)), Go.SE.EV.loc (1003 : Nat) (nat_lit 0)] = Go.SE.EV.cl (nat_lit 135) [Go.SE.EV.p
 (Go.SE.SV.ref [Go.SE.SV.sl (nat_lit 2) N.n fun (i : Nat) ↦ [Go.SE.SV.int Go.IntKind.i64 (N.g i).x, Go.SE.SV.int Go.IntKind.i64 (N.g i).y]] (nat_lit 0)), Go.SE.EV.loc (nat_lit 1003) (nat_lit 0)] ∧ Go.SE.EV.cl (nat_lit 175) [Go.SE.EV.p (Go.SE.SV.ref [Go.SE.SV.int Go.IntKind.i64 (↑t.snd.2.1 : Int)] (nat_lit 0)), Go.SE.EV.loc (1005 : Nat) (nat_lit 0), Go.SE.EV.p (Go.SE.SV.ref [Go.SE.SV.int
 Go.IntKind.i64 (↑t.snd.snd.2.1.n : Int)] (nat_lit 0)), Go.SE.EV.loc (1007 : Nat) (nat_lit 0)] = Go.SE.EV.cl (nat_lit 175) [Go.SE.EV.p (Go.SE.SV.ref [Go.SE.SV.int Go.IntKind.i64 (↑k : Int)] (nat_lit 0)), Go.SE.EV.loc (nat_lit 1005) (nat_lit 0), Go.SE.EV.p (Go.SE.SV.ref [Go.SE.SV.int Go.IntKind.i64 (↑N.n : Int)] (nat_lit 0)), Go.SE.EV.loc (nat_lit 1007) (nat_lit 0)] ∧ (fr + g' ≤ N.n ∧ ∀ (c : Nat), c
 < g' → L.isNo (L.grp N (k - l.n - (1 : Nat)) (L.snoc l (↑(fr + c) : Int)) (fr + c + (1 : Nat))) = Bool.true) ∧ N.n - (fr + g') < N.n - (fr + g))) ∧ (Decidable.decide ((↑(fr + g) : Int) < (↑N.n : Int)) = Bool.false → ∃ (u : Nat), Bool.true = L.isNo (L.grp N (k - l.n) l fr) ∧ (b.n = (L.orB (L.grp N (k - l.n) l fr) b).n ∧ ∀ (i : Nat), i < b.n → [Go.SE.SV.int Go.IntKind.i64 (b.g i)] = [Go.SE.SV.int
 Go.IntKind.i64 ((L.orB (L.grp N (k - l.n) l fr) b).g i)]) ∧ Go.SE.EV.cl (nat_lit 135) [Go.SE.EV.p (Go.SE.SV.ref [Go.SE.SV.sl (nat_lit 2) N.n fun (i : Nat) ↦ [Go.SE.SV.int Go.IntKind.i64 (N.g i).x, Go.SE.SV.int Go.IntKind.i64 (N.g i).y]] (nat_lit 0)), Go.SE.EV.loc (nat_lit 1003) (nat_lit 0)] = Go.SE.EV.cl (135 : Nat) [Go.SE.EV.p (Go.SE.SV.ref [Go.SE.SV.sl (2 : Nat) N.n fun (i : Nat) ↦ [Go.SE.SV.int
 Go.IntKind.i64 (N.g i).x, Go.SE.SV.int Go.IntKind.i64 (N.g i).y]] (0 : Nat)), Go.SE.EV.loc (1003 : Nat) (0 : Nat)] ∧ Go.SE.EV.cl (nat_lit 175) [Go.SE.EV.p (Go.SE.SV.ref [Go.SE.SV.int Go.IntKind.i64 (↑k : Int)] (nat_lit 0)), Go.SE.EV.loc (nat_lit 1005) (nat_lit 0), Go.SE.EV.p (Go.SE.SV.ref [Go.SE.SV.int Go.IntKind.i64 (↑N.n : Int)] (nat_lit 0)), Go.SE.EV.loc (nat_lit 1007) (nat_lit 0)] =
 Go.SE.EV.cl (175 : Nat) [Go.SE.EV.p (Go.SE.SV.ref [Go.SE.SV.int Go.IntKind.i64 (↑k : Int)] (0 : Nat)), Go.SE.EV.loc (1005 : Nat) (0 : Nat), Go.SE.EV.p (Go.SE.SV.ref [Go.SE.SV.int Go.IntKind.i64 (↑N.n : Int)] (0 : Nat)), Go.SE.EV.loc (1007 : Nat) (0 : Nat)] ∧ True))) (by kernel_rfl) (by
    have hp : (l.n ≤ k ∧ 1 ≤ k ∧ k ≤ 1000) ∧ (fr ≤ N.n ∧ N.n ≤ 1000) ∧ L.nrms N ∧ L.within0 l N.n := hp
    obtain ⟨⟨k1, k2, k3⟩, ⟨f1, f2⟩, hN, hw⟩ := hp
    have hmu : k - l.n < rn + 1 := hmu
    refine ⟨fun he => ?_, fun hne => ?_⟩
    · have he : ((l.n : Nat) : Int) = (k : Int) := of_decide_eq_true he
      have e0 : k - l.n = 0 := by omega
      have hR : L.isNo (L.grp N (k - l.n) l fr) = L.wayOk (L.pck N l) := by
        rw [e0, L.grp]; cases L.wayOk (L.pck N l) <;> rfl
      have hA : L.orB (L.grp N (k - l.n) l fr) b = L.aft N l b := by
        rw [e0, L.grp]; unfold L.aft; cases L.wayOk (L.pck N l) <;> rfl
      rw [hR, hA]
      exact ⟨(l, N, b), ⟨rfl, fun _ _ => rfl⟩, rfl, rfl, ⟨rfl, fun _ _ => rfl⟩, ⟨by show 1 ≤ l.n; omega, by show l.n ≤ 1000; omega, hN, hw⟩, fun u _ => ⟨(0 : Nat), rfl, ⟨rfl, fun _ _ => rfl⟩, rfl, rfl, trivial⟩⟩
    · have hne : ¬ ((l.n : Nat) : Int) = (k : Int) := of_decide_eq_false hne
      have hG : L.grp N (k - l.n) l fr = L.first (fun j => L.grp N (k - l.n - 1) (L.snoc l ((fr + j : Nat) : Int)) (fr + j + 1)) (N.n - fr) := by
        obtain ⟨d, hd⟩ : ∃ d, k - l.n = d + 1 := ⟨k - l.n - 1, by omega⟩
        rw [hd]; rfl
      rw [hG]
      refine ⟨⟨(0 : Nat), rfl, f1, fun c hc => absurd hc (Nat.not_lt_zero _)⟩, fun g hg => ⟨fun hlt => ?_, fun hge => ?_⟩⟩
      · obtain ⟨g1, g2⟩ := hg
        have hb : ((fr + g : Nat) : Int) < (N.n : Int) := of_decide_eq_true hlt
        have e1 : ((l.n : Nat) : Int).toNat = l.n := by omega
        have none : ∀ c, c < g → L.grp N (k - l.n - 1) (L.snoc l ((fr + c : Nat) : Int)) (fr + c + 1) = none := fun c hc => isNo_none (g2 c hc)
        rw [e1]
        refine ⟨⟨by omega, by omega, rfl⟩, ⟨by decide, show (l.n + 1) * 8 ≤ 140737488355328 by omega⟩, InK.of (by omega) (by omega), (L.snoc l ((fr + g : Nat) : Int), fr + g + 1, k, N, b), ⟨rfl, fun i hi => ?_⟩, by show ((fr + g : Nat) : Int) + 1 = ((fr + g + 1 : Nat) : Int); omega, rfl, rfl, rfl, rfl, ⟨rfl, fun _ _ => rfl⟩, rfl, rfl, ⟨⟨⟨by show l.n + 1 ≤ k; omega, k2, k3⟩, ⟨by show fr + g + 1 ≤ N.n; omega, f2⟩, hN, snoc_within hw (by omega) hb⟩, by show k - (l.n + 1) < rn; omega⟩, fun u _ => ?_⟩
        · have hi : i < l.n + 1 := hi
          show appGet l.n _ _ i = [SV.int .i64 (bif decide (i < l.n) then l.g i else ((fr + g : Nat) : Int))]
          unfold appGet
          by_cases h' : i < l.n
          · rw [if_pos h', decide_eq_true h']; rfl
          · rw [if_neg h', decide_eq_false h']; rfl
        · have hF : L.grp N (k - (L.snoc l ((fr + g : Nat) : Int)).n) (L.snoc l ((fr + g : Nat) : Int)) (fr + g + 1) = L.grp N (k - l.n - 1) (L.snoc l ((fr + g : Nat) : Int)) (fr + g + 1) := rfl
          dsimp only
          rw [hF]
          refine ⟨fun hc => ?_, fun hc => ?_⟩
          · have hc : L.isNo (L.grp N (k - l.n - 1) (L.snoc l ((fr + g : Nat) : Int)) (fr + g + 1)) = false := by simpa using (show (!L.isNo (L.grp N (k - l.n - 1) (L.snoc l ((fr + g : Nat) : Int)) (fr + g + 1))) = true from hc)
            obtain ⟨x, hx⟩ := isNo_some hc
            have hf := first_at (f := fun j => L.grp N (k - l.n - 1) (L.snoc l ((fr + j : Nat) : Int)) (fr + j + 1)) none hx (c := N.n - fr) (by omega)
            rw [hf, hx]
            exact ⟨(0 : Nat), rfl, ⟨rfl, fun _ _ => rfl⟩, rfl, rfl, trivial⟩
          · have hc : L.isNo (L.grp N (k - l.n - 1) (L.snoc l ((fr + g : Nat) : Int)) (fr + g + 1)) = true := by simpa using (show (!L.isNo (L.grp N (k - l.n - 1) (L.snoc l ((fr + g : Nat) : Int)) (fr + g + 1))) = false from hc)
            have hx := isNo_none hc
            rw [hx]
            refine ⟨InK.of (by omega) (by omega), g + 1, by omega, rfl, ⟨rfl, fun _ _ => rfl⟩, rfl, rfl, rfl, rfl, rfl, ⟨rfl, fun _ _ => rfl⟩, rfl, rfl, ⟨by omega, fun c hcc => ?_⟩, by omega⟩
            rcases Nat.lt_succ_iff_lt_or_eq.1 hcc with h | rfl
            · exact g2 c h
            · exact hc
      · obtain ⟨g1, g2⟩ := hg
        have hb : ¬ ((fr + g : Nat) : Int) < (N.n : Int) := of_decide_eq_false hge
        have hf : L.first (fun j => L.grp N (k - l.n - 1) (L.snoc l ((fr + j : Nat) : Int)) (fr + j + 1)) (N.n - fr) = none := first_none (fun j hj => isNo_none (g2 j (by omega)))
        rw [hf]
        exact ⟨(0 : Nat), rfl, ⟨rfl, fun _ _ => rfl⟩, rfl, rfl, trivial⟩)
theorem p_more_en : Enters Tryz.prog 175 := fun args w => by kernel_rfl
theorem p_more_tok : TrOk Tryz.prog 175 p_more_tr := tr_rec p_more_mu (fun t u => rfl) (fun rn ih => tr_ok (ks := [1003, 1005, 1007]) (n := 6) Tryz.func175 (c := bodyOf Tryz.f175) (by kernel_rfl) mixed ⟨fun t => rfl, fun t => rfl, fun t u => rfl, fun t u => rfl, fun t u => rfl, by kernel_rfl⟩ (fun ⟨l, fr, k, N, b⟩ hp => ⟨_, p_more_vc rn l fr k N b hp.1 hp.2, ⟨show SpecsL Tryz.prog _ from SpecsL.nil, rfl, ⟨show ItersL Tryz.prog _ from ItersL.nil, (show TrsL Tryz.prog _ from (TrsL.cons p_exit2_tok p_exit2_en (TrsL.cons ih p_more_en TrsL.nil)))⟩⟩⟩))
abbrev p_groups_tr : Tr := { T := (Nat) × (L.Sq L.Pt) × (L.Sq Int), U := Nat, args := fun t => (fun k N b => [.p (.int .i64 (N.n : Int)), .p (.int .i64 (k : Int)), .cl 135 [.p (.ref [(.sl 2 N.n (fun i => [.int .i64 ((N.g i).x), .int .i64 ((N.g i).y)]))] 0), .loc 1003 0]]) t.1 t.2.1 t.2.2, own := fun t => (fun k N b => [(1003, .blk 76 [.full false 1 (b).n (fun i => [.int .i64 ((b).g i)])])]) t.1 t.2.1 t.2.2, pre := fun t => (fun k N b => (1 ≤ k ∧ k ≤ 1000) ∧ N.n ≤ 1000 ∧ L.nrms N) t.1 t.2.1 t.2.2, post := fun t u => (fun k N b => fun u => True) t.1 t.2.1 t.2.2 u, own' := fun t u => (fun k N b => fun u => [(1003, .blk 76 [.full false 1 (L.orB (L.grp N k L.nilI 0) b).n (fun i => [.int .i64 ((L.orB (L.grp N k L.nilI 0) b).g i)])])]) t.1 t.2.1 t.2.2 u, res := fun t u => (fun k N b => fun u => .p (.bool (L.isNo (L.grp N k L.nilI 0)))) t.1 t.2.1 t.2.2 u }
theorem p_groups_vc (k : Nat) (N : L.Sq L.Pt) (b : L.Sq Int) (hp : p_groups_tr.pre (k, N, b)) : vc Tryz.prog ({ muts := [5, 7], frz := lookN [], specs := lookS [], loops := lookL [], iters := lookI [], rfs := lookR [], nils := lookM [], trs := lookT [(175, p_more_tr)], ren := fun k => bif k == 1003 then 1003 else k - 1000 }) (bodyOf Tryz.f134) (stTr Tryz.f134 (p_groups_tr.args (k, N, b)) (p_groups_tr.own (k, N, b))) (retTr Tryz.prog Tryz.f134 p_groups_tr (k, N, b)) :=
  @Eq.mpr _ (∃ (t : L.Sq Int × Nat × Nat × L.Sq L.Pt × L.Sq Int), t.1.n = (0 : Nat) ∧ (0 : Int) = (↑t.2.1 : Int) ∧ Go.SE.SV.ref [Go.SE.SV.int Go.IntKind.i64 (↑k : Int)] (nat_lit 0) = Go.SE.SV.ref [Go.SE.SV.int Go.IntKind.i64 (↑t.snd.2.1 : Int)] (0 : Nat) ∧ nat_lit 0 = (0 : Nat) ∧ Go.SE.SV.ref [Go.SE.SV.int Go.IntKind.i64 (↑N.n : Int)] (nat_lit 0) = Go.SE.SV.ref [Go.SE.SV.int Go.IntKind.i64 (↑t.snd.snd.2.1.n :
 Int)] (0 : Nat) ∧ nat_lit 0 = (0 : Nat) ∧ (b.n = t.snd.snd.2.2.n ∧ ∀ (i : Nat), i < b.n → [Go.SE.SV.int Go.IntKind.i64 (b.g i)] = [Go.SE.SV.int Go.IntKind.i64 (t.snd.snd.2.2.g i)]) ∧ Go.SE.EV.cl (nat_lit 135) [Go.SE.EV.p (Go.SE.SV.ref [Go.SE.SV.sl (nat_lit 2) N.n fun (i : Nat) ↦ [Go.SE.SV.int Go.IntKind.i64 (N.g i).x, Go.SE.SV.int Go.IntKind.i64 (N.g i).y]] (nat_lit 0)), Go.SE.EV.loc (nat_lit
 1003) (nat_lit 0)] = Go.SE.EV.cl (135 : Nat) [Go.SE.EV.p (Go.SE.SV.ref [Go.SE.SV.sl (nat_lit 2) t.snd.snd.2.1.n fun (i : Nat) ↦ [Go.SE.SV.int Go.IntKind.i64 (t.snd.snd.2.1.g i).x, Go.SE.SV.int Go.IntKind.i64 (t.snd.snd.2.1.g i).y]] (nat_lit 0)), Go.SE.EV.loc (bif nat_lit 1003 == (1003 : Nat) then (1003 : Nat) else nat_lit 1003 - (1000 : Nat)) (nat_lit 0)] ∧ Go.SE.EV.cl (nat_lit 175) [Go.SE.EV.p
 (Go.SE.SV.ref [Go.SE.SV.int Go.IntKind.i64 (↑k : Int)] (nat_lit 0)), Go.SE.EV.loc (nat_lit 5) (nat_lit 0), Go.SE.EV.p (Go.SE.SV.ref [Go.SE.SV.int Go.IntKind.i64 (↑N.n : Int)] (nat_lit 0)), Go.SE.EV.loc (nat_lit 7) (nat_lit 0)] = Go.SE.EV.cl (175 : Nat) [Go.SE.EV.p (Go.SE.SV.ref [Go.SE.SV.int Go.IntKind.i64 (↑t.snd.2.1 : Int)] (nat_lit 0)), Go.SE.EV.loc (bif nat_lit 1005 == (1003 : Nat) then (1003
 : Nat) else nat_lit 1005 - (1000 : Nat)) (nat_lit 0), Go.SE.EV.p (Go.SE.SV.ref [Go.SE.SV.int Go.IntKind.i64 (↑t.snd.snd.2.1.n : Int)] (nat_lit 0)), Go.SE.EV.loc (bif nat_lit 1007 == (1003 : Nat) then (1003 : Nat) else nat_lit 1007 - (1000 : Nat)) (nat_lit 0)] ∧ ((t.1.n ≤ t.snd.2.1 ∧ (1 : Nat) ≤ t.snd.2.1 ∧ t.snd.2.1 ≤ (1000 : Nat)) ∧ (t.2.1 ≤ t.snd.snd.2.1.n ∧ t.snd.snd.2.1.n ≤ (1000 : Nat)) ∧
 L.nrms t.snd.snd.2.1 ∧ L.within0 t.1 t.snd.snd.2.1.n) ∧ ∀ (u : Nat), True → ∃ (u : Nat), L.isNo (L.grp t.snd.snd.2.1 (t.snd.2.1 - t.1.n) t.1 t.2.1) = L.isNo (L.grp N k L.nilI (0 : Nat)) ∧ ((L.orB (L.grp t.snd.snd.2.1 (t.snd.2.1 - t.1.n) t.1 t.2.1) t.snd.snd.2.2).n = (L.orB (L.grp N k L.nilI (0 : Nat)) b).n ∧ ∀ (i : Nat), i < (L.orB (L.grp t.snd.snd.2.1 (t.snd.2.1 - t.1.n) t.1 t.2.1)
 t.snd.snd.2.2).n → [Go.SE.SV.int Go.IntKind.i64 ((L.orB (L.grp t.snd.snd.2.1 (t.snd.2.1 - t.1.n) t.1 t.2.1) t.snd.snd.2.2).g i)] = [Go.SE.SV.int Go.IntKind.i64 ((L.orB (L.grp N k L.nilI (0 : Nat)) b).g i)]) ∧ True) (by kernel_rfl) (by
    have hp : (1 ≤ k ∧ k ≤ 1000) ∧ N.n ≤ 1000 ∧ L.nrms N := hp
    obtain ⟨⟨k1, k2⟩, hn, hN⟩ := hp
    exact ⟨(L.nilI, 0, k, N, b), rfl, rfl, rfl, rfl, rfl, rfl, ⟨rfl, fun _ _ => rfl⟩, rfl, rfl, ⟨⟨Nat.zero_le _, k1, k2⟩, ⟨Nat.zero_le _, hn⟩, hN, fun i hi => absurd hi (Nat.not_lt_zero _)⟩, fun u _ => ⟨(0 : Nat), rfl, ⟨rfl, fun _ _ => rfl⟩, trivial⟩⟩)
theorem p_groups_en : Enters Tryz.prog 134 := fun args w => by kernel_rfl
theorem p_groups_tok : TrOk Tryz.prog 134 p_groups_tr := tr_ok (ks := [1003]) (n := 3) Tryz.func134 (c := bodyOf Tryz.f134) (by kernel_rfl) mixed ⟨fun t => rfl, fun t => rfl, fun t u => rfl, fun t u => rfl, fun t u => rfl, by kernel_rfl⟩ (fun ⟨k, N, b⟩ hp => ⟨_, p_groups_vc k N b hp, ⟨show SpecsL Tryz.prog _ from SpecsL.nil, rfl, ⟨show ItersL Tryz.prog _ from ItersL.nil, (show TrsL Tryz.prog _ from (TrsL.cons p_more_tok p_more_en TrsL.nil))⟩⟩⟩)
def p_Exit_p (l : (L.Sq L.Pt)) : Prop := l.n ≤ 1000000 ∧ (L.exBad l = false → L.wayOk l = false → L.isNo (L.first (L.exF l) 22) = false)
def p_Exit_r (l : (L.Sq L.Pt)) : SV := .tup [.agg [.int .i64 (L.exD l).x, .int .i64 (L.exD l).y], .sl 1 (L.exN l) (fun i => [.int .i64 ((L.exL l).g i)]), .int .i64 (L.exE l)]
def p_Exit_s : List EV → Option (Prop × SV)
  | [.p (.sl 2 l_n l_g)] => some ((∀ i, i < l_n → l_g i = [.int .i64 ((ofPt (l_g i)).x), .int .i64 ((ofPt (l_g i)).y)]) ∧ p_Exit_p (⟨l_n, fun i => ofPt (l_g i)⟩ : (L.Sq L.Pt)), p_Exit_r (⟨l_n, fun i => ofPt (l_g i)⟩ : (L.Sq L.Pt)))
  | _ => none
abbrev p_Exit_S : SE.Spec := (specO p_Exit_s)
def p_Exit_C : Cfg := { muts := [2, 3, 6], frz := lookN [], specs := lookS [(132, s_conFP_S), (131, p_bad_S), (133, p_way_S)], loops := fun _ => none, iters := lookI [], rfs := lookR [], nils := lookM [], anys := [11], trs := lookT [(134, p_groups_tr)], ren := fun k => k - 1000 }
theorem p_Exit_vc (l : (L.Sq L.Pt)) (hp : p_Exit_p l) : vc Tryz.prog ({ p_Exit_C with loops := lookL [(8, { T := Nat, keep := [1, 2, 3], keepO := [2], chg := fun j => [(8, .p (.int .i64 ((3 + j : Nat) : Int)))], own := fun j => [(3, .blk 76 [.full false 1 (L.orB (L.first (L.exF l) j) L.nilI).n (fun i => [.int .i64 ((L.orB (L.first (L.exF l) j) L.nilI).g i)])])], inv := fun j => j ≤ 22, mu := fun j => 23 - j })], rfs := lookR [] }) (bodyOf Tryz.f83) (st0 Tryz.f83 [.p (.sl 2 l.n (fun i => [.int .i64 ((l.g i).x), .int .i64 ((l.g i).y)]))]) (retFn Tryz.prog Tryz.f83 (p_Exit_r l)) :=
  @Eq.mpr _ (((!Decidable.decide ((24 : Int) < (↑l.n : Int))) = Bool.true → (∀ (i : Nat), i < l.n → [Go.SE.SV.int Go.IntKind.i64 (l.g i).x, Go.SE.SV.int Go.IntKind.i64 (l.g i).y] = [Go.SE.SV.int Go.IntKind.i64 (l.g i).x, Go.SE.SV.int Go.IntKind.i64 (l.g i).y]) ∧ Go.SE.isB (Go.SE.FSpec.mk (fun («as» : List Go.SE.SV) ↦ Go.SE.preO p_bad_s (List.map Go.SE.EV.p «as» ++ List.map Go.SE.EV.p [])) fun («as» : List
 Go.SE.SV) ↦ Go.SE.resO p_bad_s (List.map Go.SE.EV.p «as» ++ List.map Go.SE.EV.p [])) ∧ l.n ≤ (1000000 : Nat) ∧ ∀ (i : Nat), i < l.n → True) ∧ ((bif Decidable.decide ((24 : Int) < (↑l.n : Int)) then Bool.true else L.anyB l.n fun (i : Nat) ↦ L.fbl (Go.SE.FSpec.mk (fun («as» : List Go.SE.SV) ↦ Go.SE.preO p_bad_s (List.map Go.SE.EV.p «as» ++ List.map Go.SE.EV.p [])) fun («as» : List Go.SE.SV) ↦
 Go.SE.resO p_bad_s (List.map Go.SE.EV.p «as» ++ List.map Go.SE.EV.p [])) [Go.SE.SV.agg [Go.SE.SV.int Go.IntKind.i64 (l.g i).x, Go.SE.SV.int Go.IntKind.i64 (l.g i).y]]) = Bool.true → Go.SE.SV.agg [Go.SE.SV.int Go.IntKind.i64 (0 : Int), Go.SE.SV.int Go.IntKind.i64 (0 : Int)] = Go.SE.SV.agg [Go.SE.SV.int Go.IntKind.i64 (L.exD l).x, Go.SE.SV.int Go.IntKind.i64 (L.exD l).y] ∧ L.exN l = (0 : Nat) ∧ (1 :
 Int) = L.exE l) ∧ ((bif Decidable.decide ((24 : Int) < (↑l.n : Int)) then Bool.true else L.anyB l.n fun (i : Nat) ↦ L.fbl (Go.SE.FSpec.mk (fun («as» : List Go.SE.SV) ↦ Go.SE.preO p_bad_s (List.map Go.SE.EV.p «as» ++ List.map Go.SE.EV.p [])) fun («as» : List Go.SE.SV) ↦ Go.SE.resO p_bad_s (List.map Go.SE.EV.p «as» ++ List.map Go.SE.EV.p [])) [Go.SE.SV.agg [Go.SE.SV.int Go.IntKind.i64 (l.g i).x,
 Go.SE.SV.int Go.IntKind.i64 (l.g i).y]]) = Bool.false → ((∀ (i : Nat), i < l.n → [Go.SE.SV.int Go.IntKind.i64 (l.g i).x, Go.SE.SV.int Go.IntKind.i64 (l.g i).y] = [Go.SE.SV.int Go.IntKind.i64 (l.g i).x, Go.SE.SV.int Go.IntKind.i64 (l.g i).y]) ∧ L.nrms (L.Sq.mk l.n fun (i : Nat) ↦ l.g i)) ∧ (L.wayOk (L.Sq.mk l.n fun (i : Nat) ↦ l.g i) = Bool.true → Go.SE.SV.agg [Go.SE.SV.int Go.IntKind.i64 (L.wayD
 (L.Sq.mk l.n fun (i : Nat) ↦ l.g i)).x, Go.SE.SV.int Go.IntKind.i64 (L.wayD (L.Sq.mk l.n fun (i : Nat) ↦ l.g i)).y] = Go.SE.SV.agg [Go.SE.SV.int Go.IntKind.i64 (L.exD l).x, Go.SE.SV.int Go.IntKind.i64 (L.exD l).y] ∧ L.exN l = (0 : Nat) ∧ (0 : Int) = L.exE l) ∧ (L.wayOk (L.Sq.mk l.n fun (i : Nat) ↦ l.g i) = Bool.false → (∃ (g : Nat), (3 : Int) = (↑((3 : Nat) + g) : Int) ∧ (L.orB (L.first (L.exF l)
 g) L.nilI).n = (0 : Nat) ∧ g ≤ (22 : Nat)) ∧ ∀ (g : Nat), g ≤ (22 : Nat) → ((bif Bool.false then !Decidable.decide ((L.orB (L.first (L.exF l) g) L.nilI).n = (0 : Nat)) else Decidable.decide ((L.orB (L.first (L.exF l) g) L.nilI).n = (0 : Nat))) = Bool.true → ∃ (t : Nat × L.Sq L.Pt × L.Sq Int), (↑l.n : Int) = (↑t.2.1.n : Int) ∧ (↑((3 : Nat) + g) : Int) = (↑t.1 : Int) ∧ Go.SE.EV.cl (nat_lit 135)
 [Go.SE.EV.p (Go.SE.SV.ref [Go.SE.SV.sl (nat_lit 2) l.n fun (i : Nat) ↦ [Go.SE.SV.int Go.IntKind.i64 (l.g i).x, Go.SE.SV.int Go.IntKind.i64 (l.g i).y]] (nat_lit 0)), Go.SE.EV.loc (nat_lit 3) (nat_lit 0)] = Go.SE.EV.cl (135 : Nat) [Go.SE.EV.p (Go.SE.SV.ref [Go.SE.SV.sl (nat_lit 2) t.2.1.n fun (i : Nat) ↦ [Go.SE.SV.int Go.IntKind.i64 (t.2.1.g i).x, Go.SE.SV.int Go.IntKind.i64 (t.2.1.g i).y]] (nat_lit
 0)), Go.SE.EV.loc (nat_lit 1003 - (1000 : Nat)) (nat_lit 0)] ∧ ((L.orB (L.first (L.exF l) g) L.nilI).n = t.2.2.n ∧ ∀ (i : Nat), i < (L.orB (L.first (L.exF l) g) L.nilI).n → [Go.SE.SV.int Go.IntKind.i64 ((L.orB (L.first (L.exF l) g) L.nilI).g i)] = [Go.SE.SV.int Go.IntKind.i64 (t.2.2.g i)]) ∧ (((1 : Nat) ≤ t.1 ∧ t.1 ≤ (1000 : Nat)) ∧ t.2.1.n ≤ (1000 : Nat) ∧ L.nrms t.2.1) ∧ ∀ (u : Nat), True →
 Go.SE.InK Go.IntKind.i64 ((↑((3 : Nat) + g) : Int) + (1 : Int)) ∧ ∃ (g' : Nat), (↑((3 : Nat) + g) : Int) + (1 : Int) = (↑((3 : Nat) + g') : Int) ∧ nat_lit 0 = nat_lit 0 ∧ nat_lit 0 = nat_lit 0 ∧ Go.SE.SV.ref [Go.SE.SV.sl (nat_lit 2) l.n fun (i : Nat) ↦ [Go.SE.SV.int Go.IntKind.i64 (l.g i).x, Go.SE.SV.int Go.IntKind.i64 (l.g i).y]] (nat_lit 0) = Go.SE.SV.ref [Go.SE.SV.sl (nat_lit 2) l.n fun (i :
 Nat) ↦ [Go.SE.SV.int Go.IntKind.i64 (l.g i).x, Go.SE.SV.int Go.IntKind.i64 (l.g i).y]] (nat_lit 0) ∧ ((L.orB (L.grp t.2.1 t.1 L.nilI (0 : Nat)) t.2.2).n = (L.orB (L.first (L.exF l) g') L.nilI).n ∧ ∀ (i : Nat), i < (L.orB (L.grp t.2.1 t.1 L.nilI (0 : Nat)) t.2.2).n → [Go.SE.SV.int Go.IntKind.i64 ((L.orB (L.grp t.2.1 t.1 L.nilI (0 : Nat)) t.2.2).g i)] = [Go.SE.SV.int Go.IntKind.i64 ((L.orB (L.first
 (L.exF l) g') L.nilI).g i)]) ∧ (0 : Int) = (0 : Int) ∧ (0 : Int) = (0 : Int) ∧ g' ≤ (22 : Nat) ∧ (23 : Nat) - g' < (23 : Nat) - g) ∧ ((bif Bool.false then !Decidable.decide ((L.orB (L.first (L.exF l) g) L.nilI).n = (0 : Nat)) else Decidable.decide ((L.orB (L.first (L.exF l) g) L.nilI).n = (0 : Nat))) = Bool.false → ((Go.SE.SV.agg [Go.SE.SV.int Go.IntKind.i64 (0 : Int), Go.SE.SV.int Go.IntKind.i64
 (0 : Int)] = Go.SE.SV.agg [Go.SE.SV.int Go.IntKind.i64 (L.exD l).x, Go.SE.SV.int Go.IntKind.i64 (L.exD l).y] ∧ ((L.orB (L.first (L.exF l) g) L.nilI).n = L.exN l ∧ ∀ (i : Nat), i < (L.orB (L.first (L.exF l) g) L.nilI).n → [Go.SE.SV.int Go.IntKind.i64 ((L.orB (L.first (L.exF l) g) L.nilI).g i)] = [Go.SE.SV.int Go.IntKind.i64 ((L.exL l).g i)]) ∧ (13 : Int) = L.exE l) ∧ Go.SE.SV.agg [Go.SE.SV.int
 Go.IntKind.i64 (0 : Int), Go.SE.SV.int Go.IntKind.i64 (0 : Int)] = Go.SE.SV.agg [Go.SE.SV.int Go.IntKind.i64 (L.exD l).x, Go.SE.SV.int Go.IntKind.i64 (L.exD l).y] ∧ ((L.orB (L.first (L.exF l) g) L.nilI).n = L.exN l ∧ ∀ (i : Nat), i < (L.orB (L.first (L.exF l) g) L.nilI).n → [Go.SE.SV.int Go.IntKind.i64 ((L.orB (L.first (L.exF l) g) L.nilI).g i)] = [Go.SE.SV.int Go.IntKind.i64 ((L.exL l).g i)]) ∧
 (13 : Int) = L.exE l) ∧ Go.SE.SV.agg [Go.SE.SV.int Go.IntKind.i64 (0 : Int), Go.SE.SV.int Go.IntKind.i64 (0 : Int)] = Go.SE.SV.agg [Go.SE.SV.int Go.IntKind.i64 (L.exD l).x, Go.SE.SV.int Go.IntKind.i64 (L.exD l).y] ∧ ((L.orB (L.first (L.exF l) g) L.nilI).n = L.exN l ∧ ∀ (i : Nat), i < (L.orB (L.first (L.exF l) g) L.nilI).n → [Go.SE.SV.int Go.IntKind.i64 ((L.orB (L.first (L.exF l) g) L.nilI).g i)] =
 [Go.SE.SV.int Go.IntKind.i64 ((L.exL l).g i)]) ∧ (13 : Int) = L.exE l)))) (by kernel_rfl) (by
    obtain ⟨hn, hex⟩ := hp
    refine ⟨fun _ => ⟨fun _ _ => rfl, isB_of p_bad_B _, hn, fun _ _ => trivial⟩, fun h => ?_, fun h => ?_⟩
    · have hb : L.exBad l = true := h
      unfold L.exD L.exN L.exE
      rw [hb]; exact ⟨rfl, rfl, rfl⟩
    have hb : L.exBad l = false := h
    obtain ⟨h24, hN⟩ := exBad_false hb
    refine ⟨⟨fun _ _ => rfl, hN⟩, fun hw => ?_, fun hw => ?_⟩
    · unfold L.exD L.exN L.exE
      rw [hb, hw]; exact ⟨rfl, rfl, rfl⟩
    have hsm := hex hb hw
    have hD : L.exD l = ⟨0, 0⟩ := by unfold L.exD; rw [hb]; exact wayD_no hw
    have hE : L.exE l = 13 := by unfold L.exE; rw [hb, hw]; rfl
    have hNn : L.exN l = (L.exL l).n := by unfold L.exN; rw [hb, hw]; rfl
    refine ⟨⟨(0 : Nat), rfl, rfl, Nat.zero_le _⟩, fun g hg => ⟨fun hc => ?_, fun hc => ?_⟩⟩
    · have hc : (L.orB (L.first (L.exF l) g) L.nilI).n = 0 := of_decide_eq_true hc
      have hno : L.first (L.exF l) g = none := by
        cases hf : L.first (L.exF l) g with
        | none => rfl
        | some x =>
          rw [hf] at hc
          have hc : x.n = 0 := hc
          obtain ⟨j, _, hj, _⟩ := first_some hf
          have : x.n = 0 + (3 + j) := grp_len hj
          omega
      have hg22 : g ≠ 22 := fun e => by
        rw [e] at hno; rw [hno] at hsm; cases hsm
      have e1 : L.first (L.exF l) (g + 1) = L.exF l g := by rw [L.first, hno]
      refine ⟨(3 + g, l, L.orB (L.first (L.exF l) g) L.nilI), rfl, rfl, rfl, ⟨rfl, fun _ _ => rfl⟩, ⟨⟨by show 1 ≤ 3 + g; omega, by show 3 + g ≤ 1000; omega⟩, by show l.n ≤ 1000; omega, hN⟩, fun u _ => ⟨InK.of (by omega) (by omega), g + 1, by omega, rfl, rfl, rfl, ?_, rfl, rfl, by omega, by omega⟩⟩
      rw [e1, hno]
      exact ⟨rfl, fun _ _ => rfl⟩
    · have hc : ¬ (L.orB (L.first (L.exF l) g) L.nilI).n = 0 := of_decide_eq_false hc
      have hsom : L.orB (L.first (L.exF l) g) L.nilI = L.exL l := by
        cases hf : L.first (L.exF l) g with
        | none => rw [hf] at hc; exact absurd rfl hc
        | some x =>
          unfold L.exL
          rw [first_mono hf hg]
      rw [hsom, hD, hE, hNn]
      exact ⟨⟨⟨rfl, ⟨rfl, fun _ _ => rfl⟩, rfl⟩, ⟨rfl, ⟨rfl, fun _ _ => rfl⟩, rfl⟩⟩, ⟨rfl, ⟨rfl, fun _ _ => rfl⟩, rfl⟩⟩)
theorem p_Exit_ok : SpecOk Tryz.prog 83 p_Exit_S := fnX Tryz.func83 (c := bodyOf Tryz.f83) (by kernel_rfl) mixed (fun args p r hs hp => by
  unfold p_Exit_s at hs
  split at hs
  · cases hs; exact ⟨_, _, p_Exit_vc _ hp.2, (.p (.sl hp.1) .nil), ⟨show SpecsL Tryz.prog _ from (SpecsL.cons s_conFP_ok s_conFP_en (SpecsL.cons p_bad_ok p_bad_en (SpecsL.cons p_way_ok p_way_en SpecsL.nil))), rfl, ⟨show ItersL Tryz.prog _ from ItersL.nil, (show TrsL Tryz.prog _ from (TrsL.cons p_groups_tok p_groups_en TrsL.nil))⟩⟩⟩
  · cases hs)
theorem p_Exit_en : Enters Tryz.prog 83 := fun args w => by kernel_rfl
end Go.Proofs.YtkklpamllfkbaaaGreat

namespace Go.Proofs.YtkklpamllfkbaaaGreat
open Go.SE Go.RowKit
set_option maxRecDepth 100000
set_option maxHeartbeats 4000000
set_option linter.unusedVariables false
attribute [local irreducible] Go.SE.vc

def L.turnOk (a b c : L.Pt) : Bool := bif (bif L.validPt a then L.validPt b else false) then L.validPt c else false
def p_Area_p (l : (L.Sq L.Pt)) : Prop := l.n ≤ 1000000
def p_Area_r (l : (L.Sq L.Pt)) : SV := .tup [.int .i64 (bif L.validOutline l then L.areaTo l l.n else 0), .int .i64 (bif L.validOutline l then 0 else 1)]
def p_Area_s : List EV → Option (Prop × SV)
  | [.p (.sl 2 l_n l_g)] => some ((∀ i, i < l_n → l_g i = [.int .i64 ((ofPt (l_g i)).x), .int .i64 ((ofPt (l_g i)).y)]) ∧ p_Area_p (⟨l_n, fun i => ofPt (l_g i)⟩ : (L.Sq L.Pt)), p_Area_r (⟨l_n, fun i => ofPt (l_g i)⟩ : (L.Sq L.Pt)))
  | _ => none
abbrev p_Area_S : SE.Spec := (specO p_Area_s)
def p_Area_C : Cfg := { muts := [], frz := lookN [], specs := lookS [(70, p_ValidOutline_S), (118, p_area_S)], loops := lookL [], iters := lookI [], rfs := lookR [], nils := lookM [] }
theorem p_Area_vc (l : (L.Sq L.Pt)) (hp : p_Area_p l) : vc Tryz.prog (p_Area_C) (bodyOf Tryz.f80) (st0 Tryz.f80 [.p (.sl 2 l.n (fun i => [.int .i64 ((l.g i).x), .int .i64 ((l.g i).y)]))]) (retFn Tryz.prog Tryz.f80 (p_Area_r l)) :=
  @Eq.mpr _ (((∀ (i : Nat), i < l.n → [Go.SE.SV.int Go.IntKind.i64 (l.g i).x, Go.SE.SV.int Go.IntKind.i64 (l.g i).y] = [Go.SE.SV.int Go.IntKind.i64 (l.g i).x, Go.SE.SV.int Go.IntKind.i64 (l.g i).y]) ∧ l.n ≤ (1000000 : Nat)) ∧ ((!L.validOutline (L.Sq.mk l.n fun (i : Nat) ↦ l.g i)) = Bool.true → ((0 : Int) = bif L.validOutline l then L.areaTo l l.n else (0 : Int)) ∧ (1 : Int) = bif L.validOutline l then (0 :
 Int) else (1 : Int)) ∧ ((!L.validOutline (L.Sq.mk l.n fun (i : Nat) ↦ l.g i)) = Bool.false → ((∀ (i : Nat), i < l.n → [Go.SE.SV.int Go.IntKind.i64 (l.g i).x, Go.SE.SV.int Go.IntKind.i64 (l.g i).y] = [Go.SE.SV.int Go.IntKind.i64 (l.g i).x, Go.SE.SV.int Go.IntKind.i64 (l.g i).y]) ∧ L.small (L.Sq.mk l.n fun (i : Nat) ↦ l.g i)) ∧ (L.areaTo (L.Sq.mk l.n fun (i : Nat) ↦ l.g i) l.n = bif L.validOutline l
 then L.areaTo l l.n else (0 : Int)) ∧ (0 : Int) = bif L.validOutline l then (0 : Int) else (1 : Int))) (by kernel_rfl) (by
    have hn : l.n ≤ 1000000 := hp
    refine ⟨⟨fun _ _ => rfl, hn⟩, fun h => ?_, fun h => ?_⟩
    · have hv : L.validOutline l = false := by simpa using (show (!L.validOutline l) = true from h)
      rw [hv]; exact ⟨rfl, rfl⟩
    · have hv : L.validOutline l = true := by simpa using (show (!L.validOutline l) = false from h)
      rw [hv]; exact ⟨⟨fun _ _ => rfl, (validOutline_of hv).2.2.1⟩, rfl, rfl⟩)
theorem p_Area_ok : SpecOk Tryz.prog 80 p_Area_S := fnX Tryz.func80 (c := bodyOf Tryz.f80) (by kernel_rfl) mixed (fun args p r hs hp => by
  unfold p_Area_s at hs
  split at hs
  · cases hs; exact ⟨_, _, p_Area_vc _ hp.2, (.p (.sl hp.1) .nil), ⟨show SpecsL Tryz.prog _ from (SpecsL.cons p_ValidOutline_ok p_ValidOutline_en (SpecsL.cons p_area_ok p_area_en SpecsL.nil)), rfl, ⟨show ItersL Tryz.prog _ from ItersL.nil, (TrsOk.none (fun _ => rfl))⟩⟩⟩
  · cases hs)
theorem p_Area_en : Enters Tryz.prog 80 := fun args w => by kernel_rfl
def p_Turn_p (a : L.Pt) (b : L.Pt) (c : L.Pt) : Prop := True
def p_Turn_r (a : L.Pt) (b : L.Pt) (c : L.Pt) : SV := .tup [.int .i64 (bif L.validPt a && L.validPt b && L.validPt c then L.cmp (L.cross a b c) 0 else 0), .int .i64 (bif L.validPt a && L.validPt b && L.validPt c then 0 else 1)]
def p_Turn_s : List EV → Option (Prop × SV)
  | [.p (.agg [.int .i64 a_x, .int .i64 a_y]), .p (.agg [.int .i64 b_x, .int .i64 b_y]), .p (.agg [.int .i64 c_x, .int .i64 c_y])] => some (p_Turn_p (⟨a_x, a_y⟩ : L.Pt) (⟨b_x, b_y⟩ : L.Pt) (⟨c_x, c_y⟩ : L.Pt), p_Turn_r (⟨a_x, a_y⟩ : L.Pt) (⟨b_x, b_y⟩ : L.Pt) (⟨c_x, c_y⟩ : L.Pt))
  | _ => none
abbrev p_Turn_S : SE.Spec := (specO p_Turn_s)
def p_Turn_C : Cfg := { muts := [], frz := lookN [], specs := lookS [(90, p_valid_S), (120, p_cross_S), (130, c_cmp_S)], loops := lookL [], iters := lookI [], rfs := lookR [], nils := lookM [] }
theorem p_Turn_vc (a : L.Pt) (b : L.Pt) (c : L.Pt) (hp : p_Turn_p a b c) : vc Tryz.prog (p_Turn_C) (bodyOf Tryz.f82) (st0 Tryz.f82 [.p (.agg [.int .i64 a.x, .int .i64 a.y]), .p (.agg [.int .i64 b.x, .int .i64 b.y]), .p (.agg [.int .i64 c.x, .int .i64 c.y])]) (retFn Tryz.prog Tryz.f82 (p_Turn_r a b c)) :=
  @Eq.mpr _ (((∀ (i : Nat), i < nat_lit 3 → Go.SE.rowsOf [Go.SE.SV.int Go.IntKind.i64 a.x, Go.SE.SV.int Go.IntKind.i64 a.y, Go.SE.SV.int Go.IntKind.i64 b.x, Go.SE.SV.int Go.IntKind.i64 b.y, Go.SE.SV.int Go.IntKind.i64 c.x, Go.SE.SV.int Go.IntKind.i64 c.y] (nat_lit 2) i = [Go.SE.SV.int Go.IntKind.i64 (ofPt (Go.SE.rowsOf [Go.SE.SV.int Go.IntKind.i64 a.x, Go.SE.SV.int Go.IntKind.i64 a.y, Go.SE.SV.int
 Go.IntKind.i64 b.x, Go.SE.SV.int Go.IntKind.i64 b.y, Go.SE.SV.int Go.IntKind.i64 c.x, Go.SE.SV.int Go.IntKind.i64 c.y] (nat_lit 2) i)).x, Go.SE.SV.int Go.IntKind.i64 (ofPt (Go.SE.rowsOf [Go.SE.SV.int Go.IntKind.i64 a.x, Go.SE.SV.int Go.IntKind.i64 a.y, Go.SE.SV.int Go.IntKind.i64 b.x, Go.SE.SV.int Go.IntKind.i64 b.y, Go.SE.SV.int Go.IntKind.i64 c.x, Go.SE.SV.int Go.IntKind.i64 c.y] (nat_lit 2)
 i)).y]) ∧ nat_lit 3 ≤ (1000000 : Nat)) ∧ ((!L.allB (nat_lit 3) fun (i : Nat) ↦ L.validPt (ofPt (Go.SE.rowsOf [Go.SE.SV.int Go.IntKind.i64 a.x, Go.SE.SV.int Go.IntKind.i64 a.y, Go.SE.SV.int Go.IntKind.i64 b.x, Go.SE.SV.int Go.IntKind.i64 b.y, Go.SE.SV.int Go.IntKind.i64 c.x, Go.SE.SV.int Go.IntKind.i64 c.y] (nat_lit 2) i))) = Bool.true → ((0 : Int) = bif L.validPt a && L.validPt b && L.validPt c
 then L.cmp (L.cross a b c) (0 : Int) else (0 : Int)) ∧ (1 : Int) = bif L.validPt a && L.validPt b && L.validPt c then (0 : Int) else (1 : Int)) ∧ ((!L.allB (nat_lit 3) fun (i : Nat) ↦ L.validPt (ofPt (Go.SE.rowsOf [Go.SE.SV.int Go.IntKind.i64 a.x, Go.SE.SV.int Go.IntKind.i64 a.y, Go.SE.SV.int Go.IntKind.i64 b.x, Go.SE.SV.int Go.IntKind.i64 b.y, Go.SE.SV.int Go.IntKind.i64 c.x, Go.SE.SV.int
 Go.IntKind.i64 c.y] (nat_lit 2) i))) = Bool.false → (L.bd a ∧ L.bd b ∧ L.bd c) ∧ True ∧ (L.cmp (L.cross a b c) (0 : Int) = bif L.validPt a && L.validPt b && L.validPt c then L.cmp (L.cross a b c) (0 : Int) else (0 : Int)) ∧ (0 : Int) = bif L.validPt a && L.validPt b && L.validPt c then (0 : Int) else (1 : Int))) (by kernel_rfl) (by
    refine ⟨⟨fun i hi => by match i, hi with | 0, _ => rfl | 1, _ => rfl | 2, _ => rfl, by decide⟩, fun h => ?_, fun h => ?_⟩
    · have h' : (L.validPt a && L.validPt b && L.validPt c) = false := by simpa only [Bool.not_eq_true', Bool.not_eq_false'] using (show (!(L.validPt a && L.validPt b && L.validPt c)) = true from h)
      rw [h']; exact ⟨rfl, rfl⟩
    · have h' : (L.validPt a && L.validPt b && L.validPt c) = true := by simpa only [Bool.not_eq_true', Bool.not_eq_false'] using (show (!(L.validPt a && L.validPt b && L.validPt c)) = false from h)
      obtain ⟨vab, vc⟩ := Bool.and_eq_true_iff.1 h'
      obtain ⟨va, vb⟩ := Bool.and_eq_true_iff.1 vab
      rw [h']; exact ⟨⟨validPt_bd va, validPt_bd vb, validPt_bd vc⟩, trivial, rfl, rfl⟩)
theorem p_Turn_ok : SpecOk Tryz.prog 82 p_Turn_S := fnX Tryz.func82 (c := bodyOf Tryz.f82) (by kernel_rfl) mixed (fun args p r hs hp => by
  unfold p_Turn_s at hs
  split at hs
  · cases hs; exact ⟨_, _, p_Turn_vc _ _ _ hp, (.same _ (.same _ (.same _ .nil))), ⟨show SpecsL Tryz.prog _ from (SpecsL.cons p_valid_ok p_valid_en (SpecsL.cons p_cross_ok p_cross_en (SpecsL.cons c_cmp_ok c_cmp_en SpecsL.nil))), rfl, ⟨show ItersL Tryz.prog _ from ItersL.nil, (TrsOk.none (fun _ => rfl))⟩⟩⟩
  · cases hs)
theorem p_Turn_en : Enters Tryz.prog 82 := fun args w => by kernel_rfl
def w_awake_p  : Prop := True
def w_awake_r  : SV := .bool true
def w_awake_s : List EV → Option (Prop × SV)
  | [] => some (w_awake_p , w_awake_r )
  | _ => none
abbrev w_awake_S : SE.Spec := (specO w_awake_s)
def w_awake_C : Cfg := { muts := [8], frz := lookN [], specs := lookS [(80, p_Area_S), (81, p_Pockets_S), (82, p_Turn_S), (83, p_Exit_S)], loops := lookL [], iters := lookI [], rfs := lookR [], nils := lookM [] }
theorem w_awake_vc  (hp : w_awake_p) : vc Tryz.prog (w_awake_C) (bodyOf Tryz.f33) (st0 Tryz.f33 []) (retFn Tryz.prog Tryz.f33 (w_awake_r )) :=
  @Eq.mpr _ (((∀ (i : Nat), i < nat_lit 5 → Go.SE.rowsOf [Go.SE.SV.int Go.IntKind.i64 (0 : Int), Go.SE.SV.int Go.IntKind.i64 (0 : Int), Go.SE.SV.int Go.IntKind.i64 (4 : Int), Go.SE.SV.int Go.IntKind.i64 (0 : Int), Go.SE.SV.int Go.IntKind.i64 (4 : Int), Go.SE.SV.int Go.IntKind.i64 (4 : Int), Go.SE.SV.int Go.IntKind.i64 (2 : Int), Go.SE.SV.int Go.IntKind.i64 (1 : Int), Go.SE.SV.int Go.IntKind.i64 (0 : Int),
 Go.SE.SV.int Go.IntKind.i64 (4 : Int)] (nat_lit 2) i = [Go.SE.SV.int Go.IntKind.i64 (ofPt (Go.SE.rowsOf [Go.SE.SV.int Go.IntKind.i64 (0 : Int), Go.SE.SV.int Go.IntKind.i64 (0 : Int), Go.SE.SV.int Go.IntKind.i64 (4 : Int), Go.SE.SV.int Go.IntKind.i64 (0 : Int), Go.SE.SV.int Go.IntKind.i64 (4 : Int), Go.SE.SV.int Go.IntKind.i64 (4 : Int), Go.SE.SV.int Go.IntKind.i64 (2 : Int), Go.SE.SV.int
 Go.IntKind.i64 (1 : Int), Go.SE.SV.int Go.IntKind.i64 (0 : Int), Go.SE.SV.int Go.IntKind.i64 (4 : Int)] (nat_lit 2) i)).x, Go.SE.SV.int Go.IntKind.i64 (ofPt (Go.SE.rowsOf [Go.SE.SV.int Go.IntKind.i64 (0 : Int), Go.SE.SV.int Go.IntKind.i64 (0 : Int), Go.SE.SV.int Go.IntKind.i64 (4 : Int), Go.SE.SV.int Go.IntKind.i64 (0 : Int), Go.SE.SV.int Go.IntKind.i64 (4 : Int), Go.SE.SV.int Go.IntKind.i64 (4 :
 Int), Go.SE.SV.int Go.IntKind.i64 (2 : Int), Go.SE.SV.int Go.IntKind.i64 (1 : Int), Go.SE.SV.int Go.IntKind.i64 (0 : Int), Go.SE.SV.int Go.IntKind.i64 (4 : Int)] (nat_lit 2) i)).y]) ∧ nat_lit 5 ≤ (1000000 : Nat)) ∧ ((∀ (i : Nat), i < nat_lit 5 → Go.SE.rowsOf [Go.SE.SV.int Go.IntKind.i64 (0 : Int), Go.SE.SV.int Go.IntKind.i64 (0 : Int), Go.SE.SV.int Go.IntKind.i64 (4 : Int), Go.SE.SV.int
 Go.IntKind.i64 (0 : Int), Go.SE.SV.int Go.IntKind.i64 (4 : Int), Go.SE.SV.int Go.IntKind.i64 (4 : Int), Go.SE.SV.int Go.IntKind.i64 (2 : Int), Go.SE.SV.int Go.IntKind.i64 (1 : Int), Go.SE.SV.int Go.IntKind.i64 (0 : Int), Go.SE.SV.int Go.IntKind.i64 (4 : Int)] (nat_lit 2) i = [Go.SE.SV.int Go.IntKind.i64 (ofPt (Go.SE.rowsOf [Go.SE.SV.int Go.IntKind.i64 (0 : Int), Go.SE.SV.int Go.IntKind.i64 (0 :
 Int), Go.SE.SV.int Go.IntKind.i64 (4 : Int), Go.SE.SV.int Go.IntKind.i64 (0 : Int), Go.SE.SV.int Go.IntKind.i64 (4 : Int), Go.SE.SV.int Go.IntKind.i64 (4 : Int), Go.SE.SV.int Go.IntKind.i64 (2 : Int), Go.SE.SV.int Go.IntKind.i64 (1 : Int), Go.SE.SV.int Go.IntKind.i64 (0 : Int), Go.SE.SV.int Go.IntKind.i64 (4 : Int)] (nat_lit 2) i)).x, Go.SE.SV.int Go.IntKind.i64 (ofPt (Go.SE.rowsOf [Go.SE.SV.int
 Go.IntKind.i64 (0 : Int), Go.SE.SV.int Go.IntKind.i64 (0 : Int), Go.SE.SV.int Go.IntKind.i64 (4 : Int), Go.SE.SV.int Go.IntKind.i64 (0 : Int), Go.SE.SV.int Go.IntKind.i64 (4 : Int), Go.SE.SV.int Go.IntKind.i64 (4 : Int), Go.SE.SV.int Go.IntKind.i64 (2 : Int), Go.SE.SV.int Go.IntKind.i64 (1 : Int), Go.SE.SV.int Go.IntKind.i64 (0 : Int), Go.SE.SV.int Go.IntKind.i64 (4 : Int)] (nat_lit 2) i)).y]) ∧
 nat_lit 5 ≤ (1000000 : Nat)) ∧ ∀ (t : Nat → L.Pocket), (L.validOutline (L.Sq.mk (nat_lit 5) fun (i : Nat) ↦ ofPt (Go.SE.rowsOf [Go.SE.SV.int Go.IntKind.i64 (0 : Int), Go.SE.SV.int Go.IntKind.i64 (0 : Int), Go.SE.SV.int Go.IntKind.i64 (4 : Int), Go.SE.SV.int Go.IntKind.i64 (0 : Int), Go.SE.SV.int Go.IntKind.i64 (4 : Int), Go.SE.SV.int Go.IntKind.i64 (4 : Int), Go.SE.SV.int Go.IntKind.i64 (2 : Int),
 Go.SE.SV.int Go.IntKind.i64 (1 : Int), Go.SE.SV.int Go.IntKind.i64 (0 : Int), Go.SE.SV.int Go.IntKind.i64 (4 : Int)] (nat_lit 2) i)) = Bool.true → Go.SE.SortedBy L.cmpFr (L.pks (L.Sq.mk (nat_lit 5) fun (i : Nat) ↦ ofPt (Go.SE.rowsOf [Go.SE.SV.int Go.IntKind.i64 (0 : Int), Go.SE.SV.int Go.IntKind.i64 (0 : Int), Go.SE.SV.int Go.IntKind.i64 (4 : Int), Go.SE.SV.int Go.IntKind.i64 (0 : Int),
 Go.SE.SV.int Go.IntKind.i64 (4 : Int), Go.SE.SV.int Go.IntKind.i64 (4 : Int), Go.SE.SV.int Go.IntKind.i64 (2 : Int), Go.SE.SV.int Go.IntKind.i64 (1 : Int), Go.SE.SV.int Go.IntKind.i64 (0 : Int), Go.SE.SV.int Go.IntKind.i64 (4 : Int)] (nat_lit 2) i))).n (L.pks (L.Sq.mk (nat_lit 5) fun (i : Nat) ↦ ofPt (Go.SE.rowsOf [Go.SE.SV.int Go.IntKind.i64 (0 : Int), Go.SE.SV.int Go.IntKind.i64 (0 : Int),
 Go.SE.SV.int Go.IntKind.i64 (4 : Int), Go.SE.SV.int Go.IntKind.i64 (0 : Int), Go.SE.SV.int Go.IntKind.i64 (4 : Int), Go.SE.SV.int Go.IntKind.i64 (4 : Int), Go.SE.SV.int Go.IntKind.i64 (2 : Int), Go.SE.SV.int Go.IntKind.i64 (1 : Int), Go.SE.SV.int Go.IntKind.i64 (0 : Int), Go.SE.SV.int Go.IntKind.i64 (4 : Int)] (nat_lit 2) i))).g t) → ((0 : Int) ≤ (0 : Int) ∧ (0 : Int) < (↑(nat_lit 5) : Int)) ∧ ((0
 : Int) ≤ (1 : Int) ∧ (1 : Int) < (↑(nat_lit 5) : Int)) ∧ ((0 : Int) ≤ (2 : Int) ∧ (2 : Int) < (↑(nat_lit 5) : Int)) ∧ True ∧ ((∀ (i : Nat), i < nat_lit 3 → Go.SE.rowsOf [Go.SE.SV.int Go.IntKind.i64 (1 : Int), Go.SE.SV.int Go.IntKind.i64 (0 : Int), Go.SE.SV.int Go.IntKind.i64 (-1 : Int), Go.SE.SV.int Go.IntKind.i64 (1 : Int), Go.SE.SV.int Go.IntKind.i64 (-1 : Int), Go.SE.SV.int Go.IntKind.i64 (-1 :
 Int)] (nat_lit 2) i = [Go.SE.SV.int Go.IntKind.i64 (ofPt (Go.SE.rowsOf [Go.SE.SV.int Go.IntKind.i64 (1 : Int), Go.SE.SV.int Go.IntKind.i64 (0 : Int), Go.SE.SV.int Go.IntKind.i64 (-1 : Int), Go.SE.SV.int Go.IntKind.i64 (1 : Int), Go.SE.SV.int Go.IntKind.i64 (-1 : Int), Go.SE.SV.int Go.IntKind.i64 (-1 : Int)] (nat_lit 2) i)).x, Go.SE.SV.int Go.IntKind.i64 (ofPt (Go.SE.rowsOf [Go.SE.SV.int
 Go.IntKind.i64 (1 : Int), Go.SE.SV.int Go.IntKind.i64 (0 : Int), Go.SE.SV.int Go.IntKind.i64 (-1 : Int), Go.SE.SV.int Go.IntKind.i64 (1 : Int), Go.SE.SV.int Go.IntKind.i64 (-1 : Int), Go.SE.SV.int Go.IntKind.i64 (-1 : Int)] (nat_lit 2) i)).y]) ∧ nat_lit 3 ≤ (1000000 : Nat) ∧ (L.exBad (L.Sq.mk (nat_lit 3) fun (i : Nat) ↦ ofPt (Go.SE.rowsOf [Go.SE.SV.int Go.IntKind.i64 (1 : Int), Go.SE.SV.int
 Go.IntKind.i64 (0 : Int), Go.SE.SV.int Go.IntKind.i64 (-1 : Int), Go.SE.SV.int Go.IntKind.i64 (1 : Int), Go.SE.SV.int Go.IntKind.i64 (-1 : Int), Go.SE.SV.int Go.IntKind.i64 (-1 : Int)] (nat_lit 2) i)) = Bool.false → L.wayOk (L.Sq.mk (nat_lit 3) fun (i : Nat) ↦ ofPt (Go.SE.rowsOf [Go.SE.SV.int Go.IntKind.i64 (1 : Int), Go.SE.SV.int Go.IntKind.i64 (0 : Int), Go.SE.SV.int Go.IntKind.i64 (-1 : Int),
 Go.SE.SV.int Go.IntKind.i64 (1 : Int), Go.SE.SV.int Go.IntKind.i64 (-1 : Int), Go.SE.SV.int Go.IntKind.i64 (-1 : Int)] (nat_lit 2) i)) = Bool.false → L.isNo (L.first (L.exF (L.Sq.mk (nat_lit 3) fun (i : Nat) ↦ ofPt (Go.SE.rowsOf [Go.SE.SV.int Go.IntKind.i64 (1 : Int), Go.SE.SV.int Go.IntKind.i64 (0 : Int), Go.SE.SV.int Go.IntKind.i64 (-1 : Int), Go.SE.SV.int Go.IntKind.i64 (1 : Int), Go.SE.SV.int
 Go.IntKind.i64 (-1 : Int), Go.SE.SV.int Go.IntKind.i64 (-1 : Int)] (nat_lit 2) i))) (22 : Nat)) = Bool.false)) ∧ (Bool.true = Bool.true → (0 : Int) ≤ (0 : Int) ∧ (0 : Int) < (↑(nat_lit 1) : Int)) ∧ (bif bif bif bif bif Bool.true then Decidable.decide ((t (Int.toNat (0 : Int))).fr = (2 : Int)) && (Decidable.decide ((t (Int.toNat (0 : Int))).to_ = (4 : Int)) && Decidable.decide ((t (Int.toNat (0 :
 Int))).area = (12 : Int))) else Bool.false then Bool.true else Bool.false then Bool.true else Bool.false then Bool.true else Bool.false then Bool.true else Bool.false) = Bool.true) (by kernel_rfl) (by
    refine ⟨⟨fun i hi => by match i, hi with | 0, _ => rfl | 1, _ => rfl | 2, _ => rfl | 3, _ => rfl | 4, _ => rfl, by decide⟩, ⟨fun i hi => by match i, hi with | 0, _ => rfl | 1, _ => rfl | 2, _ => rfl | 3, _ => rfl | 4, _ => rfl, by decide⟩, fun t ht => ⟨⟨by decide, by decide⟩, ⟨by decide, by decide⟩, ⟨by decide, by decide⟩, trivial, ⟨fun i hi => by match i, hi with | 0, _ => rfl | 1, _ => rfl | 2, _ => rfl, by decide, fun _ _ => by kernel_rfl⟩, fun _ => ⟨by decide, by decide⟩, ?_⟩⟩
    have h := ht (by kernel_rfl)
    have hn : (L.pks (L.Sq.mk 5 fun (i : Nat) => ofPt (rowsOf [SV.int .i64 0, SV.int .i64 0, SV.int .i64 4, SV.int .i64 0, SV.int .i64 4, SV.int .i64 4, SV.int .i64 2, SV.int .i64 1, SV.int .i64 0, SV.int .i64 4] 2 i))).n = 1 := by kernel_rfl
    have hg : (L.pks (L.Sq.mk 5 fun (i : Nat) => ofPt (rowsOf [SV.int .i64 0, SV.int .i64 0, SV.int .i64 4, SV.int .i64 0, SV.int .i64 4, SV.int .i64 4, SV.int .i64 2, SV.int .i64 1, SV.int .i64 0, SV.int .i64 4] 2 i))).g 0 = ⟨2, 4, 12⟩ := by kernel_rfl
    have h1 := h.perm
    rw [hn] at h1
    have h2 : [t 0].Perm [(L.pks (L.Sq.mk 5 fun (i : Nat) => ofPt (rowsOf [SV.int .i64 0, SV.int .i64 0, SV.int .i64 4, SV.int .i64 0, SV.int .i64 4, SV.int .i64 4, SV.int .i64 2, SV.int .i64 1, SV.int .i64 0, SV.int .i64 4] 2 i))).g 0] := h1
    have h3 := List.singleton_perm_singleton.1 h2
    rw [hg] at h3
    have h4 : t (Int.toNat 0) = ⟨2, 4, 12⟩ := h3
    rw [h4]; rfl)
theorem w_awake_ok : SpecOk Tryz.prog 33 w_awake_S := fnX Tryz.func33 (c := bodyOf Tryz.f33) (by kernel_rfl) mixed (fun args p r hs hp => by
  unfold w_awake_s at hs
  split at hs
  · cases hs; exact ⟨_, _, w_awake_vc  hp, .nil, ⟨show SpecsL Tryz.prog _ from (SpecsL.cons p_Area_ok p_Area_en (SpecsL.cons p_Pockets_ok p_Pockets_en (SpecsL.cons p_Turn_ok p_Turn_en (SpecsL.cons p_Exit_ok p_Exit_en SpecsL.nil)))), rfl, ⟨show ItersL Tryz.prog _ from ItersL.nil, (TrsOk.none (fun _ => rfl))⟩⟩⟩
  · cases hs)
theorem w_awake_en : Enters Tryz.prog 33 := fun args w => by kernel_rfl
theorem w_awake_B : ∀ args p r, w_awake_s args = some (p, r) → ∃ b, r = .bool b := by
  intro args p r h
  unfold w_awake_s at h
  split at h
  · cases h; exact ⟨_, rfl⟩
  · cases h
end Go.Proofs.YtkklpamllfkbaaaGreat

namespace Go.Proofs.YtkklpamllfkbaaaGreat
open Go.SE Go.RowKit
set_option maxRecDepth 100000
set_option maxHeartbeats 4000000
set_option linter.unusedVariables false
attribute [local irreducible] Go.SE.vc

/-- Where a setting lays an edge, as a number of the whole line. -/
def L.sg (b : Bool) : Int := bif b then -1 else 1
theorem emod_lin (a e b n : Int) : (a + e * (b % n)) % n = (a + e * b) % n := by
  have h : a + e * (b % n) = a + e * b + n * (-(e * (b / n))) := by
    rw [Int.emod_def]
    simp only [Int.mul_sub, Int.mul_neg, ← Int.mul_assoc, Int.mul_comm n e, Int.mul_left_comm n e]
    omega
  rw [h, Int.add_mul_emod_self_left]
theorem lay_lin {s : L.Setting} {n i : Int} (h0 : 0 ≤ s.shift) (h1 : s.shift < n) (h2 : 0 ≤ i) (h3 : i < n) : L.lay s n i = (s.shift + L.sg s.back * i) % n := by
  unfold L.lay L.sg
  cases s.back with
  | true =>
    simp only [cond_true]
    rw [Int.tmod_eq_emod_of_nonneg (by omega), show s.shift + n - i = s.shift + -1 * i + n by omega, Int.add_emod_right]
  | false =>
    simp only [cond_false]
    rw [Int.tmod_eq_emod_of_nonneg (by omega), Int.one_mul]
theorem sg_xor (a b : Bool) : L.sg (!(a == b)) = L.sg b * L.sg a := by cases a <;> cases b <;> rfl
theorem comp_ok {s t : L.Setting} {n : Int} (hs : L.validSet s n = true) (ht : L.validSet t n = true) : L.compE s t n = 0 ∧ L.comp s t n = ⟨(t.shift + L.sg t.back * s.shift) % n, !(s.back == t.back)⟩ ∧ L.validSet (L.comp s t n) n = true := by
  have a := validSet_iff.1 hs
  have b := validSet_iff.1 ht
  have e : L.compE s t n = 0 := by unfold L.compE; rw [hs, ht]; rfl
  have e2 : L.comp s t n = ⟨(t.shift + L.sg t.back * s.shift) % n, !(s.back == t.back)⟩ := by
    unfold L.comp
    rw [e, lay_lin b.2.1 b.2.2 a.2.1 a.2.2]; rfl
  refine ⟨e, e2, validSet_iff.2 ⟨a.1, ?_⟩⟩
  rw [e2]
  exact ⟨Int.emod_nonneg _ (by omega), Int.emod_lt_of_pos _ (by omega)⟩
theorem comp_assoc {s t u : L.Setting} {n : Int} (hs : L.validSet s n = true) (ht : L.validSet t n = true) (hu : L.validSet u n = true) : L.comp (L.comp s t n) u n = L.comp s (L.comp t u n) n := by
  obtain ⟨_, e1, v1⟩ := comp_ok hs ht
  obtain ⟨_, e2, v2⟩ := comp_ok ht hu
  obtain ⟨_, e3, _⟩ := comp_ok v1 hu
  obtain ⟨_, e4, _⟩ := comp_ok hs v2
  have A : (u.shift + L.sg u.back * ((t.shift + L.sg t.back * s.shift) % n)) % n = ((u.shift + L.sg u.back * t.shift) % n + L.sg (!(t.back == u.back)) * s.shift) % n := by
    rw [emod_lin, sg_xor, Int.emod_add_emod, Int.mul_add, Int.mul_assoc, Int.add_assoc]
  have B : (!((!(s.back == t.back)) == u.back)) = !(s.back == !(t.back == u.back)) := by
    cases s.back <;> cases t.back <;> cases u.back <;> rfl
  rw [e3, e4, e1, e2]
  dsimp only
  rw [A, B]
def L.one : L.Setting := ⟨0, false⟩
theorem one_valid {s : L.Setting} {n : Int} (hs : L.validSet s n = true) : L.validSet L.one n = true := by
  have a := validSet_iff.1 hs
  exact validSet_iff.2 ⟨a.1, Int.le_refl _, show (0 : Int) < n by omega⟩
theorem set_ext {s t : L.Setting} (h : s.shift = t.shift) (k : s.back = t.back) : s = t := by cases s; cases t; simp only at h k; rw [h, k]
theorem comp_one {s : L.Setting} {n : Int} (hs : L.validSet s n = true) : L.comp s L.one n = s := by
  have a := validSet_iff.1 hs
  rw [(comp_ok hs (one_valid hs)).2.1]
  refine set_ext ?_ ?_
  · show (0 + 1 * s.shift) % n = s.shift
    rw [Int.zero_add, Int.one_mul, Int.emod_eq_of_lt a.2.1 a.2.2]
  · show (!(s.back == false)) = s.back
    cases s.back <;> rfl
theorem one_comp {s : L.Setting} {n : Int} (hs : L.validSet s n = true) : L.comp L.one s n = s := by
  have a := validSet_iff.1 hs
  rw [(comp_ok (one_valid hs) hs).2.1]
  refine set_ext ?_ ?_
  · show (s.shift + L.sg s.back * 0) % n = s.shift
    rw [Int.mul_zero, Int.add_zero, Int.emod_eq_of_lt a.2.1 a.2.2]
  · show (!(false == s.back)) = s.back
    cases s.back <;> rfl
theorem inv_ok {s : L.Setting} {n : Int} (hs : L.validSet s n = true) : L.invE s n = 0 ∧ L.validSet (L.inv s n) n = true ∧ L.comp s (L.inv s n) n = L.one := by
  have a := validSet_iff.1 hs
  have hv : L.validSet (L.inv s n) n = true := by
    unfold L.inv
    rw [hs]
    cases hb : s.back with
    | true => exact hs
    | false =>
      refine validSet_iff.2 ⟨a.1, ?_⟩
      show 0 ≤ Int.tmod (n - s.shift) n ∧ Int.tmod (n - s.shift) n < n
      exact ⟨Int.tmod_nonneg _ (by omega), Int.tmod_lt_of_pos _ (by omega)⟩
  refine ⟨by unfold L.invE; rw [hs]; rfl, hv, ?_⟩
  rw [(comp_ok hs hv).2.1]
  unfold L.inv
  rw [hs]
  cases hb : s.back with
  | true =>
    simp only [cond_true]
    refine set_ext ?_ ?_
    · show (s.shift + L.sg s.back * s.shift) % n = 0
      rw [hb]
      show (s.shift + -1 * s.shift) % n = 0
      rw [show s.shift + -1 * s.shift = 0 by omega, Int.zero_emod]
    · show (!(true == s.back)) = false
      rw [hb]; rfl
  | false =>
    simp only [cond_true, cond_false]
    refine set_ext ?_ ?_
    · show (Int.tmod (n - s.shift) n + 1 * s.shift) % n = 0
      rw [Int.tmod_eq_emod_of_nonneg (by omega), Int.emod_add_emod, Int.one_mul, show n - s.shift + s.shift = n by omega, Int.emod_self]
    · rfl
theorem lay_comp {s t : L.Setting} {n i : Int} (hs : L.validSet s n = true) (ht : L.validSet t n = true) (h0 : 0 ≤ i) (h1 : i < n) : L.lay t n (L.lay s n i) = L.lay (L.comp s t n) n i ∧ 0 ≤ L.lay s n i ∧ L.lay s n i < n := by
  have a := validSet_iff.1 hs
  have b := validSet_iff.1 ht
  obtain ⟨_, e1, v1⟩ := comp_ok hs ht
  have c := validSet_iff.1 v1
  have l1 := lay_lin a.2.1 a.2.2 h0 h1
  have r1 : 0 ≤ L.lay s n i ∧ L.lay s n i < n := by
    rw [l1]; exact ⟨Int.emod_nonneg _ (by omega), Int.emod_lt_of_pos _ (by omega)⟩
  refine ⟨?_, r1⟩
  rw [lay_lin b.2.1 b.2.2 r1.1 r1.2, lay_lin c.2.1 c.2.2 h0 h1, l1, e1]
  dsimp only
  rw [emod_lin, sg_xor, Int.emod_add_emod, Int.mul_add, Int.mul_assoc, Int.add_assoc]
theorem ed_ok {s : L.Setting} {n i : Int} (hs : L.validSet s n = true) (h0 : 0 ≤ i) (h1 : i < n) : L.edE s n i = 0 ∧ L.ed s n i = L.lay s n i := by
  have e : L.edE s n i = 0 := by
    unfold L.edE
    rw [hs, within_iff.2 ⟨h0, by omega⟩]; rfl
  exact ⟨e, by unfold L.ed; rw [e]; rfl⟩
end Go.Proofs.YtkklpamllfkbaaaGreat

namespace Go.Proofs.YtkklpamllfkbaaaGreat
open Go.SE Go.RowKit
set_option maxRecDepth 100000
set_option maxHeartbeats 4000000
set_option linter.unusedVariables false
attribute [local irreducible] Go.SE.vc

theorem dist_sym (a b : L.Pt) : L.dist a b = L.dist b a := by
  unfold L.dist
  rw [show a.x - b.x = -(b.x - a.x) by omega, show a.y - b.y = -(b.y - a.y) by omega, Int.neg_mul_neg, Int.neg_mul_neg]
theorem dist_self (a : L.Pt) : L.dist a a = 0 := by
  unfold L.dist; rw [Int.sub_self, Int.sub_self]; rfl
theorem cross_ix {l : L.Sq L.Pt} (hv : L.validOutline l = true) (a : Int) : L.cross (l.g (L.ix l.n (a - 1))) (l.g (L.ix l.n a)) (l.g (L.ix l.n (a + 1))) ≠ 0 := by
  have hn := (validOutline_of hv).1
  have hk := ix_lt (n := l.n) (i := a) (by omega)
  have hc := (outline_all hv).2 _ hk
  have e1 : L.prev l.n (L.ix l.n a) = L.ix l.n (a - 1) := by
    rw [← ix_prev hk, show ((L.ix l.n a : Nat) : Int) - 1 = ((L.ix l.n a : Nat) : Int) + -1 by omega, ix_ix (by omega)]; rfl
  have e2 : L.next l.n (L.ix l.n a) = L.ix l.n (a + 1) := by
    rw [← ix_next hk, ix_ix (by omega)]
  rwa [e1, e2] at hc
theorem among_of {p q : Nat → Bool} {n g : Nat} (h : ∀ c, c < n → p c = true → q c = true) (hg : g < L.cnt p n) : L.among ⟨L.cnt q n, fun k => L.sett (L.selN q n k)⟩ (L.sett (L.selN p n g)) = true := by
  obtain ⟨h1, h2⟩ := sel_in hg
  obtain ⟨k, h3, h4⟩ := sel_of (h _ h1 h2) h1
  unfold L.among
  refine anyB_iff.2 ⟨k, h3, ?_⟩
  dsimp only
  rw [h4]; exact sameS_refl _
theorem laid_ix {q : L.Sq L.Pt} {s : L.Setting} {n : Nat} (hn : 0 < n) (s0 : 0 ≤ s.shift) (a : Int) : L.laid q s n (L.ix n a) = q.g (L.ix n (bif s.back then s.shift - a + 1 else s.shift + a)) := by
  have hk := ix_lt (n := n) (i := a) hn
  have he := ix_emod (a := a) hn
  unfold L.laid L.cor
  cases s.back with
  | false =>
    simp only [cond_false]
    have h1 : ((L.ix n (s.shift + a) : Nat) : Int) = Int.tmod (s.shift + ((L.ix n a : Nat) : Int)) (n : Int) := by
      rw [ix_emod hn, Int.tmod_eq_emod_of_nonneg (by omega), he, Int.add_emod_emod]
    rw [← h1, Int.toNat_natCast]
  | true =>
    simp only [cond_true]
    have h1 : ((L.ix n (s.shift - a + 1) : Nat) : Int) = Int.tmod (s.shift + (n : Int) - ((L.ix n a : Nat) : Int) + 1) (n : Int) := by
      rw [ix_emod hn, Int.tmod_eq_emod_of_nonneg (by omega), he]
      rw [show s.shift + (n : Int) - a % (n : Int) + 1 = (s.shift + 1 - a % (n : Int)) + (n : Int) by omega, Int.add_emod_right, show s.shift - a + 1 = s.shift + 1 - a by omega]
      rw [Int.sub_emod, Int.sub_emod (s.shift + 1) (a % (n : Int)), Int.emod_emod]
    rw [← h1, Int.toNat_natCast]
theorem congr_of {p q : L.Sq L.Pt} {s : L.Setting} (h : L.congr p q s = true) : (∀ i j, i < p.n → j < p.n → L.dist (p.g i) (p.g j) = L.dist (L.laid q s p.n i) (L.laid q s p.n j)) ∧ ∀ i, i < p.n → L.conB p q s i = true := by
  have h1 : ∀ i, i < p.n → L.conI p q s i = true := allB_iff.1 h
  have h2 : ∀ i k, i < p.n → k < i → L.dist (p.g i) (p.g k) = L.dist (L.laid q s p.n i) (L.laid q s p.n k) := fun i k hi hk => by
    have := h1 i hi
    unfold L.conI at this
    rw [Bool.and_eq_true] at this
    exact of_decide_eq_true (allB_iff.1 this.1 k hk)
  refine ⟨fun i j hi hj => ?_, fun i hi => ?_⟩
  · rcases Nat.lt_trichotomy i j with h | h | h
    · rw [dist_sym, h2 j i hj h, dist_sym]
    · subst h; rw [dist_self, dist_self]
    · exact h2 i j hi h
  · have := h1 i hi
    unfold L.conI at this
    rw [Bool.and_eq_true] at this
    exact this.2
theorem cross_rev (a b c : L.Pt) : L.cross a b c = - L.cross c b a := by
  unfold L.cross
  grind
def L.cy (l : L.Sq L.Pt) (a : Int) : L.Pt := l.g (L.ix l.n a)
theorem cy_mod {l : L.Sq L.Pt} {a b : Int} (hn : 0 < l.n) (h : a % (l.n : Int) = b % (l.n : Int)) : L.cy l a = L.cy l b := by
  unfold L.cy
  have := ix_congr hn h 0
  rw [Int.add_zero, Int.add_zero] at this
  rw [this]
def L.es (s : L.Setting) (a : Int) : Int := bif s.back then s.shift - a + 1 else s.shift + a
def L.bnd (l : L.Sq L.Pt) (a : Int) : Bool := decide (0 < L.cross (L.cy l (a - 1)) (L.cy l a) (L.cy l (a + 1)))
def L.isoS (p q : L.Sq L.Pt) (s : L.Setting) : Prop := (∀ a b : Int, L.dist (L.cy p a) (L.cy p b) = L.dist (L.cy q (L.es s a)) (L.cy q (L.es s b))) ∧ ∀ a : Int, L.bnd p a = L.bnd q (L.es s a)
theorem dec_rev {a b c : L.Pt} (h : L.cross a b c ≠ 0) : decide (0 < L.cross c b a) = !decide (0 < L.cross a b c) := by
  rw [Bool.eq_iff_iff, Bool.not_eq_true', decide_eq_true_eq, decide_eq_false_iff_not, cross_rev c b a]
  omega
theorem beq_x (x y : Bool) : (x == !(y == false)) = (x == y) := by cases x <;> cases y <;> rfl
theorem beq_y (x y : Bool) : (x == !((!y) == true)) = (x == y) := by cases x <;> cases y <;> rfl
theorem conB_at {p q : L.Sq L.Pt} {s : L.Setting} (hq : L.validOutline q = true) (hn : p.n = q.n) (hp : 0 < p.n) (s0 : 0 ≤ s.shift) (a : Int) : L.conB p q s (L.ix p.n a) = (L.bnd p a == L.bnd q (L.es s a)) := by
  have hk := ix_lt (n := p.n) (i := a) hp
  have e1 : L.prev p.n (L.ix p.n a) = L.ix p.n (a - 1) := by
    rw [← ix_prev hk, show ((L.ix p.n a : Nat) : Int) - 1 = ((L.ix p.n a : Nat) : Int) + -1 by omega, ix_ix hp]; rfl
  have e2 : L.next p.n (L.ix p.n a) = L.ix p.n (a + 1) := by
    rw [← ix_next hk, ix_ix hp]
  have hl : ∀ b, L.laid q s p.n (L.ix p.n b) = L.cy q (L.es s b) := fun b => by rw [laid_ix hp s0]; unfold L.cy L.es; rw [hn]
  have hc : L.cross (L.cy q (L.es s a - 1)) (L.cy q (L.es s a)) (L.cy q (L.es s a + 1)) ≠ 0 := cross_ix hq (L.es s a)
  have hb2 : decide (0 < L.cross (L.cy p (a - 1)) (L.cy p a) (L.cy p (a + 1))) = L.bnd p a := rfl
  unfold L.conB
  rw [e1, e2, hl, hl, hl]
  show (L.bnd p a == !(decide (0 < L.cross (L.cy q (L.es s (a - 1))) (L.cy q (L.es s a)) (L.cy q (L.es s (a + 1)))) == s.back)) = _
  cases hb : s.back with
  | false =>
    have f1 : L.es s (a - 1) = L.es s a - 1 := by unfold L.es; rw [hb]; dsimp only [cond_false]; omega
    have f2 : L.es s (a + 1) = L.es s a + 1 := by unfold L.es; rw [hb]; dsimp only [cond_false]; omega
    rw [f1, f2, beq_x]; rfl
  | true =>
    have f1 : L.es s (a - 1) = L.es s a + 1 := by unfold L.es; rw [hb]; dsimp only [cond_true]; omega
    have f2 : L.es s (a + 1) = L.es s a - 1 := by unfold L.es; rw [hb]; dsimp only [cond_true]; omega
    rw [f1, f2, dec_rev hc, beq_y]; rfl
theorem congr_iff {p q : L.Sq L.Pt} {s : L.Setting} (hq : L.validOutline q = true) (hn : p.n = q.n) (hp : 0 < p.n) (s0 : 0 ≤ s.shift) : L.congr p q s = true ↔ L.isoS p q s := by
  have hd : ∀ a, L.laid q s p.n (L.ix p.n a) = L.cy q (L.es s a) := fun a => by rw [laid_ix hp s0]; unfold L.cy L.es; rw [hn]
  constructor
  · intro h
    obtain ⟨h1, h2⟩ := congr_of h
    refine ⟨fun a b => ?_, fun a => ?_⟩
    · have := h1 (L.ix p.n a) (L.ix p.n b) (ix_lt hp) (ix_lt hp)
      rw [hd, hd] at this
      exact this
    · have := h2 (L.ix p.n a) (ix_lt hp)
      rw [conB_at hq hn hp s0] at this
      exact eq_of_beq this
  · intro ⟨h1, h2⟩
    refine allB_iff.2 (fun i hi => ?_)
    unfold L.conI
    have ei : L.ix p.n (i : Int) = i := ix_self hi
    rw [Bool.and_eq_true]
    refine ⟨allB_iff.2 (fun k hk => decide_eq_true ?_), ?_⟩
    · have hk' : k < p.n := by omega
      have ek : L.ix p.n (k : Int) = k := ix_self hk'
      have := h1 (i : Int) (k : Int)
      rw [← hd, ← hd] at this
      unfold L.cy at this
      rw [ei, ek] at this
      exact this
    · have := conB_at hq hn hp s0 (i : Int)
      rw [ei] at this
      rw [this, h2]
      exact beq_self_eq_true _
theorem emod_of_eq {n a b : Int} (k : Int) (h : a = b + n * k) : a % n = b % n := by rw [h, Int.add_mul_emod_self_left]
theorem es_comp {s t : L.Setting} {n : Int} (hs : L.validSet s n = true) (ht : L.validSet t n = true) (a : Int) : (L.es t (L.es s a)) % n = (L.es (L.comp s t n) a) % n := by
  obtain ⟨_, e, _⟩ := comp_ok hs ht
  have hd : ∀ x : Int, x % n = x + n * (-(x / n)) := fun x => by rw [Int.emod_def, Int.mul_neg]; rfl
  rw [e]
  unfold L.es L.sg
  cases s.back <;> cases t.back <;> simp only [cond_true, cond_false, Bool.not_true, Bool.not_false, beq_self_eq_true, show (true == false) = false from rfl, show (false == true) = false from rfl, Int.one_mul]
  · rw [hd (t.shift + s.shift)]
    exact emod_of_eq ((t.shift + s.shift) / n) (by rw [Int.mul_neg]; omega)
  · rw [hd (t.shift + -1 * s.shift)]
    exact emod_of_eq ((t.shift + -1 * s.shift) / n) (by rw [Int.mul_neg]; omega)
  · rw [hd (t.shift + s.shift)]
    exact emod_of_eq ((t.shift + s.shift) / n) (by rw [Int.mul_neg]; omega)
  · rw [hd (t.shift + -1 * s.shift)]
    exact emod_of_eq ((t.shift + -1 * s.shift) / n) (by rw [Int.mul_neg]; omega)
theorem bnd_mod {l : L.Sq L.Pt} {a b : Int} (hn : 0 < l.n) (h : a % (l.n : Int) = b % (l.n : Int)) : L.bnd l a = L.bnd l b := by
  unfold L.bnd
  rw [cy_mod hn h, cy_mod hn (a := a - 1) (b := b - 1) (Int.emod_sub_cancel_right _ |>.2 h), cy_mod hn (a := a + 1) (b := b + 1) (Int.emod_add_cancel_right _ |>.2 h)]
theorem iso_comp {p q r : L.Sq L.Pt} {s t : L.Setting} {n : Nat} (hr : r.n = n) (h0 : 0 < n) (hs : L.validSet s n = true) (ht : L.validSet t n = true) (h : L.isoS p q s) (k : L.isoS q r t) : L.isoS p r (L.comp s t n) := by
  have e : ∀ a, L.cy r (L.es t (L.es s a)) = L.cy r (L.es (L.comp s t n) a) := fun a => cy_mod (by omega) (by rw [hr]; exact es_comp hs ht a)
  refine ⟨fun a b => ?_, fun a => ?_⟩
  · rw [h.1, k.1, e, e]
  · rw [h.2, k.2]
    exact bnd_mod (by omega) (by rw [hr]; exact es_comp hs ht a)
theorem es_inv {s : L.Setting} {n : Int} (hs : L.validSet s n = true) (a : Int) : (L.es s (L.es (L.inv s n) a)) % n = a % n := by
  have b := validSet_iff.1 hs
  have hd : ∀ x : Int, x % n = x + n * (-(x / n)) := fun x => by rw [Int.emod_def, Int.mul_neg]; rfl
  unfold L.inv
  rw [hs]
  unfold L.es
  cases hb : s.back with
  | true =>
    simp only [cond_true, hb]
    exact emod_of_eq 0 (by omega)
  | false =>
    simp only [cond_true, cond_false]
    rw [Int.tmod_eq_emod_of_nonneg (by omega), hd (n - s.shift)]
    exact emod_of_eq (1 - (n - s.shift) / n) (by rw [Int.mul_neg, Int.mul_sub]; omega)
theorem iso_inv {p q : L.Sq L.Pt} {s : L.Setting} {n : Nat} (hq : q.n = n) (h0 : 0 < n) (hs : L.validSet s n = true) (h : L.isoS p q s) : L.isoS q p (L.inv s n) := by
  have e : ∀ a, L.cy q (L.es s (L.es (L.inv s n) a)) = L.cy q a := fun a => cy_mod (by omega) (by rw [hq]; exact es_inv hs a)
  refine ⟨fun a b => ?_, fun a => ?_⟩
  · rw [h.1, e, e]
  · rw [h.2]
    exact (bnd_mod (by omega) (by rw [hq]; exact es_inv hs a)).symm
end Go.Proofs.YtkklpamllfkbaaaGreat

namespace Go.Proofs.YtkklpamllfkbaaaGreat
open Go.SE Go.RowKit
set_option maxRecDepth 100000
set_option maxHeartbeats 4000000
set_option linter.unusedVariables false
attribute [local irreducible] Go.SE.vc

def L.pick4 (a b c d : L.Pt) (i : Nat) : L.Pt := bif decide (i = 0) then a else bif decide (i = 1) then b else bif decide (i = 2) then c else d
def L.onB (a b c d p : L.Pt) : Bool := L.on a b p && L.on c d p
def L.cm (a b c d : L.Pt) : Nat → L.Sq L.Pt
  | 0 => L.no
  | n + 1 => L.putIf (L.onB a b c d (L.pick4 a b c d n)) (L.cm a b c d n) (L.pick4 a b c d n)
theorem on_left {a b : L.Pt} : L.on a b a = true := by
  unfold L.on
  rw [Bool.and_eq_true, Bool.and_eq_true, within_iff, within_iff]
  refine ⟨⟨decide_eq_true ?_, by omega⟩, by omega⟩
  unfold L.cross; simp
theorem on_right {a b : L.Pt} : L.on a b b = true := by
  unfold L.on
  rw [Bool.and_eq_true, Bool.and_eq_true, within_iff, within_iff]
  refine ⟨⟨decide_eq_true ?_, by omega⟩, by omega⟩
  unfold L.cross; rw [Int.mul_comm]; omega
theorem cm_eq {a b c d : L.Pt} : L.cm a b c d 4 = L.k2 a b c d 2 := by
  have h1 : L.onB a b c d a = L.on c d a := by unfold L.onB; rw [on_left]; rfl
  have h2 : L.onB a b c d b = L.on c d b := by unfold L.onB; rw [on_right]; rfl
  have h3 : L.onB a b c d c = L.on a b c := by unfold L.onB; rw [on_left (a := c), Bool.and_true]
  have h4 : L.onB a b c d d = L.on a b d := by unfold L.onB; rw [on_right (a := c), Bool.and_true]
  show L.putIf (L.onB a b c d d) (L.putIf (L.onB a b c d c) (L.putIf (L.onB a b c d b) (L.putIf (L.onB a b c d a) L.no a) b) c) d = _
  rw [h1, h2, h3, h4]; rfl
theorem same_sym (p q : L.Pt) : L.same p q = L.same q p := by
  unfold L.same
  rw [show decide (p.x = q.x) = decide (q.x = p.x) from by by_cases h : p.x = q.x <;> simp [h, eq_comm], show decide (p.y = q.y) = decide (q.y = p.y) from by by_cases h : p.y = q.y <;> simp [h, eq_comm]]
theorem put_n {ks : L.Sq L.Pt} {p : L.Pt} : (L.put ks p).n ≤ ks.n + 1 := by
  unfold L.put
  cases L.has ks p
  · exact Nat.le_refl _
  · exact Nat.le_succ _
theorem cm_n {a b c d : L.Pt} : ∀ {i : Nat}, (L.cm a b c d i).n ≤ i
  | 0 => Nat.le_refl _
  | i + 1 => by
    have ih := cm_n (a := a) (b := b) (c := c) (d := d) (i := i)
    rw [L.cm]
    cases L.onB a b c d (L.pick4 a b c d i)
    · exact Nat.le_trans ih (Nat.le_succ _)
    · exact Nat.le_trans put_n (Nat.succ_le_succ ih)
theorem corner_eq {l : L.Sq L.Pt} {k : Nat} : (bif bif decide (0 < (k : Int)) then !decide (L.cmpPt (l.g 0) (l.g k) < 0) else false then true else decide (L.cross (l.g (L.prev l.n k)) (l.g k) (l.g (L.next l.n k)) = 0)) = !L.corner l k := by
  unfold L.corner
  have : decide (0 ≤ L.cmpPt (l.g 0) (l.g k)) = !decide (L.cmpPt (l.g 0) (l.g k) < 0) := by
    by_cases h : L.cmpPt (l.g 0) (l.g k) < 0
    · rw [decide_eq_true h, decide_eq_false (by omega)]; rfl
    · rw [decide_eq_false h, decide_eq_true (by omega)]; rfl
  rw [this, Bool.not_not]
  cases decide (0 < (k : Int)) <;> cases decide (L.cmpPt (l.g 0) (l.g k) < 0) <;> cases decide (L.cross (l.g (L.prev l.n k)) (l.g k) (l.g (L.next l.n k)) = 0) <;> rfl
def r1_meet_p (a : L.Pt) (b : L.Pt) (c : L.Pt) (d : L.Pt) : Prop := L.bd a ∧ L.bd b ∧ L.bd c ∧ L.bd d
def r1_meet_r (a : L.Pt) (b : L.Pt) (c : L.Pt) (d : L.Pt) : SV := .int .i64 (L.meet a b c d)
def r1_meet_s : List EV → Option (Prop × SV)
  | [.p (.agg [.int .i64 a_x, .int .i64 a_y]), .p (.agg [.int .i64 b_x, .int .i64 b_y]), .p (.agg [.int .i64 c_x, .int .i64 c_y]), .p (.agg [.int .i64 d_x, .int .i64 d_y])] => some (r1_meet_p (⟨a_x, a_y⟩ : L.Pt) (⟨b_x, b_y⟩ : L.Pt) (⟨c_x, c_y⟩ : L.Pt) (⟨d_x, d_y⟩ : L.Pt), r1_meet_r (⟨a_x, a_y⟩ : L.Pt) (⟨b_x, b_y⟩ : L.Pt) (⟨c_x, c_y⟩ : L.Pt) (⟨d_x, d_y⟩ : L.Pt))
  | _ => none
abbrev r1_meet_S : SE.Spec := (specO r1_meet_s)
def r1_meet_C : Cfg := { muts := [], frz := lookN [], specs := lookS [(158, r1_On_S), (64, r1_Cross_S), (139, r1_sign_S)], loops := fun _ => none, iters := lookI [], rfs := lookR [], nils := lookM [(2, [(9, 20, 63, 2)])] }
theorem r1_meet_vc (a : L.Pt) (b : L.Pt) (c : L.Pt) (d : L.Pt) (hp : r1_meet_p a b c d) : vc Tryz.prog ({ r1_meet_C with loops := lookL [(4, { T := Nat, keep := [4, 5, 6, 7, 9], keepO := [], chg := fun i => [(10, .p (.sl 2 4 (fun j => [.int .i64 ((L.pick4 a b c d j).x), .int .i64 ((L.pick4 a b c d j).y)]))), (11, .p (.int .i64 (i : Int)))], own := fun i => [(20, .row 63 2 (L.cm a b c d i).n (fun j => [.int .i64 (((L.cm a b c d i).g j).x), .int .i64 (((L.cm a b c d i).g j).y)]))], inv := fun i => i ≤ 4, mu := fun i => 4 - i }), (9, { T := Nat × Nat, keep := [4, 5, 6, 7, 9, 10, 11], keepO := [], tie := fun g => [(11, .int .i64 (g.1 : Int))], chg := fun g => [(12, .p (.bool (L.anyB g.2 (fun j => L.same ((L.cm a b c d g.1).g j) (L.pick4 a b c d g.1))))), (13, .p (.int .i64 (g.2 : Int)))], own := fun g => [(20, .row 63 2 (L.cm a b c d g.1).n (fun j => [.int .i64 (((L.cm a b c d g.1).g j).x), .int .i64 (((L.cm a b c d g.1).g j).y)]))], inv := fun g => g.1 < 4 ∧ g.2 ≤ (L.cm a b c d g.1).n, mu := fun g => (L.cm a b c d g.1).n - g.2 })], rfs := lookR [] }) (bodyOf Tryz.f111) (st0 Tryz.f111 [.p (.agg [.int .i64 a.x, .int .i64 a.y]), .p (.agg [.int .i64 b.x, .int .i64 b.y]), .p (.agg [.int .i64 c.x, .int .i64 c.y]), .p (.agg [.int .i64 d.x, .int .i64 d.y])]) (retFn Tryz.prog Tryz.f111 (r1_meet_r a b c d)) :=
  @Eq.mpr _ ((∃ (g : Nat), (nat_lit 4 = (4 : Nat) ∧ ∀ (i : Nat), i < nat_lit 4 → Go.SE.rowsOf [Go.SE.SV.int Go.IntKind.i64 a.x, Go.SE.SV.int Go.IntKind.i64 a.y, Go.SE.SV.int Go.IntKind.i64 b.x, Go.SE.SV.int Go.IntKind.i64 b.y, Go.SE.SV.int Go.IntKind.i64 c.x, Go.SE.SV.int Go.IntKind.i64 c.y, Go.SE.SV.int Go.IntKind.i64 d.x, Go.SE.SV.int Go.IntKind.i64 d.y] (nat_lit 2) i = [Go.SE.SV.int Go.IntKind.i64 (L.pick4
 a b c d i).x, Go.SE.SV.int Go.IntKind.i64 (L.pick4 a b c d i).y]) ∧ (0 : Int) = (↑g : Int) ∧ (nat_lit 0 = (L.cm a b c d g).n ∧ ∀ (i : Nat), i < nat_lit 0 → [] = [Go.SE.SV.int Go.IntKind.i64 ((L.cm a b c d g).g i).x, Go.SE.SV.int Go.IntKind.i64 ((L.cm a b c d g).g i).y]) ∧ g ≤ (4 : Nat)) ∧ ∀ (g : Nat), g ≤ (4 : Nat) → (Decidable.decide ((↑g : Int) < (4 : Int)) = Bool.true → ((0 : Int) ≤ (↑g : Int)
 ∧ (↑g : Int) < (↑(nat_lit 4) : Int)) ∧ (L.bd a ∧ L.bd b ∧ L.bd (L.pick4 a b c d (Int.toNat (↑g : Int)))) ∧ ((!!L.on a b (L.pick4 a b c d (Int.toNat (↑g : Int)))) = Bool.true → (0 : Int) ≤ (↑g : Int) ∧ (↑g : Int) < (↑(nat_lit 4) : Int)) ∧ ((!!L.on a b (L.pick4 a b c d (Int.toNat (↑g : Int)))) = Bool.true → L.bd c ∧ L.bd d ∧ L.bd (L.pick4 a b c d (Int.toNat (↑g : Int)))) ∧ ((bif !L.on a b (L.pick4 a
 b c d (Int.toNat (↑g : Int))) then Bool.true else !L.on c d (L.pick4 a b c d (Int.toNat (↑g : Int)))) = Bool.true → Go.SE.InK Go.IntKind.i64 ((↑g : Int) + (1 : Int)) ∧ ∃ (g' : Nat), (nat_lit 4 = (4 : Nat) ∧ ∀ (i : Nat), i < nat_lit 4 → [Go.SE.SV.int Go.IntKind.i64 (L.pick4 a b c d i).x, Go.SE.SV.int Go.IntKind.i64 (L.pick4 a b c d i).y] = [Go.SE.SV.int Go.IntKind.i64 (L.pick4 a b c d i).x,
 Go.SE.SV.int Go.IntKind.i64 (L.pick4 a b c d i).y]) ∧ (↑g : Int) + (1 : Int) = (↑g' : Int) ∧ Go.SE.SV.ref [Go.SE.SV.int Go.IntKind.i64 d.x, Go.SE.SV.int Go.IntKind.i64 d.y] (nat_lit 0) = Go.SE.SV.ref [Go.SE.SV.int Go.IntKind.i64 d.x, Go.SE.SV.int Go.IntKind.i64 d.y] (nat_lit 0) ∧ Go.SE.SV.ref [Go.SE.SV.int Go.IntKind.i64 c.x, Go.SE.SV.int Go.IntKind.i64 c.y] (nat_lit 0) = Go.SE.SV.ref
 [Go.SE.SV.int Go.IntKind.i64 c.x, Go.SE.SV.int Go.IntKind.i64 c.y] (nat_lit 0) ∧ Go.SE.SV.ref [Go.SE.SV.int Go.IntKind.i64 b.x, Go.SE.SV.int Go.IntKind.i64 b.y] (nat_lit 0) = Go.SE.SV.ref [Go.SE.SV.int Go.IntKind.i64 b.x, Go.SE.SV.int Go.IntKind.i64 b.y] (nat_lit 0) ∧ Go.SE.SV.ref [Go.SE.SV.int Go.IntKind.i64 a.x, Go.SE.SV.int Go.IntKind.i64 a.y] (nat_lit 0) = Go.SE.SV.ref [Go.SE.SV.int
 Go.IntKind.i64 a.x, Go.SE.SV.int Go.IntKind.i64 a.y] (nat_lit 0) ∧ ((L.cm a b c d g).n = (L.cm a b c d g').n ∧ ∀ (i : Nat), i < (L.cm a b c d g).n → [Go.SE.SV.int Go.IntKind.i64 ((L.cm a b c d g).g i).x, Go.SE.SV.int Go.IntKind.i64 ((L.cm a b c d g).g i).y] = [Go.SE.SV.int Go.IntKind.i64 ((L.cm a b c d g').g i).x, Go.SE.SV.int Go.IntKind.i64 ((L.cm a b c d g').g i).y]) ∧ g' ≤ (4 : Nat) ∧ (4 : Nat)
 - g' < (4 : Nat) - g) ∧ ((bif !L.on a b (L.pick4 a b c d (Int.toNat (↑g : Int))) then Bool.true else !L.on c d (L.pick4 a b c d (Int.toNat (↑g : Int)))) = Bool.false → (∃ (g_1 : Nat × Nat), (Bool.false = L.anyB g_1.2 fun (j : Nat) ↦ L.same ((L.cm a b c d g_1.1).g j) (L.pick4 a b c d g_1.1)) ∧ (0 : Int) = (↑g_1.2 : Int) ∧ ((L.cm a b c d g).n = (L.cm a b c d g_1.1).n ∧ ∀ (i : Nat), i < (L.cm a b c d
 g).n → [Go.SE.SV.int Go.IntKind.i64 ((L.cm a b c d g).g i).x, Go.SE.SV.int Go.IntKind.i64 ((L.cm a b c d g).g i).y] = [Go.SE.SV.int Go.IntKind.i64 ((L.cm a b c d g_1.1).g i).x, Go.SE.SV.int Go.IntKind.i64 ((L.cm a b c d g_1.1).g i).y]) ∧ (↑g : Int) = (↑g_1.1 : Int) ∧ g_1.1 < (4 : Nat) ∧ g_1.2 ≤ (L.cm a b c d g_1.1).n) ∧ ∀ (g_1 : Nat × Nat), (↑g : Int) = (↑g_1.1 : Int) ∧ g_1.1 < (4 : Nat) ∧ g_1.2 ≤
 (L.cm a b c d g_1.1).n → (Decidable.decide ((↑g_1.2 : Int) < (↑(L.cm a b c d g_1.1).n : Int)) = Bool.true → ((!L.anyB g_1.2 fun (j : Nat) ↦ L.same ((L.cm a b c d g_1.1).g j) (L.pick4 a b c d g_1.1)) = Bool.true → (0 : Int) ≤ (↑g_1.2 : Int) ∧ (↑g_1.2 : Int) < (↑(L.cm a b c d g_1.1).n : Int)) ∧ ((!L.anyB g_1.2 fun (j : Nat) ↦ L.same ((L.cm a b c d g_1.1).g j) (L.pick4 a b c d g_1.1)) = Bool.true →
 Int.toNat (↑g_1.2 : Int) < (L.cm a b c d g_1.1).n) ∧ ((!L.anyB g_1.2 fun (j : Nat) ↦ L.same ((L.cm a b c d g_1.1).g j) (L.pick4 a b c d g_1.1)) = Bool.true → (0 : Int) ≤ (↑g : Int) ∧ (↑g : Int) < (↑(nat_lit 4) : Int)) ∧ Go.SE.InK Go.IntKind.i64 ((↑g_1.2 : Int) + (1 : Int)) ∧ ∃ (g' : Nat × Nat), ((bif L.anyB g_1.2 fun (j : Nat) ↦ L.same ((L.cm a b c d g_1.1).g j) (L.pick4 a b c d g_1.1) then
 Bool.true else Decidable.decide (((L.cm a b c d g_1.1).g (Int.toNat (↑g_1.2 : Int))).x = (L.pick4 a b c d (Int.toNat (↑g : Int))).x) && Decidable.decide (((L.cm a b c d g_1.1).g (Int.toNat (↑g_1.2 : Int))).y = (L.pick4 a b c d (Int.toNat (↑g : Int))).y)) = L.anyB g'.2 fun (j : Nat) ↦ L.same ((L.cm a b c d g'.1).g j) (L.pick4 a b c d g'.1)) ∧ (↑g_1.2 : Int) + (1 : Int) = (↑g'.2 : Int) ∧ (nat_lit 4
 = nat_lit 4 ∧ ∀ (i : Nat), i < nat_lit 4 → [Go.SE.SV.int Go.IntKind.i64 (L.pick4 a b c d i).x, Go.SE.SV.int Go.IntKind.i64 (L.pick4 a b c d i).y] = [Go.SE.SV.int Go.IntKind.i64 (L.pick4 a b c d i).x, Go.SE.SV.int Go.IntKind.i64 (L.pick4 a b c d i).y]) ∧ (↑g : Int) = (↑g : Int) ∧ Go.SE.SV.ref [Go.SE.SV.int Go.IntKind.i64 d.x, Go.SE.SV.int Go.IntKind.i64 d.y] (nat_lit 0) = Go.SE.SV.ref [Go.SE.SV.int
 Go.IntKind.i64 d.x, Go.SE.SV.int Go.IntKind.i64 d.y] (nat_lit 0) ∧ Go.SE.SV.ref [Go.SE.SV.int Go.IntKind.i64 c.x, Go.SE.SV.int Go.IntKind.i64 c.y] (nat_lit 0) = Go.SE.SV.ref [Go.SE.SV.int Go.IntKind.i64 c.x, Go.SE.SV.int Go.IntKind.i64 c.y] (nat_lit 0) ∧ Go.SE.SV.ref [Go.SE.SV.int Go.IntKind.i64 b.x, Go.SE.SV.int Go.IntKind.i64 b.y] (nat_lit 0) = Go.SE.SV.ref [Go.SE.SV.int Go.IntKind.i64 b.x,
 Go.SE.SV.int Go.IntKind.i64 b.y] (nat_lit 0) ∧ Go.SE.SV.ref [Go.SE.SV.int Go.IntKind.i64 a.x, Go.SE.SV.int Go.IntKind.i64 a.y] (nat_lit 0) = Go.SE.SV.ref [Go.SE.SV.int Go.IntKind.i64 a.x, Go.SE.SV.int Go.IntKind.i64 a.y] (nat_lit 0) ∧ ((L.cm a b c d g_1.1).n = (L.cm a b c d g'.1).n ∧ ∀ (i : Nat), i < (L.cm a b c d g_1.1).n → [Go.SE.SV.int Go.IntKind.i64 ((L.cm a b c d g_1.1).g i).x, Go.SE.SV.int
 Go.IntKind.i64 ((L.cm a b c d g_1.1).g i).y] = [Go.SE.SV.int Go.IntKind.i64 ((L.cm a b c d g'.1).g i).x, Go.SE.SV.int Go.IntKind.i64 ((L.cm a b c d g'.1).g i).y]) ∧ ((↑g : Int) = (↑g'.1 : Int) ∧ g'.1 < (4 : Nat) ∧ g'.2 ≤ (L.cm a b c d g'.1).n) ∧ (L.cm a b c d g'.1).n - g'.2 < (L.cm a b c d g_1.1).n - g_1.2) ∧ (Decidable.decide ((↑g_1.2 : Int) < (↑(L.cm a b c d g_1.1).n : Int)) = Bool.false →
 ((!L.anyB g_1.2 fun (j : Nat) ↦ L.same ((L.cm a b c d g_1.1).g j) (L.pick4 a b c d g_1.1)) = Bool.true → ((0 : Int) ≤ (↑g : Int) ∧ (↑g : Int) < (↑(nat_lit 4) : Int)) ∧ ((L.cm a b c d g_1.1).n + nat_lit 1) * nat_lit 16 ≤ (140737488355328 : Nat) ∧ Go.SE.InK Go.IntKind.i64 ((↑g : Int) + (1 : Int)) ∧ ∃ (g' : Nat), (nat_lit 4 = (4 : Nat) ∧ ∀ (i : Nat), i < nat_lit 4 → [Go.SE.SV.int Go.IntKind.i64
 (L.pick4 a b c d i).x, Go.SE.SV.int Go.IntKind.i64 (L.pick4 a b c d i).y] = [Go.SE.SV.int Go.IntKind.i64 (L.pick4 a b c d i).x, Go.SE.SV.int Go.IntKind.i64 (L.pick4 a b c d i).y]) ∧ (↑g : Int) + (1 : Int) = (↑g' : Int) ∧ Go.SE.SV.ref [Go.SE.SV.int Go.IntKind.i64 d.x, Go.SE.SV.int Go.IntKind.i64 d.y] (nat_lit 0) = Go.SE.SV.ref [Go.SE.SV.int Go.IntKind.i64 d.x, Go.SE.SV.int Go.IntKind.i64 d.y]
 (nat_lit 0) ∧ Go.SE.SV.ref [Go.SE.SV.int Go.IntKind.i64 c.x, Go.SE.SV.int Go.IntKind.i64 c.y] (nat_lit 0) = Go.SE.SV.ref [Go.SE.SV.int Go.IntKind.i64 c.x, Go.SE.SV.int Go.IntKind.i64 c.y] (nat_lit 0) ∧ Go.SE.SV.ref [Go.SE.SV.int Go.IntKind.i64 b.x, Go.SE.SV.int Go.IntKind.i64 b.y] (nat_lit 0) = Go.SE.SV.ref [Go.SE.SV.int Go.IntKind.i64 b.x, Go.SE.SV.int Go.IntKind.i64 b.y] (nat_lit 0) ∧
 Go.SE.SV.ref [Go.SE.SV.int Go.IntKind.i64 a.x, Go.SE.SV.int Go.IntKind.i64 a.y] (nat_lit 0) = Go.SE.SV.ref [Go.SE.SV.int Go.IntKind.i64 a.x, Go.SE.SV.int Go.IntKind.i64 a.y] (nat_lit 0) ∧ ((L.cm a b c d g_1.1).n + nat_lit 1 = (L.cm a b c d g').n ∧ ∀ (i : Nat), i < (L.cm a b c d g_1.1).n + nat_lit 1 → Go.SE.appGet (L.cm a b c d g_1.1).n (fun (j : Nat) ↦ [Go.SE.SV.int Go.IntKind.i64 ((L.cm a b c d
 g_1.1).g j).x, Go.SE.SV.int Go.IntKind.i64 ((L.cm a b c d g_1.1).g j).y]) (fun (x : Nat) ↦ [Go.SE.SV.int Go.IntKind.i64 (L.pick4 a b c d (Int.toNat (↑g : Int))).x, Go.SE.SV.int Go.IntKind.i64 (L.pick4 a b c d (Int.toNat (↑g : Int))).y]) i = [Go.SE.SV.int Go.IntKind.i64 ((L.cm a b c d g').g i).x, Go.SE.SV.int Go.IntKind.i64 ((L.cm a b c d g').g i).y]) ∧ g' ≤ (4 : Nat) ∧ (4 : Nat) - g' < (4 : Nat) -
 g) ∧ ((!L.anyB g_1.2 fun (j : Nat) ↦ L.same ((L.cm a b c d g_1.1).g j) (L.pick4 a b c d g_1.1)) = Bool.false → Go.SE.InK Go.IntKind.i64 ((↑g : Int) + (1 : Int)) ∧ ∃ (g' : Nat), (nat_lit 4 = (4 : Nat) ∧ ∀ (i : Nat), i < nat_lit 4 → [Go.SE.SV.int Go.IntKind.i64 (L.pick4 a b c d i).x, Go.SE.SV.int Go.IntKind.i64 (L.pick4 a b c d i).y] = [Go.SE.SV.int Go.IntKind.i64 (L.pick4 a b c d i).x, Go.SE.SV.int
 Go.IntKind.i64 (L.pick4 a b c d i).y]) ∧ (↑g : Int) + (1 : Int) = (↑g' : Int) ∧ Go.SE.SV.ref [Go.SE.SV.int Go.IntKind.i64 d.x, Go.SE.SV.int Go.IntKind.i64 d.y] (nat_lit 0) = Go.SE.SV.ref [Go.SE.SV.int Go.IntKind.i64 d.x, Go.SE.SV.int Go.IntKind.i64 d.y] (nat_lit 0) ∧ Go.SE.SV.ref [Go.SE.SV.int Go.IntKind.i64 c.x, Go.SE.SV.int Go.IntKind.i64 c.y] (nat_lit 0) = Go.SE.SV.ref [Go.SE.SV.int
 Go.IntKind.i64 c.x, Go.SE.SV.int Go.IntKind.i64 c.y] (nat_lit 0) ∧ Go.SE.SV.ref [Go.SE.SV.int Go.IntKind.i64 b.x, Go.SE.SV.int Go.IntKind.i64 b.y] (nat_lit 0) = Go.SE.SV.ref [Go.SE.SV.int Go.IntKind.i64 b.x, Go.SE.SV.int Go.IntKind.i64 b.y] (nat_lit 0) ∧ Go.SE.SV.ref [Go.SE.SV.int Go.IntKind.i64 a.x, Go.SE.SV.int Go.IntKind.i64 a.y] (nat_lit 0) = Go.SE.SV.ref [Go.SE.SV.int Go.IntKind.i64 a.x,
 Go.SE.SV.int Go.IntKind.i64 a.y] (nat_lit 0) ∧ ((L.cm a b c d g_1.1).n = (L.cm a b c d g').n ∧ ∀ (i : Nat), i < (L.cm a b c d g_1.1).n → [Go.SE.SV.int Go.IntKind.i64 ((L.cm a b c d g_1.1).g i).x, Go.SE.SV.int Go.IntKind.i64 ((L.cm a b c d g_1.1).g i).y] = [Go.SE.SV.int Go.IntKind.i64 ((L.cm a b c d g').g i).x, Go.SE.SV.int Go.IntKind.i64 ((L.cm a b c d g').g i).y]) ∧ g' ≤ (4 : Nat) ∧ (4 : Nat) -
 g' < (4 : Nat) - g)))) ∧ (Decidable.decide ((↑g : Int) < (4 : Int)) = Bool.false → (Decidable.decide ((1 : Int) < (↑(L.cm a b c d g).n : Int)) = Bool.true → (3 : Int) = L.meet a b c d) ∧ (Decidable.decide ((1 : Int) < (↑(L.cm a b c d g).n : Int)) = Bool.false → (Decidable.decide ((↑(L.cm a b c d g).n : Int) = (1 : Int)) = Bool.true → (1 : Int) = L.meet a b c d) ∧ (Decidable.decide ((↑(L.cm a b c d
 g).n : Int) = (1 : Int)) = Bool.false → (L.bd a ∧ L.bd b ∧ L.bd c) ∧ True ∧ (L.bd a ∧ L.bd b ∧ L.bd d) ∧ True ∧ Go.SE.InK Go.IntKind.i64 (L.cmp (L.cross a b c) (0 : Int) * L.cmp (L.cross a b d) (0 : Int)) ∧ (Decidable.decide (L.cmp (L.cross a b c) (0 : Int) * L.cmp (L.cross a b d) (0 : Int) < (0 : Int)) = Bool.true → L.bd c ∧ L.bd d ∧ L.bd a) ∧ (Decidable.decide (L.cmp (L.cross a b c) (0 : Int) *
 L.cmp (L.cross a b d) (0 : Int) < (0 : Int)) = Bool.true → True) ∧ (Decidable.decide (L.cmp (L.cross a b c) (0 : Int) * L.cmp (L.cross a b d) (0 : Int) < (0 : Int)) = Bool.true → L.bd c ∧ L.bd d ∧ L.bd b) ∧ (Decidable.decide (L.cmp (L.cross a b c) (0 : Int) * L.cmp (L.cross a b d) (0 : Int) < (0 : Int)) = Bool.true → True) ∧ (Decidable.decide (L.cmp (L.cross a b c) (0 : Int) * L.cmp (L.cross a b
 d) (0 : Int) < (0 : Int)) = Bool.true → Go.SE.InK Go.IntKind.i64 (L.cmp (L.cross c d a) (0 : Int) * L.cmp (L.cross c d b) (0 : Int))) ∧ ((bif Decidable.decide (L.cmp (L.cross a b c) (0 : Int) * L.cmp (L.cross a b d) (0 : Int) < (0 : Int)) then Decidable.decide (L.cmp (L.cross c d a) (0 : Int) * L.cmp (L.cross c d b) (0 : Int) < (0 : Int)) else Bool.false) = Bool.true → (2 : Int) = L.meet a b c d)
 ∧ ((bif Decidable.decide (L.cmp (L.cross a b c) (0 : Int) * L.cmp (L.cross a b d) (0 : Int) < (0 : Int)) then Decidable.decide (L.cmp (L.cross c d a) (0 : Int) * L.cmp (L.cross c d b) (0 : Int) < (0 : Int)) else Bool.false) = Bool.false → (0 : Int) = L.meet a b c d))))) (by kernel_rfl) (by
    obtain ⟨ha, hb, hc, hd⟩ := hp
    have hp4 : ∀ i, L.bd (L.pick4 a b c d i) := fun i => by
      unfold L.pick4
      cases decide (i = 0) <;> cases decide (i = 1) <;> cases decide (i = 2) <;> assumption
    refine ⟨⟨(0 : Nat), ⟨rfl, fun i hi => by match i, hi with | 0, _ => rfl | 1, _ => rfl | 2, _ => rfl | 3, _ => rfl⟩, rfl, ⟨rfl, fun i hi => absurd hi (Nat.not_lt_zero _)⟩, by decide⟩, fun g hg => ⟨fun hlt => ?_, fun hge => ?_⟩⟩
    · have hb1 : (g : Int) < 4 := of_decide_eq_true hlt
      have e0 : ((g : Int)).toNat = g := by omega
      rw [e0]
      refine ⟨⟨by omega, hb1⟩, ⟨ha, hb, hp4 g⟩, fun _ => ⟨by omega, hb1⟩, fun _ => ⟨hc, hd, hp4 g⟩, fun h1 => ?_, fun h1 => ?_⟩
      · have hoff : L.onB a b c d (L.pick4 a b c d g) = false := by
          unfold L.onB
          revert h1
          cases L.on a b (L.pick4 a b c d g) <;> cases L.on c d (L.pick4 a b c d g) <;> intro h1 <;> first | rfl | cases h1
        have e : L.cm a b c d (g + 1) = L.cm a b c d g := by rw [L.cm, hoff]; rfl
        refine ⟨InK.of (by omega) (by omega), g + 1, ⟨rfl, fun _ _ => rfl⟩, by omega, rfl, rfl, rfl, rfl, ?_, by omega, by omega⟩
        rw [e]; exact ⟨rfl, fun _ _ => rfl⟩
      · have hon : L.onB a b c d (L.pick4 a b c d g) = true := by
          unfold L.onB
          revert h1
          cases L.on a b (L.pick4 a b c d g) <;> cases L.on c d (L.pick4 a b c d g) <;> intro h1 <;> first | rfl | cases h1
        refine ⟨⟨(g, 0), rfl, rfl, ⟨rfl, fun _ _ => rfl⟩, rfl, by show g < 4; omega, Nat.zero_le _⟩, ?_⟩
        rintro ⟨g', k⟩ ⟨e1, e2, e3⟩
        have e1 : (g : Int) = (g' : Int) := e1
        obtain rfl : g = g' := by omega
        have e3 : k ≤ (L.cm a b c d g).n := e3
        have ek : ((k : Int)).toNat = k := by omega
        have hcn := cm_n (a := a) (b := b) (c := c) (d := d) (i := g)
        dsimp only
        rw [ek]
        refine ⟨fun hlt2 => ?_, fun hge2 => ?_⟩
        · have hk : (k : Int) < ((L.cm a b c d g).n : Int) := of_decide_eq_true hlt2
          refine ⟨fun _ => ⟨by omega, hk⟩, fun _ => (show k < (L.cm a b c d g).n by omega), fun _ => ⟨by omega, hb1⟩, InK.of (by omega) (by omega), (g, k + 1), ?_, by show (k : Int) + 1 = ((k + 1 : Nat) : Int); omega, ⟨rfl, fun _ _ => rfl⟩, rfl, rfl, rfl, rfl, rfl, ⟨rfl, fun _ _ => rfl⟩, ⟨rfl, by show g < 4; omega, by show k + 1 ≤ (L.cm a b c d g).n; omega⟩, by show (L.cm a b c d g).n - (k + 1) < (L.cm a b c d g).n - k; omega⟩
          rw [bor]; rfl
        · have hk : ¬ (k : Int) < ((L.cm a b c d g).n : Int) := of_decide_eq_false hge2
          obtain rfl : k = (L.cm a b c d g).n := by omega
          have hhas : L.anyB (L.cm a b c d g).n (fun j => L.same ((L.cm a b c d g).g j) (L.pick4 a b c d g)) = L.has (L.cm a b c d g) (L.pick4 a b c d g) :=
            anyB_congr (fun i _ => same_sym _ _)
          rw [hhas]
          refine ⟨fun h2 => ?_, fun h2 => ?_⟩
          · have e : L.cm a b c d (g + 1) = ⟨(L.cm a b c d g).n + 1, fun i => if i < (L.cm a b c d g).n then (L.cm a b c d g).g i else L.pick4 a b c d g⟩ := by
              rw [L.cm, hon]
              show L.put _ _ = _
              unfold L.put; rw [notT h2]; rfl
            refine ⟨⟨by omega, hb1⟩, show ((L.cm a b c d g).n + 1) * 16 ≤ 140737488355328 by omega, InK.of (by omega) (by omega), g + 1, ⟨rfl, fun _ _ => rfl⟩, by omega, rfl, rfl, rfl, rfl, ?_, by omega, by omega⟩
            rw [e]
            refine ⟨rfl, fun i hi => ?_⟩
            unfold appGet
            dsimp only
            by_cases h' : i < (L.cm a b c d g).n
            · rw [if_pos h', if_pos h']
            · rw [if_neg h', if_neg h']
          · have e : L.cm a b c d (g + 1) = L.cm a b c d g := by
              rw [L.cm, hon]
              show L.put _ _ = _
              unfold L.put; rw [notF h2]; rfl
            refine ⟨InK.of (by omega) (by omega), g + 1, ⟨rfl, fun _ _ => rfl⟩, by omega, rfl, rfl, rfl, rfl, ?_, by omega, by omega⟩
            rw [e]; exact ⟨rfl, fun _ _ => rfl⟩
    · have hb1 : ¬ (g : Int) < 4 := of_decide_eq_false hge
      obtain rfl : g = 4 := by omega
      rw [cm_eq]
      have q1 := cmp_bd (L.cross a b c) 0
      have q2 := cmp_bd (L.cross a b d) 0
      have q3 := cmp_bd (L.cross c d a) 0
      have q4 := cmp_bd (L.cross c d b) 0
      have m1 := mul_bd (m := 1) (n := 1) q1.1 q1.2 q2.1 q2.2
      have m2 := mul_bd (m := 1) (n := 1) q3.1 q3.2 q4.1 q4.2
      refine ⟨fun h1 => ?_, fun h1 => ⟨fun h2 => ?_, fun h2 => ⟨⟨ha, hb, hc⟩, trivial, ⟨ha, hb, hd⟩, trivial, InK.of (by omega) (by omega), fun _ => ⟨hc, hd, ha⟩, fun _ => trivial, fun _ => ⟨hc, hd, hb⟩, fun _ => trivial, fun _ => InK.of (by omega) (by omega), fun h3 => ?_, fun h3 => ?_⟩⟩⟩
      · unfold L.meet; rw [h1]; rfl
      · unfold L.meet; rw [h1, h2]; rfl
      · have h3 : (bif L.apart a b c d then L.apart c d a b else false) = true := h3
        unfold L.meet; rw [h1, h2, h3]; rfl
      · have h3 : (bif L.apart a b c d then L.apart c d a b else false) = false := h3
        unfold L.meet; rw [h1, h2, h3]; rfl)
theorem r1_meet_ok : SpecOk Tryz.prog 111 r1_meet_S := fnX Tryz.func111 (c := bodyOf Tryz.f111) (by kernel_rfl) mixed (fun args p r hs hp => by
  unfold r1_meet_s at hs
  split at hs
  · cases hs; exact ⟨_, _, r1_meet_vc _ _ _ _ hp, (.same _ (.same _ (.same _ (.same _ .nil)))), ⟨show SpecsL Tryz.prog _ from (SpecsL.cons r1_On_ok r1_On_en (SpecsL.cons r1_Cross_ok r1_Cross_en (SpecsL.cons r1_sign_ok r1_sign_en SpecsL.nil))), rfl, ⟨show ItersL Tryz.prog _ from ItersL.nil, (TrsOk.none (fun _ => rfl))⟩⟩⟩
  · cases hs)
theorem r1_meet_en : Enters Tryz.prog 111 := fun args w => by kernel_rfl
theorem r1_meet_I : ∀ args p r, r1_meet_s args = some (p, r) → ∃ n, r = .int .i64 n := by
  intro args p r h
  unfold r1_meet_s at h
  split at h
  · cases h; exact ⟨_, rfl⟩
  · cases h
def r1_simple_p (l : (L.Sq L.Pt)) : Prop := L.allBd l
def r1_simple_r (l : (L.Sq L.Pt)) : SV := .bool (L.simple l)
def r1_simple_s : List EV → Option (Prop × SV)
  | [.p (.sl 2 l_n l_g)] => some ((∀ i, i < l_n → l_g i = [.int .i64 ((ofPt (l_g i)).x), .int .i64 ((ofPt (l_g i)).y)]) ∧ r1_simple_p (⟨l_n, fun i => ofPt (l_g i)⟩ : (L.Sq L.Pt)), r1_simple_r (⟨l_n, fun i => ofPt (l_g i)⟩ : (L.Sq L.Pt)))
  | _ => none
abbrev r1_simple_S : SE.Spec := (specO r1_simple_s)
def r1_simple_C : Cfg := { muts := [], frz := lookN [], specs := lookS [(65, r1_at_S), (111, r1_meet_S)], loops := fun _ => none, iters := lookI [], rfs := lookR [], nils := lookM [] }
theorem r1_simple_vc (l : (L.Sq L.Pt)) (hp : r1_simple_p l) : vc Tryz.prog ({ r1_simple_C with loops := lookL [(3, { T := Nat, keep := [0, 3], keepO := [], chg := fun i => [(4, .p (.int .i64 (i : Int)))], own := fun _ => [], inv := fun i => i ≤ l.n ∧ ∀ j, j < i → ∀ k, j < k → k < l.n → L.okPair l j k = true, mu := fun i => l.n - i }), (6, { T := Nat × Nat, keep := [0, 3, 4], keepO := [], tie := fun i => [(4, .int .i64 (i.1 : Int))], chg := fun i => [(5, .p (.int .i64 (i.2 : Int)))], own := fun _ => [], inv := fun i => i.1 < i.2 ∧ i.2 ≤ l.n ∧ (∀ j, j < i.1 → ∀ k, j < k → k < l.n → L.okPair l j k = true) ∧ ∀ k, i.1 < k → k < i.2 → L.okPair l i.1 k = true, mu := fun i => l.n - i.2 })], rfs := lookR [] }) (bodyOf Tryz.f61) (st0 Tryz.f61 [.p (.sl 2 l.n (fun i => [.int .i64 ((l.g i).x), .int .i64 ((l.g i).y)]))]) (retFn Tryz.prog Tryz.f61 (r1_simple_r l)) :=
  @Eq.mpr _ ((∃ (g : Nat), (0 : Int) = (↑g : Int) ∧ g ≤ l.n ∧ ∀ (j : Nat), j < g → ∀ (k : Nat), j < k → k < l.n → L.okPair l j k = Bool.true) ∧ ∀ (g : Nat), (g ≤ l.n ∧ ∀ (j : Nat), j < g → ∀ (k : Nat), j < k → k < l.n → L.okPair l j k = Bool.true) → (Decidable.decide ((↑g : Int) < (↑l.n : Int)) = Bool.true → Go.SE.InK Go.IntKind.i64 ((↑g : Int) + (1 : Int)) ∧ (∃ (g_1 : Nat × Nat), (↑g : Int) + (1 : Int) =
 (↑g_1.2 : Int) ∧ (↑g : Int) = (↑g_1.1 : Int) ∧ g_1.1 < g_1.2 ∧ g_1.2 ≤ l.n ∧ (∀ (j : Nat), j < g_1.1 → ∀ (k : Nat), j < k → k < l.n → L.okPair l j k = Bool.true) ∧ ∀ (k : Nat), g_1.1 < k → k < g_1.2 → L.okPair l g_1.1 k = Bool.true) ∧ ∀ (g_1 : Nat × Nat), ((↑g : Int) = (↑g_1.1 : Int) ∧ g_1.1 < g_1.2 ∧ g_1.2 ≤ l.n ∧ (∀ (j : Nat), j < g_1.1 → ∀ (k : Nat), j < k → k < l.n → L.okPair l j k =
 Bool.true) ∧ ∀ (k : Nat), g_1.1 < k → k < g_1.2 → L.okPair l g_1.1 k = Bool.true) → (Decidable.decide ((↑g_1.2 : Int) < (↑l.n : Int)) = Bool.true → ((∀ (i : Nat), i < l.n → [Go.SE.SV.int Go.IntKind.i64 (l.g i).x, Go.SE.SV.int Go.IntKind.i64 (l.g i).y] = [Go.SE.SV.int Go.IntKind.i64 (l.g i).x, Go.SE.SV.int Go.IntKind.i64 (l.g i).y]) ∧ (1 : Nat) ≤ l.n ∧ l.n ≤ (1000000 : Nat) ∧ (-1000000 : Int) ≤ (↑g
 : Int) ∧ (↑g : Int) ≤ (1000000 : Int)) ∧ Go.SE.InK Go.IntKind.i64 ((↑g : Int) + (1 : Int)) ∧ ((∀ (i : Nat), i < l.n → [Go.SE.SV.int Go.IntKind.i64 (l.g i).x, Go.SE.SV.int Go.IntKind.i64 (l.g i).y] = [Go.SE.SV.int Go.IntKind.i64 (l.g i).x, Go.SE.SV.int Go.IntKind.i64 (l.g i).y]) ∧ (1 : Nat) ≤ l.n ∧ l.n ≤ (1000000 : Nat) ∧ (-1000000 : Int) ≤ (↑g : Int) + (1 : Int) ∧ (↑g : Int) + (1 : Int) ≤ (1000000
 : Int)) ∧ ((∀ (i : Nat), i < l.n → [Go.SE.SV.int Go.IntKind.i64 (l.g i).x, Go.SE.SV.int Go.IntKind.i64 (l.g i).y] = [Go.SE.SV.int Go.IntKind.i64 (l.g i).x, Go.SE.SV.int Go.IntKind.i64 (l.g i).y]) ∧ (1 : Nat) ≤ l.n ∧ l.n ≤ (1000000 : Nat) ∧ (-1000000 : Int) ≤ (↑g_1.2 : Int) ∧ (↑g_1.2 : Int) ≤ (1000000 : Int)) ∧ Go.SE.InK Go.IntKind.i64 ((↑g_1.2 : Int) + (1 : Int)) ∧ ((∀ (i : Nat), i < l.n →
 [Go.SE.SV.int Go.IntKind.i64 (l.g i).x, Go.SE.SV.int Go.IntKind.i64 (l.g i).y] = [Go.SE.SV.int Go.IntKind.i64 (l.g i).x, Go.SE.SV.int Go.IntKind.i64 (l.g i).y]) ∧ (1 : Nat) ≤ l.n ∧ l.n ≤ (1000000 : Nat) ∧ (-1000000 : Int) ≤ (↑g_1.2 : Int) + (1 : Int) ∧ (↑g_1.2 : Int) + (1 : Int) ≤ (1000000 : Int)) ∧ (L.bd (l.g (L.ix l.n (↑g : Int))) ∧ L.bd (l.g (L.ix l.n ((↑g : Int) + (1 : Int)))) ∧ L.bd (l.g
 (L.ix l.n (↑g_1.2 : Int))) ∧ L.bd (l.g (L.ix l.n ((↑g_1.2 : Int) + (1 : Int))))) ∧ Go.SE.InK Go.IntKind.i64 ((↑g : Int) + (1 : Int)) ∧ ((!Decidable.decide ((↑g_1.2 : Int) = (↑g : Int) + (1 : Int)) && Decidable.decide ((↑g : Int) = (0 : Int))) = Bool.true → Go.SE.InK Go.IntKind.i64 ((↑l.n : Int) - (1 : Int))) ∧ ((bif bif bif Decidable.decide ((↑g_1.2 : Int) = (↑g : Int) + (1 : Int)) then Bool.true
 else bif Decidable.decide ((↑g : Int) = (0 : Int)) then Decidable.decide ((↑g_1.2 : Int) = (↑l.n : Int) - (1 : Int)) else Bool.false then !Decidable.decide (L.meet (l.g (L.ix l.n (↑g : Int))) (l.g (L.ix l.n ((↑g : Int) + (1 : Int)))) (l.g (L.ix l.n (↑g_1.2 : Int))) (l.g (L.ix l.n ((↑g_1.2 : Int) + (1 : Int)))) = (1 : Int)) else Bool.false then Bool.true else bif !bif Decidable.decide ((↑g_1.2 :
 Int) = (↑g : Int) + (1 : Int)) then Bool.true else bif Decidable.decide ((↑g : Int) = (0 : Int)) then Decidable.decide ((↑g_1.2 : Int) = (↑l.n : Int) - (1 : Int)) else Bool.false then !Decidable.decide (L.meet (l.g (L.ix l.n (↑g : Int))) (l.g (L.ix l.n ((↑g : Int) + (1 : Int)))) (l.g (L.ix l.n (↑g_1.2 : Int))) (l.g (L.ix l.n ((↑g_1.2 : Int) + (1 : Int)))) = (0 : Int)) else Bool.false) = Bool.true
 → Bool.false = L.simple l) ∧ ((bif bif bif Decidable.decide ((↑g_1.2 : Int) = (↑g : Int) + (1 : Int)) then Bool.true else bif Decidable.decide ((↑g : Int) = (0 : Int)) then Decidable.decide ((↑g_1.2 : Int) = (↑l.n : Int) - (1 : Int)) else Bool.false then !Decidable.decide (L.meet (l.g (L.ix l.n (↑g : Int))) (l.g (L.ix l.n ((↑g : Int) + (1 : Int)))) (l.g (L.ix l.n (↑g_1.2 : Int))) (l.g (L.ix l.n
 ((↑g_1.2 : Int) + (1 : Int)))) = (1 : Int)) else Bool.false then Bool.true else bif !bif Decidable.decide ((↑g_1.2 : Int) = (↑g : Int) + (1 : Int)) then Bool.true else bif Decidable.decide ((↑g : Int) = (0 : Int)) then Decidable.decide ((↑g_1.2 : Int) = (↑l.n : Int) - (1 : Int)) else Bool.false then !Decidable.decide (L.meet (l.g (L.ix l.n (↑g : Int))) (l.g (L.ix l.n ((↑g : Int) + (1 : Int))))
 (l.g (L.ix l.n (↑g_1.2 : Int))) (l.g (L.ix l.n ((↑g_1.2 : Int) + (1 : Int)))) = (0 : Int)) else Bool.false) = Bool.false → Go.SE.InK Go.IntKind.i64 ((↑g_1.2 : Int) + (1 : Int)) ∧ ∃ (g' : Nat × Nat), (↑g_1.2 : Int) + (1 : Int) = (↑g'.2 : Int) ∧ (↑g : Int) = (↑g : Int) ∧ (↑l.n : Int) = (↑l.n : Int) ∧ (l.n = l.n ∧ ∀ (i : Nat), i < l.n → [Go.SE.SV.int Go.IntKind.i64 (l.g i).x, Go.SE.SV.int
 Go.IntKind.i64 (l.g i).y] = [Go.SE.SV.int Go.IntKind.i64 (l.g i).x, Go.SE.SV.int Go.IntKind.i64 (l.g i).y]) ∧ ((↑g : Int) = (↑g'.1 : Int) ∧ g'.1 < g'.2 ∧ g'.2 ≤ l.n ∧ (∀ (j : Nat), j < g'.1 → ∀ (k : Nat), j < k → k < l.n → L.okPair l j k = Bool.true) ∧ ∀ (k : Nat), g'.1 < k → k < g'.2 → L.okPair l g'.1 k = Bool.true) ∧ l.n - g'.2 < l.n - g_1.2)) ∧ (Decidable.decide ((↑g_1.2 : Int) < (↑l.n : Int))
 = Bool.false → Go.SE.InK Go.IntKind.i64 ((↑g : Int) + (1 : Int)) ∧ ∃ (g' : Nat), (↑g : Int) + (1 : Int) = (↑g' : Int) ∧ (↑l.n : Int) = (↑l.n : Int) ∧ (l.n = l.n ∧ ∀ (i : Nat), i < l.n → [Go.SE.SV.int Go.IntKind.i64 (l.g i).x, Go.SE.SV.int Go.IntKind.i64 (l.g i).y] = [Go.SE.SV.int Go.IntKind.i64 (l.g i).x, Go.SE.SV.int Go.IntKind.i64 (l.g i).y]) ∧ (g' ≤ l.n ∧ ∀ (j : Nat), j < g' → ∀ (k : Nat), j <
 k → k < l.n → L.okPair l j k = Bool.true) ∧ l.n - g' < l.n - g)) ∧ (Decidable.decide ((↑g : Int) < (↑l.n : Int)) = Bool.false → Bool.true = L.simple l)) (by kernel_rfl) (by
    obtain ⟨hn, hb⟩ := hp
    have fin0 : ∀ {i k : Nat}, i < k → k < l.n → L.okPair l i k = false → false = L.simple l := fun {i k} hik hk h => by
      unfold L.simple
      rw [allB_false (i := i) (by omega) (allB_false (i := k) hk (by simp [hik, h]))]
    refine ⟨⟨(0 : Nat), rfl, Nat.zero_le _, fun j hj => absurd hj (Nat.not_lt_zero _)⟩, fun g hg => ⟨fun hlt => ?_, fun hge => ?_⟩⟩
    · have hb1 : (g : Int) < (l.n : Int) := of_decide_eq_true hlt
      refine ⟨InK.of (by omega) (by omega), ⟨(g, g + 1), by show (g : Int) + 1 = ((g + 1 : Nat) : Int); omega, rfl, Nat.lt_succ_self g, by show g + 1 ≤ l.n; omega, hg.2, fun k h1 h2 => ?_⟩, ?_⟩
      · have h1 : g < k := h1
        have h2 : k < g + 1 := h2
        omega
      rintro ⟨i, k⟩ ⟨e1, hik, hkn, h0, h1⟩
      have e1 : (g : Int) = (i : Int) := e1
      obtain rfl : g = i := by omega
      have hik : g < k := hik
      have hkn : k ≤ l.n := hkn
      have h0 : ∀ j, j < g → ∀ k, j < k → k < l.n → L.okPair l j k = true := h0
      have h1 : ∀ m, g < m → m < k → L.okPair l g m = true := h1
      dsimp only
      refine ⟨fun hlt2 => ?_, fun hge2 => ?_⟩
      · have hk : (k : Int) < (l.n : Int) := of_decide_eq_true hlt2
        have c5 : L.next l.n k < l.n := next_lt (by omega)
        have c2 : L.ix l.n ((g : Int) + 1) = g + 1 := by
          rw [show (g : Int) + 1 = ((g + 1 : Nat) : Int) by omega, ix_self (by omega)]
        rw [ix_self (n := l.n) (k := g) (by omega), c2, ix_self (n := l.n) (k := k) (by omega), ix_next (n := l.n) (k := k) (by omega)]
        have key : (bif (bif (bif decide ((k : Int) = (g : Int) + 1) then true else bif decide ((g : Int) = 0) then decide ((k : Int) = (l.n : Int) - 1) else false) then !decide (L.meet (l.g g) (l.g (g + 1)) (l.g k) (l.g (L.next l.n k)) = 1) else false) then true else bif !(bif decide ((k : Int) = (g : Int) + 1) then true else bif decide ((g : Int) = 0) then decide ((k : Int) = (l.n : Int) - 1) else false) then !decide (L.meet (l.g g) (l.g (g + 1)) (l.g k) (l.g (L.next l.n k)) = 0) else false) = !L.okPair l g k := by
          unfold L.okPair L.nxt L.how
          generalize (bif decide ((k : Int) = (g : Int) + 1) then true else bif decide ((g : Int) = 0) then decide ((k : Int) = (l.n : Int) - 1) else false) = q
          generalize decide (L.meet (l.g g) (l.g (g + 1)) (l.g k) (l.g (L.next l.n k)) = 1) = q1
          generalize decide (L.meet (l.g g) (l.g (g + 1)) (l.g k) (l.g (L.next l.n k)) = 0) = q2
          cases q <;> cases q1 <;> cases q2 <;> rfl
        rw [key]
        refine ⟨⟨fun _ _ => rfl, by omega, by omega, by omega, by omega⟩, InK.of (by omega) (by omega), ⟨fun _ _ => rfl, by omega, by omega, by omega, by omega⟩, ⟨fun _ _ => rfl, by omega, by omega, by omega, by omega⟩, InK.of (by omega) (by omega), ⟨fun _ _ => rfl, by omega, by omega, by omega, by omega⟩, ⟨hb g (by omega), hb (g + 1) (by omega), hb k (by omega), hb _ c5⟩, InK.of (by omega) (by omega), fun _ => InK.of (by omega) (by omega), fun h => fin0 hik (by omega) (notT h), fun h => ?_⟩
        have hok : L.okPair l g k = true := notF h
        refine ⟨InK.of (by omega) (by omega), (g, k + 1), by show (k : Int) + 1 = ((k + 1 : Nat) : Int); omega, rfl, rfl, ⟨rfl, fun _ _ => rfl⟩, ⟨rfl, by show g < k + 1; omega, by show k + 1 ≤ l.n; omega, h0, fun m hm1 hm2 => ?_⟩, by show l.n - (k + 1) < l.n - k; omega⟩
        have hm1 : g < m := hm1
        have hm2 : m < k + 1 := hm2
        show L.okPair l g m = true
        rcases Nat.lt_succ_iff_lt_or_eq.1 hm2 with h' | rfl
        · exact h1 m hm1 h'
        · exact hok
      · have hk : ¬ (k : Int) < (l.n : Int) := of_decide_eq_false hge2
        refine ⟨InK.of (by omega) (by omega), g + 1, by omega, rfl, ⟨rfl, fun _ _ => rfl⟩, ⟨by omega, fun j hj m hm1 hm2 => ?_⟩, by omega⟩
        rcases Nat.lt_succ_iff_lt_or_eq.1 hj with h' | rfl
        · exact h0 j h' m hm1 hm2
        · exact h1 m hm1 (by omega)
    · have hb1 : ¬ (g : Int) < (l.n : Int) := of_decide_eq_false hge
      unfold L.simple
      rw [allB_iff.2 (fun i hi => allB_iff.2 (fun k hk => ?_))]
      by_cases hik : i < k
      · simp [hik, hg.2 i (by omega) k hik hk]
      · simp [hik])
theorem r1_simple_ok : SpecOk Tryz.prog 61 r1_simple_S := fnX Tryz.func61 (c := bodyOf Tryz.f61) (by kernel_rfl) mixed (fun args p r hs hp => by
  unfold r1_simple_s at hs
  split at hs
  · cases hs; exact ⟨_, _, r1_simple_vc _ hp.2, (.p (.sl hp.1) .nil), ⟨show SpecsL Tryz.prog _ from (SpecsL.cons r1_at_ok r1_at_en (SpecsL.cons r1_meet_ok r1_meet_en SpecsL.nil)), rfl, ⟨show ItersL Tryz.prog _ from ItersL.nil, (TrsOk.none (fun _ => rfl))⟩⟩⟩
  · cases hs)
theorem r1_simple_en : Enters Tryz.prog 61 := fun args w => by kernel_rfl
theorem r1_simple_B : ∀ args p r, r1_simple_s args = some (p, r) → ∃ b, r = .bool b := by
  intro args p r h
  unfold r1_simple_s at h
  split at h
  · cases h; exact ⟨_, rfl⟩
  · cases h
def r1_ValidOutline_p (l : (L.Sq L.Pt)) : Prop := True
def r1_ValidOutline_r (l : (L.Sq L.Pt)) : SV := .bool (L.validOutline l)
def r1_ValidOutline_s : List EV → Option (Prop × SV)
  | [.p (.sl 2 l_n l_g)] => some ((∀ i, i < l_n → l_g i = [.int .i64 ((ofPt (l_g i)).x), .int .i64 ((ofPt (l_g i)).y)]) ∧ r1_ValidOutline_p (⟨l_n, fun i => ofPt (l_g i)⟩ : (L.Sq L.Pt)), r1_ValidOutline_r (⟨l_n, fun i => ofPt (l_g i)⟩ : (L.Sq L.Pt)))
  | _ => none
abbrev r1_ValidOutline_S : SE.Spec := (specO r1_ValidOutline_s)
def r1_ValidOutline_C : Cfg := { muts := [], frz := lookN [], specs := lookS [(60, r1_points_S), (61, r1_simple_S), (62, r1_sum_S), (63, r1_less_S), (65, r1_at_S), (64, r1_Cross_S)], loops := fun _ => none, iters := lookI [], rfs := lookR [], nils := lookM [] }
theorem r1_ValidOutline_vc (l : (L.Sq L.Pt)) (hp : r1_ValidOutline_p l) : vc Tryz.prog ({ r1_ValidOutline_C with loops := lookL [(4, { T := Nat, keep := [0], keepO := [], chg := fun i => [(3, .p (.int .i64 (i : Int)))], own := fun _ => [], inv := fun i => i ≤ l.n ∧ ∀ j, j < i → L.corner l j = true, mu := fun i => l.n - i })], rfs := lookR [] }) (bodyOf Tryz.f20) (st0 Tryz.f20 [.p (.sl 2 l.n (fun i => [.int .i64 ((l.g i).x), .int .i64 ((l.g i).y)]))]) (retFn Tryz.prog Tryz.f20 (r1_ValidOutline_r l)) :=
  @Eq.mpr _ (((!bif Decidable.decide ((↑l.n : Int) < (3 : Int)) then Bool.true else Decidable.decide ((24 : Int) < (↑l.n : Int))) = Bool.true → (∀ (i : Nat), i < l.n → [Go.SE.SV.int Go.IntKind.i64 (l.g i).x, Go.SE.SV.int Go.IntKind.i64 (l.g i).y] = [Go.SE.SV.int Go.IntKind.i64 (l.g i).x, Go.SE.SV.int Go.IntKind.i64 (l.g i).y]) ∧ l.n ≤ (1000000 : Nat)) ∧ ((!bif bif Decidable.decide ((↑l.n : Int) < (3 : Int))
 then Bool.true else Decidable.decide ((24 : Int) < (↑l.n : Int)) then Bool.true else !L.validPts (L.Sq.mk l.n fun (i : Nat) ↦ l.g i)) = Bool.true → (∀ (i : Nat), i < l.n → [Go.SE.SV.int Go.IntKind.i64 (l.g i).x, Go.SE.SV.int Go.IntKind.i64 (l.g i).y] = [Go.SE.SV.int Go.IntKind.i64 (l.g i).x, Go.SE.SV.int Go.IntKind.i64 (l.g i).y]) ∧ L.allBd (L.Sq.mk l.n fun (i : Nat) ↦ l.g i)) ∧ ((!bif bif bif
 Decidable.decide ((↑l.n : Int) < (3 : Int)) then Bool.true else Decidable.decide ((24 : Int) < (↑l.n : Int)) then Bool.true else !L.validPts (L.Sq.mk l.n fun (i : Nat) ↦ l.g i) then Bool.true else !L.simple (L.Sq.mk l.n fun (i : Nat) ↦ l.g i)) = Bool.true → (∀ (i : Nat), i < l.n → [Go.SE.SV.int Go.IntKind.i64 (l.g i).x, Go.SE.SV.int Go.IntKind.i64 (l.g i).y] = [Go.SE.SV.int Go.IntKind.i64 (l.g
 i).x, Go.SE.SV.int Go.IntKind.i64 (l.g i).y]) ∧ L.small (L.Sq.mk l.n fun (i : Nat) ↦ l.g i)) ∧ ((bif bif bif bif Decidable.decide ((↑l.n : Int) < (3 : Int)) then Bool.true else Decidable.decide ((24 : Int) < (↑l.n : Int)) then Bool.true else !L.validPts (L.Sq.mk l.n fun (i : Nat) ↦ l.g i) then Bool.true else !L.simple (L.Sq.mk l.n fun (i : Nat) ↦ l.g i) then Bool.true else Decidable.decide
 (L.areaTo (L.Sq.mk l.n fun (i : Nat) ↦ l.g i) l.n ≤ (0 : Int))) = Bool.true → Bool.false = L.validOutline l) ∧ ((bif bif bif bif Decidable.decide ((↑l.n : Int) < (3 : Int)) then Bool.true else Decidable.decide ((24 : Int) < (↑l.n : Int)) then Bool.true else !L.validPts (L.Sq.mk l.n fun (i : Nat) ↦ l.g i) then Bool.true else !L.simple (L.Sq.mk l.n fun (i : Nat) ↦ l.g i) then Bool.true else
 Decidable.decide (L.areaTo (L.Sq.mk l.n fun (i : Nat) ↦ l.g i) l.n ≤ (0 : Int))) = Bool.false → (∃ (g : Nat), (0 : Int) = (↑g : Int) ∧ g ≤ l.n ∧ ∀ (j : Nat), j < g → L.corner l j = Bool.true) ∧ ∀ (g : Nat), (g ≤ l.n ∧ ∀ (j : Nat), j < g → L.corner l j = Bool.true) → (Decidable.decide ((↑g : Int) < (↑l.n : Int)) = Bool.true → (Decidable.decide ((0 : Int) < (↑g : Int)) = Bool.true → (0 : Int) ≤ (0 :
 Int) ∧ (0 : Int) < (↑l.n : Int)) ∧ (Decidable.decide ((0 : Int) < (↑g : Int)) = Bool.true → (0 : Int) ≤ (↑g : Int) ∧ (↑g : Int) < (↑l.n : Int)) ∧ (Decidable.decide ((0 : Int) < (↑g : Int)) = Bool.true → True) ∧ ((!bif Decidable.decide ((0 : Int) < (↑g : Int)) then !Decidable.decide (L.cmpPt (l.g (Int.toNat (0 : Int))) (l.g (Int.toNat (↑g : Int))) < (0 : Int)) else Bool.false) = Bool.true →
 Go.SE.InK Go.IntKind.i64 ((↑g : Int) - (1 : Int))) ∧ ((!bif Decidable.decide ((0 : Int) < (↑g : Int)) then !Decidable.decide (L.cmpPt (l.g (Int.toNat (0 : Int))) (l.g (Int.toNat (↑g : Int))) < (0 : Int)) else Bool.false) = Bool.true → (∀ (i : Nat), i < l.n → [Go.SE.SV.int Go.IntKind.i64 (l.g i).x, Go.SE.SV.int Go.IntKind.i64 (l.g i).y] = [Go.SE.SV.int Go.IntKind.i64 (l.g i).x, Go.SE.SV.int
 Go.IntKind.i64 (l.g i).y]) ∧ (1 : Nat) ≤ l.n ∧ l.n ≤ (1000000 : Nat) ∧ (-1000000 : Int) ≤ (↑g : Int) - (1 : Int) ∧ (↑g : Int) - (1 : Int) ≤ (1000000 : Int)) ∧ ((!bif Decidable.decide ((0 : Int) < (↑g : Int)) then !Decidable.decide (L.cmpPt (l.g (Int.toNat (0 : Int))) (l.g (Int.toNat (↑g : Int))) < (0 : Int)) else Bool.false) = Bool.true → (0 : Int) ≤ (↑g : Int) ∧ (↑g : Int) < (↑l.n : Int)) ∧
 ((!bif Decidable.decide ((0 : Int) < (↑g : Int)) then !Decidable.decide (L.cmpPt (l.g (Int.toNat (0 : Int))) (l.g (Int.toNat (↑g : Int))) < (0 : Int)) else Bool.false) = Bool.true → Go.SE.InK Go.IntKind.i64 ((↑g : Int) + (1 : Int))) ∧ ((!bif Decidable.decide ((0 : Int) < (↑g : Int)) then !Decidable.decide (L.cmpPt (l.g (Int.toNat (0 : Int))) (l.g (Int.toNat (↑g : Int))) < (0 : Int)) else
 Bool.false) = Bool.true → (∀ (i : Nat), i < l.n → [Go.SE.SV.int Go.IntKind.i64 (l.g i).x, Go.SE.SV.int Go.IntKind.i64 (l.g i).y] = [Go.SE.SV.int Go.IntKind.i64 (l.g i).x, Go.SE.SV.int Go.IntKind.i64 (l.g i).y]) ∧ (1 : Nat) ≤ l.n ∧ l.n ≤ (1000000 : Nat) ∧ (-1000000 : Int) ≤ (↑g : Int) + (1 : Int) ∧ (↑g : Int) + (1 : Int) ≤ (1000000 : Int)) ∧ ((!bif Decidable.decide ((0 : Int) < (↑g : Int)) then
 !Decidable.decide (L.cmpPt (l.g (Int.toNat (0 : Int))) (l.g (Int.toNat (↑g : Int))) < (0 : Int)) else Bool.false) = Bool.true → L.bd (l.g (L.ix l.n ((↑g : Int) - (1 : Int)))) ∧ L.bd (l.g (Int.toNat (↑g : Int))) ∧ L.bd (l.g (L.ix l.n ((↑g : Int) + (1 : Int))))) ∧ ((bif bif Decidable.decide ((0 : Int) < (↑g : Int)) then !Decidable.decide (L.cmpPt (l.g (Int.toNat (0 : Int))) (l.g (Int.toNat (↑g :
 Int))) < (0 : Int)) else Bool.false then Bool.true else Decidable.decide (L.cross (l.g (L.ix l.n ((↑g : Int) - (1 : Int)))) (l.g (Int.toNat (↑g : Int))) (l.g (L.ix l.n ((↑g : Int) + (1 : Int)))) = (0 : Int))) = Bool.true → Bool.false = L.validOutline l) ∧ ((bif bif Decidable.decide ((0 : Int) < (↑g : Int)) then !Decidable.decide (L.cmpPt (l.g (Int.toNat (0 : Int))) (l.g (Int.toNat (↑g : Int))) <
 (0 : Int)) else Bool.false then Bool.true else Decidable.decide (L.cross (l.g (L.ix l.n ((↑g : Int) - (1 : Int)))) (l.g (Int.toNat (↑g : Int))) (l.g (L.ix l.n ((↑g : Int) + (1 : Int)))) = (0 : Int))) = Bool.false → Go.SE.InK Go.IntKind.i64 ((↑g : Int) + (1 : Int)) ∧ ∃ (g' : Nat), (↑g : Int) + (1 : Int) = (↑g' : Int) ∧ (l.n = l.n ∧ ∀ (i : Nat), i < l.n → [Go.SE.SV.int Go.IntKind.i64 (l.g i).x,
 Go.SE.SV.int Go.IntKind.i64 (l.g i).y] = [Go.SE.SV.int Go.IntKind.i64 (l.g i).x, Go.SE.SV.int Go.IntKind.i64 (l.g i).y]) ∧ (g' ≤ l.n ∧ ∀ (j : Nat), j < g' → L.corner l j = Bool.true) ∧ l.n - g' < l.n - g)) ∧ (Decidable.decide ((↑g : Int) < (↑l.n : Int)) = Bool.false → Bool.true = L.validOutline l))) (by kernel_rfl) (by
    have c1 : (bif decide ((l.n : Int) < 3) then true else decide (24 < (l.n : Int))) = !L.within (l.n : Int) 3 24 := by
      rw [bor, Bool.eq_iff_iff, Bool.or_eq_true, decide_eq_true_eq, decide_eq_true_eq, Bool.not_eq_true', Bool.eq_false_iff, Ne, within_iff]
      omega
    rw [c1]
    have sp : L.within (l.n : Int) 3 24 = true → L.validPts l = true → 3 ≤ l.n ∧ l.n ≤ 24 ∧ L.small l ∧ L.allBd l := valid3_spec
    refine ⟨fun h => ⟨fun _ _ => rfl, ?_⟩, fun h => ⟨fun _ _ => rfl, ?_⟩, fun h => ⟨fun _ _ => rfl, ?_⟩, fun h => ?_, fun h => ?_⟩
    · have := within_iff.1 (notF (notT h)); omega
    · have h := notT h
      rw [bor, Bool.or_eq_false_iff] at h
      exact (sp (notF h.1) (notF h.2)).2.2.2
    · have h := notT h
      rw [bor, bor, Bool.or_eq_false_iff, Bool.or_eq_false_iff] at h
      exact (sp (notF h.1.1) (notF h.1.2)).2.2.1
    · have h : (bif bif bif !L.within (l.n : Int) 3 24 then true else !L.validPts l then true else !L.simple l then true else decide (L.areaTo l l.n ≤ 0)) = true := h
      have e3 : L.valid3 l = false ∨ L.simple l = false := by
        rw [bor, bor, bor, Bool.or_eq_true, Bool.or_eq_true, Bool.or_eq_true] at h
        unfold L.valid3
        rcases h with ((h | h) | h) | h
        · rw [notT h]; exact .inl rfl
        · rw [notT h]; left; cases L.within (l.n : Int) 3 24 <;> rfl
        · exact .inr (notT h)
        · left
          have := of_decide_eq_true h
          rw [decide_eq_false (show ¬ 0 < L.areaTo l l.n by omega)]
          cases L.within (l.n : Int) 3 24 <;> cases L.validPts l <;> rfl
      unfold L.validOutline
      rcases e3 with e3 | e3 <;> rw [e3] <;> simp
    have h : (bif bif bif !L.within (l.n : Int) 3 24 then true else !L.validPts l then true else !L.simple l then true else decide (L.areaTo l l.n ≤ 0)) = false := h
    rw [bor, bor, bor, Bool.or_eq_false_iff, Bool.or_eq_false_iff, Bool.or_eq_false_iff] at h
    obtain ⟨⟨⟨h1, h2⟩, h3⟩, h4⟩ := h
    have h1 := notF h1
    have h2 := notF h2
    have h3 := notF h3
    have h4 := of_decide_eq_false h4
    obtain ⟨n3, n24, hsm, hbd⟩ := sp h1 h2
    have hv : L.valid3 l = true := by
      unfold L.valid3; rw [h1, h2, decide_eq_true (show 0 < L.areaTo l l.n by omega)]; rfl
    refine ⟨⟨(0 : Nat), rfl, Nat.zero_le _, fun j hj => absurd hj (Nat.not_lt_zero _)⟩, fun g hg => ⟨fun hlt => ?_, fun hge => ?_⟩⟩
    · have hb : (g : Int) < (l.n : Int) := of_decide_eq_true hlt
      have hk : g < l.n := by omega
      have e0 : ((g : Int)).toNat = g := by omega
      have key := corner_eq (l := l) (k := g)
      rw [e0, ix_prev hk, ix_next hk]
      refine ⟨fun _ => by omega, fun _ => by omega, fun _ => trivial, fun _ => InK.of (by omega) (by omega), fun _ => ⟨fun _ _ => rfl, by omega, by omega, by omega, by omega⟩, fun _ => by omega, fun _ => InK.of (by omega) (by omega), fun _ => ⟨fun _ _ => rfl, by omega, by omega, by omega, by omega⟩, fun _ => ⟨hbd.2 _ (prev_lt (by omega)), hbd.2 _ hk, hbd.2 _ (next_lt (by omega))⟩, fun h => ?_, fun h => ?_⟩
      · have h : L.corner l g = false := notT (key.symm.trans h)
        unfold L.validOutline
        rw [allB_false hk h]; simp
      · have h : L.corner l g = true := notF (key.symm.trans h)
        exact ⟨InK.of (by omega) (by omega), g + 1, by omega, ⟨rfl, fun _ _ => rfl⟩, ⟨by omega, fun j hj => by
          rcases Nat.lt_succ_iff_lt_or_eq.1 hj with h' | rfl
          · exact hg.2 j h'
          · exact h⟩, by omega⟩
    · have hb : ¬ (g : Int) < (l.n : Int) := of_decide_eq_false hge
      unfold L.validOutline
      rw [hv, allB_iff.2 (fun i hi => hg.2 i (by omega)), h3]; rfl)
theorem r1_ValidOutline_ok : SpecOk Tryz.prog 20 r1_ValidOutline_S := fnX Tryz.func20 (c := bodyOf Tryz.f20) (by kernel_rfl) mixed (fun args p r hs hp => by
  unfold r1_ValidOutline_s at hs
  split at hs
  · cases hs; exact ⟨_, _, r1_ValidOutline_vc _ hp.2, (.p (.sl hp.1) .nil), ⟨show SpecsL Tryz.prog _ from (SpecsL.cons r1_points_ok r1_points_en (SpecsL.cons r1_simple_ok r1_simple_en (SpecsL.cons r1_sum_ok r1_sum_en (SpecsL.cons r1_less_ok r1_less_en (SpecsL.cons r1_at_ok r1_at_en (SpecsL.cons r1_Cross_ok r1_Cross_en SpecsL.nil)))))), rfl, ⟨show ItersL Tryz.prog _ from ItersL.nil, (TrsOk.none (fun _ => rfl))⟩⟩⟩
  · cases hs)
theorem r1_ValidOutline_en : Enters Tryz.prog 20 := fun args w => by kernel_rfl
theorem r1_ValidOutline_B : ∀ args p r, r1_ValidOutline_s args = some (p, r) → ∃ b, r = .bool b := by
  intro args p r h
  unfold r1_ValidOutline_s at h
  split at h
  · cases h; exact ⟨_, rfl⟩
  · cases h
end Go.Proofs.YtkklpamllfkbaaaGreat

namespace Go.Proofs.YtkklpamllfkbaaaGreat
open Go.SE Go.RowKit
set_option maxRecDepth 100000
set_option maxHeartbeats 4000000
set_option linter.unusedVariables false
attribute [local irreducible] Go.SE.vc

theorem cor_ix {s : L.Setting} {n : Nat} (hn : 0 < n) (s0 : 0 ≤ s.shift) (a : Int) : L.cor s n ((L.ix n a : Nat) : Int) = ((L.ix n (L.es s a) : Nat) : Int) := by
  have hk := ix_lt (n := n) (i := a) hn
  have he := ix_emod (a := a) hn
  unfold L.cor L.es
  cases s.back with
  | false =>
    simp only [cond_false]
    rw [Int.tmod_eq_emod_of_nonneg (by omega), he, ix_emod hn, Int.add_emod_emod]
  | true =>
    simp only [cond_true]
    rw [Int.tmod_eq_emod_of_nonneg (by omega), he, ix_emod hn]
    rw [show s.shift + (n : Int) - a % (n : Int) + 1 = (s.shift + 1 - a % (n : Int)) + (n : Int) by omega, Int.add_emod_right, show s.shift - a + 1 = s.shift + 1 - a by omega]
    rw [Int.sub_emod, Int.emod_emod, ← Int.sub_emod]
theorem cmp_neg1 {x : Int} (h : x < 0) : L.cmp x 0 = -1 := by unfold L.cmp; rw [decide_eq_true h]; rfl
theorem cmp_pos1 {x : Int} (h : 0 < x) : L.cmp x 0 = 1 := by unfold L.cmp; rw [decide_eq_false (show ¬ x < 0 by omega), decide_eq_true h]; rfl
theorem cmp_sg {x y : Int} (hx : x ≠ 0) (hy : y ≠ 0) : decide (L.cmp x 0 = L.cmp y 0) = (decide (0 < x) == decide (0 < y)) := by
  rcases Int.lt_or_gt_of_ne hx with h1 | h1 <;> rcases Int.lt_or_gt_of_ne hy with h2 | h2
  · rw [cmp_neg1 h1, cmp_neg1 h2, decide_eq_false (show ¬ 0 < x by omega), decide_eq_false (show ¬ 0 < y by omega)]; rfl
  · rw [cmp_neg1 h1, cmp_pos1 h2, decide_eq_false (show ¬ 0 < x by omega), decide_eq_true h2]; rfl
  · rw [cmp_pos1 h1, cmp_neg1 h2, decide_eq_true h1, decide_eq_false (show ¬ 0 < y by omega)]; rfl
  · rw [cmp_pos1 h1, cmp_pos1 h2, decide_eq_true h1, decide_eq_true h2]; rfl
def L.rB (p q : L.Sq L.Pt) (s : L.Setting) (i : Nat) : Bool := decide (L.cmp (L.cross (p.g (L.ix p.n ((i : Int) - 1))) (p.g i) (p.g (L.ix p.n ((i : Int) + 1)))) 0 = L.cmp (L.cross (q.g (L.ix q.n (L.cor s (p.n : Int) (i : Int) - 1))) (q.g (L.cor s (p.n : Int) (i : Int)).toNat) (q.g (L.ix q.n (L.cor s (p.n : Int) (i : Int) + 1)))) 0)
def L.rcI (p q : L.Sq L.Pt) (s : L.Setting) (i : Nat) : Bool := L.rB p q s i && L.allB p.n (L.conD p q s i)
theorem rB_eq {p q : L.Sq L.Pt} {s : L.Setting} (hv : L.validOutline p = true) (hq : L.validOutline q = true) (hn : p.n = q.n) (s0 : 0 ≤ s.shift) {i : Nat} (hi : i < p.n) : L.rB p q s i = L.conB p q s i := by
  have hp : 0 < p.n := by omega
  have ei : L.ix p.n (i : Int) = i := ix_self hi
  have hb := conB_at hq hn hp s0 (i : Int)
  rw [ei] at hb
  rw [hb]
  have hc := cor_ix hp s0 (i : Int)
  rw [ei] at hc
  unfold L.rB
  rw [hc, Int.toNat_natCast, ← hn]
  have f1 : L.ix p.n (((L.ix p.n (L.es s (i : Int)) : Nat) : Int) - 1) = L.ix p.n (L.es s (i : Int) - 1) := by
    rw [show ((L.ix p.n (L.es s (i : Int)) : Nat) : Int) - 1 = ((L.ix p.n (L.es s (i : Int)) : Nat) : Int) + -1 by omega, ix_ix hp]; rfl
  have f2 : L.ix p.n (((L.ix p.n (L.es s (i : Int)) : Nat) : Int) + 1) = L.ix p.n (L.es s (i : Int) + 1) := ix_ix hp 1
  rw [f1, f2]
  have x1 := cross_ix hv (i : Int)
  have x2 := cross_ix hq (L.es s (i : Int))
  rw [ei] at x1
  rw [← hn] at x2
  rw [cmp_sg x1 x2]
  unfold L.bnd L.cy
  rw [ei, ← hn]
theorem rc_eq {p q : L.Sq L.Pt} {s : L.Setting} (hv : L.validOutline p = true) (hq : L.validOutline q = true) (hn : p.n = q.n) (s0 : 0 ≤ s.shift) : L.allB p.n (L.rcI p q s) = L.congr p q s := by
  rw [Bool.eq_iff_iff]
  constructor
  · intro h
    have h := allB_iff.1 h
    refine allB_iff.2 (fun i hi => ?_)
    have h1 := h i hi
    unfold L.rcI at h1
    rw [Bool.and_eq_true, rB_eq hv hq hn s0 hi] at h1
    unfold L.conI
    rw [Bool.and_eq_true]
    exact ⟨allB_iff.2 (fun k hk => allB_iff.1 h1.2 k (by omega)), h1.1⟩
  · intro h
    obtain ⟨h1, h2⟩ := congr_of h
    refine allB_iff.2 (fun i hi => ?_)
    unfold L.rcI
    rw [Bool.and_eq_true, rB_eq hv hq hn s0 hi]
    exact ⟨h2 i hi, allB_iff.2 (fun k hk => decide_eq_true (h1 i k hi hk))⟩
theorem conN_le {p q : L.Sq L.Pt} : L.conN p q ≤ 2 * p.n := by
  unfold L.conN
  cases decide (L.conE p q = 0) with
  | false => exact Nat.zero_le _
  | true =>
    cases decide ((p.n : Int) = q.n) with
    | false => exact Nat.zero_le _
    | true => exact cnt_le
def r1_Laid_p (s : L.Setting) (n : Int) (i : Int) : Prop := 1 ≤ n ∧ n ≤ 1000000 ∧ -1000000 ≤ s.shift ∧ s.shift ≤ 1000000 ∧ -1000000 ≤ i ∧ i ≤ 1000000
def r1_Laid_r (s : L.Setting) (n : Int) (i : Int) : SV := .int .i64 (L.lay s n i)
def r1_Laid_s : List EV → Option (Prop × SV)
  | [.p (.agg [.int .i64 s_shift, .bool s_back]), .p (.int .i64 n), .p (.int .i64 i)] => some (r1_Laid_p (⟨s_shift, s_back⟩ : L.Setting) n i, r1_Laid_r (⟨s_shift, s_back⟩ : L.Setting) n i)
  | _ => none
abbrev r1_Laid_S : SE.Spec := (specO r1_Laid_s)
def r1_Laid_C : Cfg := { muts := [], frz := lookN [], specs := lookS [], loops := lookL [], iters := lookI [], rfs := lookR [], nils := lookM [] }
theorem r1_Laid_vc (s : L.Setting) (n : Int) (i : Int) (hp : r1_Laid_p s n i) : vc Tryz.prog (r1_Laid_C) (bodyOf Tryz.f87) (st0 Tryz.f87 [.p (.agg [.int .i64 s.shift, .bool s.back]), .p (.int .i64 n), .p (.int .i64 i)]) (retFn Tryz.prog Tryz.f87 (r1_Laid_r s n i)) :=
  @Eq.mpr _ ((s.back = Bool.true → Go.SE.InK Go.IntKind.i64 (s.shift + n) ∧ Go.SE.InK Go.IntKind.i64 (s.shift + n - i) ∧ n ≠ (0 : Int) ∧ Int.tmod (s.shift + n - i) n = L.lay s n i) ∧ (s.back = Bool.false → Go.SE.InK Go.IntKind.i64 (s.shift + i) ∧ n ≠ (0 : Int) ∧ Int.tmod (s.shift + i) n = L.lay s n i)) (by kernel_rfl) (by
    obtain ⟨h1, h2, h3, h4, h5, h6⟩ := hp
    refine ⟨fun h => ⟨InK.of (by omega) (by omega), InK.of (by omega) (by omega), by omega, ?_⟩, fun h => ⟨InK.of (by omega) (by omega), by omega, ?_⟩⟩
    · unfold L.lay; rw [h]; rfl
    · unfold L.lay; rw [h]; rfl)
theorem r1_Laid_ok : SpecOk Tryz.prog 87 r1_Laid_S := fnX Tryz.func87 (c := bodyOf Tryz.f87) (by kernel_rfl) mixed (fun args p r hs hp => by
  unfold r1_Laid_s at hs
  split at hs
  · cases hs; exact ⟨_, _, r1_Laid_vc _ _ _ hp, (.same _ (.same _ (.same _ .nil))), ⟨show SpecsL Tryz.prog _ from SpecsL.nil, rfl, ⟨show ItersL Tryz.prog _ from ItersL.nil, (TrsOk.none (fun _ => rfl))⟩⟩⟩
  · cases hs)
theorem r1_Laid_en : Enters Tryz.prog 87 := fun args w => by kernel_rfl
theorem r1_Laid_I : ∀ args p r, r1_Laid_s args = some (p, r) → ∃ n, r = .int .i64 n := by
  intro args p r h
  unfold r1_Laid_s at h
  split at h
  · cases h; exact ⟨_, rfl⟩
  · cases h
def r1_corner_p (s : L.Setting) (n : Int) (i : Int) : Prop := 1 ≤ n ∧ n ≤ 1000 ∧ 0 ≤ s.shift ∧ s.shift ≤ 1000 ∧ 0 ≤ i ∧ i ≤ 1000
def r1_corner_r (s : L.Setting) (n : Int) (i : Int) : SV := .int .i64 (L.cor s n i)
def r1_corner_s : List EV → Option (Prop × SV)
  | [.p (.agg [.int .i64 s_shift, .bool s_back]), .p (.int .i64 n), .p (.int .i64 i)] => some (r1_corner_p (⟨s_shift, s_back⟩ : L.Setting) n i, r1_corner_r (⟨s_shift, s_back⟩ : L.Setting) n i)
  | _ => none
abbrev r1_corner_S : SE.Spec := (specO r1_corner_s)
def r1_corner_C : Cfg := { muts := [], frz := lookN [], specs := lookS [], loops := lookL [], iters := lookI [], rfs := lookR [], nils := lookM [] }
theorem r1_corner_vc (s : L.Setting) (n : Int) (i : Int) (hp : r1_corner_p s n i) : vc Tryz.prog (r1_corner_C) (bodyOf Tryz.f138) (st0 Tryz.f138 [.p (.agg [.int .i64 s.shift, .bool s.back]), .p (.int .i64 n), .p (.int .i64 i)]) (retFn Tryz.prog Tryz.f138 (r1_corner_r s n i)) :=
  @Eq.mpr _ ((s.back = Bool.true → Go.SE.InK Go.IntKind.i64 (s.shift + n) ∧ Go.SE.InK Go.IntKind.i64 (s.shift + n - i) ∧ Go.SE.InK Go.IntKind.i64 (s.shift + n - i + (1 : Int)) ∧ n ≠ (0 : Int) ∧ Int.tmod (s.shift + n - i + (1 : Int)) n = L.cor s n i) ∧ (s.back = Bool.false → Go.SE.InK Go.IntKind.i64 (s.shift + i) ∧ n ≠ (0 : Int) ∧ Int.tmod (s.shift + i) n = L.cor s n i)) (by kernel_rfl) (by
    obtain ⟨h1, h2, h3, h4, h5, h6⟩ := hp
    refine ⟨fun h => ⟨InK.of (by omega) (by omega), InK.of (by omega) (by omega), InK.of (by omega) (by omega), by omega, ?_⟩, fun h => ⟨InK.of (by omega) (by omega), by omega, ?_⟩⟩
    · unfold L.cor; rw [h]; rfl
    · unfold L.cor; rw [h]; rfl)
theorem r1_corner_ok : SpecOk Tryz.prog 138 r1_corner_S := fnX Tryz.func138 (c := bodyOf Tryz.f138) (by kernel_rfl) mixed (fun args p r hs hp => by
  unfold r1_corner_s at hs
  split at hs
  · cases hs; exact ⟨_, _, r1_corner_vc _ _ _ hp, (.same _ (.same _ (.same _ .nil))), ⟨show SpecsL Tryz.prog _ from SpecsL.nil, rfl, ⟨show ItersL Tryz.prog _ from ItersL.nil, (TrsOk.none (fun _ => rfl))⟩⟩⟩
  · cases hs)
theorem r1_corner_en : Enters Tryz.prog 138 := fun args w => by kernel_rfl
theorem r1_corner_I : ∀ args p r, r1_corner_s args = some (p, r) → ∃ n, r = .int .i64 n := by
  intro args p r h
  unfold r1_corner_s at h
  split at h
  · cases h; exact ⟨_, rfl⟩
  · cases h
def r1_congruent_p (p : (L.Sq L.Pt)) (q : (L.Sq L.Pt)) (s : L.Setting) : Prop := L.validOutline p = true ∧ L.validOutline q = true ∧ p.n = q.n ∧ 0 ≤ s.shift ∧ s.shift < (p.n : Int)
def r1_congruent_r (p : (L.Sq L.Pt)) (q : (L.Sq L.Pt)) (s : L.Setting) : SV := .bool (L.congr p q s)
def r1_congruent_s : List EV → Option (Prop × SV)
  | [.p (.sl 2 p_n p_g), .p (.sl 2 q_n q_g), .p (.agg [.int .i64 s_shift, .bool s_back])] => some ((∀ i, i < p_n → p_g i = [.int .i64 ((ofPt (p_g i)).x), .int .i64 ((ofPt (p_g i)).y)]) ∧ (∀ i, i < q_n → q_g i = [.int .i64 ((ofPt (q_g i)).x), .int .i64 ((ofPt (q_g i)).y)]) ∧ r1_congruent_p (⟨p_n, fun i => ofPt (p_g i)⟩ : (L.Sq L.Pt)) (⟨q_n, fun i => ofPt (q_g i)⟩ : (L.Sq L.Pt)) (⟨s_shift, s_back⟩ : L.Setting), r1_congruent_r (⟨p_n, fun i => ofPt (p_g i)⟩ : (L.Sq L.Pt)) (⟨q_n, fun i => ofPt (q_g i)⟩ : (L.Sq L.Pt)) (⟨s_shift, s_back⟩ : L.Setting))
  | _ => none
abbrev r1_congruent_S : SE.Spec := (specO r1_congruent_s)
def r1_congruent_C : Cfg := { muts := [], frz := lookN [], specs := lookS [(138, r1_corner_S), (65, r1_at_S), (64, r1_Cross_S), (139, r1_sign_S), (140, r1_Dist_S)], loops := fun _ => none, iters := lookI [], rfs := lookR [], nils := lookM [] }
theorem r1_congruent_vc (p : (L.Sq L.Pt)) (q : (L.Sq L.Pt)) (s : L.Setting) (hp : r1_congruent_p p q s) : vc Tryz.prog ({ r1_congruent_C with loops := lookL [(3, { T := Nat, keep := [0, 1, 5, 6, 7], keepO := [], chg := fun i => [(8, .p (.int .i64 (i : Int)))], own := fun _ => [], inv := fun i => i ≤ p.n ∧ ∀ j, j < i → L.rcI p q s j = true, mu := fun i => p.n - i }), (9, { T := Nat × Nat, keep := [0, 1, 5, 6, 7, 8, 9], keepO := [], tie := fun g => [(8, .int .i64 (g.1 : Int)), (9, .int .i64 (L.cor s (p.n : Int) (g.1 : Int)))], chg := fun g => [(10, .p (.int .i64 (g.2 : Int)))], own := fun _ => [], inv := fun g => g.1 < p.n ∧ g.2 ≤ p.n ∧ L.rB p q s g.1 = true ∧ (∀ k, k < g.2 → L.conD p q s g.1 k = true) ∧ ∀ j, j < g.1 → L.rcI p q s j = true, mu := fun g => p.n - g.2 })], rfs := lookR [] }) (bodyOf Tryz.f85) (st0 Tryz.f85 [.p (.sl 2 p.n (fun i => [.int .i64 ((p.g i).x), .int .i64 ((p.g i).y)])), .p (.sl 2 q.n (fun i => [.int .i64 ((q.g i).x), .int .i64 ((q.g i).y)])), .p (.agg [.int .i64 s.shift, .bool s.back])]) (retFn Tryz.prog Tryz.f85 (r1_congruent_r p q s)) :=
  @Eq.mpr _ ((∃ (g : Nat), (0 : Int) = (↑g : Int) ∧ g ≤ p.n ∧ ∀ (j : Nat), j < g → L.rcI p q s j = Bool.true) ∧ ∀ (g : Nat), (g ≤ p.n ∧ ∀ (j : Nat), j < g → L.rcI p q s j = Bool.true) → (Decidable.decide ((↑g : Int) < (↑p.n : Int)) = Bool.true → ((1 : Int) ≤ (↑p.n : Int) ∧ (↑p.n : Int) ≤ (1000 : Int) ∧ (0 : Int) ≤ s.shift ∧ s.shift ≤ (1000 : Int) ∧ (0 : Int) ≤ (↑g : Int) ∧ (↑g : Int) ≤ (1000 : Int)) ∧
 Go.SE.InK Go.IntKind.i64 ((↑g : Int) - (1 : Int)) ∧ ((∀ (i : Nat), i < p.n → [Go.SE.SV.int Go.IntKind.i64 (p.g i).x, Go.SE.SV.int Go.IntKind.i64 (p.g i).y] = [Go.SE.SV.int Go.IntKind.i64 (p.g i).x, Go.SE.SV.int Go.IntKind.i64 (p.g i).y]) ∧ (1 : Nat) ≤ p.n ∧ p.n ≤ (1000000 : Nat) ∧ (-1000000 : Int) ≤ (↑g : Int) - (1 : Int) ∧ (↑g : Int) - (1 : Int) ≤ (1000000 : Int)) ∧ ((0 : Int) ≤ (↑g : Int) ∧ (↑g
 : Int) < (↑p.n : Int)) ∧ Go.SE.InK Go.IntKind.i64 ((↑g : Int) + (1 : Int)) ∧ ((∀ (i : Nat), i < p.n → [Go.SE.SV.int Go.IntKind.i64 (p.g i).x, Go.SE.SV.int Go.IntKind.i64 (p.g i).y] = [Go.SE.SV.int Go.IntKind.i64 (p.g i).x, Go.SE.SV.int Go.IntKind.i64 (p.g i).y]) ∧ (1 : Nat) ≤ p.n ∧ p.n ≤ (1000000 : Nat) ∧ (-1000000 : Int) ≤ (↑g : Int) + (1 : Int) ∧ (↑g : Int) + (1 : Int) ≤ (1000000 : Int)) ∧ (L.bd
 (p.g (L.ix p.n ((↑g : Int) - (1 : Int)))) ∧ L.bd (p.g (Int.toNat (↑g : Int))) ∧ L.bd (p.g (L.ix p.n ((↑g : Int) + (1 : Int))))) ∧ True ∧ Go.SE.InK Go.IntKind.i64 (L.cor s (↑p.n : Int) (↑g : Int) - (1 : Int)) ∧ ((∀ (i : Nat), i < q.n → [Go.SE.SV.int Go.IntKind.i64 (q.g i).x, Go.SE.SV.int Go.IntKind.i64 (q.g i).y] = [Go.SE.SV.int Go.IntKind.i64 (q.g i).x, Go.SE.SV.int Go.IntKind.i64 (q.g i).y]) ∧ (1
 : Nat) ≤ q.n ∧ q.n ≤ (1000000 : Nat) ∧ (-1000000 : Int) ≤ L.cor s (↑p.n : Int) (↑g : Int) - (1 : Int) ∧ L.cor s (↑p.n : Int) (↑g : Int) - (1 : Int) ≤ (1000000 : Int)) ∧ ((0 : Int) ≤ L.cor s (↑p.n : Int) (↑g : Int) ∧ L.cor s (↑p.n : Int) (↑g : Int) < (↑q.n : Int)) ∧ Go.SE.InK Go.IntKind.i64 (L.cor s (↑p.n : Int) (↑g : Int) + (1 : Int)) ∧ ((∀ (i : Nat), i < q.n → [Go.SE.SV.int Go.IntKind.i64 (q.g
 i).x, Go.SE.SV.int Go.IntKind.i64 (q.g i).y] = [Go.SE.SV.int Go.IntKind.i64 (q.g i).x, Go.SE.SV.int Go.IntKind.i64 (q.g i).y]) ∧ (1 : Nat) ≤ q.n ∧ q.n ≤ (1000000 : Nat) ∧ (-1000000 : Int) ≤ L.cor s (↑p.n : Int) (↑g : Int) + (1 : Int) ∧ L.cor s (↑p.n : Int) (↑g : Int) + (1 : Int) ≤ (1000000 : Int)) ∧ (L.bd (q.g (L.ix q.n (L.cor s (↑p.n : Int) (↑g : Int) - (1 : Int)))) ∧ L.bd (q.g (Int.toNat (L.cor
 s (↑p.n : Int) (↑g : Int)))) ∧ L.bd (q.g (L.ix q.n (L.cor s (↑p.n : Int) (↑g : Int) + (1 : Int))))) ∧ True ∧ ((!Decidable.decide (L.cmp (L.cross (p.g (L.ix p.n ((↑g : Int) - (1 : Int)))) (p.g (Int.toNat (↑g : Int))) (p.g (L.ix p.n ((↑g : Int) + (1 : Int))))) (0 : Int) = L.cmp (L.cross (q.g (L.ix q.n (L.cor s (↑p.n : Int) (↑g : Int) - (1 : Int)))) (q.g (Int.toNat (L.cor s (↑p.n : Int) (↑g : Int))))
 (q.g (L.ix q.n (L.cor s (↑p.n : Int) (↑g : Int) + (1 : Int))))) (0 : Int))) = Bool.true → Bool.false = L.congr p q s) ∧ ((!Decidable.decide (L.cmp (L.cross (p.g (L.ix p.n ((↑g : Int) - (1 : Int)))) (p.g (Int.toNat (↑g : Int))) (p.g (L.ix p.n ((↑g : Int) + (1 : Int))))) (0 : Int) = L.cmp (L.cross (q.g (L.ix q.n (L.cor s (↑p.n : Int) (↑g : Int) - (1 : Int)))) (q.g (Int.toNat (L.cor s (↑p.n : Int)
 (↑g : Int)))) (q.g (L.ix q.n (L.cor s (↑p.n : Int) (↑g : Int) + (1 : Int))))) (0 : Int))) = Bool.false → (∃ (g_1 : Nat × Nat), (0 : Int) = (↑g_1.2 : Int) ∧ (↑g : Int) = (↑g_1.1 : Int) ∧ L.cor s (↑p.n : Int) (↑g : Int) = L.cor s (↑p.n : Int) (↑g_1.1 : Int) ∧ g_1.1 < p.n ∧ g_1.2 ≤ p.n ∧ L.rB p q s g_1.1 = Bool.true ∧ (∀ (k : Nat), k < g_1.2 → L.conD p q s g_1.1 k = Bool.true) ∧ ∀ (j : Nat), j <
 g_1.1 → L.rcI p q s j = Bool.true) ∧ ∀ (g_1 : Nat × Nat), ((↑g : Int) = (↑g_1.1 : Int) ∧ L.cor s (↑p.n : Int) (↑g : Int) = L.cor s (↑p.n : Int) (↑g_1.1 : Int) ∧ g_1.1 < p.n ∧ g_1.2 ≤ p.n ∧ L.rB p q s g_1.1 = Bool.true ∧ (∀ (k : Nat), k < g_1.2 → L.conD p q s g_1.1 k = Bool.true) ∧ ∀ (j : Nat), j < g_1.1 → L.rcI p q s j = Bool.true) → (Decidable.decide ((↑g_1.2 : Int) < (↑p.n : Int)) = Bool.true →
 ((0 : Int) ≤ (↑g : Int) ∧ (↑g : Int) < (↑p.n : Int)) ∧ ((0 : Int) ≤ (↑g_1.2 : Int) ∧ (↑g_1.2 : Int) < (↑p.n : Int)) ∧ (L.bd (p.g (Int.toNat (↑g : Int))) ∧ L.bd (p.g (Int.toNat (↑g_1.2 : Int)))) ∧ ((0 : Int) ≤ L.cor s (↑p.n : Int) (↑g : Int) ∧ L.cor s (↑p.n : Int) (↑g : Int) < (↑q.n : Int)) ∧ ((1 : Int) ≤ (↑p.n : Int) ∧ (↑p.n : Int) ≤ (1000 : Int) ∧ (0 : Int) ≤ s.shift ∧ s.shift ≤ (1000 : Int) ∧ (0
 : Int) ≤ (↑g_1.2 : Int) ∧ (↑g_1.2 : Int) ≤ (1000 : Int)) ∧ ((0 : Int) ≤ L.cor s (↑p.n : Int) (↑g_1.2 : Int) ∧ L.cor s (↑p.n : Int) (↑g_1.2 : Int) < (↑q.n : Int)) ∧ (L.bd (q.g (Int.toNat (L.cor s (↑p.n : Int) (↑g : Int)))) ∧ L.bd (q.g (Int.toNat (L.cor s (↑p.n : Int) (↑g_1.2 : Int))))) ∧ ((!Decidable.decide (L.dist (p.g (Int.toNat (↑g : Int))) (p.g (Int.toNat (↑g_1.2 : Int))) = L.dist (q.g
 (Int.toNat (L.cor s (↑p.n : Int) (↑g : Int)))) (q.g (Int.toNat (L.cor s (↑p.n : Int) (↑g_1.2 : Int)))))) = Bool.true → Bool.false = L.congr p q s) ∧ ((!Decidable.decide (L.dist (p.g (Int.toNat (↑g : Int))) (p.g (Int.toNat (↑g_1.2 : Int))) = L.dist (q.g (Int.toNat (L.cor s (↑p.n : Int) (↑g : Int)))) (q.g (Int.toNat (L.cor s (↑p.n : Int) (↑g_1.2 : Int)))))) = Bool.false → Go.SE.InK Go.IntKind.i64
 ((↑g_1.2 : Int) + (1 : Int)) ∧ ∃ (g' : Nat × Nat), (↑g_1.2 : Int) + (1 : Int) = (↑g'.2 : Int) ∧ L.cor s (↑p.n : Int) (↑g : Int) = L.cor s (↑p.n : Int) (↑g : Int) ∧ (↑g : Int) = (↑g : Int) ∧ (↑p.n : Int) = (↑p.n : Int) ∧ Bool.false = Bool.false ∧ Go.SE.SV.ref [Go.SE.SV.int Go.IntKind.i64 s.shift, Go.SE.SV.bool s.back] (nat_lit 0) = Go.SE.SV.ref [Go.SE.SV.int Go.IntKind.i64 s.shift, Go.SE.SV.bool
 s.back] (nat_lit 0) ∧ (p.n = p.n ∧ ∀ (i : Nat), i < p.n → [Go.SE.SV.int Go.IntKind.i64 (p.g i).x, Go.SE.SV.int Go.IntKind.i64 (p.g i).y] = [Go.SE.SV.int Go.IntKind.i64 (p.g i).x, Go.SE.SV.int Go.IntKind.i64 (p.g i).y]) ∧ (q.n = q.n ∧ ∀ (i : Nat), i < q.n → [Go.SE.SV.int Go.IntKind.i64 (q.g i).x, Go.SE.SV.int Go.IntKind.i64 (q.g i).y] = [Go.SE.SV.int Go.IntKind.i64 (q.g i).x, Go.SE.SV.int
 Go.IntKind.i64 (q.g i).y]) ∧ ((↑g : Int) = (↑g'.1 : Int) ∧ L.cor s (↑p.n : Int) (↑g : Int) = L.cor s (↑p.n : Int) (↑g'.1 : Int) ∧ g'.1 < p.n ∧ g'.2 ≤ p.n ∧ L.rB p q s g'.1 = Bool.true ∧ (∀ (k : Nat), k < g'.2 → L.conD p q s g'.1 k = Bool.true) ∧ ∀ (j : Nat), j < g'.1 → L.rcI p q s j = Bool.true) ∧ p.n - g'.2 < p.n - g_1.2)) ∧ (Decidable.decide ((↑g_1.2 : Int) < (↑p.n : Int)) = Bool.false →
 Go.SE.InK Go.IntKind.i64 ((↑g : Int) + (1 : Int)) ∧ ∃ (g' : Nat), (↑g : Int) + (1 : Int) = (↑g' : Int) ∧ (↑p.n : Int) = (↑p.n : Int) ∧ Bool.false = Bool.false ∧ Go.SE.SV.ref [Go.SE.SV.int Go.IntKind.i64 s.shift, Go.SE.SV.bool s.back] (nat_lit 0) = Go.SE.SV.ref [Go.SE.SV.int Go.IntKind.i64 s.shift, Go.SE.SV.bool s.back] (nat_lit 0) ∧ (p.n = p.n ∧ ∀ (i : Nat), i < p.n → [Go.SE.SV.int Go.IntKind.i64
 (p.g i).x, Go.SE.SV.int Go.IntKind.i64 (p.g i).y] = [Go.SE.SV.int Go.IntKind.i64 (p.g i).x, Go.SE.SV.int Go.IntKind.i64 (p.g i).y]) ∧ (q.n = q.n ∧ ∀ (i : Nat), i < q.n → [Go.SE.SV.int Go.IntKind.i64 (q.g i).x, Go.SE.SV.int Go.IntKind.i64 (q.g i).y] = [Go.SE.SV.int Go.IntKind.i64 (q.g i).x, Go.SE.SV.int Go.IntKind.i64 (q.g i).y]) ∧ (g' ≤ p.n ∧ ∀ (j : Nat), j < g' → L.rcI p q s j = Bool.true) ∧ p.n
 - g' < p.n - g))) ∧ (Decidable.decide ((↑g : Int) < (↑p.n : Int)) = Bool.false → Bool.true = L.congr p q s)) (by kernel_rfl) (by
    obtain ⟨hv, hq, hn, s0, s1⟩ := hp
    obtain ⟨p3, p24, _, pb⟩ := validOutline_of hv
    obtain ⟨q3, q24, _, qb⟩ := validOutline_of hq
    have hc : ∀ k : Nat, k < p.n → 0 ≤ L.cor s (p.n : Int) (k : Int) ∧ L.cor s (p.n : Int) (k : Int) < (q.n : Int) := fun k hk => by
      unfold L.cor
      rw [← hn]
      cases s.back
      · exact ⟨Int.tmod_nonneg _ (by omega), Int.tmod_lt_of_pos _ (by omega)⟩
      · exact ⟨Int.tmod_nonneg _ (by omega), Int.tmod_lt_of_pos _ (by omega)⟩
    have hqb : ∀ a : Int, L.bd (q.g (L.ix q.n a)) := fun a => qb.2 _ (ix_lt (by omega))
    have hpb : ∀ a : Int, L.bd (p.g (L.ix p.n a)) := fun a => pb.2 _ (ix_lt (by omega))
    have fin0 : ∀ {i : Nat}, i < p.n → L.rcI p q s i = false → false = L.congr p q s := fun {i} hi h => by
      rw [← rc_eq hv hq hn s0, allB_false hi h]
    refine ⟨⟨(0 : Nat), rfl, Nat.zero_le _, fun j hj => absurd hj (Nat.not_lt_zero _)⟩, fun g hg => ⟨fun hlt => ?_, fun hge => ?_⟩⟩
    · obtain ⟨hg1, hg2⟩ := hg
      have hb : (g : Int) < (p.n : Int) := of_decide_eq_true hlt
      have e0 : ((g : Int)).toNat = g := by omega
      have hgl : g < p.n := by omega
      have hcg := hc g hgl
      rw [e0]
      refine ⟨⟨by omega, by omega, by omega, by omega, by omega, by omega⟩, InK.of (by omega) (by omega), ⟨fun _ _ => rfl, by omega, by omega, by omega, by omega⟩, ⟨by omega, hb⟩, InK.of (by omega) (by omega), ⟨fun _ _ => rfl, by omega, by omega, by omega, by omega⟩, ⟨hpb _, pb.2 g hgl, hpb _⟩, trivial, InK.of (by omega) (by omega), ⟨fun _ _ => rfl, by omega, by omega, by omega, by omega⟩, hcg, InK.of (by omega) (by omega), ⟨fun _ _ => rfl, by omega, by omega, by omega, by omega⟩, ⟨hqb _, qb.2 _ (by omega), hqb _⟩, trivial, fun h => ?_, fun h => ?_⟩
      · have h : L.rB p q s g = false := notT h
        exact fin0 hgl (by unfold L.rcI; rw [h]; rfl)
      · have hrB : L.rB p q s g = true := notF h
        refine ⟨⟨(g, 0), rfl, rfl, rfl, hgl, Nat.zero_le _, hrB, fun k hk => absurd hk (Nat.not_lt_zero _), hg2⟩, fun g1 hh => ?_⟩
        obtain ⟨g0, k⟩ := g1
        obtain ⟨e1, _, _, q2, q3', q4, q5⟩ := hh
        have e1 : (g : Int) = (g0 : Int) := e1
        obtain rfl : g = g0 := by omega
        have q2 : k ≤ p.n := q2
        have q4 : ∀ k', k' < k → L.conD p q s g k' = true := q4
        have ek : ((k : Int)).toNat = k := by omega
        dsimp only
        rw [ek]
        refine ⟨fun hk => ?_, fun hk => ?_⟩
        · have hk : (k : Int) < (p.n : Int) := of_decide_eq_true hk
          have hck := hc k (by omega)
          refine ⟨⟨by omega, hb⟩, ⟨by omega, hk⟩, ⟨pb.2 g hgl, pb.2 k (by omega)⟩, hcg, ⟨by omega, by omega, by omega, by omega, by omega, by omega⟩, hck, ⟨qb.2 _ (by omega), qb.2 _ (by omega)⟩, fun h => ?_, fun h => ?_⟩
          · have h : L.conD p q s g k = false := notT h
            exact fin0 hgl (by unfold L.rcI; rw [allB_false (show k < p.n by omega) h]; exact Bool.and_false _)
          · have h : L.conD p q s g k = true := notF h
            refine ⟨InK.of (by omega) (by omega), (g, k + 1), by show (k : Int) + 1 = ((k + 1 : Nat) : Int); omega, rfl, rfl, rfl, rfl, rfl, ⟨rfl, fun _ _ => rfl⟩, ⟨rfl, fun _ _ => rfl⟩, ⟨rfl, rfl, hgl, by show k + 1 ≤ p.n; omega, hrB, fun k' hk' => ?_, hg2⟩, by show p.n - (k + 1) < p.n - k; omega⟩
            have hk' : k' < k + 1 := hk'
            rcases Nat.lt_succ_iff_lt_or_eq.1 hk' with h' | rfl
            · exact q4 k' h'
            · exact h
        · have hk : ¬ (k : Int) < (p.n : Int) := of_decide_eq_false hk
          obtain rfl : k = p.n := by omega
          refine ⟨InK.of (by omega) (by omega), g + 1, by omega, rfl, rfl, rfl, ⟨rfl, fun _ _ => rfl⟩, ⟨rfl, fun _ _ => rfl⟩, ⟨by omega, fun j hj => ?_⟩, by omega⟩
          rcases Nat.lt_succ_iff_lt_or_eq.1 hj with h' | rfl
          · exact hg2 j h'
          · unfold L.rcI
            rw [hrB, allB_iff.2 q4]; rfl
    · obtain ⟨hg1, hg2⟩ := hg
      have hb : ¬ (g : Int) < (p.n : Int) := of_decide_eq_false hge
      obtain rfl : g = p.n := by omega
      rw [← rc_eq hv hq hn s0, allB_iff.2 hg2])
theorem r1_congruent_ok : SpecOk Tryz.prog 85 r1_congruent_S := fnX Tryz.func85 (c := bodyOf Tryz.f85) (by kernel_rfl) mixed (fun args p r hs hp => by
  unfold r1_congruent_s at hs
  split at hs
  · cases hs; exact ⟨_, _, r1_congruent_vc _ _ _ hp.2.2, (.p (.sl hp.1) (.p (.sl hp.2.1) (.same _ .nil))), ⟨show SpecsL Tryz.prog _ from (SpecsL.cons r1_corner_ok r1_corner_en (SpecsL.cons r1_at_ok r1_at_en (SpecsL.cons r1_Cross_ok r1_Cross_en (SpecsL.cons r1_sign_ok r1_sign_en (SpecsL.cons r1_Dist_ok r1_Dist_en SpecsL.nil))))), rfl, ⟨show ItersL Tryz.prog _ from ItersL.nil, (TrsOk.none (fun _ => rfl))⟩⟩⟩
  · cases hs)
theorem r1_congruent_en : Enters Tryz.prog 85 := fun args w => by kernel_rfl
theorem r1_congruent_B : ∀ args p r, r1_congruent_s args = some (p, r) → ∃ b, r = .bool b := by
  intro args p r h
  unfold r1_congruent_s at h
  split at h
  · cases h; exact ⟨_, rfl⟩
  · cases h
def r1_Settings_p (p : (L.Sq L.Pt)) (q : (L.Sq L.Pt)) : Prop := p.n ≤ 1000000 ∧ q.n ≤ 1000000
def r1_Settings_r (p : (L.Sq L.Pt)) (q : (L.Sq L.Pt)) : SV := .tup [.sl 2 (L.conN p q) (fun k => [.int .i64 ((L.conG p q k).shift), .bool ((L.conG p q k).back)]), .int .i64 (L.conE p q)]
def r1_Settings_s : List EV → Option (Prop × SV)
  | [.p (.sl 2 p_n p_g), .p (.sl 2 q_n q_g)] => some ((∀ i, i < p_n → p_g i = [.int .i64 ((ofPt (p_g i)).x), .int .i64 ((ofPt (p_g i)).y)]) ∧ (∀ i, i < q_n → q_g i = [.int .i64 ((ofPt (q_g i)).x), .int .i64 ((ofPt (q_g i)).y)]) ∧ r1_Settings_p (⟨p_n, fun i => ofPt (p_g i)⟩ : (L.Sq L.Pt)) (⟨q_n, fun i => ofPt (q_g i)⟩ : (L.Sq L.Pt)), r1_Settings_r (⟨p_n, fun i => ofPt (p_g i)⟩ : (L.Sq L.Pt)) (⟨q_n, fun i => ofPt (q_g i)⟩ : (L.Sq L.Pt)))
  | _ => none
abbrev r1_Settings_S : SE.Spec := (specO r1_Settings_s)
def r1_Settings_C : Cfg := { muts := [], frz := lookN [], specs := lookS [(20, r1_ValidOutline_S), (74, r1_All_S), (85, r1_congruent_S)], loops := fun _ => none, iters := lookI [], rfs := lookR [], nils := lookM [(7, [(6, 20, 27, 2)])] }
theorem r1_Settings_vc (p : (L.Sq L.Pt)) (q : (L.Sq L.Pt)) (hp : r1_Settings_p p q) : vc Tryz.prog ({ r1_Settings_C with loops := lookL [(8, { T := Nat, keep := [0, 1, 6, 7], keepO := [], chg := fun i => [(8, .p (.int .i64 (i : Int)))], own := fun i => [(20, .row 27 2 (L.cnt (L.conK p q) i) (fun k => [.int .i64 ((L.sett (L.selN (L.conK p q) i k)).shift), .bool ((L.sett (L.selN (L.conK p q) i k)).back)]))], inv := fun i => i ≤ 2 * p.n, mu := fun i => 2 * p.n - i })], rfs := lookR [] }) (bodyOf Tryz.f35) (st0 Tryz.f35 [.p (.sl 2 p.n (fun i => [.int .i64 ((p.g i).x), .int .i64 ((p.g i).y)])), .p (.sl 2 q.n (fun i => [.int .i64 ((q.g i).x), .int .i64 ((q.g i).y)]))]) (retFn Tryz.prog Tryz.f35 (r1_Settings_r p q)) :=
  @Eq.mpr _ (((∀ (i : Nat), i < p.n → [Go.SE.SV.int Go.IntKind.i64 (p.g i).x, Go.SE.SV.int Go.IntKind.i64 (p.g i).y] = [Go.SE.SV.int Go.IntKind.i64 (p.g i).x, Go.SE.SV.int Go.IntKind.i64 (p.g i).y]) ∧ True) ∧ ((!!L.validOutline (L.Sq.mk p.n fun (i : Nat) ↦ p.g i)) = Bool.true → (∀ (i : Nat), i < q.n → [Go.SE.SV.int Go.IntKind.i64 (q.g i).x, Go.SE.SV.int Go.IntKind.i64 (q.g i).y] = [Go.SE.SV.int Go.IntKind.i64
 (q.g i).x, Go.SE.SV.int Go.IntKind.i64 (q.g i).y]) ∧ True) ∧ ((bif !L.validOutline (L.Sq.mk p.n fun (i : Nat) ↦ p.g i) then Bool.true else !L.validOutline (L.Sq.mk q.n fun (i : Nat) ↦ q.g i)) = Bool.true → L.conN p q = (0 : Nat) ∧ (1 : Int) = L.conE p q) ∧ ((bif !L.validOutline (L.Sq.mk p.n fun (i : Nat) ↦ p.g i) then Bool.true else !L.validOutline (L.Sq.mk q.n fun (i : Nat) ↦ q.g i)) = Bool.false
 → ((!Decidable.decide ((↑p.n : Int) = (↑q.n : Int))) = Bool.true → L.conN p q = (0 : Nat) ∧ (0 : Int) = L.conE p q) ∧ ((!Decidable.decide ((↑p.n : Int) = (↑q.n : Int))) = Bool.false → ((0 : Int) ≤ (↑p.n : Int) ∧ (↑p.n : Int) ≤ (1000 : Int)) ∧ ∀ (t : Nat), True → (∃ (g : Nat), (0 : Int) = (↑g : Int) ∧ (nat_lit 0 = L.cnt (L.conK p q) g ∧ ∀ (i : Nat), i < nat_lit 0 → [] = [Go.SE.SV.int Go.IntKind.i64
 (L.sett (L.selN (L.conK p q) g i)).shift, Go.SE.SV.bool (L.sett (L.selN (L.conK p q) g i)).back]) ∧ g ≤ (2 : Nat) * p.n) ∧ ∀ (g : Nat), g ≤ (2 : Nat) * p.n → (Decidable.decide ((↑g : Int) < (↑(Int.toNat ((2 : Int) * (↑p.n : Int))) : Int)) = Bool.true → ((0 : Int) ≤ (↑g : Int) ∧ (↑g : Int) < (↑(Int.toNat ((2 : Int) * (↑p.n : Int))) : Int)) ∧ ((∀ (i : Nat), i < p.n → [Go.SE.SV.int Go.IntKind.i64
 (p.g i).x, Go.SE.SV.int Go.IntKind.i64 (p.g i).y] = [Go.SE.SV.int Go.IntKind.i64 (p.g i).x, Go.SE.SV.int Go.IntKind.i64 (p.g i).y]) ∧ (∀ (i : Nat), i < q.n → [Go.SE.SV.int Go.IntKind.i64 (q.g i).x, Go.SE.SV.int Go.IntKind.i64 (q.g i).y] = [Go.SE.SV.int Go.IntKind.i64 (q.g i).x, Go.SE.SV.int Go.IntKind.i64 (q.g i).y]) ∧ L.validOutline (L.Sq.mk p.n fun (i : Nat) ↦ p.g i) = Bool.true ∧ L.validOutline
 (L.Sq.mk q.n fun (i : Nat) ↦ q.g i) = Bool.true ∧ p.n = q.n ∧ (0 : Int) ≤ (L.sett (Int.toNat (↑g : Int))).shift ∧ (L.sett (Int.toNat (↑g : Int))).shift < (↑p.n : Int)) ∧ (L.congr (L.Sq.mk p.n fun (i : Nat) ↦ p.g i) (L.Sq.mk q.n fun (i : Nat) ↦ q.g i) (L.sett (Int.toNat (↑g : Int))) = Bool.true → ((0 : Int) ≤ (↑g : Int) ∧ (↑g : Int) < (↑(Int.toNat ((2 : Int) * (↑p.n : Int))) : Int)) ∧ (L.cnt
 (L.conK p q) g + nat_lit 1) * nat_lit 16 ≤ (140737488355328 : Nat) ∧ Go.SE.InK Go.IntKind.i64 ((↑g : Int) + (1 : Int)) ∧ ∃ (g' : Nat), (↑g : Int) + (1 : Int) = (↑g' : Int) ∧ (Int.toNat ((2 : Int) * (↑p.n : Int)) = Int.toNat ((2 : Int) * (↑p.n : Int)) ∧ ∀ (i : Nat), i < Int.toNat ((2 : Int) * (↑p.n : Int)) → [Go.SE.SV.int Go.IntKind.i64 (L.sett i).shift, Go.SE.SV.bool (L.sett i).back] =
 [Go.SE.SV.int Go.IntKind.i64 (L.sett i).shift, Go.SE.SV.bool (L.sett i).back]) ∧ (p.n = p.n ∧ ∀ (i : Nat), i < p.n → [Go.SE.SV.int Go.IntKind.i64 (p.g i).x, Go.SE.SV.int Go.IntKind.i64 (p.g i).y] = [Go.SE.SV.int Go.IntKind.i64 (p.g i).x, Go.SE.SV.int Go.IntKind.i64 (p.g i).y]) ∧ (q.n = q.n ∧ ∀ (i : Nat), i < q.n → [Go.SE.SV.int Go.IntKind.i64 (q.g i).x, Go.SE.SV.int Go.IntKind.i64 (q.g i).y] =
 [Go.SE.SV.int Go.IntKind.i64 (q.g i).x, Go.SE.SV.int Go.IntKind.i64 (q.g i).y]) ∧ (L.cnt (L.conK p q) g + nat_lit 1 = L.cnt (L.conK p q) g' ∧ ∀ (i : Nat), i < L.cnt (L.conK p q) g + nat_lit 1 → Go.SE.appGet (L.cnt (L.conK p q) g) (fun (k : Nat) ↦ [Go.SE.SV.int Go.IntKind.i64 (L.sett (L.selN (L.conK p q) g k)).shift, Go.SE.SV.bool (L.sett (L.selN (L.conK p q) g k)).back]) (fun (x : Nat) ↦
 [Go.SE.SV.int Go.IntKind.i64 (L.sett (Int.toNat (↑g : Int))).shift, Go.SE.SV.bool (L.sett (Int.toNat (↑g : Int))).back]) i = [Go.SE.SV.int Go.IntKind.i64 (L.sett (L.selN (L.conK p q) g' i)).shift, Go.SE.SV.bool (L.sett (L.selN (L.conK p q) g' i)).back]) ∧ g' ≤ (2 : Nat) * p.n ∧ (2 : Nat) * p.n - g' < (2 : Nat) * p.n - g) ∧ (L.congr (L.Sq.mk p.n fun (i : Nat) ↦ p.g i) (L.Sq.mk q.n fun (i : Nat) ↦
 q.g i) (L.sett (Int.toNat (↑g : Int))) = Bool.false → Go.SE.InK Go.IntKind.i64 ((↑g : Int) + (1 : Int)) ∧ ∃ (g' : Nat), (↑g : Int) + (1 : Int) = (↑g' : Int) ∧ (Int.toNat ((2 : Int) * (↑p.n : Int)) = Int.toNat ((2 : Int) * (↑p.n : Int)) ∧ ∀ (i : Nat), i < Int.toNat ((2 : Int) * (↑p.n : Int)) → [Go.SE.SV.int Go.IntKind.i64 (L.sett i).shift, Go.SE.SV.bool (L.sett i).back] = [Go.SE.SV.int
 Go.IntKind.i64 (L.sett i).shift, Go.SE.SV.bool (L.sett i).back]) ∧ (p.n = p.n ∧ ∀ (i : Nat), i < p.n → [Go.SE.SV.int Go.IntKind.i64 (p.g i).x, Go.SE.SV.int Go.IntKind.i64 (p.g i).y] = [Go.SE.SV.int Go.IntKind.i64 (p.g i).x, Go.SE.SV.int Go.IntKind.i64 (p.g i).y]) ∧ (q.n = q.n ∧ ∀ (i : Nat), i < q.n → [Go.SE.SV.int Go.IntKind.i64 (q.g i).x, Go.SE.SV.int Go.IntKind.i64 (q.g i).y] = [Go.SE.SV.int
 Go.IntKind.i64 (q.g i).x, Go.SE.SV.int Go.IntKind.i64 (q.g i).y]) ∧ (L.cnt (L.conK p q) g = L.cnt (L.conK p q) g' ∧ ∀ (i : Nat), i < L.cnt (L.conK p q) g → [Go.SE.SV.int Go.IntKind.i64 (L.sett (L.selN (L.conK p q) g i)).shift, Go.SE.SV.bool (L.sett (L.selN (L.conK p q) g i)).back] = [Go.SE.SV.int Go.IntKind.i64 (L.sett (L.selN (L.conK p q) g' i)).shift, Go.SE.SV.bool (L.sett (L.selN (L.conK p q)
 g' i)).back]) ∧ g' ≤ (2 : Nat) * p.n ∧ (2 : Nat) * p.n - g' < (2 : Nat) * p.n - g)) ∧ (Decidable.decide ((↑g : Int) < (↑(Int.toNat ((2 : Int) * (↑p.n : Int))) : Int)) = Bool.false → (L.cnt (L.conK p q) g = L.conN p q ∧ ∀ (i : Nat), i < L.cnt (L.conK p q) g → [Go.SE.SV.int Go.IntKind.i64 (L.sett (L.selN (L.conK p q) g i)).shift, Go.SE.SV.bool (L.sett (L.selN (L.conK p q) g i)).back] = [Go.SE.SV.int
 Go.IntKind.i64 (L.conG p q i).shift, Go.SE.SV.bool (L.conG p q i).back]) ∧ (0 : Int) = L.conE p q)))) (by kernel_rfl) (by
    refine ⟨⟨fun _ _ => rfl, trivial⟩, fun _ => ⟨fun _ _ => rfl, trivial⟩, fun h => ?_, fun h => ⟨fun h2 => ?_, fun h2 => ?_⟩⟩
    · have e : L.conE p q = 1 := by unfold L.conE; rw [h]; rfl
      unfold L.conN; rw [e]; exact ⟨rfl, rfl⟩
    · have e : L.conE p q = 0 := by unfold L.conE; rw [h]; rfl
      unfold L.conN; rw [e, notT h2]; exact ⟨rfl, rfl⟩
    have e : L.conE p q = 0 := by unfold L.conE; rw [h]; rfl
    rw [bor, Bool.or_eq_false_iff] at h
    have hv : L.validOutline p = true := notF h.1
    have hq : L.validOutline q = true := notF h.2
    have hn : p.n = q.n := by have := of_decide_eq_true (notF h2); omega
    obtain ⟨p3, p24, _, _⟩ := validOutline_of hv
    have et : (2 * (p.n : Int)).toNat = 2 * p.n := by omega
    have hN : L.conN p q = L.cnt (L.conK p q) (2 * p.n) := by unfold L.conN; rw [e, notF h2]; rfl
    rw [et]
    refine ⟨⟨by omega, by omega⟩, fun t _ => ⟨⟨(0 : Nat), rfl, ⟨rfl, fun i hi => absurd hi (Nat.not_lt_zero _)⟩, Nat.zero_le _⟩, fun g hg => ⟨fun hlt => ?_, fun hge => ?_⟩⟩⟩
    · have hb : (g : Int) < ((2 * p.n : Nat) : Int) := of_decide_eq_true hlt
      have e0 : ((g : Int)).toNat = g := by omega
      have hs := sett_lt (k := g) (n := p.n) (by omega)
      have hcl : L.cnt (L.conK p q) g ≤ g := cnt_le
      rw [e0]
      refine ⟨⟨by omega, hb⟩, ⟨fun _ _ => rfl, fun _ _ => rfl, hv, hq, hn, hs.1, hs.2⟩, fun hc => ?_, fun hc => ?_⟩
      · have hk : L.conK p q g = true := hc
        refine ⟨⟨by omega, hb⟩, show (L.cnt (L.conK p q) g + 1) * 16 ≤ 140737488355328 by omega, InK.of (by omega) (by omega), g + 1, by omega, ⟨rfl, fun _ _ => rfl⟩, ⟨rfl, fun _ _ => rfl⟩, ⟨rfl, fun _ _ => rfl⟩, ⟨(cnt_yes hk).symm, fun i hi => ?_⟩, by omega, by omega⟩
        have hi : i < L.cnt (L.conK p q) g + 1 := hi
        unfold appGet
        by_cases h' : i < L.cnt (L.conK p q) g
        · rw [if_pos h', selN_old (Nat.ne_of_lt h')]
        · rw [if_neg h']
          obtain rfl : i = L.cnt (L.conK p q) g := by omega
          rw [selN_new hk]
      · have hk : L.conK p q g = false := hc
        refine ⟨InK.of (by omega) (by omega), g + 1, by omega, ⟨rfl, fun _ _ => rfl⟩, ⟨rfl, fun _ _ => rfl⟩, ⟨rfl, fun _ _ => rfl⟩, ⟨(cnt_not hk).symm, fun i hi => ?_⟩, by omega, by omega⟩
        rw [selN_not hk]
    · have hb : ¬ (g : Int) < ((2 * p.n : Nat) : Int) := of_decide_eq_false hge
      obtain rfl : g = 2 * p.n := by omega
      exact ⟨⟨hN.symm, fun _ _ => rfl⟩, e.symm⟩)
theorem r1_Settings_ok : SpecOk Tryz.prog 35 r1_Settings_S := fnX Tryz.func35 (c := bodyOf Tryz.f35) (by kernel_rfl) mixed (fun args p r hs hp => by
  unfold r1_Settings_s at hs
  split at hs
  · cases hs; exact ⟨_, _, r1_Settings_vc _ _ hp.2.2, (.p (.sl hp.1) (.p (.sl hp.2.1) .nil)), ⟨show SpecsL Tryz.prog _ from (SpecsL.cons r1_ValidOutline_ok r1_ValidOutline_en (SpecsL.cons r1_All_ok r1_All_en (SpecsL.cons r1_congruent_ok r1_congruent_en SpecsL.nil))), rfl, ⟨show ItersL Tryz.prog _ from ItersL.nil, (TrsOk.none (fun _ => rfl))⟩⟩⟩
  · cases hs)
theorem r1_Settings_en : Enters Tryz.prog 35 := fun args w => by kernel_rfl
def r1_Compose_p (s : L.Setting) (t : L.Setting) (n : Int) : Prop := True
def r1_Compose_r (s : L.Setting) (t : L.Setting) (n : Int) : SV := .tup [(.agg [.int .i64 ((L.comp s t n).shift), .bool ((L.comp s t n).back)]), .int .i64 (L.compE s t n)]
def r1_Compose_s : List EV → Option (Prop × SV)
  | [.p (.agg [.int .i64 s_shift, .bool s_back]), .p (.agg [.int .i64 t_shift, .bool t_back]), .p (.int .i64 n)] => some (r1_Compose_p (⟨s_shift, s_back⟩ : L.Setting) (⟨t_shift, t_back⟩ : L.Setting) n, r1_Compose_r (⟨s_shift, s_back⟩ : L.Setting) (⟨t_shift, t_back⟩ : L.Setting) n)
  | _ => none
abbrev r1_Compose_S : SE.Spec := (specO r1_Compose_s)
def r1_Compose_C : Cfg := { muts := [6], frz := lookN [], specs := lookS [(21, r1_ValidSetting_S), (87, r1_Laid_S)], loops := lookL [], iters := lookI [], rfs := lookR [], nils := lookM [] }
theorem r1_Compose_vc (s : L.Setting) (t : L.Setting) (n : Int) (hp : r1_Compose_p s t n) : vc Tryz.prog (r1_Compose_C) (bodyOf Tryz.f37) (st0 Tryz.f37 [.p (.agg [.int .i64 s.shift, .bool s.back]), .p (.agg [.int .i64 t.shift, .bool t.back]), .p (.int .i64 n)]) (retFn Tryz.prog Tryz.f37 (r1_Compose_r s t n)) :=
  @Eq.mpr _ (True ∧ ((!!L.validSet s n) = Bool.true → True) ∧ ((bif !L.validSet s n then Bool.true else !L.validSet t n) = Bool.true → Go.SE.SV.agg [Go.SE.SV.int Go.IntKind.i64 (0 : Int), Go.SE.SV.bool Bool.false] = Go.SE.SV.agg [Go.SE.SV.int Go.IntKind.i64 (L.comp s t n).shift, Go.SE.SV.bool (L.comp s t n).back] ∧ (1 : Int) = L.compE s t n) ∧ ((bif !L.validSet s n then Bool.true else !L.validSet t n) =
 Bool.false → ((1 : Int) ≤ n ∧ n ≤ (1000000 : Int) ∧ (-1000000 : Int) ≤ t.shift ∧ t.shift ≤ (1000000 : Int) ∧ (-1000000 : Int) ≤ s.shift ∧ s.shift ≤ (1000000 : Int)) ∧ Go.SE.SV.agg [Go.SE.SV.int Go.IntKind.i64 (L.lay t n s.shift), Go.SE.SV.bool !s.back == t.back] = Go.SE.SV.agg [Go.SE.SV.int Go.IntKind.i64 (L.comp s t n).shift, Go.SE.SV.bool (L.comp s t n).back] ∧ (0 : Int) = L.compE s t n)) (by kernel_rfl) (by
    refine ⟨trivial, fun _ => trivial, fun h => ?_, fun h => ?_⟩
    · have e : L.compE s t n = 1 := by unfold L.compE; rw [h]; rfl
      unfold L.comp; rw [e]; exact ⟨rfl, rfl⟩
    · have e : L.compE s t n = 0 := by unfold L.compE; rw [h]; rfl
      rw [bor, Bool.or_eq_false_iff] at h
      have a := validSet_iff.1 (notF h.1)
      have b := validSet_iff.1 (notF h.2)
      refine ⟨⟨by omega, by omega, by omega, by omega, by omega, by omega⟩, ?_, e.symm⟩
      unfold L.comp; rw [e]; rfl)
theorem r1_Compose_ok : SpecOk Tryz.prog 37 r1_Compose_S := fnX Tryz.func37 (c := bodyOf Tryz.f37) (by kernel_rfl) mixed (fun args p r hs hp => by
  unfold r1_Compose_s at hs
  split at hs
  · cases hs; exact ⟨_, _, r1_Compose_vc _ _ _ hp, (.same _ (.same _ (.same _ .nil))), ⟨show SpecsL Tryz.prog _ from (SpecsL.cons r1_ValidSetting_ok r1_ValidSetting_en (SpecsL.cons r1_Laid_ok r1_Laid_en SpecsL.nil)), rfl, ⟨show ItersL Tryz.prog _ from ItersL.nil, (TrsOk.none (fun _ => rfl))⟩⟩⟩
  · cases hs)
theorem r1_Compose_en : Enters Tryz.prog 37 := fun args w => by kernel_rfl
def r1_Inverse_p (s : L.Setting) (n : Int) : Prop := True
def r1_Inverse_r (s : L.Setting) (n : Int) : SV := .tup [(.agg [.int .i64 ((L.inv s n).shift), .bool ((L.inv s n).back)]), .int .i64 (L.invE s n)]
def r1_Inverse_s : List EV → Option (Prop × SV)
  | [.p (.agg [.int .i64 s_shift, .bool s_back]), .p (.int .i64 n)] => some (r1_Inverse_p (⟨s_shift, s_back⟩ : L.Setting) n, r1_Inverse_r (⟨s_shift, s_back⟩ : L.Setting) n)
  | _ => none
abbrev r1_Inverse_S : SE.Spec := (specO r1_Inverse_s)
def r1_Inverse_C : Cfg := { muts := [4], frz := lookN [], specs := lookS [(21, r1_ValidSetting_S)], loops := lookL [], iters := lookI [], rfs := lookR [], nils := lookM [] }
theorem r1_Inverse_vc (s : L.Setting) (n : Int) (hp : r1_Inverse_p s n) : vc Tryz.prog (r1_Inverse_C) (bodyOf Tryz.f38) (st0 Tryz.f38 [.p (.agg [.int .i64 s.shift, .bool s.back]), .p (.int .i64 n)]) (retFn Tryz.prog Tryz.f38 (r1_Inverse_r s n)) :=
  @Eq.mpr _ (True ∧ ((!L.validSet s n) = Bool.true → Go.SE.SV.agg [Go.SE.SV.int Go.IntKind.i64 (0 : Int), Go.SE.SV.bool Bool.false] = Go.SE.SV.agg [Go.SE.SV.int Go.IntKind.i64 (L.inv s n).shift, Go.SE.SV.bool (L.inv s n).back] ∧ (1 : Int) = L.invE s n) ∧ ((!L.validSet s n) = Bool.false → (s.back = Bool.true → Go.SE.SV.agg [Go.SE.SV.int Go.IntKind.i64 s.shift, Go.SE.SV.bool s.back] = Go.SE.SV.agg [Go.SE.SV.int
 Go.IntKind.i64 (L.inv s n).shift, Go.SE.SV.bool (L.inv s n).back] ∧ (0 : Int) = L.invE s n) ∧ (s.back = Bool.false → Go.SE.InK Go.IntKind.i64 (n - s.shift) ∧ n ≠ (0 : Int) ∧ Go.SE.SV.agg [Go.SE.SV.int Go.IntKind.i64 (Int.tmod (n - s.shift) n), Go.SE.SV.bool Bool.false] = Go.SE.SV.agg [Go.SE.SV.int Go.IntKind.i64 (L.inv s n).shift, Go.SE.SV.bool (L.inv s n).back] ∧ (0 : Int) = L.invE s n))) (by kernel_rfl) (by
    refine ⟨trivial, fun h => ?_, fun h => ⟨fun hb => ?_, fun hb => ?_⟩⟩
    · have hv : L.validSet s n = false := notT h
      unfold L.inv L.invE; rw [hv]; exact ⟨rfl, rfl⟩
    · have hv : L.validSet s n = true := notF h
      unfold L.inv L.invE; rw [hv, hb, cond_true, cond_true, hb]; exact ⟨rfl, rfl⟩
    · have hv : L.validSet s n = true := notF h
      have hs := validSet_iff.1 hv
      unfold L.inv L.invE; rw [hv, hb]; exact ⟨InK.of (by omega) (by omega), by omega, rfl, rfl⟩)
theorem r1_Inverse_ok : SpecOk Tryz.prog 38 r1_Inverse_S := fnX Tryz.func38 (c := bodyOf Tryz.f38) (by kernel_rfl) mixed (fun args p r hs hp => by
  unfold r1_Inverse_s at hs
  split at hs
  · cases hs; exact ⟨_, _, r1_Inverse_vc _ _ hp, (.same _ (.same _ .nil)), ⟨show SpecsL Tryz.prog _ from (SpecsL.cons r1_ValidSetting_ok r1_ValidSetting_en SpecsL.nil), rfl, ⟨show ItersL Tryz.prog _ from ItersL.nil, (TrsOk.none (fun _ => rfl))⟩⟩⟩
  · cases hs)
theorem r1_Inverse_en : Enters Tryz.prog 38 := fun args w => by kernel_rfl
def r1_Edge_p (s : L.Setting) (n : Int) (i : Int) : Prop := True
def r1_Edge_r (s : L.Setting) (n : Int) (i : Int) : SV := .tup [.int .i64 (L.ed s n i), .int .i64 (L.edE s n i)]
def r1_Edge_s : List EV → Option (Prop × SV)
  | [.p (.agg [.int .i64 s_shift, .bool s_back]), .p (.int .i64 n), .p (.int .i64 i)] => some (r1_Edge_p (⟨s_shift, s_back⟩ : L.Setting) n i, r1_Edge_r (⟨s_shift, s_back⟩ : L.Setting) n i)
  | _ => none
abbrev r1_Edge_S : SE.Spec := (specO r1_Edge_s)
def r1_Edge_C : Cfg := { muts := [], frz := lookN [], specs := lookS [(21, r1_ValidSetting_S), (87, r1_Laid_S)], loops := lookL [], iters := lookI [], rfs := lookR [], nils := lookM [] }
theorem r1_Edge_vc (s : L.Setting) (n : Int) (i : Int) (hp : r1_Edge_p s n i) : vc Tryz.prog (r1_Edge_C) (bodyOf Tryz.f40) (st0 Tryz.f40 [.p (.agg [.int .i64 s.shift, .bool s.back]), .p (.int .i64 n), .p (.int .i64 i)]) (retFn Tryz.prog Tryz.f40 (r1_Edge_r s n i)) :=
  @Eq.mpr _ (True ∧ ((bif bif !L.validSet s n then Bool.true else Decidable.decide (i < (0 : Int)) then Bool.true else Decidable.decide (n ≤ i)) = Bool.true → (0 : Int) = L.ed s n i ∧ (1 : Int) = L.edE s n i) ∧ ((bif bif !L.validSet s n then Bool.true else Decidable.decide (i < (0 : Int)) then Bool.true else Decidable.decide (n ≤ i)) = Bool.false → ((1 : Int) ≤ n ∧ n ≤ (1000000 : Int) ∧ (-1000000 : Int) ≤
 s.shift ∧ s.shift ≤ (1000000 : Int) ∧ (-1000000 : Int) ≤ i ∧ i ≤ (1000000 : Int)) ∧ L.lay s n i = L.ed s n i ∧ (0 : Int) = L.edE s n i)) (by kernel_rfl) (by
    refine ⟨trivial, fun h => ?_, fun h => ?_⟩
    · have e : L.edE s n i = 1 := by
        unfold L.edE
        revert h
        simp only [bor, Bool.or_eq_true]
        intro h
        cases hv : L.validSet s n with
        | false => rfl
        | true =>
          rw [hv] at h
          have hw : L.within i 0 (n - 1) = false := by
            cases hw : L.within i 0 (n - 1) with
            | false => rfl
            | true =>
              have := within_iff.1 hw
              rcases h with (h | h) | h
              · cases h
              · have := of_decide_eq_true h; omega
              · have := of_decide_eq_true h; omega
          rw [hw]; rfl
      unfold L.ed; rw [e]; exact ⟨rfl, rfl⟩
    · simp only [bor, Bool.or_eq_false_iff] at h
      obtain ⟨⟨hs, h0⟩, h1⟩ := h
      have hs := notF hs
      have a := validSet_iff.1 hs
      have h0 := of_decide_eq_false h0
      have h1 := of_decide_eq_false h1
      obtain ⟨d1, d2⟩ := ed_ok hs (i := i) (by omega) (by omega)
      rw [d1, d2]
      exact ⟨⟨by omega, by omega, by omega, by omega, by omega, by omega⟩, rfl, rfl⟩)
theorem r1_Edge_ok : SpecOk Tryz.prog 40 r1_Edge_S := fnX Tryz.func40 (c := bodyOf Tryz.f40) (by kernel_rfl) mixed (fun args p r hs hp => by
  unfold r1_Edge_s at hs
  split at hs
  · cases hs; exact ⟨_, _, r1_Edge_vc _ _ _ hp, (.same _ (.same _ (.same _ .nil))), ⟨show SpecsL Tryz.prog _ from (SpecsL.cons r1_ValidSetting_ok r1_ValidSetting_en (SpecsL.cons r1_Laid_ok r1_Laid_en SpecsL.nil)), rfl, ⟨show ItersL Tryz.prog _ from ItersL.nil, (TrsOk.none (fun _ => rfl))⟩⟩⟩
  · cases hs)
theorem r1_Edge_en : Enters Tryz.prog 40 := fun args w => by kernel_rfl
def w_Settings_p (p : (L.Sq L.Pt)) (q : (L.Sq L.Pt)) (s : L.Setting) (t : L.Setting) (n : Int) (i : Int) : Prop := p.n ≤ 9223372036854775807 ∧ q.n ≤ 9223372036854775807
def w_Settings_r (p : (L.Sq L.Pt)) (q : (L.Sq L.Pt)) (s : L.Setting) (t : L.Setting) (n : Int) (i : Int) : SV := .bool true
def w_Settings_s : List EV → Option (Prop × SV)
  | [.p (.sl 2 p_n p_g), .p (.sl 2 q_n q_g), .p (.agg [.int .i64 s_shift, .bool s_back]), .p (.agg [.int .i64 t_shift, .bool t_back]), .p (.int .i64 n), .p (.int .i64 i)] => some ((∀ i, i < p_n → p_g i = [.int .i64 ((ofPt (p_g i)).x), .int .i64 ((ofPt (p_g i)).y)]) ∧ (∀ i, i < q_n → q_g i = [.int .i64 ((ofPt (q_g i)).x), .int .i64 ((ofPt (q_g i)).y)]) ∧ w_Settings_p (⟨p_n, fun i => ofPt (p_g i)⟩ : (L.Sq L.Pt)) (⟨q_n, fun i => ofPt (q_g i)⟩ : (L.Sq L.Pt)) (⟨s_shift, s_back⟩ : L.Setting) (⟨t_shift, t_back⟩ : L.Setting) n i, w_Settings_r (⟨p_n, fun i => ofPt (p_g i)⟩ : (L.Sq L.Pt)) (⟨q_n, fun i => ofPt (q_g i)⟩ : (L.Sq L.Pt)) (⟨s_shift, s_back⟩ : L.Setting) (⟨t_shift, t_back⟩ : L.Setting) n i)
  | _ => none
abbrev w_Settings_S : SE.Spec := (specO w_Settings_s)
def w_Settings_C : Cfg := { muts := [], frz := lookN [], specs := lookS [(33, w_awake_S), (34, p_Settings_S), (35, r1_Settings_S), (30, r1_SameSettings_S), (36, p_ValidSetting_S), (21, r1_ValidSetting_S), (22, p_Compose_S), (37, r1_Compose_S), (23, p_Inverse_S), (38, r1_Inverse_S), (39, p_Edge_S), (40, r1_Edge_S)], loops := lookL [], iters := lookI [], rfs := lookR [], nils := lookM [] }
theorem w_Settings_vc (p : (L.Sq L.Pt)) (q : (L.Sq L.Pt)) (s : L.Setting) (t : L.Setting) (n : Int) (i : Int) (hp : w_Settings_p p q s t n i) : vc Tryz.prog (w_Settings_C) (bodyOf Tryz.f7) (st0 Tryz.f7 [.p (.sl 2 p.n (fun i => [.int .i64 ((p.g i).x), .int .i64 ((p.g i).y)])), .p (.sl 2 q.n (fun i => [.int .i64 ((q.g i).x), .int .i64 ((q.g i).y)])), .p (.agg [.int .i64 s.shift, .bool s.back]), .p (.agg [.int .i64 t.shift, .bool t.back]), .p (.int .i64 n), .p (.int .i64 i)]) (retFn Tryz.prog Tryz.f7 (w_Settings_r p q s t n i)) :=
  @Eq.mpr _ (True ∧ ((bif Decidable.decide ((60 : Int) < (↑p.n : Int)) then Bool.true else Decidable.decide ((60 : Int) < (↑q.n : Int))) = Bool.true → Bool.true = Bool.true) ∧ ((bif Decidable.decide ((60 : Int) < (↑p.n : Int)) then Bool.true else Decidable.decide ((60 : Int) < (↑q.n : Int))) = Bool.false → ((∀ (i : Nat), i < p.n → [Go.SE.SV.int Go.IntKind.i64 (p.g i).x, Go.SE.SV.int Go.IntKind.i64 (p.g i).y] =
 [Go.SE.SV.int Go.IntKind.i64 (p.g i).x, Go.SE.SV.int Go.IntKind.i64 (p.g i).y]) ∧ (∀ (i : Nat), i < q.n → [Go.SE.SV.int Go.IntKind.i64 (q.g i).x, Go.SE.SV.int Go.IntKind.i64 (q.g i).y] = [Go.SE.SV.int Go.IntKind.i64 (q.g i).x, Go.SE.SV.int Go.IntKind.i64 (q.g i).y]) ∧ p.n ≤ (1000000 : Nat) ∧ q.n ≤ (1000000 : Nat)) ∧ ((∀ (i : Nat), i < p.n → [Go.SE.SV.int Go.IntKind.i64 (p.g i).x, Go.SE.SV.int
 Go.IntKind.i64 (p.g i).y] = [Go.SE.SV.int Go.IntKind.i64 (p.g i).x, Go.SE.SV.int Go.IntKind.i64 (p.g i).y]) ∧ (∀ (i : Nat), i < q.n → [Go.SE.SV.int Go.IntKind.i64 (q.g i).x, Go.SE.SV.int Go.IntKind.i64 (q.g i).y] = [Go.SE.SV.int Go.IntKind.i64 (q.g i).x, Go.SE.SV.int Go.IntKind.i64 (q.g i).y]) ∧ p.n ≤ (1000000 : Nat) ∧ q.n ≤ (1000000 : Nat)) ∧ ((!!Decidable.decide (L.conE (L.Sq.mk p.n fun (i :
 Nat) ↦ p.g i) (L.Sq.mk q.n fun (i : Nat) ↦ q.g i) = L.conE (L.Sq.mk p.n fun (i : Nat) ↦ p.g i) (L.Sq.mk q.n fun (i : Nat) ↦ q.g i))) = Bool.true → (∀ (i : Nat), i < L.conN (L.Sq.mk p.n fun (i : Nat) ↦ p.g i) (L.Sq.mk q.n fun (i : Nat) ↦ q.g i) → [Go.SE.SV.int Go.IntKind.i64 (L.conG (L.Sq.mk p.n fun (i : Nat) ↦ p.g i) (L.Sq.mk q.n fun (i : Nat) ↦ q.g i) i).shift, Go.SE.SV.bool (L.conG (L.Sq.mk p.n
 fun (i : Nat) ↦ p.g i) (L.Sq.mk q.n fun (i : Nat) ↦ q.g i) i).back] = [Go.SE.SV.int Go.IntKind.i64 (L.conG (L.Sq.mk p.n fun (i : Nat) ↦ p.g i) (L.Sq.mk q.n fun (i : Nat) ↦ q.g i) i).shift, Go.SE.SV.bool (L.conG (L.Sq.mk p.n fun (i : Nat) ↦ p.g i) (L.Sq.mk q.n fun (i : Nat) ↦ q.g i) i).back]) ∧ (∀ (i : Nat), i < L.conN (L.Sq.mk p.n fun (i : Nat) ↦ p.g i) (L.Sq.mk q.n fun (i : Nat) ↦ q.g i) →
 [Go.SE.SV.int Go.IntKind.i64 (L.conG (L.Sq.mk p.n fun (i : Nat) ↦ p.g i) (L.Sq.mk q.n fun (i : Nat) ↦ q.g i) i).shift, Go.SE.SV.bool (L.conG (L.Sq.mk p.n fun (i : Nat) ↦ p.g i) (L.Sq.mk q.n fun (i : Nat) ↦ q.g i) i).back] = [Go.SE.SV.int Go.IntKind.i64 (L.conG (L.Sq.mk p.n fun (i : Nat) ↦ p.g i) (L.Sq.mk q.n fun (i : Nat) ↦ q.g i) i).shift, Go.SE.SV.bool (L.conG (L.Sq.mk p.n fun (i : Nat) ↦ p.g i)
 (L.Sq.mk q.n fun (i : Nat) ↦ q.g i) i).back]) ∧ L.conN (L.Sq.mk p.n fun (i : Nat) ↦ p.g i) (L.Sq.mk q.n fun (i : Nat) ↦ q.g i) ≤ (1000000 : Nat)) ∧ ((!bif !Decidable.decide (L.conE (L.Sq.mk p.n fun (i : Nat) ↦ p.g i) (L.Sq.mk q.n fun (i : Nat) ↦ q.g i) = L.conE (L.Sq.mk p.n fun (i : Nat) ↦ p.g i) (L.Sq.mk q.n fun (i : Nat) ↦ q.g i)) then Bool.true else !L.sameSs (L.Sq.mk (L.conN (L.Sq.mk p.n fun
 (i : Nat) ↦ p.g i) (L.Sq.mk q.n fun (i : Nat) ↦ q.g i)) fun (i : Nat) ↦ L.conG (L.Sq.mk p.n fun (i : Nat) ↦ p.g i) (L.Sq.mk q.n fun (i : Nat) ↦ q.g i) i) (L.Sq.mk (L.conN (L.Sq.mk p.n fun (i : Nat) ↦ p.g i) (L.Sq.mk q.n fun (i : Nat) ↦ q.g i)) fun (i : Nat) ↦ L.conG (L.Sq.mk p.n fun (i : Nat) ↦ p.g i) (L.Sq.mk q.n fun (i : Nat) ↦ q.g i) i)) = Bool.true → True) ∧ ((!bif !Decidable.decide (L.conE
 (L.Sq.mk p.n fun (i : Nat) ↦ p.g i) (L.Sq.mk q.n fun (i : Nat) ↦ q.g i) = L.conE (L.Sq.mk p.n fun (i : Nat) ↦ p.g i) (L.Sq.mk q.n fun (i : Nat) ↦ q.g i)) then Bool.true else !L.sameSs (L.Sq.mk (L.conN (L.Sq.mk p.n fun (i : Nat) ↦ p.g i) (L.Sq.mk q.n fun (i : Nat) ↦ q.g i)) fun (i : Nat) ↦ L.conG (L.Sq.mk p.n fun (i : Nat) ↦ p.g i) (L.Sq.mk q.n fun (i : Nat) ↦ q.g i) i) (L.Sq.mk (L.conN (L.Sq.mk
 p.n fun (i : Nat) ↦ p.g i) (L.Sq.mk q.n fun (i : Nat) ↦ q.g i)) fun (i : Nat) ↦ L.conG (L.Sq.mk p.n fun (i : Nat) ↦ p.g i) (L.Sq.mk q.n fun (i : Nat) ↦ q.g i) i)) = Bool.true → True) ∧ ((bif bif !Decidable.decide (L.conE (L.Sq.mk p.n fun (i : Nat) ↦ p.g i) (L.Sq.mk q.n fun (i : Nat) ↦ q.g i) = L.conE (L.Sq.mk p.n fun (i : Nat) ↦ p.g i) (L.Sq.mk q.n fun (i : Nat) ↦ q.g i)) then Bool.true else
 !L.sameSs (L.Sq.mk (L.conN (L.Sq.mk p.n fun (i : Nat) ↦ p.g i) (L.Sq.mk q.n fun (i : Nat) ↦ q.g i)) fun (i : Nat) ↦ L.conG (L.Sq.mk p.n fun (i : Nat) ↦ p.g i) (L.Sq.mk q.n fun (i : Nat) ↦ q.g i) i) (L.Sq.mk (L.conN (L.Sq.mk p.n fun (i : Nat) ↦ p.g i) (L.Sq.mk q.n fun (i : Nat) ↦ q.g i)) fun (i : Nat) ↦ L.conG (L.Sq.mk p.n fun (i : Nat) ↦ p.g i) (L.Sq.mk q.n fun (i : Nat) ↦ q.g i) i) then Bool.true
 else !L.validSet s n == L.validSet s n) = Bool.true → Bool.false = Bool.true) ∧ ((bif bif !Decidable.decide (L.conE (L.Sq.mk p.n fun (i : Nat) ↦ p.g i) (L.Sq.mk q.n fun (i : Nat) ↦ q.g i) = L.conE (L.Sq.mk p.n fun (i : Nat) ↦ p.g i) (L.Sq.mk q.n fun (i : Nat) ↦ q.g i)) then Bool.true else !L.sameSs (L.Sq.mk (L.conN (L.Sq.mk p.n fun (i : Nat) ↦ p.g i) (L.Sq.mk q.n fun (i : Nat) ↦ q.g i)) fun (i :
 Nat) ↦ L.conG (L.Sq.mk p.n fun (i : Nat) ↦ p.g i) (L.Sq.mk q.n fun (i : Nat) ↦ q.g i) i) (L.Sq.mk (L.conN (L.Sq.mk p.n fun (i : Nat) ↦ p.g i) (L.Sq.mk q.n fun (i : Nat) ↦ q.g i)) fun (i : Nat) ↦ L.conG (L.Sq.mk p.n fun (i : Nat) ↦ p.g i) (L.Sq.mk q.n fun (i : Nat) ↦ q.g i) i) then Bool.true else !L.validSet s n == L.validSet s n) = Bool.false → True ∧ True ∧ True ∧ True ∧ True ∧ True ∧ (bif bif
 bif bif bif bif Bool.true then Decidable.decide (L.compE s t n = L.compE s t n) else Bool.false then Decidable.decide ((L.comp s t n).shift = (L.comp s t n).shift) && (L.comp s t n).back == (L.comp s t n).back else Bool.false then Decidable.decide (L.invE s n = L.invE s n) else Bool.false then Decidable.decide ((L.inv s n).shift = (L.inv s n).shift) && (L.inv s n).back == (L.inv s n).back else
 Bool.false then Decidable.decide (L.edE s n i = L.edE s n i) else Bool.false then Decidable.decide (L.ed s n i = L.ed s n i) else Bool.false) = Bool.true))) (by kernel_rfl) (by
    refine ⟨trivial, fun _ => rfl, fun h => ?_⟩
    rw [bor, Bool.or_eq_false_iff] at h
    have h1 := of_decide_eq_false h.1
    have h2 := of_decide_eq_false h.2
    have hc : L.conN p q ≤ 2 * p.n := conN_le
    refine ⟨⟨fun _ _ => rfl, fun _ _ => rfl, by omega, by omega⟩, ⟨fun _ _ => rfl, fun _ _ => rfl, by omega, by omega⟩, fun _ => ⟨fun _ _ => rfl, fun _ _ => rfl, show L.conN p q ≤ 1000000 by omega⟩, fun _ => trivial, fun _ => trivial, fun h => ?_, fun _ => ⟨trivial, trivial, trivial, trivial, trivial, trivial, ?_⟩⟩
    · simp [sameSs_refl] at h
    · simp)
theorem w_Settings_ok : SpecOk Tryz.prog 7 w_Settings_S := fnX Tryz.func7 (c := bodyOf Tryz.f7) (by kernel_rfl) mixed (fun args p r hs hp => by
  unfold w_Settings_s at hs
  split at hs
  · cases hs; exact ⟨_, _, w_Settings_vc _ _ _ _ _ _ hp.2.2, (.p (.sl hp.1) (.p (.sl hp.2.1) (.same _ (.same _ (.same _ (.same _ .nil)))))), ⟨show SpecsL Tryz.prog _ from (SpecsL.cons w_awake_ok w_awake_en (SpecsL.cons p_Settings_ok p_Settings_en (SpecsL.cons r1_Settings_ok r1_Settings_en (SpecsL.cons r1_SameSettings_ok r1_SameSettings_en (SpecsL.cons p_ValidSetting_ok p_ValidSetting_en (SpecsL.cons r1_ValidSetting_ok r1_ValidSetting_en (SpecsL.cons p_Compose_ok p_Compose_en (SpecsL.cons r1_Compose_ok r1_Compose_en (SpecsL.cons p_Inverse_ok p_Inverse_en (SpecsL.cons r1_Inverse_ok r1_Inverse_en (SpecsL.cons p_Edge_ok p_Edge_en (SpecsL.cons r1_Edge_ok r1_Edge_en SpecsL.nil)))))))))))), rfl, ⟨show ItersL Tryz.prog _ from ItersL.nil, (TrsOk.none (fun _ => rfl))⟩⟩⟩
  · cases hs)
theorem w_Settings_en : Enters Tryz.prog 7 := fun args w => by kernel_rfl
theorem w_Settings_B : ∀ args p r, w_Settings_s args = some (p, r) → ∃ b, r = .bool b := by
  intro args p r h
  unfold w_Settings_s at h
  split at h
  · cases h; exact ⟨_, rfl⟩
  · cases h
end Go.Proofs.YtkklpamllfkbaaaGreat
