/- A symbolic walk over the model, and what it shows of functions of the program: parts of the proof that the text of the row joins. -/
import Derived.Test.YtinfalehnaejbaaW1
import Derived.Test.YtinfalehnaejbaaE4
import Derived.KernelRfl

namespace Go.Proofs.Ytinfalehnaejbaa
open Go.SE Go.RowKit
set_option maxRecDepth 100000
set_option maxHeartbeats 4000000
set_option linter.unusedVariables false
attribute [local irreducible] vc

def L.gcd (a b : Int) : Int := ((Nat.gcd a.natAbs b.natAbs : Nat) : Int)
def L.ng (x y : Nat) : Nat := Nat.gcd x y
def L.nabs (a : Int) : Nat := a.natAbs
def L.hit (d n : L.Pt) : Bool := decide (0 < d.x * n.x + d.y * n.y)
def L.free (d : L.Pt) (N : L.Sq L.Pt) : Bool := !L.anyB N.n (fun i => L.hit d (N.g i))
def L.isNrm (p : L.Pt) : Bool := !(decide (p.x = 0) && decide (p.y = 0)) && (L.within p.x (-4096) 4096 && L.within p.y (-4096) 4096)
def L.nrms (N : L.Sq L.Pt) : Prop := N.n ≤ 1000000 ∧ ∀ i, i < N.n → L.isNrm (N.g i) = true
def L.dir (p : L.Pt) (s : Nat) : L.Pt := bif decide (s = 0) then ⟨Int.tdiv (0 - p.y) (L.gcd p.x p.y), Int.tdiv p.x (L.gcd p.x p.y)⟩ else ⟨Int.tdiv p.y (L.gcd p.x p.y), Int.tdiv (0 - p.x) (L.gcd p.x p.y)⟩
def L.cand (N : L.Sq L.Pt) (c : Nat) : L.Pt := L.dir (N.g (c / 2)) (c % 2)
def L.wayI (N : L.Sq L.Pt) : Int := L.idx (2 * N.n) (fun c => L.free (L.cand N c) N)
def L.wayOk (N : L.Sq L.Pt) : Bool := decide (N.n = 0) || decide (0 ≤ L.wayI N)
def L.wayD (N : L.Sq L.Pt) : L.Pt := bif decide (N.n = 0) then ⟨1, 0⟩ else bif decide (0 ≤ L.wayI N) then L.cand N (L.wayI N).toNat else ⟨0, 0⟩
theorem isNrm_of {p : L.Pt} (h : L.isNrm p = true) : ((-4096 ≤ p.x ∧ p.x ≤ 4096) ∧ (-4096 ≤ p.y ∧ p.y ≤ 4096)) ∧ 1 ≤ L.gcd p.x p.y ∧ L.bd p := by
  unfold L.isNrm L.within at h
  simp only [Bool.and_eq_true, Bool.not_eq_true', Bool.and_eq_false_iff, decide_eq_true_eq, decide_eq_false_iff_not] at h
  obtain ⟨h1, h2, h3⟩ := h
  have hg : 0 < Nat.gcd p.x.natAbs p.y.natAbs := by
    rcases h1 with h1 | h1
    · exact Nat.gcd_pos_of_pos_left _ (by omega)
    · exact Nat.gcd_pos_of_pos_right _ (by omega)
  refine ⟨⟨h2, h3⟩, ?_, ?_⟩
  · unfold L.gcd; omega
  · unfold L.bd; omega
theorem tdiv_bd {a g : Int} (h0 : -4096 ≤ a) (h1 : a ≤ 4096) (hg : 1 ≤ g) : -4096 ≤ Int.tdiv a g ∧ Int.tdiv a g ≤ 4096 := by
  have h : (Int.tdiv a g).natAbs = a.natAbs / g.natAbs := Int.natAbs_tdiv a g
  have h2 : a.natAbs / g.natAbs ≤ a.natAbs := Nat.div_le_self _ _
  omega
theorem cand_eq (N : L.Sq L.Pt) (g : Nat) {s : Nat} (h : s < 2) : L.cand N (2 * g + s) = L.dir (N.g g) s := by
  unfold L.cand
  rw [show (2 * g + s) / 2 = g by omega, show (2 * g + s) % 2 = s by omega]
theorem way_at {N : L.Sq L.Pt} {c : Nat} (h0 : ∀ j, j < c → L.free (L.cand N j) N = false) (hi : L.free (L.cand N c) N = true) (hc : c < 2 * N.n) : L.wayD N = L.cand N c ∧ L.wayOk N = true := by
  have e : L.wayI N = (c : Int) := idx_at (f := fun c => L.free (L.cand N c) N) h0 hi hc
  have hd : decide (N.n = 0) = false := decide_eq_false (by omega)
  unfold L.wayD L.wayOk
  rw [e, hd, decide_eq_true (show (0 : Int) ≤ (c : Int) by omega)]
  exact ⟨by show L.cand N (c : Int).toNat = _; rw [Int.toNat_natCast], rfl⟩
theorem way_no {N : L.Sq L.Pt} (h1 : 0 < N.n) (h0 : ∀ j, j < 2 * N.n → L.free (L.cand N j) N = false) : L.wayD N = ⟨0, 0⟩ ∧ L.wayOk N = false := by
  have e : L.wayI N = -1 := idx_none (f := fun c => L.free (L.cand N c) N) h0
  have hd : decide (N.n = 0) = false := decide_eq_false (by omega)
  unfold L.wayD L.wayOk
  rw [e, hd]
  exact ⟨rfl, rfl⟩
theorem way_0 {N : L.Sq L.Pt} (h : N.n = 0) : L.wayD N = ⟨1, 0⟩ ∧ L.wayOk N = true := by
  unfold L.wayD L.wayOk
  rw [decide_eq_true h]
  exact ⟨rfl, rfl⟩
theorem dir_bd {p : L.Pt} (h : L.isNrm p = true) (s : Nat) : L.bd (L.dir p s) := by
  obtain ⟨⟨⟨a1, a2⟩, b1, b2⟩, hg, _⟩ := isNrm_of h
  have t1 := tdiv_bd (a := p.x) (g := L.gcd p.x p.y) a1 a2 hg
  have t2 := tdiv_bd (a := p.y) (g := L.gcd p.x p.y) b1 b2 hg
  have t3 := tdiv_bd (a := 0 - p.x) (g := L.gcd p.x p.y) (by omega) (by omega) hg
  have t4 := tdiv_bd (a := 0 - p.y) (g := L.gcd p.x p.y) (by omega) (by omega) hg
  unfold L.dir
  cases decide (s = 0)
  · unfold L.bd; simp only [cond_false]; omega
  · unfold L.bd; simp only [cond_true]; omega
def p_gcd_p (a : Int) (b : Int) : Prop := (-4611686018427387904 ≤ a ∧ a ≤ 4611686018427387904) ∧ -4611686018427387904 ≤ b ∧ b ≤ 4611686018427387904
def p_gcd_r (a : Int) (b : Int) : SV := .int .i64 (L.gcd a b)
def p_gcd_s : List EV → Option (Prop × SV)
  | [.p (.int .i64 a), .p (.int .i64 b)] => some (p_gcd_p a b, p_gcd_r a b)
  | _ => none
abbrev p_gcd_S : SE.Spec := (specO p_gcd_s)
def p_gcd_C : Cfg := { muts := [], frz := lookN [], specs := lookS [], loops := fun _ => none, iters := lookI [], rfs := lookR [], nils := lookM [] }
theorem p_gcd_vc (a : Int) (b : Int) (hp : p_gcd_p a b) : vc Try.prog ({ p_gcd_C with loops := lookL [(2, { T := Nat × Nat, keep := [], keepO := [], chg := fun g => [(0, .p (.int .i64 (g.1 : Int))), (1, .p (.int .i64 (g.2 : Int)))], own := fun _ => [], inv := fun g => L.ng g.1 g.2 = L.ng (L.nabs a) (L.nabs b) ∧ g.1 ≤ 4611686018427387904 ∧ g.2 ≤ 4611686018427387904, mu := fun g => g.2 })], rfs := lookR [] }) (bodyOf Try.f15) (st0 Try.f15 [.p (.int .i64 a), .p (.int .i64 b)]) (retFn Try.prog Try.f15 (p_gcd_r a b)) :=
  @Eq.mpr _ (InK .i64 ((0 : Int) - a) ∧ InK .i64 ((0 : Int) - b) ∧ (∃ (g : Nat × Nat), Max.max a ((0 : Int) - a) = (↑g.1 : Int) ∧ Max.max b ((0 : Int) - b) = (↑g.2 : Int) ∧ L.ng g.1 g.2 = L.ng (L.nabs a) (L.nabs b) ∧ g.1 ≤ (4611686018427387904 : Nat) ∧ g.2 ≤ (4611686018427387904 : Nat)) ∧ ∀ (g : Nat × Nat), L.ng g.1 g.2 = L.ng (L.nabs a) (L.nabs b) ∧ g.1 ≤ (4611686018427387904 :
 Nat) ∧ g.2 ≤ (4611686018427387904 : Nat) → (decide ((0 : Int) < (↑g.2 : Int)) = true → (↑g.2 : Int) ≠ (0 : Int) ∧ ∃ (g' : Nat × Nat), (↑g.2 : Int) = (↑g'.1 : Int) ∧ Int.tmod (↑g.1 : Int) (↑g.2 : Int) = (↑g'.2 : Int) ∧ (L.ng g'.1 g'.2 = L.ng (L.nabs a) (L.nabs b) ∧ g'.1 ≤ (4611686018427387904 : Nat) ∧ g'.2 ≤ (4611686018427387904 : Nat)) ∧ g'.2 < g.2) ∧ (decide ((0 : Int) <
 (↑g.2 : Int)) = false → (↑g.1 : Int) = L.gcd a b)) (by kernel_rfl) (by
    obtain ⟨⟨a1, a2⟩, b1, b2⟩ := hp
    refine ⟨InK.of (by omega) (by omega), InK.of (by omega) (by omega), ⟨(a.natAbs, b.natAbs), by show max a (0 - a) = ((a.natAbs : Nat) : Int); omega, by show max b (0 - b) = ((b.natAbs : Nat) : Int); omega, rfl, by show a.natAbs ≤ 4611686018427387904; omega, by show b.natAbs ≤ 4611686018427387904; omega⟩, ?_⟩
    rintro ⟨x, y⟩ ⟨h1, h2, h3⟩
    have h1 : Nat.gcd x y = Nat.gcd a.natAbs b.natAbs := h1
    have h2 : x ≤ 4611686018427387904 := h2
    have h3 : y ≤ 4611686018427387904 := h3
    refine ⟨fun hd => ?_, fun hd => ?_⟩
    · have hd : (0 : Int) < (y : Int) := of_decide_eq_true hd
      have hm : x % y < y := Nat.mod_lt _ (by omega)
      refine ⟨by show (y : Int) ≠ 0; omega, (y, x % y), rfl, rfl, ⟨?_, h3, by show x % y ≤ 4611686018427387904; omega⟩, hm⟩
      show Nat.gcd y (x % y) = Nat.gcd a.natAbs b.natAbs
      rw [← h1, Nat.gcd_comm y (x % y), ← Nat.gcd_rec y x, Nat.gcd_comm y x]
    · have hd : ¬ (0 : Int) < (y : Int) := of_decide_eq_false hd
      obtain rfl : y = 0 := by omega
      rw [Nat.gcd_zero_right] at h1
      show (x : Int) = L.gcd a b
      unfold L.gcd
      rw [h1])
theorem p_gcd_ok : SpecOk Try.prog 15 p_gcd_S := fnX Try.func15 (c := bodyOf Try.f15) (by kernel_rfl) mixed (fun args p r hs hp => by
  unfold p_gcd_s at hs
  split at hs
  · cases hs; exact ⟨_, _, p_gcd_vc _ _ hp, (.same _ (.same _ .nil)), ⟨show SpecsL Try.prog _ from SpecsL.nil, rfl, ⟨show ItersL Try.prog _ from ItersL.nil, (TrsOk.none (fun _ => rfl))⟩⟩⟩
  · cases hs)
theorem p_gcd_en : Enters Try.prog 15 := fun args w => by kernel_rfl
def p_free1_p (n : L.Pt) (d : L.Pt) : Prop := L.bd n ∧ L.bd d
def p_free1_r (n : L.Pt) (d : L.Pt) : SV := .bool (L.hit d n)
def p_free1_s : List EV → Option (Prop × SV)
  | [.p (.agg [.int .i64 n_x, .int .i64 n_y]), .p (.ref [.int .i64 d_x, .int .i64 d_y] 0)] => some (p_free1_p (⟨n_x, n_y⟩ : L.Pt) (⟨d_x, d_y⟩ : L.Pt), p_free1_r (⟨n_x, n_y⟩ : L.Pt) (⟨d_x, d_y⟩ : L.Pt))
  | _ => none
abbrev p_free1_S : SE.Spec := (specO p_free1_s)
def p_free1_C : Cfg := { muts := [], frz := lookN [], specs := lookS [], loops := lookL [], iters := lookI [], rfs := lookR [], nils := lookM [] }
theorem p_free1_vc (n : L.Pt) (d : L.Pt) (hp : p_free1_p n d) : vc Try.prog (p_free1_C) (bodyOf Try.f63) (st0 Try.f63 [.p (.agg [.int .i64 n.x, .int .i64 n.y]), .p (.ref [.int .i64 d.x, .int .i64 d.y] 0)]) (retFn Try.prog Try.f63 (p_free1_r n d)) :=
  @Eq.mpr _ (InK .i64 (d.x * n.x) ∧ InK .i64 (d.y * n.y) ∧ InK .i64 (d.x * n.x + d.y * n.y) ∧ decide ((0 : Int) < d.x * n.x + d.y * n.y) = L.hit d n) (by kernel_rfl) (by
    obtain ⟨h1, h2⟩ := hp
    unfold L.bd at h1 h2
    have m1 := mul_bd (a := d.x) (b := n.x) (m := 4000000) (n := 4000000) (by omega) (by omega) (by omega) (by omega)
    have m2 := mul_bd (a := d.y) (b := n.y) (m := 4000000) (n := 4000000) (by omega) (by omega) (by omega) (by omega)
    exact ⟨InK.of (by omega) (by omega), InK.of (by omega) (by omega), InK.of (by omega) (by omega), rfl⟩)
theorem p_free1_ok : SpecOk Try.prog 63 p_free1_S := fnX Try.func63 (c := bodyOf Try.f63) (by kernel_rfl) mixed (fun args p r hs hp => by
  unfold p_free1_s at hs
  split at hs
  · cases hs; exact ⟨_, _, p_free1_vc _ _ hp, (.same _ (.same _ .nil)), ⟨show SpecsL Try.prog _ from SpecsL.nil, rfl, ⟨show ItersL Try.prog _ from ItersL.nil, (TrsOk.none (fun _ => rfl))⟩⟩⟩
  · cases hs)
theorem p_free1_en : Enters Try.prog 63 := fun args w => by kernel_rfl
theorem p_free1_B : ∀ args p r, p_free1_s args = some (p, r) → ∃ b, r = .bool b := by
  intro args p r h
  unfold p_free1_s at h
  split at h
  · cases h; exact ⟨_, rfl⟩
  · cases h
def p_free_p (d : L.Pt) (l : (L.Sq L.Pt)) : Prop := l.n ≤ 1000000 ∧ L.bd d ∧ ∀ i, i < l.n → L.bd (l.g i)
def p_free_r (d : L.Pt) (l : (L.Sq L.Pt)) : SV := .bool (L.free d l)
def p_free_s : List EV → Option (Prop × SV)
  | [.p (.agg [.int .i64 d_x, .int .i64 d_y]), .p (.sl 2 l_n l_g)] => some ((∀ i, i < l_n → l_g i = [.int .i64 ((ofPt (l_g i)).x), .int .i64 ((ofPt (l_g i)).y)]) ∧ p_free_p (⟨d_x, d_y⟩ : L.Pt) (⟨l_n, fun i => ofPt (l_g i)⟩ : (L.Sq L.Pt)), p_free_r (⟨d_x, d_y⟩ : L.Pt) (⟨l_n, fun i => ofPt (l_g i)⟩ : (L.Sq L.Pt)))
  | _ => none
abbrev p_free_S : SE.Spec := (specO p_free_s)
def p_free_C : Cfg := { muts := [], frz := lookN [], specs := lookS [(27, s_conFP_S), (63, p_free1_S)], loops := lookL [], iters := lookI [], rfs := lookR [], nils := lookM [] }
theorem p_free_vc (d : L.Pt) (l : (L.Sq L.Pt)) (hp : p_free_p d l) : vc Try.prog (p_free_C) (bodyOf Try.f45) (st0 Try.f45 [.p (.agg [.int .i64 d.x, .int .i64 d.y]), .p (.sl 2 l.n (fun i => [.int .i64 ((l.g i).x), .int .i64 ((l.g i).y)]))]) (retFn Try.prog Try.f45 (p_free_r d l)) :=
  @Eq.mpr _ (((∀ (i : Nat), i < l.n → [SV.int .i64 (l.g i).x, SV.int .i64 (l.g i).y] = [SV.int .i64 (l.g i).x, SV.int .i64 (l.g i).y]) ∧ isB (FSpec.mk (fun («as» : List SV) ↦ preO p_free1_s (List.map EV.p «as» ++ List.map EV.p [SV.ref [SV.int .i64 d.x, SV.int .i64 d.y]
 (nat_lit 0)])) fun («as» : List SV) ↦ resO p_free1_s (List.map EV.p «as» ++ List.map EV.p [SV.ref [SV.int .i64 d.x, SV.int .i64 d.y] (nat_lit 0)])) ∧ l.n ≤ (1000000 : Nat) ∧ ∀ (i : Nat), i < l.n → L.bd (l.g i) ∧ L.bd d) ∧ (!L.anyB l.n fun (i : Nat) ↦ L.fbl (FSpec.mk (fun («as» : List SV) ↦ preO p_free1_s (List.map
 EV.p «as» ++ List.map EV.p [SV.ref [SV.int .i64 d.x, SV.int .i64 d.y] (nat_lit 0)])) fun («as» : List SV) ↦ resO p_free1_s (List.map EV.p «as» ++ List.map EV.p [SV.ref [SV.int .i64 d.x, SV.int .i64 d.y] (nat_lit 0)])) [SV.agg [SV.int .i64 (l.g i).x, SV.int
 .i64 (l.g i).y]]) = L.free d l) (by kernel_rfl) (by
    obtain ⟨h1, h2, h3⟩ := hp
    exact ⟨⟨fun _ _ => rfl, isB_of p_free1_B _, h1, fun i hi => ⟨h3 i hi, h2⟩⟩, rfl⟩)
theorem p_free_ok : SpecOk Try.prog 45 p_free_S := fnX Try.func45 (c := bodyOf Try.f45) (by kernel_rfl) mixed (fun args p r hs hp => by
  unfold p_free_s at hs
  split at hs
  · cases hs; exact ⟨_, _, p_free_vc _ _ hp.2, (.same _ (.p (.sl hp.1) .nil)), ⟨show SpecsL Try.prog _ from (SpecsL.cons s_conFP_ok s_conFP_en (SpecsL.cons p_free1_ok p_free1_en SpecsL.nil)), rfl, ⟨show ItersL Try.prog _ from ItersL.nil, (TrsOk.none (fun _ => rfl))⟩⟩⟩
  · cases hs)
theorem p_free_en : Enters Try.prog 45 := fun args w => by kernel_rfl
def p_way_p (l : (L.Sq L.Pt)) : Prop := L.nrms l
def p_way_r (l : (L.Sq L.Pt)) : SV := .tup [.agg [.int .i64 (L.wayD l).x, .int .i64 (L.wayD l).y], .bool (L.wayOk l)]
def p_way_s : List EV → Option (Prop × SV)
  | [.p (.sl 2 l_n l_g)] => some ((∀ i, i < l_n → l_g i = [.int .i64 ((ofPt (l_g i)).x), .int .i64 ((ofPt (l_g i)).y)]) ∧ p_way_p (⟨l_n, fun i => ofPt (l_g i)⟩ : (L.Sq L.Pt)), p_way_r (⟨l_n, fun i => ofPt (l_g i)⟩ : (L.Sq L.Pt)))
  | _ => none
abbrev p_way_S : SE.Spec := (specO p_way_s)
def p_way_C : Cfg := { muts := [2, 5, 8], frz := lookN [], specs := lookS [(15, p_gcd_S), (45, p_free_S)], loops := fun _ => none, iters := lookI [], rfs := lookR [], nils := lookM [] }
theorem p_way_vc (l : (L.Sq L.Pt)) (hp : p_way_p l) : vc Try.prog ({ p_way_C with loops := lookL [(4, { T := Nat, keep := [0, 2, 13, 14], keepO := [2], chg := fun i => [(15, .p (.int .i64 (i : Int)))], own := fun _ => [], inv := fun i => i ≤ l.n ∧ ∀ c, c < 2 * i → L.free (L.cand l c) l = false, mu := fun i => l.n - i }), (8, { T := Nat × Nat, keep := [0, 2, 5, 13, 14, 15, 45], keepO := [2, 5], tie := fun g => [(15, .int .i64 (g.1 : Int))], chg := fun g => [(46, .p (.int .i64 (g.2 : Int))), (44, .p (.sl 2 2 (fun s => [.int .i64 ((L.dir (l.g g.1) s).x), .int .i64 ((L.dir (l.g g.1) s).y)])))], own := fun _ => [], inv := fun g => g.1 < l.n ∧ g.2 ≤ 2 ∧ ∀ c, c < 2 * g.1 + g.2 → L.free (L.cand l c) l = false, mu := fun g => 2 - g.2 })], rfs := lookR [] }) (bodyOf Try.f28) (st0 Try.f28 [.p (.sl 2 l.n (fun i => [.int .i64 ((l.g i).x), .int .i64 ((l.g i).y)]))]) (retFn Try.prog Try.f28 (p_way_r l)) :=
  @Eq.mpr _ ((decide ((↑l.n : Int) = (0 : Int)) = true → SV.agg [SV.int .i64 (1 : Int), SV.int .i64 (0 : Int)] = SV.agg [SV.int .i64 (L.wayD l).x, SV.int .i64 (L.wayD l).y] ∧ true = L.wayOk l) ∧ (decide ((↑l.n : Int) = (0 : Int)) = false → (∃ (g : Nat), (0 : Int) = (↑g : Int) ∧ g ≤ l.n ∧ ∀ (c : Nat),
 c < (2 : Nat) * g → L.free (L.cand l c) l = false) ∧ ∀ (g : Nat), (g ≤ l.n ∧ ∀ (c : Nat), c < (2 : Nat) * g → L.free (L.cand l c) l = false) → (decide ((↑g : Int) < (↑l.n : Int)) = true → ((0 : Int) ≤ (↑g : Int) ∧ (↑g : Int) < (↑l.n : Int)) ∧ (((-4611686018427387904 : Int) ≤ (l.g (Int.toNat (↑g : Int))).x ∧ (l.g (Int.toNat (↑g : Int))).x ≤ (4611686018427387904 : Int)) ∧
 (-4611686018427387904 : Int) ≤ (l.g (Int.toNat (↑g : Int))).y ∧ (l.g (Int.toNat (↑g : Int))).y ≤ (4611686018427387904 : Int)) ∧ InK .i64 ((0 : Int) - (l.g (Int.toNat (↑g : Int))).y) ∧ L.gcd (l.g (Int.toNat (↑g : Int))).x (l.g (Int.toNat (↑g : Int))).y ≠ (0 : Int) ∧ InK .i64 (Int.tdiv ((0 : Int) - (l.g (Int.toNat (↑g : Int))).y) (L.gcd (l.g (Int.toNat (↑g : Int))).x
 (l.g (Int.toNat (↑g : Int))).y)) ∧ L.gcd (l.g (Int.toNat (↑g : Int))).x (l.g (Int.toNat (↑g : Int))).y ≠ (0 : Int) ∧ InK .i64 (Int.tdiv (l.g (Int.toNat (↑g : Int))).x (L.gcd (l.g (Int.toNat (↑g : Int))).x (l.g (Int.toNat (↑g : Int))).y)) ∧ L.gcd (l.g (Int.toNat (↑g : Int))).x (l.g (Int.toNat (↑g : Int))).y ≠ (0 : Int) ∧ InK .i64 (Int.tdiv (l.g (Int.toNat (↑g :
 Int))).y (L.gcd (l.g (Int.toNat (↑g : Int))).x (l.g (Int.toNat (↑g : Int))).y)) ∧ InK .i64 ((0 : Int) - (l.g (Int.toNat (↑g : Int))).x) ∧ L.gcd (l.g (Int.toNat (↑g : Int))).x (l.g (Int.toNat (↑g : Int))).y ≠ (0 : Int) ∧ InK .i64 (Int.tdiv ((0 : Int) - (l.g (Int.toNat (↑g : Int))).x) (L.gcd (l.g (Int.toNat (↑g : Int))).x (l.g (Int.toNat (↑g : Int))).y)) ∧ (∃ (g_1 :
 Nat × Nat), (0 : Int) = (↑g_1.2 : Int) ∧ (nat_lit 2 = (2 : Nat) ∧ ∀ (i : Nat), i < nat_lit 2 → rowsOf [SV.int .i64 (Int.tdiv ((0 : Int) - (l.g (Int.toNat (↑g : Int))).y) (L.gcd (l.g (Int.toNat (↑g : Int))).x (l.g (Int.toNat (↑g : Int))).y)), SV.int .i64 (Int.tdiv (l.g (Int.toNat (↑g : Int))).x (L.gcd (l.g (Int.toNat (↑g : Int))).x (l.g (Int.toNat (↑g :
 Int))).y)), SV.int .i64 (Int.tdiv (l.g (Int.toNat (↑g : Int))).y (L.gcd (l.g (Int.toNat (↑g : Int))).x (l.g (Int.toNat (↑g : Int))).y)), SV.int .i64 (Int.tdiv ((0 : Int) - (l.g (Int.toNat (↑g : Int))).x) (L.gcd (l.g (Int.toNat (↑g : Int))).x (l.g (Int.toNat (↑g : Int))).y))] (nat_lit 2) i = [SV.int .i64 (L.dir (l.g g_1.1) i).x, SV.int
 .i64 (L.dir (l.g g_1.1) i).y]) ∧ (↑g : Int) = (↑g_1.1 : Int) ∧ g_1.1 < l.n ∧ g_1.2 ≤ (2 : Nat) ∧ ∀ (c : Nat), c < (2 : Nat) * g_1.1 + g_1.2 → L.free (L.cand l c) l = false) ∧ ∀ (g_1 : Nat × Nat), ((↑g : Int) = (↑g_1.1 : Int) ∧ g_1.1 < l.n ∧ g_1.2 ≤ (2 : Nat) ∧ ∀ (c : Nat), c < (2 : Nat) * g_1.1 + g_1.2 → L.free (L.cand l c) l = false) → (decide ((↑g_1.2 : Int) < (↑(2
 : Nat) : Int)) = true → ((0 : Int) ≤ (↑g_1.2 : Int) ∧ (↑g_1.2 : Int) < (↑(nat_lit 2) : Int)) ∧ ((∀ (i : Nat), i < l.n → [SV.int .i64 (l.g i).x, SV.int .i64 (l.g i).y] = [SV.int .i64 (l.g i).x, SV.int .i64 (l.g i).y]) ∧ l.n ≤ (1000000 : Nat) ∧ L.bd (L.dir (l.g g_1.1) (Int.toNat (↑g_1.2 : Int))) ∧ ∀ (i : Nat), i < l.n → L.bd (l.g
 i)) ∧ (L.free (L.dir (l.g g_1.1) (Int.toNat (↑g_1.2 : Int))) (L.Sq.mk l.n fun (i : Nat) ↦ l.g i) = true → SV.agg [SV.int .i64 (L.dir (l.g g_1.1) (Int.toNat (↑g_1.2 : Int))).x, SV.int .i64 (L.dir (l.g g_1.1) (Int.toNat (↑g_1.2 : Int))).y] = SV.agg [SV.int .i64 (L.wayD l).x, SV.int .i64 (L.wayD l).y] ∧ true =
 L.wayOk l) ∧ (L.free (L.dir (l.g g_1.1) (Int.toNat (↑g_1.2 : Int))) (L.Sq.mk l.n fun (i : Nat) ↦ l.g i) = false → InK .i64 ((↑g_1.2 : Int) + (1 : Int)) ∧ ∃ (g' : Nat × Nat), (↑g_1.2 : Int) + (1 : Int) = (↑g'.2 : Int) ∧ (nat_lit 2 = (2 : Nat) ∧ ∀ (i : Nat), i < nat_lit 2 → [SV.int .i64 (L.dir (l.g g_1.1) i).x, SV.int .i64 (L.dir (l.g g_1.1) i).y]
 = [SV.int .i64 (L.dir (l.g g'.1) i).x, SV.int .i64 (L.dir (l.g g'.1) i).y]) ∧ (↑(2 : Nat) : Int) = (↑(2 : Nat) : Int) ∧ nat_lit 0 = nat_lit 0 ∧ (↑g : Int) = (↑g : Int) ∧ (↑l.n : Int) = (↑l.n : Int) ∧ (l.n = l.n ∧ ∀ (i : Nat), i < l.n → [SV.int .i64 (l.g i).x, SV.int .i64 (l.g i).y] = [SV.int .i64 (l.g i).x,
 SV.int .i64 (l.g i).y]) ∧ nat_lit 0 = nat_lit 0 ∧ (l.n = l.n ∧ ∀ (i : Nat), i < l.n → [SV.int .i64 (l.g i).x, SV.int .i64 (l.g i).y] = [SV.int .i64 (l.g i).x, SV.int .i64 (l.g i).y]) ∧ (l.g (Int.toNat (↑g : Int))).x = (l.g (Int.toNat (↑g : Int))).x ∧ (l.g (Int.toNat (↑g : Int))).y = (l.g (Int.toNat (↑g : Int))).y ∧ (0
 : Int) = (0 : Int) ∧ (0 : Int) = (0 : Int) ∧ ((↑g : Int) = (↑g'.1 : Int) ∧ g'.1 < l.n ∧ g'.2 ≤ (2 : Nat) ∧ ∀ (c : Nat), c < (2 : Nat) * g'.1 + g'.2 → L.free (L.cand l c) l = false) ∧ (2 : Nat) - g'.2 < (2 : Nat) - g_1.2)) ∧ (decide ((↑g_1.2 : Int) < (↑(2 : Nat) : Int)) = false → InK .i64 ((↑g : Int) + (1 : Int)) ∧ ∃ (g' : Nat), (↑g : Int) + (1 : Int) = (↑g' :
 Int) ∧ (↑l.n : Int) = (↑l.n : Int) ∧ (l.n = l.n ∧ ∀ (i : Nat), i < l.n → [SV.int .i64 (l.g i).x, SV.int .i64 (l.g i).y] = [SV.int .i64 (l.g i).x, SV.int .i64 (l.g i).y]) ∧ nat_lit 0 = nat_lit 0 ∧ (l.n = l.n ∧ ∀ (i : Nat), i < l.n → [SV.int .i64 (l.g i).x, SV.int .i64 (l.g i).y] = [SV.int
 .i64 (l.g i).x, SV.int .i64 (l.g i).y]) ∧ (0 : Int) = (0 : Int) ∧ (0 : Int) = (0 : Int) ∧ (g' ≤ l.n ∧ ∀ (c : Nat), c < (2 : Nat) * g' → L.free (L.cand l c) l = false) ∧ l.n - g' < l.n - g)) ∧ (decide ((↑g : Int) < (↑l.n : Int)) = false → SV.agg [SV.int .i64 (0 : Int), SV.int .i64 (0 : Int)] = SV.agg
 [SV.int .i64 (L.wayD l).x, SV.int .i64 (L.wayD l).y] ∧ false = L.wayOk l))) (by kernel_rfl) (by
    obtain ⟨hn, hN⟩ := hp
    refine ⟨fun h0 => ?_, fun h0 => ?_⟩
    · have h0 : ((l.n : Nat) : Int) = 0 := of_decide_eq_true h0
      obtain ⟨e1, e2⟩ := way_0 (N := l) (by omega)
      rw [e1, e2]; exact ⟨rfl, rfl⟩
    have h0 : ¬ ((l.n : Nat) : Int) = 0 := of_decide_eq_false h0
    refine ⟨⟨(0 : Nat), rfl, Nat.zero_le _, fun c hc => absurd hc (Nat.not_lt_zero _)⟩, fun g hg => ⟨fun hlt => ?_, fun hge => ?_⟩⟩
    · obtain ⟨hg1, hg2⟩ := hg
      have hb : (g : Int) < (l.n : Int) := of_decide_eq_true hlt
      have e0 : ((g : Int)).toNat = g := by omega
      have hgl : g < l.n := by omega
      obtain ⟨⟨⟨a1, a2⟩, b1, b2⟩, hgc, _⟩ := isNrm_of (hN g hgl)
      have t1 := tdiv_bd (a := (l.g g).x) (g := L.gcd (l.g g).x (l.g g).y) a1 a2 hgc
      have t2 := tdiv_bd (a := (l.g g).y) (g := L.gcd (l.g g).x (l.g g).y) b1 b2 hgc
      have t3 := tdiv_bd (a := 0 - (l.g g).x) (g := L.gcd (l.g g).x (l.g g).y) (by omega) (by omega) hgc
      have t4 := tdiv_bd (a := 0 - (l.g g).y) (g := L.gcd (l.g g).x (l.g g).y) (by omega) (by omega) hgc
      rw [e0]
      refine ⟨⟨by omega, hb⟩, ⟨⟨by omega, by omega⟩, by omega, by omega⟩, InK.of (by omega) (by omega), by omega, InK.of (by omega) (by omega), by omega, InK.of (by omega) (by omega), by omega, InK.of (by omega) (by omega), InK.of (by omega) (by omega), by omega, InK.of (by omega) (by omega), ⟨(g, 0), rfl, ⟨rfl, fun i hi => ?_⟩, rfl, hgl, Nat.zero_le _, hg2⟩, fun h hh => ?_⟩
      · match i, hi with
        | 0, _ => rfl
        | 1, _ => rfl
      obtain ⟨g0, s⟩ := h
      obtain ⟨e1, q1, q2, q3⟩ := hh
      have e1 : (g : Int) = (g0 : Int) := e1
      obtain rfl : g = g0 := by omega
      have q2 : s ≤ 2 := q2
      have q3 : ∀ c, c < 2 * g + s → L.free (L.cand l c) l = false := q3
      have es : ((s : Int)).toNat = s := by omega
      dsimp only
      rw [es]
      refine ⟨fun hs => ?_, fun hs => ?_⟩
      · have hs : (s : Int) < (2 : Int) := of_decide_eq_true hs
        have hs2 : s < 2 := by omega
        have hc := cand_eq l g hs2
        refine ⟨⟨by omega, hs⟩, ⟨fun _ _ => rfl, hn, dir_bd (hN g hgl) s, fun i hi => (isNrm_of (hN i hi)).2.2⟩, fun hf => ?_, fun hf => ?_⟩
        · rw [← hc] at hf
          obtain ⟨w1, w2⟩ := way_at q3 hf (by omega)
          rw [w1, w2, hc]; exact ⟨rfl, rfl⟩
        · rw [← hc] at hf
          refine ⟨InK.of (by omega) (by omega), (g, s + 1), by show (s : Int) + 1 = ((s + 1 : Nat) : Int); omega, ⟨rfl, fun _ _ => rfl⟩, rfl, rfl, rfl, rfl, ⟨rfl, fun _ _ => rfl⟩, rfl, ⟨rfl, fun _ _ => rfl⟩, rfl, rfl, rfl, rfl, ⟨rfl, q1, by show s + 1 ≤ 2; omega, fun c hc' => ?_⟩, by show 2 - (s + 1) < 2 - s; omega⟩
          have hc' : c < 2 * g + s + 1 := hc'
          rcases Nat.lt_succ_iff_lt_or_eq.1 hc' with h | rfl
          · exact q3 c h
          · exact hf
      · have hs : ¬ (s : Int) < (2 : Int) := of_decide_eq_false hs
        obtain rfl : s = 2 := by omega
        exact ⟨InK.of (by omega) (by omega), g + 1, by omega, rfl, ⟨rfl, fun _ _ => rfl⟩, rfl, ⟨rfl, fun _ _ => rfl⟩, rfl, rfl, ⟨by omega, fun c hc => q3 c (by omega)⟩, by omega⟩
    · obtain ⟨hg1, hg2⟩ := hg
      have hb : ¬ (g : Int) < (l.n : Int) := of_decide_eq_false hge
      obtain rfl : g = l.n := by omega
      obtain ⟨w1, w2⟩ := way_no (N := l) (by omega) hg2
      rw [w1, w2]; exact ⟨rfl, rfl⟩)
theorem p_way_ok : SpecOk Try.prog 28 p_way_S := fnX Try.func28 (c := bodyOf Try.f28) (by kernel_rfl) mixed (fun args p r hs hp => by
  unfold p_way_s at hs
  split at hs
  · cases hs; exact ⟨_, _, p_way_vc _ hp.2, (.p (.sl hp.1) .nil), ⟨show SpecsL Try.prog _ from (SpecsL.cons p_gcd_ok p_gcd_en (SpecsL.cons p_free_ok p_free_en SpecsL.nil)), rfl, ⟨show ItersL Try.prog _ from ItersL.nil, (TrsOk.none (fun _ => rfl))⟩⟩⟩
  · cases hs)
theorem p_way_en : Enters Try.prog 28 := fun args w => by kernel_rfl
def p_bad_p (n : L.Pt) : Prop := True
def p_bad_r (n : L.Pt) : SV := .bool (!L.isNrm n)
def p_bad_s : List EV → Option (Prop × SV)
  | [.p (.agg [.int .i64 n_x, .int .i64 n_y])] => some (p_bad_p (⟨n_x, n_y⟩ : L.Pt), p_bad_r (⟨n_x, n_y⟩ : L.Pt))
  | _ => none
abbrev p_bad_S : SE.Spec := (specO p_bad_s)
def p_bad_C : Cfg := { muts := [], frz := lookN [], specs := lookS [(26, p_within_S)], loops := lookL [], iters := lookI [], rfs := lookR [], nils := lookM [] }
theorem p_bad_vc (n : L.Pt) (hp : p_bad_p n) : vc Try.prog (p_bad_C) (bodyOf Try.f25) (st0 Try.f25 [.p (.agg [.int .i64 n.x, .int .i64 n.y])]) (retFn Try.prog Try.f25 (p_bad_r n)) :=
  @Eq.mpr _ (((!(decide (n.x = (0 : Int)) && decide (n.y = (0 : Int)))) = true → True) ∧ ((!bif decide (n.x = (0 : Int)) && decide (n.y = (0 : Int)) then true else !L.within n.x (-4096 : Int) (4096 : Int)) = true → True) ∧ (bif bif decide (n.x = (0 : Int)) && decide (n.y = (0 : Int)) then true else !L.within n.x (-4096 : Int) (4096
 : Int) then true else !L.within n.y (-4096 : Int) (4096 : Int)) = !L.isNrm n) (by kernel_rfl) (by
    refine ⟨fun _ => trivial, fun _ => trivial, ?_⟩
    unfold L.isNrm
    cases (decide (n.x = 0) && decide (n.y = 0)) <;> cases L.within n.x (-4096) 4096 <;> cases L.within n.y (-4096) 4096 <;> rfl)
theorem p_bad_ok : SpecOk Try.prog 25 p_bad_S := fnX Try.func25 (c := bodyOf Try.f25) (by kernel_rfl) mixed (fun args p r hs hp => by
  unfold p_bad_s at hs
  split at hs
  · cases hs; exact ⟨_, _, p_bad_vc _ hp, (.same _ .nil), ⟨show SpecsL Try.prog _ from (SpecsL.cons p_within_ok p_within_en SpecsL.nil), rfl, ⟨show ItersL Try.prog _ from ItersL.nil, (TrsOk.none (fun _ => rfl))⟩⟩⟩
  · cases hs)
theorem p_bad_en : Enters Try.prog 25 := fun args w => by kernel_rfl
theorem p_bad_B : ∀ args p r, p_bad_s args = some (p, r) → ∃ b, r = .bool b := by
  intro args p r h
  unfold p_bad_s at h
  split at h
  · cases h; exact ⟨_, rfl⟩
  · cases h
end Go.Proofs.Ytinfalehnaejbaa

namespace Go.Proofs.Ytinfalehnaejbaa
open Go.SE Go.RowKit
set_option maxRecDepth 100000
set_option maxHeartbeats 4000000
set_option linter.unusedVariables false
attribute [local irreducible] vc

def L.pck (N : L.Sq L.Pt) (l : L.Sq Int) : L.Sq L.Pt := ⟨l.n, fun i => N.g (l.g i).toNat⟩
def L.snoc (l : L.Sq Int) (x : Int) : L.Sq Int := ⟨l.n + 1, fun i => bif decide (i < l.n) then l.g i else x⟩
def L.nilI : L.Sq Int := ⟨0, fun _ => 0⟩
def L.first (f : Nat → Option (L.Sq Int)) : Nat → Option (L.Sq Int)
  | 0 => none
  | c + 1 => match L.first f c with
    | some x => some x
    | none => f c
def L.grp (N : L.Sq L.Pt) : Nat → L.Sq Int → Nat → Option (L.Sq Int)
  | 0, l, _ => bif L.wayOk (L.pck N l) then none else some l
  | d + 1, l, fr => L.first (fun j => L.grp N d (L.snoc l ((fr + j : Nat) : Int)) (fr + j + 1)) (N.n - fr)
def L.orB (o : Option (L.Sq Int)) (b : L.Sq Int) : L.Sq Int := match o with
  | some x => x
  | none => b
def L.isNo (o : Option (L.Sq Int)) : Bool := match o with
  | some _ => false
  | none => true
def L.aft (N : L.Sq L.Pt) (l b : L.Sq Int) : L.Sq Int := bif L.wayOk (L.pck N l) then b else l
def L.within0 (l : L.Sq Int) (n : Nat) : Prop := ∀ i, i < l.n → 0 ≤ l.g i ∧ l.g i < (n : Int)
def L.exF (N : L.Sq L.Pt) (j : Nat) : Option (L.Sq Int) := L.grp N (3 + j) L.nilI 0
def L.exL (N : L.Sq L.Pt) : L.Sq Int := L.orB (L.first (L.exF N) 22) L.nilI
def L.exBad (N : L.Sq L.Pt) : Bool := bif decide (24 < (N.n : Int)) then true else L.anyB N.n (fun i => !L.isNrm (N.g i))
def L.exE (N : L.Sq L.Pt) : Int := bif L.exBad N then 1 else bif L.wayOk N then 0 else 13
def L.exD (N : L.Sq L.Pt) : L.Pt := bif L.exBad N then ⟨0, 0⟩ else L.wayD N
def L.exN (N : L.Sq L.Pt) : Nat := bif L.exBad N then 0 else bif L.wayOk N then 0 else (L.exL N).n
theorem first_none {f : Nat → Option (L.Sq Int)} : ∀ {c : Nat}, (∀ j, j < c → f j = none) → L.first f c = none
  | 0, _ => rfl
  | c + 1, h => by rw [L.first, first_none (c := c) (fun j hj => h j (by omega))]; exact h c (by omega)
theorem first_none_of {f : Nat → Option (L.Sq Int)} : ∀ {c : Nat}, L.first f c = none → ∀ j, j < c → f j = none
  | 0, _, j, hj => absurd hj (Nat.not_lt_zero _)
  | c + 1, h, j, hj => by
    rw [L.first] at h
    cases hf : L.first f c with
    | some x => rw [hf] at h; cases h
    | none =>
      rw [hf] at h
      rcases Nat.lt_succ_iff_lt_or_eq.1 hj with hj | rfl
      · exact first_none_of hf j hj
      · exact h
theorem first_at {f : Nat → Option (L.Sq Int)} {j : Nat} {x : L.Sq Int} (h0 : ∀ i, i < j → f i = none) (h : f j = some x) : ∀ {c : Nat}, j < c → L.first f c = some x
  | c + 1, hc => by
    rw [L.first]
    rcases Nat.lt_succ_iff_lt_or_eq.1 hc with hc | rfl
    · rw [first_at h0 h hc]
    · rw [first_none h0]; exact h
theorem first_some {f : Nat → Option (L.Sq Int)} {x : L.Sq Int} : ∀ {c : Nat}, L.first f c = some x → ∃ j, j < c ∧ f j = some x ∧ ∀ i, i < j → f i = none
  | 0, h => by cases h
  | c + 1, h => by
    rw [L.first] at h
    cases hf : L.first f c with
    | some y =>
      rw [hf] at h
      cases h
      obtain ⟨j, h1, h2, h3⟩ := first_some hf
      exact ⟨j, by omega, h2, h3⟩
    | none =>
      rw [hf] at h
      exact ⟨c, Nat.lt_succ_self c, h, first_none_of hf⟩
theorem first_mono {f : Nat → Option (L.Sq Int)} {x : L.Sq Int} {c m : Nat} (h : L.first f c = some x) (hm : c ≤ m) : L.first f m = some x := by
  obtain ⟨j, h1, h2, h3⟩ := first_some h
  exact first_at h3 h2 (by omega)
theorem grp_len {N : L.Sq L.Pt} : ∀ {d : Nat} {l : L.Sq Int} {fr : Nat} {x : L.Sq Int}, L.grp N d l fr = some x → x.n = l.n + d
  | 0, l, fr, x, h => by
    rw [L.grp] at h
    cases hw : L.wayOk (L.pck N l) with
    | true => rw [hw] at h; cases h
    | false => rw [hw] at h; cases h; rfl
  | d + 1, l, fr, x, h => by
    rw [L.grp] at h
    obtain ⟨j, _, h2, _⟩ := first_some h
    have := grp_len h2
    rw [this]
    show l.n + 1 + d = l.n + (d + 1)
    omega
theorem snoc_within {l : L.Sq Int} {n : Nat} (h : L.within0 l n) {x : Int} (h0 : 0 ≤ x) (h1 : x < (n : Int)) : L.within0 (L.snoc l x) n := fun i hi => by
  have hi : i < l.n + 1 := hi
  show 0 ≤ (bif decide (i < l.n) then l.g i else x) ∧ (bif decide (i < l.n) then l.g i else x) < (n : Int)
  by_cases h' : i < l.n
  · rw [decide_eq_true h']; exact h i h'
  · rw [decide_eq_false h']; exact ⟨h0, h1⟩
theorem pick_nrms {N : L.Sq L.Pt} {l : L.Sq Int} (hN : L.nrms N) (h : L.within0 l N.n) (hn : l.n ≤ 1000000) : L.nrms (L.pck N l) := ⟨hn, fun i hi => hN.2 _ (by have := h i hi; omega)⟩
theorem isNo_none {o : Option (L.Sq Int)} (h : L.isNo o = true) : o = none := by
  cases o with
  | none => rfl
  | some x => cases h
theorem isNo_some {o : Option (L.Sq Int)} (h : L.isNo o = false) : ∃ x, o = some x := by
  cases o with
  | none => cases h
  | some x => exact ⟨x, rfl⟩
theorem exBad_false {N : L.Sq L.Pt} (h : L.exBad N = false) : N.n ≤ 24 ∧ L.nrms N := by
  unfold L.exBad at h
  cases hd : decide (24 < (N.n : Int)) with
  | true => rw [hd] at h; cases h
  | false =>
    have hd := of_decide_eq_false hd
    rw [decide_eq_false hd] at h
    refine ⟨by omega, by omega, fun i hi => ?_⟩
    cases hn : L.isNrm (N.g i) with
    | true => rfl
    | false =>
      have : L.anyB N.n (fun i => !L.isNrm (N.g i)) = true := anyB_iff.2 ⟨i, hi, by rw [hn]; rfl⟩
      rw [this] at h; cases h
theorem wayD_no {N : L.Sq L.Pt} (h : L.wayOk N = false) : L.wayD N = ⟨0, 0⟩ := by
  unfold L.wayOk at h
  obtain ⟨h1, h2⟩ := Bool.or_eq_false_iff.1 h
  unfold L.wayD
  rw [h1, h2]; rfl
abbrev p_exit2_tr : Tr := { T := (L.Sq Int) × (L.Sq L.Pt) × (L.Sq Int), U := Nat, args := fun t => (fun l N b => [.p (.sl 1 l.n (fun i => [.int .i64 (l.g i)])), .p (.ref [(.sl 2 N.n (fun i => [.int .i64 ((N.g i).x), .int .i64 ((N.g i).y)]))] 0), .loc 1003 0]) t.1 t.2.1 t.2.2, own := fun t => (fun l N b => [(1003, .blk 39 [.full false 1 (b).n (fun i => [.int .i64 ((b).g i)])])]) t.1 t.2.1 t.2.2, pre := fun t => (fun l N b => 1 ≤ l.n ∧ l.n ≤ 1000 ∧ L.nrms N ∧ L.within0 l N.n) t.1 t.2.1 t.2.2, post := fun t u => (fun l N b => fun u => True) t.1 t.2.1 t.2.2 u, own' := fun t u => (fun l N b => fun u => [(1003, .blk 39 [.full false 1 (L.aft N l b).n (fun i => [.int .i64 ((L.aft N l b).g i)])])]) t.1 t.2.1 t.2.2 u, res := fun t u => (fun l N b => fun u => .p (.bool (L.wayOk (L.pck N l)))) t.1 t.2.1 t.2.2 u }
theorem p_exit2_vc (l : L.Sq Int) (N : L.Sq L.Pt) (b : L.Sq Int) (hp : p_exit2_tr.pre (l, N, b)) : vc Try.prog ({ muts := [8], frz := lookN [], specs := lookS [(28, p_way_S)], loops := lookL [(3, { T := Nat, keep := [0, 1, 2, 5, 10, 11], keepO := [1003], chg := fun i => [(12, .p (.int .i64 (i : Int)))], own := fun i => [(20, .row 30 2 i (fun j => [.int .i64 ((N.g (l.g j).toNat).x), .int .i64 ((N.g (l.g j).toNat).y)]))], inv := fun i => i ≤ l.n, mu := fun i => l.n - i })], iters := lookI [], rfs := lookR [], nils := lookM [(2, [(5, 20, 30, 2)])] }) (bodyOf Try.f30) (stTr Try.f30 (p_exit2_tr.args (l, N, b)) (p_exit2_tr.own (l, N, b))) (retTr Try.prog Try.f30 p_exit2_tr (l, N, b)) :=
  @Eq.mpr _ ((∃ (g : Nat), (0 : Int) = (↑g : Int) ∧ (nat_lit 0 = g ∧ ∀ (i : Nat), i < nat_lit 0 → [] = [SV.int .i64 (N.g (Int.toNat (l.g i))).x, SV.int .i64 (N.g (Int.toNat (l.g i))).y]) ∧ g ≤ l.n) ∧ ∀ (g : Nat), g ≤ l.n → (decide ((↑g : Int) < (↑l.n : Int)) = true → ((0 : Int) ≤ (↑g : Int) ∧ (↑g : Int) < (↑l.n : Int)) ∧ ((0 : Int) ≤ l.g (Int.toNat (↑g : Int)) ∧
 l.g (Int.toNat (↑g : Int)) < (↑N.n : Int)) ∧ (g + nat_lit 1) * nat_lit 16 ≤ (140737488355328 : Nat) ∧ InK .i64 ((↑g : Int) + (1 : Int)) ∧ ∃ (g' : Nat), (↑g : Int) + (1 : Int) = (↑g' : Int) ∧ (↑l.n : Int) = (↑l.n : Int) ∧ (l.n = l.n ∧ ∀ (i : Nat), i < l.n → [SV.int .i64 (l.g i)] = [SV.int .i64 (l.g i)]) ∧ (l.n = l.n ∧ ∀ (i : Nat), i < l.n →
 [SV.int .i64 (l.g i)] = [SV.int .i64 (l.g i)]) ∧ SV.ref [SV.sl (nat_lit 2) N.n fun (i : Nat) ↦ [SV.int .i64 (N.g i).x, SV.int .i64 (N.g i).y]] (nat_lit 0) = SV.ref [SV.sl (nat_lit 2) N.n fun (i : Nat) ↦ [SV.int .i64 (N.g i).x, SV.int .i64 (N.g i).y]] (nat_lit 0) ∧ nat_lit 0 =
 nat_lit 0 ∧ (g + nat_lit 1 = g' ∧ ∀ (i : Nat), i < g + nat_lit 1 → appGet g (fun (j : Nat) ↦ [SV.int .i64 (N.g (Int.toNat (l.g j))).x, SV.int .i64 (N.g (Int.toNat (l.g j))).y]) (fun (x : Nat) ↦ [SV.int .i64 (N.g (Int.toNat (l.g (Int.toNat (↑g : Int))))).x, SV.int .i64 (N.g (Int.toNat (l.g (Int.toNat (↑g : Int))))).y]) i =
 [SV.int .i64 (N.g (Int.toNat (l.g i))).x, SV.int .i64 (N.g (Int.toNat (l.g i))).y]) ∧ (b.n = b.n ∧ ∀ (i : Nat), i < b.n → [SV.int .i64 (b.g i)] = [SV.int .i64 (b.g i)]) ∧ g' ≤ l.n ∧ l.n - g' < l.n - g) ∧ (decide ((↑g : Int) < (↑l.n : Int)) = false → ((∀ (i : Nat), i < g → [SV.int .i64 (N.g (Int.toNat
 (l.g i))).x, SV.int .i64 (N.g (Int.toNat (l.g i))).y] = [SV.int .i64 (N.g (Int.toNat (l.g i))).x, SV.int .i64 (N.g (Int.toNat (l.g i))).y]) ∧ L.nrms (L.Sq.mk g fun (i : Nat) ↦ N.g (Int.toNat (l.g i)))) ∧ ((!L.wayOk (L.Sq.mk g fun (i : Nat) ↦ N.g (Int.toNat (l.g i)))) = true → ∃ (u : Nat), false = L.wayOk (L.pck N l) ∧ (l.n = (L.aft N l b).n
 ∧ (0 : Nat) < l.n ∧ ∀ (i : Nat), i < l.n → [SV.int .i64 (l.g i)] = [SV.int .i64 ((L.aft N l b).g i)]) ∧ True) ∧ ((!L.wayOk (L.Sq.mk g fun (i : Nat) ↦ N.g (Int.toNat (l.g i)))) = false → ∃ (u : Nat), true = L.wayOk (L.pck N l) ∧ (b.n = (L.aft N l b).n ∧ ∀ (i : Nat), i < b.n → [SV.int .i64 (b.g i)] = [SV.int .i64 ((L.aft N l
 b).g i)]) ∧ True))) (by kernel_rfl) (by
    have hp : 1 ≤ l.n ∧ l.n ≤ 1000 ∧ L.nrms N ∧ L.within0 l N.n := hp
    obtain ⟨h1, h2, hN, hw⟩ := hp
    refine ⟨⟨(0 : Nat), rfl, ⟨rfl, fun i hi => absurd hi (Nat.not_lt_zero _)⟩, Nat.zero_le _⟩, fun g hg => ⟨fun hlt => ?_, fun hge => ?_⟩⟩
    · have hb : (g : Int) < (l.n : Int) := of_decide_eq_true hlt
      have e0 : ((g : Int)).toNat = g := by omega
      have hx := hw g (by omega)
      rw [e0]
      refine ⟨⟨by omega, hb⟩, hx, show (g + 1) * 16 ≤ 140737488355328 by omega, InK.of (by omega) (by omega), g + 1, by omega, rfl, ⟨rfl, fun _ _ => rfl⟩, ⟨rfl, fun _ _ => rfl⟩, rfl, rfl, ⟨rfl, fun i hi => ?_⟩, ⟨rfl, fun _ _ => rfl⟩, by omega, by omega⟩
      have hi : i < g + 1 := hi
      unfold appGet
      by_cases h' : i < g
      · rw [if_pos h']
      · rw [if_neg h']
        obtain rfl : i = g := by omega
        rfl
    · have hb : ¬ (g : Int) < (l.n : Int) := of_decide_eq_false hge
      obtain rfl : g = l.n := by omega
      have e : (L.Sq.mk l.n fun (i : Nat) => N.g (l.g i).toNat) = L.pck N l := rfl
      rw [e]
      refine ⟨⟨fun _ _ => rfl, pick_nrms hN hw (by omega)⟩, fun hc => ?_, fun hc => ?_⟩
      · have hc : L.wayOk (L.pck N l) = false := by simpa using (show (!L.wayOk (L.pck N l)) = true from hc)
        unfold L.aft
        rw [hc]; exact ⟨(0 : Nat), rfl, ⟨rfl, h1, fun _ _ => rfl⟩, trivial⟩
      · have hc : L.wayOk (L.pck N l) = true := by simpa using (show (!L.wayOk (L.pck N l)) = false from hc)
        unfold L.aft
        rw [hc]; exact ⟨(0 : Nat), rfl, ⟨rfl, fun _ _ => rfl⟩, trivial⟩)
theorem p_exit2_en : Enters Try.prog 30 := fun args w => by kernel_rfl
theorem p_exit2_tok : TrOk Try.prog 30 p_exit2_tr := tr_ok (ks := [1003]) (n := 3) Try.func30 (c := bodyOf Try.f30) (by kernel_rfl) mixed ⟨fun t => rfl, fun t => rfl, fun t u => rfl, fun t u => rfl, fun t u => rfl, by kernel_rfl⟩ (fun ⟨l, N, b⟩ hp => ⟨_, p_exit2_vc l N b hp, ⟨show SpecsL Try.prog _ from (SpecsL.cons p_way_ok p_way_en SpecsL.nil), rfl, ⟨show ItersL Try.prog _ from ItersL.nil, (TrsOk.none (fun _ => rfl))⟩⟩⟩)
abbrev p_more_tr : Tr := { T := (L.Sq Int) × (Nat) × (Nat) × (L.Sq L.Pt) × (L.Sq Int), U := Nat, args := fun t => (fun l fr k N b => [.p (.sl 1 l.n (fun i => [.int .i64 (l.g i)])), .p (.int .i64 (fr : Int)), .p (.ref [.int .i64 (k : Int)] 0), .loc 1005 0, .p (.ref [.int .i64 (N.n : Int)] 0), .loc 1007 0]) t.1 t.2.1 t.2.2.1 t.2.2.2.1 t.2.2.2.2, own := fun t => (fun l fr k N b => [(1003, .blk 39 [.full false 1 (b).n (fun i => [.int .i64 ((b).g i)])]), (1005, .blk 62 [.cl 30 [.p (.ref [(.sl 2 N.n (fun i => [.int .i64 ((N.g i).x), .int .i64 ((N.g i).y)]))] 0), .loc 1003 0]]), (1007, .blk 78 [.cl 46 [.p (.ref [.int .i64 (k : Int)] 0), .loc 1005 0, .p (.ref [.int .i64 (N.n : Int)] 0), .loc 1007 0]])]) t.1 t.2.1 t.2.2.1 t.2.2.2.1 t.2.2.2.2, pre := fun t => (fun l fr k N b => (l.n ≤ k ∧ 1 ≤ k ∧ k ≤ 1000) ∧ (fr ≤ N.n ∧ N.n ≤ 1000) ∧ L.nrms N ∧ L.within0 l N.n) t.1 t.2.1 t.2.2.1 t.2.2.2.1 t.2.2.2.2, post := fun t u => (fun l fr k N b => fun u => True) t.1 t.2.1 t.2.2.1 t.2.2.2.1 t.2.2.2.2 u, own' := fun t u => (fun l fr k N b => fun u => [(1003, .blk 39 [.full false 1 (L.orB (L.grp N (k - l.n) l fr) b).n (fun i => [.int .i64 ((L.orB (L.grp N (k - l.n) l fr) b).g i)])]), (1005, .blk 62 [.cl 30 [.p (.ref [(.sl 2 N.n (fun i => [.int .i64 ((N.g i).x), .int .i64 ((N.g i).y)]))] 0), .loc 1003 0]]), (1007, .blk 78 [.cl 46 [.p (.ref [.int .i64 (k : Int)] 0), .loc 1005 0, .p (.ref [.int .i64 (N.n : Int)] 0), .loc 1007 0]])]) t.1 t.2.1 t.2.2.1 t.2.2.2.1 t.2.2.2.2 u, res := fun t u => (fun l fr k N b => fun u => .p (.bool (L.isNo (L.grp N (k - l.n) l fr)))) t.1 t.2.1 t.2.2.1 t.2.2.2.1 t.2.2.2.2 u }
abbrev p_more_mu : p_more_tr.T → Nat := fun t => (fun l fr k N b => k - l.n) t.1 t.2.1 t.2.2.1 t.2.2.2.1 t.2.2.2.2
theorem p_more_vc (rn : Nat) (l : L.Sq Int) (fr : Nat) (k : Nat) (N : L.Sq L.Pt) (b : L.Sq Int) (hp : p_more_tr.pre (l, fr, k, N, b)) (hmu : k - l.n < rn + 1) : vc Try.prog ({ muts := [], frz := lookN [], specs := lookS [], loops := lookL [(4, { T := Nat, keep := [0, 1, 2, 3, 4, 5, 8], keepO := [1003, 1005, 1007], chg := fun j => [(9, .p (.int .i64 ((fr + j : Nat) : Int)))], own := fun _ => [], inv := fun j => fr + j ≤ N.n ∧ ∀ c, c < j → L.isNo (L.grp N (k - l.n - 1) (L.snoc l ((fr + c : Nat) : Int)) (fr + c + 1)) = true, mu := fun j => N.n - (fr + j) })], iters := lookI [], rfs := lookR [], nils := lookM [], trs := lookT [(30, p_exit2_tr), (46, Tr.lt p_more_tr p_more_mu rn)], ren := fun k => k }) (bodyOf Try.f46) (stTr Try.f46 (p_more_tr.args (l, fr, k, N, b)) (p_more_tr.own (l, fr, k, N, b))) (retTr Try.prog Try.f46 p_more_tr (l, fr, k, N, b)) :=
  @Eq.mpr _ ((decide ((↑l.n : Int) = (↑k : Int)) = true → ∃ (t : L.Sq Int × L.Sq L.Pt × L.Sq Int), (l.n = t.1.n ∧ ∀ (i : Nat), i < l.n → [SV.int .i64 (l.g i)] = [SV.int .i64 (t.1.g i)]) ∧ SV.ref [SV.sl (nat_lit 2) N.n fun (i : Nat) ↦ [SV.int .i64 (N.g i).x, SV.int .i64 (N.g i).y]] (nat_lit 0) = SV.ref [SV.sl
 (2 : Nat) t.2.1.n fun (i : Nat) ↦ [SV.int .i64 (t.2.1.g i).x, SV.int .i64 (t.2.1.g i).y]] (0 : Nat) ∧ nat_lit 0 = (0 : Nat) ∧ (b.n = t.2.2.n ∧ ∀ (i : Nat), i < b.n → [SV.int .i64 (b.g i)] = [SV.int .i64 (t.2.2.g i)]) ∧ ((1 : Nat) ≤ t.1.n ∧ t.1.n ≤ (1000 : Nat) ∧ L.nrms t.2.1 ∧ L.within0 t.1 t.2.1.n) ∧ ∀ (u : Nat), True → ∃ (u : Nat),
 L.wayOk (L.pck t.2.1 t.1) = L.isNo (L.grp N (k - l.n) l fr) ∧ ((L.aft t.2.1 t.1 t.2.2).n = (L.orB (L.grp N (k - l.n) l fr) b).n ∧ ∀ (i : Nat), i < (L.aft t.2.1 t.1 t.2.2).n → [SV.int .i64 ((L.aft t.2.1 t.1 t.2.2).g i)] = [SV.int .i64 ((L.orB (L.grp N (k - l.n) l fr) b).g i)]) ∧ EV.cl (nat_lit 30) [EV.p (SV.ref [SV.sl (nat_lit 2) N.n fun (i :
 Nat) ↦ [SV.int .i64 (N.g i).x, SV.int .i64 (N.g i).y]] (nat_lit 0)), EV.loc (nat_lit 1003) (nat_lit 0)] = EV.cl (30 : Nat) [EV.p (SV.ref [SV.sl (2 : Nat) N.n fun (i : Nat) ↦ [SV.int .i64 (N.g i).x, SV.int .i64 (N.g i).y]] (0 : Nat)), EV.loc (1003 : Nat) (0 : Nat)] ∧ EV.cl (nat_lit 46)
 [EV.p (SV.ref [SV.int .i64 (↑k : Int)] (nat_lit 0)), EV.loc (nat_lit 1005) (nat_lit 0), EV.p (SV.ref [SV.int .i64 (↑N.n : Int)] (nat_lit 0)), EV.loc (nat_lit 1007) (nat_lit 0)] = EV.cl (46 : Nat) [EV.p (SV.ref [SV.int .i64 (↑k : Int)] (0 : Nat)), EV.loc (1005 : Nat) (0 : Nat), EV.p
 (SV.ref [SV.int .i64 (↑N.n : Int)] (0 : Nat)), EV.loc (1007 : Nat) (0 : Nat)] ∧ True) ∧ (decide ((↑l.n : Int) = (↑k : Int)) = false → (∃ (g : Nat), (↑fr : Int) = (↑(fr + g) : Int) ∧ fr + g ≤ N.n ∧ ∀ (c : Nat), c < g → L.isNo (L.grp N (k - l.n - (1 : Nat)) (L.snoc l (↑(fr + c) : Int)) (fr + c + (1 : Nat))) = true) ∧ ∀ (g : Nat), (fr + g ≤ N.n ∧ ∀ (c :
 Nat), c < g → L.isNo (L.grp N (k - l.n - (1 : Nat)) (L.snoc l (↑(fr + c) : Int)) (fr + c + (1 : Nat))) = true) → (decide ((↑(fr + g) : Int) < (↑N.n : Int)) = true → ((0 : Int) ≤ (↑l.n : Int) ∧ (↑l.n : Int) ≤ (↑l.n : Int) ∧ (↑l.n : Int) = (↑l.n : Int)) ∧ ((0 : Nat) < (1 : Nat) ∧ (Int.toNat (↑l.n : Int) + (1 : Nat)) * nat_lit 8 ≤ (140737488355328 : Nat)) ∧ InK
 .i64 ((↑(fr + g) : Int) + (1 : Int)) ∧ ∃ (t : L.Sq Int × Nat × Nat × L.Sq L.Pt × L.Sq Int), (Int.toNat (↑l.n : Int) + (1 : Nat) = t.1.n ∧ ∀ (i : Nat), i < Int.toNat (↑l.n : Int) + (1 : Nat) → appGet (Int.toNat (↑l.n : Int)) (fun (i : Nat) ↦ [SV.int .i64 (l.g i)]) (fun (x : Nat) ↦ [SV.int .i64 (↑(fr + g) : Int)]) i = [SV.int .i64
 (t.1.g i)]) ∧ (↑(fr + g) : Int) + (1 : Int) = (↑t.2.1 : Int) ∧ SV.ref [SV.int .i64 (↑k : Int)] (nat_lit 0) = SV.ref [SV.int .i64 (↑t.snd.2.1 : Int)] (0 : Nat) ∧ nat_lit 0 = (0 : Nat) ∧ SV.ref [SV.int .i64 (↑N.n : Int)] (nat_lit 0) = SV.ref [SV.int .i64 (↑t.snd.snd.2.1.n : Int)] (0 : Nat) ∧ nat_lit 0 = (0 : Nat)
 ∧ (b.n = t.snd.snd.2.2.n ∧ ∀ (i : Nat), i < b.n → [SV.int .i64 (b.g i)] = [SV.int .i64 (t.snd.snd.2.2.g i)]) ∧ EV.cl (nat_lit 30) [EV.p (SV.ref [SV.sl (nat_lit 2) N.n fun (i : Nat) ↦ [SV.int .i64 (N.g i).x, SV.int .i64 (N.g i).y]] (nat_lit 0)), EV.loc (nat_lit 1003) (nat_lit 0)] = EV.cl (30 : Nat)
 [EV.p (SV.ref [SV.sl (nat_lit 2) t.snd.snd.2.1.n fun (i : Nat) ↦ [SV.int .i64 (t.snd.snd.2.1.g i).x, SV.int .i64 (t.snd.snd.2.1.g i).y]] (nat_lit 0)), EV.loc (nat_lit 1003) (nat_lit 0)] ∧ EV.cl (nat_lit 46) [EV.p (SV.ref [SV.int .i64 (↑k : Int)] (nat_lit 0)), EV.loc (nat_lit 1005) (nat_lit 0),
 EV.p (SV.ref [SV.int .i64 (↑N.n : Int)] (nat_lit 0)), EV.loc (nat_lit 1007) (nat_lit 0)] = EV.cl (46 : Nat) [EV.p (SV.ref [SV.int .i64 (↑t.snd.2.1 : Int)] (nat_lit 0)), EV.loc (nat_lit 1005) (nat_lit 0), EV.p (SV.ref [SV.int .i64 (↑t.snd.snd.2.1.n : Int)] (nat_lit 0)), EV.loc (nat_lit 1007)
 (nat_lit 0)] ∧ (((t.1.n ≤ t.snd.2.1 ∧ (1 : Nat) ≤ t.snd.2.1 ∧ t.snd.2.1 ≤ (1000 : Nat)) ∧ (t.2.1 ≤ t.snd.snd.2.1.n ∧ t.snd.snd.2.1.n ≤ (1000 : Nat)) ∧ L.nrms t.snd.snd.2.1 ∧ L.within0 t.1 t.snd.snd.2.1.n) ∧ t.snd.2.1 - t.1.n < rn) ∧ ∀ (u : Nat), True → ((!L.isNo (L.grp t.snd.snd.2.1 (t.snd.2.1 - t.1.n) t.1 t.2.1)) = true → ∃ (u : Nat), false = L.isNo (L.grp N (k - l.n) l fr) ∧ ((L.orB
 (L.grp t.snd.snd.2.1 (t.snd.2.1 - t.1.n) t.1 t.2.1) t.snd.snd.2.2).n = (L.orB (L.grp N (k - l.n) l fr) b).n ∧ ∀ (i : Nat), i < (L.orB (L.grp t.snd.snd.2.1 (t.snd.2.1 - t.1.n) t.1 t.2.1) t.snd.snd.2.2).n → [SV.int .i64 ((L.orB (L.grp t.snd.snd.2.1 (t.snd.2.1 - t.1.n) t.1 t.2.1) t.snd.snd.2.2).g i)] = [SV.int .i64 ((L.orB (L.grp N (k - l.n) l fr) b).g i)]) ∧
 EV.cl (nat_lit 30) [EV.p (SV.ref [SV.sl (nat_lit 2) t.snd.snd.2.1.n fun (i : Nat) ↦ [SV.int .i64 (t.snd.snd.2.1.g i).x, SV.int .i64 (t.snd.snd.2.1.g i).y]] (nat_lit 0)), EV.loc (1003 : Nat) (nat_lit 0)] = EV.cl (30 : Nat) [EV.p (SV.ref [SV.sl (2 : Nat) N.n fun (i : Nat) ↦ [SV.int .i64 (N.g i).x,
 SV.int .i64 (N.g i).y]] (0 : Nat)), EV.loc (1003 : Nat) (0 : Nat)] ∧ EV.cl (nat_lit 46) [EV.p (SV.ref [SV.int .i64 (↑t.snd.2.1 : Int)] (nat_lit 0)), EV.loc (1005 : Nat) (nat_lit 0), EV.p (SV.ref [SV.int .i64 (↑t.snd.snd.2.1.n : Int)] (nat_lit 0)), EV.loc (1007 : Nat) (nat_lit 0)] = EV.cl (46 :
 Nat) [EV.p (SV.ref [SV.int .i64 (↑k : Int)] (0 : Nat)), EV.loc (1005 : Nat) (0 : Nat), EV.p (SV.ref [SV.int .i64 (↑N.n : Int)] (0 : Nat)), EV.loc (1007 : Nat) (0 : Nat)] ∧ True) ∧ ((!L.isNo (L.grp t.snd.snd.2.1 (t.snd.2.1 - t.1.n) t.1 t.2.1)) = false → InK .i64 ((↑(fr + g) : Int) + (1 : Int)) ∧ ∃ (g' : Nat),
 (↑(fr + g) : Int) + (1 : Int) = (↑(fr + g') : Int) ∧ false = false ∧ (l.n = l.n ∧ ∀ (i : Nat), i < l.n → [SV.int .i64 (l.g i)] = [SV.int .i64 (l.g i)]) ∧ (↑fr : Int) = (↑fr : Int) ∧ SV.ref [SV.int .i64 (↑k : Int)] (nat_lit 0) = SV.ref [SV.int .i64 (↑k : Int)] (nat_lit 0) ∧ nat_lit 0 = nat_lit 0 ∧ SV.ref
 [SV.int .i64 (↑N.n : Int)] (nat_lit 0) = SV.ref [SV.int .i64 (↑N.n : Int)] (nat_lit 0) ∧ nat_lit 0 = nat_lit 0 ∧ ((L.orB (L.grp t.snd.snd.2.1 (t.snd.2.1 - t.1.n) t.1 t.2.1) t.snd.snd.2.2).n = b.n ∧ ∀ (i : Nat), i < (L.orB (L.grp t.snd.snd.2.1 (t.snd.2.1 - t.1.n) t.1 t.2.1) t.snd.snd.2.2).n → [SV.int .i64 ((L.orB (L.grp t.snd.snd.2.1 (t.snd.2.1
 - t.1.n) t.1 t.2.1) t.snd.snd.2.2).g i)] = [SV.int .i64 (b.g i)]) ∧ EV.cl (nat_lit 30) [EV.p (SV.ref [SV.sl (nat_lit 2) t.snd.snd.2.1.n fun (i : Nat) ↦ [SV.int .i64 (t.snd.snd.2.1.g i).x, SV.int .i64 (t.snd.snd.2.1.g i).y]] (nat_lit 0)), EV.loc (1003 : Nat) (nat_lit 0)] = EV.cl (nat_lit 30) [EV.p
 (SV.ref [SV.sl (nat_lit 2) N.n fun (i : Nat) ↦ [SV.int .i64 (N.g i).x, SV.int .i64 (N.g i).y]] (nat_lit 0)), EV.loc (nat_lit 1003) (nat_lit 0)] ∧ EV.cl (nat_lit 46) [EV.p (SV.ref [SV.int .i64 (↑t.snd.2.1 : Int)] (nat_lit 0)), EV.loc (1005 : Nat) (nat_lit 0), EV.p (SV.ref [SV.int
 .i64 (↑t.snd.snd.2.1.n : Int)] (nat_lit 0)), EV.loc (1007 : Nat) (nat_lit 0)] = EV.cl (nat_lit 46) [EV.p (SV.ref [SV.int .i64 (↑k : Int)] (nat_lit 0)), EV.loc (nat_lit 1005) (nat_lit 0), EV.p (SV.ref [SV.int .i64 (↑N.n : Int)] (nat_lit 0)), EV.loc (nat_lit 1007) (nat_lit 0)] ∧ (fr + g' ≤ N.n ∧ ∀ (c : Nat), c
 < g' → L.isNo (L.grp N (k - l.n - (1 : Nat)) (L.snoc l (↑(fr + c) : Int)) (fr + c + (1 : Nat))) = true) ∧ N.n - (fr + g') < N.n - (fr + g))) ∧ (decide ((↑(fr + g) : Int) < (↑N.n : Int)) = false → ∃ (u : Nat), true = L.isNo (L.grp N (k - l.n) l fr) ∧ (b.n = (L.orB (L.grp N (k - l.n) l fr) b).n ∧ ∀ (i : Nat), i < b.n → [SV.int .i64 (b.g i)] = [SV.int
 .i64 ((L.orB (L.grp N (k - l.n) l fr) b).g i)]) ∧ EV.cl (nat_lit 30) [EV.p (SV.ref [SV.sl (nat_lit 2) N.n fun (i : Nat) ↦ [SV.int .i64 (N.g i).x, SV.int .i64 (N.g i).y]] (nat_lit 0)), EV.loc (nat_lit 1003) (nat_lit 0)] = EV.cl (30 : Nat) [EV.p (SV.ref [SV.sl (2 : Nat) N.n fun (i : Nat) ↦ [SV.int
 .i64 (N.g i).x, SV.int .i64 (N.g i).y]] (0 : Nat)), EV.loc (1003 : Nat) (0 : Nat)] ∧ EV.cl (nat_lit 46) [EV.p (SV.ref [SV.int .i64 (↑k : Int)] (nat_lit 0)), EV.loc (nat_lit 1005) (nat_lit 0), EV.p (SV.ref [SV.int .i64 (↑N.n : Int)] (nat_lit 0)), EV.loc (nat_lit 1007) (nat_lit 0)] = EV.cl
 (46 : Nat) [EV.p (SV.ref [SV.int .i64 (↑k : Int)] (0 : Nat)), EV.loc (1005 : Nat) (0 : Nat), EV.p (SV.ref [SV.int .i64 (↑N.n : Int)] (0 : Nat)), EV.loc (1007 : Nat) (0 : Nat)] ∧ True))) (by kernel_rfl) (by
    have hp : (l.n ≤ k ∧ 1 ≤ k ∧ k ≤ 1000) ∧ (fr ≤ N.n ∧ N.n ≤ 1000) ∧ L.nrms N ∧ L.within0 l N.n := hp
    obtain ⟨⟨k1, k2, k3⟩, ⟨f1, f2⟩, hN, hw⟩ := hp
    have hmu : k - l.n < rn + 1 := hmu
    refine ⟨fun he => ?_, fun hne => ?_⟩
    · have he : ((l.n : Nat) : Int) = (k : Int) := of_decide_eq_true he
      have e0 : k - l.n = 0 := by omega
      have hR : L.isNo (L.grp N (k - l.n) l fr) = L.wayOk (L.pck N l) := by
        rw [e0, L.grp]; cases L.wayOk (L.pck N l) <;> rfl
      have hA : L.orB (L.grp N (k - l.n) l fr) b = L.aft N l b := by
        rw [e0, L.grp]; unfold L.aft; cases L.wayOk (L.pck N l) <;> rfl
      rw [hR, hA]
      exact ⟨(l, N, b), ⟨rfl, fun _ _ => rfl⟩, rfl, rfl, ⟨rfl, fun _ _ => rfl⟩, ⟨by show 1 ≤ l.n; omega, by show l.n ≤ 1000; omega, hN, hw⟩, fun u _ => ⟨(0 : Nat), rfl, ⟨rfl, fun _ _ => rfl⟩, rfl, rfl, trivial⟩⟩
    · have hne : ¬ ((l.n : Nat) : Int) = (k : Int) := of_decide_eq_false hne
      have hG : L.grp N (k - l.n) l fr = L.first (fun j => L.grp N (k - l.n - 1) (L.snoc l ((fr + j : Nat) : Int)) (fr + j + 1)) (N.n - fr) := by
        obtain ⟨d, hd⟩ : ∃ d, k - l.n = d + 1 := ⟨k - l.n - 1, by omega⟩
        rw [hd]; rfl
      rw [hG]
      refine ⟨⟨(0 : Nat), rfl, f1, fun c hc => absurd hc (Nat.not_lt_zero _)⟩, fun g hg => ⟨fun hlt => ?_, fun hge => ?_⟩⟩
      · obtain ⟨g1, g2⟩ := hg
        have hb : ((fr + g : Nat) : Int) < (N.n : Int) := of_decide_eq_true hlt
        have e1 : ((l.n : Nat) : Int).toNat = l.n := by omega
        have none : ∀ c, c < g → L.grp N (k - l.n - 1) (L.snoc l ((fr + c : Nat) : Int)) (fr + c + 1) = none := fun c hc => isNo_none (g2 c hc)
        rw [e1]
        refine ⟨⟨by omega, by omega, rfl⟩, ⟨by decide, show (l.n + 1) * 8 ≤ 140737488355328 by omega⟩, InK.of (by omega) (by omega), (L.snoc l ((fr + g : Nat) : Int), fr + g + 1, k, N, b), ⟨rfl, fun i hi => ?_⟩, by show ((fr + g : Nat) : Int) + 1 = ((fr + g + 1 : Nat) : Int); omega, rfl, rfl, rfl, rfl, ⟨rfl, fun _ _ => rfl⟩, rfl, rfl, ⟨⟨⟨by show l.n + 1 ≤ k; omega, k2, k3⟩, ⟨by show fr + g + 1 ≤ N.n; omega, f2⟩, hN, snoc_within hw (by omega) hb⟩, by show k - (l.n + 1) < rn; omega⟩, fun u _ => ?_⟩
        · have hi : i < l.n + 1 := hi
          show appGet l.n _ _ i = [SV.int .i64 (bif decide (i < l.n) then l.g i else ((fr + g : Nat) : Int))]
          unfold appGet
          by_cases h' : i < l.n
          · rw [if_pos h', decide_eq_true h']; rfl
          · rw [if_neg h', decide_eq_false h']; rfl
        · have hF : L.grp N (k - (L.snoc l ((fr + g : Nat) : Int)).n) (L.snoc l ((fr + g : Nat) : Int)) (fr + g + 1) = L.grp N (k - l.n - 1) (L.snoc l ((fr + g : Nat) : Int)) (fr + g + 1) := rfl
          dsimp only
          rw [hF]
          refine ⟨fun hc => ?_, fun hc => ?_⟩
          · have hc : L.isNo (L.grp N (k - l.n - 1) (L.snoc l ((fr + g : Nat) : Int)) (fr + g + 1)) = false := by simpa using (show (!L.isNo (L.grp N (k - l.n - 1) (L.snoc l ((fr + g : Nat) : Int)) (fr + g + 1))) = true from hc)
            obtain ⟨x, hx⟩ := isNo_some hc
            have hf := first_at (f := fun j => L.grp N (k - l.n - 1) (L.snoc l ((fr + j : Nat) : Int)) (fr + j + 1)) none hx (c := N.n - fr) (by omega)
            rw [hf, hx]
            exact ⟨(0 : Nat), rfl, ⟨rfl, fun _ _ => rfl⟩, rfl, rfl, trivial⟩
          · have hc : L.isNo (L.grp N (k - l.n - 1) (L.snoc l ((fr + g : Nat) : Int)) (fr + g + 1)) = true := by simpa using (show (!L.isNo (L.grp N (k - l.n - 1) (L.snoc l ((fr + g : Nat) : Int)) (fr + g + 1))) = false from hc)
            have hx := isNo_none hc
            rw [hx]
            refine ⟨InK.of (by omega) (by omega), g + 1, by omega, rfl, ⟨rfl, fun _ _ => rfl⟩, rfl, rfl, rfl, rfl, rfl, ⟨rfl, fun _ _ => rfl⟩, rfl, rfl, ⟨by omega, fun c hcc => ?_⟩, by omega⟩
            rcases Nat.lt_succ_iff_lt_or_eq.1 hcc with h | rfl
            · exact g2 c h
            · exact hc
      · obtain ⟨g1, g2⟩ := hg
        have hb : ¬ ((fr + g : Nat) : Int) < (N.n : Int) := of_decide_eq_false hge
        have hf : L.first (fun j => L.grp N (k - l.n - 1) (L.snoc l ((fr + j : Nat) : Int)) (fr + j + 1)) (N.n - fr) = none := first_none (fun j hj => isNo_none (g2 j (by omega)))
        rw [hf]
        exact ⟨(0 : Nat), rfl, ⟨rfl, fun _ _ => rfl⟩, rfl, rfl, trivial⟩)
theorem p_more_en : Enters Try.prog 46 := fun args w => by kernel_rfl
theorem p_more_tok : TrOk Try.prog 46 p_more_tr := tr_rec p_more_mu (fun t u => rfl) (fun rn ih => tr_ok (ks := [1003, 1005, 1007]) (n := 6) Try.func46 (c := bodyOf Try.f46) (by kernel_rfl) mixed ⟨fun t => rfl, fun t => rfl, fun t u => rfl, fun t u => rfl, fun t u => rfl, by kernel_rfl⟩ (fun ⟨l, fr, k, N, b⟩ hp => ⟨_, p_more_vc rn l fr k N b hp.1 hp.2, ⟨show SpecsL Try.prog _ from SpecsL.nil, rfl, ⟨show ItersL Try.prog _ from ItersL.nil, (show TrsL Try.prog _ from (TrsL.cons p_exit2_tok p_exit2_en (TrsL.cons ih p_more_en TrsL.nil)))⟩⟩⟩))
abbrev p_groups_tr : Tr := { T := (Nat) × (L.Sq L.Pt) × (L.Sq Int), U := Nat, args := fun t => (fun k N b => [.p (.int .i64 (N.n : Int)), .p (.int .i64 (k : Int)), .cl 30 [.p (.ref [(.sl 2 N.n (fun i => [.int .i64 ((N.g i).x), .int .i64 ((N.g i).y)]))] 0), .loc 1003 0]]) t.1 t.2.1 t.2.2, own := fun t => (fun k N b => [(1003, .blk 39 [.full false 1 (b).n (fun i => [.int .i64 ((b).g i)])])]) t.1 t.2.1 t.2.2, pre := fun t => (fun k N b => (1 ≤ k ∧ k ≤ 1000) ∧ N.n ≤ 1000 ∧ L.nrms N) t.1 t.2.1 t.2.2, post := fun t u => (fun k N b => fun u => True) t.1 t.2.1 t.2.2 u, own' := fun t u => (fun k N b => fun u => [(1003, .blk 39 [.full false 1 (L.orB (L.grp N k L.nilI 0) b).n (fun i => [.int .i64 ((L.orB (L.grp N k L.nilI 0) b).g i)])])]) t.1 t.2.1 t.2.2 u, res := fun t u => (fun k N b => fun u => .p (.bool (L.isNo (L.grp N k L.nilI 0)))) t.1 t.2.1 t.2.2 u }
theorem p_groups_vc (k : Nat) (N : L.Sq L.Pt) (b : L.Sq Int) (hp : p_groups_tr.pre (k, N, b)) : vc Try.prog ({ muts := [5, 7], frz := lookN [], specs := lookS [], loops := lookL [], iters := lookI [], rfs := lookR [], nils := lookM [], trs := lookT [(46, p_more_tr)], ren := fun k => bif k == 1003 then 1003 else k - 1000 }) (bodyOf Try.f29) (stTr Try.f29 (p_groups_tr.args (k, N, b)) (p_groups_tr.own (k, N, b))) (retTr Try.prog Try.f29 p_groups_tr (k, N, b)) :=
  @Eq.mpr _ (∃ (t : L.Sq Int × Nat × Nat × L.Sq L.Pt × L.Sq Int), t.1.n = (0 : Nat) ∧ (0 : Int) = (↑t.2.1 : Int) ∧ SV.ref [SV.int .i64 (↑k : Int)] (nat_lit 0) = SV.ref [SV.int .i64 (↑t.snd.2.1 : Int)] (0 : Nat) ∧ nat_lit 0 = (0 : Nat) ∧ SV.ref [SV.int .i64 (↑N.n : Int)] (nat_lit 0) = SV.ref [SV.int .i64 (↑t.snd.snd.2.1.n :
 Int)] (0 : Nat) ∧ nat_lit 0 = (0 : Nat) ∧ (b.n = t.snd.snd.2.2.n ∧ ∀ (i : Nat), i < b.n → [SV.int .i64 (b.g i)] = [SV.int .i64 (t.snd.snd.2.2.g i)]) ∧ EV.cl (nat_lit 30) [EV.p (SV.ref [SV.sl (nat_lit 2) N.n fun (i : Nat) ↦ [SV.int .i64 (N.g i).x, SV.int .i64 (N.g i).y]] (nat_lit 0)), EV.loc (nat_lit 1003)
 (nat_lit 0)] = EV.cl (30 : Nat) [EV.p (SV.ref [SV.sl (nat_lit 2) t.snd.snd.2.1.n fun (i : Nat) ↦ [SV.int .i64 (t.snd.snd.2.1.g i).x, SV.int .i64 (t.snd.snd.2.1.g i).y]] (nat_lit 0)), EV.loc (bif nat_lit 1003 == (1003 : Nat) then (1003 : Nat) else nat_lit 1003 - (1000 : Nat)) (nat_lit 0)] ∧ EV.cl (nat_lit 46) [EV.p
 (SV.ref [SV.int .i64 (↑k : Int)] (nat_lit 0)), EV.loc (nat_lit 5) (nat_lit 0), EV.p (SV.ref [SV.int .i64 (↑N.n : Int)] (nat_lit 0)), EV.loc (nat_lit 7) (nat_lit 0)] = EV.cl (46 : Nat) [EV.p (SV.ref [SV.int .i64 (↑t.snd.2.1 : Int)] (nat_lit 0)), EV.loc (bif nat_lit 1005 == (1003 : Nat) then (1003 :
 Nat) else nat_lit 1005 - (1000 : Nat)) (nat_lit 0), EV.p (SV.ref [SV.int .i64 (↑t.snd.snd.2.1.n : Int)] (nat_lit 0)), EV.loc (bif nat_lit 1007 == (1003 : Nat) then (1003 : Nat) else nat_lit 1007 - (1000 : Nat)) (nat_lit 0)] ∧ ((t.1.n ≤ t.snd.2.1 ∧ (1 : Nat) ≤ t.snd.2.1 ∧ t.snd.2.1 ≤ (1000 : Nat)) ∧ (t.2.1 ≤ t.snd.snd.2.1.n ∧ t.snd.snd.2.1.n ≤ (1000 : Nat)) ∧
 L.nrms t.snd.snd.2.1 ∧ L.within0 t.1 t.snd.snd.2.1.n) ∧ ∀ (u : Nat), True → ∃ (u : Nat), L.isNo (L.grp t.snd.snd.2.1 (t.snd.2.1 - t.1.n) t.1 t.2.1) = L.isNo (L.grp N k L.nilI (0 : Nat)) ∧ ((L.orB (L.grp t.snd.snd.2.1 (t.snd.2.1 - t.1.n) t.1 t.2.1) t.snd.snd.2.2).n = (L.orB (L.grp N k L.nilI (0 : Nat)) b).n ∧ ∀ (i : Nat), i < (L.orB (L.grp t.snd.snd.2.1 (t.snd.2.1 - t.1.n) t.1 t.2.1)
 t.snd.snd.2.2).n → [SV.int .i64 ((L.orB (L.grp t.snd.snd.2.1 (t.snd.2.1 - t.1.n) t.1 t.2.1) t.snd.snd.2.2).g i)] = [SV.int .i64 ((L.orB (L.grp N k L.nilI (0 : Nat)) b).g i)]) ∧ True) (by kernel_rfl) (by
    have hp : (1 ≤ k ∧ k ≤ 1000) ∧ N.n ≤ 1000 ∧ L.nrms N := hp
    obtain ⟨⟨k1, k2⟩, hn, hN⟩ := hp
    exact ⟨(L.nilI, 0, k, N, b), rfl, rfl, rfl, rfl, rfl, rfl, ⟨rfl, fun _ _ => rfl⟩, rfl, rfl, ⟨⟨Nat.zero_le _, k1, k2⟩, ⟨Nat.zero_le _, hn⟩, hN, fun i hi => absurd hi (Nat.not_lt_zero _)⟩, fun u _ => ⟨(0 : Nat), rfl, ⟨rfl, fun _ _ => rfl⟩, trivial⟩⟩)
theorem p_groups_en : Enters Try.prog 29 := fun args w => by kernel_rfl
theorem p_groups_tok : TrOk Try.prog 29 p_groups_tr := tr_ok (ks := [1003]) (n := 3) Try.func29 (c := bodyOf Try.f29) (by kernel_rfl) mixed ⟨fun t => rfl, fun t => rfl, fun t u => rfl, fun t u => rfl, fun t u => rfl, by kernel_rfl⟩ (fun ⟨k, N, b⟩ hp => ⟨_, p_groups_vc k N b hp, ⟨show SpecsL Try.prog _ from SpecsL.nil, rfl, ⟨show ItersL Try.prog _ from ItersL.nil, (show TrsL Try.prog _ from (TrsL.cons p_more_tok p_more_en TrsL.nil))⟩⟩⟩)
def p_Exit_p (l : (L.Sq L.Pt)) : Prop := l.n ≤ 9223372036854775807 ∧ (L.exBad l = false → L.wayOk l = false → L.isNo (L.first (L.exF l) 22) = false)
def p_Exit_r (l : (L.Sq L.Pt)) : SV := .tup [.agg [.int .i64 (L.exD l).x, .int .i64 (L.exD l).y], .sl 1 (L.exN l) (fun i => [.int .i64 ((L.exL l).g i)]), .int .i64 (L.exE l)]
def p_Exit_s : List EV → Option (Prop × SV)
  | [.p (.sl 2 l_n l_g)] => some ((∀ i, i < l_n → l_g i = [.int .i64 ((ofPt (l_g i)).x), .int .i64 ((ofPt (l_g i)).y)]) ∧ p_Exit_p (⟨l_n, fun i => ofPt (l_g i)⟩ : (L.Sq L.Pt)), p_Exit_r (⟨l_n, fun i => ofPt (l_g i)⟩ : (L.Sq L.Pt)))
  | _ => none
abbrev p_Exit_S : SE.Spec := (specO p_Exit_s)
def p_Exit_C : Cfg := { muts := [2, 3, 6], frz := lookN [], specs := lookS [(27, s_conFP_S), (25, p_bad_S), (28, p_way_S)], loops := fun _ => none, iters := lookI [], rfs := lookR [], nils := lookM [], anys := [11], trs := lookT [(29, p_groups_tr)], ren := fun k => k - 1000 }
theorem p_Exit_vc (l : (L.Sq L.Pt)) (hp : p_Exit_p l) : vc Try.prog ({ p_Exit_C with loops := lookL [(8, { T := Nat, keep := [1, 2, 3], keepO := [2], chg := fun j => [(8, .p (.int .i64 ((3 + j : Nat) : Int)))], own := fun j => [(3, .blk 39 [.full false 1 (L.orB (L.first (L.exF l) j) L.nilI).n (fun i => [.int .i64 ((L.orB (L.first (L.exF l) j) L.nilI).g i)])])], inv := fun j => j ≤ 22, mu := fun j => 23 - j })], rfs := lookR [] }) (bodyOf Try.f11) (st0 Try.f11 [.p (.sl 2 l.n (fun i => [.int .i64 ((l.g i).x), .int .i64 ((l.g i).y)]))]) (retFn Try.prog Try.f11 (p_Exit_r l)) :=
  @Eq.mpr _ (((!decide ((24 : Int) < (↑l.n : Int))) = true → (∀ (i : Nat), i < l.n → [SV.int .i64 (l.g i).x, SV.int .i64 (l.g i).y] = [SV.int .i64 (l.g i).x, SV.int .i64 (l.g i).y]) ∧ isB (FSpec.mk (fun («as» : List SV) ↦ preO p_bad_s (List.map EV.p «as» ++ List.map EV.p [])) fun («as» : List
 SV) ↦ resO p_bad_s (List.map EV.p «as» ++ List.map EV.p [])) ∧ l.n ≤ (1000000 : Nat) ∧ ∀ (i : Nat), i < l.n → True) ∧ ((bif decide ((24 : Int) < (↑l.n : Int)) then true else L.anyB l.n fun (i : Nat) ↦ L.fbl (FSpec.mk (fun («as» : List SV) ↦ preO p_bad_s (List.map EV.p «as» ++ List.map EV.p [])) fun («as» : List SV) ↦
 resO p_bad_s (List.map EV.p «as» ++ List.map EV.p [])) [SV.agg [SV.int .i64 (l.g i).x, SV.int .i64 (l.g i).y]]) = true → SV.agg [SV.int .i64 (0 : Int), SV.int .i64 (0 : Int)] = SV.agg [SV.int .i64 (L.exD l).x, SV.int .i64 (L.exD l).y] ∧ L.exN l = (0 : Nat) ∧ (1 :
 Int) = L.exE l) ∧ ((bif decide ((24 : Int) < (↑l.n : Int)) then true else L.anyB l.n fun (i : Nat) ↦ L.fbl (FSpec.mk (fun («as» : List SV) ↦ preO p_bad_s (List.map EV.p «as» ++ List.map EV.p [])) fun («as» : List SV) ↦ resO p_bad_s (List.map EV.p «as» ++ List.map EV.p [])) [SV.agg [SV.int .i64 (l.g i).x,
 SV.int .i64 (l.g i).y]]) = false → ((∀ (i : Nat), i < l.n → [SV.int .i64 (l.g i).x, SV.int .i64 (l.g i).y] = [SV.int .i64 (l.g i).x, SV.int .i64 (l.g i).y]) ∧ L.nrms (L.Sq.mk l.n fun (i : Nat) ↦ l.g i)) ∧ (L.wayOk (L.Sq.mk l.n fun (i : Nat) ↦ l.g i) = true → SV.agg [SV.int .i64 (L.wayD
 (L.Sq.mk l.n fun (i : Nat) ↦ l.g i)).x, SV.int .i64 (L.wayD (L.Sq.mk l.n fun (i : Nat) ↦ l.g i)).y] = SV.agg [SV.int .i64 (L.exD l).x, SV.int .i64 (L.exD l).y] ∧ L.exN l = (0 : Nat) ∧ (0 : Int) = L.exE l) ∧ (L.wayOk (L.Sq.mk l.n fun (i : Nat) ↦ l.g i) = false → (∃ (g : Nat), (3 : Int) = (↑((3 : Nat) + g) : Int) ∧ (L.orB (L.first (L.exF l)
 g) L.nilI).n = (0 : Nat) ∧ g ≤ (22 : Nat)) ∧ ∀ (g : Nat), g ≤ (22 : Nat) → ((bif false then !decide ((L.orB (L.first (L.exF l) g) L.nilI).n = (0 : Nat)) else decide ((L.orB (L.first (L.exF l) g) L.nilI).n = (0 : Nat))) = true → ∃ (t : Nat × L.Sq L.Pt × L.Sq Int), (↑l.n : Int) = (↑t.2.1.n : Int) ∧ (↑((3 : Nat) + g) : Int) = (↑t.1 : Int) ∧ EV.cl (nat_lit 30)
 [EV.p (SV.ref [SV.sl (nat_lit 2) l.n fun (i : Nat) ↦ [SV.int .i64 (l.g i).x, SV.int .i64 (l.g i).y]] (nat_lit 0)), EV.loc (nat_lit 3) (nat_lit 0)] = EV.cl (30 : Nat) [EV.p (SV.ref [SV.sl (nat_lit 2) t.2.1.n fun (i : Nat) ↦ [SV.int .i64 (t.2.1.g i).x, SV.int .i64 (t.2.1.g i).y]] (nat_lit
 0)), EV.loc (nat_lit 1003 - (1000 : Nat)) (nat_lit 0)] ∧ ((L.orB (L.first (L.exF l) g) L.nilI).n = t.2.2.n ∧ ∀ (i : Nat), i < (L.orB (L.first (L.exF l) g) L.nilI).n → [SV.int .i64 ((L.orB (L.first (L.exF l) g) L.nilI).g i)] = [SV.int .i64 (t.2.2.g i)]) ∧ (((1 : Nat) ≤ t.1 ∧ t.1 ≤ (1000 : Nat)) ∧ t.2.1.n ≤ (1000 : Nat) ∧ L.nrms t.2.1) ∧ ∀ (u : Nat), True →
 InK .i64 ((↑((3 : Nat) + g) : Int) + (1 : Int)) ∧ ∃ (g' : Nat), (↑((3 : Nat) + g) : Int) + (1 : Int) = (↑((3 : Nat) + g') : Int) ∧ nat_lit 0 = nat_lit 0 ∧ nat_lit 0 = nat_lit 0 ∧ SV.ref [SV.sl (nat_lit 2) l.n fun (i : Nat) ↦ [SV.int .i64 (l.g i).x, SV.int .i64 (l.g i).y]] (nat_lit 0) = SV.ref [SV.sl (nat_lit 2) l.n fun (i :
 Nat) ↦ [SV.int .i64 (l.g i).x, SV.int .i64 (l.g i).y]] (nat_lit 0) ∧ ((L.orB (L.grp t.2.1 t.1 L.nilI (0 : Nat)) t.2.2).n = (L.orB (L.first (L.exF l) g') L.nilI).n ∧ ∀ (i : Nat), i < (L.orB (L.grp t.2.1 t.1 L.nilI (0 : Nat)) t.2.2).n → [SV.int .i64 ((L.orB (L.grp t.2.1 t.1 L.nilI (0 : Nat)) t.2.2).g i)] = [SV.int .i64 ((L.orB (L.first
 (L.exF l) g') L.nilI).g i)]) ∧ (0 : Int) = (0 : Int) ∧ (0 : Int) = (0 : Int) ∧ g' ≤ (22 : Nat) ∧ (23 : Nat) - g' < (23 : Nat) - g) ∧ ((bif false then !decide ((L.orB (L.first (L.exF l) g) L.nilI).n = (0 : Nat)) else decide ((L.orB (L.first (L.exF l) g) L.nilI).n = (0 : Nat))) = false → ((SV.agg [SV.int .i64 (0 : Int), SV.int .i64
 (0 : Int)] = SV.agg [SV.int .i64 (L.exD l).x, SV.int .i64 (L.exD l).y] ∧ ((L.orB (L.first (L.exF l) g) L.nilI).n = L.exN l ∧ ∀ (i : Nat), i < (L.orB (L.first (L.exF l) g) L.nilI).n → [SV.int .i64 ((L.orB (L.first (L.exF l) g) L.nilI).g i)] = [SV.int .i64 ((L.exL l).g i)]) ∧ (13 : Int) = L.exE l) ∧ SV.agg [SV.int
 .i64 (0 : Int), SV.int .i64 (0 : Int)] = SV.agg [SV.int .i64 (L.exD l).x, SV.int .i64 (L.exD l).y] ∧ ((L.orB (L.first (L.exF l) g) L.nilI).n = L.exN l ∧ ∀ (i : Nat), i < (L.orB (L.first (L.exF l) g) L.nilI).n → [SV.int .i64 ((L.orB (L.first (L.exF l) g) L.nilI).g i)] = [SV.int .i64 ((L.exL l).g i)]) ∧
 (13 : Int) = L.exE l) ∧ SV.agg [SV.int .i64 (0 : Int), SV.int .i64 (0 : Int)] = SV.agg [SV.int .i64 (L.exD l).x, SV.int .i64 (L.exD l).y] ∧ ((L.orB (L.first (L.exF l) g) L.nilI).n = L.exN l ∧ ∀ (i : Nat), i < (L.orB (L.first (L.exF l) g) L.nilI).n → [SV.int .i64 ((L.orB (L.first (L.exF l) g) L.nilI).g i)] =
 [SV.int .i64 ((L.exL l).g i)]) ∧ (13 : Int) = L.exE l)))) (by kernel_rfl) (by
    obtain ⟨hn, hex⟩ := hp
    refine ⟨fun h0 => ⟨fun _ _ => rfl, isB_of p_bad_B _, by have := of_decide_eq_false (notT h0); omega, fun _ _ => trivial⟩, fun h => ?_, fun h => ?_⟩
    · have hb : L.exBad l = true := h
      unfold L.exD L.exN L.exE
      rw [hb]; exact ⟨rfl, rfl, rfl⟩
    have hb : L.exBad l = false := h
    obtain ⟨h24, hN⟩ := exBad_false hb
    refine ⟨⟨fun _ _ => rfl, hN⟩, fun hw => ?_, fun hw => ?_⟩
    · unfold L.exD L.exN L.exE
      rw [hb, hw]; exact ⟨rfl, rfl, rfl⟩
    have hsm := hex hb hw
    have hD : L.exD l = ⟨0, 0⟩ := by unfold L.exD; rw [hb]; exact wayD_no hw
    have hE : L.exE l = 13 := by unfold L.exE; rw [hb, hw]; rfl
    have hNn : L.exN l = (L.exL l).n := by unfold L.exN; rw [hb, hw]; rfl
    refine ⟨⟨(0 : Nat), rfl, rfl, Nat.zero_le _⟩, fun g hg => ⟨fun hc => ?_, fun hc => ?_⟩⟩
    · have hc : (L.orB (L.first (L.exF l) g) L.nilI).n = 0 := of_decide_eq_true hc
      have hno : L.first (L.exF l) g = none := by
        cases hf : L.first (L.exF l) g with
        | none => rfl
        | some x =>
          rw [hf] at hc
          have hc : x.n = 0 := hc
          obtain ⟨j, _, hj, _⟩ := first_some hf
          have : x.n = 0 + (3 + j) := grp_len hj
          omega
      have hg22 : g ≠ 22 := fun e => by
        rw [e] at hno; rw [hno] at hsm; cases hsm
      have e1 : L.first (L.exF l) (g + 1) = L.exF l g := by rw [L.first, hno]
      refine ⟨(3 + g, l, L.orB (L.first (L.exF l) g) L.nilI), rfl, rfl, rfl, ⟨rfl, fun _ _ => rfl⟩, ⟨⟨by show 1 ≤ 3 + g; omega, by show 3 + g ≤ 1000; omega⟩, by show l.n ≤ 1000; omega, hN⟩, fun u _ => ⟨InK.of (by omega) (by omega), g + 1, by omega, rfl, rfl, rfl, ?_, rfl, rfl, by omega, by omega⟩⟩
      rw [e1, hno]
      exact ⟨rfl, fun _ _ => rfl⟩
    · have hc : ¬ (L.orB (L.first (L.exF l) g) L.nilI).n = 0 := of_decide_eq_false hc
      have hsom : L.orB (L.first (L.exF l) g) L.nilI = L.exL l := by
        cases hf : L.first (L.exF l) g with
        | none => rw [hf] at hc; exact absurd rfl hc
        | some x =>
          unfold L.exL
          rw [first_mono hf hg]
      rw [hsom, hD, hE, hNn]
      exact ⟨⟨⟨rfl, ⟨rfl, fun _ _ => rfl⟩, rfl⟩, ⟨rfl, ⟨rfl, fun _ _ => rfl⟩, rfl⟩⟩, ⟨rfl, ⟨rfl, fun _ _ => rfl⟩, rfl⟩⟩)
theorem p_Exit_ok : SpecOk Try.prog 11 p_Exit_S := fnX Try.func11 (c := bodyOf Try.f11) (by kernel_rfl) mixed (fun args p r hs hp => by
  unfold p_Exit_s at hs
  split at hs
  · cases hs; exact ⟨_, _, p_Exit_vc _ hp.2, (.p (.sl hp.1) .nil), ⟨show SpecsL Try.prog _ from (SpecsL.cons s_conFP_ok s_conFP_en (SpecsL.cons p_bad_ok p_bad_en (SpecsL.cons p_way_ok p_way_en SpecsL.nil))), rfl, ⟨show ItersL Try.prog _ from ItersL.nil, (show TrsL Try.prog _ from (TrsL.cons p_groups_tok p_groups_en TrsL.nil))⟩⟩⟩
  · cases hs)
theorem p_Exit_en : Enters Try.prog 11 := fun args w => by kernel_rfl
end Go.Proofs.Ytinfalehnaejbaa

namespace Go.Proofs.Ytinfalehnaejbaa
open Go.SE Go.RowKit
set_option maxRecDepth 100000
set_option maxHeartbeats 4000000
set_option linter.unusedVariables false
attribute [local irreducible] vc

def p_Area_p (l : (L.Sq L.Pt)) : Prop := l.n ≤ 1000000
def p_Area_r (l : (L.Sq L.Pt)) : SV := .tup [.int .i64 (bif L.validOutline l then L.areaTo l l.n else 0), .int .i64 (bif L.validOutline l then 0 else 1)]
def p_Area_s : List EV → Option (Prop × SV)
  | [.p (.sl 2 l_n l_g)] => some ((∀ i, i < l_n → l_g i = [.int .i64 ((ofPt (l_g i)).x), .int .i64 ((ofPt (l_g i)).y)]) ∧ p_Area_p (⟨l_n, fun i => ofPt (l_g i)⟩ : (L.Sq L.Pt)), p_Area_r (⟨l_n, fun i => ofPt (l_g i)⟩ : (L.Sq L.Pt)))
  | _ => none
abbrev p_Area_S : SE.Spec := (specO p_Area_s)
def p_Area_C : Cfg := { muts := [], frz := lookN [], specs := lookS [(12, p_ValidOutline_S), (13, p_area_S)], loops := lookL [], iters := lookI [], rfs := lookR [], nils := lookM [] }
theorem p_Area_vc (l : (L.Sq L.Pt)) (hp : p_Area_p l) : vc Try.prog (p_Area_C) (bodyOf Try.f5) (st0 Try.f5 [.p (.sl 2 l.n (fun i => [.int .i64 ((l.g i).x), .int .i64 ((l.g i).y)]))]) (retFn Try.prog Try.f5 (p_Area_r l)) :=
  @Eq.mpr _ (((∀ (i : Nat), i < l.n → [SV.int .i64 (l.g i).x, SV.int .i64 (l.g i).y] = [SV.int .i64 (l.g i).x, SV.int .i64 (l.g i).y]) ∧ l.n ≤ (1000000 : Nat)) ∧ ((!L.validOutline (L.Sq.mk l.n fun (i : Nat) ↦ l.g i)) = true → ((0 : Int) = bif L.validOutline l then L.areaTo l l.n else (0 : Int)) ∧ (1 : Int) = bif L.validOutline l then (0 :
 Int) else (1 : Int)) ∧ ((!L.validOutline (L.Sq.mk l.n fun (i : Nat) ↦ l.g i)) = false → ((∀ (i : Nat), i < l.n → [SV.int .i64 (l.g i).x, SV.int .i64 (l.g i).y] = [SV.int .i64 (l.g i).x, SV.int .i64 (l.g i).y]) ∧ L.small (L.Sq.mk l.n fun (i : Nat) ↦ l.g i)) ∧ (L.areaTo (L.Sq.mk l.n fun (i : Nat) ↦ l.g i) l.n = bif L.validOutline l
 then L.areaTo l l.n else (0 : Int)) ∧ (0 : Int) = bif L.validOutline l then (0 : Int) else (1 : Int))) (by kernel_rfl) (by
    have hn : l.n ≤ 1000000 := hp
    refine ⟨⟨fun _ _ => rfl, hn⟩, fun h => ?_, fun h => ?_⟩
    · have hv : L.validOutline l = false := by simpa using (show (!L.validOutline l) = true from h)
      rw [hv]; exact ⟨rfl, rfl⟩
    · have hv : L.validOutline l = true := by simpa using (show (!L.validOutline l) = false from h)
      rw [hv]; exact ⟨⟨fun _ _ => rfl, (validOutline_of hv).2.2.1⟩, rfl, rfl⟩)
theorem p_Area_ok : SpecOk Try.prog 5 p_Area_S := fnX Try.func5 (c := bodyOf Try.f5) (by kernel_rfl) mixed (fun args p r hs hp => by
  unfold p_Area_s at hs
  split at hs
  · cases hs; exact ⟨_, _, p_Area_vc _ hp.2, (.p (.sl hp.1) .nil), ⟨show SpecsL Try.prog _ from (SpecsL.cons p_ValidOutline_ok p_ValidOutline_en (SpecsL.cons p_area_ok p_area_en SpecsL.nil)), rfl, ⟨show ItersL Try.prog _ from ItersL.nil, (TrsOk.none (fun _ => rfl))⟩⟩⟩
  · cases hs)
theorem p_Area_en : Enters Try.prog 5 := fun args w => by kernel_rfl
def p_Turn_p (a : L.Pt) (b : L.Pt) (c : L.Pt) : Prop := True
def p_Turn_r (a : L.Pt) (b : L.Pt) (c : L.Pt) : SV := .tup [.int .i64 (bif L.validPt a && L.validPt b && L.validPt c then L.cmp (L.cross a b c) 0 else 0), .int .i64 (bif L.validPt a && L.validPt b && L.validPt c then 0 else 1)]
def p_Turn_s : List EV → Option (Prop × SV)
  | [.p (.agg [.int .i64 a_x, .int .i64 a_y]), .p (.agg [.int .i64 b_x, .int .i64 b_y]), .p (.agg [.int .i64 c_x, .int .i64 c_y])] => some (p_Turn_p (⟨a_x, a_y⟩ : L.Pt) (⟨b_x, b_y⟩ : L.Pt) (⟨c_x, c_y⟩ : L.Pt), p_Turn_r (⟨a_x, a_y⟩ : L.Pt) (⟨b_x, b_y⟩ : L.Pt) (⟨c_x, c_y⟩ : L.Pt))
  | _ => none
abbrev p_Turn_S : SE.Spec := (specO p_Turn_s)
def p_Turn_C : Cfg := { muts := [], frz := lookN [], specs := lookS [(23, p_valid_S), (24, p_cross_S), (22, c_cmp_S)], loops := lookL [], iters := lookI [], rfs := lookR [], nils := lookM [] }
theorem p_Turn_vc (a : L.Pt) (b : L.Pt) (c : L.Pt) (hp : p_Turn_p a b c) : vc Try.prog (p_Turn_C) (bodyOf Try.f10) (st0 Try.f10 [.p (.agg [.int .i64 a.x, .int .i64 a.y]), .p (.agg [.int .i64 b.x, .int .i64 b.y]), .p (.agg [.int .i64 c.x, .int .i64 c.y])]) (retFn Try.prog Try.f10 (p_Turn_r a b c)) :=
  @Eq.mpr _ (((∀ (i : Nat), i < nat_lit 3 → rowsOf [SV.int .i64 a.x, SV.int .i64 a.y, SV.int .i64 b.x, SV.int .i64 b.y, SV.int .i64 c.x, SV.int .i64 c.y] (nat_lit 2) i = [SV.int .i64 (ofPt (rowsOf [SV.int .i64 a.x, SV.int .i64 a.y, SV.int
 .i64 b.x, SV.int .i64 b.y, SV.int .i64 c.x, SV.int .i64 c.y] (nat_lit 2) i)).x, SV.int .i64 (ofPt (rowsOf [SV.int .i64 a.x, SV.int .i64 a.y, SV.int .i64 b.x, SV.int .i64 b.y, SV.int .i64 c.x, SV.int .i64 c.y] (nat_lit 2)
 i)).y]) ∧ nat_lit 3 ≤ (1000000 : Nat)) ∧ ((!L.allB (nat_lit 3) fun (i : Nat) ↦ L.validPt (ofPt (rowsOf [SV.int .i64 a.x, SV.int .i64 a.y, SV.int .i64 b.x, SV.int .i64 b.y, SV.int .i64 c.x, SV.int .i64 c.y] (nat_lit 2) i))) = true → ((0 : Int) = bif L.validPt a && L.validPt b && L.validPt c
 then L.cmp (L.cross a b c) (0 : Int) else (0 : Int)) ∧ (1 : Int) = bif L.validPt a && L.validPt b && L.validPt c then (0 : Int) else (1 : Int)) ∧ ((!L.allB (nat_lit 3) fun (i : Nat) ↦ L.validPt (ofPt (rowsOf [SV.int .i64 a.x, SV.int .i64 a.y, SV.int .i64 b.x, SV.int .i64 b.y, SV.int .i64 c.x, SV.int
 .i64 c.y] (nat_lit 2) i))) = false → (L.bd a ∧ L.bd b ∧ L.bd c) ∧ True ∧ (L.cmp (L.cross a b c) (0 : Int) = bif L.validPt a && L.validPt b && L.validPt c then L.cmp (L.cross a b c) (0 : Int) else (0 : Int)) ∧ (0 : Int) = bif L.validPt a && L.validPt b && L.validPt c then (0 : Int) else (1 : Int))) (by kernel_rfl) (by
    refine ⟨⟨fun i hi => by match i, hi with | 0, _ => rfl | 1, _ => rfl | 2, _ => rfl, by decide⟩, fun h => ?_, fun h => ?_⟩
    · have h' : (L.validPt a && L.validPt b && L.validPt c) = false := by simpa only [Bool.not_eq_true', Bool.not_eq_false'] using (show (!(L.validPt a && L.validPt b && L.validPt c)) = true from h)
      rw [h']; exact ⟨rfl, rfl⟩
    · have h' : (L.validPt a && L.validPt b && L.validPt c) = true := by simpa only [Bool.not_eq_true', Bool.not_eq_false'] using (show (!(L.validPt a && L.validPt b && L.validPt c)) = false from h)
      obtain ⟨vab, vc⟩ := Bool.and_eq_true_iff.1 h'
      obtain ⟨va, vb⟩ := Bool.and_eq_true_iff.1 vab
      rw [h']; exact ⟨⟨validPt_bd va, validPt_bd vb, validPt_bd vc⟩, trivial, rfl, rfl⟩)
theorem p_Turn_ok : SpecOk Try.prog 10 p_Turn_S := fnX Try.func10 (c := bodyOf Try.f10) (by kernel_rfl) mixed (fun args p r hs hp => by
  unfold p_Turn_s at hs
  split at hs
  · cases hs; exact ⟨_, _, p_Turn_vc _ _ _ hp, (.same _ (.same _ (.same _ .nil))), ⟨show SpecsL Try.prog _ from (SpecsL.cons p_valid_ok p_valid_en (SpecsL.cons p_cross_ok p_cross_en (SpecsL.cons c_cmp_ok c_cmp_en SpecsL.nil))), rfl, ⟨show ItersL Try.prog _ from ItersL.nil, (TrsOk.none (fun _ => rfl))⟩⟩⟩
  · cases hs)
theorem p_Turn_en : Enters Try.prog 10 := fun args w => by kernel_rfl
def w_awake_p  : Prop := True
def w_awake_r  : SV := .bool true
def w_awake_s : List EV → Option (Prop × SV)
  | [] => some (w_awake_p , w_awake_r )
  | _ => none
abbrev w_awake_S : SE.Spec := (specO w_awake_s)
def w_awake_C : Cfg := { muts := [8], frz := lookN [], specs := lookS [(5, p_Area_S), (9, p_Pockets_S), (10, p_Turn_S), (11, p_Exit_S)], loops := lookL [], iters := lookI [], rfs := lookR [], nils := lookM [] }
theorem w_awake_vc  (hp : w_awake_p) : vc Try.prog (w_awake_C) (bodyOf Try.f4) (st0 Try.f4 []) (retFn Try.prog Try.f4 (w_awake_r )) :=
  @Eq.mpr _ (((∀ (i : Nat), i < nat_lit 5 → rowsOf [SV.int .i64 (0 : Int), SV.int .i64 (0 : Int), SV.int .i64 (4 : Int), SV.int .i64 (0 : Int), SV.int .i64 (4 : Int), SV.int .i64 (4 : Int), SV.int .i64 (2 : Int), SV.int .i64 (1 : Int), SV.int .i64 (0 : Int),
 SV.int .i64 (4 : Int)] (nat_lit 2) i = [SV.int .i64 (ofPt (rowsOf [SV.int .i64 (0 : Int), SV.int .i64 (0 : Int), SV.int .i64 (4 : Int), SV.int .i64 (0 : Int), SV.int .i64 (4 : Int), SV.int .i64 (4 : Int), SV.int .i64 (2 : Int), SV.int
 .i64 (1 : Int), SV.int .i64 (0 : Int), SV.int .i64 (4 : Int)] (nat_lit 2) i)).x, SV.int .i64 (ofPt (rowsOf [SV.int .i64 (0 : Int), SV.int .i64 (0 : Int), SV.int .i64 (4 : Int), SV.int .i64 (0 : Int), SV.int .i64 (4 : Int), SV.int .i64 (4 :
 Int), SV.int .i64 (2 : Int), SV.int .i64 (1 : Int), SV.int .i64 (0 : Int), SV.int .i64 (4 : Int)] (nat_lit 2) i)).y]) ∧ nat_lit 5 ≤ (1000000 : Nat)) ∧ ((∀ (i : Nat), i < nat_lit 5 → rowsOf [SV.int .i64 (0 : Int), SV.int .i64 (0 : Int), SV.int .i64 (4 : Int), SV.int
 .i64 (0 : Int), SV.int .i64 (4 : Int), SV.int .i64 (4 : Int), SV.int .i64 (2 : Int), SV.int .i64 (1 : Int), SV.int .i64 (0 : Int), SV.int .i64 (4 : Int)] (nat_lit 2) i = [SV.int .i64 (ofPt (rowsOf [SV.int .i64 (0 : Int), SV.int .i64 (0 :
 Int), SV.int .i64 (4 : Int), SV.int .i64 (0 : Int), SV.int .i64 (4 : Int), SV.int .i64 (4 : Int), SV.int .i64 (2 : Int), SV.int .i64 (1 : Int), SV.int .i64 (0 : Int), SV.int .i64 (4 : Int)] (nat_lit 2) i)).x, SV.int .i64 (ofPt (rowsOf [SV.int
 .i64 (0 : Int), SV.int .i64 (0 : Int), SV.int .i64 (4 : Int), SV.int .i64 (0 : Int), SV.int .i64 (4 : Int), SV.int .i64 (4 : Int), SV.int .i64 (2 : Int), SV.int .i64 (1 : Int), SV.int .i64 (0 : Int), SV.int .i64 (4 : Int)] (nat_lit 2) i)).y]) ∧
 nat_lit 5 ≤ (1000000 : Nat)) ∧ ∀ (t : Nat → L.Pocket), (L.validOutline (L.Sq.mk (nat_lit 5) fun (i : Nat) ↦ ofPt (rowsOf [SV.int .i64 (0 : Int), SV.int .i64 (0 : Int), SV.int .i64 (4 : Int), SV.int .i64 (0 : Int), SV.int .i64 (4 : Int), SV.int .i64 (4 : Int), SV.int .i64 (2 : Int),
 SV.int .i64 (1 : Int), SV.int .i64 (0 : Int), SV.int .i64 (4 : Int)] (nat_lit 2) i)) = true → SortedBy L.cmpFr (L.pks (L.Sq.mk (nat_lit 5) fun (i : Nat) ↦ ofPt (rowsOf [SV.int .i64 (0 : Int), SV.int .i64 (0 : Int), SV.int .i64 (4 : Int), SV.int .i64 (0 : Int),
 SV.int .i64 (4 : Int), SV.int .i64 (4 : Int), SV.int .i64 (2 : Int), SV.int .i64 (1 : Int), SV.int .i64 (0 : Int), SV.int .i64 (4 : Int)] (nat_lit 2) i))).n (L.pks (L.Sq.mk (nat_lit 5) fun (i : Nat) ↦ ofPt (rowsOf [SV.int .i64 (0 : Int), SV.int .i64 (0 : Int),
 SV.int .i64 (4 : Int), SV.int .i64 (0 : Int), SV.int .i64 (4 : Int), SV.int .i64 (4 : Int), SV.int .i64 (2 : Int), SV.int .i64 (1 : Int), SV.int .i64 (0 : Int), SV.int .i64 (4 : Int)] (nat_lit 2) i))).g t) → ((0 : Int) ≤ (0 : Int) ∧ (0 : Int) < (↑(nat_lit 5) : Int)) ∧ ((0
 : Int) ≤ (1 : Int) ∧ (1 : Int) < (↑(nat_lit 5) : Int)) ∧ ((0 : Int) ≤ (2 : Int) ∧ (2 : Int) < (↑(nat_lit 5) : Int)) ∧ True ∧ ((∀ (i : Nat), i < nat_lit 3 → rowsOf [SV.int .i64 (1 : Int), SV.int .i64 (0 : Int), SV.int .i64 (-1 : Int), SV.int .i64 (1 : Int), SV.int .i64 (-1 : Int), SV.int .i64 (-1 :
 Int)] (nat_lit 2) i = [SV.int .i64 (ofPt (rowsOf [SV.int .i64 (1 : Int), SV.int .i64 (0 : Int), SV.int .i64 (-1 : Int), SV.int .i64 (1 : Int), SV.int .i64 (-1 : Int), SV.int .i64 (-1 : Int)] (nat_lit 2) i)).x, SV.int .i64 (ofPt (rowsOf [SV.int
 .i64 (1 : Int), SV.int .i64 (0 : Int), SV.int .i64 (-1 : Int), SV.int .i64 (1 : Int), SV.int .i64 (-1 : Int), SV.int .i64 (-1 : Int)] (nat_lit 2) i)).y]) ∧ nat_lit 3 ≤ (9223372036854775807 : Nat) ∧ (L.exBad (L.Sq.mk (nat_lit 3) fun (i : Nat) ↦ ofPt (rowsOf [SV.int .i64 (1 : Int),
 SV.int .i64 (0 : Int), SV.int .i64 (-1 : Int), SV.int .i64 (1 : Int), SV.int .i64 (-1 : Int), SV.int .i64 (-1 : Int)] (nat_lit 2) i)) = false → L.wayOk (L.Sq.mk (nat_lit 3) fun (i : Nat) ↦ ofPt (rowsOf [SV.int .i64 (1 : Int), SV.int .i64 (0 : Int), SV.int .i64
 (-1 : Int), SV.int .i64 (1 : Int), SV.int .i64 (-1 : Int), SV.int .i64 (-1 : Int)] (nat_lit 2) i)) = false → L.isNo (L.first (L.exF (L.Sq.mk (nat_lit 3) fun (i : Nat) ↦ ofPt (rowsOf [SV.int .i64 (1 : Int), SV.int .i64 (0 : Int), SV.int .i64 (-1 : Int), SV.int .i64 (1 : Int),
 SV.int .i64 (-1 : Int), SV.int .i64 (-1 : Int)] (nat_lit 2) i))) (22 : Nat)) = false)) ∧ (true = true → (0 : Int) ≤ (0 : Int) ∧ (0 : Int) < (↑(nat_lit 1) : Int)) ∧ (bif bif bif bif bif true then decide ((t (Int.toNat (0 : Int))).fr = (2 : Int)) && (decide ((t (Int.toNat (0 : Int))).to_ = (4 : Int)) && decide ((t
 (Int.toNat (0 : Int))).area = (12 : Int))) else false then true else false then true else false then true else false then true else false) = true) (by kernel_rfl) (by
    refine ⟨⟨fun i hi => by match i, hi with | 0, _ => rfl | 1, _ => rfl | 2, _ => rfl | 3, _ => rfl | 4, _ => rfl, by decide⟩, ⟨fun i hi => by match i, hi with | 0, _ => rfl | 1, _ => rfl | 2, _ => rfl | 3, _ => rfl | 4, _ => rfl, by decide⟩, fun t ht => ⟨⟨by decide, by decide⟩, ⟨by decide, by decide⟩, ⟨by decide, by decide⟩, trivial, ⟨fun i hi => by match i, hi with | 0, _ => rfl | 1, _ => rfl | 2, _ => rfl, by decide, fun _ _ => by kernel_rfl⟩, fun _ => ⟨by decide, by decide⟩, ?_⟩⟩
    have h := ht (by kernel_rfl)
    have hn : (L.pks (L.Sq.mk 5 fun (i : Nat) => ofPt (rowsOf [SV.int .i64 0, SV.int .i64 0, SV.int .i64 4, SV.int .i64 0, SV.int .i64 4, SV.int .i64 4, SV.int .i64 2, SV.int .i64 1, SV.int .i64 0, SV.int .i64 4] 2 i))).n = 1 := by kernel_rfl
    have hg : (L.pks (L.Sq.mk 5 fun (i : Nat) => ofPt (rowsOf [SV.int .i64 0, SV.int .i64 0, SV.int .i64 4, SV.int .i64 0, SV.int .i64 4, SV.int .i64 4, SV.int .i64 2, SV.int .i64 1, SV.int .i64 0, SV.int .i64 4] 2 i))).g 0 = ⟨2, 4, 12⟩ := by kernel_rfl
    have h1 := h.perm
    rw [hn] at h1
    have h2 : [t 0].Perm [(L.pks (L.Sq.mk 5 fun (i : Nat) => ofPt (rowsOf [SV.int .i64 0, SV.int .i64 0, SV.int .i64 4, SV.int .i64 0, SV.int .i64 4, SV.int .i64 4, SV.int .i64 2, SV.int .i64 1, SV.int .i64 0, SV.int .i64 4] 2 i))).g 0] := h1
    have h3 := List.singleton_perm_singleton.1 h2
    rw [hg] at h3
    have h4 : t (Int.toNat 0) = ⟨2, 4, 12⟩ := h3
    rw [h4]; rfl)
theorem w_awake_ok : SpecOk Try.prog 4 w_awake_S := fnX Try.func4 (c := bodyOf Try.f4) (by kernel_rfl) mixed (fun args p r hs hp => by
  unfold w_awake_s at hs
  split at hs
  · cases hs; exact ⟨_, _, w_awake_vc  hp, .nil, ⟨show SpecsL Try.prog _ from (SpecsL.cons p_Area_ok p_Area_en (SpecsL.cons p_Pockets_ok p_Pockets_en (SpecsL.cons p_Turn_ok p_Turn_en (SpecsL.cons p_Exit_ok p_Exit_en SpecsL.nil)))), rfl, ⟨show ItersL Try.prog _ from ItersL.nil, (TrsOk.none (fun _ => rfl))⟩⟩⟩
  · cases hs)
theorem w_awake_en : Enters Try.prog 4 := fun args w => by kernel_rfl
end Go.Proofs.Ytinfalehnaejbaa

namespace Go.Proofs.Ytinfalehnaejbaa
open Go.SE Go.RowKit
set_option maxRecDepth 100000
set_option maxHeartbeats 4000000
set_option linter.unusedVariables false
attribute [local irreducible] vc

def L.ix (n : Nat) (i : Int) : Nat := (Int.tmod (Int.tmod i (n : Int) + (n : Int)) (n : Int)).toNat
theorem tmod_add {m n : Int} (h0 : 0 ≤ m) (h1 : m < n) : Int.tmod (m + n) n = m := by
  rw [Int.tmod_eq_emod_of_nonneg (by omega), Int.add_emod_right, Int.emod_eq_of_lt h0 h1]
theorem ix_self {n k : Nat} (h : k < n) : L.ix n (k : Int) = k := by
  unfold L.ix
  rw [Int.tmod_eq_of_lt (show 0 ≤ (k : Int) by omega) (show (k : Int) < n by omega), tmod_add (by omega) (by omega)]
  omega
theorem ix_next {n k : Nat} (h : k < n) : L.ix n ((k : Int) + 1) = L.next n k := by
  unfold L.ix L.next
  by_cases e : k + 1 < n
  · rw [Int.tmod_eq_of_lt (show 0 ≤ (k : Int) + 1 by omega) (show (k : Int) + 1 < n by omega), tmod_add (by omega) (by omega)]
  · rw [show (k : Int) + 1 = (n : Int) by omega, Int.tmod_self, Int.zero_add, Int.tmod_self]
theorem ix_prev {n k : Nat} (h : k < n) : L.ix n ((k : Int) - 1) = L.prev n k := by
  unfold L.ix L.prev
  by_cases e : 1 ≤ k
  · rw [Int.tmod_eq_of_lt (show 0 ≤ (k : Int) - 1 by omega) (show (k : Int) - 1 < n by omega), show (k : Int) + (n : Int) - 1 = (k : Int) - 1 + n by omega]
  · obtain rfl : k = 0 := by omega
    by_cases e1 : n = 1
    · subst e1; rfl
    · rw [show ((0 : Nat) : Int) - 1 = -(1 : Int) by omega, Int.neg_tmod, Int.tmod_eq_of_lt (show 0 ≤ (1 : Int) by omega) (show (1 : Int) < n by omega), show -(1 : Int) + (n : Int) = ((0 : Nat) : Int) + (n : Int) - 1 by omega]
theorem ix_bd {n : Nat} {i : Int} (h : 0 < n) : 0 ≤ Int.tmod i (n : Int) + (n : Int) ∧ Int.tmod i (n : Int) + (n : Int) ≤ 2 * (n : Int) ∧ 0 ≤ Int.tmod (Int.tmod i (n : Int) + (n : Int)) (n : Int) ∧ Int.tmod (Int.tmod i (n : Int) + (n : Int)) (n : Int) < (n : Int) := by
  have h1 := Int.lt_tmod_of_pos i (show 0 < (n : Int) by omega)
  have h2 := Int.tmod_lt_of_pos i (show 0 < (n : Int) by omega)
  exact ⟨by omega, by omega, Int.tmod_nonneg _ (by omega), Int.tmod_lt_of_pos _ (by omega)⟩
theorem ix_lt {n : Nat} {i : Int} (h : 0 < n) : L.ix n i < n := by
  have := ix_bd (i := i) h
  unfold L.ix; omega
theorem ix_emod {n : Nat} {a : Int} (h : 0 < n) : ((L.ix n a : Nat) : Int) = a % (n : Int) := by
  obtain ⟨q1, q2, q3, q4⟩ := ix_bd (i := a) h
  unfold L.ix
  rw [Int.toNat_of_nonneg q3, Int.tmod_eq_emod_of_nonneg q1, Int.add_emod_right]
  have := Int.tmod_add_mul_tdiv a (n : Int)
  conv => rhs; rw [← this]
  rw [Int.add_mul_emod_self_left]
theorem ix_congr {n : Nat} {a b : Int} (hn : 0 < n) (h : a % (n : Int) = b % (n : Int)) (c : Int) : L.ix n (a + c) = L.ix n (b + c) := by
  have h1 := ix_emod (a := a + c) hn
  have h2 := ix_emod (a := b + c) hn
  rw [← Int.emod_add_emod, h, Int.emod_add_emod] at h1
  omega
theorem ix_ix {n : Nat} {a : Int} (hn : 0 < n) (c : Int) : L.ix n (((L.ix n a : Nat) : Int) + c) = L.ix n (a + c) :=
  ix_congr hn (by rw [ix_emod hn, Int.emod_emod]) c
end Go.Proofs.Ytinfalehnaejbaa

namespace Go.Proofs.Ytinfalehnaejbaa
open Go.SE Go.RowKit
set_option maxRecDepth 100000
set_option maxHeartbeats 4000000
set_option linter.unusedVariables false
attribute [local irreducible] vc

theorem on_left {a b : L.Pt} : L.on a b a = true := by
  unfold L.on
  rw [Bool.and_eq_true, Bool.and_eq_true, within_iff, within_iff]
  refine ⟨⟨decide_eq_true ?_, by omega⟩, by omega⟩
  unfold L.cross; simp
end Go.Proofs.Ytinfalehnaejbaa

namespace Go.Proofs.Ytinfalehnaejbaa
open Go.SE Go.RowKit
set_option maxRecDepth 100000
set_option maxHeartbeats 4000000
set_option linter.unusedVariables false
attribute [local irreducible] vc

def L.dbl (p : L.Pt) : L.Pt := ⟨2 * p.x, 2 * p.y⟩
def L.onE (l : L.Sq L.Pt) (p : L.Pt) (k : Nat) : Bool := L.on (l.g k) (l.g (L.next l.n k)) p
def L.upE (a b p : L.Pt) : Bool := bif (bif decide (a.y ≤ p.y) then decide (p.y < b.y) else false) then decide (0 < L.cross a b p) else false
def L.crE (a b p : L.Pt) : Bool := bif L.upE a b p then true else bif (bif decide (b.y ≤ p.y) then decide (p.y < a.y) else false) then decide (L.cross a b p < 0) else false
def L.par (l : L.Sq L.Pt) (p : L.Pt) : Nat → Bool
  | 0 => false
  | k + 1 => bif L.crE (l.g k) (l.g (L.next l.n k)) p then !L.par l p k else L.par l p k
def L.sgn (b : Bool) : Int := bif b then 1 else -1
def L.wher (l : L.Sq L.Pt) (p : L.Pt) : Int := bif L.anyB l.n (L.onE l p) then 0 else L.sgn (L.par l p l.n)
def L.plE (l : L.Sq L.Pt) (p : L.Pt) : Int := bif (bif !L.validOutline l then true else !L.validPt p) then 1 else 0
def L.plV (l : L.Sq L.Pt) (p : L.Pt) : Int := bif decide (L.plE l p = 0) then L.wher l p else 0
theorem cross_dbl (a b c : L.Pt) : L.cross (L.dbl a) (L.dbl b) (L.dbl c) = 4 * L.cross a b c := by
  unfold L.cross L.dbl
  simp only [Int.sub_mul, Int.mul_sub]
  have h : ∀ x y : Int, 2 * x * (2 * y) = 4 * (x * y) := fun x y => by rw [Int.mul_assoc, Int.mul_left_comm x 2 y, ← Int.mul_assoc]; rfl
  simp only [h]
theorem on_dbl (a b p : L.Pt) : L.on (L.dbl a) (L.dbl b) (L.dbl p) = L.on a b p := by
  unfold L.on
  rw [cross_dbl, Bool.eq_iff_iff]
  simp only [Bool.and_eq_true, decide_eq_true_eq, within_iff]
  unfold L.dbl
  simp only
  omega
theorem up_dbl (a b p : L.Pt) : L.upE (L.dbl a) (L.dbl b) (L.dbl p) = L.upE a b p := by
  unfold L.upE
  rw [cross_dbl, Bool.eq_iff_iff]
  simp only [band, Bool.and_eq_true, decide_eq_true_eq]
  unfold L.dbl
  dsimp only
  omega
theorem cross_fl (a b c : L.Pt) : L.cross b a c = - L.cross a b c := by
  unfold L.cross
  simp only [Int.sub_mul, Int.mul_sub]
  have h1 := Int.mul_comm a.x b.y
  have h2 := Int.mul_comm a.x c.y
  have h3 := Int.mul_comm a.y b.x
  have h4 := Int.mul_comm a.y c.x
  have h5 := Int.mul_comm b.x c.y
  have h6 := Int.mul_comm b.y c.x
  have h7 := Int.mul_comm a.y a.x
  have h8 := Int.mul_comm b.y b.x
  omega
theorem cr_sorted (a b p : L.Pt) : L.crE a b p = bif decide (b.y < a.y) then L.upE b a p else L.upE a b p := by
  rw [Bool.eq_iff_iff]
  unfold L.crE L.upE
  rw [cross_fl a b p]
  by_cases h : b.y < a.y
  · rw [decide_eq_true h]
    simp only [band, bor, Bool.or_eq_true, Bool.and_eq_true, decide_eq_true_eq, cond_true]
    omega
  · rw [decide_eq_false h]
    simp only [band, bor, Bool.or_eq_true, Bool.and_eq_true, decide_eq_true_eq, cond_false]
    omega
theorem cr_dbl (a b p : L.Pt) : L.crE (L.dbl a) (L.dbl b) (L.dbl p) = L.crE a b p := by
  rw [cr_sorted, cr_sorted, up_dbl, up_dbl]
  have : decide ((L.dbl b).y < (L.dbl a).y) = decide (b.y < a.y) := by
    rw [Bool.eq_iff_iff, decide_eq_true_eq, decide_eq_true_eq]
    unfold L.dbl; dsimp only; omega
  rw [this]
def L.dblS (l : L.Sq L.Pt) : L.Sq L.Pt := ⟨l.n, fun k => L.dbl (l.g k)⟩
theorem par_dbl (l : L.Sq L.Pt) (p : L.Pt) : ∀ k, L.par (L.dblS l) (L.dbl p) k = L.par l p k
  | 0 => rfl
  | k + 1 => by
    have h : L.crE ((L.dblS l).g k) ((L.dblS l).g (L.next (L.dblS l).n k)) (L.dbl p) = L.crE (l.g k) (l.g (L.next l.n k)) p := cr_dbl _ _ _
    unfold L.par
    rw [h, par_dbl l p k]
theorem wher_dbl (l : L.Sq L.Pt) (p : L.Pt) : L.wher (L.dblS l) (L.dbl p) = L.wher l p := by
  have h : L.onE (L.dblS l) (L.dbl p) = L.onE l p := funext fun k => on_dbl _ _ _
  unfold L.wher
  rw [h, par_dbl]; rfl
theorem sgn_bd (b : Bool) : -1 ≤ L.sgn b ∧ L.sgn b ≤ 1 := by cases b <;> decide
theorem sgn_not (b : Bool) : 0 - L.sgn b = L.sgn (!b) := by cases b <;> rfl
theorem wher_on {l : L.Sq L.Pt} {p : L.Pt} {k : Nat} (hk : k < l.n) (h : L.onE l p k = true) : 0 = L.wher l p := by
  unfold L.wher; rw [anyB_iff.2 ⟨k, hk, h⟩]; rfl
theorem wher_off {l : L.Sq L.Pt} {p : L.Pt} (h : ∀ j, j < l.n → L.onE l p j = false) : L.sgn (L.par l p l.n) = L.wher l p := by
  unfold L.wher; rw [anyB_no h]; rfl
theorem pts_valid {l : L.Sq L.Pt} (h : L.validOutline l = true) : ∀ i, i < l.n → L.validPt (l.g i) = true := by
  unfold L.validOutline L.valid3 at h
  rw [Bool.and_eq_true] at h
  cases hc : (bif !L.within (l.n : Int) 3 24 then true else !L.validPts l) with
  | true => rw [hc] at h; exact absurd h.1 Bool.noConfusion
  | false =>
    rw [bor, Bool.or_eq_false_iff] at hc
    exact allB_iff.1 (notF hc.2)
theorem dbl_bd {p : L.Pt} (h : L.validPt p = true) : (0 ≤ (L.dbl p).x ∧ (L.dbl p).x ≤ 8192 ∧ 0 ≤ (L.dbl p).y ∧ (L.dbl p).y ≤ 8192) ∧ L.bd (L.dbl p) := by
  unfold L.validPt at h
  rw [Bool.and_eq_true, within_iff, within_iff] at h
  unfold L.bd L.dbl
  dsimp only
  omega
def p_place_p (l : (L.Sq L.Pt)) (p : L.Pt) : Prop := L.validOutline l = true ∧ L.bd p
def p_place_r (l : (L.Sq L.Pt)) (p : L.Pt) : SV := .int .i64 (L.wher (⟨l.n, fun k => L.dbl (l.g k)⟩ : L.Sq L.Pt) p)
def p_place_s : List EV → Option (Prop × SV)
  | [.p (.sl 2 l_n l_g), .p (.agg [.int .i64 p_x, .int .i64 p_y])] => some ((∀ i, i < l_n → l_g i = [.int .i64 ((ofPt (l_g i)).x), .int .i64 ((ofPt (l_g i)).y)]) ∧ p_place_p (⟨l_n, fun i => ofPt (l_g i)⟩ : (L.Sq L.Pt)) (⟨p_x, p_y⟩ : L.Pt), p_place_r (⟨l_n, fun i => ofPt (l_g i)⟩ : (L.Sq L.Pt)) (⟨p_x, p_y⟩ : L.Pt))
  | _ => none
abbrev p_place_S : SE.Spec := (specO p_place_s)
def p_place_C : Cfg := { muts := [4, 5, 7, 8, 9], frz := lookN [], specs := lookS [(14, p_triples_S), (34, p_on_S), (24, p_cross_S)], loops := lookL [], iters := lookI [(33, p_triples1_it)], rfs := lookR [], nils := lookM [] }
theorem p_place_vc (l : (L.Sq L.Pt)) (p : L.Pt) (hp : p_place_p l p) : vc Try.prog ({ p_place_C with loops := lookL [], rfs := lookR [(3, { T := Nat, keep := [3, 4, 5], keepO := [4], own := fun k _ => [(5, .blk 3 [.p (.int .i64 (L.sgn (L.par (⟨l.n, fun k => L.dbl (l.g k)⟩ : L.Sq L.Pt) p k)))])], inv := fun k _ => ∀ j, j < k → L.onE (⟨l.n, fun k => L.dbl (l.g k)⟩ : L.Sq L.Pt) p j = false })] }) (bodyOf Try.f17) (st0 Try.f17 [.p (.sl 2 l.n (fun i => [.int .i64 ((l.g i).x), .int .i64 ((l.g i).y)])), .p (.agg [.int .i64 p.x, .int .i64 p.y])]) (retFn Try.prog Try.f17 (p_place_r l p)) :=
  @Eq.mpr _ (((∀ (i : Nat), i < l.n → [SV.int .i64 (l.g i).x, SV.int .i64 (l.g i).y] = [SV.int .i64 (l.g i).x, SV.int .i64 (l.g i).y]) ∧ l.n ≤ (1000 : Nat)) ∧ (((∀ (i : Nat), i < l.n → [SV.int .i64 (l.g i).x, SV.int .i64 (l.g i).y] = [SV.int .i64 (l.g i).x, SV.int .i64 (l.g i).y]) ∧
 l.n ≤ (1000 : Nat)) ∧ ∃ (t : Nat), (-1 : Int) = L.sgn (L.par (L.Sq.mk l.n fun (k : Nat) ↦ L.dbl (l.g k)) p (0 : Nat)) ∧ (0 : Int) = (0 : Int) ∧ ∀ (j : Nat), j < (0 : Nat) → L.onE (L.Sq.mk l.n fun (k : Nat) ↦ L.dbl (l.g k)) p j = false) ∧ (∀ (k t : Nat) (vk : Nat → Go.Value), k < l.n → (∀ (j : Nat), j < k → L.onE (L.Sq.mk l.n fun (k : Nat) ↦ L.dbl (l.g k)) p j = false) → ((0 : Int) ≤ (1 :
 Int) ∧ (1 : Int) < (↑(3 : Nat) : Int)) ∧ InK .i64 ((2 : Int) * (l.g (Int.toNat (↑k : Int))).x) ∧ ((0 : Int) ≤ (1 : Int) ∧ (1 : Int) < (↑(3 : Nat) : Int)) ∧ InK .i64 ((2 : Int) * (l.g (Int.toNat (↑k : Int))).y) ∧ ((0 : Int) ≤ (2 : Int) ∧ (2 : Int) < (↑(3 : Nat) : Int)) ∧ InK .i64 ((2 : Int) * (l.g (Int.toNat (Int.tmod ((↑k : Int) + (1 : Int)) (↑l.n :
 Int)))).x) ∧ ((0 : Int) ≤ (2 : Int) ∧ (2 : Int) < (↑(3 : Nat) : Int)) ∧ InK .i64 ((2 : Int) * (l.g (Int.toNat (Int.tmod ((↑k : Int) + (1 : Int)) (↑l.n : Int)))).y) ∧ (L.bd (L.Pt.mk ((2 : Int) * (l.g (Int.toNat (↑k : Int))).x) ((2 : Int) * (l.g (Int.toNat (↑k : Int))).y)) ∧ L.bd (L.Pt.mk ((2 : Int) * (l.g (Int.toNat (Int.tmod ((↑k : Int) + (1 : Int)) (↑l.n : Int)))).x) ((2 : Int) *
 (l.g (Int.toNat (Int.tmod ((↑k : Int) + (1 : Int)) (↑l.n : Int)))).y)) ∧ L.bd p) ∧ (L.on (L.Pt.mk ((2 : Int) * (l.g (Int.toNat (↑k : Int))).x) ((2 : Int) * (l.g (Int.toNat (↑k : Int))).y)) (L.Pt.mk ((2 : Int) * (l.g (Int.toNat (Int.tmod ((↑k : Int) + (1 : Int)) (↑l.n : Int)))).x) ((2 : Int) * (l.g (Int.toNat (Int.tmod ((↑k : Int) + (1 : Int)) (↑l.n : Int)))).y)) p = true → nat_lit 0 = nat_lit
 0 ∧ nat_lit 0 = nat_lit 0 ∧ SV.ref [SV.int .i64 p.x, SV.int .i64 p.y] (nat_lit 0) = SV.ref [SV.int .i64 p.x, SV.int .i64 p.y] (nat_lit 0) ∧ vk (nat_lit 5) = vk (nat_lit 5) ∧ vk (nat_lit 4) = vk (nat_lit 4) ∧ vk (nat_lit 3) = vk (nat_lit 3) ∧ (0 : Int) = L.wher (L.Sq.mk l.n fun (k : Nat) ↦ L.dbl (l.g k)) p) ∧ (L.on (L.Pt.mk
 ((2 : Int) * (l.g (Int.toNat (↑k : Int))).x) ((2 : Int) * (l.g (Int.toNat (↑k : Int))).y)) (L.Pt.mk ((2 : Int) * (l.g (Int.toNat (Int.tmod ((↑k : Int) + (1 : Int)) (↑l.n : Int)))).x) ((2 : Int) * (l.g (Int.toNat (Int.tmod ((↑k : Int) + (1 : Int)) (↑l.n : Int)))).y)) p = false → (decide ((2 : Int) * (l.g (Int.toNat (Int.tmod ((↑k : Int) + (1 : Int)) (↑l.n : Int)))).y < (2 : Int) *
 (l.g (Int.toNat (↑k : Int))).y) = true → ((bif decide ((2 : Int) * (l.g (Int.toNat (Int.tmod ((↑k : Int) + (1 : Int)) (↑l.n : Int)))).y ≤ p.y) then decide (p.y < (2 : Int) * (l.g (Int.toNat (↑k : Int))).y) else false) = true → L.bd (L.Pt.mk ((2 : Int) * (l.g (Int.toNat (Int.tmod ((↑k : Int) + (1 : Int)) (↑l.n : Int)))).x) ((2 : Int) * (l.g (Int.toNat (Int.tmod
 ((↑k : Int) + (1 : Int)) (↑l.n : Int)))).y)) ∧ L.bd (L.Pt.mk ((2 : Int) * (l.g (Int.toNat (↑k : Int))).x) ((2 : Int) * (l.g (Int.toNat (↑k : Int))).y)) ∧ L.bd p) ∧ ((bif bif decide ((2 : Int) * (l.g (Int.toNat (Int.tmod ((↑k : Int) + (1 : Int)) (↑l.n : Int)))).y ≤ p.y) then decide (p.y < (2 : Int) * (l.g (Int.toNat (↑k : Int))).y) else false then decide ((0 :
 Int) < L.cross (L.Pt.mk ((2 : Int) * (l.g (Int.toNat (Int.tmod ((↑k : Int) + (1 : Int)) (↑l.n : Int)))).x) ((2 : Int) * (l.g (Int.toNat (Int.tmod ((↑k : Int) + (1 : Int)) (↑l.n : Int)))).y)) (L.Pt.mk ((2 : Int) * (l.g (Int.toNat (↑k : Int))).x) ((2 : Int) * (l.g (Int.toNat (↑k : Int))).y)) p) else false) = true → InK .i64 ((0 : Int) - L.sgn (L.par (L.Sq.mk l.n fun (k :
 Nat) ↦ L.dbl (l.g k)) p k)) ∧ ∃ (t' : Nat), nat_lit 0 = nat_lit 0 ∧ nat_lit 0 = nat_lit 0 ∧ SV.ref [SV.int .i64 p.x, SV.int .i64 p.y] (nat_lit 0) = SV.ref [SV.int .i64 p.x, SV.int .i64 p.y] (nat_lit 0) ∧ vk (nat_lit 5) = vk (nat_lit 5) ∧ vk (nat_lit 4) = vk (nat_lit 4) ∧ vk (nat_lit 3) = vk (nat_lit 3) ∧ (0 : Int) - L.sgn
 (L.par (L.Sq.mk l.n fun (k : Nat) ↦ L.dbl (l.g k)) p k) = L.sgn (L.par (L.Sq.mk l.n fun (k : Nat) ↦ L.dbl (l.g k)) p (k + (1 : Nat))) ∧ (0 : Int) = (0 : Int) ∧ ∀ (j : Nat), j < k + (1 : Nat) → L.onE (L.Sq.mk l.n fun (k : Nat) ↦ L.dbl (l.g k)) p j = false) ∧ ((bif bif decide ((2 : Int) * (l.g (Int.toNat (Int.tmod ((↑k : Int) + (1 : Int)) (↑l.n : Int)))).y ≤ p.y) then decide
 (p.y < (2 : Int) * (l.g (Int.toNat (↑k : Int))).y) else false then decide ((0 : Int) < L.cross (L.Pt.mk ((2 : Int) * (l.g (Int.toNat (Int.tmod ((↑k : Int) + (1 : Int)) (↑l.n : Int)))).x) ((2 : Int) * (l.g (Int.toNat (Int.tmod ((↑k : Int) + (1 : Int)) (↑l.n : Int)))).y)) (L.Pt.mk ((2 : Int) * (l.g (Int.toNat (↑k : Int))).x) ((2 : Int) * (l.g (Int.toNat (↑k : Int))).y)) p) else
 false) = false → ∃ (t' : Nat), nat_lit 0 = nat_lit 0 ∧ nat_lit 0 = nat_lit 0 ∧ SV.ref [SV.int .i64 p.x, SV.int .i64 p.y] (nat_lit 0) = SV.ref [SV.int .i64 p.x, SV.int .i64 p.y] (nat_lit 0) ∧ vk (nat_lit 5) = vk (nat_lit 5) ∧ vk (nat_lit 4) = vk (nat_lit 4) ∧ vk (nat_lit 3) = vk (nat_lit 3) ∧ L.sgn (L.par (L.Sq.mk
 l.n fun (k : Nat) ↦ L.dbl (l.g k)) p k) = L.sgn (L.par (L.Sq.mk l.n fun (k : Nat) ↦ L.dbl (l.g k)) p (k + (1 : Nat))) ∧ (0 : Int) = (0 : Int) ∧ ∀ (j : Nat), j < k + (1 : Nat) → L.onE (L.Sq.mk l.n fun (k : Nat) ↦ L.dbl (l.g k)) p j = false)) ∧ (decide ((2 : Int) * (l.g (Int.toNat (Int.tmod ((↑k : Int) + (1 : Int)) (↑l.n : Int)))).y < (2 : Int) * (l.g (Int.toNat (↑k : Int))).y) =
 false → ((bif decide ((2 : Int) * (l.g (Int.toNat (↑k : Int))).y ≤ p.y) then decide (p.y < (2 : Int) * (l.g (Int.toNat (Int.tmod ((↑k : Int) + (1 : Int)) (↑l.n : Int)))).y) else false) = true → L.bd (L.Pt.mk ((2 : Int) * (l.g (Int.toNat (↑k : Int))).x) ((2 : Int) * (l.g (Int.toNat (↑k : Int))).y)) ∧ L.bd (L.Pt.mk ((2 : Int) * (l.g (Int.toNat (Int.tmod ((↑k : Int)
 + (1 : Int)) (↑l.n : Int)))).x) ((2 : Int) * (l.g (Int.toNat (Int.tmod ((↑k : Int) + (1 : Int)) (↑l.n : Int)))).y)) ∧ L.bd p) ∧ ((bif bif decide ((2 : Int) * (l.g (Int.toNat (↑k : Int))).y ≤ p.y) then decide (p.y < (2 : Int) * (l.g (Int.toNat (Int.tmod ((↑k : Int) + (1 : Int)) (↑l.n : Int)))).y) else false then decide ((0 : Int) < L.cross (L.Pt.mk ((2 : Int) *
 (l.g (Int.toNat (↑k : Int))).x) ((2 : Int) * (l.g (Int.toNat (↑k : Int))).y)) (L.Pt.mk ((2 : Int) * (l.g (Int.toNat (Int.tmod ((↑k : Int) + (1 : Int)) (↑l.n : Int)))).x) ((2 : Int) * (l.g (Int.toNat (Int.tmod ((↑k : Int) + (1 : Int)) (↑l.n : Int)))).y)) p) else false) = true → InK .i64 ((0 : Int) - L.sgn (L.par (L.Sq.mk l.n fun (k : Nat) ↦ L.dbl (l.g k)) p k)) ∧ ∃ (t' :
 Nat), nat_lit 0 = nat_lit 0 ∧ nat_lit 0 = nat_lit 0 ∧ SV.ref [SV.int .i64 p.x, SV.int .i64 p.y] (nat_lit 0) = SV.ref [SV.int .i64 p.x, SV.int .i64 p.y] (nat_lit 0) ∧ vk (nat_lit 5) = vk (nat_lit 5) ∧ vk (nat_lit 4) = vk (nat_lit 4) ∧ vk (nat_lit 3) = vk (nat_lit 3) ∧ (0 : Int) - L.sgn (L.par (L.Sq.mk l.n fun (k : Nat) ↦
 L.dbl (l.g k)) p k) = L.sgn (L.par (L.Sq.mk l.n fun (k : Nat) ↦ L.dbl (l.g k)) p (k + (1 : Nat))) ∧ (0 : Int) = (0 : Int) ∧ ∀ (j : Nat), j < k + (1 : Nat) → L.onE (L.Sq.mk l.n fun (k : Nat) ↦ L.dbl (l.g k)) p j = false) ∧ ((bif bif decide ((2 : Int) * (l.g (Int.toNat (↑k : Int))).y ≤ p.y) then decide (p.y < (2 : Int) * (l.g (Int.toNat (Int.tmod ((↑k : Int) + (1 : Int))
 (↑l.n : Int)))).y) else false then decide ((0 : Int) < L.cross (L.Pt.mk ((2 : Int) * (l.g (Int.toNat (↑k : Int))).x) ((2 : Int) * (l.g (Int.toNat (↑k : Int))).y)) (L.Pt.mk ((2 : Int) * (l.g (Int.toNat (Int.tmod ((↑k : Int) + (1 : Int)) (↑l.n : Int)))).x) ((2 : Int) * (l.g (Int.toNat (Int.tmod ((↑k : Int) + (1 : Int)) (↑l.n : Int)))).y)) p) else false) = false → ∃ (t' :
 Nat), nat_lit 0 = nat_lit 0 ∧ nat_lit 0 = nat_lit 0 ∧ SV.ref [SV.int .i64 p.x, SV.int .i64 p.y] (nat_lit 0) = SV.ref [SV.int .i64 p.x, SV.int .i64 p.y] (nat_lit 0) ∧ vk (nat_lit 5) = vk (nat_lit 5) ∧ vk (nat_lit 4) = vk (nat_lit 4) ∧ vk (nat_lit 3) = vk (nat_lit 3) ∧ L.sgn (L.par (L.Sq.mk l.n fun (k : Nat) ↦ L.dbl (l.g k))
 p k) = L.sgn (L.par (L.Sq.mk l.n fun (k : Nat) ↦ L.dbl (l.g k)) p (k + (1 : Nat))) ∧ (0 : Int) = (0 : Int) ∧ ∀ (j : Nat), j < k + (1 : Nat) → L.onE (L.Sq.mk l.n fun (k : Nat) ↦ L.dbl (l.g k)) p j = false)))) ∧ ∀ (t : Nat), (∀ (j : Nat), j < l.n → L.onE (L.Sq.mk l.n fun (k : Nat) ↦ L.dbl (l.g k)) p j = false) → L.sgn (L.par (L.Sq.mk l.n fun (k : Nat) ↦ L.dbl (l.g k)) p l.n) = L.wher
 (L.Sq.mk l.n fun (k : Nat) ↦ L.dbl (l.g k)) p) (by kernel_rfl) (by
    obtain ⟨hv, hbq⟩ := hp
    obtain ⟨n3, n24, _, _⟩ := validOutline_of hv
    have hpt := pts_valid hv
    refine ⟨⟨fun _ _ => rfl, by omega⟩, ⟨⟨fun _ _ => rfl, by omega⟩, 0, rfl, rfl, fun j hj => absurd hj (Nat.not_lt_zero _)⟩, fun k t vk hk h0 => ?_, fun t h0 => wher_off (l := L.dblS l) h0⟩
    have hkn : L.next l.n k < l.n := next_lt (by omega)
    have hk : k < l.n := hk
    obtain ⟨⟨a1, a2, a3, a4⟩, ha⟩ := dbl_bd (hpt k hk)
    obtain ⟨⟨b1, b2, b3, b4⟩, hb⟩ := dbl_bd (hpt _ hkn)
    have e0 : ((k : Int)).toNat = k := Int.toNat_natCast k
    rw [e0]
    have hs := sgn_bd (L.par (L.dblS l) p k)
    have hst : L.par (L.dblS l) p (k + 1) = bif L.crE (L.dbl (l.g k)) (L.dbl (l.g (L.next l.n k))) p then !L.par (L.dblS l) p k else L.par (L.dblS l) p k := rfl
    rw [cr_sorted] at hst
    have hoff : L.onE (L.dblS l) p k = false → ∀ j, j < k + 1 → L.onE (L.dblS l) p j = false := fun h j hj => by
      rcases Nat.lt_succ_iff_lt_or_eq.1 hj with h' | rfl
      · exact h0 j h'
      · exact h
    have yes : ∀ {c : Bool}, L.par (L.dblS l) p (k + 1) = (bif c then !L.par (L.dblS l) p k else L.par (L.dblS l) p k) → c = true → 0 - L.sgn (L.par (L.dblS l) p k) = L.sgn (L.par (L.dblS l) p (k + 1)) := fun h hc => by
      rw [h, hc, sgn_not]; rfl
    have no : ∀ {c : Bool}, L.par (L.dblS l) p (k + 1) = (bif c then !L.par (L.dblS l) p k else L.par (L.dblS l) p k) → c = false → L.sgn (L.par (L.dblS l) p k) = L.sgn (L.par (L.dblS l) p (k + 1)) := fun h hc => by
      rw [h, hc]; rfl
    refine ⟨by decide, InK.of (Int.le_trans (by decide) a1) (Int.le_trans a2 (by decide)), by decide, InK.of (Int.le_trans (by decide) a3) (Int.le_trans a4 (by decide)), by decide, InK.of (Int.le_trans (by decide) b1) (Int.le_trans b2 (by decide)), by decide, InK.of (Int.le_trans (by decide) b3) (Int.le_trans b4 (by decide)), ⟨ha, hb, hbq⟩, fun h => ⟨rfl, rfl, rfl, rfl, rfl, rfl, wher_on (l := L.dblS l) hk h⟩, fun h => ⟨fun hc => ?_, fun hc => ?_⟩⟩
    · have hc : decide ((L.dbl (l.g (L.next l.n k))).y < (L.dbl (l.g k)).y) = true := hc
      rw [hc] at hst
      exact ⟨fun _ => ⟨hb, ha, hbq⟩, fun hu => ⟨InK.of (by show _ ≤ 0 - L.sgn (L.par (L.dblS l) p k); omega) (by show 0 - L.sgn (L.par (L.dblS l) p k) ≤ _; omega), 0, rfl, rfl, rfl, rfl, rfl, rfl, yes hst hu, rfl, hoff h⟩, fun hu => ⟨0, rfl, rfl, rfl, rfl, rfl, rfl, no hst hu, rfl, hoff h⟩⟩
    · have hc : decide ((L.dbl (l.g (L.next l.n k))).y < (L.dbl (l.g k)).y) = false := hc
      rw [hc] at hst
      exact ⟨fun _ => ⟨ha, hb, hbq⟩, fun hu => ⟨InK.of (by show _ ≤ 0 - L.sgn (L.par (L.dblS l) p k); omega) (by show 0 - L.sgn (L.par (L.dblS l) p k) ≤ _; omega), 0, rfl, rfl, rfl, rfl, rfl, rfl, yes hst hu, rfl, hoff h⟩, fun hu => ⟨0, rfl, rfl, rfl, rfl, rfl, rfl, no hst hu, rfl, hoff h⟩⟩)
theorem p_place_ok : SpecOk Try.prog 17 p_place_S := fnX Try.func17 (c := bodyOf Try.f17) (by kernel_rfl) mixed (fun args p r hs hp => by
  unfold p_place_s at hs
  split at hs
  · cases hs; exact ⟨_, _, p_place_vc _ _ hp.2, (.p (.sl hp.1) (.same _ .nil)), ⟨show SpecsL Try.prog _ from (SpecsL.cons p_triples_ok p_triples_en (SpecsL.cons p_on_ok p_on_en (SpecsL.cons p_cross_ok p_cross_en SpecsL.nil))), rfl, ⟨show ItersL Try.prog _ from (ItersL.cons p_triples1_itok p_triples1_en ItersL.nil), (TrsOk.none (fun _ => rfl))⟩⟩⟩
  · cases hs)
theorem p_place_en : Enters Try.prog 17 := fun args w => by kernel_rfl
def p_Place_p (l : (L.Sq L.Pt)) (p : L.Pt) : Prop := l.n ≤ 1000000
def p_Place_r (l : (L.Sq L.Pt)) (p : L.Pt) : SV := .tup [.int .i64 (L.plV l p), .int .i64 (L.plE l p)]
def p_Place_s : List EV → Option (Prop × SV)
  | [.p (.sl 2 l_n l_g), .p (.agg [.int .i64 p_x, .int .i64 p_y])] => some ((∀ i, i < l_n → l_g i = [.int .i64 ((ofPt (l_g i)).x), .int .i64 ((ofPt (l_g i)).y)]) ∧ p_Place_p (⟨l_n, fun i => ofPt (l_g i)⟩ : (L.Sq L.Pt)) (⟨p_x, p_y⟩ : L.Pt), p_Place_r (⟨l_n, fun i => ofPt (l_g i)⟩ : (L.Sq L.Pt)) (⟨p_x, p_y⟩ : L.Pt))
  | _ => none
abbrev p_Place_S : SE.Spec := (specO p_Place_s)
def p_Place_C : Cfg := { muts := [], frz := lookN [], specs := lookS [(12, p_ValidOutline_S), (16, p_validPoint_S), (17, p_place_S)], loops := lookL [], iters := lookI [], rfs := lookR [], nils := lookM [] }
theorem p_Place_vc (l : (L.Sq L.Pt)) (p : L.Pt) (hp : p_Place_p l p) : vc Try.prog (p_Place_C) (bodyOf Try.f8) (st0 Try.f8 [.p (.sl 2 l.n (fun i => [.int .i64 ((l.g i).x), .int .i64 ((l.g i).y)])), .p (.agg [.int .i64 p.x, .int .i64 p.y])]) (retFn Try.prog Try.f8 (p_Place_r l p)) :=
  @Eq.mpr _ (((∀ (i : Nat), i < l.n → [SV.int .i64 (l.g i).x, SV.int .i64 (l.g i).y] = [SV.int .i64 (l.g i).x, SV.int .i64 (l.g i).y]) ∧ l.n ≤ (1000000 : Nat)) ∧ ((!!L.validOutline (L.Sq.mk l.n fun (i : Nat) ↦ l.g i)) = true → True) ∧ ((bif !L.validOutline (L.Sq.mk l.n fun (i : Nat) ↦ l.g i) then true else !L.validPt p) = true → (0
 : Int) = L.plV l p ∧ (1 : Int) = L.plE l p) ∧ ((bif !L.validOutline (L.Sq.mk l.n fun (i : Nat) ↦ l.g i) then true else !L.validPt p) = false → InK .i64 ((2 : Int) * p.x) ∧ InK .i64 ((2 : Int) * p.y) ∧ ((∀ (i : Nat), i < l.n → [SV.int .i64 (l.g i).x, SV.int .i64 (l.g i).y] = [SV.int .i64 (l.g i).x,
 SV.int .i64 (l.g i).y]) ∧ L.validOutline (L.Sq.mk l.n fun (i : Nat) ↦ l.g i) = true ∧ L.bd (L.Pt.mk ((2 : Int) * p.x) ((2 : Int) * p.y))) ∧ L.wher (L.Sq.mk l.n fun (k : Nat) ↦ L.dbl (l.g k)) (L.Pt.mk ((2 : Int) * p.x) ((2 : Int) * p.y)) = L.plV l p ∧ (0 : Int) = L.plE l p)) (by kernel_rfl) (by
    have h1 : l.n ≤ 1000000 := hp
    refine ⟨⟨fun _ _ => rfl, h1⟩, fun _ => trivial, fun h => ?_, fun h => ?_⟩
    · have h : (bif !L.validOutline l then true else !L.validPt p) = true := h
      have e : L.plE l p = 1 := by unfold L.plE; rw [h]; rfl
      unfold L.plV; rw [e]; exact ⟨rfl, rfl⟩
    · have h : (bif !L.validOutline l then true else !L.validPt p) = false := h
      have e : L.plE l p = 0 := by unfold L.plE; rw [h]; rfl
      rw [bor, Bool.or_eq_false_iff] at h
      have hq := notF h.2
      obtain ⟨⟨a1, a2, a3, a4⟩, ha⟩ := dbl_bd hq
      refine ⟨InK.of (Int.le_trans (by decide) a1) (Int.le_trans a2 (by decide)), InK.of (Int.le_trans (by decide) a3) (Int.le_trans a4 (by decide)), ⟨fun _ _ => rfl, notF h.1, ha⟩, ?_, e.symm⟩
      unfold L.plV; rw [e]; exact wher_dbl l p)
theorem p_Place_ok : SpecOk Try.prog 8 p_Place_S := fnX Try.func8 (c := bodyOf Try.f8) (by kernel_rfl) mixed (fun args p r hs hp => by
  unfold p_Place_s at hs
  split at hs
  · cases hs; exact ⟨_, _, p_Place_vc _ _ hp.2, (.p (.sl hp.1) (.same _ .nil)), ⟨show SpecsL Try.prog _ from (SpecsL.cons p_ValidOutline_ok p_ValidOutline_en (SpecsL.cons p_validPoint_ok p_validPoint_en (SpecsL.cons p_place_ok p_place_en SpecsL.nil))), rfl, ⟨show ItersL Try.prog _ from ItersL.nil, (TrsOk.none (fun _ => rfl))⟩⟩⟩
  · cases hs)
theorem p_Place_en : Enters Try.prog 8 := fun args w => by kernel_rfl
end Go.Proofs.Ytinfalehnaejbaa
