/- A symbolic walk over the model, and what it shows of functions of the program: parts of the proof that the text of the row joins. -/
import Derived.Test.YtdlhpdidgfgomaaW1
import Derived.Test.YtdlhpdidgfgomaaE4
import Derived.KernelRfl

namespace Go.Proofs.Ytdlhpdidgfgomaa
open Go.SE Go.RowKit
set_option maxRecDepth 100000
set_option maxHeartbeats 4000000
set_option linter.unusedVariables false
attribute [local irreducible] vc

def L.gcd (a b : Int) : Int := ((Nat.gcd a.natAbs b.natAbs : Nat) : Int)
def L.ng (x y : Nat) : Nat := Nat.gcd x y
def L.nabs (a : Int) : Nat := a.natAbs
def L.hit (d n : L.Pt) : Bool := decide (0 < d.x * n.x + d.y * n.y)
def L.free (d : L.Pt) (N : L.Sq L.Pt) : Bool := !L.anyB N.n (fun i => L.hit d (N.g i))
def L.isNrm (p : L.Pt) : Bool := !(decide (p.x = 0) && decide (p.y = 0)) && (L.within p.x (-4096) 4096 && L.within p.y (-4096) 4096)
def L.nrms (N : L.Sq L.Pt) : Prop := N.n ≤ 1000000 ∧ ∀ i, i < N.n → L.isNrm (N.g i) = true
def L.dir (p : L.Pt) (s : Nat) : L.Pt := bif decide (s = 0) then ⟨Int.tdiv (0 - p.y) (L.gcd p.x p.y), Int.tdiv p.x (L.gcd p.x p.y)⟩ else ⟨Int.tdiv p.y (L.gcd p.x p.y), Int.tdiv (0 - p.x) (L.gcd p.x p.y)⟩
def L.cand (N : L.Sq L.Pt) (c : Nat) : L.Pt := L.dir (N.g (c / 2)) (c % 2)
def L.wayI (N : L.Sq L.Pt) : Int := L.idx (2 * N.n) (fun c => L.free (L.cand N c) N)
def L.wayOk (N : L.Sq L.Pt) : Bool := decide (N.n = 0) || decide (0 ≤ L.wayI N)
def L.wayD (N : L.Sq L.Pt) : L.Pt := bif decide (N.n = 0) then ⟨1, 0⟩ else bif decide (0 ≤ L.wayI N) then L.cand N (L.wayI N).toNat else ⟨0, 0⟩
theorem isNrm_of {p : L.Pt} (h : L.isNrm p = true) : ((-4096 ≤ p.x ∧ p.x ≤ 4096) ∧ (-4096 ≤ p.y ∧ p.y ≤ 4096)) ∧ 1 ≤ L.gcd p.x p.y ∧ L.bd p := by
  unfold L.isNrm L.within at h
  simp only [Bool.and_eq_true, Bool.not_eq_true', Bool.and_eq_false_iff, decide_eq_true_eq, decide_eq_false_iff_not] at h
  obtain ⟨h1, h2, h3⟩ := h
  have hg : 0 < Nat.gcd p.x.natAbs p.y.natAbs := by
    rcases h1 with h1 | h1
    · exact Nat.gcd_pos_of_pos_left _ (by omega)
    · exact Nat.gcd_pos_of_pos_right _ (by omega)
  refine ⟨⟨h2, h3⟩, ?_, ?_⟩
  · unfold L.gcd; omega
  · unfold L.bd; omega
theorem tdiv_bd {a g : Int} (h0 : -4096 ≤ a) (h1 : a ≤ 4096) (hg : 1 ≤ g) : -4096 ≤ Int.tdiv a g ∧ Int.tdiv a g ≤ 4096 := by
  have h : (Int.tdiv a g).natAbs = a.natAbs / g.natAbs := Int.natAbs_tdiv a g
  have h2 : a.natAbs / g.natAbs ≤ a.natAbs := Nat.div_le_self _ _
  omega
theorem cand_eq (N : L.Sq L.Pt) (g : Nat) {s : Nat} (h : s < 2) : L.cand N (2 * g + s) = L.dir (N.g g) s := by
  unfold L.cand
  rw [show (2 * g + s) / 2 = g by omega, show (2 * g + s) % 2 = s by omega]
theorem way_at {N : L.Sq L.Pt} {c : Nat} (h0 : ∀ j, j < c → L.free (L.cand N j) N = false) (hi : L.free (L.cand N c) N = true) (hc : c < 2 * N.n) : L.wayD N = L.cand N c ∧ L.wayOk N = true := by
  have e : L.wayI N = (c : Int) := idx_at (f := fun c => L.free (L.cand N c) N) h0 hi hc
  have hd : decide (N.n = 0) = false := decide_eq_false (by omega)
  unfold L.wayD L.wayOk
  rw [e, hd, decide_eq_true (show (0 : Int) ≤ (c : Int) by omega)]
  exact ⟨by show L.cand N (c : Int).toNat = _; rw [Int.toNat_natCast], rfl⟩
theorem way_no {N : L.Sq L.Pt} (h1 : 0 < N.n) (h0 : ∀ j, j < 2 * N.n → L.free (L.cand N j) N = false) : L.wayD N = ⟨0, 0⟩ ∧ L.wayOk N = false := by
  have e : L.wayI N = -1 := idx_none (f := fun c => L.free (L.cand N c) N) h0
  have hd : decide (N.n = 0) = false := decide_eq_false (by omega)
  unfold L.wayD L.wayOk
  rw [e, hd]
  exact ⟨rfl, rfl⟩
theorem way_0 {N : L.Sq L.Pt} (h : N.n = 0) : L.wayD N = ⟨1, 0⟩ ∧ L.wayOk N = true := by
  unfold L.wayD L.wayOk
  rw [decide_eq_true h]
  exact ⟨rfl, rfl⟩
theorem dir_bd {p : L.Pt} (h : L.isNrm p = true) (s : Nat) : L.bd (L.dir p s) := by
  obtain ⟨⟨⟨a1, a2⟩, b1, b2⟩, hg, _⟩ := isNrm_of h
  have t1 := tdiv_bd (a := p.x) (g := L.gcd p.x p.y) a1 a2 hg
  have t2 := tdiv_bd (a := p.y) (g := L.gcd p.x p.y) b1 b2 hg
  have t3 := tdiv_bd (a := 0 - p.x) (g := L.gcd p.x p.y) (by omega) (by omega) hg
  have t4 := tdiv_bd (a := 0 - p.y) (g := L.gcd p.x p.y) (by omega) (by omega) hg
  unfold L.dir
  cases decide (s = 0)
  · unfold L.bd; simp only [cond_false]; omega
  · unfold L.bd; simp only [cond_true]; omega
def p_gcd_p (a : Int) (b : Int) : Prop := (-4611686018427387904 ≤ a ∧ a ≤ 4611686018427387904) ∧ -4611686018427387904 ≤ b ∧ b ≤ 4611686018427387904
def p_gcd_r (a : Int) (b : Int) : SV := .int .i64 (L.gcd a b)
def p_gcd_s : List EV → Option (Prop × SV)
  | [.p (.int .i64 a), .p (.int .i64 b)] => some (p_gcd_p a b, p_gcd_r a b)
  | _ => none
abbrev p_gcd_S : SE.Spec := (specO p_gcd_s)
def p_gcd_C : Cfg := { muts := [], frz := lookN [], specs := lookS [], loops := fun _ => none, iters := lookI [], rfs := lookR [], nils := lookM [] }
theorem p_gcd_vc (a : Int) (b : Int) (hp : p_gcd_p a b) : vc Try.prog ({ p_gcd_C with loops := lookL [(2, { T := Nat × Nat, keep := [], keepO := [], chg := fun g => [(0, .p (.int .i64 (g.1 : Int))), (1, .p (.int .i64 (g.2 : Int)))], own := fun _ => [], inv := fun g => L.ng g.1 g.2 = L.ng (L.nabs a) (L.nabs b) ∧ g.1 ≤ 4611686018427387904 ∧ g.2 ≤ 4611686018427387904, mu := fun g => g.2 })], rfs := lookR [] }) (bodyOf Try.f44) (st0 Try.f44 [.p (.int .i64 a), .p (.int .i64 b)]) (retFn Try.prog Try.f44 (p_gcd_r a b)) :=
  @Eq.mpr _ (InK .i64 ((0 : Int) - a) ∧ InK .i64 ((0 : Int) - b) ∧ (∃ (g : Nat × Nat), Max.max a ((0 : Int) - a) = (↑g.1 : Int) ∧ Max.max b ((0 : Int) - b) = (↑g.2 : Int) ∧ L.ng g.1 g.2 = L.ng (L.nabs a) (L.nabs b) ∧ g.1 ≤ (4611686018427387904 : Nat) ∧ g.2 ≤ (4611686018427387904 : Nat)) ∧ ∀ (g : Nat × Nat), L.ng g.1 g.2 = L.ng (L.nabs a) (L.nabs b) ∧ g.1 ≤ (4611686018427387904 :
 Nat) ∧ g.2 ≤ (4611686018427387904 : Nat) → (decide ((0 : Int) < (↑g.2 : Int)) = true → (↑g.2 : Int) ≠ (0 : Int) ∧ ∃ (g' : Nat × Nat), (↑g.2 : Int) = (↑g'.1 : Int) ∧ Int.tmod (↑g.1 : Int) (↑g.2 : Int) = (↑g'.2 : Int) ∧ (L.ng g'.1 g'.2 = L.ng (L.nabs a) (L.nabs b) ∧ g'.1 ≤ (4611686018427387904 : Nat) ∧ g'.2 ≤ (4611686018427387904 : Nat)) ∧ g'.2 < g.2) ∧ (decide ((0 : Int) <
 (↑g.2 : Int)) = false → (↑g.1 : Int) = L.gcd a b)) (by kernel_rfl) (by
    obtain ⟨⟨a1, a2⟩, b1, b2⟩ := hp
    refine ⟨InK.of (by omega) (by omega), InK.of (by omega) (by omega), ⟨(a.natAbs, b.natAbs), by show max a (0 - a) = ((a.natAbs : Nat) : Int); omega, by show max b (0 - b) = ((b.natAbs : Nat) : Int); omega, rfl, by show a.natAbs ≤ 4611686018427387904; omega, by show b.natAbs ≤ 4611686018427387904; omega⟩, ?_⟩
    rintro ⟨x, y⟩ ⟨h1, h2, h3⟩
    have h1 : Nat.gcd x y = Nat.gcd a.natAbs b.natAbs := h1
    have h2 : x ≤ 4611686018427387904 := h2
    have h3 : y ≤ 4611686018427387904 := h3
    refine ⟨fun hd => ?_, fun hd => ?_⟩
    · have hd : (0 : Int) < (y : Int) := of_decide_eq_true hd
      have hm : x % y < y := Nat.mod_lt _ (by omega)
      refine ⟨by show (y : Int) ≠ 0; omega, (y, x % y), rfl, rfl, ⟨?_, h3, by show x % y ≤ 4611686018427387904; omega⟩, hm⟩
      show Nat.gcd y (x % y) = Nat.gcd a.natAbs b.natAbs
      rw [← h1, Nat.gcd_comm y (x % y), ← Nat.gcd_rec y x, Nat.gcd_comm y x]
    · have hd : ¬ (0 : Int) < (y : Int) := of_decide_eq_false hd
      obtain rfl : y = 0 := by omega
      rw [Nat.gcd_zero_right] at h1
      show (x : Int) = L.gcd a b
      unfold L.gcd
      rw [h1])
theorem p_gcd_ok : SpecOk Try.prog 44 p_gcd_S := fnX Try.func44 (c := bodyOf Try.f44) (by kernel_rfl) mixed (fun args p r hs hp => by
  unfold p_gcd_s at hs
  split at hs
  · cases hs; exact ⟨_, _, p_gcd_vc _ _ hp, (.same _ (.same _ .nil)), ⟨show SpecsL Try.prog _ from SpecsL.nil, rfl, ⟨show ItersL Try.prog _ from ItersL.nil, (TrsOk.none (fun _ => rfl))⟩⟩⟩
  · cases hs)
theorem p_gcd_en : Enters Try.prog 44 := fun args w => by kernel_rfl
def p_free1_p (n : L.Pt) (d : L.Pt) : Prop := L.bd n ∧ L.bd d
def p_free1_r (n : L.Pt) (d : L.Pt) : SV := .bool (L.hit d n)
def p_free1_s : List EV → Option (Prop × SV)
  | [.p (.agg [.int .i64 n_x, .int .i64 n_y]), .p (.ref [.int .i64 d_x, .int .i64 d_y] 0)] => some (p_free1_p (⟨n_x, n_y⟩ : L.Pt) (⟨d_x, d_y⟩ : L.Pt), p_free1_r (⟨n_x, n_y⟩ : L.Pt) (⟨d_x, d_y⟩ : L.Pt))
  | _ => none
abbrev p_free1_S : SE.Spec := (specO p_free1_s)
def p_free1_C : Cfg := { muts := [], frz := lookN [], specs := lookS [], loops := lookL [], iters := lookI [], rfs := lookR [], nils := lookM [] }
theorem p_free1_vc (n : L.Pt) (d : L.Pt) (hp : p_free1_p n d) : vc Try.prog (p_free1_C) (bodyOf Try.f76) (st0 Try.f76 [.p (.agg [.int .i64 n.x, .int .i64 n.y]), .p (.ref [.int .i64 d.x, .int .i64 d.y] 0)]) (retFn Try.prog Try.f76 (p_free1_r n d)) :=
  @Eq.mpr _ (InK .i64 (d.x * n.x) ∧ InK .i64 (d.y * n.y) ∧ InK .i64 (d.x * n.x + d.y * n.y) ∧ decide ((0 : Int) < d.x * n.x + d.y * n.y) = L.hit d n) (by kernel_rfl) (by
    obtain ⟨h1, h2⟩ := hp
    unfold L.bd at h1 h2
    have m1 := mul_bd (a := d.x) (b := n.x) (m := 4000000) (n := 4000000) (by omega) (by omega) (by omega) (by omega)
    have m2 := mul_bd (a := d.y) (b := n.y) (m := 4000000) (n := 4000000) (by omega) (by omega) (by omega) (by omega)
    exact ⟨InK.of (by omega) (by omega), InK.of (by omega) (by omega), InK.of (by omega) (by omega), rfl⟩)
theorem p_free1_ok : SpecOk Try.prog 76 p_free1_S := fnX Try.func76 (c := bodyOf Try.f76) (by kernel_rfl) mixed (fun args p r hs hp => by
  unfold p_free1_s at hs
  split at hs
  · cases hs; exact ⟨_, _, p_free1_vc _ _ hp, (.same _ (.same _ .nil)), ⟨show SpecsL Try.prog _ from SpecsL.nil, rfl, ⟨show ItersL Try.prog _ from ItersL.nil, (TrsOk.none (fun _ => rfl))⟩⟩⟩
  · cases hs)
theorem p_free1_en : Enters Try.prog 76 := fun args w => by kernel_rfl
theorem p_free1_B : ∀ args p r, p_free1_s args = some (p, r) → ∃ b, r = .bool b := by
  intro args p r h
  unfold p_free1_s at h
  split at h
  · cases h; exact ⟨_, rfl⟩
  · cases h
def p_free_p (d : L.Pt) (l : (L.Sq L.Pt)) : Prop := l.n ≤ 1000000 ∧ L.bd d ∧ ∀ i, i < l.n → L.bd (l.g i)
def p_free_r (d : L.Pt) (l : (L.Sq L.Pt)) : SV := .bool (L.free d l)
def p_free_s : List EV → Option (Prop × SV)
  | [.p (.agg [.int .i64 d_x, .int .i64 d_y]), .p (.sl 2 l_n l_g)] => some ((∀ i, i < l_n → l_g i = [.int .i64 ((ofPt (l_g i)).x), .int .i64 ((ofPt (l_g i)).y)]) ∧ p_free_p (⟨d_x, d_y⟩ : L.Pt) (⟨l_n, fun i => ofPt (l_g i)⟩ : (L.Sq L.Pt)), p_free_r (⟨d_x, d_y⟩ : L.Pt) (⟨l_n, fun i => ofPt (l_g i)⟩ : (L.Sq L.Pt)))
  | _ => none
abbrev p_free_S : SE.Spec := (specO p_free_s)
def p_free_C : Cfg := { muts := [], frz := lookN [], specs := lookS [(26, s_conFP_S), (76, p_free1_S)], loops := lookL [], iters := lookI [], rfs := lookR [], nils := lookM [] }
theorem p_free_vc (d : L.Pt) (l : (L.Sq L.Pt)) (hp : p_free_p d l) : vc Try.prog (p_free_C) (bodyOf Try.f53) (st0 Try.f53 [.p (.agg [.int .i64 d.x, .int .i64 d.y]), .p (.sl 2 l.n (fun i => [.int .i64 ((l.g i).x), .int .i64 ((l.g i).y)]))]) (retFn Try.prog Try.f53 (p_free_r d l)) :=
  @Eq.mpr _ (((∀ (i : Nat), i < l.n → [SV.int .i64 (l.g i).x, SV.int .i64 (l.g i).y] = [SV.int .i64 (l.g i).x, SV.int .i64 (l.g i).y]) ∧ isB (FSpec.mk (fun («as» : List SV) ↦ preO p_free1_s (List.map EV.p «as» ++ List.map EV.p [SV.ref [SV.int .i64 d.x, SV.int .i64 d.y]
 (nat_lit 0)])) fun («as» : List SV) ↦ resO p_free1_s (List.map EV.p «as» ++ List.map EV.p [SV.ref [SV.int .i64 d.x, SV.int .i64 d.y] (nat_lit 0)])) ∧ l.n ≤ (1000000 : Nat) ∧ ∀ (i : Nat), i < l.n → L.bd (l.g i) ∧ L.bd d) ∧ (!L.anyB l.n fun (i : Nat) ↦ L.fbl (FSpec.mk (fun («as» : List SV) ↦ preO p_free1_s (List.map
 EV.p «as» ++ List.map EV.p [SV.ref [SV.int .i64 d.x, SV.int .i64 d.y] (nat_lit 0)])) fun («as» : List SV) ↦ resO p_free1_s (List.map EV.p «as» ++ List.map EV.p [SV.ref [SV.int .i64 d.x, SV.int .i64 d.y] (nat_lit 0)])) [SV.agg [SV.int .i64 (l.g i).x, SV.int
 .i64 (l.g i).y]]) = L.free d l) (by kernel_rfl) (by
    obtain ⟨h1, h2, h3⟩ := hp
    exact ⟨⟨fun _ _ => rfl, isB_of p_free1_B _, h1, fun i hi => ⟨h3 i hi, h2⟩⟩, rfl⟩)
theorem p_free_ok : SpecOk Try.prog 53 p_free_S := fnX Try.func53 (c := bodyOf Try.f53) (by kernel_rfl) mixed (fun args p r hs hp => by
  unfold p_free_s at hs
  split at hs
  · cases hs; exact ⟨_, _, p_free_vc _ _ hp.2, (.same _ (.p (.sl hp.1) .nil)), ⟨show SpecsL Try.prog _ from (SpecsL.cons s_conFP_ok s_conFP_en (SpecsL.cons p_free1_ok p_free1_en SpecsL.nil)), rfl, ⟨show ItersL Try.prog _ from ItersL.nil, (TrsOk.none (fun _ => rfl))⟩⟩⟩
  · cases hs)
theorem p_free_en : Enters Try.prog 53 := fun args w => by kernel_rfl
def p_way_p (l : (L.Sq L.Pt)) : Prop := L.nrms l
def p_way_r (l : (L.Sq L.Pt)) : SV := .tup [.agg [.int .i64 (L.wayD l).x, .int .i64 (L.wayD l).y], .bool (L.wayOk l)]
def p_way_s : List EV → Option (Prop × SV)
  | [.p (.sl 2 l_n l_g)] => some ((∀ i, i < l_n → l_g i = [.int .i64 ((ofPt (l_g i)).x), .int .i64 ((ofPt (l_g i)).y)]) ∧ p_way_p (⟨l_n, fun i => ofPt (l_g i)⟩ : (L.Sq L.Pt)), p_way_r (⟨l_n, fun i => ofPt (l_g i)⟩ : (L.Sq L.Pt)))
  | _ => none
abbrev p_way_S : SE.Spec := (specO p_way_s)
def p_way_C : Cfg := { muts := [2, 5, 8], frz := lookN [], specs := lookS [(44, p_gcd_S), (53, p_free_S)], loops := fun _ => none, iters := lookI [], rfs := lookR [], nils := lookM [] }
theorem p_way_vc (l : (L.Sq L.Pt)) (hp : p_way_p l) : vc Try.prog ({ p_way_C with loops := lookL [(4, { T := Nat, keep := [0, 2, 13, 14], keepO := [2], chg := fun i => [(15, .p (.int .i64 (i : Int)))], own := fun _ => [], inv := fun i => i ≤ l.n ∧ ∀ c, c < 2 * i → L.free (L.cand l c) l = false, mu := fun i => l.n - i }), (8, { T := Nat × Nat, keep := [0, 2, 5, 13, 14, 15, 45], keepO := [2, 5], tie := fun g => [(15, .int .i64 (g.1 : Int))], chg := fun g => [(46, .p (.int .i64 (g.2 : Int))), (44, .p (.sl 2 2 (fun s => [.int .i64 ((L.dir (l.g g.1) s).x), .int .i64 ((L.dir (l.g g.1) s).y)])))], own := fun _ => [], inv := fun g => g.1 < l.n ∧ g.2 ≤ 2 ∧ ∀ c, c < 2 * g.1 + g.2 → L.free (L.cand l c) l = false, mu := fun g => 2 - g.2 })], rfs := lookR [] }) (bodyOf Try.f27) (st0 Try.f27 [.p (.sl 2 l.n (fun i => [.int .i64 ((l.g i).x), .int .i64 ((l.g i).y)]))]) (retFn Try.prog Try.f27 (p_way_r l)) :=
  @Eq.mpr _ ((decide ((↑l.n : Int) = (0 : Int)) = true → SV.agg [SV.int .i64 (1 : Int), SV.int .i64 (0 : Int)] = SV.agg [SV.int .i64 (L.wayD l).x, SV.int .i64 (L.wayD l).y] ∧ true = L.wayOk l) ∧ (decide ((↑l.n : Int) = (0 : Int)) = false → (∃ (g : Nat), (0 : Int) = (↑g : Int) ∧ g ≤ l.n ∧ ∀ (c : Nat),
 c < (2 : Nat) * g → L.free (L.cand l c) l = false) ∧ ∀ (g : Nat), (g ≤ l.n ∧ ∀ (c : Nat), c < (2 : Nat) * g → L.free (L.cand l c) l = false) → (decide ((↑g : Int) < (↑l.n : Int)) = true → ((0 : Int) ≤ (↑g : Int) ∧ (↑g : Int) < (↑l.n : Int)) ∧ (((-4611686018427387904 : Int) ≤ (l.g (Int.toNat (↑g : Int))).x ∧ (l.g (Int.toNat (↑g : Int))).x ≤ (4611686018427387904 : Int)) ∧
 (-4611686018427387904 : Int) ≤ (l.g (Int.toNat (↑g : Int))).y ∧ (l.g (Int.toNat (↑g : Int))).y ≤ (4611686018427387904 : Int)) ∧ InK .i64 ((0 : Int) - (l.g (Int.toNat (↑g : Int))).y) ∧ L.gcd (l.g (Int.toNat (↑g : Int))).x (l.g (Int.toNat (↑g : Int))).y ≠ (0 : Int) ∧ InK .i64 (Int.tdiv ((0 : Int) - (l.g (Int.toNat (↑g : Int))).y) (L.gcd (l.g (Int.toNat (↑g : Int))).x
 (l.g (Int.toNat (↑g : Int))).y)) ∧ L.gcd (l.g (Int.toNat (↑g : Int))).x (l.g (Int.toNat (↑g : Int))).y ≠ (0 : Int) ∧ InK .i64 (Int.tdiv (l.g (Int.toNat (↑g : Int))).x (L.gcd (l.g (Int.toNat (↑g : Int))).x (l.g (Int.toNat (↑g : Int))).y)) ∧ L.gcd (l.g (Int.toNat (↑g : Int))).x (l.g (Int.toNat (↑g : Int))).y ≠ (0 : Int) ∧ InK .i64 (Int.tdiv (l.g (Int.toNat (↑g :
 Int))).y (L.gcd (l.g (Int.toNat (↑g : Int))).x (l.g (Int.toNat (↑g : Int))).y)) ∧ InK .i64 ((0 : Int) - (l.g (Int.toNat (↑g : Int))).x) ∧ L.gcd (l.g (Int.toNat (↑g : Int))).x (l.g (Int.toNat (↑g : Int))).y ≠ (0 : Int) ∧ InK .i64 (Int.tdiv ((0 : Int) - (l.g (Int.toNat (↑g : Int))).x) (L.gcd (l.g (Int.toNat (↑g : Int))).x (l.g (Int.toNat (↑g : Int))).y)) ∧ (∃ (g_1 :
 Nat × Nat), (0 : Int) = (↑g_1.2 : Int) ∧ (nat_lit 2 = (2 : Nat) ∧ ∀ (i : Nat), i < nat_lit 2 → rowsOf [SV.int .i64 (Int.tdiv ((0 : Int) - (l.g (Int.toNat (↑g : Int))).y) (L.gcd (l.g (Int.toNat (↑g : Int))).x (l.g (Int.toNat (↑g : Int))).y)), SV.int .i64 (Int.tdiv (l.g (Int.toNat (↑g : Int))).x (L.gcd (l.g (Int.toNat (↑g : Int))).x (l.g (Int.toNat (↑g :
 Int))).y)), SV.int .i64 (Int.tdiv (l.g (Int.toNat (↑g : Int))).y (L.gcd (l.g (Int.toNat (↑g : Int))).x (l.g (Int.toNat (↑g : Int))).y)), SV.int .i64 (Int.tdiv ((0 : Int) - (l.g (Int.toNat (↑g : Int))).x) (L.gcd (l.g (Int.toNat (↑g : Int))).x (l.g (Int.toNat (↑g : Int))).y))] (nat_lit 2) i = [SV.int .i64 (L.dir (l.g g_1.1) i).x, SV.int
 .i64 (L.dir (l.g g_1.1) i).y]) ∧ (↑g : Int) = (↑g_1.1 : Int) ∧ g_1.1 < l.n ∧ g_1.2 ≤ (2 : Nat) ∧ ∀ (c : Nat), c < (2 : Nat) * g_1.1 + g_1.2 → L.free (L.cand l c) l = false) ∧ ∀ (g_1 : Nat × Nat), ((↑g : Int) = (↑g_1.1 : Int) ∧ g_1.1 < l.n ∧ g_1.2 ≤ (2 : Nat) ∧ ∀ (c : Nat), c < (2 : Nat) * g_1.1 + g_1.2 → L.free (L.cand l c) l = false) → (decide ((↑g_1.2 : Int) < (↑(2
 : Nat) : Int)) = true → ((0 : Int) ≤ (↑g_1.2 : Int) ∧ (↑g_1.2 : Int) < (↑(nat_lit 2) : Int)) ∧ ((∀ (i : Nat), i < l.n → [SV.int .i64 (l.g i).x, SV.int .i64 (l.g i).y] = [SV.int .i64 (l.g i).x, SV.int .i64 (l.g i).y]) ∧ l.n ≤ (1000000 : Nat) ∧ L.bd (L.dir (l.g g_1.1) (Int.toNat (↑g_1.2 : Int))) ∧ ∀ (i : Nat), i < l.n → L.bd (l.g
 i)) ∧ (L.free (L.dir (l.g g_1.1) (Int.toNat (↑g_1.2 : Int))) (L.Sq.mk l.n fun (i : Nat) ↦ l.g i) = true → SV.agg [SV.int .i64 (L.dir (l.g g_1.1) (Int.toNat (↑g_1.2 : Int))).x, SV.int .i64 (L.dir (l.g g_1.1) (Int.toNat (↑g_1.2 : Int))).y] = SV.agg [SV.int .i64 (L.wayD l).x, SV.int .i64 (L.wayD l).y] ∧ true =
 L.wayOk l) ∧ (L.free (L.dir (l.g g_1.1) (Int.toNat (↑g_1.2 : Int))) (L.Sq.mk l.n fun (i : Nat) ↦ l.g i) = false → InK .i64 ((↑g_1.2 : Int) + (1 : Int)) ∧ ∃ (g' : Nat × Nat), (↑g_1.2 : Int) + (1 : Int) = (↑g'.2 : Int) ∧ (nat_lit 2 = (2 : Nat) ∧ ∀ (i : Nat), i < nat_lit 2 → [SV.int .i64 (L.dir (l.g g_1.1) i).x, SV.int .i64 (L.dir (l.g g_1.1) i).y]
 = [SV.int .i64 (L.dir (l.g g'.1) i).x, SV.int .i64 (L.dir (l.g g'.1) i).y]) ∧ (↑(2 : Nat) : Int) = (↑(2 : Nat) : Int) ∧ nat_lit 0 = nat_lit 0 ∧ (↑g : Int) = (↑g : Int) ∧ (↑l.n : Int) = (↑l.n : Int) ∧ (l.n = l.n ∧ ∀ (i : Nat), i < l.n → [SV.int .i64 (l.g i).x, SV.int .i64 (l.g i).y] = [SV.int .i64 (l.g i).x,
 SV.int .i64 (l.g i).y]) ∧ nat_lit 0 = nat_lit 0 ∧ (l.n = l.n ∧ ∀ (i : Nat), i < l.n → [SV.int .i64 (l.g i).x, SV.int .i64 (l.g i).y] = [SV.int .i64 (l.g i).x, SV.int .i64 (l.g i).y]) ∧ (l.g (Int.toNat (↑g : Int))).x = (l.g (Int.toNat (↑g : Int))).x ∧ (l.g (Int.toNat (↑g : Int))).y = (l.g (Int.toNat (↑g : Int))).y ∧ (0
 : Int) = (0 : Int) ∧ (0 : Int) = (0 : Int) ∧ ((↑g : Int) = (↑g'.1 : Int) ∧ g'.1 < l.n ∧ g'.2 ≤ (2 : Nat) ∧ ∀ (c : Nat), c < (2 : Nat) * g'.1 + g'.2 → L.free (L.cand l c) l = false) ∧ (2 : Nat) - g'.2 < (2 : Nat) - g_1.2)) ∧ (decide ((↑g_1.2 : Int) < (↑(2 : Nat) : Int)) = false → InK .i64 ((↑g : Int) + (1 : Int)) ∧ ∃ (g' : Nat), (↑g : Int) + (1 : Int) = (↑g' :
 Int) ∧ (↑l.n : Int) = (↑l.n : Int) ∧ (l.n = l.n ∧ ∀ (i : Nat), i < l.n → [SV.int .i64 (l.g i).x, SV.int .i64 (l.g i).y] = [SV.int .i64 (l.g i).x, SV.int .i64 (l.g i).y]) ∧ nat_lit 0 = nat_lit 0 ∧ (l.n = l.n ∧ ∀ (i : Nat), i < l.n → [SV.int .i64 (l.g i).x, SV.int .i64 (l.g i).y] = [SV.int
 .i64 (l.g i).x, SV.int .i64 (l.g i).y]) ∧ (0 : Int) = (0 : Int) ∧ (0 : Int) = (0 : Int) ∧ (g' ≤ l.n ∧ ∀ (c : Nat), c < (2 : Nat) * g' → L.free (L.cand l c) l = false) ∧ l.n - g' < l.n - g)) ∧ (decide ((↑g : Int) < (↑l.n : Int)) = false → SV.agg [SV.int .i64 (0 : Int), SV.int .i64 (0 : Int)] = SV.agg
 [SV.int .i64 (L.wayD l).x, SV.int .i64 (L.wayD l).y] ∧ false = L.wayOk l))) (by kernel_rfl) (by
    obtain ⟨hn, hN⟩ := hp
    refine ⟨fun h0 => ?_, fun h0 => ?_⟩
    · have h0 : ((l.n : Nat) : Int) = 0 := of_decide_eq_true h0
      obtain ⟨e1, e2⟩ := way_0 (N := l) (by omega)
      rw [e1, e2]; exact ⟨rfl, rfl⟩
    have h0 : ¬ ((l.n : Nat) : Int) = 0 := of_decide_eq_false h0
    refine ⟨⟨(0 : Nat), rfl, Nat.zero_le _, fun c hc => absurd hc (Nat.not_lt_zero _)⟩, fun g hg => ⟨fun hlt => ?_, fun hge => ?_⟩⟩
    · obtain ⟨hg1, hg2⟩ := hg
      have hb : (g : Int) < (l.n : Int) := of_decide_eq_true hlt
      have e0 : ((g : Int)).toNat = g := by omega
      have hgl : g < l.n := by omega
      obtain ⟨⟨⟨a1, a2⟩, b1, b2⟩, hgc, _⟩ := isNrm_of (hN g hgl)
      have t1 := tdiv_bd (a := (l.g g).x) (g := L.gcd (l.g g).x (l.g g).y) a1 a2 hgc
      have t2 := tdiv_bd (a := (l.g g).y) (g := L.gcd (l.g g).x (l.g g).y) b1 b2 hgc
      have t3 := tdiv_bd (a := 0 - (l.g g).x) (g := L.gcd (l.g g).x (l.g g).y) (by omega) (by omega) hgc
      have t4 := tdiv_bd (a := 0 - (l.g g).y) (g := L.gcd (l.g g).x (l.g g).y) (by omega) (by omega) hgc
      rw [e0]
      refine ⟨⟨by omega, hb⟩, ⟨⟨by omega, by omega⟩, by omega, by omega⟩, InK.of (by omega) (by omega), by omega, InK.of (by omega) (by omega), by omega, InK.of (by omega) (by omega), by omega, InK.of (by omega) (by omega), InK.of (by omega) (by omega), by omega, InK.of (by omega) (by omega), ⟨(g, 0), rfl, ⟨rfl, fun i hi => ?_⟩, rfl, hgl, Nat.zero_le _, hg2⟩, fun h hh => ?_⟩
      · match i, hi with
        | 0, _ => rfl
        | 1, _ => rfl
      obtain ⟨g0, s⟩ := h
      obtain ⟨e1, q1, q2, q3⟩ := hh
      have e1 : (g : Int) = (g0 : Int) := e1
      obtain rfl : g = g0 := by omega
      have q2 : s ≤ 2 := q2
      have q3 : ∀ c, c < 2 * g + s → L.free (L.cand l c) l = false := q3
      have es : ((s : Int)).toNat = s := by omega
      dsimp only
      rw [es]
      refine ⟨fun hs => ?_, fun hs => ?_⟩
      · have hs : (s : Int) < (2 : Int) := of_decide_eq_true hs
        have hs2 : s < 2 := by omega
        have hc := cand_eq l g hs2
        refine ⟨⟨by omega, hs⟩, ⟨fun _ _ => rfl, hn, dir_bd (hN g hgl) s, fun i hi => (isNrm_of (hN i hi)).2.2⟩, fun hf => ?_, fun hf => ?_⟩
        · rw [← hc] at hf
          obtain ⟨w1, w2⟩ := way_at q3 hf (by omega)
          rw [w1, w2, hc]; exact ⟨rfl, rfl⟩
        · rw [← hc] at hf
          refine ⟨InK.of (by omega) (by omega), (g, s + 1), by show (s : Int) + 1 = ((s + 1 : Nat) : Int); omega, ⟨rfl, fun _ _ => rfl⟩, rfl, rfl, rfl, rfl, ⟨rfl, fun _ _ => rfl⟩, rfl, ⟨rfl, fun _ _ => rfl⟩, rfl, rfl, rfl, rfl, ⟨rfl, q1, by show s + 1 ≤ 2; omega, fun c hc' => ?_⟩, by show 2 - (s + 1) < 2 - s; omega⟩
          have hc' : c < 2 * g + s + 1 := hc'
          rcases Nat.lt_succ_iff_lt_or_eq.1 hc' with h | rfl
          · exact q3 c h
          · exact hf
      · have hs : ¬ (s : Int) < (2 : Int) := of_decide_eq_false hs
        obtain rfl : s = 2 := by omega
        exact ⟨InK.of (by omega) (by omega), g + 1, by omega, rfl, ⟨rfl, fun _ _ => rfl⟩, rfl, ⟨rfl, fun _ _ => rfl⟩, rfl, rfl, ⟨by omega, fun c hc => q3 c (by omega)⟩, by omega⟩
    · obtain ⟨hg1, hg2⟩ := hg
      have hb : ¬ (g : Int) < (l.n : Int) := of_decide_eq_false hge
      obtain rfl : g = l.n := by omega
      obtain ⟨w1, w2⟩ := way_no (N := l) (by omega) hg2
      rw [w1, w2]; exact ⟨rfl, rfl⟩)
theorem p_way_ok : SpecOk Try.prog 27 p_way_S := fnX Try.func27 (c := bodyOf Try.f27) (by kernel_rfl) mixed (fun args p r hs hp => by
  unfold p_way_s at hs
  split at hs
  · cases hs; exact ⟨_, _, p_way_vc _ hp.2, (.p (.sl hp.1) .nil), ⟨show SpecsL Try.prog _ from (SpecsL.cons p_gcd_ok p_gcd_en (SpecsL.cons p_free_ok p_free_en SpecsL.nil)), rfl, ⟨show ItersL Try.prog _ from ItersL.nil, (TrsOk.none (fun _ => rfl))⟩⟩⟩
  · cases hs)
theorem p_way_en : Enters Try.prog 27 := fun args w => by kernel_rfl
def p_bad_p (n : L.Pt) : Prop := True
def p_bad_r (n : L.Pt) : SV := .bool (!L.isNrm n)
def p_bad_s : List EV → Option (Prop × SV)
  | [.p (.agg [.int .i64 n_x, .int .i64 n_y])] => some (p_bad_p (⟨n_x, n_y⟩ : L.Pt), p_bad_r (⟨n_x, n_y⟩ : L.Pt))
  | _ => none
abbrev p_bad_S : SE.Spec := (specO p_bad_s)
def p_bad_C : Cfg := { muts := [], frz := lookN [], specs := lookS [(25, p_within_S)], loops := lookL [], iters := lookI [], rfs := lookR [], nils := lookM [] }
theorem p_bad_vc (n : L.Pt) (hp : p_bad_p n) : vc Try.prog (p_bad_C) (bodyOf Try.f24) (st0 Try.f24 [.p (.agg [.int .i64 n.x, .int .i64 n.y])]) (retFn Try.prog Try.f24 (p_bad_r n)) :=
  @Eq.mpr _ (((!(decide (n.x = (0 : Int)) && decide (n.y = (0 : Int)))) = true → True) ∧ ((!bif decide (n.x = (0 : Int)) && decide (n.y = (0 : Int)) then true else !L.within n.x (-4096 : Int) (4096 : Int)) = true → True) ∧ (bif bif decide (n.x = (0 : Int)) && decide (n.y = (0 : Int)) then true else !L.within n.x (-4096 : Int) (4096
 : Int) then true else !L.within n.y (-4096 : Int) (4096 : Int)) = !L.isNrm n) (by kernel_rfl) (by
    refine ⟨fun _ => trivial, fun _ => trivial, ?_⟩
    unfold L.isNrm
    cases (decide (n.x = 0) && decide (n.y = 0)) <;> cases L.within n.x (-4096) 4096 <;> cases L.within n.y (-4096) 4096 <;> rfl)
theorem p_bad_ok : SpecOk Try.prog 24 p_bad_S := fnX Try.func24 (c := bodyOf Try.f24) (by kernel_rfl) mixed (fun args p r hs hp => by
  unfold p_bad_s at hs
  split at hs
  · cases hs; exact ⟨_, _, p_bad_vc _ hp, (.same _ .nil), ⟨show SpecsL Try.prog _ from (SpecsL.cons p_within_ok p_within_en SpecsL.nil), rfl, ⟨show ItersL Try.prog _ from ItersL.nil, (TrsOk.none (fun _ => rfl))⟩⟩⟩
  · cases hs)
theorem p_bad_en : Enters Try.prog 24 := fun args w => by kernel_rfl
theorem p_bad_B : ∀ args p r, p_bad_s args = some (p, r) → ∃ b, r = .bool b := by
  intro args p r h
  unfold p_bad_s at h
  split at h
  · cases h; exact ⟨_, rfl⟩
  · cases h
end Go.Proofs.Ytdlhpdidgfgomaa

namespace Go.Proofs.Ytdlhpdidgfgomaa
open Go.SE Go.RowKit
set_option maxRecDepth 100000
set_option maxHeartbeats 4000000
set_option linter.unusedVariables false
attribute [local irreducible] vc

def L.pck (N : L.Sq L.Pt) (l : L.Sq Int) : L.Sq L.Pt := ⟨l.n, fun i => N.g (l.g i).toNat⟩
def L.snoc (l : L.Sq Int) (x : Int) : L.Sq Int := ⟨l.n + 1, fun i => bif decide (i < l.n) then l.g i else x⟩
def L.nilI : L.Sq Int := ⟨0, fun _ => 0⟩
def L.first (f : Nat → Option (L.Sq Int)) : Nat → Option (L.Sq Int)
  | 0 => none
  | c + 1 => match L.first f c with
    | some x => some x
    | none => f c
def L.grp (N : L.Sq L.Pt) : Nat → L.Sq Int → Nat → Option (L.Sq Int)
  | 0, l, _ => bif L.wayOk (L.pck N l) then none else some l
  | d + 1, l, fr => L.first (fun j => L.grp N d (L.snoc l ((fr + j : Nat) : Int)) (fr + j + 1)) (N.n - fr)
def L.orB (o : Option (L.Sq Int)) (b : L.Sq Int) : L.Sq Int := match o with
  | some x => x
  | none => b
def L.isNo (o : Option (L.Sq Int)) : Bool := match o with
  | some _ => false
  | none => true
def L.aft (N : L.Sq L.Pt) (l b : L.Sq Int) : L.Sq Int := bif L.wayOk (L.pck N l) then b else l
def L.within0 (l : L.Sq Int) (n : Nat) : Prop := ∀ i, i < l.n → 0 ≤ l.g i ∧ l.g i < (n : Int)
def L.exF (N : L.Sq L.Pt) (j : Nat) : Option (L.Sq Int) := L.grp N (3 + j) L.nilI 0
def L.exL (N : L.Sq L.Pt) : L.Sq Int := L.orB (L.first (L.exF N) 22) L.nilI
def L.exBad (N : L.Sq L.Pt) : Bool := bif decide (24 < (N.n : Int)) then true else L.anyB N.n (fun i => !L.isNrm (N.g i))
def L.exE (N : L.Sq L.Pt) : Int := bif L.exBad N then 1 else bif L.wayOk N then 0 else 13
def L.exD (N : L.Sq L.Pt) : L.Pt := bif L.exBad N then ⟨0, 0⟩ else L.wayD N
def L.exN (N : L.Sq L.Pt) : Nat := bif L.exBad N then 0 else bif L.wayOk N then 0 else (L.exL N).n
theorem first_none {f : Nat → Option (L.Sq Int)} : ∀ {c : Nat}, (∀ j, j < c → f j = none) → L.first f c = none
  | 0, _ => rfl
  | c + 1, h => by rw [L.first, first_none (c := c) (fun j hj => h j (by omega))]; exact h c (by omega)
theorem first_none_of {f : Nat → Option (L.Sq Int)} : ∀ {c : Nat}, L.first f c = none → ∀ j, j < c → f j = none
  | 0, _, j, hj => absurd hj (Nat.not_lt_zero _)
  | c + 1, h, j, hj => by
    rw [L.first] at h
    cases hf : L.first f c with
    | some x => rw [hf] at h; cases h
    | none =>
      rw [hf] at h
      rcases Nat.lt_succ_iff_lt_or_eq.1 hj with hj | rfl
      · exact first_none_of hf j hj
      · exact h
theorem first_at {f : Nat → Option (L.Sq Int)} {j : Nat} {x : L.Sq Int} (h0 : ∀ i, i < j → f i = none) (h : f j = some x) : ∀ {c : Nat}, j < c → L.first f c = some x
  | c + 1, hc => by
    rw [L.first]
    rcases Nat.lt_succ_iff_lt_or_eq.1 hc with hc | rfl
    · rw [first_at h0 h hc]
    · rw [first_none h0]; exact h
theorem first_some {f : Nat → Option (L.Sq Int)} {x : L.Sq Int} : ∀ {c : Nat}, L.first f c = some x → ∃ j, j < c ∧ f j = some x ∧ ∀ i, i < j → f i = none
  | 0, h => by cases h
  | c + 1, h => by
    rw [L.first] at h
    cases hf : L.first f c with
    | some y =>
      rw [hf] at h
      cases h
      obtain ⟨j, h1, h2, h3⟩ := first_some hf
      exact ⟨j, by omega, h2, h3⟩
    | none =>
      rw [hf] at h
      exact ⟨c, Nat.lt_succ_self c, h, first_none_of hf⟩
theorem first_mono {f : Nat → Option (L.Sq Int)} {x : L.Sq Int} {c m : Nat} (h : L.first f c = some x) (hm : c ≤ m) : L.first f m = some x := by
  obtain ⟨j, h1, h2, h3⟩ := first_some h
  exact first_at h3 h2 (by omega)
theorem grp_len {N : L.Sq L.Pt} : ∀ {d : Nat} {l : L.Sq Int} {fr : Nat} {x : L.Sq Int}, L.grp N d l fr = some x → x.n = l.n + d
  | 0, l, fr, x, h => by
    rw [L.grp] at h
    cases hw : L.wayOk (L.pck N l) with
    | true => rw [hw] at h; cases h
    | false => rw [hw] at h; cases h; rfl
  | d + 1, l, fr, x, h => by
    rw [L.grp] at h
    obtain ⟨j, _, h2, _⟩ := first_some h
    have := grp_len h2
    rw [this]
    show l.n + 1 + d = l.n + (d + 1)
    omega
theorem snoc_within {l : L.Sq Int} {n : Nat} (h : L.within0 l n) {x : Int} (h0 : 0 ≤ x) (h1 : x < (n : Int)) : L.within0 (L.snoc l x) n := fun i hi => by
  have hi : i < l.n + 1 := hi
  show 0 ≤ (bif decide (i < l.n) then l.g i else x) ∧ (bif decide (i < l.n) then l.g i else x) < (n : Int)
  by_cases h' : i < l.n
  · rw [decide_eq_true h']; exact h i h'
  · rw [decide_eq_false h']; exact ⟨h0, h1⟩
theorem pick_nrms {N : L.Sq L.Pt} {l : L.Sq Int} (hN : L.nrms N) (h : L.within0 l N.n) (hn : l.n ≤ 1000000) : L.nrms (L.pck N l) := ⟨hn, fun i hi => hN.2 _ (by have := h i hi; omega)⟩
theorem isNo_none {o : Option (L.Sq Int)} (h : L.isNo o = true) : o = none := by
  cases o with
  | none => rfl
  | some x => cases h
theorem isNo_some {o : Option (L.Sq Int)} (h : L.isNo o = false) : ∃ x, o = some x := by
  cases o with
  | none => cases h
  | some x => exact ⟨x, rfl⟩
theorem exBad_false {N : L.Sq L.Pt} (h : L.exBad N = false) : N.n ≤ 24 ∧ L.nrms N := by
  unfold L.exBad at h
  cases hd : decide (24 < (N.n : Int)) with
  | true => rw [hd] at h; cases h
  | false =>
    have hd := of_decide_eq_false hd
    rw [decide_eq_false hd] at h
    refine ⟨by omega, by omega, fun i hi => ?_⟩
    cases hn : L.isNrm (N.g i) with
    | true => rfl
    | false =>
      have : L.anyB N.n (fun i => !L.isNrm (N.g i)) = true := anyB_iff.2 ⟨i, hi, by rw [hn]; rfl⟩
      rw [this] at h; cases h
theorem wayD_no {N : L.Sq L.Pt} (h : L.wayOk N = false) : L.wayD N = ⟨0, 0⟩ := by
  unfold L.wayOk at h
  obtain ⟨h1, h2⟩ := Bool.or_eq_false_iff.1 h
  unfold L.wayD
  rw [h1, h2]; rfl
abbrev p_exit2_tr : Tr := { T := (L.Sq Int) × (L.Sq L.Pt) × (L.Sq Int), U := Nat, args := fun t => (fun l N b => [.p (.sl 1 l.n (fun i => [.int .i64 (l.g i)])), .p (.ref [(.sl 2 N.n (fun i => [.int .i64 ((N.g i).x), .int .i64 ((N.g i).y)]))] 0), .loc 1003 0]) t.1 t.2.1 t.2.2, own := fun t => (fun l N b => [(1003, .blk 26 [.full false 1 (b).n (fun i => [.int .i64 ((b).g i)])])]) t.1 t.2.1 t.2.2, pre := fun t => (fun l N b => 1 ≤ l.n ∧ l.n ≤ 1000 ∧ L.nrms N ∧ L.within0 l N.n) t.1 t.2.1 t.2.2, post := fun t u => (fun l N b => fun u => True) t.1 t.2.1 t.2.2 u, own' := fun t u => (fun l N b => fun u => [(1003, .blk 26 [.full false 1 (L.aft N l b).n (fun i => [.int .i64 ((L.aft N l b).g i)])])]) t.1 t.2.1 t.2.2 u, res := fun t u => (fun l N b => fun u => .p (.bool (L.wayOk (L.pck N l)))) t.1 t.2.1 t.2.2 u }
theorem p_exit2_vc (l : L.Sq Int) (N : L.Sq L.Pt) (b : L.Sq Int) (hp : p_exit2_tr.pre (l, N, b)) : vc Try.prog ({ muts := [8], frz := lookN [], specs := lookS [(27, p_way_S)], loops := lookL [(3, { T := Nat, keep := [0, 1, 2, 5, 10, 11], keepO := [1003], chg := fun i => [(12, .p (.int .i64 (i : Int)))], own := fun i => [(20, .row 25 2 i (fun j => [.int .i64 ((N.g (l.g j).toNat).x), .int .i64 ((N.g (l.g j).toNat).y)]))], inv := fun i => i ≤ l.n, mu := fun i => l.n - i })], iters := lookI [], rfs := lookR [], nils := lookM [(2, [(5, 20, 25, 2)])] }) (bodyOf Try.f29) (stTr Try.f29 (p_exit2_tr.args (l, N, b)) (p_exit2_tr.own (l, N, b))) (retTr Try.prog Try.f29 p_exit2_tr (l, N, b)) :=
  @Eq.mpr _ ((∃ (g : Nat), (0 : Int) = (↑g : Int) ∧ (nat_lit 0 = g ∧ ∀ (i : Nat), i < nat_lit 0 → [] = [SV.int .i64 (N.g (Int.toNat (l.g i))).x, SV.int .i64 (N.g (Int.toNat (l.g i))).y]) ∧ g ≤ l.n) ∧ ∀ (g : Nat), g ≤ l.n → (decide ((↑g : Int) < (↑l.n : Int)) = true → ((0 : Int) ≤ (↑g : Int) ∧ (↑g : Int) < (↑l.n : Int)) ∧ ((0 : Int) ≤ l.g (Int.toNat (↑g : Int)) ∧
 l.g (Int.toNat (↑g : Int)) < (↑N.n : Int)) ∧ (g + nat_lit 1) * nat_lit 16 ≤ (140737488355328 : Nat) ∧ InK .i64 ((↑g : Int) + (1 : Int)) ∧ ∃ (g' : Nat), (↑g : Int) + (1 : Int) = (↑g' : Int) ∧ (↑l.n : Int) = (↑l.n : Int) ∧ (l.n = l.n ∧ ∀ (i : Nat), i < l.n → [SV.int .i64 (l.g i)] = [SV.int .i64 (l.g i)]) ∧ (l.n = l.n ∧ ∀ (i : Nat), i < l.n →
 [SV.int .i64 (l.g i)] = [SV.int .i64 (l.g i)]) ∧ SV.ref [SV.sl (nat_lit 2) N.n fun (i : Nat) ↦ [SV.int .i64 (N.g i).x, SV.int .i64 (N.g i).y]] (nat_lit 0) = SV.ref [SV.sl (nat_lit 2) N.n fun (i : Nat) ↦ [SV.int .i64 (N.g i).x, SV.int .i64 (N.g i).y]] (nat_lit 0) ∧ nat_lit 0 =
 nat_lit 0 ∧ (g + nat_lit 1 = g' ∧ ∀ (i : Nat), i < g + nat_lit 1 → appGet g (fun (j : Nat) ↦ [SV.int .i64 (N.g (Int.toNat (l.g j))).x, SV.int .i64 (N.g (Int.toNat (l.g j))).y]) (fun (x : Nat) ↦ [SV.int .i64 (N.g (Int.toNat (l.g (Int.toNat (↑g : Int))))).x, SV.int .i64 (N.g (Int.toNat (l.g (Int.toNat (↑g : Int))))).y]) i =
 [SV.int .i64 (N.g (Int.toNat (l.g i))).x, SV.int .i64 (N.g (Int.toNat (l.g i))).y]) ∧ (b.n = b.n ∧ ∀ (i : Nat), i < b.n → [SV.int .i64 (b.g i)] = [SV.int .i64 (b.g i)]) ∧ g' ≤ l.n ∧ l.n - g' < l.n - g) ∧ (decide ((↑g : Int) < (↑l.n : Int)) = false → ((∀ (i : Nat), i < g → [SV.int .i64 (N.g (Int.toNat
 (l.g i))).x, SV.int .i64 (N.g (Int.toNat (l.g i))).y] = [SV.int .i64 (N.g (Int.toNat (l.g i))).x, SV.int .i64 (N.g (Int.toNat (l.g i))).y]) ∧ L.nrms (L.Sq.mk g fun (i : Nat) ↦ N.g (Int.toNat (l.g i)))) ∧ ((!L.wayOk (L.Sq.mk g fun (i : Nat) ↦ N.g (Int.toNat (l.g i)))) = true → ∃ (u : Nat), false = L.wayOk (L.pck N l) ∧ (l.n = (L.aft N l b).n
 ∧ (0 : Nat) < l.n ∧ ∀ (i : Nat), i < l.n → [SV.int .i64 (l.g i)] = [SV.int .i64 ((L.aft N l b).g i)]) ∧ True) ∧ ((!L.wayOk (L.Sq.mk g fun (i : Nat) ↦ N.g (Int.toNat (l.g i)))) = false → ∃ (u : Nat), true = L.wayOk (L.pck N l) ∧ (b.n = (L.aft N l b).n ∧ ∀ (i : Nat), i < b.n → [SV.int .i64 (b.g i)] = [SV.int .i64 ((L.aft N l
 b).g i)]) ∧ True))) (by kernel_rfl) (by
    have hp : 1 ≤ l.n ∧ l.n ≤ 1000 ∧ L.nrms N ∧ L.within0 l N.n := hp
    obtain ⟨h1, h2, hN, hw⟩ := hp
    refine ⟨⟨(0 : Nat), rfl, ⟨rfl, fun i hi => absurd hi (Nat.not_lt_zero _)⟩, Nat.zero_le _⟩, fun g hg => ⟨fun hlt => ?_, fun hge => ?_⟩⟩
    · have hb : (g : Int) < (l.n : Int) := of_decide_eq_true hlt
      have e0 : ((g : Int)).toNat = g := by omega
      have hx := hw g (by omega)
      rw [e0]
      refine ⟨⟨by omega, hb⟩, hx, show (g + 1) * 16 ≤ 140737488355328 by omega, InK.of (by omega) (by omega), g + 1, by omega, rfl, ⟨rfl, fun _ _ => rfl⟩, ⟨rfl, fun _ _ => rfl⟩, rfl, rfl, ⟨rfl, fun i hi => ?_⟩, ⟨rfl, fun _ _ => rfl⟩, by omega, by omega⟩
      have hi : i < g + 1 := hi
      unfold appGet
      by_cases h' : i < g
      · rw [if_pos h']
      · rw [if_neg h']
        obtain rfl : i = g := by omega
        rfl
    · have hb : ¬ (g : Int) < (l.n : Int) := of_decide_eq_false hge
      obtain rfl : g = l.n := by omega
      have e : (L.Sq.mk l.n fun (i : Nat) => N.g (l.g i).toNat) = L.pck N l := rfl
      rw [e]
      refine ⟨⟨fun _ _ => rfl, pick_nrms hN hw (by omega)⟩, fun hc => ?_, fun hc => ?_⟩
      · have hc : L.wayOk (L.pck N l) = false := by simpa using (show (!L.wayOk (L.pck N l)) = true from hc)
        unfold L.aft
        rw [hc]; exact ⟨(0 : Nat), rfl, ⟨rfl, h1, fun _ _ => rfl⟩, trivial⟩
      · have hc : L.wayOk (L.pck N l) = true := by simpa using (show (!L.wayOk (L.pck N l)) = false from hc)
        unfold L.aft
        rw [hc]; exact ⟨(0 : Nat), rfl, ⟨rfl, fun _ _ => rfl⟩, trivial⟩)
theorem p_exit2_en : Enters Try.prog 29 := fun args w => by kernel_rfl
theorem p_exit2_tok : TrOk Try.prog 29 p_exit2_tr := tr_ok (ks := [1003]) (n := 3) Try.func29 (c := bodyOf Try.f29) (by kernel_rfl) mixed ⟨fun t => rfl, fun t => rfl, fun t u => rfl, fun t u => rfl, fun t u => rfl, by kernel_rfl⟩ (fun ⟨l, N, b⟩ hp => ⟨_, p_exit2_vc l N b hp, ⟨show SpecsL Try.prog _ from (SpecsL.cons p_way_ok p_way_en SpecsL.nil), rfl, ⟨show ItersL Try.prog _ from ItersL.nil, (TrsOk.none (fun _ => rfl))⟩⟩⟩)
abbrev p_more_tr : Tr := { T := (L.Sq Int) × (Nat) × (Nat) × (L.Sq L.Pt) × (L.Sq Int), U := Nat, args := fun t => (fun l fr k N b => [.p (.sl 1 l.n (fun i => [.int .i64 (l.g i)])), .p (.int .i64 (fr : Int)), .p (.ref [.int .i64 (k : Int)] 0), .loc 1005 0, .p (.ref [.int .i64 (N.n : Int)] 0), .loc 1007 0]) t.1 t.2.1 t.2.2.1 t.2.2.2.1 t.2.2.2.2, own := fun t => (fun l fr k N b => [(1003, .blk 26 [.full false 1 (b).n (fun i => [.int .i64 ((b).g i)])]), (1005, .blk 60 [.cl 29 [.p (.ref [(.sl 2 N.n (fun i => [.int .i64 ((N.g i).x), .int .i64 ((N.g i).y)]))] 0), .loc 1003 0]]), (1007, .blk 77 [.cl 54 [.p (.ref [.int .i64 (k : Int)] 0), .loc 1005 0, .p (.ref [.int .i64 (N.n : Int)] 0), .loc 1007 0]])]) t.1 t.2.1 t.2.2.1 t.2.2.2.1 t.2.2.2.2, pre := fun t => (fun l fr k N b => (l.n ≤ k ∧ 1 ≤ k ∧ k ≤ 1000) ∧ (fr ≤ N.n ∧ N.n ≤ 1000) ∧ L.nrms N ∧ L.within0 l N.n) t.1 t.2.1 t.2.2.1 t.2.2.2.1 t.2.2.2.2, post := fun t u => (fun l fr k N b => fun u => True) t.1 t.2.1 t.2.2.1 t.2.2.2.1 t.2.2.2.2 u, own' := fun t u => (fun l fr k N b => fun u => [(1003, .blk 26 [.full false 1 (L.orB (L.grp N (k - l.n) l fr) b).n (fun i => [.int .i64 ((L.orB (L.grp N (k - l.n) l fr) b).g i)])]), (1005, .blk 60 [.cl 29 [.p (.ref [(.sl 2 N.n (fun i => [.int .i64 ((N.g i).x), .int .i64 ((N.g i).y)]))] 0), .loc 1003 0]]), (1007, .blk 77 [.cl 54 [.p (.ref [.int .i64 (k : Int)] 0), .loc 1005 0, .p (.ref [.int .i64 (N.n : Int)] 0), .loc 1007 0]])]) t.1 t.2.1 t.2.2.1 t.2.2.2.1 t.2.2.2.2 u, res := fun t u => (fun l fr k N b => fun u => .p (.bool (L.isNo (L.grp N (k - l.n) l fr)))) t.1 t.2.1 t.2.2.1 t.2.2.2.1 t.2.2.2.2 u }
abbrev p_more_mu : p_more_tr.T → Nat := fun t => (fun l fr k N b => k - l.n) t.1 t.2.1 t.2.2.1 t.2.2.2.1 t.2.2.2.2
theorem p_more_vc (rn : Nat) (l : L.Sq Int) (fr : Nat) (k : Nat) (N : L.Sq L.Pt) (b : L.Sq Int) (hp : p_more_tr.pre (l, fr, k, N, b)) (hmu : k - l.n < rn + 1) : vc Try.prog ({ muts := [], frz := lookN [], specs := lookS [], loops := lookL [(4, { T := Nat, keep := [0, 1, 2, 3, 4, 5, 8], keepO := [1003, 1005, 1007], chg := fun j => [(9, .p (.int .i64 ((fr + j : Nat) : Int)))], own := fun _ => [], inv := fun j => fr + j ≤ N.n ∧ ∀ c, c < j → L.isNo (L.grp N (k - l.n - 1) (L.snoc l ((fr + c : Nat) : Int)) (fr + c + 1)) = true, mu := fun j => N.n - (fr + j) })], iters := lookI [], rfs := lookR [], nils := lookM [], trs := lookT [(29, p_exit2_tr), (54, Tr.lt p_more_tr p_more_mu rn)], ren := fun k => k }) (bodyOf Try.f54) (stTr Try.f54 (p_more_tr.args (l, fr, k, N, b)) (p_more_tr.own (l, fr, k, N, b))) (retTr Try.prog Try.f54 p_more_tr (l, fr, k, N, b)) :=
  @Eq.mpr _ ((decide ((↑l.n : Int) = (↑k : Int)) = true → ∃ (t : L.Sq Int × L.Sq L.Pt × L.Sq Int), (l.n = t.1.n ∧ ∀ (i : Nat), i < l.n → [SV.int .i64 (l.g i)] = [SV.int .i64 (t.1.g i)]) ∧ SV.ref [SV.sl (nat_lit 2) N.n fun (i : Nat) ↦ [SV.int .i64 (N.g i).x, SV.int .i64 (N.g i).y]] (nat_lit 0) = SV.ref [SV.sl
 (2 : Nat) t.2.1.n fun (i : Nat) ↦ [SV.int .i64 (t.2.1.g i).x, SV.int .i64 (t.2.1.g i).y]] (0 : Nat) ∧ nat_lit 0 = (0 : Nat) ∧ (b.n = t.2.2.n ∧ ∀ (i : Nat), i < b.n → [SV.int .i64 (b.g i)] = [SV.int .i64 (t.2.2.g i)]) ∧ ((1 : Nat) ≤ t.1.n ∧ t.1.n ≤ (1000 : Nat) ∧ L.nrms t.2.1 ∧ L.within0 t.1 t.2.1.n) ∧ ∀ (u : Nat), True → ∃ (u : Nat),
 L.wayOk (L.pck t.2.1 t.1) = L.isNo (L.grp N (k - l.n) l fr) ∧ ((L.aft t.2.1 t.1 t.2.2).n = (L.orB (L.grp N (k - l.n) l fr) b).n ∧ ∀ (i : Nat), i < (L.aft t.2.1 t.1 t.2.2).n → [SV.int .i64 ((L.aft t.2.1 t.1 t.2.2).g i)] = [SV.int .i64 ((L.orB (L.grp N (k - l.n) l fr) b).g i)]) ∧ EV.cl (nat_lit 29) [EV.p (SV.ref [SV.sl (nat_lit 2) N.n fun (i :
 Nat) ↦ [SV.int .i64 (N.g i).x, SV.int .i64 (N.g i).y]] (nat_lit 0)), EV.loc (nat_lit 1003) (nat_lit 0)] = EV.cl (29 : Nat) [EV.p (SV.ref [SV.sl (2 : Nat) N.n fun (i : Nat) ↦ [SV.int .i64 (N.g i).x, SV.int .i64 (N.g i).y]] (0 : Nat)), EV.loc (1003 : Nat) (0 : Nat)] ∧ EV.cl (nat_lit 54)
 [EV.p (SV.ref [SV.int .i64 (↑k : Int)] (nat_lit 0)), EV.loc (nat_lit 1005) (nat_lit 0), EV.p (SV.ref [SV.int .i64 (↑N.n : Int)] (nat_lit 0)), EV.loc (nat_lit 1007) (nat_lit 0)] = EV.cl (54 : Nat) [EV.p (SV.ref [SV.int .i64 (↑k : Int)] (0 : Nat)), EV.loc (1005 : Nat) (0 : Nat), EV.p
 (SV.ref [SV.int .i64 (↑N.n : Int)] (0 : Nat)), EV.loc (1007 : Nat) (0 : Nat)] ∧ True) ∧ (decide ((↑l.n : Int) = (↑k : Int)) = false → (∃ (g : Nat), (↑fr : Int) = (↑(fr + g) : Int) ∧ fr + g ≤ N.n ∧ ∀ (c : Nat), c < g → L.isNo (L.grp N (k - l.n - (1 : Nat)) (L.snoc l (↑(fr + c) : Int)) (fr + c + (1 : Nat))) = true) ∧ ∀ (g : Nat), (fr + g ≤ N.n ∧ ∀ (c :
 Nat), c < g → L.isNo (L.grp N (k - l.n - (1 : Nat)) (L.snoc l (↑(fr + c) : Int)) (fr + c + (1 : Nat))) = true) → (decide ((↑(fr + g) : Int) < (↑N.n : Int)) = true → ((0 : Int) ≤ (↑l.n : Int) ∧ (↑l.n : Int) ≤ (↑l.n : Int) ∧ (↑l.n : Int) = (↑l.n : Int)) ∧ ((0 : Nat) < (1 : Nat) ∧ (Int.toNat (↑l.n : Int) + (1 : Nat)) * nat_lit 8 ≤ (140737488355328 : Nat)) ∧ InK
 .i64 ((↑(fr + g) : Int) + (1 : Int)) ∧ ∃ (t : L.Sq Int × Nat × Nat × L.Sq L.Pt × L.Sq Int), (Int.toNat (↑l.n : Int) + (1 : Nat) = t.1.n ∧ ∀ (i : Nat), i < Int.toNat (↑l.n : Int) + (1 : Nat) → appGet (Int.toNat (↑l.n : Int)) (fun (i : Nat) ↦ [SV.int .i64 (l.g i)]) (fun (x : Nat) ↦ [SV.int .i64 (↑(fr + g) : Int)]) i = [SV.int .i64
 (t.1.g i)]) ∧ (↑(fr + g) : Int) + (1 : Int) = (↑t.2.1 : Int) ∧ SV.ref [SV.int .i64 (↑k : Int)] (nat_lit 0) = SV.ref [SV.int .i64 (↑t.snd.2.1 : Int)] (0 : Nat) ∧ nat_lit 0 = (0 : Nat) ∧ SV.ref [SV.int .i64 (↑N.n : Int)] (nat_lit 0) = SV.ref [SV.int .i64 (↑t.snd.snd.2.1.n : Int)] (0 : Nat) ∧ nat_lit 0 = (0 : Nat)
 ∧ (b.n = t.snd.snd.2.2.n ∧ ∀ (i : Nat), i < b.n → [SV.int .i64 (b.g i)] = [SV.int .i64 (t.snd.snd.2.2.g i)]) ∧ EV.cl (nat_lit 29) [EV.p (SV.ref [SV.sl (nat_lit 2) N.n fun (i : Nat) ↦ [SV.int .i64 (N.g i).x, SV.int .i64 (N.g i).y]] (nat_lit 0)), EV.loc (nat_lit 1003) (nat_lit 0)] = EV.cl (29 : Nat)
 [EV.p (SV.ref [SV.sl (nat_lit 2) t.snd.snd.2.1.n fun (i : Nat) ↦ [SV.int .i64 (t.snd.snd.2.1.g i).x, SV.int .i64 (t.snd.snd.2.1.g i).y]] (nat_lit 0)), EV.loc (nat_lit 1003) (nat_lit 0)] ∧ EV.cl (nat_lit 54) [EV.p (SV.ref [SV.int .i64 (↑k : Int)] (nat_lit 0)), EV.loc (nat_lit 1005) (nat_lit 0),
 EV.p (SV.ref [SV.int .i64 (↑N.n : Int)] (nat_lit 0)), EV.loc (nat_lit 1007) (nat_lit 0)] = EV.cl (54 : Nat) [EV.p (SV.ref [SV.int .i64 (↑t.snd.2.1 : Int)] (nat_lit 0)), EV.loc (nat_lit 1005) (nat_lit 0), EV.p (SV.ref [SV.int .i64 (↑t.snd.snd.2.1.n : Int)] (nat_lit 0)), EV.loc (nat_lit 1007)
 (nat_lit 0)] ∧ (((t.1.n ≤ t.snd.2.1 ∧ (1 : Nat) ≤ t.snd.2.1 ∧ t.snd.2.1 ≤ (1000 : Nat)) ∧ (t.2.1 ≤ t.snd.snd.2.1.n ∧ t.snd.snd.2.1.n ≤ (1000 : Nat)) ∧ L.nrms t.snd.snd.2.1 ∧ L.within0 t.1 t.snd.snd.2.1.n) ∧ t.snd.2.1 - t.1.n < rn) ∧ ∀ (u : Nat), True → ((!L.isNo (L.grp t.snd.snd.2.1 (t.snd.2.1 - t.1.n) t.1 t.2.1)) = true → ∃ (u : Nat), false = L.isNo (L.grp N (k - l.n) l fr) ∧ ((L.orB
 (L.grp t.snd.snd.2.1 (t.snd.2.1 - t.1.n) t.1 t.2.1) t.snd.snd.2.2).n = (L.orB (L.grp N (k - l.n) l fr) b).n ∧ ∀ (i : Nat), i < (L.orB (L.grp t.snd.snd.2.1 (t.snd.2.1 - t.1.n) t.1 t.2.1) t.snd.snd.2.2).n → [SV.int .i64 ((L.orB (L.grp t.snd.snd.2.1 (t.snd.2.1 - t.1.n) t.1 t.2.1) t.snd.snd.2.2).g i)] = [SV.int .i64 ((L.orB (L.grp N (k - l.n) l fr) b).g i)]) ∧
 EV.cl (nat_lit 29) [EV.p (SV.ref [SV.sl (nat_lit 2) t.snd.snd.2.1.n fun (i : Nat) ↦ [SV.int .i64 (t.snd.snd.2.1.g i).x, SV.int .i64 (t.snd.snd.2.1.g i).y]] (nat_lit 0)), EV.loc (1003 : Nat) (nat_lit 0)] = EV.cl (29 : Nat) [EV.p (SV.ref [SV.sl (2 : Nat) N.n fun (i : Nat) ↦ [SV.int .i64 (N.g i).x,
 SV.int .i64 (N.g i).y]] (0 : Nat)), EV.loc (1003 : Nat) (0 : Nat)] ∧ EV.cl (nat_lit 54) [EV.p (SV.ref [SV.int .i64 (↑t.snd.2.1 : Int)] (nat_lit 0)), EV.loc (1005 : Nat) (nat_lit 0), EV.p (SV.ref [SV.int .i64 (↑t.snd.snd.2.1.n : Int)] (nat_lit 0)), EV.loc (1007 : Nat) (nat_lit 0)] = EV.cl (54 :
 Nat) [EV.p (SV.ref [SV.int .i64 (↑k : Int)] (0 : Nat)), EV.loc (1005 : Nat) (0 : Nat), EV.p (SV.ref [SV.int .i64 (↑N.n : Int)] (0 : Nat)), EV.loc (1007 : Nat) (0 : Nat)] ∧ True) ∧ ((!L.isNo (L.grp t.snd.snd.2.1 (t.snd.2.1 - t.1.n) t.1 t.2.1)) = false → InK .i64 ((↑(fr + g) : Int) + (1 : Int)) ∧ ∃ (g' : Nat),
 (↑(fr + g) : Int) + (1 : Int) = (↑(fr + g') : Int) ∧ false = false ∧ (l.n = l.n ∧ ∀ (i : Nat), i < l.n → [SV.int .i64 (l.g i)] = [SV.int .i64 (l.g i)]) ∧ (↑fr : Int) = (↑fr : Int) ∧ SV.ref [SV.int .i64 (↑k : Int)] (nat_lit 0) = SV.ref [SV.int .i64 (↑k : Int)] (nat_lit 0) ∧ nat_lit 0 = nat_lit 0 ∧ SV.ref
 [SV.int .i64 (↑N.n : Int)] (nat_lit 0) = SV.ref [SV.int .i64 (↑N.n : Int)] (nat_lit 0) ∧ nat_lit 0 = nat_lit 0 ∧ ((L.orB (L.grp t.snd.snd.2.1 (t.snd.2.1 - t.1.n) t.1 t.2.1) t.snd.snd.2.2).n = b.n ∧ ∀ (i : Nat), i < (L.orB (L.grp t.snd.snd.2.1 (t.snd.2.1 - t.1.n) t.1 t.2.1) t.snd.snd.2.2).n → [SV.int .i64 ((L.orB (L.grp t.snd.snd.2.1 (t.snd.2.1
 - t.1.n) t.1 t.2.1) t.snd.snd.2.2).g i)] = [SV.int .i64 (b.g i)]) ∧ EV.cl (nat_lit 29) [EV.p (SV.ref [SV.sl (nat_lit 2) t.snd.snd.2.1.n fun (i : Nat) ↦ [SV.int .i64 (t.snd.snd.2.1.g i).x, SV.int .i64 (t.snd.snd.2.1.g i).y]] (nat_lit 0)), EV.loc (1003 : Nat) (nat_lit 0)] = EV.cl (nat_lit 29) [EV.p
 (SV.ref [SV.sl (nat_lit 2) N.n fun (i : Nat) ↦ [SV.int .i64 (N.g i).x, SV.int .i64 (N.g i).y]] (nat_lit 0)), EV.loc (nat_lit 1003) (nat_lit 0)] ∧ EV.cl (nat_lit 54) [EV.p (SV.ref [SV.int .i64 (↑t.snd.2.1 : Int)] (nat_lit 0)), EV.loc (1005 : Nat) (nat_lit 0), EV.p (SV.ref [SV.int
 .i64 (↑t.snd.snd.2.1.n : Int)] (nat_lit 0)), EV.loc (1007 : Nat) (nat_lit 0)] = EV.cl (nat_lit 54) [EV.p (SV.ref [SV.int .i64 (↑k : Int)] (nat_lit 0)), EV.loc (nat_lit 1005) (nat_lit 0), EV.p (SV.ref [SV.int .i64 (↑N.n : Int)] (nat_lit 0)), EV.loc (nat_lit 1007) (nat_lit 0)] ∧ (fr + g' ≤ N.n ∧ ∀ (c : Nat), c
 < g' → L.isNo (L.grp N (k - l.n - (1 : Nat)) (L.snoc l (↑(fr + c) : Int)) (fr + c + (1 : Nat))) = true) ∧ N.n - (fr + g') < N.n - (fr + g))) ∧ (decide ((↑(fr + g) : Int) < (↑N.n : Int)) = false → ∃ (u : Nat), true = L.isNo (L.grp N (k - l.n) l fr) ∧ (b.n = (L.orB (L.grp N (k - l.n) l fr) b).n ∧ ∀ (i : Nat), i < b.n → [SV.int .i64 (b.g i)] = [SV.int
 .i64 ((L.orB (L.grp N (k - l.n) l fr) b).g i)]) ∧ EV.cl (nat_lit 29) [EV.p (SV.ref [SV.sl (nat_lit 2) N.n fun (i : Nat) ↦ [SV.int .i64 (N.g i).x, SV.int .i64 (N.g i).y]] (nat_lit 0)), EV.loc (nat_lit 1003) (nat_lit 0)] = EV.cl (29 : Nat) [EV.p (SV.ref [SV.sl (2 : Nat) N.n fun (i : Nat) ↦ [SV.int
 .i64 (N.g i).x, SV.int .i64 (N.g i).y]] (0 : Nat)), EV.loc (1003 : Nat) (0 : Nat)] ∧ EV.cl (nat_lit 54) [EV.p (SV.ref [SV.int .i64 (↑k : Int)] (nat_lit 0)), EV.loc (nat_lit 1005) (nat_lit 0), EV.p (SV.ref [SV.int .i64 (↑N.n : Int)] (nat_lit 0)), EV.loc (nat_lit 1007) (nat_lit 0)] = EV.cl
 (54 : Nat) [EV.p (SV.ref [SV.int .i64 (↑k : Int)] (0 : Nat)), EV.loc (1005 : Nat) (0 : Nat), EV.p (SV.ref [SV.int .i64 (↑N.n : Int)] (0 : Nat)), EV.loc (1007 : Nat) (0 : Nat)] ∧ True))) (by kernel_rfl) (by
    have hp : (l.n ≤ k ∧ 1 ≤ k ∧ k ≤ 1000) ∧ (fr ≤ N.n ∧ N.n ≤ 1000) ∧ L.nrms N ∧ L.within0 l N.n := hp
    obtain ⟨⟨k1, k2, k3⟩, ⟨f1, f2⟩, hN, hw⟩ := hp
    have hmu : k - l.n < rn + 1 := hmu
    refine ⟨fun he => ?_, fun hne => ?_⟩
    · have he : ((l.n : Nat) : Int) = (k : Int) := of_decide_eq_true he
      have e0 : k - l.n = 0 := by omega
      have hR : L.isNo (L.grp N (k - l.n) l fr) = L.wayOk (L.pck N l) := by
        rw [e0, L.grp]; cases L.wayOk (L.pck N l) <;> rfl
      have hA : L.orB (L.grp N (k - l.n) l fr) b = L.aft N l b := by
        rw [e0, L.grp]; unfold L.aft; cases L.wayOk (L.pck N l) <;> rfl
      rw [hR, hA]
      exact ⟨(l, N, b), ⟨rfl, fun _ _ => rfl⟩, rfl, rfl, ⟨rfl, fun _ _ => rfl⟩, ⟨by show 1 ≤ l.n; omega, by show l.n ≤ 1000; omega, hN, hw⟩, fun u _ => ⟨(0 : Nat), rfl, ⟨rfl, fun _ _ => rfl⟩, rfl, rfl, trivial⟩⟩
    · have hne : ¬ ((l.n : Nat) : Int) = (k : Int) := of_decide_eq_false hne
      have hG : L.grp N (k - l.n) l fr = L.first (fun j => L.grp N (k - l.n - 1) (L.snoc l ((fr + j : Nat) : Int)) (fr + j + 1)) (N.n - fr) := by
        obtain ⟨d, hd⟩ : ∃ d, k - l.n = d + 1 := ⟨k - l.n - 1, by omega⟩
        rw [hd]; rfl
      rw [hG]
      refine ⟨⟨(0 : Nat), rfl, f1, fun c hc => absurd hc (Nat.not_lt_zero _)⟩, fun g hg => ⟨fun hlt => ?_, fun hge => ?_⟩⟩
      · obtain ⟨g1, g2⟩ := hg
        have hb : ((fr + g : Nat) : Int) < (N.n : Int) := of_decide_eq_true hlt
        have e1 : ((l.n : Nat) : Int).toNat = l.n := by omega
        have none : ∀ c, c < g → L.grp N (k - l.n - 1) (L.snoc l ((fr + c : Nat) : Int)) (fr + c + 1) = none := fun c hc => isNo_none (g2 c hc)
        rw [e1]
        refine ⟨⟨by omega, by omega, rfl⟩, ⟨by decide, show (l.n + 1) * 8 ≤ 140737488355328 by omega⟩, InK.of (by omega) (by omega), (L.snoc l ((fr + g : Nat) : Int), fr + g + 1, k, N, b), ⟨rfl, fun i hi => ?_⟩, by show ((fr + g : Nat) : Int) + 1 = ((fr + g + 1 : Nat) : Int); omega, rfl, rfl, rfl, rfl, ⟨rfl, fun _ _ => rfl⟩, rfl, rfl, ⟨⟨⟨by show l.n + 1 ≤ k; omega, k2, k3⟩, ⟨by show fr + g + 1 ≤ N.n; omega, f2⟩, hN, snoc_within hw (by omega) hb⟩, by show k - (l.n + 1) < rn; omega⟩, fun u _ => ?_⟩
        · have hi : i < l.n + 1 := hi
          show appGet l.n _ _ i = [SV.int .i64 (bif decide (i < l.n) then l.g i else ((fr + g : Nat) : Int))]
          unfold appGet
          by_cases h' : i < l.n
          · rw [if_pos h', decide_eq_true h']; rfl
          · rw [if_neg h', decide_eq_false h']; rfl
        · have hF : L.grp N (k - (L.snoc l ((fr + g : Nat) : Int)).n) (L.snoc l ((fr + g : Nat) : Int)) (fr + g + 1) = L.grp N (k - l.n - 1) (L.snoc l ((fr + g : Nat) : Int)) (fr + g + 1) := rfl
          dsimp only
          rw [hF]
          refine ⟨fun hc => ?_, fun hc => ?_⟩
          · have hc : L.isNo (L.grp N (k - l.n - 1) (L.snoc l ((fr + g : Nat) : Int)) (fr + g + 1)) = false := by simpa using (show (!L.isNo (L.grp N (k - l.n - 1) (L.snoc l ((fr + g : Nat) : Int)) (fr + g + 1))) = true from hc)
            obtain ⟨x, hx⟩ := isNo_some hc
            have hf := first_at (f := fun j => L.grp N (k - l.n - 1) (L.snoc l ((fr + j : Nat) : Int)) (fr + j + 1)) none hx (c := N.n - fr) (by omega)
            rw [hf, hx]
            exact ⟨(0 : Nat), rfl, ⟨rfl, fun _ _ => rfl⟩, rfl, rfl, trivial⟩
          · have hc : L.isNo (L.grp N (k - l.n - 1) (L.snoc l ((fr + g : Nat) : Int)) (fr + g + 1)) = true := by simpa using (show (!L.isNo (L.grp N (k - l.n - 1) (L.snoc l ((fr + g : Nat) : Int)) (fr + g + 1))) = false from hc)
            have hx := isNo_none hc
            rw [hx]
            refine ⟨InK.of (by omega) (by omega), g + 1, by omega, rfl, ⟨rfl, fun _ _ => rfl⟩, rfl, rfl, rfl, rfl, rfl, ⟨rfl, fun _ _ => rfl⟩, rfl, rfl, ⟨by omega, fun c hcc => ?_⟩, by omega⟩
            rcases Nat.lt_succ_iff_lt_or_eq.1 hcc with h | rfl
            · exact g2 c h
            · exact hc
      · obtain ⟨g1, g2⟩ := hg
        have hb : ¬ ((fr + g : Nat) : Int) < (N.n : Int) := of_decide_eq_false hge
        have hf : L.first (fun j => L.grp N (k - l.n - 1) (L.snoc l ((fr + j : Nat) : Int)) (fr + j + 1)) (N.n - fr) = none := first_none (fun j hj => isNo_none (g2 j (by omega)))
        rw [hf]
        exact ⟨(0 : Nat), rfl, ⟨rfl, fun _ _ => rfl⟩, rfl, rfl, trivial⟩)
theorem p_more_en : Enters Try.prog 54 := fun args w => by kernel_rfl
theorem p_more_tok : TrOk Try.prog 54 p_more_tr := tr_rec p_more_mu (fun t u => rfl) (fun rn ih => tr_ok (ks := [1003, 1005, 1007]) (n := 6) Try.func54 (c := bodyOf Try.f54) (by kernel_rfl) mixed ⟨fun t => rfl, fun t => rfl, fun t u => rfl, fun t u => rfl, fun t u => rfl, by kernel_rfl⟩ (fun ⟨l, fr, k, N, b⟩ hp => ⟨_, p_more_vc rn l fr k N b hp.1 hp.2, ⟨show SpecsL Try.prog _ from SpecsL.nil, rfl, ⟨show ItersL Try.prog _ from ItersL.nil, (show TrsL Try.prog _ from (TrsL.cons p_exit2_tok p_exit2_en (TrsL.cons ih p_more_en TrsL.nil)))⟩⟩⟩))
abbrev p_groups_tr : Tr := { T := (Nat) × (L.Sq L.Pt) × (L.Sq Int), U := Nat, args := fun t => (fun k N b => [.p (.int .i64 (N.n : Int)), .p (.int .i64 (k : Int)), .cl 29 [.p (.ref [(.sl 2 N.n (fun i => [.int .i64 ((N.g i).x), .int .i64 ((N.g i).y)]))] 0), .loc 1003 0]]) t.1 t.2.1 t.2.2, own := fun t => (fun k N b => [(1003, .blk 26 [.full false 1 (b).n (fun i => [.int .i64 ((b).g i)])])]) t.1 t.2.1 t.2.2, pre := fun t => (fun k N b => (1 ≤ k ∧ k ≤ 1000) ∧ N.n ≤ 1000 ∧ L.nrms N) t.1 t.2.1 t.2.2, post := fun t u => (fun k N b => fun u => True) t.1 t.2.1 t.2.2 u, own' := fun t u => (fun k N b => fun u => [(1003, .blk 26 [.full false 1 (L.orB (L.grp N k L.nilI 0) b).n (fun i => [.int .i64 ((L.orB (L.grp N k L.nilI 0) b).g i)])])]) t.1 t.2.1 t.2.2 u, res := fun t u => (fun k N b => fun u => .p (.bool (L.isNo (L.grp N k L.nilI 0)))) t.1 t.2.1 t.2.2 u }
theorem p_groups_vc (k : Nat) (N : L.Sq L.Pt) (b : L.Sq Int) (hp : p_groups_tr.pre (k, N, b)) : vc Try.prog ({ muts := [5, 7], frz := lookN [], specs := lookS [], loops := lookL [], iters := lookI [], rfs := lookR [], nils := lookM [], trs := lookT [(54, p_more_tr)], ren := fun k => bif k == 1003 then 1003 else k - 1000 }) (bodyOf Try.f28) (stTr Try.f28 (p_groups_tr.args (k, N, b)) (p_groups_tr.own (k, N, b))) (retTr Try.prog Try.f28 p_groups_tr (k, N, b)) :=
  @Eq.mpr _ (∃ (t : L.Sq Int × Nat × Nat × L.Sq L.Pt × L.Sq Int), t.1.n = (0 : Nat) ∧ (0 : Int) = (↑t.2.1 : Int) ∧ SV.ref [SV.int .i64 (↑k : Int)] (nat_lit 0) = SV.ref [SV.int .i64 (↑t.snd.2.1 : Int)] (0 : Nat) ∧ nat_lit 0 = (0 : Nat) ∧ SV.ref [SV.int .i64 (↑N.n : Int)] (nat_lit 0) = SV.ref [SV.int .i64 (↑t.snd.snd.2.1.n :
 Int)] (0 : Nat) ∧ nat_lit 0 = (0 : Nat) ∧ (b.n = t.snd.snd.2.2.n ∧ ∀ (i : Nat), i < b.n → [SV.int .i64 (b.g i)] = [SV.int .i64 (t.snd.snd.2.2.g i)]) ∧ EV.cl (nat_lit 29) [EV.p (SV.ref [SV.sl (nat_lit 2) N.n fun (i : Nat) ↦ [SV.int .i64 (N.g i).x, SV.int .i64 (N.g i).y]] (nat_lit 0)), EV.loc (nat_lit 1003)
 (nat_lit 0)] = EV.cl (29 : Nat) [EV.p (SV.ref [SV.sl (nat_lit 2) t.snd.snd.2.1.n fun (i : Nat) ↦ [SV.int .i64 (t.snd.snd.2.1.g i).x, SV.int .i64 (t.snd.snd.2.1.g i).y]] (nat_lit 0)), EV.loc (bif nat_lit 1003 == (1003 : Nat) then (1003 : Nat) else nat_lit 1003 - (1000 : Nat)) (nat_lit 0)] ∧ EV.cl (nat_lit 54) [EV.p
 (SV.ref [SV.int .i64 (↑k : Int)] (nat_lit 0)), EV.loc (nat_lit 5) (nat_lit 0), EV.p (SV.ref [SV.int .i64 (↑N.n : Int)] (nat_lit 0)), EV.loc (nat_lit 7) (nat_lit 0)] = EV.cl (54 : Nat) [EV.p (SV.ref [SV.int .i64 (↑t.snd.2.1 : Int)] (nat_lit 0)), EV.loc (bif nat_lit 1005 == (1003 : Nat) then (1003 :
 Nat) else nat_lit 1005 - (1000 : Nat)) (nat_lit 0), EV.p (SV.ref [SV.int .i64 (↑t.snd.snd.2.1.n : Int)] (nat_lit 0)), EV.loc (bif nat_lit 1007 == (1003 : Nat) then (1003 : Nat) else nat_lit 1007 - (1000 : Nat)) (nat_lit 0)] ∧ ((t.1.n ≤ t.snd.2.1 ∧ (1 : Nat) ≤ t.snd.2.1 ∧ t.snd.2.1 ≤ (1000 : Nat)) ∧ (t.2.1 ≤ t.snd.snd.2.1.n ∧ t.snd.snd.2.1.n ≤ (1000 : Nat)) ∧
 L.nrms t.snd.snd.2.1 ∧ L.within0 t.1 t.snd.snd.2.1.n) ∧ ∀ (u : Nat), True → ∃ (u : Nat), L.isNo (L.grp t.snd.snd.2.1 (t.snd.2.1 - t.1.n) t.1 t.2.1) = L.isNo (L.grp N k L.nilI (0 : Nat)) ∧ ((L.orB (L.grp t.snd.snd.2.1 (t.snd.2.1 - t.1.n) t.1 t.2.1) t.snd.snd.2.2).n = (L.orB (L.grp N k L.nilI (0 : Nat)) b).n ∧ ∀ (i : Nat), i < (L.orB (L.grp t.snd.snd.2.1 (t.snd.2.1 - t.1.n) t.1 t.2.1)
 t.snd.snd.2.2).n → [SV.int .i64 ((L.orB (L.grp t.snd.snd.2.1 (t.snd.2.1 - t.1.n) t.1 t.2.1) t.snd.snd.2.2).g i)] = [SV.int .i64 ((L.orB (L.grp N k L.nilI (0 : Nat)) b).g i)]) ∧ True) (by kernel_rfl) (by
    have hp : (1 ≤ k ∧ k ≤ 1000) ∧ N.n ≤ 1000 ∧ L.nrms N := hp
    obtain ⟨⟨k1, k2⟩, hn, hN⟩ := hp
    exact ⟨(L.nilI, 0, k, N, b), rfl, rfl, rfl, rfl, rfl, rfl, ⟨rfl, fun _ _ => rfl⟩, rfl, rfl, ⟨⟨Nat.zero_le _, k1, k2⟩, ⟨Nat.zero_le _, hn⟩, hN, fun i hi => absurd hi (Nat.not_lt_zero _)⟩, fun u _ => ⟨(0 : Nat), rfl, ⟨rfl, fun _ _ => rfl⟩, trivial⟩⟩)
theorem p_groups_en : Enters Try.prog 28 := fun args w => by kernel_rfl
theorem p_groups_tok : TrOk Try.prog 28 p_groups_tr := tr_ok (ks := [1003]) (n := 3) Try.func28 (c := bodyOf Try.f28) (by kernel_rfl) mixed ⟨fun t => rfl, fun t => rfl, fun t u => rfl, fun t u => rfl, fun t u => rfl, by kernel_rfl⟩ (fun ⟨k, N, b⟩ hp => ⟨_, p_groups_vc k N b hp, ⟨show SpecsL Try.prog _ from SpecsL.nil, rfl, ⟨show ItersL Try.prog _ from ItersL.nil, (show TrsL Try.prog _ from (TrsL.cons p_more_tok p_more_en TrsL.nil))⟩⟩⟩)
def p_Exit_p (l : (L.Sq L.Pt)) : Prop := l.n ≤ 9223372036854775807 ∧ (L.exBad l = false → L.wayOk l = false → L.isNo (L.first (L.exF l) 22) = false)
def p_Exit_r (l : (L.Sq L.Pt)) : SV := .tup [.agg [.int .i64 (L.exD l).x, .int .i64 (L.exD l).y], .sl 1 (L.exN l) (fun i => [.int .i64 ((L.exL l).g i)]), .int .i64 (L.exE l)]
def p_Exit_s : List EV → Option (Prop × SV)
  | [.p (.sl 2 l_n l_g)] => some ((∀ i, i < l_n → l_g i = [.int .i64 ((ofPt (l_g i)).x), .int .i64 ((ofPt (l_g i)).y)]) ∧ p_Exit_p (⟨l_n, fun i => ofPt (l_g i)⟩ : (L.Sq L.Pt)), p_Exit_r (⟨l_n, fun i => ofPt (l_g i)⟩ : (L.Sq L.Pt)))
  | _ => none
abbrev p_Exit_S : SE.Spec := (specO p_Exit_s)
def p_Exit_C : Cfg := { muts := [2, 3, 6], frz := lookN [], specs := lookS [(26, s_conFP_S), (24, p_bad_S), (27, p_way_S)], loops := fun _ => none, iters := lookI [], rfs := lookR [], nils := lookM [], anys := [11], trs := lookT [(28, p_groups_tr)], ren := fun k => k - 1000 }
theorem p_Exit_vc (l : (L.Sq L.Pt)) (hp : p_Exit_p l) : vc Try.prog ({ p_Exit_C with loops := lookL [(8, { T := Nat, keep := [1, 2, 3], keepO := [2], chg := fun j => [(8, .p (.int .i64 ((3 + j : Nat) : Int)))], own := fun j => [(3, .blk 26 [.full false 1 (L.orB (L.first (L.exF l) j) L.nilI).n (fun i => [.int .i64 ((L.orB (L.first (L.exF l) j) L.nilI).g i)])])], inv := fun j => j ≤ 22, mu := fun j => 23 - j })], rfs := lookR [] }) (bodyOf Try.f8) (st0 Try.f8 [.p (.sl 2 l.n (fun i => [.int .i64 ((l.g i).x), .int .i64 ((l.g i).y)]))]) (retFn Try.prog Try.f8 (p_Exit_r l)) :=
  @Eq.mpr _ (((!decide ((24 : Int) < (↑l.n : Int))) = true → (∀ (i : Nat), i < l.n → [SV.int .i64 (l.g i).x, SV.int .i64 (l.g i).y] = [SV.int .i64 (l.g i).x, SV.int .i64 (l.g i).y]) ∧ isB (FSpec.mk (fun («as» : List SV) ↦ preO p_bad_s (List.map EV.p «as» ++ List.map EV.p [])) fun («as» : List
 SV) ↦ resO p_bad_s (List.map EV.p «as» ++ List.map EV.p [])) ∧ l.n ≤ (1000000 : Nat) ∧ ∀ (i : Nat), i < l.n → True) ∧ ((bif decide ((24 : Int) < (↑l.n : Int)) then true else L.anyB l.n fun (i : Nat) ↦ L.fbl (FSpec.mk (fun («as» : List SV) ↦ preO p_bad_s (List.map EV.p «as» ++ List.map EV.p [])) fun («as» : List SV) ↦
 resO p_bad_s (List.map EV.p «as» ++ List.map EV.p [])) [SV.agg [SV.int .i64 (l.g i).x, SV.int .i64 (l.g i).y]]) = true → SV.agg [SV.int .i64 (0 : Int), SV.int .i64 (0 : Int)] = SV.agg [SV.int .i64 (L.exD l).x, SV.int .i64 (L.exD l).y] ∧ L.exN l = (0 : Nat) ∧ (1 :
 Int) = L.exE l) ∧ ((bif decide ((24 : Int) < (↑l.n : Int)) then true else L.anyB l.n fun (i : Nat) ↦ L.fbl (FSpec.mk (fun («as» : List SV) ↦ preO p_bad_s (List.map EV.p «as» ++ List.map EV.p [])) fun («as» : List SV) ↦ resO p_bad_s (List.map EV.p «as» ++ List.map EV.p [])) [SV.agg [SV.int .i64 (l.g i).x,
 SV.int .i64 (l.g i).y]]) = false → ((∀ (i : Nat), i < l.n → [SV.int .i64 (l.g i).x, SV.int .i64 (l.g i).y] = [SV.int .i64 (l.g i).x, SV.int .i64 (l.g i).y]) ∧ L.nrms (L.Sq.mk l.n fun (i : Nat) ↦ l.g i)) ∧ (L.wayOk (L.Sq.mk l.n fun (i : Nat) ↦ l.g i) = true → SV.agg [SV.int .i64 (L.wayD
 (L.Sq.mk l.n fun (i : Nat) ↦ l.g i)).x, SV.int .i64 (L.wayD (L.Sq.mk l.n fun (i : Nat) ↦ l.g i)).y] = SV.agg [SV.int .i64 (L.exD l).x, SV.int .i64 (L.exD l).y] ∧ L.exN l = (0 : Nat) ∧ (0 : Int) = L.exE l) ∧ (L.wayOk (L.Sq.mk l.n fun (i : Nat) ↦ l.g i) = false → (∃ (g : Nat), (3 : Int) = (↑((3 : Nat) + g) : Int) ∧ (L.orB (L.first (L.exF l)
 g) L.nilI).n = (0 : Nat) ∧ g ≤ (22 : Nat)) ∧ ∀ (g : Nat), g ≤ (22 : Nat) → ((bif false then !decide ((L.orB (L.first (L.exF l) g) L.nilI).n = (0 : Nat)) else decide ((L.orB (L.first (L.exF l) g) L.nilI).n = (0 : Nat))) = true → ∃ (t : Nat × L.Sq L.Pt × L.Sq Int), (↑l.n : Int) = (↑t.2.1.n : Int) ∧ (↑((3 : Nat) + g) : Int) = (↑t.1 : Int) ∧ EV.cl (nat_lit 29)
 [EV.p (SV.ref [SV.sl (nat_lit 2) l.n fun (i : Nat) ↦ [SV.int .i64 (l.g i).x, SV.int .i64 (l.g i).y]] (nat_lit 0)), EV.loc (nat_lit 3) (nat_lit 0)] = EV.cl (29 : Nat) [EV.p (SV.ref [SV.sl (nat_lit 2) t.2.1.n fun (i : Nat) ↦ [SV.int .i64 (t.2.1.g i).x, SV.int .i64 (t.2.1.g i).y]] (nat_lit
 0)), EV.loc (nat_lit 1003 - (1000 : Nat)) (nat_lit 0)] ∧ ((L.orB (L.first (L.exF l) g) L.nilI).n = t.2.2.n ∧ ∀ (i : Nat), i < (L.orB (L.first (L.exF l) g) L.nilI).n → [SV.int .i64 ((L.orB (L.first (L.exF l) g) L.nilI).g i)] = [SV.int .i64 (t.2.2.g i)]) ∧ (((1 : Nat) ≤ t.1 ∧ t.1 ≤ (1000 : Nat)) ∧ t.2.1.n ≤ (1000 : Nat) ∧ L.nrms t.2.1) ∧ ∀ (u : Nat), True →
 InK .i64 ((↑((3 : Nat) + g) : Int) + (1 : Int)) ∧ ∃ (g' : Nat), (↑((3 : Nat) + g) : Int) + (1 : Int) = (↑((3 : Nat) + g') : Int) ∧ nat_lit 0 = nat_lit 0 ∧ nat_lit 0 = nat_lit 0 ∧ SV.ref [SV.sl (nat_lit 2) l.n fun (i : Nat) ↦ [SV.int .i64 (l.g i).x, SV.int .i64 (l.g i).y]] (nat_lit 0) = SV.ref [SV.sl (nat_lit 2) l.n fun (i :
 Nat) ↦ [SV.int .i64 (l.g i).x, SV.int .i64 (l.g i).y]] (nat_lit 0) ∧ ((L.orB (L.grp t.2.1 t.1 L.nilI (0 : Nat)) t.2.2).n = (L.orB (L.first (L.exF l) g') L.nilI).n ∧ ∀ (i : Nat), i < (L.orB (L.grp t.2.1 t.1 L.nilI (0 : Nat)) t.2.2).n → [SV.int .i64 ((L.orB (L.grp t.2.1 t.1 L.nilI (0 : Nat)) t.2.2).g i)] = [SV.int .i64 ((L.orB (L.first
 (L.exF l) g') L.nilI).g i)]) ∧ (0 : Int) = (0 : Int) ∧ (0 : Int) = (0 : Int) ∧ g' ≤ (22 : Nat) ∧ (23 : Nat) - g' < (23 : Nat) - g) ∧ ((bif false then !decide ((L.orB (L.first (L.exF l) g) L.nilI).n = (0 : Nat)) else decide ((L.orB (L.first (L.exF l) g) L.nilI).n = (0 : Nat))) = false → ((SV.agg [SV.int .i64 (0 : Int), SV.int .i64
 (0 : Int)] = SV.agg [SV.int .i64 (L.exD l).x, SV.int .i64 (L.exD l).y] ∧ ((L.orB (L.first (L.exF l) g) L.nilI).n = L.exN l ∧ ∀ (i : Nat), i < (L.orB (L.first (L.exF l) g) L.nilI).n → [SV.int .i64 ((L.orB (L.first (L.exF l) g) L.nilI).g i)] = [SV.int .i64 ((L.exL l).g i)]) ∧ (13 : Int) = L.exE l) ∧ SV.agg [SV.int
 .i64 (0 : Int), SV.int .i64 (0 : Int)] = SV.agg [SV.int .i64 (L.exD l).x, SV.int .i64 (L.exD l).y] ∧ ((L.orB (L.first (L.exF l) g) L.nilI).n = L.exN l ∧ ∀ (i : Nat), i < (L.orB (L.first (L.exF l) g) L.nilI).n → [SV.int .i64 ((L.orB (L.first (L.exF l) g) L.nilI).g i)] = [SV.int .i64 ((L.exL l).g i)]) ∧
 (13 : Int) = L.exE l) ∧ SV.agg [SV.int .i64 (0 : Int), SV.int .i64 (0 : Int)] = SV.agg [SV.int .i64 (L.exD l).x, SV.int .i64 (L.exD l).y] ∧ ((L.orB (L.first (L.exF l) g) L.nilI).n = L.exN l ∧ ∀ (i : Nat), i < (L.orB (L.first (L.exF l) g) L.nilI).n → [SV.int .i64 ((L.orB (L.first (L.exF l) g) L.nilI).g i)] =
 [SV.int .i64 ((L.exL l).g i)]) ∧ (13 : Int) = L.exE l)))) (by kernel_rfl) (by
    obtain ⟨hn, hex⟩ := hp
    refine ⟨fun h0 => ⟨fun _ _ => rfl, isB_of p_bad_B _, by have := of_decide_eq_false (notT h0); omega, fun _ _ => trivial⟩, fun h => ?_, fun h => ?_⟩
    · have hb : L.exBad l = true := h
      unfold L.exD L.exN L.exE
      rw [hb]; exact ⟨rfl, rfl, rfl⟩
    have hb : L.exBad l = false := h
    obtain ⟨h24, hN⟩ := exBad_false hb
    refine ⟨⟨fun _ _ => rfl, hN⟩, fun hw => ?_, fun hw => ?_⟩
    · unfold L.exD L.exN L.exE
      rw [hb, hw]; exact ⟨rfl, rfl, rfl⟩
    have hsm := hex hb hw
    have hD : L.exD l = ⟨0, 0⟩ := by unfold L.exD; rw [hb]; exact wayD_no hw
    have hE : L.exE l = 13 := by unfold L.exE; rw [hb, hw]; rfl
    have hNn : L.exN l = (L.exL l).n := by unfold L.exN; rw [hb, hw]; rfl
    refine ⟨⟨(0 : Nat), rfl, rfl, Nat.zero_le _⟩, fun g hg => ⟨fun hc => ?_, fun hc => ?_⟩⟩
    · have hc : (L.orB (L.first (L.exF l) g) L.nilI).n = 0 := of_decide_eq_true hc
      have hno : L.first (L.exF l) g = none := by
        cases hf : L.first (L.exF l) g with
        | none => rfl
        | some x =>
          rw [hf] at hc
          have hc : x.n = 0 := hc
          obtain ⟨j, _, hj, _⟩ := first_some hf
          have : x.n = 0 + (3 + j) := grp_len hj
          omega
      have hg22 : g ≠ 22 := fun e => by
        rw [e] at hno; rw [hno] at hsm; cases hsm
      have e1 : L.first (L.exF l) (g + 1) = L.exF l g := by rw [L.first, hno]
      refine ⟨(3 + g, l, L.orB (L.first (L.exF l) g) L.nilI), rfl, rfl, rfl, ⟨rfl, fun _ _ => rfl⟩, ⟨⟨by show 1 ≤ 3 + g; omega, by show 3 + g ≤ 1000; omega⟩, by show l.n ≤ 1000; omega, hN⟩, fun u _ => ⟨InK.of (by omega) (by omega), g + 1, by omega, rfl, rfl, rfl, ?_, rfl, rfl, by omega, by omega⟩⟩
      rw [e1, hno]
      exact ⟨rfl, fun _ _ => rfl⟩
    · have hc : ¬ (L.orB (L.first (L.exF l) g) L.nilI).n = 0 := of_decide_eq_false hc
      have hsom : L.orB (L.first (L.exF l) g) L.nilI = L.exL l := by
        cases hf : L.first (L.exF l) g with
        | none => rw [hf] at hc; exact absurd rfl hc
        | some x =>
          unfold L.exL
          rw [first_mono hf hg]
      rw [hsom, hD, hE, hNn]
      exact ⟨⟨⟨rfl, ⟨rfl, fun _ _ => rfl⟩, rfl⟩, ⟨rfl, ⟨rfl, fun _ _ => rfl⟩, rfl⟩⟩, ⟨rfl, ⟨rfl, fun _ _ => rfl⟩, rfl⟩⟩)
theorem p_Exit_ok : SpecOk Try.prog 8 p_Exit_S := fnX Try.func8 (c := bodyOf Try.f8) (by kernel_rfl) mixed (fun args p r hs hp => by
  unfold p_Exit_s at hs
  split at hs
  · cases hs; exact ⟨_, _, p_Exit_vc _ hp.2, (.p (.sl hp.1) .nil), ⟨show SpecsL Try.prog _ from (SpecsL.cons s_conFP_ok s_conFP_en (SpecsL.cons p_bad_ok p_bad_en (SpecsL.cons p_way_ok p_way_en SpecsL.nil))), rfl, ⟨show ItersL Try.prog _ from ItersL.nil, (show TrsL Try.prog _ from (TrsL.cons p_groups_tok p_groups_en TrsL.nil))⟩⟩⟩
  · cases hs)
theorem p_Exit_en : Enters Try.prog 8 := fun args w => by kernel_rfl
end Go.Proofs.Ytdlhpdidgfgomaa

namespace Go.Proofs.Ytdlhpdidgfgomaa
open Go.SE Go.RowKit
set_option maxRecDepth 100000
set_option maxHeartbeats 4000000
set_option linter.unusedVariables false
attribute [local irreducible] vc

def p_Area_p (l : (L.Sq L.Pt)) : Prop := l.n ≤ 1000000
def p_Area_r (l : (L.Sq L.Pt)) : SV := .tup [.int .i64 (bif L.validOutline l then L.areaTo l l.n else 0), .int .i64 (bif L.validOutline l then 0 else 1)]
def p_Area_s : List EV → Option (Prop × SV)
  | [.p (.sl 2 l_n l_g)] => some ((∀ i, i < l_n → l_g i = [.int .i64 ((ofPt (l_g i)).x), .int .i64 ((ofPt (l_g i)).y)]) ∧ p_Area_p (⟨l_n, fun i => ofPt (l_g i)⟩ : (L.Sq L.Pt)), p_Area_r (⟨l_n, fun i => ofPt (l_g i)⟩ : (L.Sq L.Pt)))
  | _ => none
abbrev p_Area_S : SE.Spec := (specO p_Area_s)
def p_Area_C : Cfg := { muts := [], frz := lookN [], specs := lookS [(16, p_ValidOutline_S), (41, p_area_S)], loops := lookL [], iters := lookI [], rfs := lookR [], nils := lookM [] }
theorem p_Area_vc (l : (L.Sq L.Pt)) (hp : p_Area_p l) : vc Try.prog (p_Area_C) (bodyOf Try.f18) (st0 Try.f18 [.p (.sl 2 l.n (fun i => [.int .i64 ((l.g i).x), .int .i64 ((l.g i).y)]))]) (retFn Try.prog Try.f18 (p_Area_r l)) :=
  @Eq.mpr _ (((∀ (i : Nat), i < l.n → [SV.int .i64 (l.g i).x, SV.int .i64 (l.g i).y] = [SV.int .i64 (l.g i).x, SV.int .i64 (l.g i).y]) ∧ l.n ≤ (1000000 : Nat)) ∧ ((!L.validOutline (L.Sq.mk l.n fun (i : Nat) ↦ l.g i)) = true → ((0 : Int) = bif L.validOutline l then L.areaTo l l.n else (0 : Int)) ∧ (1 : Int) = bif L.validOutline l then (0 :
 Int) else (1 : Int)) ∧ ((!L.validOutline (L.Sq.mk l.n fun (i : Nat) ↦ l.g i)) = false → ((∀ (i : Nat), i < l.n → [SV.int .i64 (l.g i).x, SV.int .i64 (l.g i).y] = [SV.int .i64 (l.g i).x, SV.int .i64 (l.g i).y]) ∧ L.small (L.Sq.mk l.n fun (i : Nat) ↦ l.g i)) ∧ (L.areaTo (L.Sq.mk l.n fun (i : Nat) ↦ l.g i) l.n = bif L.validOutline l
 then L.areaTo l l.n else (0 : Int)) ∧ (0 : Int) = bif L.validOutline l then (0 : Int) else (1 : Int))) (by kernel_rfl) (by
    have hn : l.n ≤ 1000000 := hp
    refine ⟨⟨fun _ _ => rfl, hn⟩, fun h => ?_, fun h => ?_⟩
    · have hv : L.validOutline l = false := by simpa using (show (!L.validOutline l) = true from h)
      rw [hv]; exact ⟨rfl, rfl⟩
    · have hv : L.validOutline l = true := by simpa using (show (!L.validOutline l) = false from h)
      rw [hv]; exact ⟨⟨fun _ _ => rfl, (validOutline_of hv).2.2.1⟩, rfl, rfl⟩)
theorem p_Area_ok : SpecOk Try.prog 18 p_Area_S := fnX Try.func18 (c := bodyOf Try.f18) (by kernel_rfl) mixed (fun args p r hs hp => by
  unfold p_Area_s at hs
  split at hs
  · cases hs; exact ⟨_, _, p_Area_vc _ hp.2, (.p (.sl hp.1) .nil), ⟨show SpecsL Try.prog _ from (SpecsL.cons p_ValidOutline_ok p_ValidOutline_en (SpecsL.cons p_area_ok p_area_en SpecsL.nil)), rfl, ⟨show ItersL Try.prog _ from ItersL.nil, (TrsOk.none (fun _ => rfl))⟩⟩⟩
  · cases hs)
theorem p_Area_en : Enters Try.prog 18 := fun args w => by kernel_rfl
def p_Turn_p (a : L.Pt) (b : L.Pt) (c : L.Pt) : Prop := True
def p_Turn_r (a : L.Pt) (b : L.Pt) (c : L.Pt) : SV := .tup [.int .i64 (bif L.validPt a && L.validPt b && L.validPt c then L.cmp (L.cross a b c) 0 else 0), .int .i64 (bif L.validPt a && L.validPt b && L.validPt c then 0 else 1)]
def p_Turn_s : List EV → Option (Prop × SV)
  | [.p (.agg [.int .i64 a_x, .int .i64 a_y]), .p (.agg [.int .i64 b_x, .int .i64 b_y]), .p (.agg [.int .i64 c_x, .int .i64 c_y])] => some (p_Turn_p (⟨a_x, a_y⟩ : L.Pt) (⟨b_x, b_y⟩ : L.Pt) (⟨c_x, c_y⟩ : L.Pt), p_Turn_r (⟨a_x, a_y⟩ : L.Pt) (⟨b_x, b_y⟩ : L.Pt) (⟨c_x, c_y⟩ : L.Pt))
  | _ => none
abbrev p_Turn_S : SE.Spec := (specO p_Turn_s)
def p_Turn_C : Cfg := { muts := [], frz := lookN [], specs := lookS [(33, p_valid_S), (38, p_cross_S), (51, c_cmp_S)], loops := lookL [], iters := lookI [], rfs := lookR [], nils := lookM [] }
theorem p_Turn_vc (a : L.Pt) (b : L.Pt) (c : L.Pt) (hp : p_Turn_p a b c) : vc Try.prog (p_Turn_C) (bodyOf Try.f23) (st0 Try.f23 [.p (.agg [.int .i64 a.x, .int .i64 a.y]), .p (.agg [.int .i64 b.x, .int .i64 b.y]), .p (.agg [.int .i64 c.x, .int .i64 c.y])]) (retFn Try.prog Try.f23 (p_Turn_r a b c)) :=
  @Eq.mpr _ (((∀ (i : Nat), i < nat_lit 3 → rowsOf [SV.int .i64 a.x, SV.int .i64 a.y, SV.int .i64 b.x, SV.int .i64 b.y, SV.int .i64 c.x, SV.int .i64 c.y] (nat_lit 2) i = [SV.int .i64 (ofPt (rowsOf [SV.int .i64 a.x, SV.int .i64 a.y, SV.int
 .i64 b.x, SV.int .i64 b.y, SV.int .i64 c.x, SV.int .i64 c.y] (nat_lit 2) i)).x, SV.int .i64 (ofPt (rowsOf [SV.int .i64 a.x, SV.int .i64 a.y, SV.int .i64 b.x, SV.int .i64 b.y, SV.int .i64 c.x, SV.int .i64 c.y] (nat_lit 2)
 i)).y]) ∧ nat_lit 3 ≤ (1000000 : Nat)) ∧ ((!L.allB (nat_lit 3) fun (i : Nat) ↦ L.validPt (ofPt (rowsOf [SV.int .i64 a.x, SV.int .i64 a.y, SV.int .i64 b.x, SV.int .i64 b.y, SV.int .i64 c.x, SV.int .i64 c.y] (nat_lit 2) i))) = true → ((0 : Int) = bif L.validPt a && L.validPt b && L.validPt c
 then L.cmp (L.cross a b c) (0 : Int) else (0 : Int)) ∧ (1 : Int) = bif L.validPt a && L.validPt b && L.validPt c then (0 : Int) else (1 : Int)) ∧ ((!L.allB (nat_lit 3) fun (i : Nat) ↦ L.validPt (ofPt (rowsOf [SV.int .i64 a.x, SV.int .i64 a.y, SV.int .i64 b.x, SV.int .i64 b.y, SV.int .i64 c.x, SV.int
 .i64 c.y] (nat_lit 2) i))) = false → (L.bd a ∧ L.bd b ∧ L.bd c) ∧ True ∧ (L.cmp (L.cross a b c) (0 : Int) = bif L.validPt a && L.validPt b && L.validPt c then L.cmp (L.cross a b c) (0 : Int) else (0 : Int)) ∧ (0 : Int) = bif L.validPt a && L.validPt b && L.validPt c then (0 : Int) else (1 : Int))) (by kernel_rfl) (by
    refine ⟨⟨fun i hi => by match i, hi with | 0, _ => rfl | 1, _ => rfl | 2, _ => rfl, by decide⟩, fun h => ?_, fun h => ?_⟩
    · have h' : (L.validPt a && L.validPt b && L.validPt c) = false := by simpa only [Bool.not_eq_true', Bool.not_eq_false'] using (show (!(L.validPt a && L.validPt b && L.validPt c)) = true from h)
      rw [h']; exact ⟨rfl, rfl⟩
    · have h' : (L.validPt a && L.validPt b && L.validPt c) = true := by simpa only [Bool.not_eq_true', Bool.not_eq_false'] using (show (!(L.validPt a && L.validPt b && L.validPt c)) = false from h)
      obtain ⟨vab, vc⟩ := Bool.and_eq_true_iff.1 h'
      obtain ⟨va, vb⟩ := Bool.and_eq_true_iff.1 vab
      rw [h']; exact ⟨⟨validPt_bd va, validPt_bd vb, validPt_bd vc⟩, trivial, rfl, rfl⟩)
theorem p_Turn_ok : SpecOk Try.prog 23 p_Turn_S := fnX Try.func23 (c := bodyOf Try.f23) (by kernel_rfl) mixed (fun args p r hs hp => by
  unfold p_Turn_s at hs
  split at hs
  · cases hs; exact ⟨_, _, p_Turn_vc _ _ _ hp, (.same _ (.same _ (.same _ .nil))), ⟨show SpecsL Try.prog _ from (SpecsL.cons p_valid_ok p_valid_en (SpecsL.cons p_cross_ok p_cross_en (SpecsL.cons c_cmp_ok c_cmp_en SpecsL.nil))), rfl, ⟨show ItersL Try.prog _ from ItersL.nil, (TrsOk.none (fun _ => rfl))⟩⟩⟩
  · cases hs)
theorem p_Turn_en : Enters Try.prog 23 := fun args w => by kernel_rfl
def w_awake_p  : Prop := True
def w_awake_r  : SV := .bool true
def w_awake_s : List EV → Option (Prop × SV)
  | [] => some (w_awake_p , w_awake_r )
  | _ => none
abbrev w_awake_S : SE.Spec := (specO w_awake_s)
def w_awake_C : Cfg := { muts := [8], frz := lookN [], specs := lookS [(18, p_Area_S), (22, p_Pockets_S), (23, p_Turn_S), (8, p_Exit_S)], loops := lookL [], iters := lookI [], rfs := lookR [], nils := lookM [] }
theorem w_awake_vc  (hp : w_awake_p) : vc Try.prog (w_awake_C) (bodyOf Try.f7) (st0 Try.f7 []) (retFn Try.prog Try.f7 (w_awake_r )) :=
  @Eq.mpr _ (((∀ (i : Nat), i < nat_lit 5 → rowsOf [SV.int .i64 (0 : Int), SV.int .i64 (0 : Int), SV.int .i64 (4 : Int), SV.int .i64 (0 : Int), SV.int .i64 (4 : Int), SV.int .i64 (4 : Int), SV.int .i64 (2 : Int), SV.int .i64 (1 : Int), SV.int .i64 (0 : Int),
 SV.int .i64 (4 : Int)] (nat_lit 2) i = [SV.int .i64 (ofPt (rowsOf [SV.int .i64 (0 : Int), SV.int .i64 (0 : Int), SV.int .i64 (4 : Int), SV.int .i64 (0 : Int), SV.int .i64 (4 : Int), SV.int .i64 (4 : Int), SV.int .i64 (2 : Int), SV.int
 .i64 (1 : Int), SV.int .i64 (0 : Int), SV.int .i64 (4 : Int)] (nat_lit 2) i)).x, SV.int .i64 (ofPt (rowsOf [SV.int .i64 (0 : Int), SV.int .i64 (0 : Int), SV.int .i64 (4 : Int), SV.int .i64 (0 : Int), SV.int .i64 (4 : Int), SV.int .i64 (4 :
 Int), SV.int .i64 (2 : Int), SV.int .i64 (1 : Int), SV.int .i64 (0 : Int), SV.int .i64 (4 : Int)] (nat_lit 2) i)).y]) ∧ nat_lit 5 ≤ (1000000 : Nat)) ∧ ((∀ (i : Nat), i < nat_lit 5 → rowsOf [SV.int .i64 (0 : Int), SV.int .i64 (0 : Int), SV.int .i64 (4 : Int), SV.int
 .i64 (0 : Int), SV.int .i64 (4 : Int), SV.int .i64 (4 : Int), SV.int .i64 (2 : Int), SV.int .i64 (1 : Int), SV.int .i64 (0 : Int), SV.int .i64 (4 : Int)] (nat_lit 2) i = [SV.int .i64 (ofPt (rowsOf [SV.int .i64 (0 : Int), SV.int .i64 (0 :
 Int), SV.int .i64 (4 : Int), SV.int .i64 (0 : Int), SV.int .i64 (4 : Int), SV.int .i64 (4 : Int), SV.int .i64 (2 : Int), SV.int .i64 (1 : Int), SV.int .i64 (0 : Int), SV.int .i64 (4 : Int)] (nat_lit 2) i)).x, SV.int .i64 (ofPt (rowsOf [SV.int
 .i64 (0 : Int), SV.int .i64 (0 : Int), SV.int .i64 (4 : Int), SV.int .i64 (0 : Int), SV.int .i64 (4 : Int), SV.int .i64 (4 : Int), SV.int .i64 (2 : Int), SV.int .i64 (1 : Int), SV.int .i64 (0 : Int), SV.int .i64 (4 : Int)] (nat_lit 2) i)).y]) ∧
 nat_lit 5 ≤ (1000000 : Nat)) ∧ ∀ (t : Nat → L.Pocket), (L.validOutline (L.Sq.mk (nat_lit 5) fun (i : Nat) ↦ ofPt (rowsOf [SV.int .i64 (0 : Int), SV.int .i64 (0 : Int), SV.int .i64 (4 : Int), SV.int .i64 (0 : Int), SV.int .i64 (4 : Int), SV.int .i64 (4 : Int), SV.int .i64 (2 : Int),
 SV.int .i64 (1 : Int), SV.int .i64 (0 : Int), SV.int .i64 (4 : Int)] (nat_lit 2) i)) = true → SortedBy L.cmpFr (L.pks (L.Sq.mk (nat_lit 5) fun (i : Nat) ↦ ofPt (rowsOf [SV.int .i64 (0 : Int), SV.int .i64 (0 : Int), SV.int .i64 (4 : Int), SV.int .i64 (0 : Int),
 SV.int .i64 (4 : Int), SV.int .i64 (4 : Int), SV.int .i64 (2 : Int), SV.int .i64 (1 : Int), SV.int .i64 (0 : Int), SV.int .i64 (4 : Int)] (nat_lit 2) i))).n (L.pks (L.Sq.mk (nat_lit 5) fun (i : Nat) ↦ ofPt (rowsOf [SV.int .i64 (0 : Int), SV.int .i64 (0 : Int),
 SV.int .i64 (4 : Int), SV.int .i64 (0 : Int), SV.int .i64 (4 : Int), SV.int .i64 (4 : Int), SV.int .i64 (2 : Int), SV.int .i64 (1 : Int), SV.int .i64 (0 : Int), SV.int .i64 (4 : Int)] (nat_lit 2) i))).g t) → ((0 : Int) ≤ (0 : Int) ∧ (0 : Int) < (↑(nat_lit 5) : Int)) ∧ ((0
 : Int) ≤ (1 : Int) ∧ (1 : Int) < (↑(nat_lit 5) : Int)) ∧ ((0 : Int) ≤ (2 : Int) ∧ (2 : Int) < (↑(nat_lit 5) : Int)) ∧ True ∧ ((∀ (i : Nat), i < nat_lit 3 → rowsOf [SV.int .i64 (1 : Int), SV.int .i64 (0 : Int), SV.int .i64 (-1 : Int), SV.int .i64 (1 : Int), SV.int .i64 (-1 : Int), SV.int .i64 (-1 :
 Int)] (nat_lit 2) i = [SV.int .i64 (ofPt (rowsOf [SV.int .i64 (1 : Int), SV.int .i64 (0 : Int), SV.int .i64 (-1 : Int), SV.int .i64 (1 : Int), SV.int .i64 (-1 : Int), SV.int .i64 (-1 : Int)] (nat_lit 2) i)).x, SV.int .i64 (ofPt (rowsOf [SV.int
 .i64 (1 : Int), SV.int .i64 (0 : Int), SV.int .i64 (-1 : Int), SV.int .i64 (1 : Int), SV.int .i64 (-1 : Int), SV.int .i64 (-1 : Int)] (nat_lit 2) i)).y]) ∧ nat_lit 3 ≤ (9223372036854775807 : Nat) ∧ (L.exBad (L.Sq.mk (nat_lit 3) fun (i : Nat) ↦ ofPt (rowsOf [SV.int .i64 (1 : Int),
 SV.int .i64 (0 : Int), SV.int .i64 (-1 : Int), SV.int .i64 (1 : Int), SV.int .i64 (-1 : Int), SV.int .i64 (-1 : Int)] (nat_lit 2) i)) = false → L.wayOk (L.Sq.mk (nat_lit 3) fun (i : Nat) ↦ ofPt (rowsOf [SV.int .i64 (1 : Int), SV.int .i64 (0 : Int), SV.int .i64
 (-1 : Int), SV.int .i64 (1 : Int), SV.int .i64 (-1 : Int), SV.int .i64 (-1 : Int)] (nat_lit 2) i)) = false → L.isNo (L.first (L.exF (L.Sq.mk (nat_lit 3) fun (i : Nat) ↦ ofPt (rowsOf [SV.int .i64 (1 : Int), SV.int .i64 (0 : Int), SV.int .i64 (-1 : Int), SV.int .i64 (1 : Int),
 SV.int .i64 (-1 : Int), SV.int .i64 (-1 : Int)] (nat_lit 2) i))) (22 : Nat)) = false)) ∧ (true = true → (0 : Int) ≤ (0 : Int) ∧ (0 : Int) < (↑(nat_lit 1) : Int)) ∧ (bif bif bif bif bif true then decide ((t (Int.toNat (0 : Int))).fr = (2 : Int)) && (decide ((t (Int.toNat (0 : Int))).to_ = (4 : Int)) && decide ((t
 (Int.toNat (0 : Int))).area = (12 : Int))) else false then true else false then true else false then true else false then true else false) = true) (by kernel_rfl) (by
    refine ⟨⟨fun i hi => by match i, hi with | 0, _ => rfl | 1, _ => rfl | 2, _ => rfl | 3, _ => rfl | 4, _ => rfl, by decide⟩, ⟨fun i hi => by match i, hi with | 0, _ => rfl | 1, _ => rfl | 2, _ => rfl | 3, _ => rfl | 4, _ => rfl, by decide⟩, fun t ht => ⟨⟨by decide, by decide⟩, ⟨by decide, by decide⟩, ⟨by decide, by decide⟩, trivial, ⟨fun i hi => by match i, hi with | 0, _ => rfl | 1, _ => rfl | 2, _ => rfl, by decide, fun _ _ => by kernel_rfl⟩, fun _ => ⟨by decide, by decide⟩, ?_⟩⟩
    have h := ht (by kernel_rfl)
    have hn : (L.pks (L.Sq.mk 5 fun (i : Nat) => ofPt (rowsOf [SV.int .i64 0, SV.int .i64 0, SV.int .i64 4, SV.int .i64 0, SV.int .i64 4, SV.int .i64 4, SV.int .i64 2, SV.int .i64 1, SV.int .i64 0, SV.int .i64 4] 2 i))).n = 1 := by kernel_rfl
    have hg : (L.pks (L.Sq.mk 5 fun (i : Nat) => ofPt (rowsOf [SV.int .i64 0, SV.int .i64 0, SV.int .i64 4, SV.int .i64 0, SV.int .i64 4, SV.int .i64 4, SV.int .i64 2, SV.int .i64 1, SV.int .i64 0, SV.int .i64 4] 2 i))).g 0 = ⟨2, 4, 12⟩ := by kernel_rfl
    have h1 := h.perm
    rw [hn] at h1
    have h2 : [t 0].Perm [(L.pks (L.Sq.mk 5 fun (i : Nat) => ofPt (rowsOf [SV.int .i64 0, SV.int .i64 0, SV.int .i64 4, SV.int .i64 0, SV.int .i64 4, SV.int .i64 4, SV.int .i64 2, SV.int .i64 1, SV.int .i64 0, SV.int .i64 4] 2 i))).g 0] := h1
    have h3 := List.singleton_perm_singleton.1 h2
    rw [hg] at h3
    have h4 : t (Int.toNat 0) = ⟨2, 4, 12⟩ := h3
    rw [h4]; rfl)
theorem w_awake_ok : SpecOk Try.prog 7 w_awake_S := fnX Try.func7 (c := bodyOf Try.f7) (by kernel_rfl) mixed (fun args p r hs hp => by
  unfold w_awake_s at hs
  split at hs
  · cases hs; exact ⟨_, _, w_awake_vc  hp, .nil, ⟨show SpecsL Try.prog _ from (SpecsL.cons p_Area_ok p_Area_en (SpecsL.cons p_Pockets_ok p_Pockets_en (SpecsL.cons p_Turn_ok p_Turn_en (SpecsL.cons p_Exit_ok p_Exit_en SpecsL.nil)))), rfl, ⟨show ItersL Try.prog _ from ItersL.nil, (TrsOk.none (fun _ => rfl))⟩⟩⟩
  · cases hs)
theorem w_awake_en : Enters Try.prog 7 := fun args w => by kernel_rfl
end Go.Proofs.Ytdlhpdidgfgomaa

namespace Go.Proofs.Ytdlhpdidgfgomaa
open Go.SE Go.RowKit
set_option maxRecDepth 100000
set_option maxHeartbeats 4000000
set_option linter.unusedVariables false
attribute [local irreducible] vc

def L.cr (p q : L.Pt) : Int := p.x * q.y - p.y * q.x
theorem gcd_mul {x y : Int} (hg : 1 ≤ L.gcd x y) : Int.tdiv x (L.gcd x y) * L.gcd x y = x ∧ Int.tdiv y (L.gcd x y) * L.gcd x y = y := by
  have h1 : L.gcd x y ∣ x := Int.ofNat_dvd_left.2 (Nat.gcd_dvd_left _ _)
  have h2 : L.gcd x y ∣ y := Int.ofNat_dvd_left.2 (Nat.gcd_dvd_right _ _)
  exact ⟨Int.tdiv_mul_cancel h1, Int.tdiv_mul_cancel h2⟩
theorem hit_dir {p n : L.Pt} (h : L.isNrm p = true) : L.hit (L.dir p 0) n = decide (0 < L.cr p n) ∧ L.hit (L.dir p 1) n = decide (L.cr p n < 0) := by
  obtain ⟨_, hg, _⟩ := isNrm_of h
  obtain ⟨e1, e2⟩ := gcd_mul hg
  have q1 : L.dir p 0 = ⟨-Int.tdiv p.y (L.gcd p.x p.y), Int.tdiv p.x (L.gcd p.x p.y)⟩ := by
    unfold L.dir; rw [Int.zero_sub, Int.neg_tdiv]; rfl
  have q2 : L.dir p 1 = ⟨Int.tdiv p.y (L.gcd p.x p.y), -Int.tdiv p.x (L.gcd p.x p.y)⟩ := by
    unfold L.dir; rw [Int.zero_sub, Int.zero_sub, Int.neg_tdiv, Int.neg_tdiv]; rfl
  generalize L.gcd p.x p.y = g at *
  generalize Int.tdiv p.x g = a at *
  generalize Int.tdiv p.y g = b at *
  have e : L.cr p n = (a * n.y - b * n.x) * g := by
    unfold L.cr; rw [← e1, ← e2]; grind
  constructor
  · rw [q1]; unfold L.hit
    have : decide (0 < -b * n.x + a * n.y) = decide (0 < L.cr p n) := by
      rw [e, Bool.eq_iff_iff, decide_eq_true_eq, decide_eq_true_eq]
      constructor
      · intro h; exact Int.mul_pos (by grind) (by omega)
      · intro h; have := Int.pos_of_mul_pos_left h (by omega); grind
    exact this
  · rw [q2]; unfold L.hit
    have : decide (0 < b * n.x + -a * n.y) = decide (L.cr p n < 0) := by
      rw [e, Bool.eq_iff_iff, decide_eq_true_eq, decide_eq_true_eq]
      constructor
      · intro h; exact Int.mul_neg_of_neg_of_pos (by grind) (by omega)
      · intro h
        have : 0 < (b * n.x - a * n.y) * g := by grind
        have := Int.pos_of_mul_pos_left this (by omega); grind
    exact this
theorem dir_ne {p : L.Pt} (h : L.isNrm p = true) (s : Nat) : ¬ ((L.dir p s).x = 0 ∧ (L.dir p s).y = 0) := by
  rintro ⟨h1, h2⟩
  obtain ⟨_, hg, _⟩ := isNrm_of h
  obtain ⟨e1, e2⟩ := gcd_mul hg
  have z : Int.tdiv p.x (L.gcd p.x p.y) = 0 ∧ Int.tdiv p.y (L.gcd p.x p.y) = 0 := by
    unfold L.dir at h1 h2
    rw [Int.zero_sub, Int.zero_sub, Int.neg_tdiv, Int.neg_tdiv] at h1 h2
    cases hs : decide (s = 0) <;> rw [hs] at h1 h2 <;> simp only [cond_true, cond_false] at h1 h2 <;> omega
  rw [z.1, Int.zero_mul] at e1
  rw [z.2, Int.zero_mul] at e2
  unfold L.isNrm at h
  rw [decide_eq_true e1.symm, decide_eq_true e2.symm] at h
  cases h
/-- No direction is free. -/
def L.Blk (N : L.Sq L.Pt) : Prop := 0 < N.n ∧ ∀ i, i < N.n → (∃ j, j < N.n ∧ 0 < L.cr (N.g i) (N.g j)) ∧ ∃ j, j < N.n ∧ L.cr (N.g i) (N.g j) < 0
theorem free_false {d : L.Pt} {N : L.Sq L.Pt} : L.free d N = false ↔ ∃ j, j < N.n ∧ L.hit d (N.g j) = true := by
  unfold L.free
  rw [← anyB_iff (f := fun i => L.hit d (N.g i)) (n := N.n), Bool.not_eq_false']
theorem cand_two (N : L.Sq L.Pt) (g : Nat) : L.cand N (2 * g) = L.dir (N.g g) 0 ∧ L.cand N (2 * g + 1) = L.dir (N.g g) 1 := by
  unfold L.cand
  rw [show 2 * g / 2 = g by omega, show 2 * g % 2 = 0 by omega, show (2 * g + 1) / 2 = g by omega, show (2 * g + 1) % 2 = 1 by omega]
  exact ⟨rfl, rfl⟩
theorem least_true {f : Nat → Bool} : ∀ {n : Nat}, (∃ c, c < n ∧ f c = true) → ∃ c, c < n ∧ f c = true ∧ ∀ j, j < c → f j = false
  | 0, ⟨_, h, _⟩ => absurd h (Nat.not_lt_zero _)
  | n + 1, ⟨c, hc, hf⟩ => by
    by_cases h : ∃ c, c < n ∧ f c = true
    · obtain ⟨c', h1, h2, h3⟩ := least_true h
      exact ⟨c', by omega, h2, h3⟩
    · refine ⟨c, hc, hf, fun j hj => ?_⟩
      cases hb : f j with
      | false => rfl
      | true => exact absurd ⟨j, by omega, hb⟩ h
theorem wayOk_false {N : L.Sq L.Pt} (hN : ∀ i, i < N.n → L.isNrm (N.g i) = true) : L.wayOk N = false ↔ L.Blk N := by
  constructor
  · intro h
    have hn : 0 < N.n := by
      rcases Nat.eq_zero_or_pos N.n with h0 | h0
      · rw [(way_0 h0).2] at h; cases h
      · exact h0
    have hc : ∀ c, c < 2 * N.n → L.free (L.cand N c) N = false := fun c hc => by
      cases hf : L.free (L.cand N c) N with
      | false => rfl
      | true =>
        obtain ⟨c', h1, h2, h3⟩ := least_true (f := fun c => L.free (L.cand N c) N) ⟨c, hc, hf⟩
        rw [(way_at h3 h2 h1).2] at h
        cases h
    refine ⟨hn, fun i hi => ?_⟩
    obtain ⟨c0, c1⟩ := cand_two N i
    constructor
    · obtain ⟨j, hj, h1⟩ := free_false.1 (hc (2 * i) (by omega))
      rw [c0, (hit_dir (hN i hi)).1] at h1
      exact ⟨j, hj, of_decide_eq_true h1⟩
    · obtain ⟨j, hj, h1⟩ := free_false.1 (hc (2 * i + 1) (by omega))
      rw [c1, (hit_dir (hN i hi)).2] at h1
      exact ⟨j, hj, of_decide_eq_true h1⟩
  · rintro ⟨hn, h⟩
    refine (way_no hn fun c hc => ?_).2
    obtain ⟨i, s, rfl | rfl⟩ : ∃ i s, c = 2 * i ∨ c = 2 * i + 1 := ⟨c / 2, 0, by omega⟩
    · rw [(cand_two N i).1]
      obtain ⟨⟨j, hj, h1⟩, _⟩ := h i (by omega)
      exact free_false.2 ⟨j, hj, by rw [(hit_dir (hN i (by omega))).1]; exact decide_eq_true h1⟩
    · rw [(cand_two N i).2]
      obtain ⟨_, j, hj, h1⟩ := h i (by omega)
      exact free_false.2 ⟨j, hj, by rw [(hit_dir (hN i (by omega))).2]; exact decide_eq_true h1⟩
/-- Three vectors around the origin, or four in the order of a cross. -/
def L.Tri3 (s a u : L.Pt) : Prop := 0 < L.cr s a ∧ 0 < L.cr a u ∧ 0 < L.cr u s
def L.Crs (s a u v : L.Pt) : Prop := 0 < L.cr s a ∧ 0 < L.cr a u ∧ 0 < L.cr u v ∧ 0 < L.cr v s ∧ L.cr s u = 0
theorem cr_anti (p q : L.Pt) : L.cr q p = -L.cr p q := by unfold L.cr; grind
theorem cr_self (p : L.Pt) : L.cr p p = 0 := by unfold L.cr; grind
theorem plucker (s a u v : L.Pt) : L.cr s a * L.cr u v - L.cr s u * L.cr a v + L.cr s v * L.cr a u = 0 := by unfold L.cr; grind
/-- The last one on the left side of s. -/
theorem last_left {g : Nat → L.Pt} {s : L.Pt} : ∀ {n : Nat}, (∃ j, j < n ∧ 0 < L.cr s (g j)) → ∃ a, a < n ∧ 0 < L.cr s (g a) ∧ ∀ t, t < n → 0 < L.cr s (g t) → L.cr (g a) (g t) ≤ 0
  | 0, ⟨_, h, _⟩ => absurd h (Nat.not_lt_zero _)
  | n + 1, h => by
    by_cases h1 : ∃ j, j < n ∧ 0 < L.cr s (g j)
    · obtain ⟨a, ha, hs, hm⟩ := last_left h1
      by_cases h2 : 0 < L.cr s (g n) ∧ 0 < L.cr (g a) (g n)
      · refine ⟨n, by omega, h2.1, fun t ht hst => ?_⟩
        rcases Nat.lt_succ_iff_lt_or_eq.1 ht with ht | rfl
        · have h3 := hm t ht hst
          have pk := plucker s (g a) (g n) (g t)
          refine Int.not_lt.1 fun hc => ?_
          have m1 := Int.mul_pos hs hc
          have m2 := Int.mul_nonneg (Int.le_of_lt h2.1) (show 0 ≤ -L.cr (g a) (g t) by omega)
          have m3 := Int.mul_pos hst h2.2
          rw [Int.mul_neg] at m2
          omega
        · rw [cr_self]; omega
      · refine ⟨a, by omega, hs, fun t ht hst => ?_⟩
        rcases Nat.lt_succ_iff_lt_or_eq.1 ht with ht | rfl
        · exact hm t ht hst
        · exact Int.not_lt.1 fun hc => h2 ⟨hst, hc⟩
    · obtain ⟨j, hj, hjs⟩ := h
      obtain rfl : j = n := by
        rcases Nat.lt_succ_iff_lt_or_eq.1 hj with hj | rfl
        · exact absurd ⟨j, hj, hjs⟩ h1
        · rfl
      refine ⟨j, hj, hjs, fun t ht hst => ?_⟩
      rcases Nat.lt_succ_iff_lt_or_eq.1 ht with ht | rfl
      · exact absurd ⟨t, ht, hst⟩ h1
      · rw [cr_self]; omega
theorem steinitz {N : L.Sq L.Pt} (h : L.Blk N) : (∃ a b c, a < N.n ∧ b < N.n ∧ c < N.n ∧ L.Tri3 (N.g a) (N.g b) (N.g c)) ∨ ∃ a b c d, a < N.n ∧ b < N.n ∧ c < N.n ∧ d < N.n ∧ L.Crs (N.g a) (N.g b) (N.g c) (N.g d) := by
  obtain ⟨hn, h⟩ := h
  obtain ⟨hp, v, hv, hvs⟩ := h 0 hn
  obtain ⟨a, ha, hs, hm⟩ := last_left hp
  obtain ⟨⟨u, hu, hau⟩, _⟩ := h a ha
  have hu0 : ¬ 0 < L.cr (N.g 0) (N.g u) := fun hc => by have := hm u hu hc; omega
  rcases Int.lt_or_eq_of_le (Int.not_lt.1 hu0) with h1 | h1
  · left
    refine ⟨0, a, u, hn, ha, hu, hs, hau, ?_⟩
    rw [cr_anti]; omega
  · right
    refine ⟨0, a, u, v, hn, ha, hu, hv, hs, hau, ?_, by rw [cr_anti]; omega, h1⟩
    have pk := plucker (N.g 0) (N.g a) (N.g u) (N.g v)
    rw [h1, Int.zero_mul] at pk
    have m := Int.mul_pos (show 0 < -L.cr (N.g 0) (N.g v) by omega) hau
    rw [Int.neg_mul] at m
    exact Int.pos_of_mul_pos_right (a := L.cr (N.g 0) (N.g a)) (by omega) (by omega)
theorem blk_tri {s a u : L.Pt} (h : L.Tri3 s a u) : (0 < L.cr s a ∧ L.cr s u < 0) ∧ (0 < L.cr a u ∧ L.cr a s < 0) ∧ 0 < L.cr u s ∧ L.cr u a < 0 := by
  obtain ⟨h1, h2, h3⟩ := h
  exact ⟨⟨h1, by rw [cr_anti]; omega⟩, ⟨h2, by rw [cr_anti]; omega⟩, h3, by rw [cr_anti]; omega⟩
theorem blk_crs {s a u v : L.Pt} (h : L.Crs s a u v) : (0 < L.cr s a ∧ L.cr s v < 0) ∧ (0 < L.cr a u ∧ L.cr a s < 0) ∧ (0 < L.cr u v ∧ L.cr u a < 0) ∧ 0 < L.cr v s ∧ L.cr v u < 0 := by
  obtain ⟨h1, h2, h3, h4, _⟩ := h
  exact ⟨⟨h1, by rw [cr_anti]; omega⟩, ⟨h2, by rw [cr_anti]; omega⟩, ⟨h3, by rw [cr_anti]; omega⟩, h4, by rw [cr_anti]; omega⟩
/-- What a set of numbers must have so that its normals leave no direction. -/
def L.BlkS (N : L.Sq L.Pt) (S : Nat → Prop) : Prop := (∃ x, S x) ∧ ∀ x, S x → (∃ y, S y ∧ 0 < L.cr (N.g x) (N.g y)) ∧ ∃ y, S y ∧ L.cr (N.g x) (N.g y) < 0
theorem blkS_congr {N : L.Sq L.Pt} {S T : Nat → Prop} (h : ∀ x, S x ↔ T x) (hS : L.BlkS N S) : L.BlkS N T := by
  have : S = T := funext fun x => propext (h x)
  rw [← this]; exact hS
def L.inI (l : L.Sq Int) (x : Nat) : Prop := ∃ i, i < l.n ∧ l.g i = (x : Int)
theorem inI_snoc {l : L.Sq Int} {a x : Nat} : L.inI (L.snoc l (a : Int)) x ↔ L.inI l x ∨ x = a := by
  constructor
  · rintro ⟨i, hi, h⟩
    have hi : i < l.n + 1 := hi
    have h : (bif decide (i < l.n) then l.g i else (a : Int)) = (x : Int) := h
    by_cases h1 : i < l.n
    · rw [decide_eq_true h1] at h; exact .inl ⟨i, h1, h⟩
    · rw [decide_eq_false h1] at h
      have h : (a : Int) = x := h
      right; omega
  · rintro (⟨i, hi, h⟩ | rfl)
    · exact ⟨i, by show i < l.n + 1; omega, by show (bif decide (i < l.n) then l.g i else (a : Int)) = _; rw [decide_eq_true hi]; exact h⟩
    · exact ⟨l.n, Nat.lt_succ_self _, by show (bif decide (l.n < l.n) then l.g l.n else (x : Int)) = _; rw [decide_eq_false (Nat.lt_irrefl _)]; rfl⟩
theorem pck_blk {N : L.Sq L.Pt} {l : L.Sq Int} (hw : L.within0 l N.n) : L.Blk (L.pck N l) ↔ L.BlkS N (L.inI l) := by
  have e : ∀ i x, l.g i = ((x : Nat) : Int) → (l.g i).toNat = x := fun i x h => by omega
  constructor
  · rintro ⟨hn, h⟩
    have hn : 0 < l.n := hn
    have up : ∀ i, i < l.n → L.inI l (l.g i).toNat := fun i hi => ⟨i, hi, by have := (hw i hi).1; omega⟩
    refine ⟨⟨_, up 0 hn⟩, fun x ⟨i, hi, hx⟩ => ?_⟩
    obtain ⟨⟨j, hj, h1⟩, k, hk, h2⟩ := h i hi
    have h1 : 0 < L.cr (N.g (l.g i).toNat) (N.g (l.g j).toNat) := h1
    have h2 : L.cr (N.g (l.g i).toNat) (N.g (l.g k).toNat) < 0 := h2
    rw [e i x hx] at h1 h2
    exact ⟨⟨_, up j hj, h1⟩, _, up k hk, h2⟩
  · rintro ⟨⟨x, i, hi, _⟩, h⟩
    refine ⟨show 0 < l.n by omega, fun i hi => ?_⟩
    have hi : i < l.n := hi
    obtain ⟨⟨y, ⟨j, hj, h1⟩, h2⟩, z, ⟨k, hk, h3⟩, h4⟩ := h (l.g i).toNat ⟨i, hi, by have := (hw i hi).1; omega⟩
    refine ⟨⟨j, hj, ?_⟩, k, hk, ?_⟩
    · show 0 < L.cr (N.g (l.g i).toNat) (N.g (l.g j).toNat)
      rw [e j y h1]; exact h2
    · show L.cr (N.g (l.g i).toNat) (N.g (l.g k).toNat) < 0
      rw [e k z h3]; exact h4
theorem nrms_pck {N : L.Sq L.Pt} {l : L.Sq Int} (hN : ∀ i, i < N.n → L.isNrm (N.g i) = true) (hw : L.within0 l N.n) : ∀ i, i < (L.pck N l).n → L.isNrm ((L.pck N l).g i) = true := fun i hi => hN _ (by have := hw i hi; omega)
theorem within0_snoc {l : L.Sq Int} {n a : Nat} (h : L.within0 l n) (ha : a < n) : L.within0 (L.snoc l (a : Int)) n := fun i hi => by
  have hi : i < l.n + 1 := hi
  show 0 ≤ (bif decide (i < l.n) then l.g i else (a : Int)) ∧ (bif decide (i < l.n) then l.g i else (a : Int)) < (n : Int)
  by_cases h' : i < l.n
  · rw [decide_eq_true h']; exact h i h'
  · rw [decide_eq_false h']; show 0 ≤ (a : Int) ∧ (a : Int) < n; omega
/-- A list that rises from a number on, below n. -/
def L.Up (n : Nat) : Nat → List Nat → Prop
  | _, [] => True
  | fr, a :: J => fr ≤ a ∧ a < n ∧ L.Up n (a + 1) J
theorem grp_some {N : L.Sq L.Pt} (hN : ∀ i, i < N.n → L.isNrm (N.g i) = true) : ∀ {J : List Nat} {l : L.Sq Int} {fr : Nat}, L.within0 l N.n → L.Up N.n fr J → L.BlkS N (fun x => L.inI l x ∨ x ∈ J) → L.grp N J.length l fr ≠ none
  | [], l, fr, hw, _, hB => by
    have hB : L.BlkS N (L.inI l) := blkS_congr (fun x => ⟨fun h => h.elim id (fun h => by cases h), .inl⟩) hB
    have := (wayOk_false (nrms_pck hN hw)).2 ((pck_blk hw).2 hB)
    show (bif L.wayOk (L.pck N l) then none else some l) ≠ none
    rw [this]; exact fun h => by cases h
  | a :: J, l, fr, hw, ⟨h1, h2, h3⟩, hB => by
    intro h
    have h : L.first (fun j => L.grp N J.length (L.snoc l ((fr + j : Nat) : Int)) (fr + j + 1)) (N.n - fr) = none := h
    have h4 := first_none_of h (a - fr) (by omega)
    rw [show fr + (a - fr) = a by omega] at h4
    refine grp_some hN (J := J) (within0_snoc hw h2) h3 (blkS_congr (fun x => ?_) hB) h4
    show L.inI l x ∨ x ∈ a :: J ↔ L.inI (L.snoc l (a : Int)) x ∨ x ∈ J
    rw [inI_snoc, List.mem_cons]
    constructor
    · rintro (h | h | h)
      · exact .inl (.inl h)
      · exact .inl (.inr h)
      · exact .inr h
    · rintro ((h | h) | h)
      · exact .inl h
      · exact .inr (.inl h)
      · exact .inr (.inr h)
theorem up_sorted {n : Nat} : ∀ {J : List Nat} {fr : Nat}, J.Pairwise (· < ·) → (∀ x, x ∈ J → fr ≤ x ∧ x < n) → L.Up n fr J
  | [], _, _, _ => trivial
  | a :: J, fr, hp, h => by
    obtain ⟨h1, h2⟩ := List.pairwise_cons.1 hp
    exact ⟨(h a (List.mem_cons_self ..)).1, (h a (List.mem_cons_self ..)).2, up_sorted h2 fun x hx => ⟨h1 x hx, (h x (List.mem_cons_of_mem _ hx)).2⟩⟩
theorem sort_up {n : Nat} {J : List Nat} (hd : J.Nodup) (h : ∀ x, x ∈ J → x < n) : ∃ K : List Nat, K.length = J.length ∧ L.Up n 0 K ∧ ∀ x, x ∈ K ↔ x ∈ J := by
  have hp : (J.mergeSort (fun a b => decide (a ≤ b))).Perm J := List.mergeSort_perm _ _
  refine ⟨J.mergeSort (fun a b => decide (a ≤ b)), hp.length_eq, up_sorted ?_ fun x hx => ⟨Nat.zero_le _, h x (hp.mem_iff.1 hx)⟩, fun x => hp.mem_iff⟩
  have hs : (J.mergeSort (fun a b => decide (a ≤ b))).Pairwise (fun a b => decide (a ≤ b) = true) := List.pairwise_mergeSort (fun a b c h1 h2 => by simp at *; omega) (fun a b => by simp; omega) J
  have hn : (J.mergeSort (fun a b => decide (a ≤ b))).Nodup := hp.nodup_iff.2 hd
  exact List.Pairwise.imp₂ (fun a b h1 h2 => by simp at h1; omega) hs hn
theorem list_grp {N : L.Sq L.Pt} (hN : ∀ i, i < N.n → L.isNrm (N.g i) = true) (J : List Nat) (hd : J.Nodup) (hb : ∀ x, x ∈ J → x < N.n) (hB : L.BlkS N (fun x => x ∈ J)) : L.grp N J.length L.nilI 0 ≠ none := by
  obtain ⟨K, e, hu, hm⟩ := sort_up hd hb
  rw [← e]
  exact grp_some hN (l := L.nilI) (fun i hi => absurd hi (Nat.not_lt_zero _)) hu (blkS_congr (fun x => ⟨fun h => .inr ((hm x).2 h), fun h => h.elim (fun ⟨i, hi, _⟩ => absurd hi (Nat.not_lt_zero _)) (hm x).1⟩) hB)
theorem cr_ne {N : L.Sq L.Pt} {x y : Nat} (h : 0 < L.cr (N.g x) (N.g y)) : x ≠ y := fun e => by rw [e, cr_self] at h; omega
theorem tri_ne {N : L.Sq L.Pt} {a b c : Nat} (ht : L.Tri3 (N.g a) (N.g b) (N.g c)) : a ≠ b ∧ b ≠ c ∧ c ≠ a := ⟨cr_ne ht.1, cr_ne ht.2.1, cr_ne ht.2.2⟩
theorem crs_ne {N : L.Sq L.Pt} {a b c d : Nat} (ht : L.Crs (N.g a) (N.g b) (N.g c) (N.g d)) : (a ≠ b ∧ b ≠ c ∧ c ≠ d) ∧ d ≠ a ∧ a ≠ c ∧ b ≠ d := by
  obtain ⟨⟨p1, p2⟩, ⟨p3, p4⟩, ⟨p5, p6⟩, p7, p8⟩ := blk_crs ht
  exact ⟨⟨cr_ne p1, cr_ne p3, cr_ne p5⟩, cr_ne p7, fun e => by rw [e] at p1; omega, fun e => by rw [e] at p1; omega⟩
theorem tri_exF {N : L.Sq L.Pt} (hN : ∀ i, i < N.n → L.isNrm (N.g i) = true) {a b c : Nat} (ha : a < N.n) (hb : b < N.n) (hc : c < N.n) (ht : L.Tri3 (N.g a) (N.g b) (N.g c)) : L.exF N 0 ≠ none := by
  obtain ⟨⟨p1, p2⟩, ⟨p3, p4⟩, p5, p6⟩ := blk_tri ht
  obtain ⟨nab, nbc, nca⟩ := tri_ne ht
  refine list_grp hN [a, b, c] (by simp; omega) (by simp; omega) ⟨⟨a, by simp⟩, fun x hx => ?_⟩
  have hx : x ∈ [a, b, c] := hx
  simp only [List.mem_cons, List.not_mem_nil, or_false] at hx
  rcases hx with rfl | rfl | rfl
  · exact ⟨⟨b, by simp, p1⟩, c, by simp, p2⟩
  · exact ⟨⟨c, by simp, p3⟩, a, by simp, p4⟩
  · exact ⟨⟨a, by simp, p5⟩, b, by simp, p6⟩
theorem exit_some {N : L.Sq L.Pt} (hN : ∀ i, i < N.n → L.isNrm (N.g i) = true) (hw : L.wayOk N = false) : L.exF N 0 ≠ none ∨ L.exF N 1 ≠ none := by
  rcases steinitz ((wayOk_false hN).1 hw) with ⟨a, b, c, ha, hb, hc, ht⟩ | ⟨a, b, c, d, ha, hb, hc, hd, ht⟩
  · exact .inl (tri_exF hN ha hb hc ht)
  · right
    obtain ⟨⟨p1, p2⟩, ⟨p3, p4⟩, ⟨p5, p6⟩, p7, p8⟩ := blk_crs ht
    obtain ⟨⟨nab, nbc, ncd⟩, nda, nac, nbd⟩ := crs_ne ht
    refine list_grp hN [a, b, c, d] (by simp; omega) (by simp; omega) ⟨⟨a, by simp⟩, fun x hx => ?_⟩
    have hx : x ∈ [a, b, c, d] := hx
    simp only [List.mem_cons, List.not_mem_nil, or_false] at hx
    rcases hx with rfl | rfl | rfl | rfl
    · exact ⟨⟨b, by simp, p1⟩, d, by simp, p2⟩
    · exact ⟨⟨c, by simp, p3⟩, a, by simp, p4⟩
    · exact ⟨⟨d, by simp, p5⟩, b, by simp, p6⟩
    · exact ⟨⟨a, by simp, p7⟩, c, by simp, p8⟩
theorem exit_isNo {N : L.Sq L.Pt} (hN : ∀ i, i < N.n → L.isNrm (N.g i) = true) (hw : L.wayOk N = false) {c : Nat} (hc : 2 ≤ c) : L.isNo (L.first (L.exF N) c) = false := by
  cases h : L.first (L.exF N) c with
  | some _ => rfl
  | none =>
    rcases exit_some hN hw with h1 | h1
    · exact absurd (first_none_of h 0 (by omega)) h1
    · exact absurd (first_none_of h 1 (by omega)) h1
theorem dot3 (d s a u : L.Pt) : L.cr a u * (d.x * s.x + d.y * s.y) + L.cr u s * (d.x * a.x + d.y * a.y) + L.cr s a * (d.x * u.x + d.y * u.y) = 0 := by unfold L.cr; grind
theorem dot_zero {d s a : L.Pt} (h : 0 < L.cr s a) (h1 : d.x * s.x + d.y * s.y = 0) (h2 : d.x * a.x + d.y * a.y = 0) : d.x = 0 ∧ d.y = 0 := by
  have e1 : d.x * L.cr s a = a.y * (d.x * s.x + d.y * s.y) - s.y * (d.x * a.x + d.y * a.y) := by unfold L.cr; grind
  have e2 : d.y * L.cr s a = s.x * (d.x * a.x + d.y * a.y) - a.x * (d.x * s.x + d.y * s.y) := by unfold L.cr; grind
  rw [h1, h2, Int.mul_zero, Int.mul_zero] at e1 e2
  have e1 : d.x * L.cr s a = 0 := by omega
  have e2 : d.y * L.cr s a = 0 := by omega
  constructor
  · rcases Int.mul_eq_zero.1 e1 with h | h <;> omega
  · rcases Int.mul_eq_zero.1 e2 with h | h <;> omega
theorem zero_of {c e : Int} (hc : 0 < c) (he : e ≤ 0) (h : 0 ≤ c * e) : e = 0 := by
  refine Classical.byContradiction fun hn => ?_
  have := Int.mul_pos hc (show 0 < -e by omega)
  rw [Int.mul_neg] at this
  omega
theorem nonpos {c e : Int} (hc : 0 ≤ c) (he : e ≤ 0) : c * e ≤ 0 := by
  have := Int.mul_nonneg hc (show 0 ≤ -e by omega)
  rw [Int.mul_neg] at this
  omega
theorem dir_way {N : L.Sq L.Pt} (hN : ∀ i, i < N.n → L.isNrm (N.g i) = true) {d : L.Pt} (hd : ¬ (d.x = 0 ∧ d.y = 0)) (h : ∀ i, i < N.n → d.x * (N.g i).x + d.y * (N.g i).y ≤ 0) : L.wayOk N = true := by
  cases hw : L.wayOk N with
  | true => rfl
  | false =>
    exfalso
    rcases steinitz ((wayOk_false hN).1 hw) with ⟨s, a, u, hs, ha, hu, h1, h2, h3⟩ | ⟨s, a, u, v, hs, ha, hu, hv, h1, h2, h3, h4, h5⟩
    · have e := dot3 d (N.g s) (N.g a) (N.g u)
      have m1 := nonpos (Int.le_of_lt h2) (h s hs)
      have m2 := nonpos (Int.le_of_lt h3) (h a ha)
      have m3 := nonpos (Int.le_of_lt h1) (h u hu)
      exact hd (dot_zero h1 (zero_of h2 (h s hs) (by omega)) (zero_of h3 (h a ha) (by omega)))
    · have e := dot3 d (N.g s) (N.g a) (N.g u)
      have hus : L.cr (N.g u) (N.g s) = 0 := by rw [cr_anti]; omega
      rw [hus, Int.zero_mul] at e
      have m1 := nonpos (Int.le_of_lt h2) (h s hs)
      have m3 := nonpos (Int.le_of_lt h1) (h u hu)
      have z1 := zero_of h2 (h s hs) (by omega)
      have e2 := dot3 d (N.g s) (N.g a) (N.g v)
      rw [z1, Int.mul_zero] at e2
      have m4 := nonpos (Int.le_of_lt h4) (h a ha)
      have m5 := nonpos (Int.le_of_lt h1) (h v hv)
      exact hd (dot_zero h1 z1 (zero_of h4 (h a ha) (by omega)))

theorem exL_0 {N : L.Sq L.Pt} {x : L.Sq Int} (h : L.exF N 0 = some x) : L.exL N = x := by
  unfold L.exL
  rw [first_at (f := L.exF N) (j := 0) (fun i hi => absurd hi (Nat.not_lt_zero _)) h (by omega)]; rfl
theorem exL_1 {N : L.Sq L.Pt} {x : L.Sq Int} (h0 : L.exF N 0 = none) (h : L.exF N 1 = some x) : L.exL N = x := by
  unfold L.exL
  rw [first_at (f := L.exF N) (j := 1) (fun i hi => (show i = 0 by omega) ▸ h0) h (by omega)]; rfl
def L.s1 (a : Nat) : L.Sq Int := L.snoc L.nilI (a : Int)
def L.s2 (a b : Nat) : L.Sq Int := L.snoc (L.s1 a) (b : Int)
def L.s3 (a b c : Nat) : L.Sq Int := L.snoc (L.s2 a b) (c : Int)
def L.s4 (a b c d : Nat) : L.Sq Int := L.snoc (L.s3 a b c) (d : Int)
theorem w_nil {n : Nat} : L.within0 L.nilI n := fun i hi => absurd hi (Nat.not_lt_zero _)
theorem ok_wayD {N : L.Sq L.Pt} (hN : L.nrms N) : (decide ((L.wayD N).x = 0) && decide ((L.wayD N).y = 0)) = !L.wayOk N := by
  cases hw : L.wayOk N with
  | false => rw [wayD_no hw]; rfl
  | true =>
    rcases Nat.eq_zero_or_pos N.n with h0 | h0
    · rw [(way_0 h0).1]; rfl
    · cases hs : (decide ((L.wayD N).x = 0) && decide ((L.wayD N).y = 0)) with
      | false => rfl
      | true =>
        exfalso
        rw [Bool.and_eq_true, decide_eq_true_eq, decide_eq_true_eq] at hs
        have hi : 0 ≤ L.wayI N := by
          unfold L.wayOk at hw
          rw [decide_eq_false (show ¬ N.n = 0 by omega), Bool.false_or] at hw
          exact of_decide_eq_true hw
        have hl : L.wayI N < 2 * N.n := by
          cases ha : L.anyB (2 * N.n) (fun c => L.free (L.cand N c) N) with
          | false =>
            have := idx_none (f := fun c => L.free (L.cand N c) N) (n := 2 * N.n) (fun j hj => by
              cases hb : L.free (L.cand N j) N with
              | false => rfl
              | true => rw [anyB_iff.2 ⟨j, hj, hb⟩] at ha; cases ha)
            unfold L.wayI at hi; omega
          | true =>
            obtain ⟨c, h1, h2, h3⟩ := least_true (anyB_iff.1 ha)
            have : L.wayI N = (c : Int) := idx_at (f := fun c => L.free (L.cand N c) N) h3 h2 h1
            omega
        have e : L.wayD N = L.cand N (L.wayI N).toNat := by
          unfold L.wayD
          rw [decide_eq_false (show ¬ N.n = 0 by omega), decide_eq_true hi]; rfl
        rw [e] at hs
        exact dir_ne (hN.2 _ (show (L.wayI N).toNat / 2 < N.n by omega)) _ hs
theorem w3 {a b c n : Nat} (ha : a < n) (hb : b < n) (hc : c < n) : L.within0 (L.s3 a b c) n := within0_snoc (within0_snoc (within0_snoc w_nil ha) hb) hc
theorem w4 {a b c d n : Nat} (ha : a < n) (hb : b < n) (hc : c < n) (hd : d < n) : L.within0 (L.s4 a b c d) n := within0_snoc (w3 ha hb hc) hd
def r1_Frees_p (d : L.Pt) (l : (L.Sq L.Pt)) : Prop := l.n ≤ 1000000 ∧ L.bd d ∧ ∀ i, i < l.n → L.bd (l.g i)
def r1_Frees_r (d : L.Pt) (l : (L.Sq L.Pt)) : SV := .bool (L.free d l && !(decide (d.x = 0) && decide (d.y = 0)))
def r1_Frees_s : List EV → Option (Prop × SV)
  | [.p (.agg [.int .i64 d_x, .int .i64 d_y]), .p (.sl 2 l_n l_g)] => some ((∀ i, i < l_n → l_g i = [.int .i64 ((ofPt (l_g i)).x), .int .i64 ((ofPt (l_g i)).y)]) ∧ r1_Frees_p (⟨d_x, d_y⟩ : L.Pt) (⟨l_n, fun i => ofPt (l_g i)⟩ : (L.Sq L.Pt)), r1_Frees_r (⟨d_x, d_y⟩ : L.Pt) (⟨l_n, fun i => ofPt (l_g i)⟩ : (L.Sq L.Pt)))
  | _ => none
abbrev r1_Frees_S : SE.Spec := (specO r1_Frees_s)
def r1_Frees_C : Cfg := { muts := [], frz := lookN [], specs := lookS [], loops := fun _ => none, iters := lookI [], rfs := lookR [], nils := lookM [] }
theorem r1_Frees_vc (d : L.Pt) (l : (L.Sq L.Pt)) (hp : r1_Frees_p d l) : vc Try.prog ({ r1_Frees_C with loops := lookL [(2, { T := Nat, keep := [1, 2], keepO := [], chg := fun i => [(5, .p (.int .i64 (i : Int)))], own := fun _ => [], inv := fun i => i ≤ l.n ∧ ∀ j, j < i → L.hit d (l.g j) = false, mu := fun i => l.n - i })], rfs := lookR [] }) (bodyOf Try.f11) (st0 Try.f11 [.p (.agg [.int .i64 d.x, .int .i64 d.y]), .p (.sl 2 l.n (fun i => [.int .i64 ((l.g i).x), .int .i64 ((l.g i).y)]))]) (retFn Try.prog Try.f11 (r1_Frees_r d l)) :=
  @Eq.mpr _ ((∃ (g : Nat), (0 : Int) = (↑g : Int) ∧ g ≤ l.n ∧ ∀ (j : Nat), j < g → L.hit d (l.g j) = false) ∧ ∀ (g : Nat), (g ≤ l.n ∧ ∀ (j : Nat), j < g → L.hit d (l.g j) = false) → (decide ((↑g : Int) < (↑l.n : Int)) = true → ((0 : Int) ≤ (↑g : Int) ∧ (↑g : Int) < (↑l.n : Int)) ∧ InK .i64 (d.x * (l.g (Int.toNat (↑g : Int))).x) ∧ ((0 : Int) ≤ (↑g : Int) ∧ (↑g : Int) <
 (↑l.n : Int)) ∧ InK .i64 (d.y * (l.g (Int.toNat (↑g : Int))).y) ∧ InK .i64 (d.x * (l.g (Int.toNat (↑g : Int))).x + d.y * (l.g (Int.toNat (↑g : Int))).y) ∧ (decide ((0 : Int) < d.x * (l.g (Int.toNat (↑g : Int))).x + d.y * (l.g (Int.toNat (↑g : Int))).y) = true → false = (L.free d l && !(decide (d.x = (0 : Int)) && decide (d.y =
 (0 : Int))))) ∧ (decide ((0 : Int) < d.x * (l.g (Int.toNat (↑g : Int))).x + d.y * (l.g (Int.toNat (↑g : Int))).y) = false → InK .i64 ((↑g : Int) + (1 : Int)) ∧ ∃ (g' : Nat), (↑g : Int) + (1 : Int) = (↑g' : Int) ∧ SV.ref [SV.int .i64 d.x, SV.int .i64 d.y] (nat_lit 0) = SV.ref [SV.int .i64 d.x, SV.int
 .i64 d.y] (nat_lit 0) ∧ (l.n = l.n ∧ ∀ (i : Nat), i < l.n → [SV.int .i64 (l.g i).x, SV.int .i64 (l.g i).y] = [SV.int .i64 (l.g i).x, SV.int .i64 (l.g i).y]) ∧ (g' ≤ l.n ∧ ∀ (j : Nat), j < g' → L.hit d (l.g j) = false) ∧ l.n - g' < l.n - g)) ∧ (decide ((↑g : Int) < (↑l.n : Int)) = false →
 (!(decide (d.x = (0 : Int)) && decide (d.y = (0 : Int)))) = (L.free d l && !(decide (d.x = (0 : Int)) && decide (d.y = (0 : Int)))))) (by kernel_rfl) (by
    obtain ⟨hn, hd, hl⟩ := hp
    refine ⟨⟨(0 : Nat), rfl, Nat.zero_le _, fun j hj => absurd hj (Nat.not_lt_zero _)⟩, fun g hg => ⟨fun hlt => ?_, fun hge => ?_⟩⟩
    · have hb : (g : Int) < (l.n : Int) := of_decide_eq_true hlt
      have e0 : ((g : Int)).toNat = g := by omega
      rw [e0]
      have h2 := hl g (by omega)
      unfold L.bd at hd h2
      have m1 := mul_bd (a := d.x) (b := (l.g g).x) (m := 4000000) (n := 4000000) (by omega) (by omega) (by omega) (by omega)
      have m2 := mul_bd (a := d.y) (b := (l.g g).y) (m := 4000000) (n := 4000000) (by omega) (by omega) (by omega) (by omega)
      refine ⟨⟨by omega, hb⟩, InK.of (by omega) (by omega), ⟨by omega, hb⟩, InK.of (by omega) (by omega), InK.of (by omega) (by omega), fun h1 => ?_, fun h1 => ⟨InK.of (by omega) (by omega), g + 1, by omega, rfl, ⟨rfl, fun _ _ => rfl⟩, ⟨by omega, fun j hj => ?_⟩, by omega⟩⟩
      · have h1 : L.hit d (l.g g) = true := h1
        rw [free_false.2 ⟨g, by omega, h1⟩]; rfl
      · rcases Nat.lt_succ_iff_lt_or_eq.1 hj with h' | rfl
        · exact hg.2 j h'
        · exact h1
    · have hb : ¬ (g : Int) < (l.n : Int) := of_decide_eq_false hge
      have : L.free d l = true := by
        cases hf : L.free d l with
        | true => rfl
        | false =>
          obtain ⟨j, hj, h1⟩ := free_false.1 hf
          rw [hg.2 j (by omega)] at h1; cases h1
      rw [this]; rfl)
theorem r1_Frees_ok : SpecOk Try.prog 11 r1_Frees_S := fnX Try.func11 (c := bodyOf Try.f11) (by kernel_rfl) mixed (fun args p r hs hp => by
  unfold r1_Frees_s at hs
  split at hs
  · cases hs; exact ⟨_, _, r1_Frees_vc _ _ hp.2, (.same _ (.p (.sl hp.1) .nil)), ⟨show SpecsL Try.prog _ from SpecsL.nil, rfl, ⟨show ItersL Try.prog _ from ItersL.nil, (TrsOk.none (fun _ => rfl))⟩⟩⟩
  · cases hs)
theorem r1_Frees_en : Enters Try.prog 11 := fun args w => by kernel_rfl
end Go.Proofs.Ytdlhpdidgfgomaa

namespace Go.Proofs.Ytdlhpdidgfgomaa
open Go.SE Go.RowKit
set_option maxRecDepth 100000
set_option maxHeartbeats 4000000
set_option linter.unusedVariables false
attribute [local irreducible] vc

def L.lidx (k n : Int) : Int := Int.tmod (bif decide (k < 0) then 0 - (k + 1) else k) n
def L.nm (l : L.Sq L.Pt) : L.Sq L.Pt := L.pck l (L.exL l)
def L.msk (g : Int) : Int := 1 + L.iand g 7
theorem lidx_bd {k n : Int} (h : 0 < n) : 0 ≤ L.lidx k n ∧ L.lidx k n < n := by
  unfold L.lidx
  have : 0 ≤ (bif decide (k < 0) then 0 - (k + 1) else k) := by
    by_cases hk : k < 0
    · rw [decide_eq_true hk]; show 0 ≤ 0 - (k + 1); omega
    · rw [decide_eq_false hk]; show 0 ≤ k; omega
  exact ⟨Int.tmod_nonneg _ this, Int.tmod_lt_of_pos _ h⟩
theorem iand7 (g : Int) : 0 ≤ L.iand g 7 ∧ L.iand g 7 ≤ 7 := by
  have h : (BitVec.ofInt 64 g &&& BitVec.ofInt 64 7).toNat ≤ 7 := by
    rw [BitVec.toNat_and]
    exact Nat.and_le_right
  have e : L.iand g 7 = ((BitVec.ofInt 64 g &&& BitVec.ofInt 64 7).toNat : Int) := by
    unfold L.iand
    exact InK.wrap (k := .i64) (InK.of (by omega) (by omega))
  omega
theorem wayD_free {N : L.Sq L.Pt} (hN : L.nrms N) (hw : L.wayOk N = true) : L.free (L.wayD N) N = true ∧ ¬ ((L.wayD N).x = 0 ∧ (L.wayD N).y = 0) := by
  have h2 := ok_wayD hN
  rw [hw, Bool.not_true, Bool.and_eq_false_iff, decide_eq_false_iff_not, decide_eq_false_iff_not] at h2
  refine ⟨?_, Decidable.not_and_iff_or_not.2 h2⟩
  rcases Nat.eq_zero_or_pos N.n with h0 | h0
  · unfold L.free; rw [h0]; rfl
  · unfold L.wayOk at hw
    rw [decide_eq_false (show ¬ N.n = 0 by omega), Bool.false_or] at hw
    have hi := of_decide_eq_true hw
    unfold L.wayD
    rw [decide_eq_false (show ¬ N.n = 0 by omega), decide_eq_true hi]
    show L.free (L.cand N (L.wayI N).toNat) N = true
    rcases idx_cases (f := fun c => L.free (L.cand N c) N) (n := 2 * N.n) with ⟨h1, _⟩ | ⟨i, _, h1, h3, _⟩
    · have h1 : L.wayI N = -1 := h1
      omega
    · have h1 : L.wayI N = (i : Int) := h1
      rw [h1, Int.toNat_natCast]; exact h3
def L.subPt (M l : L.Sq L.Pt) : Prop := ∀ i, i < M.n → ∃ j, j < l.n ∧ M.g i = l.g j
theorem sub_nrm {M l : L.Sq L.Pt} (hs : L.subPt M l) (hN : L.nrms l) : ∀ i, i < M.n → L.isNrm (M.g i) = true := fun i hi => by
  obtain ⟨j, hj, e⟩ := hs i hi
  rw [e]; exact hN.2 j hj
theorem sub_bad {M l : L.Sq L.Pt} (hs : L.subPt M l) (hN : L.nrms l) (hn : M.n ≤ 24) : L.exBad M = false := by
  unfold L.exBad
  rw [decide_eq_false (show ¬ (24 : Int) < (M.n : Int) by omega)]
  cases ha : L.anyB M.n (fun i => !L.isNrm (M.g i)) with
  | false => rfl
  | true =>
    obtain ⟨i, hi, h1⟩ := anyB_iff.1 ha
    rw [sub_nrm hs hN i hi] at h1; cases h1
theorem sub_way {M l : L.Sq L.Pt} (hs : L.subPt M l) (hN : L.nrms l) (hw : L.wayOk l = true) : L.wayOk M = true := by
  obtain ⟨hf, hd⟩ := wayD_free hN hw
  refine dir_way (sub_nrm hs hN) hd fun i hi => ?_
  obtain ⟨j, hj, e⟩ := hs i hi
  rw [e]
  refine Int.not_lt.1 fun hc => ?_
  rw [free_false.2 ⟨j, hj, decide_eq_true hc⟩] at hf; cases hf
theorem exE_0 {M : L.Sq L.Pt} (hb : L.exBad M = false) (hw : L.wayOk M = true) : L.exE M = 0 := by unfold L.exE; rw [hb, hw]; rfl
theorem few_ok {M l : L.Sq L.Pt} (hs : L.subPt M l) (hN : L.nrms l) (h : M.n ≤ 2 ∨ (M.n ≤ 3 ∧ L.exF l 0 = none)) : L.wayOk M = true := by
  cases hw : L.wayOk M with
  | true => rfl
  | false =>
    exfalso
    rcases steinitz ((wayOk_false (sub_nrm hs hN)).1 hw) with ⟨a, b, c, ha, hb, hc, ht⟩ | ⟨a, b, c, d, ha, hb, hc, hd, ht⟩
    · obtain ⟨n1, n2, n3⟩ := tri_ne ht
      rcases h with h | ⟨_, h⟩
      · omega
      · obtain ⟨ja, qa, ea⟩ := hs a ha
        obtain ⟨jb, qb, eb⟩ := hs b hb
        obtain ⟨jc, qc, ec⟩ := hs c hc
        rw [ea, eb, ec] at ht
        exact tri_exF hN.2 qa qb qc ht h
    · obtain ⟨⟨n1, n2, n3⟩, n4, n5, n6⟩ := crs_ne ht
      omega
def L.inc (x : L.Sq Int) : Prop := ∀ i, i + 1 < x.n → x.g i < x.g (i + 1)
theorem snoc_inc {l : L.Sq Int} {a : Nat} (h : L.inc l) (hb : ∀ i, i < l.n → l.g i < (a : Int)) : L.inc (L.snoc l (a : Int)) := fun i hi => by
  have hi : i + 1 < l.n + 1 := hi
  show (bif decide (i < l.n) then l.g i else (a : Int)) < (bif decide (i + 1 < l.n) then l.g (i + 1) else (a : Int))
  rw [decide_eq_true (show i < l.n by omega)]
  by_cases h1 : i + 1 < l.n
  · rw [decide_eq_true h1]; exact h i h1
  · rw [decide_eq_false h1]; exact hb i (by omega)
theorem grp_inc {N : L.Sq L.Pt} : ∀ {d : Nat} {l : L.Sq Int} {fr : Nat} {x : L.Sq Int}, L.within0 l N.n → L.inc l → (∀ i, i < l.n → l.g i < (fr : Int)) → L.grp N d l fr = some x → L.within0 x N.n ∧ L.inc x ∧ L.wayOk (L.pck N x) = false
  | 0, l, fr, x, hw, hi, _, h => by
    rw [L.grp] at h
    cases hk : L.wayOk (L.pck N l) with
    | true => rw [hk] at h; cases h
    | false => rw [hk] at h; cases h; exact ⟨hw, hi, hk⟩
  | d + 1, l, fr, x, hw, hi, hb, h => by
    rw [L.grp] at h
    obtain ⟨j, h1, h2, _⟩ := first_some h
    refine grp_inc (within0_snoc hw (show fr + j < N.n by omega)) (snoc_inc hi fun i hi' => by have := hb i hi'; omega) (fun i hi' => ?_) h2
    have hi' : i < l.n + 1 := hi'
    show (bif decide (i < l.n) then l.g i else ((fr + j : Nat) : Int)) < ((fr + j + 1 : Nat) : Int)
    by_cases h3 : i < l.n
    · rw [decide_eq_true h3]; have := hb i h3; show l.g i < _; omega
    · rw [decide_eq_false h3]; show ((fr + j : Nat) : Int) < _; omega
theorem blk_facts {l : L.Sq L.Pt} (hN : L.nrms l) (hb : L.exBad l = false) (hw : L.wayOk l = false) : L.exE l = 13 ∧ L.exN l = (L.exL l).n ∧ L.exD l = ⟨0, 0⟩ ∧ (L.exN l = 3 ∨ (L.exN l = 4 ∧ L.exF l 0 = none)) ∧ L.within0 (L.exL l) l.n ∧ L.inc (L.exL l) ∧ L.wayOk (L.nm l) = false := by
  have hE : L.exE l = 13 := by unfold L.exE; rw [hb, hw]; rfl
  have hn : L.exN l = (L.exL l).n := by unfold L.exN; rw [hb, hw]; rfl
  have hD : L.exD l = ⟨0, 0⟩ := by unfold L.exD; rw [hb]; exact wayD_no hw
  refine ⟨hE, hn, hD, ?_⟩
  rw [hn]
  have inc0 : L.inc L.nilI := fun i hi => absurd hi (Nat.not_lt_zero _)
  have b0 : ∀ i, i < L.nilI.n → L.nilI.g i < ((0 : Nat) : Int) := fun i hi => absurd hi (Nat.not_lt_zero _)
  cases hx : L.exF l 0 with
  | some x =>
    rw [exL_0 hx]
    obtain ⟨q1, q2, q3⟩ := grp_inc (N := l) (d := 3 + 0) w_nil inc0 b0 hx
    refine ⟨.inl (grp_len (N := l) (d := 3 + 0) (l := L.nilI) (fr := 0) hx), q1, q2, ?_⟩
    unfold L.nm; rw [exL_0 hx]; exact q3
  | none =>
    cases hy : L.exF l 1 with
    | none =>
      rcases exit_some hN.2 hw with h | h
      · exact absurd hx h
      · exact absurd hy h
    | some x =>
      rw [exL_1 hx hy]
      obtain ⟨q1, q2, q3⟩ := grp_inc (N := l) (d := 3 + 1) w_nil inc0 b0 hy
      refine ⟨.inr ⟨grp_len (N := l) (d := 3 + 1) (l := L.nilI) (fr := 0) hy, rfl⟩, q1, q2, ?_⟩
      unfold L.nm; rw [exL_1 hx hy]; exact q3
theorem less_at {f : Nat → L.Pt} {A B c : Nat} {g0 : Nat → List SV} {i : Nat} (hi : i < 0 + A + B) : ∃ j, (j < A ∨ (c ≤ j ∧ j < c + B)) ∧ appGet (0 + A) (appGet 0 g0 (fun i => [SV.int .i64 (f (0 + i)).x, SV.int .i64 (f (0 + i)).y])) (fun i => [SV.int .i64 (f (c + i)).x, SV.int .i64 (f (c + i)).y]) i = [SV.int .i64 (f j).x, SV.int .i64 (f j).y] := by
  unfold appGet
  by_cases h : i < 0 + A
  · refine ⟨i, .inl (by omega), ?_⟩
    rw [if_pos h, if_neg (Nat.not_lt_zero _)]
    show [SV.int .i64 (f (0 + i)).x, SV.int .i64 (f (0 + i)).y] = _
    rw [Nat.zero_add]
  · exact ⟨c + (i - (0 + A)), .inr ⟨by omega, by omega⟩, by rw [if_neg h]⟩
theorem less_sub {f : Nat → L.Pt} {n A B c : Nat} (hA : A ≤ n) (hB : c + B ≤ n) : (∀ i, i < 0 + A + B → appGet (0 + A) (appGet 0 (fun _ => []) (fun i => [SV.int .i64 (f (0 + i)).x, SV.int .i64 (f (0 + i)).y])) (fun i => [SV.int .i64 (f (c + i)).x, SV.int .i64 (f (c + i)).y]) i = [SV.int .i64 (ofPt (appGet (0 + A) (appGet 0 (fun _ => []) (fun i => [SV.int .i64 (f (0 + i)).x, SV.int .i64 (f (0 + i)).y])) (fun i => [SV.int .i64 (f (c + i)).x, SV.int .i64 (f (c + i)).y]) i)).x, SV.int .i64 (ofPt (appGet (0 + A) (appGet 0 (fun _ => []) (fun i => [SV.int .i64 (f (0 + i)).x, SV.int .i64 (f (0 + i)).y])) (fun i => [SV.int .i64 (f (c + i)).x, SV.int .i64 (f (c + i)).y]) i)).y]) ∧
    L.subPt ⟨0 + A + B, fun i => ofPt (appGet (0 + A) (appGet 0 (fun _ => []) (fun i => [SV.int .i64 (f (0 + i)).x, SV.int .i64 (f (0 + i)).y])) (fun i => [SV.int .i64 (f (c + i)).x, SV.int .i64 (f (c + i)).y]) i)⟩ ⟨n, f⟩ := by
  constructor
  · intro i hi
    obtain ⟨j, _, e⟩ := less_at (f := f) (c := c) (g0 := fun _ => []) hi
    rw [e]; rfl
  · intro i hi
    obtain ⟨j, hj, e⟩ := less_at (f := f) (c := c) (g0 := fun _ => []) hi
    refine ⟨j, show j < n by omega, ?_⟩
    show ofPt _ = f j
    rw [e]; rfl
theorem sub_trans {A B C : L.Sq L.Pt} (h : L.subPt A B) (k : L.subPt B C) : L.subPt A C := fun i hi => by
  obtain ⟨j, hj, e⟩ := h i hi
  obtain ⟨m, hm, e2⟩ := k j hj
  exact ⟨m, hm, e.trans e2⟩
theorem nm_sub {l : L.Sq L.Pt} (hw : L.within0 (L.exL l) l.n) : L.subPt (L.nm l) l := fun i hi => ⟨((L.exL l).g i).toNat, by have := hw i hi; omega, rfl⟩
def w_index_p (k : Int) (n : Int) : Prop := InK .i64 k ∧ 0 < n
def w_index_r (k : Int) (n : Int) : SV := .int .i64 (L.lidx k n)
def w_index_s : List EV → Option (Prop × SV)
  | [.p (.int .i64 k), .p (.int .i64 n)] => some (w_index_p k n, w_index_r k n)
  | _ => none
abbrev w_index_S : SE.Spec := (specO w_index_s)
def w_index_C : Cfg := { muts := [], frz := lookN [], specs := lookS [], loops := lookL [], iters := lookI [], rfs := lookR [], nils := lookM [] }
theorem w_index_vc (k : Int) (n : Int) (hp : w_index_p k n) : vc Try.prog (w_index_C) (bodyOf Try.f12) (st0 Try.f12 [.p (.int .i64 k), .p (.int .i64 n)]) (retFn Try.prog Try.f12 (w_index_r k n)) :=
  @Eq.mpr _ ((decide (k < (0 : Int)) = true → InK .i64 (k + (1 : Int)) ∧ InK .i64 ((0 : Int) - (k + (1 : Int))) ∧ n ≠ (0 : Int) ∧ Int.tmod ((0 : Int) - (k + (1 : Int))) n = L.lidx k n) ∧ (decide (k < (0 : Int)) = false → n ≠ (0 : Int) ∧ Int.tmod k n = L.lidx k n)) (by kernel_rfl) (by
    obtain ⟨⟨h1, h2⟩, hn⟩ := hp
    refine ⟨fun h => ?_, fun h => ?_⟩
    · have h' := of_decide_eq_true h
      unfold L.lidx
      rw [h]
      exact ⟨InK.of (by omega) (by omega), InK.of (by omega) (by omega), by omega, rfl⟩
    · unfold L.lidx
      rw [h]
      exact ⟨by omega, rfl⟩)
theorem w_index_ok : SpecOk Try.prog 12 w_index_S := fnX Try.func12 (c := bodyOf Try.f12) (by kernel_rfl) mixed (fun args p r hs hp => by
  unfold w_index_s at hs
  split at hs
  · cases hs; exact ⟨_, _, w_index_vc _ _ hp, (.same _ (.same _ .nil)), ⟨show SpecsL Try.prog _ from SpecsL.nil, rfl, ⟨show ItersL Try.prog _ from ItersL.nil, (TrsOk.none (fun _ => rfl))⟩⟩⟩
  · cases hs)
theorem w_index_en : Enters Try.prog 12 := fun args w => by kernel_rfl
def w_Directions_p (l : (L.Sq L.Pt)) (grid : Int) (k : Int) : Prop := l.n ≤ 9223372036854775807 ∧ InK .i64 grid ∧ InK .i64 k
def w_Directions_r (l : (L.Sq L.Pt)) (grid : Int) (k : Int) : SV := .bool true
def w_Directions_s : List EV → Option (Prop × SV)
  | [.p (.sl 2 l_n l_g), .p (.int .i64 grid), .p (.int .i64 k)] => some ((∀ i, i < l_n → l_g i = [.int .i64 ((ofPt (l_g i)).x), .int .i64 ((ofPt (l_g i)).y)]) ∧ w_Directions_p (⟨l_n, fun i => ofPt (l_g i)⟩ : (L.Sq L.Pt)) grid k, w_Directions_r (⟨l_n, fun i => ofPt (l_g i)⟩ : (L.Sq L.Pt)) grid k)
  | _ => none
abbrev w_Directions_S : SE.Spec := (specO w_Directions_s)
def w_Directions_C : Cfg := { muts := [8, 13, 23], frz := lookN [(14, [65]), (40, [178])], specs := lookS [(7, w_awake_S), (8, p_Exit_S), (11, r1_Frees_S), (12, w_index_S)], loops := fun _ => none, iters := lookI [], rfs := lookR [], nils := lookM [(12, [(12, 65, 25, 2)]), (19, [(16, 140, 25, 2)]), (38, [(22, 178, 25, 2)])] }
theorem w_Directions_vc (l : (L.Sq L.Pt)) (grid : Int) (k : Int) (hp : w_Directions_p l grid k) : vc Try.prog ({ w_Directions_C with loops := lookL [(20, { T := Nat, keep := [0, 1, 7, 9, 16], keepO := [8], chg := fun i => [(17, .p (.int .i64 (i : Int)))], own := fun i => [(140, .row 25 2 i (fun j => [.int .i64 (((L.nm l).g j).x), .int .i64 (((L.nm l).g j).y)]))], inv := fun i => i ≤ L.exN l, mu := fun i => L.exN l - i }), (27, { T := Nat, keep := [7, 16, 18], keepO := [140], chg := fun i => [(19, .p (.int .i64 (0 - L.msk grid + (i : Int))))], own := fun _ => [], inv := fun i => (i : Int) ≤ 2 * L.msk grid + 1, mu := fun i => (2 * L.msk grid + 1).toNat - i }), (30, { T := Nat × Nat, keep := [7, 16, 18, 19], keepO := [140], tie := fun i => [(19, .int .i64 (0 - L.msk grid + (i.1 : Int)))], chg := fun i => [(20, .p (.int .i64 (0 - L.msk grid + (i.2 : Int))))], own := fun _ => [], inv := fun i => (i.1 : Int) ≤ 2 * L.msk grid ∧ (i.2 : Int) ≤ 2 * L.msk grid + 1, mu := fun i => (2 * L.msk grid + 1).toNat - i.2 }), (35, { T := Nat, keep := [7, 16], keepO := [140], chg := fun i => [(21, .p (.int .i64 (i : Int)))], own := fun _ => [], inv := fun i => i ≤ L.exN l, mu := fun i => L.exN l - i })], rfs := lookR [] }) (bodyOf Try.f4) (st0 Try.f4 [.p (.sl 2 l.n (fun i => [.int .i64 ((l.g i).x), .int .i64 ((l.g i).y)])), .p (.int .i64 grid), .p (.int .i64 k)]) (retFn Try.prog Try.f4 (w_Directions_r l grid k)) :=
  @Eq.mpr _ (True ∧ ((∀ (i : Nat), i < l.n → [SV.int .i64 (l.g i).x, SV.int .i64 (l.g i).y] = [SV.int .i64 (l.g i).x, SV.int .i64 (l.g i).y]) ∧ l.n ≤ (9223372036854775807 : Nat) ∧ (L.exBad (L.Sq.mk l.n fun (i : Nat) ↦ l.g i) = false → L.wayOk (L.Sq.mk l.n fun (i : Nat) ↦ l.g i) = false → L.isNo (L.first (L.exF (L.Sq.mk l.n fun (i : Nat)
 ↦ l.g i)) (22 : Nat)) = false)) ∧ ((bif decide (L.exE (L.Sq.mk l.n fun (i : Nat) ↦ l.g i) = (1 : Int)) then true else decide ((16 : Int) < (↑l.n : Int))) = true → true = true) ∧ ((bif decide (L.exE (L.Sq.mk l.n fun (i : Nat) ↦ l.g i) = (1 : Int)) then true else decide ((16 : Int) < (↑l.n : Int))) = false → (decide
 (L.exE (L.Sq.mk l.n fun (i : Nat) ↦ l.g i) = (0 : Int)) = true → ((∀ (i : Nat), i < l.n → [SV.int .i64 (l.g i).x, SV.int .i64 (l.g i).y] = [SV.int .i64 (l.g i).x, SV.int .i64 (l.g i).y]) ∧ l.n ≤ (1000000 : Nat) ∧ L.bd (L.exD (L.Sq.mk l.n fun (i : Nat) ↦ l.g i)) ∧ ∀ (i : Nat), i < l.n → L.bd (l.g i)) ∧ ((bif !(L.free (L.exD
 (L.Sq.mk l.n fun (i : Nat) ↦ l.g i)) (L.Sq.mk l.n fun (i : Nat) ↦ l.g i) && !(decide ((L.exD (L.Sq.mk l.n fun (i : Nat) ↦ l.g i)).x = (0 : Int)) && decide ((L.exD (L.Sq.mk l.n fun (i : Nat) ↦ l.g i)).y = (0 : Int)))) then true else !decide ((↑(L.exN (L.Sq.mk l.n fun (i : Nat) ↦ l.g i)) : Int) = (0 : Int))) = true → false = true) ∧ ((bif !(L.free
 (L.exD (L.Sq.mk l.n fun (i : Nat) ↦ l.g i)) (L.Sq.mk l.n fun (i : Nat) ↦ l.g i) && !(decide ((L.exD (L.Sq.mk l.n fun (i : Nat) ↦ l.g i)).x = (0 : Int)) && decide ((L.exD (L.Sq.mk l.n fun (i : Nat) ↦ l.g i)).y = (0 : Int)))) then true else !decide ((↑(L.exN (L.Sq.mk l.n fun (i : Nat) ↦ l.g i)) : Int) = (0 : Int))) = false → (decide ((↑l.n : Int) =
 (0 : Int)) = true → (bif true then decide ((L.exD (L.Sq.mk l.n fun (i : Nat) ↦ l.g i)).x = (1 : Int)) && decide ((L.exD (L.Sq.mk l.n fun (i : Nat) ↦ l.g i)).y = (0 : Int)) else false) = true) ∧ (decide ((↑l.n : Int) = (0 : Int)) = false → (InK .i64 k ∧ (0 : Int) < (↑l.n : Int)) ∧ ((0 : Int) ≤ (0 : Int) ∧ (0 : Int) ≤ L.lidx k
 (↑l.n : Int) ∧ L.lidx k (↑l.n : Int) ≤ (↑l.n : Int)) ∧ (nat_lit 0 + Int.toNat (L.lidx k (↑l.n : Int) - (0 : Int))) * nat_lit 16 ≤ (140737488355328 : Nat) ∧ InK .i64 (L.lidx k (↑l.n : Int) + (1 : Int)) ∧ ((0 : Int) ≤ L.lidx k (↑l.n : Int) + (1 : Int) ∧ L.lidx k (↑l.n : Int) + (1 : Int) ≤ (↑l.n : Int) ∧ (↑l.n : Int) ≤ (↑l.n : Int)) ∧ (nat_lit 0 + Int.toNat (L.lidx k (↑l.n : Int) - (0
 : Int)) + Int.toNat ((↑l.n : Int) - (L.lidx k (↑l.n : Int) + (1 : Int)))) * nat_lit 16 ≤ (140737488355328 : Nat) ∧ ((∀ (i : Nat), i < nat_lit 0 + Int.toNat (L.lidx k (↑l.n : Int) - (0 : Int)) + Int.toNat ((↑l.n : Int) - (L.lidx k (↑l.n : Int) + (1 : Int))) → appGet (nat_lit 0 + Int.toNat (L.lidx k (↑l.n : Int) - (0 : Int))) (appGet (nat_lit 0) (fun (x : Nat) ↦ []) fun (i : Nat) ↦
 [SV.int .i64 (l.g (Int.toNat (0 : Int) + i)).x, SV.int .i64 (l.g (Int.toNat (0 : Int) + i)).y]) (fun (i : Nat) ↦ [SV.int .i64 (l.g (Int.toNat (L.lidx k (↑l.n : Int) + (1 : Int)) + i)).x, SV.int .i64 (l.g (Int.toNat (L.lidx k (↑l.n : Int) + (1 : Int)) + i)).y]) i = [SV.int .i64 (ofPt (appGet (nat_lit 0 + Int.toNat
 (L.lidx k (↑l.n : Int) - (0 : Int))) (appGet (nat_lit 0) (fun (x : Nat) ↦ []) fun (i : Nat) ↦ [SV.int .i64 (l.g (Int.toNat (0 : Int) + i)).x, SV.int .i64 (l.g (Int.toNat (0 : Int) + i)).y]) (fun (i : Nat) ↦ [SV.int .i64 (l.g (Int.toNat (L.lidx k (↑l.n : Int) + (1 : Int)) + i)).x, SV.int .i64 (l.g (Int.toNat (L.lidx k (↑l.n :
 Int) + (1 : Int)) + i)).y]) i)).x, SV.int .i64 (ofPt (appGet (nat_lit 0 + Int.toNat (L.lidx k (↑l.n : Int) - (0 : Int))) (appGet (nat_lit 0) (fun (x : Nat) ↦ []) fun (i : Nat) ↦ [SV.int .i64 (l.g (Int.toNat (0 : Int) + i)).x, SV.int .i64 (l.g (Int.toNat (0 : Int) + i)).y]) (fun (i : Nat) ↦ [SV.int .i64 (l.g (Int.toNat
 (L.lidx k (↑l.n : Int) + (1 : Int)) + i)).x, SV.int .i64 (l.g (Int.toNat (L.lidx k (↑l.n : Int) + (1 : Int)) + i)).y]) i)).y]) ∧ nat_lit 0 + Int.toNat (L.lidx k (↑l.n : Int) - (0 : Int)) + Int.toNat ((↑l.n : Int) - (L.lidx k (↑l.n : Int) + (1 : Int))) ≤ (9223372036854775807 : Nat) ∧ (L.exBad (L.Sq.mk (nat_lit 0 + Int.toNat (L.lidx k (↑l.n : Int) - (0 : Int)) + Int.toNat ((↑l.n :
 Int) - (L.lidx k (↑l.n : Int) + (1 : Int)))) fun (i : Nat) ↦ ofPt (appGet (nat_lit 0 + Int.toNat (L.lidx k (↑l.n : Int) - (0 : Int))) (appGet (nat_lit 0) (fun (x : Nat) ↦ []) fun (i : Nat) ↦ [SV.int .i64 (l.g (Int.toNat (0 : Int) + i)).x, SV.int .i64 (l.g (Int.toNat (0 : Int) + i)).y]) (fun (i : Nat) ↦ [SV.int .i64 (l.g (Int.toNat (L.lidx
 k (↑l.n : Int) + (1 : Int)) + i)).x, SV.int .i64 (l.g (Int.toNat (L.lidx k (↑l.n : Int) + (1 : Int)) + i)).y]) i)) = false → L.wayOk (L.Sq.mk (nat_lit 0 + Int.toNat (L.lidx k (↑l.n : Int) - (0 : Int)) + Int.toNat ((↑l.n : Int) - (L.lidx k (↑l.n : Int) + (1 : Int)))) fun (i : Nat) ↦ ofPt (appGet (nat_lit 0 + Int.toNat (L.lidx k (↑l.n : Int) - (0 : Int))) (appGet
 (nat_lit 0) (fun (x : Nat) ↦ []) fun (i : Nat) ↦ [SV.int .i64 (l.g (Int.toNat (0 : Int) + i)).x, SV.int .i64 (l.g (Int.toNat (0 : Int) + i)).y]) (fun (i : Nat) ↦ [SV.int .i64 (l.g (Int.toNat (L.lidx k (↑l.n : Int) + (1 : Int)) + i)).x, SV.int .i64 (l.g (Int.toNat (L.lidx k (↑l.n : Int) + (1 : Int)) + i)).y]) i)) = false → L.isNo
 (L.first (L.exF (L.Sq.mk (nat_lit 0 + Int.toNat (L.lidx k (↑l.n : Int) - (0 : Int)) + Int.toNat ((↑l.n : Int) - (L.lidx k (↑l.n : Int) + (1 : Int)))) fun (i : Nat) ↦ ofPt (appGet (nat_lit 0 + Int.toNat (L.lidx k (↑l.n : Int) - (0 : Int))) (appGet (nat_lit 0) (fun (x : Nat) ↦ []) fun (i : Nat) ↦ [SV.int .i64 (l.g (Int.toNat (0 : Int) + i)).x, SV.int .i64
 (l.g (Int.toNat (0 : Int) + i)).y]) (fun (i : Nat) ↦ [SV.int .i64 (l.g (Int.toNat (L.lidx k (↑l.n : Int) + (1 : Int)) + i)).x, SV.int .i64 (l.g (Int.toNat (L.lidx k (↑l.n : Int) + (1 : Int)) + i)).y]) i))) (22 : Nat)) = false)) ∧ (bif true then decide (L.exE (L.Sq.mk (nat_lit 0 + Int.toNat (L.lidx k (↑l.n : Int) - (0 : Int)) + Int.toNat ((↑l.n :
 Int) - (L.lidx k (↑l.n : Int) + (1 : Int)))) fun (i : Nat) ↦ ofPt (appGet (nat_lit 0 + Int.toNat (L.lidx k (↑l.n : Int) - (0 : Int))) (appGet (nat_lit 0) (fun (x : Nat) ↦ []) fun (i : Nat) ↦ [SV.int .i64 (l.g (Int.toNat (0 : Int) + i)).x, SV.int .i64 (l.g (Int.toNat (0 : Int) + i)).y]) (fun (i : Nat) ↦ [SV.int .i64 (l.g (Int.toNat (L.lidx
 k (↑l.n : Int) + (1 : Int)) + i)).x, SV.int .i64 (l.g (Int.toNat (L.lidx k (↑l.n : Int) + (1 : Int)) + i)).y]) i)) = (0 : Int)) else false) = true))) ∧ (decide (L.exE (L.Sq.mk l.n fun (i : Nat) ↦ l.g i) = (0 : Int)) = false → ((bif bif bif !decide (L.exE (L.Sq.mk l.n fun (i : Nat) ↦ l.g i) = (13 : Int)) then true else !(decide
 ((L.exD (L.Sq.mk l.n fun (i : Nat) ↦ l.g i)).x = (0 : Int)) && decide ((L.exD (L.Sq.mk l.n fun (i : Nat) ↦ l.g i)).y = (0 : Int))) then true else decide ((↑(L.exN (L.Sq.mk l.n fun (i : Nat) ↦ l.g i)) : Int) < (3 : Int)) then true else decide ((4 : Int) < (↑(L.exN (L.Sq.mk l.n fun (i : Nat) ↦ l.g i)) : Int))) = true → false = true) ∧ ((bif bif
 bif !decide (L.exE (L.Sq.mk l.n fun (i : Nat) ↦ l.g i) = (13 : Int)) then true else !(decide ((L.exD (L.Sq.mk l.n fun (i : Nat) ↦ l.g i)).x = (0 : Int)) && decide ((L.exD (L.Sq.mk l.n fun (i : Nat) ↦ l.g i)).y = (0 : Int))) then true else decide ((↑(L.exN (L.Sq.mk l.n fun (i : Nat) ↦ l.g i)) : Int) < (3 : Int)) then true else decide
 ((4 : Int) < (↑(L.exN (L.Sq.mk l.n fun (i : Nat) ↦ l.g i)) : Int))) = false → (∃ (g : Nat), (0 : Int) = (↑g : Int) ∧ (nat_lit 0 = g ∧ ∀ (i : Nat), i < nat_lit 0 → [] = [SV.int .i64 ((L.nm l).g i).x, SV.int .i64 ((L.nm l).g i).y]) ∧ g ≤ L.exN l) ∧ ∀ (g : Nat), g ≤ L.exN l → (decide ((↑g : Int) < (↑(L.exN (L.Sq.mk l.n fun (i : Nat) ↦ l.g i)) : Int)) =
 true → ((0 : Int) ≤ (↑g : Int) ∧ (↑g : Int) < (↑(L.exN (L.Sq.mk l.n fun (i : Nat) ↦ l.g i)) : Int)) ∧ ((!decide ((L.exL (L.Sq.mk l.n fun (i : Nat) ↦ l.g i)).g (Int.toNat (↑g : Int)) < (0 : Int))) = true → (0 : Int) ≤ (↑g : Int) ∧ (↑g : Int) < (↑(L.exN (L.Sq.mk l.n fun (i : Nat) ↦ l.g i)) : Int)) ∧ (((!bif decide ((L.exL (L.Sq.mk l.n fun (i : Nat) ↦ l.g i)).g
 (Int.toNat (↑g : Int)) < (0 : Int)) then true else decide ((↑l.n : Int) ≤ (L.exL (L.Sq.mk l.n fun (i : Nat) ↦ l.g i)).g (Int.toNat (↑g : Int)))) && decide ((0 : Int) < (↑g : Int))) = true → (0 : Int) ≤ (↑g : Int) ∧ (↑g : Int) < (↑(L.exN (L.Sq.mk l.n fun (i : Nat) ↦ l.g i)) : Int)) ∧ (((!bif decide ((L.exL (L.Sq.mk l.n fun (i : Nat) ↦ l.g i)).g (Int.toNat (↑g
 : Int)) < (0 : Int)) then true else decide ((↑l.n : Int) ≤ (L.exL (L.Sq.mk l.n fun (i : Nat) ↦ l.g i)).g (Int.toNat (↑g : Int)))) && decide ((0 : Int) < (↑g : Int))) = true → InK .i64 ((↑g : Int) - (1 : Int))) ∧ (((!bif decide ((L.exL (L.Sq.mk l.n fun (i : Nat) ↦ l.g i)).g (Int.toNat (↑g : Int)) < (0 : Int)) then true else
 decide ((↑l.n : Int) ≤ (L.exL (L.Sq.mk l.n fun (i : Nat) ↦ l.g i)).g (Int.toNat (↑g : Int)))) && decide ((0 : Int) < (↑g : Int))) = true → (0 : Int) ≤ (↑g : Int) - (1 : Int) ∧ (↑g : Int) - (1 : Int) < (↑(L.exN (L.Sq.mk l.n fun (i : Nat) ↦ l.g i)) : Int)) ∧ ((bif bif decide ((L.exL (L.Sq.mk l.n fun (i : Nat) ↦ l.g i)).g (Int.toNat (↑g : Int)) < (0 : Int)) then
 true else decide ((↑l.n : Int) ≤ (L.exL (L.Sq.mk l.n fun (i : Nat) ↦ l.g i)).g (Int.toNat (↑g : Int))) then true else bif decide ((0 : Int) < (↑g : Int)) then decide ((L.exL (L.Sq.mk l.n fun (i : Nat) ↦ l.g i)).g (Int.toNat (↑g : Int)) ≤ (L.exL (L.Sq.mk l.n fun (i : Nat) ↦ l.g i)).g (Int.toNat ((↑g : Int) - (1 : Int)))) else false) = true →
 false = true) ∧ ((bif bif decide ((L.exL (L.Sq.mk l.n fun (i : Nat) ↦ l.g i)).g (Int.toNat (↑g : Int)) < (0 : Int)) then true else decide ((↑l.n : Int) ≤ (L.exL (L.Sq.mk l.n fun (i : Nat) ↦ l.g i)).g (Int.toNat (↑g : Int))) then true else bif decide ((0 : Int) < (↑g : Int)) then decide ((L.exL (L.Sq.mk l.n fun (i : Nat) ↦ l.g i)).g
 (Int.toNat (↑g : Int)) ≤ (L.exL (L.Sq.mk l.n fun (i : Nat) ↦ l.g i)).g (Int.toNat ((↑g : Int) - (1 : Int)))) else false) = false → ((0 : Int) ≤ (↑g : Int) ∧ (↑g : Int) < (↑(L.exN (L.Sq.mk l.n fun (i : Nat) ↦ l.g i)) : Int)) ∧ ((0 : Int) ≤ (L.exL (L.Sq.mk l.n fun (i : Nat) ↦ l.g i)).g (Int.toNat (↑g : Int)) ∧ (L.exL (L.Sq.mk l.n fun (i : Nat) ↦ l.g i)).g (Int.toNat (↑g : Int)) < (↑l.n :
 Int)) ∧ (g + nat_lit 1) * nat_lit 16 ≤ (140737488355328 : Nat) ∧ InK .i64 ((↑g : Int) + (1 : Int)) ∧ ∃ (g' : Nat), (↑g : Int) + (1 : Int) = (↑g' : Int) ∧ (L.exN (L.Sq.mk l.n fun (i : Nat) ↦ l.g i) = L.exN (L.Sq.mk l.n fun (i : Nat) ↦ l.g i) ∧ ∀ (i : Nat), i < L.exN (L.Sq.mk l.n fun (i : Nat) ↦ l.g i) → [SV.int .i64 ((L.exL (L.Sq.mk l.n fun (i : Nat) ↦ l.g i)).g i)]
 = [SV.int .i64 ((L.exL (L.Sq.mk l.n fun (i : Nat) ↦ l.g i)).g i)]) ∧ true = true ∧ (l.n = l.n ∧ ∀ (i : Nat), i < l.n → [SV.int .i64 (l.g i).x, SV.int .i64 (l.g i).y] = [SV.int .i64 (l.g i).x, SV.int .i64 (l.g i).y]) ∧ grid = grid ∧ (g + nat_lit 1 = g' ∧ ∀ (i : Nat), i < g + nat_lit 1 → appGet g (fun (j
 : Nat) ↦ [SV.int .i64 ((L.nm l).g j).x, SV.int .i64 ((L.nm l).g j).y]) (fun (x : Nat) ↦ [SV.int .i64 (l.g (Int.toNat ((L.exL (L.Sq.mk l.n fun (i : Nat) ↦ l.g i)).g (Int.toNat (↑g : Int))))).x, SV.int .i64 (l.g (Int.toNat ((L.exL (L.Sq.mk l.n fun (i : Nat) ↦ l.g i)).g (Int.toNat (↑g : Int))))).y]) i = [SV.int .i64
 ((L.nm l).g i).x, SV.int .i64 ((L.nm l).g i).y]) ∧ (L.exD (L.Sq.mk l.n fun (i : Nat) ↦ l.g i)).x = (L.exD (L.Sq.mk l.n fun (i : Nat) ↦ l.g i)).x ∧ (L.exD (L.Sq.mk l.n fun (i : Nat) ↦ l.g i)).y = (L.exD (L.Sq.mk l.n fun (i : Nat) ↦ l.g i)).y ∧ g' ≤ L.exN l ∧ L.exN l - g' < L.exN l - g)) ∧ (decide ((↑g : Int) < (↑(L.exN (L.Sq.mk l.n fun (i : Nat) ↦ l.g i)) : Int)) =
 false → InK .i64 ((1 : Int) + L.iand grid (7 : Int)) ∧ InK .i64 ((0 : Int) - ((1 : Int) + L.iand grid (7 : Int))) ∧ (∃ (g : Nat), (0 : Int) - ((1 : Int) + L.iand grid (7 : Int)) = (0 : Int) - L.msk grid + (↑g : Int) ∧ (↑g : Int) ≤ (2 : Int) * L.msk grid + (1 : Int)) ∧ ∀ (g_1 : Nat), (↑g_1 : Int) ≤ (2 : Int) * L.msk grid + (1 : Int) →
 (decide ((0 : Int) - L.msk grid + (↑g_1 : Int) ≤ (1 : Int) + L.iand grid (7 : Int)) = true → InK .i64 ((0 : Int) - ((1 : Int) + L.iand grid (7 : Int))) ∧ (∃ (g : Nat × Nat), (0 : Int) - ((1 : Int) + L.iand grid (7 : Int)) = (0 : Int) - L.msk grid + (↑g.2 : Int) ∧ (0 : Int) - L.msk grid + (↑g_1 : Int) = (0 : Int) - L.msk grid + (↑g.1 : Int) ∧ (↑g.1 :
 Int) ≤ (2 : Int) * L.msk grid ∧ (↑g.2 : Int) ≤ (2 : Int) * L.msk grid + (1 : Int)) ∧ ∀ (g_2 : Nat × Nat), (0 : Int) - L.msk grid + (↑g_1 : Int) = (0 : Int) - L.msk grid + (↑g_2.1 : Int) ∧ (↑g_2.1 : Int) ≤ (2 : Int) * L.msk grid ∧ (↑g_2.2 : Int) ≤ (2 : Int) * L.msk grid + (1 : Int) → (decide ((0 : Int) - L.msk grid + (↑g_2.2 : Int) ≤ (1 : Int) + L.iand grid (7 : Int)) = true →
 ((∀ (i : Nat), i < g → [SV.int .i64 ((L.nm l).g i).x, SV.int .i64 ((L.nm l).g i).y] = [SV.int .i64 ((L.nm l).g i).x, SV.int .i64 ((L.nm l).g i).y]) ∧ g ≤ (1000000 : Nat) ∧ L.bd (L.Pt.mk ((0 : Int) - L.msk grid + (↑g_1 : Int)) ((0 : Int) - L.msk grid + (↑g_2.2 : Int))) ∧ ∀ (i : Nat), i < g → L.bd ((L.nm l).g i)) ∧ ((L.free (L.Pt.mk ((0
 : Int) - L.msk grid + (↑g_1 : Int)) ((0 : Int) - L.msk grid + (↑g_2.2 : Int))) (L.Sq.mk g fun (i : Nat) ↦ (L.nm l).g i) && !(decide ((0 : Int) - L.msk grid + (↑g_1 : Int) = (0 : Int)) && decide ((0 : Int) - L.msk grid + (↑g_2.2 : Int) = (0 : Int)))) = true → false = true) ∧ ((L.free (L.Pt.mk ((0 : Int) - L.msk grid + (↑g_1 : Int)) ((0 : Int) - L.msk grid +
 (↑g_2.2 : Int))) (L.Sq.mk g fun (i : Nat) ↦ (L.nm l).g i) && !(decide ((0 : Int) - L.msk grid + (↑g_1 : Int) = (0 : Int)) && decide ((0 : Int) - L.msk grid + (↑g_2.2 : Int) = (0 : Int)))) = false → InK .i64 ((0 : Int) - L.msk grid + (↑g_2.2 : Int) + (1 : Int)) ∧ ∃ (g' : Nat × Nat), (0 : Int) - L.msk grid + (↑g_2.2 : Int) + (1 : Int) = (0 : Int) - L.msk grid
 + (↑g'.2 : Int) ∧ (0 : Int) - L.msk grid + (↑g_1 : Int) = (0 : Int) - L.msk grid + (↑g_1 : Int) ∧ (1 : Int) + L.iand grid (7 : Int) = (1 : Int) + L.iand grid (7 : Int) ∧ true = true ∧ (g = g ∧ ∀ (i : Nat), i < g → [SV.int .i64 ((L.nm l).g i).x, SV.int .i64 ((L.nm l).g i).y] = [SV.int .i64 ((L.nm l).g i).x, SV.int
 .i64 ((L.nm l).g i).y]) ∧ ((0 : Int) - L.msk grid + (↑g_1 : Int) = (0 : Int) - L.msk grid + (↑g'.1 : Int) ∧ (↑g'.1 : Int) ≤ (2 : Int) * L.msk grid ∧ (↑g'.2 : Int) ≤ (2 : Int) * L.msk grid + (1 : Int)) ∧ Int.toNat ((2 : Int) * L.msk grid + (1 : Int)) - g'.2 < Int.toNat ((2 : Int) * L.msk grid + (1 : Int)) - g_2.2)) ∧ (decide ((0 : Int) - L.msk grid + (↑g_2.2 : Int) ≤ (1 : Int) +
 L.iand grid (7 : Int)) = false → InK .i64 ((0 : Int) - L.msk grid + (↑g_1 : Int) + (1 : Int)) ∧ ∃ (g' : Nat), (0 : Int) - L.msk grid + (↑g_1 : Int) + (1 : Int) = (0 : Int) - L.msk grid + (↑g' : Int) ∧ (1 : Int) + L.iand grid (7 : Int) = (1 : Int) + L.iand grid (7 : Int) ∧ true = true ∧ (g = g ∧ ∀ (i : Nat), i < g → [SV.int .i64
 ((L.nm l).g i).x, SV.int .i64 ((L.nm l).g i).y] = [SV.int .i64 ((L.nm l).g i).x, SV.int .i64 ((L.nm l).g i).y]) ∧ (↑g' : Int) ≤ (2 : Int) * L.msk grid + (1 : Int) ∧ Int.toNat ((2 : Int) * L.msk grid + (1 : Int)) - g' < Int.toNat ((2 : Int) * L.msk grid + (1 : Int)) - g_1)) ∧ (decide ((0 : Int) - L.msk grid + (↑g_1 : Int) ≤ (1 : Int) +
 L.iand grid (7 : Int)) = false → (∃ (g : Nat), (0 : Int) = (↑g : Int) ∧ g ≤ L.exN l) ∧ ∀ (g_2 : Nat), g_2 ≤ L.exN l → (decide ((↑g_2 : Int) < (↑g : Int)) = true → ((0 : Int) ≤ (0 : Int) ∧ (0 : Int) ≤ (↑g_2 : Int) ∧ (↑g_2 : Int) ≤ (↑g : Int)) ∧ nat_lit 0 + Int.toNat ((↑g_2 : Int) - (0 : Int)) ≤ g ∧ (nat_lit 0 + Int.toNat ((↑g_2 : Int) - (0 : Int))) * nat_lit 16 ≤
 (140737488355328 : Nat) ∧ InK .i64 ((↑g_2 : Int) + (1 : Int)) ∧ ((0 : Int) ≤ (↑g_2 : Int) + (1 : Int) ∧ (↑g_2 : Int) + (1 : Int) ≤ (↑g : Int) ∧ (↑g : Int) ≤ (↑g : Int)) ∧ Int.toNat ((↑g_2 : Int) + (1 : Int)) + Int.toNat ((↑g : Int) - ((↑g_2 : Int) + (1 : Int))) ≤ g ∧ (nat_lit 0 + Int.toNat ((↑g_2 : Int) - (0 : Int)) + Int.toNat ((↑g : Int) - ((↑g_2 : Int) + (1 : Int)))) * nat_lit
 16 ≤ (140737488355328 : Nat) ∧ ((∀ (i : Nat), i < nat_lit 0 + Int.toNat ((↑g_2 : Int) - (0 : Int)) + Int.toNat ((↑g : Int) - ((↑g_2 : Int) + (1 : Int))) → appGet (nat_lit 0 + Int.toNat ((↑g_2 : Int) - (0 : Int))) (appGet (nat_lit 0) (fun (x : Nat) ↦ []) fun (i : Nat) ↦ [SV.int .i64 ((L.nm l).g (nat_lit 0 + i)).x, SV.int .i64 ((L.nm l).g (nat_lit 0 +
 i)).y]) (fun (i : Nat) ↦ [SV.int .i64 ((L.nm l).g (Int.toNat ((↑g_2 : Int) + (1 : Int)) + i)).x, SV.int .i64 ((L.nm l).g (Int.toNat ((↑g_2 : Int) + (1 : Int)) + i)).y]) i = [SV.int .i64 (ofPt (appGet (nat_lit 0 + Int.toNat ((↑g_2 : Int) - (0 : Int))) (appGet (nat_lit 0) (fun (x : Nat) ↦ []) fun (i : Nat) ↦ [SV.int .i64
 ((L.nm l).g (nat_lit 0 + i)).x, SV.int .i64 ((L.nm l).g (nat_lit 0 + i)).y]) (fun (i : Nat) ↦ [SV.int .i64 ((L.nm l).g (Int.toNat ((↑g_2 : Int) + (1 : Int)) + i)).x, SV.int .i64 ((L.nm l).g (Int.toNat ((↑g_2 : Int) + (1 : Int)) + i)).y]) i)).x, SV.int .i64 (ofPt (appGet (nat_lit 0 + Int.toNat ((↑g_2 : Int) - (0 : Int)))
 (appGet (nat_lit 0) (fun (x : Nat) ↦ []) fun (i : Nat) ↦ [SV.int .i64 ((L.nm l).g (nat_lit 0 + i)).x, SV.int .i64 ((L.nm l).g (nat_lit 0 + i)).y]) (fun (i : Nat) ↦ [SV.int .i64 ((L.nm l).g (Int.toNat ((↑g_2 : Int) + (1 : Int)) + i)).x, SV.int .i64 ((L.nm l).g (Int.toNat ((↑g_2 : Int) + (1 : Int)) + i)).y]) i)).y]) ∧ nat_lit 0 +
 Int.toNat ((↑g_2 : Int) - (0 : Int)) + Int.toNat ((↑g : Int) - ((↑g_2 : Int) + (1 : Int))) ≤ (9223372036854775807 : Nat) ∧ (L.exBad (L.Sq.mk (nat_lit 0 + Int.toNat ((↑g_2 : Int) - (0 : Int)) + Int.toNat ((↑g : Int) - ((↑g_2 : Int) + (1 : Int)))) fun (i : Nat) ↦ ofPt (appGet (nat_lit 0 + Int.toNat ((↑g_2 : Int) - (0 : Int))) (appGet (nat_lit 0) (fun (x : Nat) ↦ []) fun (i : Nat) ↦
 [SV.int .i64 ((L.nm l).g (nat_lit 0 + i)).x, SV.int .i64 ((L.nm l).g (nat_lit 0 + i)).y]) (fun (i : Nat) ↦ [SV.int .i64 ((L.nm l).g (Int.toNat ((↑g_2 : Int) + (1 : Int)) + i)).x, SV.int .i64 ((L.nm l).g (Int.toNat ((↑g_2 : Int) + (1 : Int)) + i)).y]) i)) = false → L.wayOk (L.Sq.mk (nat_lit 0 + Int.toNat ((↑g_2 : Int) - (0 : Int))
 + Int.toNat ((↑g : Int) - ((↑g_2 : Int) + (1 : Int)))) fun (i : Nat) ↦ ofPt (appGet (nat_lit 0 + Int.toNat ((↑g_2 : Int) - (0 : Int))) (appGet (nat_lit 0) (fun (x : Nat) ↦ []) fun (i : Nat) ↦ [SV.int .i64 ((L.nm l).g (nat_lit 0 + i)).x, SV.int .i64 ((L.nm l).g (nat_lit 0 + i)).y]) (fun (i : Nat) ↦ [SV.int .i64 ((L.nm l).g (Int.toNat
 ((↑g_2 : Int) + (1 : Int)) + i)).x, SV.int .i64 ((L.nm l).g (Int.toNat ((↑g_2 : Int) + (1 : Int)) + i)).y]) i)) = false → L.isNo (L.first (L.exF (L.Sq.mk (nat_lit 0 + Int.toNat ((↑g_2 : Int) - (0 : Int)) + Int.toNat ((↑g : Int) - ((↑g_2 : Int) + (1 : Int)))) fun (i : Nat) ↦ ofPt (appGet (nat_lit 0 + Int.toNat ((↑g_2 : Int) - (0 : Int))) (appGet (nat_lit 0) (fun (x
 : Nat) ↦ []) fun (i : Nat) ↦ [SV.int .i64 ((L.nm l).g (nat_lit 0 + i)).x, SV.int .i64 ((L.nm l).g (nat_lit 0 + i)).y]) (fun (i : Nat) ↦ [SV.int .i64 ((L.nm l).g (Int.toNat ((↑g_2 : Int) + (1 : Int)) + i)).x, SV.int .i64 ((L.nm l).g (Int.toNat ((↑g_2 : Int) + (1 : Int)) + i)).y]) i))) (22 : Nat)) = false)) ∧ ((!decide
 (L.exE (L.Sq.mk (nat_lit 0 + Int.toNat ((↑g_2 : Int) - (0 : Int)) + Int.toNat ((↑g : Int) - ((↑g_2 : Int) + (1 : Int)))) fun (i : Nat) ↦ ofPt (appGet (nat_lit 0 + Int.toNat ((↑g_2 : Int) - (0 : Int))) (appGet (nat_lit 0) (fun (x : Nat) ↦ []) fun (i : Nat) ↦ [SV.int .i64 ((L.nm l).g (nat_lit 0 + i)).x, SV.int .i64 ((L.nm l).g (nat_lit 0 + i)).y]) (fun (i
 : Nat) ↦ [SV.int .i64 ((L.nm l).g (Int.toNat ((↑g_2 : Int) + (1 : Int)) + i)).x, SV.int .i64 ((L.nm l).g (Int.toNat ((↑g_2 : Int) + (1 : Int)) + i)).y]) i)) = (0 : Int))) = true → false = true) ∧ ((!decide (L.exE (L.Sq.mk (nat_lit 0 + Int.toNat ((↑g_2 : Int) - (0 : Int)) + Int.toNat ((↑g : Int) - ((↑g_2 : Int) + (1 : Int)))) fun (i : Nat) ↦
 ofPt (appGet (nat_lit 0 + Int.toNat ((↑g_2 : Int) - (0 : Int))) (appGet (nat_lit 0) (fun (x : Nat) ↦ []) fun (i : Nat) ↦ [SV.int .i64 ((L.nm l).g (nat_lit 0 + i)).x, SV.int .i64 ((L.nm l).g (nat_lit 0 + i)).y]) (fun (i : Nat) ↦ [SV.int .i64 ((L.nm l).g (Int.toNat ((↑g_2 : Int) + (1 : Int)) + i)).x, SV.int .i64 ((L.nm l).g
 (Int.toNat ((↑g_2 : Int) + (1 : Int)) + i)).y]) i)) = (0 : Int))) = false → InK .i64 ((↑g_2 : Int) + (1 : Int)) ∧ ∃ (g' : Nat), (↑g_2 : Int) + (1 : Int) = (↑g' : Int) ∧ true = true ∧ (g = g ∧ ∀ (i : Nat), i < g → [SV.int .i64 ((L.nm l).g i).x, SV.int .i64 ((L.nm l).g i).y] = [SV.int .i64 ((L.nm l).g i).x, SV.int
 .i64 ((L.nm l).g i).y]) ∧ g' ≤ L.exN l ∧ L.exN l - g' < L.exN l - g_2)) ∧ (decide ((↑g_2 : Int) < (↑g : Int)) = false → true = true))))))) (by kernel_rfl) (by
    obtain ⟨hl, hg0, hk⟩ := hp
    have hno : ∀ M : L.Sq L.Pt, L.exBad M = false → L.wayOk M = false → L.isNo (L.first (L.exF M) 22) = false := fun M hb hw => exit_isNo (exBad_false hb).2.2 hw (by omega)
    refine ⟨trivial, ⟨fun _ _ => rfl, hl, hno l⟩, fun _ => rfl, fun h => ?_⟩
    rw [bor, Bool.or_eq_false_iff] at h
    obtain ⟨h1, h2⟩ := h
    have h1 := of_decide_eq_false h1
    have h2 := of_decide_eq_false h2
    have hb : L.exBad l = false := by
      cases hb : L.exBad l with
      | false => rfl
      | true => exact absurd (by unfold L.exE; rw [hb]; rfl) h1
    obtain ⟨h24, hN⟩ := exBad_false hb
    have hB : ∀ i, i < l.n → L.bd (l.g i) := fun i hi => (isNrm_of (hN.2 i hi)).2.2
    refine ⟨fun hE => ?_, fun hE => ?_⟩
    · have hE := of_decide_eq_true hE
      have hw : L.wayOk l = true := by
        cases hw : L.wayOk l with
        | true => rfl
        | false => rw [(blk_facts hN hb hw).1] at hE; exact absurd hE (by decide)
      have hD : L.exD l = L.wayD l := by unfold L.exD; rw [hb]; rfl
      have hX : L.exN l = 0 := by unfold L.exN; rw [hb, hw]; rfl
      obtain ⟨f1, f2⟩ := wayD_free hN hw
      have hDb : L.bd (L.exD l) := by
        rw [hD]
        unfold L.wayD
        cases decide (l.n = 0) with
        | true => show L.bd ⟨1, 0⟩; exact ⟨by decide, by decide⟩
        | false =>
          cases hi : decide (0 ≤ L.wayI l) with
          | false => show L.bd ⟨0, 0⟩; exact ⟨by decide, by decide⟩
          | true =>
            have hi := of_decide_eq_true hi
            rcases idx_cases (f := fun c => L.free (L.cand l c) l) (n := 2 * l.n) with ⟨q1, _⟩ | ⟨i, qi, q1, _, _⟩
            · have q1 : L.wayI l = -1 := q1
              omega
            · have q1 : L.wayI l = (i : Int) := q1
              show L.bd (L.dir (l.g ((L.wayI l).toNat / 2)) _)
              exact dir_bd (hN.2 _ (by omega)) _
      have hz : (decide ((L.exD l).x = 0) && decide ((L.exD l).y = 0)) = false := by
        rw [hD, ok_wayD hN, hw]; rfl
      rw [hz, hD, f1, hX]
      rw [hD] at hDb
      refine ⟨⟨fun _ _ => rfl, by omega, hDb, hB⟩, fun h => (by cases h), fun _ => ⟨fun h0 => ?_, fun h0 => ?_⟩⟩
      · have h0 := of_decide_eq_true h0
        rw [(way_0 (N := l) (by omega)).1]; rfl
      · have h0 := of_decide_eq_false h0
        obtain ⟨b1, b2⟩ := lidx_bd (k := k) (n := (l.n : Int)) (by omega)
        obtain ⟨q, hq⟩ : ∃ q : Nat, L.lidx k l.n = (q : Int) := ⟨(L.lidx k l.n).toNat, by omega⟩
        have e1 : ((q : Int) - 0).toNat = q := by omega
        have e2 : ((q : Int) + 1).toNat = q + 1 := by omega
        have e3 : ((l.n : Int) - ((q : Int) + 1)).toNat = l.n - (q + 1) := by omega
        rw [hq, e1, e2, e3, show Int.toNat 0 = 0 from rfl]
        obtain ⟨s1, s2⟩ := less_sub (f := l.g) (n := l.n) (A := q) (B := l.n - (q + 1)) (c := q + 1) (by omega) (by omega)
        have hE2 := exE_0 (sub_bad s2 hN (show 0 + q + (l.n - (q + 1)) ≤ 24 by omega)) (sub_way s2 hN hw)
        refine ⟨⟨hk, by omega⟩, ⟨Int.le_refl _, by omega, by omega⟩, show (0 + q) * 16 ≤ 140737488355328 by omega, InK.of (by omega) (by omega), ⟨by omega, by omega, Int.le_refl _⟩, show (0 + q + (l.n - (q + 1))) * 16 ≤ 140737488355328 by omega, ⟨s1, show 0 + q + (l.n - (q + 1)) ≤ 9223372036854775807 by omega, hno _⟩, ?_⟩
        show decide (L.exE _ = 0) = true
        exact decide_eq_true hE2
    have hE := of_decide_eq_false hE
    have hw : L.wayOk l = false := by
      cases hw : L.wayOk l with
      | false => rfl
      | true => exact absurd (exE_0 hb hw) hE
    obtain ⟨hE13, hn, hD, hX, hw0, hinc, hwn⟩ := blk_facts hN hb hw
    have hX4 : 3 ≤ L.exN l ∧ L.exN l ≤ 4 := by omega
    refine ⟨fun h => ?_, fun _ => ⟨⟨(0 : Nat), rfl, ⟨rfl, fun i hi => absurd hi (Nat.not_lt_zero _)⟩, Nat.zero_le _⟩, fun g hg => ⟨fun hlt => ?_, fun hge => ?_⟩⟩⟩
    · rw [hE13, hD, decide_eq_false (show ¬ ((L.exN l : Nat) : Int) < 3 by omega), decide_eq_false (show ¬ (4 : Int) < ((L.exN l : Nat) : Int) by omega)] at h
      cases h
    · have hbg : (g : Int) < (L.exN l : Int) := of_decide_eq_true hlt
      have e0 : ((g : Int)).toNat = g := by omega
      obtain ⟨x0, x1⟩ := hw0 g (by omega)
      rw [e0, decide_eq_false (show ¬ (L.exL l).g g < 0 by omega), decide_eq_false (show ¬ (l.n : Int) ≤ (L.exL l).g g by omega)]
      refine ⟨⟨by omega, hbg⟩, fun _ => ⟨by omega, hbg⟩, fun _ => ⟨by omega, hbg⟩, fun hq => InK.of (by omega) (by omega), fun hq => ?_, fun hq => ?_, fun _ => ⟨⟨by omega, hbg⟩, ⟨x0, x1⟩, show (g + 1) * 16 ≤ 140737488355328 by omega, InK.of (by omega) (by omega), g + 1, by omega, ⟨rfl, fun _ _ => rfl⟩, rfl, ⟨rfl, fun _ _ => rfl⟩, rfl, ⟨rfl, fun i hi => ?_⟩, rfl, rfl, by omega, by omega⟩⟩
      · have := of_decide_eq_true (Bool.and_eq_true_iff.1 hq).2
        show 0 ≤ (g : Int) - 1 ∧ (g : Int) - 1 < (L.exN l : Int)
        omega
      · by_cases hg1 : (0 : Int) < (g : Int)
        · obtain ⟨m, rfl⟩ : ∃ m, g = m + 1 := ⟨g - 1, by omega⟩
          have := hinc m (by omega)
          rw [show (((m + 1 : Nat) : Int) - 1).toNat = m by omega, decide_eq_true hg1, decide_eq_false (show ¬ (L.exL l).g (m + 1) ≤ (L.exL l).g m by omega)] at hq
          cases hq
        · rw [decide_eq_false hg1] at hq; cases hq
      · have hi : i < g + 1 := hi
        unfold appGet
        by_cases h' : i < g
        · rw [if_pos h']
        · rw [if_neg h']
          obtain rfl : i = g := by omega
          rfl
    have hbg : ¬ (g : Int) < (L.exN l : Int) := of_decide_eq_false hge
    obtain rfl : g = L.exN l := by omega
    obtain ⟨m0, m7⟩ := iand7 grid
    have hm : L.msk grid = 1 + L.iand grid 7 := rfl
    have enm : (L.Sq.mk (L.exN l) fun i => (L.nm l).g i) = L.nm l := by rw [hn]; rfl
    have nrm := nrms_pck hN.2 hw0
    have hBn : ∀ i, i < L.exN l → L.bd ((L.nm l).g i) := fun i hi => (isNrm_of (nrm i (by rw [hn] at hi; exact hi))).2.2
    rw [enm]
    refine ⟨InK.of (by omega) (by omega), InK.of (by omega) (by omega), ⟨(0 : Nat), by omega, by omega⟩, fun x hx => ⟨fun hlt => ?_, fun hge => ?_⟩⟩
    · have hlt := of_decide_eq_true hlt
      refine ⟨InK.of (by omega) (by omega), ⟨(x, 0), by show 0 - (1 + L.iand grid 7) = 0 - L.msk grid + ((0 : Nat) : Int); omega, rfl, by show (x : Int) ≤ _; omega, by show ((0 : Nat) : Int) ≤ _; omega⟩, ?_⟩
      rintro ⟨a, b⟩ ⟨e1, q1, q2⟩
      have q2 : (b : Int) ≤ 2 * L.msk grid + 1 := q2
      dsimp only
      refine ⟨fun hlt2 => ?_, fun hge2 => ?_⟩
      · have hlt2 := of_decide_eq_true hlt2
        refine ⟨⟨fun _ _ => rfl, by omega, ?_, hBn⟩, fun hf => ?_, fun _ => ⟨InK.of (by omega) (by omega), (x, b + 1), by show 0 - L.msk grid + (b : Int) + 1 = 0 - L.msk grid + ((b + 1 : Nat) : Int); omega, rfl, rfl, rfl, ⟨rfl, fun _ _ => rfl⟩, ⟨rfl, by show (x : Int) ≤ _; omega, by show ((b + 1 : Nat) : Int) ≤ _; omega⟩, by show (2 * L.msk grid + 1).toNat - (b + 1) < (2 * L.msk grid + 1).toNat - b; omega⟩⟩
        · unfold L.bd
          dsimp only
          omega
        · exfalso
          obtain ⟨hf1, hf2⟩ := Bool.and_eq_true_iff.1 hf
          have hf2 : ¬ (0 - L.msk grid + (x : Int) = 0 ∧ 0 - L.msk grid + (b : Int) = 0) := by
            rintro ⟨c1, c2⟩
            rw [decide_eq_true c1, decide_eq_true c2] at hf2; cases hf2
          have := dir_way (N := L.nm l) (d := ⟨0 - L.msk grid + (x : Int), 0 - L.msk grid + (b : Int)⟩) nrm hf2 (fun i hi => Int.not_lt.1 fun hc => by
            rw [free_false.2 ⟨i, hi, decide_eq_true hc⟩] at hf1; cases hf1)
          rw [hwn] at this; cases this
      · have hge2 := of_decide_eq_false hge2
        exact ⟨InK.of (by omega) (by omega), x + 1, by omega, rfl, rfl, ⟨rfl, fun _ _ => rfl⟩, by omega, by omega⟩
    refine ⟨⟨(0 : Nat), rfl, Nat.zero_le _⟩, fun x hx => ⟨fun hlt => ?_, fun _ => rfl⟩⟩
    have hlt := of_decide_eq_true hlt
    have e1 : ((x : Int) - 0).toNat = x := by omega
    have e2 : ((x : Int) + 1).toNat = x + 1 := by omega
    have e3 : ((L.exN l : Int) - ((x : Int) + 1)).toNat = L.exN l - (x + 1) := by omega
    rw [e1, e2, e3]
    obtain ⟨s1, s2⟩ := less_sub (f := (L.nm l).g) (n := L.exN l) (A := x) (B := L.exN l - (x + 1)) (c := x + 1) (by omega) (by omega)
    have s3 := sub_trans s2 (show L.subPt ⟨L.exN l, (L.nm l).g⟩ l from by rw [show (⟨L.exN l, (L.nm l).g⟩ : L.Sq L.Pt) = L.nm l from enm]; exact nm_sub hw0)
    have hE2 := exE_0 (sub_bad s3 hN (show 0 + x + (L.exN l - (x + 1)) ≤ 24 by omega)) (few_ok s3 hN (by
      show 0 + x + (L.exN l - (x + 1)) ≤ 2 ∨ (0 + x + (L.exN l - (x + 1)) ≤ 3 ∧ _)
      rcases hX with hX | ⟨hX, h0⟩
      · left; omega
      · right; exact ⟨by omega, h0⟩))
    refine ⟨⟨Int.le_refl _, by omega, by omega⟩, show 0 + x ≤ L.exN l by omega, show (0 + x) * 16 ≤ 140737488355328 by omega, InK.of (by omega) (by omega), ⟨by omega, by omega, Int.le_refl _⟩, show x + 1 + (L.exN l - (x + 1)) ≤ L.exN l by omega, show (0 + x + (L.exN l - (x + 1))) * 16 ≤ 140737488355328 by omega, ⟨s1, show 0 + x + (L.exN l - (x + 1)) ≤ 9223372036854775807 by omega, hno _⟩, fun hc => ?_, fun _ => ⟨InK.of (by omega) (by omega), x + 1, by omega, rfl, ⟨rfl, fun _ _ => rfl⟩, by omega, by omega⟩⟩
    exact absurd hE2 (of_decide_eq_false (notT hc)))
theorem w_Directions_ok : SpecOk Try.prog 4 w_Directions_S := fnX Try.func4 (c := bodyOf Try.f4) (by kernel_rfl) mixed (fun args p r hs hp => by
  unfold w_Directions_s at hs
  split at hs
  · cases hs; exact ⟨_, _, w_Directions_vc _ _ _ hp.2, (.p (.sl hp.1) (.same _ (.same _ .nil))), ⟨show SpecsL Try.prog _ from (SpecsL.cons w_awake_ok w_awake_en (SpecsL.cons p_Exit_ok p_Exit_en (SpecsL.cons r1_Frees_ok r1_Frees_en (SpecsL.cons w_index_ok w_index_en SpecsL.nil)))), rfl, ⟨show ItersL Try.prog _ from ItersL.nil, (TrsOk.none (fun _ => rfl))⟩⟩⟩
  · cases hs)
end Go.Proofs.Ytdlhpdidgfgomaa
