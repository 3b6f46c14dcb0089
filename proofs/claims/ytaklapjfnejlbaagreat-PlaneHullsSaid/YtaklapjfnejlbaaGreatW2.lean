/- A symbolic walk over the model, and what it shows of functions of the program: parts of the proof that the text of the row joins. -/
import Derived.Test.YtaklapjfnejlbaaGreatW1
import Derived.Test.YtaklapjfnejlbaaGreatE4
import Derived.KernelRfl
namespace Go.Proofs.YtaklapjfnejlbaaGreat
open Go.SE Go.RowKit
set_option maxRecDepth 100000
set_option maxHeartbeats 4000000
set_option linter.unusedVariables false
attribute [local irreducible] vc
def L.gcd (a b:Int) : Int := ((Nat.gcd a.natAbs b.natAbs:Nat):Int)
def L.ng (x y:Nat) : Nat := Nat.gcd x y
def L.nabs (a:Int) : Nat := a.natAbs
def L.hit (d n : L.Pt) : Bool := decide (0 < d.x * n.x + d.y * n.y)
def L.free (d : L.Pt) (N : L.Sq L.Pt) : Bool := !L.anyB N.n (fun i => L.hit d (N.g i))
def L.isNrm (p : L.Pt) : Bool := !(decide (p.x = 0) && decide (p.y = 0)) && (L.within p.x (-4096) 4096 && L.within p.y (-4096) 4096)
def L.nrms (N : L.Sq L.Pt) : Prop := N.n <= 1000000 /\ ∀ i, i < N.n -> L.isNrm (N.g i) = true
def L.dir (p : L.Pt) (s:Nat) : L.Pt := bif decide (s = 0) then ⟨Int.tdiv (0 - p.y) (L.gcd p.x p.y), Int.tdiv p.x (L.gcd p.x p.y)⟩ else ⟨Int.tdiv p.y (L.gcd p.x p.y), Int.tdiv (0 - p.x) (L.gcd p.x p.y)⟩
def L.cand (N : L.Sq L.Pt) (c:Nat) : L.Pt := L.dir (N.g (c / 2)) (c % 2)
def L.wayI (N : L.Sq L.Pt) : Int := L.idx (2 * N.n) (fun c => L.free (L.cand N c) N)
def L.wayOk (N : L.Sq L.Pt) : Bool := decide (N.n = 0) || decide (0 <= L.wayI N)
def L.wayD (N : L.Sq L.Pt) : L.Pt := bif decide (N.n = 0) then ⟨1, 0⟩ else bif decide (0 <= L.wayI N) then L.cand N (L.wayI N).toNat else ⟨0, 0⟩
theorem isNrm_of {p : L.Pt} (h : L.isNrm p = true) : ((-4096 <= p.x /\ p.x <= 4096) /\ (-4096 <= p.y /\ p.y <= 4096)) /\ 1 <= L.gcd p.x p.y /\ L.bd p := by
 unfold L.isNrm L.within at h
 simp only [Bool.and_eq_true, Bool.not_eq_true', Bool.and_eq_false_iff, decide_eq_true_eq, decide_eq_false_iff_not] at h
 obtain ⟨h1, h2, h3⟩ := h
 have hg : 0 < Nat.gcd p.x.natAbs p.y.natAbs := by
   rcases h1 with h1 | h1
   · exact Nat.gcd_pos_of_pos_left _ (by omega)
   · exact Nat.gcd_pos_of_pos_right _ (by omega)
 refine ⟨⟨h2, h3⟩, ?_, ?_⟩
 · unfold L.gcd; omega
 · unfold L.bd; omega
theorem tdiv_bd {a g : Int} (h0 : -4096 <= a) (h1 : a <= 4096) (hg : 1 <= g) : -4096 <= Int.tdiv a g /\ Int.tdiv a g <= 4096 := by
 have h : (Int.tdiv a g).natAbs = a.natAbs / g.natAbs := Int.natAbs_tdiv a g
 have h2 : a.natAbs / g.natAbs <= a.natAbs := Nat.div_le_self _ _
 omega
theorem cand_eq (N : L.Sq L.Pt) (g:Nat) {s : Nat} (h : s < 2) : L.cand N (2 * g + s) = L.dir (N.g g) s := by
 unfold L.cand
 rw [show (2 * g + s) / 2 = g by omega, show (2 * g + s) % 2 = s by omega]
theorem way_at {N : L.Sq L.Pt} {c : Nat} (h0 : ∀ j, j < c -> L.free (L.cand N j) N = false) (hi : L.free (L.cand N c) N = true) (hc : c < 2 * N.n) : L.wayD N = L.cand N c /\ L.wayOk N = true := by
 have e : L.wayI N = (c:Int) := idx_at (f := fun c => L.free (L.cand N c) N) h0 hi hc
 have hd : decide (N.n = 0) = false := decide_eq_false (by omega)
 unfold L.wayD L.wayOk
 rw [e, hd, decide_eq_true (show (0:Int) <= (c:Int) by omega)]
 exact ⟨by show L.cand N (c:Int).toNat = _; rw [Int.toNat_natCast], rfl⟩
theorem way_no {N : L.Sq L.Pt} (h1 : 0 < N.n) (h0 : ∀ j, j < 2 * N.n -> L.free (L.cand N j) N = false) : L.wayD N = ⟨0, 0⟩ /\ L.wayOk N = false := by
 have e : L.wayI N = -1 := idx_none (f := fun c => L.free (L.cand N c) N) h0
 have hd : decide (N.n = 0) = false := decide_eq_false (by omega)
 unfold L.wayD L.wayOk
 rw [e, hd]
 exact ⟨rfl, rfl⟩
theorem way_0 {N : L.Sq L.Pt} (h : N.n = 0) : L.wayD N = ⟨1, 0⟩ /\ L.wayOk N = true := by
 unfold L.wayD L.wayOk
 rw [decide_eq_true h]
 exact ⟨rfl, rfl⟩
theorem dir_bd {p : L.Pt} (h : L.isNrm p = true) (s:Nat) : L.bd (L.dir p s) := by
 obtain ⟨⟨⟨a1, a2⟩, b1, b2⟩, hg, _⟩ := isNrm_of h
 have t1 := tdiv_bd (a := p.x) (g := L.gcd p.x p.y) a1 a2 hg
 have t2 := tdiv_bd (a := p.y) (g := L.gcd p.x p.y) b1 b2 hg
 have t3 := tdiv_bd (a := 0 - p.x) (g := L.gcd p.x p.y) (by omega) (by omega) hg
 have t4 := tdiv_bd (a := 0 - p.y) (g := L.gcd p.x p.y) (by omega) (by omega) hg
 unfold L.dir
 cases decide (s = 0)
 · unfold L.bd; simp only [cond_false]; omega
 · unfold L.bd; simp only [cond_true]; omega
def p_gcd_p (a:Int) (b:Int) : Prop := (-4611686018427387904 <= a /\ a <= 4611686018427387904) /\ -4611686018427387904 <= b /\ b <= 4611686018427387904
def p_gcd_r (a:Int) (b:Int) : SV := .int .i64 (L.gcd a b)
def p_gcd_s : List EV -> Option (Prop × SV)
 | [.p (.int .i64 a), .p (.int .i64 b)] => some (p_gcd_p a b, p_gcd_r a b)
 | _ => none
abbrev p_gcd_S : SE.Spec := (specO p_gcd_s)
def p_gcd_C : Cfg := { muts := [], frz := lookN [], specs := lookS [], loops := fun _ => none, iters := lookI [], rfs := lookR [], nils := lookM [] }
theorem p_gcd_vc (a:Int) (b:Int) (hp : p_gcd_p a b) : vc Tryz.prog ({ p_gcd_C with loops := lookL [(2, { T := Nat × Nat, keep := [], keepO := [], chg := fun g => [(0, .p (.int .i64 (g.1:Int))), (1, .p (.int .i64 (g.2:Int)))], own := fun _ => [], inv := fun g => L.ng g.1 g.2 = L.ng (L.nabs a) (L.nabs b) /\ g.1 <= 4611686018427387904 /\ g.2 <= 4611686018427387904, mu := fun g => g.2 })], rfs := lookR [] }) (bodyOf Tryz.f93) (st0 Tryz.f93 [.p (.int .i64 a), .p (.int .i64 b)]) (retFn Tryz.prog Tryz.f93 (p_gcd_r a b)) :=
 @Eq.mpr _ (let A2 := (0:Int); let A1 := (4611686018427387904:Nat); InK .i64 (A2 - a) /\ InK .i64 (A2 - b) /\ (∃ (g : Nat × Nat), Max.max a (A2 - a) = (↑g.1:Int) /\ Max.max b (A2 - b) = (↑g.2:Int) /\ L.ng g.1 g.2 = L.ng (L.nabs a) (L.nabs b) /\ g.1 <= A1 /\ g.2 <= A1) /\ ∀ (g : Nat × Nat), let A3 := (↑g.2:Int); L.ng g.1 g.2 = L.ng (L.nabs a) (L.nabs b) /\ g.1 <= A1 /\ g.2 <= A1 -> (decide (A2 < A3) = true -> A3 ≠ A2 /\ ∃ (g' : Nat × Nat), A3 = (↑g'.1:Int) /\ Int.tmod (↑g.1:Int) A3 = (↑g'.2:Int) /\ (L.ng g'.1 g'.2 = L.ng (L.nabs a) (L.nabs b) /\ g'.1 <= A1 /\ g'.2 <= A1) /\ g'.2 < g.2) /\ (decide (A2 < A3) = false -> (↑g.1:Int) = L.gcd a b)) (by kernel_rfl) (by
 conv => zeta
 obtain ⟨⟨a1, a2⟩, b1, b2⟩ := hp
 refine ⟨iK, iK, ⟨(a.natAbs, b.natAbs), by show max a (0 - a) = ((a.natAbs:Nat):Int); omega, by show max b (0 - b) = ((b.natAbs:Nat):Int); omega, rfl, by show a.natAbs <= 4611686018427387904; omega, by show b.natAbs <= 4611686018427387904; omega⟩, ?_⟩
 rintro ⟨x, y⟩ ⟨h1, h2, h3⟩
 have h1 : Nat.gcd x y = Nat.gcd a.natAbs b.natAbs := h1
 have h2 : x <= 4611686018427387904 := h2
 have h3 : y <= 4611686018427387904 := h3
 refine ⟨fun hd => ?_, fun hd => ?_⟩
 · have hd : (0:Int) < (y:Int) := of_decide_eq_true hd
   have hm : x % y < y := Nat.mod_lt _ (by omega)
   refine ⟨by show (y:Int) ≠ 0; omega, (y, x % y), rfl, rfl, ⟨?_, h3, by show x % y <= 4611686018427387904; omega⟩, hm⟩
   show Nat.gcd y (x % y) = Nat.gcd a.natAbs b.natAbs
   rw [<- h1, Nat.gcd_comm y (x % y), <- Nat.gcd_rec y x, Nat.gcd_comm y x]
 · have hd : ¬ (0:Int) < (y:Int) := of_decide_eq_false hd
   obtain rfl : y = 0 := by omega
   rw [Nat.gcd_zero_right] at h1
   show (x:Int) = L.gcd a b
   unfold L.gcd
   rw [h1])
theorem p_gcd_ok : SpecOk Tryz.prog 93 p_gcd_S := fnX Tryz.func93 (c := bodyOf Tryz.f93) (by kernel_rfl) mixed (fun args p r hs hp => by
 unfold p_gcd_s at hs
 split at hs
 · cases hs; exact ⟨_, _, p_gcd_vc _ _ hp, (.same _ (.same _ .nil)), ⟨show SpecsL Tryz.prog _ from SpecsL.nil, rfl, ⟨show ItersL Tryz.prog _ from ItersL.nil, (TrsOk.none (fun _ => rfl))⟩⟩⟩
 · cases hs)
theorem p_gcd_en : Enters Tryz.prog 93 := fun args w => by kernel_rfl
def p_free1_p (n : L.Pt) (d : L.Pt) : Prop := L.bd n /\ L.bd d
def p_free1_r (n : L.Pt) (d : L.Pt) : SV := .bool (L.hit d n)
def p_free1_s : List EV -> Option (Prop × SV)
 | [.p (.agg [.int .i64 n_x, .int .i64 n_y]), .p (.ref [.int .i64 d_x, .int .i64 d_y] 0)] => some (p_free1_p (⟨n_x, n_y⟩ : L.Pt) (⟨d_x, d_y⟩ : L.Pt), p_free1_r (⟨n_x, n_y⟩ : L.Pt) (⟨d_x, d_y⟩ : L.Pt))
 | _ => none
abbrev p_free1_S : SE.Spec := (specO p_free1_s)
def p_free1_C : Cfg := { muts := [], frz := lookN [], specs := lookS [], loops := lookL [], iters := lookI [], rfs := lookR [], nils := lookM [] }
theorem p_free1_vc (n : L.Pt) (d : L.Pt) (hp : p_free1_p n d) : vc Tryz.prog (p_free1_C) (bodyOf Tryz.f123) (st0 Tryz.f123 [.p (.agg [.int .i64 n.x, .int .i64 n.y]), .p (.ref [.int .i64 d.x, .int .i64 d.y] 0)]) (retFn Tryz.prog Tryz.f123 (p_free1_r n d)) :=
 @Eq.mpr _ (InK .i64 (d.x * n.x) /\ InK .i64 (d.y * n.y) /\ InK .i64 (d.x * n.x + d.y * n.y) /\ decide ((0:Int) < d.x * n.x + d.y * n.y) = L.hit d n) (by kernel_rfl) (by
 obtain ⟨h1, h2⟩ := hp
 unfold L.bd at h1 h2
 have m1 := mul_bd (a := d.x) (b := n.x) (m := 4000000) (n := 4000000) (by omega) (by omega) (by omega) (by omega)
 have m2 := mul_bd (a := d.y) (b := n.y) (m := 4000000) (n := 4000000) (by omega) (by omega) (by omega) (by omega)
 exact ⟨iK, iK, iK, rfl⟩)
theorem p_free1_ok : SpecOk Tryz.prog 123 p_free1_S := fnX Tryz.func123 (c := bodyOf Tryz.f123) (by kernel_rfl) mixed (fun args p r hs hp => by
 unfold p_free1_s at hs
 split at hs
 · cases hs; exact ⟨_, _, p_free1_vc _ _ hp, (.same _ (.same _ .nil)), ⟨show SpecsL Tryz.prog _ from SpecsL.nil, rfl, ⟨show ItersL Tryz.prog _ from ItersL.nil, (TrsOk.none (fun _ => rfl))⟩⟩⟩
 · cases hs)
theorem p_free1_en : Enters Tryz.prog 123 := fun args w => by kernel_rfl
theorem p_free1_B : ∀ args p r, p_free1_s args = some (p, r) -> ∃ b, r = .bool b := by
 intro args p r h
 unfold p_free1_s at h
 split at h
 · cases h; exact ⟨_, rfl⟩
 · cases h
def p_free_p (d : L.Pt) (l : (L.Sq L.Pt)) : Prop := l.n <= 1000000 /\ L.bd d /\ ∀ i, i < l.n -> L.bd (l.g i)
def p_free_r (d : L.Pt) (l : (L.Sq L.Pt)) : SV := .bool (L.free d l)
def p_free_s : List EV -> Option (Prop × SV)
 | [.p (.agg [.int .i64 d_x, .int .i64 d_y]), .p (.sl 2 l_n l_g)] => some ((∀ i, i < l_n -> l_g i = [.int .i64 ((ofPt (l_g i)).x), .int .i64 ((ofPt (l_g i)).y)]) /\ p_free_p (⟨d_x, d_y⟩ : L.Pt) (⟨l_n, fun i => ofPt (l_g i)⟩ : (L.Sq L.Pt)), p_free_r (⟨d_x, d_y⟩ : L.Pt) (⟨l_n, fun i => ofPt (l_g i)⟩ : (L.Sq L.Pt)))
 | _ => none
abbrev p_free_S : SE.Spec := (specO p_free_s)
def p_free_C : Cfg := { cC with specs := lookS [(57, s_conFP_S), (123, p_free1_S)] }
theorem p_free_vc (d : L.Pt) (l : (L.Sq L.Pt)) (hp : p_free_p d l) : vc Tryz.prog (p_free_C) (bodyOf Tryz.f94) (st0 Tryz.f94 [.p (.agg [.int .i64 d.x, .int .i64 d.y]), .p (.sl 2 l.n (fun i => [.int .i64 ((l.g i).x), .int .i64 ((l.g i).y)]))]) (retFn Tryz.prog Tryz.f94 (p_free_r d l)) :=
 @Eq.mpr _ (let I := SV.int .i64; let A2 := [SV.ref [I d.x, I d.y] (nat_lit 0)]; let A1 := (FSpec.mk (fun («as» : List SV) => preO p_free1_s (List.map EV.p «as» ++ List.map EV.p A2)) fun («as» : List SV) => resO p_free1_s (List.map EV.p «as» ++ List.map EV.p A2)); ((∀ (i:Nat), let A3 := [I (l.g i).x, I (l.g i).y]; i < l.n -> A3 = A3) /\ isB A1 /\ l.n <= (1000000:Nat) /\ ∀ (i:Nat), i < l.n -> L.bd (l.g i) /\ L.bd d) /\ (!L.anyB l.n fun (i:Nat) => L.fbl A1 [SV.agg [I (l.g i).x, I (l.g i).y]]) = L.free d l) (by kernel_rfl) (by
 conv => zeta
 obtain ⟨h1, h2, h3⟩ := hp
 exact ⟨⟨fun _ _ => rfl, isB_of p_free1_B _, h1, fun i hi => ⟨h3 i hi, h2⟩⟩, rfl⟩)
theorem p_free_ok : SpecOk Tryz.prog 94 p_free_S := fnX Tryz.func94 (c := bodyOf Tryz.f94) (by kernel_rfl) mixed (fun args p r hs hp => by
 unfold p_free_s at hs
 split at hs
 · cases hs; exact ⟨_, _, p_free_vc _ _ hp.2, (.same _ (.p (.sl hp.1) .nil)), ⟨show SpecsL Tryz.prog _ from (SpecsL.cons s_conFP_ok s_conFP_en (SpecsL.cons p_free1_ok p_free1_en SpecsL.nil)), rfl, ⟨show ItersL Tryz.prog _ from ItersL.nil, (TrsOk.none (fun _ => rfl))⟩⟩⟩
 · cases hs)
theorem p_free_en : Enters Tryz.prog 94 := fun args w => by kernel_rfl
def p_way_p (l : (L.Sq L.Pt)) : Prop := L.nrms l
def p_way_r (l : (L.Sq L.Pt)) : SV := .tup [.agg [.int .i64 (L.wayD l).x, .int .i64 (L.wayD l).y], .bool (L.wayOk l)]
def p_way_s : List EV -> Option (Prop × SV)
 | [.p (.sl 2 l_n l_g)] => some ((∀ i, i < l_n -> l_g i = [.int .i64 ((ofPt (l_g i)).x), .int .i64 ((ofPt (l_g i)).y)]) /\ p_way_p (⟨l_n, fun i => ofPt (l_g i)⟩ : (L.Sq L.Pt)), p_way_r (⟨l_n, fun i => ofPt (l_g i)⟩ : (L.Sq L.Pt)))
 | _ => none
abbrev p_way_S : SE.Spec := (specO p_way_s)
def p_way_C : Cfg := { cC with muts := [2, 5, 8], specs := lookS [(93, p_gcd_S), (94, p_free_S)] }
theorem p_way_vc (l : (L.Sq L.Pt)) (hp : p_way_p l) : vc Tryz.prog ({ p_way_C with loops := lookL [(4, { T := Nat, keep := [0, 2, 13, 14], keepO := [2], chg := fun i => [(15, .p (.int .i64 (i:Int)))], own := fun _ => [], inv := fun i => i <= l.n /\ ∀ c, c < 2 * i -> L.free (L.cand l c) l = false, mu := fun i => l.n - i }), (8, { T := Nat × Nat, keep := [0, 2, 5, 13, 14, 15, 45], keepO := [2, 5], tie := fun g => [(15, .int .i64 (g.1:Int))], chg := fun g => [(46, .p (.int .i64 (g.2:Int))), (44, .p (.sl 2 2 (fun s => [.int .i64 ((L.dir (l.g g.1) s).x), .int .i64 ((L.dir (l.g g.1) s).y)])))], own := fun _ => [], inv := fun g => g.1 < l.n /\ g.2 <= 2 /\ ∀ c, c < 2 * g.1 + g.2 -> L.free (L.cand l c) l = false, mu := fun g => 2 - g.2 })], rfs := lookR [] }) (bodyOf Tryz.f58) (st0 Tryz.f58 [.p (.sl 2 l.n (fun i => [.int .i64 ((l.g i).x), .int .i64 ((l.g i).y)]))]) (retFn Tryz.prog Tryz.f58 (p_way_r l)) :=
 @Eq.mpr _ (let I := SV.int .i64; let T := Int.toNat; let A14 := (4611686018427387904:Int); let A13 := (1:Int); let A12 := (-4611686018427387904:Int); let A11 := (L.Sq.mk l.n fun (i:Nat) => l.g i); let A10 := [I (L.wayD l).x, I (L.wayD l).y]; let A8 := (↑l.n:Int); let A6 := (2:Nat); let A15 := (↑A6:Int); let A3 := (0:Int); let A2 := (l.n = l.n /\ ∀ (i:Nat), let A16 := [I (l.g i).x, I (l.g i).y]; i < l.n -> A16 = A16); (decide (A8 = A3) = true -> SV.agg [I A13, I A3] = SV.agg A10 /\ true = L.wayOk l) /\ (decide (A8 = A3) = false -> (∃ (g:Nat), A3 = (↑g:Int) /\ g <= l.n /\ ∀ (c:Nat), c < A6 * g -> L.free (L.cand l c) l = false) /\ ∀ (g:Nat), let A7 := (↑g:Int); let A1 := (l.g (T A7)); let A5 := (L.gcd A1.x A1.y); let A19 := (Int.tdiv (A3 - A1.x) A5); let A18 := (Int.tdiv (A3 - A1.y) A5); (g <= l.n /\ ∀ (c:Nat), c < A6 * g -> L.free (L.cand l c) l = false) -> (decide (A7 < A8) = true -> (A3 <= A7 /\ A7 < A8) /\ ((A12 <= A1.x /\ A1.x <= A14) /\ A12 <= A1.y /\ A1.y <= A14) /\ InK .i64 (A3 - A1.y) /\ L.gcd A1.x A1.y ≠ A3 /\ InK .i64 A18 /\ L.gcd A1.x A1.y ≠ A3 /\ InK .i64 (Int.tdiv A1.x A5) /\ L.gcd A1.x A1.y ≠ A3 /\ InK .i64 (Int.tdiv A1.y A5) /\ InK .i64 (A3 - A1.x) /\ L.gcd A1.x A1.y ≠ A3 /\ InK .i64 A19 /\ (∃ (g_1 : Nat × Nat), A3 = (↑g_1.2:Int) /\ (nat_lit 2 = A6 /\ ∀ (i:Nat), let A20 := (L.dir (l.g g_1.1) i); i < nat_lit 2 -> rowsOf [I A18, I (Int.tdiv A1.x A5), I (Int.tdiv A1.y A5), I A19] (nat_lit 2) i = [I A20.x, I A20.y]) /\ A7 = (↑g_1.1:Int) /\ g_1.1 < l.n /\ g_1.2 <= A6 /\ ∀ (c:Nat), c < A6 * g_1.1 + g_1.2 -> L.free (L.cand l c) l = false) /\ ∀ (g_1 : Nat × Nat), let A9 := (↑g_1.2:Int); let A4 := (L.dir (l.g g_1.1) (T A9)); (A7 = (↑g_1.1:Int) /\ g_1.1 < l.n /\ g_1.2 <= A6 /\ ∀ (c:Nat), c < A6 * g_1.1 + g_1.2 -> L.free (L.cand l c) l = false) -> (decide (A9 < A15) = true -> (A3 <= A9 /\ A9 < (↑(nat_lit 2):Int)) /\ ((∀ (i:Nat), let A17 := [I (l.g i).x, I (l.g i).y]; i < l.n -> A17 = A17) /\ l.n <= (1000000:Nat) /\ L.bd A4 /\ ∀ (i:Nat), i < l.n -> L.bd (l.g i)) /\ (L.free A4 A11 = true -> SV.agg [I A4.x, I A4.y] = SV.agg A10 /\ true = L.wayOk l) /\ (L.free A4 A11 = false -> InK .i64 (A9 + A13) /\ ∃ (g' : Nat × Nat), A9 + A13 = (↑g'.2:Int) /\ (nat_lit 2 = A6 /\ ∀ (i:Nat), let A21 := (L.dir (l.g g_1.1) i); i < nat_lit 2 -> [I A21.x, I A21.y] = [I (L.dir (l.g g'.1) i).x, I (L.dir (l.g g'.1) i).y]) /\ A15 = A15 /\ nat_lit 0 = nat_lit 0 /\ A7 = A7 /\ A8 = A8 /\ A2 /\ nat_lit 0 = nat_lit 0 /\ A2 /\ A1.x = A1.x /\ A1.y = A1.y /\ A3 = A3 /\ A3 = A3 /\ (A7 = (↑g'.1:Int) /\ g'.1 < l.n /\ g'.2 <= A6 /\ ∀ (c:Nat), c < A6 * g'.1 + g'.2 -> L.free (L.cand l c) l = false) /\ A6 - g'.2 < A6 - g_1.2)) /\ (decide (A9 < A15) = false -> InK .i64 (A7 + A13) /\ ∃ (g':Nat), A7 + A13 = (↑g':Int) /\ A8 = A8 /\ A2 /\ nat_lit 0 = nat_lit 0 /\ A2 /\ A3 = A3 /\ A3 = A3 /\ (g' <= l.n /\ ∀ (c:Nat), c < A6 * g' -> L.free (L.cand l c) l = false) /\ l.n - g' < l.n - g)) /\ (decide (A7 < A8) = false -> SV.agg [I A3, I A3] = SV.agg A10 /\ false = L.wayOk l))) (by kernel_rfl) (by
 conv => zeta
 obtain ⟨hn, hN⟩ := hp
 refine ⟨fun h0 => ?_, fun h0 => ?_⟩
 · have h0 : ((l.n:Nat):Int) = 0 := of_decide_eq_true h0
   obtain ⟨e1, e2⟩ := way_0 (N := l) (by omega)
   rw [e1, e2]; exact ⟨rfl, rfl⟩
 have h0 : ¬ ((l.n:Nat):Int) = 0 := of_decide_eq_false h0
 refine ⟨⟨(0:Nat), rfl, Nat.zero_le _, fun c hc => absurd hc (Nat.not_lt_zero _)⟩, fun g hg => ⟨fun hlt => ?_, fun hge => ?_⟩⟩
 · obtain ⟨hg1, hg2⟩ := hg
   have hb : (g:Int) < (l.n:Int) := of_decide_eq_true hlt
   have e0 : ((g:Int)).toNat = g := by omega
   have hgl : g < l.n := by omega
   obtain ⟨⟨⟨a1, a2⟩, b1, b2⟩, hgc, _⟩ := isNrm_of (hN g hgl)
   have t1 := tdiv_bd (a := (l.g g).x) (g := L.gcd (l.g g).x (l.g g).y) a1 a2 hgc
   have t2 := tdiv_bd (a := (l.g g).y) (g := L.gcd (l.g g).x (l.g g).y) b1 b2 hgc
   have t3 := tdiv_bd (a := 0 - (l.g g).x) (g := L.gcd (l.g g).x (l.g g).y) (by omega) (by omega) hgc
   have t4 := tdiv_bd (a := 0 - (l.g g).y) (g := L.gcd (l.g g).x (l.g g).y) (by omega) (by omega) hgc
   rw [e0]
   refine ⟨⟨by omega, hb⟩, ⟨⟨by omega, by omega⟩, by omega, by omega⟩, iK, by omega, iK, by omega, iK, by omega, iK, iK, by omega, iK, ⟨(g, 0), rfl, ⟨rfl, fun i hi => ?_⟩, rfl, hgl, Nat.zero_le _, hg2⟩, fun h hh => ?_⟩
   · match i, hi with
     | 0, _ => rfl
     | 1, _ => rfl
   obtain ⟨g0, s⟩ := h
   obtain ⟨e1, q1, q2, q3⟩ := hh
   have e1 : (g:Int) = (g0:Int) := e1
   obtain rfl : g = g0 := by omega
   have q2 : s <= 2 := q2
   have q3 : ∀ c, c < 2 * g + s -> L.free (L.cand l c) l = false := q3
   have es : ((s:Int)).toNat = s := by omega
   dsimp only
   rw [es]
   refine ⟨fun hs => ?_, fun hs => ?_⟩
   · have hs : (s:Int) < (2:Int) := of_decide_eq_true hs
     have hs2 : s < 2 := by omega
     have hc := cand_eq l g hs2
     refine ⟨⟨by omega, hs⟩, ⟨fun _ _ => rfl, hn, dir_bd (hN g hgl) s, fun i hi => (isNrm_of (hN i hi)).2.2⟩, fun hf => ?_, fun hf => ?_⟩
     · rw [<- hc] at hf
       obtain ⟨w1, w2⟩ := way_at q3 hf (by omega)
       rw [w1, w2, hc]; exact ⟨rfl, rfl⟩
     · rw [<- hc] at hf
       refine ⟨iK, (g, s + 1), by show (s:Int) + 1 = ((s + 1:Nat):Int); omega, ⟨rfl, fun _ _ => rfl⟩, rfl, rfl, rfl, rfl, ⟨rfl, fun _ _ => rfl⟩, rfl, ⟨rfl, fun _ _ => rfl⟩, rfl, rfl, rfl, rfl, ⟨rfl, q1, by show s + 1 <= 2; omega, fun c hc' => ?_⟩, by show 2 - (s + 1) < 2 - s; omega⟩
       have hc' : c < 2 * g + s + 1 := hc'
       rcases Nat.lt_succ_iff_lt_or_eq.1 hc' with h | rfl
       · exact q3 c h
       · exact hf
   · have hs : ¬ (s:Int) < (2:Int) := of_decide_eq_false hs
     obtain rfl : s = 2 := by omega
     exact ⟨iK, g + 1, by omega, rfl, ⟨rfl, fun _ _ => rfl⟩, rfl, ⟨rfl, fun _ _ => rfl⟩, rfl, rfl, ⟨by omega, fun c hc => q3 c (by omega)⟩, by omega⟩
 · obtain ⟨hg1, hg2⟩ := hg
   have hb : ¬ (g:Int) < (l.n:Int) := of_decide_eq_false hge
   obtain rfl : g = l.n := by omega
   obtain ⟨w1, w2⟩ := way_no (N := l) (by omega) hg2
   rw [w1, w2]; exact ⟨rfl, rfl⟩)
theorem p_way_ok : SpecOk Tryz.prog 58 p_way_S := fnX Tryz.func58 (c := bodyOf Tryz.f58) (by kernel_rfl) mixed (fun args p r hs hp => by
 unfold p_way_s at hs
 split at hs
 · cases hs; exact ⟨_, _, p_way_vc _ hp.2, (.p (.sl hp.1) .nil), ⟨show SpecsL Tryz.prog _ from (SpecsL.cons p_gcd_ok p_gcd_en (SpecsL.cons p_free_ok p_free_en SpecsL.nil)), rfl, ⟨show ItersL Tryz.prog _ from ItersL.nil, (TrsOk.none (fun _ => rfl))⟩⟩⟩
 · cases hs)
theorem p_way_en : Enters Tryz.prog 58 := fun args w => by kernel_rfl
def p_bad_p (n : L.Pt) : Prop := True
def p_bad_r (n : L.Pt) : SV := .bool (!L.isNrm n)
def p_bad_s : List EV -> Option (Prop × SV)
 | [.p (.agg [.int .i64 n_x, .int .i64 n_y])] => some (p_bad_p (⟨n_x, n_y⟩ : L.Pt), p_bad_r (⟨n_x, n_y⟩ : L.Pt))
 | _ => none
abbrev p_bad_S : SE.Spec := (specO p_bad_s)
def p_bad_C : Cfg := { cC with specs := lookS [(56, p_within_S)] }
theorem p_bad_vc (n : L.Pt) (hp : p_bad_p n) : vc Tryz.prog (p_bad_C) (bodyOf Tryz.f55) (st0 Tryz.f55 [.p (.agg [.int .i64 n.x, .int .i64 n.y])]) (retFn Tryz.prog Tryz.f55 (p_bad_r n)) :=
 @Eq.mpr _ (let A3 := (4096:Int); let A2 := (-4096:Int); let A1 := (0:Int); ((!(decide (n.x = A1) && decide (n.y = A1))) = true -> True) /\ ((!bif decide (n.x = A1) && decide (n.y = A1) then true else !L.within n.x A2 A3) = true -> True) /\ (bif bif decide (n.x = A1) && decide (n.y = A1) then true else !L.within n.x A2 A3 then true else !L.within n.y A2 A3) = !L.isNrm n) (by kernel_rfl) (by
 conv => zeta
 refine ⟨fun _ => trivial, fun _ => trivial, ?_⟩
 unfold L.isNrm
 cases (decide (n.x = 0) && decide (n.y = 0)) <;> cases L.within n.x (-4096) 4096 <;> cases L.within n.y (-4096) 4096 <;> rfl)
theorem p_bad_ok : SpecOk Tryz.prog 55 p_bad_S := fnX Tryz.func55 (c := bodyOf Tryz.f55) (by kernel_rfl) mixed (fun args p r hs hp => by
 unfold p_bad_s at hs
 split at hs
 · cases hs; exact ⟨_, _, p_bad_vc _ hp, (.same _ .nil), ⟨show SpecsL Tryz.prog _ from (SpecsL.cons p_within_ok p_within_en SpecsL.nil), rfl, ⟨show ItersL Tryz.prog _ from ItersL.nil, (TrsOk.none (fun _ => rfl))⟩⟩⟩
 · cases hs)
theorem p_bad_en : Enters Tryz.prog 55 := fun args w => by kernel_rfl
theorem p_bad_B : ∀ args p r, p_bad_s args = some (p, r) -> ∃ b, r = .bool b := by
 intro args p r h
 unfold p_bad_s at h
 split at h
 · cases h; exact ⟨_, rfl⟩
 · cases h
end Go.Proofs.YtaklapjfnejlbaaGreat
namespace Go.Proofs.YtaklapjfnejlbaaGreat
open Go.SE Go.RowKit
set_option maxRecDepth 100000
set_option maxHeartbeats 4000000
set_option linter.unusedVariables false
attribute [local irreducible] vc
def L.pck (N : L.Sq L.Pt) (l : L.Sq Int) : L.Sq L.Pt := ⟨l.n, fun i => N.g (l.g i).toNat⟩
def L.snoc (l : L.Sq Int) (x:Int) : L.Sq Int := ⟨l.n + 1, fun i => bif decide (i < l.n) then l.g i else x⟩
def L.nilI : L.Sq Int := ⟨0, fun _ => 0⟩
def L.first (f : Nat -> Option (L.Sq Int)) : Nat -> Option (L.Sq Int)
 | 0 => none
 | c + 1 => match L.first f c with
   | some x => some x
   | none => f c
def L.grp (N : L.Sq L.Pt) : Nat -> L.Sq Int -> Nat -> Option (L.Sq Int)
 | 0, l, _ => bif L.wayOk (L.pck N l) then none else some l
 | d + 1, l, fr => L.first (fun j => L.grp N d (L.snoc l ((fr + j:Nat):Int)) (fr + j + 1)) (N.n - fr)
def L.orB (o : Option (L.Sq Int)) (b : L.Sq Int) : L.Sq Int := match o with
 | some x => x
 | none => b
def L.isNo (o : Option (L.Sq Int)) : Bool := match o with
 | some _ => false
 | none => true
def L.aft (N : L.Sq L.Pt) (l b : L.Sq Int) : L.Sq Int := bif L.wayOk (L.pck N l) then b else l
def L.within0 (l : L.Sq Int) (n:Nat) : Prop := ∀ i, i < l.n -> 0 <= l.g i /\ l.g i < (n:Int)
def L.exF (N : L.Sq L.Pt) (j:Nat) : Option (L.Sq Int) := L.grp N (3 + j) L.nilI 0
def L.exL (N : L.Sq L.Pt) : L.Sq Int := L.orB (L.first (L.exF N) 22) L.nilI
def L.exBad (N : L.Sq L.Pt) : Bool := bif decide (24 < (N.n:Int)) then true else L.anyB N.n (fun i => !L.isNrm (N.g i))
def L.exE (N : L.Sq L.Pt) : Int := bif L.exBad N then 1 else bif L.wayOk N then 0 else 13
def L.exD (N : L.Sq L.Pt) : L.Pt := bif L.exBad N then ⟨0, 0⟩ else L.wayD N
def L.exN (N : L.Sq L.Pt) : Nat := bif L.exBad N then 0 else bif L.wayOk N then 0 else (L.exL N).n
theorem first_none {f : Nat -> Option (L.Sq Int)} : ∀ {c : Nat}, (∀ j, j < c -> f j = none) -> L.first f c = none
 | 0, _ => rfl
 | c + 1, h => by rw [L.first, first_none (c := c) (fun j hj => h j (by omega))]; exact h c (by omega)
theorem first_none_of {f : Nat -> Option (L.Sq Int)} : ∀ {c : Nat}, L.first f c = none -> ∀ j, j < c -> f j = none
 | 0, _, j, hj => absurd hj (Nat.not_lt_zero _)
 | c + 1, h, j, hj => by
   rw [L.first] at h
   cases hf : L.first f c with
   | some x => rw [hf] at h; cases h
   | none =>
     rw [hf] at h
     rcases Nat.lt_succ_iff_lt_or_eq.1 hj with hj | rfl
     · exact first_none_of hf j hj
     · exact h
theorem first_at {f : Nat -> Option (L.Sq Int)} {j : Nat} {x : L.Sq Int} (h0 : ∀ i, i < j -> f i = none) (h : f j = some x) : ∀ {c : Nat}, j < c -> L.first f c = some x
 | c + 1, hc => by
   rw [L.first]
   rcases Nat.lt_succ_iff_lt_or_eq.1 hc with hc | rfl
   · rw [first_at h0 h hc]
   · rw [first_none h0]; exact h
theorem first_some {f : Nat -> Option (L.Sq Int)} {x : L.Sq Int} : ∀ {c : Nat}, L.first f c = some x -> ∃ j, j < c /\ f j = some x /\ ∀ i, i < j -> f i = none
 | 0, h => by cases h
 | c + 1, h => by
   rw [L.first] at h
   cases hf : L.first f c with
   | some y =>
     rw [hf] at h
     cases h
     obtain ⟨j, h1, h2, h3⟩ := first_some hf
     exact ⟨j, by omega, h2, h3⟩
   | none =>
     rw [hf] at h
     exact ⟨c, Nat.lt_succ_self c, h, first_none_of hf⟩
theorem first_mono {f : Nat -> Option (L.Sq Int)} {x : L.Sq Int} {c m : Nat} (h : L.first f c = some x) (hm : c <= m) : L.first f m = some x := by
 obtain ⟨j, h1, h2, h3⟩ := first_some h
 exact first_at h3 h2 (by omega)
theorem grp_len {N : L.Sq L.Pt} : ∀ {d : Nat} {l : L.Sq Int} {fr : Nat} {x : L.Sq Int}, L.grp N d l fr = some x -> x.n = l.n + d
 | 0, l, fr, x, h => by
   rw [L.grp] at h
   cases hw : L.wayOk (L.pck N l) with
   | true => rw [hw] at h; cases h
   | false => rw [hw] at h; cases h; rfl
 | d + 1, l, fr, x, h => by
   rw [L.grp] at h
   obtain ⟨j, _, h2, _⟩ := first_some h
   have := grp_len h2
   rw [this]
   show l.n + 1 + d = l.n + (d + 1)
   omega
theorem snoc_within {l : L.Sq Int} {n : Nat} (h : L.within0 l n) {x : Int} (h0 : 0 <= x) (h1 : x < (n:Int)) : L.within0 (L.snoc l x) n := fun i hi => by
 have hi : i < l.n + 1 := hi
 show 0 <= (bif decide (i < l.n) then l.g i else x) /\ (bif decide (i < l.n) then l.g i else x) < (n:Int)
 by_cases h' : i < l.n
 · rw [decide_eq_true h']; exact h i h'
 · rw [decide_eq_false h']; exact ⟨h0, h1⟩
theorem pick_nrms {N : L.Sq L.Pt} {l : L.Sq Int} (hN : L.nrms N) (h : L.within0 l N.n) (hn : l.n <= 1000000) : L.nrms (L.pck N l) := ⟨hn, fun i hi => hN.2 _ (by have := h i hi; omega)⟩
theorem isNo_none {o : Option (L.Sq Int)} (h : L.isNo o = true) : o = none := by
 cases o with
 | none => rfl
 | some x => cases h
theorem isNo_some {o : Option (L.Sq Int)} (h : L.isNo o = false) : ∃ x, o = some x := by
 cases o with
 | none => cases h
 | some x => exact ⟨x, rfl⟩
theorem exBad_false {N : L.Sq L.Pt} (h : L.exBad N = false) : N.n <= 24 /\ L.nrms N := by
 unfold L.exBad at h
 cases hd : decide (24 < (N.n:Int)) with
 | true => rw [hd] at h; cases h
 | false =>
   have hd := of_decide_eq_false hd
   rw [decide_eq_false hd] at h
   refine ⟨by omega, by omega, fun i hi => ?_⟩
   cases hn : L.isNrm (N.g i) with
   | true => rfl
   | false =>
     have : L.anyB N.n (fun i => !L.isNrm (N.g i)) = true := anyB_iff.2 ⟨i, hi, by rw [hn]; rfl⟩
     rw [this] at h; cases h
theorem wayD_no {N : L.Sq L.Pt} (h : L.wayOk N = false) : L.wayD N = ⟨0, 0⟩ := by
 unfold L.wayOk at h
 obtain ⟨h1, h2⟩ := Bool.or_eq_false_iff.1 h
 unfold L.wayD
 rw [h1, h2]; rfl
abbrev p_exit2_tr : Tr := { T := (L.Sq Int) × (L.Sq L.Pt) × (L.Sq Int), U := Nat, args := fun t => (fun l N b => [.p (.sl 1 l.n (fun i => [.int .i64 (l.g i)])), .p (.ref [(.sl 2 N.n (fun i => [.int .i64 ((N.g i).x), .int .i64 ((N.g i).y)]))] 0), .loc 1003 0]) t.1 t.2.1 t.2.2, own := fun t => (fun l N b => [(1003, .blk 48 [.full false 1 (b).n (fun i => [.int .i64 ((b).g i)])])]) t.1 t.2.1 t.2.2, pre := fun t => (fun l N b => 1 <= l.n /\ l.n <= 1000 /\ L.nrms N /\ L.within0 l N.n) t.1 t.2.1 t.2.2, post := fun t u => (fun l N b => fun u => True) t.1 t.2.1 t.2.2 u, own' := fun t u => (fun l N b => fun u => [(1003, .blk 48 [.full false 1 (L.aft N l b).n (fun i => [.int .i64 ((L.aft N l b).g i)])])]) t.1 t.2.1 t.2.2 u, res := fun t u => (fun l N b => fun u => .p (.bool (L.wayOk (L.pck N l)))) t.1 t.2.1 t.2.2 u }
theorem p_exit2_vc (l : L.Sq Int) (N : L.Sq L.Pt) (b : L.Sq Int) (hp : p_exit2_tr.pre (l, N, b)) : vc Tryz.prog ({ muts := [8], frz := lookN [], specs := lookS [(58, p_way_S)], loops := lookL [(3, { T := Nat, keep := [0, 1, 2, 5, 10, 11], keepO := [1003], chg := fun i => [(12, .p (.int .i64 (i:Int)))], own := fun i => [(20, .row 45 2 i (fun j => [.int .i64 ((N.g (l.g j).toNat).x), .int .i64 ((N.g (l.g j).toNat).y)]))], inv := fun i => i <= l.n, mu := fun i => l.n - i })], iters := lookI [], rfs := lookR [], nils := lookM [(2, [(5, 20, 45, 2)])] }) (bodyOf Tryz.f60) (stTr Tryz.f60 (p_exit2_tr.args (l, N, b)) (p_exit2_tr.own (l, N, b))) (retTr Tryz.prog Tryz.f60 p_exit2_tr (l, N, b)) :=
 @Eq.mpr _ (let I := SV.int .i64; let T := Int.toNat; let A7 := (L.aft N l b); let A6 := (↑l.n:Int); let A4 := (l.n = l.n /\ ∀ (i:Nat), i < l.n -> [I (l.g i)] = [I (l.g i)]); let A2 := [SV.sl (nat_lit 2) N.n fun (i:Nat) => [I (N.g i).x, I (N.g i).y]]; (∃ (g:Nat), (0:Int) = (↑g:Int) /\ (nat_lit 0 = g /\ ∀ (i:Nat), i < nat_lit 0 -> [] = [I (N.g (T (l.g i))).x, I (N.g (T (l.g i))).y]) /\ g <= l.n) /\ ∀ (g:Nat), let A3 := (↑g:Int); let A8 := (N.g (T (l.g (T A3)))); let A1 := (L.Sq.mk g fun (i:Nat) => N.g (T (l.g i))); g <= l.n -> (decide (A3 < A6) = true -> ((0:Int) <= A3 /\ A3 < A6) /\ ((0:Int) <= l.g (T A3) /\ l.g (T A3) < (↑N.n:Int)) /\ (g + nat_lit 1) * nat_lit 16 <= (140737488355328:Nat) /\ InK .i64 (A3 + (1:Int)) /\ ∃ (g':Nat), A3 + (1:Int) = (↑g':Int) /\ A6 = A6 /\ A4 /\ A4 /\ SV.ref A2 (nat_lit 0) = SV.ref A2 (nat_lit 0) /\ nat_lit 0 = nat_lit 0 /\ (g + nat_lit 1 = g' /\ ∀ (i:Nat), i < g + nat_lit 1 -> appGet g (fun (j:Nat) => [I (N.g (T (l.g j))).x, I (N.g (T (l.g j))).y]) (fun (x:Nat) => [I A8.x, I A8.y]) i = [I (N.g (T (l.g i))).x, I (N.g (T (l.g i))).y]) /\ (b.n = b.n /\ ∀ (i:Nat), i < b.n -> [I (b.g i)] = [I (b.g i)]) /\ g' <= l.n /\ l.n - g' < l.n - g) /\ (decide (A3 < A6) = false -> ((∀ (i:Nat), let A5 := [I (N.g (T (l.g i))).x, I (N.g (T (l.g i))).y]; i < g -> A5 = A5) /\ L.nrms A1) /\ ((!L.wayOk A1) = true -> ∃ (u:Nat), false = L.wayOk (L.pck N l) /\ (l.n = A7.n /\ (0:Nat) < l.n /\ ∀ (i:Nat), i < l.n -> [I (l.g i)] = [I (A7.g i)]) /\ True) /\ ((!L.wayOk A1) = false -> ∃ (u:Nat), true = L.wayOk (L.pck N l) /\ (b.n = A7.n /\ ∀ (i:Nat), i < b.n -> [I (b.g i)] = [I (A7.g i)]) /\ True))) (by kernel_rfl) (by
 conv => zeta
 have hp : 1 <= l.n /\ l.n <= 1000 /\ L.nrms N /\ L.within0 l N.n := hp
 obtain ⟨h1, h2, hN, hw⟩ := hp
 refine ⟨⟨(0:Nat), rfl, ⟨rfl, fun i hi => absurd hi (Nat.not_lt_zero _)⟩, Nat.zero_le _⟩, fun g hg => ⟨fun hlt => ?_, fun hge => ?_⟩⟩
 · have hb : (g:Int) < (l.n:Int) := of_decide_eq_true hlt
   have e0 : ((g:Int)).toNat = g := by omega
   have hx := hw g (by omega)
   rw [e0]
   refine ⟨⟨by omega, hb⟩, hx, show (g + 1) * 16 <= 140737488355328 by omega, iK, g + 1, by omega, rfl, ⟨rfl, fun _ _ => rfl⟩, ⟨rfl, fun _ _ => rfl⟩, rfl, rfl, ⟨rfl, fun i hi => ?_⟩, ⟨rfl, fun _ _ => rfl⟩, by omega, by omega⟩
   have hi : i < g + 1 := hi
   unfold appGet
   by_cases h' : i < g
   · rw [if_pos h']
   · rw [if_neg h']
     obtain rfl : i = g := by omega
     rfl
 · have hb : ¬ (g:Int) < (l.n:Int) := of_decide_eq_false hge
   obtain rfl : g = l.n := by omega
   have e : (L.Sq.mk l.n fun (i:Nat) => N.g (l.g i).toNat) = L.pck N l := rfl
   rw [e]
   refine ⟨⟨fun _ _ => rfl, pick_nrms hN hw (by omega)⟩, fun hc => ?_, fun hc => ?_⟩
   · have hc : L.wayOk (L.pck N l) = false := by simpa using (show (!L.wayOk (L.pck N l)) = true from hc)
     unfold L.aft
     rw [hc]; exact ⟨(0:Nat), rfl, ⟨rfl, h1, fun _ _ => rfl⟩, trivial⟩
   · have hc : L.wayOk (L.pck N l) = true := by simpa using (show (!L.wayOk (L.pck N l)) = false from hc)
     unfold L.aft
     rw [hc]; exact ⟨(0:Nat), rfl, ⟨rfl, fun _ _ => rfl⟩, trivial⟩)
theorem p_exit2_en : Enters Tryz.prog 60 := fun args w => by kernel_rfl
theorem p_exit2_tok : TrOk Tryz.prog 60 p_exit2_tr := tr_ok (ks := [1003]) (n := 3) Tryz.func60 (c := bodyOf Tryz.f60) (by kernel_rfl) mixed ⟨fun t => rfl, fun t => rfl, fun t u => rfl, fun t u => rfl, fun t u => rfl, by kernel_rfl⟩ (fun ⟨l, N, b⟩ hp => ⟨_, p_exit2_vc l N b hp, ⟨show SpecsL Tryz.prog _ from (SpecsL.cons p_way_ok p_way_en SpecsL.nil), rfl, ⟨show ItersL Tryz.prog _ from ItersL.nil, (TrsOk.none (fun _ => rfl))⟩⟩⟩)
abbrev p_more_tr : Tr := { T := (L.Sq Int) × (Nat) × (Nat) × (L.Sq L.Pt) × (L.Sq Int), U := Nat, args := fun t => (fun l fr k N b => [.p (.sl 1 l.n (fun i => [.int .i64 (l.g i)])), .p (.int .i64 (fr:Int)), .p (.ref [.int .i64 (k:Int)] 0), .loc 1005 0, .p (.ref [.int .i64 (N.n:Int)] 0), .loc 1007 0]) t.1 t.2.1 t.2.2.1 t.2.2.2.1 t.2.2.2.2, own := fun t => (fun l fr k N b => [(1003, .blk 48 [.full false 1 (b).n (fun i => [.int .i64 ((b).g i)])]), (1005, .blk 84 [.cl 60 [.p (.ref [(.sl 2 N.n (fun i => [.int .i64 ((N.g i).x), .int .i64 ((N.g i).y)]))] 0), .loc 1003 0]]), (1007, .blk 105 [.cl 95 [.p (.ref [.int .i64 (k:Int)] 0), .loc 1005 0, .p (.ref [.int .i64 (N.n:Int)] 0), .loc 1007 0]])]) t.1 t.2.1 t.2.2.1 t.2.2.2.1 t.2.2.2.2, pre := fun t => (fun l fr k N b => (l.n <= k /\ 1 <= k /\ k <= 1000) /\ (fr <= N.n /\ N.n <= 1000) /\ L.nrms N /\ L.within0 l N.n) t.1 t.2.1 t.2.2.1 t.2.2.2.1 t.2.2.2.2, post := fun t u => (fun l fr k N b => fun u => True) t.1 t.2.1 t.2.2.1 t.2.2.2.1 t.2.2.2.2 u, own' := fun t u => (fun l fr k N b => fun u => [(1003, .blk 48 [.full false 1 (L.orB (L.grp N (k - l.n) l fr) b).n (fun i => [.int .i64 ((L.orB (L.grp N (k - l.n) l fr) b).g i)])]), (1005, .blk 84 [.cl 60 [.p (.ref [(.sl 2 N.n (fun i => [.int .i64 ((N.g i).x), .int .i64 ((N.g i).y)]))] 0), .loc 1003 0]]), (1007, .blk 105 [.cl 95 [.p (.ref [.int .i64 (k:Int)] 0), .loc 1005 0, .p (.ref [.int .i64 (N.n:Int)] 0), .loc 1007 0]])]) t.1 t.2.1 t.2.2.1 t.2.2.2.1 t.2.2.2.2 u, res := fun t u => (fun l fr k N b => fun u => .p (.bool (L.isNo (L.grp N (k - l.n) l fr)))) t.1 t.2.1 t.2.2.1 t.2.2.2.1 t.2.2.2.2 u }
abbrev p_more_mu : p_more_tr.T -> Nat := fun t => (fun l fr k N b => k - l.n) t.1 t.2.1 t.2.2.1 t.2.2.2.1 t.2.2.2.2
theorem p_more_vc (rn:Nat) (l : L.Sq Int) (fr:Nat) (k:Nat) (N : L.Sq L.Pt) (b : L.Sq Int) (hp : p_more_tr.pre (l, fr, k, N, b)) (hmu : k - l.n < rn + 1) : vc Tryz.prog ({ muts := [], frz := lookN [], specs := lookS [], loops := lookL [(4, { T := Nat, keep := [0, 1, 2, 3, 4, 5, 8], keepO := [1003, 1005, 1007], chg := fun j => [(9, .p (.int .i64 ((fr + j:Nat):Int)))], own := fun _ => [], inv := fun j => fr + j <= N.n /\ ∀ c, c < j -> L.isNo (L.grp N (k - l.n - 1) (L.snoc l ((fr + c:Nat):Int)) (fr + c + 1)) = true, mu := fun j => N.n - (fr + j) })], iters := lookI [], rfs := lookR [], nils := lookM [], trs := lookT [(60, p_exit2_tr), (95, Tr.lt p_more_tr p_more_mu rn)], ren := fun k => k }) (bodyOf Tryz.f95) (stTr Tryz.f95 (p_more_tr.args (l, fr, k, N, b)) (p_more_tr.own (l, fr, k, N, b))) (retTr Tryz.prog Tryz.f95 p_more_tr (l, fr, k, N, b)) :=
  @Eq.mpr _ (let I := SV.int .i64; let T := Int.toNat; let A29 := (1:Int); let A28 := (1000:Nat); let A27 := (95:Nat); let A26 := (60:Nat); let A21 := [I (↑k:Int)]; let A20 := (nat_lit 95); let A19 := (nat_lit 60); let A16 := (↑N.n:Int); let A15 := (1:Nat); let A25 := (k - l.n - A15); let A14 := [SV.sl (nat_lit 2) N.n fun (i:Nat) => [I (N.g i).x, I (N.g i).y]]; let A13 :=
 (0:Nat); let A11 := (↑l.n:Int); let A9 := (L.grp N (k - l.n) l fr); let A18 := (L.orB A9 b); let A7 := (nat_lit 0); let A5 := [EV.p (SV.ref [SV.sl (2:Nat) N.n fun (i:Nat) => [I (N.g i).x, I (N.g i).y]] A13), EV.loc (1003:Nat) A13]; let A3 := [EV.p (SV.ref A21 A13), EV.loc (1005:Nat) A13, EV.p (SV.ref [I A16] A13), EV.loc (1007
:Nat) A13]; let A2 := [EV.p (SV.ref A14 A7), EV.loc (nat_lit 1003) A7]; let A1 := [EV.p (SV.ref A21 A7), EV.loc (nat_lit 1005) A7, EV.p (SV.ref [I A16] A7), EV.loc (nat_lit 1007) A7]; (decide (A11 = (↑k:Int)) = true -> ∃ (t : L.Sq Int × L.Sq L.Pt × L.Sq Int), let A23 := (L.aft t.2.1 t.1 t.2.2); (l.n = t.1.n /\ ∀ (i:Nat), i <
 l.n -> [I (l.g i)] = [I (t.1.g i)]) /\ SV.ref A14 A7 = SV.ref [SV.sl (2:Nat) t.2.1.n fun (i:Nat) => [I (t.2.1.g i).x, I (t.2.1.g i).y]] A13 /\ nat_lit 0 = A13 /\ (b.n = t.2.2.n /\ ∀ (i:Nat), i < b.n -> [I (b.g i)] = [I (t.2.2.g i)]) /\ (A15 <= t.1.n /\ t.1.n <= A28 /\ L.nrms t.2.1 /\ L.within0 t.1 t.2.1.n) /\ ∀ (u:Nat), True -> ∃ (u:Nat), L.wayOk (L.pck t.2.1 t.1) = L.isNo A9 /\ (A23.n
 = A18.n /\ ∀ (i:Nat), i < A23.n -> [I (A23.g i)] = [I (A18.g i)]) /\ EV.cl A19 A2 = EV.cl A26 A5 /\ EV.cl A20 A1 = EV.cl A27 A3 /\ True) /\ (decide (A11 = (↑k:Int)) = false -> (∃ (g:Nat), (↑fr:Int) = (↑(fr + g):Int) /\ fr + g <= N.n /\ ∀ (c:Nat), c < g -> L.isNo (L.grp N A25 (L.snoc l (↑(fr + c):Int)) (fr + c + A15)) = true) /\ ∀ (g:Nat), let A12 :=
 (↑(fr + g):Int); (fr + g <= N.n /\ ∀ (c:Nat), c < g -> L.isNo (L.grp N A25 (L.snoc l (↑(fr + c):Int)) (fr + c + A15)) = true) -> (decide (A12 < A16) = true -> ((0:Int) <= A11 /\ A11 <= A11 /\ A11 = A11) /\ (A13 < A15 /\ (T A11 + A15) * nat_lit 8 <= (140737488355328:Nat)) /\ InK .i64 (A12 + A29) /\ ∃ (t : L.Sq Int × Nat × Nat × L.Sq L.Pt × L.Sq Int), let A24 := [I
 (↑t.snd.2.1:Int)]; let A30 := (SV.ref A24 A7); let A17 := [I (↑t.snd.snd.2.1.n:Int)]; let A31 := (SV.ref A17 A7); let A10 := (L.grp t.snd.snd.2.1 (t.snd.2.1 - t.1.n) t.1 t.2.1); let A8 := [EV.p A30, EV.loc (1005:Nat) A7, EV.p A31, EV.loc (1007:Nat) A7]; let A6 := (SV.ref [SV.sl (nat_lit 2) t.snd.snd.2.1.n fun (i:Nat) => [I (t.snd.snd.2.1.g
 i).x, I (t.snd.snd.2.1.g i).y]] A7); let A22 := [EV.p A6, EV.loc (1003:Nat) A7]; let A4 := (L.orB A10 t.snd.snd.2.2); (T A11 + A15 = t.1.n /\ ∀ (i:Nat), i < T A11 + A15 -> appGet (T A11) (fun (i:Nat) => [I (l.g i)]) (fun (x:Nat) => [I A12]) i = [I (t.1.g i)]) /\ A12 + A29 = (↑t.2.1:Int) /\ SV.ref A21 A7 = SV.ref A24 A13 /\ nat_lit 0 = A13 /\ SV.ref [I A16] A7
 = SV.ref A17 A13 /\ nat_lit 0 = A13 /\ (b.n = t.snd.snd.2.2.n /\ ∀ (i:Nat), i < b.n -> [I (b.g i)] = [I (t.snd.snd.2.2.g i)]) /\ EV.cl A19 A2 = EV.cl A26 [EV.p A6, EV.loc (nat_lit 1003) A7] /\ EV.cl A20 A1 = EV.cl A27 [EV.p A30, EV.loc (nat_lit 1005) A7, EV.p A31, EV.loc (nat_lit 1007) A7] /\ (((t.1.n <= t.snd.2.1 /\ A15 <= t.snd.2.1 /\
 t.snd.2.1 <= A28) /\ (t.2.1 <= t.snd.snd.2.1.n /\ t.snd.snd.2.1.n <= A28) /\ L.nrms t.snd.snd.2.1 /\ L.within0 t.1 t.snd.snd.2.1.n) /\ t.snd.2.1 - t.1.n < rn) /\ ∀ (u:Nat), True -> ((!L.isNo A10) = true -> ∃ (u:Nat), false = L.isNo A9 /\ (A4.n = A18.n /\ ∀ (i:Nat), i < A4.n -> [I (A4.g i)] = [I (A18.g i)]) /\ EV.cl A19 A22 = EV.cl A26 A5 /\ EV.cl A20 A8 = EV.cl A27 A3 /\
 True) /\ ((!L.isNo A10) = false -> InK .i64 (A12 + A29) /\ ∃ (g':Nat), A12 + A29 = (↑(fr + g'):Int) /\ false = false /\ (l.n = l.n /\ ∀ (i:Nat), i < l.n -> [I (l.g i)] = [I (l.g i)]) /\ (↑fr:Int) = (↑fr:Int) /\ SV.ref A21 A7 = SV.ref A21 A7 /\ nat_lit 0 = nat_lit 0 /\ SV.ref [I A16] A7 = SV.ref [I A16] A7 /\ nat_lit 0 = nat_lit 0 /\ (A4.n = b.n /\
 ∀ (i:Nat), i < A4.n -> [I (A4.g i)] = [I (b.g i)]) /\ EV.cl A19 A22 = EV.cl A19 A2 /\ EV.cl A20 A8 = EV.cl A20 A1 /\ (fr + g' <= N.n /\ ∀ (c:Nat), c < g' -> L.isNo (L.grp N A25 (L.snoc l (↑(fr + c):Int)) (fr + c + A15)) = true) /\ N.n - (fr + g') < N.n - (fr + g))) /\ (decide (A12 < A16) = false -> ∃ (u:Nat), true = L.isNo A9 /\ (b.n = A18.n /\ ∀ (i :
 Nat), i < b.n -> [I (b.g i)] = [I (A18.g i)]) /\ EV.cl A19 A2 = EV.cl A26 A5 /\ EV.cl A20 A1 = EV.cl A27 A3 /\ True))) (by kernel_rfl) (by
    conv => zeta
    have hp : (l.n <= k /\ 1 <= k /\ k <= 1000) /\ (fr <= N.n /\ N.n <= 1000) /\ L.nrms N /\ L.within0 l N.n := hp
    obtain ⟨⟨k1, k2, k3⟩, ⟨f1, f2⟩, hN, hw⟩ := hp
    have hmu : k - l.n < rn + 1 := hmu
    refine ⟨fun he => ?_, fun hne => ?_⟩
    · have he : ((l.n:Nat):Int) = (k:Int) := of_decide_eq_true he
      have e0 : k - l.n = 0 := by omega
      have hR : L.isNo (L.grp N (k - l.n) l fr) = L.wayOk (L.pck N l) := by
        rw [e0, L.grp]; cases L.wayOk (L.pck N l) <;> rfl
      have hA : L.orB (L.grp N (k - l.n) l fr) b = L.aft N l b := by
        rw [e0, L.grp]; unfold L.aft; cases L.wayOk (L.pck N l) <;> rfl
      rw [hR, hA]
      exact ⟨(l, N, b), ⟨rfl, fun _ _ => rfl⟩, rfl, rfl, ⟨rfl, fun _ _ => rfl⟩, ⟨by show 1 <= l.n; omega, by show l.n <= 1000; omega, hN, hw⟩, fun u _ => ⟨(0:Nat), rfl, ⟨rfl, fun _ _ => rfl⟩, rfl, rfl, trivial⟩⟩
    · have hne : ¬ ((l.n:Nat):Int) = (k:Int) := of_decide_eq_false hne
      have hG : L.grp N (k - l.n) l fr = L.first (fun j => L.grp N (k - l.n - 1) (L.snoc l ((fr + j:Nat):Int)) (fr + j + 1)) (N.n - fr) := by
        obtain ⟨d, hd⟩ : ∃ d, k - l.n = d + 1 := ⟨k - l.n - 1, by omega⟩
        rw [hd]; rfl
      rw [hG]
      refine ⟨⟨(0:Nat), rfl, f1, fun c hc => absurd hc (Nat.not_lt_zero _)⟩, fun g hg => ⟨fun hlt => ?_, fun hge => ?_⟩⟩
      · obtain ⟨g1, g2⟩ := hg
        have hb : ((fr + g:Nat):Int) < (N.n:Int) := of_decide_eq_true hlt
        have e1 : ((l.n:Nat):Int).toNat = l.n := by omega
        have none : ∀ c, c < g -> L.grp N (k - l.n - 1) (L.snoc l ((fr + c:Nat):Int)) (fr + c + 1) = none := fun c hc => isNo_none (g2 c hc)
        rw [e1]
        refine ⟨⟨by omega, by omega, rfl⟩, ⟨by decide, show (l.n + 1) * 8 <= 140737488355328 by omega⟩, iK, (L.snoc l ((fr + g:Nat):Int), fr + g + 1, k, N, b), ⟨rfl, fun i hi => ?_⟩, by show ((fr + g:Nat):Int) + 1 = ((fr + g + 1:Nat):Int); omega, rfl, rfl, rfl, rfl, ⟨rfl, fun _ _ => rfl⟩, rfl, rfl, ⟨⟨⟨by show l.n + 1 <= k; omega, k2, k3⟩, ⟨by show fr + g + 1 <= N.n; omega, f2⟩, hN, snoc_within hw (by omega) hb⟩, by show k - (l.n + 1) < rn; omega⟩, fun u _ => ?_⟩
        · have hi : i < l.n + 1 := hi
          show appGet l.n _ _ i = [SV.int .i64 (bif decide (i < l.n) then l.g i else ((fr + g:Nat):Int))]
          unfold appGet
          by_cases h' : i < l.n
          · rw [if_pos h', decide_eq_true h']; rfl
          · rw [if_neg h', decide_eq_false h']; rfl
        · have hF : L.grp N (k - (L.snoc l ((fr + g:Nat):Int)).n) (L.snoc l ((fr + g:Nat):Int)) (fr + g + 1) = L.grp N (k - l.n - 1) (L.snoc l ((fr + g:Nat):Int)) (fr + g + 1) := rfl
          dsimp only
          rw [hF]
          refine ⟨fun hc => ?_, fun hc => ?_⟩
          · have hc : L.isNo (L.grp N (k - l.n - 1) (L.snoc l ((fr + g:Nat):Int)) (fr + g + 1)) = false := by simpa using (show (!L.isNo (L.grp N (k - l.n - 1) (L.snoc l ((fr + g:Nat):Int)) (fr + g + 1))) = true from hc)
            obtain ⟨x, hx⟩ := isNo_some hc
            have hf := first_at (f := fun j => L.grp N (k - l.n - 1) (L.snoc l ((fr + j:Nat):Int)) (fr + j + 1)) none hx (c := N.n - fr) (by omega)
            rw [hf, hx]
            exact ⟨(0:Nat), rfl, ⟨rfl, fun _ _ => rfl⟩, rfl, rfl, trivial⟩
          · have hc : L.isNo (L.grp N (k - l.n - 1) (L.snoc l ((fr + g:Nat):Int)) (fr + g + 1)) = true := by simpa using (show (!L.isNo (L.grp N (k - l.n - 1) (L.snoc l ((fr + g:Nat):Int)) (fr + g + 1))) = false from hc)
            have hx := isNo_none hc
            rw [hx]
            refine ⟨iK, g + 1, by omega, rfl, ⟨rfl, fun _ _ => rfl⟩, rfl, rfl, rfl, rfl, rfl, ⟨rfl, fun _ _ => rfl⟩, rfl, rfl, ⟨by omega, fun c hcc => ?_⟩, by omega⟩
            rcases Nat.lt_succ_iff_lt_or_eq.1 hcc with h | rfl
            · exact g2 c h
            · exact hc
      · obtain ⟨g1, g2⟩ := hg
        have hb : ¬ ((fr + g:Nat):Int) < (N.n:Int) := of_decide_eq_false hge
        have hf : L.first (fun j => L.grp N (k - l.n - 1) (L.snoc l ((fr + j:Nat):Int)) (fr + j + 1)) (N.n - fr) = none := first_none (fun j hj => isNo_none (g2 j (by omega)))
        rw [hf]
        exact ⟨(0:Nat), rfl, ⟨rfl, fun _ _ => rfl⟩, rfl, rfl, trivial⟩)
theorem p_more_en : Enters Tryz.prog 95 := fun args w => by kernel_rfl
theorem p_more_tok : TrOk Tryz.prog 95 p_more_tr := tr_rec p_more_mu (fun t u => rfl) (fun rn ih => tr_ok (ks := [1003, 1005, 1007]) (n := 6) Tryz.func95 (c := bodyOf Tryz.f95) (by kernel_rfl) mixed ⟨fun t => rfl, fun t => rfl, fun t u => rfl, fun t u => rfl, fun t u => rfl, by kernel_rfl⟩ (fun ⟨l, fr, k, N, b⟩ hp => ⟨_, p_more_vc rn l fr k N b hp.1 hp.2, ⟨show SpecsL Tryz.prog _ from SpecsL.nil, rfl, ⟨show ItersL Tryz.prog _ from ItersL.nil, (show TrsL Tryz.prog _ from (TrsL.cons p_exit2_tok p_exit2_en (TrsL.cons ih p_more_en TrsL.nil)))⟩⟩⟩))
abbrev p_groups_tr : Tr := { T := (Nat) × (L.Sq L.Pt) × (L.Sq Int), U := Nat, args := fun t => (fun k N b => [.p (.int .i64 (N.n:Int)), .p (.int .i64 (k:Int)), .cl 60 [.p (.ref [(.sl 2 N.n (fun i => [.int .i64 ((N.g i).x), .int .i64 ((N.g i).y)]))] 0), .loc 1003 0]]) t.1 t.2.1 t.2.2, own := fun t => (fun k N b => [(1003, .blk 48 [.full false 1 (b).n (fun i => [.int .i64 ((b).g i)])])]) t.1 t.2.1 t.2.2, pre := fun t => (fun k N b => (1 <= k /\ k <= 1000) /\ N.n <= 1000 /\ L.nrms N) t.1 t.2.1 t.2.2, post := fun t u => (fun k N b => fun u => True) t.1 t.2.1 t.2.2 u, own' := fun t u => (fun k N b => fun u => [(1003, .blk 48 [.full false 1 (L.orB (L.grp N k L.nilI 0) b).n (fun i => [.int .i64 ((L.orB (L.grp N k L.nilI 0) b).g i)])])]) t.1 t.2.1 t.2.2 u, res := fun t u => (fun k N b => fun u => .p (.bool (L.isNo (L.grp N k L.nilI 0)))) t.1 t.2.1 t.2.2 u }
theorem p_groups_vc (k:Nat) (N : L.Sq L.Pt) (b : L.Sq Int) (hp : p_groups_tr.pre (k, N, b)) : vc Tryz.prog ({ cC with muts := [5, 7], trs := lookT [(95, p_more_tr)], ren := fun k => bif k == 1003 then 1003 else k - 1000 }) (bodyOf Tryz.f59) (stTr Tryz.f59 (p_groups_tr.args (k, N, b)) (p_groups_tr.own (k, N, b))) (retTr Tryz.prog Tryz.f59 p_groups_tr (k, N, b)) :=
 @Eq.mpr _ (let I := SV.int .i64; let A7 := (0:Nat); let A6 := (1000:Nat); let A4 := (1003:Nat); let A3 := (L.grp N k L.nilI A7); let A2 := (nat_lit 0); ∃ (t : L.Sq Int × Nat × Nat × L.Sq L.Pt × L.Sq Int), let A9 := [I (↑t.snd.2.1:Int)]; let A8 := [I (↑t.snd.snd.2.1.n:Int)]; let A1 := (L.grp t.snd.snd.2.1 (t.snd.2.1 - t.1.n) t.1 t.2.1); let A5 := (L.orB A1 t.snd.snd.2.2); t.1.n = A7 /\ (0:Int) = (↑t.2.1:Int) /\ SV.ref [I (↑k:Int)] A2 = SV.ref A9 A7 /\ nat_lit 0 = A7 /\ SV.ref [I (↑N.n:Int)] A2 = SV.ref A8 A7 /\ nat_lit 0 = A7 /\ (b.n = t.snd.snd.2.2.n /\ ∀ (i:Nat), i < b.n -> [I (b.g i)] = [I (t.snd.snd.2.2.g i)]) /\ EV.cl (nat_lit 60) [EV.p (SV.ref [SV.sl (nat_lit 2) N.n fun (i:Nat) => [I (N.g i).x, I (N.g i).y]] A2), EV.loc (nat_lit 1003) A2] = EV.cl (60:Nat) [EV.p (SV.ref [SV.sl (nat_lit 2) t.snd.snd.2.1.n fun (i:Nat) => [I (t.snd.snd.2.1.g i).x, I (t.snd.snd.2.1.g i).y]] A2), EV.loc (bif nat_lit 1003 == A4 then A4 else nat_lit 1003 - A6) A2] /\ EV.cl (nat_lit 95) [EV.p (SV.ref [I (↑k:Int)] A2), EV.loc (nat_lit 5) A2, EV.p (SV.ref [I (↑N.n:Int)] A2), EV.loc (nat_lit 7) A2] = EV.cl (95:Nat) [EV.p (SV.ref A9 A2), EV.loc (bif nat_lit 1005 == A4 then A4 else nat_lit 1005 - A6) A2, EV.p (SV.ref A8 A2), EV.loc (bif nat_lit 1007 == A4 then A4 else nat_lit 1007 - A6) A2] /\ ((t.1.n <= t.snd.2.1 /\ (1:Nat) <= t.snd.2.1 /\ t.snd.2.1 <= A6) /\ (t.2.1 <= t.snd.snd.2.1.n /\ t.snd.snd.2.1.n <= A6) /\ L.nrms t.snd.snd.2.1 /\ L.within0 t.1 t.snd.snd.2.1.n) /\ ∀ (u:Nat), True -> ∃ (u:Nat), L.isNo A1 = L.isNo A3 /\ (A5.n = (L.orB A3 b).n /\ ∀ (i:Nat), i < A5.n -> [I (A5.g i)] = [I ((L.orB A3 b).g i)]) /\ True) (by kernel_rfl) (by
 conv => zeta
 have hp : (1 <= k /\ k <= 1000) /\ N.n <= 1000 /\ L.nrms N := hp
 obtain ⟨⟨k1, k2⟩, hn, hN⟩ := hp
 exact ⟨(L.nilI, 0, k, N, b), rfl, rfl, rfl, rfl, rfl, rfl, ⟨rfl, fun _ _ => rfl⟩, rfl, rfl, ⟨⟨Nat.zero_le _, k1, k2⟩, ⟨Nat.zero_le _, hn⟩, hN, fun i hi => absurd hi (Nat.not_lt_zero _)⟩, fun u _ => ⟨(0:Nat), rfl, ⟨rfl, fun _ _ => rfl⟩, trivial⟩⟩)
theorem p_groups_en : Enters Tryz.prog 59 := fun args w => by kernel_rfl
theorem p_groups_tok : TrOk Tryz.prog 59 p_groups_tr := tr_ok (ks := [1003]) (n := 3) Tryz.func59 (c := bodyOf Tryz.f59) (by kernel_rfl) mixed ⟨fun t => rfl, fun t => rfl, fun t u => rfl, fun t u => rfl, fun t u => rfl, by kernel_rfl⟩ (fun ⟨k, N, b⟩ hp => ⟨_, p_groups_vc k N b hp, ⟨show SpecsL Tryz.prog _ from SpecsL.nil, rfl, ⟨show ItersL Tryz.prog _ from ItersL.nil, (show TrsL Tryz.prog _ from (TrsL.cons p_more_tok p_more_en TrsL.nil))⟩⟩⟩)
def p_Exit_p (l : (L.Sq L.Pt)) : Prop := l.n <= 9223372036854775807 /\ (L.exBad l = false -> L.wayOk l = false -> L.isNo (L.first (L.exF l) 22) = false)
def p_Exit_r (l : (L.Sq L.Pt)) : SV := .tup [.agg [.int .i64 (L.exD l).x, .int .i64 (L.exD l).y], .sl 1 (L.exN l) (fun i => [.int .i64 ((L.exL l).g i)]), .int .i64 (L.exE l)]
def p_Exit_s : List EV -> Option (Prop × SV)
 | [.p (.sl 2 l_n l_g)] => some ((∀ i, i < l_n -> l_g i = [.int .i64 ((ofPt (l_g i)).x), .int .i64 ((ofPt (l_g i)).y)]) /\ p_Exit_p (⟨l_n, fun i => ofPt (l_g i)⟩ : (L.Sq L.Pt)), p_Exit_r (⟨l_n, fun i => ofPt (l_g i)⟩ : (L.Sq L.Pt)))
 | _ => none
abbrev p_Exit_S : SE.Spec := (specO p_Exit_s)
def p_Exit_C : Cfg := { cC with muts := [2, 3, 6], specs := lookS [(57, s_conFP_S), (55, p_bad_S), (58, p_way_S)], anys := [11], trs := lookT [(59, p_groups_tr)], ren := fun k => k - 1000 }
theorem p_Exit_vc (l : (L.Sq L.Pt)) (hp : p_Exit_p l) : vc Tryz.prog ({ p_Exit_C with loops := lookL [(8, { T := Nat, keep := [1, 2, 3], keepO := [2], chg := fun j => [(8, .p (.int .i64 ((3 + j:Nat):Int)))], own := fun j => [(3, .blk 48 [.full false 1 (L.orB (L.first (L.exF l) j) L.nilI).n (fun i => [.int .i64 ((L.orB (L.first (L.exF l) j) L.nilI).g i)])])], inv := fun j => j <= 22, mu := fun j => 23 - j })], rfs := lookR [] }) (bodyOf Tryz.f21) (st0 Tryz.f21 [.p (.sl 2 l.n (fun i => [.int .i64 ((l.g i).x), .int .i64 ((l.g i).y)]))]) (retFn Tryz.prog Tryz.f21 (p_Exit_r l)) :=
  @Eq.mpr _ (let I := SV.int .i64; let A19 := (1000:Nat); let A18 := (↑l.n:Int); let A16 := (0:Nat); let A13 := (nat_lit 0); let A11 := (0:Int); let A15 := [I A11, I A11]; let A10 := (∀ (i:Nat), let A17 := [I (l.g i).x, I (l.g i).y]; i < l.n -> A17 = A17); let A7 := [I (L.exD l).x, I (L.exD l).y]; let A6 := (L.Sq.mk l.n fun (i:Nat) => l.g i); let A5 := [SV.sl (nat_lit 2) l.n fun
 (i:Nat) => [I (l.g i).x, I (l.g i).y]]; let A2 := (FSpec.mk (fun («as» : List SV) => preO p_bad_s (List.map EV.p «as» ++ List.map EV.p [])) fun («as» : List SV) => resO p_bad_s (List.map EV.p «as» ++ List.map EV.p [])); let A4 := (bif decide ((24:Int) < A18) then true else L.anyB l.n fun (i:Nat) => L.fbl A2 [SV.agg [I
 (l.g i).x, I (l.g i).y]]); ((!decide ((24:Int) < A18)) = true -> A10 /\ isB A2 /\ l.n <= (1000000:Nat) /\ ∀ (i:Nat), i < l.n -> True) /\ (A4 = true -> SV.agg A15 = SV.agg A7 /\ L.exN l = A16 /\ (1:Int) = L.exE l) /\ (A4 = false -> (A10 /\ L.nrms A6) /\ (L.wayOk A6 = true -> SV.agg [I (L.wayD A6).x, I (L.wayD A6).y] = SV.agg A7 /\ L.exN l = A16 /\
 A11 = L.exE l) /\ (L.wayOk A6 = false -> (∃ (g:Nat), (3:Int) = (↑((3:Nat) + g):Int) /\ (L.orB (L.first (L.exF l) g) L.nilI).n = A16 /\ g <= (22:Nat)) /\ ∀ (g:Nat), let A12 := (↑((3:Nat) + g):Int); let A1 := (L.orB (L.first (L.exF l) g) L.nilI); let A8 := (bif false then !decide (A1.n = A16) else decide (A1.n = A16)); let A3 := (A1.n = L.exN l /\ ∀ (i:Nat),
 i < A1.n -> [I (A1.g i)] = [I ((L.exL l).g i)]); g <= (22:Nat) -> (A8 = true -> ∃ (t : Nat × L.Sq L.Pt × L.Sq Int), let A9 := (L.orB (L.grp t.2.1 t.1 L.nilI A16) t.2.2); A18 = (↑t.2.1.n:Int) /\ A12 = (↑t.1:Int) /\ EV.cl (nat_lit 60) [EV.p (SV.ref A5 A13), EV.loc (nat_lit 3) A13] = EV.cl (60:Nat) [EV.p (SV.ref [SV.sl (nat_lit 2) t.2.1.n fun (i
:Nat) => [I (t.2.1.g i).x, I (t.2.1.g i).y]] A13), EV.loc (nat_lit 1003 - A19) A13] /\ (A1.n = t.2.2.n /\ ∀ (i:Nat), i < A1.n -> [I (A1.g i)] = [I (t.2.2.g i)]) /\ (((1:Nat) <= t.1 /\ t.1 <= A19) /\ t.2.1.n <= A19 /\ L.nrms t.2.1) /\ ∀ (u:Nat), True -> InK .i64 (A12 + (1:Int)) /\ ∃ (g':Nat), let A14 := (L.orB (L.first (L.exF l) g') L.nilI); A12 + (1:Int) = (↑((3:Nat) + g') :
 Int) /\ nat_lit 0 = nat_lit 0 /\ nat_lit 0 = nat_lit 0 /\ SV.ref A5 A13 = SV.ref A5 A13 /\ (A9.n = A14.n /\ ∀ (i:Nat), i < A9.n -> [I (A9.g i)] = [I (A14.g i)]) /\ A11 = A11 /\ A11 = A11 /\ g' <= (22:Nat) /\ (23:Nat) - g' < (23:Nat) - g) /\ (A8 = false -> ((SV.agg A15 = SV.agg A7 /\ A3 /\ (13:Int) = L.exE l) /\ SV.agg A15 = SV.agg A7 /\ A3 /\ (13:Int) = L.exE l)
 /\ SV.agg A15 = SV.agg A7 /\ A3 /\ (13:Int) = L.exE l)))) (by kernel_rfl) (by
    conv => zeta
    obtain ⟨hn, hex⟩ := hp
    refine ⟨fun h0 => ⟨fun _ _ => rfl, isB_of p_bad_B _, by have := of_decide_eq_false (notT h0); omega, fun _ _ => trivial⟩, fun h => ?_, fun h => ?_⟩
    · have hb : L.exBad l = true := h
      unfold L.exD L.exN L.exE
      rw [hb]; exact ⟨rfl, rfl, rfl⟩
    have hb : L.exBad l = false := h
    obtain ⟨h24, hN⟩ := exBad_false hb
    refine ⟨⟨fun _ _ => rfl, hN⟩, fun hw => ?_, fun hw => ?_⟩
    · unfold L.exD L.exN L.exE
      rw [hb, hw]; exact ⟨rfl, rfl, rfl⟩
    have hsm := hex hb hw
    have hD : L.exD l = ⟨0, 0⟩ := by unfold L.exD; rw [hb]; exact wayD_no hw
    have hE : L.exE l = 13 := by unfold L.exE; rw [hb, hw]; rfl
    have hNn : L.exN l = (L.exL l).n := by unfold L.exN; rw [hb, hw]; rfl
    refine ⟨⟨(0:Nat), rfl, rfl, Nat.zero_le _⟩, fun g hg => ⟨fun hc => ?_, fun hc => ?_⟩⟩
    · have hc : (L.orB (L.first (L.exF l) g) L.nilI).n = 0 := of_decide_eq_true hc
      have hno : L.first (L.exF l) g = none := by
        cases hf : L.first (L.exF l) g with
        | none => rfl
        | some x =>
          rw [hf] at hc
          have hc : x.n = 0 := hc
          obtain ⟨j, _, hj, _⟩ := first_some hf
          have : x.n = 0 + (3 + j) := grp_len hj
          omega
      have hg22 : g ≠ 22 := fun e => by
        rw [e] at hno; rw [hno] at hsm; cases hsm
      have e1 : L.first (L.exF l) (g + 1) = L.exF l g := by rw [L.first, hno]
      refine ⟨(3 + g, l, L.orB (L.first (L.exF l) g) L.nilI), rfl, rfl, rfl, ⟨rfl, fun _ _ => rfl⟩, ⟨⟨by show 1 <= 3 + g; omega, by show 3 + g <= 1000; omega⟩, by show l.n <= 1000; omega, hN⟩, fun u _ => ⟨iK, g + 1, by omega, rfl, rfl, rfl, ?_, rfl, rfl, by omega, by omega⟩⟩
      rw [e1, hno]
      exact ⟨rfl, fun _ _ => rfl⟩
    · have hc : ¬ (L.orB (L.first (L.exF l) g) L.nilI).n = 0 := of_decide_eq_false hc
      have hsom : L.orB (L.first (L.exF l) g) L.nilI = L.exL l := by
        cases hf : L.first (L.exF l) g with
        | none => rw [hf] at hc; exact absurd rfl hc
        | some x =>
          unfold L.exL
          rw [first_mono hf hg]
      rw [hsom, hD, hE, hNn]
      exact ⟨⟨⟨rfl, ⟨rfl, fun _ _ => rfl⟩, rfl⟩, ⟨rfl, ⟨rfl, fun _ _ => rfl⟩, rfl⟩⟩, ⟨rfl, ⟨rfl, fun _ _ => rfl⟩, rfl⟩⟩)
theorem p_Exit_ok : SpecOk Tryz.prog 21 p_Exit_S := fnX Tryz.func21 (c := bodyOf Tryz.f21) (by kernel_rfl) mixed (fun args p r hs hp => by
 unfold p_Exit_s at hs
 split at hs
 · cases hs; exact ⟨_, _, p_Exit_vc _ hp.2, (.p (.sl hp.1) .nil), ⟨show SpecsL Tryz.prog _ from (SpecsL.cons s_conFP_ok s_conFP_en (SpecsL.cons p_bad_ok p_bad_en (SpecsL.cons p_way_ok p_way_en SpecsL.nil))), rfl, ⟨show ItersL Tryz.prog _ from ItersL.nil, (show TrsL Tryz.prog _ from (TrsL.cons p_groups_tok p_groups_en TrsL.nil))⟩⟩⟩
 · cases hs)
theorem p_Exit_en : Enters Tryz.prog 21 := fun args w => by kernel_rfl
end Go.Proofs.YtaklapjfnejlbaaGreat
namespace Go.Proofs.YtaklapjfnejlbaaGreat
open Go.SE Go.RowKit
set_option maxRecDepth 100000
set_option maxHeartbeats 4000000
set_option linter.unusedVariables false
attribute [local irreducible] vc
def p_Area_p (l : (L.Sq L.Pt)) : Prop := l.n <= 1000000
def p_Area_r (l : (L.Sq L.Pt)) : SV := .tup [.int .i64 (bif L.validOutline l then L.areaTo l l.n else 0), .int .i64 (bif L.validOutline l then 0 else 1)]
def p_Area_s : List EV -> Option (Prop × SV)
 | [.p (.sl 2 l_n l_g)] => some ((∀ i, i < l_n -> l_g i = [.int .i64 ((ofPt (l_g i)).x), .int .i64 ((ofPt (l_g i)).y)]) /\ p_Area_p (⟨l_n, fun i => ofPt (l_g i)⟩ : (L.Sq L.Pt)), p_Area_r (⟨l_n, fun i => ofPt (l_g i)⟩ : (L.Sq L.Pt)))
 | _ => none
abbrev p_Area_S : SE.Spec := (specO p_Area_s)
def p_Area_C : Cfg := { cC with specs := lookS [(32, p_ValidOutline_S), (35, p_area_S)] }
theorem p_Area_vc (l : (L.Sq L.Pt)) (hp : p_Area_p l) : vc Tryz.prog (p_Area_C) (bodyOf Tryz.f17) (st0 Tryz.f17 [.p (.sl 2 l.n (fun i => [.int .i64 ((l.g i).x), .int .i64 ((l.g i).y)]))]) (retFn Tryz.prog Tryz.f17 (p_Area_r l)) :=
 @Eq.mpr _ (let I := SV.int .i64; let A3 := (0:Int); let A2 := (∀ (i:Nat), let A4 := [I (l.g i).x, I (l.g i).y]; i < l.n -> A4 = A4); let A1 := (L.Sq.mk l.n fun (i:Nat) => l.g i); (A2 /\ l.n <= (1000000:Nat)) /\ ((!L.validOutline A1) = true -> (A3 = bif L.validOutline l then L.areaTo l l.n else A3) /\ (1:Int) = bif L.validOutline l then A3 else (1:Int)) /\ ((!L.validOutline A1) = false -> (A2 /\ L.small A1) /\ (L.areaTo A1 l.n = bif L.validOutline l then L.areaTo l l.n else A3) /\ A3 = bif L.validOutline l then A3 else (1:Int))) (by kernel_rfl) (by
 conv => zeta
 have hn : l.n <= 1000000 := hp
 refine ⟨⟨fun _ _ => rfl, hn⟩, fun h => ?_, fun h => ?_⟩
 · have hv : L.validOutline l = false := by simpa using (show (!L.validOutline l) = true from h)
   rw [hv]; exact ⟨rfl, rfl⟩
 · have hv : L.validOutline l = true := by simpa using (show (!L.validOutline l) = false from h)
   rw [hv]; exact ⟨⟨fun _ _ => rfl, (validOutline_of hv).2.2.1⟩, rfl, rfl⟩)
theorem p_Area_ok : SpecOk Tryz.prog 17 p_Area_S := fnX Tryz.func17 (c := bodyOf Tryz.f17) (by kernel_rfl) mixed (fun args p r hs hp => by
 unfold p_Area_s at hs
 split at hs
 · cases hs; exact ⟨_, _, p_Area_vc _ hp.2, (.p (.sl hp.1) .nil), ⟨show SpecsL Tryz.prog _ from (SpecsL.cons p_ValidOutline_ok p_ValidOutline_en (SpecsL.cons p_area_ok p_area_en SpecsL.nil)), rfl, ⟨show ItersL Tryz.prog _ from ItersL.nil, (TrsOk.none (fun _ => rfl))⟩⟩⟩
 · cases hs)
theorem p_Area_en : Enters Tryz.prog 17 := fun args w => by kernel_rfl
def p_Turn_p (a : L.Pt) (b : L.Pt) (c : L.Pt) : Prop := True
def p_Turn_r (a : L.Pt) (b : L.Pt) (c : L.Pt) : SV := .tup [.int .i64 (bif L.validPt a && L.validPt b && L.validPt c then L.cmp (L.cross a b c) 0 else 0), .int .i64 (bif L.validPt a && L.validPt b && L.validPt c then 0 else 1)]
def p_Turn_s : List EV -> Option (Prop × SV)
 | [.p (.agg [.int .i64 a_x, .int .i64 a_y]), .p (.agg [.int .i64 b_x, .int .i64 b_y]), .p (.agg [.int .i64 c_x, .int .i64 c_y])] => some (p_Turn_p (⟨a_x, a_y⟩ : L.Pt) (⟨b_x, b_y⟩ : L.Pt) (⟨c_x, c_y⟩ : L.Pt), p_Turn_r (⟨a_x, a_y⟩ : L.Pt) (⟨b_x, b_y⟩ : L.Pt) (⟨c_x, c_y⟩ : L.Pt))
 | _ => none
abbrev p_Turn_S : SE.Spec := (specO p_Turn_s)
def p_Turn_C : Cfg := { cC with specs := lookS [(22, p_valid_S), (54, p_cross_S), (38, c_cmp_S)] }
theorem p_Turn_vc (a : L.Pt) (b : L.Pt) (c : L.Pt) (hp : p_Turn_p a b c) : vc Tryz.prog (p_Turn_C) (bodyOf Tryz.f20) (st0 Tryz.f20 [.p (.agg [.int .i64 a.x, .int .i64 a.y]), .p (.agg [.int .i64 b.x, .int .i64 b.y]), .p (.agg [.int .i64 c.x, .int .i64 c.y])]) (retFn Tryz.prog Tryz.f20 (p_Turn_r a b c)) :=
 @Eq.mpr _ (let I := SV.int .i64; let A5 := (L.cross a b c); let A3 := (0:Int); let A1 := [I a.x, I a.y, I b.x, I b.y, I c.x, I c.y]; let A2 := (!L.allB (nat_lit 3) fun (i:Nat) => L.validPt (ofPt (rowsOf A1 (nat_lit 2) i))); ((∀ (i:Nat), let A4 := (ofPt (rowsOf A1 (nat_lit 2) i)); i < nat_lit 3 -> rowsOf A1 (nat_lit 2) i = [I A4.x, I A4.y]) /\ nat_lit 3 <= (1000000:Nat)) /\ (A2 = true -> (A3 = bif L.validPt a && L.validPt b && L.validPt c then L.cmp A5 A3 else A3) /\ (1:Int) = bif L.validPt a && L.validPt b && L.validPt c then A3 else (1:Int)) /\ (A2 = false -> (L.bd a /\ L.bd b /\ L.bd c) /\ True /\ (L.cmp A5 A3 = bif L.validPt a && L.validPt b && L.validPt c then L.cmp A5 A3 else A3) /\ A3 = bif L.validPt a && L.validPt b && L.validPt c then A3 else (1 : Int))) (by kernel_rfl) (by
 conv => zeta
 refine ⟨⟨fun i hi => by match i, hi with | 0, _ => rfl | 1, _ => rfl | 2, _ => rfl, by decide⟩, fun h => ?_, fun h => ?_⟩
 · have h' : (L.validPt a && L.validPt b && L.validPt c) = false := by simpa only [Bool.not_eq_true', Bool.not_eq_false'] using (show (!(L.validPt a && L.validPt b && L.validPt c)) = true from h)
   rw [h']; exact ⟨rfl, rfl⟩
 · have h' : (L.validPt a && L.validPt b && L.validPt c) = true := by simpa only [Bool.not_eq_true', Bool.not_eq_false'] using (show (!(L.validPt a && L.validPt b && L.validPt c)) = false from h)
   obtain ⟨vab, vc⟩ := Bool.and_eq_true_iff.1 h'
   obtain ⟨va, vb⟩ := Bool.and_eq_true_iff.1 vab
   rw [h']; exact ⟨⟨validPt_bd va, validPt_bd vb, validPt_bd vc⟩, trivial, rfl, rfl⟩)
theorem p_Turn_ok : SpecOk Tryz.prog 20 p_Turn_S := fnX Tryz.func20 (c := bodyOf Tryz.f20) (by kernel_rfl) mixed (fun args p r hs hp => by
 unfold p_Turn_s at hs
 split at hs
 · cases hs; exact ⟨_, _, p_Turn_vc _ _ _ hp, (.same _ (.same _ (.same _ .nil))), ⟨show SpecsL Tryz.prog _ from (SpecsL.cons p_valid_ok p_valid_en (SpecsL.cons p_cross_ok p_cross_en (SpecsL.cons c_cmp_ok c_cmp_en SpecsL.nil))), rfl, ⟨show ItersL Tryz.prog _ from ItersL.nil, (TrsOk.none (fun _ => rfl))⟩⟩⟩
 · cases hs)
theorem p_Turn_en : Enters Tryz.prog 20 := fun args w => by kernel_rfl
def w_awake_p  : Prop := True
def w_awake_r  : SV := .bool true
def w_awake_s : List EV -> Option (Prop × SV)
 | [] => some (w_awake_p , w_awake_r )
 | _ => none
abbrev w_awake_S : SE.Spec := (specO w_awake_s)
def w_awake_C : Cfg := { cC with muts := [8], specs := lookS [(17, p_Area_S), (9, p_Pockets_S), (20, p_Turn_S), (21, p_Exit_S)] }
theorem w_awake_vc  (hp : w_awake_p) : vc Tryz.prog (w_awake_C) (bodyOf Tryz.f5) (st0 Tryz.f5 []) (retFn Tryz.prog Tryz.f5 (w_awake_r )) :=
 @Eq.mpr _ (let I := SV.int .i64; let A14 := (2:Int); let A13 := (4:Int); let A12 := (1:Int); let A8 := (↑(nat_lit 5):Int); let A7 := (nat_lit 2); let A6 := (0:Int); let A2 := [I A12, I A6, I (-1:Int), I A12, I (-1:Int), I (-1:Int)]; let A5 := (L.Sq.mk (nat_lit 3) fun (i:Nat) => ofPt (rowsOf A2 A7 i)); let A1 := [I A6, I A6, I A13, I A6, I A13, I A13, I A14, I A12, I A6, I A13]; let A4 := (L.Sq.mk (nat_lit 5) fun (i:Nat) => ofPt (rowsOf A1 A7 i)); let A3 := ((∀ (i:Nat), let A10 := (ofPt (rowsOf A1 A7 i)); i < nat_lit 5 -> rowsOf A1 A7 i = [I A10.x, I A10.y]) /\ nat_lit 5 <= (1000000:Nat)); A3 /\ A3 /\ ∀ (t : Nat -> L.Pocket), let A9 := (t (Int.toNat A6)); (L.validOutline A4 = true -> SortedBy L.cmpFr (L.pks A4).n (L.pks A4).g t) -> (A6 <= A6 /\ A6 < A8) /\ (A6 <= A12 /\ A12 < A8) /\ (A6 <= A14 /\ A14 < A8) /\ True /\ ((∀ (i:Nat), let A11 := (ofPt (rowsOf A2 A7 i)); i < nat_lit 3 -> rowsOf A2 A7 i = [I A11.x, I A11.y]) /\ nat_lit 3 <= (9223372036854775807:Nat) /\ (L.exBad A5 = false -> L.wayOk A5 = false -> L.isNo (L.first (L.exF A5) (22:Nat)) = false)) /\ (true = true -> A6 <= A6 /\ A6 < (↑(nat_lit 1) : Int)) /\ (bif bif bif bif bif true then decide (A9.fr = A14) && (decide (A9.to_ = A13) && decide (A9.area = (12:Int))) else false then true else false then true else false then true else false then true else false) = true) (by kernel_rfl) (by
 conv => zeta
 refine ⟨⟨fun i hi => by match i, hi with | 0, _ => rfl | 1, _ => rfl | 2, _ => rfl | 3, _ => rfl | 4, _ => rfl, by decide⟩, ⟨fun i hi => by match i, hi with | 0, _ => rfl | 1, _ => rfl | 2, _ => rfl | 3, _ => rfl | 4, _ => rfl, by decide⟩, fun t ht => ⟨⟨by decide, by decide⟩, ⟨by decide, by decide⟩, ⟨by decide, by decide⟩, trivial, ⟨fun i hi => by match i, hi with | 0, _ => rfl | 1, _ => rfl | 2, _ => rfl, by decide, fun _ _ => by kernel_rfl⟩, fun _ => ⟨by decide, by decide⟩, ?_⟩⟩
 have h := ht (by kernel_rfl)
 have hn : (L.pks (L.Sq.mk 5 fun (i:Nat) => ofPt (rowsOf [SV.int .i64 0, SV.int .i64 0, SV.int .i64 4, SV.int .i64 0, SV.int .i64 4, SV.int .i64 4, SV.int .i64 2, SV.int .i64 1, SV.int .i64 0, SV.int .i64 4] 2 i))).n = 1 := by kernel_rfl
 have hg : (L.pks (L.Sq.mk 5 fun (i:Nat) => ofPt (rowsOf [SV.int .i64 0, SV.int .i64 0, SV.int .i64 4, SV.int .i64 0, SV.int .i64 4, SV.int .i64 4, SV.int .i64 2, SV.int .i64 1, SV.int .i64 0, SV.int .i64 4] 2 i))).g 0 = ⟨2, 4, 12⟩ := by kernel_rfl
 have h1 := h.perm
 rw [hn] at h1
 have h2 : [t 0].Perm [(L.pks (L.Sq.mk 5 fun (i:Nat) => ofPt (rowsOf [SV.int .i64 0, SV.int .i64 0, SV.int .i64 4, SV.int .i64 0, SV.int .i64 4, SV.int .i64 4, SV.int .i64 2, SV.int .i64 1, SV.int .i64 0, SV.int .i64 4] 2 i))).g 0] := h1
 have h3 := List.singleton_perm_singleton.1 h2
 rw [hg] at h3
 have h4 : t (Int.toNat 0) = ⟨2, 4, 12⟩ := h3
 rw [h4]; rfl)
theorem w_awake_ok : SpecOk Tryz.prog 5 w_awake_S := fnX Tryz.func5 (c := bodyOf Tryz.f5) (by kernel_rfl) mixed (fun args p r hs hp => by
 unfold w_awake_s at hs
 split at hs
 · cases hs; exact ⟨_, _, w_awake_vc  hp, .nil, ⟨show SpecsL Tryz.prog _ from (SpecsL.cons p_Area_ok p_Area_en (SpecsL.cons p_Pockets_ok p_Pockets_en (SpecsL.cons p_Turn_ok p_Turn_en (SpecsL.cons p_Exit_ok p_Exit_en SpecsL.nil)))), rfl, ⟨show ItersL Tryz.prog _ from ItersL.nil, (TrsOk.none (fun _ => rfl))⟩⟩⟩
 · cases hs)
theorem w_awake_en : Enters Tryz.prog 5 := fun args w => by kernel_rfl
end Go.Proofs.YtaklapjfnejlbaaGreat
namespace Go.Proofs.YtaklapjfnejlbaaGreat
open Go.SE Go.RowKit
set_option maxRecDepth 100000
set_option maxHeartbeats 4000000
set_option linter.unusedVariables false
attribute [local irreducible] vc
def L.cr (p q : L.Pt) : Int := p.x * q.y - p.y * q.x
theorem within0_snoc {l : L.Sq Int} {n a : Nat} (h : L.within0 l n) (ha : a < n) : L.within0 (L.snoc l (a:Int)) n := fun i hi => by
 have hi : i < l.n + 1 := hi
 show 0 <= (bif decide (i < l.n) then l.g i else (a:Int)) /\ (bif decide (i < l.n) then l.g i else (a:Int)) < (n:Int)
 by_cases h' : i < l.n
 · rw [decide_eq_true h']; exact h i h'
 · rw [decide_eq_false h']; show 0 <= (a:Int) /\ (a:Int) < n; omega
def L.s1 (a:Nat) : L.Sq Int := L.snoc L.nilI (a:Int)
def L.s2 (a b:Nat) : L.Sq Int := L.snoc (L.s1 a) (b:Int)
def L.s3 (a b c:Nat) : L.Sq Int := L.snoc (L.s2 a b) (c:Int)
def L.s4 (a b c d:Nat) : L.Sq Int := L.snoc (L.s3 a b c) (d:Int)
theorem w_nil {n : Nat} : L.within0 L.nilI n := fun i hi => absurd hi (Nat.not_lt_zero _)
theorem w3 {a b c n : Nat} (ha : a < n) (hb : b < n) (hc : c < n) : L.within0 (L.s3 a b c) n := within0_snoc (within0_snoc (within0_snoc w_nil ha) hb) hc
theorem w4 {a b c d n : Nat} (ha : a < n) (hb : b < n) (hc : c < n) (hd : d < n) : L.within0 (L.s4 a b c d) n := within0_snoc (w3 ha hb hc) hd
end Go.Proofs.YtaklapjfnejlbaaGreat
namespace Go.Proofs.YtaklapjfnejlbaaGreat
open Go.SE Go.RowKit
set_option maxRecDepth 100000
set_option maxHeartbeats 4000000
set_option linter.unusedVariables false
attribute [local irreducible] vc
def L.ix (n:Nat) (i:Int) : Nat := (Int.tmod (Int.tmod i (n:Int) + (n:Int)) (n:Int)).toNat
theorem tmod_add {m n : Int} (h0 : 0 <= m) (h1 : m < n) : Int.tmod (m + n) n = m := by
 rw [Int.tmod_eq_emod_of_nonneg (by omega), Int.add_emod_right, Int.emod_eq_of_lt h0 h1]
theorem ix_self {n k : Nat} (h : k < n) : L.ix n (k:Int) = k := by
 unfold L.ix
 rw [Int.tmod_eq_of_lt (show 0 <= (k:Int) by omega) (show (k:Int) < n by omega), tmod_add (by omega) (by omega)]
 omega
theorem ix_next {n k : Nat} (h : k < n) : L.ix n ((k:Int) + 1) = L.next n k := by
 unfold L.ix L.next
 by_cases e : k + 1 < n
 · rw [Int.tmod_eq_of_lt (show 0 <= (k:Int) + 1 by omega) (show (k:Int) + 1 < n by omega), tmod_add (by omega) (by omega)]
 · rw [show (k:Int) + 1 = (n:Int) by omega, Int.tmod_self, Int.zero_add, Int.tmod_self]
theorem ix_prev {n k : Nat} (h : k < n) : L.ix n ((k:Int) - 1) = L.prev n k := by
 unfold L.ix L.prev
 by_cases e : 1 <= k
 · rw [Int.tmod_eq_of_lt (show 0 <= (k:Int) - 1 by omega) (show (k:Int) - 1 < n by omega), show (k:Int) + (n:Int) - 1 = (k:Int) - 1 + n by omega]
 · obtain rfl : k = 0 := by omega
   by_cases e1 : n = 1
   · subst e1; rfl
   · rw [show ((0:Nat):Int) - 1 = -(1:Int) by omega, Int.neg_tmod, Int.tmod_eq_of_lt (show 0 <= (1:Int) by omega) (show (1:Int) < n by omega), show -(1:Int) + (n:Int) = ((0:Nat):Int) + (n:Int) - 1 by omega]
theorem ix_bd {n : Nat} {i : Int} (h : 0 < n) : 0 <= Int.tmod i (n:Int) + (n:Int) /\ Int.tmod i (n:Int) + (n:Int) <= 2 * (n:Int) /\ 0 <= Int.tmod (Int.tmod i (n:Int) + (n:Int)) (n:Int) /\ Int.tmod (Int.tmod i (n:Int) + (n:Int)) (n:Int) < (n:Int) := by
 have h1 := Int.lt_tmod_of_pos i (show 0 < (n:Int) by omega)
 have h2 := Int.tmod_lt_of_pos i (show 0 < (n:Int) by omega)
 exact ⟨by omega, by omega, Int.tmod_nonneg _ (by omega), Int.tmod_lt_of_pos _ (by omega)⟩
theorem ix_lt {n : Nat} {i : Int} (h : 0 < n) : L.ix n i < n := by
 have := ix_bd (i := i) h
 unfold L.ix; omega
theorem cmpPt_neg {a b : L.Pt} : decide (L.cmpPt a b < 0) = (bif decide (a.x < b.x) then true else bif decide (a.x = b.x) then decide (a.y < b.y) else false) := by
 unfold L.cmpPt L.or2 L.cmp
 rcases Int.lt_trichotomy a.x b.x with h1 | h1 | h1 <;> rcases Int.lt_trichotomy a.y b.y with h2 | h2 | h2 <;> grind
theorem ix_emod {n : Nat} {a : Int} (h : 0 < n) : ((L.ix n a:Nat):Int) = a % (n:Int) := by
 obtain ⟨q1, q2, q3, q4⟩ := ix_bd (i := a) h
 unfold L.ix
 rw [Int.toNat_of_nonneg q3, Int.tmod_eq_emod_of_nonneg q1, Int.add_emod_right]
 have := Int.tmod_add_mul_tdiv a (n:Int)
 conv => rhs; rw [<- this]
 rw [Int.add_mul_emod_self_left]
theorem ix_congr {n : Nat} {a b : Int} (hn : 0 < n) (h : a % (n:Int) = b % (n:Int)) (c:Int) : L.ix n (a + c) = L.ix n (b + c) := by
 have h1 := ix_emod (a := a + c) hn
 have h2 := ix_emod (a := b + c) hn
 rw [<- Int.emod_add_emod, h, Int.emod_add_emod] at h1
 omega
theorem ix_ix {n : Nat} {a : Int} (hn : 0 < n) (c:Int) : L.ix n (((L.ix n a:Nat):Int) + c) = L.ix n (a + c) :=
 ix_congr hn (by rw [ix_emod hn, Int.emod_emod]) c
theorem outline_all {l : L.Sq L.Pt} (hv : L.validOutline l = true) : (∀ i, i < l.n -> L.validPt (l.g i) = true) /\ ∀ i, i < l.n -> L.cross (l.g (L.prev l.n i)) (l.g i) (l.g (L.next l.n i)) ≠ 0 := by
 unfold L.validOutline at hv
 rw [Bool.and_eq_true, Bool.and_eq_true] at hv
 constructor
 · have h := hv.1
   unfold L.valid3 at h
   cases h2 : L.validPts l with
   | true => exact allB_iff.1 h2
   | false =>
     rw [h2] at h
     revert h
     cases L.within (l.n:Int) 3 24 <;> intro h <;> cases h
 · intro i hi e
   have h := allB_iff.1 hv.2.1 i hi
   unfold L.corner at h
   rw [decide_eq_true e] at h
   cases h
def r1_ValidPoint_p (p : L.Pt) : Prop := True
def r1_ValidPoint_r (p : L.Pt) : SV := .bool (L.validPt p)
def r1_ValidPoint_s : List EV -> Option (Prop × SV)
 | [.p (.agg [.int .i64 p_x, .int .i64 p_y])] => some (r1_ValidPoint_p (⟨p_x, p_y⟩ : L.Pt), r1_ValidPoint_r (⟨p_x, p_y⟩ : L.Pt))
 | _ => none
abbrev r1_ValidPoint_S : SE.Spec := (specO r1_ValidPoint_s)
def r1_ValidPoint_C : Cfg := { muts := [], frz := lookN [], specs := lookS [], loops := lookL [], iters := lookI [], rfs := lookR [], nils := lookM [] }
theorem r1_ValidPoint_vc (p : L.Pt) (hp : r1_ValidPoint_p p) : vc Tryz.prog (r1_ValidPoint_C) (bodyOf Tryz.f72) (st0 Tryz.f72 [.p (.agg [.int .i64 p.x, .int .i64 p.y])]) (retFn Tryz.prog Tryz.f72 (r1_ValidPoint_r p)) :=
 @Eq.mpr _ ((bif bif bif decide ((0:Int) <= p.x) then decide (p.x <= (4096:Int)) else false then decide ((0:Int) <= p.y) else false then decide (p.y <= (4096:Int)) else false) = L.validPt p) (by kernel_rfl) (by
 unfold L.validPt L.within
 rw [band, band, band]
 cases decide (0 <= p.x) <;> cases decide (p.x <= 4096) <;> cases decide (0 <= p.y) <;> cases decide (p.y <= 4096) <;> rfl)
theorem r1_ValidPoint_ok : SpecOk Tryz.prog 72 r1_ValidPoint_S := fnX Tryz.func72 (c := bodyOf Tryz.f72) (by kernel_rfl) mixed (fun args p r hs hp => by
 unfold r1_ValidPoint_s at hs
 split at hs
 · cases hs; exact ⟨_, _, r1_ValidPoint_vc _ hp, (.same _ .nil), ⟨show SpecsL Tryz.prog _ from SpecsL.nil, rfl, ⟨show ItersL Tryz.prog _ from ItersL.nil, (TrsOk.none (fun _ => rfl))⟩⟩⟩
 · cases hs)
theorem r1_ValidPoint_en : Enters Tryz.prog 72 := fun args w => by kernel_rfl
def r1_points_p (l : (L.Sq L.Pt)) : Prop := l.n <= 1000000
def r1_points_r (l : (L.Sq L.Pt)) : SV := .bool (L.validPts l)
def r1_points_s : List EV -> Option (Prop × SV)
 | [.p (.sl 2 l_n l_g)] => some ((∀ i, i < l_n -> l_g i = [.int .i64 ((ofPt (l_g i)).x), .int .i64 ((ofPt (l_g i)).y)]) /\ r1_points_p (⟨l_n, fun i => ofPt (l_g i)⟩ : (L.Sq L.Pt)), r1_points_r (⟨l_n, fun i => ofPt (l_g i)⟩ : (L.Sq L.Pt)))
 | _ => none
abbrev r1_points_S : SE.Spec := (specO r1_points_s)
def r1_points_C : Cfg := { cC with specs := lookS [(72, r1_ValidPoint_S)] }
theorem r1_points_vc (l : (L.Sq L.Pt)) (hp : r1_points_p l) : vc Tryz.prog ({ r1_points_C with loops := lookL [(2, { T := Nat, keep := [0], keepO := [], chg := fun i => [(3, .p (.int .i64 (i:Int)))], own := fun _ => [], inv := fun i => i <= l.n /\ ∀ j, j < i -> L.validPt (l.g j) = true, mu := fun i => l.n - i })], rfs := lookR [] }) (bodyOf Tryz.f29) (st0 Tryz.f29 [.p (.sl 2 l.n (fun i => [.int .i64 ((l.g i).x), .int .i64 ((l.g i).y)]))]) (retFn Tryz.prog Tryz.f29 (r1_points_r l)) :=
 @Eq.mpr _ (let A4 := (↑l.n:Int); (∃ (g:Nat), (0:Int) = (↑g:Int) /\ g <= l.n /\ ∀ (j:Nat), j < g -> L.validPt (l.g j) = true) /\ ∀ (g:Nat), let A2 := (↑g:Int); let A3 := (!L.validPt (l.g (Int.toNat A2))); (g <= l.n /\ ∀ (j:Nat), j < g -> L.validPt (l.g j) = true) -> (decide (A2 < A4) = true -> ((0:Int) <= A2 /\ A2 < A4) /\ True /\ (A3 = true -> false = L.validPts l) /\ (A3 = false -> InK .i64 (A2 + (1:Int)) /\ ∃ (g':Nat), A2 + (1:Int) = (↑g':Int) /\ (l.n = l.n /\ ∀ (i:Nat), let A1 := [SV.int .i64 (l.g i).x, SV.int .i64 (l.g i).y]; i < l.n -> A1 = A1) /\ (g' <= l.n /\ ∀ (j:Nat), j < g' -> L.validPt (l.g j) = true) /\ l.n - g' < l.n - g)) /\ (decide (A2 < A4) = false -> true = L.validPts l)) (by kernel_rfl) (by
 conv => zeta
 have hn : l.n <= 1000000 := hp
 refine ⟨⟨(0:Nat), rfl, Nat.zero_le _, fun j hj => absurd hj (Nat.not_lt_zero _)⟩, fun g hg => ⟨fun hlt => ?_, fun hge => ?_⟩⟩
 · have hb : (g:Int) < (l.n:Int) := of_decide_eq_true hlt
   have e0 : ((g:Int)).toNat = g := by omega
   rw [e0]
   refine ⟨by omega, trivial, fun h1 => ?_, fun h1 => ?_⟩
   · unfold L.validPts; rw [allB_false (i := g) (by omega) (notT h1)]
   · exact ⟨iK, g + 1, by omega, ⟨rfl, fun _ _ => rfl⟩, ⟨by omega, fun j hj => by
       rcases Nat.lt_succ_iff_lt_or_eq.1 hj with h' | rfl
       · exact hg.2 j h'
       · exact notF h1⟩, by omega⟩
 · have hb : ¬ (g:Int) < (l.n:Int) := of_decide_eq_false hge
   exact (allB_iff.2 (fun i hi => hg.2 i (by omega))).symm)
theorem r1_points_ok : SpecOk Tryz.prog 29 r1_points_S := fnX Tryz.func29 (c := bodyOf Tryz.f29) (by kernel_rfl) mixed (fun args p r hs hp => by
 unfold r1_points_s at hs
 split at hs
 · cases hs; exact ⟨_, _, r1_points_vc _ hp.2, (.p (.sl hp.1) .nil), ⟨show SpecsL Tryz.prog _ from (SpecsL.cons r1_ValidPoint_ok r1_ValidPoint_en SpecsL.nil), rfl, ⟨show ItersL Tryz.prog _ from ItersL.nil, (TrsOk.none (fun _ => rfl))⟩⟩⟩
 · cases hs)
theorem r1_points_en : Enters Tryz.prog 29 := fun args w => by kernel_rfl
def r1_Cross_p (a : L.Pt) (b : L.Pt) (c : L.Pt) : Prop := L.bd a /\ L.bd b /\ L.bd c
def r1_Cross_r (a : L.Pt) (b : L.Pt) (c : L.Pt) : SV := .int .i64 (L.cross a b c)
def r1_Cross_s : List EV -> Option (Prop × SV)
 | [.p (.agg [.int .i64 a_x, .int .i64 a_y]), .p (.agg [.int .i64 b_x, .int .i64 b_y]), .p (.agg [.int .i64 c_x, .int .i64 c_y])] => some (r1_Cross_p (⟨a_x, a_y⟩ : L.Pt) (⟨b_x, b_y⟩ : L.Pt) (⟨c_x, c_y⟩ : L.Pt), r1_Cross_r (⟨a_x, a_y⟩ : L.Pt) (⟨b_x, b_y⟩ : L.Pt) (⟨c_x, c_y⟩ : L.Pt))
 | _ => none
abbrev r1_Cross_S : SE.Spec := (specO r1_Cross_s)
def r1_Cross_C : Cfg := { muts := [], frz := lookN [], specs := lookS [], loops := lookL [], iters := lookI [], rfs := lookR [], nils := lookM [] }
theorem r1_Cross_vc (a : L.Pt) (b : L.Pt) (c : L.Pt) (hp : r1_Cross_p a b c) : vc Tryz.prog (r1_Cross_C) (bodyOf Tryz.f18) (st0 Tryz.f18 [.p (.agg [.int .i64 a.x, .int .i64 a.y]), .p (.agg [.int .i64 b.x, .int .i64 b.y]), .p (.agg [.int .i64 c.x, .int .i64 c.y])]) (retFn Tryz.prog Tryz.f18 (r1_Cross_r a b c)) :=
 @Eq.mpr _ (let A4 := (c.x - a.x); let A3 := (b.y - a.y); let A2 := (c.y - a.y); let A1 := (b.x - a.x); InK .i64 A1 /\ InK .i64 A2 /\ InK .i64 (A1 * A2) /\ InK .i64 A3 /\ InK .i64 A4 /\ InK .i64 (A3 * A4) /\ InK .i64 (A1 * A2 - A3 * A4) /\ A1 * A2 - A3 * A4 = L.cross a b c) (by kernel_rfl) (by
 conv => zeta
 obtain ⟨h1, h2, h3⟩ := hp
 unfold L.bd at h1 h2 h3
 have m1 := mul_bd (a := b.x - a.x) (b := c.y - a.y) (m := 8000000) (n := 8000000) (by omega) (by omega) (by omega) (by omega)
 have m2 := mul_bd (a := b.y - a.y) (b := c.x - a.x) (m := 8000000) (n := 8000000) (by omega) (by omega) (by omega) (by omega)
 exact ⟨iK, iK, iK, iK, iK, iK, iK, rfl⟩)
theorem r1_Cross_ok : SpecOk Tryz.prog 18 r1_Cross_S := fnX Tryz.func18 (c := bodyOf Tryz.f18) (by kernel_rfl) mixed (fun args p r hs hp => by
 unfold r1_Cross_s at hs
 split at hs
 · cases hs; exact ⟨_, _, r1_Cross_vc _ _ _ hp, (.same _ (.same _ (.same _ .nil))), ⟨show SpecsL Tryz.prog _ from SpecsL.nil, rfl, ⟨show ItersL Tryz.prog _ from ItersL.nil, (TrsOk.none (fun _ => rfl))⟩⟩⟩
 · cases hs)
theorem r1_Cross_en : Enters Tryz.prog 18 := fun args w => by kernel_rfl
def r1_Dist_p (a : L.Pt) (b : L.Pt) : Prop := L.bd a /\ L.bd b
def r1_Dist_r (a : L.Pt) (b : L.Pt) : SV := .int .i64 (L.dist a b)
def r1_Dist_s : List EV -> Option (Prop × SV)
 | [.p (.agg [.int .i64 a_x, .int .i64 a_y]), .p (.agg [.int .i64 b_x, .int .i64 b_y])] => some (r1_Dist_p (⟨a_x, a_y⟩ : L.Pt) (⟨b_x, b_y⟩ : L.Pt), r1_Dist_r (⟨a_x, a_y⟩ : L.Pt) (⟨b_x, b_y⟩ : L.Pt))
 | _ => none
abbrev r1_Dist_S : SE.Spec := (specO r1_Dist_s)
def r1_Dist_C : Cfg := { muts := [], frz := lookN [], specs := lookS [], loops := lookL [], iters := lookI [], rfs := lookR [], nils := lookM [] }
theorem r1_Dist_vc (a : L.Pt) (b : L.Pt) (hp : r1_Dist_p a b) : vc Tryz.prog (r1_Dist_C) (bodyOf Tryz.f74) (st0 Tryz.f74 [.p (.agg [.int .i64 a.x, .int .i64 a.y]), .p (.agg [.int .i64 b.x, .int .i64 b.y])]) (retFn Tryz.prog Tryz.f74 (r1_Dist_r a b)) :=
 @Eq.mpr _ (let A2 := (a.y - b.y); let A1 := (a.x - b.x); InK .i64 A1 /\ InK .i64 A1 /\ InK .i64 (A1 * A1) /\ InK .i64 A2 /\ InK .i64 A2 /\ InK .i64 (A2 * A2) /\ InK .i64 (A1 * A1 + A2 * A2) /\ A1 * A1 + A2 * A2 = L.dist a b) (by kernel_rfl) (by
 conv => zeta
 obtain ⟨h1, h2⟩ := hp
 unfold L.bd at h1 h2
 have m1 := mul_bd (a := a.x - b.x) (b := a.x - b.x) (m := 8000000) (n := 8000000) (by omega) (by omega) (by omega) (by omega)
 have m2 := mul_bd (a := a.y - b.y) (b := a.y - b.y) (m := 8000000) (n := 8000000) (by omega) (by omega) (by omega) (by omega)
 refine ⟨iK, iK, iK, iK, iK, iK, iK, ?_⟩
 unfold L.dist
 rw [show a.x - b.x = -(b.x - a.x) by omega, show a.y - b.y = -(b.y - a.y) by omega, Int.neg_mul_neg, Int.neg_mul_neg])
theorem r1_Dist_ok : SpecOk Tryz.prog 74 r1_Dist_S := fnX Tryz.func74 (c := bodyOf Tryz.f74) (by kernel_rfl) mixed (fun args p r hs hp => by
 unfold r1_Dist_s at hs
 split at hs
 · cases hs; exact ⟨_, _, r1_Dist_vc _ _ hp, (.same _ (.same _ .nil)), ⟨show SpecsL Tryz.prog _ from SpecsL.nil, rfl, ⟨show ItersL Tryz.prog _ from ItersL.nil, (TrsOk.none (fun _ => rfl))⟩⟩⟩
 · cases hs)
theorem r1_Dist_en : Enters Tryz.prog 74 := fun args w => by kernel_rfl
def r1_less_p (a : L.Pt) (b : L.Pt) : Prop := True
def r1_less_r (a : L.Pt) (b : L.Pt) : SV := .bool (decide (L.cmpPt a b < 0))
def r1_less_s : List EV -> Option (Prop × SV)
 | [.p (.agg [.int .i64 a_x, .int .i64 a_y]), .p (.agg [.int .i64 b_x, .int .i64 b_y])] => some (r1_less_p (⟨a_x, a_y⟩ : L.Pt) (⟨b_x, b_y⟩ : L.Pt), r1_less_r (⟨a_x, a_y⟩ : L.Pt) (⟨b_x, b_y⟩ : L.Pt))
 | _ => none
abbrev r1_less_S : SE.Spec := (specO r1_less_s)
def r1_less_C : Cfg := { muts := [], frz := lookN [], specs := lookS [], loops := lookL [], iters := lookI [], rfs := lookR [], nils := lookM [] }
theorem r1_less_vc (a : L.Pt) (b : L.Pt) (hp : r1_less_p a b) : vc Tryz.prog (r1_less_C) (bodyOf Tryz.f81) (st0 Tryz.f81 [.p (.agg [.int .i64 a.x, .int .i64 a.y]), .p (.agg [.int .i64 b.x, .int .i64 b.y])]) (retFn Tryz.prog Tryz.f81 (r1_less_r a b)) :=
 @Eq.mpr _ ((bif decide (a.x < b.x) then true else bif decide (a.x = b.x) then decide (a.y < b.y) else false) = decide (L.cmpPt a b < (0:Int))) (by kernel_rfl) (by
 exact cmpPt_neg.symm)
theorem r1_less_ok : SpecOk Tryz.prog 81 r1_less_S := fnX Tryz.func81 (c := bodyOf Tryz.f81) (by kernel_rfl) mixed (fun args p r hs hp => by
 unfold r1_less_s at hs
 split at hs
 · cases hs; exact ⟨_, _, r1_less_vc _ _ hp, (.same _ (.same _ .nil)), ⟨show SpecsL Tryz.prog _ from SpecsL.nil, rfl, ⟨show ItersL Tryz.prog _ from ItersL.nil, (TrsOk.none (fun _ => rfl))⟩⟩⟩
 · cases hs)
theorem r1_less_en : Enters Tryz.prog 81 := fun args w => by kernel_rfl
def r1_On_p (a : L.Pt) (b : L.Pt) (p : L.Pt) : Prop := L.bd a /\ L.bd b /\ L.bd p
def r1_On_r (a : L.Pt) (b : L.Pt) (p : L.Pt) : SV := .bool (L.on a b p)
def r1_On_s : List EV -> Option (Prop × SV)
 | [.p (.agg [.int .i64 a_x, .int .i64 a_y]), .p (.agg [.int .i64 b_x, .int .i64 b_y]), .p (.agg [.int .i64 p_x, .int .i64 p_y])] => some (r1_On_p (⟨a_x, a_y⟩ : L.Pt) (⟨b_x, b_y⟩ : L.Pt) (⟨p_x, p_y⟩ : L.Pt), r1_On_r (⟨a_x, a_y⟩ : L.Pt) (⟨b_x, b_y⟩ : L.Pt) (⟨p_x, p_y⟩ : L.Pt))
 | _ => none
abbrev r1_On_S : SE.Spec := (specO r1_On_s)
def r1_On_C : Cfg := { cC with specs := lookS [(18, r1_Cross_S)] }
theorem r1_On_vc (a : L.Pt) (b : L.Pt) (p : L.Pt) (hp : r1_On_p a b p) : vc Tryz.prog (r1_On_C) (bodyOf Tryz.f120) (st0 Tryz.f120 [.p (.agg [.int .i64 a.x, .int .i64 a.y]), .p (.agg [.int .i64 b.x, .int .i64 b.y]), .p (.agg [.int .i64 p.x, .int .i64 p.y])]) (retFn Tryz.prog Tryz.f120 (r1_On_r a b p)) :=
 @Eq.mpr _ ((L.bd a /\ L.bd b /\ L.bd p) /\ (bif bif bif bif decide (L.cross a b p = (0:Int)) then decide (Min.min a.x b.x <= p.x) else false then decide (p.x <= Max.max a.x b.x) else false then decide (Min.min a.y b.y <= p.y) else false then decide (p.y <= Max.max a.y b.y) else false) = L.on a b p) (by kernel_rfl) (by
 obtain ⟨h1, h2, h3⟩ := hp
 refine ⟨⟨h1, h2, h3⟩, ?_⟩
 unfold L.on L.within
 rw [band, band, band, band]
 cases decide (L.cross a b p = 0) <;> cases decide (min a.x b.x <= p.x) <;> cases decide (p.x <= max a.x b.x) <;> cases decide (min a.y b.y <= p.y) <;> cases decide (p.y <= max a.y b.y) <;> rfl)
theorem r1_On_ok : SpecOk Tryz.prog 120 r1_On_S := fnX Tryz.func120 (c := bodyOf Tryz.f120) (by kernel_rfl) mixed (fun args p r hs hp => by
 unfold r1_On_s at hs
 split at hs
 · cases hs; exact ⟨_, _, r1_On_vc _ _ _ hp, (.same _ (.same _ (.same _ .nil))), ⟨show SpecsL Tryz.prog _ from (SpecsL.cons r1_Cross_ok r1_Cross_en SpecsL.nil), rfl, ⟨show ItersL Tryz.prog _ from ItersL.nil, (TrsOk.none (fun _ => rfl))⟩⟩⟩
 · cases hs)
theorem r1_On_en : Enters Tryz.prog 120 := fun args w => by kernel_rfl
def r1_sign_p (n:Int) : Prop := True
def r1_sign_r (n:Int) : SV := .int .i64 (L.cmp n 0)
def r1_sign_s : List EV -> Option (Prop × SV)
 | [.p (.int .i64 n)] => some (r1_sign_p n, r1_sign_r n)
 | _ => none
abbrev r1_sign_S : SE.Spec := (specO r1_sign_s)
def r1_sign_C : Cfg := { muts := [], frz := lookN [], specs := lookS [], loops := lookL [], iters := lookI [], rfs := lookR [], nils := lookM [] }
theorem r1_sign_vc (n:Int) (hp : r1_sign_p n) : vc Tryz.prog (r1_sign_C) (bodyOf Tryz.f121) (st0 Tryz.f121 [.p (.int .i64 n)]) (retFn Tryz.prog Tryz.f121 (r1_sign_r n)) :=
 @Eq.mpr _ (let A1 := (0:Int); (decide (A1 < n) = true -> (1:Int) = L.cmp n A1) /\ (decide (A1 < n) = false -> (decide (n < A1) = true -> (-1:Int) = L.cmp n A1) /\ (decide (n < A1) = false -> A1 = L.cmp n A1))) (by kernel_rfl) (by
 conv => zeta
 refine ⟨fun h => ?_, fun h => ⟨fun h1 => ?_, fun h1 => ?_⟩⟩
 · have h := of_decide_eq_true h
   unfold L.cmp; rw [decide_eq_false (by omega), decide_eq_true h]; rfl
 · have h1 := of_decide_eq_true h1
   unfold L.cmp; rw [decide_eq_true h1]; rfl
 · unfold L.cmp; rw [h1, h]; rfl)
theorem r1_sign_ok : SpecOk Tryz.prog 121 r1_sign_S := fnX Tryz.func121 (c := bodyOf Tryz.f121) (by kernel_rfl) mixed (fun args p r hs hp => by
 unfold r1_sign_s at hs
 split at hs
 · cases hs; exact ⟨_, _, r1_sign_vc _ hp, (.same _ .nil), ⟨show SpecsL Tryz.prog _ from SpecsL.nil, rfl, ⟨show ItersL Tryz.prog _ from ItersL.nil, (TrsOk.none (fun _ => rfl))⟩⟩⟩
 · cases hs)
theorem r1_sign_en : Enters Tryz.prog 121 := fun args w => by kernel_rfl
def r1_at_p (l : (L.Sq L.Pt)) (i:Int) : Prop := 1 <= l.n /\ l.n <= 1000000 /\ -1000000 <= i /\ i <= 1000000
def r1_at_r (l : (L.Sq L.Pt)) (i:Int) : SV := (.agg [.int .i64 ((l.g (L.ix l.n i)).x), .int .i64 ((l.g (L.ix l.n i)).y)])
def r1_at_s : List EV -> Option (Prop × SV)
 | [.p (.sl 2 l_n l_g), .p (.int .i64 i)] => some ((∀ i, i < l_n -> l_g i = [.int .i64 ((ofPt (l_g i)).x), .int .i64 ((ofPt (l_g i)).y)]) /\ r1_at_p (⟨l_n, fun i => ofPt (l_g i)⟩ : (L.Sq L.Pt)) i, r1_at_r (⟨l_n, fun i => ofPt (l_g i)⟩ : (L.Sq L.Pt)) i)
 | _ => none
abbrev r1_at_S : SE.Spec := (specO r1_at_s)
def r1_at_C : Cfg := { muts := [], frz := lookN [], specs := lookS [], loops := lookL [], iters := lookI [], rfs := lookR [], nils := lookM [] }
theorem r1_at_vc (l : (L.Sq L.Pt)) (i:Int) (hp : r1_at_p l i) : vc Tryz.prog (r1_at_C) (bodyOf Tryz.f41) (st0 Tryz.f41 [.p (.sl 2 l.n (fun i => [.int .i64 ((l.g i).x), .int .i64 ((l.g i).y)])), .p (.int .i64 i)]) (retFn Tryz.prog Tryz.f41 (r1_at_r l i)) :=
 @Eq.mpr _ (let M := Int.tmod; let A1 := (↑l.n:Int); let A2 := (M i A1 + A1); let A3 := (l.g (Int.toNat (M A2 A1))); A1 ≠ (0:Int) /\ InK .i64 A2 /\ A1 ≠ (0:Int) /\ ((0:Int) <= M A2 A1 /\ M A2 A1 < A1) /\ SV.agg [SV.int .i64 A3.x, SV.int .i64 A3.y] = SV.agg [SV.int .i64 (l.g (L.ix l.n i)).x, SV.int .i64 (l.g (L.ix l.n i)).y]) (by kernel_rfl) (by
 conv => zeta
 obtain ⟨h1, h2, h3, h4⟩ := hp
 obtain ⟨q1, q2, q3, q4⟩ := ix_bd (n := l.n) (i := i) (by omega)
 exact ⟨by omega, iK, by omega, ⟨q3, q4⟩, rfl⟩)
theorem r1_at_ok : SpecOk Tryz.prog 41 r1_at_S := fnX Tryz.func41 (c := bodyOf Tryz.f41) (by kernel_rfl) mixed (fun args p r hs hp => by
 unfold r1_at_s at hs
 split at hs
 · cases hs; exact ⟨_, _, r1_at_vc _ _ hp.2, (.p (.sl hp.1) (.same _ .nil)), ⟨show SpecsL Tryz.prog _ from SpecsL.nil, rfl, ⟨show ItersL Tryz.prog _ from ItersL.nil, (TrsOk.none (fun _ => rfl))⟩⟩⟩
 · cases hs)
theorem r1_at_en : Enters Tryz.prog 41 := fun args w => by kernel_rfl
def r1_sum_p (l : (L.Sq L.Pt)) : Prop := L.small l
def r1_sum_r (l : (L.Sq L.Pt)) : SV := .int .i64 (L.areaTo l l.n)
def r1_sum_s : List EV -> Option (Prop × SV)
 | [.p (.sl 2 l_n l_g)] => some ((∀ i, i < l_n -> l_g i = [.int .i64 ((ofPt (l_g i)).x), .int .i64 ((ofPt (l_g i)).y)]) /\ r1_sum_p (⟨l_n, fun i => ofPt (l_g i)⟩ : (L.Sq L.Pt)), r1_sum_r (⟨l_n, fun i => ofPt (l_g i)⟩ : (L.Sq L.Pt)))
 | _ => none
abbrev r1_sum_S : SE.Spec := (specO r1_sum_s)
def r1_sum_C : Cfg := { cC with specs := lookS [(41, r1_at_S)] }
theorem r1_sum_vc (l : (L.Sq L.Pt)) (hp : r1_sum_p l) : vc Tryz.prog ({ r1_sum_C with loops := lookL [(3, { T := Nat, keep := [0], keepO := [], chg := fun i => [(3, .p (.int .i64 (L.areaTo l i))), (4, .p (.int .i64 (i:Int)))], own := fun _ => [], inv := fun i => i <= l.n, mu := fun i => l.n - i })], rfs := lookR [] }) (bodyOf Tryz.f42) (st0 Tryz.f42 [.p (.sl 2 l.n (fun i => [.int .i64 ((l.g i).x), .int .i64 ((l.g i).y)]))]) (retFn Tryz.prog Tryz.f42 (r1_sum_r l)) :=
 @Eq.mpr _ (let I := SV.int .i64; let A6 := (1:Int); let A4 := (∀ (i:Nat), let A7 := [I (l.g i).x, I (l.g i).y]; i < l.n -> A7 = A7); (∃ (g:Nat), (0:Int) = L.areaTo l g /\ (0:Int) = (↑g:Int) /\ g <= l.n) /\ ∀ (g:Nat), let A3 := (↑g:Int); let A5 := (l.g (L.ix l.n A3)); let A2 := (l.g (L.ix l.n (A3 + A6))); let A1 := (A5.x * A2.y - A2.x * A5.y); g <= l.n -> (decide (A3 < (↑l.n
:Int)) = true -> (A4 /\ (1:Nat) <= l.n /\ l.n <= (1000000:Nat) /\ (-1000000:Int) <= A3 /\ A3 <= (1000000:Int)) /\ InK .i64 (A3 + A6) /\ (A4 /\ (1:Nat) <= l.n /\ l.n <= (1000000:Nat) /\ (-1000000:Int) <= A3 + A6 /\ A3 + A6 <= (1000000:Int)) /\ InK .i64 (A5.x * A2.y) /\ InK .i64 (A2.x * A5.y) /\ InK .i64 A1 /\ InK .i64
 (L.areaTo l g + A1) /\ InK .i64 (A3 + A6) /\ ∃ (g':Nat), L.areaTo l g + A1 = L.areaTo l g' /\ A3 + A6 = (↑g':Int) /\ (l.n = l.n /\ ∀ (i:Nat), let A8 := [I (l.g i).x, I (l.g i).y]; i < l.n -> A8 = A8) /\ g' <= l.n /\ l.n - g' < l.n - g) /\ (decide (A3 < (↑l.n:Int)) = false -> L.areaTo l g = L.areaTo l l.n)) (by kernel_rfl) (by
    conv => zeta
    have hs : L.small l := hp
    have hn := hs.1
    refine ⟨⟨(0:Nat), rfl, rfl, Nat.zero_le _⟩, fun g hg => ⟨fun hlt => ?_, fun hge => ?_⟩⟩
    · have hb : (g:Int) < (l.n:Int) := of_decide_eq_true hlt
      have hk : g < l.n := by omega
      rw [ix_self hk, ix_next hk]
      have b1 := area_term hs hk
      have b2 := areaTo_bd hs g hg
      exact ⟨⟨fun _ _ => rfl, by omega, by omega, by omega, by omega⟩, iK, ⟨fun _ _ => rfl, by omega, by omega, by omega, by omega⟩, iK, iK, iK, iK, iK, g + 1, rfl, by omega, ⟨rfl, fun _ _ => rfl⟩, by omega, by omega⟩
    · have hb : ¬ (g:Int) < (l.n:Int) := of_decide_eq_false hge
      obtain rfl : g = l.n := by omega
      rfl)
theorem r1_sum_ok : SpecOk Tryz.prog 42 r1_sum_S := fnX Tryz.func42 (c := bodyOf Tryz.f42) (by kernel_rfl) mixed (fun args p r hs hp => by
 unfold r1_sum_s at hs
 split at hs
 · cases hs; exact ⟨_, _, r1_sum_vc _ hp.2, (.p (.sl hp.1) .nil), ⟨show SpecsL Tryz.prog _ from (SpecsL.cons r1_at_ok r1_at_en SpecsL.nil), rfl, ⟨show ItersL Tryz.prog _ from ItersL.nil, (TrsOk.none (fun _ => rfl))⟩⟩⟩
 · cases hs)
theorem r1_sum_en : Enters Tryz.prog 42 := fun args w => by kernel_rfl
end Go.Proofs.YtaklapjfnejlbaaGreat
namespace Go.Proofs.YtaklapjfnejlbaaGreat
open Go.SE Go.RowKit
set_option maxRecDepth 100000
set_option maxHeartbeats 4000000
set_option linter.unusedVariables false
attribute [local irreducible] vc
def L.pick4 (a b c d : L.Pt) (i:Nat) : L.Pt := bif decide (i = 0) then a else bif decide (i = 1) then b else bif decide (i = 2) then c else d
def L.onB (a b c d p : L.Pt) : Bool := L.on a b p && L.on c d p
def L.cm (a b c d : L.Pt) : Nat -> L.Sq L.Pt
 | 0 => L.no
 | n + 1 => L.putIf (L.onB a b c d (L.pick4 a b c d n)) (L.cm a b c d n) (L.pick4 a b c d n)
theorem on_left {a b : L.Pt} : L.on a b a = true := by
 unfold L.on
 rw [Bool.and_eq_true, Bool.and_eq_true, within_iff, within_iff]
 refine ⟨⟨decide_eq_true ?_, by omega⟩, by omega⟩
 unfold L.cross; simp
theorem on_right {a b : L.Pt} : L.on a b b = true := by
 unfold L.on
 rw [Bool.and_eq_true, Bool.and_eq_true, within_iff, within_iff]
 refine ⟨⟨decide_eq_true ?_, by omega⟩, by omega⟩
 unfold L.cross; rw [Int.mul_comm]; omega
theorem cm_eq {a b c d : L.Pt} : L.cm a b c d 4 = L.k2 a b c d 2 := by
 have h1 : L.onB a b c d a = L.on c d a := by unfold L.onB; rw [on_left]; rfl
 have h2 : L.onB a b c d b = L.on c d b := by unfold L.onB; rw [on_right]; rfl
 have h3 : L.onB a b c d c = L.on a b c := by unfold L.onB; rw [on_left (a := c), Bool.and_true]
 have h4 : L.onB a b c d d = L.on a b d := by unfold L.onB; rw [on_right (a := c), Bool.and_true]
 show L.putIf (L.onB a b c d d) (L.putIf (L.onB a b c d c) (L.putIf (L.onB a b c d b) (L.putIf (L.onB a b c d a) L.no a) b) c) d = _
 rw [h1, h2, h3, h4]; rfl
theorem same_sym (p q : L.Pt) : L.same p q = L.same q p := by
 unfold L.same
 rw [show decide (p.x = q.x) = decide (q.x = p.x) from by by_cases h : p.x = q.x <;> simp [h, eq_comm], show decide (p.y = q.y) = decide (q.y = p.y) from by by_cases h : p.y = q.y <;> simp [h, eq_comm]]
theorem put_n {ks : L.Sq L.Pt} {p : L.Pt} : (L.put ks p).n <= ks.n + 1 := by
 unfold L.put
 cases L.has ks p
 · exact Nat.le_refl _
 · exact Nat.le_succ _
theorem cm_n {a b c d : L.Pt} : ∀ {i : Nat}, (L.cm a b c d i).n <= i
 | 0 => Nat.le_refl _
 | i + 1 => by
   have ih := cm_n (a := a) (b := b) (c := c) (d := d) (i := i)
   rw [L.cm]
   cases L.onB a b c d (L.pick4 a b c d i)
   · exact Nat.le_trans ih (Nat.le_succ _)
   · exact Nat.le_trans put_n (Nat.succ_le_succ ih)
theorem corner_eq {l : L.Sq L.Pt} {k : Nat} : (bif bif decide (0 < (k:Int)) then !decide (L.cmpPt (l.g 0) (l.g k) < 0) else false then true else decide (L.cross (l.g (L.prev l.n k)) (l.g k) (l.g (L.next l.n k)) = 0)) = !L.corner l k := by
 unfold L.corner
 have : decide (0 <= L.cmpPt (l.g 0) (l.g k)) = !decide (L.cmpPt (l.g 0) (l.g k) < 0) := by
   by_cases h : L.cmpPt (l.g 0) (l.g k) < 0
   · rw [decide_eq_true h, decide_eq_false (by omega)]; rfl
   · rw [decide_eq_false h, decide_eq_true (by omega)]; rfl
 rw [this, Bool.not_not]
 cases decide (0 < (k:Int)) <;> cases decide (L.cmpPt (l.g 0) (l.g k) < 0) <;> cases decide (L.cross (l.g (L.prev l.n k)) (l.g k) (l.g (L.next l.n k)) = 0) <;> rfl
def r1_meet_p (a : L.Pt) (b : L.Pt) (c : L.Pt) (d : L.Pt) : Prop := L.bd a /\ L.bd b /\ L.bd c /\ L.bd d
def r1_meet_r (a : L.Pt) (b : L.Pt) (c : L.Pt) (d : L.Pt) : SV := .int .i64 (L.meet a b c d)
def r1_meet_s : List EV -> Option (Prop × SV)
 | [.p (.agg [.int .i64 a_x, .int .i64 a_y]), .p (.agg [.int .i64 b_x, .int .i64 b_y]), .p (.agg [.int .i64 c_x, .int .i64 c_y]), .p (.agg [.int .i64 d_x, .int .i64 d_y])] => some (r1_meet_p (⟨a_x, a_y⟩ : L.Pt) (⟨b_x, b_y⟩ : L.Pt) (⟨c_x, c_y⟩ : L.Pt) (⟨d_x, d_y⟩ : L.Pt), r1_meet_r (⟨a_x, a_y⟩ : L.Pt) (⟨b_x, b_y⟩ : L.Pt) (⟨c_x, c_y⟩ : L.Pt) (⟨d_x, d_y⟩ : L.Pt))
 | _ => none
abbrev r1_meet_S : SE.Spec := (specO r1_meet_s)
def r1_meet_C : Cfg := { cC with specs := lookS [(120, r1_On_S), (18, r1_Cross_S), (121, r1_sign_S)], nils := lookM [(2, [(9, 20, 45, 2)])] }
theorem r1_meet_vc (a : L.Pt) (b : L.Pt) (c : L.Pt) (d : L.Pt) (hp : r1_meet_p a b c d) : vc Tryz.prog ({ r1_meet_C with loops := lookL [(4, { T := Nat, keep := [4, 5, 6, 7, 9], keepO := [], chg := fun i => [(10, .p (.sl 2 4 (fun j => [.int .i64 ((L.pick4 a b c d j).x), .int .i64 ((L.pick4 a b c d j).y)]))), (11, .p (.int .i64 (i:Int)))], own := fun i => [(20, .row 45 2 (L.cm a b c d i).n (fun j => [.int .i64 (((L.cm a b c d i).g j).x), .int .i64 (((L.cm a b c d i).g j).y)]))], inv := fun i => i <= 4, mu := fun i => 4 - i }), (9, { T := Nat × Nat, keep := [4, 5, 6, 7, 9, 10, 11], keepO := [], tie := fun g => [(11, .int .i64 (g.1:Int))], chg := fun g => [(12, .p (.bool (L.anyB g.2 (fun j => L.same ((L.cm a b c d g.1).g j) (L.pick4 a b c d g.1))))), (13, .p (.int .i64 (g.2:Int)))], own := fun g => [(20, .row 45 2 (L.cm a b c d g.1).n (fun j => [.int .i64 (((L.cm a b c d g.1).g j).x), .int .i64 (((L.cm a b c d g.1).g j).y)]))], inv := fun g => g.1 < 4 /\ g.2 <= (L.cm a b c d g.1).n, mu := fun g => (L.cm a b c d g.1).n - g.2 })], rfs := lookR [] }) (bodyOf Tryz.f89) (st0 Tryz.f89 [.p (.agg [.int .i64 a.x, .int .i64 a.y]), .p (.agg [.int .i64 b.x, .int .i64 b.y]), .p (.agg [.int .i64 c.x, .int .i64 c.y]), .p (.agg [.int .i64 d.x, .int .i64 d.y])]) (retFn Tryz.prog Tryz.f89 (r1_meet_r a b c d)) :=
 @Eq.mpr _ (let I := SV.int .i64; let T := Int.toNat; let A22 := (↑(nat_lit 4):Int); let A21 := (L.cross a b d); let A20 := (L.cross a b c); let A18 := (1:Int); let A17 := [I a.x, I a.y]; let A16 := [I b.x, I b.y]; let A15 := [I c.x, I c.y]; let A14 := [I d.x, I d.y]; let A11 := (4:Nat); let A6 := (0:Int); let A10 := (decide (L.cmp A20 A6 * L.cmp A21 A6 < A6) = true -> True); let A7 := (bif decide (L.cmp A20 A6 * L.cmp A21 A6 < A6) then decide (L.cmp (L.cross c d a) A6 * L.cmp (L.cross c d b) A6 < A6) else false); let A5 := (nat_lit 0); let A3 := (nat_lit 4 = A11 /\ ∀ (i:Nat), let A23 := (L.pick4 a b c d i); i < nat_lit 4 -> [I A23.x, I A23.y] = [I A23.x, I A23.y]); (∃ (g:Nat), let A30 := (L.cm a b c d g); (nat_lit 4 = A11 /\ ∀ (i : Nat), i < nat_lit 4 -> rowsOf [I a.x, I a.y, I b.x, I b.y, I c.x, I c.y, I d.x, I d.y] (nat_lit 2) i = [I (L.pick4 a b c d i).x, I (L.pick4 a b c d i).y]) /\ A6 = (↑g:Int) /\ (nat_lit 0 = A30.n /\ ∀ (i:Nat), i < nat_lit 0 -> [] = [I (A30.g i).x, I (A30.g i).y]) /\ g <= A11) /\ ∀ (g:Nat), let A9 := (L.cm a b c d g); let A26 := (↑A9.n:Int); let A8 := (↑g:Int); let A2 := (L.pick4 a b c d (T A8)); let A24 := (bif !L.on a b A2 then true else !L.on c d A2); g <= A11 -> (decide (A8 < (4:Int)) = true -> (A6 <= A8 /\ A8 < A22) /\ (L.bd a /\ L.bd b /\ L.bd A2) /\ ((!!L.on a b A2) = true -> A6 <= A8 /\ A8 < A22) /\ ((!!L.on a b A2) = true -> L.bd c /\ L.bd d /\ L.bd A2) /\ (A24 = true -> InK .i64 (A8 + A18) /\ ∃ (g':Nat), let A27 := (L.cm a b c d g'); A3 /\ A8 + A18 = (↑g':Int) /\ SV.ref A14 A5 = SV.ref A14 A5 /\ SV.ref A15 A5 = SV.ref A15 A5 /\ SV.ref A16 A5 = SV.ref A16 A5 /\ SV.ref A17 A5 = SV.ref A17 A5 /\ (A9.n = A27.n /\ ∀ (i:Nat), i < A9.n -> [I (A9.g i).x, I (A9.g i).y] = [I (A27.g i).x, I (A27.g i).y]) /\ g' <= A11 /\ A11 - g' < A11 - g) /\ (A24 = false -> (∃ (g_1 : Nat × Nat), let A19 := (L.cm a b c d g_1.1); (false = L.anyB g_1.2 fun (j:Nat) => L.same (A19.g j) (L.pick4 a b c d g_1.1)) /\ A6 = (↑g_1.2:Int) /\ (A9.n = A19.n /\ ∀ (i:Nat), i < A9.n -> [I (A9.g i).x, I (A9.g i).y] = [I (A19.g i).x, I (A19.g i).y]) /\ A8 = (↑g_1.1:Int) /\ g_1.1 < A11 /\ g_1.2 <= A19.n) /\ ∀ (g_1 : Nat × Nat), let A31 := (L.pick4 a b c d g_1.1); let A12 := (↑g_1.2:Int); let A1 := (L.cm a b c d g_1.1); let A32 := (↑A1.n:Int); let A4 := (!L.anyB g_1.2 fun (j:Nat) => L.same (A1.g j) A31); A8 = (↑g_1.1:Int) /\ g_1.1 < A11 /\ g_1.2 <= A1.n -> (decide (A12 < A32) = true -> (A4 = true -> A6 <= A12 /\ A12 < A32) /\ (A4 = true -> T A12 < A1.n) /\ (A4 = true -> A6 <= A8 /\ A8 < A22) /\ InK .i64 (A12 + A18) /\ ∃ (g' : Nat × Nat), let A13 := (L.cm a b c d g'.1); ((bif L.anyB g_1.2 fun (j:Nat) => L.same (A1.g j) A31 then true else decide ((A1.g (T A12)).x = A2.x) && decide ((A1.g (T A12)).y = A2.y)) = L.anyB g'.2 fun (j:Nat) => L.same (A13.g j) (L.pick4 a b c d g'.1)) /\ A12 + A18 = (↑g'.2:Int) /\ (nat_lit 4 = nat_lit 4 /\ ∀ (i:Nat), let A25 := (L.pick4 a b c d i); i < nat_lit 4 -> [I A25.x, I A25.y] = [I A25.x, I A25.y]) /\ A8 = A8 /\ SV.ref A14 A5 = SV.ref A14 A5 /\ SV.ref A15 A5 = SV.ref A15 A5 /\ SV.ref A16 A5 = SV.ref A16 A5 /\ SV.ref A17 A5 = SV.ref A17 A5 /\ (A1.n = A13.n /\ ∀ (i:Nat), i < A1.n -> [I (A1.g i).x, I (A1.g i).y] = [I (A13.g i).x, I (A13.g i).y]) /\ (A8 = (↑g'.1:Int) /\ g'.1 < A11 /\ g'.2 <= A13.n) /\ A13.n - g'.2 < A1.n - g_1.2) /\ (decide (A12 < A32) = false -> (A4 = true -> (A6 <= A8 /\ A8 < A22) /\ (A1.n + nat_lit 1) * nat_lit 16 <= (140737488355328:Nat) /\ InK .i64 (A8 + A18) /\ ∃ (g':Nat), let A28 := (L.cm a b c d g'); A3 /\ A8 + A18 = (↑g':Int) /\ SV.ref A14 A5 = SV.ref A14 A5 /\ SV.ref A15 A5 = SV.ref A15 A5 /\ SV.ref A16 A5 = SV.ref A16 A5 /\ SV.ref A17 A5 = SV.ref A17 A5 /\ (A1.n + nat_lit 1 = A28.n /\ ∀ (i:Nat), i < A1.n + nat_lit 1 -> appGet A1.n (fun (j:Nat) => [I (A1.g j).x, I (A1.g j).y]) (fun (x:Nat) => [I A2.x, I A2.y]) i = [I (A28.g i).x, I (A28.g i).y]) /\ g' <= A11 /\ A11 - g' < A11 - g) /\ (A4 = false -> InK .i64 (A8 + A18) /\ ∃ (g':Nat), let A29 := (L.cm a b c d g'); A3 /\ A8 + A18 = (↑g':Int) /\ SV.ref A14 A5 = SV.ref A14 A5 /\ SV.ref A15 A5 = SV.ref A15 A5 /\ SV.ref A16 A5 = SV.ref A16 A5 /\ SV.ref A17 A5 = SV.ref A17 A5 /\ (A1.n = A29.n /\ ∀ (i:Nat), i < A1.n -> [I (A1.g i).x, I (A1.g i).y] = [I (A29.g i).x, I (A29.g i).y]) /\ g' <= A11 /\ A11 - g' < A11 - g)))) /\ (decide (A8 < (4:Int)) = false -> (decide (A18 < A26) = true -> (3:Int) = L.meet a b c d) /\ (decide (A18 < A26) = false -> (decide (A26 = A18) = true -> A18 = L.meet a b c d) /\ (decide (A26 = A18) = false -> (L.bd a /\ L.bd b /\ L.bd c) /\ True /\ (L.bd a /\ L.bd b /\ L.bd d) /\ True /\ InK .i64 (L.cmp A20 A6 * L.cmp A21 A6) /\ (decide (L.cmp A20 A6 * L.cmp A21 A6 < A6) = true -> L.bd c /\ L.bd d /\ L.bd a) /\ A10 /\ (decide (L.cmp A20 A6 * L.cmp A21 A6 < A6) = true -> L.bd c /\ L.bd d /\ L.bd b) /\ A10 /\ (decide (L.cmp A20 A6 * L.cmp A21 A6 < A6) = true -> InK .i64 (L.cmp (L.cross c d a) A6 * L.cmp (L.cross c d b) A6)) /\ (A7 = true -> (2:Int) = L.meet a b c d) /\ (A7 = false -> A6 = L.meet a b c d))))) (by kernel_rfl) (by
 conv => zeta
 obtain ⟨ha, hb, hc, hd⟩ := hp
 have hp4 : ∀ i, L.bd (L.pick4 a b c d i) := fun i => by
   unfold L.pick4
   cases decide (i = 0) <;> cases decide (i = 1) <;> cases decide (i = 2) <;> assumption
 refine ⟨⟨(0:Nat), ⟨rfl, fun i hi => by match i, hi with | 0, _ => rfl | 1, _ => rfl | 2, _ => rfl | 3, _ => rfl⟩, rfl, ⟨rfl, fun i hi => absurd hi (Nat.not_lt_zero _)⟩, by decide⟩, fun g hg => ⟨fun hlt => ?_, fun hge => ?_⟩⟩
 · have hb1 : (g:Int) < 4 := of_decide_eq_true hlt
   have e0 : ((g:Int)).toNat = g := by omega
   rw [e0]
   refine ⟨⟨by omega, hb1⟩, ⟨ha, hb, hp4 g⟩, fun _ => ⟨by omega, hb1⟩, fun _ => ⟨hc, hd, hp4 g⟩, fun h1 => ?_, fun h1 => ?_⟩
   · have hoff : L.onB a b c d (L.pick4 a b c d g) = false := by
       unfold L.onB
       revert h1
       cases L.on a b (L.pick4 a b c d g) <;> cases L.on c d (L.pick4 a b c d g) <;> intro h1 <;> first | rfl | cases h1
     have e : L.cm a b c d (g + 1) = L.cm a b c d g := by rw [L.cm, hoff]; rfl
     refine ⟨iK, g + 1, ⟨rfl, fun _ _ => rfl⟩, by omega, rfl, rfl, rfl, rfl, ?_, by omega, by omega⟩
     rw [e]; exact ⟨rfl, fun _ _ => rfl⟩
   · have hon : L.onB a b c d (L.pick4 a b c d g) = true := by
       unfold L.onB
       revert h1
       cases L.on a b (L.pick4 a b c d g) <;> cases L.on c d (L.pick4 a b c d g) <;> intro h1 <;> first | rfl | cases h1
     refine ⟨⟨(g, 0), rfl, rfl, ⟨rfl, fun _ _ => rfl⟩, rfl, by show g < 4; omega, Nat.zero_le _⟩, ?_⟩
     rintro ⟨g', k⟩ ⟨e1, e2, e3⟩
     have e1 : (g:Int) = (g':Int) := e1
     obtain rfl : g = g' := by omega
     have e3 : k <= (L.cm a b c d g).n := e3
     have ek : ((k:Int)).toNat = k := by omega
     have hcn := cm_n (a := a) (b := b) (c := c) (d := d) (i := g)
     dsimp only
     rw [ek]
     refine ⟨fun hlt2 => ?_, fun hge2 => ?_⟩
     · have hk : (k:Int) < ((L.cm a b c d g).n:Int) := of_decide_eq_true hlt2
       refine ⟨fun _ => ⟨by omega, hk⟩, fun _ => (show k < (L.cm a b c d g).n by omega), fun _ => ⟨by omega, hb1⟩, iK, (g, k + 1), ?_, by show (k:Int) + 1 = ((k + 1:Nat):Int); omega, ⟨rfl, fun _ _ => rfl⟩, rfl, rfl, rfl, rfl, rfl, ⟨rfl, fun _ _ => rfl⟩, ⟨rfl, by show g < 4; omega, by show k + 1 <= (L.cm a b c d g).n; omega⟩, by show (L.cm a b c d g).n - (k + 1) < (L.cm a b c d g).n - k; omega⟩
       rw [bor]; rfl
     · have hk : ¬ (k:Int) < ((L.cm a b c d g).n:Int) := of_decide_eq_false hge2
       obtain rfl : k = (L.cm a b c d g).n := by omega
       have hhas : L.anyB (L.cm a b c d g).n (fun j => L.same ((L.cm a b c d g).g j) (L.pick4 a b c d g)) = L.has (L.cm a b c d g) (L.pick4 a b c d g) :=
         anyB_congr (fun i _ => same_sym _ _)
       rw [hhas]
       refine ⟨fun h2 => ?_, fun h2 => ?_⟩
       · have e : L.cm a b c d (g + 1) = ⟨(L.cm a b c d g).n + 1, fun i => if i < (L.cm a b c d g).n then (L.cm a b c d g).g i else L.pick4 a b c d g⟩ := by
           rw [L.cm, hon]
           show L.put _ _ = _
           unfold L.put; rw [notT h2]; rfl
         refine ⟨⟨by omega, hb1⟩, show ((L.cm a b c d g).n + 1) * 16 <= 140737488355328 by omega, iK, g + 1, ⟨rfl, fun _ _ => rfl⟩, by omega, rfl, rfl, rfl, rfl, ?_, by omega, by omega⟩
         rw [e]
         refine ⟨rfl, fun i hi => ?_⟩
         unfold appGet
         dsimp only
         by_cases h' : i < (L.cm a b c d g).n
         · rw [if_pos h', if_pos h']
         · rw [if_neg h', if_neg h']
       · have e : L.cm a b c d (g + 1) = L.cm a b c d g := by
           rw [L.cm, hon]
           show L.put _ _ = _
           unfold L.put; rw [notF h2]; rfl
         refine ⟨iK, g + 1, ⟨rfl, fun _ _ => rfl⟩, by omega, rfl, rfl, rfl, rfl, ?_, by omega, by omega⟩
         rw [e]; exact ⟨rfl, fun _ _ => rfl⟩
 · have hb1 : ¬ (g:Int) < 4 := of_decide_eq_false hge
   obtain rfl : g = 4 := by omega
   rw [cm_eq]
   have q1 := cmp_bd (L.cross a b c) 0
   have q2 := cmp_bd (L.cross a b d) 0
   have q3 := cmp_bd (L.cross c d a) 0
   have q4 := cmp_bd (L.cross c d b) 0
   have m1 := mul_bd (m := 1) (n := 1) q1.1 q1.2 q2.1 q2.2
   have m2 := mul_bd (m := 1) (n := 1) q3.1 q3.2 q4.1 q4.2
   refine ⟨fun h1 => ?_, fun h1 => ⟨fun h2 => ?_, fun h2 => ⟨⟨ha, hb, hc⟩, trivial, ⟨ha, hb, hd⟩, trivial, iK, fun _ => ⟨hc, hd, ha⟩, fun _ => trivial, fun _ => ⟨hc, hd, hb⟩, fun _ => trivial, fun _ => iK, fun h3 => ?_, fun h3 => ?_⟩⟩⟩
   · unfold L.meet; rw [h1]; rfl
   · unfold L.meet; rw [h1, h2]; rfl
   · have h3 : (bif L.apart a b c d then L.apart c d a b else false) = true := h3
     unfold L.meet; rw [h1, h2, h3]; rfl
   · have h3 : (bif L.apart a b c d then L.apart c d a b else false) = false := h3
     unfold L.meet; rw [h1, h2, h3]; rfl)
theorem r1_meet_ok : SpecOk Tryz.prog 89 r1_meet_S := fnX Tryz.func89 (c := bodyOf Tryz.f89) (by kernel_rfl) mixed (fun args p r hs hp => by
 unfold r1_meet_s at hs
 split at hs
 · cases hs; exact ⟨_, _, r1_meet_vc _ _ _ _ hp, (.same _ (.same _ (.same _ (.same _ .nil)))), ⟨show SpecsL Tryz.prog _ from (SpecsL.cons r1_On_ok r1_On_en (SpecsL.cons r1_Cross_ok r1_Cross_en (SpecsL.cons r1_sign_ok r1_sign_en SpecsL.nil))), rfl, ⟨show ItersL Tryz.prog _ from ItersL.nil, (TrsOk.none (fun _ => rfl))⟩⟩⟩
 · cases hs)
theorem r1_meet_en : Enters Tryz.prog 89 := fun args w => by kernel_rfl
def r1_simple_p (l : (L.Sq L.Pt)) : Prop := L.allBd l
def r1_simple_r (l : (L.Sq L.Pt)) : SV := .bool (L.simple l)
def r1_simple_s : List EV -> Option (Prop × SV)
 | [.p (.sl 2 l_n l_g)] => some ((∀ i, i < l_n -> l_g i = [.int .i64 ((ofPt (l_g i)).x), .int .i64 ((ofPt (l_g i)).y)]) /\ r1_simple_p (⟨l_n, fun i => ofPt (l_g i)⟩ : (L.Sq L.Pt)), r1_simple_r (⟨l_n, fun i => ofPt (l_g i)⟩ : (L.Sq L.Pt)))
 | _ => none
abbrev r1_simple_S : SE.Spec := (specO r1_simple_s)
def r1_simple_C : Cfg := { cC with specs := lookS [(41, r1_at_S), (89, r1_meet_S)] }
theorem r1_simple_vc (l : (L.Sq L.Pt)) (hp : r1_simple_p l) : vc Tryz.prog ({ r1_simple_C with loops := lookL [(3, { T := Nat, keep := [0, 3], keepO := [], chg := fun i => [(4, .p (.int .i64 (i:Int)))], own := fun _ => [], inv := fun i => i <= l.n /\ ∀ j, j < i -> ∀ k, j < k -> k < l.n -> L.okPair l j k = true, mu := fun i => l.n - i }), (6, { T := Nat × Nat, keep := [0, 3, 4], keepO := [], tie := fun i => [(4, .int .i64 (i.1:Int))], chg := fun i => [(5, .p (.int .i64 (i.2:Int)))], own := fun _ => [], inv := fun i => i.1 < i.2 /\ i.2 <= l.n /\ (∀ j, j < i.1 -> ∀ k, j < k -> k < l.n -> L.okPair l j k = true) /\ ∀ k, i.1 < k -> k < i.2 -> L.okPair l i.1 k = true, mu := fun i => l.n - i.2 })], rfs := lookR [] }) (bodyOf Tryz.f80) (st0 Tryz.f80 [.p (.sl 2 l.n (fun i => [.int .i64 ((l.g i).x), .int .i64 ((l.g i).y)]))]) (retFn Tryz.prog Tryz.f80 (r1_simple_r l)) :=
 @Eq.mpr _ (let I := SV.int .i64; let A19 := (1:Nat); let A15 := (0:Int); let A12 := (1000000:Int); let A11 := (1000000:Nat); let A10 := (-1000000:Int); let A7 := (l.n = l.n /\ ∀ (i:Nat), let A17 := [I (l.g i).x, I (l.g i).y]; i < l.n -> A17 = A17); let A6 := (↑l.n:Int); let A5 := (1:Int); let A2 := (∀ (i:Nat), let A18 := [I (l.g i).x, I (l.g i).y]; i < l.n -> A18 = A18); (∃ (g
:Nat), A15 = (↑g:Int) /\ g <= l.n /\ ∀ (j:Nat), j < g -> ∀ (k:Nat), j < k -> k < l.n -> L.okPair l j k = true) /\ ∀ (g:Nat), let A4 := (↑g:Int); let A16 := (A4 + A5); let A13 := (l.g (L.ix l.n A4)); let A8 := (l.g (L.ix l.n A16)); (g <= l.n /\ ∀ (j:Nat), j < g -> ∀ (k:Nat), j < k -> k < l.n -> L.okPair l j k = true) -> (decide (A4 < A6) = true -> InK .i64
 A16 /\ (∃ (g_1 : Nat × Nat), A4 + A5 = (↑g_1.2:Int) /\ A4 = (↑g_1.1:Int) /\ g_1.1 < g_1.2 /\ g_1.2 <= l.n /\ (∀ (j:Nat), j < g_1.1 -> ∀ (k:Nat), j < k -> k < l.n -> L.okPair l j k = true) /\ ∀ (k:Nat), g_1.1 < k -> k < g_1.2 -> L.okPair l g_1.1 k = true) /\ ∀ (g_1 : Nat × Nat), let A3 := (↑g_1.2:Int); let A14 := (l.g (L.ix l.n A3)); let A9 := (l.g (L.ix l.n (A3 + A5))); let A1 := (bif bif
 bif decide (A3 = A4 + A5) then true else bif decide (A4 = A15) then decide (A3 = A6 - A5) else false then !decide (L.meet A13 A8 A14 A9 = A5) else false then true else bif !bif decide (A3 = A4 + A5) then true else bif decide (A4 = A15) then decide (A3 = A6 - A5) else false then !decide
 (L.meet A13 A8 A14 A9 = A15) else false); (A4 = (↑g_1.1:Int) /\ g_1.1 < g_1.2 /\ g_1.2 <= l.n /\ (∀ (j:Nat), j < g_1.1 -> ∀ (k:Nat), j < k -> k < l.n -> L.okPair l j k = true) /\ ∀ (k:Nat), g_1.1 < k -> k < g_1.2 -> L.okPair l g_1.1 k = true) -> (decide (A3 < A6) = true -> (A2 /\ A19 <= l.n /\ l.n <= A11 /\ A10 <= A4 /\ A4 <= A12) /\ InK .i64 A16 /\ (A2 /\ A19 <= l.n
 /\ l.n <= A11 /\ A10 <= A4 + A5 /\ A4 + A5 <= A12) /\ (A2 /\ A19 <= l.n /\ l.n <= A11 /\ A10 <= A3 /\ A3 <= A12) /\ InK .i64 (A3 + A5) /\ (A2 /\ A19 <= l.n /\ l.n <= A11 /\ A10 <= A3 + A5 /\ A3 + A5 <= A12) /\ (L.bd A13 /\ L.bd A8 /\ L.bd A14 /\ L.bd A9) /\ InK .i64 A16 /\ ((!decide (A3 = A4 + A5) && decide (A4 = A15)) = true -> InK .i64 (A6 - A5)) /\ (A1 =
 true -> false = L.simple l) /\ (A1 = false -> InK .i64 (A3 + A5) /\ ∃ (g' : Nat × Nat), A3 + A5 = (↑g'.2:Int) /\ A4 = A4 /\ A6 = A6 /\ A7 /\ (A4 = (↑g'.1:Int) /\ g'.1 < g'.2 /\ g'.2 <= l.n /\ (∀ (j:Nat), j < g'.1 -> ∀ (k:Nat), j < k -> k < l.n -> L.okPair l j k = true) /\ ∀ (k:Nat), g'.1 < k -> k < g'.2 -> L.okPair l g'.1 k = true) /\ l.n - g'.2 < l.n - g_1.2)) /\
 (decide (A3 < A6) = false -> InK .i64 A16 /\ ∃ (g':Nat), A4 + A5 = (↑g':Int) /\ A6 = A6 /\ A7 /\ (g' <= l.n /\ ∀ (j:Nat), j < g' -> ∀ (k:Nat), j < k -> k < l.n -> L.okPair l j k = true) /\ l.n - g' < l.n - g)) /\ (decide (A4 < A6) = false -> true = L.simple l)) (by kernel_rfl) (by
    conv => zeta
    obtain ⟨hn, hb⟩ := hp
    have fin0 : ∀ {i k : Nat}, i < k -> k < l.n -> L.okPair l i k = false -> false = L.simple l := fun {i k} hik hk h => by
      unfold L.simple
      rw [allB_false (i := i) (by omega) (allB_false (i := k) hk (by simp [hik, h]))]
    refine ⟨⟨(0:Nat), rfl, Nat.zero_le _, fun j hj => absurd hj (Nat.not_lt_zero _)⟩, fun g hg => ⟨fun hlt => ?_, fun hge => ?_⟩⟩
    · have hb1 : (g:Int) < (l.n:Int) := of_decide_eq_true hlt
      refine ⟨iK, ⟨(g, g + 1), by show (g:Int) + 1 = ((g + 1:Nat):Int); omega, rfl, Nat.lt_succ_self g, by show g + 1 <= l.n; omega, hg.2, fun k h1 h2 => ?_⟩, ?_⟩
      · have h1 : g < k := h1
        have h2 : k < g + 1 := h2
        omega
      rintro ⟨i, k⟩ ⟨e1, hik, hkn, h0, h1⟩
      have e1 : (g:Int) = (i:Int) := e1
      obtain rfl : g = i := by omega
      have hik : g < k := hik
      have hkn : k <= l.n := hkn
      have h0 : ∀ j, j < g -> ∀ k, j < k -> k < l.n -> L.okPair l j k = true := h0
      have h1 : ∀ m, g < m -> m < k -> L.okPair l g m = true := h1
      dsimp only
      refine ⟨fun hlt2 => ?_, fun hge2 => ?_⟩
      · have hk : (k:Int) < (l.n:Int) := of_decide_eq_true hlt2
        have c5 : L.next l.n k < l.n := next_lt (by omega)
        have c2 : L.ix l.n ((g:Int) + 1) = g + 1 := by
          rw [show (g:Int) + 1 = ((g + 1:Nat):Int) by omega, ix_self (by omega)]
        rw [ix_self (n := l.n) (k := g) (by omega), c2, ix_self (n := l.n) (k := k) (by omega), ix_next (n := l.n) (k := k) (by omega)]
        have key : (bif (bif (bif decide ((k:Int) = (g:Int) + 1) then true else bif decide ((g:Int) = 0) then decide ((k:Int) = (l.n:Int) - 1) else false) then !decide (L.meet (l.g g) (l.g (g + 1)) (l.g k) (l.g (L.next l.n k)) = 1) else false) then true else bif !(bif decide ((k:Int) = (g:Int) + 1) then true else bif decide ((g:Int) = 0) then decide ((k:Int) = (l.n:Int) - 1) else false) then !decide (L.meet (l.g g) (l.g (g + 1)) (l.g k) (l.g (L.next l.n k)) = 0) else false) = !L.okPair l g k := by
          unfold L.okPair L.nxt L.how
          generalize (bif decide ((k:Int) = (g:Int) + 1) then true else bif decide ((g:Int) = 0) then decide ((k:Int) = (l.n:Int) - 1) else false) = q
          generalize decide (L.meet (l.g g) (l.g (g + 1)) (l.g k) (l.g (L.next l.n k)) = 1) = q1
          generalize decide (L.meet (l.g g) (l.g (g + 1)) (l.g k) (l.g (L.next l.n k)) = 0) = q2
          cases q <;> cases q1 <;> cases q2 <;> rfl
        rw [key]
        refine ⟨⟨fun _ _ => rfl, by omega, by omega, by omega, by omega⟩, iK, ⟨fun _ _ => rfl, by omega, by omega, by omega, by omega⟩, ⟨fun _ _ => rfl, by omega, by omega, by omega, by omega⟩, iK, ⟨fun _ _ => rfl, by omega, by omega, by omega, by omega⟩, ⟨hb g (by omega), hb (g + 1) (by omega), hb k (by omega), hb _ c5⟩, iK, fun _ => iK, fun h => fin0 hik (by omega) (notT h), fun h => ?_⟩
        have hok : L.okPair l g k = true := notF h
        refine ⟨iK, (g, k + 1), by show (k:Int) + 1 = ((k + 1:Nat):Int); omega, rfl, rfl, ⟨rfl, fun _ _ => rfl⟩, ⟨rfl, by show g < k + 1; omega, by show k + 1 <= l.n; omega, h0, fun m hm1 hm2 => ?_⟩, by show l.n - (k + 1) < l.n - k; omega⟩
        have hm1 : g < m := hm1
        have hm2 : m < k + 1 := hm2
        show L.okPair l g m = true
        rcases Nat.lt_succ_iff_lt_or_eq.1 hm2 with h' | rfl
        · exact h1 m hm1 h'
        · exact hok
      · have hk : ¬ (k:Int) < (l.n:Int) := of_decide_eq_false hge2
        refine ⟨iK, g + 1, by omega, rfl, ⟨rfl, fun _ _ => rfl⟩, ⟨by omega, fun j hj m hm1 hm2 => ?_⟩, by omega⟩
        rcases Nat.lt_succ_iff_lt_or_eq.1 hj with h' | rfl
        · exact h0 j h' m hm1 hm2
        · exact h1 m hm1 (by omega)
    · have hb1 : ¬ (g:Int) < (l.n:Int) := of_decide_eq_false hge
      unfold L.simple
      rw [allB_iff.2 (fun i hi => allB_iff.2 (fun k hk => ?_))]
      by_cases hik : i < k
      · simp [hik, hg.2 i (by omega) k hik hk]
      · simp [hik])
theorem r1_simple_ok : SpecOk Tryz.prog 80 r1_simple_S := fnX Tryz.func80 (c := bodyOf Tryz.f80) (by kernel_rfl) mixed (fun args p r hs hp => by
 unfold r1_simple_s at hs
 split at hs
 · cases hs; exact ⟨_, _, r1_simple_vc _ hp.2, (.p (.sl hp.1) .nil), ⟨show SpecsL Tryz.prog _ from (SpecsL.cons r1_at_ok r1_at_en (SpecsL.cons r1_meet_ok r1_meet_en SpecsL.nil)), rfl, ⟨show ItersL Tryz.prog _ from ItersL.nil, (TrsOk.none (fun _ => rfl))⟩⟩⟩
 · cases hs)
theorem r1_simple_en : Enters Tryz.prog 80 := fun args w => by kernel_rfl
def r1_ValidOutline_p (l : (L.Sq L.Pt)) : Prop := True
def r1_ValidOutline_r (l : (L.Sq L.Pt)) : SV := .bool (L.validOutline l)
def r1_ValidOutline_s : List EV -> Option (Prop × SV)
 | [.p (.sl 2 l_n l_g)] => some ((∀ i, i < l_n -> l_g i = [.int .i64 ((ofPt (l_g i)).x), .int .i64 ((ofPt (l_g i)).y)]) /\ r1_ValidOutline_p (⟨l_n, fun i => ofPt (l_g i)⟩ : (L.Sq L.Pt)), r1_ValidOutline_r (⟨l_n, fun i => ofPt (l_g i)⟩ : (L.Sq L.Pt)))
 | _ => none
abbrev r1_ValidOutline_S : SE.Spec := (specO r1_ValidOutline_s)
def r1_ValidOutline_C : Cfg := { cC with specs := lookS [(29, r1_points_S), (80, r1_simple_S), (42, r1_sum_S), (81, r1_less_S), (41, r1_at_S), (18, r1_Cross_S)] }
theorem r1_ValidOutline_vc (l : (L.Sq L.Pt)) (hp : r1_ValidOutline_p l) : vc Tryz.prog ({ r1_ValidOutline_C with loops := lookL [(4, { T := Nat, keep := [0], keepO := [], chg := fun i => [(3, .p (.int .i64 (i:Int)))], own := fun _ => [], inv := fun i => i <= l.n /\ ∀ j, j < i -> L.corner l j = true, mu := fun i => l.n - i })], rfs := lookR [] }) (bodyOf Tryz.f39) (st0 Tryz.f39 [.p (.sl 2 l.n (fun i => [.int .i64 ((l.g i).x), .int .i64 ((l.g i).y)]))]) (retFn Tryz.prog Tryz.f39 (r1_ValidOutline_r l)) :=
 @Eq.mpr _ (let I := SV.int .i64; let T := Int.toNat; let A17 := (3:Int); let A16 := (24:Int); let A11 := (1000000:Nat); let A9 := (1:Int); let A8 := (0:Int); let A7 := (↑l.n:Int); let A5 := (L.Sq.mk l.n fun (i:Nat) => l.g i); let A4 := (∀ (i:Nat), let A12 := [I (l.g i).x, I (l.g i).y]; i < l.n -> A12 = A12); let A2 := (bif bif bif bif decide (A7 < A17) then true else decide (A16 < A7) then true else !L.validPts A5 then true else !L.simple A5 then true else decide (L.areaTo A5 l.n <= A8)); ((!bif decide (A7 < A17) then true else decide (A16 < A7)) = true -> A4 /\ l.n <= A11) /\ ((!bif bif decide (A7 < A17) then true else decide (A16 < A7) then true else !L.validPts A5) = true -> A4 /\ L.allBd A5) /\ ((!bif bif bif decide (A7 < A17) then true else decide (A16 < A7) then true else !L.validPts A5 then true else !L.simple A5) = true -> A4 /\ L.small A5) /\ (A2 = true -> false = L.validOutline l) /\ (A2 = false -> (∃ (g:Nat), A8 = (↑g:Int) /\ g <= l.n /\ ∀ (j:Nat), j < g -> L.corner l j = true) /\ ∀ (g : Nat), let A6 := (↑g:Int); let A14 := (l.g (L.ix l.n (A6 + A9))); let A13 := (l.g (L.ix l.n (A6 - A9))); let A10 := (l.g (T A6)); let A3 := (bif bif decide (A8 < A6) then !decide (L.cmpPt (l.g (T A8)) A10 < A8) else false then true else decide (L.cross A13 A10 A14 = A8)); let A1 := (!bif decide (A8 < A6) then !decide (L.cmpPt (l.g (T A8)) A10 < A8) else false); (g <= l.n /\ ∀ (j:Nat), j < g -> L.corner l j = true) -> (decide (A6 < A7) = true -> (decide (A8 < A6) = true -> A8 <= A8 /\ A8 < A7) /\ (decide (A8 < A6) = true -> A8 <= A6 /\ A6 < A7) /\ (decide (A8 < A6) = true -> True) /\ (A1 = true -> InK .i64 (A6 - A9)) /\ (A1 = true -> A4 /\ (1:Nat) <= l.n /\ l.n <= A11 /\ (-1000000:Int) <= A6 - A9 /\ A6 - A9 <= (1000000:Int)) /\ (A1 = true -> A8 <= A6 /\ A6 < A7) /\ (A1 = true -> InK .i64 (A6 + A9)) /\ (A1 = true -> A4 /\ (1:Nat) <= l.n /\ l.n <= A11 /\ (-1000000:Int) <= A6 + A9 /\ A6 + A9 <= (1000000:Int)) /\ (A1 = true -> L.bd A13 /\ L.bd A10 /\ L.bd A14) /\ (A3 = true -> false = L.validOutline l) /\ (A3 = false -> InK .i64 (A6 + A9) /\ ∃ (g':Nat), A6 + A9 = (↑g':Int) /\ (l.n = l.n /\ ∀ (i:Nat), let A15 := [I (l.g i).x, I (l.g i).y]; i < l.n -> A15 = A15) /\ (g' <= l.n /\ ∀ (j:Nat), j < g' -> L.corner l j = true) /\ l.n - g' < l.n - g)) /\ (decide (A6 < A7) = false -> true = L.validOutline l))) (by kernel_rfl) (by
 conv => zeta
 have c1 : (bif decide ((l.n:Int) < 3) then true else decide (24 < (l.n:Int))) = !L.within (l.n:Int) 3 24 := by
   rw [bor, Bool.eq_iff_iff, Bool.or_eq_true, decide_eq_true_eq, decide_eq_true_eq, Bool.not_eq_true', Bool.eq_false_iff, Ne, within_iff]
   omega
 rw [c1]
 have sp : L.within (l.n:Int) 3 24 = true -> L.validPts l = true -> 3 <= l.n /\ l.n <= 24 /\ L.small l /\ L.allBd l := valid3_spec
 refine ⟨fun h => ⟨fun _ _ => rfl, ?_⟩, fun h => ⟨fun _ _ => rfl, ?_⟩, fun h => ⟨fun _ _ => rfl, ?_⟩, fun h => ?_, fun h => ?_⟩
 · have := within_iff.1 (notF (notT h)); omega
 · have h := notT h
   rw [bor, Bool.or_eq_false_iff] at h
   exact (sp (notF h.1) (notF h.2)).2.2.2
 · have h := notT h
   rw [bor, bor, Bool.or_eq_false_iff, Bool.or_eq_false_iff] at h
   exact (sp (notF h.1.1) (notF h.1.2)).2.2.1
 · have h : (bif bif bif !L.within (l.n:Int) 3 24 then true else !L.validPts l then true else !L.simple l then true else decide (L.areaTo l l.n <= 0)) = true := h
   have e3 : L.valid3 l = false \/ L.simple l = false := by
     rw [bor, bor, bor, Bool.or_eq_true, Bool.or_eq_true, Bool.or_eq_true] at h
     unfold L.valid3
     rcases h with ((h | h) | h) | h
     · rw [notT h]; exact .inl rfl
     · rw [notT h]; left; cases L.within (l.n:Int) 3 24 <;> rfl
     · exact .inr (notT h)
     · left
       have := of_decide_eq_true h
       rw [decide_eq_false (show ¬ 0 < L.areaTo l l.n by omega)]
       cases L.within (l.n:Int) 3 24 <;> cases L.validPts l <;> rfl
   unfold L.validOutline
   rcases e3 with e3 | e3 <;> rw [e3] <;> simp
 have h : (bif bif bif !L.within (l.n:Int) 3 24 then true else !L.validPts l then true else !L.simple l then true else decide (L.areaTo l l.n <= 0)) = false := h
 rw [bor, bor, bor, Bool.or_eq_false_iff, Bool.or_eq_false_iff, Bool.or_eq_false_iff] at h
 obtain ⟨⟨⟨h1, h2⟩, h3⟩, h4⟩ := h
 have h1 := notF h1
 have h2 := notF h2
 have h3 := notF h3
 have h4 := of_decide_eq_false h4
 obtain ⟨n3, n24, hsm, hbd⟩ := sp h1 h2
 have hv : L.valid3 l = true := by
   unfold L.valid3; rw [h1, h2, decide_eq_true (show 0 < L.areaTo l l.n by omega)]; rfl
 refine ⟨⟨(0:Nat), rfl, Nat.zero_le _, fun j hj => absurd hj (Nat.not_lt_zero _)⟩, fun g hg => ⟨fun hlt => ?_, fun hge => ?_⟩⟩
 · have hb : (g:Int) < (l.n:Int) := of_decide_eq_true hlt
   have hk : g < l.n := by omega
   have e0 : ((g:Int)).toNat = g := by omega
   have key := corner_eq (l := l) (k := g)
   rw [e0, ix_prev hk, ix_next hk]
   refine ⟨fun _ => by omega, fun _ => by omega, fun _ => trivial, fun _ => iK, fun _ => ⟨fun _ _ => rfl, by omega, by omega, by omega, by omega⟩, fun _ => by omega, fun _ => iK, fun _ => ⟨fun _ _ => rfl, by omega, by omega, by omega, by omega⟩, fun _ => ⟨hbd.2 _ (prev_lt (by omega)), hbd.2 _ hk, hbd.2 _ (next_lt (by omega))⟩, fun h => ?_, fun h => ?_⟩
   · have h : L.corner l g = false := notT (key.symm.trans h)
     unfold L.validOutline
     rw [allB_false hk h]; simp
   · have h : L.corner l g = true := notF (key.symm.trans h)
     exact ⟨iK, g + 1, by omega, ⟨rfl, fun _ _ => rfl⟩, ⟨by omega, fun j hj => by
       rcases Nat.lt_succ_iff_lt_or_eq.1 hj with h' | rfl
       · exact hg.2 j h'
       · exact h⟩, by omega⟩
 · have hb : ¬ (g:Int) < (l.n:Int) := of_decide_eq_false hge
   unfold L.validOutline
   rw [hv, allB_iff.2 (fun i hi => hg.2 i (by omega)), h3]; rfl)
theorem r1_ValidOutline_ok : SpecOk Tryz.prog 39 r1_ValidOutline_S := fnX Tryz.func39 (c := bodyOf Tryz.f39) (by kernel_rfl) mixed (fun args p r hs hp => by
 unfold r1_ValidOutline_s at hs
 split at hs
 · cases hs; exact ⟨_, _, r1_ValidOutline_vc _ hp.2, (.p (.sl hp.1) .nil), ⟨show SpecsL Tryz.prog _ from (SpecsL.cons r1_points_ok r1_points_en (SpecsL.cons r1_simple_ok r1_simple_en (SpecsL.cons r1_sum_ok r1_sum_en (SpecsL.cons r1_less_ok r1_less_en (SpecsL.cons r1_at_ok r1_at_en (SpecsL.cons r1_Cross_ok r1_Cross_en SpecsL.nil)))))), rfl, ⟨show ItersL Tryz.prog _ from ItersL.nil, (TrsOk.none (fun _ => rfl))⟩⟩⟩
 · cases hs)
theorem r1_ValidOutline_en : Enters Tryz.prog 39 := fun args w => by kernel_rfl
end Go.Proofs.YtaklapjfnejlbaaGreat
namespace Go.Proofs.YtaklapjfnejlbaaGreat
open Go.SE Go.RowKit
set_option maxRecDepth 100000
set_option maxHeartbeats 4000000
set_option linter.unusedVariables false
attribute [local irreducible] vc
theorem minTo_mem (l : L.Sq L.Pt) : ∀ i, ∃ j, j <= i /\ L.minTo l i = l.g j
 | 0 => ⟨0, Nat.le_refl _, rfl⟩
 | i + 1 => by
   obtain ⟨j, h1, h2⟩ := minTo_mem l i
   cases h : decide (L.cmpPt (l.g (i + 1)) (L.minTo l i) < 0) with
   | true => exact ⟨i + 1, Nat.le_refl _, by rw [L.minTo, h]; rfl⟩
   | false => exact ⟨j, by omega, by rw [L.minTo, h]; exact h2⟩
theorem minIdx {l : L.Sq L.Pt} (h : 1 <= l.n) : ∃ i, i < l.n /\ L.ptIdx l (L.minTo l (l.n - 1)) = (i:Int) /\ l.g i = L.minTo l (l.n - 1) := by
 obtain ⟨j, h1, h2⟩ := minTo_mem l (l.n - 1)
 obtain ⟨i, h3, h4, h5, _⟩ := ptIdx_of (l := l) (j := j) (by omega)
 rw [h2]
 exact ⟨i, by omega, h4, h5⟩
theorem norm_cat {t : L.Sq L.Pt} {K : Int} (h0 : 0 <= K) (h1 : K <= (t.n:Int)) (hn : 1 <= t.n) (hm : t.n <= 1000000) :
   (1 <= (L.two ⟨((t.n:Int) - K).toNat, fun i => t.g (K.toNat + i)⟩ ⟨(K - 0).toNat, fun i => t.g ((0:Int).toNat + i)⟩ 0).n + (L.two ⟨((t.n:Int) - K).toNat, fun i => t.g (K.toNat + i)⟩ ⟨(K - 0).toNat, fun i => t.g ((0:Int).toNat + i)⟩ 1).n /\
    (L.two ⟨((t.n:Int) - K).toNat, fun i => t.g (K.toNat + i)⟩ ⟨(K - 0).toNat, fun i => t.g ((0:Int).toNat + i)⟩ 0).n <= 1000000 /\ (L.two ⟨((t.n:Int) - K).toNat, fun i => t.g (K.toNat + i)⟩ ⟨(K - 0).toNat, fun i => t.g ((0:Int).toNat + i)⟩ 1).n <= 1000000) /\
   (L.catTo (L.two ⟨((t.n:Int) - K).toNat, fun i => t.g (K.toNat + i)⟩ ⟨(K - 0).toNat, fun i => t.g ((0:Int).toNat + i)⟩) 2).n = t.n /\
   ∀ i, (L.catTo (L.two ⟨((t.n:Int) - K).toNat, fun i => t.g (K.toNat + i)⟩ ⟨(K - 0).toNat, fun i => t.g ((0:Int).toNat + i)⟩) 2).g i = (L.rot t K.toNat).g i := by
 refine ⟨⟨?_, ?_, ?_⟩, ?_, fun i => ?_⟩
 · show 1 <= ((t.n:Int) - K).toNat + (K - 0).toNat
   omega
 · show ((t.n:Int) - K).toNat <= 1000000
   omega
 · show (K - 0).toNat <= 1000000
   omega
 · show 0 + ((t.n:Int) - K).toNat + (K - 0).toNat = t.n
   omega
 · show (bif decide (i < 0 + ((t.n:Int) - K).toNat) then (bif decide (i < 0) then (⟨0, 0⟩ : L.Pt) else t.g (K.toNat + (i - 0))) else t.g ((0:Int).toNat + (i - (0 + ((t.n:Int) - K).toNat)))) = (bif decide (i < t.n - K.toNat) then t.g (K.toNat + i) else t.g (i - (t.n - K.toNat)))
   rw [decide_eq_false (Nat.not_lt_zero i), show 0 + ((t.n:Int) - K).toNat = t.n - K.toNat by omega, show (0:Int).toNat + (i - (t.n - K.toNat)) = i - (t.n - K.toNat) by simp]
   rfl
theorem bd_of_valid {p : L.Pt} (h : L.validPt p = true) : L.bd p := by
 unfold L.validPt at h
 rw [Bool.and_eq_true, within_iff, within_iff] at h
 unfold L.bd
 omega
theorem small_of_valid {l : L.Sq L.Pt} (hn : l.n <= 1000) (h : L.validPts l = true) : L.small l :=
 ⟨hn, fun i hi => bd_of_valid (allB_iff.1 h i hi)⟩
theorem minTo_le {l : L.Sq L.Pt} : ∀ {i j : Nat}, j <= i -> ¬ L.cmpPt (l.g j) (L.minTo l i) < 0
 | 0, j, h => by
   obtain rfl : j = 0 := by omega
   rw [cmpPt_lt, L.minTo]; omega
 | i + 1, j, h => by
   rw [L.minTo]
   cases hd : decide (L.cmpPt (l.g (i + 1)) (L.minTo l i) < 0) with
   | false =>
     rw [cond_false]
     by_cases e : j = i + 1
     · rw [e]; exact of_decide_eq_false hd
     · exact minTo_le (by omega)
   | true =>
     rw [cond_true]
     have h1 := of_decide_eq_true hd
     by_cases e : j = i + 1
     · rw [e, cmpPt_lt]; omega
     · have h2 := minTo_le (l := l) (i := i) (j := j) (by omega)
       rw [cmpPt_lt] at h1 h2 ⊢
       omega
structure L.Iso (e:Int) (T : L.Pt -> L.Pt) : Prop where
 sg : e = 1 \/ e = -1
 ds : ∀ a b, L.dist (T a) (T b) = L.dist a b
 cr : ∀ a b c, L.cross (T a) (T b) (T c) = e * L.cross a b c
 on : ∀ a b p, L.on (T a) (T b) (T p) = L.on a b p
 inj : ∀ a b, T a = T b -> a = b
def L.argTo (l : L.Sq L.Pt) : Nat -> Nat
 | 0 => 0
 | i + 1 => bif decide (L.cmpPt (l.g i) (l.g (L.argTo l i)) < 0) then i else L.argTo l i
def L.fstK (l : L.Sq L.Pt) : Nat := L.argTo l l.n
def L.plc (l : L.Sq L.Pt) (k:Nat) : L.Pt := (L.rot l (L.fstK l)).g k
def L.sameP (a b : L.Sq L.Pt) : Bool := bif decide ((a.n:Int) = b.n) then L.allB a.n (fun i => L.same (a.g i) (b.g i)) else false
def L.revG (l : L.Sq L.Pt) : L.Sq L.Pt := ⟨l.n, fun k => l.g (l.n - 1 - k)⟩
theorem argTo_min (l : L.Sq L.Pt) : ∀ i, l.g (L.argTo l (i + 1)) = L.minTo l i /\ L.argTo l (i + 1) <= i /\ ∀ j, j < L.argTo l (i + 1) -> l.g j ≠ L.minTo l i
 | 0 => by
   have h : L.argTo l 1 = 0 := by
     show (bif decide (L.cmpPt (l.g 0) (l.g 0) < 0) then 0 else 0) = 0
     cases decide (L.cmpPt (l.g 0) (l.g 0) < 0) <;> rfl
   rw [h]
   exact ⟨rfl, Nat.le_refl _, fun j hj => absurd hj (Nat.not_lt_zero _)⟩
 | i + 1 => by
   obtain ⟨h1, h2, h3⟩ := argTo_min l i
   have ha : L.argTo l (i + 1 + 1) = bif decide (L.cmpPt (l.g (i + 1)) (l.g (L.argTo l (i + 1))) < 0) then i + 1 else L.argTo l (i + 1) := rfl
   have hm : L.minTo l (i + 1) = bif decide (L.cmpPt (l.g (i + 1)) (L.minTo l i) < 0) then l.g (i + 1) else L.minTo l i := rfl
   rw [ha, hm, h1]
   cases hc : decide (L.cmpPt (l.g (i + 1)) (L.minTo l i) < 0) with
   | false => exact ⟨h1, by show L.argTo l (i + 1) <= i + 1; omega, h3⟩
   | true =>
     refine ⟨rfl, Nat.le_refl _, fun j hj e => ?_⟩
     have hj : j < i + 1 := hj
     have e : l.g j = l.g (i + 1) := e
     have := minTo_le (l := l) (i := i) (j := j) (by omega)
     rw [e] at this
     exact this (of_decide_eq_true hc)
theorem argTo_lt {l : L.Sq L.Pt} (h : 1 <= l.n) : ∀ i, i <= l.n -> L.argTo l i < l.n
 | 0, _ => h
 | i + 1, hi => by have := (argTo_min l i).2.1; omega
theorem minK_eq {l : L.Sq L.Pt} (h : 1 <= l.n) : L.minK l = L.fstK l := by
 obtain ⟨h1, h2, h3⟩ := argTo_min l (l.n - 1)
 rw [show l.n - 1 + 1 = l.n by omega] at h1 h2 h3
 obtain ⟨i, g1, g2, g3, _⟩ := ptIdx_of (l := l) (j := L.argTo l l.n) (by omega)
 unfold L.minK L.fstK
 rw [<- h1, g2]
 rcases Nat.lt_or_ge i (L.argTo l l.n) with hi | hi
 · exact absurd (g3.trans h1) (h3 i hi)
 · have : i = L.argTo l l.n := by omega
   rw [Int.toNat_natCast, this]
def L.far (l : L.Sq L.Pt) : Int := L.idx l.n (fun i => !L.same (l.g i) (l.g 0))
def L.flat (l : L.Sq L.Pt) : Bool := bif decide (L.far l < 0) then true else !L.anyB l.n (fun i => !decide (L.cross (l.g 0) (l.g (L.far l).toNat) (l.g i) = 0))
def L.str (l : L.Sq L.Pt) : L.Sq L.Pt := L.thin L.cFlat (L.thin L.cDup l)
def L.outE (l : L.Sq L.Pt) : Int := bif (bif !L.within (l.n:Int) 3 400 then true else !L.validPts l) then 1 else bif L.flat l then 11 else bif (bif decide (((L.str l).n:Int) < 3) then true else !L.simple (L.str l)) then 10 else bif decide ((24:Int) < ((L.str l).n:Int)) then 2 else 0
def L.outN (l : L.Sq L.Pt) : Nat := bif decide (L.outE l = 0) then (L.str l).n else 0
def L.two2 (l : L.Sq L.Pt) : Prop := ∃ i j, i < l.n /\ j < l.n /\ l.g i ≠ l.g j
theorem del_has {c : L.Pt -> L.Pt -> L.Pt -> Bool} {x : L.Sq L.Pt} {i : Nat} {v : L.Pt} (hn : 2 <= x.n) (hi : i < x.n) (he : x.g i = x.g (L.next x.n i)) (hv : ∃ k, k < x.n /\ x.g k = v) : ∃ k, k < x.n - 1 /\ L.delF x.g i x.n k = v := by
 have key : ∃ k, k < x.n /\ k ≠ i /\ x.g k = v := by
   obtain ⟨k, hk, e⟩ := hv
   by_cases h : k = i
   · subst h
     refine ⟨L.next x.n k, next_lt (by omega), fun h => ?_, he.symm.trans e⟩
     unfold L.next at h
     by_cases e2 : k + 1 < x.n
     · rw [Int.tmod_eq_of_lt (by omega) (by omega)] at h
       omega
     · rw [show (k:Int) + 1 = (x.n:Int) by omega, Int.tmod_self] at h
       have : (0:Int).toNat = 0 := rfl
       omega
   · exact ⟨k, hk, h, e⟩
 obtain ⟨k, hk, hne, e⟩ := key
 rcases Nat.lt_or_ge k i with h | h
 · refine ⟨k, by omega, ?_⟩
   unfold L.delF
   rw [decide_eq_true h, cond_true, e]
 · refine ⟨k - 1, by omega, ?_⟩
   unfold L.delF
   rw [decide_eq_false (show ¬ k - 1 < i by omega), cond_false, decide_eq_true (show k - 1 + 1 < x.n by omega), cond_true, show k - 1 + 1 = k by omega, e]
theorem two2_n {x : L.Sq L.Pt} (h : L.two2 x) : 2 <= x.n := by
 obtain ⟨i, j, hi, hj, hne⟩ := h
 have : i ≠ j := fun e => hne (by rw [e])
 omega
theorem del_two {x : L.Sq L.Pt} {i : Nat} (h : L.two2 x) (hi : i < x.n) (he : L.outAt L.cDup x i = true) : L.two2 ⟨x.n - 1, L.delF x.g i x.n⟩ := by
 have hn := two2_n h
 obtain ⟨p, q, hp, hq, hne⟩ := h
 have e : x.g i = x.g (L.next x.n i) := same_eq he
 obtain ⟨a, ha, ea⟩ := del_has (c := L.cDup) hn hi e ⟨p, hp, rfl⟩
 obtain ⟨b, hb, eb⟩ := del_has (c := L.cDup) hn hi e ⟨q, hq, rfl⟩
 exact ⟨a, b, ha, hb, fun h => hne (ea.symm.trans (h.trans eb))⟩
theorem thinF_ind {c : L.Pt -> L.Pt -> L.Pt -> Bool} {Q : L.Sq L.Pt -> Prop} (hs : ∀ x i, Q x -> i < x.n -> L.outAt c x i = true -> Q ⟨x.n - 1, L.delF x.g i x.n⟩) : ∀ k x, Q x -> Q (L.thinF c k x)
 | 0, _, h => h
 | k + 1, x, h => by
   show Q (bif decide (0 <= L.idx x.n (L.outAt c x)) then L.thinF c k ⟨x.n - 1, L.delF x.g (L.idx x.n (L.outAt c x)).toNat x.n⟩ else x)
   rcases idx_cases (f := L.outAt c x) (n := x.n) with ⟨h1, _⟩ | ⟨i, h1, h2, h3, _⟩
   · rw [h1]; exact h
   · rw [h2, decide_eq_true (show (0:Int) <= (i:Int) by omega), cond_true, Int.toNat_natCast]
     exact thinF_ind hs k _ (hs x i h h1 h3)
theorem thin_ind {c : L.Pt -> L.Pt -> L.Pt -> Bool} {Q : L.Sq L.Pt -> Prop} (hs : ∀ x i, Q x -> i < x.n -> L.outAt c x i = true -> Q ⟨x.n - 1, L.delF x.g i x.n⟩) {x : L.Sq L.Pt} (h : Q x) : Q (L.thin c x) := thinF_ind hs _ x h
theorem del_allBd {x : L.Sq L.Pt} {i : Nat} (h : L.allBd x) : L.allBd ⟨x.n - 1, L.delF x.g i x.n⟩ := ⟨by show x.n - 1 <= 1000; have := h.1; omega, fun k hk => delF_bd (n := x.n) h.2 (Nat.le_refl _) k (by have hk : k < x.n - 1 := hk; omega)⟩
theorem thin_allBd {c : L.Pt -> L.Pt -> L.Pt -> Bool} {x : L.Sq L.Pt} (h : L.allBd x) : L.allBd (L.thin c x) := thin_ind (fun _ _ h _ _ => del_allBd h) h
theorem thin_two {x : L.Sq L.Pt} (h : L.two2 x) : L.two2 (L.thin L.cDup x) := thin_ind (fun _ _ h hi he => del_two h hi he) h
theorem far_at {l : L.Sq L.Pt} {k : Nat} (hk : k < l.n) (h0 : ∀ j, j < k -> l.g j = l.g 0) (h1 : l.g k ≠ l.g 0) : L.far l = (k:Int) := by
 refine idx_at (f := fun i => !L.same (l.g i) (l.g 0)) (fun j hj => ?_) ?_ hk
 · show (!L.same (l.g j) (l.g 0)) = false
   rw [h0 j hj, same_refl]; rfl
 · show (!L.same (l.g k) (l.g 0)) = true
   cases e : L.same (l.g k) (l.g 0) with
   | true => exact absurd (same_eq e) h1
   | false => rfl
theorem flat_all {l : L.Sq L.Pt} (h : ∀ j, j < l.n -> l.g j = l.g 0) : L.flat l = true := by
 unfold L.flat
 have e : L.far l = -1 := idx_none (f := fun i => !L.same (l.g i) (l.g 0)) fun j hj => by
   show (!L.same (l.g j) (l.g 0)) = false
   rw [h j hj, same_refl]; rfl
 rw [e]; rfl
theorem flat_two {l : L.Sq L.Pt} (h : L.flat l = false) (h1 : 1 <= l.n) : L.two2 l := by
 unfold L.flat L.far at h
 rcases idx_cases (f := fun i => !L.same (l.g i) (l.g 0)) (n := l.n) with ⟨q1, _⟩ | ⟨i, q1, q2, q3, _⟩
 · rw [q1] at h; cases h
 · refine ⟨i, 0, q1, h1, fun e => ?_⟩
   have q3 : (!L.same (l.g i) (l.g 0)) = true := q3
   rw [e, same_refl] at q3; cases q3
theorem wneg {n : Nat} : (bif decide ((n:Int) < 3) then true else decide (400 < (n:Int))) = !L.within (n:Int) 3 400 := by
 unfold L.within
 by_cases h1 : (n:Int) < 3
 · rw [decide_eq_true h1, decide_eq_false (show ¬ (3:Int) <= (n:Int) by omega)]; rfl
 · rw [decide_eq_false h1, decide_eq_true (show (3:Int) <= (n:Int) by omega), cond_false, Bool.true_and]
   by_cases h2 : 400 < (n:Int)
   · rw [decide_eq_true h2, decide_eq_false (show ¬ (n:Int) <= 400 by omega)]; rfl
   · rw [decide_eq_false h2, decide_eq_true (show (n:Int) <= 400 by omega)]; rfl
theorem out_of {l : L.Sq L.Pt} (h : (bif !L.within (l.n:Int) 3 400 then true else !L.validPts l) = false) : 3 <= l.n /\ l.n <= 400 /\ L.validPts l = true := by
 rw [bor, Bool.or_eq_false_iff] at h
 have h1 := notF h.1
 unfold L.within at h1
 rw [Bool.and_eq_true, decide_eq_true_eq, decide_eq_true_eq] at h1
 exact ⟨by omega, by omega, notF h.2⟩
theorem flip_n (x : L.Sq L.Pt) : (L.flip x).n = x.n := by
 unfold L.flip
 cases decide (L.areaTo x x.n < 0) <;> rfl
theorem plc_flip {x : L.Sq L.Pt} (h : 1 <= x.n) : L.plc (L.flip x) = (L.norm x).g := by
 funext k
 show (L.rot (L.flip x) (L.fstK (L.flip x))).g k = (L.rot (L.flip x) (L.minK (L.flip x))).g k
 rw [minK_eq (by rw [flip_n]; exact h)]
theorem flip_neg {x : L.Sq L.Pt} (h : decide (L.areaTo x x.n < 0) = true) : L.flip x = L.revG x := by unfold L.flip; rw [h]; rfl
theorem flip_pos {x : L.Sq L.Pt} (h : decide (L.areaTo x x.n < 0) = false) : L.flip x = x := by unfold L.flip; rw [h]; rfl
theorem far_lt {l : L.Sq L.Pt} (h : ¬ L.far l < 0) : 0 <= L.far l /\ L.far l < (l.n:Int) := by
 unfold L.far at h ⊢
 rcases idx_cases (f := fun i => !L.same (l.g i) (l.g 0)) (n := l.n) with ⟨q1, _⟩ | ⟨i, q1, q2, q3, _⟩
 · rw [q1] at h; exact absurd (by decide) h
 · rw [q2]; omega
def p_normal_p (l : (L.Sq L.Pt)) : Prop := L.small l /\ 1 <= l.n
def p_normal_q (l : (L.Sq L.Pt)) : Nat -> Prop := fun _ => True
def p_normal_n (l : (L.Sq L.Pt)) : Nat -> Nat := fun _ => l.n
def p_normal_g (l : (L.Sq L.Pt)) : Nat -> Nat -> List SV := fun _ k => [.int .i64 (((L.norm l).g k).x), .int .i64 (((L.norm l).g k).y)]
def p_normal_s : List EV -> Option (Prop × (Nat -> Prop) × (Nat -> Nat) × (Nat -> Nat -> List SV))
 | [.p (.sl 2 l_n l_g)] => some ((∀ i, i < l_n -> l_g i = [.int .i64 ((ofPt (l_g i)).x), .int .i64 ((ofPt (l_g i)).y)]) /\ p_normal_p (⟨l_n, fun i => ofPt (l_g i)⟩ : (L.Sq L.Pt)), p_normal_q (⟨l_n, fun i => ofPt (l_g i)⟩ : (L.Sq L.Pt)), p_normal_n (⟨l_n, fun i => ofPt (l_g i)⟩ : (L.Sq L.Pt)), p_normal_g (⟨l_n, fun i => ofPt (l_g i)⟩ : (L.Sq L.Pt)))
 | _ => none
abbrev p_normal_S : SE.Spec := (specF Nat 0 45 2 p_normal_s)
def p_normal_C : Cfg := { cC with muts := [5, 22], frz := lookN [(5, [5])], specs := lookS [(117, s_cloneP_S), (35, p_area_S), (118, s_minP_S), (34, s_idxPt_S), (51, s_concat_S), (28, p_compare_S)], trs := lookT [(67, s_revP_tr)], ren := fun k => k - 1000 }
theorem p_normal_vc (l : (L.Sq L.Pt)) (hp : p_normal_p l) : vc Tryz.prog (p_normal_C) (bodyOf Tryz.f85) (st0 Tryz.f85 [.p (.sl 2 l.n (fun i => [.int .i64 ((l.g i).x), .int .i64 ((l.g i).y)]))]) (retFresh Tryz.prog Tryz.f85 (Nat) (p_normal_q l) 45 2 (p_normal_n l) (p_normal_g l)) :=
  @Eq.mpr _ (let I := SV.int .i64; let T := Int.toNat; let A40 := (2:Nat); let A38 := (L.norm l); let A24 := (↑l.n:Int); let A18 := (1000000:Nat); let A14 := (0:Int); let A13 := (∀ (i:Nat), let A36 := [I (l.g i).x, I (l.g i).y]; i < l.n -> A36 = A36); let A8 := (1:Nat); let A27 := (l.n - A8); let A7 := (FSpec.mk (fun («as» : List SV) => preO p_compare_s (List.map
 EV.p «as» ++ List.map EV.p [])) fun («as» : List SV) => resO p_compare_s (List.map EV.p «as» ++ List.map EV.p [])); let A6 := (L.Sq.mk l.n fun (i:Nat) => l.g i); let A19 := (L.minTo A6 A27); let A11 := (L.Sq.mk (T (L.ptIdx A6 A19 - A14)) fun (i:Nat) => l.g (T A14 + i)); let A3 := (L.Sq.mk (T (A24 - L.ptIdx A6 A19)) fun (i:Nat) => let A33 := (L.Sq.mk l.n fun (i
:Nat) => l.g i); l.g (T (L.ptIdx A33 (L.minTo A33 A27)) + i)); let A39 := (L.two A3 A11 (0:Nat)); (A13 /\ l.n <= A18) /\ ∀ (t:Nat), True -> (A13 /\ L.small A6) /\ (decide (L.areaTo A6 l.n < A14) = true -> ∃ (t : L.Sq L.Pt), let A28 := (t.n - A8); let A25 := (↑t.n:Int); let A17 := (∀ (i:Nat), let A26 := (t.g (t.n - A8 - i)); i < t.n -> [I A26.x, I A26.y] = [I A26.x, I A26.y]); let A4
 := (L.Sq.mk t.n fun (i:Nat) => t.g (t.n - A8 - i)); let A20 := (L.minTo A4 A28); let A10 := (L.Sq.mk (T (L.ptIdx A4 A20 - A14)) fun (i:Nat) => t.g (t.n - A8 - (T A14 + i))); let A1 := (L.Sq.mk (T (A25 - L.ptIdx A4 A20)) fun (i:Nat) => let A29 := (L.Sq.mk t.n fun (i:Nat) => t.g (t.n - A8 - i)); t.g (t.n - A8 - (T (L.ptIdx A29 (L.minTo A29 A28)) + i))); let A37 := (L.two A1 A10 (0:Nat)); (l.n
 = t.n /\ ∀ (i:Nat), i < l.n -> [I (l.g i).x, I (l.g i).y] = [I (t.g i).x, I (t.g i).y]) /\ t.n <= A18 /\ ∀ (u:Nat), True -> (A17 /\ isI A7 /\ A8 <= t.n /\ t.n <= A18 /\ ∀ (a b : L.Pt), True /\ L.fil A7 [SV.agg [I a.x, I a.y], SV.agg [I b.x, I b.y]] = L.cmpPt a b) /\ (A17 /\ t.n <= A18) /\ (A14 <= L.ptIdx A4 A20 /\ L.ptIdx A4 A20 <= A25 /\ A25 <= A25) /\ (A14 <= A14 /\ A14 <= L.ptIdx A4 A20 /\ L.ptIdx
 A4 A20 <= A25) /\ (((∀ (i:Nat), let A15 := (L.Sq.mk t.n fun (i:Nat) => t.g (t.n - A8 - i)); let A9 := (t.g (t.n - A8 - (T (L.ptIdx A15 (L.minTo A15 A28)) + i))); i < T (A25 - L.ptIdx A15 (L.minTo A15 A28)) -> [I A9.x, I A9.y] = [I A9.x, I A9.y]) /\ ∀ (i:Nat), let A30 := (L.Sq.mk t.n fun (i:Nat) => t.g (t.n - A8 - i)); let A23 := (t.g (t.n - A8 - (T A14 + i))); i < T (L.ptIdx A30 (L.minTo A30
 A28) - A14) -> [I A23.x, I A23.y] = [I A23.x, I A23.y]) /\ A8 <= A37.n + (L.two A1 A10 A8).n /\ A37.n <= A18 /\ (L.two A1 A10 A8).n <= A18) /\ ∀ (t_1:Nat), True -> ∃ (t_2:Nat), ((L.catTo (L.two A1 A10) A40).n = l.n /\ ∀ (i:Nat), let A16 := (L.Sq.mk t.n fun (i:Nat) => t.g (t.n - A8 - i)); let A2 := (L.catTo (L.two (L.Sq.mk (T (A25 - L.ptIdx A16 (L.minTo A16 A28))) fun (i:Nat) => let A31 := (L.Sq.mk
 t.n fun (i:Nat) => t.g (t.n - A8 - i)); t.g (t.n - A8 - (T (L.ptIdx A31 (L.minTo A31 A28)) + i))) (L.Sq.mk (T (L.ptIdx A16 (L.minTo A16 A28) - A14)) fun (i:Nat) => t.g (t.n - A8 - (T A14 + i)))) A40); i < A2.n -> [I (A2.g i).x, I (A2.g i).y] = [I (A38.g i).x, I (A38.g i).y]) /\ True) /\ (decide (L.areaTo A6 l.n < A14) = false -> (A13 /\ isI A7 /\ A8 <= l.n /\ l.n <= A18 /\ ∀ (a b :
 L.Pt), True /\ L.fil A7 [SV.agg [I a.x, I a.y], SV.agg [I b.x, I b.y]] = L.cmpPt a b) /\ (A13 /\ l.n <= A18) /\ (A14 <= L.ptIdx A6 A19 /\ L.ptIdx A6 A19 <= A24 /\ A24 <= A24) /\ (A14 <= A14 /\ A14 <= L.ptIdx A6 A19 /\ L.ptIdx A6 A19 <= A24) /\ (((∀ (i:Nat), let A21 := (L.Sq.mk l.n fun (i:Nat) => l.g i); let A12 := (l.g (T (L.ptIdx A21 (L.minTo A21 A27)) + i)); i < T (A24 - L.ptIdx A21 (L.minTo A21
 A27)) -> [I A12.x, I A12.y] = [I A12.x, I A12.y]) /\ ∀ (i:Nat), let A34 := (L.Sq.mk l.n fun (i:Nat) => l.g i); let A32 := [I (l.g (T A14 + i)).x, I (l.g (T A14 + i)).y]; i < T (L.ptIdx A34 (L.minTo A34 A27) - A14) -> A32 = A32) /\ A8 <= A39.n + (L.two A3 A11 A8).n /\ A39.n <= A18 /\ (L.two A3 A11 A8).n <= A18) /\ ∀ (t:Nat), True -> ∃ (t:Nat), ((L.catTo (L.two A3 A11) A40).n = l.n /\ ∀ (i:Nat), let
 A22 := (L.Sq.mk l.n fun (i:Nat) => l.g i); let A5 := (L.catTo (L.two (L.Sq.mk (T (A24 - L.ptIdx A22 (L.minTo A22 A27))) fun (i:Nat) => let A35 := (L.Sq.mk l.n fun (i:Nat) => l.g i); l.g (T (L.ptIdx A35 (L.minTo A35 A27)) + i)) (L.Sq.mk (T (L.ptIdx A22 (L.minTo A22 A27) - A14)) fun (i:Nat) => l.g (T A14 + i))) A40); i < A5.n -> [I (A5.g i).x, I (A5.g i).y] = [I (A38.g i).x, I (A38.g i).y]) /\
 True)) (by kernel_rfl) (by
    conv => zeta
    obtain ⟨hs, h1⟩ := hp
    have hn := hs.1
    refine ⟨⟨fun _ _ => rfl, by omega⟩, fun _ _ => ⟨⟨fun _ _ => rfl, hs⟩, fun hA => ?_, fun hA => ?_⟩⟩
    · have fl : L.flip l = ⟨l.n, fun k => l.g (l.n - 1 - k)⟩ := by unfold L.flip; rw [hA]; rfl
      obtain ⟨i0, k1, k2, _⟩ := minIdx (l := ⟨l.n, fun k => l.g (l.n - 1 - k)⟩) h1
      have k1 : i0 < l.n := k1
      obtain ⟨q, c1, c2⟩ := norm_cat (t := ⟨l.n, fun k => l.g (l.n - 1 - k)⟩) (K := L.ptIdx ⟨l.n, fun k => l.g (l.n - 1 - k)⟩ (L.minTo ⟨l.n, fun k => l.g (l.n - 1 - k)⟩ (l.n - 1))) (by rw [k2]; omega) (by rw [k2]; show (i0:Int) <= (l.n:Int); omega) h1 (by show l.n <= 1000000; omega)
      have a1 : 0 <= L.ptIdx ⟨l.n, fun k => l.g (l.n - 1 - k)⟩ (L.minTo ⟨l.n, fun k => l.g (l.n - 1 - k)⟩ (l.n - 1)) := by rw [k2]; omega
      have a2 : L.ptIdx ⟨l.n, fun k => l.g (l.n - 1 - k)⟩ (L.minTo ⟨l.n, fun k => l.g (l.n - 1 - k)⟩ (l.n - 1)) <= (l.n:Int) := by rw [k2]; omega
      refine ⟨l, ⟨rfl, fun _ _ => rfl⟩, by omega, fun _ _ => ⟨⟨fun _ _ => rfl, isI_of p_compare_I _, h1, by omega, fun _ _ => ⟨trivial, rfl⟩⟩, ⟨fun _ _ => rfl, by omega⟩, ⟨a1, a2, Int.le_refl _⟩, ⟨Int.le_refl _, a1, a2⟩, ⟨⟨fun _ _ => rfl, fun _ _ => rfl⟩, q⟩, fun _ _ => ⟨(0:Nat), ⟨c1, fun i _ => ?_⟩, trivial⟩⟩⟩
      have w : (L.norm l).g i = (L.rot ⟨l.n, fun k => l.g (l.n - 1 - k)⟩ (L.ptIdx ⟨l.n, fun k => l.g (l.n - 1 - k)⟩ (L.minTo ⟨l.n, fun k => l.g (l.n - 1 - k)⟩ (l.n - 1))).toNat).g i := by
        show (L.rot (L.flip l) (L.minK (L.flip l))).g i = _
        unfold L.minK
        rw [fl]
      rw [w, <- c2 i]
    · have fl : L.flip l = l := by unfold L.flip; rw [hA]; rfl
      obtain ⟨i0, k1, k2, _⟩ := minIdx (l := l) h1
      obtain ⟨q, c1, c2⟩ := norm_cat (t := l) (K := L.ptIdx l (L.minTo l (l.n - 1))) (by rw [k2]; omega) (by rw [k2]; omega) h1 (by omega)
      have a1 : 0 <= L.ptIdx l (L.minTo l (l.n - 1)) := by rw [k2]; omega
      have a2 : L.ptIdx l (L.minTo l (l.n - 1)) <= (l.n:Int) := by rw [k2]; omega
      refine ⟨⟨fun _ _ => rfl, isI_of p_compare_I _, h1, by omega, fun _ _ => ⟨trivial, rfl⟩⟩, ⟨fun _ _ => rfl, by omega⟩, ⟨a1, a2, Int.le_refl _⟩, ⟨Int.le_refl _, a1, a2⟩, ⟨⟨fun _ _ => rfl, fun _ _ => rfl⟩, q⟩, fun _ _ => ⟨(0:Nat), ⟨c1, fun i _ => ?_⟩, trivial⟩⟩
      have w : (L.norm l).g i = (L.rot l (L.ptIdx l (L.minTo l (l.n - 1))).toNat).g i := by
        show (L.rot (L.flip l) (L.minK (L.flip l))).g i = _
        unfold L.minK
        rw [fl]
      rw [w, <- c2 i])
theorem p_normal_ok : SpecOk Tryz.prog 85 p_normal_S := freshX Tryz.func85 (c := bodyOf Tryz.f85) (by kernel_rfl) mixed (fun args p q n g hs hp => by
 unfold p_normal_s at hs
 split at hs
 · cases hs; exact ⟨_, _, p_normal_vc _ hp.2, (.p (.sl hp.1) .nil), ⟨show SpecsL Tryz.prog _ from (SpecsL.cons s_cloneP_ok s_cloneP_en (SpecsL.cons p_area_ok p_area_en (SpecsL.cons s_minP_ok s_minP_en (SpecsL.cons s_idxPt_ok s_idxPt_en (SpecsL.cons s_concat_ok s_concat_en (SpecsL.cons p_compare_ok p_compare_en SpecsL.nil)))))), rfl, ⟨show ItersL Tryz.prog _ from ItersL.nil, (show TrsL Tryz.prog _ from (TrsL.cons s_revP_tok s_revP_en TrsL.nil))⟩⟩⟩
 · cases hs)
theorem p_normal_en : Enters Tryz.prog 85 := fun args w => by kernel_rfl
def r1_SamePoints_p (a : (L.Sq L.Pt)) (b : (L.Sq L.Pt)) : Prop := a.n <= 1000000
def r1_SamePoints_r (a : (L.Sq L.Pt)) (b : (L.Sq L.Pt)) : SV := .bool (L.sameP a b)
def r1_SamePoints_s : List EV -> Option (Prop × SV)
 | [.p (.sl 2 a_n a_g), .p (.sl 2 b_n b_g)] => some ((∀ i, i < a_n -> a_g i = [.int .i64 ((ofPt (a_g i)).x), .int .i64 ((ofPt (a_g i)).y)]) /\ (∀ i, i < b_n -> b_g i = [.int .i64 ((ofPt (b_g i)).x), .int .i64 ((ofPt (b_g i)).y)]) /\ r1_SamePoints_p (⟨a_n, fun i => ofPt (a_g i)⟩ : (L.Sq L.Pt)) (⟨b_n, fun i => ofPt (b_g i)⟩ : (L.Sq L.Pt)), r1_SamePoints_r (⟨a_n, fun i => ofPt (a_g i)⟩ : (L.Sq L.Pt)) (⟨b_n, fun i => ofPt (b_g i)⟩ : (L.Sq L.Pt)))
 | _ => none
abbrev r1_SamePoints_S : SE.Spec := (specO r1_SamePoints_s)
def r1_SamePoints_C : Cfg := { muts := [], frz := lookN [], specs := lookS [], loops := fun _ => none, iters := lookI [], rfs := lookR [], nils := lookM [] }
theorem r1_SamePoints_vc (a : (L.Sq L.Pt)) (b : (L.Sq L.Pt)) (hp : r1_SamePoints_p a b) : vc Tryz.prog ({ r1_SamePoints_C with loops := lookL [(4, { T := Nat, keep := [0, 1], keepO := [], chg := fun i => [(5, .p (.int .i64 (i:Int)))], own := fun _ => [], inv := fun i => i <= a.n /\ ∀ j, j < i -> L.same (a.g j) (b.g j) = true, mu := fun i => a.n - i })], rfs := lookR [] }) (bodyOf Tryz.f8) (st0 Tryz.f8 [.p (.sl 2 a.n (fun i => [.int .i64 ((a.g i).x), .int .i64 ((a.g i).y)])), .p (.sl 2 b.n (fun i => [.int .i64 ((b.g i).x), .int .i64 ((b.g i).y)]))]) (retFn Tryz.prog Tryz.f8 (r1_SamePoints_r a b)) :=
 @Eq.mpr _ (let I := SV.int .i64; let T := Int.toNat; let A4 := (↑a.n:Int); let A3 := (!decide (A4 = (↑b.n:Int))); (A3 = true -> false = L.sameP a b) /\ (A3 = false -> (∃ (g:Nat), (0:Int) = (↑g:Int) /\ g <= a.n /\ ∀ (j:Nat), j < g -> L.same (a.g j) (b.g j) = true) /\ ∀ (g:Nat), let A2 := (↑g:Int); let A1 := (!(decide ((a.g (T A2)).x = (b.g (T A2)).x) && decide ((a.g (T A2)).y = (b.g (T A2)).y))); (g <= a.n /\ ∀ (j:Nat), j < g -> L.same (a.g j) (b.g j) = true) -> (decide (A2 < A4) = true -> ((0:Int) <= A2 /\ A2 < A4) /\ ((0:Int) <= A2 /\ A2 < (↑b.n:Int)) /\ (A1 = true -> false = L.sameP a b) /\ (A1 = false -> InK .i64 (A2 + (1:Int)) /\ ∃ (g':Nat), A2 + (1:Int) = (↑g':Int) /\ (a.n = a.n /\ ∀ (i:Nat), let A5 := [I (a.g i).x, I (a.g i).y]; i < a.n -> A5 = A5) /\ (b.n = b.n /\ ∀ (i:Nat), let A6 := [I (b.g i).x, I (b.g i).y]; i < b.n -> A6 = A6) /\ (g' <= a.n /\ ∀ (j:Nat), j < g' -> L.same (a.g j) (b.g j) = true) /\ a.n - g' < a.n - g)) /\ (decide (A2 < A4) = false -> true = L.sameP a b))) (by kernel_rfl) (by
 conv => zeta
 have ha : a.n <= 1000000 := hp
 refine ⟨fun h => ?_, fun h => ?_⟩
 · unfold L.sameP; rw [notT h]; rfl
 have hd := notF h
 have hn := of_decide_eq_true hd
 refine ⟨⟨(0:Nat), rfl, Nat.zero_le _, fun j hj => absurd hj (Nat.not_lt_zero _)⟩, fun g hg => ⟨fun hlt => ?_, fun hge => ?_⟩⟩
 · have hb : (g:Int) < (a.n:Int) := of_decide_eq_true hlt
   have e0 : ((g:Int)).toNat = g := by omega
   rw [e0]
   refine ⟨by omega, by omega, fun h1 => ?_, fun h1 => ?_⟩
   · have h1 : L.same (a.g g) (b.g g) = false := notT h1
     unfold L.sameP; rw [hd, allB_false (i := g) (by omega) h1]; rfl
   · have h1 : L.same (a.g g) (b.g g) = true := notF h1
     exact ⟨iK, g + 1, by omega, ⟨rfl, fun _ _ => rfl⟩, ⟨rfl, fun _ _ => rfl⟩, ⟨by omega, fun j hj => by
       rcases Nat.lt_succ_iff_lt_or_eq.1 hj with h' | rfl
       · exact hg.2 j h'
       · exact h1⟩, by omega⟩
 · have hb : ¬ (g:Int) < (a.n:Int) := of_decide_eq_false hge
   unfold L.sameP; rw [hd, allB_iff.2 (fun i hi => hg.2 i (by omega))]; rfl)
theorem r1_SamePoints_ok : SpecOk Tryz.prog 8 r1_SamePoints_S := fnX Tryz.func8 (c := bodyOf Tryz.f8) (by kernel_rfl) mixed (fun args p r hs hp => by
 unfold r1_SamePoints_s at hs
 split at hs
 · cases hs; exact ⟨_, _, r1_SamePoints_vc _ _ hp.2.2, (.p (.sl hp.1) (.p (.sl hp.2.1) .nil)), ⟨show SpecsL Tryz.prog _ from SpecsL.nil, rfl, ⟨show ItersL Tryz.prog _ from ItersL.nil, (TrsOk.none (fun _ => rfl))⟩⟩⟩
 · cases hs)
theorem r1_SamePoints_en : Enters Tryz.prog 8 := fun args w => by kernel_rfl
def r1_placed_p (l : (L.Sq L.Pt)) : Prop := 1 <= l.n /\ l.n <= 1000000
def r1_placed_q (l : (L.Sq L.Pt)) : Nat -> Prop := fun _ => True
def r1_placed_n (l : (L.Sq L.Pt)) : Nat -> Nat := fun _ => l.n
def r1_placed_g (l : (L.Sq L.Pt)) : Nat -> Nat -> List SV := fun _ k => [.int .i64 ((L.plc l k).x), .int .i64 ((L.plc l k).y)]
def r1_placed_s : List EV -> Option (Prop × (Nat -> Prop) × (Nat -> Nat) × (Nat -> Nat -> List SV))
 | [.p (.sl 2 l_n l_g)] => some ((∀ i, i < l_n -> l_g i = [.int .i64 ((ofPt (l_g i)).x), .int .i64 ((ofPt (l_g i)).y)]) /\ r1_placed_p (⟨l_n, fun i => ofPt (l_g i)⟩ : (L.Sq L.Pt)), r1_placed_q (⟨l_n, fun i => ofPt (l_g i)⟩ : (L.Sq L.Pt)), r1_placed_n (⟨l_n, fun i => ofPt (l_g i)⟩ : (L.Sq L.Pt)), r1_placed_g (⟨l_n, fun i => ofPt (l_g i)⟩ : (L.Sq L.Pt)))
 | _ => none
abbrev r1_placed_S : SE.Spec := (specF Nat 0 45 2 r1_placed_s)
def r1_placed_C : Cfg := { cC with specs := lookS [(81, r1_less_S)], nils := lookM [(8, [(5, 26, 45, 2)])] }
theorem r1_placed_vc (l : (L.Sq L.Pt)) (hp : r1_placed_p l) : vc Tryz.prog ({ r1_placed_C with loops := lookL [(3, { T := Nat, keep := [0], keepO := [], chg := fun i => [(3, .p (.int .i64 ((L.argTo l i:Nat):Int))), (4, .p (.int .i64 (i:Int)))], own := fun _ => [], inv := fun i => i <= l.n, mu := fun i => l.n - i })], rfs := lookR [] }) (bodyOf Tryz.f73) (st0 Tryz.f73 [.p (.sl 2 l.n (fun i => [.int .i64 ((l.g i).x), .int .i64 ((l.g i).y)]))]) (retFresh Tryz.prog Tryz.f73 (Nat) (r1_placed_q l) 45 2 (r1_placed_n l) (r1_placed_g l)) :=
 @Eq.mpr _ (let I := SV.int .i64; let T := Int.toNat; let A9 := (1:Int); let A8 := (140737488355328:Nat); let A4 := (0:Int); let A3 := (l.n = l.n /\ ∀ (i:Nat), let A7 := [I (l.g i).x, I (l.g i).y]; i < l.n -> A7 = A7); let A2 := (↑l.n:Int); (∃ (g:Nat), A4 = (↑(L.argTo l g):Int) /\ A4 = (↑g:Int) /\ g <= l.n) /\ ∀ (g:Nat), let A5 := (↑g:Int); let A1 := (↑(L.argTo l g):Int); let A6 := (A2 - A1); g <= l.n -> (decide (A5 < A2) = true -> (A4 <= A5 /\ A5 < A2) /\ (A4 <= A1 /\ A1 < A2) /\ True /\ (decide (L.cmpPt (l.g (T A5)) (l.g (T A1)) < A4) = true -> InK .i64 (A5 + A9) /\ ∃ (g':Nat), A5 = (↑(L.argTo l g'):Int) /\ A5 + A9 = (↑g':Int) /\ A3 /\ g' <= l.n /\ l.n - g' < l.n - g) /\ (decide (L.cmpPt (l.g (T A5)) (l.g (T A1)) < A4) = false -> InK .i64 (A5 + A9) /\ ∃ (g':Nat), A1 = (↑(L.argTo l g'):Int) /\ A5 + A9 = (↑g':Int) /\ A3 /\ g' <= l.n /\ l.n - g' < l.n - g)) /\ (decide (A5 < A2) = false -> (A4 <= A1 /\ A1 <= A2 /\ A2 <= A2) /\ (nat_lit 0 + T A6) * nat_lit 16 <= A8 /\ (A4 <= A4 /\ A4 <= A1 /\ A1 <= A2) /\ (nat_lit 0 + T A6 + T (A1 - A4)) * nat_lit 16 <= A8 /\ ∃ (t:Nat), (nat_lit 0 + T A6 + T (A1 - A4) = l.n /\ ∀ (i:Nat), i < nat_lit 0 + T A6 + T (A1 - A4) -> appGet (nat_lit 0 + T A6) (appGet (nat_lit 0) (fun (x:Nat) => []) fun (i:Nat) => [I (l.g (T A1 + i)).x, I (l.g (T A1 + i)).y]) (fun (i:Nat) => [I (l.g (T A4 + i)).x, I (l.g (T A4 + i)).y]) i = [I (L.plc l i).x, I (L.plc l i).y]) /\ True)) (by kernel_rfl) (by
 conv => zeta
 obtain ⟨h1, hn⟩ := hp
 refine ⟨⟨(0:Nat), rfl, rfl, Nat.zero_le _⟩, fun g hg => ⟨fun hlt => ?_, fun hge => ?_⟩⟩
 · have hb : (g:Int) < (l.n:Int) := of_decide_eq_true hlt
   have e0 : ((g:Int)).toNat = g := Int.toNat_natCast g
   have ha := argTo_lt h1 g hg
   have e1 : ((L.argTo l g:Int)).toNat = L.argTo l g := Int.toNat_natCast _
   rw [e0, e1]
   have hs : L.argTo l (g + 1) = bif decide (L.cmpPt (l.g g) (l.g (L.argTo l g)) < 0) then g else L.argTo l g := rfl
   refine ⟨⟨by omega, hb⟩, ⟨by omega, by omega⟩, trivial, fun h => ?_, fun h => ?_⟩
   · rw [h] at hs
     exact ⟨iK, g + 1, by rw [hs]; rfl, by omega, ⟨rfl, fun _ _ => rfl⟩, by omega, by omega⟩
   · rw [h] at hs
     exact ⟨iK, g + 1, by rw [hs]; rfl, by omega, ⟨rfl, fun _ _ => rfl⟩, by omega, by omega⟩
 · have hb : ¬ (g:Int) < (l.n:Int) := of_decide_eq_false hge
   obtain rfl : g = l.n := by omega
   have ha := argTo_lt h1 l.n (Nat.le_refl _)
   have e1 : ((L.argTo l l.n:Int)).toNat = L.argTo l l.n := Int.toNat_natCast _
   refine ⟨⟨by omega, by omega, Int.le_refl _⟩, show (0 + ((l.n:Int) - (L.argTo l l.n:Int)).toNat) * 16 <= 140737488355328 by omega, ⟨Int.le_refl _, by omega, by omega⟩, show (0 + ((l.n:Int) - (L.argTo l l.n:Int)).toNat + ((L.argTo l l.n:Int) - 0).toNat) * 16 <= 140737488355328 by omega, (0:Nat), ⟨show 0 + ((l.n:Int) - (L.argTo l l.n:Int)).toNat + ((L.argTo l l.n:Int) - 0).toNat = l.n by omega, fun i _ => ?_⟩, trivial⟩
   have e2 : 0 + ((l.n:Int) - (L.argTo l l.n:Int)).toNat = l.n - L.argTo l l.n := by omega
   rw [e1, e2]
   unfold appGet
   have w : L.plc l i = bif decide (i < l.n - L.argTo l l.n) then l.g (L.argTo l l.n + i) else l.g (i - (l.n - L.argTo l l.n)) := rfl
   by_cases h : i < l.n - L.argTo l l.n
   · rw [if_pos h, w, decide_eq_true h, if_neg (Nat.not_lt_zero _)]; rfl
   · rw [if_neg h, w, decide_eq_false h]
     show [SV.int .i64 (l.g (0 + (i - (l.n - L.argTo l l.n)))).x, SV.int .i64 (l.g (0 + (i - (l.n - L.argTo l l.n)))).y] = _
     rw [Nat.zero_add]; rfl)
theorem r1_placed_ok : SpecOk Tryz.prog 73 r1_placed_S := freshX Tryz.func73 (c := bodyOf Tryz.f73) (by kernel_rfl) mixed (fun args p q n g hs hp => by
 unfold r1_placed_s at hs
 split at hs
 · cases hs; exact ⟨_, _, r1_placed_vc _ hp.2, (.p (.sl hp.1) .nil), ⟨show SpecsL Tryz.prog _ from (SpecsL.cons r1_less_ok r1_less_en SpecsL.nil), rfl, ⟨show ItersL Tryz.prog _ from ItersL.nil, (TrsOk.none (fun _ => rfl))⟩⟩⟩
 · cases hs)
theorem r1_placed_en : Enters Tryz.prog 73 := fun args w => by kernel_rfl
def p_flat1_p (p : L.Pt) (l : (L.Sq L.Pt)) : Prop := 1 <= l.n
def p_flat1_r (p : L.Pt) (l : (L.Sq L.Pt)) : SV := .bool (!L.same p (l.g 0))
def p_flat1_s : List EV -> Option (Prop × SV)
 | [.p (.agg [.int .i64 p_x, .int .i64 p_y]), .p (.ref [.sl 2 l_n l_g] 0)] => some ((∀ i, i < l_n -> l_g i = [.int .i64 ((ofPt (l_g i)).x), .int .i64 ((ofPt (l_g i)).y)]) /\ p_flat1_p (⟨p_x, p_y⟩ : L.Pt) (⟨l_n, fun i => ofPt (l_g i)⟩ : (L.Sq L.Pt)), p_flat1_r (⟨p_x, p_y⟩ : L.Pt) (⟨l_n, fun i => ofPt (l_g i)⟩ : (L.Sq L.Pt)))
 | _ => none
abbrev p_flat1_S : SE.Spec := (specO p_flat1_s)
def p_flat1_C : Cfg := { muts := [], frz := lookN [], specs := lookS [], loops := lookL [], iters := lookI [], rfs := lookR [], nils := lookM [] }
theorem p_flat1_vc (p : L.Pt) (l : (L.Sq L.Pt)) (hp : p_flat1_p p l) : vc Tryz.prog (p_flat1_C) (bodyOf Tryz.f64) (st0 Tryz.f64 [.p (.agg [.int .i64 p.x, .int .i64 p.y]), .p (.ref [.sl 2 l.n (fun i => [.int .i64 ((l.g i).x), .int .i64 ((l.g i).y)])] 0)]) (retFn Tryz.prog Tryz.f64 (p_flat1_r p l)) :=
 @Eq.mpr _ (let A1 := (0:Int); (A1 <= A1 /\ A1 < (↑l.n:Int)) /\ (!(decide (p.x = (l.g (Int.toNat A1)).x) && decide (p.y = (l.g (Int.toNat A1)).y))) = !L.same p (l.g (0:Nat))) (by kernel_rfl) (by
 conv => zeta
 exact ⟨⟨Int.le_refl _, by have : 1 <= l.n := hp; omega⟩, rfl⟩)
theorem p_flat1_ok : SpecOk Tryz.prog 64 p_flat1_S := fnX Tryz.func64 (c := bodyOf Tryz.f64) (by kernel_rfl) mixed (fun args p r hs hp => by
 unfold p_flat1_s at hs
 split at hs
 · cases hs; exact ⟨_, _, p_flat1_vc _ _ hp.2, (.same _ (.p (Ext.ref rfl (fun i hi => by
     rcases i with _ | i
     · show Ext (SV.sl _ _ _) (SV.sl _ _ _); exact (Ext.sl hp.1)
     exact absurd hi (by simp; try omega))) .nil)), ⟨show SpecsL Tryz.prog _ from SpecsL.nil, rfl, ⟨show ItersL Tryz.prog _ from ItersL.nil, (TrsOk.none (fun _ => rfl))⟩⟩⟩
 · cases hs)
theorem p_flat1_en : Enters Tryz.prog 64 := fun args w => by kernel_rfl
theorem p_flat1_B : ∀ args p r, p_flat1_s args = some (p, r) -> ∃ b, r = .bool b := by
 intro args p r h
 unfold p_flat1_s at h
 split at h
 · cases h; exact ⟨_, rfl⟩
 · cases h
def p_flat2_p (p : L.Pt) (l : (L.Sq L.Pt)) (far:Int) : Prop := (0 <= far /\ far < l.n) /\ L.bd p /\ ∀ k, k < l.n -> L.bd (l.g k)
def p_flat2_r (p : L.Pt) (l : (L.Sq L.Pt)) (far:Int) : SV := .bool (!decide (L.cross (l.g 0) (l.g far.toNat) p = 0))
def p_flat2_s : List EV -> Option (Prop × SV)
 | [.p (.agg [.int .i64 p_x, .int .i64 p_y]), .p (.ref [.sl 2 l_n l_g] 0), .p (.ref [.int .i64 far] 0)] => some ((∀ i, i < l_n -> l_g i = [.int .i64 ((ofPt (l_g i)).x), .int .i64 ((ofPt (l_g i)).y)]) /\ p_flat2_p (⟨p_x, p_y⟩ : L.Pt) (⟨l_n, fun i => ofPt (l_g i)⟩ : (L.Sq L.Pt)) far, p_flat2_r (⟨p_x, p_y⟩ : L.Pt) (⟨l_n, fun i => ofPt (l_g i)⟩ : (L.Sq L.Pt)) far)
 | _ => none
abbrev p_flat2_S : SE.Spec := (specO p_flat2_s)
def p_flat2_C : Cfg := { cC with specs := lookS [(54, p_cross_S)] }
theorem p_flat2_vc (p : L.Pt) (l : (L.Sq L.Pt)) (far:Int) (hp : p_flat2_p p l far) : vc Tryz.prog (p_flat2_C) (bodyOf Tryz.f65) (st0 Tryz.f65 [.p (.agg [.int .i64 p.x, .int .i64 p.y]), .p (.ref [.sl 2 l.n (fun i => [.int .i64 ((l.g i).x), .int .i64 ((l.g i).y)])] 0), .p (.ref [.int .i64 far] 0)]) (retFn Tryz.prog Tryz.f65 (p_flat2_r p l far)) :=
 @Eq.mpr _ (let T := Int.toNat; let A2 := (l.g (T far)); let A1 := (0:Int); (A1 <= A1 /\ A1 < (↑l.n:Int)) /\ (A1 <= far /\ far < (↑l.n:Int)) /\ (L.bd (l.g (T A1)) /\ L.bd A2 /\ L.bd p) /\ (!decide (L.cross (l.g (T A1)) A2 p = A1)) = !decide (L.cross (l.g (0:Nat)) A2 p = A1)) (by kernel_rfl) (by
 conv => zeta
 obtain ⟨⟨h1, h2⟩, hb, hl⟩ := hp
 exact ⟨⟨Int.le_refl _, by omega⟩, ⟨h1, h2⟩, ⟨hl 0 (by omega), hl far.toNat (by omega), hb⟩, rfl⟩)
theorem p_flat2_ok : SpecOk Tryz.prog 65 p_flat2_S := fnX Tryz.func65 (c := bodyOf Tryz.f65) (by kernel_rfl) mixed (fun args p r hs hp => by
 unfold p_flat2_s at hs
 split at hs
 · cases hs; exact ⟨_, _, p_flat2_vc _ _ _ hp.2, (.same _ (.p (Ext.ref rfl (fun i hi => by
     rcases i with _ | i
     · show Ext (SV.sl _ _ _) (SV.sl _ _ _); exact (Ext.sl hp.1)
     exact absurd hi (by simp; try omega))) (.same _ .nil))), ⟨show SpecsL Tryz.prog _ from (SpecsL.cons p_cross_ok p_cross_en SpecsL.nil), rfl, ⟨show ItersL Tryz.prog _ from ItersL.nil, (TrsOk.none (fun _ => rfl))⟩⟩⟩
 · cases hs)
theorem p_flat2_en : Enters Tryz.prog 65 := fun args w => by kernel_rfl
theorem p_flat2_B : ∀ args p r, p_flat2_s args = some (p, r) -> ∃ b, r = .bool b := by
 intro args p r h
 unfold p_flat2_s at h
 split at h
 · cases h; exact ⟨_, rfl⟩
 · cases h
def p_flat_p (l : (L.Sq L.Pt)) : Prop := 1 <= l.n /\ l.n <= 1000000 /\ ∀ k, k < l.n -> L.bd (l.g k)
def p_flat_r (l : (L.Sq L.Pt)) : SV := .bool (L.flat l)
def p_flat_s : List EV -> Option (Prop × SV)
 | [.p (.sl 2 l_n l_g)] => some ((∀ i, i < l_n -> l_g i = [.int .i64 ((ofPt (l_g i)).x), .int .i64 ((ofPt (l_g i)).y)]) /\ p_flat_p (⟨l_n, fun i => ofPt (l_g i)⟩ : (L.Sq L.Pt)), p_flat_r (⟨l_n, fun i => ofPt (l_g i)⟩ : (L.Sq L.Pt)))
 | _ => none
abbrev p_flat_S : SE.Spec := (specO p_flat_s)
def p_flat_C : Cfg := { cC with frz := lookN [(2, [3])], specs := lookS [(63, s_idxFP_S), (57, s_conFP_S), (64, p_flat1_S), (65, p_flat2_S)] }
theorem p_flat_vc (l : (L.Sq L.Pt)) (hp : p_flat_p l) : vc Tryz.prog (p_flat_C) (bodyOf Tryz.f23) (st0 Tryz.f23 [.p (.sl 2 l.n (fun i => [.int .i64 ((l.g i).x), .int .i64 ((l.g i).y)]))]) (retFn Tryz.prog Tryz.f23 (p_flat_r l)) :=
 @Eq.mpr _ (let I := SV.int .i64; let A18 := (∀ (i:Nat), let A20 := [I (l.g i).x, I (l.g i).y]; i < l.n -> A20 = A20); let A9 := (L.Sq.mk l.n fun (i:Nat) => ofPt ((fun (i:Nat) => [I (l.g i).x, I (l.g i).y]) i)); let A4 := (nat_lit 2); let A3 := (nat_lit 0); let A2 := [SV.sl A4 l.n fun (i:Nat) => [I (l.g i).x, I (l.g i).y]]; let A1 := (L.idx l.n fun (i:Nat) => let A11 := [SV.ref [SV.sl A4 l.n fun (i:Nat) => [I (l.g i).x, I (l.g i).y]] A3]; L.fbl (FSpec.mk (fun («as» : List SV) => preO p_flat1_s (List.map EV.p «as» ++ List.map EV.p A11)) fun («as» : List SV) => resO p_flat1_s (List.map EV.p «as» ++ List.map EV.p A11)) [SV.agg [I (l.g i).x, I (l.g i).y]]); (A18 /\ isB (FSpec.mk (fun («as» : List SV) => preO p_flat1_s (List.map EV.p «as» ++ List.map EV.p [SV.ref A2 A3])) fun («as» : List SV) => resO p_flat1_s (List.map EV.p «as» ++ List.map EV.p [SV.ref A2 A3])) /\ l.n <= (1000000:Nat) /\ ∀ (i:Nat), i < l.n -> (∀ (i:Nat), let A21 := [I (l.g i).x, I (l.g i).y]; i < l.n -> A21 = A21) /\ (1:Nat) <= l.n) /\ ((!decide (A1 < (0:Int))) = true -> A18 /\ isB (FSpec.mk (fun («as» : List SV) => preO p_flat2_s (List.map EV.p «as» ++ List.map EV.p [SV.ref A2 A3, SV.ref [I (L.idx A9.n fun (i:Nat) => let A12 := [SV.ref [SV.sl A4 l.n fun (i:Nat) => [I (l.g i).x, I (l.g i).y]] A3]; let A5 := ((L.Sq.mk l.n fun (i:Nat) => ofPt ((fun (i : Nat) => [I (l.g i).x, I (l.g i).y]) i)).g i); L.fbl (FSpec.mk (fun («as» : List SV) => preO p_flat1_s (List.map EV.p «as» ++ List.map EV.p A12)) fun («as» : List SV) => resO p_flat1_s (List.map EV.p «as» ++ List.map EV.p A12)) [SV.agg [I A5.x, I A5.y]])] A3])) fun («as» : List SV) => resO p_flat2_s (List.map EV.p «as» ++ List.map EV.p [SV.ref A2 A3, SV.ref [I (L.idx A9.n fun (i:Nat) => let A13 := [SV.ref [SV.sl A4 l.n fun (i:Nat) => [I (l.g i).x, I (l.g i).y]] A3]; let A6 := ((L.Sq.mk l.n fun (i:Nat) => ofPt ((fun (i:Nat) => [I (l.g i).x, I (l.g i).y]) i)).g i); L.fbl (FSpec.mk (fun («as» : List SV) => preO p_flat1_s (List.map EV.p «as» ++ List.map EV.p A13)) fun («as» : List SV) => resO p_flat1_s (List.map EV.p «as» ++ List.map EV.p A13)) [SV.agg [I A6.x, I A6.y]])] A3])) /\ l.n <= (1000000:Nat) /\ ∀ (i:Nat), i < l.n -> (∀ (i:Nat), let A22 := [I (l.g i).x, I (l.g i).y]; i < l.n -> A22 = A22) /\ (((0:Int) <= L.idx l.n fun (i:Nat) => let A14 := [SV.ref [SV.sl A4 l.n fun (i:Nat) => [I (l.g i).x, I (l.g i).y]] A3]; L.fbl (FSpec.mk (fun («as» : List SV) => preO p_flat1_s (List.map EV.p «as» ++ List.map EV.p A14)) fun («as» : List SV) => resO p_flat1_s (List.map EV.p «as» ++ List.map EV.p A14)) [SV.agg [I (l.g i).x, I (l.g i).y]]) /\ (L.idx l.n fun (i:Nat) => let A15 := [SV.ref [SV.sl A4 l.n fun (i:Nat) => [I (l.g i).x, I (l.g i).y]] A3]; L.fbl (FSpec.mk (fun («as» : List SV) => preO p_flat1_s (List.map EV.p «as» ++ List.map EV.p A15)) fun («as» : List SV) => resO p_flat1_s (List.map EV.p «as» ++ List.map EV.p A15)) [SV.agg [I (l.g i).x, I (l.g i).y]]) < (↑l.n:Int)) /\ L.bd (l.g i) /\ ∀ (k:Nat), k < l.n -> L.bd (l.g k)) /\ (bif decide (A1 < (0:Int)) then true else !L.anyB l.n fun (i:Nat) => let A19 := [SV.sl A4 l.n fun (i:Nat) => [I (l.g i).x, I (l.g i).y]]; let A10 := (L.Sq.mk l.n fun (i:Nat) => ofPt ((fun (i:Nat) => [I (l.g i).x, I (l.g i).y]) i)); L.fbl (FSpec.mk (fun («as» : List SV) => preO p_flat2_s (List.map EV.p «as» ++ List.map EV.p [SV.ref A19 A3, SV.ref [I (L.idx A10.n fun (i:Nat) => let A16 := [SV.ref [SV.sl A4 l.n fun (i:Nat) => [I (l.g i).x, I (l.g i).y]] A3]; let A7 := ((L.Sq.mk l.n fun (i:Nat) => ofPt ((fun (i:Nat) => [I (l.g i).x, I (l.g i).y]) i)).g i); L.fbl (FSpec.mk (fun («as» : List SV) => preO p_flat1_s (List.map EV.p «as» ++ List.map EV.p A16)) fun («as» : List SV) => resO p_flat1_s (List.map EV.p «as» ++ List.map EV.p A16)) [SV.agg [I A7.x, I A7.y]])] A3])) fun («as» : List SV) => resO p_flat2_s (List.map EV.p «as» ++ List.map EV.p [SV.ref A19 A3, SV.ref [I (L.idx A10.n fun (i:Nat) => let A17 := [SV.ref [SV.sl A4 l.n fun (i:Nat) => [I (l.g i).x, I (l.g i).y]] A3]; let A8 := ((L.Sq.mk l.n fun (i:Nat) => ofPt ((fun (i:Nat) => [I (l.g i).x, I (l.g i).y]) i)).g i); L.fbl (FSpec.mk (fun («as» : List SV) => preO p_flat1_s (List.map EV.p «as» ++ List.map EV.p A17)) fun («as» : List SV) => resO p_flat1_s (List.map EV.p «as» ++ List.map EV.p A17)) [SV.agg [I A8.x, I A8.y]])] A3])) [SV.agg [I (l.g i).x, I (l.g i).y]]) = L.flat l) (by kernel_rfl) (by
 conv => zeta
 obtain ⟨h1, hn, hb⟩ := hp
 refine ⟨⟨fun _ _ => rfl, isB_of p_flat1_B _, hn, fun i hi => ⟨fun _ _ => rfl, h1⟩⟩, fun hf => ?_, rfl⟩
 have hf : (!decide (L.far l < 0)) = true := hf
 have hq := far_lt (of_decide_eq_false (notT hf))
 exact ⟨fun _ _ => rfl, isB_of p_flat2_B _, hn, fun i hi => ⟨fun _ _ => rfl, hq, hb i hi, hb⟩⟩)
theorem p_flat_ok : SpecOk Tryz.prog 23 p_flat_S := fnX Tryz.func23 (c := bodyOf Tryz.f23) (by kernel_rfl) mixed (fun args p r hs hp => by
 unfold p_flat_s at hs
 split at hs
 · cases hs; exact ⟨_, _, p_flat_vc _ hp.2, (.p (.sl hp.1) .nil), ⟨show SpecsL Tryz.prog _ from (SpecsL.cons s_idxFP_ok s_idxFP_en (SpecsL.cons s_conFP_ok s_conFP_en (SpecsL.cons p_flat1_ok p_flat1_en (SpecsL.cons p_flat2_ok p_flat2_en SpecsL.nil)))), rfl, ⟨show ItersL Tryz.prog _ from ItersL.nil, (TrsOk.none (fun _ => rfl))⟩⟩⟩
 · cases hs)
theorem p_flat_en : Enters Tryz.prog 23 := fun args w => by kernel_rfl
def r1_without_p (l : (L.Sq L.Pt)) (i:Int) : Prop := 0 <= i /\ i < l.n /\ l.n <= 1000000
def r1_without_r (l : (L.Sq L.Pt)) (i:Int) : SV := .sl 2 (l.n - 1) (fun k => [.int .i64 ((L.delF l.g i.toNat l.n k).x), .int .i64 ((L.delF l.g i.toNat l.n k).y)])
def r1_without_s : List EV -> Option (Prop × SV)
 | [.p (.sl 2 l_n l_g), .p (.int .i64 i)] => some ((∀ i, i < l_n -> l_g i = [.int .i64 ((ofPt (l_g i)).x), .int .i64 ((ofPt (l_g i)).y)]) /\ r1_without_p (⟨l_n, fun i => ofPt (l_g i)⟩ : (L.Sq L.Pt)) i, r1_without_r (⟨l_n, fun i => ofPt (l_g i)⟩ : (L.Sq L.Pt)) i)
 | _ => none
abbrev r1_without_S : SE.Spec := (specO r1_without_s)
def r1_without_C : Cfg := { cC with nils := lookM [(2, [(5, 10, 45, 2)])] }
theorem r1_without_vc (l : (L.Sq L.Pt)) (i:Int) (hp : r1_without_p l i) : vc Tryz.prog (r1_without_C) (bodyOf Tryz.f122) (st0 Tryz.f122 [.p (.sl 2 l.n (fun i => [.int .i64 ((l.g i).x), .int .i64 ((l.g i).y)])), .p (.int .i64 i)]) (retFn Tryz.prog Tryz.f122 (r1_without_r l i)) :=
 @Eq.mpr _ (let I := SV.int .i64; let T := Int.toNat; let A6 := (140737488355328:Nat); let A3 := (↑l.n:Int); let A2 := (i + (1:Int)); let A1 := (0:Int); let A5 := (nat_lit 0 + T (i - A1)); (A1 <= A1 /\ A1 <= i /\ i <= A3) /\ A5 * nat_lit 16 <= A6 /\ InK .i64 A2 /\ (A1 <= i + (1:Int) /\ i + (1:Int) <= A3 /\ A3 <= A3) /\ (nat_lit 0 + T (i - A1) + T (A3 - A2)) * nat_lit 16 <= A6 /\ nat_lit 0 + T (i - A1) + T (A3 - A2) = l.n - (1:Nat) /\ ∀ (i_1:Nat), let A4 := (L.delF l.g (T i) l.n i_1); i_1 < nat_lit 0 + T (i - A1) + T (A3 - A2) -> appGet A5 (appGet (nat_lit 0) (fun (x:Nat) => []) fun (i:Nat) => [I (l.g (T A1 + i)).x, I (l.g (T A1 + i)).y]) (fun (i_2:Nat) => [I (l.g (T A2 + i_2)).x, I (l.g (T A2 + i_2)).y]) i_1 = [I A4.x, I A4.y]) (by kernel_rfl) (by
 conv => zeta
 obtain ⟨h0, h1, hn⟩ := hp
 obtain ⟨k, rfl⟩ : ∃ k : Nat, i = (k:Int) := ⟨i.toNat, by omega⟩
 have e1 : ((k:Int) - 0).toNat = k := by omega
 have e2 : ((l.n:Int) - ((k:Int) + 1)).toNat = l.n - k - 1 := by omega
 have e3 : ((k:Int) + 1).toNat = k + 1 := by omega
 refine ⟨⟨Int.le_refl _, h0, by omega⟩, show (0 + ((k:Int) - 0).toNat) * 16 <= 140737488355328 by rw [e1]; omega, iK, ⟨by omega, by omega, Int.le_refl _⟩, show (0 + ((k:Int) - 0).toNat + ((l.n:Int) - ((k:Int) + 1)).toNat) * 16 <= 140737488355328 by rw [e1, e2]; omega, show 0 + ((k:Int) - 0).toNat + ((l.n:Int) - ((k:Int) + 1)).toNat = l.n - 1 by rw [e1, e2]; omega, fun j hj => ?_⟩
 have hj : j < 0 + ((k:Int) - 0).toNat + ((l.n:Int) - ((k:Int) + 1)).toNat := hj
 rw [e1, e2] at hj
 rw [e1, e3]
 unfold appGet
 rw [Nat.zero_add]
 have d : L.delF l.g ((k:Int)).toNat l.n j = bif decide (j < k) then l.g j else l.g (j + 1) := by
   rw [Int.toNat_natCast]
   unfold L.delF
   rw [decide_eq_true (show j + 1 < l.n by omega)]
   rfl
 rw [d]
 by_cases h : j < k
 · rw [if_pos h, decide_eq_true h, if_neg (Nat.not_lt_zero j)]
   show [SV.int _ (l.g (0 + (j - 0))).x, SV.int _ (l.g (0 + (j - 0))).y] = _
   rw [Nat.zero_add, Nat.sub_zero]; rfl
 · rw [if_neg h, decide_eq_false h]
   show [SV.int _ (l.g (k + 1 + (j - k))).x, SV.int _ (l.g (k + 1 + (j - k))).y] = [SV.int _ (l.g (j + 1)).x, SV.int _ (l.g (j + 1)).y]
   rw [show k + 1 + (j - k) = j + 1 by omega])
theorem r1_without_ok : SpecOk Tryz.prog 122 r1_without_S := fnX Tryz.func122 (c := bodyOf Tryz.f122) (by kernel_rfl) mixed (fun args p r hs hp => by
 unfold r1_without_s at hs
 split at hs
 · cases hs; exact ⟨_, _, r1_without_vc _ _ hp.2, (.p (.sl hp.1) (.same _ .nil)), ⟨show SpecsL Tryz.prog _ from SpecsL.nil, rfl, ⟨show ItersL Tryz.prog _ from ItersL.nil, (TrsOk.none (fun _ => rfl))⟩⟩⟩
 · cases hs)
theorem r1_without_en : Enters Tryz.prog 122 := fun args w => by kernel_rfl
def r1_flat_p (l : (L.Sq L.Pt)) : Prop := l.n <= 1000000 /\ ∀ k, k < l.n -> L.bd (l.g k)
def r1_flat_r (l : (L.Sq L.Pt)) : SV := .bool (L.flat l)
def r1_flat_s : List EV -> Option (Prop × SV)
 | [.p (.sl 2 l_n l_g)] => some ((∀ i, i < l_n -> l_g i = [.int .i64 ((ofPt (l_g i)).x), .int .i64 ((ofPt (l_g i)).y)]) /\ r1_flat_p (⟨l_n, fun i => ofPt (l_g i)⟩ : (L.Sq L.Pt)), r1_flat_r (⟨l_n, fun i => ofPt (l_g i)⟩ : (L.Sq L.Pt)))
 | _ => none
abbrev r1_flat_S : SE.Spec := (specO r1_flat_s)
def r1_flat_C : Cfg := { cC with specs := lookS [(18, r1_Cross_S)] }
theorem r1_flat_vc (l : (L.Sq L.Pt)) (hp : r1_flat_p l) : vc Tryz.prog ({ r1_flat_C with loops := lookL [(2, { T := Nat, keep := [0], keepO := [], chg := fun i => [(3, .p (.int .i64 (i:Int)))], own := fun _ => [], inv := fun i => i <= l.n /\ (1 <= i -> ∀ j, j < l.n -> l.g j = l.g 0), mu := fun i => l.n - i }), (5, { T := Nat × Nat, keep := [0, 3], keepO := [], tie := fun g => [(3, .int .i64 (g.1:Int))], chg := fun g => [(4, .p (.int .i64 (g.2:Int)))], own := fun _ => [], inv := fun g => g.1 < g.2 /\ g.2 <= l.n /\ (1 <= g.1 -> ∀ j, j < l.n -> l.g j = l.g 0) /\ ∀ j, g.1 <= j -> j < g.2 -> l.g j = l.g g.1, mu := fun g => l.n - g.2 }), (9, { T := Nat × Nat × Nat, keep := [0, 3, 4], keepO := [], tie := fun g => [(3, .int .i64 (g.1:Int)), (4, .int .i64 (g.2.1:Int))], chg := fun g => [(5, .p (.int .i64 (g.2.2:Int)))], own := fun _ => [], inv := fun g => g.1 = 0 /\ (0 < g.2.1 /\ g.2.1 < l.n) /\ L.far l = (g.2.1:Int) /\ g.2.2 <= l.n /\ ∀ j, j < g.2.2 -> L.cross (l.g 0) (l.g g.2.1) (l.g j) = 0, mu := fun g => l.n - g.2.2 })], rfs := lookR [] }) (bodyOf Tryz.f30) (st0 Tryz.f30 [.p (.sl 2 l.n (fun i => [.int .i64 ((l.g i).x), .int .i64 ((l.g i).y)]))]) (retFn Tryz.prog Tryz.f30 (r1_flat_r l)) :=
 @Eq.mpr _ (let I := SV.int .i64; let T := Int.toNat; let A11 := (1:Nat); let A10 := (1:Int); let A9 := (0:Int); let A7 := (0:Nat); let A6 := (↑l.n:Int); let A3 := (l.n = l.n /\ ∀ (i:Nat), let A14 := [I (l.g i).x, I (l.g i).y]; i < l.n -> A14 = A14); (∃ (g:Nat), A9 = (↑g:Int) /\ g <= l.n /\ (A11 <= g -> ∀ (j:Nat), j < l.n -> l.g j = l.g A7)) /\ ∀ (g:Nat), let A2 := (↑g:Int); let A12 := (l.g (T A2)); g <= l.n /\ (A11 <= g -> ∀ (j:Nat), j < l.n -> l.g j = l.g A7) -> (decide (A2 < A6) = true -> InK .i64 (A2 + A10) /\ (∃ (g_1 : Nat × Nat), A2 + A10 = (↑g_1.2:Int) /\ A2 = (↑g_1.1:Int) /\ g_1.1 < g_1.2 /\ g_1.2 <= l.n /\ (A11 <= g_1.1 -> ∀ (j:Nat), j < l.n -> l.g j = l.g A7) /\ ∀ (j:Nat), g_1.1 <= j -> j < g_1.2 -> l.g j = l.g g_1.1) /\ ∀ (g_1 : Nat × Nat), let A1 := (↑g_1.2:Int); let A13 := (l.g (T A1)); let A5 := (decide (A12.x = A13.x) && decide (A12.y = A13.y)); (A2 = (↑g_1.1:Int) /\ g_1.1 < g_1.2 /\ g_1.2 <= l.n /\ (A11 <= g_1.1 -> ∀ (j:Nat), j < l.n -> l.g j = l.g A7) /\ ∀ (j:Nat), g_1.1 <= j -> j < g_1.2 -> l.g j = l.g g_1.1) -> (decide (A1 < A6) = true -> (A9 <= A2 /\ A2 < A6) /\ (A9 <= A1 /\ A1 < A6) /\ (A5 = true -> InK .i64 (A1 + A10) /\ ∃ (g' : Nat × Nat), A1 + A10 = (↑g'.2:Int) /\ A2 = A2 /\ A3 /\ (A2 = (↑g'.1:Int) /\ g'.1 < g'.2 /\ g'.2 <= l.n /\ (A11 <= g'.1 -> ∀ (j:Nat), j < l.n -> l.g j = l.g A7) /\ ∀ (j:Nat), g'.1 <= j -> j < g'.2 -> l.g j = l.g g'.1) /\ l.n - g'.2 < l.n - g_1.2) /\ (A5 = false -> (∃ (g_2 : Nat × Nat × Nat), A9 = (↑g_2.2.2:Int) /\ A2 = (↑g_2.1:Int) /\ A1 = (↑g_2.2.1:Int) /\ g_2.1 = A7 /\ (A7 < g_2.2.1 /\ g_2.2.1 < l.n) /\ L.far l = (↑g_2.2.1:Int) /\ g_2.2.2 <= l.n /\ ∀ (j:Nat), j < g_2.2.2 -> L.cross (l.g A7) (l.g g_2.2.1) (l.g j) = A9) /\ ∀ (g_2 : Nat × Nat × Nat), let A4 := (↑g_2.2.2:Int); let A8 := (!decide (L.cross A12 A13 (l.g (T A4)) = A9)); (A2 = (↑g_2.1:Int) /\ A1 = (↑g_2.2.1:Int) /\ g_2.1 = A7 /\ (A7 < g_2.2.1 /\ g_2.2.1 < l.n) /\ L.far l = (↑g_2.2.1:Int) /\ g_2.2.2 <= l.n /\ ∀ (j:Nat), j < g_2.2.2 -> L.cross (l.g A7) (l.g g_2.2.1) (l.g j) = A9) -> (decide (A4 < A6) = true -> (A9 <= A2 /\ A2 < A6) /\ (A9 <= A1 /\ A1 < A6) /\ (A9 <= A4 /\ A4 < A6) /\ (L.bd A12 /\ L.bd A13 /\ L.bd (l.g (T A4))) /\ (A8 = true -> false = L.flat l) /\ (A8 = false -> InK .i64 (A4 + A10) /\ ∃ (g' : Nat × Nat × Nat), A4 + A10 = (↑g'.2.2:Int) /\ A1 = A1 /\ A2 = A2 /\ A3 /\ (A2 = (↑g'.1:Int) /\ A1 = (↑g'.2.1:Int) /\ g'.1 = A7 /\ (A7 < g'.2.1 /\ g'.2.1 < l.n) /\ L.far l = (↑g'.2.1:Int) /\ g'.2.2 <= l.n /\ ∀ (j:Nat), j < g'.2.2 -> L.cross (l.g A7) (l.g g'.2.1) (l.g j) = A9) /\ l.n - g'.2.2 < l.n - g_2.2.2)) /\ (decide (A4 < A6) = false -> true = L.flat l))) /\ (decide (A1 < A6) = false -> InK .i64 (A2 + A10) /\ ∃ (g':Nat), A2 + A10 = (↑g':Int) /\ A3 /\ (g' <= l.n /\ (A11 <= g' -> ∀ (j:Nat), j < l.n -> l.g j = l.g A7)) /\ l.n - g' < l.n - g)) /\ (decide (A2 < A6) = false -> true = L.flat l)) (by kernel_rfl) (by
 conv => zeta
 obtain ⟨hn, hb⟩ := hp
 refine ⟨⟨0, rfl, Nat.zero_le _, fun h => absurd h (by decide)⟩, fun g hg => ⟨fun hlt => ?_, fun hge => ?_⟩⟩
 rotate_left
 · have hge : ¬ (g:Int) < (l.n:Int) := of_decide_eq_false hge
   exact (flat_all (fun j hj => hg.2 (by omega) j hj)).symm
 have hlt : (g:Int) < (l.n:Int) := of_decide_eq_true hlt
 refine ⟨iK, ⟨(g, g + 1), by show (g:Int) + 1 = ((g + 1:Nat):Int); omega, rfl, Nat.lt_succ_self g, by show g + 1 <= l.n; omega, hg.2, fun j q1 q2 => ?_⟩, ?_⟩
 · have q1 : g <= j := q1
   have q2 : j < g + 1 := q2
   rw [show j = g by omega]
 rintro ⟨i, k⟩ ⟨e, hik, hkn, ha, hs⟩
 have e : (g:Int) = (i:Int) := e
 obtain rfl : g = i := by omega
 have hik : g < k := hik
 have hkn : k <= l.n := hkn
 have ha : 1 <= g -> ∀ j, j < l.n -> l.g j = l.g 0 := ha
 have hs : ∀ j, g <= j -> j < k -> l.g j = l.g g := hs
 refine ⟨fun hk => ?_, fun hk => ?_⟩
 rotate_left
 · have hk : ¬ (k:Int) < (l.n:Int) := of_decide_eq_false hk
   refine ⟨iK, g + 1, by omega, ⟨rfl, fun _ _ => rfl⟩, ⟨by omega, fun _ j hj => ?_⟩, by omega⟩
   rcases Nat.eq_zero_or_pos g with h | h
   · subst h; exact hs j (Nat.zero_le _) (by omega)
   · exact ha h j hj
 have hkl : (k:Int) < (l.n:Int) := of_decide_eq_true hk
 clear hk
 refine ⟨⟨Int.natCast_nonneg _, hlt⟩, ⟨Int.natCast_nonneg _, hkl⟩, fun h => ?_, fun h => ?_⟩
 · have e : L.same (l.g g) (l.g k) = true := h
   refine ⟨show InK .i64 ((k:Int) + 1) from iK, (g, k + 1), by show (k:Int) + 1 = ((k + 1:Nat):Int); omega, rfl, ⟨rfl, fun _ _ => rfl⟩, ⟨rfl, by show g < k + 1; omega, by show k + 1 <= l.n; omega, ha, fun j q1 q2 => ?_⟩, by show l.n - (k + 1) < l.n - k; omega⟩
   have q2 : j < k + 1 := q2
   rcases Nat.lt_succ_iff_lt_or_eq.1 q2 with h | rfl
   · exact hs j q1 h
   · exact (same_eq e).symm
 have e : L.same (l.g g) (l.g k) = false := h
 have hne : l.g g ≠ l.g k := fun q => by rw [q, same_refl] at e; cases e
 have hg0 : g = 0 := by
   rcases Nat.eq_zero_or_pos g with h | h
   · exact h
   · exact absurd ((ha h g (by omega)).trans (ha h k (by omega)).symm) hne
 subst hg0
 have hf : L.far l = (k:Int) := far_at (by omega) (fun j hj => hs j (Nat.zero_le _) hj) (fun q => hne q.symm)
 have fl : L.flat l = !L.anyB l.n (fun i => !decide (L.cross (l.g 0) (l.g k) (l.g i) = 0)) := by
   unfold L.flat
   rw [hf, decide_eq_false (show ¬ (k:Int) < 0 by omega), cond_false, Int.toNat_natCast]
 refine ⟨⟨(0, k, 0), rfl, rfl, rfl, rfl, ⟨hik, by show k < l.n; omega⟩, hf, Nat.zero_le _, fun j hj => absurd hj (Nat.not_lt_zero _)⟩, ?_⟩
 rintro ⟨i, k', m⟩ ⟨_, e2, _, _, _, hm, hc⟩
 have e2 : (k:Int) = (k':Int) := e2
 obtain rfl : k = k' := by omega
 have hm : m <= l.n := hm
 have hc : ∀ j, j < m -> L.cross (l.g 0) (l.g k) (l.g j) = 0 := hc
 refine ⟨fun hmn => ?_, fun hmn => ?_⟩
 · have hmn : (m:Int) < (l.n:Int) := of_decide_eq_true hmn
   refine ⟨⟨Int.natCast_nonneg _, hlt⟩, ⟨Int.natCast_nonneg _, hkl⟩, ⟨Int.natCast_nonneg _, hmn⟩, ⟨hb 0 (by omega), hb k (by omega), hb m (by omega)⟩, fun h => ?_, fun h => ?_⟩
   · have h : (!decide (L.cross (l.g 0) (l.g k) (l.g m) = 0)) = true := h
     rw [fl, anyB_iff.2 ⟨m, by omega, h⟩]; rfl
   · have h : (!decide (L.cross (l.g 0) (l.g k) (l.g m) = 0)) = false := h
     refine ⟨show InK .i64 ((m:Int) + 1) from iK, (0, k, m + 1), by show (m:Int) + 1 = ((m + 1:Nat):Int); omega, rfl, rfl, ⟨rfl, fun _ _ => rfl⟩, ⟨rfl, rfl, rfl, ⟨hik, by show k < l.n; omega⟩, hf, by show m + 1 <= l.n; omega, fun j hj => ?_⟩, by show l.n - (m + 1) < l.n - m; omega⟩
     have hj : j < m + 1 := hj
     rcases Nat.lt_succ_iff_lt_or_eq.1 hj with h' | rfl
     · exact hc j h'
     · exact of_decide_eq_true (notF h)
 · have hmn : ¬ (m:Int) < (l.n:Int) := of_decide_eq_false hmn
   rw [fl, anyB_no (fun i hi => by rw [decide_eq_true (hc i (by omega))]; rfl)]; rfl)
theorem r1_flat_ok : SpecOk Tryz.prog 30 r1_flat_S := fnX Tryz.func30 (c := bodyOf Tryz.f30) (by kernel_rfl) mixed (fun args p r hs hp => by
 unfold r1_flat_s at hs
 split at hs
 · cases hs; exact ⟨_, _, r1_flat_vc _ hp.2, (.p (.sl hp.1) .nil), ⟨show SpecsL Tryz.prog _ from (SpecsL.cons r1_Cross_ok r1_Cross_en SpecsL.nil), rfl, ⟨show ItersL Tryz.prog _ from ItersL.nil, (TrsOk.none (fun _ => rfl))⟩⟩⟩
 · cases hs)
theorem r1_flat_en : Enters Tryz.prog 30 := fun args w => by kernel_rfl
def r1_straight_p (l : (L.Sq L.Pt)) : Prop := L.allBd l /\ L.two2 l
def r1_straight_r (l : (L.Sq L.Pt)) : SV := .sl 2 (L.str l).n (fun k => [.int .i64 (((L.str l).g k).x), .int .i64 (((L.str l).g k).y)])
def r1_straight_s : List EV -> Option (Prop × SV)
 | [.p (.sl 2 l_n l_g)] => some ((∀ i, i < l_n -> l_g i = [.int .i64 ((ofPt (l_g i)).x), .int .i64 ((ofPt (l_g i)).y)]) /\ r1_straight_p (⟨l_n, fun i => ofPt (l_g i)⟩ : (L.Sq L.Pt)), r1_straight_r (⟨l_n, fun i => ofPt (l_g i)⟩ : (L.Sq L.Pt)))
 | _ => none
abbrev r1_straight_S : SE.Spec := (specO r1_straight_s)
def r1_straight_C : Cfg := { cC with specs := lookS [(41, r1_at_S), (122, r1_without_S), (18, r1_Cross_S)] }
theorem r1_straight_vc (l : (L.Sq L.Pt)) (hp : r1_straight_p l) : vc Tryz.prog ({ r1_straight_C with loops := lookL [(2, { T := Nat × L.Sq L.Pt, keep := [], keepO := [], chg := fun g => [(0, .p (.sl 2 g.2.n (fun k => [.int .i64 ((g.2.g k).x), .int .i64 ((g.2.g k).y)]))), (3, .p (.int .i64 (g.1:Int)))], own := fun _ => [], inv := fun g => g.1 <= g.2.n /\ L.allBd g.2 /\ L.two2 g.2 /\ L.thin L.cDup l = L.thin L.cDup g.2 /\ ∀ j, j < g.1 -> L.outAt L.cDup g.2 j = false, mu := fun g => g.2.n * 1001 + (g.2.n - g.1) }), (8, { T := Nat × L.Sq L.Pt, keep := [], keepO := [], chg := fun g => [(0, .p (.sl 2 g.2.n (fun k => [.int .i64 ((g.2.g k).x), .int .i64 ((g.2.g k).y)]))), (4, .p (.int .i64 (g.1:Int)))], own := fun _ => [], inv := fun g => g.1 <= g.2.n /\ L.allBd g.2 /\ L.str l = L.thin L.cFlat g.2 /\ ∀ j, j < g.1 -> L.outAt L.cFlat g.2 j = false, mu := fun g => g.2.n * 1001 + (g.2.n - g.1) })], rfs := lookR [] }) (bodyOf Tryz.f92) (st0 Tryz.f92 [.p (.sl 2 l.n (fun i => [.int .i64 ((l.g i).x), .int .i64 ((l.g i).y)]))]) (retFn Tryz.prog Tryz.f92 (r1_straight_r l)) :=
 @Eq.mpr _ (let I := SV.int .i64; let T := Int.toNat; let A22 := (1000000:Int); let A20 := (-1000000:Int); let A16 := (1:Nat); let A13 := (1000000:Nat); let A11 := (0:Int); let A8 := (1001:Nat); let A4 := (1:Int); (∃ (g : Nat × L.Sq L.Pt), (l.n = g.2.n /\ ∀ (i:Nat), i < l.n -> [I (l.g i).x, I (l.g i).y] = [I (g.2.g i).x, I (g.2.g i).y]) /\ A11 = (↑g.1:Int) /\ g.1 <= g.2.n /\ L.allBd g.2 /\ L.two2 g.2 /\ L.thin L.cDup l = L.thin L.cDup g.2 /\ ∀ (j:Nat), j < g.1 -> L.outAt L.cDup g.2 j = false) /\ ∀ (g : Nat × L.Sq L.Pt), let A7 := (↑g.2.n:Int); let A6 := (∀ (i:Nat), let A18 := [I (g.2.g i).x, I (g.2.g i).y]; i < g.2.n -> A18 = A18); let A5 := (↑g.1:Int); let A19 := (g.2.g (L.ix g.2.n (A5 + A4))); let A1 := (bif decide (A4 < A7) then decide ((g.2.g (T A5)).x = A19.x) && decide ((g.2.g (T A5)).y = A19.y) else false); (g.1 <= g.2.n /\ L.allBd g.2 /\ L.two2 g.2 /\ L.thin L.cDup l = L.thin L.cDup g.2 /\ ∀ (j:Nat), j < g.1 -> L.outAt L.cDup g.2 j = false) -> (decide (A5 < A7) = true -> (decide (A4 < A7) = true -> A11 <= A5 /\ A5 < A7) /\ (decide (A4 < A7) = true -> InK .i64 (A5 + A4)) /\ (decide (A4 < A7) = true -> A6 /\ A16 <= g.2.n /\ g.2.n <= A13 /\ A20 <= A5 + A4 /\ A5 + A4 <= A22) /\ (A1 = true -> (A6 /\ A11 <= A5 /\ A5 < A7 /\ g.2.n <= A13) /\ ∃ (g' : Nat × L.Sq L.Pt), (g.2.n - A16 = g'.2.n /\ ∀ (i:Nat), let A14 := (L.delF (fun (i:Nat) => g.2.g i) (T A5) g.2.n i); i < g.2.n - A16 -> [I A14.x, I A14.y] = [I (g'.2.g i).x, I (g'.2.g i).y]) /\ A11 = (↑g'.1:Int) /\ (g'.1 <= g'.2.n /\ L.allBd g'.2 /\ L.two2 g'.2 /\ L.thin L.cDup l = L.thin L.cDup g'.2 /\ ∀ (j:Nat), j < g'.1 -> L.outAt L.cDup g'.2 j = false) /\ g'.2.n * A8 + (g'.2.n - g'.1) < g.2.n * A8 + (g.2.n - g.1)) /\ (A1 = false -> InK .i64 (A5 + A4) /\ ∃ (g' : Nat × L.Sq L.Pt), (g.2.n = g'.2.n /\ ∀ (i:Nat), i < g.2.n -> [I (g.2.g i).x, I (g.2.g i).y] = [I (g'.2.g i).x, I (g'.2.g i).y]) /\ A5 + A4 = (↑g'.1:Int) /\ (g'.1 <= g'.2.n /\ L.allBd g'.2 /\ L.two2 g'.2 /\ L.thin L.cDup l = L.thin L.cDup g'.2 /\ ∀ (j:Nat), j < g'.1 -> L.outAt L.cDup g'.2 j = false) /\ g'.2.n * A8 + (g'.2.n - g'.1) < g.2.n * A8 + (g.2.n - g.1))) /\ (decide (A5 < A7) = false -> (∃ (g_1 : Nat × L.Sq L.Pt), (g.2.n = g_1.2.n /\ ∀ (i:Nat), i < g.2.n -> [I (g.2.g i).x, I (g.2.g i).y] = [I (g_1.2.g i).x, I (g_1.2.g i).y]) /\ A11 = (↑g_1.1:Int) /\ g_1.1 <= g_1.2.n /\ L.allBd g_1.2 /\ L.str l = L.thin L.cFlat g_1.2 /\ ∀ (j:Nat), j < g_1.1 -> L.outAt L.cFlat g_1.2 j = false) /\ ∀ (g_1 : Nat × L.Sq L.Pt), let A15 := (↑g_1.2.n:Int); let A3 := (∀ (i:Nat), let A17 := [I (g_1.2.g i).x, I (g_1.2.g i).y]; i < g_1.2.n -> A17 = A17); let A2 := (↑g_1.1:Int); let A21 := (g_1.2.g (T A2)); let A10 := (g_1.2.g (L.ix g_1.2.n (A2 + A4))); let A9 := (g_1.2.g (L.ix g_1.2.n (A2 - A4))); (g_1.1 <= g_1.2.n /\ L.allBd g_1.2 /\ L.str l = L.thin L.cFlat g_1.2 /\ ∀ (j:Nat), j < g_1.1 -> L.outAt L.cFlat g_1.2 j = false) -> (decide (A2 < A15) = true -> InK .i64 (A2 - A4) /\ (A3 /\ A16 <= g_1.2.n /\ g_1.2.n <= A13 /\ A20 <= A2 - A4 /\ A2 - A4 <= A22) /\ (A11 <= A2 /\ A2 < A15) /\ InK .i64 (A2 + A4) /\ (A3 /\ A16 <= g_1.2.n /\ g_1.2.n <= A13 /\ A20 <= A2 + A4 /\ A2 + A4 <= A22) /\ (L.bd A9 /\ L.bd A21 /\ L.bd A10) /\ (decide (L.cross A9 A21 A10 = A11) = true -> (A3 /\ A11 <= A2 /\ A2 < A15 /\ g_1.2.n <= A13) /\ ∃ (g' : Nat × L.Sq L.Pt), (g_1.2.n - A16 = g'.2.n /\ ∀ (i:Nat), let A12 := (L.delF (fun (i:Nat) => g_1.2.g i) (T A2) g_1.2.n i); i < g_1.2.n - A16 -> [I A12.x, I A12.y] = [I (g'.2.g i).x, I (g'.2.g i).y]) /\ A11 = (↑g'.1:Int) /\ (g'.1 <= g'.2.n /\ L.allBd g'.2 /\ L.str l = L.thin L.cFlat g'.2 /\ ∀ (j:Nat), j < g'.1 -> L.outAt L.cFlat g'.2 j = false) /\ g'.2.n * A8 + (g'.2.n - g'.1) < g_1.2.n * A8 + (g_1.2.n - g_1.1)) /\ (decide (L.cross A9 A21 A10 = A11) = false -> InK .i64 (A2 + A4) /\ ∃ (g' : Nat × L.Sq L.Pt), (g_1.2.n = g'.2.n /\ ∀ (i:Nat), i < g_1.2.n -> [I (g_1.2.g i).x, I (g_1.2.g i).y] = [I (g'.2.g i).x, I (g'.2.g i).y]) /\ A2 + A4 = (↑g'.1:Int) /\ (g'.1 <= g'.2.n /\ L.allBd g'.2 /\ L.str l = L.thin L.cFlat g'.2 /\ ∀ (j:Nat), j < g'.1 -> L.outAt L.cFlat g'.2 j = false) /\ g'.2.n * A8 + (g'.2.n - g'.1) < g_1.2.n * A8 + (g_1.2.n - g_1.1))) /\ (decide (A2 < A15) = false -> g_1.2.n = (L.str l).n /\ ∀ (i:Nat), i < g_1.2.n -> [I (g_1.2.g i).x, I (g_1.2.g i).y] = [I ((L.str l).g i).x, I ((L.str l).g i).y]))) (by kernel_rfl) (by
 conv => zeta
 obtain ⟨hall, htwo⟩ := hp
 refine ⟨⟨(0, l), ⟨rfl, fun _ _ => rfl⟩, rfl, Nat.zero_le _, hall, htwo, rfl, fun j hj => absurd hj (Nat.not_lt_zero _)⟩, ?_⟩
 rintro ⟨i, x⟩ ⟨hi, hb, ht, e, h0⟩
 have hi : i <= x.n := hi
 have hb : L.allBd x := hb
 have ht : L.two2 x := ht
 have e : L.thin L.cDup l = L.thin L.cDup x := e
 have h0 : ∀ j, j < i -> L.outAt L.cDup x j = false := h0
 have hn := hb.1
 have h2 := two2_n ht
 have d1 : decide ((1:Int) < (x.n:Int)) = true := decide_eq_true (by omega)
 refine ⟨fun hlt => ?_, fun hge => ?_⟩
 · have hlt : (i:Int) < (x.n:Int) := of_decide_eq_true hlt
   have en : L.ix x.n ((i:Int) + 1) = L.next x.n i := ix_next (by omega)
   dsimp only
   rw [d1, en]
   refine ⟨fun _ => ⟨by omega, hlt⟩, fun _ => iK, fun _ => ⟨fun _ _ => rfl, by omega, by omega, by omega, by omega⟩, fun h => ?_, fun h => ?_⟩
   · have h : L.outAt L.cDup x i = true := h
     exact ⟨⟨fun _ _ => rfl, by omega, hlt, by omega⟩, (0, ⟨x.n - 1, L.delF x.g i x.n⟩), ⟨rfl, fun _ _ => rfl⟩, rfl, ⟨Nat.zero_le _, del_allBd hb, del_two ht (by omega) h, e.trans (thin_at (f := x.g) (by omega) h0 h), fun j hj => absurd hj (Nat.not_lt_zero _)⟩, by show (x.n - 1) * 1001 + (x.n - 1 - 0) < x.n * 1001 + (x.n - i); omega⟩
   · have h : L.outAt L.cDup x i = false := h
     refine ⟨iK, (i + 1, x), ⟨rfl, fun _ _ => rfl⟩, by show (i:Int) + 1 = ((i + 1:Nat):Int); omega, ⟨by show i + 1 <= x.n; omega, hb, ht, e, fun j hj => ?_⟩, by show x.n * 1001 + (x.n - (i + 1)) < x.n * 1001 + (x.n - i); omega⟩
     have hj : j < i + 1 := hj
     rcases Nat.lt_succ_iff_lt_or_eq.1 hj with h' | rfl
     · exact h0 j h'
     · exact h
 have hge : ¬ (i:Int) < (x.n:Int) := of_decide_eq_false hge
 obtain rfl : i = x.n := by omega
 have ex : L.thin L.cDup l = x := e.trans (thin_end (f := x.g) h0)
 refine ⟨⟨(0, x), ⟨rfl, fun _ _ => rfl⟩, rfl, Nat.zero_le _, hb, by unfold L.str; rw [ex], fun j hj => absurd hj (Nat.not_lt_zero _)⟩, ?_⟩
 rintro ⟨k, y⟩ ⟨hk, hy, ey, h0y⟩
 have hk : k <= y.n := hk
 have hy : L.allBd y := hy
 have ey : L.str l = L.thin L.cFlat y := ey
 have h0y : ∀ j, j < k -> L.outAt L.cFlat y j = false := h0y
 have hny := hy.1
 refine ⟨fun hlt => ?_, fun hge => ?_⟩
 · have hlt : (k:Int) < (y.n:Int) := of_decide_eq_true hlt
   have en : L.ix y.n ((k:Int) + 1) = L.next y.n k := ix_next (by omega)
   have ep : L.ix y.n ((k:Int) - 1) = L.prev y.n k := ix_prev (by omega)
   dsimp only
   rw [en, ep]
   refine ⟨iK, ⟨fun _ _ => rfl, by omega, by omega, by omega, by omega⟩, ⟨by omega, hlt⟩, iK, ⟨fun _ _ => rfl, by omega, by omega, by omega, by omega⟩, ⟨hy.2 _ (prev_lt (by omega)), hy.2 k (by omega), hy.2 _ (next_lt (by omega))⟩, fun h => ?_, fun h => ?_⟩
   · have h : L.outAt L.cFlat y k = true := h
     exact ⟨⟨fun _ _ => rfl, by omega, hlt, by omega⟩, (0, ⟨y.n - 1, L.delF y.g k y.n⟩), ⟨rfl, fun _ _ => rfl⟩, rfl, ⟨Nat.zero_le _, del_allBd hy, ey.trans (thin_at (f := y.g) (by omega) h0y h), fun j hj => absurd hj (Nat.not_lt_zero _)⟩, by show (y.n - 1) * 1001 + (y.n - 1 - 0) < y.n * 1001 + (y.n - k); omega⟩
   · have h : L.outAt L.cFlat y k = false := h
     refine ⟨iK, (k + 1, y), ⟨rfl, fun _ _ => rfl⟩, by show (k:Int) + 1 = ((k + 1:Nat):Int); omega, ⟨by show k + 1 <= y.n; omega, hy, ey, fun j hj => ?_⟩, by show y.n * 1001 + (y.n - (k + 1)) < y.n * 1001 + (y.n - k); omega⟩
     have hj : j < k + 1 := hj
     rcases Nat.lt_succ_iff_lt_or_eq.1 hj with h' | rfl
     · exact h0y j h'
     · exact h
 · have hge : ¬ (k:Int) < (y.n:Int) := of_decide_eq_false hge
   obtain rfl : k = y.n := by omega
   have : L.str l = y := ey.trans (thin_end (f := y.g) h0y)
   rw [this]
   exact ⟨rfl, fun _ _ => rfl⟩)
theorem r1_straight_ok : SpecOk Tryz.prog 92 r1_straight_S := fnX Tryz.func92 (c := bodyOf Tryz.f92) (by kernel_rfl) mixed (fun args p r hs hp => by
 unfold r1_straight_s at hs
 split at hs
 · cases hs; exact ⟨_, _, r1_straight_vc _ hp.2, (.p (.sl hp.1) .nil), ⟨show SpecsL Tryz.prog _ from (SpecsL.cons r1_at_ok r1_at_en (SpecsL.cons r1_without_ok r1_without_en (SpecsL.cons r1_Cross_ok r1_Cross_en SpecsL.nil))), rfl, ⟨show ItersL Tryz.prog _ from ItersL.nil, (TrsOk.none (fun _ => rfl))⟩⟩⟩
 · cases hs)
theorem r1_straight_en : Enters Tryz.prog 92 := fun args w => by kernel_rfl
def r1_Outline_p (l : (L.Sq L.Pt)) : Prop := l.n <= 1000000
def r1_Outline_r (l : (L.Sq L.Pt)) : SV := .tup [.sl 2 (L.outN l) (fun k => [.int .i64 (((L.norm (L.str l)).g k).x), .int .i64 (((L.norm (L.str l)).g k).y)]), .int .i64 (L.outE l)]
def r1_Outline_s : List EV -> Option (Prop × SV)
 | [.p (.sl 2 l_n l_g)] => some ((∀ i, i < l_n -> l_g i = [.int .i64 ((ofPt (l_g i)).x), .int .i64 ((ofPt (l_g i)).y)]) /\ r1_Outline_p (⟨l_n, fun i => ofPt (l_g i)⟩ : (L.Sq L.Pt)), r1_Outline_r (⟨l_n, fun i => ofPt (l_g i)⟩ : (L.Sq L.Pt)))
 | _ => none
abbrev r1_Outline_S : SE.Spec := (specO r1_Outline_s)
def r1_Outline_C : Cfg := { cC with specs := lookS [(29, r1_points_S), (30, r1_flat_S), (92, r1_straight_S), (80, r1_simple_S), (42, r1_sum_S), (73, r1_placed_S)], nils := lookM [(12, [(5, 51, 45, 2)])] }
theorem r1_Outline_vc (l : (L.Sq L.Pt)) (hp : r1_Outline_p l) : vc Tryz.prog ({ r1_Outline_C with loops := lookL [(13, { T := Nat, keep := [4, 5], keepO := [], chg := fun i => [(6, .p (.int .i64 (((L.str l).n:Int) - 1 - (i:Int))))], own := fun i => [(51, .row 45 2 i (fun k => [.int .i64 (((L.revG (L.str l)).g k).x), .int .i64 (((L.revG (L.str l)).g k).y)]))], inv := fun i => i <= (L.str l).n, mu := fun i => (L.str l).n - i })], rfs := lookR [] }) (bodyOf Tryz.f53) (st0 Tryz.f53 [.p (.sl 2 l.n (fun i => [.int .i64 ((l.g i).x), .int .i64 ((l.g i).y)]))]) (retFn Tryz.prog Tryz.f53 (r1_Outline_r l)) :=
 @Eq.mpr _ (let I := SV.int .i64; let A29 := (0:Nat); let A28 := (3:Int); let A22 := (↑l.n:Int); let A21 := (0:Int); let A20 := (1000000:Nat); let A14 := (1:Int); let A7 := (∀ (i:Nat), let A27 := [I (l.g i).x, I (l.g i).y]; i < l.n -> A27 = A27); let A4 := (L.str l); let A26 := (L.norm A4); let A13 := (↑A4.n:Int); let A12 := (L.revG A4); let A2 := (∀ (i:Nat), let A5 := (L.str (L.Sq.mk l.n fun (i:Nat) => l.g i)); let A24 := [I (A5.g i).x, I (A5.g i).y]; i < A5.n -> A24 = A24); let A1 := (L.Sq.mk l.n fun (i:Nat) => l.g i); let A16 := (L.str A1); let A9 := (↑A16.n:Int); let A8 := (bif bif decide (A22 < A28) then true else decide ((400:Int) < A22) then true else !L.validPts A1); let A3 := (L.Sq.mk A16.n fun (i:Nat) => (L.str (L.Sq.mk l.n fun (i:Nat) => l.g i)).g i); let A15 := (bif decide (A9 < A28) then true else !L.simple A3); ((!bif decide (A22 < A28) then true else decide ((400:Int) < A22)) = true -> A7 /\ l.n <= A20) /\ (A8 = true -> L.outN l = A29 /\ A14 = L.outE l) /\ (A8 = false -> (A7 /\ l.n <= A20 /\ ∀ (k:Nat), k < l.n -> L.bd (l.g k)) /\ (L.flat A1 = true -> L.outN l = A29 /\ (11:Int) = L.outE l) /\ (L.flat A1 = false -> (A7 /\ L.allBd A1 /\ L.two2 A1) /\ ((!decide (A9 < A28)) = true -> A2 /\ L.allBd A3) /\ (A15 = true -> L.outN l = A29 /\ (10:Int) = L.outE l) /\ (A15 = false -> (decide ((24:Int) < A9) = true -> L.outN l = A29 /\ (2:Int) = L.outE l) /\ (decide ((24:Int) < A9) = false -> (A2 /\ L.small A3) /\ (decide (L.areaTo A3 A16.n < A21) = true -> InK .i64 (A9 - A14) /\ (∃ (g:Nat), A9 - A14 = A13 - A14 - (↑g:Int) /\ (nat_lit 0 = g /\ ∀ (i:Nat), i < nat_lit 0 -> [] = [I (A12.g i).x, I (A12.g i).y]) /\ g <= A4.n) /\ ∀ (g:Nat), let A17 := (↑g:Int); g <= A4.n -> (decide (A21 <= A13 - A14 - A17) = true -> (A21 <= A13 - A14 - A17 /\ A13 - A14 - A17 < A9) /\ (g + nat_lit 1) * nat_lit 16 <= (140737488355328:Nat) /\ InK .i64 (A13 - A14 - A17 - A14) /\ ∃ (g':Nat), A13 - A14 - A17 - A14 = A13 - A14 - (↑g':Int) /\ (A16.n = A16.n /\ ∀ (i:Nat), let A6 := (L.str (L.Sq.mk l.n fun (i:Nat) => l.g i)); let A25 := [I (A6.g i).x, I (A6.g i).y]; i < A6.n -> A25 = A25) /\ (g + nat_lit 1 = g' /\ ∀ (i:Nat), let A11 := ((L.str (L.Sq.mk l.n fun (i:Nat) => l.g i)).g (Int.toNat (A13 - A14 - A17))); i < g + nat_lit 1 -> appGet g (fun (k:Nat) => [I (A12.g k).x, I (A12.g k).y]) (fun (x:Nat) => [I A11.x, I A11.y]) i = [I (A12.g i).x, I (A12.g i).y]) /\ g' <= A4.n /\ A4.n - g' < A4.n - g) /\ (decide (A21 <= A13 - A14 - A17) = false -> ((∀ (i:Nat), let A23 := [I (A12.g i).x, I (A12.g i).y]; i < g -> A23 = A23) /\ (1:Nat) <= g /\ g <= A20) /\ ∀ (t:Nat), True -> (∀ (i:Nat), i < g -> (true && (true && true)) = true) /\ (g = L.outN l /\ ∀ (i:Nat), let A18 := (L.plc (L.Sq.mk g fun (i:Nat) => A12.g i) i); i < g -> [I A18.x, I A18.y] = [I (A26.g i).x, I (A26.g i).y]) /\ A21 = L.outE l)) /\ (decide (L.areaTo A3 A16.n < A21) = false -> (A2 /\ (1:Nat) <= A16.n /\ A16.n <= A20) /\ ∀ (t:Nat), True -> (A16.n = L.outN l /\ ∀ (i:Nat), let A19 := (L.str (L.Sq.mk l.n fun (i:Nat) => l.g i)); let A10 := (L.plc (L.Sq.mk A19.n fun (i:Nat) => (L.str (L.Sq.mk l.n fun (i:Nat) => l.g i)).g i) i); i < A19.n -> [I A10.x, I A10.y] = [I (A26.g i).x, I (A26.g i).y]) /\ A21 = L.outE l)))))) (by kernel_rfl) (by
 conv => zeta
 have hn : l.n <= 1000000 := hp
 refine ⟨fun _ => ⟨fun _ _ => rfl, hn⟩, fun h => ?_, fun h => ?_⟩
 · have h : (bif !L.within (l.n:Int) 3 400 then true else !L.validPts l) = true := (by rw [wneg] at h; exact h)
   have e : L.outE l = 1 := by unfold L.outE; rw [h]; rfl
   unfold L.outN; rw [e]; exact ⟨rfl, rfl⟩
 have h0 : (bif !L.within (l.n:Int) 3 400 then true else !L.validPts l) = false := (by rw [wneg] at h; exact h)
 obtain ⟨n3, n400, hv⟩ := out_of h0
 have hb : ∀ k, k < l.n -> L.bd (l.g k) := fun k hk => bd_of_valid (allB_iff.1 hv k hk)
 refine ⟨⟨fun _ _ => rfl, hn, hb⟩, fun hf => ?_, fun hf => ?_⟩
 · have e : L.outE l = 11 := by unfold L.outE; rw [h0, hf]; rfl
   unfold L.outN; rw [e]; exact ⟨rfl, rfl⟩
 have ha : L.allBd l := ⟨by omega, hb⟩
 have h2 : L.two2 l := flat_two (l := l) hf (by omega)
 have ha1 := thin_allBd (c := L.cDup) (x := l) ha
 have t2 := two2_n (thin_two (x := l) h2)
 have ha2 : L.allBd (L.str l) := thin_allBd (c := L.cFlat) (x := L.thin L.cDup l) ha1
 refine ⟨⟨fun _ _ => rfl, ha, h2⟩, fun _ => ⟨fun _ _ => rfl, ha2⟩, fun h3 => ?_, fun h3 => ?_⟩
 · have h3 : (bif decide (((L.str l).n:Int) < 3) then true else !L.simple (L.str l)) = true := h3
   have e : L.outE l = 10 := by unfold L.outE; rw [h0, hf, h3]; rfl
   unfold L.outN; rw [e]; exact ⟨rfl, rfl⟩
 have h3 : (bif decide (((L.str l).n:Int) < 3) then true else !L.simple (L.str l)) = false := h3
 have m3 : 3 <= (L.str l).n := by
   have h := h3
   rw [bor, Bool.or_eq_false_iff] at h
   have := of_decide_eq_false h.1
   omega
 refine ⟨fun h4 => ?_, fun h4 => ?_⟩
 · have h4 : decide ((24:Int) < ((L.str l).n:Int)) = true := h4
   have e : L.outE l = 2 := by unfold L.outE; rw [h0, hf, h3, h4]; rfl
   unfold L.outN; rw [e]; exact ⟨rfl, rfl⟩
 have h4 : decide ((24:Int) < ((L.str l).n:Int)) = false := h4
 have m24 := of_decide_eq_false h4
 have e : L.outE l = 0 := by unfold L.outE; rw [h0, hf, h3, h4]; rfl
 have eN : (L.str l).n = L.outN l := by unfold L.outN; rw [e]; rfl
 
 refine ⟨⟨fun _ _ => rfl, ha2⟩, fun hA => ?_, fun hA => ?_⟩
 rotate_left
 · have hA : decide (L.areaTo (L.str l) (L.str l).n < 0) = false := hA
   have ef := plc_flip (x := L.str l) (by omega)
   rw [flip_pos hA] at ef
   refine ⟨⟨fun _ _ => rfl, show 1 <= (L.str l).n by omega, show (L.str l).n <= 1000000 by omega⟩, fun _ _ => ⟨⟨eN, fun i _ => ?_⟩, e.symm⟩⟩
   rw [<- ef]
 have hA : decide (L.areaTo (L.str l) (L.str l).n < 0) = true := hA
 have ef := plc_flip (x := L.str l) (by omega)
 rw [flip_neg hA] at ef
 generalize hX : L.str l = X at *
 refine ⟨iK, ⟨(0:Nat), by omega, ⟨rfl, fun i hi => absurd hi (Nat.not_lt_zero _)⟩, Nat.zero_le _⟩, fun g hg => ⟨fun hlt => ?_, fun hge => ?_⟩⟩
 · have hlt : 0 <= (X.n:Int) - 1 - (g:Int) := of_decide_eq_true hlt
   have e0 : ((X.n:Int) - 1 - (g:Int)).toNat = X.n - 1 - g := by omega
   rw [e0]
   refine ⟨⟨hlt, by omega⟩, show (g + 1) * 16 <= 140737488355328 by omega, iK, g + 1, by omega, ⟨rfl, fun _ _ => rfl⟩, ⟨rfl, fun i hi => ?_⟩, by omega, by omega⟩
   have hi : i < g + 1 := hi
   unfold appGet
   by_cases h' : i < g
   · rw [if_pos h']
   · rw [if_neg h', show i = g by omega]; rfl
 · have hge : ¬ 0 <= (X.n:Int) - 1 - (g:Int) := of_decide_eq_false hge
   obtain rfl : g = X.n := by omega
   refine ⟨⟨fun _ _ => rfl, by omega, by omega⟩, fun _ _ => ⟨fun _ _ => rfl, ⟨eN, fun i _ => ?_⟩, e.symm⟩⟩
   rw [<- ef]; rfl)
theorem r1_Outline_ok : SpecOk Tryz.prog 53 r1_Outline_S := fnX Tryz.func53 (c := bodyOf Tryz.f53) (by kernel_rfl) mixed (fun args p r hs hp => by
 unfold r1_Outline_s at hs
 split at hs
 · cases hs; exact ⟨_, _, r1_Outline_vc _ hp.2, (.p (.sl hp.1) .nil), ⟨show SpecsL Tryz.prog _ from (SpecsL.cons r1_points_ok r1_points_en (SpecsL.cons r1_flat_ok r1_flat_en (SpecsL.cons r1_straight_ok r1_straight_en (SpecsL.cons r1_simple_ok r1_simple_en (SpecsL.cons r1_sum_ok r1_sum_en (SpecsL.cons r1_placed_ok r1_placed_en SpecsL.nil)))))), rfl, ⟨show ItersL Tryz.prog _ from ItersL.nil, (TrsOk.none (fun _ => rfl))⟩⟩⟩
 · cases hs)
theorem r1_Outline_en : Enters Tryz.prog 53 := fun args w => by kernel_rfl
end Go.Proofs.YtaklapjfnejlbaaGreat
namespace Go.Proofs.YtaklapjfnejlbaaGreat
open Go.SE Go.RowKit
set_option maxRecDepth 100000
set_option maxHeartbeats 4000000
set_option linter.unusedVariables false
attribute [local irreducible] vc
def L.mem (ks : L.Sq L.Pt) (p : L.Pt) : Prop := ∃ i, i < ks.n /\ ks.g i = p
def L.nod (ks : L.Sq L.Pt) : Prop := ∀ i j, i < ks.n -> j < ks.n -> ks.g i = ks.g j -> i = j
theorem has_iff {ks : L.Sq L.Pt} {p : L.Pt} : L.has ks p = true ↔ L.mem ks p := by
 unfold L.has L.mem
 rw [anyB_iff]
 exact ⟨fun ⟨i, h1, h2⟩ => ⟨i, h1, (same_eq h2).symm⟩, fun ⟨i, h1, h2⟩ => ⟨i, h1, by rw [h2]; exact same_refl p⟩⟩
theorem put_mem {ks : L.Sq L.Pt} {p q : L.Pt} : L.mem (L.put ks p) q ↔ L.mem ks q \/ q = p := by
 unfold L.put
 cases h : L.has ks p with
 | true =>
   rw [cond_true]
   exact ⟨.inl, fun h' => by rcases h' with h' | rfl; exact h'; exact has_iff.1 h⟩
 | false =>
   rw [cond_false]
   constructor
   · rintro ⟨i, h1, h2⟩
     dsimp only at h1 h2
     by_cases hi : i < ks.n
     · rw [if_pos hi] at h2; exact .inl ⟨i, hi, h2⟩
     · rw [if_neg hi] at h2; exact .inr h2.symm
   · rintro (⟨i, h1, h2⟩ | rfl)
     · exact ⟨i, Nat.lt_succ_of_lt h1, by dsimp only; rw [if_pos h1]; exact h2⟩
     · exact ⟨ks.n, Nat.lt_succ_self _, by dsimp only; rw [if_neg (Nat.lt_irrefl _)]⟩
theorem put_nod {ks : L.Sq L.Pt} {p : L.Pt} (h : L.nod ks) : L.nod (L.put ks p) := by
 unfold L.put
 cases hp : L.has ks p with
 | true => exact h
 | false =>
   have hno : ∀ i, i < ks.n -> ks.g i ≠ p := fun i hi e => by
     rw [has_iff.2 ⟨i, hi, e⟩] at hp; cases hp
   rw [cond_false]
   intro i j hi hj e
   dsimp only at hi hj e
   by_cases h1 : i < ks.n <;> by_cases h2 : j < ks.n
   · rw [if_pos h1, if_pos h2] at e; exact h i j h1 h2 e
   · rw [if_pos h1, if_neg h2] at e; exact absurd e (hno i h1)
   · rw [if_neg h1, if_pos h2] at e; exact absurd e.symm (hno j h2)
   · omega
theorem putIf_mem {c : Bool} {ks : L.Sq L.Pt} {p q : L.Pt} : L.mem (L.putIf c ks p) q ↔ L.mem ks q \/ (c = true /\ q = p) := by
 unfold L.putIf
 cases c with
 | true => rw [cond_true, put_mem]; exact ⟨fun h => h.imp id (fun e => ⟨rfl, e⟩), fun h => h.imp id (fun e => e.2)⟩
 | false => rw [cond_false]; exact ⟨.inl, fun h => by rcases h with h | h; exact h; exact absurd h.1 Bool.false_ne_true⟩
theorem putIf_nod {c : Bool} {ks : L.Sq L.Pt} {p : L.Pt} (h : L.nod ks) : L.nod (L.putIf c ks p) := by
 unfold L.putIf
 cases c with
 | true => exact put_nod h
 | false => exact h
def L.S (a b c d q : L.Pt) : Prop := (L.on c d a = true /\ q = a) \/ (L.on c d b = true /\ q = b) \/ (L.on a b c = true /\ q = c) \/ (L.on a b d = true /\ q = d)
theorem no_mem {q : L.Pt} : ¬ L.mem L.no q := fun ⟨_, h, _⟩ => absurd h (Nat.not_lt_zero _)
theorem k2_mem {a b c d q : L.Pt} : L.mem (L.k2 a b c d 2) q ↔ L.S a b c d q := by
 show L.mem (L.putIf (L.on a b d) (L.putIf (L.on a b c) (L.putIf (L.on c d b) (L.putIf (L.on c d a) L.no a) b) c) d) q ↔ _
 rw [putIf_mem, putIf_mem, putIf_mem, putIf_mem]
 unfold L.S
 have := no_mem (q := q)
 constructor
 · rintro ((((h | h) | h) | h) | h)
   · exact absurd h this
   · exact .inl h
   · exact .inr (.inl h)
   · exact .inr (.inr (.inl h))
   · exact .inr (.inr (.inr h))
 · rintro (h | h | h | h)
   · exact .inl (.inl (.inl (.inr h)))
   · exact .inl (.inl (.inr h))
   · exact .inl (.inr h)
   · exact .inr h
theorem k2_nod {a b c d : L.Pt} : L.nod (L.k2 a b c d 2) := by
 show L.nod (L.putIf (L.on a b d) (L.putIf (L.on a b c) (L.putIf (L.on c d b) (L.putIf (L.on c d a) L.no a) b) c) d)
 exact putIf_nod (putIf_nod (putIf_nod (putIf_nod (fun i j hi => absurd hi (Nat.not_lt_zero _)))))
theorem n_two {ks : L.Sq L.Pt} (h : L.nod ks) : 1 < ks.n ↔ ∃ p q, L.mem ks p /\ L.mem ks q /\ p ≠ q := by
 constructor
 · intro h1
   refine ⟨ks.g 0, ks.g 1, ⟨0, by omega, rfl⟩, ⟨1, h1, rfl⟩, fun e => ?_⟩
   have := h 0 1 (by omega) h1 e
   omega
 · rintro ⟨p, q, ⟨i, hi, rfl⟩, ⟨j, hj, rfl⟩, hne⟩
   have : i ≠ j := fun e => hne (by rw [e])
   omega
theorem n_pos {ks : L.Sq L.Pt} : 0 < ks.n ↔ ∃ p, L.mem ks p :=
 ⟨fun h => ⟨ks.g 0, 0, h, rfl⟩, fun ⟨_, i, hi, _⟩ => by omega⟩
theorem meet_map {a b c d a' b' c' d' : L.Pt} (T : L.Pt -> L.Pt) (inj : ∀ p q, T p = T q -> p = q) (hS : ∀ q, L.S a' b' c' d' q ↔ ∃ p, L.S a b c d p /\ T p = q)
   (hA : (L.apart a' b' c' d' && L.apart c' d' a' b') = (L.apart a b c d && L.apart c d a b)) : L.meet a' b' c' d' = L.meet a b c d := by
 have h2 : 1 < (L.k2 a' b' c' d' 2).n ↔ 1 < (L.k2 a b c d 2).n := by
   rw [n_two k2_nod, n_two k2_nod]
   constructor
   · rintro ⟨p, q, hp, hq, hne⟩
     rw [k2_mem, hS] at hp hq
     obtain ⟨p0, hp, rfl⟩ := hp
     obtain ⟨q0, hq, rfl⟩ := hq
     exact ⟨p0, q0, k2_mem.2 hp, k2_mem.2 hq, fun e => hne (by rw [e])⟩
   · rintro ⟨p, q, hp, hq, hne⟩
     exact ⟨T p, T q, k2_mem.2 ((hS _).2 ⟨p, k2_mem.1 hp, rfl⟩), k2_mem.2 ((hS _).2 ⟨q, k2_mem.1 hq, rfl⟩), fun e => hne (inj _ _ e)⟩
 have h0 : 0 < (L.k2 a' b' c' d' 2).n ↔ 0 < (L.k2 a b c d 2).n := by
   rw [n_pos, n_pos]
   constructor
   · rintro ⟨p, hp⟩
     rw [k2_mem, hS] at hp
     obtain ⟨p0, hp, rfl⟩ := hp
     exact ⟨p0, k2_mem.2 hp⟩
   · rintro ⟨p, hp⟩
     exact ⟨T p, k2_mem.2 ((hS _).2 ⟨p, k2_mem.1 hp, rfl⟩)⟩
 unfold L.meet
 rw [band, band, hA]
 have e1 : decide (1 < ((L.k2 a' b' c' d' 2).n:Int)) = decide (1 < ((L.k2 a b c d 2).n:Int)) := by rw [decide_eq_decide]; omega
 have e2 : decide (((L.k2 a' b' c' d' 2).n:Int) = 1) = decide (((L.k2 a b c d 2).n:Int) = 1) := by rw [decide_eq_decide]; omega
 rw [e1, e2]
theorem meet_none {a b c d : L.Pt} (h : L.meet a b c d = 0) (q : L.Pt) : ¬ L.S a b c d q := fun hS => by
 have h0 := n_pos.2 ⟨q, k2_mem.2 hS⟩
 unfold L.meet at h
 by_cases h1 : 1 < ((L.k2 a b c d 2).n:Int)
 · rw [decide_eq_true h1] at h; cases h
 · rw [decide_eq_false h1, decide_eq_true (show ((L.k2 a b c d 2).n:Int) = 1 by omega)] at h; cases h
theorem meet_swap (a b c d : L.Pt) : L.meet c d a b = L.meet a b c d := by
 refine meet_map id (fun _ _ h => h) (fun q => ?_) (Bool.and_comm _ _)
 unfold L.S
 constructor
 · rintro (h | h | h | h)
   · exact ⟨q, .inr (.inr (.inl h)), rfl⟩
   · exact ⟨q, .inr (.inr (.inr h)), rfl⟩
   · exact ⟨q, .inl h, rfl⟩
   · exact ⟨q, .inr (.inl h), rfl⟩
 · rintro ⟨p, h, rfl⟩
   rcases h with h | h | h | h
   · exact .inr (.inr (.inl h))
   · exact .inr (.inr (.inr h))
   · exact .inl h
   · exact .inr (.inl h)
theorem cross_flip (a b c : L.Pt) : L.cross b a c = - L.cross a b c := by
 unfold L.cross
 grind
theorem on_flip (a b p : L.Pt) : L.on b a p = L.on a b p := by
 unfold L.on
 rw [cross_flip, Int.min_comm b.x, Int.max_comm b.x, Int.min_comm b.y, Int.max_comm b.y]
 congr 2
 rw [decide_eq_decide]
 omega
theorem cmp0 (a:Int) : L.cmp (-a) 0 = - L.cmp a 0 := by
 unfold L.cmp
 rcases Int.lt_trichotomy a 0 with h | h | h
 · rw [decide_eq_true h, decide_eq_false (show ¬ -a < 0 by omega), decide_eq_true (show 0 < -a by omega)]; rfl
 · subst h; rfl
 · rw [decide_eq_false (show ¬ a < 0 by omega), decide_eq_true h, decide_eq_true (show -a < 0 by omega)]; rfl
theorem apart_eq {a b c d a' b' c' d' : L.Pt} {e : Int} (he : e = 1 \/ e = -1) (h1 : L.cross a' b' c' = e * L.cross a b c) (h2 : L.cross a' b' d' = e * L.cross a b d) : L.apart a' b' c' d' = L.apart a b c d := by
 unfold L.apart
 rw [h1, h2]
 rcases he with rfl | rfl
 · rw [Int.one_mul, Int.one_mul]
 · rw [show ∀ x : Int, -1 * x = -x from fun x => by omega, show ∀ x : Int, -1 * x = -x from fun x => by omega, cmp0, cmp0, Int.neg_mul_neg]
theorem apart_sym (a b c d : L.Pt) : L.apart a b d c = L.apart a b c d := by
 unfold L.apart; rw [Int.mul_comm]
theorem meet_rev (a b c d : L.Pt) : L.meet b a c d = L.meet a b c d := by
 refine meet_map id (fun _ _ h => h) (fun q => ?_) ?_
 · unfold L.S
   rw [on_flip a b c, on_flip a b d]
   constructor
   · rintro (h | h | h | h)
     · exact ⟨q, .inr (.inl h), rfl⟩
     · exact ⟨q, .inl h, rfl⟩
     · exact ⟨q, .inr (.inr (.inl h)), rfl⟩
     · exact ⟨q, .inr (.inr (.inr h)), rfl⟩
   · rintro ⟨p, h, rfl⟩
     rcases h with h | h | h | h
     · exact .inr (.inl h)
     · exact .inl h
     · exact .inr (.inr (.inl h))
     · exact .inr (.inr (.inr h))
 · have e := apart_eq (a := a) (b := b) (c := c) (d := d) (a' := b) (b' := a) (c' := c) (d' := d) (e := -1) (.inr rfl) (by rw [cross_flip a b c]; omega) (by rw [cross_flip a b d]; omega)
   rw [apart_sym c d a b, e]
theorem meet_rev2 (a b c d : L.Pt) : L.meet b a d c = L.meet a b c d := by
 rw [meet_rev, <- meet_swap, meet_rev, meet_swap]
end Go.Proofs.YtaklapjfnejlbaaGreat
