/- A symbolic walk over the model, and what it shows of functions of the program: parts of the proof that the text of the row joins. -/
import Derived.Test.YtaklapjfnejlbaaGreatW3
import Derived.Test.YtaklapjfnejlbaaGreatE4
import Derived.KernelRfl
import Derived.Test.YtaklapjfnejlbaaGreatW2
namespace Go.Proofs.YtaklapjfnejlbaaGreat
open Go.SE Go.RowKit
set_option maxRecDepth 100000
set_option maxHeartbeats 4000000
set_option linter.unusedVariables false
attribute [local irreducible] vc
open Conf
def L.rH (l : L.Sq L.Pt) : L.Sq L.Pt := ⟨L.wrapN l, L.wrapG l⟩
def L.rK (l : L.Sq L.Pt) (i:Nat) : Int := L.ptIdx (L.rH l) (l.g i)
def L.rTo (l : L.Sq L.Pt) (i:Nat) : Int := L.ptIdx l ((L.rH l).g (L.ix (L.rH l).n (L.rK l i + 1)))
def L.rIs (l : L.Sq L.Pt) (i:Nat) : Bool := bif decide (L.rK l i < 0) then false else !decide (L.rTo l i = Int.tmod ((i:Int) + 1) (l.n:Int))
def L.chD (n:Nat) (fr to_:Int) : Nat := ((to_ - fr) % (n:Int)).toNat
def L.rch (l : L.Sq L.Pt) (fr to_:Int) : L.Sq L.Pt := ⟨L.chD l.n fr to_ + 1, fun j => l.g (L.ix l.n (fr + (j:Int)))⟩
def L.rPk (l : L.Sq L.Pt) (i:Nat) : L.Pocket := ⟨(i:Int), L.rTo l i, 0 - L.areaTo (L.rch l (i:Int) (L.rTo l i)) (L.rch l (i:Int) (L.rTo l i)).n⟩
def L.rPks (l : L.Sq L.Pt) : L.Sq L.Pocket := ⟨L.cnt (L.rIs l) l.n, fun j => L.rPk l (L.selN (L.rIs l) l.n j)⟩
def L.rPkN (l : L.Sq L.Pt) : Nat := bif L.validOutline l then (L.rPks l).n else 0
def L.samePk (a b : L.Sq L.Pocket) : Bool := bif decide ((a.n:Int) = b.n) then L.allB a.n (fun i => decide ((a.g i).fr = (b.g i).fr) && (decide ((a.g i).to_ = (b.g i).to_) && decide ((a.g i).area = (b.g i).area))) else false
theorem same_comm (a b : L.Pt) : L.same a b = (decide (b.x = a.x) && decide (b.y = a.y)) := by
 unfold L.same
 rw [show decide (a.x = b.x) = decide (b.x = a.x) from decide_eq_decide.2 ⟨Eq.symm, Eq.symm⟩, show decide (a.y = b.y) = decide (b.y = a.y) from decide_eq_decide.2 ⟨Eq.symm, Eq.symm⟩]
theorem chD_lt {n : Nat} (h : 0 < n) (fr to_:Int) : (L.chD n fr to_:Int) = (to_ - fr) % (n:Int) /\ L.chD n fr to_ < n := by
 have h0 := Int.emod_nonneg (to_ - fr) (show (n:Int) ≠ 0 by omega)
 have h1 := Int.emod_lt_of_pos (to_ - fr) (show 0 < (n:Int) by omega)
 unfold L.chD; omega
theorem chD_end {n : Nat} (h : 0 < n) {fr to_ : Int} (hf : 0 <= fr) (ht : 0 <= to_) {j : Nat} (hj : j <= L.chD n fr to_) : Int.tmod (fr + (j:Int)) (n:Int) = Int.tmod to_ (n:Int) ↔ j = L.chD n fr to_ := by
 obtain ⟨e, hlt⟩ := chD_lt h fr to_
 rw [Int.tmod_eq_emod_of_nonneg (by omega), Int.tmod_eq_emod_of_nonneg ht]
 constructor
 · intro q
   have q1 : (to_ - fr - (j:Int)) % (n:Int) = 0 := by
     rw [show to_ - fr - (j:Int) = to_ - (fr + (j:Int)) by omega, Int.sub_emod, q, Int.sub_self, Int.zero_emod]
   have q2 : ((L.chD n fr to_:Int) - (j:Int)) % (n:Int) = 0 := by
     rw [e, Int.sub_emod, Int.emod_emod, <- Int.sub_emod]; exact q1
   rw [Int.emod_eq_of_lt (by omega) (by omega)] at q2
   omega
 · intro q
   subst q
   rw [e, Int.add_emod, Int.emod_emod, <- Int.add_emod, show fr + (to_ - fr) = to_ by omega]
theorem rch_small {l : L.Sq L.Pt} (hs : L.small l) (h1 : 1 <= l.n) (hn : l.n <= 999) (fr to_:Int) : L.small (L.rch l fr to_) := by
 have := (chD_lt (n := l.n) (by omega) fr to_).2
 exact ⟨by show L.chD l.n fr to_ + 1 <= 1000; omega, fun i _ => hs.2 _ (ix_lt (by omega))⟩
theorem rH_bd {l : L.Sq L.Pt} : L.wrapN l <= 401 /\ 1 <= L.wrapN l := by
 unfold L.wrapN
 rcases idx_spec (f := L.wrapP l) (n := 401) with ⟨h, _⟩ | ⟨i, hi, e, _⟩
 · rw [h]; exact ⟨by decide, by decide⟩
 · rw [e, Int.toNat_natCast]; omega
theorem ptIdx_bd (l : L.Sq L.Pt) (v : L.Pt) : -1 <= L.ptIdx l v /\ L.ptIdx l v < (l.n:Int) := by
 unfold L.ptIdx
 rcases idx_spec (f := fun i => L.same v (l.g i)) (n := l.n) with ⟨h, _⟩ | ⟨i, hi, e, _⟩
 · rw [h]; omega
 · rw [e]; omega
theorem ptIdx_at {l : L.Sq L.Pt} {v : L.Pt} {i : Nat} (hi : i < l.n) (h0 : ∀ j, j < i -> L.same v (l.g j) = false) (h1 : L.same v (l.g i) = true) : L.ptIdx l v = (i:Int) := by
 unfold L.ptIdx
 rcases idx_spec (f := fun i => L.same v (l.g i)) (n := l.n) with ⟨_, h⟩ | ⟨k, hk, e, h2, h3⟩
 · rw [h i hi] at h1; cases h1
 · rw [e]
   rcases Nat.lt_trichotomy k i with q | q | q
   · rw [h0 k q] at h2; cases h2
   · rw [q]
   · rw [h3 i q] at h1; cases h1
theorem ptIdx_no {l : L.Sq L.Pt} {v : L.Pt} (h0 : ∀ j, j < l.n -> L.same v (l.g j) = false) : L.ptIdx l v = -1 := by
 unfold L.ptIdx
 rcases idx_spec (f := fun i => L.same v (l.g i)) (n := l.n) with ⟨h, _⟩ | ⟨k, hk, e, h2, h3⟩
 · exact h
 · rw [h0 k hk] at h2; cases h2
theorem scan_mem {g : Nat -> L.Pt} {f : L.Pt} : ∀ {n : Nat}, L.scan g f n = f \/ ∃ i, i < n /\ L.scan g f n = g i
 | 0 => .inl rfl
 | n + 1 => by
   unfold L.scan
   cases L.wrapC f (L.scan g f n) (g n) with
   | true => exact .inr ⟨n, Nat.lt_succ_self n, rfl⟩
   | false =>
     rcases scan_mem (g := g) (f := f) (n := n) with h | ⟨i, hi, h⟩
     · exact .inl h
     · exact .inr ⟨i, by omega, h⟩
theorem wrapG_mem {l : L.Sq L.Pt} (h1 : 1 <= l.n) : ∀ k, ∃ j, j < l.n /\ L.wrapG l k = l.g j
 | 0 => plc_in h1
 | k + 1 => by
   have e : L.wrapG l (k + 1) = L.scan l.g (L.wrapG l k) l.n := rfl
   rw [e]
   rcases scan_mem (g := l.g) (f := L.wrapG l k) (n := l.n) with h | ⟨i, hi, h⟩
   · rw [h]; exact wrapG_mem h1 k
   · exact ⟨i, hi, h⟩
theorem rTo_bd {l : L.Sq L.Pt} (h1 : 1 <= l.n) (i:Nat) : 0 <= L.rTo l i /\ L.rTo l i < (l.n:Int) := by
 obtain ⟨j, hj, e⟩ := wrapG_mem h1 (L.ix (L.rH l).n (L.rK l i + 1))
 obtain ⟨k, hk, e2, _⟩ := ptIdx_of (l := l) hj
 have : L.rTo l i = (k:Int) := by
   unfold L.rTo
   show L.ptIdx l (L.wrapG l _) = _
   rw [e, e2]
 rw [this]; omega
def r1_index_p (l : (L.Sq L.Pt)) (p : L.Pt) : Prop := l.n <= 1000000
def r1_index_r (l : (L.Sq L.Pt)) (p : L.Pt) : SV := .int .i64 (L.ptIdx l p)
def r1_index_s : List EV -> Option (Prop × SV)
 | [.p (.sl 2 l_n l_g), .p (.agg [.int .i64 p_x, .int .i64 p_y])] => some ((∀ i, i < l_n -> l_g i = [.int .i64 ((ofPt (l_g i)).x), .int .i64 ((ofPt (l_g i)).y)]) /\ r1_index_p (⟨l_n, fun i => ofPt (l_g i)⟩ : (L.Sq L.Pt)) (⟨p_x, p_y⟩ : L.Pt), r1_index_r (⟨l_n, fun i => ofPt (l_g i)⟩ : (L.Sq L.Pt)) (⟨p_x, p_y⟩ : L.Pt))
 | _ => none
abbrev r1_index_S : SE.Spec := (specO r1_index_s)
def r1_index_C : Cfg := { muts := [], frz := lookN [], specs := lookS [], loops := fun _ => none, iters := lookI [], rfs := lookR [], nils := lookM [] }
theorem r1_index_vc (l : (L.Sq L.Pt)) (p : L.Pt) (hp : r1_index_p l p) : vc Tryz.prog ({ r1_index_C with loops := lookL [(2, { T := Nat, keep := [0, 3], keepO := [], chg := fun i => [(5, .p (.int .i64 (i:Int)))], own := fun _ => [], inv := fun i => i <= l.n /\ ∀ j, j < i -> L.same p (l.g j) = false, mu := fun i => l.n - i })], rfs := lookR [] }) (bodyOf Tryz.f40) (st0 Tryz.f40 [.p (.sl 2 l.n (fun i => [.int .i64 ((l.g i).x), .int .i64 ((l.g i).y)])), .p (.agg [.int .i64 p.x, .int .i64 p.y])]) (retFn Tryz.prog Tryz.f40 (r1_index_r l p)) :=
 @Eq.mpr _ (let I := SV.int .i64; let T := Int.toNat; let A4 := (↑l.n:Int); (∃ (g:Nat), (0:Int) = (↑g:Int) /\ g <= l.n /\ ∀ (j:Nat), j < g -> L.same p (l.g j) = false) /\ ∀ (g:Nat), let A2 := (↑g:Int); let A1 := (decide ((l.g (T A2)).x = p.x) && decide ((l.g (T A2)).y = p.y)); (g <= l.n /\ ∀ (j:Nat), j < g -> L.same p (l.g j) = false) -> (decide (A2 < A4) = true -> ((0:Int) <= A2 /\ A2 < A4) /\ (A1 = true -> A2 = L.ptIdx l p) /\ (A1 = false -> InK .i64 (A2 + (1:Int)) /\ ∃ (g':Nat), A2 + (1:Int) = (↑g':Int) /\ SV.ref [I p.x, I p.y] (nat_lit 0) = SV.ref [I p.x, I p.y] (nat_lit 0) /\ (l.n = l.n /\ ∀ (i:Nat), let A3 := [I (l.g i).x, I (l.g i).y]; i < l.n -> A3 = A3) /\ (g' <= l.n /\ ∀ (j:Nat), j < g' -> L.same p (l.g j) = false) /\ l.n - g' < l.n - g)) /\ (decide (A2 < A4) = false -> (-1:Int) = L.ptIdx l p)) (by kernel_rfl) (by
 conv => zeta
 have hn : l.n <= 1000000 := hp
 refine ⟨⟨0, rfl, Nat.zero_le _, fun j hj => absurd hj (Nat.not_lt_zero _)⟩, fun g hg => ⟨fun hlt => ?_, fun hge => ?_⟩⟩
 · have hlt : (g:Int) < (l.n:Int) := of_decide_eq_true hlt
   have e0 : ((g:Int)).toNat = g := Int.toNat_natCast g
   rw [e0, <- same_comm]
   refine ⟨⟨by omega, hlt⟩, fun h => (ptIdx_at (by omega) hg.2 h).symm, fun h => ⟨iK, g + 1, rfl, rfl, ⟨rfl, fun _ _ => rfl⟩, ⟨by omega, fun j hj => ?_⟩, by omega⟩⟩
   rcases Nat.lt_succ_iff_lt_or_eq.1 hj with h' | rfl
   · exact hg.2 j h'
   · exact h
 · have hge : ¬ (g:Int) < (l.n:Int) := of_decide_eq_false hge
   exact (ptIdx_no (fun j hj => hg.2 j (by omega))).symm)
theorem r1_index_ok : SpecOk Tryz.prog 40 r1_index_S := fnX Tryz.func40 (c := bodyOf Tryz.f40) (by kernel_rfl) mixed (fun args p r hs hp => by
 unfold r1_index_s at hs
 split at hs
 · cases hs; exact ⟨_, _, r1_index_vc _ _ hp.2, (.p (.sl hp.1) (.same _ .nil)), ⟨show SpecsL Tryz.prog _ from SpecsL.nil, rfl, ⟨show ItersL Tryz.prog _ from ItersL.nil, (TrsOk.none (fun _ => rfl))⟩⟩⟩
 · cases hs)
theorem r1_index_en : Enters Tryz.prog 40 := fun args w => by kernel_rfl
def r1_chain_p (l : (L.Sq L.Pt)) (fr:Int) (to_:Int) : Prop := (1 <= l.n /\ l.n <= 1000) /\ (0 <= fr /\ fr <= 1000) /\ 0 <= to_ /\ to_ <= 1000
def r1_chain_r (l : (L.Sq L.Pt)) (fr:Int) (to_:Int) : SV := .sl 2 (L.rch l fr to_).n (fun k => [.int .i64 (((L.rch l fr to_).g k).x), .int .i64 (((L.rch l fr to_).g k).y)])
def r1_chain_s : List EV -> Option (Prop × SV)
 | [.p (.sl 2 l_n l_g), .p (.int .i64 fr), .p (.int .i64 to_)] => some ((∀ i, i < l_n -> l_g i = [.int .i64 ((ofPt (l_g i)).x), .int .i64 ((ofPt (l_g i)).y)]) /\ r1_chain_p (⟨l_n, fun i => ofPt (l_g i)⟩ : (L.Sq L.Pt)) fr to_, r1_chain_r (⟨l_n, fun i => ofPt (l_g i)⟩ : (L.Sq L.Pt)) fr to_)
 | _ => none
abbrev r1_chain_S : SE.Spec := (specO r1_chain_s)
def r1_chain_C : Cfg := { cC with muts := [12], specs := lookS [(41, r1_at_S)] }
theorem r1_chain_vc (l : (L.Sq L.Pt)) (fr:Int) (to_:Int) (hp : r1_chain_p l fr to_) : vc Tryz.prog ({ r1_chain_C with loops := lookL [(3, { T := Nat, keep := [0, 1, 2], keepO := [], chg := fun j => [(7, .row 12), (8, .p (.int .i64 (fr + (j:Int))))], own := fun j => [(12, .row 45 2 (j + 1) (fun k => [.int .i64 ((l.g (L.ix l.n (fr + (k:Int)))).x), .int .i64 ((l.g (L.ix l.n (fr + (k:Int)))).y)]))], inv := fun j => j <= L.chD l.n fr to_, mu := fun j => L.chD l.n fr to_ - j })], rfs := lookR [] }) (bodyOf Tryz.f43) (st0 Tryz.f43 [.p (.sl 2 l.n (fun i => [.int .i64 ((l.g i).x), .int .i64 ((l.g i).y)])), .p (.int .i64 fr), .p (.int .i64 to_)]) (retFn Tryz.prog Tryz.f43 (r1_chain_r l fr to_)) :=
 @Eq.mpr _ (let I := SV.int .i64; let A14 := (1:Int); let A11 := (L.rch l fr to_); let A10 := (↑l.n:Int); let A3 := (1:Nat); let A2 := (∀ (i:Nat), let A12 := [I (l.g i).x, I (l.g i).y]; i < l.n -> A12 = A12); (A2 /\ A3 <= l.n /\ l.n <= (1000000:Nat) /\ (-1000000:Int) <= fr /\ fr <= (1000000:Int)) /\ (∃ (g:Nat), fr = fr + (↑g:Int) /\ (nat_lit 1 = g + A3 /\ ∀ (i:Nat), let A5 := (l.g (L.ix l.n (fr + (↑i:Int)))); i < nat_lit 1 -> rowsOf [I (l.g (L.ix l.n fr)).x, I (l.g (L.ix l.n fr)).y] (nat_lit 2) i = [I A5.x, I A5.y]) /\ g <= L.chD l.n fr to_) /\ ∀ (g:Nat), let A9 := (↑g:Int); let A4 := (fr + A9 + A14); let A1 := (!decide (Int.tmod (fr + A9) A10 = Int.tmod to_ A10)); g <= L.chD l.n fr to_ -> A10 ≠ (0:Int) /\ A10 ≠ (0:Int) /\ (A1 = true -> InK .i64 A4 /\ (A2 /\ A3 <= l.n /\ l.n <= (1000000:Nat) /\ (-1000000:Int) <= fr + A9 + A14 /\ fr + A9 + A14 <= (1000000:Int)) /\ (g + A3 + nat_lit 1) * nat_lit 16 <= (140737488355328:Nat) /\ ∃ (g':Nat), fr + A9 + A14 = fr + (↑g':Int) /\ (l.n = l.n /\ ∀ (i:Nat), let A13 := [I (l.g i).x, I (l.g i).y]; i < l.n -> A13 = A13) /\ fr = fr /\ to_ = to_ /\ (g + A3 + nat_lit 1 = g' + A3 /\ ∀ (i:Nat), let A7 := (l.g (L.ix l.n (fr + (↑i:Int)))); i < g + A3 + nat_lit 1 -> appGet (g + A3) (fun (k:Nat) => let A6 := (l.g (L.ix l.n (fr + (↑k:Int)))); [I A6.x, I A6.y]) (fun (x:Nat) => [I (l.g (L.ix l.n A4)).x, I (l.g (L.ix l.n A4)).y]) i = [I A7.x, I A7.y]) /\ g' <= L.chD l.n fr to_ /\ L.chD l.n fr to_ - g' < L.chD l.n fr to_ - g) /\ (A1 = false -> g + A3 = A11.n /\ ∀ (i:Nat), let A8 := (l.g (L.ix l.n (fr + (↑i:Int)))); i < g + A3 -> [I A8.x, I A8.y] = [I (A11.g i).x, I (A11.g i).y])) (by kernel_rfl) (by
 conv => zeta
 obtain ⟨⟨h1, hn⟩, ⟨f0, f1⟩, t0, t1⟩ := hp
 have hlt := (chD_lt (n := l.n) (by omega) fr to_).2
 refine ⟨⟨fun _ _ => rfl, h1, by omega, by omega, by omega⟩, ⟨0, by omega, ⟨rfl, fun i hi => ?_⟩, Nat.zero_le _⟩, fun g hg => ?_⟩
 · have hi : i < 1 := hi
   obtain rfl : i = 0 := by omega
   rw [show fr + ((0:Nat):Int) = fr by omega]; rfl
 have hE := chD_end (n := l.n) (by omega) f0 t0 hg
 refine ⟨by omega, by omega, fun hd => ?_, fun hd => ?_⟩
 · have hd := of_decide_eq_false (notT hd)
   have hgc : g ≠ L.chD l.n fr to_ := fun e => hd (hE.2 e)
   refine ⟨iK, ⟨fun _ _ => rfl, h1, by omega, by omega, by omega⟩, show (g + 1 + 1) * 16 <= 140737488355328 by omega, g + 1, by omega, ⟨rfl, fun _ _ => rfl⟩, rfl, rfl, ⟨rfl, fun i hi => ?_⟩, by omega, by omega⟩
   unfold appGet
   have hi : i < g + 1 + 1 := hi
   by_cases h' : i < g + 1
   · rw [if_pos h']
   · rw [if_neg h']
     obtain rfl : i = g + 1 := by omega
     rw [show fr + ((g + 1:Nat):Int) = fr + (g:Int) + 1 by omega]
 · have hd := of_decide_eq_true (notF hd)
   have hgc := hE.1 hd
   exact ⟨by show g + 1 = L.chD l.n fr to_ + 1; omega, fun _ _ => rfl⟩)
theorem r1_chain_ok : SpecOk Tryz.prog 43 r1_chain_S := fnX Tryz.func43 (c := bodyOf Tryz.f43) (by kernel_rfl) mixed (fun args p r hs hp => by
 unfold r1_chain_s at hs
 split at hs
 · cases hs; exact ⟨_, _, r1_chain_vc _ _ _ hp.2, (.p (.sl hp.1) (.same _ (.same _ .nil))), ⟨show SpecsL Tryz.prog _ from (SpecsL.cons r1_at_ok r1_at_en SpecsL.nil), rfl, ⟨show ItersL Tryz.prog _ from ItersL.nil, (TrsOk.none (fun _ => rfl))⟩⟩⟩
 · cases hs)
theorem r1_chain_en : Enters Tryz.prog 43 := fun args w => by kernel_rfl
def r1_Pockets_p (l : (L.Sq L.Pt)) : Prop := l.n <= 1000000
def r1_Pockets_r (l : (L.Sq L.Pt)) : SV := .tup [.sl 3 (L.rPkN l) (fun i => [.int .i64 (((L.rPks l).g i).fr), .int .i64 (((L.rPks l).g i).to_), .int .i64 (((L.rPks l).g i).area)]), .int .i64 (bif L.validOutline l then 0 else 1)]
def r1_Pockets_s : List EV -> Option (Prop × SV)
 | [.p (.sl 2 l_n l_g)] => some ((∀ i, i < l_n -> l_g i = [.int .i64 ((ofPt (l_g i)).x), .int .i64 ((ofPt (l_g i)).y)]) /\ r1_Pockets_p (⟨l_n, fun i => ofPt (l_g i)⟩ : (L.Sq L.Pt)), r1_Pockets_r (⟨l_n, fun i => ofPt (l_g i)⟩ : (L.Sq L.Pt)))
 | _ => none
abbrev r1_Pockets_S : SE.Spec := (specO r1_Pockets_s)
def r1_Pockets_C : Cfg := { cC with specs := lookS [(39, r1_ValidOutline_S), (31, r1_wrap_S), (40, r1_index_S), (41, r1_at_S), (43, r1_chain_S), (42, r1_sum_S)], nils := lookM [(5, [(5, 52, 47, 3)])] }
theorem r1_Pockets_vc (l : (L.Sq L.Pt)) (hp : r1_Pockets_p l) : vc Tryz.prog ({ r1_Pockets_C with loops := lookL [(6, { T := Nat, keep := [0, 4], keepO := [], chg := fun i => [(5, .row 52), (6, .p (.int .i64 (i:Int)))], own := fun i => [(52, .row 47 3 (L.cnt (L.rIs l) i) (fun k => [.int .i64 ((L.rPk l (L.selN (L.rIs l) i k)).fr), .int .i64 ((L.rPk l (L.selN (L.rIs l) i k)).to_), .int .i64 ((L.rPk l (L.selN (L.rIs l) i k)).area)]))], inv := fun i => i <= l.n, mu := fun i => l.n - i })], rfs := lookR [] }) (bodyOf Tryz.f10) (st0 Tryz.f10 [.p (.sl 2 l.n (fun i => [.int .i64 ((l.g i).x), .int .i64 ((l.g i).y)]))]) (retFn Tryz.prog Tryz.f10 (r1_Pockets_r l)) :=
 @Eq.mpr _ (let I := SV.int .i64; let T := Int.toNat; let A38 := (1000000:Nat); let A31 := (↑l.n:Int); let A22 := (0:Int); let A19 := (1:Int); let A12 := (l.n = l.n /\ ∀ (i:Nat), let A39 := [I (l.g i).x, I (l.g i).y]; i < l.n -> A39 = A39); let A11 := (L.rIs l); let A9 := (∀ (i:Nat), let A40 := [I (l.g i).x, I (l.g i).y]; i < l.n -> A40 = A40); let A8 := (∀ (i:Nat), let A32 := (L.Sq.mk l.n fun (i:Nat) => l.g i); let A14 := (L.wrapG A32 i); i < L.wrapN A32 -> [I A14.x, I A14.y] = [I A14.x, I A14.y]); let A3 := (L.Sq.mk l.n fun (i:Nat) => l.g i); let A7 := (L.Sq.mk (L.wrapN A3) fun (i:Nat) => L.wrapG (L.Sq.mk l.n fun (i:Nat) => l.g i) i); let A4 := (L.wrapN A3 = L.wrapN A3 /\ ∀ (i:Nat), let A33 := (L.Sq.mk l.n fun (i:Nat) => l.g i); let A15 := (L.wrapG A33 i); i < L.wrapN A33 -> [I A15.x, I A15.y] = [I A15.x, I A15.y]); (A9 /\ True) /\ ((!L.validOutline A3) = true -> L.rPkN l = (0:Nat) /\ A19 = bif L.validOutline l then A22 else A19) /\ ((!L.validOutline A3) = false -> (A9 /\ (1:Nat) <= l.n /\ l.n <= (1000:Nat) /\ ∀ (k:Nat), k < l.n -> L.bd (l.g k)) /\ (∃ (g:Nat), A22 = (↑g:Int) /\ (nat_lit 0 = L.cnt A11 g /\ ∀ (i:Nat), let A26 := (L.rPk l (L.selN A11 g i)); i < nat_lit 0 -> [] = [I A26.fr, I A26.to_, I A26.area]) /\ g <= l.n) /\ ∀ (g:Nat), let A10 := (↑g:Int); let A34 := (A10 + A19); let A20 := (l.g (T A10)); let A41 := (L.ptIdx A7 A20 + A19); let A1 := (L.wrapG A3 (L.ix (L.wrapN A3) A41)); let A35 := (L.rch A3 A10 (L.ptIdx A3 A1)); let A21 := (!decide (L.ptIdx A3 A1 = Int.tmod A34 A31)); let A6 := (L.Sq.mk A35.n fun (i:Nat) => let A16 := (L.Sq.mk l.n fun (i:Nat) => l.g i); (L.rch A16 A10 (L.ptIdx A16 (L.wrapG A16 (L.ix (L.wrapN A16) (L.ptIdx (L.Sq.mk (L.wrapN A16) fun (i:Nat) => L.wrapG (L.Sq.mk l.n fun (i:Nat) => l.g i) i) A20 + A19))))).g i); g <= l.n -> (decide (A10 < A31) = true -> (A22 <= A10 /\ A10 < A31) /\ (A8 /\ L.wrapN A3 <= A38) /\ (decide (L.ptIdx A7 A20 < A22) = true -> InK .i64 A34 /\ ∃ (g':Nat), A10 + A19 = (↑g':Int) /\ A4 /\ A12 /\ (L.cnt A11 g = L.cnt A11 g' /\ ∀ (i:Nat), let A27 := (L.rPk l (L.selN A11 g i)); let A23 := (L.rPk l (L.selN A11 g' i)); i < L.cnt A11 g -> [I A27.fr, I A27.to_, I A27.area] = [I A23.fr, I A23.to_, I A23.area]) /\ g' <= l.n /\ l.n - g' < l.n - g) /\ (decide (L.ptIdx A7 A20 < A22) = false -> InK .i64 A41 /\ (A8 /\ (1:Nat) <= L.wrapN A3 /\ L.wrapN A3 <= A38 /\ (-1000000:Int) <= L.ptIdx A7 A20 + A19 /\ L.ptIdx A7 A20 + A19 <= (1000000:Int)) /\ (A9 /\ l.n <= A38) /\ InK .i64 A34 /\ A31 ≠ A22 /\ (A21 = true -> (A9 /\ ((1:Nat) <= l.n /\ l.n <= (1000:Nat)) /\ (A22 <= A10 /\ A10 <= (1000:Int)) /\ A22 <= L.ptIdx A3 A1 /\ L.ptIdx A3 A1 <= (1000:Int)) /\ ((∀ (i:Nat), let A17 := (L.Sq.mk l.n fun (i:Nat) => l.g i); let A2 := (L.rch A17 A10 (L.ptIdx A17 (L.wrapG A17 (L.ix (L.wrapN A17) (L.ptIdx (L.Sq.mk (L.wrapN A17) fun (i:Nat) => L.wrapG (L.Sq.mk l.n fun (i:Nat) => l.g i) i) A20 + A19))))); let A37 := [I (A2.g i).x, I (A2.g i).y]; i < A2.n -> A37 = A37) /\ L.small A6) /\ InK .i64 (A22 - L.areaTo A6 A35.n) /\ (L.cnt A11 g + nat_lit 1) * nat_lit 24 <= (140737488355328:Nat) /\ InK .i64 A34 /\ ∃ (g':Nat), A10 + A19 = (↑g':Int) /\ A4 /\ A12 /\ (L.cnt A11 g + nat_lit 1 = L.cnt A11 g' /\ ∀ (i:Nat), let A24 := (L.rPk l (L.selN A11 g' i)); let A13 := (L.Sq.mk l.n fun (i:Nat) => l.g i); let A5 := (L.ptIdx A13 (L.wrapG A13 (L.ix (L.wrapN A13) (L.ptIdx (L.Sq.mk (L.wrapN A13) fun (i:Nat) => L.wrapG (L.Sq.mk l.n fun (i:Nat) => l.g i) i) A20 + A19)))); i < L.cnt A11 g + nat_lit 1 -> appGet (L.cnt A11 g) (fun (k:Nat) => let A28 := (L.rPk l (L.selN A11 g k)); [I A28.fr, I A28.to_, I A28.area]) (fun (x:Nat) => [I A10, I A5, I (A22 - L.areaTo (L.Sq.mk (L.rch A13 A10 A5).n fun (i:Nat) => let A18 := (L.Sq.mk l.n fun (i:Nat) => l.g i); (L.rch A18 A10 (L.ptIdx A18 (L.wrapG A18 (L.ix (L.wrapN A18) (L.ptIdx (L.Sq.mk (L.wrapN A18) fun (i:Nat) => L.wrapG (L.Sq.mk l.n fun (i:Nat) => l.g i) i) A20 + A19))))).g i) (L.rch A13 A10 A5).n)]) i = [I A24.fr, I A24.to_, I A24.area]) /\ g' <= l.n /\ l.n - g' < l.n - g) /\ (A21 = false -> InK .i64 A34 /\ ∃ (g':Nat), A10 + A19 = (↑g':Int) /\ A4 /\ A12 /\ (L.cnt A11 g = L.cnt A11 g' /\ ∀ (i:Nat), let A29 := (L.rPk l (L.selN A11 g i)); let A25 := (L.rPk l (L.selN A11 g' i)); i < L.cnt A11 g -> [I A29.fr, I A29.to_, I A29.area] = [I A25.fr, I A25.to_, I A25.area]) /\ g' <= l.n /\ l.n - g' < l.n - g))) /\ (decide (A10 < A31) = false -> (L.cnt A11 g = L.rPkN l /\ ∀ (i:Nat), let A36 := ((L.rPks l).g i); let A30 := (L.rPk l (L.selN A11 g i)); i < L.cnt A11 g -> [I A30.fr, I A30.to_, I A30.area] = [I A36.fr, I A36.to_, I A36.area]) /\ A22 = bif L.validOutline l then A22 else A19))) (by kernel_rfl) (by
 conv => zeta
 have hn : l.n <= 1000000 := hp
 refine ⟨⟨fun _ _ => rfl, trivial⟩, fun h => ?_, fun h => ?_⟩
 · have hv : L.validOutline l = false := notT h
   unfold L.rPkN; rw [hv]; exact ⟨rfl, rfl⟩
 have hv : L.validOutline l = true := notF h
 obtain ⟨n3, n24, hsm, hbd⟩ := validOutline_of hv
 have hW := rH_bd (l := l)
 refine ⟨⟨fun _ _ => rfl, by omega, by omega, hbd.2⟩, ⟨0, rfl, ⟨rfl, fun i hi => absurd hi (Nat.not_lt_zero _)⟩, Nat.zero_le _⟩, fun g hg => ⟨fun hlt => ?_, fun hge => ?_⟩⟩
 rotate_left
 · have hge : ¬ (g:Int) < (l.n:Int) := of_decide_eq_false hge
   obtain rfl : g = l.n := by omega
   refine ⟨⟨?_, fun _ _ => rfl⟩, by rw [hv]; rfl⟩
   unfold L.rPkN; rw [hv]; rfl
 have hlt : (g:Int) < (l.n:Int) := of_decide_eq_true hlt
 have e0 : ((g:Int)).toNat = g := Int.toNat_natCast g
 have eK : L.ptIdx (L.Sq.mk (L.wrapN l) fun i => L.wrapG l i) (l.g g) = L.rK l g := rfl
 have eT : L.ptIdx l (L.wrapG l (L.ix (L.wrapN l) (L.rK l g + 1))) = L.rTo l g := rfl
 rw [e0, eK, eT]
 have hKb : -1 <= L.rK l g /\ L.rK l g < (L.wrapN l:Int) := ptIdx_bd (L.rH l) _
 have hT := rTo_bd (l := l) (by omega) g
 have hck : L.cnt (L.rIs l) g <= g := cnt_le
 refine ⟨⟨by omega, hlt⟩, ⟨fun _ _ => rfl, show L.wrapN l <= 1000000 by omega⟩, fun hk => ?_, fun hk => ?_⟩
 · have hp : L.rIs l g = false := by unfold L.rIs; rw [hk]; rfl
   exact ⟨iK, g + 1, rfl, ⟨rfl, fun _ _ => rfl⟩, ⟨rfl, fun _ _ => rfl⟩, ⟨(cnt_not hp).symm, fun i hi => by rw [selN_not hp]⟩, by omega, by omega⟩
 have hk' := of_decide_eq_false hk
 refine ⟨iK, ⟨fun _ _ => rfl, show 1 <= L.wrapN l by omega, show L.wrapN l <= 1000000 by omega, by omega, by omega⟩, ⟨fun _ _ => rfl, hn⟩, iK, by omega, fun hd => ?_, fun hd => ?_⟩
 · have hp : L.rIs l g = true := by unfold L.rIs; rw [hk, cond_false]; exact hd
   have hs := rch_small hsm (by omega) (by omega) (g:Int) (L.rTo l g)
   have hab := areaTo_bd hs (L.rch l (g:Int) (L.rTo l g)).n (Nat.le_refl _)
   have hsn := hs.1
   refine ⟨⟨fun _ _ => rfl, ⟨by omega, by omega⟩, ⟨by omega, by omega⟩, hT.1, by omega⟩, ⟨fun _ _ => rfl, hs⟩, InK.of (by show _ <= 0 - L.areaTo (L.rch l (g:Int) (L.rTo l g)) (L.rch l (g:Int) (L.rTo l g)).n; omega) (by show 0 - L.areaTo (L.rch l (g:Int) (L.rTo l g)) (L.rch l (g:Int) (L.rTo l g)).n <= _; omega), show (L.cnt (L.rIs l) g + 1) * 24 <= 140737488355328 by omega, iK, g + 1, rfl, ⟨rfl, fun _ _ => rfl⟩, ⟨rfl, fun _ _ => rfl⟩, ⟨(cnt_yes hp).symm, fun i hi => ?_⟩, by omega, by omega⟩
   have hi : i < L.cnt (L.rIs l) g + 1 := hi
   unfold appGet
   by_cases h' : i < L.cnt (L.rIs l) g
   · rw [if_pos h', selN_old (Nat.ne_of_lt h')]
   · rw [if_neg h']
     obtain rfl : i = L.cnt (L.rIs l) g := by omega
     rw [selN_new hp]; rfl
 · have hp : L.rIs l g = false := by unfold L.rIs; rw [hk, cond_false]; exact hd
   exact ⟨iK, g + 1, rfl, ⟨rfl, fun _ _ => rfl⟩, ⟨rfl, fun _ _ => rfl⟩, ⟨(cnt_not hp).symm, fun i hi => by rw [selN_not hp]⟩, by omega, by omega⟩)
theorem r1_Pockets_ok : SpecOk Tryz.prog 10 r1_Pockets_S := fnX Tryz.func10 (c := bodyOf Tryz.f10) (by kernel_rfl) mixed (fun args p r hs hp => by
 unfold r1_Pockets_s at hs
 split at hs
 · cases hs; exact ⟨_, _, r1_Pockets_vc _ hp.2, (.p (.sl hp.1) .nil), ⟨show SpecsL Tryz.prog _ from (SpecsL.cons r1_ValidOutline_ok r1_ValidOutline_en (SpecsL.cons r1_wrap_ok r1_wrap_en (SpecsL.cons r1_index_ok r1_index_en (SpecsL.cons r1_at_ok r1_at_en (SpecsL.cons r1_chain_ok r1_chain_en (SpecsL.cons r1_sum_ok r1_sum_en SpecsL.nil)))))), rfl, ⟨show ItersL Tryz.prog _ from ItersL.nil, (TrsOk.none (fun _ => rfl))⟩⟩⟩
 · cases hs)
theorem r1_Pockets_en : Enters Tryz.prog 10 := fun args w => by kernel_rfl
def w_samePk_p (a : (L.Sq L.Pocket)) (b : (L.Sq L.Pocket)) : Prop := a.n <= 1000000
def w_samePk_r (a : (L.Sq L.Pocket)) (b : (L.Sq L.Pocket)) : SV := .bool (L.samePk a b)
def w_samePk_s : List EV -> Option (Prop × SV)
 | [.p (.sl 3 a_n a_g), .p (.sl 3 b_n b_g)] => some ((∀ i, i < a_n -> a_g i = [.int .i64 ((ofPocket (a_g i)).fr), .int .i64 ((ofPocket (a_g i)).to_), .int .i64 ((ofPocket (a_g i)).area)]) /\ (∀ i, i < b_n -> b_g i = [.int .i64 ((ofPocket (b_g i)).fr), .int .i64 ((ofPocket (b_g i)).to_), .int .i64 ((ofPocket (b_g i)).area)]) /\ w_samePk_p (⟨a_n, fun i => ofPocket (a_g i)⟩ : (L.Sq L.Pocket)) (⟨b_n, fun i => ofPocket (b_g i)⟩ : (L.Sq L.Pocket)), w_samePk_r (⟨a_n, fun i => ofPocket (a_g i)⟩ : (L.Sq L.Pocket)) (⟨b_n, fun i => ofPocket (b_g i)⟩ : (L.Sq L.Pocket)))
 | _ => none
abbrev w_samePk_S : SE.Spec := (specO w_samePk_s)
def w_samePk_C : Cfg := { muts := [], frz := lookN [], specs := lookS [], loops := fun _ => none, iters := lookI [], rfs := lookR [], nils := lookM [] }
theorem w_samePk_vc (a : (L.Sq L.Pocket)) (b : (L.Sq L.Pocket)) (hp : w_samePk_p a b) : vc Tryz.prog ({ w_samePk_C with loops := lookL [(4, { T := Nat, keep := [0, 1], keepO := [], chg := fun i => [(5, .p (.int .i64 (i:Int)))], own := fun _ => [], inv := fun i => i <= a.n /\ ∀ j, j < i -> (decide ((a.g j).fr = (b.g j).fr) && (decide ((a.g j).to_ = (b.g j).to_) && decide ((a.g j).area = (b.g j).area))) = true, mu := fun i => a.n - i })], rfs := lookR [] }) (bodyOf Tryz.f13) (st0 Tryz.f13 [.p (.sl 3 a.n (fun i => [.int .i64 ((a.g i).fr), .int .i64 ((a.g i).to_), .int .i64 ((a.g i).area)])), .p (.sl 3 b.n (fun i => [.int .i64 ((b.g i).fr), .int .i64 ((b.g i).to_), .int .i64 ((b.g i).area)]))]) (retFn Tryz.prog Tryz.f13 (w_samePk_r a b)) :=
 @Eq.mpr _ (let I := SV.int .i64; let T := Int.toNat; let A6 := (↑a.n:Int); let A3 := (!decide (A6 = (↑b.n:Int))); (A3 = true -> false = L.samePk a b) /\ (A3 = false -> (∃ (g:Nat), (0:Int) = (↑g:Int) /\ g <= a.n /\ ∀ (j:Nat), j < g -> (decide ((a.g j).fr = (b.g j).fr) && (decide ((a.g j).to_ = (b.g j).to_) && decide ((a.g j).area = (b.g j).area))) = true) /\ ∀ (g:Nat), let A2 := (↑g:Int); let A8 := (b.g (T A2)); let A7 := (a.g (T A2)); let A1 := (!(decide (A7.fr = A8.fr) && (decide (A7.to_ = A8.to_) && decide (A7.area = A8.area)))); (g <= a.n /\ ∀ (j:Nat), j < g -> (decide ((a.g j).fr = (b.g j).fr) && (decide ((a.g j).to_ = (b.g j).to_) && decide ((a.g j).area = (b.g j).area))) = true) -> (decide (A2 < A6) = true -> ((0:Int) <= A2 /\ A2 < A6) /\ ((0:Int) <= A2 /\ A2 < (↑b.n:Int)) /\ (A1 = true -> false = L.samePk a b) /\ (A1 = false -> InK .i64 (A2 + (1:Int)) /\ ∃ (g':Nat), A2 + (1:Int) = (↑g':Int) /\ (a.n = a.n /\ ∀ (i:Nat), let A4 := [I (a.g i).fr, I (a.g i).to_, I (a.g i).area]; i < a.n -> A4 = A4) /\ (b.n = b.n /\ ∀ (i:Nat), let A5 := [I (b.g i).fr, I (b.g i).to_, I (b.g i).area]; i < b.n -> A5 = A5) /\ (g' <= a.n /\ ∀ (j:Nat), j < g' -> (decide ((a.g j).fr = (b.g j).fr) && (decide ((a.g j).to_ = (b.g j).to_) && decide ((a.g j).area = (b.g j).area))) = true) /\ a.n - g' < a.n - g)) /\ (decide (A2 < A6) = false -> true = L.samePk a b))) (by kernel_rfl) (by
 conv => zeta
 have hn : a.n <= 1000000 := hp
 refine ⟨fun h => ?_, fun h => ⟨⟨0, rfl, Nat.zero_le _, fun j hj => absurd hj (Nat.not_lt_zero _)⟩, fun g hg => ⟨fun hlt => ?_, fun hge => ?_⟩⟩⟩
 · unfold L.samePk; rw [notT h]; rfl
 · have hlt : (g:Int) < (a.n:Int) := of_decide_eq_true hlt
   have hab := of_decide_eq_true (notF h)
   have e0 : ((g:Int)).toNat = g := Int.toNat_natCast g
   rw [e0]
   refine ⟨⟨by omega, hlt⟩, ⟨by omega, by omega⟩, fun hd => ?_, fun hd => ⟨iK, g + 1, rfl, ⟨rfl, fun _ _ => rfl⟩, ⟨rfl, fun _ _ => rfl⟩, ⟨by omega, fun j hj => ?_⟩, by omega⟩⟩
   · unfold L.samePk
     rw [notF h, cond_true, allB_false (i := g) (by omega) (notT hd)]
   · rcases Nat.lt_succ_iff_lt_or_eq.1 hj with h' | rfl
     · exact hg.2 j h'
     · exact notF hd
 · have hge : ¬ (g:Int) < (a.n:Int) := of_decide_eq_false hge
   unfold L.samePk
   rw [notF h, cond_true]
   exact (allB_iff.2 (fun i hi => hg.2 i (by omega))).symm)
theorem w_samePk_ok : SpecOk Tryz.prog 13 w_samePk_S := fnX Tryz.func13 (c := bodyOf Tryz.f13) (by kernel_rfl) mixed (fun args p r hs hp => by
 unfold w_samePk_s at hs
 split at hs
 · cases hs; exact ⟨_, _, w_samePk_vc _ _ hp.2.2, (.p (.sl hp.1) (.p (.sl hp.2.1) .nil)), ⟨show SpecsL Tryz.prog _ from SpecsL.nil, rfl, ⟨show ItersL Tryz.prog _ from ItersL.nil, (TrsOk.none (fun _ => rfl))⟩⟩⟩
 · cases hs)
theorem w_samePk_en : Enters Tryz.prog 13 := fun args w => by kernel_rfl
end Go.Proofs.YtaklapjfnejlbaaGreat
namespace Go.Proofs.YtaklapjfnejlbaaGreat
open Go.SE Go.RowKit
set_option maxRecDepth 100000
set_option maxHeartbeats 4000000
set_option linter.unusedVariables false
attribute [local irreducible] vc
open Conf
structure L.Trg where
 a : Int
 b : Int
 c : Int
def ofTrg : List SV -> L.Trg
 | [.int _ a, .int _ b, .int _ c] => ⟨a, b, c⟩
 | _ => ⟨0, 0, 0⟩
def L.lp (l : L.Sq L.Pt) (f : L.Sq Int) (i:Nat) : L.Pt := l.g (f.g i).toNat
def L.inTri (a b c p : L.Pt) : Bool := bif bif bif bif bif !L.same p a then !L.same p b else false then !L.same p c else false then decide (0 <= L.cross a b p) else false then decide (0 <= L.cross b c p) else false then decide (0 <= L.cross c a p) else false
def L.ear (l : L.Sq L.Pt) (f : L.Sq Int) (i:Nat) : Bool := bif decide (L.cross (L.lp l f (L.prev f.n i)) (L.lp l f i) (L.lp l f (L.next f.n i)) <= 0) then false else !L.anyB f.n (fun k => L.inTri (L.lp l f (L.prev f.n i)) (L.lp l f i) (L.lp l f (L.next f.n i)) (L.lp l f k))
def L.inds (n:Nat) (f : L.Sq Int) : Prop := ∀ k, k < f.n -> 0 <= f.g k /\ f.g k < (n:Int)
def L.tri (a b c:Int) : L.Trg := ⟨min a (min b c), a + b + c - min a (min b c) - max a (max b c), max a (max b c)⟩
def L.earK (l : L.Sq L.Pt) (f : L.Sq Int) : Nat := bif decide ((3:Int) < (f.n:Int)) then (bif decide (L.idx (f.n - 1) (L.ear l f) < 0) then f.n - 1 else (L.idx (f.n - 1) (L.ear l f)).toNat) else 0
def L.rem (f : L.Sq Int) (i:Nat) : L.Sq Int := ⟨f.n - 1, fun j => bif decide (j < i) then f.g j else f.g (j + 1)⟩
def L.lft (l : L.Sq L.Pt) : Nat -> L.Sq Int
 | 0 => ⟨l.n, fun i => (i:Int)⟩
 | k + 1 => L.rem (L.lft l k) (L.earK l (L.lft l k))
def L.trg (l : L.Sq L.Pt) (k:Nat) : L.Trg := L.tri ((L.lft l k).g (L.prev (L.lft l k).n (L.earK l (L.lft l k)))) ((L.lft l k).g (L.earK l (L.lft l k))) ((L.lft l k).g (L.next (L.lft l k).n (L.earK l (L.lft l k))))
theorem ear_yes {l : L.Sq L.Pt} {f : L.Sq Int} {i : Nat} (h1 : ¬ L.cross (L.lp l f (L.prev f.n i)) (L.lp l f i) (L.lp l f (L.next f.n i)) <= 0) (h : ∀ j, j < f.n -> L.inTri (L.lp l f (L.prev f.n i)) (L.lp l f i) (L.lp l f (L.next f.n i)) (L.lp l f j) = false) : L.ear l f i = true := by
 unfold L.ear
 rw [decide_eq_false h1, anyB_no h]; rfl
theorem ear_no {l : L.Sq L.Pt} {f : L.Sq Int} {i : Nat} {j : Nat} (hj : j < f.n) (h : L.inTri (L.lp l f (L.prev f.n i)) (L.lp l f i) (L.lp l f (L.next f.n i)) (L.lp l f j) = true) : L.ear l f i = false := by
 unfold L.ear
 rw [anyB_iff.2 ⟨j, hj, h⟩]
 cases decide (L.cross (L.lp l f (L.prev f.n i)) (L.lp l f i) (L.lp l f (L.next f.n i)) <= 0) <;> rfl
theorem ear_low {l : L.Sq L.Pt} {f : L.Sq Int} {i : Nat} (h1 : L.cross (L.lp l f (L.prev f.n i)) (L.lp l f i) (L.lp l f (L.next f.n i)) <= 0) : L.ear l f i = false := by
 unfold L.ear
 rw [decide_eq_true h1]; rfl
def L.trN (l : L.Sq L.Pt) : Nat := bif L.validOutline l then l.n - 2 else 0
def L.sameTr (a b : L.Sq L.Trg) : Bool := bif decide ((a.n:Int) = b.n) then L.allB a.n (fun i => decide ((a.g i).a = (b.g i).a) && (decide ((a.g i).b = (b.g i).b) && decide ((a.g i).c = (b.g i).c))) else false
theorem lft_n {l : L.Sq L.Pt} : ∀ {k : Nat}, (L.lft l k).n = l.n - k
 | 0 => rfl
 | k + 1 => by
   show (L.lft l k).n - 1 = l.n - (k + 1)
   rw [lft_n]; omega
theorem rem_inds {n : Nat} {f : L.Sq Int} {i : Nat} (h : L.inds n f) : L.inds n (L.rem f i) := fun j hj => by
 have hj : j < f.n - 1 := hj
 show 0 <= (bif decide (j < i) then f.g j else f.g (j + 1)) /\ (bif decide (j < i) then f.g j else f.g (j + 1)) < (n:Int)
 cases decide (j < i) with
 | true => exact h j (by omega)
 | false => exact h (j + 1) (by omega)
theorem lft_inds {l : L.Sq L.Pt} : ∀ {k : Nat}, L.inds l.n (L.lft l k)
 | 0 => fun j hj => by
   have hj : j < l.n := hj
   show 0 <= (j:Int) /\ (j:Int) < (l.n:Int)
   omega
 | k + 1 => rem_inds lft_inds
theorem earK_of {l : L.Sq L.Pt} {f : L.Sq Int} {i : Nat} (hi : i < f.n) (h0 : f.n <= 3 -> i = 0) (hj : ∀ j, j < i -> L.ear l f j = false) (he : 3 < f.n -> i < f.n - 1 -> L.ear l f i = true) : L.earK l f = i := by
 unfold L.earK
 by_cases h3 : 3 < f.n
 · rw [decide_eq_true (p := (3:Int) < (f.n:Int)) (by omega)]
   show (bif decide (L.idx (f.n - 1) (L.ear l f) < 0) then f.n - 1 else (L.idx (f.n - 1) (L.ear l f)).toNat) = i
   by_cases hl : i < f.n - 1
   · rw [idx_at hj (he h3 hl) hl, decide_eq_false (by omega)]
     show ((i:Int)).toNat = i
     omega
   · rw [idx_none (fun j h => hj j (by omega))]
     show f.n - 1 = i
     omega
 · rw [decide_eq_false (p := (3:Int) < (f.n:Int)) (by omega)]
   exact (h0 (by omega)).symm
theorem tri_rot (a b c:Int) : L.tri c a b = L.tri a b c := by
 unfold L.tri
 rw [L.Trg.mk.injEq]
 omega
theorem sort3 {u f : Nat -> Int} (h : L.isSort 3 f u) : (⟨u 0, u 1, u 2⟩ : L.Trg) = L.tri (f 0) (f 1) (f 2) := by
 have h : (List.range 3).map u = ((List.range 3).map f).mergeSort (fun x y => decide (x <= y)) := h
 have hp : [u 0, u 1, u 2].Perm [f 0, f 1, f 2] := by
   have := List.mergeSort_perm ((List.range 3).map f) (fun x y => decide (x <= y))
   rw [<- h] at this
   exact this
 have hs : ([u 0, u 1, u 2] : List Int).Pairwise (fun x y => decide (x <= y) = true) := by
   have := List.pairwise_mergeSort (le := fun x y : Int => decide (x <= y)) (fun a b c h k => by simp at *; omega) (fun a b => by simp; omega) ((List.range 3).map f)
   rw [<- h] at this
   exact this
 have m : ∀ x, x ∈ [u 0, u 1, u 2] ↔ x ∈ [f 0, f 1, f 2] := fun x => hp.mem_iff
 have s : u 0 + (u 1 + (u 2 + 0)) = f 0 + (f 1 + (f 2 + 0)) := hp.foldr_eq' (f := fun x y : Int => x + y) (fun x _ y _ z => by omega) 0
 have a0 := (m (u 0)).1 (by simp)
 have a2 := (m (u 2)).1 (by simp)
 have b0 := (m (f 0)).2 (by simp)
 have b1 := (m (f 1)).2 (by simp)
 have b2 := (m (f 2)).2 (by simp)
 simp at hs a0 a2 b0 b1 b2
 unfold L.tri
 rw [L.Trg.mk.injEq]
 refine ⟨?_, ?_, ?_⟩ <;> omega
theorem bif3 {a b : Prop} [Decidable a] [Decidable b] {c : Bool} : (bif bif decide a then decide b else false then !c else false) = true ↔ a /\ b /\ c = false := by
 by_cases ha : a <;> by_cases hb : b <;> cases c <;> simp [ha, hb]
theorem bif2 {b : Prop} [Decidable b] {c : Bool} : (bif decide b then !c else false) = true ↔ b /\ c = false := by
 by_cases hb : b <;> cases c <;> simp [hb]
def sortI_ren : Go.Shelf.Ren := ⟨fun | 189 => 45 | 125 => 78 | 257 => 82 | 128 => 106 | 129 => 107 | 294 => 108 | 295 => 109 | 296 => 110 | 297 => 111 | 298 => 112 | 299 => 113 | 216 => 114 | 300 => 115 | 301 => 116 | 328 => 137 | 329 => 133 | 330 => 134 | 331 => 138 | 332 => 139 | 215 => 79 | 343 => 144 | n => n, fun | 28 => 48 | 3 => 3 | 46 => 93 | 0 => 0 | 51 => 117 | 53 => 119 | 4 => 4 | 183 => 110 | 182 => 109 | 131 => 114 | 5 => 5 | 9 => 9 | 218 => 133 | 222 => 137 | 228 => 143 | 229 => 144 | n => n, fun | n => n⟩
theorem sortI_lay : Go.Proofs.Lays.n189 Tryz.prog sortI_ren := {
 mixed := by kernel_rfl
 f125 := Tryz.func78.trans (congrArg some (by kernel_rfl))
 f128 := Tryz.func106.trans (congrArg some (by kernel_rfl))
 f129 := Tryz.func107.trans (congrArg some (by kernel_rfl))
 f189 := Tryz.func45.trans (congrArg some (by kernel_rfl))
 f215 := Tryz.func79.trans (congrArg some (by kernel_rfl))
 f216 := Tryz.func114.trans (congrArg some (by kernel_rfl))
 f257 := Tryz.func82.trans (congrArg some (by kernel_rfl))
 f294 := Tryz.func108.trans (congrArg some (by kernel_rfl))
 f295 := Tryz.func109.trans (congrArg some (by kernel_rfl))
 f296 := Tryz.func110.trans (congrArg some (by kernel_rfl))
 f297 := Tryz.func111.trans (congrArg some (by kernel_rfl))
 f298 := Tryz.func112.trans (congrArg some (by kernel_rfl))
 f299 := Tryz.func113.trans (congrArg some (by kernel_rfl))
 f300 := Tryz.func115.trans (congrArg some (by kernel_rfl))
 f301 := Tryz.func116.trans (congrArg some (by kernel_rfl))
 f328 := Tryz.func137.trans (congrArg some (by kernel_rfl))
 f329 := Tryz.func133.trans (congrArg some (by kernel_rfl))
 f330 := Tryz.func134.trans (congrArg some (by kernel_rfl))
 f331 := Tryz.func138.trans (congrArg some (by kernel_rfl))
 f332 := Tryz.func139.trans (congrArg some (by kernel_rfl))
 f343 := Tryz.func144.trans (congrArg some (by kernel_rfl))
 t0 := Tryz.underlying0
 a0 := Tryz.isAgg0
 z0 := Tryz.sizeOf0
 v0 := Tryz.zeroValue0
 t3 := Tryz.underlying3
 a3 := Tryz.isAgg3
 z3 := Tryz.sizeOf3
 v3 := Tryz.zeroValue3
 t4 := Tryz.underlying4
 a4 := Tryz.isAgg4
 z4 := Tryz.sizeOf4
 v4 := Tryz.zeroValue4
 t5 := Tryz.underlying5
 a5 := Tryz.isAgg5
 z5 := Tryz.sizeOf5
 v5 := Tryz.zeroValue5
 t9 := Tryz.underlying9
 a9 := Tryz.isAgg9
 z9 := Tryz.sizeOf9
 v9 := Tryz.zeroValue9
 t28 := Tryz.underlying48
 a28 := Tryz.isAgg48
 z28 := Tryz.sizeOf48
 v28 := Tryz.zeroValue48
 t46 := Tryz.underlying93
 a46 := Tryz.isAgg93
 z46 := Tryz.sizeOf93
 v46 := Tryz.zeroValue93
 t51 := Tryz.underlying117
 a51 := Tryz.isAgg117
 z51 := Tryz.sizeOf117
 v51 := Tryz.zeroValue117
 t53 := Tryz.underlying119
 a53 := Tryz.isAgg119
 z53 := Tryz.sizeOf119
 v53 := Tryz.zeroValue119
 t131 := Tryz.underlying114
 a131 := Tryz.isAgg114
 z131 := Tryz.sizeOf114
 v131 := Tryz.zeroValue114
 t182 := Tryz.underlying109
 a182 := Tryz.isAgg109
 z182 := Tryz.sizeOf109
 v182 := Tryz.zeroValue109
 t183 := Tryz.underlying110
 a183 := Tryz.isAgg110
 z183 := Tryz.sizeOf110
 v183 := Tryz.zeroValue110
 t218 := Tryz.underlying133
 a218 := Tryz.isAgg133
 z218 := Tryz.sizeOf133
 v218 := Tryz.zeroValue133
 t222 := Tryz.underlying137
 a222 := Tryz.isAgg137
 z222 := Tryz.sizeOf137
 v222 := Tryz.zeroValue137
 t228 := Tryz.underlying143
 a228 := Tryz.isAgg143
 z228 := Tryz.sizeOf143
 v228 := Tryz.zeroValue143
 t229 := Tryz.underlying144
 a229 := Tryz.isAgg144
 z229 := Tryz.sizeOf144
 v229 := Tryz.zeroValue144 }
abbrev s_sortI_tr : Tr := sortITr 3 1069
theorem s_sortI_tok : TrOk Tryz.prog 45 s_sortI_tr := sortITr_ok sortI_lay _ _
theorem s_sortI_en : Enters Tryz.prog 45 := fun args w => by kernel_rfl
def p_ear_p (l : (L.Sq L.Pt)) (f : (L.Sq Int)) (i:Int) : Prop := (3 <= f.n /\ f.n <= 1000) /\ (0 <= i /\ i < f.n) /\ (l.n <= 1000 /\ ∀ k, k < l.n -> L.bd (l.g k)) /\ L.inds l.n f
def p_ear_r (l : (L.Sq L.Pt)) (f : (L.Sq Int)) (i:Int) : SV := .bool (L.ear l f i.toNat)
def p_ear_s : List EV -> Option (Prop × SV)
 | [.p (.sl 2 l_n l_g), .p (.sl 1 f_n f_g), .p (.int .i64 i)] => some ((∀ i, i < l_n -> l_g i = [.int .i64 ((ofPt (l_g i)).x), .int .i64 ((ofPt (l_g i)).y)]) /\ (∀ i, i < f_n -> f_g i = [.int .i64 ((intOf (f_g i)))]) /\ p_ear_p (⟨l_n, fun i => ofPt (l_g i)⟩ : (L.Sq L.Pt)) (⟨f_n, fun i => intOf (f_g i)⟩ : (L.Sq Int)) i, p_ear_r (⟨l_n, fun i => ofPt (l_g i)⟩ : (L.Sq L.Pt)) (⟨f_n, fun i => intOf (f_g i)⟩ : (L.Sq Int)) i)
 | _ => none
abbrev p_ear_S : SE.Spec := (specO p_ear_s)
def p_ear_C : Cfg := { cC with specs := lookS [(54, p_cross_S)] }
theorem p_ear_vc (l : (L.Sq L.Pt)) (f : (L.Sq Int)) (i:Int) (hp : p_ear_p l f i) : vc Tryz.prog ({ p_ear_C with loops := lookL [(6, { T := Nat, keep := [0, 8, 9, 10, 50, 51], keepO := [8, 9, 10], chg := fun k => [(52, .p (.int .i64 (k:Int)))], own := fun _ => [], inv := fun k => k <= f.n /\ ∀ j, j < k -> L.inTri (L.lp l f (L.prev f.n i.toNat)) (L.lp l f i.toNat) (L.lp l f (L.next f.n i.toNat)) (L.lp l f j) = false, mu := fun k => f.n - k })], rfs := lookR [] }) (bodyOf Tryz.f44) (st0 Tryz.f44 [.p (.sl 2 l.n (fun i => [.int .i64 ((l.g i).x), .int .i64 ((l.g i).y)])), .p (.sl 1 f.n (fun i => [.int .i64 ((f.g i))])), .p (.int .i64 i)]) (retFn Tryz.prog Tryz.f44 (p_ear_r l f i)) :=
 @Eq.mpr _ (let I := SV.int .i64; let T := Int.toNat; let M := Int.tmod; let A21 := (1:Int); let A17 := (L.lp l f (T i)); let A16 := (↑l.n:Int); let A15 := (L.lp l f (L.next f.n (T i))); let A14 := (L.lp l f (L.prev f.n (T i))); let A12 := (i + A21); let A10 := (0:Int); let A6 := (↑f.n:Int); let A19 := (T (M A12 A6)); let A11 := (i + A6 - A21); let A20 := (T (M A11 A6)); let A5 := (l.g (T (f.g (T i)))); let A2 := (l.g (T (f.g A19))); let A1 := (l.g (T (f.g A20))); InK .i64 (i + A6) /\ InK .i64 A11 /\ A6 ≠ A10 /\ (A10 <= M A11 A6 /\ M A11 A6 < A6) /\ (A10 <= f.g A20 /\ f.g A20 < A16) /\ (A10 <= i /\ i < A6) /\ (A10 <= f.g (T i) /\ f.g (T i) < A16) /\ InK .i64 A12 /\ A6 ≠ A10 /\ (A10 <= M A12 A6 /\ M A12 A6 < A6) /\ (A10 <= f.g A19 /\ f.g A19 < A16) /\ (L.bd A1 /\ L.bd A5 /\ L.bd A2) /\ (decide (L.cross A1 A5 A2 <= A10) = true -> false = L.ear l f (T i)) /\ (decide (L.cross A1 A5 A2 <= A10) = false -> (∃ (g:Nat), A10 = (↑g:Int) /\ g <= f.n /\ ∀ (j:Nat), j < g -> L.inTri A14 A17 A15 (L.lp l f j) = false) /\ ∀ (g:Nat), let A13 := (↑g:Int); let A3 := (l.g (T (f.g (T A13)))); let A9 := (decide (A3.x = A2.x) && decide (A3.y = A2.y)); let A8 := (decide (A3.x = A5.x) && decide (A3.y = A5.y)); let A7 := (decide (A3.x = A1.x) && decide (A3.y = A1.y)); let A4 := (bif bif bif bif bif !A7 then !A8 else false then !A9 else false then decide (A10 <= L.cross A1 A5 A3) else false then decide (A10 <= L.cross A5 A2 A3) else false then decide (A10 <= L.cross A2 A1 A3) else false); (g <= f.n /\ ∀ (j:Nat), j < g -> L.inTri A14 A17 A15 (L.lp l f j) = false) -> (decide (A13 < A6) = true -> (A10 <= A13 /\ A13 < A6) /\ (A10 <= f.g (T A13) /\ f.g (T A13) < A16) /\ ((bif bif !A7 then !A8 else false then !A9 else false) = true -> L.bd A1 /\ L.bd A5 /\ L.bd A3) /\ ((bif bif bif !A7 then !A8 else false then !A9 else false then decide (A10 <= L.cross A1 A5 A3) else false) = true -> L.bd A5 /\ L.bd A2 /\ L.bd A3) /\ ((bif bif bif bif !A7 then !A8 else false then !A9 else false then decide (A10 <= L.cross A1 A5 A3) else false then decide (A10 <= L.cross A5 A2 A3) else false) = true -> L.bd A2 /\ L.bd A1 /\ L.bd A3) /\ (A4 = true -> false = L.ear l f (T i)) /\ (A4 = false -> InK .i64 (A13 + A21) /\ ∃ (g':Nat), A13 + A21 = (↑g':Int) /\ A6 = A6 /\ (f.n = f.n /\ ∀ (i:Nat), i < f.n -> [I (f.g i)] = [I (f.g i)]) /\ nat_lit 0 = nat_lit 0 /\ nat_lit 0 = nat_lit 0 /\ nat_lit 0 = nat_lit 0 /\ (l.n = l.n /\ ∀ (i:Nat), let A18 := [I (l.g i).x, I (l.g i).y]; i < l.n -> A18 = A18) /\ A1.x = A1.x /\ A1.y = A1.y /\ A5.x = A5.x /\ A5.y = A5.y /\ A2.x = A2.x /\ A2.y = A2.y /\ (g' <= f.n /\ ∀ (j:Nat), j < g' -> L.inTri A14 A17 A15 (L.lp l f j) = false) /\ f.n - g' < f.n - g)) /\ (decide (A13 < A6) = false -> true = L.ear l f (T i)))) (by kernel_rfl) (by
 conv => zeta
 obtain ⟨⟨h3, hn⟩, ⟨i0, i1⟩, ⟨ln, hb⟩, hi⟩ := hp
 obtain ⟨k, rfl⟩ : ∃ k : Nat, i = (k:Int) := ⟨i.toNat, by omega⟩
 have hk : k < f.n := by omega
 have ek : ((k:Nat):Int).toNat = k := by omega
 have ep : (Int.tmod ((k:Int) + f.n - 1) f.n).toNat = L.prev f.n k := rfl
 have en : (Int.tmod ((k:Int) + 1) f.n).toNat = L.next f.n k := rfl
 have pl : L.prev f.n k < f.n := prev_lt (by omega)
 have nl : L.next f.n k < f.n := next_lt (by omega)
 have tp := Int.tmod_nonneg (a := (k:Int) + f.n - 1) (f.n:Int) (by omega)
 have tq := Int.tmod_lt_of_pos ((k:Int) + f.n - 1) (b := (f.n:Int)) (by omega)
 have up := Int.tmod_nonneg (a := (k:Int) + 1) (f.n:Int) (by omega)
 have uq := Int.tmod_lt_of_pos ((k:Int) + 1) (b := (f.n:Int)) (by omega)
 have vb : ∀ j, j < f.n -> L.bd (l.g (f.g j).toNat) := fun j hj => hb _ (by have := hi j hj; omega)
 rw [ek, ep, en]
 refine ⟨iK, iK, by omega, ⟨tp, tq⟩, hi _ pl, ⟨by omega, by omega⟩, hi _ hk, iK, by omega, ⟨up, uq⟩, hi _ nl, ⟨vb _ pl, vb _ hk, vb _ nl⟩, fun h => ?_, fun hc => ⟨⟨0, rfl, Nat.zero_le _, fun j hj => absurd hj (Nat.not_lt_zero _)⟩, fun g hg => ⟨fun hlt => ?_, fun hge => ?_⟩⟩⟩
 · exact (ear_low (of_decide_eq_true h)).symm
 · obtain ⟨g1, g2⟩ := hg
   have hlt : (g:Int) < (f.n:Int) := of_decide_eq_true hlt
   have hgn : g < f.n := by omega
   have eg : ((g:Nat):Int).toNat = g := by omega
   rw [eg]
   refine ⟨⟨by omega, hlt⟩, hi _ hgn, fun _ => ⟨vb _ pl, vb _ hk, vb _ hgn⟩, fun _ => ⟨vb _ hk, vb _ nl, vb _ hgn⟩, fun _ => ⟨vb _ nl, vb _ pl, vb _ hgn⟩, fun h => ?_, fun h => ⟨iK, g + 1, rfl, rfl, ⟨rfl, fun _ _ => rfl⟩, rfl, rfl, rfl, ⟨rfl, fun _ _ => rfl⟩, rfl, rfl, rfl, rfl, rfl, rfl, ⟨by omega, fun j hj => ?_⟩, by omega⟩⟩
   · exact (ear_no hgn h).symm
   · rcases Nat.lt_succ_iff_lt_or_eq.1 hj with h' | rfl
     · exact g2 j h'
     · exact h
 · have hge : ¬ (g:Int) < (f.n:Int) := of_decide_eq_false hge
   exact (ear_yes (of_decide_eq_false hc) (fun j hj => hg.2 j (by omega))).symm)
theorem p_ear_ok : SpecOk Tryz.prog 44 p_ear_S := fnX Tryz.func44 (c := bodyOf Tryz.f44) (by kernel_rfl) mixed (fun args p r hs hp => by
 unfold p_ear_s at hs
 split at hs
 · cases hs; exact ⟨_, _, p_ear_vc _ _ _ hp.2.2, (.p (.sl hp.1) (.p (.sl hp.2.1) (.same _ .nil))), ⟨show SpecsL Tryz.prog _ from (SpecsL.cons p_cross_ok p_cross_en SpecsL.nil), rfl, ⟨show ItersL Tryz.prog _ from ItersL.nil, (TrsOk.none (fun _ => rfl))⟩⟩⟩
 · cases hs)
theorem p_ear_en : Enters Tryz.prog 44 := fun args w => by kernel_rfl
def r1_ear_p (l : (L.Sq L.Pt)) (f : (L.Sq Int)) (i:Int) : Prop := (3 <= f.n /\ f.n <= 1000) /\ (0 <= i /\ i < f.n) /\ (l.n <= 1000 /\ ∀ k, k < l.n -> L.bd (l.g k)) /\ L.inds l.n f
def r1_ear_r (l : (L.Sq L.Pt)) (f : (L.Sq Int)) (i:Int) : SV := .bool (L.ear l f i.toNat)
def r1_ear_s : List EV -> Option (Prop × SV)
 | [.p (.sl 2 l_n l_g), .p (.sl 1 f_n f_g), .p (.int .i64 i)] => some ((∀ i, i < l_n -> l_g i = [.int .i64 ((ofPt (l_g i)).x), .int .i64 ((ofPt (l_g i)).y)]) /\ (∀ i, i < f_n -> f_g i = [.int .i64 ((intOf (f_g i)))]) /\ r1_ear_p (⟨l_n, fun i => ofPt (l_g i)⟩ : (L.Sq L.Pt)) (⟨f_n, fun i => intOf (f_g i)⟩ : (L.Sq Int)) i, r1_ear_r (⟨l_n, fun i => ofPt (l_g i)⟩ : (L.Sq L.Pt)) (⟨f_n, fun i => intOf (f_g i)⟩ : (L.Sq Int)) i)
 | _ => none
abbrev r1_ear_S : SE.Spec := (specO r1_ear_s)
def r1_ear_C : Cfg := { cC with specs := lookS [(18, r1_Cross_S)] }
theorem r1_ear_vc (l : (L.Sq L.Pt)) (f : (L.Sq Int)) (i:Int) (hp : r1_ear_p l f i) : vc Tryz.prog ({ r1_ear_C with loops := lookL [(8, { T := Nat, keep := [0, 1, 7, 8, 9, 10], keepO := [8, 9, 10], chg := fun k => [(11, .p (.int .i64 (k:Int)))], own := fun _ => [], inv := fun k => k <= f.n /\ ∀ j, j < k -> L.inTri (L.lp l f (L.prev f.n i.toNat)) (L.lp l f i.toNat) (L.lp l f (L.next f.n i.toNat)) (L.lp l f j) = false, mu := fun k => f.n - k })], rfs := lookR [] }) (bodyOf Tryz.f46) (st0 Tryz.f46 [.p (.sl 2 l.n (fun i => [.int .i64 ((l.g i).x), .int .i64 ((l.g i).y)])), .p (.sl 1 f.n (fun i => [.int .i64 ((f.g i))])), .p (.int .i64 i)]) (retFn Tryz.prog Tryz.f46 (r1_ear_r l f i)) :=
 @Eq.mpr _ (let I := SV.int .i64; let T := Int.toNat; let M := Int.tmod; let A21 := (1:Int); let A17 := (L.lp l f (T i)); let A16 := (↑l.n:Int); let A15 := (L.lp l f (L.next f.n (T i))); let A14 := (L.lp l f (L.prev f.n (T i))); let A12 := (i + A21); let A10 := (0:Int); let A6 := (↑f.n:Int); let A19 := (T (M A12 A6)); let A11 := (i + A6 - A21); let A20 := (T (M A11 A6)); let A5 := (l.g (T (f.g (T i)))); let A2 := (l.g (T (f.g A19))); let A1 := (l.g (T (f.g A20))); InK .i64 (i + A6) /\ InK .i64 A11 /\ A6 ≠ A10 /\ (A10 <= M A11 A6 /\ M A11 A6 < A6) /\ (A10 <= f.g A20 /\ f.g A20 < A16) /\ (A10 <= i /\ i < A6) /\ (A10 <= f.g (T i) /\ f.g (T i) < A16) /\ InK .i64 A12 /\ A6 ≠ A10 /\ (A10 <= M A12 A6 /\ M A12 A6 < A6) /\ (A10 <= f.g A19 /\ f.g A19 < A16) /\ (L.bd A1 /\ L.bd A5 /\ L.bd A2) /\ (decide (L.cross A1 A5 A2 <= A10) = true -> false = L.ear l f (T i)) /\ (decide (L.cross A1 A5 A2 <= A10) = false -> (∃ (g:Nat), A10 = (↑g:Int) /\ g <= f.n /\ ∀ (j:Nat), j < g -> L.inTri A14 A17 A15 (L.lp l f j) = false) /\ ∀ (g:Nat), let A13 := (↑g:Int); let A3 := (l.g (T (f.g (T A13)))); let A9 := (decide (A3.x = A2.x) && decide (A3.y = A2.y)); let A8 := (decide (A3.x = A5.x) && decide (A3.y = A5.y)); let A7 := (decide (A3.x = A1.x) && decide (A3.y = A1.y)); let A4 := (bif bif bif bif bif !A7 then !A8 else false then !A9 else false then decide (A10 <= L.cross A1 A5 A3) else false then decide (A10 <= L.cross A5 A2 A3) else false then decide (A10 <= L.cross A2 A1 A3) else false); (g <= f.n /\ ∀ (j:Nat), j < g -> L.inTri A14 A17 A15 (L.lp l f j) = false) -> (decide (A13 < A6) = true -> (A10 <= A13 /\ A13 < A6) /\ (A10 <= f.g (T A13) /\ f.g (T A13) < A16) /\ ((bif bif !A7 then !A8 else false then !A9 else false) = true -> L.bd A1 /\ L.bd A5 /\ L.bd A3) /\ ((bif bif bif !A7 then !A8 else false then !A9 else false then decide (A10 <= L.cross A1 A5 A3) else false) = true -> L.bd A5 /\ L.bd A2 /\ L.bd A3) /\ ((bif bif bif bif !A7 then !A8 else false then !A9 else false then decide (A10 <= L.cross A1 A5 A3) else false then decide (A10 <= L.cross A5 A2 A3) else false) = true -> L.bd A2 /\ L.bd A1 /\ L.bd A3) /\ (A4 = true -> false = L.ear l f (T i)) /\ (A4 = false -> InK .i64 (A13 + A21) /\ ∃ (g':Nat), A13 + A21 = (↑g':Int) /\ nat_lit 0 = nat_lit 0 /\ nat_lit 0 = nat_lit 0 /\ nat_lit 0 = nat_lit 0 /\ A6 = A6 /\ (l.n = l.n /\ ∀ (i:Nat), let A18 := [I (l.g i).x, I (l.g i).y]; i < l.n -> A18 = A18) /\ (f.n = f.n /\ ∀ (i:Nat), i < f.n -> [I (f.g i)] = [I (f.g i)]) /\ A2.x = A2.x /\ A2.y = A2.y /\ A5.x = A5.x /\ A5.y = A5.y /\ A1.x = A1.x /\ A1.y = A1.y /\ (g' <= f.n /\ ∀ (j:Nat), j < g' -> L.inTri A14 A17 A15 (L.lp l f j) = false) /\ f.n - g' < f.n - g)) /\ (decide (A13 < A6) = false -> true = L.ear l f (T i)))) (by kernel_rfl) (by
 conv => zeta
 obtain ⟨⟨h3, hn⟩, ⟨i0, i1⟩, ⟨ln, hb⟩, hi⟩ := hp
 obtain ⟨k, rfl⟩ : ∃ k : Nat, i = (k:Int) := ⟨i.toNat, by omega⟩
 have hk : k < f.n := by omega
 have ek : ((k:Nat):Int).toNat = k := by omega
 have ep : (Int.tmod ((k:Int) + f.n - 1) f.n).toNat = L.prev f.n k := rfl
 have en : (Int.tmod ((k:Int) + 1) f.n).toNat = L.next f.n k := rfl
 have pl : L.prev f.n k < f.n := prev_lt (by omega)
 have nl : L.next f.n k < f.n := next_lt (by omega)
 have tp := Int.tmod_nonneg (a := (k:Int) + f.n - 1) (f.n:Int) (by omega)
 have tq := Int.tmod_lt_of_pos ((k:Int) + f.n - 1) (b := (f.n:Int)) (by omega)
 have up := Int.tmod_nonneg (a := (k:Int) + 1) (f.n:Int) (by omega)
 have uq := Int.tmod_lt_of_pos ((k:Int) + 1) (b := (f.n:Int)) (by omega)
 have vb : ∀ j, j < f.n -> L.bd (l.g (f.g j).toNat) := fun j hj => hb _ (by have := hi j hj; omega)
 rw [ek, ep, en]
 refine ⟨iK, iK, by omega, ⟨tp, tq⟩, hi _ pl, ⟨by omega, by omega⟩, hi _ hk, iK, by omega, ⟨up, uq⟩, hi _ nl, ⟨vb _ pl, vb _ hk, vb _ nl⟩, fun h => ?_, fun hc => ⟨⟨0, rfl, Nat.zero_le _, fun j hj => absurd hj (Nat.not_lt_zero _)⟩, fun g hg => ⟨fun hlt => ?_, fun hge => ?_⟩⟩⟩
 · exact (ear_low (of_decide_eq_true h)).symm
 · obtain ⟨g1, g2⟩ := hg
   have hlt : (g:Int) < (f.n:Int) := of_decide_eq_true hlt
   have hgn : g < f.n := by omega
   have eg : ((g:Nat):Int).toNat = g := by omega
   rw [eg]
   refine ⟨⟨by omega, hlt⟩, hi _ hgn, fun _ => ⟨vb _ pl, vb _ hk, vb _ hgn⟩, fun _ => ⟨vb _ hk, vb _ nl, vb _ hgn⟩, fun _ => ⟨vb _ nl, vb _ pl, vb _ hgn⟩, fun h => ?_, fun h => ⟨iK, g + 1, rfl, rfl, rfl, rfl, rfl, ⟨rfl, fun _ _ => rfl⟩, ⟨rfl, fun _ _ => rfl⟩, rfl, rfl, rfl, rfl, rfl, rfl, ⟨by omega, fun j hj => ?_⟩, by omega⟩⟩
   · exact (ear_no hgn h).symm
   · rcases Nat.lt_succ_iff_lt_or_eq.1 hj with h' | rfl
     · exact g2 j h'
     · exact h
 · have hge : ¬ (g:Int) < (f.n:Int) := of_decide_eq_false hge
   exact (ear_yes (of_decide_eq_false hc) (fun j hj => hg.2 j (by omega))).symm)
theorem r1_ear_ok : SpecOk Tryz.prog 46 r1_ear_S := fnX Tryz.func46 (c := bodyOf Tryz.f46) (by kernel_rfl) mixed (fun args p r hs hp => by
 unfold r1_ear_s at hs
 split at hs
 · cases hs; exact ⟨_, _, r1_ear_vc _ _ _ hp.2.2, (.p (.sl hp.1) (.p (.sl hp.2.1) (.same _ .nil))), ⟨show SpecsL Tryz.prog _ from (SpecsL.cons r1_Cross_ok r1_Cross_en SpecsL.nil), rfl, ⟨show ItersL Tryz.prog _ from ItersL.nil, (TrsOk.none (fun _ => rfl))⟩⟩⟩
 · cases hs)
theorem r1_ear_en : Enters Tryz.prog 46 := fun args w => by kernel_rfl
def r1_triangle_p (a:Int) (b:Int) (c:Int) : Prop := (0 <= a /\ a <= 1000) /\ (0 <= b /\ b <= 1000) /\ 0 <= c /\ c <= 1000
def r1_triangle_r (a:Int) (b:Int) (c:Int) : SV := (.agg [.int .i64 ((L.tri a b c).a), .int .i64 ((L.tri a b c).b), .int .i64 ((L.tri a b c).c)])
def r1_triangle_s : List EV -> Option (Prop × SV)
 | [.p (.int .i64 a), .p (.int .i64 b), .p (.int .i64 c)] => some (r1_triangle_p a b c, r1_triangle_r a b c)
 | _ => none
abbrev r1_triangle_S : SE.Spec := (specO r1_triangle_s)
def r1_triangle_C : Cfg := { muts := [], frz := lookN [], specs := lookS [], loops := lookL [], iters := lookI [], rfs := lookR [], nils := lookM [] }
theorem r1_triangle_vc (a:Int) (b:Int) (c:Int) (hp : r1_triangle_p a b c) : vc Tryz.prog (r1_triangle_C) (bodyOf Tryz.f47) (st0 Tryz.f47 [.p (.int .i64 a), .p (.int .i64 b), .p (.int .i64 c)]) (retFn Tryz.prog Tryz.f47 (r1_triangle_r a b c)) :=
 @Eq.mpr _ (let I := SV.int .i64; let A3 := (L.tri a b c); let A2 := (Min.min b c); let A1 := (a + b + c - Min.min a A2 - Max.max a (Max.max b c)); InK .i64 (a + b) /\ InK .i64 (a + b + c) /\ InK .i64 (a + b + c - Min.min a A2) /\ InK .i64 A1 /\ SV.agg [I (Min.min a A2), I A1, I (Max.max a (Max.max b c))] = SV.agg [I A3.a, I A3.b, I A3.c]) (by kernel_rfl) (by
 conv => zeta
 obtain ⟨⟨a0, a1⟩, ⟨b0, b1⟩, c0, c1⟩ := hp
 exact ⟨iK, iK, iK, iK, rfl⟩)
theorem r1_triangle_ok : SpecOk Tryz.prog 47 r1_triangle_S := fnX Tryz.func47 (c := bodyOf Tryz.f47) (by kernel_rfl) mixed (fun args p r hs hp => by
 unfold r1_triangle_s at hs
 split at hs
 · cases hs; exact ⟨_, _, r1_triangle_vc _ _ _ hp, (.same _ (.same _ (.same _ .nil))), ⟨show SpecsL Tryz.prog _ from SpecsL.nil, rfl, ⟨show ItersL Tryz.prog _ from ItersL.nil, (TrsOk.none (fun _ => rfl))⟩⟩⟩
 · cases hs)
theorem r1_triangle_en : Enters Tryz.prog 47 := fun args w => by kernel_rfl
def p_Triangles_p (l : (L.Sq L.Pt)) : Prop := l.n <= 1000000
def p_Triangles_r (l : (L.Sq L.Pt)) : SV := .tup [.sl 3 (L.trN l) (fun k => [.int .i64 ((L.trg l k).a), .int .i64 ((L.trg l k).b), .int .i64 ((L.trg l k).c)]), .int .i64 (bif L.validOutline l then 0 else 1)]
def p_Triangles_s : List EV -> Option (Prop × SV)
 | [.p (.sl 2 l_n l_g)] => some ((∀ i, i < l_n -> l_g i = [.int .i64 ((ofPt (l_g i)).x), .int .i64 ((ofPt (l_g i)).y)]) /\ p_Triangles_p (⟨l_n, fun i => ofPt (l_g i)⟩ : (L.Sq L.Pt)), p_Triangles_r (⟨l_n, fun i => ofPt (l_g i)⟩ : (L.Sq L.Pt)))
 | _ => none
abbrev p_Triangles_S : SE.Spec := (specO p_Triangles_s)
def p_Triangles_C : Cfg := { cC with muts := [16, 69, 87], frz := lookN [(9, [16]), (21, [87])], specs := lookS [(32, p_ValidOutline_S), (44, p_ear_S)], trs := lookT [(45, s_sortI_tr)], ren := fun k => k - 1000, nilsL := lookM [(10, [(6, 84, 42, 3)])] }
theorem p_Triangles_vc (l : (L.Sq L.Pt)) (hp : p_Triangles_p l) : vc Tryz.prog ({ p_Triangles_C with loops := lookL [(5, { T := Nat, keep := [0, 4, 18], keepO := [], chg := fun k => [(19, .p (.int .i64 (k:Int)))], own := fun g => [(16, .row 3 1 l.n (fun k => [.int .i64 (bif decide (k < g) then (k:Int) else 0)]))], inv := fun k => k <= l.n, mu := fun k => l.n - k }), (10, { T := Nat, keep := [0], keepO := [], chg := fun g => [(4, .p (.sl 1 (L.lft l g).n (fun k => [.int .i64 ((L.lft l g).g k)]))), (6, .row 84)], own := fun g => [(84, .row 42 3 g (fun k => [.int .i64 ((L.trg l k).a), .int .i64 ((L.trg l k).b), .int .i64 ((L.trg l k).c)]))], inv := fun g => g + 2 <= l.n, mu := fun g => l.n - g }), (13, { T := Nat × Nat, keep := [0, 4, 6, 7], keepO := [84], tie := fun g => [(7, .int .i64 ((L.lft l g.1).n:Int))], chg := fun g => [(8, .p (.int .i64 (g.2:Int)))], own := fun _ => [], inv := fun g => g.1 + 3 <= l.n /\ g.2 < (L.lft l g.1).n /\ ((L.lft l g.1).n <= 3 -> g.2 = 0) /\ ∀ j, j < g.2 -> L.ear l (L.lft l g.1) j = false, mu := fun g => (L.lft l g.1).n - g.2 })], rfs := lookR [] }) (bodyOf Tryz.f11) (st0 Tryz.f11 [.p (.sl 2 l.n (fun i => [.int .i64 ((l.g i).x), .int .i64 ((l.g i).y)]))]) (retFn Tryz.prog Tryz.f11 (p_Triangles_r l)) :=
 @Eq.mpr _ (let I := SV.int .i64; let T := Int.toNat; let M := Int.tmod; let A31 := (2:Int); let A28 := (140737488355328:Int); let A25 := (3:Int); let A23 := (0:Nat); let A20 := (3:Nat); let A11 := (L.Sq.mk l.n fun (i:Nat) => l.g i); let A29 := (!L.validOutline A11); let A10 := (∀ (i:Nat), let A26 := [I (l.g i).x, I (l.g i).y]; i < l.n -> A26 = A26); let A8 := (↑l.n:Int); let A19 := (↑(T A8):Int); let A7 := (l.n = l.n /\ ∀ (i:Nat), let A27 := [I (l.g i).x, I (l.g i).y]; i < l.n -> A27 = A27); let A5 := (0:Int); let A3 := (1:Int); (A10 /\ l.n <= (1000000:Nat)) /\ (A29 = true -> L.trN l = A23 /\ A3 = bif L.validOutline l then A5 else A3) /\ (A29 = false -> (A5 <= A8 /\ A8 <= A8 /\ A8 * (↑(nat_lit 8):Int) <= A28) /\ (∃ (g:Nat), A5 = (↑g:Int) /\ (T A8 = l.n /\ ∀ (i : Nat), i < T A8 -> [I A5] = [I (bif decide (i < g) then (↑i:Int) else A5)]) /\ g <= l.n) /\ ∀ (g:Nat), let A12 := (↑g:Int); g <= l.n -> (decide (A12 < A19) = true -> (A5 <= A12 /\ A12 < A8) /\ T A12 < l.n /\ InK .i64 (A12 + A3) /\ ∃ (g':Nat), A12 + A3 = (↑g':Int) /\ A19 = A19 /\ A7 /\ (l.n = l.n /\ ∀ (i:Nat), i < l.n -> setRow (fun (k:Nat) => [I (bif decide (k < g) then (↑k:Int) else A5)]) (T A12) (nat_lit 0) [I A12] i = [I (bif decide (i < g') then (↑i:Int) else A5)]) /\ g' <= l.n /\ l.n - g' < l.n - g) /\ (decide (A12 < A19) = false -> (∃ (g_1:Nat), (l.n = (L.lft l g_1).n /\ ∀ (i:Nat), i < l.n -> [I (bif decide (i < g) then (↑i:Int) else A5)] = [I ((L.lft l g_1).g i)]) /\ (A23 = g_1 /\ ∀ (i : Nat), i < A23 -> [] = [I (L.trg l i).a, I (L.trg l i).b, I (L.trg l i).c]) /\ g_1 + (2:Nat) <= l.n) /\ ∀ (g_1:Nat), let A6 := (L.lft l g_1); let A21 := (L.Sq.mk A6.n fun (i:Nat) => A6.g i); let A1 := (↑A6.n:Int); let A9 := (A1 - A3); let A16 := (↑(T A9):Int); g_1 + (2:Nat) <= l.n -> (decide (A25 <= A1) = true -> (∃ (g : Nat × Nat), let A24 := (L.lft l g.1); A5 = (↑g.2:Int) /\ A1 = (↑A24.n:Int) /\ g.1 + A20 <= l.n /\ g.2 < A24.n /\ (A24.n <= A20 -> g.2 = A23) /\ ∀ (j:Nat), j < g.2 -> L.ear l A24 j = false) /\ ∀ (g_2 : Nat × Nat), let A13 := (L.lft l g_2.1); let A2 := (↑g_2.2:Int); let A22 := (A2 + A1 - A3); let A14 := (A2 + A3); let A4 := (bif bif decide (A25 < A1) then decide (A2 < A1 - A3) else false then !L.ear A11 A21 (T A2) else false); (A1 = (↑A13.n:Int) /\ g_2.1 + A20 <= l.n /\ g_2.2 < A13.n /\ (A13.n <= A20 -> g_2.2 = A23) /\ ∀ (j:Nat), j < g_2.2 -> L.ear l A13 j = false) -> (decide (A25 < A1) = true -> InK .i64 A9) /\ ((bif decide (A25 < A1) then decide (A2 < A1 - A3) else false) = true -> A10 /\ (∀ (i:Nat), i < A6.n -> [I (A6.g i)] = [I (A6.g i)]) /\ (A20 <= A6.n /\ A6.n <= (1000:Nat)) /\ (A5 <= A2 /\ A2 < A1) /\ (l.n <= (1000:Nat) /\ ∀ (k:Nat), k < l.n -> L.bd (l.g k)) /\ L.inds l.n A21) /\ (A4 = true -> InK .i64 A14 /\ ∃ (g' : Nat × Nat), let A18 := (L.lft l g'.1); A2 + A3 = (↑g'.2:Int) /\ A1 = A1 /\ (A6.n = A6.n /\ ∀ (i:Nat), i < A6.n -> [I (A6.g i)] = [I (A6.g i)]) /\ A7 /\ (g_1 = g_1 /\ ∀ (i:Nat), let A15 := [I (L.trg l i).a, I (L.trg l i).b, I (L.trg l i).c]; i < g_1 -> A15 = A15) /\ (A1 = (↑A18.n:Int) /\ g'.1 + A20 <= l.n /\ g'.2 < A18.n /\ (A18.n <= A20 -> g'.2 = A23) /\ ∀ (j:Nat), j < g'.2 -> L.ear l A18 j = false) /\ A18.n - g'.2 < A13.n - g_2.2) /\ (A4 = false -> InK .i64 (A2 + A1) /\ InK .i64 A22 /\ A1 ≠ A5 /\ (A5 <= M A22 A1 /\ M A22 A1 < A1) /\ (A5 <= A2 /\ A2 < A1) /\ InK .i64 A14 /\ A1 ≠ A5 /\ (A5 <= M A14 A1 /\ M A14 A1 < A1) /\ ∃ (t : Nat × (Nat -> Int)), let A30 := (↑t.1:Int); (nat_lit 3 = t.1 /\ ∀ (i:Nat), i < nat_lit 3 -> rowsOf [I (A6.g (T (M A22 A1))), I (A6.g (T A2)), I (A6.g (T (M A14 A1)))] (nat_lit 1) i = [I (t.2 i)]) /\ ((1:Nat) <= t.1 /\ t.1 <= (1000000:Nat)) /\ ∀ (u : Nat -> Int), L.isSort t.1 t.2 u -> (A5 <= A5 /\ A5 < A30) /\ T A5 < t.1 /\ (A5 <= A3 /\ A3 < A30) /\ T A3 < t.1 /\ (A5 <= A31 /\ A31 < A30) /\ T A31 < t.1 /\ (g_1 + nat_lit 1) * nat_lit 24 <= (140737488355328:Nat) /\ InK .i64 A9 /\ (A5 <= A1 - A3 /\ A1 - A3 <= A1 - A3 /\ A9 * (↑(nat_lit 8):Int) <= A28) /\ (A5 <= A5 /\ A5 <= A2 /\ A2 <= A1) /\ nat_lit 0 + T A9 <= T A9 /\ T (A2 - A5) <= T A9 /\ (A5 <= A2 /\ A2 <= A16 /\ A16 <= A16) /\ InK .i64 A14 /\ (A5 <= A2 + A3 /\ A2 + A3 <= A1 /\ A1 <= A1) /\ T A2 + T (A16 - A2) <= T A9 /\ T (A1 - A14) <= T (A16 - A2) /\ ∃ (g':Nat), (T A9 = (L.lft l g').n /\ ∀ (i:Nat), i < T A9 -> cpyGet (T A2) (T (A1 - A14)) (fun (i:Nat) => [I (A6.g (T A14 + i))]) (cpyGet (nat_lit 0) (T (A2 - A5)) (fun (i:Nat) => [I (A6.g (T A5 + i))]) fun (x:Nat) => [I A5]) i = [I ((L.lft l g').g i)]) /\ A7 /\ (g_1 + nat_lit 1 = g' /\ ∀ (i:Nat), i < g_1 + nat_lit 1 -> appGet g_1 (fun (k:Nat) => [I (L.trg l k).a, I (L.trg l k).b, I (L.trg l k).c]) (fun (x:Nat) => [I (u (T A5)), I (u (T A3)), I (u (T A31))]) i = [I (L.trg l i).a, I (L.trg l i).b, I (L.trg l i).c]) /\ g' + (2:Nat) <= l.n /\ l.n - g' < l.n - g_1)) /\ (decide (A25 <= A1) = false -> (g_1 = L.trN l /\ ∀ (i:Nat), let A17 := [I (L.trg l i).a, I (L.trg l i).b, I (L.trg l i).c]; i < g_1 -> A17 = A17) /\ A5 = bif L.validOutline l then A5 else A3)))) (by kernel_rfl) (by
 conv => zeta
 have hn : l.n <= 1000000 := hp
 refine ⟨⟨fun _ _ => rfl, hn⟩, fun h => ?_, fun h => ?_⟩
 · have hv : L.validOutline l = false := notT h
   unfold L.trN; rw [hv]; exact ⟨rfl, rfl⟩
 have hv : L.validOutline l = true := notF h
 obtain ⟨n3, n24, hsm, hbd⟩ := validOutline_of hv
 have en : ((l.n:Nat):Int).toNat = l.n := by omega
 rw [en]
 refine ⟨⟨by omega, by omega, by show (l.n:Int) * 8 <= 140737488355328; omega⟩, ⟨0, rfl, ⟨rfl, fun i _ => by rw [decide_eq_false (Nat.not_lt_zero i)]; rfl⟩, Nat.zero_le _⟩, fun g hg => ⟨fun hlt => ?_, fun hge => ?_⟩⟩
 · have hlt : (g:Int) < (l.n:Int) := of_decide_eq_true hlt
   have eg : ((g:Nat):Int).toNat = g := by omega
   rw [eg]
   refine ⟨⟨by omega, hlt⟩, by omega, iK, g + 1, rfl, rfl, ⟨rfl, fun _ _ => rfl⟩, ⟨rfl, fun i hi => ?_⟩, by omega, by omega⟩
   unfold setRow
   by_cases e : i = g
   · rw [if_pos e, decide_eq_true (show i < g + 1 by omega), e]; rfl
   · rw [if_neg e]
     dsimp only
     by_cases e2 : i < g
     · rw [decide_eq_true e2, decide_eq_true (show i < g + 1 by omega)]
     · rw [decide_eq_false e2, decide_eq_false (show ¬ i < g + 1 by omega)]
 have hge : ¬ (g:Int) < (l.n:Int) := of_decide_eq_false hge
 refine ⟨⟨0, ⟨rfl, fun i hi => ?_⟩, ⟨rfl, fun i hi => absurd hi (Nat.not_lt_zero _)⟩, by omega⟩, fun k hk => ⟨fun h3 => ?_, fun h3 => ?_⟩⟩
 · rw [decide_eq_true (show i < g by omega)]; rfl
 rotate_left
 · have h3 : ¬ (3:Int) <= ((L.lft l k).n:Int) := of_decide_eq_false h3
   have lk : (L.lft l k).n = l.n - k := lft_n
   refine ⟨⟨?_, fun _ _ => rfl⟩, by rw [hv]; rfl⟩
   unfold L.trN; rw [hv]; show k = l.n - 2; omega
 have h3 : (3:Int) <= ((L.lft l k).n:Int) := of_decide_eq_true h3
 have lk : (L.lft l k).n = l.n - k := lft_n
 have hin : L.inds l.n (L.lft l k) := lft_inds
 refine ⟨⟨(k, 0), rfl, rfl, by show k + 3 <= l.n; omega, by show 0 < (L.lft l k).n; omega, fun _ => rfl, fun j hj => absurd hj (Nat.not_lt_zero _)⟩, ?_⟩
 rintro ⟨k', i⟩ ⟨t1, t2, t3, t4, t5⟩
 have t1 : ((L.lft l k).n:Int) = ((L.lft l k').n:Int) := t1
 have t2 : k' + 3 <= l.n := t2
 have lk' : (L.lft l k').n = l.n - k' := lft_n
 obtain rfl : k' = k := by omega
 have t3 : i < (L.lft l k').n := t3
 have t4 : (L.lft l k').n <= 3 -> i = 0 := t4
 have t5 : ∀ j, j < i -> L.ear l (L.lft l k') j = false := t5
 dsimp only
 have ei : ((i:Nat):Int).toNat = i := by omega
 rw [ei]
 refine ⟨fun h => iK, fun h => ⟨fun _ _ => rfl, fun _ _ => rfl, ⟨by omega, by omega⟩, ⟨by omega, by omega⟩, ⟨by omega, hbd.2⟩, hin⟩, fun h => ?_, fun h => ?_⟩
 · obtain ⟨x1, x2, x3⟩ := bif3.1 h
   refine ⟨iK, (k', i + 1), rfl, rfl, ⟨rfl, fun _ _ => rfl⟩, ⟨rfl, fun _ _ => rfl⟩, ⟨rfl, fun _ _ => rfl⟩, ⟨rfl, t2, by show i + 1 < (L.lft l k').n; omega, fun q => by (have q : (L.lft l k').n <= 3 := q); omega, fun j hj => ?_⟩, by show (L.lft l k').n - (i + 1) < (L.lft l k').n - i; omega⟩
   have hj : j < i + 1 := hj
   rcases Nat.lt_succ_iff_lt_or_eq.1 hj with h' | rfl
   · exact t5 j h'
   · exact x3
 have hE : L.earK l (L.lft l k') = i := earK_of t3 t4 t5 (fun a b => by
   cases he : L.ear l (L.lft l k') i with
   | true => rfl
   | false => exact absurd ((bif3 (a := (3:Int) < ((L.lft l k').n:Int)) (b := (i:Int) < ((L.lft l k').n:Int) - 1)).2 ⟨by omega, by omega, he⟩) (by rw [h]; decide))
 have tp := Int.tmod_nonneg (a := (i:Int) + ((L.lft l k').n:Int) - 1) ((L.lft l k').n:Int) (by omega)
 have tq := Int.tmod_lt_of_pos ((i:Int) + ((L.lft l k').n:Int) - 1) (b := ((L.lft l k').n:Int)) (by omega)
 have up := Int.tmod_nonneg (a := (i:Int) + 1) ((L.lft l k').n:Int) (by omega)
 have uq := Int.tmod_lt_of_pos ((i:Int) + 1) (b := ((L.lft l k').n:Int)) (by omega)
 have e1 : (((L.lft l k').n:Int) - 1).toNat = (L.lft l k').n - 1 := by omega
 have e2 : ((i:Int) - 0).toNat = i := by omega
 have e3 : ((i:Int) + 1).toNat = i + 1 := by omega
 have e4 : (((L.lft l k').n:Int) - ((i:Int) + 1)).toNat = (L.lft l k').n - (i + 1) := by omega
 have e5 : ((((L.lft l k').n - 1:Nat):Int) - (i:Int)).toNat = (L.lft l k').n - 1 - i := by omega
 rw [e1, e2, e3, e4, e5]
 refine ⟨iK, iK, by omega, ⟨tp, tq⟩, ⟨by omega, by omega⟩, iK, by omega, ⟨up, uq⟩, (3, fun j => if j = 0 then (L.lft l k').g (L.prev (L.lft l k').n i) else if j = 1 then (L.lft l k').g i else (L.lft l k').g (L.next (L.lft l k').n i)), ⟨rfl, fun j hj => ?_⟩, ⟨show 1 <= 3 by omega, show 3 <= 1000000 by omega⟩, fun u hu => ?_⟩
 · have hj : j < 3 := hj
   match j, hj with
   | 0, _ => rfl
   | 1, _ => rfl
   | 2, _ => rfl
 have hs := sort3 hu
 have eT : L.trg l k' = ⟨u 0, u 1, u 2⟩ := by unfold L.trg; rw [hE]; exact hs.symm
 refine ⟨⟨by omega, show (0:Int) < ((3:Nat):Int) by omega⟩, show 0 < 3 by omega, ⟨by omega, show (1:Int) < ((3:Nat):Int) by omega⟩, show 1 < 3 by omega, ⟨by omega, show (2:Int) < ((3:Nat):Int) by omega⟩, show 2 < 3 by omega, by omega, iK, ⟨by omega, by omega, by omega⟩, ⟨by omega, by omega, by omega⟩, by omega, by omega, ⟨by omega, by omega, by omega⟩, iK, ⟨by omega, by omega, by omega⟩, by omega, by omega, k' + 1, ⟨rfl, fun j hj => ?_⟩, ⟨rfl, fun _ _ => rfl⟩, ⟨rfl, fun j hj => ?_⟩, by omega, by omega⟩
 · show _ = [SV.int .i64 (bif decide (j < L.earK l (L.lft l k')) then (L.lft l k').g j else (L.lft l k').g (j + 1))]
   rw [hE]
   unfold cpyGet
   by_cases hji : j < i
   · rw [if_neg (by omega), if_pos (by omega), decide_eq_true hji]
     show [SV.int .i64 ((L.lft l k').g (0 + (j - 0)))] = [SV.int .i64 ((L.lft l k').g j)]
     rw [show 0 + (j - 0) = j by omega]
   · rw [if_pos (by omega), decide_eq_false hji]
     show [SV.int .i64 ((L.lft l k').g (i + 1 + (j - i)))] = [SV.int .i64 ((L.lft l k').g (j + 1))]
     rw [show i + 1 + (j - i) = j + 1 by omega]
 · unfold appGet
   by_cases h' : j < k'
   · rw [if_pos h']
   · rw [if_neg h']
     obtain rfl : j = k' := by omega
     rw [eT]; rfl)
theorem p_Triangles_ok : SpecOk Tryz.prog 11 p_Triangles_S := fnX Tryz.func11 (c := bodyOf Tryz.f11) (by kernel_rfl) mixed (fun args p r hs hp => by
 unfold p_Triangles_s at hs
 split at hs
 · cases hs; exact ⟨_, _, p_Triangles_vc _ hp.2, (.p (.sl hp.1) .nil), ⟨show SpecsL Tryz.prog _ from (SpecsL.cons p_ValidOutline_ok p_ValidOutline_en (SpecsL.cons p_ear_ok p_ear_en SpecsL.nil)), rfl, ⟨show ItersL Tryz.prog _ from ItersL.nil, (show TrsL Tryz.prog _ from (TrsL.cons s_sortI_tok s_sortI_en TrsL.nil))⟩⟩⟩
 · cases hs)
theorem p_Triangles_en : Enters Tryz.prog 11 := fun args w => by kernel_rfl
def r1_Triangles_p (l : (L.Sq L.Pt)) : Prop := l.n <= 1000000
def r1_Triangles_r (l : (L.Sq L.Pt)) : SV := .tup [.sl 3 (L.trN l) (fun k => [.int .i64 ((L.trg l k).a), .int .i64 ((L.trg l k).b), .int .i64 ((L.trg l k).c)]), .int .i64 (bif L.validOutline l then 0 else 1)]
def r1_Triangles_s : List EV -> Option (Prop × SV)
 | [.p (.sl 2 l_n l_g)] => some ((∀ i, i < l_n -> l_g i = [.int .i64 ((ofPt (l_g i)).x), .int .i64 ((ofPt (l_g i)).y)]) /\ r1_Triangles_p (⟨l_n, fun i => ofPt (l_g i)⟩ : (L.Sq L.Pt)), r1_Triangles_r (⟨l_n, fun i => ofPt (l_g i)⟩ : (L.Sq L.Pt)))
 | _ => none
abbrev r1_Triangles_S : SE.Spec := (specO r1_Triangles_s)
def r1_Triangles_C : Cfg := { cC with frz := lookN [(8, [22]), (18, [70])], specs := lookS [(39, r1_ValidOutline_S), (46, r1_ear_S), (47, r1_triangle_S)], nils := lookM [(4, [(4, 22, 3, 1)]), (16, [(9, 70, 3, 1)])], nilsL := lookM [(9, [(6, 65, 42, 3)])] }
theorem r1_Triangles_vc (l : (L.Sq L.Pt)) (hp : r1_Triangles_p l) : vc Tryz.prog ({ r1_Triangles_C with loops := lookL [(5, { T := Nat, keep := [0], keepO := [], chg := fun k => [(4, .row 22), (5, .p (.int .i64 (k:Int)))], own := fun g => [(22, .row 3 1 g (fun k => [.int .i64 ((k:Int))]))], inv := fun k => k <= l.n, mu := fun k => l.n - k }), (9, { T := Nat, keep := [0], keepO := [], chg := fun g => [(4, .p (.sl 1 (L.lft l g).n (fun k => [.int .i64 ((L.lft l g).g k)]))), (6, .row 65)], own := fun g => [(65, .row 42 3 g (fun k => [.int .i64 ((L.trg l k).a), .int .i64 ((L.trg l k).b), .int .i64 ((L.trg l k).c)]))], inv := fun g => g + 3 <= l.n, mu := fun g => l.n - g }), (11, { T := Nat × Nat, keep := [0, 4, 6], keepO := [65], tie := fun g => [(4, .sl 1 (L.lft l g.1).n (fun k => [.int .i64 ((L.lft l g.1).g k)]))], chg := fun g => [(7, .p (.int .i64 (g.2:Int)))], own := fun _ => [], inv := fun g => g.1 + 4 <= l.n /\ g.2 < (L.lft l g.1).n /\ ∀ j, j < g.2 -> L.ear l (L.lft l g.1) j = false, mu := fun g => (L.lft l g.1).n - g.2 })], rfs := lookR [] }) (bodyOf Tryz.f12) (st0 Tryz.f12 [.p (.sl 2 l.n (fun i => [.int .i64 ((l.g i).x), .int .i64 ((l.g i).y)]))]) (retFn Tryz.prog Tryz.f12 (r1_Triangles_r l)) :=
 @Eq.mpr _ (let I := SV.int .i64; let T := Int.toNat; let M := Int.tmod; let A29 := (3:Nat); let A22 := (2:Int); let A17 := (1000:Int); let A13 := (L.Sq.mk l.n fun (i:Nat) => l.g i); let A28 := (!L.validOutline A13); let A11 := (∀ (i:Nat), let A24 := [I (l.g i).x, I (l.g i).y]; i < l.n -> A24 = A24); let A10 := (140737488355328:Nat); let A6 := (l.n = l.n /\ ∀ (i:Nat), let A25 := [I (l.g i).x, I (l.g i).y]; i < l.n -> A25 = A25); let A5 := (0:Int); let A4 := (1:Int); (A11 /\ True) /\ (A28 = true -> L.trN l = (0:Nat) /\ A4 = bif L.validOutline l then A5 else A4) /\ (A28 = false -> (∃ (g:Nat), A5 = (↑g:Int) /\ (nat_lit 0 = g /\ ∀ (i:Nat), i < nat_lit 0 -> [] = [I (↑i:Int)]) /\ g <= l.n) /\ ∀ (g:Nat), let A21 := (↑g:Int); g <= l.n -> (decide (A21 < (↑l.n : Int)) = true -> (g + nat_lit 1) * nat_lit 8 <= A10 /\ InK .i64 (A21 + A4) /\ ∃ (g':Nat), A21 + A4 = (↑g':Int) /\ A6 /\ (g + nat_lit 1 = g' /\ ∀ (i:Nat), i < g + nat_lit 1 -> appGet g (fun (k:Nat) => [I (↑k:Int)]) (fun (x:Nat) => [I A21]) i = [I (↑i:Int)]) /\ g' <= l.n /\ l.n - g' < l.n - g) /\ (decide (A21 < (↑l.n:Int)) = false -> (∃ (g_1:Nat), (g = (L.lft l g_1).n /\ ∀ (i:Nat), i < g -> [I (↑i:Int)] = [I ((L.lft l g_1).g i)]) /\ ((0:Nat) = g_1 /\ ∀ (i:Nat), i < (0:Nat) -> [] = [I (L.trg l i).a, I (L.trg l i).b, I (L.trg l i).c]) /\ g_1 + A29 <= l.n) /\ ∀ (g_1:Nat), let A1 := (L.lft l g_1); let A19 := (L.Sq.mk A1.n fun (i:Nat) => A1.g i); let A9 := (L.tri (A1.g (T A5)) (A1.g (T A4)) (A1.g (T A22))); let A3 := (↑A1.n:Int); g_1 + A29 <= l.n -> (decide ((3:Int) < A3) = true -> (∃ (g : Nat × Nat), let A20 := (L.lft l g.1); A5 = (↑g.2:Int) /\ (A1.n = A20.n /\ ∀ (i:Nat), i < A1.n -> [I (A1.g i)] = [I (A20.g i)]) /\ g.1 + (4:Nat) <= l.n /\ g.2 < A20.n /\ ∀ (j:Nat), j < g.2 -> L.ear l A20 j = false) /\ ∀ (g_2 : Nat × Nat), let A15 := (L.lft l g_2.1); let A2 := (↑g_2.2:Int); let A23 := (A2 - A5); let A14 := (A2 + A3 - A4); let A26 := (T (M A14 A3)); let A12 := (A2 + A4); let A27 := (T (M A12 A3)); let A8 := (bif decide (A2 < A3 - A4) then !L.ear A13 A19 (T A2) else false); let A7 := (L.tri (A1.g A26) (A1.g (T A2)) (A1.g A27)); ((A1.n = A15.n /\ ∀ (i:Nat), i < A1.n -> [I (A1.g i)] = [I (A15.g i)]) /\ g_2.1 + (4:Nat) <= l.n /\ g_2.2 < A15.n /\ ∀ (j:Nat), j < g_2.2 -> L.ear l A15 j = false) -> InK .i64 (A3 - A4) /\ (decide (A2 < A3 - A4) = true -> A11 /\ (∀ (i:Nat), i < A1.n -> [I (A1.g i)] = [I (A1.g i)]) /\ (A29 <= A1.n /\ A1.n <= (1000:Nat)) /\ (A5 <= A2 /\ A2 < A3) /\ (l.n <= (1000:Nat) /\ ∀ (k:Nat), k < l.n -> L.bd (l.g k)) /\ L.inds l.n A19) /\ (A8 = true -> InK .i64 A12 /\ ∃ (g' : Nat × Nat), let A18 := (L.lft l g'.1); A2 + A4 = (↑g'.2 : Int) /\ (A1.n = A1.n /\ ∀ (i:Nat), i < A1.n -> [I (A1.g i)] = [I (A1.g i)]) /\ A6 /\ (g_1 = g_1 /\ ∀ (i:Nat), let A16 := [I (L.trg l i).a, I (L.trg l i).b, I (L.trg l i).c]; i < g_1 -> A16 = A16) /\ ((A1.n = A18.n /\ ∀ (i:Nat), i < A1.n -> [I (A1.g i)] = [I (A18.g i)]) /\ g'.1 + (4:Nat) <= l.n /\ g'.2 < A18.n /\ ∀ (j:Nat), j < g'.2 -> L.ear l A18 j = false) /\ A18.n - g'.2 < A15.n - g_2.2) /\ (A8 = false -> InK .i64 (A2 + A3) /\ InK .i64 A14 /\ A3 ≠ A5 /\ (A5 <= M A14 A3 /\ M A14 A3 < A3) /\ (A5 <= A2 /\ A2 < A3) /\ InK .i64 A12 /\ A3 ≠ A5 /\ (A5 <= M A12 A3 /\ M A12 A3 < A3) /\ ((A5 <= A1.g A26 /\ A1.g A26 <= A17) /\ (A5 <= A1.g (T A2) /\ A1.g (T A2) <= A17) /\ A5 <= A1.g A27 /\ A1.g A27 <= A17) /\ (g_1 + nat_lit 1) * nat_lit 24 <= A10 /\ (A5 <= A5 /\ A5 <= A2 /\ A2 <= A3) /\ (nat_lit 0 + T A23) * nat_lit 8 <= A10 /\ InK .i64 A12 /\ (A5 <= A2 + A4 /\ A2 + A4 <= A3 /\ A3 <= A3) /\ (nat_lit 0 + T A23 + T (A3 - A12)) * nat_lit 8 <= A10 /\ ∃ (g':Nat), (nat_lit 0 + T A23 + T (A3 - A12) = (L.lft l g').n /\ ∀ (i:Nat), i < nat_lit 0 + T A23 + T (A3 - A12) -> appGet (nat_lit 0 + T A23) (appGet (nat_lit 0) (fun (x:Nat) => []) fun (i:Nat) => [I (A1.g (T A5 + i))]) (fun (i:Nat) => [I (A1.g (T A12 + i))]) i = [I ((L.lft l g').g i)]) /\ A6 /\ (g_1 + nat_lit 1 = g' /\ ∀ (i:Nat), i < g_1 + nat_lit 1 -> appGet g_1 (fun (k:Nat) => [I (L.trg l k).a, I (L.trg l k).b, I (L.trg l k).c]) (fun (x:Nat) => [I A7.a, I A7.b, I A7.c]) i = [I (L.trg l i).a, I (L.trg l i).b, I (L.trg l i).c]) /\ g' + A29 <= l.n /\ l.n - g' < l.n - g_1)) /\ (decide ((3 : Int) < A3) = false -> (A5 <= A5 /\ A5 < A3) /\ (A5 <= A4 /\ A4 < A3) /\ (A5 <= A22 /\ A22 < A3) /\ ((A5 <= A1.g (T A5) /\ A1.g (T A5) <= A17) /\ (A5 <= A1.g (T A4) /\ A1.g (T A4) <= A17) /\ A5 <= A1.g (T A22) /\ A1.g (T A22) <= A17) /\ (g_1 + nat_lit 1) * nat_lit 24 <= A10 /\ (g_1 + nat_lit 1 = L.trN l /\ ∀ (i:Nat), i < g_1 + nat_lit 1 -> appGet g_1 (fun (k:Nat) => [I (L.trg l k).a, I (L.trg l k).b, I (L.trg l k).c]) (fun (x:Nat) => [I A9.a, I A9.b, I A9.c]) i = [I (L.trg l i).a, I (L.trg l i).b, I (L.trg l i).c]) /\ A5 = bif L.validOutline l then A5 else A4)))) (by kernel_rfl) (by
 conv => zeta
 have hn : l.n <= 1000000 := hp
 refine ⟨⟨fun _ _ => rfl, trivial⟩, fun h => ?_, fun h => ?_⟩
 · have hv : L.validOutline l = false := notT h
   unfold L.trN; rw [hv]; exact ⟨rfl, rfl⟩
 have hv : L.validOutline l = true := notF h
 obtain ⟨n3, n24, hsm, hbd⟩ := validOutline_of hv
 refine ⟨⟨0, rfl, ⟨rfl, fun i hi => absurd hi (Nat.not_lt_zero _)⟩, Nat.zero_le _⟩, fun g hg => ⟨fun hlt => ?_, fun hge => ?_⟩⟩
 · have hlt : (g:Int) < (l.n:Int) := of_decide_eq_true hlt
   refine ⟨by show (g + 1) * 8 <= 140737488355328; omega, iK, g + 1, rfl, ⟨rfl, fun _ _ => rfl⟩, ⟨rfl, fun i hi => ?_⟩, by omega, by omega⟩
   have hi : i < g + 1 := hi
   unfold appGet
   by_cases e : i < g
   · rw [if_pos e]
   · rw [if_neg e, show i = g by omega]
 have hge : ¬ (g:Int) < (l.n:Int) := of_decide_eq_false hge
 refine ⟨⟨0, ⟨by show g = l.n; omega, fun i hi => rfl⟩, ⟨rfl, fun i hi => absurd hi (Nat.not_lt_zero _)⟩, by omega⟩, fun k hk => ⟨fun h3 => ?_, fun h3 => ?_⟩⟩
 rotate_left
 · have h3 : ¬ (3:Int) < ((L.lft l k).n:Int) := of_decide_eq_false h3
   have lk : (L.lft l k).n = l.n - k := lft_n
   have ln : (L.lft l k).n = 3 := by omega
   have hin : L.inds l.n (L.lft l k) := lft_inds
   have i0 := hin 0 (by omega)
   have i1 := hin 1 (by omega)
   have i2 := hin 2 (by omega)
   have hE : L.earK l (L.lft l k) = 0 := by unfold L.earK; rw [decide_eq_false h3]; rfl
   have eT : L.trg l k = L.tri ((L.lft l k).g 0) ((L.lft l k).g 1) ((L.lft l k).g 2) := by
     unfold L.trg; rw [hE, ln]; exact tri_rot _ _ _
   refine ⟨⟨by omega, by omega⟩, ⟨by omega, by omega⟩, ⟨by omega, by omega⟩, ⟨⟨i0.1, by show (L.lft l k).g 0 <= 1000; omega⟩, ⟨i1.1, by show (L.lft l k).g 1 <= 1000; omega⟩, i2.1, by show (L.lft l k).g 2 <= 1000; omega⟩, by show (k + 1) * 24 <= 140737488355328; omega, ⟨?_, fun j hj => ?_⟩, by rw [hv]; rfl⟩
   · unfold L.trN; rw [hv]; show k + 1 = l.n - 2; omega
   · have hj : j < k + 1 := hj
     unfold appGet
     by_cases h' : j < k
     · rw [if_pos h']
     · rw [if_neg h']
       obtain rfl : j = k := by omega
       rw [eT]; rfl
 have h3 : (3:Int) < ((L.lft l k).n:Int) := of_decide_eq_true h3
 have lk : (L.lft l k).n = l.n - k := lft_n
 have hin : L.inds l.n (L.lft l k) := lft_inds
 refine ⟨⟨(k, 0), rfl, ⟨rfl, fun _ _ => rfl⟩, by show k + 4 <= l.n; omega, by show 0 < (L.lft l k).n; omega, fun j hj => absurd hj (Nat.not_lt_zero _)⟩, ?_⟩
 rintro ⟨k', i⟩ ⟨⟨t1, _⟩, t2, t3, t5⟩
 have t1 : (L.lft l k).n = (L.lft l k').n := t1
 have t2 : k' + 4 <= l.n := t2
 have lk' : (L.lft l k').n = l.n - k' := lft_n
 obtain rfl : k' = k := by omega
 have t3 : i < (L.lft l k').n := t3
 have t5 : ∀ j, j < i -> L.ear l (L.lft l k') j = false := t5
 dsimp only
 have ei : ((i:Nat):Int).toNat = i := by omega
 rw [ei]
 refine ⟨iK, fun h => ⟨fun _ _ => rfl, fun _ _ => rfl, ⟨by omega, by omega⟩, ⟨by omega, by omega⟩, ⟨by omega, hbd.2⟩, hin⟩, fun h => ?_, fun h => ?_⟩
 · obtain ⟨x2, x3⟩ := bif2.1 h
   refine ⟨iK, (k', i + 1), rfl, ⟨rfl, fun _ _ => rfl⟩, ⟨rfl, fun _ _ => rfl⟩, ⟨rfl, fun _ _ => rfl⟩, ⟨⟨rfl, fun _ _ => rfl⟩, t2, by show i + 1 < (L.lft l k').n; omega, fun j hj => ?_⟩, by show (L.lft l k').n - (i + 1) < (L.lft l k').n - i; omega⟩
   have hj : j < i + 1 := hj
   rcases Nat.lt_succ_iff_lt_or_eq.1 hj with h' | rfl
   · exact t5 j h'
   · exact x3
 have hE : L.earK l (L.lft l k') = i := earK_of t3 (fun q => by omega) t5 (fun a b => by
   cases he : L.ear l (L.lft l k') i with
   | true => rfl
   | false => exact absurd ((bif2 (b := (i:Int) < ((L.lft l k').n:Int) - 1)).2 ⟨by omega, he⟩) (by rw [h]; decide))
 have tp := Int.tmod_nonneg (a := (i:Int) + ((L.lft l k').n:Int) - 1) ((L.lft l k').n:Int) (by omega)
 have tq := Int.tmod_lt_of_pos ((i:Int) + ((L.lft l k').n:Int) - 1) (b := ((L.lft l k').n:Int)) (by omega)
 have up := Int.tmod_nonneg (a := (i:Int) + 1) ((L.lft l k').n:Int) (by omega)
 have uq := Int.tmod_lt_of_pos ((i:Int) + 1) (b := ((L.lft l k').n:Int)) (by omega)
 have e2 : ((i:Int) - 0).toNat = i := by omega
 have e3 : ((i:Int) + 1).toNat = i + 1 := by omega
 have e4 : (((L.lft l k').n:Int) - ((i:Int) + 1)).toNat = (L.lft l k').n - (i + 1) := by omega
 have ip := hin (Int.tmod ((i:Int) + ((L.lft l k').n:Int) - 1) ((L.lft l k').n:Int)).toNat (by omega)
 have ik := hin i t3
 have iq := hin (Int.tmod ((i:Int) + 1) ((L.lft l k').n:Int)).toNat (by omega)
 have eT : L.trg l k' = L.tri ((L.lft l k').g (Int.tmod ((i:Int) + ((L.lft l k').n:Int) - 1) ((L.lft l k').n:Int)).toNat) ((L.lft l k').g i) ((L.lft l k').g (Int.tmod ((i:Int) + 1) ((L.lft l k').n:Int)).toNat) := by unfold L.trg; rw [hE]; rfl
 rw [e2, e3, e4]
 refine ⟨iK, iK, by omega, ⟨tp, tq⟩, ⟨by omega, by omega⟩, iK, by omega, ⟨up, uq⟩, ⟨⟨ip.1, by omega⟩, ⟨ik.1, by omega⟩, iq.1, by omega⟩, by omega, ⟨by omega, by omega, by omega⟩, by omega, iK, ⟨by omega, by omega, by omega⟩, by omega, k' + 1, ⟨by show _ = (L.lft l k').n - 1; omega, fun j hj => ?_⟩, ⟨rfl, fun _ _ => rfl⟩, ⟨rfl, fun j hj => ?_⟩, by omega, by omega⟩
 · show _ = [SV.int .i64 (bif decide (j < L.earK l (L.lft l k')) then (L.lft l k').g j else (L.lft l k').g (j + 1))]
   rw [hE]
   unfold appGet
   by_cases hji : j < i
   · rw [if_pos (by omega), if_neg (by omega), decide_eq_true hji]
     show [SV.int .i64 ((L.lft l k').g (0 + (j - 0)))] = [SV.int .i64 ((L.lft l k').g j)]
     rw [show 0 + (j - 0) = j by omega]
   · rw [if_neg (by omega), decide_eq_false hji]
     show [SV.int .i64 ((L.lft l k').g (i + 1 + (j - (0 + i))))] = [SV.int .i64 ((L.lft l k').g (j + 1))]
     rw [show i + 1 + (j - (0 + i)) = j + 1 by omega]
 · unfold appGet
   by_cases h' : j < k'
   · rw [if_pos h']
   · rw [if_neg h']
     obtain rfl : j = k' := by omega
     rw [eT])
theorem r1_Triangles_ok : SpecOk Tryz.prog 12 r1_Triangles_S := fnX Tryz.func12 (c := bodyOf Tryz.f12) (by kernel_rfl) mixed (fun args p r hs hp => by
 unfold r1_Triangles_s at hs
 split at hs
 · cases hs; exact ⟨_, _, r1_Triangles_vc _ hp.2, (.p (.sl hp.1) .nil), ⟨show SpecsL Tryz.prog _ from (SpecsL.cons r1_ValidOutline_ok r1_ValidOutline_en (SpecsL.cons r1_ear_ok r1_ear_en (SpecsL.cons r1_triangle_ok r1_triangle_en SpecsL.nil))), rfl, ⟨show ItersL Tryz.prog _ from ItersL.nil, (TrsOk.none (fun _ => rfl))⟩⟩⟩
 · cases hs)
theorem r1_Triangles_en : Enters Tryz.prog 12 := fun args w => by kernel_rfl
def w_sameTr_p (a : (L.Sq L.Trg)) (b : (L.Sq L.Trg)) : Prop := a.n <= 1000000
def w_sameTr_r (a : (L.Sq L.Trg)) (b : (L.Sq L.Trg)) : SV := .bool (L.sameTr a b)
def w_sameTr_s : List EV -> Option (Prop × SV)
 | [.p (.sl 3 a_n a_g), .p (.sl 3 b_n b_g)] => some ((∀ i, i < a_n -> a_g i = [.int .i64 ((ofTrg (a_g i)).a), .int .i64 ((ofTrg (a_g i)).b), .int .i64 ((ofTrg (a_g i)).c)]) /\ (∀ i, i < b_n -> b_g i = [.int .i64 ((ofTrg (b_g i)).a), .int .i64 ((ofTrg (b_g i)).b), .int .i64 ((ofTrg (b_g i)).c)]) /\ w_sameTr_p (⟨a_n, fun i => ofTrg (a_g i)⟩ : (L.Sq L.Trg)) (⟨b_n, fun i => ofTrg (b_g i)⟩ : (L.Sq L.Trg)), w_sameTr_r (⟨a_n, fun i => ofTrg (a_g i)⟩ : (L.Sq L.Trg)) (⟨b_n, fun i => ofTrg (b_g i)⟩ : (L.Sq L.Trg)))
 | _ => none
abbrev w_sameTr_S : SE.Spec := (specO w_sameTr_s)
def w_sameTr_C : Cfg := { muts := [], frz := lookN [], specs := lookS [], loops := fun _ => none, iters := lookI [], rfs := lookR [], nils := lookM [] }
theorem w_sameTr_vc (a : (L.Sq L.Trg)) (b : (L.Sq L.Trg)) (hp : w_sameTr_p a b) : vc Tryz.prog ({ w_sameTr_C with loops := lookL [(4, { T := Nat, keep := [0, 1], keepO := [], chg := fun i => [(5, .p (.int .i64 (i:Int)))], own := fun _ => [], inv := fun i => i <= a.n /\ ∀ j, j < i -> (decide ((a.g j).a = (b.g j).a) && (decide ((a.g j).b = (b.g j).b) && decide ((a.g j).c = (b.g j).c))) = true, mu := fun i => a.n - i })], rfs := lookR [] }) (bodyOf Tryz.f14) (st0 Tryz.f14 [.p (.sl 3 a.n (fun i => [.int .i64 ((a.g i).a), .int .i64 ((a.g i).b), .int .i64 ((a.g i).c)])), .p (.sl 3 b.n (fun i => [.int .i64 ((b.g i).a), .int .i64 ((b.g i).b), .int .i64 ((b.g i).c)]))]) (retFn Tryz.prog Tryz.f14 (w_sameTr_r a b)) :=
 @Eq.mpr _ (let I := SV.int .i64; let T := Int.toNat; let A6 := (↑a.n:Int); let A3 := (!decide (A6 = (↑b.n:Int))); (A3 = true -> false = L.sameTr a b) /\ (A3 = false -> (∃ (g:Nat), (0:Int) = (↑g:Int) /\ g <= a.n /\ ∀ (j:Nat), j < g -> (decide ((a.g j).a = (b.g j).a) && (decide ((a.g j).b = (b.g j).b) && decide ((a.g j).c = (b.g j).c))) = true) /\ ∀ (g:Nat), let A2 := (↑g:Int); let A8 := (b.g (T A2)); let A7 := (a.g (T A2)); let A1 := (!(decide (A7.a = A8.a) && (decide (A7.b = A8.b) && decide (A7.c = A8.c)))); (g <= a.n /\ ∀ (j:Nat), j < g -> (decide ((a.g j).a = (b.g j).a) && (decide ((a.g j).b = (b.g j).b) && decide ((a.g j).c = (b.g j).c))) = true) -> (decide (A2 < A6) = true -> ((0:Int) <= A2 /\ A2 < A6) /\ ((0:Int) <= A2 /\ A2 < (↑b.n:Int)) /\ (A1 = true -> false = L.sameTr a b) /\ (A1 = false -> InK .i64 (A2 + (1:Int)) /\ ∃ (g':Nat), A2 + (1:Int) = (↑g':Int) /\ (a.n = a.n /\ ∀ (i:Nat), let A4 := [I (a.g i).a, I (a.g i).b, I (a.g i).c]; i < a.n -> A4 = A4) /\ (b.n = b.n /\ ∀ (i:Nat), let A5 := [I (b.g i).a, I (b.g i).b, I (b.g i).c]; i < b.n -> A5 = A5) /\ (g' <= a.n /\ ∀ (j:Nat), j < g' -> (decide ((a.g j).a = (b.g j).a) && (decide ((a.g j).b = (b.g j).b) && decide ((a.g j).c = (b.g j).c))) = true) /\ a.n - g' < a.n - g)) /\ (decide (A2 < A6) = false -> true = L.sameTr a b))) (by kernel_rfl) (by
 conv => zeta
 have hn : a.n <= 1000000 := hp
 refine ⟨fun h => ?_, fun h => ⟨⟨0, rfl, Nat.zero_le _, fun j hj => absurd hj (Nat.not_lt_zero _)⟩, fun g hg => ⟨fun hlt => ?_, fun hge => ?_⟩⟩⟩
 · unfold L.sameTr; rw [notT h]; rfl
 · have hlt : (g:Int) < (a.n:Int) := of_decide_eq_true hlt
   have hab := of_decide_eq_true (notF h)
   have e0 : ((g:Int)).toNat = g := Int.toNat_natCast g
   rw [e0]
   refine ⟨⟨by omega, hlt⟩, ⟨by omega, by omega⟩, fun hd => ?_, fun hd => ⟨iK, g + 1, rfl, ⟨rfl, fun _ _ => rfl⟩, ⟨rfl, fun _ _ => rfl⟩, ⟨by omega, fun j hj => ?_⟩, by omega⟩⟩
   · unfold L.sameTr
     rw [notF h, cond_true, allB_false (i := g) (by omega) (notT hd)]
   · rcases Nat.lt_succ_iff_lt_or_eq.1 hj with h' | rfl
     · exact hg.2 j h'
     · exact notF hd
 · have hge : ¬ (g:Int) < (a.n:Int) := of_decide_eq_false hge
   unfold L.sameTr
   rw [notF h, cond_true]
   exact (allB_iff.2 (fun i hi => hg.2 i (by omega))).symm)
theorem w_sameTr_ok : SpecOk Tryz.prog 14 w_sameTr_S := fnX Tryz.func14 (c := bodyOf Tryz.f14) (by kernel_rfl) mixed (fun args p r hs hp => by
 unfold w_sameTr_s at hs
 split at hs
 · cases hs; exact ⟨_, _, w_sameTr_vc _ _ hp.2.2, (.p (.sl hp.1) (.p (.sl hp.2.1) .nil)), ⟨show SpecsL Tryz.prog _ from SpecsL.nil, rfl, ⟨show ItersL Tryz.prog _ from ItersL.nil, (TrsOk.none (fun _ => rfl))⟩⟩⟩
 · cases hs)
theorem w_sameTr_en : Enters Tryz.prog 14 := fun args w => by kernel_rfl
end Go.Proofs.YtaklapjfnejlbaaGreat
namespace Go.Proofs.YtaklapjfnejlbaaGreat
open Go.SE Go.RowKit
set_option maxRecDepth 100000
set_option maxHeartbeats 4000000
set_option linter.unusedVariables false
attribute [local irreducible] vc
def L.dbl (p : L.Pt) : L.Pt := ⟨2 * p.x, 2 * p.y⟩
def L.onE (l : L.Sq L.Pt) (p : L.Pt) (k:Nat) : Bool := L.on (l.g k) (l.g (L.next l.n k)) p
def L.upE (a b p : L.Pt) : Bool := bif (bif decide (a.y <= p.y) then decide (p.y < b.y) else false) then decide (0 < L.cross a b p) else false
def L.crE (a b p : L.Pt) : Bool := bif L.upE a b p then true else bif (bif decide (b.y <= p.y) then decide (p.y < a.y) else false) then decide (L.cross a b p < 0) else false
def L.par (l : L.Sq L.Pt) (p : L.Pt) : Nat -> Bool
 | 0 => false
 | k + 1 => bif L.crE (l.g k) (l.g (L.next l.n k)) p then !L.par l p k else L.par l p k
def L.sgn (b : Bool) : Int := bif b then 1 else -1
def L.wher (l : L.Sq L.Pt) (p : L.Pt) : Int := bif L.anyB l.n (L.onE l p) then 0 else L.sgn (L.par l p l.n)
theorem cross_fl (a b c : L.Pt) : L.cross b a c = - L.cross a b c := by
 unfold L.cross
 simp only [Int.sub_mul, Int.mul_sub]
 have h1 := Int.mul_comm a.x b.y
 have h2 := Int.mul_comm a.x c.y
 have h3 := Int.mul_comm a.y b.x
 have h4 := Int.mul_comm a.y c.x
 have h5 := Int.mul_comm b.x c.y
 have h6 := Int.mul_comm b.y c.x
 have h7 := Int.mul_comm a.y a.x
 have h8 := Int.mul_comm b.y b.x
 omega
theorem cr_sorted (a b p : L.Pt) : L.crE a b p = bif decide (b.y < a.y) then L.upE b a p else L.upE a b p := by
 rw [Bool.eq_iff_iff]
 unfold L.crE L.upE
 rw [cross_fl a b p]
 by_cases h : b.y < a.y
 · rw [decide_eq_true h]
   simp only [band, bor, Bool.or_eq_true, Bool.and_eq_true, decide_eq_true_eq, cond_true]
   omega
 · rw [decide_eq_false h]
   simp only [band, bor, Bool.or_eq_true, Bool.and_eq_true, decide_eq_true_eq, cond_false]
   omega
def L.dblS (l : L.Sq L.Pt) : L.Sq L.Pt := ⟨l.n, fun k => L.dbl (l.g k)⟩
theorem sgn_bd (b : Bool) : -1 <= L.sgn b /\ L.sgn b <= 1 := by cases b <;> decide
theorem sgn_not (b : Bool) : 0 - L.sgn b = L.sgn (!b) := by cases b <;> rfl
theorem wher_on {l : L.Sq L.Pt} {p : L.Pt} {k : Nat} (hk : k < l.n) (h : L.onE l p k = true) : 0 = L.wher l p := by
 unfold L.wher; rw [anyB_iff.2 ⟨k, hk, h⟩]; rfl
theorem wher_off {l : L.Sq L.Pt} {p : L.Pt} (h : ∀ j, j < l.n -> L.onE l p j = false) : L.sgn (L.par l p l.n) = L.wher l p := by
 unfold L.wher; rw [anyB_no h]; rfl
theorem pts_valid {l : L.Sq L.Pt} (h : L.validOutline l = true) : ∀ i, i < l.n -> L.validPt (l.g i) = true := by
 unfold L.validOutline L.valid3 at h
 rw [Bool.and_eq_true] at h
 cases hc : (bif !L.within (l.n:Int) 3 24 then true else !L.validPts l) with
 | true => rw [hc] at h; exact absurd h.1 Bool.noConfusion
 | false =>
   rw [bor, Bool.or_eq_false_iff] at hc
   exact allB_iff.1 (notF hc.2)
theorem dbl_bd {p : L.Pt} (h : L.validPt p = true) : (0 <= (L.dbl p).x /\ (L.dbl p).x <= 8192 /\ 0 <= (L.dbl p).y /\ (L.dbl p).y <= 8192) /\ L.bd (L.dbl p) := by
 unfold L.validPt at h
 rw [Bool.and_eq_true, within_iff, within_iff] at h
 unfold L.bd L.dbl
 dsimp only
 omega
def p_place_p (l : (L.Sq L.Pt)) (p : L.Pt) : Prop := L.validOutline l = true /\ L.bd p
def p_place_r (l : (L.Sq L.Pt)) (p : L.Pt) : SV := .int .i64 (L.wher (⟨l.n, fun k => L.dbl (l.g k)⟩ : L.Sq L.Pt) p)
def p_place_s : List EV -> Option (Prop × SV)
 | [.p (.sl 2 l_n l_g), .p (.agg [.int .i64 p_x, .int .i64 p_y])] => some ((∀ i, i < l_n -> l_g i = [.int .i64 ((ofPt (l_g i)).x), .int .i64 ((ofPt (l_g i)).y)]) /\ p_place_p (⟨l_n, fun i => ofPt (l_g i)⟩ : (L.Sq L.Pt)) (⟨p_x, p_y⟩ : L.Pt), p_place_r (⟨l_n, fun i => ofPt (l_g i)⟩ : (L.Sq L.Pt)) (⟨p_x, p_y⟩ : L.Pt))
 | _ => none
abbrev p_place_S : SE.Spec := (specO p_place_s)
def p_place_C : Cfg := { cC with muts := [4, 5, 7, 8, 9], specs := lookS [(33, p_triples_S), (83, p_on_S), (54, p_cross_S)], iters := lookI [(76, p_triples1_it)] }
theorem p_place_vc (l : (L.Sq L.Pt)) (p : L.Pt) (hp : p_place_p l p) : vc Tryz.prog ({ p_place_C with loops := lookL [], rfs := lookR [(3, { T := Nat, keep := [3, 4, 5], keepO := [4], own := fun k _ => [(5, .blk 3 [.p (.int .i64 (L.sgn (L.par (⟨l.n, fun k => L.dbl (l.g k)⟩ : L.Sq L.Pt) p k)))])], inv := fun k _ => ∀ j, j < k -> L.onE (⟨l.n, fun k => L.dbl (l.g k)⟩ : L.Sq L.Pt) p j = false })] }) (bodyOf Tryz.f49) (st0 Tryz.f49 [.p (.sl 2 l.n (fun i => [.int .i64 ((l.g i).x), .int .i64 ((l.g i).y)])), .p (.agg [.int .i64 p.x, .int .i64 p.y])]) (retFn Tryz.prog Tryz.f49 (p_place_r l p)) :=
 @Eq.mpr _ (let I := SV.int .i64; let T := Int.toNat; let M := Int.tmod; let A21 := (1:Nat); let A17 := (nat_lit 3); let A16 := (nat_lit 4); let A15 := (nat_lit 5); let A14 := (nat_lit 0); let A12 := [I p.x, I p.y]; let A11 := ((∀ (i:Nat), let A22 := [I (l.g i).x, I (l.g i).y]; i < l.n -> A22 = A22) /\ l.n <= (1000:Nat)); let A10 := (0:Int); let A19 := (A10 <= (1:Int) /\ (1:Int) < (↑(3
:Nat):Int)); let A9 := (2:Int); let A20 := (A10 <= A9 /\ A9 < (↑(3:Nat):Int)); let A7 := (L.Sq.mk l.n fun (k:Nat) => L.dbl (l.g k)); A11 /\ (A11 /\ ∃ (t:Nat), (-1:Int) = L.sgn (L.par A7 p (0:Nat)) /\ A10 = A10 /\ ∀ (j:Nat), j < (0:Nat) -> L.onE A7 p j = false) /\ (∀ (k t:Nat) (vk : Nat -> Go.Value), let A8 := (l.g (T (↑k:Int))); let A3 := (L.Sq.mk l.n fun (k:Nat) => L.dbl (l.g
 k)); let A18 := (L.par A3 p k); let A13 := (L.par A3 p (k + A21)); let A2 := (L.Pt.mk (A9 * A8.x) (A9 * A8.y)); let A1 := (l.g (T (M ((↑k:Int) + (1:Int)) (↑l.n:Int)))); let A4 := (L.Pt.mk (A9 * A1.x) (A9 * A1.y)); let A6 := (bif bif decide (A9 * A8.y <= p.y) then decide (p.y < A9 * A1.y) else false then decide (A10 < L.cross A2 A4 p) else false); let A5
 := (bif bif decide (A9 * A1.y <= p.y) then decide (p.y < A9 * A8.y) else false then decide (A10 < L.cross A4 A2 p) else false); k < l.n -> (∀ (j:Nat), j < k -> L.onE A3 p j = false) -> A19 /\ InK .i64 (A9 * A8.x) /\ A19 /\ InK .i64 (A9 * A8.y) /\ A20 /\ InK .i64 (A9 * A1.x) /\ A20 /\ InK .i64 (A9 *
 A1.y) /\ (L.bd A2 /\ L.bd A4 /\ L.bd p) /\ (L.on A2 A4 p = true -> nat_lit 0 = nat_lit 0 /\ nat_lit 0 = nat_lit 0 /\ SV.ref A12 A14 = SV.ref A12 A14 /\ vk A15 = vk A15 /\ vk A16 = vk A16 /\ vk A17 = vk A17 /\ A10 = L.wher A3 p) /\ (L.on A2 A4 p = false -> (decide (A9 * A1.y < A9 * A8.y) = true -> ((bif decide (A9 * A1.y <= p.y) then decide (p.y < A9 *
 A8.y) else false) = true -> L.bd A4 /\ L.bd A2 /\ L.bd p) /\ (A5 = true -> InK .i64 (A10 - L.sgn A18) /\ ∃ (t':Nat), nat_lit 0 = nat_lit 0 /\ nat_lit 0 = nat_lit 0 /\ SV.ref A12 A14 = SV.ref A12 A14 /\ vk A15 = vk A15 /\ vk A16 = vk A16 /\ vk A17 = vk A17 /\ A10 - L.sgn A18 = L.sgn A13 /\ A10 = A10 /\ ∀ (j:Nat), j < k + A21 -> L.onE A3 p j = false) /\ (A5 =
 false -> ∃ (t':Nat), nat_lit 0 = nat_lit 0 /\ nat_lit 0 = nat_lit 0 /\ SV.ref A12 A14 = SV.ref A12 A14 /\ vk A15 = vk A15 /\ vk A16 = vk A16 /\ vk A17 = vk A17 /\ L.sgn A18 = L.sgn A13 /\ A10 = A10 /\ ∀ (j:Nat), j < k + A21 -> L.onE A3 p j = false)) /\ (decide (A9 * A1.y < A9 * A8.y) = false -> ((bif decide (A9 * A8.y <= p.y) then decide (p.y < A9 *
 A1.y) else false) = true -> L.bd A2 /\ L.bd A4 /\ L.bd p) /\ (A6 = true -> InK .i64 (A10 - L.sgn A18) /\ ∃ (t':Nat), nat_lit 0 = nat_lit 0 /\ nat_lit 0 = nat_lit 0 /\ SV.ref A12 A14 = SV.ref A12 A14 /\ vk A15 = vk A15 /\ vk A16 = vk A16 /\ vk A17 = vk A17 /\ A10 - L.sgn A18 = L.sgn A13 /\ A10 = A10 /\ ∀ (j:Nat), j < k + A21 -> L.onE A3 p j = false) /\ (A6 =
 false -> ∃ (t':Nat), nat_lit 0 = nat_lit 0 /\ nat_lit 0 = nat_lit 0 /\ SV.ref A12 A14 = SV.ref A12 A14 /\ vk A15 = vk A15 /\ vk A16 = vk A16 /\ vk A17 = vk A17 /\ L.sgn A18 = L.sgn A13 /\ A10 = A10 /\ ∀ (j:Nat), j < k + A21 -> L.onE A3 p j = false)))) /\ ∀ (t:Nat), (∀ (j:Nat), j < l.n -> L.onE A7 p j = false) -> L.sgn (L.par A7 p l.n) = L.wher A7 p) (by kernel_rfl) (by
    conv => zeta
    obtain ⟨hv, hbq⟩ := hp
    obtain ⟨n3, n24, _, _⟩ := validOutline_of hv
    have hpt := pts_valid hv
    refine ⟨⟨fun _ _ => rfl, by omega⟩, ⟨⟨fun _ _ => rfl, by omega⟩, 0, rfl, rfl, fun j hj => absurd hj (Nat.not_lt_zero _)⟩, fun k t vk hk h0 => ?_, fun t h0 => wher_off (l := L.dblS l) h0⟩
    have hkn : L.next l.n k < l.n := next_lt (by omega)
    have hk : k < l.n := hk
    obtain ⟨⟨a1, a2, a3, a4⟩, ha⟩ := dbl_bd (hpt k hk)
    obtain ⟨⟨b1, b2, b3, b4⟩, hb⟩ := dbl_bd (hpt _ hkn)
    have e0 : ((k:Int)).toNat = k := Int.toNat_natCast k
    rw [e0]
    have hs := sgn_bd (L.par (L.dblS l) p k)
    have hst : L.par (L.dblS l) p (k + 1) = bif L.crE (L.dbl (l.g k)) (L.dbl (l.g (L.next l.n k))) p then !L.par (L.dblS l) p k else L.par (L.dblS l) p k := rfl
    rw [cr_sorted] at hst
    have hoff : L.onE (L.dblS l) p k = false -> ∀ j, j < k + 1 -> L.onE (L.dblS l) p j = false := fun h j hj => by
      rcases Nat.lt_succ_iff_lt_or_eq.1 hj with h' | rfl
      · exact h0 j h'
      · exact h
    have yes : ∀ {c : Bool}, L.par (L.dblS l) p (k + 1) = (bif c then !L.par (L.dblS l) p k else L.par (L.dblS l) p k) -> c = true -> 0 - L.sgn (L.par (L.dblS l) p k) = L.sgn (L.par (L.dblS l) p (k + 1)) := fun h hc => by
      rw [h, hc, sgn_not]; rfl
    have no : ∀ {c : Bool}, L.par (L.dblS l) p (k + 1) = (bif c then !L.par (L.dblS l) p k else L.par (L.dblS l) p k) -> c = false -> L.sgn (L.par (L.dblS l) p k) = L.sgn (L.par (L.dblS l) p (k + 1)) := fun h hc => by
      rw [h, hc]; rfl
    refine ⟨by decide, InK.of (Int.le_trans (by decide) a1) (Int.le_trans a2 (by decide)), by decide, InK.of (Int.le_trans (by decide) a3) (Int.le_trans a4 (by decide)), by decide, InK.of (Int.le_trans (by decide) b1) (Int.le_trans b2 (by decide)), by decide, InK.of (Int.le_trans (by decide) b3) (Int.le_trans b4 (by decide)), ⟨ha, hb, hbq⟩, fun h => ⟨rfl, rfl, rfl, rfl, rfl, rfl, wher_on (l := L.dblS l) hk h⟩, fun h => ⟨fun hc => ?_, fun hc => ?_⟩⟩
    · have hc : decide ((L.dbl (l.g (L.next l.n k))).y < (L.dbl (l.g k)).y) = true := hc
      rw [hc] at hst
      exact ⟨fun _ => ⟨hb, ha, hbq⟩, fun hu => ⟨InK.of (by show _ <= 0 - L.sgn (L.par (L.dblS l) p k); omega) (by show 0 - L.sgn (L.par (L.dblS l) p k) <= _; omega), 0, rfl, rfl, rfl, rfl, rfl, rfl, yes hst hu, rfl, hoff h⟩, fun hu => ⟨0, rfl, rfl, rfl, rfl, rfl, rfl, no hst hu, rfl, hoff h⟩⟩
    · have hc : decide ((L.dbl (l.g (L.next l.n k))).y < (L.dbl (l.g k)).y) = false := hc
      rw [hc] at hst
      exact ⟨fun _ => ⟨ha, hb, hbq⟩, fun hu => ⟨InK.of (by show _ <= 0 - L.sgn (L.par (L.dblS l) p k); omega) (by show 0 - L.sgn (L.par (L.dblS l) p k) <= _; omega), 0, rfl, rfl, rfl, rfl, rfl, rfl, yes hst hu, rfl, hoff h⟩, fun hu => ⟨0, rfl, rfl, rfl, rfl, rfl, rfl, no hst hu, rfl, hoff h⟩⟩)
theorem p_place_ok : SpecOk Tryz.prog 49 p_place_S := fnX Tryz.func49 (c := bodyOf Tryz.f49) (by kernel_rfl) mixed (fun args p r hs hp => by
 unfold p_place_s at hs
 split at hs
 · cases hs; exact ⟨_, _, p_place_vc _ _ hp.2, (.p (.sl hp.1) (.same _ .nil)), ⟨show SpecsL Tryz.prog _ from (SpecsL.cons p_triples_ok p_triples_en (SpecsL.cons p_on_ok p_on_en (SpecsL.cons p_cross_ok p_cross_en SpecsL.nil))), rfl, ⟨show ItersL Tryz.prog _ from (ItersL.cons p_triples1_itok p_triples1_en ItersL.nil), (TrsOk.none (fun _ => rfl))⟩⟩⟩
 · cases hs)
theorem p_place_en : Enters Tryz.prog 49 := fun args w => by kernel_rfl
def r1_Where_p (l : (L.Sq L.Pt)) (p : L.Pt) : Prop := (L.small l /\ 1 <= l.n) /\ L.bd p
def r1_Where_r (l : (L.Sq L.Pt)) (p : L.Pt) : SV := .int .i64 (L.wher l p)
def r1_Where_s : List EV -> Option (Prop × SV)
 | [.p (.sl 2 l_n l_g), .p (.agg [.int .i64 p_x, .int .i64 p_y])] => some ((∀ i, i < l_n -> l_g i = [.int .i64 ((ofPt (l_g i)).x), .int .i64 ((ofPt (l_g i)).y)]) /\ r1_Where_p (⟨l_n, fun i => ofPt (l_g i)⟩ : (L.Sq L.Pt)) (⟨p_x, p_y⟩ : L.Pt), r1_Where_r (⟨l_n, fun i => ofPt (l_g i)⟩ : (L.Sq L.Pt)) (⟨p_x, p_y⟩ : L.Pt))
 | _ => none
abbrev r1_Where_S : SE.Spec := (specO r1_Where_s)
def r1_Where_C : Cfg := { cC with muts := [7, 8], specs := lookS [(41, r1_at_S), (120, r1_On_S), (18, r1_Cross_S)] }
theorem r1_Where_vc (l : (L.Sq L.Pt)) (p : L.Pt) (hp : r1_Where_p l p) : vc Tryz.prog ({ r1_Where_C with loops := lookL [(3, { T := Nat, keep := [0, 3], keepO := [], chg := fun i => [(5, .p (.bool (L.par l p i))), (6, .p (.int .i64 (i:Int)))], own := fun _ => [], inv := fun i => i <= l.n /\ ∀ j, j < i -> L.onE l p j = false, mu := fun i => l.n - i })], rfs := lookR [] }) (bodyOf Tryz.f90) (st0 Tryz.f90 [.p (.sl 2 l.n (fun i => [.int .i64 ((l.g i).x), .int .i64 ((l.g i).y)])), .p (.agg [.int .i64 p.x, .int .i64 p.y])]) (retFn Tryz.prog Tryz.f90 (r1_Where_r l p)) :=
 @Eq.mpr _ (let I := SV.int .i64; let T := Int.toNat; let A13 := (↑l.n:Int); let A9 := (nat_lit 0); let A8 := (0:Int); let A7 := [I p.x, I p.y]; let A6 := (1:Int); let A4 := (l.n = l.n /\ ∀ (i:Nat), let A10 := [I (l.g i).x, I (l.g i).y]; i < l.n -> A10 = A10); (∃ (g:Nat), false = L.par l p g /\ A8 = (↑g:Int) /\ g <= l.n /\ ∀ (j:Nat), j < g -> L.onE l p j = false) /\ ∀ (g : Nat), let A5 := (↑g:Int); let A12 := (A5 + A6); let A3 := (l.g (T A5)); let A1 := (l.g (L.ix l.n A12)); let A2 := (bif bif bif decide (A3.y <= p.y) then decide (p.y < A1.y) else false then decide (A8 < L.cross A3 A1 p) else false then true else bif bif decide (A1.y <= p.y) then decide (p.y < A3.y) else false then decide (L.cross A3 A1 p < A8) else false); (g <= l.n /\ ∀ (j:Nat), j < g -> L.onE l p j = false) -> (decide (A5 < A13) = true -> (A8 <= A5 /\ A5 < A13) /\ InK .i64 A12 /\ ((∀ (i:Nat), let A11 := [I (l.g i).x, I (l.g i).y]; i < l.n -> A11 = A11) /\ (1:Nat) <= l.n /\ l.n <= (1000000:Nat) /\ (-1000000:Int) <= A5 + A6 /\ A5 + A6 <= (1000000:Int)) /\ (L.bd A3 /\ L.bd A1 /\ L.bd p) /\ (L.on A3 A1 p = true -> A8 = L.wher l p) /\ (L.on A3 A1 p = false -> ((bif decide (A3.y <= p.y) then decide (p.y < A1.y) else false) = true -> L.bd A3 /\ L.bd A1 /\ L.bd p) /\ (((!bif bif decide (A3.y <= p.y) then decide (p.y < A1.y) else false then decide (A8 < L.cross A3 A1 p) else false) && bif decide (A1.y <= p.y) then decide (p.y < A3.y) else false) = true -> L.bd A3 /\ L.bd A1 /\ L.bd p) /\ (A2 = true -> InK .i64 A12 /\ ∃ (g':Nat), (!L.par l p g) = L.par l p g' /\ A5 + A6 = (↑g':Int) /\ SV.ref A7 A9 = SV.ref A7 A9 /\ A4 /\ (g' <= l.n /\ ∀ (j:Nat), j < g' -> L.onE l p j = false) /\ l.n - g' < l.n - g) /\ (A2 = false -> InK .i64 A12 /\ ∃ (g':Nat), L.par l p g = L.par l p g' /\ A5 + A6 = (↑g':Int) /\ SV.ref A7 A9 = SV.ref A7 A9 /\ A4 /\ (g' <= l.n /\ ∀ (j:Nat), j < g' -> L.onE l p j = false) /\ l.n - g' < l.n - g))) /\ (decide (A5 < A13) = false -> (L.par l p g = true -> A6 = L.wher l p) /\ (L.par l p g = false -> (-1:Int) = L.wher l p))) (by kernel_rfl) (by
 conv => zeta
 obtain ⟨⟨⟨n24, hb⟩, n3⟩, hbq⟩ := hp
 have hb : ∀ k, k < l.n -> L.bd (l.g k) := hb
 refine ⟨⟨0, rfl, rfl, Nat.zero_le _, fun j hj => absurd hj (Nat.not_lt_zero _)⟩, fun g hg => ⟨fun hlt => ?_, fun hge => ?_⟩⟩
 · have hlt : (g:Int) < (l.n:Int) := of_decide_eq_true hlt
   have hk : g < l.n := by omega
   have e0 : ((g:Int)).toNat = g := Int.toNat_natCast g
   have hkn : L.next l.n g < l.n := next_lt (by omega)
   rw [e0, ix_next hk]
   have hst : L.par l p (g + 1) = bif L.crE (l.g g) (l.g (L.next l.n g)) p then !L.par l p g else L.par l p g := rfl
   have hoff : L.onE l p g = false -> ∀ j, j < g + 1 -> L.onE l p j = false := fun h j hj => by
     rcases Nat.lt_succ_iff_lt_or_eq.1 hj with h' | rfl
     · exact hg.2 j h'
     · exact h
   refine ⟨⟨by omega, hlt⟩, iK, ⟨fun _ _ => rfl, by omega, by omega, by omega, by omega⟩, ⟨hb _ hk, hb _ hkn, hbq⟩, fun h => wher_on hk h, fun h => ⟨fun _ => ⟨hb _ hk, hb _ hkn, hbq⟩, fun _ => ⟨hb _ hk, hb _ hkn, hbq⟩, fun hc => ?_, fun hc => ?_⟩⟩
   · have hc : L.crE (l.g g) (l.g (L.next l.n g)) p = true := hc
     exact ⟨iK, g + 1, by rw [hst, hc]; rfl, by omega, rfl, ⟨rfl, fun _ _ => rfl⟩, ⟨by omega, hoff h⟩, by omega⟩
   · have hc : L.crE (l.g g) (l.g (L.next l.n g)) p = false := hc
     exact ⟨iK, g + 1, by rw [hst, hc]; rfl, by omega, rfl, ⟨rfl, fun _ _ => rfl⟩, ⟨by omega, hoff h⟩, by omega⟩
 · have hge : ¬ (g:Int) < (l.n:Int) := of_decide_eq_false hge
   obtain rfl : g = l.n := by omega
   have hw := wher_off hg.2
   exact ⟨fun h => by have h : L.par l p l.n = true := h; rw [h] at hw; exact hw, fun h => by have h : L.par l p l.n = false := h; rw [h] at hw; exact hw⟩)
theorem r1_Where_ok : SpecOk Tryz.prog 90 r1_Where_S := fnX Tryz.func90 (c := bodyOf Tryz.f90) (by kernel_rfl) mixed (fun args p r hs hp => by
 unfold r1_Where_s at hs
 split at hs
 · cases hs; exact ⟨_, _, r1_Where_vc _ _ hp.2, (.p (.sl hp.1) (.same _ .nil)), ⟨show SpecsL Tryz.prog _ from (SpecsL.cons r1_at_ok r1_at_en (SpecsL.cons r1_On_ok r1_On_en (SpecsL.cons r1_Cross_ok r1_Cross_en SpecsL.nil))), rfl, ⟨show ItersL Tryz.prog _ from ItersL.nil, (TrsOk.none (fun _ => rfl))⟩⟩⟩
 · cases hs)
theorem r1_Where_en : Enters Tryz.prog 90 := fun args w => by kernel_rfl
end Go.Proofs.YtaklapjfnejlbaaGreat
namespace Go.Proofs.YtaklapjfnejlbaaGreat
open Go.SE Go.RowKit
set_option maxRecDepth 100000
set_option maxHeartbeats 4000000
set_option linter.unusedVariables false
attribute [local irreducible] vc
open Conf
def L.spBad (l : L.Sq L.Pt) (u v:Int) : Bool := bif bif bif !L.validOutline l then true else decide (u < 0) then true else decide (v <= u) then true else decide ((l.n:Int) <= v)
def L.spNb (l : L.Sq L.Pt) (u v:Int) : Bool := bif decide (v = u + 1) then true else bif decide (u = 0) then decide (v = (l.n:Int) - 1) else false
def L.spEnd (l : L.Sq L.Pt) (u v:Int) (m:Nat) : Bool := bif bif bif decide ((m:Int) = u) then true else decide ((m:Int) = v) then true else decide (Int.tmod ((m:Int) + 1) (l.n:Int) = u) then true else decide (Int.tmod ((m:Int) + 1) (l.n:Int) = v)
def L.spHow (l : L.Sq L.Pt) (u v:Int) (m:Nat) : Int := L.meet (l.g u.toNat) (l.g v.toNat) (l.g m) (l.g (L.next l.n m))
def L.spE (l : L.Sq L.Pt) (u v:Int) (m:Nat) : Bool := bif L.spEnd l u v m then decide (L.spHow l u v m = 1) else decide (L.spHow l u v m = 0)
def L.rdE (l : L.Sq L.Pt) (u v:Int) (m:Nat) : Bool := !(bif !decide (L.spHow l u v m = 0) then bif !L.spEnd l u v m then true else !decide (L.spHow l u v m = 1) else false)
def L.spMid (l : L.Sq L.Pt) (u v:Int) : L.Pt := ⟨(l.g u.toNat).x + (l.g v.toNat).x, (l.g u.toNat).y + (l.g v.toNat).y⟩
def L.spIn (l : L.Sq L.Pt) (u v:Int) : Bool := decide (L.wher ⟨l.n, fun k => L.dbl (l.g k)⟩ (L.spMid l u v) = 1)
def L.spDg (l : L.Sq L.Pt) (u v:Int) : Bool := bif L.allB l.n (L.spE l u v) then L.spIn l u v else false
def L.rDg (l : L.Sq L.Pt) (u v:Int) : Bool := bif L.allB l.n (L.rdE l u v) then L.spIn l u v else false
def L.spErr (l : L.Sq L.Pt) (u v:Int) : Int := bif L.spBad l u v then 1 else bif L.spNb l u v then 12 else bif L.spDg l u v then 0 else 12
def L.sub (l : L.Sq L.Pt) (lo hi:Int) : L.Sq L.Pt := ⟨(hi - lo).toNat, fun k => l.g (lo.toNat + k)⟩
def L.ptA (l : L.Sq L.Pt) (u v:Int) : L.Sq L.Pt := L.sub l u (v + 1)
def L.ptB (l : L.Sq L.Pt) (u v:Int) : L.Sq L.Pt := L.catTo (L.two (L.sub l v (l.n:Int)) (L.sub l 0 (u + 1))) 2
def L.spA (l : L.Sq L.Pt) (u v:Int) : L.Sq L.Pt := L.norm (L.thin L.cFlat (L.ptA l u v))
def L.spB (l : L.Sq L.Pt) (u v:Int) : L.Sq L.Pt := L.norm (L.thin L.cFlat (L.ptB l u v))
def L.rsErr (l : L.Sq L.Pt) (u v:Int) : Int := bif L.spBad l u v then 1 else bif bif L.spNb l u v then true else !L.rDg l u v then 12 else bif bif !decide (L.outE (L.rch l u v) = 0) then true else !decide (L.outE (L.rch l v u) = 0) then 12 else 0
theorem rot_toL {x : L.Sq L.Pt} {i : Nat} (h : i <= x.n) : Rot (L.toL x) (L.toL (L.rot x i)) := by
 refine ⟨(L.toL x).take i, (L.toL x).drop i, (List.take_append_drop _ _).symm, ?_⟩
 have lf := toL_len x
 refine List.ext_getElem? fun k => ?_
 rw [toL_get]
 show (if k < x.n then some ((L.rot x i).g k) else none) = _
 by_cases hk : k < x.n
 · rw [if_pos hk]
   show some (bif decide (k < x.n - i) then x.g (i + k) else x.g (k - (x.n - i))) = _
   by_cases hd : k < x.n - i
   · rw [decide_eq_true hd, List.getElem?_append_left (by rw [List.length_drop]; omega), List.getElem?_drop, toL_get, if_pos (by omega)]; rfl
   · rw [decide_eq_false hd, List.getElem?_append_right (by rw [List.length_drop]; omega), List.getElem?_take, List.length_drop, lf, if_pos (by omega), toL_get, if_pos (by omega)]; rfl
 · rw [if_neg hk, List.getElem?_eq_none (by rw [List.length_append, List.length_drop, List.length_take]; omega)]
theorem out_fine {l : L.Sq L.Pt} (hv : L.validOutline l = true) : L.fine l := by
 obtain ⟨n3, n24, hsm, hbd⟩ := validOutline_of hv
 obtain ⟨hp, hc⟩ := outline_all hv
 have hs : L.simple l = true := by
   unfold L.validOutline at hv
   rw [Bool.and_eq_true, Bool.and_eq_true] at hv
   exact hv.2.2
 have hsh : L.sharp l := fun i hi => decide_eq_false (hc i hi)
 exact ⟨n3, by omega, hs, nodup_toL n3 hs hsh, fun p h => by obtain ⟨k, hk, rfl⟩ := mem_toL.1 h; exact hbd.2 k hk⟩
theorem part_fine {x : L.Sq L.Pt} (h : L.fine x) {d : Nat} (h2 : 2 <= d) (hd : d + 2 <= x.n)
   (hdi : ∀ m, m < x.n -> L.meet (x.g 0) (x.g d) (x.g m) (x.g (L.next x.n m)) = (if m = 0 \/ m = d \/ m + 1 = d \/ m + 1 = x.n then 1 else 0)) : L.fine ⟨d + 1, x.g⟩ := by
 obtain ⟨h3, hn, hs, hnd, hb⟩ := h
 refine ⟨show 3 <= d + 1 by omega, show d + 1 <= 1000 by omega, part_simple hs h2 hd hdi, ?_, fun p hp => ?_⟩
 · have hsub : (List.range (d + 1)).Sublist (List.range x.n) := List.range_sublist.2 (by omega)
   exact List.Nodup.sublist (hsub.map x.g) hnd
 · obtain ⟨k, hk, rfl⟩ := mem_toL.1 hp
   exact hb _ (mem_toL.2 ⟨k, by have hk : k < d + 1 := hk; omega, rfl⟩)
theorem part_of {l : L.Sq L.Pt} (hl : L.fine l) {a b d : Nat} (ha : a < l.n) (hd2 : 2 <= d) (hdn : d + 2 <= l.n) (hb : (d < l.n - a /\ b = a + d) \/ (¬ d < l.n - a /\ b = d - (l.n - a)))
   (H : ∀ m, m < l.n -> L.meet (l.g a) (l.g b) (l.g m) (l.g (L.next l.n m)) = if m = a \/ m = b \/ L.next l.n m = a \/ L.next l.n m = b then 1 else 0) : L.fine ⟨d + 1, (L.rot l a).g⟩ := by
 have hx : L.fine (L.rot l a) := fine_rot hl (rot_toL (by omega))
 refine part_fine hx hd2 hdn (fun m hm => ?_)
 have hm : m < l.n := hm
 have g1 : ∀ j, j < l.n - a -> (L.rot l a).g j = l.g (a + j) := fun j hj => by
   show (bif decide (j < l.n - a) then l.g (a + j) else l.g (j - (l.n - a))) = _
   rw [decide_eq_true hj]; rfl
 have g2 : ∀ j, ¬ j < l.n - a -> (L.rot l a).g j = l.g (j - (l.n - a)) := fun j hj => by
   show (bif decide (j < l.n - a) then l.g (a + j) else l.g (j - (l.n - a))) = _
   rw [decide_eq_false hj]; rfl
 show L.meet ((L.rot l a).g 0) ((L.rot l a).g d) ((L.rot l a).g m) ((L.rot l a).g (L.next l.n m)) = if m = 0 \/ m = d \/ m + 1 = d \/ m + 1 = l.n then 1 else 0
 have e0 : (L.rot l a).g 0 = l.g a := by rw [g1 0 (by omega)]; rfl
 have ed : (L.rot l a).g d = l.g b := by
   rcases hb with ⟨h1, h2⟩ | ⟨h1, h2⟩
   · rw [g1 d h1, h2]
   · rw [g2 d h1, h2]
 obtain ⟨m', m1, em, q1⟩ : ∃ m', m' < l.n /\ (L.rot l a).g m = l.g m' /\ ((m < l.n - a /\ m' = a + m) \/ (¬ m < l.n - a /\ m' = m - (l.n - a))) := by
   by_cases c : m < l.n - a
   · exact ⟨a + m, by omega, g1 m c, .inl ⟨c, rfl⟩⟩
   · exact ⟨m - (l.n - a), by omega, g2 m c, .inr ⟨c, rfl⟩⟩
 have q2 : (m + 1 = l.n /\ L.next l.n m = 0) \/ (m + 1 ≠ l.n /\ L.next l.n m = m + 1) := by
   rw [next_at hm]; by_cases c : m + 1 = l.n
   · exact .inl ⟨c, if_pos c⟩
   · exact .inr ⟨c, if_neg c⟩
 have q3 : (m' + 1 = l.n /\ L.next l.n m' = 0) \/ (m' + 1 ≠ l.n /\ L.next l.n m' = m' + 1) := by
   rw [next_at m1]; by_cases c : m' + 1 = l.n
   · exact .inl ⟨c, if_pos c⟩
   · exact .inr ⟨c, if_neg c⟩
 have en : (L.rot l a).g (L.next l.n m) = l.g (L.next l.n m') := by
   by_cases c : L.next l.n m < l.n - a
   · rw [g1 _ c, show a + L.next l.n m = L.next l.n m' by omega]
   · rw [g2 _ c, show L.next l.n m - (l.n - a) = L.next l.n m' by omega]
 rw [e0, ed, em, en, H m' m1]
 by_cases c : m = 0 \/ m = d \/ m + 1 = d \/ m + 1 = l.n
 · rw [if_pos c, if_pos (by omega)]
 · rw [if_neg c, if_neg (by omega)]
theorem spEnd_iff {l : L.Sq L.Pt} {a b m : Nat} (hn : 0 < l.n) : L.spEnd l (a:Int) (b:Int) m = true ↔ (m = a \/ m = b \/ L.next l.n m = a \/ L.next l.n m = b) := by
 have e : Int.tmod ((m:Int) + 1) (l.n:Int) = ((L.next l.n m:Nat):Int) := by
   unfold L.next
   have := Int.tmod_nonneg (a := (m:Int) + 1) (l.n:Int) (by omega)
   omega
 unfold L.spEnd
 rw [e, bor, bor, bor, Bool.or_eq_true, Bool.or_eq_true, Bool.or_eq_true, decide_eq_true_eq, decide_eq_true_eq, decide_eq_true_eq, decide_eq_true_eq]
 omega
theorem spE_H {l : L.Sq L.Pt} {a b m : Nat} (hn : 0 < l.n) (h : L.spE l (a:Int) (b:Int) m = true) : L.meet (l.g a) (l.g b) (l.g m) (l.g (L.next l.n m)) = if m = a \/ m = b \/ L.next l.n m = a \/ L.next l.n m = b then 1 else 0 := by
 have hh : L.spHow l (a:Int) (b:Int) m = L.meet (l.g a) (l.g b) (l.g m) (l.g (L.next l.n m)) := by
   unfold L.spHow; rw [Int.toNat_natCast, Int.toNat_natCast]
 unfold L.spE at h
 rw [hh] at h
 by_cases c : m = a \/ m = b \/ L.next l.n m = a \/ L.next l.n m = b
 · rw [(spEnd_iff hn).2 c] at h
   rw [if_pos c]; exact of_decide_eq_true h
 · rw [show L.spEnd l (a:Int) (b:Int) m = false by cases hq : L.spEnd l (a:Int) (b:Int) m with | true => exact absurd ((spEnd_iff hn).1 hq) c | false => rfl] at h
   rw [if_neg c]; exact of_decide_eq_true h
theorem spBad_no {l : L.Sq L.Pt} {u v : Int} (h : L.spBad l u v = false) : L.validOutline l = true /\ 0 <= u /\ u < v /\ v < (l.n:Int) := by
 unfold L.spBad at h
 rw [bor, bor, bor, Bool.or_eq_false_iff, Bool.or_eq_false_iff, Bool.or_eq_false_iff] at h
 obtain ⟨⟨⟨h1, h2⟩, h3⟩, h4⟩ := h
 have h2 := of_decide_eq_false h2
 have h3 := of_decide_eq_false h3
 have h4 := of_decide_eq_false h4
 exact ⟨notF h1, by omega, by omega, by omega⟩
theorem spNb_no {l : L.Sq L.Pt} {u v : Int} (h : L.spNb l u v = false) : v ≠ u + 1 /\ ¬ (u = 0 /\ v = (l.n:Int) - 1) := by
 unfold L.spNb at h
 rw [bor, band, Bool.or_eq_false_iff] at h
 refine ⟨of_decide_eq_false h.1, fun ⟨a, b⟩ => ?_⟩
 rw [decide_eq_true a, decide_eq_true b] at h
 exact Bool.noConfusion h.2
theorem parts_fine {l : L.Sq L.Pt} {u v : Int} (hb : L.spBad l u v = false) (hn : L.spNb l u v = false) (hE : ∀ j, j < l.n -> L.spE l u v j = true) : L.fine (L.ptA l u v) /\ L.fine (L.ptB l u v) := by
 obtain ⟨hv, h0, h1, h2⟩ := spBad_no hb
 obtain ⟨h3, h4⟩ := spNb_no hn
 obtain ⟨a, rfl⟩ : ∃ a : Nat, u = (a:Int) := ⟨u.toNat, by omega⟩
 obtain ⟨b, rfl⟩ : ∃ b : Nat, v = (b:Int) := ⟨v.toNat, by omega⟩
 have hl := out_fine hv
 have H : ∀ m, m < l.n -> L.meet (l.g a) (l.g b) (l.g m) (l.g (L.next l.n m)) = if m = a \/ m = b \/ L.next l.n m = a \/ L.next l.n m = b then 1 else 0 := fun m hm => spE_H (by omega) (hE m hm)
 have H' : ∀ m, m < l.n -> L.meet (l.g b) (l.g a) (l.g m) (l.g (L.next l.n m)) = if m = b \/ m = a \/ L.next l.n m = b \/ L.next l.n m = a then 1 else 0 := fun m hm => by
   rw [meet_rev, H m hm]
   by_cases c : m = a \/ m = b \/ L.next l.n m = a \/ L.next l.n m = b
   · rw [if_pos c, if_pos (by omega)]
   · rw [if_neg c, if_neg (by omega)]
 constructor
 · have := part_of hl (a := a) (b := b) (d := b - a) (by omega) (by omega) (by omega) (.inl ⟨by omega, by omega⟩) H
   refine fine_rot this ?_
   have e : L.toL ⟨b - a + 1, (L.rot l a).g⟩ = L.toL (L.ptA l (a:Int) (b:Int)) := by
     have en : ((b:Int) + 1 - (a:Int)).toNat = b - a + 1 := by omega
     show (List.range (b - a + 1)).map (L.rot l a).g = (List.range (((b:Int) + 1 - (a:Int)).toNat)).map (fun k => l.g ((a:Int).toNat + k))
     rw [en, Int.toNat_natCast]
     refine List.map_congr_left fun k hk => ?_
     have hk := List.mem_range.1 hk
     show (bif decide (k < l.n - a) then l.g (a + k) else l.g (k - (l.n - a))) = _
     rw [decide_eq_true (by omega)]; rfl
   rw [e]; exact Rot.refl _
 · have := part_of hl (a := b) (b := a) (d := l.n - b + a) (by omega) (by omega) (by omega) (.inr ⟨by omega, by omega⟩) H'
   refine fine_rot this ?_
   have e : L.toL ⟨l.n - b + a + 1, (L.rot l b).g⟩ = L.toL (L.ptB l (a:Int) (b:Int)) := by
     have en : ((l.n:Int) - (b:Int)).toNat = l.n - b := by omega
     have em : ((a:Int) + 1 - 0).toNat = a + 1 := by omega
     show (List.range (l.n - b + a + 1)).map (L.rot l b).g = (List.range (0 + ((l.n:Int) - (b:Int)).toNat + ((a:Int) + 1 - 0).toNat)).map (fun k => bif decide (k < 0 + ((l.n:Int) - (b:Int)).toNat) then (bif decide (k < 0) then (⟨0, 0⟩ : L.Pt) else l.g ((b:Int).toNat + (k - 0))) else l.g ((0:Int).toNat + (k - (0 + ((l.n:Int) - (b:Int)).toNat))))
     rw [en, em, Int.toNat_natCast, Nat.zero_add, <- Nat.add_assoc]
     refine List.map_congr_left fun k hk => ?_
     have hk := List.mem_range.1 hk
     show (bif decide (k < l.n - b) then l.g (b + k) else l.g (k - (l.n - b))) = _
     by_cases c : k < l.n - b
     · rw [decide_eq_true c, decide_eq_false (Nat.not_lt_zero k)]; rfl
     · rw [decide_eq_false c, show (0:Int).toNat + (k - (l.n - b)) = k - (l.n - b) by simp]; rfl
   rw [e]; exact Rot.refl _
theorem end_ne {l : L.Sq L.Pt} {a b m : Nat} (c : m = a \/ m = b \/ L.next l.n m = a \/ L.next l.n m = b) : L.meet (l.g a) (l.g b) (l.g m) (l.g (L.next l.n m)) ≠ 0 := fun h => by
 have h := (meet_zero.1 h).1
 rcases c with c | c | c | c
 · exact h _ (.inl ⟨by rw [c]; exact on_left, rfl⟩)
 · exact h _ (.inr (.inl ⟨by rw [c]; exact on_left, rfl⟩))
 · exact h _ (.inl ⟨by rw [c]; exact on_right, rfl⟩)
 · exact h _ (.inr (.inl ⟨by rw [c]; exact on_right, rfl⟩))
theorem rdE_eq {l : L.Sq L.Pt} {u v : Int} {m : Nat} (hn : 0 < l.n) (hu : 0 <= u) (hv : 0 <= v) : L.rdE l u v m = L.spE l u v m := by
 obtain ⟨a, rfl⟩ : ∃ a : Nat, u = (a:Int) := ⟨u.toNat, by omega⟩
 obtain ⟨b, rfl⟩ : ∃ b : Nat, v = (b:Int) := ⟨v.toNat, by omega⟩
 have hh : L.spHow l (a:Int) (b:Int) m = L.meet (l.g a) (l.g b) (l.g m) (l.g (L.next l.n m)) := by
   unfold L.spHow; rw [Int.toNat_natCast, Int.toNat_natCast]
 unfold L.rdE L.spE
 cases c : L.spEnd l (a:Int) (b:Int) m with
 | true =>
   have := end_ne ((spEnd_iff hn).1 c)
   rw [<- hh] at this
   rw [decide_eq_false this]
   cases decide (L.spHow l (a:Int) (b:Int) m = 1) <;> rfl
 | false => cases decide (L.spHow l (a:Int) (b:Int) m = 0) <;> rfl
theorem rDg_eq {l : L.Sq L.Pt} {u v : Int} (hn : 0 < l.n) (hu : 0 <= u) (hv : 0 <= v) : L.rDg l u v = L.spDg l u v := by
 unfold L.rDg L.spDg
 rw [show L.rdE l u v = L.spE l u v from funext fun m => rdE_eq hn hu hv]
theorem pt_rng {p : L.Pt} (h : L.validPt p = true) : 0 <= p.x /\ p.x <= 4096 /\ 0 <= p.y /\ p.y <= 4096 := by
 have : 0 <= 2 * p.x /\ 2 * p.x <= 8192 /\ 0 <= 2 * p.y /\ 2 * p.y <= 8192 := (dbl_bd h).1
 omega
theorem mid_bd {l : L.Sq L.Pt} {u v : Int} (hv : L.validOutline l = true) (h1 : u.toNat < l.n) (h2 : v.toNat < l.n) : (0 <= (L.spMid l u v).x /\ (L.spMid l u v).x <= 8192 /\ 0 <= (L.spMid l u v).y /\ (L.spMid l u v).y <= 8192) /\ L.bd (L.spMid l u v) := by
 have a := pt_rng (pts_valid hv _ h1)
 have b := pt_rng (pts_valid hv _ h2)
 unfold L.bd
 show (0 <= (l.g u.toNat).x + (l.g v.toNat).x /\ (l.g u.toNat).x + (l.g v.toNat).x <= 8192 /\ 0 <= (l.g u.toNat).y + (l.g v.toNat).y /\ (l.g u.toNat).y + (l.g v.toNat).y <= 8192) /\ -4000000 <= (l.g u.toNat).x + (l.g v.toNat).x /\ (l.g u.toNat).x + (l.g v.toNat).x <= 4000000 /\ -4000000 <= (l.g u.toNat).y + (l.g v.toNat).y /\ (l.g u.toNat).y + (l.g v.toNat).y <= 4000000
 omega
theorem spErr_bad {l : L.Sq L.Pt} {u v : Int} (h : L.spBad l u v = true) : L.spErr l u v = 1 := by unfold L.spErr; rw [h]; rfl
theorem spErr_nb {l : L.Sq L.Pt} {u v : Int} (h : L.spBad l u v = false) (h' : L.spNb l u v = true) : L.spErr l u v = 12 := by unfold L.spErr; rw [h, h']; rfl
theorem spErr_dg {l : L.Sq L.Pt} {u v : Int} (h : L.spBad l u v = false) (h' : L.spNb l u v = false) : L.spErr l u v = bif L.spDg l u v then 0 else 12 := by unfold L.spErr; rw [h, h']; rfl
theorem spDg_no {l : L.Sq L.Pt} {u v : Int} {m : Nat} (hm : m < l.n) (h : L.spE l u v m = false) : L.spDg l u v = false := by
 unfold L.spDg; rw [allB_false hm h]; rfl
theorem spDg_all {l : L.Sq L.Pt} {u v : Int} (h : ∀ m, m < l.n -> L.spE l u v m = true) : L.spDg l u v = L.spIn l u v := by
 unfold L.spDg; rw [allB_iff.2 h]; rfl
def p_outlined_p (l : (L.Sq L.Pt)) : Prop := L.fine l
def p_outlined_r (l : (L.Sq L.Pt)) : SV := .sl 2 (L.norm (L.thin L.cFlat l)).n (fun k => [.int .i64 (((L.norm (L.thin L.cFlat l)).g k).x), .int .i64 (((L.norm (L.thin L.cFlat l)).g k).y)])
def p_outlined_s : List EV -> Option (Prop × SV)
 | [.p (.sl 2 l_n l_g)] => some ((∀ i, i < l_n -> l_g i = [.int .i64 ((ofPt (l_g i)).x), .int .i64 ((ofPt (l_g i)).y)]) /\ p_outlined_p (⟨l_n, fun i => ofPt (l_g i)⟩ : (L.Sq L.Pt)), p_outlined_r (⟨l_n, fun i => ofPt (l_g i)⟩ : (L.Sq L.Pt)))
 | _ => none
abbrev p_outlined_S : SE.Spec := (specO p_outlined_s)
def p_outlined_C : Cfg := { cC with specs := lookS [(86, p_thinC_S), (85, p_normal_S)], raws := [86] }
theorem p_outlined_vc (l : (L.Sq L.Pt)) (hp : p_outlined_p l) : vc Tryz.prog (p_outlined_C) (bodyOf Tryz.f50) (st0 Tryz.f50 [.p (.sl 2 l.n (fun i => [.int .i64 ((l.g i).x), .int .i64 ((l.g i).y)]))]) (retFn Tryz.prog Tryz.f50 (p_outlined_r l)) :=
 @Eq.mpr _ (let I := SV.int .i64; let A5 := (L.norm (L.thin L.cFlat l)); let A3 := (L.thin L.cFlat (L.Sq.mk l.n fun (i:Nat) => l.g i)); ((∀ (i:Nat), let A7 := [I (l.g i).x, I (l.g i).y]; i < l.n -> A7 = A7) /\ ((1:Nat) <= l.n /\ l.n <= (1000:Nat)) /\ ∀ (k:Nat), k < l.n -> L.bd (l.g k)) /\ ((∀ (i:Nat), let A1 := (L.thin L.cFlat (L.Sq.mk l.n fun (i:Nat) => l.g i)); let A6 := [I (A1.g i).x, I (A1.g i).y]; i < A1.n -> A6 = A6) /\ L.small (L.Sq.mk A3.n fun (i:Nat) => (L.thin L.cFlat (L.Sq.mk l.n fun (i:Nat) => l.g i)).g i) /\ (1:Nat) <= A3.n) /\ ∀ (t:Nat), True -> A3.n = A5.n /\ ∀ (i:Nat), let A4 := (L.thin L.cFlat (L.Sq.mk l.n fun (i:Nat) => l.g i)); let A2 := ((L.norm (L.Sq.mk A4.n fun (i:Nat) => (L.thin L.cFlat (L.Sq.mk l.n fun (i:Nat) => l.g i)).g i)).g i); i < A4.n -> [I A2.x, I A2.y] = [I (A5.g i).x, I (A5.g i).y]) (by kernel_rfl) (by
 conv => zeta
 have hf : L.fine l := hp
 have ht := fine_thin flat_fl hf
 refine ⟨⟨fun _ _ => rfl, ⟨by have := hf.1; omega, hf.2.1⟩, fun k hk => hf.2.2.2.2 _ (mem_toL.2 ⟨k, hk, rfl⟩)⟩, ⟨fun _ _ => rfl, ⟨ht.2.1, fun k hk => ht.2.2.2.2 _ (mem_toL.2 ⟨k, hk, rfl⟩)⟩, by show 1 <= (L.thin L.cFlat l).n; have := ht.1; omega⟩, fun _ _ => ⟨rfl, fun _ _ => rfl⟩⟩)
theorem p_outlined_ok : SpecOk Tryz.prog 50 p_outlined_S := fnX Tryz.func50 (c := bodyOf Tryz.f50) (by kernel_rfl) mixed (fun args p r hs hp => by
 unfold p_outlined_s at hs
 split at hs
 · cases hs; exact ⟨_, _, p_outlined_vc _ hp.2, (.p (.sl hp.1) .nil), ⟨show SpecsL Tryz.prog _ from (SpecsL.cons p_thinC_ok p_thinC_en (SpecsL.cons p_normal_ok p_normal_en SpecsL.nil)), rfl, ⟨show ItersL Tryz.prog _ from ItersL.nil, (TrsOk.none (fun _ => rfl))⟩⟩⟩
 · cases hs)
theorem p_outlined_en : Enters Tryz.prog 50 := fun args w => by kernel_rfl
def p_Split_p (l : (L.Sq L.Pt)) (u:Int) (v:Int) : Prop := l.n <= 1000000
def p_Split_r (l : (L.Sq L.Pt)) (u:Int) (v:Int) : SV := .tup [.sl 2 (bif decide (L.spErr l u v = 0) then (L.spA l u v).n else 0) (fun k => [.int .i64 (((L.spA l u v).g k).x), .int .i64 (((L.spA l u v).g k).y)]), .sl 2 (bif decide (L.spErr l u v = 0) then (L.spB l u v).n else 0) (fun k => [.int .i64 (((L.spB l u v).g k).x), .int .i64 (((L.spB l u v).g k).y)]), .int .i64 (L.spErr l u v)]
def p_Split_s : List EV -> Option (Prop × SV)
 | [.p (.sl 2 l_n l_g), .p (.int .i64 u), .p (.int .i64 v)] => some ((∀ i, i < l_n -> l_g i = [.int .i64 ((ofPt (l_g i)).x), .int .i64 ((ofPt (l_g i)).y)]) /\ p_Split_p (⟨l_n, fun i => ofPt (l_g i)⟩ : (L.Sq L.Pt)) u v, p_Split_r (⟨l_n, fun i => ofPt (l_g i)⟩ : (L.Sq L.Pt)) u v)
 | _ => none
abbrev p_Split_S : SE.Spec := (specO p_Split_s)
def p_Split_C : Cfg := { cC with muts := [6, 7, 8, 9, 11], specs := lookS [(32, p_ValidOutline_S), (33, p_triples_S), (48, p_meet_S), (49, p_place_S), (50, p_outlined_S), (51, s_concat_S)], iters := lookI [(76, p_triples1_it)] }
theorem p_Split_vc (l : (L.Sq L.Pt)) (u:Int) (v:Int) (hp : p_Split_p l u v) : vc Tryz.prog ({ p_Split_C with loops := lookL [], rfs := lookR [(7, { T := Nat, keep := [3, 4, 5, 6, 7, 8, 9], keepO := [6, 7, 8, 9], own := fun k _ => [], inv := fun k _ => ∀ j, j < k -> L.spE l u v j = true })] }) (bodyOf Tryz.f15) (st0 Tryz.f15 [.p (.sl 2 l.n (fun i => [.int .i64 ((l.g i).x), .int .i64 ((l.g i).y)])), .p (.int .i64 u), .p (.int .i64 v)]) (retFn Tryz.prog Tryz.f15 (p_Split_r l u v)) :=
 @Eq.mpr _ (let I := SV.int .i64; let T := Int.toNat; let M := Int.tmod; let A54 := (12:Int); let A51 := (1:Nat); let A50 := (1000000:Nat); let A49 := (2:Nat); let A45 := (L.spA l u v); let A44 := (L.spB l u v); let A43 := (L.Sq.mk l.n fun (i:Nat) => l.g i); let A34 := (nat_lit 3); let A33 := (nat_lit 4); let A32 := (nat_lit 5); let A31 := (nat_lit 6); let A30 := (nat_lit 7); let A29 := (nat_lit 8); let A28 := (nat_lit 9); let A24 := (l.g (T v)); let A23 := (l.g (T u)); let A40 := (L.Pt.mk (A23.x + A24.x) (A23.y + A24.y)); let A16 := (nat_lit 0); let A11 := (∀ (i:Nat), let A52 := [I (l.g i).x, I (l.g i).y]; i < l.n -> A52 = A52); let A53 := (A11 /\ l.n <= (1000:Nat)); let A10 := (0:Nat); let A9 := (1:Int); let A56 := (v + A9 - u); let A36 := (L.Sq.mk (T A56) fun (i:Nat) => l.g (T u + i)); let A19 := (!decide (L.wher (L.Sq.mk l.n fun (k:Nat) => L.dbl (l.g k)) A40 = A9)); let A5 := (0:Int); let A26 := (T (u + A9 - A5)); let A13 := (L.Sq.mk A26 fun (i:Nat) => l.g (T A5 + i)); let A8 := (bif decide (L.spErr l u v = A5) then A44.n else A10); let A7 := (bif decide (L.spErr l u v = A5) then A45.n else A10); let A4 := (↑l.n:Int); let A47 := (A5 <= v /\ v < A4); let A46 := (A5 <= u /\ u < A4); let A41 := (T (A4 - v)); let A21 := (bif decide (v = u + A9) then true else bif decide (u = A5) then decide (v = A4 - A9) else false); let A15 := (L.Sq.mk A41 fun (i:Nat) => l.g (T v + i)); let A14 := (bif bif bif !L.validOutline A43 then true else decide (u < A5) then true else decide (v <= u) then true else decide (A4 <= v)); let A6 := (L.Sq.mk (L.catTo (L.two A15 A13) A49).n fun (i:Nat) => (L.catTo (L.two (L.Sq.mk A41 fun (i:Nat) => l.g (T v + i)) (L.Sq.mk A26 fun (i:Nat) => l.g (T A5 + i))) A49).g i); let A3 := [SV.sl (nat_lit 2) l.n fun (i:Nat) => [I (l.g i).x, I (l.g i).y]]; (A11 /\ l.n <= A50) /\ (A14 = true -> A7 = A10 /\ A8 = A10 /\ A9 = L.spErr l u v) /\ (A14 = false -> InK .i64 (u + A9) /\ ((!decide (v = u + A9) && decide (u = A5)) = true -> InK .i64 (A4 - A9)) /\ (A21 = true -> A7 = A10 /\ A8 = A10 /\ A54 = L.spErr l u v) /\ (A21 = false -> A53 /\ (A53 /\ ∃ (t:Nat), A4 = A4 /\ A5 = A5 /\ Value.slice Option.none A10 A10 = Value.slice Option.none A10 A10 /\ Value.slice Option.none A10 A10 = Value.slice Option.none A10 A10 /\ ∀ (j:Nat), j < A10 -> L.spE l u v j = true) /\ (∀ (k t:Nat) (vk : Nat -> Go.Value), let A17 := (↑k:Int); let A55 := (l.g (T A17)); let A42 := (A17 + A9); let A25 := (!bif decide (A17 = u) then true else decide (A17 = v)); let A22 := (l.g (T (M A42 A4))); let A35 := (!decide (L.meet A23 A24 A55 A22 = A5)); let A27 := (!decide (L.meet A23 A24 A55 A22 = A9)); let A20 := (!bif bif decide (A17 = u) then true else decide (A17 = v) then true else decide (M A42 A4 = u)); let A12 := (bif bif bif decide (A17 = u) then true else decide (A17 = v) then true else decide (M A42 A4 = u) then true else decide (M A42 A4 = v)); k < l.n -> (∀ (j:Nat), j < k -> L.spE l u v j = true) -> A46 /\ A47 /\ (A5 <= A9 /\ A9 < (↑(3:Nat):Int)) /\ (A5 <= (2:Int) /\ (2:Int) < (↑(3:Nat):Int)) /\ (L.bd A23 /\ L.bd A24 /\ L.bd A55 /\ L.bd A22) /\ (A25 = true -> InK .i64 A42) /\ (A25 = true -> A4 ≠ A5) /\ (A20 = true -> InK .i64 A42) /\ (A20 = true -> A4 ≠ A5) /\ (A12 = true -> (A27 = true -> nat_lit 0 = nat_lit 0 /\ nat_lit 0 = nat_lit 0 /\ nat_lit 0 = nat_lit 0 /\ nat_lit 0 = nat_lit 0 /\ SV.ref [I v] A16 = SV.ref [I v] A16 /\ SV.ref [I u] A16 = SV.ref [I u] A16 /\ SV.ref A3 A16 = SV.ref A3 A16 /\ vk A28 = vk A28 /\ vk A29 = vk A29 /\ vk A30 = vk A30 /\ vk A31 = vk A31 /\ vk A32 = vk A32 /\ vk A33 = vk A33 /\ vk A34 = vk A34 /\ A7 = A10 /\ A8 = A10 /\ A54 = L.spErr l u v) /\ (A27 = false -> ∃ (t':Nat), nat_lit 0 = nat_lit 0 /\ nat_lit 0 = nat_lit 0 /\ nat_lit 0 = nat_lit 0 /\ nat_lit 0 = nat_lit 0 /\ SV.ref [I v] A16 = SV.ref [I v] A16 /\ SV.ref [I u] A16 = SV.ref [I u] A16 /\ SV.ref A3 A16 = SV.ref A3 A16 /\ vk A28 = vk A28 /\ vk A29 = vk A29 /\ vk A30 = vk A30 /\ vk A31 = vk A31 /\ vk A32 = vk A32 /\ vk A33 = vk A33 /\ vk A34 = vk A34 /\ A4 = A4 /\ A5 = A5 /\ Value.slice Option.none A10 A10 = Value.slice Option.none A10 A10 /\ Value.slice Option.none A10 A10 = Value.slice Option.none A10 A10 /\ ∀ (j:Nat), j < k + A51 -> L.spE l u v j = true)) /\ (A12 = false -> (A35 = true -> nat_lit 0 = nat_lit 0 /\ nat_lit 0 = nat_lit 0 /\ nat_lit 0 = nat_lit 0 /\ nat_lit 0 = nat_lit 0 /\ SV.ref [I v] A16 = SV.ref [I v] A16 /\ SV.ref [I u] A16 = SV.ref [I u] A16 /\ SV.ref A3 A16 = SV.ref A3 A16 /\ vk A28 = vk A28 /\ vk A29 = vk A29 /\ vk A30 = vk A30 /\ vk A31 = vk A31 /\ vk A32 = vk A32 /\ vk A33 = vk A33 /\ vk A34 = vk A34 /\ A7 = A10 /\ A8 = A10 /\ A54 = L.spErr l u v) /\ (A35 = false -> ∃ (t':Nat), nat_lit 0 = nat_lit 0 /\ nat_lit 0 = nat_lit 0 /\ nat_lit 0 = nat_lit 0 /\ nat_lit 0 = nat_lit 0 /\ SV.ref [I v] A16 = SV.ref [I v] A16 /\ SV.ref [I u] A16 = SV.ref [I u] A16 /\ SV.ref A3 A16 = SV.ref A3 A16 /\ vk A28 = vk A28 /\ vk A29 = vk A29 /\ vk A30 = vk A30 /\ vk A31 = vk A31 /\ vk A32 = vk A32 /\ vk A33 = vk A33 /\ vk A34 = vk A34 /\ A4 = A4 /\ A5 = A5 /\ Value.slice Option.none A10 A10 = Value.slice Option.none A10 A10 /\ Value.slice Option.none A10 A10 = Value.slice Option.none A10 A10 /\ ∀ (j:Nat), j < k + A51 -> L.spE l u v j = true))) /\ ∀ (t:Nat), (∀ (j:Nat), j < l.n -> L.spE l u v j = true) -> A46 /\ A47 /\ InK .i64 (A23.x + A24.x) /\ A46 /\ A47 /\ InK .i64 (A23.y + A24.y) /\ (A11 /\ L.validOutline A43 = true /\ L.bd A40) /\ (A19 = true -> A7 = A10 /\ A8 = A10 /\ A54 = L.spErr l u v) /\ (A19 = false -> InK .i64 (v + A9) /\ (A5 <= u /\ u <= v + A9 /\ v + A9 <= A4) /\ ((∀ (i:Nat), let A38 := [I (l.g (T u + i)).x, I (l.g (T u + i)).y]; i < T A56 -> A38 = A38) /\ L.fine A36) /\ (A5 <= v /\ v <= A4 /\ A4 <= A4) /\ InK .i64 (u + A9) /\ (A5 <= A5 /\ A5 <= u + A9 /\ u + A9 <= A4) /\ (((∀ (i:Nat), let A39 := [I (l.g (T v + i)).x, I (l.g (T v + i)).y]; i < T (A4 - v) -> A39 = A39) /\ ∀ (i:Nat), let A37 := [I (l.g (T A5 + i)).x, I (l.g (T A5 + i)).y]; i < T (u + A9 - A5) -> A37 = A37) /\ A51 <= (L.two A15 A13 A10).n + (L.two A15 A13 A51).n /\ (L.two A15 A13 A10).n <= A50 /\ (L.two A15 A13 A51).n <= A50) /\ ∀ (t:Nat), True -> ((∀ (i:Nat), let A2 := (L.catTo (L.two (L.Sq.mk A41 fun (i:Nat) => l.g (T v + i)) (L.Sq.mk A26 fun (i:Nat) => l.g (T A5 + i))) A49); let A48 := [I (A2.g i).x, I (A2.g i).y]; i < A2.n -> A48 = A48) /\ L.fine A6) /\ (((L.norm (L.thin L.cFlat A36)).n = bif decide (L.spErr l u v = A5) then A45.n else A10) /\ ∀ (i:Nat), let A18 := (L.norm (L.thin L.cFlat (L.Sq.mk (T A56) fun (i:Nat) => l.g (T u + i)))); i < A18.n -> [I (A18.g i).x, I (A18.g i).y] = [I (A45.g i).x, I (A45.g i).y]) /\ (((L.norm (L.thin L.cFlat A6)).n = bif decide (L.spErr l u v = A5) then A44.n else A10) /\ ∀ (i:Nat), let A1 := (L.norm (L.thin L.cFlat (L.Sq.mk (L.catTo (L.two (L.Sq.mk A41 fun (i:Nat) => l.g (T v + i)) (L.Sq.mk A26 fun (i:Nat) => l.g (T A5 + i))) A49).n fun (i:Nat) => (L.catTo (L.two (L.Sq.mk A41 fun (i:Nat) => l.g (T v + i)) (L.Sq.mk A26 fun (i:Nat) => l.g (T A5 + i))) A49).g i))); i < A1.n -> [I (A1.g i).x, I (A1.g i).y] = [I (A44.g i).x, I (A44.g i).y]) /\ A5 = L.spErr l u v)))) (by kernel_rfl) (by
 conv => zeta
 have hn : l.n <= 1000000 := hp
 refine ⟨⟨fun _ _ => rfl, hn⟩, fun h => ?_, fun h => ?_⟩
 · have h : L.spBad l u v = true := h
   rw [spErr_bad h]; exact ⟨rfl, rfl, rfl⟩
 have hb : L.spBad l u v = false := h
 obtain ⟨hv, u0, uv, vn⟩ := spBad_no hb
 obtain ⟨n3, n24, hsm, hbd⟩ := validOutline_of hv
 have ut : u.toNat < l.n := by omega
 have vt : v.toNat < l.n := by omega
 refine ⟨iK, fun _ => iK, fun h => ?_, fun h => ?_⟩
 · have h : L.spNb l u v = true := h
   rw [spErr_nb hb h]; exact ⟨rfl, rfl, rfl⟩
 have hN : L.spNb l u v = false := h
 have eE := spErr_dg hb hN
 refine ⟨⟨fun _ _ => rfl, by omega⟩, ⟨⟨fun _ _ => rfl, by omega⟩, 0, rfl, rfl, rfl, rfl, fun j hj => absurd hj (Nat.not_lt_zero _)⟩, fun k t vk hk h0 => ?_, fun t h0 => ?_⟩
 · have hk : k < l.n := hk
   have ek : ((k:Nat):Int).toNat = k := by omega
   have en : (Int.tmod ((k:Int) + 1) (l.n:Int)).toNat = L.next l.n k := rfl
   rw [ek, en]
   have hkn : L.next l.n k < l.n := next_lt (by omega)
   have fin : L.spE l u v k = true -> ∀ j, j < k + 1 -> L.spE l u v j = true := fun hh j hj => by
     rcases Nat.lt_succ_iff_lt_or_eq.1 hj with h' | rfl
     · exact h0 j h'
     · exact hh
   refine ⟨⟨u0, by omega⟩, ⟨by omega, vn⟩, ⟨by omega, by show (1:Int) < ((3:Nat):Int); omega⟩, ⟨by omega, by show (2:Int) < ((3:Nat):Int); omega⟩, ⟨hbd.2 _ ut, hbd.2 _ vt, hbd.2 _ hk, hbd.2 _ hkn⟩, fun _ => iK, fun _ => by omega, fun _ => iK, fun _ => by omega, fun he => ?_, fun he => ?_⟩
   · have he : L.spEnd l u v k = true := he
     refine ⟨fun h => ?_, fun h => ?_⟩
     · have hh : L.spE l u v k = false := by unfold L.spE; rw [he]; exact notT h
       have e12 : L.spErr l u v = 12 := by rw [eE, spDg_no hk hh]; rfl
       rw [e12]; exact ⟨rfl, rfl, rfl, rfl, rfl, rfl, rfl, rfl, rfl, rfl, rfl, rfl, rfl, rfl, rfl, rfl, rfl⟩
     · have hh : L.spE l u v k = true := by unfold L.spE; rw [he]; exact notF h
       exact ⟨0, rfl, rfl, rfl, rfl, rfl, rfl, rfl, rfl, rfl, rfl, rfl, rfl, rfl, rfl, rfl, rfl, rfl, rfl, fin hh⟩
   · have he : L.spEnd l u v k = false := he
     refine ⟨fun h => ?_, fun h => ?_⟩
     · have hh : L.spE l u v k = false := by unfold L.spE; rw [he]; exact notT h
       have e12 : L.spErr l u v = 12 := by rw [eE, spDg_no hk hh]; rfl
       rw [e12]; exact ⟨rfl, rfl, rfl, rfl, rfl, rfl, rfl, rfl, rfl, rfl, rfl, rfl, rfl, rfl, rfl, rfl, rfl⟩
     · have hh : L.spE l u v k = true := by unfold L.spE; rw [he]; exact notF h
       exact ⟨0, rfl, rfl, rfl, rfl, rfl, rfl, rfl, rfl, rfl, rfl, rfl, rfl, rfl, rfl, rfl, rfl, rfl, rfl, fin hh⟩
 have hdg := spDg_all h0
 obtain ⟨⟨m1, m2, m3, m4⟩, mb⟩ := mid_bd hv ut vt
 refine ⟨⟨u0, by omega⟩, ⟨by omega, vn⟩, InK.of (by show _ <= (L.spMid l u v).x; omega) (by show (L.spMid l u v).x <= _; omega), ⟨u0, by omega⟩, ⟨by omega, vn⟩, InK.of (by show _ <= (L.spMid l u v).y; omega) (by show (L.spMid l u v).y <= _; omega), ⟨fun _ _ => rfl, hv, mb⟩, fun h => ?_, fun h => ?_⟩
 · have hi : L.spIn l u v = false := notT h
   have e12 : L.spErr l u v = 12 := by rw [eE, hdg, hi]; rfl
   rw [e12]; exact ⟨rfl, rfl, rfl⟩
 have hi : L.spIn l u v = true := notF h
 have e0 : L.spErr l u v = 0 := by rw [eE, hdg, hi]; rfl
 obtain ⟨fA, fB⟩ := parts_fine hb hN h0
 rw [e0]
 refine ⟨iK, ⟨u0, by omega, by omega⟩, ⟨fun _ _ => rfl, fA⟩, ⟨by omega, by omega, by omega⟩, iK, ⟨by omega, by omega, by omega⟩, ⟨⟨fun _ _ => rfl, fun _ _ => rfl⟩, ?_, ?_, ?_⟩, fun _ _ => ⟨⟨fun _ _ => rfl, fB⟩, ⟨rfl, fun _ _ => rfl⟩, ⟨rfl, fun _ _ => rfl⟩, rfl⟩⟩
 · show 1 <= ((l.n:Int) - v).toNat + (u + 1 - 0).toNat; omega
 · show ((l.n:Int) - v).toNat <= 1000000; omega
 · show (u + 1 - 0).toNat <= 1000000; omega)
theorem p_Split_ok : SpecOk Tryz.prog 15 p_Split_S := fnX Tryz.func15 (c := bodyOf Tryz.f15) (by kernel_rfl) mixed (fun args p r hs hp => by
 unfold p_Split_s at hs
 split at hs
 · cases hs; exact ⟨_, _, p_Split_vc _ _ _ hp.2, (.p (.sl hp.1) (.same _ (.same _ .nil))), ⟨show SpecsL Tryz.prog _ from (SpecsL.cons p_ValidOutline_ok p_ValidOutline_en (SpecsL.cons p_triples_ok p_triples_en (SpecsL.cons p_meet_ok p_meet_en (SpecsL.cons p_place_ok p_place_en (SpecsL.cons p_outlined_ok p_outlined_en (SpecsL.cons s_concat_ok s_concat_en SpecsL.nil)))))), rfl, ⟨show ItersL Tryz.prog _ from (ItersL.cons p_triples1_itok p_triples1_en ItersL.nil), (TrsOk.none (fun _ => rfl))⟩⟩⟩
 · cases hs)
theorem p_Split_en : Enters Tryz.prog 15 := fun args w => by kernel_rfl
def r1_doubled_p (l : (L.Sq L.Pt)) : Prop := L.small l
def r1_doubled_r (l : (L.Sq L.Pt)) : SV := .sl 2 l.n (fun k => [.int .i64 ((L.dbl (l.g k)).x), .int .i64 ((L.dbl (l.g k)).y)])
def r1_doubled_s : List EV -> Option (Prop × SV)
 | [.p (.sl 2 l_n l_g)] => some ((∀ i, i < l_n -> l_g i = [.int .i64 ((ofPt (l_g i)).x), .int .i64 ((ofPt (l_g i)).y)]) /\ r1_doubled_p (⟨l_n, fun i => ofPt (l_g i)⟩ : (L.Sq L.Pt)), r1_doubled_r (⟨l_n, fun i => ofPt (l_g i)⟩ : (L.Sq L.Pt)))
 | _ => none
abbrev r1_doubled_S : SE.Spec := (specO r1_doubled_s)
def r1_doubled_C : Cfg := { cC with nils := lookM [(2, [(3, 26, 45, 2)])] }
theorem r1_doubled_vc (l : (L.Sq L.Pt)) (hp : r1_doubled_p l) : vc Tryz.prog ({ r1_doubled_C with loops := lookL [(3, { T := Nat, keep := [0], keepO := [], chg := fun k => [(3, .row 26), (4, .p (.int .i64 (k:Int)))], own := fun g => [(26, .row 45 2 g (fun k => [.int .i64 ((L.dbl (l.g k)).x), .int .i64 ((L.dbl (l.g k)).y)]))], inv := fun k => k <= l.n, mu := fun k => l.n - k })], rfs := lookR [] }) (bodyOf Tryz.f91) (st0 Tryz.f91 [.p (.sl 2 l.n (fun i => [.int .i64 ((l.g i).x), .int .i64 ((l.g i).y)]))]) (retFn Tryz.prog Tryz.f91 (r1_doubled_r l)) :=
 @Eq.mpr _ (let I := SV.int .i64; let T := Int.toNat; let A7 := (2:Int); let A6 := (↑l.n:Int); (∃ (g:Nat), (0:Int) = (↑g:Int) /\ (nat_lit 0 = g /\ ∀ (i:Nat), i < nat_lit 0 -> [] = [I (L.dbl (l.g i)).x, I (L.dbl (l.g i)).y]) /\ g <= l.n) /\ ∀ (g:Nat), let A1 := (↑g:Int); let A4 := (l.g (T A1)); let A3 := ((0:Int) <= A1 /\ A1 < A6); g <= l.n -> (decide (A1 < A6) = true -> A3 /\ InK .i64 (A7 * A4.x) /\ A3 /\ InK .i64 (A7 * A4.y) /\ (g + nat_lit 1) * nat_lit 16 <= (140737488355328:Nat) /\ InK .i64 (A1 + (1:Int)) /\ ∃ (g':Nat), A1 + (1:Int) = (↑g':Int) /\ (l.n = l.n /\ ∀ (i:Nat), let A5 := [I (l.g i).x, I (l.g i).y]; i < l.n -> A5 = A5) /\ (g + nat_lit 1 = g' /\ ∀ (i:Nat), i < g + nat_lit 1 -> appGet g (fun (k : Nat) => [I (L.dbl (l.g k)).x, I (L.dbl (l.g k)).y]) (fun (x:Nat) => [I (A7 * A4.x), I (A7 * A4.y)]) i = [I (L.dbl (l.g i)).x, I (L.dbl (l.g i)).y]) /\ g' <= l.n /\ l.n - g' < l.n - g) /\ (decide (A1 < A6) = false -> g = l.n /\ ∀ (i:Nat), let A2 := [I (L.dbl (l.g i)).x, I (L.dbl (l.g i)).y]; i < g -> A2 = A2)) (by kernel_rfl) (by
 conv => zeta
 have hs : L.small l := hp
 obtain ⟨hn, hb⟩ := hs
 refine ⟨⟨0, rfl, ⟨rfl, fun i hi => absurd hi (Nat.not_lt_zero _)⟩, Nat.zero_le _⟩, fun g hg => ⟨fun hlt => ?_, fun hge => ?_⟩⟩
 · have hlt : (g:Int) < (l.n:Int) := of_decide_eq_true hlt
   have e0 : ((g:Nat):Int).toNat = g := by omega
   rw [e0]
   obtain ⟨b1, b2, b3, b4⟩ := hb g (by omega)
   refine ⟨⟨by omega, hlt⟩, iK, ⟨by omega, hlt⟩, iK, by show (g + 1) * 16 <= 140737488355328; omega, iK, g + 1, rfl, ⟨rfl, fun _ _ => rfl⟩, ⟨rfl, fun i hi => ?_⟩, by omega, by omega⟩
   have hi : i < g + 1 := hi
   unfold appGet
   by_cases e : i < g
   · rw [if_pos e]
   · rw [if_neg e, show i = g by omega]; rfl
 · have hge : ¬ (g:Int) < (l.n:Int) := of_decide_eq_false hge
   exact ⟨by omega, fun _ _ => rfl⟩)
theorem r1_doubled_ok : SpecOk Tryz.prog 91 r1_doubled_S := fnX Tryz.func91 (c := bodyOf Tryz.f91) (by kernel_rfl) mixed (fun args p r hs hp => by
 unfold r1_doubled_s at hs
 split at hs
 · cases hs; exact ⟨_, _, r1_doubled_vc _ hp.2, (.p (.sl hp.1) .nil), ⟨show SpecsL Tryz.prog _ from SpecsL.nil, rfl, ⟨show ItersL Tryz.prog _ from ItersL.nil, (TrsOk.none (fun _ => rfl))⟩⟩⟩
 · cases hs)
theorem r1_doubled_en : Enters Tryz.prog 91 := fun args w => by kernel_rfl
def r1_diagonal_p (l : (L.Sq L.Pt)) (u:Int) (v:Int) : Prop := L.validOutline l = true /\ (0 <= u /\ u < (l.n:Int)) /\ 0 <= v /\ v < (l.n:Int)
def r1_diagonal_r (l : (L.Sq L.Pt)) (u:Int) (v:Int) : SV := .bool (L.rDg l u v)
def r1_diagonal_s : List EV -> Option (Prop × SV)
 | [.p (.sl 2 l_n l_g), .p (.int .i64 u), .p (.int .i64 v)] => some ((∀ i, i < l_n -> l_g i = [.int .i64 ((ofPt (l_g i)).x), .int .i64 ((ofPt (l_g i)).y)]) /\ r1_diagonal_p (⟨l_n, fun i => ofPt (l_g i)⟩ : (L.Sq L.Pt)) u v, r1_diagonal_r (⟨l_n, fun i => ofPt (l_g i)⟩ : (L.Sq L.Pt)) u v)
 | _ => none
abbrev r1_diagonal_S : SE.Spec := (specO r1_diagonal_s)
def r1_diagonal_C : Cfg := { cC with specs := lookS [(41, r1_at_S), (89, r1_meet_S), (91, r1_doubled_S), (90, r1_Where_S)] }
theorem r1_diagonal_vc (l : (L.Sq L.Pt)) (u:Int) (v:Int) (hp : r1_diagonal_p l u v) : vc Tryz.prog ({ r1_diagonal_C with loops := lookL [(2, { T := Nat, keep := [0, 1, 2], keepO := [], chg := fun k => [(7, .p (.int .i64 (k:Int)))], own := fun _ => [], inv := fun k => k <= l.n /\ ∀ j, j < k -> L.rdE l u v j = true, mu := fun k => l.n - k })], rfs := lookR [] }) (bodyOf Tryz.f52) (st0 Tryz.f52 [.p (.sl 2 l.n (fun i => [.int .i64 ((l.g i).x), .int .i64 ((l.g i).y)])), .p (.int .i64 u), .p (.int .i64 v)]) (retFn Tryz.prog Tryz.f52 (r1_diagonal_r l u v)) :=
 @Eq.mpr _ (let I := SV.int .i64; let T := Int.toNat; let M := Int.tmod; let A15 := (1:Int); let A12 := (L.Sq.mk l.n fun (i:Nat) => L.dbl (l.g i)); let A11 := (l.g (T v)); let A10 := (l.g (T u)); let A9 := (0:Int); let A8 := (L.Pt.mk (A10.x + A11.x) (A10.y + A11.y)); let A6 := (∀ (i:Nat), let A18 := [I (l.g i).x, I (l.g i).y]; i < l.n -> A18 = A18); let A5 := (↑l.n:Int); let A17 := (A9 <= v /\ v < A5); let A16 := (A9 <= u /\ u < A5); (∃ (g:Nat), A9 = (↑g:Int) /\ g <= l.n /\ ∀ (j:Nat), j < g -> L.rdE l u v j = true) /\ ∀ (g:Nat), let A2 := (↑g:Int); let A20 := (l.g (T A2)); let A7 := (!bif decide (A2 = u) then true else decide (A2 = v)); let A4 := (A2 + A15); let A14 := (l.g (L.ix l.n A4)); let A3 := (!bif bif decide (A2 = u) then true else decide (A2 = v) then true else decide (M A4 A5 = u)); let A1 := (bif !decide (L.meet A10 A11 A20 A14 = A9) then bif !bif bif bif decide (A2 = u) then true else decide (A2 = v) then true else decide (M A4 A5 = u) then true else decide (M A4 A5 = v) then true else !decide (L.meet A10 A11 A20 A14 = A15) else false); (g <= l.n /\ ∀ (j:Nat), j < g -> L.rdE l u v j = true) -> (decide (A2 < A5) = true -> A16 /\ A17 /\ (A9 <= A2 /\ A2 < A5) /\ InK .i64 A4 /\ (A6 /\ (1:Nat) <= l.n /\ l.n <= (1000000:Nat) /\ (-1000000:Int) <= A2 + A15 /\ A2 + A15 <= (1000000:Int)) /\ (L.bd A10 /\ L.bd A11 /\ L.bd A20 /\ L.bd A14) /\ (A7 = true -> InK .i64 A4) /\ (A7 = true -> A5 ≠ A9) /\ (A3 = true -> InK .i64 A4) /\ (A3 = true -> A5 ≠ A9) /\ (A1 = true -> false = L.rDg l u v) /\ (A1 = false -> InK .i64 A4 /\ ∃ (g':Nat), A2 + A15 = (↑g':Int) /\ (l.n = l.n /\ ∀ (i:Nat), let A19 := [I (l.g i).x, I (l.g i).y]; i < l.n -> A19 = A19) /\ u = u /\ v = v /\ (g' <= l.n /\ ∀ (j:Nat), j < g' -> L.rdE l u v j = true) /\ l.n - g' < l.n - g)) /\ (decide (A2 < A5) = false -> (A6 /\ L.small (L.Sq.mk l.n fun (i:Nat) => l.g i)) /\ A16 /\ A17 /\ InK .i64 (A10.x + A11.x) /\ A16 /\ A17 /\ InK .i64 (A10.y + A11.y) /\ ((∀ (i:Nat), let A13 := [I (L.dbl (l.g i)).x, I (L.dbl (l.g i)).y]; i < l.n -> A13 = A13) /\ (L.small A12 /\ (1:Nat) <= l.n) /\ L.bd A8) /\ decide (L.wher A12 A8 = A15) = L.rDg l u v)) (by kernel_rfl) (by
 conv => zeta
 obtain ⟨hv, ⟨u0, u1⟩, v0, v1⟩ := hp
 obtain ⟨n3, n24, hsm, hbd⟩ := validOutline_of hv
 have ut : u.toNat < l.n := by omega
 have vt : v.toNat < l.n := by omega
 obtain ⟨⟨m1, m2, m3, m4⟩, mb⟩ := mid_bd hv ut vt
 refine ⟨⟨0, rfl, Nat.zero_le _, fun j hj => absurd hj (Nat.not_lt_zero _)⟩, fun g hg => ⟨fun hlt => ?_, fun hge => ?_⟩⟩
 · have hlt : (g:Int) < (l.n:Int) := of_decide_eq_true hlt
   have hk : g < l.n := by omega
   have e0 : ((g:Nat):Int).toNat = g := by omega
   have hkn : L.next l.n g < l.n := next_lt (by omega)
   rw [e0, ix_next hk]
   refine ⟨⟨u0, u1⟩, ⟨v0, v1⟩, ⟨by omega, hlt⟩, iK, ⟨fun _ _ => rfl, by omega, by omega, by omega, by omega⟩, ⟨hbd.2 _ ut, hbd.2 _ vt, hbd.2 _ hk, hbd.2 _ hkn⟩, fun _ => iK, fun _ => by omega, fun _ => iK, fun _ => by omega, fun h => ?_, fun h => ⟨iK, g + 1, rfl, ⟨rfl, fun _ _ => rfl⟩, rfl, rfl, ⟨by omega, fun j hj => ?_⟩, by omega⟩⟩
   · have hh : L.rdE l u v g = false := congrArg (fun b : Bool => !b) h
     unfold L.rDg; rw [allB_false hk hh]; rfl
   · rcases Nat.lt_succ_iff_lt_or_eq.1 hj with h' | rfl
     · exact hg.2 j h'
     · exact congrArg (fun b : Bool => !b) h
 · have hge : ¬ (g:Int) < (l.n:Int) := of_decide_eq_false hge
   have hall : ∀ j, j < l.n -> L.rdE l u v j = true := fun j hj => hg.2 j (by omega)
   refine ⟨⟨fun _ _ => rfl, hsm⟩, ⟨u0, u1⟩, ⟨v0, v1⟩, InK.of (by show _ <= (L.spMid l u v).x; omega) (by show (L.spMid l u v).x <= _; omega), ⟨u0, u1⟩, ⟨v0, v1⟩, InK.of (by show _ <= (L.spMid l u v).y; omega) (by show (L.spMid l u v).y <= _; omega), ⟨fun _ _ => rfl, ⟨⟨by show l.n <= 1000; omega, fun k hk => (dbl_bd (pts_valid hv k hk)).2⟩, by omega⟩, mb⟩, ?_⟩
   unfold L.rDg; rw [allB_iff.2 hall]; rfl)
theorem r1_diagonal_ok : SpecOk Tryz.prog 52 r1_diagonal_S := fnX Tryz.func52 (c := bodyOf Tryz.f52) (by kernel_rfl) mixed (fun args p r hs hp => by
 unfold r1_diagonal_s at hs
 split at hs
 · cases hs; exact ⟨_, _, r1_diagonal_vc _ _ _ hp.2, (.p (.sl hp.1) (.same _ (.same _ .nil))), ⟨show SpecsL Tryz.prog _ from (SpecsL.cons r1_at_ok r1_at_en (SpecsL.cons r1_meet_ok r1_meet_en (SpecsL.cons r1_doubled_ok r1_doubled_en (SpecsL.cons r1_Where_ok r1_Where_en SpecsL.nil)))), rfl, ⟨show ItersL Tryz.prog _ from ItersL.nil, (TrsOk.none (fun _ => rfl))⟩⟩⟩
 · cases hs)
theorem r1_diagonal_en : Enters Tryz.prog 52 := fun args w => by kernel_rfl
def r1_Split_p (l : (L.Sq L.Pt)) (u:Int) (v:Int) : Prop := l.n <= 1000000
def r1_Split_r (l : (L.Sq L.Pt)) (u:Int) (v:Int) : SV := .tup [.sl 2 (bif decide (L.rsErr l u v = 0) then L.outN (L.rch l u v) else 0) (fun k => [.int .i64 (((L.norm (L.str (L.rch l u v))).g k).x), .int .i64 (((L.norm (L.str (L.rch l u v))).g k).y)]), .sl 2 (bif decide (L.rsErr l u v = 0) then L.outN (L.rch l v u) else 0) (fun k => [.int .i64 (((L.norm (L.str (L.rch l v u))).g k).x), .int .i64 (((L.norm (L.str (L.rch l v u))).g k).y)]), .int .i64 (L.rsErr l u v)]
def r1_Split_s : List EV -> Option (Prop × SV)
 | [.p (.sl 2 l_n l_g), .p (.int .i64 u), .p (.int .i64 v)] => some ((∀ i, i < l_n -> l_g i = [.int .i64 ((ofPt (l_g i)).x), .int .i64 ((ofPt (l_g i)).y)]) /\ r1_Split_p (⟨l_n, fun i => ofPt (l_g i)⟩ : (L.Sq L.Pt)) u v, r1_Split_r (⟨l_n, fun i => ofPt (l_g i)⟩ : (L.Sq L.Pt)) u v)
 | _ => none
abbrev r1_Split_S : SE.Spec := (specO r1_Split_s)
def r1_Split_C : Cfg := { cC with specs := lookS [(39, r1_ValidOutline_S), (52, r1_diagonal_S), (43, r1_chain_S), (53, r1_Outline_S)] }
theorem r1_Split_vc (l : (L.Sq L.Pt)) (u:Int) (v:Int) (hp : r1_Split_p l u v) : vc Tryz.prog (r1_Split_C) (bodyOf Tryz.f16) (st0 Tryz.f16 [.p (.sl 2 l.n (fun i => [.int .i64 ((l.g i).x), .int .i64 ((l.g i).y)])), .p (.int .i64 u), .p (.int .i64 v)]) (retFn Tryz.prog Tryz.f16 (r1_Split_r l u v)) :=
 @Eq.mpr _ (let I := SV.int .i64; let A28 := (L.rch l u v); let A27 := (L.rch l v u); let A21 := (1000:Int); let A18 := ((1:Nat) <= l.n /\ l.n <= (1000:Nat)); let A17 := (1:Int); let A16 := (↑l.n:Int); let A15 := (0:Nat); let A12 := (0:Int); let A9 := (bif decide (L.rsErr l u v = A12) then L.outN A27 else A15); let A8 := (bif decide (L.rsErr l u v = A12) then L.outN A28 else A15); let A5 := (∀ (i:Nat), let A24 := [I (l.g i).x, I (l.g i).y]; i < l.n -> A24 = A24); let A1 := (L.Sq.mk l.n fun (i:Nat) => l.g i); let A14 := (L.Sq.mk (L.rch A1 v u).n fun (i:Nat) => (L.rch (L.Sq.mk l.n fun (i:Nat) => l.g i) v u).g i); let A13 := (L.Sq.mk (L.rch A1 u v).n fun (i:Nat) => (L.rch (L.Sq.mk l.n fun (i:Nat) => l.g i) u v).g i); let A7 := (bif bif bif !L.validOutline A1 then true else decide (u < A12) then true else decide (v <= u) then true else decide (A16 <= v)); let A6 := (bif bif decide (v = u + A17) then true else bif decide (u = A12) then decide (v = A16 - A17) else false then true else !L.rDg A1 u v); let A2 := (bif !decide (L.outE A13 = A12) then true else !decide (L.outE A14 = A12)); (A5 /\ True) /\ (A7 = true -> A8 = A15 /\ A9 = A15 /\ A17 = L.rsErr l u v) /\ (A7 = false -> InK .i64 (u + A17) /\ ((!decide (v = u + A17) && decide (u = A12)) = true -> InK .i64 (A16 - A17)) /\ ((!bif decide (v = u + A17) then true else bif decide (u = A12) then decide (v = A16 - A17) else false) = true -> A5 /\ L.validOutline A1 = true /\ (A12 <= u /\ u < A16) /\ A12 <= v /\ v < A16) /\ (A6 = true -> A8 = A15 /\ A9 = A15 /\ (12:Int) = L.rsErr l u v) /\ (A6 = false -> (A5 /\ A18 /\ (A12 <= u /\ u <= A21) /\ A12 <= v /\ v <= A21) /\ ((∀ (i:Nat), let A10 := (L.rch (L.Sq.mk l.n fun (i:Nat) => l.g i) u v); let A22 := [I (A10.g i).x, I (A10.g i).y]; i < A10.n -> A22 = A22) /\ (L.rch A1 u v).n <= (1000000:Nat)) /\ (A5 /\ A18 /\ (A12 <= v /\ v <= A21) /\ A12 <= u /\ u <= A21) /\ ((∀ (i:Nat), let A11 := (L.rch (L.Sq.mk l.n fun (i:Nat) => l.g i) v u); let A23 := [I (A11.g i).x, I (A11.g i).y]; i < A11.n -> A23 = A23) /\ (L.rch A1 v u).n <= (1000000:Nat)) /\ (A2 = true -> A8 = A15 /\ A9 = A15 /\ (12:Int) = L.rsErr l u v) /\ (A2 = false -> ((L.outN A13 = bif decide (L.rsErr l u v = A12) then L.outN A28 else A15) /\ ∀ (i:Nat), let A19 := ((L.norm (L.str A28)).g i); let A3 := (L.Sq.mk (L.rch (L.Sq.mk l.n fun (i:Nat) => l.g i) u v).n fun (i:Nat) => (L.rch (L.Sq.mk l.n fun (i:Nat) => l.g i) u v).g i); let A25 := ((L.norm (L.str A3)).g i); i < L.outN A3 -> [I A25.x, I A25.y] = [I A19.x, I A19.y]) /\ ((L.outN A14 = bif decide (L.rsErr l u v = A12) then L.outN A27 else A15) /\ ∀ (i:Nat), let A20 := ((L.norm (L.str A27)).g i); let A4 := (L.Sq.mk (L.rch (L.Sq.mk l.n fun (i:Nat) => l.g i) v u).n fun (i:Nat) => (L.rch (L.Sq.mk l.n fun (i:Nat) => l.g i) v u).g i); let A26 := ((L.norm (L.str A4)).g i); i < L.outN A4 -> [I A26.x, I A26.y] = [I A20.x, I A20.y]) /\ A12 = L.rsErr l u v)))) (by kernel_rfl) (by
 conv => zeta
 have hn : l.n <= 1000000 := hp
 refine ⟨⟨fun _ _ => rfl, trivial⟩, fun h => ?_, fun h => ?_⟩
 · have h : L.spBad l u v = true := h
   have e : L.rsErr l u v = 1 := by unfold L.rsErr; rw [h]; rfl
   rw [e]; exact ⟨rfl, rfl, rfl⟩
 have hb : L.spBad l u v = false := h
 obtain ⟨hv, u0, uv, vn⟩ := spBad_no hb
 obtain ⟨n3, n24, hsm, hbd⟩ := validOutline_of hv
 refine ⟨iK, fun _ => iK, fun _ => ⟨fun _ _ => rfl, hv, ⟨u0, by omega⟩, by omega, vn⟩, fun h => ?_, fun h => ?_⟩
 · have h : (bif L.spNb l u v then true else !L.rDg l u v) = true := h
   have e : L.rsErr l u v = 12 := by unfold L.rsErr; rw [hb, h]; rfl
   rw [e]; exact ⟨rfl, rfl, rfl⟩
 have h : (bif L.spNb l u v then true else !L.rDg l u v) = false := h
 have e : L.rsErr l u v = (bif (bif !decide (L.outE (L.rch l u v) = 0) then true else !decide (L.outE (L.rch l v u) = 0)) then 12 else 0) := by unfold L.rsErr; rw [hb, h]; rfl
 have cu := (chD_lt (n := l.n) (by omega) u v).2
 have cv := (chD_lt (n := l.n) (by omega) v u).2
 refine ⟨⟨fun _ _ => rfl, ⟨by omega, by omega⟩, ⟨u0, by omega⟩, by omega, by omega⟩, ⟨fun _ _ => rfl, by show L.chD l.n u v + 1 <= 1000000; omega⟩, ⟨fun _ _ => rfl, ⟨by omega, by omega⟩, ⟨by omega, by omega⟩, u0, by omega⟩, ⟨fun _ _ => rfl, by show L.chD l.n v u + 1 <= 1000000; omega⟩, fun h2 => ?_, fun h2 => ?_⟩
 · have h2 : (bif !decide (L.outE (L.rch l u v) = 0) then true else !decide (L.outE (L.rch l v u) = 0)) = true := h2
   rw [e, h2]; exact ⟨rfl, rfl, rfl⟩
 · have h2 : (bif !decide (L.outE (L.rch l u v) = 0) then true else !decide (L.outE (L.rch l v u) = 0)) = false := h2
   rw [e, h2]; exact ⟨⟨rfl, fun _ _ => rfl⟩, ⟨rfl, fun _ _ => rfl⟩, rfl⟩)
theorem r1_Split_ok : SpecOk Tryz.prog 16 r1_Split_S := fnX Tryz.func16 (c := bodyOf Tryz.f16) (by kernel_rfl) mixed (fun args p r hs hp => by
 unfold r1_Split_s at hs
 split at hs
 · cases hs; exact ⟨_, _, r1_Split_vc _ _ _ hp.2, (.p (.sl hp.1) (.same _ (.same _ .nil))), ⟨show SpecsL Tryz.prog _ from (SpecsL.cons r1_ValidOutline_ok r1_ValidOutline_en (SpecsL.cons r1_diagonal_ok r1_diagonal_en (SpecsL.cons r1_chain_ok r1_chain_en (SpecsL.cons r1_Outline_ok r1_Outline_en SpecsL.nil)))), rfl, ⟨show ItersL Tryz.prog _ from ItersL.nil, (TrsOk.none (fun _ => rfl))⟩⟩⟩
 · cases hs)
theorem r1_Split_en : Enters Tryz.prog 16 := fun args w => by kernel_rfl
end Go.Proofs.YtaklapjfnejlbaaGreat
namespace Go.Proofs.YtaklapjfnejlbaaGreat
open Go.SE Go.RowKit
set_option maxRecDepth 100000
set_option maxHeartbeats 4000000
set_option linter.unusedVariables false
attribute [local irreducible] vc
open Conf
theorem red_sub {F : L.Pt -> L.Pt -> L.Pt -> Prop} {l m : List L.Pt} (h : Red F l m) : m.length <= l.length /\ ∀ x, x ∈ m -> x ∈ l := by
 induction h with
 | refl r => exact ⟨Nat.le_of_eq r.len.symm, fun x hx => r.mem.2 hx⟩
 | step s _ ih =>
   obtain ⟨b, t, r1, _, r2⟩ := s
   have e1 := r1.len
   have e2 := r2.len
   rw [List.length_cons] at e1
   exact ⟨by omega, fun x hx => r1.mem.2 (List.mem_cons_of_mem _ (r2.mem.2 (ih.2 x hx)))⟩
theorem outl {x y : L.Sq L.Pt} (hx : L.fine x) (h24 : x.n <= 24) (hv : L.validPts x = true) (e : L.toL y = L.toL x) : L.outE y = 0 /\ L.outN y = (L.norm (L.thin L.cFlat x)).n /\ L.toL (L.norm (L.str y)) = L.toL (L.norm (L.thin L.cFlat x)) := by
 have hy : L.fine y := fine_rot hx (e ▸ Rot.refl _)
 have en : y.n = x.n := (toL_ext e).1
 have hvy : L.validPts y = true := valid_mem.2 (fun p hp => valid_mem.1 hv p (e ▸ hp))
 have hs : L.fine (L.str y) := fine_thin flat_fl (fine_thin dup_fl hy)
 have hr := red_sub (str_red y)
 rw [toL_len, toL_len] at hr
 have hg : L.good (L.str y) := ⟨hs.1, by omega, valid_thin (valid_thin hvy), hs.2.2.1, str_sharp y⟩
 have hf : L.flat y = false := not_flat hg hr.2
 have hE : L.outE y = 0 := outE_of hy.1 (by omega) hvy hf hg
 have hN : L.outN y = (L.str y).n := by unfold L.outN; rw [hE]; rfl
 have hrot : Rot (L.toL (L.str y)) (L.toL (L.thin L.cFlat x)) := str_uniq (e ▸ thin_red flat_fl x) (fun i hi => thinF_out _ _ (Nat.le_refl _) i hi)
 have hq := norm_same hg (.inl hrot)
 refine ⟨hE, ?_, hq⟩
 rw [hN]
 exact (toL_ext hq).1
theorem sub_valid {l x : L.Sq L.Pt} (hv : L.validOutline l = true) (h : ∀ k, k < x.n -> ∃ j, j < l.n /\ x.g k = l.g j) : L.validPts x = true :=
 valid_mem.2 (fun p hp => by
   obtain ⟨k, hk, rfl⟩ := mem_toL.1 hp
   obtain ⟨j, hj, e⟩ := h k hk
   rw [e]; exact (outline_all hv).1 j hj)
theorem rch_A {l : L.Sq L.Pt} {a b : Nat} (h1 : a < b) (h2 : b < l.n) : L.toL (L.rch l (a:Int) (b:Int)) = L.toL (L.ptA l (a:Int) (b:Int)) := by
 have ec : L.chD l.n (a:Int) (b:Int) = b - a := by
   unfold L.chD
   rw [Int.emod_eq_of_lt (by omega) (by omega)]; omega
 have en : ((b:Int) + 1 - (a:Int)).toNat = b - a + 1 := by omega
 show (List.range (L.chD l.n (a:Int) (b:Int) + 1)).map (fun j : Nat => l.g (L.ix l.n ((a:Int) + (j:Int)))) = (List.range (((b:Int) + 1 - (a:Int)).toNat)).map (fun k => l.g ((a:Int).toNat + k))
 rw [ec, en, Int.toNat_natCast]
 refine List.map_congr_left fun k hk => ?_
 have hk := List.mem_range.1 hk
 rw [show (a:Int) + (k:Int) = ((a + k:Nat):Int) by omega, ix_self (by omega)]
theorem rch_B {l : L.Sq L.Pt} {a b : Nat} (h1 : a < b) (h2 : b < l.n) : L.toL (L.rch l (b:Int) (a:Int)) = L.toL (L.ptB l (a:Int) (b:Int)) := by
 have ec : L.chD l.n (b:Int) (a:Int) = l.n - b + a := by
   unfold L.chD
   have : ((a:Int) - (b:Int)) % (l.n:Int) = ((a:Int) - (b:Int) + (l.n:Int)) % (l.n:Int) := by rw [Int.add_emod_right]
   rw [this, Int.emod_eq_of_lt (by omega) (by omega)]; omega
 have en : ((l.n:Int) - (b:Int)).toNat = l.n - b := by omega
 have em : ((a:Int) + 1 - 0).toNat = a + 1 := by omega
 show (List.range (L.chD l.n (b:Int) (a:Int) + 1)).map (fun j : Nat => l.g (L.ix l.n ((b:Int) + (j:Int)))) = (List.range (0 + ((l.n:Int) - (b:Int)).toNat + ((a:Int) + 1 - 0).toNat)).map (fun k => bif decide (k < 0 + ((l.n:Int) - (b:Int)).toNat) then (bif decide (k < 0) then (⟨0, 0⟩ : L.Pt) else l.g ((b:Int).toNat + (k - 0))) else l.g ((0:Int).toNat + (k - (0 + ((l.n:Int) - (b:Int)).toNat))))
 rw [ec, en, em, Int.toNat_natCast, Nat.zero_add, <- Nat.add_assoc]
 refine List.map_congr_left fun k hk => ?_
 have hk := List.mem_range.1 hk
 by_cases c : k < l.n - b
 · rw [decide_eq_true c, decide_eq_false (Nat.not_lt_zero k), show (b:Int) + (k:Int) = ((b + k:Nat):Int) by omega, ix_self (by omega)]; rfl
 · have e2 : L.ix l.n ((b:Int) + (k:Int)) = k - (l.n - b) := by
     have h3 := ix_emod (n := l.n) (a := (b:Int) + (k:Int)) (by omega)
     have h4 : ((b:Int) + (k:Int)) % (l.n:Int) = (((b + k - l.n:Nat):Int)) % (l.n:Int) := by
       rw [show (b:Int) + (k:Int) = ((b + k - l.n:Nat):Int) + (l.n:Int) by omega, Int.add_emod_right]
     rw [h4, Int.emod_eq_of_lt (by omega) (by omega)] at h3
     omega
   rw [decide_eq_false c, e2, show (0:Int).toNat + (k - (l.n - b)) = k - (l.n - b) by simp]; rfl
theorem split_eq (l : L.Sq L.Pt) (u v:Int) : L.rsErr l u v = L.spErr l u v /\ (L.spErr l u v = 0 -> (L.outN (L.rch l u v) = (L.spA l u v).n /\ L.toL (L.norm (L.str (L.rch l u v))) = L.toL (L.spA l u v)) /\ L.outN (L.rch l v u) = (L.spB l u v).n /\ L.toL (L.norm (L.str (L.rch l v u))) = L.toL (L.spB l u v)) := by
 cases hb : L.spBad l u v with
 | true =>
   have e1 := spErr_bad hb
   refine ⟨?_, fun h => by rw [e1] at h; cases h⟩
   rw [e1]; unfold L.rsErr; rw [hb]; rfl
 | false =>
   obtain ⟨hv, u0, uv, vn⟩ := spBad_no hb
   obtain ⟨n3, n24, hsm, hbd⟩ := validOutline_of hv
   cases hN : L.spNb l u v with
   | true =>
     have e1 := spErr_nb hb hN
     refine ⟨?_, fun h => by rw [e1] at h; cases h⟩
     rw [e1]; unfold L.rsErr; rw [hb, hN]; rfl
   | false =>
     have e1 := spErr_dg hb hN
     have e2 := rDg_eq (l := l) (u := u) (v := v) (by omega) u0 (by omega)
     cases hd : L.spDg l u v with
     | false =>
       rw [hd] at e1 e2
       have e1 : L.spErr l u v = 12 := e1
       refine ⟨?_, fun h => by rw [e1] at h; cases h⟩
       rw [e1]; unfold L.rsErr; rw [hb, hN, e2]; rfl
     | true =>
       have hE : ∀ j, j < l.n -> L.spE l u v j = true := by
         unfold L.spDg at hd
         rw [band, Bool.and_eq_true] at hd
         exact allB_iff.1 hd.1
       rw [hd] at e1 e2
       have e1 : L.spErr l u v = 0 := e1
       obtain ⟨fA, fB⟩ := parts_fine hb hN hE
       obtain ⟨a, rfl⟩ : ∃ a : Nat, u = (a:Int) := ⟨u.toNat, by omega⟩
       obtain ⟨b, rfl⟩ : ∃ b : Nat, v = (b:Int) := ⟨v.toNat, by omega⟩
       have tA := rch_A (l := l) (a := a) (b := b) (by omega) (by omega)
       have tB := rch_B (l := l) (a := a) (b := b) (by omega) (by omega)
       have inl : ∀ (fr to_:Int) k, k < (L.rch l fr to_).n -> ∃ j, j < l.n /\ (L.rch l fr to_).g k = l.g j := fun fr to_ k _ => ⟨_, ix_lt (by omega), rfl⟩
       have eA := (toL_ext tA).1
       have eB := (toL_ext tB).1
       have cA := (chD_lt (n := l.n) (by omega) (a:Int) (b:Int)).2
       have cB := (chD_lt (n := l.n) (by omega) (b:Int) (a:Int)).2
       have nA : (L.rch l (a:Int) (b:Int)).n = L.chD l.n (a:Int) (b:Int) + 1 := rfl
       have nB : (L.rch l (b:Int) (a:Int)).n = L.chD l.n (b:Int) (a:Int) + 1 := rfl
       have vA : L.validPts (L.ptA l (a:Int) (b:Int)) = true := valid_mem.2 (fun p hp => valid_mem.1 (sub_valid hv (inl (a:Int) (b:Int))) p (tA ▸ hp))
       have vB : L.validPts (L.ptB l (a:Int) (b:Int)) = true := valid_mem.2 (fun p hp => valid_mem.1 (sub_valid hv (inl (b:Int) (a:Int))) p (tB ▸ hp))
       obtain ⟨p1, p2, p3⟩ := outl fA (by omega) vA tA
       obtain ⟨q1, q2, q3⟩ := outl fB (by omega) vB tB
       refine ⟨?_, fun _ => ⟨⟨p2, p3⟩, q2, q3⟩⟩
       rw [e1]; unfold L.rsErr; rw [hb, hN, e2, p1, q1]; rfl
theorem inj_of {x : L.Sq L.Pt} (h : (L.toL x).Nodup) {i k : Nat} (hi : i < x.n) (hk : k < x.n) (e : x.g i = x.g k) : i = k := by
 unfold L.toL at h
 rw [List.nodup_iff_pairwise_ne, List.pairwise_map, List.pairwise_iff_getElem] at h
 simp only [List.getElem_range] at h
 rcases Nat.lt_trichotomy i k with q | q | q
 · exact absurd e (h i k (by simpa using hi) (by simpa using hk) q)
 · exact q
 · exact absurd e.symm (h k i (by simpa using hk) (by simpa using hi) q)
theorem idx_inj {x : L.Sq L.Pt} (h : ∀ i k, i < x.n -> k < x.n -> x.g i = x.g k -> i = k) {i : Nat} (hi : i < x.n) : L.ptIdx x (x.g i) = (i:Int) :=
 ptIdx_at hi (fun j hj => by
   cases hs : L.same (x.g i) (x.g j) with
   | false => rfl
   | true => exact absurd (h i j hi (by omega) (same_eq hs)) (by omega)) (same_refl _)
theorem hull_both {l : L.Sq L.Pt} (hn : l.n <= 60 \/ 400 < l.n) : L.hlE l (L.hull (L.cpt (L.sorted l))).n = L.hlE l (L.wrapN l) /\ (L.hlE l (L.wrapN l) = 0 -> (L.hull (L.cpt (L.sorted l))).n = L.wrapN l /\ ∀ k, k < L.wrapN l -> (L.hull (L.cpt (L.sorted l))).g k = L.wrapG l k) := by
 unfold L.hlE
 cases h1 : (bif decide (400 < (l.n:Int)) then true else !L.validPts l) with
 | true => exact ⟨rfl, fun h => by cases h⟩
 | false =>
   cases h2 : L.flat l with
   | true => exact ⟨rfl, fun h => by cases h⟩
   | false =>
     rw [bor, Bool.or_eq_false_iff] at h1
     have n400 := of_decide_eq_false h1.1
     have n3 : ¬ l.n < 3 := fun h => by rw [flat_small h] at h2; cases h2
     have h2' := flat_two h2 (by omega)
     obtain ⟨c1, c2, c3, c4⟩ := cpt_sorted l
     have hset : L.setOf l (L.cpt (L.sorted l)) := by
       refine ⟨cpt_two h2', fun i k hi hk e => ?_, c3, fun j hj => by obtain ⟨i, hi, e⟩ := c2 j hj; exact ⟨i, hi, e.symm⟩⟩
       rcases Nat.lt_trichotomy i k with q | q | q
       · have := c1 i k q hk; rw [e] at this; unfold L.slt L.vp at this; omega
       · exact q
       · have := c1 k i q hi; rw [e] at this; unfold L.slt L.vp at this; omega
     obtain ⟨H, hle⟩ := hull_is hset
     have hN := hull_N H (by omega)
     rw [hN]
     exact ⟨rfl, fun _ => ⟨rfl, fun k hk => (H.at_ k hk).symm⟩⟩
theorem sel_list {p : Nat -> Bool} : ∀ {n : Nat}, (List.range (L.cnt p n)).map (L.selN p n) = (List.range n).filter p
 | 0 => rfl
 | n + 1 => by
   rw [List.range_succ, List.filter_append, <- sel_list (n := n)]
   cases hp : p n with
   | false =>
     rw [cnt_not hp]
     have : [n].filter p = [] := by simp [hp]
     rw [this, List.append_nil]
     exact List.map_congr_left fun k _ => selN_not hp
   | true =>
     rw [cnt_yes hp, List.range_succ, List.map_append]
     have : [n].filter p = [n] := by simp [hp]
     rw [this]
     congr 1
     · exact List.map_congr_left fun k hk => selN_old (by have := List.mem_range.1 hk; omega)
     · show [L.selN p (n + 1) (L.cnt p n)] = [n]
       rw [selN_new hp]
theorem out_hull {l : L.Sq L.Pt} (hv : L.validOutline l = true) : L.HullIs l (L.hull l) /\ L.wrapN l = (L.hull l).n /\ ∀ i k, i < l.n -> k < l.n -> l.g i = l.g k -> i = k := by
 obtain ⟨n3, n24, hsm, hbd⟩ := validOutline_of hv
 have hinj : ∀ i k, i < l.n -> k < l.n -> l.g i = l.g k -> i = k := fun i k hi hk e => inj_of (out_fine hv).2.2.2.1 hi hk e
 have hset : L.setOf l l := ⟨by omega, hinj, fun i hi => ⟨i, hi, rfl⟩, fun j hj => ⟨j, hj, rfl⟩⟩
 obtain ⟨H, hle⟩ := hull_is hset
 exact ⟨H, hull_N H (by omega), hinj⟩
theorem pk_area {l : L.Sq L.Pt} (hn : 0 < l.n) {fr to_ : Int} (f0 : 0 <= fr) (f1 : fr < (l.n:Int)) (t0 : 0 <= to_) : L.areaTo (L.pkRow l fr to_) (L.pkRow l fr to_).n = 0 - L.areaTo (L.rch l fr to_) (L.rch l fr to_).n := by
 obtain ⟨c1, c2⟩ := chD_lt hn fr to_
 have el : L.pkLen l.n fr to_ = L.chD l.n fr to_ := by
   unfold L.pkLen L.chD
   rw [Int.tmod_eq_emod_of_nonneg (by omega), show to_ + (l.n:Int) - fr = to_ - fr + (l.n:Int) by omega, Int.add_emod_right]
 have e : L.toL (L.revG (L.rch l fr to_)) = L.toL (L.pkRow l fr to_) := by
   show (List.range (L.chD l.n fr to_ + 1)).map (fun k => l.g (L.ix l.n (fr + ((L.chD l.n fr to_ + 1 - 1 - k:Nat):Int)))) = (List.range (L.pkLen l.n fr to_ + 1)).map (fun j => l.g (L.back l.n to_ j).toNat)
   rw [el]
   refine List.map_congr_left fun k hk => ?_
   have hk := List.mem_range.1 hk
   congr 1
   have h3 := ix_emod (n := l.n) (a := fr + ((L.chD l.n fr to_ + 1 - 1 - k:Nat):Int)) hn
   unfold L.back
   rw [Int.tmod_eq_emod_of_nonneg (by omega)]
   have h4 := Int.mul_ediv_add_emod (to_ - fr) (l.n:Int)
   have h5 : fr + ((L.chD l.n fr to_ + 1 - 1 - k:Nat):Int) + (l.n:Int) * ((to_ - fr) / (l.n:Int) + 1) = to_ + (l.n:Int) - (k:Int) := by
     rw [Int.mul_add, Int.mul_one]; omega
   rw [<- h5, Int.add_mul_emod_self_left]
   omega
 have h1 := area_rot (x := L.revG (L.rch l fr to_)) (y := L.pkRow l fr to_) (show 0 < L.chD l.n fr to_ + 1 by omega) (by rw [e]; exact Rot.refl _)
 have h2 := area_rev (x := L.rch l fr to_) (show 0 < L.chD l.n fr to_ + 1 by omega)
 rw [h1]
 show L.areaTo (L.revG (L.rch l fr to_)) (L.rch l fr to_).n = _
 rw [h2]; omega
theorem pk_key {l : L.Sq L.Pt} (hv : L.validOutline l = true) {k i : Nat} (hk : k < (L.hull l).n) (hi : i < l.n) (e : (L.hull l).g k = l.g i) : L.rK l i = (k:Int) /\ L.pkFrom l (L.hull l) k = (i:Int) /\ L.rIs l i = L.isPk l (L.hull l) k /\ L.rPk l i = L.pk l (L.hull l) k := by
 obtain ⟨H, hN, hinj⟩ := out_hull hv
 obtain ⟨n3, n24, hsm, hbd⟩ := validOutline_of hv
 have rg : ∀ j, j < (L.hull l).n -> (L.rH l).g j = (L.hull l).g j := fun j hj => H.at_ j hj
 have rn : (L.rH l).n = (L.hull l).n := hN
 have hK : L.rK l i = (k:Int) := by
   unfold L.rK
   refine ptIdx_at (by omega) (fun j hj => ?_) (by rw [rg k hk, e]; exact same_refl _)
   cases hs : L.same (l.g i) ((L.rH l).g j) with
   | false => rfl
   | true =>
     have := same_eq hs
     rw [rg j (by omega), <- e] at this
     exact absurd (hull_inj H hk (by omega) this) (by omega)
 have hF : L.pkFrom l (L.hull l) k = (i:Int) := by
   unfold L.pkFrom; rw [e]; exact idx_inj hinj hi
 have hT : L.pkTo l (L.hull l) k = L.rTo l i := by
   unfold L.pkTo L.rTo
   rw [hK, rn, ix_next hk, rg _ (next_lt (by omega))]
 have tb := rTo_bd (l := l) (by omega) i
 refine ⟨hK, hF, ?_, ?_⟩
 · unfold L.rIs L.isPk
   rw [hK, hT, hF, decide_eq_false (by omega)]; rfl
 · unfold L.rPk L.pk
   rw [hF, hT, pk_area (by omega) (by omega) (by omega) tb.1]
theorem pk_lists {l : L.Sq L.Pt} (hv : L.validOutline l = true) : (((List.range (L.hull l).n).filter (L.isPk l (L.hull l))).map (L.pk l (L.hull l))).Perm (((List.range l.n).filter (L.rIs l)).map (L.rPk l)) := by
 obtain ⟨H, hN, hinj⟩ := out_hull hv
 obtain ⟨n3, n24, hsm, hbd⟩ := validOutline_of hv
 have inL : ∀ k, k < (L.hull l).n -> ∃ i, i < l.n /\ (L.hull l).g k = l.g i := fun k hk => by
   obtain ⟨j, hj, e⟩ := wrapG_mem (l := l) (by omega) k
   exact ⟨j, hj, by rw [<- H.at_ k hk]; exact e⟩
 refine (List.perm_ext_iff_of_nodup ?_ ?_).2 (fun x => ?_)
 · rw [List.nodup_iff_pairwise_ne, List.pairwise_map]
   refine List.Pairwise.imp_of_mem (R := fun a b => a < b) (fun {a b} ha hb hab e => ?_) (List.pairwise_lt_range.filter _)
   have ha := List.mem_range.1 (List.mem_filter.1 ha).1
   have hb := List.mem_range.1 (List.mem_filter.1 hb).1
   obtain ⟨i, hi, e1⟩ := inL a ha
   obtain ⟨j, hj, e2⟩ := inL b hb
   have p1 := (pk_key hv ha hi e1).2.1
   have p2 := (pk_key hv hb hj e2).2.1
   have e3 : L.pkFrom l (L.hull l) a = L.pkFrom l (L.hull l) b := congrArg L.Pocket.fr e
   rw [p1, p2] at e3
   have e4 : i = j := by omega
   rw [e4, <- e2] at e1
   exact absurd (hull_inj H ha hb e1) (by omega)
 · rw [List.nodup_iff_pairwise_ne, List.pairwise_map]
   refine (List.pairwise_lt_range.filter _).imp (fun {a b} hab e => ?_)
   have e3 : (a:Int) = (b:Int) := congrArg L.Pocket.fr e
   omega
 · rw [List.mem_map, List.mem_map]
   constructor
   · rintro ⟨k, hk, rfl⟩
     obtain ⟨h1, h2⟩ := List.mem_filter.1 hk
     have h1 := List.mem_range.1 h1
     obtain ⟨i, hi, e⟩ := inL k h1
     obtain ⟨_, _, q1, q2⟩ := pk_key hv h1 hi e
     exact ⟨i, List.mem_filter.2 ⟨List.mem_range.2 hi, by rw [q1]; exact h2⟩, q2⟩
   · rintro ⟨i, hi, rfl⟩
     obtain ⟨h1, h2⟩ := List.mem_filter.1 hi
     have h1 := List.mem_range.1 h1
     have h3 : ¬ L.rK l i < 0 := fun c => by
       unfold L.rIs at h2; rw [decide_eq_true c] at h2; cases h2
     obtain ⟨k, hk, e⟩ : ∃ k, k < (L.hull l).n /\ (L.hull l).g k = l.g i := by
       unfold L.rK L.ptIdx at h3
       rcases idx_spec (f := fun j => L.same (l.g i) ((L.rH l).g j)) (n := (L.rH l).n) with ⟨q, _⟩ | ⟨k, q1, q2, q3, _⟩
       · rw [q] at h3; exact absurd (by decide) h3
       · have q1 : k < L.wrapN l := q1
         refine ⟨k, by omega, ?_⟩
         rw [<- H.at_ k (by omega)]
         exact (same_eq q3).symm
     obtain ⟨_, _, q1, q2⟩ := pk_key hv hk h1 e
     exact ⟨k, List.mem_filter.2 ⟨List.mem_range.2 hk, by rw [<- q1]; exact h2⟩, q2.symm⟩
theorem cmpFr_lt {a b : L.Pocket} : L.cmpFr a b < 0 ↔ a.fr < b.fr := by
 unfold L.cmpFr L.cmp
 by_cases h1 : a.fr < b.fr
 · simp [h1]
 · by_cases h2 : b.fr < a.fr <;> simp [h1, h2]
theorem pks_eq {l : L.Sq L.Pt} (hv : L.validOutline l = true) {u : Nat -> L.Pocket} (hu : SortedBy L.cmpFr (L.pks l).n (L.pks l).g u) : (L.pks l).n = (L.rPks l).n /\ ∀ i, i < (L.pks l).n -> u i = (L.rPks l).g i := by
 have eP : (List.range (L.pks l).n).map (L.pks l).g = ((List.range (L.hull l).n).filter (L.isPk l (L.hull l))).map (L.pk l (L.hull l)) := by
   rw [<- sel_list, List.map_map]; rfl
 have eR : (List.range (L.rPks l).n).map (L.rPks l).g = ((List.range l.n).filter (L.rIs l)).map (L.rPk l) := by
   rw [<- sel_list, List.map_map]; rfl
 have hperm := hu.perm
 rw [eP] at hperm
 have hp2 := hperm.trans (pk_lists hv)
 have hR : (((List.range l.n).filter (L.rIs l)).map (L.rPk l)).Pairwise (fun a b => a.fr <= b.fr) := by
   rw [List.pairwise_map]
   refine (List.pairwise_lt_range.filter _).imp (fun {a b} hab => ?_)
   show (a:Int) <= (b:Int)
   omega
 have hU : ((List.range (L.pks l).n).map u).Pairwise (fun a b => a.fr <= b.fr) := by
   rw [List.pairwise_map]
   refine List.Pairwise.imp_of_mem (R := fun a b => a < b) (fun {a b} ha hb hab => ?_) List.pairwise_lt_range
   have := hu.asc a b hab (List.mem_range.1 hb)
   rw [cmpFr_lt] at this
   omega
 have e : (List.range (L.pks l).n).map u = ((List.range l.n).filter (L.rIs l)).map (L.rPk l) := by
   refine List.Perm.eq_of_pairwise (le := fun a b : L.Pocket => a.fr <= b.fr) (fun a b ha hb h1 h2 => ?_) hU hR hp2
   have ha := hp2.mem_iff.1 ha
   obtain ⟨i, _, rfl⟩ := List.mem_map.1 ha
   obtain ⟨j, _, rfl⟩ := List.mem_map.1 hb
   have h1 : (i:Int) <= (j:Int) := h1
   have h2 : (j:Int) <= (i:Int) := h2
   rw [show i = j by omega]
 rw [<- eR] at e
 have hl := congrArg List.length e
 rw [List.length_map, List.length_range, List.length_map, List.length_range] at hl
 refine ⟨hl, fun i hi => ?_⟩
 have := congrArg (fun x => x[i]?) e
 simpa [hi, hl ▸ hi] using this
theorem samePk_of {a b : L.Sq L.Pocket} (h : a.n = b.n) (hg : ∀ i, i < a.n -> a.g i = b.g i) : L.samePk a b = true := by
 unfold L.samePk
 rw [decide_eq_true (by omega), cond_true]
 refine allB_iff.2 fun i hi => ?_
 rw [hg i hi, decide_eq_true rfl, decide_eq_true rfl, decide_eq_true rfl]; rfl
theorem sameTr_refl (a : L.Sq L.Trg) : L.sameTr a a = true := by
 unfold L.sameTr
 rw [decide_eq_true rfl, cond_true]
 refine allB_iff.2 fun i hi => ?_
 rw [decide_eq_true rfl, decide_eq_true rfl, decide_eq_true rfl]; rfl
theorem sameP_cut {n m : Nat} {f g : Nat -> L.Pt} (h : n = m) (hg : ∀ i, i < n -> f i = g i) : L.sameP ⟨n, f⟩ ⟨m, g⟩ = true := by
 subst h
 unfold L.sameP
 rw [decide_eq_true rfl, cond_true]
 refine allB_iff.2 fun i hi => ?_
 show L.same (f i) (g i) = true
 rw [hg i hi]; exact same_refl _
theorem hlE_le {l : L.Sq L.Pt} {m : Nat} (h : L.hlE l m = 0) : m <= 24 := by
 unfold L.hlE at h
 revert h
 cases (bif decide (400 < (l.n:Int)) then true else !L.validPts l) <;> cases L.flat l <;> cases h4 : decide ((24:Int) < (m:Int)) <;> intro h <;> first
   | (have := of_decide_eq_false h4; omega)
   | exact absurd h (by decide)
theorem outN24 (y : L.Sq L.Pt) : L.outN y <= 24 := by
 by_cases h : L.outE y = 0
 · obtain ⟨a, b⟩ := out_zero h
   rw [b]; exact a.2.1
 · unfold L.outN; rw [decide_eq_false h]; exact Nat.zero_le _
theorem cut_le {p : Prop} [Decidable p] {n m : Nat} (h : p -> n <= m) : (bif decide p then n else 0) <= m := by
 by_cases q : p
 · rw [decide_eq_true q]; exact h q
 · rw [decide_eq_false q]; exact Nat.zero_le _
theorem samePk_cut {l : L.Sq L.Pt} {t : Nat -> L.Pocket} (ht : L.validOutline l = true -> SortedBy L.cmpFr (L.pks l).n (L.pks l).g t) : L.samePk ⟨L.pkN l, t⟩ ⟨L.rPkN l, (L.rPks l).g⟩ = true := by
 cases hv : L.validOutline l with
 | false =>
   have e1 : L.pkN l = 0 := by unfold L.pkN; rw [hv]; rfl
   have e2 : L.rPkN l = 0 := by unfold L.rPkN; rw [hv]; rfl
   rw [e1, e2]
   exact samePk_of rfl (fun i hi => absurd hi (Nat.not_lt_zero _))
 | true =>
   obtain ⟨a, b⟩ := pks_eq hv (ht hv)
   have e1 : L.pkN l = (L.pks l).n := by unfold L.pkN; rw [hv]; rfl
   have e2 : L.rPkN l = (L.rPks l).n := by unfold L.rPkN; rw [hv]; rfl
   rw [e1, e2]
   exact samePk_of a (fun i hi => b i hi)
theorem pkN_le (l : L.Sq L.Pt) : L.pkN l <= 1000000 := by
 unfold L.pkN
 cases hv : L.validOutline l with
 | false => exact Nat.zero_le _
 | true =>
   obtain ⟨H, hN, _⟩ := out_hull hv
   have := rH_bd (l := l)
   have h2 : L.cnt (L.isPk l (L.hull l)) (L.hull l).n <= (L.hull l).n := cnt_le
   show L.cnt (L.isPk l (L.hull l)) (L.hull l).n <= 1000000
   omega
theorem trN_le (l : L.Sq L.Pt) (h : l.n <= 1000000) : L.trN l <= 1000000 := by
 unfold L.trN
 cases L.validOutline l with
 | false => exact Nat.zero_le _
 | true => show l.n - 2 <= 1000000; omega
def w_Hulls_p (l : (L.Sq L.Pt)) (u:Int) (v:Int) : Prop := l.n <= 9223372036854775807
def w_Hulls_r (l : (L.Sq L.Pt)) (u:Int) (v:Int) : SV := .bool true
def w_Hulls_s : List EV -> Option (Prop × SV)
 | [.p (.sl 2 l_n l_g), .p (.int .i64 u), .p (.int .i64 v)] => some ((∀ i, i < l_n -> l_g i = [.int .i64 ((ofPt (l_g i)).x), .int .i64 ((ofPt (l_g i)).y)]) /\ w_Hulls_p (⟨l_n, fun i => ofPt (l_g i)⟩ : (L.Sq L.Pt)) u v, w_Hulls_r (⟨l_n, fun i => ofPt (l_g i)⟩ : (L.Sq L.Pt)) u v)
 | _ => none
abbrev w_Hulls_S : SE.Spec := (specO w_Hulls_s)
def w_Hulls_C : Cfg := { cC with specs := lookS [(5, w_awake_S), (6, p_Hull_S), (7, r1_Hull_S), (8, r1_SamePoints_S), (9, p_Pockets_S), (10, r1_Pockets_S), (11, p_Triangles_S), (12, r1_Triangles_S), (13, w_samePk_S), (14, w_sameTr_S), (15, p_Split_S), (16, r1_Split_S)] }
theorem w_Hulls_vc (l : (L.Sq L.Pt)) (u:Int) (v:Int) (hp : w_Hulls_p l u v) : vc Tryz.prog (w_Hulls_C) (bodyOf Tryz.f3) (st0 Tryz.f3 [.p (.sl 2 l.n (fun i => [.int .i64 ((l.g i).x), .int .i64 ((l.g i).y)])), .p (.int .i64 u), .p (.int .i64 v)]) (retFn Tryz.prog Tryz.f3 (w_Hulls_r l u v)) :=
 @Eq.mpr _ (let I := SV.int .i64; let A44 := (↑l.n:Int); let A31 := (1:Int); let A28 := (1000000:Nat); let A24 := (0:Nat); let A19 := (0:Int); let A14 := (bif bif decide ((60:Int) < A44) then decide (A44 <= (400:Int)) else false then true else decide ((500:Int) < A44)); let A5 := (∀ (i:Nat), let A33 := (L.Sq.mk l.n fun (i:Nat) => l.g i); let A9 := (L.trg A33 i); let A43 := [I A9.a, I A9.b, I A9.c]; i < L.trN A33 -> A43 = A43); let A2 := ((∀ (i:Nat), let A42 := [I (l.g i).x, I (l.g i).y]; i < l.n -> A42 = A42) /\ l.n <= A28); let A1 := (L.Sq.mk l.n fun (i:Nat) => l.g i); let A45 := (L.wrapN A1); let A23 := (L.Sq.mk (L.trN A1) fun (i:Nat) => L.trg (L.Sq.mk l.n fun (i:Nat) => l.g i) i); let A21 := (bif decide (L.spErr A1 u v = A19) then (L.spB A1 u v).n else A24); let A20 := (L.Sq.mk (L.rPkN A1) fun (i:Nat) => (L.rPks (L.Sq.mk l.n fun (i:Nat) => l.g i)).g i); let A18 := (L.hull (L.cpt (L.sorted A1))); let A27 := (bif decide (L.hlE A1 A18.n = A19) then A18.n else A24); let A17 := (bif decide (L.spErr A1 u v = A19) then (L.spA A1 u v).n else A24); let A22 := (L.Sq.mk A17 fun (i:Nat) => (L.spA (L.Sq.mk l.n fun (i:Nat) => l.g i) u v).g i); let A13 := (L.Sq.mk (bif decide (L.rsErr A1 u v = A19) then L.outN (L.rch A1 u v) else A24) fun (i:Nat) => (L.norm (L.str (L.rch (L.Sq.mk l.n fun (i:Nat) => l.g i) u v))).g i); let A7 := (bif L.validOutline A1 then A19 else A31); let A4 := (bif !decide (L.hlE A1 A18.n = L.hlE A1 A45) then true else !L.sameP (L.Sq.mk A27 fun (i:Nat) => (L.hull (L.cpt (L.sorted (L.Sq.mk l.n fun (i:Nat) => l.g i)))).g i) (L.Sq.mk (bif decide (L.hlE A1 A45 = A19) then L.wrapN A1 else A24) fun (i:Nat) => L.wrapG (L.Sq.mk l.n fun (i:Nat) => l.g i) i)); True /\ (A14 = true -> true = true) /\ (A14 = false -> A2 /\ A2 /\ ((!!decide (L.hlE A1 A18.n = L.hlE A1 A45)) = true -> (∀ (i:Nat), let A34 := (L.Sq.mk l.n fun (i:Nat) => l.g i); let A6 := (L.hull (L.cpt (L.sorted A34))); let A41 := [I (A6.g i).x, I (A6.g i).y]; (i < bif decide (L.hlE A34 A6.n = A19) then A6.n else A24) -> A41 = A41) /\ (∀ (i:Nat), let A12 := (L.Sq.mk l.n fun (i:Nat) => l.g i); let A29 := [I (L.wrapG A12 i).x, I (L.wrapG A12 i).y]; (i < bif decide (L.hlE A12 (L.wrapN A12) = A19) then L.wrapN A12 else A24) -> A29 = A29) /\ A27 <= A28) /\ (A4 = true -> false = true) /\ (A4 = false -> A2 /\ ∀ (t : Nat -> L.Pocket), let A30 := (L.Sq.mk (L.pkN A1) fun (i:Nat) => t i); let A3 := (bif bif bif !decide (A7 = bif L.validOutline A1 then A19 else A31) then true else !decide (A7 = bif L.validOutline A1 then A19 else A31) then true else !L.samePk A30 A20 then true else !L.sameTr A23 A23); (L.validOutline A1 = true -> SortedBy L.cmpFr (L.pks A1).n (L.pks A1).g t) -> A2 /\ A2 /\ A2 /\ ((!bif !decide (A7 = bif L.validOutline A1 then A19 else A31) then true else !decide (A7 = bif L.validOutline A1 then A19 else A31)) = true -> (∀ (i:Nat), let A32 := [I (t i).fr, I (t i).to_, I (t i).area]; i < L.pkN (L.Sq.mk l.n fun (i:Nat) => l.g i) -> A32 = A32) /\ (∀ (i:Nat), let A35 := (L.Sq.mk l.n fun (i:Nat) => l.g i); let A8 := ((L.rPks A35).g i); let A38 := [I A8.fr, I A8.to_, I A8.area]; i < L.rPkN A35 -> A38 = A38) /\ L.pkN A1 <= A28) /\ ((!bif bif !decide (A7 = bif L.validOutline A1 then A19 else A31) then true else !decide (A7 = bif L.validOutline A1 then A19 else A31) then true else !L.samePk A30 A20) = true -> A5 /\ A5 /\ L.trN A1 <= A28) /\ (A3 = true -> false = true) /\ (A3 = false -> A2 /\ A2 /\ ((bif true then decide (L.spErr A1 u v = L.rsErr A1 u v) else false) = true -> (∀ (i:Nat), let A36 := (L.Sq.mk l.n fun (i:Nat) => l.g i); let A15 := (L.spA A36 u v); let A39 := [I (A15.g i).x, I (A15.g i).y]; (i < bif decide (L.spErr A36 u v = A19) then A15.n else A24) -> A39 = A39) /\ (∀ (i:Nat), let A25 := (L.Sq.mk l.n fun (i:Nat) => l.g i); let A10 := ((L.norm (L.str (L.rch A25 u v))).g i); (i < bif decide (L.rsErr A25 u v = A19) then L.outN (L.rch A25 u v) else A24) -> [I A10.x, I A10.y] = [I A10.x, I A10.y]) /\ A17 <= A28) /\ ((bif bif true then decide (L.spErr A1 u v = L.rsErr A1 u v) else false then L.sameP A22 A13 else false) = true -> (∀ (i:Nat), let A37 := (L.Sq.mk l.n fun (i:Nat) => l.g i); let A16 := (L.spB A37 u v); let A40 := [I (A16.g i).x, I (A16.g i).y]; (i < bif decide (L.spErr A37 u v = A19) then A16.n else A24) -> A40 = A40) /\ (∀ (i:Nat), let A26 := (L.Sq.mk l.n fun (i:Nat) => l.g i); let A11 := ((L.norm (L.str (L.rch A26 v u))).g i); (i < bif decide (L.rsErr A26 u v = A19) then L.outN (L.rch A26 v u) else A24) -> [I A11.x, I A11.y] = [I A11.x, I A11.y]) /\ A21 <= A28) /\ (bif bif bif true then decide (L.spErr A1 u v = L.rsErr A1 u v) else false then L.sameP A22 A13 else false then L.sameP (L.Sq.mk A21 fun (i:Nat) => (L.spB (L.Sq.mk l.n fun (i:Nat) => l.g i) u v).g i) (L.Sq.mk (bif decide (L.rsErr A1 u v = A19) then L.outN (L.rch A1 v u) else A24) fun (i:Nat) => (L.norm (L.str (L.rch (L.Sq.mk l.n fun (i:Nat) => l.g i) v u))).g i) else false) = true)))) (by kernel_rfl) (by
 conv => zeta
 have hl : l.n <= 9223372036854775807 := hp
 refine ⟨trivial, fun _ => rfl, fun h => ?_⟩
 rw [bor, band, Bool.or_eq_false_iff] at h
 have h5 : ¬ (500:Int) < (l.n:Int) := of_decide_eq_false h.2
 have h6 : l.n <= 60 \/ 400 < l.n := by
   have h1 := h.1
   by_cases a : (60:Int) < (l.n:Int)
   · by_cases b : (l.n:Int) <= 400
     · rw [decide_eq_true a, decide_eq_true b] at h1; cases h1
     · right; omega
   · left; omega
 obtain ⟨e1, e2⟩ := hull_both h6
 obtain ⟨s1, s2⟩ := split_eq l u v
 have hS : L.sameP ⟨bif decide (L.hlE l (L.hull (L.cpt (L.sorted l))).n = 0) then (L.hull (L.cpt (L.sorted l))).n else 0, (L.hull (L.cpt (L.sorted l))).g⟩ ⟨bif decide (L.hlE l (L.wrapN l) = 0) then L.wrapN l else 0, fun i => L.wrapG l i⟩ = true := by
   rw [e1]
   by_cases hd : L.hlE l (L.wrapN l) = 0
   · rw [decide_eq_true hd]
     obtain ⟨a, b⟩ := e2 hd
     exact sameP_cut a (fun i hi => b i (a ▸ hi))
   · rw [decide_eq_false hd]
     exact sameP_cut rfl (fun i hi => absurd hi (Nat.not_lt_zero _))
 have hX1 : (bif !decide (L.hlE l (L.hull (L.cpt (L.sorted l))).n = L.hlE l (L.wrapN l)) then true else !L.sameP ⟨bif decide (L.hlE l (L.hull (L.cpt (L.sorted l))).n = 0) then (L.hull (L.cpt (L.sorted l))).n else 0, (L.hull (L.cpt (L.sorted l))).g⟩ ⟨bif decide (L.hlE l (L.wrapN l) = 0) then L.wrapN l else 0, fun i => L.wrapG l i⟩) = false := by
   rw [hS, decide_eq_true e1]; rfl
 have hA : L.sameP ⟨bif decide (L.spErr l u v = 0) then (L.spA l u v).n else 0, (L.spA l u v).g⟩ ⟨bif decide (L.rsErr l u v = 0) then L.outN (L.rch l u v) else 0, (L.norm (L.str (L.rch l u v))).g⟩ = true /\ L.sameP ⟨bif decide (L.spErr l u v = 0) then (L.spB l u v).n else 0, (L.spB l u v).g⟩ ⟨bif decide (L.rsErr l u v = 0) then L.outN (L.rch l v u) else 0, (L.norm (L.str (L.rch l v u))).g⟩ = true := by
   rw [s1]
   by_cases hd : L.spErr l u v = 0
   · rw [decide_eq_true hd]
     obtain ⟨⟨a1, a2⟩, b1, b2⟩ := s2 hd
     have a3 := toL_ext a2
     have b3 := toL_ext b2
     exact ⟨sameP_cut a1.symm (fun i hi => (a3.2 i (by rw [a3.1]; exact hi)).symm), sameP_cut b1.symm (fun i hi => (b3.2 i (by rw [b3.1]; exact hi)).symm)⟩
   · rw [decide_eq_false hd]
     exact ⟨sameP_cut rfl (fun i hi => absurd hi (Nat.not_lt_zero _)), sameP_cut rfl (fun i hi => absurd hi (Nat.not_lt_zero _))⟩
 refine ⟨⟨fun _ _ => rfl, by omega⟩, ⟨fun _ _ => rfl, by omega⟩, fun _ => ⟨fun _ _ => rfl, fun _ _ => rfl, ?_⟩, fun h => Bool.noConfusion (h.symm.trans hX1), fun _ => ⟨⟨fun _ _ => rfl, by omega⟩, fun t ht => ?_⟩⟩
 · exact cut_le (fun q => Nat.le_trans (hlE_le q) (by decide))
 have hPk := samePk_cut ht
 have hX2 : (bif bif bif !decide ((bif L.validOutline l then (0:Int) else 1) = bif L.validOutline l then 0 else 1) then true else !decide ((bif L.validOutline l then (0:Int) else 1) = bif L.validOutline l then 0 else 1) then true else !L.samePk ⟨L.pkN l, t⟩ ⟨L.rPkN l, (L.rPks l).g⟩ then true else !L.sameTr ⟨L.trN l, fun i => L.trg l i⟩ ⟨L.trN l, fun i => L.trg l i⟩) = false := by
   rw [hPk, sameTr_refl, decide_eq_true rfl]; rfl
 refine ⟨⟨fun _ _ => rfl, by omega⟩, ⟨fun _ _ => rfl, by omega⟩, ⟨fun _ _ => rfl, by omega⟩, fun _ => ⟨fun _ _ => rfl, fun _ _ => rfl, pkN_le l⟩, fun _ => ⟨fun _ _ => rfl, fun _ _ => rfl, trN_le l (by omega)⟩, fun h => Bool.noConfusion (h.symm.trans hX2), fun _ => ⟨⟨fun _ _ => rfl, by omega⟩, ⟨fun _ _ => rfl, by omega⟩, fun _ => ⟨fun _ _ => rfl, fun _ _ => rfl, ?_⟩, fun _ => ⟨fun _ _ => rfl, fun _ _ => rfl, ?_⟩, ?_⟩⟩
 · exact cut_le (fun q => by rw [<- (s2 q).1.1]; exact Nat.le_trans (outN24 _) (by decide))
 · exact cut_le (fun q => by rw [<- (s2 q).2.1]; exact Nat.le_trans (outN24 _) (by decide))
 · have : (bif bif bif true then decide (L.spErr l u v = L.rsErr l u v) else false then L.sameP ⟨bif decide (L.spErr l u v = 0) then (L.spA l u v).n else 0, (L.spA l u v).g⟩ ⟨bif decide (L.rsErr l u v = 0) then L.outN (L.rch l u v) else 0, (L.norm (L.str (L.rch l u v))).g⟩ else false then L.sameP ⟨bif decide (L.spErr l u v = 0) then (L.spB l u v).n else 0, (L.spB l u v).g⟩ ⟨bif decide (L.rsErr l u v = 0) then L.outN (L.rch l v u) else 0, (L.norm (L.str (L.rch l v u))).g⟩ else false) = true := by
     rw [hA.1, hA.2, decide_eq_true s1.symm]; rfl
   exact this)
theorem w_Hulls_ok : SpecOk Tryz.prog 3 w_Hulls_S := fnX Tryz.func3 (c := bodyOf Tryz.f3) (by kernel_rfl) mixed (fun args p r hs hp => by
 unfold w_Hulls_s at hs
 split at hs
 · cases hs; exact ⟨_, _, w_Hulls_vc _ _ _ hp.2, (.p (.sl hp.1) (.same _ (.same _ .nil))), ⟨show SpecsL Tryz.prog _ from (SpecsL.cons w_awake_ok w_awake_en (SpecsL.cons p_Hull_ok p_Hull_en (SpecsL.cons r1_Hull_ok r1_Hull_en (SpecsL.cons r1_SamePoints_ok r1_SamePoints_en (SpecsL.cons p_Pockets_ok p_Pockets_en (SpecsL.cons r1_Pockets_ok r1_Pockets_en (SpecsL.cons p_Triangles_ok p_Triangles_en (SpecsL.cons r1_Triangles_ok r1_Triangles_en (SpecsL.cons w_samePk_ok w_samePk_en (SpecsL.cons w_sameTr_ok w_sameTr_en (SpecsL.cons p_Split_ok p_Split_en (SpecsL.cons r1_Split_ok r1_Split_en SpecsL.nil)))))))))))), rfl, ⟨show ItersL Tryz.prog _ from ItersL.nil, (TrsOk.none (fun _ => rfl))⟩⟩⟩
 · cases hs)
end Go.Proofs.YtaklapjfnejlbaaGreat
