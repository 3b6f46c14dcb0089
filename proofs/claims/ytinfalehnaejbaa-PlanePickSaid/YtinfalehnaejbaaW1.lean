/- A symbolic walk over the model, and what it shows of functions of the program: parts of the proof that the text of the row joins. -/
import Derived.Test.YtinfalehnaejbaaE3
import Derived.KernelRfl
import Derived.Test.YtinfalehnaejbaaProg
import Derived.Test.YtinfalehnaejbaaE4

/- Plain values that the contracts speak of. -/
namespace Go.Proofs.Ytinfalehnaejbaa
open Go.SE Go.RowKit
namespace L
structure Pt where
  x : Int
  y : Int
structure Span where
  lo : Int
  hi : Int
structure Mark where
  edge : Int
  place : Int
  tone : Int
structure Gauge where
  edge : Span
  across : Span
  bend : Int
structure Meas where
  edge : Int
  across : Int
  bend : Int
structure Setting where
  shift : Int
  back : Bool
structure Motion where
  turn : Int
  mirror : Bool
  by_ : Pt
structure Tri where
  a : Pt
  b : Pt
  c : Pt
/-- A list: how long, and what lies where. -/
structure Sq (α : Type) where
  n : Nat
  g : Nat → α
structure Film where
  id : Int
  grey : Sq Int
structure Piece where
  id : Int
  colour : Int
  rev : Int
  made : Int
  swell : Int
  gauges : Sq Gauge
  marks : Sq Mark
end L
namespace R
end R
def intOf : List SV → Int
  | [.int _ n] => n
  | _ => 0
def boolOf : List SV → Bool
  | [.bool b] => b
  | _ => false
def ofPt : List SV → L.Pt
  | [.int _ x, .int _ y] => ⟨x, y⟩
  | _ => ⟨0, 0⟩
def L.allB : Nat → (Nat → Bool) → Bool
  | 0, _ => true
  | n + 1, f => L.allB n f && f n
theorem allB_iff {f : Nat → Bool} : ∀ {n : Nat}, L.allB n f = true ↔ ∀ i, i < n → f i = true
  | 0 => by simp [L.allB]
  | n + 1 => by
    simp only [L.allB, Bool.and_eq_true, allB_iff (n := n)]
    constructor
    · rintro ⟨h, k⟩ i hi
      rcases Nat.lt_succ_iff_lt_or_eq.1 hi with hi | rfl
      · exact h i hi
      · exact k
    · exact fun h => ⟨fun i hi => h i (by omega), h n (by omega)⟩
theorem allB_false {f : Nat → Bool} {n i : Nat} (hi : i < n) (h : f i = false) : L.allB n f = false := by
  cases hb : L.allB n f with
  | false => rfl
  | true => rw [allB_iff.1 hb i hi] at h; cases h
theorem mul_bd {a b : Int} {m n : Int} (h1 : -m ≤ a) (h2 : a ≤ m) (h3 : -n ≤ b) (h4 : b ≤ n) : -(m * n) ≤ a * b ∧ a * b ≤ m * n := by
  have hm : 0 ≤ m := by omega
  have hn : 0 ≤ n := by omega
  have e1 := Int.mul_nonneg (show 0 ≤ m - a by omega) (show 0 ≤ n - b by omega)
  have e2 := Int.mul_nonneg (show 0 ≤ m + a by omega) (show 0 ≤ n + b by omega)
  have e3 := Int.mul_nonneg (show 0 ≤ m - a by omega) (show 0 ≤ n + b by omega)
  have e4 := Int.mul_nonneg (show 0 ≤ m + a by omega) (show 0 ≤ n - b by omega)
  simp only [Int.sub_mul, Int.mul_sub, Int.add_mul, Int.mul_add] at e1 e2 e3 e4
  omega
/-- A bool-valued function's value. -/
def L.fbl (p : FSpec) (xs : List SV) : Bool := boolOf [p.res xs]
theorem fbl_res {p : FSpec} (h : isB p) {xs : List SV} (hp : p.pre xs) : p.res xs = .bool (L.fbl p xs) := by
  obtain ⟨b, hb⟩ := h xs hp
  rw [hb, L.fbl, hb]; rfl
theorem mixed : Try.prog.follows .mixedOrders = true := by kernel_rfl
theorem InK.of {n : Int} (h : -9223372036854775808 ≤ n) (k : n ≤ 9223372036854775807) : InK .i64 n := ⟨h, k⟩
end Go.Proofs.Ytinfalehnaejbaa

namespace Go.Proofs.Ytinfalehnaejbaa
open Go.SE Go.RowKit
set_option maxRecDepth 100000
set_option maxHeartbeats 4000000
set_option linter.unusedVariables false
attribute [local irreducible] vc

def L.within (n a b : Int) : Bool := decide (a ≤ n) && decide (n ≤ b)
def L.earlier (a b : L.Mark) : Bool := bif decide (a.edge = b.edge) then (bif decide (a.place = b.place) then decide (a.tone < b.tone) else decide (a.place < b.place)) else decide (a.edge < b.edge)
def L.mark1 (l : L.Sq L.Mark) (i : Nat) : Bool := L.within (l.g i).place 0 16 && L.within (l.g i).tone 1 16 && (bif decide (0 < i) then L.earlier (l.g (i - 1)) (l.g i) else true)
def L.marks (l : L.Sq L.Mark) : Bool := decide (l.n ≤ 32) && L.allB l.n (L.mark1 l)
def p_within_p (n : Int) (a : Int) (b : Int) : Prop := True
def p_within_r (n : Int) (a : Int) (b : Int) : SV := .bool (L.within n a b)
def p_within_s : List EV → Option (Prop × SV)
  | [.p (.int .i64 n), .p (.int .i64 a), .p (.int .i64 b)] => some (p_within_p n a b, p_within_r n a b)
  | _ => none
abbrev p_within_S : SE.Spec := (specO p_within_s)
def p_within_C : Cfg := { muts := [], frz := lookN [], specs := lookS [], loops := lookL [], iters := lookI [], rfs := lookR [], nils := lookM [] }
theorem p_within_vc (n : Int) (a : Int) (b : Int) (hp : p_within_p n a b) : vc Try.prog (p_within_C) (bodyOf Try.f26) (st0 Try.f26 [.p (.int .i64 n), .p (.int .i64 a), .p (.int .i64 b)]) (retFn Try.prog Try.f26 (p_within_r n a b)) :=
  @Eq.mpr _ ((bif decide (a ≤ n) then decide (n ≤ b) else false) = L.within n a b) (by kernel_rfl) (by
    grind [L.within])
theorem p_within_ok : SpecOk Try.prog 26 p_within_S := fnX Try.func26 (c := bodyOf Try.f26) (by kernel_rfl) mixed (fun args p r hs hp => by
  unfold p_within_s at hs
  split at hs
  · cases hs; exact ⟨_, _, p_within_vc _ _ _ hp, (.same _ (.same _ (.same _ .nil))), ⟨show SpecsL Try.prog _ from SpecsL.nil, rfl, ⟨show ItersL Try.prog _ from ItersL.nil, (TrsOk.none (fun _ => rfl))⟩⟩⟩
  · cases hs)
theorem p_within_en : Enters Try.prog 26 := fun args w => by kernel_rfl
end Go.Proofs.Ytinfalehnaejbaa

namespace Go.Proofs.Ytinfalehnaejbaa
open Go.SE Go.RowKit
set_option maxRecDepth 100000
set_option maxHeartbeats 4000000
set_option linter.unusedVariables false
attribute [local irreducible] vc

def L.prev (n k : Nat) : Nat := (Int.tmod ((k : Int) + (n : Int) - 1) (n : Int)).toNat
def L.next (n k : Nat) : Nat := (Int.tmod ((k : Int) + 1) (n : Int)).toNat
def L.areaTo (l : L.Sq L.Pt) : Nat → Int
  | 0 => 0
  | k + 1 => L.areaTo l k + ((l.g k).x * (l.g (L.next l.n k)).y - (l.g (L.next l.n k)).x * (l.g k).y)
theorem next_lt {n k : Nat} (h : 0 < n) : L.next n k < n := by
  have t3 := Int.tmod_nonneg (n : Int) (show 0 ≤ (k : Int) + 1 by omega)
  have t4 := Int.tmod_lt_of_pos ((k : Int) + 1) (show 0 < (n : Int) by omega)
  unfold L.next; omega
def L.small (l : L.Sq L.Pt) : Prop := l.n ≤ 1000 ∧ ∀ i, i < l.n → -4000000 ≤ (l.g i).x ∧ (l.g i).x ≤ 4000000 ∧ -4000000 ≤ (l.g i).y ∧ (l.g i).y ≤ 4000000
theorem area_term {l : L.Sq L.Pt} (h : L.small l) {k : Nat} (hk : k < l.n) : (-16000000000000 ≤ (l.g k).x * (l.g (L.next l.n k)).y ∧ (l.g k).x * (l.g (L.next l.n k)).y ≤ 16000000000000) ∧ (-16000000000000 ≤ (l.g (L.next l.n k)).x * (l.g k).y ∧ (l.g (L.next l.n k)).x * (l.g k).y ≤ 16000000000000) := by
  have h1 := h.2 k hk
  have h2 := h.2 _ (next_lt (n := l.n) (k := k) (by omega))
  have m1 := mul_bd (m := 4000000) (n := 4000000) h1.1 h1.2.1 h2.2.2.1 h2.2.2.2
  have m2 := mul_bd (m := 4000000) (n := 4000000) h2.1 h2.2.1 h1.2.2.1 h1.2.2.2
  omega
theorem areaTo_bd {l : L.Sq L.Pt} (h : L.small l) : ∀ k, k ≤ l.n → -(32000000000000 * (k : Int)) ≤ L.areaTo l k ∧ L.areaTo l k ≤ 32000000000000 * (k : Int)
  | 0, _ => by simp [L.areaTo]
  | k + 1, hk => by
    have ih := areaTo_bd h k (by omega)
    have t := area_term h (k := k) (by omega)
    simp only [L.areaTo]
    omega
def p_triples1_p (l : (L.Sq L.Pt)) : Prop := l.n ≤ 1000
def p_triples1_n (l : (L.Sq L.Pt)) : Nat := l.n
def p_triples1_i (l : (L.Sq L.Pt)) : Nat → List SV := fun k => [.int .i64 (k : Int), .agg [.int .i64 (l.g (Int.tmod ((k : Int) + (l.n : Int) - 1) (l.n : Int)).toNat).x, .int .i64 (l.g (Int.tmod ((k : Int) + (l.n : Int) - 1) (l.n : Int)).toNat).y, .int .i64 (l.g (k : Int).toNat).x, .int .i64 (l.g (k : Int).toNat).y, .int .i64 (l.g (Int.tmod ((k : Int) + 1) (l.n : Int)).toNat).x, .int .i64 (l.g (Int.tmod ((k : Int) + 1) (l.n : Int)).toNat).y]]
def p_triples1_ic : List SV → Option (Prop × Nat × (Nat → List SV))
  | [.ref [.sl 2 l_n l_g] 0] => some ((∀ i, i < l_n → l_g i = [.int .i64 ((ofPt (l_g i)).x), .int .i64 ((ofPt (l_g i)).y)]) ∧ p_triples1_p (⟨l_n, fun i => ofPt (l_g i)⟩ : (L.Sq L.Pt)), p_triples1_n (⟨l_n, fun i => ofPt (l_g i)⟩ : (L.Sq L.Pt)), p_triples1_i (⟨l_n, fun i => ofPt (l_g i)⟩ : (L.Sq L.Pt)))
  | _ => none
abbrev p_triples1_it : ItSpec := itOf p_triples1_ic
def p_triples1_C : Cfg := { muts := [], frz := lookN [], specs := lookS [], loops := fun _ => none, iters := lookI [], rfs := lookR [] }
theorem p_triples1_vc (yl : Nat) (l : (L.Sq L.Pt)) (hp : p_triples1_p l) : vc Try.prog { p_triples1_C with loops := lookL [(1, { T := Nat, keep := [0, 1, 5, 6], keepO := [], chg := fun i => [(7, .p (.int .i64 (i : Int)))], own := fun _ => [], inv := fun i => i ≤ l.n, mu := fun i => l.n - i, yk := some (fun i => i) })], yld := some ⟨yl, p_triples1_n l, p_triples1_i l⟩ } (bodyOf Try.f33) (st0 Try.f33 (.yield yl :: ([.ref [.sl 2 l.n (fun i => [.int .i64 ((l.g i).x), .int .i64 ((l.g i).y)])] 0] : List SV).map .p)) (retIt Try.prog Try.f33 (p_triples1_n l)) :=
  @Eq.mpr _ ((∃ (g : Nat), nat_lit 0 = g ∧ false = false ∧ (0 : Int) = (↑g : Int) ∧ g ≤ l.n) ∧ ∀ (g : Nat), g ≤ l.n → (decide ((↑g : Int) < (↑l.n : Int)) = true → ((0 : Int) ≤ (↑g : Int) ∧ (↑g : Int) < (↑l.n : Int)) ∧ InK .i64 ((↑g : Int) + (↑l.n : Int)) ∧ InK .i64 ((↑g : Int) + (↑l.n : Int) - (1 : Int)) ∧ (↑l.n : Int) ≠ (0 : Int) ∧ ((0 : Int) ≤ Int.tmod
 ((↑g : Int) + (↑l.n : Int) - (1 : Int)) (↑l.n : Int) ∧ Int.tmod ((↑g : Int) + (↑l.n : Int) - (1 : Int)) (↑l.n : Int) < (↑l.n : Int)) ∧ InK .i64 ((↑g : Int) + (1 : Int)) ∧ (↑l.n : Int) ≠ (0 : Int) ∧ ((0 : Int) ≤ Int.tmod ((↑g : Int) + (1 : Int)) (↑l.n : Int) ∧ Int.tmod ((↑g : Int) + (1 : Int)) (↑l.n : Int) < (↑l.n : Int)) ∧ yl = yl ∧ g < l.n ∧ [SV.int .i64 (↑g :
 Int), SV.agg [SV.int .i64 (l.g (Int.toNat (Int.tmod ((↑g : Int) + (↑l.n : Int) - (1 : Int)) (↑l.n : Int)))).x, SV.int .i64 (l.g (Int.toNat (Int.tmod ((↑g : Int) + (↑l.n : Int) - (1 : Int)) (↑l.n : Int)))).y, SV.int .i64 (l.g (Int.toNat (↑g : Int))).x, SV.int .i64 (l.g (Int.toNat (↑g : Int))).y, SV.int .i64 (l.g
 (Int.toNat (Int.tmod ((↑g : Int) + (1 : Int)) (↑l.n : Int)))).x, SV.int .i64 (l.g (Int.toNat (Int.tmod ((↑g : Int) + (1 : Int)) (↑l.n : Int)))).y]] = [SV.int .i64 (↑g : Int), SV.agg [SV.int .i64 (l.g (Int.toNat (Int.tmod ((↑g : Int) + (↑l.n : Int) - (1 : Int)) (↑l.n : Int)))).x, SV.int .i64 (l.g (Int.toNat (Int.tmod ((↑g : Int)
 + (↑l.n : Int) - (1 : Int)) (↑l.n : Int)))).y, SV.int .i64 (l.g (Int.toNat (↑g : Int))).x, SV.int .i64 (l.g (Int.toNat (↑g : Int))).y, SV.int .i64 (l.g (Int.toNat (Int.tmod ((↑g : Int) + (1 : Int)) (↑l.n : Int)))).x, SV.int .i64 (l.g (Int.toNat (Int.tmod ((↑g : Int) + (1 : Int)) (↑l.n : Int)))).y]] ∧ ((false = true → g + (1
 : Nat) = l.n ∨ g + (1 : Nat) = l.n + (1 : Nat)) ∧ (false = false → InK .i64 ((↑g : Int) + (1 : Int)) ∧ ∃ (g' : Nat), g + (1 : Nat) = g' ∧ false = false ∧ (↑g : Int) + (1 : Int) = (↑g' : Int) ∧ (↑l.n : Int) = (↑l.n : Int) ∧ (l.n = l.n ∧ ∀ (i : Nat), i < l.n → [SV.int .i64 (l.g i).x, SV.int .i64 (l.g i).y] = [SV.int
 .i64 (l.g i).x, SV.int .i64 (l.g i).y]) ∧ yl = yl ∧ SV.ref [SV.sl (nat_lit 2) l.n fun (i : Nat) ↦ [SV.int .i64 (l.g i).x, SV.int .i64 (l.g i).y]] (nat_lit 0) = SV.ref [SV.sl (nat_lit 2) l.n fun (i : Nat) ↦ [SV.int .i64 (l.g i).x, SV.int .i64 (l.g i).y]] (nat_lit 0) ∧ g' ≤ l.n ∧ l.n -
 g' < l.n - g)) ∧ (true = true → l.n + (1 : Nat) = l.n ∨ l.n + (1 : Nat) = l.n + (1 : Nat)) ∧ (true = false → InK .i64 ((↑g : Int) + (1 : Int)) ∧ ∃ (g' : Nat), l.n + (1 : Nat) = g' ∧ false = false ∧ (↑g : Int) + (1 : Int) = (↑g' : Int) ∧ (↑l.n : Int) = (↑l.n : Int) ∧ False ∧ yl = yl ∧ False ∧ g' ≤ l.n ∧ l.n - g' < l.n - g)) ∧ (decide ((↑g :
 Int) < (↑l.n : Int)) = false → g = l.n ∨ g = l.n + (1 : Nat))) (by kernel_rfl) (by
    refine ⟨⟨(0 : Nat), rfl, rfl, rfl, Nat.zero_le _⟩, fun g hg => ⟨fun hlt => ?_, fun hge => ?_⟩⟩
    · have hb : (g : Int) < (l.n : Int) := by simpa using hlt
      have hn : l.n ≤ 1000 := hp
      have t1 := Int.tmod_nonneg (l.n : Int) (show 0 ≤ (g : Int) + (l.n : Int) - 1 by omega)
      have t2 := Int.tmod_lt_of_pos ((g : Int) + (l.n : Int) - 1) (show 0 < (l.n : Int) by omega)
      have t3 := Int.tmod_nonneg (l.n : Int) (show 0 ≤ (g : Int) + 1 by omega)
      have t4 := Int.tmod_lt_of_pos ((g : Int) + 1) (show 0 < (l.n : Int) by omega)
      refine ⟨by omega, InK.of (by omega) (by omega), InK.of (by omega) (by omega), by omega, ⟨t1, t2⟩, InK.of (by omega) (by omega), by omega, ⟨t3, t4⟩, rfl, by omega, rfl, ?_⟩
      exact ⟨⟨fun h => (by cases h), fun _ => ⟨InK.of (by omega) (by omega), g + 1, rfl, rfl, by omega, rfl, ⟨rfl, fun _ _ => rfl⟩, rfl, rfl, by omega, by omega⟩⟩, fun _ => .inr rfl, fun h => (by cases h)⟩
    · have hb : ¬ (g : Int) < (l.n : Int) := by simpa using hge
      exact .inl (by omega))
theorem p_triples1_itok : ItOk Try.prog 33 p_triples1_it := iterX Try.func33 (c := bodyOf Try.f33) (by kernel_rfl) mixed (fun caps l p n g hs hp => by
  unfold p_triples1_ic at hs
  split at hs
  · cases hs; exact ⟨_, _, p_triples1_vc l _ hp.2, (.cons (Ext.ref rfl (fun i hi => by
      rcases i with _ | i
      · show Ext (SV.sl _ _ _) (SV.sl _ _ _); exact (Ext.sl hp.1)
      exact absurd hi (by simp; try omega))) .nil), rfl, show SpecsL Try.prog _ from SpecsL.nil, ⟨show ItersL Try.prog _ from ItersL.nil, TrsOk.none (fun _ => rfl)⟩⟩
  · cases hs)
theorem p_triples1_en : Enters Try.prog 33 := fun args w => by kernel_rfl
def p_triples_p (l : (L.Sq L.Pt)) : Prop := l.n ≤ 1000
def p_triples_r (l : (L.Sq L.Pt)) : SV := .clo 33 [.ref [(.sl 2 l.n (fun i => [.int .i64 ((l.g i).x), .int .i64 ((l.g i).y)]))] 0]
def p_triples_s : List EV → Option (Prop × SV)
  | [.p (.sl 2 l_n l_g)] => some ((∀ i, i < l_n → l_g i = [.int .i64 ((ofPt (l_g i)).x), .int .i64 ((ofPt (l_g i)).y)]) ∧ p_triples_p (⟨l_n, fun i => ofPt (l_g i)⟩ : (L.Sq L.Pt)), p_triples_r (⟨l_n, fun i => ofPt (l_g i)⟩ : (L.Sq L.Pt)))
  | _ => none
abbrev p_triples_S : SE.Spec := (specO p_triples_s)
def p_triples_C : Cfg := { muts := [], frz := lookN [], specs := lookS [], loops := lookL [], iters := lookI [], rfs := lookR [], nils := lookM [] }
theorem p_triples_vc (l : (L.Sq L.Pt)) (hp : p_triples_p l) : vc Try.prog (p_triples_C) (bodyOf Try.f14) (st0 Try.f14 [.p (.sl 2 l.n (fun i => [.int .i64 ((l.g i).x), .int .i64 ((l.g i).y)]))]) (retFn Try.prog Try.f14 (p_triples_r l)) :=
  @Eq.mpr _ (SV.clo (nat_lit 33) [SV.ref [SV.sl (nat_lit 2) l.n fun (i : Nat) ↦ [SV.int .i64 (l.g i).x, SV.int .i64 (l.g i).y]] (nat_lit 0)] = SV.clo (nat_lit 33) [SV.ref [SV.sl (nat_lit 2) l.n fun (i : Nat) ↦ [SV.int .i64 (l.g i).x, SV.int .i64 (l.g i).y]] (nat_lit 0)]) (by kernel_rfl) (by
    rfl)
theorem p_triples_ok : SpecOk Try.prog 14 p_triples_S := fnX Try.func14 (c := bodyOf Try.f14) (by kernel_rfl) mixed (fun args p r hs hp => by
  unfold p_triples_s at hs
  split at hs
  · cases hs; exact ⟨_, _, p_triples_vc _ hp.2, (.p (.sl hp.1) .nil), ⟨show SpecsL Try.prog _ from SpecsL.nil, rfl, ⟨show ItersL Try.prog _ from ItersL.nil, (TrsOk.none (fun _ => rfl))⟩⟩⟩
  · cases hs)
theorem p_triples_en : Enters Try.prog 14 := fun args w => by kernel_rfl
def p_area_p (l : (L.Sq L.Pt)) : Prop := L.small l
def p_area_r (l : (L.Sq L.Pt)) : SV := .int .i64 (L.areaTo l l.n)
def p_area_s : List EV → Option (Prop × SV)
  | [.p (.sl 2 l_n l_g)] => some ((∀ i, i < l_n → l_g i = [.int .i64 ((ofPt (l_g i)).x), .int .i64 ((ofPt (l_g i)).y)]) ∧ p_area_p (⟨l_n, fun i => ofPt (l_g i)⟩ : (L.Sq L.Pt)), p_area_r (⟨l_n, fun i => ofPt (l_g i)⟩ : (L.Sq L.Pt)))
  | _ => none
abbrev p_area_S : SE.Spec := (specO p_area_s)
def p_area_C : Cfg := { muts := [3, 5], frz := lookN [], specs := lookS [(14, p_triples_S)], loops := lookL [], iters := lookI [(33, p_triples1_it)], rfs := lookR [], nils := lookM [] }
theorem p_area_vc (l : (L.Sq L.Pt)) (hp : p_area_p l) : vc Try.prog ({ p_area_C with loops := lookL [], rfs := lookR [(3, { T := Nat, keep := [3], keepO := [], own := fun k _ => [(3, .blk 3 [.p (.int .i64 (L.areaTo l k))])], inv := fun k _ => k ≤ l.n })] }) (bodyOf Try.f13) (st0 Try.f13 [.p (.sl 2 l.n (fun i => [.int .i64 ((l.g i).x), .int .i64 ((l.g i).y)]))]) (retFn Try.prog Try.f13 (p_area_r l)) :=
  @Eq.mpr _ (((∀ (i : Nat), i < l.n → [SV.int .i64 (l.g i).x, SV.int .i64 (l.g i).y] = [SV.int .i64 (l.g i).x, SV.int .i64 (l.g i).y]) ∧ l.n ≤ (1000 : Nat)) ∧ (((∀ (i : Nat), i < l.n → [SV.int .i64 (l.g i).x, SV.int .i64 (l.g i).y] = [SV.int .i64 (l.g i).x, SV.int .i64 (l.g i).y]) ∧
 l.n ≤ (1000 : Nat)) ∧ ∃ (t : Nat), (0 : Int) = L.areaTo l (0 : Nat) ∧ (0 : Nat) ≤ l.n) ∧ (∀ (k t : Nat) (vk : Nat → Go.Value), k < l.n → k ≤ l.n → ((0 : Int) ≤ (1 : Int) ∧ (1 : Int) < (↑(3 : Nat) : Int)) ∧ ((0 : Int) ≤ (2 : Int) ∧ (2 : Int) < (↑(3 : Nat) : Int)) ∧ InK .i64 ((l.g (Int.toNat (↑k : Int))).x * (l.g (Int.toNat (Int.tmod ((↑k : Int) + (1 : Int)) (↑l.n : Int)))).y) ∧ ((0
 : Int) ≤ (2 : Int) ∧ (2 : Int) < (↑(3 : Nat) : Int)) ∧ ((0 : Int) ≤ (1 : Int) ∧ (1 : Int) < (↑(3 : Nat) : Int)) ∧ InK .i64 ((l.g (Int.toNat (Int.tmod ((↑k : Int) + (1 : Int)) (↑l.n : Int)))).x * (l.g (Int.toNat (↑k : Int))).y) ∧ InK .i64 ((l.g (Int.toNat (↑k : Int))).x * (l.g (Int.toNat (Int.tmod ((↑k : Int) + (1 : Int)) (↑l.n : Int)))).y - (l.g (Int.toNat (Int.tmod
 ((↑k : Int) + (1 : Int)) (↑l.n : Int)))).x * (l.g (Int.toNat (↑k : Int))).y) ∧ InK .i64 (L.areaTo l k + ((l.g (Int.toNat (↑k : Int))).x * (l.g (Int.toNat (Int.tmod ((↑k : Int) + (1 : Int)) (↑l.n : Int)))).y - (l.g (Int.toNat (Int.tmod ((↑k : Int) + (1 : Int)) (↑l.n : Int)))).x * (l.g (Int.toNat (↑k : Int))).y)) ∧ ∃ (t' : Nat), nat_lit 0 = nat_lit 0 ∧ vk (nat_lit 3) = vk (nat_lit 3)
 ∧ L.areaTo l k + ((l.g (Int.toNat (↑k : Int))).x * (l.g (Int.toNat (Int.tmod ((↑k : Int) + (1 : Int)) (↑l.n : Int)))).y - (l.g (Int.toNat (Int.tmod ((↑k : Int) + (1 : Int)) (↑l.n : Int)))).x * (l.g (Int.toNat (↑k : Int))).y) = L.areaTo l (k + (1 : Nat)) ∧ k + (1 : Nat) ≤ l.n) ∧ ∀ (t : Nat), l.n ≤ l.n → L.areaTo l l.n = L.areaTo l l.n) (by kernel_rfl) (by
    have hs : L.small l := hp
    refine ⟨⟨fun _ _ => rfl, hs.1⟩, ⟨⟨fun _ _ => rfl, hs.1⟩, (0 : Nat), rfl, Nat.zero_le _⟩, fun k t vk hk hi => ?_, fun _ _ => rfl⟩
    have e0 : ((k : Int)).toNat = k := by omega
    have e1 : (Int.tmod ((k : Int) + 1) (l.n : Int)).toNat = L.next l.n k := rfl
    rw [e0, e1]
    have b1 := area_term hs hk
    have b2 := areaTo_bd hs k hi
    have hn := hs.1
    refine ⟨by omega, by omega, InK.of (by omega) (by omega), by omega, by omega, InK.of (by omega) (by omega), InK.of (by omega) (by omega), InK.of (by omega) (by omega), (0 : Nat), rfl, rfl, rfl, hk⟩)
theorem p_area_ok : SpecOk Try.prog 13 p_area_S := fnX Try.func13 (c := bodyOf Try.f13) (by kernel_rfl) mixed (fun args p r hs hp => by
  unfold p_area_s at hs
  split at hs
  · cases hs; exact ⟨_, _, p_area_vc _ hp.2, (.p (.sl hp.1) .nil), ⟨show SpecsL Try.prog _ from (SpecsL.cons p_triples_ok p_triples_en SpecsL.nil), rfl, ⟨show ItersL Try.prog _ from (ItersL.cons p_triples1_itok p_triples1_en ItersL.nil), (TrsOk.none (fun _ => rfl))⟩⟩⟩
  · cases hs)
theorem p_area_en : Enters Try.prog 13 := fun args w => by kernel_rfl
end Go.Proofs.Ytinfalehnaejbaa

namespace Go.Proofs.Ytinfalehnaejbaa
open Go.SE Go.RowKit
set_option maxRecDepth 100000
set_option maxHeartbeats 4000000
set_option linter.unusedVariables false
attribute [local irreducible] vc

def L.cmp (a b : Int) : Int := bif decide (a < b) then -1 else bif decide (b < a) then 1 else 0
def L.or2 (a b : Int) : Int := bif decide (a = 0) then b else a
def L.firstNZ (g : Nat → Int) : Nat → Int
  | 0 => 0
  | n + 1 => L.or2 (L.firstNZ g n) (g n)
theorem firstNZ_zero {g : Nat → Int} : ∀ {n : Nat}, (∀ j, j < n → g j = 0) → L.firstNZ g n = 0
  | 0, _ => rfl
  | n + 1, h => by rw [L.firstNZ, firstNZ_zero (n := n) (fun j hj => h j (by omega)), h n (by omega)]; rfl
theorem firstNZ_at {g : Nat → Int} {i : Nat} (h0 : ∀ j, j < i → g j = 0) (hi : g i ≠ 0) : ∀ {n : Nat}, i < n → L.firstNZ g n = g i
  | n + 1, h => by
    by_cases hin : i < n
    · simp [L.firstNZ, L.or2, firstNZ_at h0 hi hin, hi]
    · have : i = n := by omega
      subst this
      simp [L.firstNZ, L.or2, firstNZ_zero h0]
def L.idx : Nat → (Nat → Bool) → Int
  | 0, _ => -1
  | n + 1, f => bif decide (0 ≤ L.idx n f) then L.idx n f else bif f n then (n : Int) else -1
def L.anyB : Nat → (Nat → Bool) → Bool
  | 0, _ => false
  | n + 1, f => L.anyB n f || f n
theorem anyB_iff {f : Nat → Bool} : ∀ {n : Nat}, L.anyB n f = true ↔ ∃ i, i < n ∧ f i = true
  | 0 => by simp [L.anyB]
  | n + 1 => by
    simp only [L.anyB, Bool.or_eq_true, anyB_iff (n := n)]
    constructor
    · rintro (⟨i, h, k⟩ | h)
      · exact ⟨i, by omega, k⟩
      · exact ⟨n, by omega, h⟩
    · rintro ⟨i, h, k⟩
      rcases Nat.lt_succ_iff_lt_or_eq.1 h with h | rfl
      · exact .inl ⟨i, h, k⟩
      · exact .inr k
theorem idx_none {f : Nat → Bool} : ∀ {n : Nat}, (∀ j, j < n → f j = false) → L.idx n f = -1
  | 0, _ => rfl
  | n + 1, h => by rw [L.idx, idx_none (n := n) (fun j hj => h j (by omega)), h n (by omega)]; rfl
theorem idx_at {f : Nat → Bool} {i : Nat} (h0 : ∀ j, j < i → f j = false) (hi : f i = true) : ∀ {n : Nat}, i < n → L.idx n f = (i : Int)
  | n + 1, h => by
    by_cases hin : i < n
    · simp [L.idx, idx_at h0 hi hin]
    · have : i = n := by omega
      subst this
      simp [L.idx, idx_none h0, hi]
theorem idx_any {f : Nat → Bool} : ∀ {n : Nat}, decide (0 ≤ L.idx n f) = L.anyB n f
  | 0 => rfl
  | n + 1 => by
    have ih := idx_any (f := f) (n := n)
    unfold L.anyB
    rw [← ih]
    cases hf : f n <;> by_cases h : 0 ≤ L.idx n f <;> simp [L.idx, hf, h]
theorem idx_lt {f : Nat → Bool} : ∀ {n : Nat}, -1 ≤ L.idx n f ∧ L.idx n f < (n : Int)
  | 0 => by simp [L.idx]
  | n + 1 => by
    have ih := idx_lt (f := f) (n := n)
    cases hf : f n <;> by_cases h : 0 ≤ L.idx n f <;> simp [L.idx, hf, h] <;> omega
def L.cnt (p : Nat → Bool) : Nat → Nat
  | 0 => 0
  | n + 1 => bif p n then L.cnt p n + 1 else L.cnt p n
theorem cnt_le {p : Nat → Bool} : ∀ {n : Nat}, L.cnt p n ≤ n
  | 0 => Nat.le_refl _
  | n + 1 => by
    have := cnt_le (p := p) (n := n)
    unfold L.cnt
    cases p n <;> simp <;> omega
def L.selN (p : Nat → Bool) : Nat → Nat → Nat
  | 0, _ => 0
  | n + 1, k => bif p n && decide (k = L.cnt p n) then n else L.selN p n k
theorem cnt_yes {p : Nat → Bool} {n : Nat} (h : p n = true) : L.cnt p (n + 1) = L.cnt p n + 1 := by simp [L.cnt, h]
theorem cnt_not {p : Nat → Bool} {n : Nat} (h : p n = false) : L.cnt p (n + 1) = L.cnt p n := by simp [L.cnt, h]
theorem selN_new {p : Nat → Bool} {n : Nat} (h : p n = true) : L.selN p (n + 1) (L.cnt p n) = n := by simp [L.selN, h]
theorem selN_old {p : Nat → Bool} {n k : Nat} (h : k ≠ L.cnt p n) : L.selN p (n + 1) k = L.selN p n k := by simp [L.selN, h]
theorem selN_not {p : Nat → Bool} {n k : Nat} (h : p n = false) : L.selN p (n + 1) k = L.selN p n k := by simp [L.selN, h]
theorem idx_cases {f : Nat → Bool} : ∀ {n : Nat}, (L.idx n f = -1 ∧ ∀ j, j < n → f j = false) ∨ ∃ i, i < n ∧ L.idx n f = (i : Int) ∧ f i = true ∧ ∀ j, j < i → f j = false
  | 0 => .inl ⟨rfl, fun j hj => absurd hj (Nat.not_lt_zero _)⟩
  | n + 1 => by
    rcases idx_cases (f := f) (n := n) with ⟨h1, h2⟩ | ⟨i, h1, h2, h3, h4⟩
    · cases hf : f n with
      | true => exact .inr ⟨n, Nat.lt_succ_self n, by simp [L.idx, h1, hf], hf, h2⟩
      | false => exact .inl ⟨by simp [L.idx, h1, hf], fun j hj => by
          rcases Nat.lt_succ_iff_lt_or_eq.1 hj with h | rfl
          · exact h2 j h
          · exact hf⟩
    · exact .inr ⟨i, by omega, by simp [L.idx, h2], h3, h4⟩
theorem band (a b : Bool) : (bif a then b else false) = (a && b) := by cases a <;> rfl
theorem bor (a b : Bool) : (bif a then true else b) = (a || b) := by cases a <;> rfl
def c_isNaN_p (x : Int) : Prop := True
def c_isNaN_r (x : Int) : SV := .bool false
def c_isNaN_s : List EV → Option (Prop × SV)
  | [.p (.int .i64 x)] => some (c_isNaN_p x, c_isNaN_r x)
  | _ => none
abbrev c_isNaN_S : SE.Spec := (specO c_isNaN_s)
def c_isNaN_C : Cfg := { muts := [], frz := lookN [], specs := lookS [], loops := lookL [], iters := lookI [], rfs := lookR [], nils := lookM [] }
theorem c_isNaN_vc (x : Int) (hp : c_isNaN_p x) : vc Try.prog (c_isNaN_C) (bodyOf Try.f42) (st0 Try.f42 [.p (.int .i64 x)]) (retFn Try.prog Try.f42 (c_isNaN_r x)) :=
  @Eq.mpr _ ((!decide (x = x)) = false) (by kernel_rfl) (by
    simp)
theorem c_isNaN_ok : SpecOk Try.prog 42 c_isNaN_S := fnX Try.func42 (c := bodyOf Try.f42) (by kernel_rfl) mixed (fun args p r hs hp => by
  unfold c_isNaN_s at hs
  split at hs
  · cases hs; exact ⟨_, _, c_isNaN_vc _ hp, (.same _ .nil), ⟨show SpecsL Try.prog _ from SpecsL.nil, rfl, ⟨show ItersL Try.prog _ from ItersL.nil, (TrsOk.none (fun _ => rfl))⟩⟩⟩
  · cases hs)
theorem c_isNaN_en : Enters Try.prog 42 := fun args w => by kernel_rfl
def c_cmp_p (a : Int) (b : Int) : Prop := True
def c_cmp_r (a : Int) (b : Int) : SV := .int .i64 (L.cmp a b)
def c_cmp_s : List EV → Option (Prop × SV)
  | [.p (.int .i64 a), .p (.int .i64 b)] => some (c_cmp_p a b, c_cmp_r a b)
  | _ => none
abbrev c_cmp_S : SE.Spec := (specO c_cmp_s)
def c_cmp_C : Cfg := { muts := [], frz := lookN [], specs := lookS [(42, c_isNaN_S)], loops := lookL [], iters := lookI [], rfs := lookR [], nils := lookM [] }
theorem c_cmp_vc (a : Int) (b : Int) (hp : c_cmp_p a b) : vc Try.prog (c_cmp_C) (bodyOf Try.f22) (st0 Try.f22 [.p (.int .i64 a), .p (.int .i64 b)]) (retFn Try.prog Try.f22 (c_cmp_r a b)) :=
  @Eq.mpr _ (True ∧ True ∧ (false = true → (false = true → (0 : Int) = L.cmp a b) ∧ (false = false → (-1 : Int) = L.cmp a b)) ∧ (false = false → (false = true → (1 : Int) = L.cmp a b) ∧ (false = false → (decide (a < b) = true → (-1 : Int) = L.cmp a b) ∧ (decide (a < b) = false → (decide (b < a) = true → (1
 : Int) = L.cmp a b) ∧ (decide (b < a) = false → (0 : Int) = L.cmp a b))))) (by kernel_rfl) (by
    grind [L.cmp])
theorem c_cmp_ok : SpecOk Try.prog 22 c_cmp_S := fnX Try.func22 (c := bodyOf Try.f22) (by kernel_rfl) mixed (fun args p r hs hp => by
  unfold c_cmp_s at hs
  split at hs
  · cases hs; exact ⟨_, _, c_cmp_vc _ _ hp, (.same _ (.same _ .nil)), ⟨show SpecsL Try.prog _ from (SpecsL.cons c_isNaN_ok c_isNaN_en SpecsL.nil), rfl, ⟨show ItersL Try.prog _ from ItersL.nil, (TrsOk.none (fun _ => rfl))⟩⟩⟩
  · cases hs)
theorem c_cmp_en : Enters Try.prog 22 := fun args w => by kernel_rfl
def c_or_p (l : (L.Sq Int)) : Prop := l.n ≤ 1000000
def c_or_r (l : (L.Sq Int)) : SV := .int .i64 (L.firstNZ l.g l.n)
def c_or_s : List EV → Option (Prop × SV)
  | [.p (.sl 1 l_n l_g)] => some ((∀ i, i < l_n → l_g i = [.int .i64 ((intOf (l_g i)))]) ∧ c_or_p (⟨l_n, fun i => intOf (l_g i)⟩ : (L.Sq Int)), c_or_r (⟨l_n, fun i => intOf (l_g i)⟩ : (L.Sq Int)))
  | _ => none
abbrev c_or_S : SE.Spec := (specO c_or_s)
def c_or_C : Cfg := { muts := [], frz := lookN [], specs := lookS [], loops := fun _ => none, iters := lookI [], rfs := lookR [], nils := lookM [] }
theorem c_or_vc (l : (L.Sq Int)) (hp : c_or_p l) : vc Try.prog ({ c_or_C with loops := lookL [(3, { T := Nat, keep := [0, 3, 6, 7], keepO := [], chg := fun i => [(8, .p (.int .i64 i))], own := fun _ => [], inv := fun i => i ≤ l.n ∧ (∀ j, j < i → l.g j = 0), mu := fun i => l.n - i })], rfs := lookR [] }) (bodyOf Try.f47) (st0 Try.f47 [.p (.sl 1 l.n (fun i => [.int .i64 ((l.g i))]))]) (retFn Try.prog Try.f47 (c_or_r l)) :=
  @Eq.mpr _ ((∃ (g : Nat), (0 : Int) = (↑g : Int) ∧ g ≤ l.n ∧ ∀ (j : Nat), j < g → l.g j = (0 : Int)) ∧ ∀ (g : Nat), (g ≤ l.n ∧ ∀ (j : Nat), j < g → l.g j = (0 : Int)) → (decide ((↑g : Int) < (↑l.n : Int)) = true → ((0 : Int) ≤ (↑g : Int) ∧ (↑g : Int) < (↑l.n : Int)) ∧ ((!decide (l.g (Int.toNat (↑g : Int)) = (0 : Int))) = true → l.g (Int.toNat (↑g : Int)) = L.firstNZ l.g l.n) ∧
 ((!decide (l.g (Int.toNat (↑g : Int)) = (0 : Int))) = false → InK .i64 ((↑g : Int) + (1 : Int)) ∧ ∃ (g' : Nat), (↑g : Int) + (1 : Int) = (↑g' : Int) ∧ (↑l.n : Int) = (↑l.n : Int) ∧ (l.n = l.n ∧ ∀ (i : Nat), i < l.n → [SV.int .i64 (l.g i)] = [SV.int .i64 (l.g i)]) ∧ (0 : Int) = (0 : Int) ∧ (l.n = l.n ∧ ∀ (i : Nat), i < l.n →
 [SV.int .i64 (l.g i)] = [SV.int .i64 (l.g i)]) ∧ (g' ≤ l.n ∧ ∀ (j : Nat), j < g' → l.g j = (0 : Int)) ∧ l.n - g' < l.n - g)) ∧ (decide ((↑g : Int) < (↑l.n : Int)) = false → (0 : Int) = L.firstNZ l.g l.n)) (by kernel_rfl) (by
    refine ⟨⟨(0 : Nat), rfl, Nat.zero_le _, fun j hj => by omega⟩, fun g hg => ⟨fun hlt => ?_, fun hge => ?_⟩⟩
    · have hb : (g : Int) < (l.n : Int) := by simpa using hlt
      have e0 : ((g : Int)).toNat = g := by omega
      rw [e0]
      have hn : l.n ≤ 1000000 := hp
      refine ⟨by omega, fun h => ?_, fun h => ?_⟩
      · exact (firstNZ_at hg.2 (by simpa using h) (by omega)).symm
      · have h0 : l.g g = 0 := by simpa using h
        exact ⟨InK.of (by omega) (by omega), g + 1, by omega, rfl, ⟨rfl, fun _ _ => rfl⟩, rfl, ⟨rfl, fun _ _ => rfl⟩, ⟨by omega, fun j hj => by
          rcases Nat.lt_succ_iff_lt_or_eq.1 hj with h | rfl
          · exact hg.2 j h
          · exact h0⟩, by omega⟩
    · have hb : ¬ (g : Int) < (l.n : Int) := by simpa using hge
      exact (firstNZ_zero (fun j hj => hg.2 j (by omega))).symm)
theorem c_or_ok : SpecOk Try.prog 47 c_or_S := fnX Try.func47 (c := bodyOf Try.f47) (by kernel_rfl) mixed (fun args p r hs hp => by
  unfold c_or_s at hs
  split at hs
  · cases hs; exact ⟨_, _, c_or_vc _ hp.2, (.p (.sl hp.1) .nil), ⟨show SpecsL Try.prog _ from SpecsL.nil, rfl, ⟨show ItersL Try.prog _ from ItersL.nil, (TrsOk.none (fun _ => rfl))⟩⟩⟩
  · cases hs)
theorem c_or_en : Enters Try.prog 47 := fun args w => by kernel_rfl
def s_idxFP_p (l : (L.Sq L.Pt)) (p : FSpec) : Prop := l.n ≤ 1000000 ∧ ∀ i, i < l.n → p.pre [(.agg [.int .i64 ((l.g i).x), .int .i64 ((l.g i).y)])]
def s_idxFP_r (l : (L.Sq L.Pt)) (p : FSpec) : SV := .int .i64 (L.idx l.n (fun i => L.fbl p [(.agg [.int .i64 ((l.g i).x), .int .i64 ((l.g i).y)])]))
def s_idxFP_s : List EV → Option (Prop × SV)
  | [.p (.sl 2 l_n l_g), .fn p] => some ((∀ i, i < l_n → l_g i = [.int .i64 ((ofPt (l_g i)).x), .int .i64 ((ofPt (l_g i)).y)]) ∧ isB p ∧ s_idxFP_p (⟨l_n, fun i => ofPt (l_g i)⟩ : (L.Sq L.Pt)) p, s_idxFP_r (⟨l_n, fun i => ofPt (l_g i)⟩ : (L.Sq L.Pt)) p)
  | _ => none
abbrev s_idxFP_S : SE.Spec := (specO s_idxFP_s)
def s_idxFP_C : Cfg := { muts := [], frz := lookN [], specs := lookS [], loops := fun _ => none, iters := lookI [], rfs := lookR [], nils := lookM [] }
theorem s_idxFP_vc (l : (L.Sq L.Pt)) (p : FSpec) (hp : s_idxFP_p l p) : vc Try.prog ({ s_idxFP_C with loops := lookL [(2, { T := Nat, keep := [0, 1, 6, 7], keepO := [], chg := fun i => [(8, .p (.int .i64 i))], own := fun _ => [], inv := fun i => i ≤ l.n ∧ (∀ j, j < i → L.fbl p [(.agg [.int .i64 ((l.g j).x), .int .i64 ((l.g j).y)])] = false), mu := fun i => l.n - i })], rfs := lookR [] }) (bodyOf Try.f44) (st0 Try.f44 [.p (.sl 2 l.n (fun i => [.int .i64 ((l.g i).x), .int .i64 ((l.g i).y)])), .fn ⟨p.pre, fun xs => .bool (L.fbl p xs)⟩]) (retFn Try.prog Try.f44 (s_idxFP_r l p)) :=
  @Eq.mpr _ ((∃ (g : Nat), (0 : Int) = (↑g : Int) ∧ g ≤ l.n ∧ ∀ (j : Nat), j < g → L.fbl p [SV.agg [SV.int .i64 (l.g j).x, SV.int .i64 (l.g j).y]] = false) ∧ ∀ (g : Nat), (g ≤ l.n ∧ ∀ (j : Nat), j < g → L.fbl p [SV.agg [SV.int .i64 (l.g j).x, SV.int .i64 (l.g j).y]] = false) → (decide ((↑g : Int) < (↑l.n : Int)) =
 true → ((0 : Int) ≤ (↑g : Int) ∧ (↑g : Int) < (↑l.n : Int)) ∧ p.1 [SV.agg [SV.int .i64 (l.g (Int.toNat (↑g : Int))).x, SV.int .i64 (l.g (Int.toNat (↑g : Int))).y]] ∧ (L.fbl p [SV.agg [SV.int .i64 (l.g (Int.toNat (↑g : Int))).x, SV.int .i64 (l.g (Int.toNat (↑g : Int))).y]] = true → (↑g : Int) = L.idx l.n fun (i :
 Nat) ↦ L.fbl p [SV.agg [SV.int .i64 (l.g i).x, SV.int .i64 (l.g i).y]]) ∧ (L.fbl p [SV.agg [SV.int .i64 (l.g (Int.toNat (↑g : Int))).x, SV.int .i64 (l.g (Int.toNat (↑g : Int))).y]] = false → InK .i64 ((↑g : Int) + (1 : Int)) ∧ ∃ (g' : Nat), (↑g : Int) + (1 : Int) = (↑g' : Int) ∧ (↑l.n : Int) = (↑l.n :
 Int) ∧ (l.n = l.n ∧ ∀ (i : Nat), i < l.n → [SV.int .i64 (l.g i).x, SV.int .i64 (l.g i).y] = [SV.int .i64 (l.g i).x, SV.int .i64 (l.g i).y]) ∧ (l.n = l.n ∧ ∀ (i : Nat), i < l.n → [SV.int .i64 (l.g i).x, SV.int .i64 (l.g i).y] = [SV.int .i64 (l.g i).x, SV.int .i64 (l.g
 i).y]) ∧ ((FSpec.mk p.pre fun (xs : List SV) ↦ SV.bool (L.fbl p xs)) = FSpec.mk p.pre fun (xs : List SV) ↦ SV.bool (L.fbl p xs)) ∧ (g' ≤ l.n ∧ ∀ (j : Nat), j < g' → L.fbl p [SV.agg [SV.int .i64 (l.g j).x, SV.int .i64 (l.g j).y]] = false) ∧ l.n - g' < l.n - g)) ∧ (decide ((↑g : Int) < (↑l.n : Int)) = false
 → (-1 : Int) = L.idx l.n fun (i : Nat) ↦ L.fbl p [SV.agg [SV.int .i64 (l.g i).x, SV.int .i64 (l.g i).y]])) (by kernel_rfl) (by
    obtain ⟨hn, hpre⟩ := hp
    refine ⟨⟨(0 : Nat), rfl, Nat.zero_le _, fun j hj => by omega⟩, fun g hg => ⟨fun hlt => ?_, fun hge => ?_⟩⟩
    · have hb : (g : Int) < (l.n : Int) := by simpa using hlt
      have e0 : ((g : Int)).toNat = g := by omega
      rw [e0]
      refine ⟨by omega, hpre g (by omega), fun h => ?_, fun h => ?_⟩
      · exact (idx_at hg.2 h (by omega)).symm
      · exact ⟨InK.of (by omega) (by omega), g + 1, by omega, rfl, ⟨rfl, fun _ _ => rfl⟩, ⟨rfl, fun _ _ => rfl⟩, rfl, ⟨by omega, fun j hj => by
          rcases Nat.lt_succ_iff_lt_or_eq.1 hj with h' | rfl
          · exact hg.2 j h'
          · exact h⟩, by omega⟩
    · have hb : ¬ (g : Int) < (l.n : Int) := by simpa using hge
      exact (idx_none (fun j hj => hg.2 j (by omega))).symm)
theorem s_idxFP_ok : SpecOk Try.prog 44 s_idxFP_S := fnX Try.func44 (c := bodyOf Try.f44) (by kernel_rfl) mixed (fun args p r hs hp => by
  unfold s_idxFP_s at hs
  split at hs
  · cases hs; exact ⟨_, _, s_idxFP_vc _ _ hp.2.2, (.p (.sl hp.1) (.fn (fun xs h => ⟨h, (fbl_res hp.2.1 h).symm⟩) .nil)), ⟨show SpecsL Try.prog _ from SpecsL.nil, rfl, ⟨show ItersL Try.prog _ from ItersL.nil, (TrsOk.none (fun _ => rfl))⟩⟩⟩
  · cases hs)
theorem s_idxFP_en : Enters Try.prog 44 := fun args w => by kernel_rfl
def s_conFP_p (l : (L.Sq L.Pt)) (p : FSpec) : Prop := l.n ≤ 1000000 ∧ ∀ i, i < l.n → p.pre [(.agg [.int .i64 ((l.g i).x), .int .i64 ((l.g i).y)])]
def s_conFP_r (l : (L.Sq L.Pt)) (p : FSpec) : SV := .bool (L.anyB l.n (fun i => L.fbl p [(.agg [.int .i64 ((l.g i).x), .int .i64 ((l.g i).y)])]))
def s_conFP_s : List EV → Option (Prop × SV)
  | [.p (.sl 2 l_n l_g), .fn p] => some ((∀ i, i < l_n → l_g i = [.int .i64 ((ofPt (l_g i)).x), .int .i64 ((ofPt (l_g i)).y)]) ∧ isB p ∧ s_conFP_p (⟨l_n, fun i => ofPt (l_g i)⟩ : (L.Sq L.Pt)) p, s_conFP_r (⟨l_n, fun i => ofPt (l_g i)⟩ : (L.Sq L.Pt)) p)
  | _ => none
abbrev s_conFP_S : SE.Spec := (specO s_conFP_s)
def s_conFP_C : Cfg := { muts := [], frz := lookN [], specs := lookS [(44, s_idxFP_S)], loops := lookL [], iters := lookI [], rfs := lookR [], nils := lookM [] }
theorem s_conFP_vc (l : (L.Sq L.Pt)) (p : FSpec) (hp : s_conFP_p l p) : vc Try.prog (s_conFP_C) (bodyOf Try.f27) (st0 Try.f27 [.p (.sl 2 l.n (fun i => [.int .i64 ((l.g i).x), .int .i64 ((l.g i).y)])), .fn ⟨p.pre, fun xs => .bool (L.fbl p xs)⟩]) (retFn Try.prog Try.f27 (s_conFP_r l p)) :=
  @Eq.mpr _ (((∀ (i : Nat), i < l.n → [SV.int .i64 (l.g i).x, SV.int .i64 (l.g i).y] = [SV.int .i64 (l.g i).x, SV.int .i64 (l.g i).y]) ∧ isB (FSpec.mk p.pre fun (xs : List SV) ↦ SV.bool (L.fbl p xs)) ∧ l.n ≤ (1000000 : Nat) ∧ ∀ (i : Nat), i < l.n → p.1 [SV.agg [SV.int .i64 (l.g i).x, SV.int
 .i64 (l.g i).y]]) ∧ decide ((0 : Int) ≤ L.idx l.n fun (i : Nat) ↦ L.fbl (FSpec.mk p.pre fun (xs : List SV) ↦ SV.bool (L.fbl p xs)) [SV.agg [SV.int .i64 (l.g i).x, SV.int .i64 (l.g i).y]]) = L.anyB l.n fun (i : Nat) ↦ L.fbl p [SV.agg [SV.int .i64 (l.g i).x, SV.int .i64 (l.g i).y]]) (by kernel_rfl) (by
    refine ⟨⟨fun _ _ => rfl, fun xs _ => ⟨_, rfl⟩, hp⟩, idx_any⟩)
theorem s_conFP_ok : SpecOk Try.prog 27 s_conFP_S := fnX Try.func27 (c := bodyOf Try.f27) (by kernel_rfl) mixed (fun args p r hs hp => by
  unfold s_conFP_s at hs
  split at hs
  · cases hs; exact ⟨_, _, s_conFP_vc _ _ hp.2.2, (.p (.sl hp.1) (.fn (fun xs h => ⟨h, (fbl_res hp.2.1 h).symm⟩) .nil)), ⟨show SpecsL Try.prog _ from (SpecsL.cons s_idxFP_ok s_idxFP_en SpecsL.nil), rfl, ⟨show ItersL Try.prog _ from ItersL.nil, (TrsOk.none (fun _ => rfl))⟩⟩⟩
  · cases hs)
theorem s_conFP_en : Enters Try.prog 27 := fun args w => by kernel_rfl
end Go.Proofs.Ytinfalehnaejbaa

namespace Go.Proofs.Ytinfalehnaejbaa
open Go.SE Go.RowKit
set_option maxRecDepth 100000
set_option maxHeartbeats 4000000
set_option linter.unusedVariables false
attribute [local irreducible] vc

def L.cross (a b c : L.Pt) : Int := (b.x - a.x) * (c.y - a.y) - (b.y - a.y) * (c.x - a.x)
def L.bd (p : L.Pt) : Prop := -4000000 ≤ p.x ∧ p.x ≤ 4000000 ∧ -4000000 ≤ p.y ∧ p.y ≤ 4000000
def L.validPt (p : L.Pt) : Bool := L.within p.x 0 4096 && L.within p.y 0 4096
theorem validPt_bd {p : L.Pt} (h : L.validPt p = true) : L.bd p := by
  simp only [L.validPt, L.within, Bool.and_eq_true, decide_eq_true_eq] at h
  unfold L.bd; omega
def L.cmpPt (a b : L.Pt) : Int := L.or2 (L.cmp a.x b.x) (L.cmp a.y b.y)
def L.on (a b p : L.Pt) : Bool := decide (L.cross a b p = 0) && L.within p.x (min a.x b.x) (max a.x b.x) && L.within p.y (min a.y b.y) (max a.y b.y)
def L.apart (a b c d : L.Pt) : Bool := decide (L.cmp (L.cross a b c) 0 * L.cmp (L.cross a b d) 0 < 0)
theorem not_anyB {f : Nat → Bool} : ∀ {n : Nat}, (!L.anyB n f) = L.allB n (fun i => !f i)
  | 0 => rfl
  | n + 1 => by simp [L.anyB, L.allB, ← not_anyB (n := n)]
theorem cmp_bd (a b : Int) : -1 ≤ L.cmp a b ∧ L.cmp a b ≤ 1 := by
  unfold L.cmp
  by_cases h : a < b <;> by_cases k : b < a <;> simp [h, k]
def p_cross_p (a : L.Pt) (b : L.Pt) (c : L.Pt) : Prop := L.bd a ∧ L.bd b ∧ L.bd c
def p_cross_r (a : L.Pt) (b : L.Pt) (c : L.Pt) : SV := .int .i64 (L.cross a b c)
def p_cross_s : List EV → Option (Prop × SV)
  | [.p (.agg [.int .i64 a_x, .int .i64 a_y]), .p (.agg [.int .i64 b_x, .int .i64 b_y]), .p (.agg [.int .i64 c_x, .int .i64 c_y])] => some (p_cross_p (⟨a_x, a_y⟩ : L.Pt) (⟨b_x, b_y⟩ : L.Pt) (⟨c_x, c_y⟩ : L.Pt), p_cross_r (⟨a_x, a_y⟩ : L.Pt) (⟨b_x, b_y⟩ : L.Pt) (⟨c_x, c_y⟩ : L.Pt))
  | _ => none
abbrev p_cross_S : SE.Spec := (specO p_cross_s)
def p_cross_C : Cfg := { muts := [], frz := lookN [], specs := lookS [], loops := lookL [], iters := lookI [], rfs := lookR [], nils := lookM [] }
theorem p_cross_vc (a : L.Pt) (b : L.Pt) (c : L.Pt) (hp : p_cross_p a b c) : vc Try.prog (p_cross_C) (bodyOf Try.f24) (st0 Try.f24 [.p (.agg [.int .i64 a.x, .int .i64 a.y]), .p (.agg [.int .i64 b.x, .int .i64 b.y]), .p (.agg [.int .i64 c.x, .int .i64 c.y])]) (retFn Try.prog Try.f24 (p_cross_r a b c)) :=
  @Eq.mpr _ (InK .i64 (b.x - a.x) ∧ InK .i64 (c.y - a.y) ∧ InK .i64 ((b.x - a.x) * (c.y - a.y)) ∧ InK .i64 (b.y - a.y) ∧ InK .i64 (c.x - a.x) ∧ InK .i64 ((b.y - a.y) * (c.x - a.x)) ∧ InK .i64 ((b.x - a.x) * (c.y - a.y) - (b.y - a.y) * (c.x - a.x)) ∧ (b.x - a.x) * (c.y - a.y) - (b.y - a.y) * (c.x -
 a.x) = L.cross a b c) (by kernel_rfl) (by
    obtain ⟨h1, h2, h3⟩ := hp
    unfold L.bd at h1 h2 h3
    have m1 := mul_bd (a := b.x - a.x) (b := c.y - a.y) (m := 8000000) (n := 8000000) (by omega) (by omega) (by omega) (by omega)
    have m2 := mul_bd (a := b.y - a.y) (b := c.x - a.x) (m := 8000000) (n := 8000000) (by omega) (by omega) (by omega) (by omega)
    exact ⟨InK.of (by omega) (by omega), InK.of (by omega) (by omega), InK.of (by omega) (by omega), InK.of (by omega) (by omega), InK.of (by omega) (by omega), InK.of (by omega) (by omega), InK.of (by omega) (by omega), rfl⟩)
theorem p_cross_ok : SpecOk Try.prog 24 p_cross_S := fnX Try.func24 (c := bodyOf Try.f24) (by kernel_rfl) mixed (fun args p r hs hp => by
  unfold p_cross_s at hs
  split at hs
  · cases hs; exact ⟨_, _, p_cross_vc _ _ _ hp, (.same _ (.same _ (.same _ .nil))), ⟨show SpecsL Try.prog _ from SpecsL.nil, rfl, ⟨show ItersL Try.prog _ from ItersL.nil, (TrsOk.none (fun _ => rfl))⟩⟩⟩
  · cases hs)
theorem p_cross_en : Enters Try.prog 24 := fun args w => by kernel_rfl
def p_validPoint_p (p : L.Pt) : Prop := True
def p_validPoint_r (p : L.Pt) : SV := .bool (L.validPt p)
def p_validPoint_s : List EV → Option (Prop × SV)
  | [.p (.agg [.int .i64 p_x, .int .i64 p_y])] => some (p_validPoint_p (⟨p_x, p_y⟩ : L.Pt), p_validPoint_r (⟨p_x, p_y⟩ : L.Pt))
  | _ => none
abbrev p_validPoint_S : SE.Spec := (specO p_validPoint_s)
def p_validPoint_C : Cfg := { muts := [], frz := lookN [], specs := lookS [(26, p_within_S)], loops := lookL [], iters := lookI [], rfs := lookR [], nils := lookM [] }
theorem p_validPoint_vc (p : L.Pt) (hp : p_validPoint_p p) : vc Try.prog (p_validPoint_C) (bodyOf Try.f16) (st0 Try.f16 [.p (.agg [.int .i64 p.x, .int .i64 p.y])]) (retFn Try.prog Try.f16 (p_validPoint_r p)) :=
  @Eq.mpr _ (True ∧ (L.within p.x (0 : Int) (4096 : Int) = true → True) ∧ (bif L.within p.x (0 : Int) (4096 : Int) then L.within p.y (0 : Int) (4096 : Int) else false) = L.validPt p) (by kernel_rfl) (by
    refine ⟨trivial, fun _ => trivial, ?_⟩
    unfold L.validPt
    cases L.within p.x 0 4096 <;> rfl)
theorem p_validPoint_ok : SpecOk Try.prog 16 p_validPoint_S := fnX Try.func16 (c := bodyOf Try.f16) (by kernel_rfl) mixed (fun args p r hs hp => by
  unfold p_validPoint_s at hs
  split at hs
  · cases hs; exact ⟨_, _, p_validPoint_vc _ hp, (.same _ .nil), ⟨show SpecsL Try.prog _ from (SpecsL.cons p_within_ok p_within_en SpecsL.nil), rfl, ⟨show ItersL Try.prog _ from ItersL.nil, (TrsOk.none (fun _ => rfl))⟩⟩⟩
  · cases hs)
theorem p_validPoint_en : Enters Try.prog 16 := fun args w => by kernel_rfl
def p_valid1_p (p : L.Pt) : Prop := True
def p_valid1_r (p : L.Pt) : SV := .bool (!L.validPt p)
def p_valid1_s : List EV → Option (Prop × SV)
  | [.p (.agg [.int .i64 p_x, .int .i64 p_y])] => some (p_valid1_p (⟨p_x, p_y⟩ : L.Pt), p_valid1_r (⟨p_x, p_y⟩ : L.Pt))
  | _ => none
abbrev p_valid1_S : SE.Spec := (specO p_valid1_s)
def p_valid1_C : Cfg := { muts := [], frz := lookN [], specs := lookS [(16, p_validPoint_S)], loops := lookL [], iters := lookI [], rfs := lookR [], nils := lookM [] }
theorem p_valid1_vc (p : L.Pt) (hp : p_valid1_p p) : vc Try.prog (p_valid1_C) (bodyOf Try.f43) (st0 Try.f43 [.p (.agg [.int .i64 p.x, .int .i64 p.y])]) (retFn Try.prog Try.f43 (p_valid1_r p)) :=
  @Eq.mpr _ (True ∧ (!L.validPt p) = !L.validPt p) (by kernel_rfl) (by
    exact ⟨trivial, rfl⟩)
theorem p_valid1_ok : SpecOk Try.prog 43 p_valid1_S := fnX Try.func43 (c := bodyOf Try.f43) (by kernel_rfl) mixed (fun args p r hs hp => by
  unfold p_valid1_s at hs
  split at hs
  · cases hs; exact ⟨_, _, p_valid1_vc _ hp, (.same _ .nil), ⟨show SpecsL Try.prog _ from (SpecsL.cons p_validPoint_ok p_validPoint_en SpecsL.nil), rfl, ⟨show ItersL Try.prog _ from ItersL.nil, (TrsOk.none (fun _ => rfl))⟩⟩⟩
  · cases hs)
theorem p_valid1_en : Enters Try.prog 43 := fun args w => by kernel_rfl
theorem p_valid1_B : ∀ args p r, p_valid1_s args = some (p, r) → ∃ b, r = .bool b := by
  intro args p r h
  unfold p_valid1_s at h
  split at h
  · cases h; exact ⟨_, rfl⟩
  · cases h
def p_valid_p (l : (L.Sq L.Pt)) : Prop := l.n ≤ 1000000
def p_valid_r (l : (L.Sq L.Pt)) : SV := .bool (L.allB l.n (fun i => L.validPt (l.g i)))
def p_valid_s : List EV → Option (Prop × SV)
  | [.p (.sl 2 l_n l_g)] => some ((∀ i, i < l_n → l_g i = [.int .i64 ((ofPt (l_g i)).x), .int .i64 ((ofPt (l_g i)).y)]) ∧ p_valid_p (⟨l_n, fun i => ofPt (l_g i)⟩ : (L.Sq L.Pt)), p_valid_r (⟨l_n, fun i => ofPt (l_g i)⟩ : (L.Sq L.Pt)))
  | _ => none
abbrev p_valid_S : SE.Spec := (specO p_valid_s)
def p_valid_C : Cfg := { muts := [], frz := lookN [], specs := lookS [(27, s_conFP_S), (43, p_valid1_S)], loops := lookL [], iters := lookI [], rfs := lookR [], nils := lookM [] }
theorem p_valid_vc (l : (L.Sq L.Pt)) (hp : p_valid_p l) : vc Try.prog (p_valid_C) (bodyOf Try.f23) (st0 Try.f23 [.p (.sl 2 l.n (fun i => [.int .i64 ((l.g i).x), .int .i64 ((l.g i).y)]))]) (retFn Try.prog Try.f23 (p_valid_r l)) :=
  @Eq.mpr _ (((∀ (i : Nat), i < l.n → [SV.int .i64 (l.g i).x, SV.int .i64 (l.g i).y] = [SV.int .i64 (l.g i).x, SV.int .i64 (l.g i).y]) ∧ isB (FSpec.mk (fun («as» : List SV) ↦ preO p_valid1_s (List.map EV.p «as» ++ List.map EV.p [])) fun («as» : List SV) ↦ resO p_valid1_s (List.map EV.p «as» ++
 List.map EV.p [])) ∧ l.n ≤ (1000000 : Nat) ∧ ∀ (i : Nat), i < l.n → True) ∧ (!L.anyB l.n fun (i : Nat) ↦ L.fbl (FSpec.mk (fun («as» : List SV) ↦ preO p_valid1_s (List.map EV.p «as» ++ List.map EV.p [])) fun («as» : List SV) ↦ resO p_valid1_s (List.map EV.p «as» ++ List.map EV.p [])) [SV.agg [SV.int .i64 (l.g i).x,
 SV.int .i64 (l.g i).y]]) = L.allB l.n fun (i : Nat) ↦ L.validPt (l.g i)) (by kernel_rfl) (by
    refine ⟨⟨fun _ _ => rfl, isB_of p_valid1_B _, hp, fun _ _ => trivial⟩, ?_⟩
    rw [not_anyB]
    exact congrArg (L.allB l.n) (funext fun i => Bool.not_not (L.validPt (l.g i))))
theorem p_valid_ok : SpecOk Try.prog 23 p_valid_S := fnX Try.func23 (c := bodyOf Try.f23) (by kernel_rfl) mixed (fun args p r hs hp => by
  unfold p_valid_s at hs
  split at hs
  · cases hs; exact ⟨_, _, p_valid_vc _ hp.2, (.p (.sl hp.1) .nil), ⟨show SpecsL Try.prog _ from (SpecsL.cons s_conFP_ok s_conFP_en (SpecsL.cons p_valid1_ok p_valid1_en SpecsL.nil)), rfl, ⟨show ItersL Try.prog _ from ItersL.nil, (TrsOk.none (fun _ => rfl))⟩⟩⟩
  · cases hs)
theorem p_valid_en : Enters Try.prog 23 := fun args w => by kernel_rfl
def p_compare_p (a : L.Pt) (b : L.Pt) : Prop := True
def p_compare_r (a : L.Pt) (b : L.Pt) : SV := .int .i64 (L.cmpPt a b)
def p_compare_s : List EV → Option (Prop × SV)
  | [.p (.agg [.int .i64 a_x, .int .i64 a_y]), .p (.agg [.int .i64 b_x, .int .i64 b_y])] => some (p_compare_p (⟨a_x, a_y⟩ : L.Pt) (⟨b_x, b_y⟩ : L.Pt), p_compare_r (⟨a_x, a_y⟩ : L.Pt) (⟨b_x, b_y⟩ : L.Pt))
  | _ => none
abbrev p_compare_S : SE.Spec := (specO p_compare_s)
def p_compare_C : Cfg := { muts := [], frz := lookN [], specs := lookS [(22, c_cmp_S), (47, c_or_S)], loops := lookL [], iters := lookI [], rfs := lookR [], nils := lookM [] }
theorem p_compare_vc (a : L.Pt) (b : L.Pt) (hp : p_compare_p a b) : vc Try.prog (p_compare_C) (bodyOf Try.f31) (st0 Try.f31 [.p (.agg [.int .i64 a.x, .int .i64 a.y]), .p (.agg [.int .i64 b.x, .int .i64 b.y])]) (retFn Try.prog Try.f31 (p_compare_r a b)) :=
  @Eq.mpr _ (True ∧ True ∧ ((∀ (i : Nat), i < nat_lit 2 → rowsOf [SV.int .i64 (L.cmp a.x b.x), SV.int .i64 (L.cmp a.y b.y)] (nat_lit 1) i = [SV.int .i64 (intOf (rowsOf [SV.int .i64 (L.cmp a.x b.x), SV.int .i64 (L.cmp a.y b.y)] (nat_lit 1) i))]) ∧ nat_lit 2 ≤ (1000000 : Nat)) ∧ L.firstNZ (fun (i : Nat) ↦ intOf
 (rowsOf [SV.int .i64 (L.cmp a.x b.x), SV.int .i64 (L.cmp a.y b.y)] (nat_lit 1) i)) (2 : Nat) = L.cmpPt a b) (by kernel_rfl) (by
    exact ⟨trivial, trivial, ⟨fun i hi => by match i, hi with | 0, _ => rfl | 1, _ => rfl, by decide⟩, rfl⟩)
theorem p_compare_ok : SpecOk Try.prog 31 p_compare_S := fnX Try.func31 (c := bodyOf Try.f31) (by kernel_rfl) mixed (fun args p r hs hp => by
  unfold p_compare_s at hs
  split at hs
  · cases hs; exact ⟨_, _, p_compare_vc _ _ hp, (.same _ (.same _ .nil)), ⟨show SpecsL Try.prog _ from (SpecsL.cons c_cmp_ok c_cmp_en (SpecsL.cons c_or_ok c_or_en SpecsL.nil)), rfl, ⟨show ItersL Try.prog _ from ItersL.nil, (TrsOk.none (fun _ => rfl))⟩⟩⟩
  · cases hs)
theorem p_compare_en : Enters Try.prog 31 := fun args w => by kernel_rfl
def p_on_p (a : L.Pt) (b : L.Pt) (p : L.Pt) : Prop := L.bd a ∧ L.bd b ∧ L.bd p
def p_on_r (a : L.Pt) (b : L.Pt) (p : L.Pt) : SV := .bool (L.on a b p)
def p_on_s : List EV → Option (Prop × SV)
  | [.p (.agg [.int .i64 a_x, .int .i64 a_y]), .p (.agg [.int .i64 b_x, .int .i64 b_y]), .p (.agg [.int .i64 p_x, .int .i64 p_y])] => some (p_on_p (⟨a_x, a_y⟩ : L.Pt) (⟨b_x, b_y⟩ : L.Pt) (⟨p_x, p_y⟩ : L.Pt), p_on_r (⟨a_x, a_y⟩ : L.Pt) (⟨b_x, b_y⟩ : L.Pt) (⟨p_x, p_y⟩ : L.Pt))
  | _ => none
abbrev p_on_S : SE.Spec := (specO p_on_s)
def p_on_C : Cfg := { muts := [], frz := lookN [], specs := lookS [(24, p_cross_S), (26, p_within_S)], loops := lookL [], iters := lookI [], rfs := lookR [], nils := lookM [] }
theorem p_on_vc (a : L.Pt) (b : L.Pt) (p : L.Pt) (hp : p_on_p a b p) : vc Try.prog (p_on_C) (bodyOf Try.f34) (st0 Try.f34 [.p (.agg [.int .i64 a.x, .int .i64 a.y]), .p (.agg [.int .i64 b.x, .int .i64 b.y]), .p (.agg [.int .i64 p.x, .int .i64 p.y])]) (retFn Try.prog Try.f34 (p_on_r a b p)) :=
  @Eq.mpr _ ((L.bd a ∧ L.bd b ∧ L.bd p) ∧ (decide (L.cross a b p = (0 : Int)) = true → True) ∧ ((bif decide (L.cross a b p = (0 : Int)) then L.within p.x (Min.min a.x b.x) (Max.max a.x b.x) else false) = true → True) ∧ (bif bif decide (L.cross a b p = (0 : Int)) then L.within p.x (Min.min a.x b.x) (Max.max a.x b.x) else false then L.within p.y (Min.min a.y b.y)
 (Max.max a.y b.y) else false) = L.on a b p) (by kernel_rfl) (by
    refine ⟨hp, fun _ => trivial, fun _ => trivial, ?_⟩
    unfold L.on
    cases decide (L.cross a b p = 0) <;> cases L.within p.x (min a.x b.x) (max a.x b.x) <;> rfl)
theorem p_on_ok : SpecOk Try.prog 34 p_on_S := fnX Try.func34 (c := bodyOf Try.f34) (by kernel_rfl) mixed (fun args p r hs hp => by
  unfold p_on_s at hs
  split at hs
  · cases hs; exact ⟨_, _, p_on_vc _ _ _ hp, (.same _ (.same _ (.same _ .nil))), ⟨show SpecsL Try.prog _ from (SpecsL.cons p_cross_ok p_cross_en (SpecsL.cons p_within_ok p_within_en SpecsL.nil)), rfl, ⟨show ItersL Try.prog _ from ItersL.nil, (TrsOk.none (fun _ => rfl))⟩⟩⟩
  · cases hs)
theorem p_on_en : Enters Try.prog 34 := fun args w => by kernel_rfl
def p_meet1_p (a : L.Pt) (b : L.Pt) (c : L.Pt) (d : L.Pt) : Prop := L.bd a ∧ L.bd b ∧ L.bd c ∧ L.bd d
def p_meet1_r (a : L.Pt) (b : L.Pt) (c : L.Pt) (d : L.Pt) : SV := .bool (L.apart a b c d)
def p_meet1_s : List EV → Option (Prop × SV)
  | [.p (.agg [.int .i64 a_x, .int .i64 a_y]), .p (.agg [.int .i64 b_x, .int .i64 b_y]), .p (.agg [.int .i64 c_x, .int .i64 c_y]), .p (.agg [.int .i64 d_x, .int .i64 d_y])] => some (p_meet1_p (⟨a_x, a_y⟩ : L.Pt) (⟨b_x, b_y⟩ : L.Pt) (⟨c_x, c_y⟩ : L.Pt) (⟨d_x, d_y⟩ : L.Pt), p_meet1_r (⟨a_x, a_y⟩ : L.Pt) (⟨b_x, b_y⟩ : L.Pt) (⟨c_x, c_y⟩ : L.Pt) (⟨d_x, d_y⟩ : L.Pt))
  | _ => none
abbrev p_meet1_S : SE.Spec := (specO p_meet1_s)
def p_meet1_C : Cfg := { muts := [], frz := lookN [], specs := lookS [(24, p_cross_S), (22, c_cmp_S)], loops := lookL [], iters := lookI [], rfs := lookR [], nils := lookM [] }
theorem p_meet1_vc (a : L.Pt) (b : L.Pt) (c : L.Pt) (d : L.Pt) (hp : p_meet1_p a b c d) : vc Try.prog (p_meet1_C) (bodyOf Try.f64) (st0 Try.f64 [.p (.agg [.int .i64 a.x, .int .i64 a.y]), .p (.agg [.int .i64 b.x, .int .i64 b.y]), .p (.agg [.int .i64 c.x, .int .i64 c.y]), .p (.agg [.int .i64 d.x, .int .i64 d.y])]) (retFn Try.prog Try.f64 (p_meet1_r a b c d)) :=
  @Eq.mpr _ ((L.bd a ∧ L.bd b ∧ L.bd c) ∧ True ∧ (L.bd a ∧ L.bd b ∧ L.bd d) ∧ True ∧ InK .i64 (L.cmp (L.cross a b c) (0 : Int) * L.cmp (L.cross a b d) (0 : Int)) ∧ decide (L.cmp (L.cross a b c) (0 : Int) * L.cmp (L.cross a b d) (0 : Int) < (0 : Int)) = L.apart a b c d) (by kernel_rfl) (by
    obtain ⟨h1, h2, h3, h4⟩ := hp
    have c1 := cmp_bd (L.cross a b c) 0
    have c2 := cmp_bd (L.cross a b d) 0
    have m := mul_bd (m := 1) (n := 1) (by omega) c1.2 (by omega) c2.2
    exact ⟨⟨h1, h2, h3⟩, trivial, ⟨h1, h2, h4⟩, trivial, InK.of (by omega) (by omega), rfl⟩)
theorem p_meet1_ok : SpecOk Try.prog 64 p_meet1_S := fnX Try.func64 (c := bodyOf Try.f64) (by kernel_rfl) mixed (fun args p r hs hp => by
  unfold p_meet1_s at hs
  split at hs
  · cases hs; exact ⟨_, _, p_meet1_vc _ _ _ _ hp, (.same _ (.same _ (.same _ (.same _ .nil)))), ⟨show SpecsL Try.prog _ from (SpecsL.cons p_cross_ok p_cross_en (SpecsL.cons c_cmp_ok c_cmp_en SpecsL.nil)), rfl, ⟨show ItersL Try.prog _ from ItersL.nil, (TrsOk.none (fun _ => rfl))⟩⟩⟩
  · cases hs)
theorem p_meet1_en : Enters Try.prog 64 := fun args w => by kernel_rfl
end Go.Proofs.Ytinfalehnaejbaa

namespace Go.Proofs.Ytinfalehnaejbaa
open Go.SE Go.RowKit
set_option maxRecDepth 100000
set_option maxHeartbeats 4000000
set_option linter.unusedVariables false
attribute [local irreducible] vc

def L.same (p q : L.Pt) : Bool := decide (p.x = q.x) && decide (p.y = q.y)
def L.has (ks : L.Sq L.Pt) (p : L.Pt) : Bool := L.anyB ks.n (fun i => L.same p (ks.g i))
def L.put (ks : L.Sq L.Pt) (p : L.Pt) : L.Sq L.Pt := bif L.has ks p then ks else ⟨ks.n + 1, fun i => if i < ks.n then ks.g i else p⟩
def L.putIf (c : Bool) (ks : L.Sq L.Pt) (p : L.Pt) : L.Sq L.Pt := bif c then L.put ks p else ks
def L.no : L.Sq L.Pt := ⟨0, fun _ => ⟨0, 0⟩⟩
def L.pick (a b : L.Pt) (i : Nat) : L.Pt := bif decide (i = 0) then a else b
def L.k1 (a b c d : L.Pt) : Nat → L.Sq L.Pt
  | 0 => L.no
  | n + 1 => L.putIf (L.on c d (L.pick a b n)) (L.k1 a b c d n) (L.pick a b n)
def L.k2 (a b c d : L.Pt) : Nat → L.Sq L.Pt
  | 0 => L.k1 a b c d 2
  | n + 1 => L.putIf (L.on a b (L.pick c d n)) (L.k2 a b c d n) (L.pick c d n)
def L.meet (a b c d : L.Pt) : Int := bif decide (1 < ((L.k2 a b c d 2).n : Int)) then 3 else bif decide (((L.k2 a b c d 2).n : Int) = 1) then 1 else bif (bif L.apart a b c d then L.apart c d a b else false) then 2 else 0
def L.cell (ks : L.Sq L.Pt) : Nat → List SV := fun i => [.int .i64 (ks.g i).x, .int .i64 (ks.g i).y]
theorem pick_bd {a b : L.Pt} (ha : L.bd a) (hb : L.bd b) (i : Nat) : L.bd (L.pick a b i) := by
  unfold L.pick; cases decide (i = 0) <;> assumption
theorem put_has {ks : L.Sq L.Pt} {p : L.Pt} (h : ∃ i, i < ks.n ∧ (decide (p.x = (ks.g i).x) && decide (p.y = (ks.g i).y)) = true) : L.put ks p = ks := by
  have : L.has ks p = true := anyB_iff.2 h
  simp [L.put, this]
theorem put_new {ks : L.Sq L.Pt} {p : L.Pt} (h : ∀ i, i < ks.n → (decide (p.x = (ks.g i).x) && decide (p.y = (ks.g i).y)) = false) :
    ks.n + 1 = (L.put ks p).n ∧ ∀ i, i < ks.n + 1 → appGet ks.n (L.cell ks) (fun _ => [.int .i64 p.x, .int .i64 p.y]) i = L.cell (L.put ks p) i := by
  have hn : L.has ks p = false := by
    cases hb : L.has ks p with
    | false => rfl
    | true =>
      obtain ⟨i, hi, hq⟩ := anyB_iff.1 hb
      rw [show L.same p (ks.g i) = false from h i hi] at hq
      cases hq
  simp only [L.put, hn, cond_false, true_and]
  intro i hi
  unfold appGet L.cell
  by_cases hlt : i < ks.n <;> simp [hlt]
theorem putIf_step {ks : L.Sq L.Pt} {p : L.Pt} : (L.putIf false ks p = ks) ∧ L.putIf true ks p = L.put ks p := ⟨rfl, rfl⟩
def p_meet_p (a : L.Pt) (b : L.Pt) (c : L.Pt) (d : L.Pt) : Prop := L.bd a ∧ L.bd b ∧ L.bd c ∧ L.bd d
def p_meet_r (a : L.Pt) (b : L.Pt) (c : L.Pt) (d : L.Pt) : SV := .int .i64 (L.meet a b c d)
def p_meet_s : List EV → Option (Prop × SV)
  | [.p (.agg [.int .i64 a_x, .int .i64 a_y]), .p (.agg [.int .i64 b_x, .int .i64 b_y]), .p (.agg [.int .i64 c_x, .int .i64 c_y]), .p (.agg [.int .i64 d_x, .int .i64 d_y])] => some (p_meet_p (⟨a_x, a_y⟩ : L.Pt) (⟨b_x, b_y⟩ : L.Pt) (⟨c_x, c_y⟩ : L.Pt) (⟨d_x, d_y⟩ : L.Pt), p_meet_r (⟨a_x, a_y⟩ : L.Pt) (⟨b_x, b_y⟩ : L.Pt) (⟨c_x, c_y⟩ : L.Pt) (⟨d_x, d_y⟩ : L.Pt))
  | _ => none
abbrev p_meet_S : SE.Spec := (specO p_meet_s)
def p_meet_C : Cfg := { muts := [], frz := lookN [], specs := lookS [(34, p_on_S), (64, p_meet1_S)], loops := fun _ => none, iters := lookI [], rfs := lookR [], nils := lookM [] }
theorem p_meet_vc (a : L.Pt) (b : L.Pt) (c : L.Pt) (d : L.Pt) (hp : p_meet_p a b c d) : vc Try.prog ({ p_meet_C with loops := lookL [(3, { T := Nat, keep := [4, 5, 6, 7, 8, 9, 20], keepO := [], chg := fun i => [(21, .p (.int .i64 (i : Int))), (19, .p (.sl 2 2 (fun i => [.int .i64 ((L.pick a b i).x), .int .i64 ((L.pick a b i).y)])))], own := fun i => [(16, .mp 30 (L.k1 a b c d i).n (L.cell (L.k1 a b c d i)))], inv := fun i => i ≤ 2, mu := fun i => 2 - i }), (9, { T := Nat, keep := [4, 5, 6, 7, 8, 9, 35], keepO := [], chg := fun i => [(36, .p (.int .i64 (i : Int))), (34, .p (.sl 2 2 (fun i => [.int .i64 ((L.pick c d i).x), .int .i64 ((L.pick c d i).y)])))], own := fun i => [(16, .mp 30 (L.k2 a b c d i).n (L.cell (L.k2 a b c d i)))], inv := fun i => i ≤ 2, mu := fun i => 2 - i })], rfs := lookR [] }) (bodyOf Try.f48) (st0 Try.f48 [.p (.agg [.int .i64 a.x, .int .i64 a.y]), .p (.agg [.int .i64 b.x, .int .i64 b.y]), .p (.agg [.int .i64 c.x, .int .i64 c.y]), .p (.agg [.int .i64 d.x, .int .i64 d.y])]) (retFn Try.prog Try.f48 (p_meet_r a b c d)) :=
  @Eq.mpr _ ((∃ (g : Nat), (0 : Int) = (↑g : Int) ∧ (nat_lit 2 = (2 : Nat) ∧ ∀ (i : Nat), i < nat_lit 2 → rowsOf [SV.int .i64 a.x, SV.int .i64 a.y, SV.int .i64 b.x, SV.int .i64 b.y] (nat_lit 2) i = [SV.int .i64 (L.pick a b i).x, SV.int .i64 (L.pick a b i).y]) ∧ (nat_lit 0 = (L.k1 a b c d g).n ∧ ∀ (i : Nat), i
 < nat_lit 0 → [] = L.cell (L.k1 a b c d g) i) ∧ g ≤ (2 : Nat)) ∧ ∀ (g : Nat), g ≤ (2 : Nat) → (decide ((↑g : Int) < (↑(nat_lit 2) : Int)) = true → ((0 : Int) ≤ (↑g : Int) ∧ (↑g : Int) < (↑(nat_lit 2) : Int)) ∧ (L.bd c ∧ L.bd d ∧ L.bd (L.pick a b (Int.toNat (↑g : Int)))) ∧ (L.on c d (L.pick a b (Int.toNat (↑g : Int))) = true → (∀ (i : Nat), i < (L.k1 a b c d g).n →
 (decide ((L.pick a b (Int.toNat (↑g : Int))).x = ((L.k1 a b c d g).g i).x) && decide ((L.pick a b (Int.toNat (↑g : Int))).y = ((L.k1 a b c d g).g i).y)) = (decide ((L.pick a b (Int.toNat (↑g : Int))).x = ((L.k1 a b c d g).g i).x) && decide ((L.pick a b (Int.toNat (↑g : Int))).y = ((L.k1 a b c d g).g i).y))) ∧ ((∃ (i : Nat), i < (L.k1 a b c d g).n ∧
 (decide ((L.pick a b (Int.toNat (↑g : Int))).x = ((L.k1 a b c d g).g i).x) && decide ((L.pick a b (Int.toNat (↑g : Int))).y = ((L.k1 a b c d g).g i).y)) = true) → InK .i64 ((↑g : Int) + (1 : Int)) ∧ ∃ (g' : Nat), (↑g : Int) + (1 : Int) = (↑g' : Int) ∧ (nat_lit 2 = (2 : Nat) ∧ ∀ (i : Nat), i < nat_lit 2 → [SV.int .i64 (L.pick a b i).x,
 SV.int .i64 (L.pick a b i).y] = [SV.int .i64 (L.pick a b i).x, SV.int .i64 (L.pick a b i).y]) ∧ (↑(nat_lit 2) : Int) = (↑(nat_lit 2) : Int) ∧ (0 : Int) = (0 : Int) ∧ SV.ref [SV.int .i64 d.x, SV.int .i64 d.y] (nat_lit 0) = SV.ref [SV.int .i64 d.x, SV.int .i64 d.y] (nat_lit 0)
 ∧ SV.ref [SV.int .i64 c.x, SV.int .i64 c.y] (nat_lit 0) = SV.ref [SV.int .i64 c.x, SV.int .i64 c.y] (nat_lit 0) ∧ SV.ref [SV.int .i64 b.x, SV.int .i64 b.y] (nat_lit 0) = SV.ref [SV.int .i64 b.x, SV.int .i64 b.y] (nat_lit 0) ∧ SV.ref
 [SV.int .i64 a.x, SV.int .i64 a.y] (nat_lit 0) = SV.ref [SV.int .i64 a.x, SV.int .i64 a.y] (nat_lit 0) ∧ ((L.k1 a b c d g).n = (L.k1 a b c d g').n ∧ ∀ (i : Nat), i < (L.k1 a b c d g).n → L.cell (L.k1 a b c d g) i = L.cell (L.k1 a b c d g') i) ∧ g' ≤ (2 : Nat) ∧ (2 : Nat) - g' < (2 : Nat) - g) ∧ ((∀ (i : Nat), i < (L.k1 a b c d
 g).n → (decide ((L.pick a b (Int.toNat (↑g : Int))).x = ((L.k1 a b c d g).g i).x) && decide ((L.pick a b (Int.toNat (↑g : Int))).y = ((L.k1 a b c d g).g i).y)) = false) → InK .i64 ((↑g : Int) + (1 : Int)) ∧ ∃ (g' : Nat), (↑g : Int) + (1 : Int) = (↑g' : Int) ∧ (nat_lit 2 = (2 : Nat) ∧ ∀ (i : Nat), i < nat_lit 2 → [SV.int .i64 (L.pick a b
 i).x, SV.int .i64 (L.pick a b i).y] = [SV.int .i64 (L.pick a b i).x, SV.int .i64 (L.pick a b i).y]) ∧ (↑(nat_lit 2) : Int) = (↑(nat_lit 2) : Int) ∧ (0 : Int) = (0 : Int) ∧ SV.ref [SV.int .i64 d.x, SV.int .i64 d.y] (nat_lit 0) = SV.ref [SV.int .i64 d.x, SV.int .i64 d.y]
 (nat_lit 0) ∧ SV.ref [SV.int .i64 c.x, SV.int .i64 c.y] (nat_lit 0) = SV.ref [SV.int .i64 c.x, SV.int .i64 c.y] (nat_lit 0) ∧ SV.ref [SV.int .i64 b.x, SV.int .i64 b.y] (nat_lit 0) = SV.ref [SV.int .i64 b.x, SV.int .i64 b.y] (nat_lit 0) ∧
 SV.ref [SV.int .i64 a.x, SV.int .i64 a.y] (nat_lit 0) = SV.ref [SV.int .i64 a.x, SV.int .i64 a.y] (nat_lit 0) ∧ ((L.k1 a b c d g).n + (1 : Nat) = (L.k1 a b c d g').n ∧ ∀ (i : Nat), i < (L.k1 a b c d g).n + (1 : Nat) → appGet (L.k1 a b c d g).n (L.cell (L.k1 a b c d g)) (fun (x : Nat) ↦ [SV.int .i64
 (L.pick a b (Int.toNat (↑g : Int))).x, SV.int .i64 (L.pick a b (Int.toNat (↑g : Int))).y]) i = L.cell (L.k1 a b c d g') i) ∧ g' ≤ (2 : Nat) ∧ (2 : Nat) - g' < (2 : Nat) - g)) ∧ (L.on c d (L.pick a b (Int.toNat (↑g : Int))) = false → InK .i64 ((↑g : Int) + (1 : Int)) ∧ ∃ (g' : Nat), (↑g : Int) + (1 : Int) = (↑g' : Int) ∧ (nat_lit 2 = (2 : Nat) ∧ ∀ (i : Nat), i <
 nat_lit 2 → [SV.int .i64 (L.pick a b i).x, SV.int .i64 (L.pick a b i).y] = [SV.int .i64 (L.pick a b i).x, SV.int .i64 (L.pick a b i).y]) ∧ (↑(nat_lit 2) : Int) = (↑(nat_lit 2) : Int) ∧ (0 : Int) = (0 : Int) ∧ SV.ref [SV.int .i64 d.x, SV.int .i64 d.y] (nat_lit 0) = SV.ref [SV.int
 .i64 d.x, SV.int .i64 d.y] (nat_lit 0) ∧ SV.ref [SV.int .i64 c.x, SV.int .i64 c.y] (nat_lit 0) = SV.ref [SV.int .i64 c.x, SV.int .i64 c.y] (nat_lit 0) ∧ SV.ref [SV.int .i64 b.x, SV.int .i64 b.y] (nat_lit 0) = SV.ref [SV.int .i64 b.x,
 SV.int .i64 b.y] (nat_lit 0) ∧ SV.ref [SV.int .i64 a.x, SV.int .i64 a.y] (nat_lit 0) = SV.ref [SV.int .i64 a.x, SV.int .i64 a.y] (nat_lit 0) ∧ ((L.k1 a b c d g).n = (L.k1 a b c d g').n ∧ ∀ (i : Nat), i < (L.k1 a b c d g).n → L.cell (L.k1 a b c d g) i = L.cell (L.k1 a b c d g') i) ∧ g' ≤ (2 : Nat) ∧ (2 :
 Nat) - g' < (2 : Nat) - g)) ∧ (decide ((↑g : Int) < (↑(nat_lit 2) : Int)) = false → (∃ (g_1 : Nat), (0 : Int) = (↑g_1 : Int) ∧ (nat_lit 2 = (2 : Nat) ∧ ∀ (i : Nat), i < nat_lit 2 → rowsOf [SV.int .i64 c.x, SV.int .i64 c.y, SV.int .i64 d.x, SV.int .i64 d.y] (nat_lit 2) i = [SV.int .i64 (L.pick c d
 i).x, SV.int .i64 (L.pick c d i).y]) ∧ ((L.k1 a b c d g).n = (L.k2 a b c d g_1).n ∧ ∀ (i : Nat), i < (L.k1 a b c d g).n → L.cell (L.k1 a b c d g) i = L.cell (L.k2 a b c d g_1) i) ∧ g_1 ≤ (2 : Nat)) ∧ ∀ (g_1 : Nat), g_1 ≤ (2 : Nat) → (decide ((↑g_1 : Int) < (↑(nat_lit 2) : Int)) = true → ((0 : Int) ≤ (↑g_1 : Int) ∧ (↑g_1 : Int) < (↑(nat_lit 2) : Int)) ∧ (L.bd a ∧ L.bd
 b ∧ L.bd (L.pick c d (Int.toNat (↑g_1 : Int)))) ∧ (L.on a b (L.pick c d (Int.toNat (↑g_1 : Int))) = true → (∀ (i : Nat), i < (L.k2 a b c d g_1).n → (decide ((L.pick c d (Int.toNat (↑g_1 : Int))).x = ((L.k2 a b c d g_1).g i).x) && decide ((L.pick c d (Int.toNat (↑g_1 : Int))).y = ((L.k2 a b c d g_1).g i).y)) = (decide ((L.pick c d (Int.toNat (↑g_1 : Int))).x =
 ((L.k2 a b c d g_1).g i).x) && decide ((L.pick c d (Int.toNat (↑g_1 : Int))).y = ((L.k2 a b c d g_1).g i).y))) ∧ ((∃ (i : Nat), i < (L.k2 a b c d g_1).n ∧ (decide ((L.pick c d (Int.toNat (↑g_1 : Int))).x = ((L.k2 a b c d g_1).g i).x) && decide ((L.pick c d (Int.toNat (↑g_1 : Int))).y = ((L.k2 a b c d g_1).g i).y)) = true) → InK .i64 ((↑g_1 : Int)
 + (1 : Int)) ∧ ∃ (g' : Nat), (↑g_1 : Int) + (1 : Int) = (↑g' : Int) ∧ (nat_lit 2 = (2 : Nat) ∧ ∀ (i : Nat), i < nat_lit 2 → [SV.int .i64 (L.pick c d i).x, SV.int .i64 (L.pick c d i).y] = [SV.int .i64 (L.pick c d i).x, SV.int .i64 (L.pick c d i).y]) ∧ (↑(nat_lit 2) : Int) = (↑(nat_lit 2) : Int) ∧ (0 : Int) = (0 : Int) ∧ SV.ref
 [SV.int .i64 d.x, SV.int .i64 d.y] (nat_lit 0) = SV.ref [SV.int .i64 d.x, SV.int .i64 d.y] (nat_lit 0) ∧ SV.ref [SV.int .i64 c.x, SV.int .i64 c.y] (nat_lit 0) = SV.ref [SV.int .i64 c.x, SV.int .i64 c.y] (nat_lit 0) ∧ SV.ref [SV.int
 .i64 b.x, SV.int .i64 b.y] (nat_lit 0) = SV.ref [SV.int .i64 b.x, SV.int .i64 b.y] (nat_lit 0) ∧ SV.ref [SV.int .i64 a.x, SV.int .i64 a.y] (nat_lit 0) = SV.ref [SV.int .i64 a.x, SV.int .i64 a.y] (nat_lit 0) ∧ ((L.k2 a b c d g_1).n = (L.k2 a b c d g').n ∧ ∀ (i
 : Nat), i < (L.k2 a b c d g_1).n → L.cell (L.k2 a b c d g_1) i = L.cell (L.k2 a b c d g') i) ∧ g' ≤ (2 : Nat) ∧ (2 : Nat) - g' < (2 : Nat) - g_1) ∧ ((∀ (i : Nat), i < (L.k2 a b c d g_1).n → (decide ((L.pick c d (Int.toNat (↑g_1 : Int))).x = ((L.k2 a b c d g_1).g i).x) && decide ((L.pick c d (Int.toNat (↑g_1 : Int))).y = ((L.k2 a b c d g_1).g i).y)) = false) → InK
 .i64 ((↑g_1 : Int) + (1 : Int)) ∧ ∃ (g' : Nat), (↑g_1 : Int) + (1 : Int) = (↑g' : Int) ∧ (nat_lit 2 = (2 : Nat) ∧ ∀ (i : Nat), i < nat_lit 2 → [SV.int .i64 (L.pick c d i).x, SV.int .i64 (L.pick c d i).y] = [SV.int .i64 (L.pick c d i).x, SV.int .i64 (L.pick c d i).y]) ∧ (↑(nat_lit 2) : Int) = (↑(nat_lit 2) : Int) ∧ (0 : Int)
 = (0 : Int) ∧ SV.ref [SV.int .i64 d.x, SV.int .i64 d.y] (nat_lit 0) = SV.ref [SV.int .i64 d.x, SV.int .i64 d.y] (nat_lit 0) ∧ SV.ref [SV.int .i64 c.x, SV.int .i64 c.y] (nat_lit 0) = SV.ref [SV.int .i64 c.x, SV.int .i64 c.y] (nat_lit 0) ∧
 SV.ref [SV.int .i64 b.x, SV.int .i64 b.y] (nat_lit 0) = SV.ref [SV.int .i64 b.x, SV.int .i64 b.y] (nat_lit 0) ∧ SV.ref [SV.int .i64 a.x, SV.int .i64 a.y] (nat_lit 0) = SV.ref [SV.int .i64 a.x, SV.int .i64 a.y] (nat_lit 0) ∧ ((L.k2 a b c d g_1).n +
 (1 : Nat) = (L.k2 a b c d g').n ∧ ∀ (i : Nat), i < (L.k2 a b c d g_1).n + (1 : Nat) → appGet (L.k2 a b c d g_1).n (L.cell (L.k2 a b c d g_1)) (fun (x : Nat) ↦ [SV.int .i64 (L.pick c d (Int.toNat (↑g_1 : Int))).x, SV.int .i64 (L.pick c d (Int.toNat (↑g_1 : Int))).y]) i = L.cell (L.k2 a b c d g') i) ∧ g' ≤ (2 : Nat) ∧ (2 : Nat) - g' < (2 : Nat) - g_1)) ∧ (L.on a
 b (L.pick c d (Int.toNat (↑g_1 : Int))) = false → InK .i64 ((↑g_1 : Int) + (1 : Int)) ∧ ∃ (g' : Nat), (↑g_1 : Int) + (1 : Int) = (↑g' : Int) ∧ (nat_lit 2 = (2 : Nat) ∧ ∀ (i : Nat), i < nat_lit 2 → [SV.int .i64 (L.pick c d i).x, SV.int .i64 (L.pick c d i).y] = [SV.int .i64 (L.pick c d i).x, SV.int .i64 (L.pick c d
 i).y]) ∧ (↑(nat_lit 2) : Int) = (↑(nat_lit 2) : Int) ∧ (0 : Int) = (0 : Int) ∧ SV.ref [SV.int .i64 d.x, SV.int .i64 d.y] (nat_lit 0) = SV.ref [SV.int .i64 d.x, SV.int .i64 d.y] (nat_lit 0) ∧ SV.ref [SV.int .i64 c.x, SV.int .i64 c.y] (nat_lit 0) = SV.ref [SV.int
 .i64 c.x, SV.int .i64 c.y] (nat_lit 0) ∧ SV.ref [SV.int .i64 b.x, SV.int .i64 b.y] (nat_lit 0) = SV.ref [SV.int .i64 b.x, SV.int .i64 b.y] (nat_lit 0) ∧ SV.ref [SV.int .i64 a.x, SV.int .i64 a.y] (nat_lit 0) = SV.ref [SV.int .i64 a.x,
 SV.int .i64 a.y] (nat_lit 0) ∧ ((L.k2 a b c d g_1).n = (L.k2 a b c d g').n ∧ ∀ (i : Nat), i < (L.k2 a b c d g_1).n → L.cell (L.k2 a b c d g_1) i = L.cell (L.k2 a b c d g') i) ∧ g' ≤ (2 : Nat) ∧ (2 : Nat) - g' < (2 : Nat) - g_1)) ∧ (decide ((↑g_1 : Int) < (↑(nat_lit 2) : Int)) = false → (decide ((1 : Int) < (↑(L.k2 a b c d g_1).n : Int)) = true → (3 :
 Int) = L.meet a b c d) ∧ (decide ((1 : Int) < (↑(L.k2 a b c d g_1).n : Int)) = false → (decide ((↑(L.k2 a b c d g_1).n : Int) = (1 : Int)) = true → (1 : Int) = L.meet a b c d) ∧ (decide ((↑(L.k2 a b c d g_1).n : Int) = (1 : Int)) = false → (L.bd a ∧ L.bd b ∧ L.bd c ∧ L.bd d) ∧ (L.apart a b c d = true → L.bd c ∧ L.bd d ∧ L.bd a ∧ L.bd b) ∧ ((bif
 L.apart a b c d then L.apart c d a b else false) = true → (2 : Int) = L.meet a b c d) ∧ ((bif L.apart a b c d then L.apart c d a b else false) = false → (0 : Int) = L.meet a b c d)))))) (by kernel_rfl) (by
    obtain ⟨ha, hb, hc, hd⟩ := hp
    refine ⟨⟨(0 : Nat), rfl, ⟨rfl, fun i hi => by match i, hi with | 0, _ => rfl | 1, _ => rfl⟩, ⟨rfl, fun i hi => absurd hi (Nat.not_lt_zero _)⟩, by decide⟩, fun g hg => ⟨fun hlt => ?_, fun hge => ?_⟩⟩
    · have hb1 : (g : Int) < 2 := by simpa using hlt
      have e0 : ((g : Int)).toNat = g := by omega
      rw [e0]
      refine ⟨⟨by omega, hb1⟩, ⟨hc, hd, pick_bd ha hb g⟩, fun hon => ⟨fun _ _ => rfl, fun hex => ⟨InK.of (by omega) (by omega), g + 1, by omega, ⟨rfl, fun _ _ => rfl⟩, rfl, rfl, rfl, rfl, rfl, rfl, ?_, by omega, by omega⟩, fun hnx => ⟨InK.of (by omega) (by omega), g + 1, by omega, ⟨rfl, fun _ _ => rfl⟩, rfl, rfl, rfl, rfl, rfl, rfl, ?_, by omega, by omega⟩⟩, fun hon => ⟨InK.of (by omega) (by omega), g + 1, by omega, ⟨rfl, fun _ _ => rfl⟩, rfl, rfl, rfl, rfl, rfl, rfl, ?_, by omega, by omega⟩⟩
      · rw [show L.k1 a b c d (g + 1) = L.k1 a b c d g by rw [L.k1, hon, putIf_step.2, put_has hex]]; exact ⟨rfl, fun _ _ => rfl⟩
      · rw [L.k1, hon, putIf_step.2]; exact put_new hnx
      · rw [show L.k1 a b c d (g + 1) = L.k1 a b c d g by rw [L.k1, hon, putIf_step.1]]; exact ⟨rfl, fun _ _ => rfl⟩
    · have hb1 : ¬ (g : Int) < 2 := by simpa using hge
      obtain rfl : g = 2 := by omega
      refine ⟨⟨(0 : Nat), rfl, ⟨rfl, fun i hi => by match i, hi with | 0, _ => rfl | 1, _ => rfl⟩, ⟨rfl, fun i hi => rfl⟩, by decide⟩, fun g hg => ⟨fun hlt => ?_, fun hge => ?_⟩⟩
      · have hb1 : (g : Int) < 2 := by simpa using hlt
        have e0 : ((g : Int)).toNat = g := by omega
        rw [e0]
        refine ⟨⟨by omega, hb1⟩, ⟨ha, hb, pick_bd hc hd g⟩, fun hon => ⟨fun _ _ => rfl, fun hex => ⟨InK.of (by omega) (by omega), g + 1, by omega, ⟨rfl, fun _ _ => rfl⟩, rfl, rfl, rfl, rfl, rfl, rfl, ?_, by omega, by omega⟩, fun hnx => ⟨InK.of (by omega) (by omega), g + 1, by omega, ⟨rfl, fun _ _ => rfl⟩, rfl, rfl, rfl, rfl, rfl, rfl, ?_, by omega, by omega⟩⟩, fun hon => ⟨InK.of (by omega) (by omega), g + 1, by omega, ⟨rfl, fun _ _ => rfl⟩, rfl, rfl, rfl, rfl, rfl, rfl, ?_, by omega, by omega⟩⟩
        · rw [show L.k2 a b c d (g + 1) = L.k2 a b c d g by rw [L.k2, hon, putIf_step.2, put_has hex]]; exact ⟨rfl, fun _ _ => rfl⟩
        · rw [L.k2, hon, putIf_step.2]; exact put_new hnx
        · rw [show L.k2 a b c d (g + 1) = L.k2 a b c d g by rw [L.k2, hon, putIf_step.1]]; exact ⟨rfl, fun _ _ => rfl⟩
      · have hb1 : ¬ (g : Int) < 2 := by simpa using hge
        obtain rfl : g = 2 := by omega
        unfold L.meet
        refine ⟨fun h => by rw [h]; rfl, fun h => ⟨fun h' => by rw [h, h']; rfl, fun h' => ⟨⟨ha, hb, hc, hd⟩, fun _ => ⟨hc, hd, ha, hb⟩, fun q => by rw [h, h', q]; rfl, fun q => by rw [h, h', q]; rfl⟩⟩⟩)
theorem p_meet_ok : SpecOk Try.prog 48 p_meet_S := fnX Try.func48 (c := bodyOf Try.f48) (by kernel_rfl) mixed (fun args p r hs hp => by
  unfold p_meet_s at hs
  split at hs
  · cases hs; exact ⟨_, _, p_meet_vc _ _ _ _ hp, (.same _ (.same _ (.same _ (.same _ .nil)))), ⟨show SpecsL Try.prog _ from (SpecsL.cons p_on_ok p_on_en (SpecsL.cons p_meet1_ok p_meet1_en SpecsL.nil)), rfl, ⟨show ItersL Try.prog _ from ItersL.nil, (TrsOk.none (fun _ => rfl))⟩⟩⟩
  · cases hs)
theorem p_meet_en : Enters Try.prog 48 := fun args w => by kernel_rfl
end Go.Proofs.Ytinfalehnaejbaa

namespace Go.Proofs.Ytinfalehnaejbaa
open Go.SE Go.RowKit
set_option maxRecDepth 100000
set_option maxHeartbeats 4000000
set_option linter.unusedVariables false
attribute [local irreducible] vc

def L.nxt (l : L.Sq L.Pt) (i k : Nat) : Bool := bif decide ((k : Int) = (i : Int) + 1) then true else bif decide ((i : Int) = 0) then decide ((k : Int) = (l.n : Int) - 1) else false
def L.how (l : L.Sq L.Pt) (i k : Nat) : Int := L.meet (l.g i) (l.g (i + 1)) (l.g k) (l.g (L.next l.n k))
def L.okPair (l : L.Sq L.Pt) (i k : Nat) : Bool := bif L.nxt l i k then decide (L.how l i k = 1) else decide (L.how l i k = 0)
def L.simple (l : L.Sq L.Pt) : Bool := L.allB l.n (fun i => L.allB l.n (fun k => !decide (i < k) || L.okPair l i k))
def L.allBd (l : L.Sq L.Pt) : Prop := l.n ≤ 1000 ∧ ∀ i, i < l.n → L.bd (l.g i)
def p_simple_p (l : (L.Sq L.Pt)) : Prop := L.allBd l
def p_simple_r (l : (L.Sq L.Pt)) : SV := .bool (L.simple l)
def p_simple_s : List EV → Option (Prop × SV)
  | [.p (.sl 2 l_n l_g)] => some ((∀ i, i < l_n → l_g i = [.int .i64 ((ofPt (l_g i)).x), .int .i64 ((ofPt (l_g i)).y)]) ∧ p_simple_p (⟨l_n, fun i => ofPt (l_g i)⟩ : (L.Sq L.Pt)), p_simple_r (⟨l_n, fun i => ofPt (l_g i)⟩ : (L.Sq L.Pt)))
  | _ => none
abbrev p_simple_S : SE.Spec := (specO p_simple_s)
def p_simple_C : Cfg := { muts := [], frz := lookN [], specs := lookS [(48, p_meet_S)], loops := fun _ => none, iters := lookI [], rfs := lookR [], nils := lookM [] }
theorem p_simple_vc (l : (L.Sq L.Pt)) (hp : p_simple_p l) : vc Try.prog ({ p_simple_C with loops := lookL [(3, { T := Nat, keep := [0, 3, 11], keepO := [], chg := fun i => [(12, .p (.int .i64 (i : Int)))], own := fun _ => [], inv := fun i => i ≤ l.n ∧ ∀ j, j < i → ∀ k, j < k → k < l.n → L.okPair l j k = true, mu := fun i => l.n - i }), (6, { T := Nat × Nat, keep := [0, 3, 4, 11, 12], keepO := [], tie := fun i => [(4, .int .i64 (i.1 : Int)), (12, .int .i64 (i.1 : Int))], chg := fun i => [(5, .p (.int .i64 (i.2 : Int)))], own := fun _ => [], inv := fun i => i.1 < i.2 ∧ i.2 ≤ l.n ∧ (∀ j, j < i.1 → ∀ k, j < k → k < l.n → L.okPair l j k = true) ∧ ∀ k, i.1 < k → k < i.2 → L.okPair l i.1 k = true, mu := fun i => l.n - i.2 })], rfs := lookR [] }) (bodyOf Try.f32) (st0 Try.f32 [.p (.sl 2 l.n (fun i => [.int .i64 ((l.g i).x), .int .i64 ((l.g i).y)]))]) (retFn Try.prog Try.f32 (p_simple_r l)) :=
  @Eq.mpr _ ((∃ (g : Nat), (0 : Int) = (↑g : Int) ∧ g ≤ l.n ∧ ∀ (j : Nat), j < g → ∀ (k : Nat), j < k → k < l.n → L.okPair l j k = true) ∧ ∀ (g : Nat), (g ≤ l.n ∧ ∀ (j : Nat), j < g → ∀ (k : Nat), j < k → k < l.n → L.okPair l j k = true) → (decide ((↑g : Int) < (↑l.n : Int)) = true → InK .i64 ((↑g : Int) + (1 : Int)) ∧ (∃ (g_1 : Nat × Nat), (↑g : Int) + (1 : Int) =
 (↑g_1.2 : Int) ∧ (↑g : Int) = (↑g_1.1 : Int) ∧ (↑g : Int) = (↑g_1.1 : Int) ∧ g_1.1 < g_1.2 ∧ g_1.2 ≤ l.n ∧ (∀ (j : Nat), j < g_1.1 → ∀ (k : Nat), j < k → k < l.n → L.okPair l j k = true) ∧ ∀ (k : Nat), g_1.1 < k → k < g_1.2 → L.okPair l g_1.1 k = true) ∧ ∀ (g_1 : Nat × Nat), ((↑g : Int) = (↑g_1.1 : Int) ∧ (↑g : Int) = (↑g_1.1 : Int) ∧ g_1.1 < g_1.2 ∧ g_1.2 ≤ l.n ∧ (∀ (j : Nat), j < g_1.1
 → ∀ (k : Nat), j < k → k < l.n → L.okPair l j k = true) ∧ ∀ (k : Nat), g_1.1 < k → k < g_1.2 → L.okPair l g_1.1 k = true) → (decide ((↑g_1.2 : Int) < (↑l.n : Int)) = true → ((0 : Int) ≤ (↑g : Int) ∧ (↑g : Int) < (↑l.n : Int)) ∧ InK .i64 ((↑g : Int) + (1 : Int)) ∧ ((0 : Int) ≤ (↑g : Int) + (1 : Int) ∧ (↑g : Int) + (1 : Int) < (↑l.n : Int)) ∧ ((0 : Int) ≤
 (↑g_1.2 : Int) ∧ (↑g_1.2 : Int) < (↑l.n : Int)) ∧ InK .i64 ((↑g_1.2 : Int) + (1 : Int)) ∧ (↑l.n : Int) ≠ (0 : Int) ∧ ((0 : Int) ≤ Int.tmod ((↑g_1.2 : Int) + (1 : Int)) (↑l.n : Int) ∧ Int.tmod ((↑g_1.2 : Int) + (1 : Int)) (↑l.n : Int) < (↑l.n : Int)) ∧ (L.bd (l.g (Int.toNat (↑g : Int))) ∧ L.bd (l.g (Int.toNat ((↑g : Int) + (1 : Int)))) ∧ L.bd (l.g (Int.toNat (↑g_1.2 : Int))) ∧ L.bd
 (l.g (Int.toNat (Int.tmod ((↑g_1.2 : Int) + (1 : Int)) (↑l.n : Int))))) ∧ InK .i64 ((↑g : Int) + (1 : Int)) ∧ ((!decide ((↑g_1.2 : Int) = (↑g : Int) + (1 : Int)) && decide ((↑g : Int) = (0 : Int))) = true → InK .i64 ((↑l.n : Int) - (1 : Int))) ∧ ((bif bif bif decide ((↑g_1.2 : Int) = (↑g : Int) + (1 : Int)) then true else bif
 decide ((↑g : Int) = (0 : Int)) then decide ((↑g_1.2 : Int) = (↑l.n : Int) - (1 : Int)) else false then !decide (L.meet (l.g (Int.toNat (↑g : Int))) (l.g (Int.toNat ((↑g : Int) + (1 : Int)))) (l.g (Int.toNat (↑g_1.2 : Int))) (l.g (Int.toNat (Int.tmod ((↑g_1.2 : Int) + (1 : Int)) (↑l.n : Int)))) = (1 : Int)) else false then true else bif !bif
 decide ((↑g_1.2 : Int) = (↑g : Int) + (1 : Int)) then true else bif decide ((↑g : Int) = (0 : Int)) then decide ((↑g_1.2 : Int) = (↑l.n : Int) - (1 : Int)) else false then !decide (L.meet (l.g (Int.toNat (↑g : Int))) (l.g (Int.toNat ((↑g : Int) + (1 : Int)))) (l.g (Int.toNat (↑g_1.2 : Int))) (l.g (Int.toNat (Int.tmod ((↑g_1.2 : Int) + (1 : Int))
 (↑l.n : Int)))) = (0 : Int)) else false) = true → false = L.simple l) ∧ ((bif bif bif decide ((↑g_1.2 : Int) = (↑g : Int) + (1 : Int)) then true else bif decide ((↑g : Int) = (0 : Int)) then decide ((↑g_1.2 : Int) = (↑l.n : Int) - (1 : Int)) else false then !decide (L.meet (l.g (Int.toNat (↑g : Int))) (l.g (Int.toNat ((↑g : Int) + (1
 : Int)))) (l.g (Int.toNat (↑g_1.2 : Int))) (l.g (Int.toNat (Int.tmod ((↑g_1.2 : Int) + (1 : Int)) (↑l.n : Int)))) = (1 : Int)) else false then true else bif !bif decide ((↑g_1.2 : Int) = (↑g : Int) + (1 : Int)) then true else bif decide ((↑g : Int) = (0 : Int)) then decide ((↑g_1.2 : Int) = (↑l.n : Int) - (1 : Int)) else false then
 !decide (L.meet (l.g (Int.toNat (↑g : Int))) (l.g (Int.toNat ((↑g : Int) + (1 : Int)))) (l.g (Int.toNat (↑g_1.2 : Int))) (l.g (Int.toNat (Int.tmod ((↑g_1.2 : Int) + (1 : Int)) (↑l.n : Int)))) = (0 : Int)) else false) = false → InK .i64 ((↑g_1.2 : Int) + (1 : Int)) ∧ ∃ (g' : Nat × Nat), (↑g_1.2 : Int) + (1 : Int) = (↑g'.2 : Int) ∧ (↑g : Int) = (↑g : Int) ∧ (↑g :
 Int) = (↑g : Int) ∧ (↑l.n : Int) = (↑l.n : Int) ∧ (↑l.n : Int) = (↑l.n : Int) ∧ (l.n = l.n ∧ ∀ (i : Nat), i < l.n → [SV.int .i64 (l.g i).x, SV.int .i64 (l.g i).y] = [SV.int .i64 (l.g i).x, SV.int .i64 (l.g i).y]) ∧ ((↑g : Int) = (↑g'.1 : Int) ∧ (↑g : Int) = (↑g'.1 : Int) ∧ g'.1 < g'.2 ∧ g'.2 ≤ l.n ∧ (∀ (j : Nat), j < g'.1 → ∀ (k :
 Nat), j < k → k < l.n → L.okPair l j k = true) ∧ ∀ (k : Nat), g'.1 < k → k < g'.2 → L.okPair l g'.1 k = true) ∧ l.n - g'.2 < l.n - g_1.2)) ∧ (decide ((↑g_1.2 : Int) < (↑l.n : Int)) = false → InK .i64 ((↑g : Int) + (1 : Int)) ∧ ∃ (g' : Nat), (↑g : Int) + (1 : Int) = (↑g' : Int) ∧ (↑l.n : Int) = (↑l.n : Int) ∧ (↑l.n : Int) = (↑l.n : Int) ∧ (l.n = l.n ∧ ∀ (i :
 Nat), i < l.n → [SV.int .i64 (l.g i).x, SV.int .i64 (l.g i).y] = [SV.int .i64 (l.g i).x, SV.int .i64 (l.g i).y]) ∧ (g' ≤ l.n ∧ ∀ (j : Nat), j < g' → ∀ (k : Nat), j < k → k < l.n → L.okPair l j k = true) ∧ l.n - g' < l.n - g)) ∧ (decide ((↑g : Int) < (↑l.n : Int)) = false → true = L.simple l)) (by kernel_rfl) (by
    obtain ⟨hn, hb⟩ := hp
    have fin0 : ∀ {i k : Nat}, i < k → k < l.n → L.okPair l i k = false → false = L.simple l := fun {i k} hik hk h => by
      unfold L.simple
      rw [allB_false (i := i) (by omega) (allB_false (i := k) hk (by simp [hik, h]))]
    refine ⟨⟨(0 : Nat), rfl, Nat.zero_le _, fun j hj => absurd hj (Nat.not_lt_zero _)⟩, fun g hg => ⟨fun hlt => ?_, fun hge => ?_⟩⟩
    · have hb1 : (g : Int) < (l.n : Int) := by simpa using hlt
      refine ⟨InK.of (by omega) (by omega), ⟨(g, g + 1), by simp, rfl, rfl, by simp, by simp; omega, hg.2, fun k h1 h2 => by simp at h1 h2; omega⟩, ?_⟩
      rintro ⟨i, k⟩ ⟨e1, e2, hik, hkn, h0, h1⟩
      simp only at e1 e2 hik hkn h0 h1
      obtain rfl : i = g := by omega
      refine ⟨fun hlt2 => ?_, fun hge2 => ?_⟩
      · have hk : (k : Int) < (l.n : Int) := by simpa using hlt2
        have t3 := Int.tmod_nonneg (l.n : Int) (show 0 ≤ (k : Int) + 1 by omega)
        have t4 := Int.tmod_lt_of_pos ((k : Int) + 1) (show 0 < (l.n : Int) by omega)
        have c1 : ((i : Int)).toNat = i := by omega
        have c2 : ((i : Int) + 1).toNat = i + 1 := by omega
        have c3 : ((k : Int)).toNat = k := by omega
        have c4 : (Int.tmod ((k : Int) + 1) (l.n : Int)).toNat = L.next l.n k := rfl
        have c5 : L.next l.n k < l.n := next_lt (by omega)
        dsimp only
        rw [c1, c2, c3, c4]
        have key : (bif (bif (bif decide ((k : Int) = (i : Int) + 1) then true else bif decide ((i : Int) = 0) then decide ((k : Int) = (l.n : Int) - 1) else false) then !decide (L.meet (l.g i) (l.g (i + 1)) (l.g k) (l.g (L.next l.n k)) = 1) else false) then true else bif !(bif decide ((k : Int) = (i : Int) + 1) then true else bif decide ((i : Int) = 0) then decide ((k : Int) = (l.n : Int) - 1) else false) then !decide (L.meet (l.g i) (l.g (i + 1)) (l.g k) (l.g (L.next l.n k)) = 0) else false) = !L.okPair l i k := by
          unfold L.okPair L.nxt L.how
          generalize (bif decide ((k : Int) = (i : Int) + 1) then true else bif decide ((i : Int) = 0) then decide ((k : Int) = (l.n : Int) - 1) else false) = q
          generalize decide (L.meet (l.g i) (l.g (i + 1)) (l.g k) (l.g (L.next l.n k)) = 1) = q1
          generalize decide (L.meet (l.g i) (l.g (i + 1)) (l.g k) (l.g (L.next l.n k)) = 0) = q2
          cases q <;> cases q1 <;> cases q2 <;> rfl
        rw [key]
        refine ⟨by omega, InK.of (by omega) (by omega), by omega, by omega, InK.of (by omega) (by omega), by omega, ⟨t3, t4⟩, ⟨hb i (by omega), hb (i + 1) (by omega), hb k (by omega), hb _ c5⟩, InK.of (by omega) (by omega), fun _ => InK.of (by omega) (by omega), fun h => fin0 hik (by omega) (by simpa using h), fun h => ?_⟩
        have hok : L.okPair l i k = true := by simpa using h
        refine ⟨InK.of (by omega) (by omega), (i, k + 1), by simp, rfl, rfl, rfl, rfl, ⟨rfl, fun _ _ => rfl⟩, ⟨rfl, rfl, by simp; omega, by simp; omega, h0, fun m hm1 hm2 => ?_⟩, by simp; omega⟩
        dsimp only at hm1 hm2 ⊢
        rcases Nat.lt_succ_iff_lt_or_eq.1 hm2 with h' | rfl
        · exact h1 m hm1 h'
        · exact hok
      · have hk : ¬ (k : Int) < (l.n : Int) := by simpa using hge2
        refine ⟨InK.of (by omega) (by omega), i + 1, by omega, rfl, rfl, ⟨rfl, fun _ _ => rfl⟩, ⟨by omega, fun j hj m hm1 hm2 => ?_⟩, by omega⟩
        rcases Nat.lt_succ_iff_lt_or_eq.1 hj with h' | rfl
        · exact h0 j h' m hm1 hm2
        · exact h1 m hm1 (by omega)
    · have hb1 : ¬ (g : Int) < (l.n : Int) := by simpa using hge
      unfold L.simple
      rw [allB_iff.2 (fun i hi => allB_iff.2 (fun k hk => ?_))]
      by_cases hik : i < k
      · simp [hik, hg.2 i (by omega) k hik hk]
      · simp [hik])
theorem p_simple_ok : SpecOk Try.prog 32 p_simple_S := fnX Try.func32 (c := bodyOf Try.f32) (by kernel_rfl) mixed (fun args p r hs hp => by
  unfold p_simple_s at hs
  split at hs
  · cases hs; exact ⟨_, _, p_simple_vc _ hp.2, (.p (.sl hp.1) .nil), ⟨show SpecsL Try.prog _ from (SpecsL.cons p_meet_ok p_meet_en SpecsL.nil), rfl, ⟨show ItersL Try.prog _ from ItersL.nil, (TrsOk.none (fun _ => rfl))⟩⟩⟩
  · cases hs)
theorem p_simple_en : Enters Try.prog 32 := fun args w => by kernel_rfl
end Go.Proofs.Ytinfalehnaejbaa

namespace Go.Proofs.Ytinfalehnaejbaa
open Go.SE Go.RowKit
set_option maxRecDepth 100000
set_option maxHeartbeats 4000000
set_option linter.unusedVariables false
attribute [local irreducible] vc

def L.corner (l : L.Sq L.Pt) (k : Nat) : Bool := !(bif decide (L.cross (l.g (L.prev l.n k)) (l.g k) (l.g (L.next l.n k)) = 0) then true else bif decide (0 < (k : Int)) then decide (0 ≤ L.cmpPt (l.g 0) (l.g k)) else false)
def L.validPts (l : L.Sq L.Pt) : Bool := L.allB l.n (fun i => L.validPt (l.g i))
def L.valid3 (l : L.Sq L.Pt) : Bool := bif (bif !L.within (l.n : Int) 3 24 then true else !L.validPts l) then false else decide (0 < L.areaTo l l.n)
def L.validOutline (l : L.Sq L.Pt) : Bool := L.valid3 l && (L.allB l.n (L.corner l) && L.simple l)
def L.bend (l : L.Sq L.Pt) (k : Nat) : Int := L.cmp (L.cross (l.g (L.prev l.n k)) (l.g k) (l.g (L.next l.n k))) 0
theorem prev_lt {n k : Nat} (h : 0 < n) : L.prev n k < n := by
  have t3 := Int.tmod_nonneg (n : Int) (show 0 ≤ (k : Int) + (n : Int) - 1 by omega)
  have t4 := Int.tmod_lt_of_pos ((k : Int) + (n : Int) - 1) (show 0 < (n : Int) by omega)
  unfold L.prev; omega
theorem within_iff {n a b : Int} : L.within n a b = true ↔ a ≤ n ∧ n ≤ b := by simp [L.within]
theorem valid3_spec {l : L.Sq L.Pt} (h : L.within (l.n : Int) 3 24 = true) (h' : L.validPts l = true) : 3 ≤ l.n ∧ l.n ≤ 24 ∧ L.small l ∧ L.allBd l := by
  obtain ⟨h1, h2⟩ := within_iff.1 h
  have hb : ∀ i, i < l.n → L.bd (l.g i) := fun i hi => validPt_bd (allB_iff.1 h' i hi)
  exact ⟨by omega, by omega, ⟨by omega, hb⟩, ⟨by omega, hb⟩⟩
theorem valid3_eq (l : L.Sq L.Pt) : (bif (bif !L.within (l.n : Int) 3 24 then true else !(L.allB l.n fun i => L.validPt (l.g i))) then true else decide (L.areaTo l l.n ≤ 0)) = !L.valid3 l := by
  unfold L.valid3 L.validPts
  have : decide (0 < L.areaTo l l.n) = !decide (L.areaTo l l.n ≤ 0) := by
    by_cases h : L.areaTo l l.n ≤ 0 <;> simp [h] <;> omega
  rw [this]
  generalize decide (L.areaTo l l.n ≤ 0) = q
  cases L.within (l.n : Int) 3 24 <;> cases (L.allB l.n fun i => L.validPt (l.g i)) <;> cases q <;> rfl
theorem valid3_of {l : L.Sq L.Pt} (h : L.valid3 l = true) : 3 ≤ l.n ∧ l.n ≤ 24 ∧ L.small l ∧ L.allBd l := by
  unfold L.valid3 at h
  cases h1 : L.within (l.n : Int) 3 24 with
  | false => simp [h1] at h
  | true => cases h2 : L.validPts l with
    | false => simp [h1, h2] at h
    | true => exact valid3_spec h1 h2
theorem validOutline_of {l : L.Sq L.Pt} (h : L.validOutline l = true) : 3 ≤ l.n ∧ l.n ≤ 24 ∧ L.small l ∧ L.allBd l := valid3_of (Bool.and_eq_true_iff.1 h).1
theorem notT {b : Bool} (h : (!b) = true) : b = false := by cases b with | false => rfl | true => cases h
theorem notF {b : Bool} (h : (!b) = false) : b = true := by cases b with | true => rfl | false => cases h
theorem anyB_no {n : Nat} {f : Nat → Bool} (h : ∀ i, i < n → f i = false) : L.anyB n f = false := by
  cases h' : L.anyB n f with
  | false => rfl
  | true =>
    obtain ⟨i, hi, h1⟩ := anyB_iff.1 h'
    rw [h i hi] at h1; cases h1
def p_ValidOutline_p (l : (L.Sq L.Pt)) : Prop := l.n ≤ 1000000
def p_ValidOutline_r (l : (L.Sq L.Pt)) : SV := .bool (L.validOutline l)
def p_ValidOutline_s : List EV → Option (Prop × SV)
  | [.p (.sl 2 l_n l_g)] => some ((∀ i, i < l_n → l_g i = [.int .i64 ((ofPt (l_g i)).x), .int .i64 ((ofPt (l_g i)).y)]) ∧ p_ValidOutline_p (⟨l_n, fun i => ofPt (l_g i)⟩ : (L.Sq L.Pt)), p_ValidOutline_r (⟨l_n, fun i => ofPt (l_g i)⟩ : (L.Sq L.Pt)))
  | _ => none
abbrev p_ValidOutline_S : SE.Spec := (specO p_ValidOutline_s)
def p_ValidOutline_C : Cfg := { muts := [], frz := lookN [], specs := lookS [(26, p_within_S), (23, p_valid_S), (13, p_area_S), (14, p_triples_S), (24, p_cross_S), (31, p_compare_S), (32, p_simple_S)], loops := lookL [], iters := lookI [(33, p_triples1_it)], rfs := lookR [], nils := lookM [] }
theorem p_ValidOutline_vc (l : (L.Sq L.Pt)) (hp : p_ValidOutline_p l) : vc Try.prog ({ p_ValidOutline_C with loops := lookL [], rfs := lookR [(4, { T := Nat, keep := [1, 2], keepO := [2], own := fun k _ => [], inv := fun k _ => ∀ j, j < k → L.corner l j = true })] }) (bodyOf Try.f12) (st0 Try.f12 [.p (.sl 2 l.n (fun i => [.int .i64 ((l.g i).x), .int .i64 ((l.g i).y)]))]) (retFn Try.prog Try.f12 (p_ValidOutline_r l)) :=
  @Eq.mpr _ (True ∧ ((!!L.within (↑l.n : Int) (3 : Int) (24 : Int)) = true → (∀ (i : Nat), i < l.n → [SV.int .i64 (l.g i).x, SV.int .i64 (l.g i).y] = [SV.int .i64 (l.g i).x, SV.int .i64 (l.g i).y]) ∧ l.n ≤ (1000000 : Nat)) ∧ ((!bif !L.within (↑l.n : Int) (3 : Int) (24 : Int) then true else !L.allB l.n fun (i : Nat) ↦ L.validPt (l.g i)) =
 true → (∀ (i : Nat), i < l.n → [SV.int .i64 (l.g i).x, SV.int .i64 (l.g i).y] = [SV.int .i64 (l.g i).x, SV.int .i64 (l.g i).y]) ∧ L.small (L.Sq.mk l.n fun (i : Nat) ↦ l.g i)) ∧ ((bif bif !L.within (↑l.n : Int) (3 : Int) (24 : Int) then true else !L.allB l.n fun (i : Nat) ↦ L.validPt (l.g i) then true else
 decide (L.areaTo (L.Sq.mk l.n fun (i : Nat) ↦ l.g i) l.n ≤ (0 : Int))) = true → false = L.validOutline l) ∧ ((bif bif !L.within (↑l.n : Int) (3 : Int) (24 : Int) then true else !L.allB l.n fun (i : Nat) ↦ L.validPt (l.g i) then true else decide (L.areaTo (L.Sq.mk l.n fun (i : Nat) ↦ l.g i) l.n ≤ (0 : Int))) = false → ((∀ (i : Nat), i < l.n →
 [SV.int .i64 (l.g i).x, SV.int .i64 (l.g i).y] = [SV.int .i64 (l.g i).x, SV.int .i64 (l.g i).y]) ∧ l.n ≤ (1000 : Nat)) ∧ (((∀ (i : Nat), i < l.n → [SV.int .i64 (l.g i).x, SV.int .i64 (l.g i).y] = [SV.int .i64 (l.g i).x, SV.int .i64 (l.g i).y]) ∧ l.n ≤ (1000 : Nat)) ∧ ∃ (t
 : Nat), false = false ∧ ∀ (j : Nat), j < (0 : Nat) → L.corner l j = true) ∧ (∀ (k t : Nat) (vk : Nat → Go.Value), k < l.n → (∀ (j : Nat), j < k → L.corner l j = true) → ((0 : Int) ≤ (0 : Int) ∧ (0 : Int) < (↑(3 : Nat) : Int)) ∧ ((0 : Int) ≤ (1 : Int) ∧ (1 : Int) < (↑(3 : Nat) : Int)) ∧ ((0 : Int) ≤ (2 : Int) ∧ (2 : Int) < (↑(3 : Nat) : Int)) ∧ (L.bd (l.g (Int.toNat (Int.tmod
 ((↑k : Int) + (↑l.n : Int) - (1 : Int)) (↑l.n : Int)))) ∧ L.bd (l.g (Int.toNat (↑k : Int))) ∧ L.bd (l.g (Int.toNat (Int.tmod ((↑k : Int) + (1 : Int)) (↑l.n : Int))))) ∧ ((!decide (L.cross (l.g (Int.toNat (Int.tmod ((↑k : Int) + (↑l.n : Int) - (1 : Int)) (↑l.n : Int)))) (l.g (Int.toNat (↑k : Int))) (l.g (Int.toNat (Int.tmod ((↑k : Int) + (1 : Int)) (↑l.n : Int)))) = (0 : Int)) &&
 decide ((0 : Int) < (↑k : Int))) = true → (0 : Int) ≤ (0 : Int) ∧ (0 : Int) < (↑l.n : Int)) ∧ ((!decide (L.cross (l.g (Int.toNat (Int.tmod ((↑k : Int) + (↑l.n : Int) - (1 : Int)) (↑l.n : Int)))) (l.g (Int.toNat (↑k : Int))) (l.g (Int.toNat (Int.tmod ((↑k : Int) + (1 : Int)) (↑l.n : Int)))) = (0 : Int)) && decide ((0 : Int) < (↑k : Int))) = true → (0 : Int) ≤
 (1 : Int) ∧ (1 : Int) < (↑(3 : Nat) : Int)) ∧ ((!decide (L.cross (l.g (Int.toNat (Int.tmod ((↑k : Int) + (↑l.n : Int) - (1 : Int)) (↑l.n : Int)))) (l.g (Int.toNat (↑k : Int))) (l.g (Int.toNat (Int.tmod ((↑k : Int) + (1 : Int)) (↑l.n : Int)))) = (0 : Int)) && decide ((0 : Int) < (↑k : Int))) = true → True) ∧ ((bif decide (L.cross (l.g (Int.toNat (Int.tmod ((↑k :
 Int) + (↑l.n : Int) - (1 : Int)) (↑l.n : Int)))) (l.g (Int.toNat (↑k : Int))) (l.g (Int.toNat (Int.tmod ((↑k : Int) + (1 : Int)) (↑l.n : Int)))) = (0 : Int)) then true else bif decide ((0 : Int) < (↑k : Int)) then decide ((0 : Int) ≤ L.cmpPt (l.g (Int.toNat (0 : Int))) (l.g (Int.toNat (↑k : Int)))) else false) = true → nat_lit 0 = nat_lit 0 ∧ SV.ref
 [SV.sl (nat_lit 2) l.n fun (i : Nat) ↦ [SV.int .i64 (l.g i).x, SV.int .i64 (l.g i).y]] (nat_lit 0) = SV.ref [SV.sl (nat_lit 2) l.n fun (i : Nat) ↦ [SV.int .i64 (l.g i).x, SV.int .i64 (l.g i).y]] (nat_lit 0) ∧ vk (nat_lit 2) = vk (nat_lit 2) ∧ vk (nat_lit 1) = vk (nat_lit 1) ∧ false = L.validOutline l) ∧ ((bif
 decide (L.cross (l.g (Int.toNat (Int.tmod ((↑k : Int) + (↑l.n : Int) - (1 : Int)) (↑l.n : Int)))) (l.g (Int.toNat (↑k : Int))) (l.g (Int.toNat (Int.tmod ((↑k : Int) + (1 : Int)) (↑l.n : Int)))) = (0 : Int)) then true else bif decide ((0 : Int) < (↑k : Int)) then decide ((0 : Int) ≤ L.cmpPt (l.g (Int.toNat (0 : Int))) (l.g (Int.toNat (↑k : Int)))) else false)
 = false → ∃ (t' : Nat), nat_lit 0 = nat_lit 0 ∧ SV.ref [SV.sl (nat_lit 2) l.n fun (i : Nat) ↦ [SV.int .i64 (l.g i).x, SV.int .i64 (l.g i).y]] (nat_lit 0) = SV.ref [SV.sl (nat_lit 2) l.n fun (i : Nat) ↦ [SV.int .i64 (l.g i).x, SV.int .i64 (l.g i).y]] (nat_lit 0) ∧ vk (nat_lit 2) = vk (nat_lit 2) ∧ vk
 (nat_lit 1) = vk (nat_lit 1) ∧ false = false ∧ ∀ (j : Nat), j < k + (1 : Nat) → L.corner l j = true)) ∧ ∀ (t : Nat), (∀ (j : Nat), j < l.n → L.corner l j = true) → ((∀ (i : Nat), i < l.n → [SV.int .i64 (l.g i).x, SV.int .i64 (l.g i).y] = [SV.int .i64 (l.g i).x, SV.int .i64 (l.g i).y]) ∧ L.allBd (L.Sq.mk l.n fun (i
 : Nat) ↦ l.g i)) ∧ L.simple (L.Sq.mk l.n fun (i : Nat) ↦ l.g i) = L.validOutline l)) (by kernel_rfl) (by
    have hn : l.n ≤ 1000000 := hp
    have e3 := valid3_eq l
    refine ⟨trivial, fun _ => ⟨fun _ _ => rfl, hn⟩, fun h => ⟨fun _ _ => rfl, ?_⟩, fun h => ?_, fun h => ?_⟩
    · cases h1 : L.within (l.n : Int) 3 24 with
      | false => simp [h1] at h
      | true => cases h2 : L.validPts l with
        | false => rw [h1] at h; rw [show (L.allB l.n fun i => L.validPt (l.g i)) = false from h2] at h; simp at h
        | true => exact (valid3_spec h1 h2).2.2.1
    · have h := e3.symm.trans h
      have : L.valid3 l = false := by simpa using h
      unfold L.validOutline; rw [this]; rfl
    · have h := e3.symm.trans h
      have hv : L.valid3 l = true := by simpa using h
      obtain ⟨n3, n24, hsm, hbd⟩ := valid3_of hv
      refine ⟨⟨fun _ _ => rfl, by omega⟩, ⟨⟨fun _ _ => rfl, by omega⟩, (0 : Nat), rfl, fun j hj => absurd hj (Nat.not_lt_zero _)⟩, fun k t vk hk hi => ?_, fun t hi => ?_⟩
      · have c1 : (Int.tmod ((k : Int) + (l.n : Int) - 1) (l.n : Int)).toNat = L.prev l.n k := rfl
        have c2 : ((k : Int)).toNat = k := by omega
        have c3 : (Int.tmod ((k : Int) + 1) (l.n : Int)).toNat = L.next l.n k := rfl
        rw [c1, c2, c3]
        have key : (bif decide (L.cross (l.g (L.prev l.n k)) (l.g k) (l.g (L.next l.n k)) = 0) then true else bif decide (0 < (k : Int)) then decide (0 ≤ L.cmpPt (l.g (Int.toNat 0)) (l.g k)) else false) = !L.corner l k := by
          unfold L.corner; rw [Bool.not_not]; rfl
        rw [key]
        refine ⟨by omega, by omega, by omega, ⟨hbd.2 _ (prev_lt (by omega)), hbd.2 _ hk, hbd.2 _ (next_lt (by omega))⟩, fun _ => by omega, fun _ => by omega, fun _ => trivial, fun h => ⟨rfl, rfl, rfl, rfl, ?_⟩, fun h => ⟨t, rfl, rfl, rfl, rfl, rfl, fun j hj => ?_⟩⟩
        · have : L.corner l k = false := by simpa using h
          unfold L.validOutline
          rw [allB_false hk this]; simp
        · rcases Nat.lt_succ_iff_lt_or_eq.1 hj with h' | rfl
          · exact hi j h'
          · simpa using h
      · refine ⟨⟨fun _ _ => rfl, hbd⟩, ?_⟩
        unfold L.validOutline
        rw [hv, allB_iff.2 hi]; rfl)
theorem p_ValidOutline_ok : SpecOk Try.prog 12 p_ValidOutline_S := fnX Try.func12 (c := bodyOf Try.f12) (by kernel_rfl) mixed (fun args p r hs hp => by
  unfold p_ValidOutline_s at hs
  split at hs
  · cases hs; exact ⟨_, _, p_ValidOutline_vc _ hp.2, (.p (.sl hp.1) .nil), ⟨show SpecsL Try.prog _ from (SpecsL.cons p_within_ok p_within_en (SpecsL.cons p_valid_ok p_valid_en (SpecsL.cons p_area_ok p_area_en (SpecsL.cons p_triples_ok p_triples_en (SpecsL.cons p_cross_ok p_cross_en (SpecsL.cons p_compare_ok p_compare_en (SpecsL.cons p_simple_ok p_simple_en SpecsL.nil))))))), rfl, ⟨show ItersL Try.prog _ from (ItersL.cons p_triples1_itok p_triples1_en ItersL.nil), (TrsOk.none (fun _ => rfl))⟩⟩⟩
  · cases hs)
theorem p_ValidOutline_en : Enters Try.prog 12 := fun args w => by kernel_rfl
end Go.Proofs.Ytinfalehnaejbaa

namespace Go.Proofs.Ytinfalehnaejbaa
open Go.SE Go.RowKit
set_option maxRecDepth 100000
set_option maxHeartbeats 4000000
set_option linter.unusedVariables false
attribute [local irreducible] vc

def ofSqPt : List SV → L.Sq L.Pt
  | [.sl _ n g] => ⟨n, fun i => ofPt (g i)⟩
  | _ => ⟨0, fun _ => ⟨0, 0⟩⟩
def rowPt : List SV → Prop
  | [.sl 2 n g] => ∀ i, i < n → g i = [.int .i64 (ofPt (g i)).x, .int .i64 (ofPt (g i)).y]
  | _ => False
theorem row_len {l : List SV} (h : rowPt l) : l.length = 1 ∧ Ext (SV.at l 0) (.sl 2 (ofSqPt l).n (fun k => [.int .i64 ((ofSqPt l).g k).x, .int .i64 ((ofSqPt l).g k).y])) := by
  unfold rowPt at h
  split at h
  · rename_i n g
    exact ⟨rfl, .sl h⟩
  · exact h.elim
def L.two (a b : L.Sq L.Pt) (i : Nat) : L.Sq L.Pt := bif decide (i = 0) then a else b
theorem rows_ext {g : Nat → List SV} (h : rowPt (g 0) ∧ rowPt (g 1)) : Ext (.sl 1 2 g) (.sl 1 2 (fun i => [.sl 2 (L.two (ofSqPt (g 0)) (ofSqPt (g 1)) i).n (fun k => [.int .i64 ((L.two (ofSqPt (g 0)) (ofSqPt (g 1)) i).g k).x, .int .i64 ((L.two (ofSqPt (g 0)) (ofSqPt (g 1)) i).g k).y])])) := by
  have key : ∀ i, i < 2 → rowPt (g i) ∧ L.two (ofSqPt (g 0)) (ofSqPt (g 1)) i = ofSqPt (g i) := fun i hi => by
    match i, hi with
    | 0, _ => exact ⟨h.1, rfl⟩
    | 1, _ => exact ⟨h.2, rfl⟩
  refine .sl2 (fun i hi => (row_len (key i hi).1).1.symm) (fun i hi j hj => ?_)
  rw [(row_len (key i hi).1).1] at hj
  obtain rfl : j = 0 := by omega
  rw [(key i hi).2]
  exact (row_len (key i hi).1).2
def L.catTo (c : Nat → L.Sq L.Pt) : Nat → L.Sq L.Pt
  | 0 => ⟨0, fun _ => ⟨0, 0⟩⟩
  | i + 1 => ⟨(L.catTo c i).n + (c i).n, fun k => bif decide (k < (L.catTo c i).n) then (L.catTo c i).g k else (c i).g (k - (L.catTo c i).n)⟩
def L.revTo (l : L.Sq L.Pt) (i k : Nat) : L.Pt := bif decide (k < i) || decide (l.n ≤ k + i) then l.g (l.n - 1 - k) else l.g k
def L.ptIdx (l : L.Sq L.Pt) (v : L.Pt) : Int := L.idx l.n (fun i => L.same v (l.g i))
theorem same_eq {a b : L.Pt} (h : L.same a b = true) : a = b := by
  unfold L.same at h
  rw [Bool.and_eq_true, decide_eq_true_eq, decide_eq_true_eq] at h
  cases a; cases b
  simp only at h
  rw [h.1, h.2]
theorem same_refl (a : L.Pt) : L.same a a = true := by simp [L.same]
theorem ptIdx_of {l : L.Sq L.Pt} {j : Nat} (hj : j < l.n) : ∃ i, i ≤ j ∧ L.ptIdx l (l.g j) = (i : Int) ∧ l.g i = l.g j ∧ ∀ k, k < i → l.g k ≠ l.g j := by
  unfold L.ptIdx
  rcases idx_cases (f := fun i => L.same (l.g j) (l.g i)) (n := l.n) with ⟨_, h2⟩ | ⟨i, h1, h2, h3, h4⟩
  · have := h2 j hj
    rw [same_refl] at this; cases this
  · refine ⟨i, ?_, h2, (same_eq h3).symm, fun k hk e => ?_⟩
    · rcases Nat.lt_or_ge j i with h | h
      · have := h4 j h
        rw [same_refl] at this; cases this
      · exact h
    · have := h4 k hk
      rw [e, same_refl] at this; cases this
theorem cmpPt_lt {a b : L.Pt} : L.cmpPt a b < 0 ↔ a.x < b.x ∨ (a.x = b.x ∧ a.y < b.y) := by
  unfold L.cmpPt L.or2 L.cmp
  by_cases h1 : a.x < b.x
  · simp [h1]
  · by_cases h2 : b.x < a.x
    · simp [h1, h2]; omega
    · by_cases h3 : a.y < b.y
      · simp [h1, h2, h3]; try omega
      · by_cases h4 : b.y < a.y
        · simp [h1, h2, h3, h4]
        · simp [h1, h2, h3, h4]
def s_grow_p (s : Nat) (n : Int) : Prop := 1 ≤ n ∧ n ≤ 2000000
def s_grow_q (s : Nat) (n : Int) : Nat → Prop := fun _ => True
def s_grow_n (s : Nat) (n : Int) : Nat → Nat := fun _ => 0
def s_grow_g (s : Nat) (n : Int) : Nat → Nat → List SV := fun _ _ => []
def s_grow_s : List EV → Option (Prop × (Nat → Prop) × (Nat → Nat) × (Nat → Nat → List SV))
  | [.p (.raw (.slice none 0 0)), .p (.int .i64 n)] => some (s_grow_p (0 : Nat) n, s_grow_q (0 : Nat) n, s_grow_n (0 : Nat) n, s_grow_g (0 : Nat) n)
  | _ => none
abbrev s_grow_S : SE.Spec := (specF Nat 0 30 2 s_grow_s)
def s_grow_C : Cfg := { muts := [22], frz := lookN [], specs := lookS [], loops := lookL [], iters := lookI [], rfs := lookR [], nils := lookM [], cuts := [25] }
theorem s_grow_vc (s : Nat) (n : Int) (hp : s_grow_p s n) : vc Try.prog (s_grow_C) (bodyOf Try.f52) (st0 Try.f52 [.p (.raw (.slice none 0 0)), .p (.int .i64 n)]) (retFresh Try.prog Try.f52 (Nat) (s_grow_q s n) 30 2 (s_grow_n s n) (s_grow_g s n)) :=
  @Eq.mpr _ ((decide (n < (0 : Int)) = true → False) ∧ (decide (n < (0 : Int)) = false → InK .i64 ((↑(0 : Nat) : Int) - (↑(0 : Nat) : Int)) ∧ InK .i64 (n - ((↑(0 : Nat) : Int) - (↑(0 : Nat) : Int))) ∧ (decide ((0 : Int) < n - ((↑(0 : Nat) : Int) - (↑(0 : Nat) : Int))) = true → ((0 : Int) ≤ (0 : Int) ∧ (0 : Int) ≤ (↑(0 : Nat) : Int) ∧
 (↑(0 : Nat) : Int) ≤ (0 : Int)) ∧ ((0 : Int) < n - ((↑(0 : Nat) : Int) - (↑(0 : Nat) : Int)) ∧ (n - ((↑(0 : Nat) : Int) - (↑(0 : Nat) : Int))) * (↑(nat_lit 16) : Int) ≤ (140737488355328 : Int)) ∧ ((0 : Int) ≤ (↑(0 : Nat) : Int) ∧ (↑(0 : Nat) : Int) ≤ (↑(Int.toNat (n - ((↑(0 : Nat) : Int) - (↑(0 : Nat) : Int)))) : Int)) ∧ ∃ (t : Nat), (nat_lit 0 = (0 : Nat) ∧ ∀ (i : Nat), i < nat_lit 0 →
 [SV.int .i64 (0 : Int), SV.int .i64 (0 : Int)] = []) ∧ True) ∧ (decide ((0 : Int) < n - ((↑(0 : Nat) : Int) - (↑(0 : Nat) : Int))) = false → ∃ (t : Nat), (0 : Nat) = (0 : Nat) ∧ True))) (by kernel_rfl) (by
    obtain ⟨h1, h2⟩ := hp
    refine ⟨fun h => ?_, fun _ => ⟨InK.of (by omega) (by omega), InK.of (by omega) (by omega), fun h => ⟨⟨by omega, by omega, by omega⟩, ⟨by omega, show (n - (((0 : Nat) : Int) - ((0 : Nat) : Int))) * 16 ≤ 140737488355328 by omega⟩, ⟨by omega, by omega⟩, (0 : Nat), ⟨rfl, fun i hi => absurd hi (Nat.not_lt_zero _)⟩, trivial⟩, fun h => ⟨(0 : Nat), rfl, trivial⟩⟩⟩
    have := of_decide_eq_true h
    omega)
theorem s_grow_ok : SpecOk Try.prog 52 s_grow_S := freshX Try.func52 (c := bodyOf Try.f52) (by kernel_rfl) mixed (fun args p q n g hs hp => by
  unfold s_grow_s at hs
  split at hs
  · cases hs; exact ⟨_, _, s_grow_vc _ _ hp, (.same _ (.same _ .nil)), ⟨show SpecsL Try.prog _ from SpecsL.nil, rfl, ⟨show ItersL Try.prog _ from ItersL.nil, (TrsOk.none (fun _ => rfl))⟩⟩⟩
  · cases hs)
theorem s_grow_en : Enters Try.prog 52 := fun args w => by kernel_rfl
def s_concat_p (c : (Nat → L.Sq L.Pt)) : Prop := 1 ≤ (c 0).n + (c 1).n ∧ (c 0).n ≤ 1000000 ∧ (c 1).n ≤ 1000000
def s_concat_q (c : (Nat → L.Sq L.Pt)) : Nat → Prop := fun _ => True
def s_concat_n (c : (Nat → L.Sq L.Pt)) : Nat → Nat := fun _ => (L.catTo c 2).n
def s_concat_g (c : (Nat → L.Sq L.Pt)) : Nat → Nat → List SV := fun _ k => [.int .i64 (((L.catTo c 2).g k).x), .int .i64 (((L.catTo c 2).g k).y)]
def s_concat_s : List EV → Option (Prop × (Nat → Prop) × (Nat → Nat) × (Nat → Nat → List SV))
  | [.p (.sl 1 2 c_g)] => some ((rowPt (c_g 0) ∧ rowPt (c_g 1)) ∧ s_concat_p (L.two (ofSqPt (c_g 0)) (ofSqPt (c_g 1))), s_concat_q (L.two (ofSqPt (c_g 0)) (ofSqPt (c_g 1))), s_concat_n (L.two (ofSqPt (c_g 0)) (ofSqPt (c_g 1))), s_concat_g (L.two (ofSqPt (c_g 0)) (ofSqPt (c_g 1))))
  | _ => none
abbrev s_concat_S : SE.Spec := (specF Nat 0 30 2 s_concat_s)
def s_concat_C : Cfg := { muts := [24], frz := lookN [], specs := lookS [(52, s_grow_S)], loops := fun _ => none, iters := lookI [], rfs := lookR [], nils := lookM [], raws := [52] }
theorem s_concat_vc (c : (Nat → L.Sq L.Pt)) (hp : s_concat_p c) : vc Try.prog ({ s_concat_C with loops := lookL [(3, { T := Nat, keep := [0, 9, 10], keepO := [], chg := fun i => [(3, .p (.int .i64 ((L.catTo c i).n : Int))), (11, .p (.int .i64 (i : Int)))], own := fun _ => [], inv := fun i => i ≤ 2, mu := fun i => 2 - i }), (11, { T := Nat, keep := [0, 6, 25, 26], keepO := [], chg := fun i => [(27, .p (.int .i64 (i : Int)))], own := fun i => [(24, .row 30 2 (L.catTo c i).n (fun k => [.int .i64 (((L.catTo c i).g k).x), .int .i64 (((L.catTo c i).g k).y)]))], inv := fun i => i ≤ 2, mu := fun i => 2 - i })], rfs := lookR [] }) (bodyOf Try.f39) (st0 Try.f39 [.p (.sl 1 2 (fun i => [.sl 2 (c i).n (fun k => [.int .i64 ((c i).g k).x, .int .i64 ((c i).g k).y])]))]) (retFresh Try.prog Try.f39 (Nat) (s_concat_q c) 30 2 (s_concat_n c) (s_concat_g c)) :=
  @Eq.mpr _ ((∃ (g : Nat), (0 : Int) = (↑(L.catTo c g).n : Int) ∧ (0 : Int) = (↑g : Int) ∧ g ≤ (2 : Nat)) ∧ ∀ (g : Nat), g ≤ (2 : Nat) → (decide ((↑g : Int) < (↑(nat_lit 2) : Int)) = true → ((0 : Int) ≤ (↑g : Int) ∧ (↑g : Int) < (↑(nat_lit 2) : Int)) ∧ InK .i64 ((↑(L.catTo c g).n : Int) + (↑(c (Int.toNat (↑g : Int))).n : Int)) ∧ (false = true → False) ∧ (false =
 false → InK .i64 ((↑g : Int) + (1 : Int)) ∧ ∃ (g' : Nat), (↑(L.catTo c g).n : Int) + (↑(c (Int.toNat (↑g : Int))).n : Int) = (↑(L.catTo c g').n : Int) ∧ (↑g : Int) + (1 : Int) = (↑g' : Int) ∧ (↑(nat_lit 2) : Int) = (↑(nat_lit 2) : Int) ∧ (nat_lit 2 = nat_lit 2 ∧ ∀ (i : Nat), i < nat_lit 2 → [SV.sl (2 : Nat) (c i).n fun (k : Nat) ↦ [SV.int .i64 ((c i).g
 k).x, SV.int .i64 ((c i).g k).y]] = [SV.sl (2 : Nat) (c i).n fun (k : Nat) ↦ [SV.int .i64 ((c i).g k).x, SV.int .i64 ((c i).g k).y]]) ∧ (nat_lit 2 = nat_lit 2 ∧ ∀ (i : Nat), i < nat_lit 2 → [SV.sl (2 : Nat) (c i).n fun (k : Nat) ↦ [SV.int .i64 ((c i).g k).x, SV.int .i64 ((c i).g k).y]] = [SV.sl (2 :
 Nat) (c i).n fun (k : Nat) ↦ [SV.int .i64 ((c i).g k).x, SV.int .i64 ((c i).g k).y]]) ∧ g' ≤ (2 : Nat) ∧ (2 : Nat) - g' < (2 : Nat) - g)) ∧ (decide ((↑g : Int) < (↑(nat_lit 2) : Int)) = false → ((1 : Int) ≤ (↑(L.catTo c g).n : Int) ∧ (↑(L.catTo c g).n : Int) ≤ (2000000 : Int)) ∧ ∀ (t : Nat), True → (∃ (g : Nat), (0 : Int) = (↑g : Int) ∧ ((0 : Nat) =
 (L.catTo c g).n ∧ ∀ (i : Nat), i < (0 : Nat) → [] = [SV.int .i64 ((L.catTo c g).g i).x, SV.int .i64 ((L.catTo c g).g i).y]) ∧ g ≤ (2 : Nat)) ∧ ∀ (g_1 : Nat), g_1 ≤ (2 : Nat) → (decide ((↑g_1 : Int) < (↑(nat_lit 2) : Int)) = true → ((0 : Int) ≤ (↑g_1 : Int) ∧ (↑g_1 : Int) < (↑(nat_lit 2) : Int)) ∧ ((L.catTo c g_1).n + (c (Int.toNat (↑g_1 : Int))).n) *
 nat_lit 16 ≤ (140737488355328 : Nat) ∧ InK .i64 ((↑g_1 : Int) + (1 : Int)) ∧ ∃ (g' : Nat), (↑g_1 : Int) + (1 : Int) = (↑g' : Int) ∧ (↑(nat_lit 2) : Int) = (↑(nat_lit 2) : Int) ∧ (nat_lit 2 = nat_lit 2 ∧ ∀ (i : Nat), i < nat_lit 2 → [SV.sl (2 : Nat) (c i).n fun (k : Nat) ↦ [SV.int .i64 ((c i).g k).x, SV.int .i64 ((c i).g k).y]] = [SV.sl (2
 : Nat) (c i).n fun (k : Nat) ↦ [SV.int .i64 ((c i).g k).x, SV.int .i64 ((c i).g k).y]]) ∧ (nat_lit 2 = nat_lit 2 ∧ ∀ (i : Nat), i < nat_lit 2 → [SV.sl (2 : Nat) (c i).n fun (k : Nat) ↦ [SV.int .i64 ((c i).g k).x, SV.int .i64 ((c i).g k).y]] = [SV.sl (2 : Nat) (c i).n fun (k : Nat) ↦ [SV.int .i64 ((c i).g
 k).x, SV.int .i64 ((c i).g k).y]]) ∧ ((L.catTo c g_1).n + (c (Int.toNat (↑g_1 : Int))).n = (L.catTo c g').n ∧ ∀ (i : Nat), i < (L.catTo c g_1).n + (c (Int.toNat (↑g_1 : Int))).n → appGet (L.catTo c g_1).n (fun (k : Nat) ↦ [SV.int .i64 ((L.catTo c g_1).g k).x, SV.int .i64 ((L.catTo c g_1).g k).y]) (fun (k : Nat) ↦ [SV.int .i64
 ((c (Int.toNat (↑g_1 : Int))).g k).x, SV.int .i64 ((c (Int.toNat (↑g_1 : Int))).g k).y]) i = [SV.int .i64 ((L.catTo c g').g i).x, SV.int .i64 ((L.catTo c g').g i).y]) ∧ g' ≤ (2 : Nat) ∧ (2 : Nat) - g' < (2 : Nat) - g_1) ∧ (decide ((↑g_1 : Int) < (↑(nat_lit 2) : Int)) = false → ∃ (t : Nat), ((L.catTo c g_1).n = (L.catTo c (2 : Nat)).n ∧
 ∀ (i : Nat), i < (L.catTo c g_1).n → [SV.int .i64 ((L.catTo c g_1).g i).x, SV.int .i64 ((L.catTo c g_1).g i).y] = [SV.int .i64 ((L.catTo c (2 : Nat)).g i).x, SV.int .i64 ((L.catTo c (2 : Nat)).g i).y]) ∧ True))) (by kernel_rfl) (by
    obtain ⟨h1, h2, h3⟩ := hp
    have hc : ∀ i, i < 2 → (c i).n ≤ 1000000 := fun i hi => by
      match i, hi with
      | 0, _ => exact h2
      | 1, _ => exact h3
    have e1 : (L.catTo c 1).n = 0 + (c 0).n := rfl
    have e2 : (L.catTo c 2).n = 0 + (c 0).n + (c 1).n := rfl
    have ht : ∀ i, i ≤ 2 → (L.catTo c i).n ≤ 2000000 := fun i hi => by
      match i, hi with
      | 0, _ => exact Nat.zero_le _
      | 1, _ => omega
      | 2, _ => omega
    refine ⟨⟨(0 : Nat), rfl, rfl, Nat.zero_le _⟩, fun g hg => ⟨fun hlt => ?_, fun hge => ?_⟩⟩
    · have hb : (g : Int) < 2 := of_decide_eq_true hlt
      have e0 : ((g : Int)).toNat = g := by omega
      have hcg := hc g (by omega)
      have htg := ht g hg
      rw [e0]
      exact ⟨⟨by omega, hb⟩, InK.of (by omega) (by omega), fun h => Bool.false_ne_true h, fun _ => ⟨InK.of (by omega) (by omega), g + 1, by show ((L.catTo c g).n : Int) + ((c g).n : Int) = (((L.catTo c g).n + (c g).n : Nat) : Int); omega, by omega, rfl, ⟨rfl, fun _ _ => rfl⟩, ⟨rfl, fun _ _ => rfl⟩, by omega, by omega⟩⟩
    · have hb : ¬ (g : Int) < 2 := of_decide_eq_false hge
      obtain rfl : g = 2 := by omega
      refine ⟨⟨by omega, by omega⟩, fun _ _ => ⟨⟨(0 : Nat), rfl, ⟨rfl, fun i hi => absurd hi (Nat.not_lt_zero _)⟩, Nat.zero_le _⟩, fun k hk => ⟨fun hlt => ?_, fun hge => ?_⟩⟩⟩
      · have hb : (k : Int) < 2 := of_decide_eq_true hlt
        have e0 : ((k : Int)).toNat = k := by omega
        have hck := hc k (by omega)
        have htk := ht k hk
        rw [e0]
        refine ⟨⟨by omega, hb⟩, show ((L.catTo c k).n + (c k).n) * 16 ≤ 140737488355328 by omega, InK.of (by omega) (by omega), k + 1, by omega, rfl, ⟨rfl, fun _ _ => rfl⟩, ⟨rfl, fun _ _ => rfl⟩, ⟨rfl, fun i hi => ?_⟩, by omega, by omega⟩
        unfold appGet
        by_cases h : i < (L.catTo c k).n
        · have w : (L.catTo c (k + 1)).g i = (L.catTo c k).g i := by
            show (bif decide (i < (L.catTo c k).n) then _ else _) = _
            rw [decide_eq_true h]; rfl
          rw [if_pos h, w]
        · have w : (L.catTo c (k + 1)).g i = (c k).g (i - (L.catTo c k).n) := by
            show (bif decide (i < (L.catTo c k).n) then _ else _) = _
            rw [decide_eq_false h]; rfl
          rw [if_neg h, w]
      · have hb : ¬ (k : Int) < 2 := of_decide_eq_false hge
        obtain rfl : k = 2 := by omega
        exact ⟨(0 : Nat), ⟨rfl, fun _ _ => rfl⟩, trivial⟩)
theorem s_concat_ok : SpecOk Try.prog 39 s_concat_S := freshX Try.func39 (c := bodyOf Try.f39) (by kernel_rfl) mixed (fun args p q n g hs hp => by
  unfold s_concat_s at hs
  split at hs
  · cases hs; exact ⟨_, _, s_concat_vc _ hp.2, (.p (rows_ext hp.1) .nil), ⟨show SpecsL Try.prog _ from (SpecsL.cons s_grow_ok s_grow_en SpecsL.nil), rfl, ⟨show ItersL Try.prog _ from ItersL.nil, (TrsOk.none (fun _ => rfl))⟩⟩⟩
  · cases hs)
theorem s_concat_en : Enters Try.prog 39 := fun args w => by kernel_rfl
abbrev s_revP_tr : Tr := { T := (L.Sq L.Pt), U := Nat, args := fun t => (fun l => [.row 1005]) t, own := fun t => (fun l => [(1005, .row 30 2 l.n (fun k => [.int .i64 ((l.g k).x), .int .i64 ((l.g k).y)]))]) t, pre := fun t => (fun l => l.n ≤ 1000000) t, post := fun t u => (fun l => fun u => True) t u, own' := fun t u => (fun l => fun u => [(1005, .row 30 2 l.n (fun k => [.int .i64 ((l.g (l.n - 1 - k)).x), .int .i64 ((l.g (l.n - 1 - k)).y)]))]) t u, res := fun t u => (fun l => fun u => .p (.tup [])) t u }
theorem s_revP_vc (l : L.Sq L.Pt) (hp : s_revP_tr.pre l) : vc Try.prog ({ muts := [], frz := lookN [], specs := lookS [], loops := lookL [(1, { T := Nat, keep := [0], keepO := [], chg := fun i => [(2, .p (.int .i64 (i : Int))), (3, .p (.int .i64 ((l.n : Int) - 1 - (i : Int))))], own := fun i => [(1005, .row 30 2 l.n (fun k => [.int .i64 ((L.revTo l i k).x), .int .i64 ((L.revTo l i k).y)]))], inv := fun i => 2 * i ≤ l.n, mu := fun i => l.n - i })], iters := lookI [], rfs := lookR [], nils := lookM [] }) (bodyOf Try.f38) (stTr Try.f38 (s_revP_tr.args l) (s_revP_tr.own l)) (retTr Try.prog Try.f38 s_revP_tr l) :=
  @Eq.mpr _ (InK .i64 ((↑l.n : Int) - (1 : Int)) ∧ (∃ (g : Nat), (0 : Int) = (↑g : Int) ∧ (↑l.n : Int) - (1 : Int) = (↑l.n : Int) - (1 : Int) - (↑g : Int) ∧ (l.n = l.n ∧ ∀ (i : Nat), i < l.n → [SV.int .i64 (l.g i).x, SV.int .i64 (l.g i).y] = [SV.int .i64 (L.revTo l g i).x, SV.int .i64 (L.revTo l g i).y]) ∧ (2 : Nat) * g ≤ l.n) ∧ ∀
 (g : Nat), (2 : Nat) * g ≤ l.n → (decide ((↑g : Int) < (↑l.n : Int) - (1 : Int) - (↑g : Int)) = true → ((0 : Int) ≤ (↑l.n : Int) - (1 : Int) - (↑g : Int) ∧ (↑l.n : Int) - (1 : Int) - (↑g : Int) < (↑l.n : Int)) ∧ Int.toNat ((↑l.n : Int) - (1 : Int) - (↑g : Int)) < l.n ∧ ((0 : Int) ≤ (↑g : Int) ∧ (↑g : Int) < (↑l.n : Int)) ∧ Int.toNat (↑g : Int) < l.n ∧ ((0 : Int) ≤ (↑g : Int) ∧ (↑g :
 Int) < (↑l.n : Int)) ∧ Int.toNat (↑g : Int) < l.n ∧ ((0 : Int) ≤ (↑l.n : Int) - (1 : Int) - (↑g : Int) ∧ (↑l.n : Int) - (1 : Int) - (↑g : Int) < (↑l.n : Int)) ∧ Int.toNat ((↑l.n : Int) - (1 : Int) - (↑g : Int)) < l.n ∧ InK .i64 ((↑g : Int) + (1 : Int)) ∧ InK .i64 ((↑l.n : Int) - (1 : Int) - (↑g : Int) - (1 : Int)) ∧ ∃ (g' : Nat), (↑g : Int) + (1 : Int) = (↑g' : Int)
 ∧ (↑l.n : Int) - (1 : Int) - (↑g : Int) - (1 : Int) = (↑l.n : Int) - (1 : Int) - (↑g' : Int) ∧ (l.n = l.n ∧ ∀ (i : Nat), i < l.n → setRow (setRow (fun (k : Nat) ↦ [SV.int .i64 (L.revTo l g k).x, SV.int .i64 (L.revTo l g k).y]) (Int.toNat (↑g : Int)) (nat_lit 0) [SV.int .i64 (L.revTo l g (Int.toNat ((↑l.n : Int) - (1 : Int) - (↑g :
 Int)))).x, SV.int .i64 (L.revTo l g (Int.toNat ((↑l.n : Int) - (1 : Int) - (↑g : Int)))).y]) (Int.toNat ((↑l.n : Int) - (1 : Int) - (↑g : Int))) (nat_lit 0) [SV.int .i64 (L.revTo l g (Int.toNat (↑g : Int))).x, SV.int .i64 (L.revTo l g (Int.toNat (↑g : Int))).y] i = [SV.int .i64 (L.revTo l g' i).x, SV.int .i64 (L.revTo
 l g' i).y]) ∧ (2 : Nat) * g' ≤ l.n ∧ l.n - g' < l.n - g) ∧ (decide ((↑g : Int) < (↑l.n : Int) - (1 : Int) - (↑g : Int)) = false → ∃ (u : Nat), (l.n = l.n ∧ ∀ (i : Nat), i < l.n → [SV.int .i64 (L.revTo l g i).x, SV.int .i64 (L.revTo l g i).y] = [SV.int .i64 (l.g (l.n - (1 : Nat) - i)).x, SV.int .i64 (l.g (l.n - (1 : Nat)
 - i)).y]) ∧ True)) (by kernel_rfl) (by
    have hn : l.n ≤ 1000000 := hp
    refine ⟨InK.of (by omega) (by omega), ⟨(0 : Nat), rfl, by omega, ⟨rfl, fun i hi => ?_⟩, Nat.zero_le _⟩, fun g hg => ⟨fun hlt => ?_, fun hge => ?_⟩⟩
    · have hi : i < l.n := hi
      have w : L.revTo l 0 i = l.g i := by unfold L.revTo; rw [decide_eq_false (Nat.not_lt_zero _), decide_eq_false (by omega)]; rfl
      rw [w]
    · have hb : (g : Int) < (l.n : Int) - 1 - (g : Int) := of_decide_eq_true hlt
      have e0 : ((g : Int)).toNat = g := by omega
      have e1 : ((l.n : Int) - 1 - (g : Int)).toNat = l.n - 1 - g := by omega
      rw [e0, e1]
      refine ⟨⟨by omega, by omega⟩, by omega, ⟨by omega, by omega⟩, by omega, ⟨by omega, by omega⟩, by omega, ⟨by omega, by omega⟩, by omega, InK.of (by omega) (by omega), InK.of (by omega) (by omega), g + 1, by omega, by omega, ⟨rfl, fun i hi => ?_⟩, by omega, by omega⟩
      have hi : i < l.n := hi
      have r0 : ∀ k, ¬ k < g → ¬ l.n ≤ k + g → L.revTo l g k = l.g k := fun k h1 h2 => by
        unfold L.revTo; rw [decide_eq_false h1, decide_eq_false h2]; rfl
      have r1 : ∀ j k, k < j ∨ l.n ≤ k + j → L.revTo l j k = l.g (l.n - 1 - k) := fun j k h => by
        unfold L.revTo
        rcases h with h | h
        · rw [decide_eq_true h]; rfl
        · rw [decide_eq_true h, Bool.or_true]; rfl
      unfold setRow
      by_cases c1 : i = l.n - 1 - g
      · subst c1
        rw [if_pos rfl, r0 g (by omega) (by omega), r1 (g + 1) _ (.inr (by omega)), show l.n - 1 - (l.n - 1 - g) = g by omega]
        rw [if_neg (show ¬ (l.n - 1 - g = g) by omega)]
        rfl
      · rw [if_neg c1]
        by_cases c2 : i = g
        · subst c2
          rw [if_pos rfl, r0 (l.n - 1 - i) (by omega) (by omega), r1 (i + 1) i (.inl (by omega))]
          rfl
        · rw [if_neg c2]
          dsimp only
          by_cases c3 : i < g ∨ l.n ≤ i + g
          · rw [r1 g i c3, r1 (g + 1) i (by omega)]
          · rw [r0 i (by omega) (by omega)]
            have : L.revTo l (g + 1) i = l.g i := by
              unfold L.revTo; rw [decide_eq_false (by omega), decide_eq_false (by omega)]; rfl
            rw [this]
    · have hb : ¬ (g : Int) < (l.n : Int) - 1 - (g : Int) := of_decide_eq_false hge
      refine ⟨(0 : Nat), ⟨rfl, fun i hi => ?_⟩, trivial⟩
      have hi : i < l.n := hi
      have w : L.revTo l g i = l.g (l.n - 1 - i) := by
        unfold L.revTo
        by_cases c1 : i < g
        · rw [decide_eq_true c1]; rfl
        · by_cases c2 : l.n ≤ i + g
          · rw [decide_eq_true c2, Bool.or_true]; rfl
          · rw [decide_eq_false c1, decide_eq_false c2, show l.n - 1 - i = i by omega]; rfl
      rw [w])
theorem s_revP_en : Enters Try.prog 38 := fun args w => by kernel_rfl
theorem s_revP_tok : TrOk Try.prog 38 s_revP_tr := tr_ok (ks := [1005]) (n := 1) Try.func38 (c := bodyOf Try.f38) (by kernel_rfl) mixed ⟨fun t => rfl, fun t => rfl, fun t u => rfl, fun t u => rfl, fun t u => rfl, by kernel_rfl⟩ (fun l hp => ⟨_, s_revP_vc l hp, ⟨show SpecsL Try.prog _ from SpecsL.nil, rfl, ⟨show ItersL Try.prog _ from ItersL.nil, (TrsOk.none (fun _ => rfl))⟩⟩⟩)
def s_idxPt_p (l : (L.Sq L.Pt)) (v : L.Pt) : Prop := l.n ≤ 1000000
def s_idxPt_r (l : (L.Sq L.Pt)) (v : L.Pt) : SV := .int .i64 (L.ptIdx l v)
def s_idxPt_s : List EV → Option (Prop × SV)
  | [.p (.sl 2 l_n l_g), .p (.agg [.int .i64 v_x, .int .i64 v_y])] => some ((∀ i, i < l_n → l_g i = [.int .i64 ((ofPt (l_g i)).x), .int .i64 ((ofPt (l_g i)).y)]) ∧ s_idxPt_p (⟨l_n, fun i => ofPt (l_g i)⟩ : (L.Sq L.Pt)) (⟨v_x, v_y⟩ : L.Pt), s_idxPt_r (⟨l_n, fun i => ofPt (l_g i)⟩ : (L.Sq L.Pt)) (⟨v_x, v_y⟩ : L.Pt))
  | _ => none
abbrev s_idxPt_S : SE.Spec := (specO s_idxPt_s)
def s_idxPt_C : Cfg := { muts := [], frz := lookN [], specs := lookS [], loops := fun _ => none, iters := lookI [], rfs := lookR [], nils := lookM [] }
theorem s_idxPt_vc (l : (L.Sq L.Pt)) (v : L.Pt) (hp : s_idxPt_p l v) : vc Try.prog ({ s_idxPt_C with loops := lookL [(2, { T := Nat, keep := [0, 3, 6, 7], keepO := [], chg := fun i => [(8, .p (.int .i64 i))], own := fun _ => [], inv := fun i => i ≤ l.n ∧ (∀ j, j < i → L.same v (l.g j) = false), mu := fun i => l.n - i })], rfs := lookR [] }) (bodyOf Try.f19) (st0 Try.f19 [.p (.sl 2 l.n (fun i => [.int .i64 ((l.g i).x), .int .i64 ((l.g i).y)])), .p (.agg [.int .i64 v.x, .int .i64 v.y])]) (retFn Try.prog Try.f19 (s_idxPt_r l v)) :=
  @Eq.mpr _ ((∃ (g : Nat), (0 : Int) = (↑g : Int) ∧ g ≤ l.n ∧ ∀ (j : Nat), j < g → L.same v (l.g j) = false) ∧ ∀ (g : Nat), (g ≤ l.n ∧ ∀ (j : Nat), j < g → L.same v (l.g j) = false) → (decide ((↑g : Int) < (↑l.n : Int)) = true → ((0 : Int) ≤ (↑g : Int) ∧ (↑g : Int) < (↑l.n : Int)) ∧ ((decide (v.x = (l.g (Int.toNat (↑g : Int))).x) && decide (v.y = (l.g (Int.toNat (↑g
 : Int))).y)) = true → (↑g : Int) = L.ptIdx l v) ∧ ((decide (v.x = (l.g (Int.toNat (↑g : Int))).x) && decide (v.y = (l.g (Int.toNat (↑g : Int))).y)) = false → InK .i64 ((↑g : Int) + (1 : Int)) ∧ ∃ (g' : Nat), (↑g : Int) + (1 : Int) = (↑g' : Int) ∧ (↑l.n : Int) = (↑l.n : Int) ∧ (l.n = l.n ∧ ∀ (i : Nat), i < l.n → [SV.int .i64 (l.g i).x,
 SV.int .i64 (l.g i).y] = [SV.int .i64 (l.g i).x, SV.int .i64 (l.g i).y]) ∧ SV.ref [SV.int .i64 v.x, SV.int .i64 v.y] (nat_lit 0) = SV.ref [SV.int .i64 v.x, SV.int .i64 v.y] (nat_lit 0) ∧ (l.n = l.n ∧ ∀ (i : Nat), i < l.n → [SV.int .i64 (l.g i).x, SV.int
 .i64 (l.g i).y] = [SV.int .i64 (l.g i).x, SV.int .i64 (l.g i).y]) ∧ (g' ≤ l.n ∧ ∀ (j : Nat), j < g' → L.same v (l.g j) = false) ∧ l.n - g' < l.n - g)) ∧ (decide ((↑g : Int) < (↑l.n : Int)) = false → (-1 : Int) = L.ptIdx l v)) (by kernel_rfl) (by
    have hn : l.n ≤ 1000000 := hp
    refine ⟨⟨(0 : Nat), rfl, Nat.zero_le _, fun j hj => absurd hj (Nat.not_lt_zero _)⟩, fun g hg => ⟨fun hlt => ?_, fun hge => ?_⟩⟩
    · have hb : (g : Int) < (l.n : Int) := of_decide_eq_true hlt
      have e0 : ((g : Int)).toNat = g := by omega
      rw [e0]
      refine ⟨⟨by omega, hb⟩, fun h => ?_, fun h => ?_⟩
      · have h : L.same v (l.g g) = true := h
        exact (idx_at (f := fun i => L.same v (l.g i)) hg.2 h (by omega)).symm
      · have h : L.same v (l.g g) = false := h
        exact ⟨InK.of (by omega) (by omega), g + 1, by omega, rfl, ⟨rfl, fun _ _ => rfl⟩, rfl, ⟨rfl, fun _ _ => rfl⟩, ⟨by omega, fun j hj => by
          rcases Nat.lt_succ_iff_lt_or_eq.1 hj with h' | rfl
          · exact hg.2 j h'
          · exact h⟩, by omega⟩
    · have hb : ¬ (g : Int) < (l.n : Int) := of_decide_eq_false hge
      exact (idx_none (f := fun i => L.same v (l.g i)) (fun j hj => hg.2 j (by omega))).symm)
theorem s_idxPt_ok : SpecOk Try.prog 19 s_idxPt_S := fnX Try.func19 (c := bodyOf Try.f19) (by kernel_rfl) mixed (fun args p r hs hp => by
  unfold s_idxPt_s at hs
  split at hs
  · cases hs; exact ⟨_, _, s_idxPt_vc _ _ hp.2, (.p (.sl hp.1) (.same _ .nil)), ⟨show SpecsL Try.prog _ from SpecsL.nil, rfl, ⟨show ItersL Try.prog _ from ItersL.nil, (TrsOk.none (fun _ => rfl))⟩⟩⟩
  · cases hs)
theorem s_idxPt_en : Enters Try.prog 19 := fun args w => by kernel_rfl
end Go.Proofs.Ytinfalehnaejbaa

namespace Go.Proofs.Ytinfalehnaejbaa
open Go.SE Go.RowKit
set_option maxRecDepth 100000
set_option maxHeartbeats 4000000
set_option linter.unusedVariables false
attribute [local irreducible] vc

def L.mem (ks : L.Sq L.Pt) (p : L.Pt) : Prop := ∃ i, i < ks.n ∧ ks.g i = p
def L.nod (ks : L.Sq L.Pt) : Prop := ∀ i j, i < ks.n → j < ks.n → ks.g i = ks.g j → i = j
theorem has_iff {ks : L.Sq L.Pt} {p : L.Pt} : L.has ks p = true ↔ L.mem ks p := by
  unfold L.has L.mem
  rw [anyB_iff]
  exact ⟨fun ⟨i, h1, h2⟩ => ⟨i, h1, (same_eq h2).symm⟩, fun ⟨i, h1, h2⟩ => ⟨i, h1, by rw [h2]; exact same_refl p⟩⟩
theorem put_mem {ks : L.Sq L.Pt} {p q : L.Pt} : L.mem (L.put ks p) q ↔ L.mem ks q ∨ q = p := by
  unfold L.put
  cases h : L.has ks p with
  | true =>
    rw [cond_true]
    exact ⟨.inl, fun h' => by rcases h' with h' | rfl; exact h'; exact has_iff.1 h⟩
  | false =>
    rw [cond_false]
    constructor
    · rintro ⟨i, h1, h2⟩
      dsimp only at h1 h2
      by_cases hi : i < ks.n
      · rw [if_pos hi] at h2; exact .inl ⟨i, hi, h2⟩
      · rw [if_neg hi] at h2; exact .inr h2.symm
    · rintro (⟨i, h1, h2⟩ | rfl)
      · exact ⟨i, Nat.lt_succ_of_lt h1, by dsimp only; rw [if_pos h1]; exact h2⟩
      · exact ⟨ks.n, Nat.lt_succ_self _, by dsimp only; rw [if_neg (Nat.lt_irrefl _)]⟩
theorem put_nod {ks : L.Sq L.Pt} {p : L.Pt} (h : L.nod ks) : L.nod (L.put ks p) := by
  unfold L.put
  cases hp : L.has ks p with
  | true => exact h
  | false =>
    have hno : ∀ i, i < ks.n → ks.g i ≠ p := fun i hi e => by
      rw [has_iff.2 ⟨i, hi, e⟩] at hp; cases hp
    rw [cond_false]
    intro i j hi hj e
    dsimp only at hi hj e
    by_cases h1 : i < ks.n <;> by_cases h2 : j < ks.n
    · rw [if_pos h1, if_pos h2] at e; exact h i j h1 h2 e
    · rw [if_pos h1, if_neg h2] at e; exact absurd e (hno i h1)
    · rw [if_neg h1, if_pos h2] at e; exact absurd e.symm (hno j h2)
    · omega
theorem putIf_mem {c : Bool} {ks : L.Sq L.Pt} {p q : L.Pt} : L.mem (L.putIf c ks p) q ↔ L.mem ks q ∨ (c = true ∧ q = p) := by
  unfold L.putIf
  cases c with
  | true => rw [cond_true, put_mem]; exact ⟨fun h => h.imp id (fun e => ⟨rfl, e⟩), fun h => h.imp id (fun e => e.2)⟩
  | false => rw [cond_false]; exact ⟨.inl, fun h => by rcases h with h | h; exact h; exact absurd h.1 Bool.false_ne_true⟩
theorem putIf_nod {c : Bool} {ks : L.Sq L.Pt} {p : L.Pt} (h : L.nod ks) : L.nod (L.putIf c ks p) := by
  unfold L.putIf
  cases c with
  | true => exact put_nod h
  | false => exact h
def L.S (a b c d q : L.Pt) : Prop := (L.on c d a = true ∧ q = a) ∨ (L.on c d b = true ∧ q = b) ∨ (L.on a b c = true ∧ q = c) ∨ (L.on a b d = true ∧ q = d)
theorem no_mem {q : L.Pt} : ¬ L.mem L.no q := fun ⟨_, h, _⟩ => absurd h (Nat.not_lt_zero _)
theorem k2_mem {a b c d q : L.Pt} : L.mem (L.k2 a b c d 2) q ↔ L.S a b c d q := by
  show L.mem (L.putIf (L.on a b d) (L.putIf (L.on a b c) (L.putIf (L.on c d b) (L.putIf (L.on c d a) L.no a) b) c) d) q ↔ _
  rw [putIf_mem, putIf_mem, putIf_mem, putIf_mem]
  unfold L.S
  have := no_mem (q := q)
  constructor
  · rintro ((((h | h) | h) | h) | h)
    · exact absurd h this
    · exact .inl h
    · exact .inr (.inl h)
    · exact .inr (.inr (.inl h))
    · exact .inr (.inr (.inr h))
  · rintro (h | h | h | h)
    · exact .inl (.inl (.inl (.inr h)))
    · exact .inl (.inl (.inr h))
    · exact .inl (.inr h)
    · exact .inr h
theorem k2_nod {a b c d : L.Pt} : L.nod (L.k2 a b c d 2) := by
  show L.nod (L.putIf (L.on a b d) (L.putIf (L.on a b c) (L.putIf (L.on c d b) (L.putIf (L.on c d a) L.no a) b) c) d)
  exact putIf_nod (putIf_nod (putIf_nod (putIf_nod (fun i j hi => absurd hi (Nat.not_lt_zero _)))))
theorem n_two {ks : L.Sq L.Pt} (h : L.nod ks) : 1 < ks.n ↔ ∃ p q, L.mem ks p ∧ L.mem ks q ∧ p ≠ q := by
  constructor
  · intro h1
    refine ⟨ks.g 0, ks.g 1, ⟨0, by omega, rfl⟩, ⟨1, h1, rfl⟩, fun e => ?_⟩
    have := h 0 1 (by omega) h1 e
    omega
  · rintro ⟨p, q, ⟨i, hi, rfl⟩, ⟨j, hj, rfl⟩, hne⟩
    have : i ≠ j := fun e => hne (by rw [e])
    omega
theorem n_pos {ks : L.Sq L.Pt} : 0 < ks.n ↔ ∃ p, L.mem ks p :=
  ⟨fun h => ⟨ks.g 0, 0, h, rfl⟩, fun ⟨_, i, hi, _⟩ => by omega⟩
theorem meet_map {a b c d a' b' c' d' : L.Pt} (T : L.Pt → L.Pt) (inj : ∀ p q, T p = T q → p = q) (hS : ∀ q, L.S a' b' c' d' q ↔ ∃ p, L.S a b c d p ∧ T p = q)
    (hA : (L.apart a' b' c' d' && L.apart c' d' a' b') = (L.apart a b c d && L.apart c d a b)) : L.meet a' b' c' d' = L.meet a b c d := by
  have h2 : 1 < (L.k2 a' b' c' d' 2).n ↔ 1 < (L.k2 a b c d 2).n := by
    rw [n_two k2_nod, n_two k2_nod]
    constructor
    · rintro ⟨p, q, hp, hq, hne⟩
      rw [k2_mem, hS] at hp hq
      obtain ⟨p0, hp, rfl⟩ := hp
      obtain ⟨q0, hq, rfl⟩ := hq
      exact ⟨p0, q0, k2_mem.2 hp, k2_mem.2 hq, fun e => hne (by rw [e])⟩
    · rintro ⟨p, q, hp, hq, hne⟩
      exact ⟨T p, T q, k2_mem.2 ((hS _).2 ⟨p, k2_mem.1 hp, rfl⟩), k2_mem.2 ((hS _).2 ⟨q, k2_mem.1 hq, rfl⟩), fun e => hne (inj _ _ e)⟩
  have h0 : 0 < (L.k2 a' b' c' d' 2).n ↔ 0 < (L.k2 a b c d 2).n := by
    rw [n_pos, n_pos]
    constructor
    · rintro ⟨p, hp⟩
      rw [k2_mem, hS] at hp
      obtain ⟨p0, hp, rfl⟩ := hp
      exact ⟨p0, k2_mem.2 hp⟩
    · rintro ⟨p, hp⟩
      exact ⟨T p, k2_mem.2 ((hS _).2 ⟨p, k2_mem.1 hp, rfl⟩)⟩
  unfold L.meet
  rw [band, band, hA]
  have e1 : decide (1 < ((L.k2 a' b' c' d' 2).n : Int)) = decide (1 < ((L.k2 a b c d 2).n : Int)) := by rw [decide_eq_decide]; omega
  have e2 : decide (((L.k2 a' b' c' d' 2).n : Int) = 1) = decide (((L.k2 a b c d 2).n : Int) = 1) := by rw [decide_eq_decide]; omega
  rw [e1, e2]
theorem meet_none {a b c d : L.Pt} (h : L.meet a b c d = 0) (q : L.Pt) : ¬ L.S a b c d q := fun hS => by
  have h0 := n_pos.2 ⟨q, k2_mem.2 hS⟩
  unfold L.meet at h
  by_cases h1 : 1 < ((L.k2 a b c d 2).n : Int)
  · rw [decide_eq_true h1] at h; cases h
  · rw [decide_eq_false h1, decide_eq_true (show ((L.k2 a b c d 2).n : Int) = 1 by omega)] at h; cases h
theorem meet_swap (a b c d : L.Pt) : L.meet c d a b = L.meet a b c d := by
  refine meet_map id (fun _ _ h => h) (fun q => ?_) (Bool.and_comm _ _)
  unfold L.S
  constructor
  · rintro (h | h | h | h)
    · exact ⟨q, .inr (.inr (.inl h)), rfl⟩
    · exact ⟨q, .inr (.inr (.inr h)), rfl⟩
    · exact ⟨q, .inl h, rfl⟩
    · exact ⟨q, .inr (.inl h), rfl⟩
  · rintro ⟨p, h, rfl⟩
    rcases h with h | h | h | h
    · exact .inr (.inr (.inl h))
    · exact .inr (.inr (.inr h))
    · exact .inl h
    · exact .inr (.inl h)
end Go.Proofs.Ytinfalehnaejbaa

namespace Go.Proofs.Ytinfalehnaejbaa
open Go.SE Go.RowKit
set_option maxRecDepth 100000
set_option maxHeartbeats 4000000
set_option linter.unusedVariables false
attribute [local irreducible] vc

instance : Inhabited L.Pt := ⟨⟨0, 0⟩⟩
def L.lePt (a b : L.Pt) : Prop := L.cmpPt a b ≤ 0
theorem cmpPt_le {a b : L.Pt} : L.cmpPt a b ≤ 0 ↔ a.x < b.x ∨ (a.x = b.x ∧ a.y ≤ b.y) := by
  unfold L.cmpPt L.or2 L.cmp
  by_cases h1 : a.x < b.x
  · simp [h1]
  · by_cases h2 : b.x < a.x
    · simp [h1, h2]; omega
    · by_cases h3 : a.y < b.y
      · simp [h1, h2, h3]; omega
      · by_cases h4 : b.y < a.y
        · simp [h1, h2, h3, h4]; try omega
        · simp [h1, h2, h3, h4]; try omega
theorem swoPt : Go.Sort.SWO (Go.Proofs.ltOf L.cmpPt) := by
  have k : ∀ x y, Go.Proofs.ltOf L.cmpPt x y = true ↔ (x.x < y.x ∨ (x.x = y.x ∧ x.y < y.y)) := fun x y => by
    unfold Go.Proofs.ltOf; rw [decide_eq_true_iff]; exact cmpPt_lt
  have kf : ∀ x y, Go.Proofs.ltOf L.cmpPt x y = false ↔ ¬ (x.x < y.x ∨ (x.x = y.x ∧ x.y < y.y)) := fun x y => by
    rw [← k, Bool.not_eq_true]
  refine ⟨fun x => ?_, fun x y z => ?_, fun x y z => ?_⟩
  · rw [kf]; omega
  · simp only [k]; omega
  · simp only [kf]; omega
def L.insPt (p : L.Pt) : List L.Pt → List L.Pt
  | [] => [p]
  | q :: r => bif decide (L.cmpPt p q ≤ 0) then p :: q :: r else q :: L.insPt p r
def L.isortPt : List L.Pt → List L.Pt
  | [] => []
  | p :: r => L.insPt p (L.isortPt r)
def L.listPt (l : L.Sq L.Pt) : List L.Pt := (List.range l.n).map l.g
def L.sorted (l : L.Sq L.Pt) : L.Sq L.Pt := ⟨l.n, fun k => (L.isortPt (L.listPt l)).getD k ⟨0, 0⟩⟩
theorem lePt_total (a b : L.Pt) : L.lePt a b ∨ L.lePt b a := by unfold L.lePt; simp only [cmpPt_le]; omega
theorem lePt_trans {a b c : L.Pt} (h : L.lePt a b) (k : L.lePt b c) : L.lePt a c := by unfold L.lePt at *; simp only [cmpPt_le] at *; omega
theorem lePt_anti {a b : L.Pt} (h : L.lePt a b) (k : L.lePt b a) : a = b := by
  unfold L.lePt at *; simp only [cmpPt_le] at *
  obtain ⟨ax, ay⟩ := a; obtain ⟨bx, by'⟩ := b
  simp only at h k
  obtain rfl : ax = bx := by omega
  obtain rfl : ay = by' := by omega
  rfl
theorem insPt_perm (p : L.Pt) : ∀ l, (L.insPt p l).Perm (p :: l)
  | [] => .refl _
  | q :: r => by
    unfold L.insPt
    cases decide (L.cmpPt p q ≤ 0) with
    | true => exact .refl _
    | false => exact ((insPt_perm p r).cons q).trans (.swap p q r)
theorem isortPt_perm : ∀ l, (L.isortPt l).Perm l
  | [] => .refl _
  | p :: r => (insPt_perm p _).trans ((isortPt_perm r).cons p)
theorem insPt_asc {p : L.Pt} : ∀ {l}, l.Pairwise L.lePt → (L.insPt p l).Pairwise L.lePt
  | [], _ => List.pairwise_singleton _ _
  | q :: r, h => by
    obtain ⟨h1, h2⟩ := List.pairwise_cons.1 h
    unfold L.insPt
    cases hd : decide (L.cmpPt p q ≤ 0) with
    | true =>
      have hd : L.lePt p q := of_decide_eq_true (p := L.cmpPt p q ≤ 0) hd
      exact List.pairwise_cons.2 ⟨fun x hx => by
        rcases List.mem_cons.1 hx with rfl | hx
        · exact hd
        · exact lePt_trans hd (h1 x hx), h⟩
    | false =>
      have hd : ¬ L.lePt p q := of_decide_eq_false (p := L.cmpPt p q ≤ 0) hd
      have hqp : L.lePt q p := (lePt_total p q).resolve_left hd
      exact List.pairwise_cons.2 ⟨fun x hx => by
        rcases List.mem_cons.1 ((insPt_perm p r).mem_iff.1 hx) with rfl | hx
        · exact hqp
        · exact h1 x hx, insPt_asc h2⟩
theorem isortPt_asc : ∀ l, (L.isortPt l).Pairwise L.lePt
  | [] => .nil
  | p :: r => insPt_asc (isortPt_asc r)
theorem sorted_is {l : L.Sq L.Pt} {u : Nat → L.Pt} (h : SortedBy L.cmpPt l.n l.g u) : ∀ k, k < l.n → (L.sorted l).g k = u k := fun k hk => by
  have e : (List.range l.n).map u = L.isortPt (L.listPt l) := by
    refine List.Perm.eq_of_pairwise (le := L.lePt) (fun a b _ _ => lePt_anti) ?_ (isortPt_asc _) (h.perm.trans (isortPt_perm _).symm)
    rw [List.pairwise_iff_getElem]
    intro i j hi hj hij
    simp only [List.getElem_map, List.getElem_range]
    have hj : j < l.n := by simpa using hj
    have := h.asc i j hij hj
    rcases lePt_total (u i) (u j) with h1 | h1
    · exact h1
    · unfold L.lePt at *
      simp only [cmpPt_le, cmpPt_lt] at *
      omega
  show (L.isortPt (L.listPt l)).getD k ⟨0, 0⟩ = u k
  rw [← e]
  simp [List.getD_eq_getElem?_getD, hk]
theorem sorted_mem (l : L.Sq L.Pt) {k : Nat} (hk : k < l.n) : ∃ i, i < l.n ∧ (L.sorted l).g k = l.g i := by
  have hl : (L.isortPt (L.listPt l)).length = l.n := by rw [(isortPt_perm _).length_eq]; simp [L.listPt]
  have hm : (L.isortPt (L.listPt l)).getD k ⟨0, 0⟩ ∈ L.isortPt (L.listPt l) := by
    rw [List.getD_eq_getElem?_getD, List.getElem?_eq_getElem (by rw [hl]; exact hk)]
    exact List.getElem_mem _
  have hm := (isortPt_perm _).mem_iff.1 hm
  unfold L.listPt at hm
  obtain ⟨i, hi, e⟩ := List.mem_map.1 hm
  exact ⟨i, List.mem_range.1 hi, e.symm⟩
def encPt (p : L.Pt) : List Int := [p.x, p.y]
def sortPt_ren : Go.Shelf.Ren := ⟨fun | 6 => 50 | 15 => 41 | 14 => 66 | 28 => 61 | 29 => 62 | 20 => 72 | 21 => 73 | 22 => 74 | 23 => 75 | 24 => 76 | 25 => 77 | 26 => 78 | 27 => 79 | 46 => 81 | 47 => 68 | 48 => 69 | 49 => 82 | 50 => 83 | 57 => 84 | n => n, fun | 22 => 22 | 24 => 30 | 25 => 63 | 3 => 3 | 39 => 74 | 0 => 0 | 53 => 94 | 55 => 96 | 4 => 4 | 46 => 87 | 45 => 86 | 50 => 91 | 5 => 5 | 9 => 9 | 66 => 101 | 70 => 105 | 76 => 112 | 77 => 113 | n => n, fun | n => n⟩
theorem sortPt_lay : Go.Proofs.SlLaysF0.n6 Try.prog sortPt_ren := {
  mixed := by kernel_rfl
  f6 := ⟨Try.f50.name, by decide, Try.func50.trans (congrArg some (by kernel_rfl))⟩
  f14 := ⟨Try.f66.name, by decide, Try.func66.trans (congrArg some (by kernel_rfl))⟩
  f15 := Try.func41.trans (congrArg some (by kernel_rfl))
  f20 := ⟨Try.f72.name, by decide, Try.func72.trans (congrArg some (by kernel_rfl))⟩
  f21 := ⟨Try.f73.name, by decide, Try.func73.trans (congrArg some (by kernel_rfl))⟩
  f22 := ⟨Try.f74.name, by decide, Try.func74.trans (congrArg some (by kernel_rfl))⟩
  f23 := ⟨Try.f75.name, by decide, Try.func75.trans (congrArg some (by kernel_rfl))⟩
  f24 := ⟨Try.f76.name, by decide, Try.func76.trans (congrArg some (by kernel_rfl))⟩
  f25 := ⟨Try.f77.name, by decide, Try.func77.trans (congrArg some (by kernel_rfl))⟩
  f26 := ⟨Try.f78.name, by decide, Try.func78.trans (congrArg some (by kernel_rfl))⟩
  f27 := ⟨Try.f79.name, by decide, Try.func79.trans (congrArg some (by kernel_rfl))⟩
  f28 := Try.func61.trans (congrArg some (by kernel_rfl))
  f29 := Try.func62.trans (congrArg some (by kernel_rfl))
  f46 := ⟨Try.f81.name, by decide, Try.func81.trans (congrArg some (by kernel_rfl))⟩
  f47 := Try.func68.trans (congrArg some (by kernel_rfl))
  f48 := Try.func69.trans (congrArg some (by kernel_rfl))
  f49 := ⟨Try.f82.name, by decide, Try.func82.trans (congrArg some (by kernel_rfl))⟩
  f50 := ⟨Try.f83.name, by decide, Try.func83.trans (congrArg some (by kernel_rfl))⟩
  f57 := ⟨Try.f84.name, by decide, Try.func84.trans (congrArg some (by kernel_rfl))⟩
  t0 := Try.underlying0
  a0 := Try.isAgg0
  z0 := Try.sizeOf0
  v0 := Try.zeroValue0
  t3 := Try.underlying3
  a3 := Try.isAgg3
  z3 := Try.sizeOf3
  v3 := Try.zeroValue3
  t4 := Try.underlying4
  a4 := Try.isAgg4
  z4 := Try.sizeOf4
  v4 := Try.zeroValue4
  t5 := Try.underlying5
  a5 := Try.isAgg5
  z5 := Try.sizeOf5
  v5 := Try.zeroValue5
  t9 := Try.underlying9
  a9 := Try.isAgg9
  z9 := Try.sizeOf9
  v9 := Try.zeroValue9
  t22 := Try.underlying22
  a22 := Try.isAgg22
  z22 := Try.sizeOf22
  v22 := Try.zeroValue22
  t25 := Try.underlying63
  a25 := Try.isAgg63
  z25 := Try.sizeOf63
  v25 := Try.zeroValue63
  t39 := Try.underlying74
  a39 := Try.isAgg74
  z39 := Try.sizeOf74
  v39 := Try.zeroValue74
  t45 := Try.underlying86
  a45 := Try.isAgg86
  z45 := Try.sizeOf86
  v45 := Try.zeroValue86
  t46 := Try.underlying87
  a46 := Try.isAgg87
  z46 := Try.sizeOf87
  v46 := Try.zeroValue87
  t50 := Try.underlying91
  a50 := Try.isAgg91
  z50 := Try.sizeOf91
  v50 := Try.zeroValue91
  t53 := Try.underlying94
  a53 := Try.isAgg94
  z53 := Try.sizeOf94
  v53 := Try.zeroValue94
  t55 := Try.underlying96
  a55 := Try.isAgg96
  z55 := Try.sizeOf96
  v55 := Try.zeroValue96
  t66 := Try.underlying101
  a66 := Try.isAgg101
  z66 := Try.sizeOf101
  v66 := Try.zeroValue101
  t70 := Try.underlying105
  a70 := Try.isAgg105
  z70 := Try.sizeOf105
  v70 := Try.zeroValue105
  t76 := Try.underlying112
  a76 := Try.isAgg112
  z76 := Try.sizeOf112
  v76 := Try.zeroValue112
  t77 := Try.underlying113
  a77 := Try.isAgg113
  z77 := Try.sizeOf113
  v77 := Try.zeroValue113 }

abbrev s_sortP_tr : Tr := sortTr 30 2 31 1005 encPt L.cmpPt
theorem s_sortP_tok : TrOk Try.prog 50 s_sortP_tr := sortTr_ok (enc := encPt) sortPt_lay (by decide) (fun w => Try.isAgg30 w) (fun w => Try.sizeOf30 w) (fun _ => rfl) swoPt p_compare_ok p_compare_en (fun x y => show preO p_compare_s [.p (.agg [.int .i64 x.x, .int .i64 x.y]), .p (.agg [.int .i64 y.x, .int .i64 y.y])] from trivial) (fun x y => rfl) _ _
theorem s_sortP_en : Enters Try.prog 50 := fun args w => by kernel_rfl
def L.popPt (p : L.Pt) : List L.Pt → List L.Pt
  | [] => []
  | [a] => [a]
  | b :: a :: r => bif decide (L.cross a b p ≤ 0) then L.popPt p (a :: r) else b :: a :: r
def L.chainTo (l : L.Sq L.Pt) : Nat → List L.Pt
  | 0 => []
  | k + 1 => l.g k :: L.popPt (l.g k) (L.chainTo l k)
def L.len (st : List L.Pt) : Nat := st.length
def L.lmem (q : L.Pt) (st : List L.Pt) : Prop := q ∈ st
def L.fromTop (st : List L.Pt) (k : Nat) : L.Pt := st.getD (st.length - 1 - k) ⟨0, 0⟩
def L.chain (l : L.Sq L.Pt) : L.Sq L.Pt := ⟨(L.chainTo l l.n).length - 1, fun k => L.fromTop (L.chainTo l l.n) k⟩
theorem popPt_mem {p q : L.Pt} : ∀ {st : List L.Pt}, q ∈ L.popPt p st → q ∈ st
  | [], h => h
  | [a], h => h
  | b :: a :: r, h => by
    unfold L.popPt at h
    cases hd : decide (L.cross a b p ≤ 0) with
    | true => rw [hd] at h; exact List.mem_cons_of_mem _ (popPt_mem (st := a :: r) h)
    | false => rw [hd] at h; exact h
theorem popPt_len {p : L.Pt} : ∀ {st : List L.Pt}, (L.popPt p st).length ≤ st.length
  | [] => Nat.le_refl _
  | [a] => Nat.le_refl _
  | b :: a :: r => by
    unfold L.popPt
    cases decide (L.cross a b p ≤ 0) with
    | true => exact Nat.le_trans (popPt_len (st := a :: r)) (Nat.le_succ _)
    | false => exact Nat.le_refl _
theorem popPt_pos {p : L.Pt} : ∀ {st : List L.Pt}, 1 ≤ st.length → 1 ≤ (L.popPt p st).length
  | [], h => h
  | [a], h => h
  | b :: a :: r, h => by
    unfold L.popPt
    cases decide (L.cross a b p ≤ 0) with
    | true => exact popPt_pos (st := a :: r) (Nat.succ_le_succ (Nat.zero_le _))
    | false => exact h
theorem chain_pos {l : L.Sq L.Pt} (h : 2 ≤ l.n) : 1 ≤ (L.chainTo l l.n).length - 1 := by
  match hh : l.n, h with
  | m + 2, _ =>
    have := popPt_pos (p := l.g (m + 1)) (st := L.chainTo l (m + 1)) (Nat.succ_le_succ (Nat.zero_le _))
    show 1 ≤ (L.popPt (l.g (m + 1)) (L.chainTo l (m + 1))).length + 1 - 1
    omega
theorem chainTo_mem {l : L.Sq L.Pt} {q : L.Pt} : ∀ {k}, q ∈ L.chainTo l k → ∃ i, i < k ∧ q = l.g i
  | 0, h => nomatch h
  | k + 1, h => by
    rcases List.mem_cons.1 h with rfl | h
    · exact ⟨k, Nat.lt_succ_self _, rfl⟩
    · obtain ⟨i, hi, e⟩ := chainTo_mem (popPt_mem h)
      exact ⟨i, Nat.lt_succ_of_lt hi, e⟩
theorem chainTo_len (l : L.Sq L.Pt) : ∀ k, (L.chainTo l k).length ≤ k
  | 0 => Nat.le_refl _
  | k + 1 => Nat.succ_le_succ (Nat.le_trans popPt_len (chainTo_len l k))
theorem fromTop_mem {st : List L.Pt} {k : Nat} (h : k < st.length) : L.fromTop st k ∈ st := by
  unfold L.fromTop
  rw [List.getD_eq_getElem?_getD, List.getElem?_eq_getElem (by omega)]
  exact List.getElem_mem _
theorem fromTop_tail {a : L.Pt} {r : List L.Pt} {k : Nat} (h : k < r.length) : L.fromTop (a :: r) k = L.fromTop r k := by
  unfold L.fromTop
  rw [show (a :: r).length - 1 - k = (r.length - 1 - k) + 1 by simp only [List.length_cons]; omega]
  rfl
theorem fromTop_head {a : L.Pt} {r : List L.Pt} : L.fromTop (a :: r) r.length = a := by
  unfold L.fromTop
  rw [show (a :: r).length - 1 - r.length = 0 by simp only [List.length_cons]; omega]
  rfl
def L.revd (l : L.Sq L.Pt) : L.Sq L.Pt := ⟨l.n, fun k => l.g (l.n - 1 - k)⟩
def L.hull (l : L.Sq L.Pt) : L.Sq L.Pt := L.catTo (L.two (L.chain (L.sorted l)) (L.chain (L.revd (L.sorted l)))) 2
theorem chain_mem (l : L.Sq L.Pt) {k : Nat} (h : k < (L.chain l).n) : ∃ i, i < l.n ∧ (L.chain l).g k = l.g i := chainTo_mem (fromTop_mem (st := L.chainTo l l.n) (show k < _ by have : k < (L.chainTo l l.n).length - 1 := h; omega))
theorem hull_mem (l : L.Sq L.Pt) {k : Nat} (h : k < (L.hull l).n) : ∃ i, i < l.n ∧ (L.hull l).g k = l.g i := by
  have a1 : ∀ k, k < (L.chain (L.sorted l)).n → ∃ i, i < l.n ∧ (L.chain (L.sorted l)).g k = l.g i := fun k hk => by
    obtain ⟨i, hi, e⟩ := chain_mem _ hk
    obtain ⟨j, hj, e2⟩ := sorted_mem l hi
    exact ⟨j, hj, e.trans e2⟩
  have a2 : ∀ k, k < (L.chain (L.revd (L.sorted l))).n → ∃ i, i < l.n ∧ (L.chain (L.revd (L.sorted l))).g k = l.g i := fun k hk => by
    obtain ⟨i, hi, e⟩ := chain_mem _ hk
    have hi : i < l.n := hi
    obtain ⟨j, hj, e2⟩ := sorted_mem l (k := l.n - 1 - i) (by omega)
    exact ⟨j, hj, e.trans e2⟩
  have h : k < 0 + (L.chain (L.sorted l)).n + (L.chain (L.revd (L.sorted l))).n := h
  have e : (L.hull l).g k = bif decide (k < 0 + (L.chain (L.sorted l)).n) then (bif decide (k < 0) then (⟨0, 0⟩ : L.Pt) else (L.chain (L.sorted l)).g (k - 0)) else (L.chain (L.revd (L.sorted l))).g (k - (0 + (L.chain (L.sorted l)).n)) := rfl
  rw [e]
  cases hd : decide (k < 0 + (L.chain (L.sorted l)).n) with
  | true => have := of_decide_eq_true hd; exact a1 k (by omega)
  | false => have := of_decide_eq_false hd; exact a2 _ (by omega)
def s_values1_p (l : (L.Sq L.Pt)) : Prop := l.n ≤ 1000000
def s_values1_n (l : (L.Sq L.Pt)) : Nat := l.n
def s_values1_i (l : (L.Sq L.Pt)) : Nat → List SV := fun k => [(.agg [.int .i64 ((l.g (k : Int).toNat).x), .int .i64 ((l.g (k : Int).toNat).y)])]
def s_values1_ic : List SV → Option (Prop × Nat × (Nat → List SV))
  | [.ref [.sl 2 l_n l_g] 0] => some ((∀ i, i < l_n → l_g i = [.int .i64 ((ofPt (l_g i)).x), .int .i64 ((ofPt (l_g i)).y)]) ∧ s_values1_p (⟨l_n, fun i => ofPt (l_g i)⟩ : (L.Sq L.Pt)), s_values1_n (⟨l_n, fun i => ofPt (l_g i)⟩ : (L.Sq L.Pt)), s_values1_i (⟨l_n, fun i => ofPt (l_g i)⟩ : (L.Sq L.Pt)))
  | _ => none
abbrev s_values1_it : ItSpec := itOf s_values1_ic
def s_values1_C : Cfg := { muts := [], frz := lookN [], specs := lookS [], loops := fun _ => none, iters := lookI [], rfs := lookR [] }
theorem s_values1_vc (yl : Nat) (l : (L.Sq L.Pt)) (hp : s_values1_p l) : vc Try.prog { s_values1_C with loops := lookL [(1, { T := Nat, keep := [0, 1, 5, 6], keepO := [], chg := fun i => [(7, .p (.int .i64 (i : Int)))], own := fun _ => [], inv := fun i => i ≤ l.n, mu := fun i => l.n - i, yk := some (fun i => i) })], yld := some ⟨yl, s_values1_n l, s_values1_i l⟩ } (bodyOf Try.f51) (st0 Try.f51 (.yield yl :: ([.ref [.sl 2 l.n (fun i => [.int .i64 ((l.g i).x), .int .i64 ((l.g i).y)])] 0] : List SV).map .p)) (retIt Try.prog Try.f51 (s_values1_n l)) :=
  @Eq.mpr _ ((∃ (g : Nat), nat_lit 0 = g ∧ false = false ∧ (0 : Int) = (↑g : Int) ∧ g ≤ l.n) ∧ ∀ (g : Nat), g ≤ l.n → (decide ((↑g : Int) < (↑l.n : Int)) = true → ((0 : Int) ≤ (↑g : Int) ∧ (↑g : Int) < (↑l.n : Int)) ∧ yl = yl ∧ g < l.n ∧ [SV.agg [SV.int .i64 (l.g (Int.toNat (↑g : Int))).x, SV.int .i64 (l.g (Int.toNat (↑g : Int))).y]] =
 [SV.agg [SV.int .i64 (l.g (Int.toNat (↑g : Int))).x, SV.int .i64 (l.g (Int.toNat (↑g : Int))).y]] ∧ ((false = true → g + (1 : Nat) = l.n ∨ g + (1 : Nat) = l.n + (1 : Nat)) ∧ (false = false → InK .i64 ((↑g : Int) + (1 : Int)) ∧ ∃ (g' : Nat), g + (1 : Nat) = g' ∧ false = false ∧ (↑g : Int) + (1 : Int) = (↑g' : Int) ∧
 (↑l.n : Int) = (↑l.n : Int) ∧ (l.n = l.n ∧ ∀ (i : Nat), i < l.n → [SV.int .i64 (l.g i).x, SV.int .i64 (l.g i).y] = [SV.int .i64 (l.g i).x, SV.int .i64 (l.g i).y]) ∧ yl = yl ∧ SV.ref [SV.sl (nat_lit 2) l.n fun (i : Nat) ↦ [SV.int .i64 (l.g i).x, SV.int .i64 (l.g i).y]] (nat_lit 0) =
 SV.ref [SV.sl (nat_lit 2) l.n fun (i : Nat) ↦ [SV.int .i64 (l.g i).x, SV.int .i64 (l.g i).y]] (nat_lit 0) ∧ g' ≤ l.n ∧ l.n - g' < l.n - g)) ∧ (true = true → l.n + (1 : Nat) = l.n ∨ l.n + (1 : Nat) = l.n + (1 : Nat)) ∧ (true = false → InK .i64 ((↑g : Int) + (1 : Int)) ∧ ∃ (g' : Nat), l.n + (1 : Nat) = g' ∧ false =
 false ∧ (↑g : Int) + (1 : Int) = (↑g' : Int) ∧ (↑l.n : Int) = (↑l.n : Int) ∧ False ∧ yl = yl ∧ False ∧ g' ≤ l.n ∧ l.n - g' < l.n - g)) ∧ (decide ((↑g : Int) < (↑l.n : Int)) = false → g = l.n ∨ g = l.n + (1 : Nat))) (by kernel_rfl) (by
    have hn : l.n ≤ 1000000 := hp
    refine ⟨⟨(0 : Nat), rfl, rfl, rfl, Nat.zero_le _⟩, fun g hg => ⟨fun hlt => ?_, fun hge => ?_⟩⟩
    · have hb : (g : Int) < (l.n : Int) := of_decide_eq_true hlt
      refine ⟨⟨by omega, hb⟩, rfl, by omega, rfl, ?_⟩
      exact ⟨⟨fun h => (by cases h), fun _ => ⟨InK.of (by omega) (by omega), g + 1, rfl, rfl, by omega, rfl, ⟨rfl, fun _ _ => rfl⟩, rfl, rfl, by omega, by omega⟩⟩, fun _ => .inr rfl, fun h => (by cases h)⟩
    · have hb : ¬ (g : Int) < (l.n : Int) := of_decide_eq_false hge
      exact .inl (by omega))
theorem s_values1_itok : ItOk Try.prog 51 s_values1_it := iterX Try.func51 (c := bodyOf Try.f51) (by kernel_rfl) mixed (fun caps l p n g hs hp => by
  unfold s_values1_ic at hs
  split at hs
  · cases hs; exact ⟨_, _, s_values1_vc l _ hp.2, (.cons (Ext.ref rfl (fun i hi => by
      rcases i with _ | i
      · show Ext (SV.sl _ _ _) (SV.sl _ _ _); exact (Ext.sl hp.1)
      exact absurd hi (by simp; try omega))) .nil), rfl, show SpecsL Try.prog _ from SpecsL.nil, ⟨show ItersL Try.prog _ from ItersL.nil, TrsOk.none (fun _ => rfl)⟩⟩
  · cases hs)
theorem s_values1_en : Enters Try.prog 51 := fun args w => by kernel_rfl
def s_values_p (l : (L.Sq L.Pt)) : Prop := l.n ≤ 1000000
def s_values_r (l : (L.Sq L.Pt)) : SV := .clo 51 [.ref [(.sl 2 l.n (fun i => [.int .i64 ((l.g i).x), .int .i64 ((l.g i).y)]))] 0]
def s_values_s : List EV → Option (Prop × SV)
  | [.p (.sl 2 l_n l_g)] => some ((∀ i, i < l_n → l_g i = [.int .i64 ((ofPt (l_g i)).x), .int .i64 ((ofPt (l_g i)).y)]) ∧ s_values_p (⟨l_n, fun i => ofPt (l_g i)⟩ : (L.Sq L.Pt)), s_values_r (⟨l_n, fun i => ofPt (l_g i)⟩ : (L.Sq L.Pt)))
  | _ => none
abbrev s_values_S : SE.Spec := (specO s_values_s)
def s_values_C : Cfg := { muts := [], frz := lookN [], specs := lookS [], loops := lookL [], iters := lookI [], rfs := lookR [], nils := lookM [] }
theorem s_values_vc (l : (L.Sq L.Pt)) (hp : s_values_p l) : vc Try.prog (s_values_C) (bodyOf Try.f36) (st0 Try.f36 [.p (.sl 2 l.n (fun i => [.int .i64 ((l.g i).x), .int .i64 ((l.g i).y)]))]) (retFn Try.prog Try.f36 (s_values_r l)) :=
  @Eq.mpr _ (SV.clo (nat_lit 51) [SV.ref [SV.sl (nat_lit 2) l.n fun (i : Nat) ↦ [SV.int .i64 (l.g i).x, SV.int .i64 (l.g i).y]] (nat_lit 0)] = SV.clo (nat_lit 51) [SV.ref [SV.sl (nat_lit 2) l.n fun (i : Nat) ↦ [SV.int .i64 (l.g i).x, SV.int .i64 (l.g i).y]] (nat_lit 0)]) (by kernel_rfl) (by
    rfl)
theorem s_values_ok : SpecOk Try.prog 36 s_values_S := fnX Try.func36 (c := bodyOf Try.f36) (by kernel_rfl) mixed (fun args p r hs hp => by
  unfold s_values_s at hs
  split at hs
  · cases hs; exact ⟨_, _, s_values_vc _ hp.2, (.p (.sl hp.1) .nil), ⟨show SpecsL Try.prog _ from SpecsL.nil, rfl, ⟨show ItersL Try.prog _ from ItersL.nil, (TrsOk.none (fun _ => rfl))⟩⟩⟩
  · cases hs)
theorem s_values_en : Enters Try.prog 36 := fun args w => by kernel_rfl
def s_appendSeq_p (s : Nat) (l : (L.Sq L.Pt)) : Prop := l.n ≤ 1000000
def s_appendSeq_q (s : Nat) (l : (L.Sq L.Pt)) : Nat → Prop := fun _ => True
def s_appendSeq_n (s : Nat) (l : (L.Sq L.Pt)) : Nat → Nat := fun _ => l.n
def s_appendSeq_g (s : Nat) (l : (L.Sq L.Pt)) : Nat → Nat → List SV := fun _ k => [.int .i64 ((l.g k).x), .int .i64 ((l.g k).y)]
def s_appendSeq_s : List EV → Option (Prop × (Nat → Prop) × (Nat → Nat) × (Nat → Nat → List SV))
  | [.p (.raw (.slice none 0 0)), .p (.clo 51 [.ref [.sl 2 l_n l_g] 0])] => some ((∀ i, i < l_n → l_g i = [.int .i64 ((ofPt (l_g i)).x), .int .i64 ((ofPt (l_g i)).y)]) ∧ s_appendSeq_p (0 : Nat) (⟨l_n, fun i => ofPt (l_g i)⟩ : (L.Sq L.Pt)), s_appendSeq_q (0 : Nat) (⟨l_n, fun i => ofPt (l_g i)⟩ : (L.Sq L.Pt)), s_appendSeq_n (0 : Nat) (⟨l_n, fun i => ofPt (l_g i)⟩ : (L.Sq L.Pt)), s_appendSeq_g (0 : Nat) (⟨l_n, fun i => ofPt (l_g i)⟩ : (L.Sq L.Pt)))
  | _ => none
abbrev s_appendSeq_S : SE.Spec := (specF Nat 0 30 2 s_appendSeq_s)
def s_appendSeq_C : Cfg := { muts := [2, 5], frz := lookN [], specs := lookS [], loops := lookL [], iters := lookI [(51, s_values1_it)], rfs := lookR [], nils := lookM [(1, [(2, 10, 30, 2)])] }
theorem s_appendSeq_vc (s : Nat) (l : (L.Sq L.Pt)) (hp : s_appendSeq_p s l) : vc Try.prog ({ s_appendSeq_C with loops := lookL [], rfs := lookR [(2, { T := Nat, keep := [2], keepO := [], own := fun k _ => [(2, .blk 22 [.row 10]), (10, .row 30 2 k (fun k => [.int .i64 ((l.g k).x), .int .i64 ((l.g k).y)]))], inv := fun k _ => k ≤ l.n })] }) (bodyOf Try.f65) (st0 Try.f65 [.p (.raw (.slice none 0 0)), .p (.clo 51 [.ref [.sl 2 l.n (fun i => [.int .i64 ((l.g i).x), .int .i64 ((l.g i).y)])] 0])]) (retFresh Try.prog Try.f65 (Nat) (s_appendSeq_q s l) 30 2 (s_appendSeq_n s l) (s_appendSeq_g s l)) :=
  @Eq.mpr _ ((((∀ (i : Nat), i < l.n → [SV.int .i64 (l.g i).x, SV.int .i64 (l.g i).y] = [SV.int .i64 (l.g i).x, SV.int .i64 (l.g i).y]) ∧ l.n ≤ (1000000 : Nat)) ∧ ∃ (t : Nat), (nat_lit 0 = (0 : Nat) ∧ ∀ (i : Nat), i < nat_lit 0 → [] = [SV.int .i64 (l.g i).x, SV.int .i64 (l.g i).y]) ∧ (0 : Nat) ≤ l.n) ∧ (∀ (k t :
 Nat) (vk : Nat → Go.Value), k < l.n → k ≤ l.n → (k + nat_lit 1) * nat_lit 16 ≤ (140737488355328 : Nat) ∧ ∃ (t' : Nat), nat_lit 0 = nat_lit 0 ∧ vk (nat_lit 2) = vk (nat_lit 2) ∧ (k + nat_lit 1 = k + (1 : Nat) ∧ ∀ (i : Nat), i < k + nat_lit 1 → appGet k (fun (k : Nat) ↦ [SV.int .i64 (l.g k).x, SV.int .i64 (l.g k).y]) (fun (x : Nat) ↦ [SV.int .i64
 (l.g (Int.toNat (↑k : Int))).x, SV.int .i64 (l.g (Int.toNat (↑k : Int))).y]) i = [SV.int .i64 (l.g i).x, SV.int .i64 (l.g i).y]) ∧ k + (1 : Nat) ≤ l.n) ∧ ∀ (t : Nat), l.n ≤ l.n → ∃ (t : Nat), (l.n = l.n ∧ ∀ (i : Nat), i < l.n → [SV.int .i64 (l.g i).x, SV.int .i64 (l.g i).y] = [SV.int .i64 (l.g i).x,
 SV.int .i64 (l.g i).y]) ∧ True) (by kernel_rfl) (by
    have hn : l.n ≤ 1000000 := hp
    refine ⟨⟨⟨fun _ _ => rfl, hn⟩, (0 : Nat), ⟨rfl, fun i hi => absurd hi (Nat.not_lt_zero _)⟩, Nat.zero_le _⟩, fun k t vk hk hi => ⟨show (k + 1) * 16 ≤ 140737488355328 by omega, (0 : Nat), rfl, rfl, ⟨rfl, fun i hi => ?_⟩, by omega⟩, fun t hi => ⟨(0 : Nat), ⟨rfl, fun _ _ => rfl⟩, trivial⟩⟩
    have hi : i < k + 1 := hi
    have e0 : ((k : Int)).toNat = k := by omega
    unfold appGet
    by_cases h' : i < k
    · rw [if_pos h']
    · rw [if_neg h']
      obtain rfl : i = k := by omega
      dsimp only
      rw [e0])
theorem s_appendSeq_ok : SpecOk Try.prog 65 s_appendSeq_S := freshX Try.func65 (c := bodyOf Try.f65) (by kernel_rfl) mixed (fun args p q n g hs hp => by
  unfold s_appendSeq_s at hs
  split at hs
  · cases hs; exact ⟨_, _, s_appendSeq_vc _ _ hp.2, (.same _ (.p (Ext.clo rfl (fun i hi => by
      rcases i with _ | i
      · show Ext (SV.ref _ _) (SV.ref _ _); exact (Ext.ref rfl (fun i hi => by
      rcases i with _ | i
      · show Ext (SV.sl _ _ _) (SV.sl _ _ _); exact (Ext.sl hp.1)
      exact absurd hi (by simp; try omega)))
      exact absurd hi (by simp; try omega))) .nil)), ⟨show SpecsL Try.prog _ from SpecsL.nil, rfl, ⟨show ItersL Try.prog _ from (ItersL.cons s_values1_itok s_values1_en ItersL.nil), (TrsOk.none (fun _ => rfl))⟩⟩⟩
  · cases hs)
theorem s_appendSeq_en : Enters Try.prog 65 := fun args w => by kernel_rfl
def s_collect_p (l : (L.Sq L.Pt)) : Prop := l.n ≤ 1000000
def s_collect_q (l : (L.Sq L.Pt)) : Nat → Prop := fun _ => True
def s_collect_n (l : (L.Sq L.Pt)) : Nat → Nat := fun _ => l.n
def s_collect_g (l : (L.Sq L.Pt)) : Nat → Nat → List SV := fun _ k => [.int .i64 ((l.g k).x), .int .i64 ((l.g k).y)]
def s_collect_s : List EV → Option (Prop × (Nat → Prop) × (Nat → Nat) × (Nat → Nat → List SV))
  | [.p (.clo 51 [.ref [.sl 2 l_n l_g] 0])] => some ((∀ i, i < l_n → l_g i = [.int .i64 ((ofPt (l_g i)).x), .int .i64 ((ofPt (l_g i)).y)]) ∧ s_collect_p (⟨l_n, fun i => ofPt (l_g i)⟩ : (L.Sq L.Pt)), s_collect_q (⟨l_n, fun i => ofPt (l_g i)⟩ : (L.Sq L.Pt)), s_collect_n (⟨l_n, fun i => ofPt (l_g i)⟩ : (L.Sq L.Pt)), s_collect_g (⟨l_n, fun i => ofPt (l_g i)⟩ : (L.Sq L.Pt)))
  | _ => none
abbrev s_collect_S : SE.Spec := (specF Nat 0 30 2 s_collect_s)
def s_collect_C : Cfg := { muts := [4], frz := lookN [], specs := lookS [(65, s_appendSeq_S)], loops := lookL [], iters := lookI [], rfs := lookR [], nils := lookM [], raws := [65] }
theorem s_collect_vc (l : (L.Sq L.Pt)) (hp : s_collect_p l) : vc Try.prog (s_collect_C) (bodyOf Try.f49) (st0 Try.f49 [.p (.clo 51 [.ref [.sl 2 l.n (fun i => [.int .i64 ((l.g i).x), .int .i64 ((l.g i).y)])] 0])]) (retFresh Try.prog Try.f49 (Nat) (s_collect_q l) 30 2 (s_collect_n l) (s_collect_g l)) :=
  @Eq.mpr _ (((∀ (i : Nat), i < l.n → [SV.int .i64 (l.g i).x, SV.int .i64 (l.g i).y] = [SV.int .i64 (l.g i).x, SV.int .i64 (l.g i).y]) ∧ l.n ≤ (1000000 : Nat)) ∧ ∀ (t : Nat), True → ∃ (t : Nat), (l.n = l.n ∧ ∀ (i : Nat), i < l.n → [SV.int .i64 (l.g i).x, SV.int .i64 (l.g i).y] = [SV.int .i64 (l.g
 i).x, SV.int .i64 (l.g i).y]) ∧ True) (by kernel_rfl) (by
    exact ⟨⟨fun _ _ => rfl, hp⟩, fun t _ => ⟨(0 : Nat), ⟨rfl, fun _ _ => rfl⟩, trivial⟩⟩)
theorem s_collect_ok : SpecOk Try.prog 49 s_collect_S := freshX Try.func49 (c := bodyOf Try.f49) (by kernel_rfl) mixed (fun args p q n g hs hp => by
  unfold s_collect_s at hs
  split at hs
  · cases hs; exact ⟨_, _, s_collect_vc _ hp.2, (.p (Ext.clo rfl (fun i hi => by
      rcases i with _ | i
      · show Ext (SV.ref _ _) (SV.ref _ _); exact (Ext.ref rfl (fun i hi => by
      rcases i with _ | i
      · show Ext (SV.sl _ _ _) (SV.sl _ _ _); exact (Ext.sl hp.1)
      exact absurd hi (by simp; try omega)))
      exact absurd hi (by simp; try omega))) .nil), ⟨show SpecsL Try.prog _ from (SpecsL.cons s_appendSeq_ok s_appendSeq_en SpecsL.nil), rfl, ⟨show ItersL Try.prog _ from ItersL.nil, (TrsOk.none (fun _ => rfl))⟩⟩⟩
  · cases hs)
theorem s_collect_en : Enters Try.prog 49 := fun args w => by kernel_rfl
def s_sortedF_p (l : (L.Sq L.Pt)) : Prop := l.n ≤ 1000000
def s_sortedF_q (l : (L.Sq L.Pt)) : Nat → Prop := fun _ => True
def s_sortedF_n (l : (L.Sq L.Pt)) : Nat → Nat := fun _ => l.n
def s_sortedF_g (l : (L.Sq L.Pt)) : Nat → Nat → List SV := fun _ k => [.int .i64 (((L.sorted l).g k).x), .int .i64 (((L.sorted l).g k).y)]
def s_sortedF_s : List EV → Option (Prop × (Nat → Prop) × (Nat → Nat) × (Nat → Nat → List SV))
  | [.p (.clo 51 [.ref [.sl 2 l_n l_g] 0]), .p (.clo 31 [])] => some ((∀ i, i < l_n → l_g i = [.int .i64 ((ofPt (l_g i)).x), .int .i64 ((ofPt (l_g i)).y)]) ∧ s_sortedF_p (⟨l_n, fun i => ofPt (l_g i)⟩ : (L.Sq L.Pt)), s_sortedF_q (⟨l_n, fun i => ofPt (l_g i)⟩ : (L.Sq L.Pt)), s_sortedF_n (⟨l_n, fun i => ofPt (l_g i)⟩ : (L.Sq L.Pt)), s_sortedF_g (⟨l_n, fun i => ofPt (l_g i)⟩ : (L.Sq L.Pt)))
  | _ => none
abbrev s_sortedF_S : SE.Spec := (specF Nat 0 30 2 s_sortedF_s)
def s_sortedF_C : Cfg := { muts := [7], frz := lookN [], specs := lookS [(49, s_collect_S), (31, p_compare_S)], loops := lookL [], iters := lookI [], rfs := lookR [], nils := lookM [], trs := lookT [(50, s_sortP_tr)], ren := fun k => k - 998, raws := [49] }
theorem s_sortedF_vc (l : (L.Sq L.Pt)) (hp : s_sortedF_p l) : vc Try.prog (s_sortedF_C) (bodyOf Try.f35) (st0 Try.f35 [.p (.clo 51 [.ref [.sl 2 l.n (fun i => [.int .i64 ((l.g i).x), .int .i64 ((l.g i).y)])] 0]), .p (.clo 31 [])]) (retFresh Try.prog Try.f35 (Nat) (s_sortedF_q l) 30 2 (s_sortedF_n l) (s_sortedF_g l)) :=
  @Eq.mpr _ (((∀ (i : Nat), i < l.n → [SV.int .i64 (l.g i).x, SV.int .i64 (l.g i).y] = [SV.int .i64 (l.g i).x, SV.int .i64 (l.g i).y]) ∧ l.n ≤ (1000000 : Nat)) ∧ ∀ (t : Nat), True → ∃ (t : Nat × (Nat → L.Pt)), SV.clo (nat_lit 31) [] = SV.clo (31 : Nat) [] ∧ (l.n = t.1 ∧ ∀ (i : Nat), i < l.n → [SV.int .i64 (l.g i).x,
 SV.int .i64 (l.g i).y] = [SV.int .i64 (t.2 i).x, SV.int .i64 (t.2 i).y]) ∧ t.1 ≤ (1000000 : Nat) ∧ ∀ (u : Nat → L.Pt), SortedBy L.cmpPt t.1 t.2 u → ∃ (t_1 : Nat), (t.1 = l.n ∧ ∀ (i : Nat), i < t.1 → [SV.int .i64 (u i).x, SV.int .i64 (u i).y] = [SV.int .i64 ((L.sorted l).g i).x, SV.int
 .i64 ((L.sorted l).g i).y]) ∧ True) (by kernel_rfl) (by
    have hn : l.n ≤ 1000000 := hp
    refine ⟨⟨fun _ _ => rfl, hn⟩, fun t _ => ⟨(l.n, l.g), rfl, ⟨rfl, fun _ _ => rfl⟩, hn, fun u hu => ⟨(0 : Nat), ⟨rfl, fun i hi => ?_⟩, trivial⟩⟩⟩
    rw [sorted_is (l := l) hu i hi])
theorem s_sortedF_ok : SpecOk Try.prog 35 s_sortedF_S := freshX Try.func35 (c := bodyOf Try.f35) (by kernel_rfl) mixed (fun args p q n g hs hp => by
  unfold s_sortedF_s at hs
  split at hs
  · cases hs; exact ⟨_, _, s_sortedF_vc _ hp.2, (.p (Ext.clo rfl (fun i hi => by
      rcases i with _ | i
      · show Ext (SV.ref _ _) (SV.ref _ _); exact (Ext.ref rfl (fun i hi => by
      rcases i with _ | i
      · show Ext (SV.sl _ _ _) (SV.sl _ _ _); exact (Ext.sl hp.1)
      exact absurd hi (by simp; try omega)))
      exact absurd hi (by simp; try omega))) (.p (Ext.clo rfl (fun i hi => by
      
      exact absurd hi (by simp; try omega))) .nil)), ⟨show SpecsL Try.prog _ from (SpecsL.cons s_collect_ok s_collect_en (SpecsL.cons p_compare_ok p_compare_en SpecsL.nil)), rfl, ⟨show ItersL Try.prog _ from ItersL.nil, (show TrsL Try.prog _ from (TrsL.cons s_sortP_tok s_sortP_en TrsL.nil))⟩⟩⟩
  · cases hs)
theorem s_sortedF_en : Enters Try.prog 35 := fun args w => by kernel_rfl
def p_chain_p (l : (L.Sq L.Pt)) : Prop := 1 ≤ l.n ∧ l.n ≤ 1000000 ∧ ∀ i, i < l.n → L.bd (l.g i)
def p_chain_q (l : (L.Sq L.Pt)) : Nat → Prop := fun _ => True
def p_chain_n (l : (L.Sq L.Pt)) : Nat → Nat := fun _ => (L.chain l).n
def p_chain_g (l : (L.Sq L.Pt)) : Nat → Nat → List SV := fun _ k => [.int .i64 (((L.chain l).g k).x), .int .i64 (((L.chain l).g k).y)]
def p_chain_s : List EV → Option (Prop × (Nat → Prop) × (Nat → Nat) × (Nat → Nat → List SV))
  | [.p (.sl 2 l_n l_g)] => some ((∀ i, i < l_n → l_g i = [.int .i64 ((ofPt (l_g i)).x), .int .i64 ((ofPt (l_g i)).y)]) ∧ p_chain_p (⟨l_n, fun i => ofPt (l_g i)⟩ : (L.Sq L.Pt)), p_chain_q (⟨l_n, fun i => ofPt (l_g i)⟩ : (L.Sq L.Pt)), p_chain_n (⟨l_n, fun i => ofPt (l_g i)⟩ : (L.Sq L.Pt)), p_chain_g (⟨l_n, fun i => ofPt (l_g i)⟩ : (L.Sq L.Pt)))
  | _ => none
abbrev p_chain_S : SE.Spec := (specF Nat 0 30 2 p_chain_s)
def p_chain_C : Cfg := { muts := [5], frz := lookN [], specs := lookS [(24, p_cross_S)], loops := fun _ => none, iters := lookI [], rfs := lookR [], nils := lookM [(2, [(3, 32, 30, 2)])], cuts := [36, 46] }
theorem p_chain_vc (l : (L.Sq L.Pt)) (hp : p_chain_p l) : vc Try.prog ({ p_chain_C with loops := lookL [(3, { T := Nat, keep := [3, 6, 7], keepO := [], chg := fun i => [(8, .p (.int .i64 (i : Int)))], own := fun i => [(32, .row 30 2 (L.len (L.chainTo l i)) (fun k => [.int .i64 ((L.fromTop (L.chainTo l i) k).x), .int .i64 ((L.fromTop (L.chainTo l i) k).y)]))], inv := fun i => i ≤ l.n, mu := fun i => l.n - i }), (5, { T := Nat × List L.Pt, keep := [3, 5, 6, 7, 8], keepO := [5], tie := fun g => [(8, .int .i64 (g.1 : Int))], chg := fun g => [], own := fun g => [(32, .row 30 2 (L.len g.2) (fun k => [.int .i64 ((L.fromTop g.2 k).x), .int .i64 ((L.fromTop g.2 k).y)]))], inv := fun g => g.1 < l.n ∧ L.popPt (l.g g.1) g.2 = L.popPt (l.g g.1) (L.chainTo l g.1) ∧ (∀ q, L.lmem q g.2 → L.lmem q (L.chainTo l g.1)) ∧ L.len g.2 ≤ g.1, mu := fun g => L.len g.2 })], rfs := lookR [] }) (bodyOf Try.f37) (st0 Try.f37 [.p (.sl 2 l.n (fun i => [.int .i64 ((l.g i).x), .int .i64 ((l.g i).y)]))]) (retFresh Try.prog Try.f37 (Nat) (p_chain_q l) 30 2 (p_chain_n l) (p_chain_g l)) :=
  @Eq.mpr _ ((∃ (g : Nat), (0 : Int) = (↑g : Int) ∧ (nat_lit 0 = L.len (L.chainTo l g) ∧ ∀ (i : Nat), i < nat_lit 0 → [] = [SV.int .i64 (L.fromTop (L.chainTo l g) i).x, SV.int .i64 (L.fromTop (L.chainTo l g) i).y]) ∧ g ≤ l.n) ∧ ∀ (g : Nat), g ≤ l.n → (decide ((↑g : Int) < (↑l.n : Int)) = true → ((0 : Int) ≤ (↑g : Int) ∧ (↑g : Int) < (↑l.n : Int)) ∧ (∃ (g_1 : Nat ×
 List L.Pt), (L.len (L.chainTo l g) = L.len g_1.2 ∧ ∀ (i : Nat), i < L.len (L.chainTo l g) → [SV.int .i64 (L.fromTop (L.chainTo l g) i).x, SV.int .i64 (L.fromTop (L.chainTo l g) i).y] = [SV.int .i64 (L.fromTop g_1.2 i).x, SV.int .i64 (L.fromTop g_1.2 i).y]) ∧ (↑g : Int) = (↑g_1.1 : Int) ∧ g_1.1 < l.n ∧ L.popPt (l.g g_1.1) g_1.2 =
 L.popPt (l.g g_1.1) (L.chainTo l g_1.1) ∧ (∀ (q : L.Pt), L.lmem q g_1.2 → L.lmem q (L.chainTo l g_1.1)) ∧ L.len g_1.2 ≤ g_1.1) ∧ ∀ (g_1 : Nat × List L.Pt), (↑g : Int) = (↑g_1.1 : Int) ∧ g_1.1 < l.n ∧ L.popPt (l.g g_1.1) g_1.2 = L.popPt (l.g g_1.1) (L.chainTo l g_1.1) ∧ (∀ (q : L.Pt), L.lmem q g_1.2 → L.lmem q (L.chainTo l g_1.1)) ∧ L.len g_1.2 ≤ g_1.1 → (decide ((1 : Int) < (↑(L.len
 g_1.2) : Int)) = true → InK .i64 ((↑(L.len g_1.2) : Int) - (2 : Int))) ∧ (decide ((1 : Int) < (↑(L.len g_1.2) : Int)) = true → (0 : Int) ≤ (↑(L.len g_1.2) : Int) - (2 : Int) ∧ (↑(L.len g_1.2) : Int) - (2 : Int) < (↑(L.len g_1.2) : Int)) ∧ (decide ((1 : Int) < (↑(L.len g_1.2) : Int)) = true → Int.toNat ((↑(L.len g_1.2) : Int) - (2 : Int)) < L.len
 g_1.2) ∧ (decide ((1 : Int) < (↑(L.len g_1.2) : Int)) = true → InK .i64 ((↑(L.len g_1.2) : Int) - (1 : Int))) ∧ (decide ((1 : Int) < (↑(L.len g_1.2) : Int)) = true → (0 : Int) ≤ (↑(L.len g_1.2) : Int) - (1 : Int) ∧ (↑(L.len g_1.2) : Int) - (1 : Int) < (↑(L.len g_1.2) : Int)) ∧ (decide ((1 : Int) < (↑(L.len g_1.2) : Int)) = true →
 Int.toNat ((↑(L.len g_1.2) : Int) - (1 : Int)) < L.len g_1.2) ∧ (decide ((1 : Int) < (↑(L.len g_1.2) : Int)) = true → L.bd (L.fromTop g_1.2 (Int.toNat ((↑(L.len g_1.2) : Int) - (2 : Int)))) ∧ L.bd (L.fromTop g_1.2 (Int.toNat ((↑(L.len g_1.2) : Int) - (1 : Int)))) ∧ L.bd (l.g (Int.toNat (↑g : Int)))) ∧ ((bif decide ((1 : Int) < (↑(L.len g_1.2) : Int)) then decide
 (L.cross (L.fromTop g_1.2 (Int.toNat ((↑(L.len g_1.2) : Int) - (2 : Int)))) (L.fromTop g_1.2 (Int.toNat ((↑(L.len g_1.2) : Int) - (1 : Int)))) (l.g (Int.toNat (↑g : Int))) ≤ (0 : Int)) else false) = true → InK .i64 ((↑(L.len g_1.2) : Int) - (1 : Int)) ∧ ((0 : Int) ≤ (↑(L.len g_1.2) : Int) - (1 : Int) ∧ (↑(L.len g_1.2) : Int) - (1 : Int) ≤ (↑(L.len g_1.2) : Int)) ∧ ∃ (g' :
 Nat × List L.Pt), nat_lit 0 = nat_lit 0 ∧ (↑g : Int) = (↑g : Int) ∧ (↑l.n : Int) = (↑l.n : Int) ∧ (l.n = l.n ∧ ∀ (i : Nat), i < l.n → [SV.int .i64 (l.g i).x, SV.int .i64 (l.g i).y] = [SV.int .i64 (l.g i).x, SV.int .i64 (l.g i).y]) ∧ (Int.toNat ((↑(L.len g_1.2) : Int) - (1 : Int)) = L.len g'.2 ∧ ∀ (i : Nat), i < Int.toNat ((↑(L.len
 g_1.2) : Int) - (1 : Int)) → [SV.int .i64 (L.fromTop g_1.2 i).x, SV.int .i64 (L.fromTop g_1.2 i).y] = [SV.int .i64 (L.fromTop g'.2 i).x, SV.int .i64 (L.fromTop g'.2 i).y]) ∧ (l.g (Int.toNat (↑g : Int))).x = (l.g (Int.toNat (↑g : Int))).x ∧ (l.g (Int.toNat (↑g : Int))).y = (l.g (Int.toNat (↑g : Int))).y ∧ ((↑g : Int) = (↑g'.1 : Int) ∧
 g'.1 < l.n ∧ L.popPt (l.g g'.1) g'.2 = L.popPt (l.g g'.1) (L.chainTo l g'.1) ∧ (∀ (q : L.Pt), L.lmem q g'.2 → L.lmem q (L.chainTo l g'.1)) ∧ L.len g'.2 ≤ g'.1) ∧ L.len g'.2 < L.len g_1.2) ∧ ((bif decide ((1 : Int) < (↑(L.len g_1.2) : Int)) then decide (L.cross (L.fromTop g_1.2 (Int.toNat ((↑(L.len g_1.2) : Int) - (2 : Int)))) (L.fromTop g_1.2 (Int.toNat ((↑(L.len g_1.2) : Int)
 - (1 : Int)))) (l.g (Int.toNat (↑g : Int))) ≤ (0 : Int)) else false) = false → (L.len g_1.2 + nat_lit 1) * nat_lit 16 ≤ (140737488355328 : Nat) ∧ InK .i64 ((↑g : Int) + (1 : Int)) ∧ ∃ (g' : Nat), (↑g : Int) + (1 : Int) = (↑g' : Int) ∧ (↑l.n : Int) = (↑l.n : Int) ∧ (l.n = l.n ∧ ∀ (i : Nat), i < l.n → [SV.int .i64 (l.g i).x, SV.int .i64 (l.g
 i).y] = [SV.int .i64 (l.g i).x, SV.int .i64 (l.g i).y]) ∧ (L.len g_1.2 + nat_lit 1 = L.len (L.chainTo l g') ∧ ∀ (i : Nat), i < L.len g_1.2 + nat_lit 1 → appGet (L.len g_1.2) (fun (k : Nat) ↦ [SV.int .i64 (L.fromTop g_1.2 k).x, SV.int .i64 (L.fromTop g_1.2 k).y]) (fun (x : Nat) ↦ [SV.int .i64 (l.g (Int.toNat (↑g :
 Int))).x, SV.int .i64 (l.g (Int.toNat (↑g : Int))).y]) i = [SV.int .i64 (L.fromTop (L.chainTo l g') i).x, SV.int .i64 (L.fromTop (L.chainTo l g') i).y]) ∧ g' ≤ l.n ∧ l.n - g' < l.n - g)) ∧ (decide ((↑g : Int) < (↑l.n : Int)) = false → InK .i64 ((↑(L.len (L.chainTo l g)) : Int) - (1 : Int)) ∧ ((0 : Int) ≤ (↑(L.len
 (L.chainTo l g)) : Int) - (1 : Int) ∧ (↑(L.len (L.chainTo l g)) : Int) - (1 : Int) ≤ (↑(L.len (L.chainTo l g)) : Int)) ∧ ∃ (t : Nat), (Int.toNat ((↑(L.len (L.chainTo l g)) : Int) - (1 : Int)) = (L.chain l).n ∧ ∀ (i : Nat), i < Int.toNat ((↑(L.len (L.chainTo l g)) : Int) - (1 : Int)) → [SV.int .i64 (L.fromTop (L.chainTo l g) i).x, SV.int .i64 (L.fromTop (L.chainTo l
 g) i).y] = [SV.int .i64 ((L.chain l).g i).x, SV.int .i64 ((L.chain l).g i).y]) ∧ True)) (by kernel_rfl) (by
    obtain ⟨h1, hn, hb⟩ := hp
    have len0 : ∀ k, L.len (L.chainTo l k) ≤ k := chainTo_len l
    have bdc : ∀ k, k ≤ l.n → ∀ q, L.lmem q (L.chainTo l k) → L.bd q := fun k hk q hq => by
      obtain ⟨i, hi, rfl⟩ := chainTo_mem hq
      exact hb i (by omega)
    refine ⟨⟨(0 : Nat), rfl, ⟨rfl, fun i hi => absurd hi (Nat.not_lt_zero _)⟩, Nat.zero_le _⟩, fun g hg => ⟨fun hlt => ?_, fun hge => ?_⟩⟩
    · have hb' : (g : Int) < (l.n : Int) := of_decide_eq_true hlt
      have e0 : ((g : Int)).toNat = g := by omega
      refine ⟨⟨by omega, hb'⟩, ⟨(g, L.chainTo l g), ⟨rfl, fun _ _ => rfl⟩, rfl, by omega, rfl, fun _ h => h, len0 g⟩, fun g1 hg1 => ?_⟩
      obtain ⟨g0, st⟩ := g1
      obtain ⟨e1, q1, q2, q3, q4⟩ := hg1
      have e1 : (g : Int) = (g0 : Int) := e1
      obtain rfl : g = g0 := by omega
      have q2 : L.popPt (l.g g) st = L.popPt (l.g g) (L.chainTo l g) := q2
      have q3 : ∀ q, L.lmem q st → L.lmem q (L.chainTo l g) := q3
      have q4 : L.len st ≤ g := q4
      have mb : ∀ k, k < L.len st → L.bd (L.fromTop st k) := fun k hk => bdc g hg _ (q3 _ (fromTop_mem hk))
      rw [e0]
      dsimp only
      refine ⟨fun h => ?_, fun h => ?_, fun h => ?_, fun h => ?_, fun h => ?_, fun h => ?_, fun h => ?_, fun hc => ?_, fun hc => ?_⟩
      any_goals (try have h : (1 : Int) < (L.len st : Int) := of_decide_eq_true h)
      · exact InK.of (by omega) (by omega)
      · omega
      · omega
      · exact InK.of (by omega) (by omega)
      · omega
      · omega
      · exact ⟨mb _ (by omega), mb _ (by omega), hb g (by omega)⟩
      · cases hd : decide ((1 : Int) < (L.len st : Int)) with
        | false => rw [hd] at hc; cases hc
        | true =>
          have h : (1 : Int) < (L.len st : Int) := of_decide_eq_true hd
          rw [hd] at hc
          have hc := of_decide_eq_true hc
          match st, h with
          | b :: a :: r, h =>
            have f1 : (((L.len (b :: a :: r) : Nat) : Int) - 2).toNat = r.length := by show (((r.length + 1 + 1 : Nat) : Int) - 2).toNat = r.length; omega
            have f2 : (((L.len (b :: a :: r) : Nat) : Int) - 1).toNat = r.length + 1 := by show (((r.length + 1 + 1 : Nat) : Int) - 1).toNat = r.length + 1; omega
            have g1 : L.fromTop (b :: a :: r) (r.length + 1) = b := fromTop_head
            have g2 : L.fromTop (b :: a :: r) r.length = a := (fromTop_tail (by simp)).trans fromTop_head
            rw [f1, f2, g1, g2] at hc
            refine ⟨InK.of (by omega) (by omega), ⟨by omega, by omega⟩, (g, a :: r), rfl, rfl, rfl, ⟨rfl, fun _ _ => rfl⟩, ⟨f2, fun i hi => ?_⟩, rfl, rfl, ⟨rfl, q1, ?_, fun q hq => q3 q (List.mem_cons_of_mem _ hq), ?_⟩, ?_⟩
            · rw [f2] at hi
              have : L.fromTop (b :: a :: r) i = L.fromTop (a :: r) i := fromTop_tail (by simpa using hi)
              rw [this]
            · rw [← q2]
              show L.popPt (l.g g) (a :: r) = bif decide (L.cross a b (l.g g) ≤ 0) then L.popPt (l.g g) (a :: r) else b :: a :: r
              rw [decide_eq_true hc]; rfl
            · have : r.length + 1 + 1 ≤ g := q4
              show r.length + 1 ≤ g
              omega
            · show r.length + 1 < r.length + 1 + 1
              omega
          | [], h => exact absurd h (by show ¬ (1 : Int) < ((0 : Nat) : Int); omega)
          | [a], h => exact absurd h (by show ¬ (1 : Int) < ((1 : Nat) : Int); omega)
      · have hp' : L.popPt (l.g g) st = st := by
          match st, hc with
          | [], _ => rfl
          | [a], _ => rfl
          | b :: a :: r, hc =>
            have f1 : (((L.len (b :: a :: r) : Nat) : Int) - 2).toNat = r.length := by show (((r.length + 1 + 1 : Nat) : Int) - 2).toNat = r.length; omega
            have f2 : (((L.len (b :: a :: r) : Nat) : Int) - 1).toNat = r.length + 1 := by show (((r.length + 1 + 1 : Nat) : Int) - 1).toNat = r.length + 1; omega
            have g1 : L.fromTop (b :: a :: r) (r.length + 1) = b := fromTop_head
            have g2 : L.fromTop (b :: a :: r) r.length = a := (fromTop_tail (by simp)).trans fromTop_head
            have hl : (1 : Int) < ((L.len (b :: a :: r) : Nat) : Int) := by show (1 : Int) < ((r.length + 1 + 1 : Nat) : Int); omega
            rw [decide_eq_true hl, f1, f2, g1, g2] at hc
            have hc : decide (L.cross a b (l.g g) ≤ 0) = false := hc
            show (bif decide (L.cross a b (l.g g) ≤ 0) then L.popPt (l.g g) (a :: r) else b :: a :: r) = b :: a :: r
            rw [hc]; rfl
        have e2 : L.chainTo l (g + 1) = l.g g :: st := by
          show l.g g :: L.popPt (l.g g) (L.chainTo l g) = l.g g :: st
          rw [← q2, hp']
        refine ⟨show (L.len st + 1) * 16 ≤ 140737488355328 by omega, InK.of (by omega) (by omega), g + 1, by omega, rfl, ⟨rfl, fun _ _ => rfl⟩, ?_, by omega, by omega⟩
        rw [e2]
        refine ⟨rfl, fun i hi => ?_⟩
        have hi : i < L.len st + 1 := hi
        unfold appGet
        by_cases h' : i < L.len st
        · rw [if_pos h']
          have : L.fromTop (l.g g :: st) i = L.fromTop st i := fromTop_tail h'
          rw [this]
        · rw [if_neg h']
          obtain rfl : i = L.len st := by omega
          have : L.fromTop (l.g g :: st) (L.len st) = l.g g := fromTop_head
          rw [this]
    · have hb' : ¬ (g : Int) < (l.n : Int) := of_decide_eq_false hge
      obtain rfl : g = l.n := by omega
      have l1 : 1 ≤ L.len (L.chainTo l l.n) := by
        match hh : l.n, h1 with
        | m + 1, _ => exact Nat.succ_le_succ (Nat.zero_le _)
      have l2 := len0 l.n
      have e2 : (((L.len (L.chainTo l l.n) : Nat) : Int) - 1).toNat = (L.chain l).n := by
        show (((L.len (L.chainTo l l.n) : Nat) : Int) - 1).toNat = L.len (L.chainTo l l.n) - 1
        omega
      exact ⟨InK.of (by omega) (by omega), ⟨by omega, by omega⟩, (0 : Nat), ⟨e2, fun _ _ => rfl⟩, trivial⟩)
theorem p_chain_ok : SpecOk Try.prog 37 p_chain_S := freshX Try.func37 (c := bodyOf Try.f37) (by kernel_rfl) mixed (fun args p q n g hs hp => by
  unfold p_chain_s at hs
  split at hs
  · cases hs; exact ⟨_, _, p_chain_vc _ hp.2, (.p (.sl hp.1) .nil), ⟨show SpecsL Try.prog _ from (SpecsL.cons p_cross_ok p_cross_en SpecsL.nil), rfl, ⟨show ItersL Try.prog _ from ItersL.nil, (TrsOk.none (fun _ => rfl))⟩⟩⟩
  · cases hs)
theorem p_chain_en : Enters Try.prog 37 := fun args w => by kernel_rfl
def p_hull_p (l : (L.Sq L.Pt)) : Prop := 2 ≤ l.n ∧ l.n ≤ 1000 ∧ ∀ i, i < l.n → L.bd (l.g i)
def p_hull_q (l : (L.Sq L.Pt)) : Nat → Prop := fun _ => True
def p_hull_n (l : (L.Sq L.Pt)) : Nat → Nat := fun _ => (L.hull l).n
def p_hull_g (l : (L.Sq L.Pt)) : Nat → Nat → List SV := fun _ k => [.int .i64 (((L.hull l).g k).x), .int .i64 (((L.hull l).g k).y)]
def p_hull_s : List EV → Option (Prop × (Nat → Prop) × (Nat → Nat) × (Nat → Nat → List SV))
  | [.p (.sl 2 l_n l_g)] => some ((∀ i, i < l_n → l_g i = [.int .i64 ((ofPt (l_g i)).x), .int .i64 ((ofPt (l_g i)).y)]) ∧ p_hull_p (⟨l_n, fun i => ofPt (l_g i)⟩ : (L.Sq L.Pt)), p_hull_q (⟨l_n, fun i => ofPt (l_g i)⟩ : (L.Sq L.Pt)), p_hull_n (⟨l_n, fun i => ofPt (l_g i)⟩ : (L.Sq L.Pt)), p_hull_g (⟨l_n, fun i => ofPt (l_g i)⟩ : (L.Sq L.Pt)))
  | _ => none
abbrev p_hull_S : SE.Spec := (specF Nat 0 30 2 p_hull_s)
def p_hull_C : Cfg := { muts := [7, 18], frz := lookN [], specs := lookS [(36, s_values_S), (35, s_sortedF_S), (37, p_chain_S), (39, s_concat_S)], loops := lookL [], iters := lookI [], rfs := lookR [], nils := lookM [], trs := lookT [(38, s_revP_tr)], ren := fun k => k - 998, raws := [35] }
theorem p_hull_vc (l : (L.Sq L.Pt)) (hp : p_hull_p l) : vc Try.prog (p_hull_C) (bodyOf Try.f18) (st0 Try.f18 [.p (.sl 2 l.n (fun i => [.int .i64 ((l.g i).x), .int .i64 ((l.g i).y)]))]) (retFresh Try.prog Try.f18 (Nat) (p_hull_q l) 30 2 (p_hull_n l) (p_hull_g l)) :=
  @Eq.mpr _ (((∀ (i : Nat), i < l.n → [SV.int .i64 (l.g i).x, SV.int .i64 (l.g i).y] = [SV.int .i64 (l.g i).x, SV.int .i64 (l.g i).y]) ∧ l.n ≤ (1000000 : Nat)) ∧ ((∀ (i : Nat), i < l.n → [SV.int .i64 (l.g i).x, SV.int .i64 (l.g i).y] = [SV.int .i64 (l.g i).x, SV.int .i64 (l.g i).y]) ∧
 l.n ≤ (1000000 : Nat)) ∧ ∀ (t : Nat), True → ((∀ (i : Nat), i < l.n → [SV.int .i64 ((L.sorted (L.Sq.mk l.n fun (i : Nat) ↦ l.g i)).g i).x, SV.int .i64 ((L.sorted (L.Sq.mk l.n fun (i : Nat) ↦ l.g i)).g i).y] = [SV.int .i64 ((L.sorted (L.Sq.mk l.n fun (i : Nat) ↦ l.g i)).g i).x, SV.int .i64 ((L.sorted (L.Sq.mk l.n fun (i : Nat) ↦ l.g
 i)).g i).y]) ∧ (1 : Nat) ≤ l.n ∧ l.n ≤ (1000000 : Nat) ∧ ∀ (i : Nat), i < l.n → L.bd ((L.sorted (L.Sq.mk l.n fun (i : Nat) ↦ l.g i)).g i)) ∧ ∀ (t : Nat), True → (∀ (i : Nat), i < (L.chain (L.Sq.mk l.n fun (i : Nat) ↦ (L.sorted (L.Sq.mk l.n fun (i : Nat) ↦ l.g i)).g i)).n → (true && (true && true)) = true) ∧ ∃ (t : L.Sq L.Pt), (l.n = t.n ∧ ∀ (i : Nat), i < l.n → [SV.int
 .i64 ((L.sorted (L.Sq.mk l.n fun (i : Nat) ↦ l.g i)).g i).x, SV.int .i64 ((L.sorted (L.Sq.mk l.n fun (i : Nat) ↦ l.g i)).g i).y] = [SV.int .i64 (t.g i).x, SV.int .i64 (t.g i).y]) ∧ t.n ≤ (1000000 : Nat) ∧ ∀ (u : Nat), True → ((∀ (i : Nat), i < t.n → [SV.int .i64 (t.g (t.n - (1 : Nat) - i)).x, SV.int .i64 (t.g
 (t.n - (1 : Nat) - i)).y] = [SV.int .i64 (t.g (t.n - (1 : Nat) - i)).x, SV.int .i64 (t.g (t.n - (1 : Nat) - i)).y]) ∧ (1 : Nat) ≤ t.n ∧ t.n ≤ (1000000 : Nat) ∧ ∀ (i : Nat), i < t.n → L.bd (t.g (t.n - (1 : Nat) - i))) ∧ ∀ (t_1 : Nat), True → (∀ (i : Nat), i < (L.chain (L.Sq.mk t.n fun (i : Nat) ↦ t.g (t.n - (1 : Nat) - i))).n → (true && (true && true))
 = true) ∧ (((∀ (i : Nat), i < (L.chain (L.Sq.mk l.n fun (i : Nat) ↦ (L.sorted (L.Sq.mk l.n fun (i : Nat) ↦ l.g i)).g i)).n → [SV.int .i64 ((L.chain (L.Sq.mk l.n fun (i : Nat) ↦ (L.sorted (L.Sq.mk l.n fun (i : Nat) ↦ l.g i)).g i)).g i).x, SV.int .i64 ((L.chain (L.Sq.mk l.n fun (i : Nat) ↦ (L.sorted (L.Sq.mk l.n fun (i : Nat) ↦ l.g i)).g i)).g i).y] =
 [SV.int .i64 ((L.chain (L.Sq.mk l.n fun (i : Nat) ↦ (L.sorted (L.Sq.mk l.n fun (i : Nat) ↦ l.g i)).g i)).g i).x, SV.int .i64 ((L.chain (L.Sq.mk l.n fun (i : Nat) ↦ (L.sorted (L.Sq.mk l.n fun (i : Nat) ↦ l.g i)).g i)).g i).y]) ∧ ∀ (i : Nat), i < (L.chain (L.Sq.mk t.n fun (i : Nat) ↦ t.g (t.n - (1 : Nat) - i))).n → [SV.int .i64 ((L.chain (L.Sq.mk t.n
 fun (i : Nat) ↦ t.g (t.n - (1 : Nat) - i))).g i).x, SV.int .i64 ((L.chain (L.Sq.mk t.n fun (i : Nat) ↦ t.g (t.n - (1 : Nat) - i))).g i).y] = [SV.int .i64 ((L.chain (L.Sq.mk t.n fun (i : Nat) ↦ t.g (t.n - (1 : Nat) - i))).g i).x, SV.int .i64 ((L.chain (L.Sq.mk t.n fun (i : Nat) ↦ t.g (t.n - (1 : Nat) - i))).g i).y]) ∧ (1 : Nat) ≤ (L.two (L.Sq.mk
 (L.chain (L.Sq.mk l.n fun (i : Nat) ↦ (L.sorted (L.Sq.mk l.n fun (i : Nat) ↦ l.g i)).g i)).n fun (i : Nat) ↦ (L.chain (L.Sq.mk l.n fun (i : Nat) ↦ (L.sorted (L.Sq.mk l.n fun (i : Nat) ↦ l.g i)).g i)).g i) (L.Sq.mk (L.chain (L.Sq.mk t.n fun (i : Nat) ↦ t.g (t.n - (1 : Nat) - i))).n fun (i : Nat) ↦ (L.chain (L.Sq.mk t.n fun (i : Nat) ↦ t.g (t.n - (1 : Nat) - i))).g i) (0 : Nat)).n + (L.two (L.Sq.mk
 (L.chain (L.Sq.mk l.n fun (i : Nat) ↦ (L.sorted (L.Sq.mk l.n fun (i : Nat) ↦ l.g i)).g i)).n fun (i : Nat) ↦ (L.chain (L.Sq.mk l.n fun (i : Nat) ↦ (L.sorted (L.Sq.mk l.n fun (i : Nat) ↦ l.g i)).g i)).g i) (L.Sq.mk (L.chain (L.Sq.mk t.n fun (i : Nat) ↦ t.g (t.n - (1 : Nat) - i))).n fun (i : Nat) ↦ (L.chain (L.Sq.mk t.n fun (i : Nat) ↦ t.g (t.n - (1 : Nat) - i))).g i) (1 : Nat)).n ∧ (L.two (L.Sq.mk
 (L.chain (L.Sq.mk l.n fun (i : Nat) ↦ (L.sorted (L.Sq.mk l.n fun (i : Nat) ↦ l.g i)).g i)).n fun (i : Nat) ↦ (L.chain (L.Sq.mk l.n fun (i : Nat) ↦ (L.sorted (L.Sq.mk l.n fun (i : Nat) ↦ l.g i)).g i)).g i) (L.Sq.mk (L.chain (L.Sq.mk t.n fun (i : Nat) ↦ t.g (t.n - (1 : Nat) - i))).n fun (i : Nat) ↦ (L.chain (L.Sq.mk t.n fun (i : Nat) ↦ t.g (t.n - (1 : Nat) - i))).g i) (0 : Nat)).n ≤ (1000000 : Nat)
 ∧ (L.two (L.Sq.mk (L.chain (L.Sq.mk l.n fun (i : Nat) ↦ (L.sorted (L.Sq.mk l.n fun (i : Nat) ↦ l.g i)).g i)).n fun (i : Nat) ↦ (L.chain (L.Sq.mk l.n fun (i : Nat) ↦ (L.sorted (L.Sq.mk l.n fun (i : Nat) ↦ l.g i)).g i)).g i) (L.Sq.mk (L.chain (L.Sq.mk t.n fun (i : Nat) ↦ t.g (t.n - (1 : Nat) - i))).n fun (i : Nat) ↦ (L.chain (L.Sq.mk t.n fun (i : Nat) ↦ t.g (t.n - (1 : Nat) - i))).g i) (1 : Nat)).n
 ≤ (1000000 : Nat)) ∧ ∀ (t_2 : Nat), True → ∃ (t_3 : Nat), ((L.catTo (L.two (L.Sq.mk (L.chain (L.Sq.mk l.n fun (i : Nat) ↦ (L.sorted (L.Sq.mk l.n fun (i : Nat) ↦ l.g i)).g i)).n fun (i : Nat) ↦ (L.chain (L.Sq.mk l.n fun (i : Nat) ↦ (L.sorted (L.Sq.mk l.n fun (i : Nat) ↦ l.g i)).g i)).g i) (L.Sq.mk (L.chain (L.Sq.mk t.n fun (i : Nat) ↦ t.g (t.n - (1 : Nat) - i))).n fun (i : Nat) ↦ (L.chain (L.Sq.mk
 t.n fun (i : Nat) ↦ t.g (t.n - (1 : Nat) - i))).g i)) (2 : Nat)).n = (L.hull l).n ∧ ∀ (i : Nat), i < (L.catTo (L.two (L.Sq.mk (L.chain (L.Sq.mk l.n fun (i : Nat) ↦ (L.sorted (L.Sq.mk l.n fun (i : Nat) ↦ l.g i)).g i)).n fun (i : Nat) ↦ (L.chain (L.Sq.mk l.n fun (i : Nat) ↦ (L.sorted (L.Sq.mk l.n fun (i : Nat) ↦ l.g i)).g i)).g i) (L.Sq.mk (L.chain (L.Sq.mk t.n fun (i : Nat) ↦ t.g (t.n - (1 : Nat) -
 i))).n fun (i : Nat) ↦ (L.chain (L.Sq.mk t.n fun (i : Nat) ↦ t.g (t.n - (1 : Nat) - i))).g i)) (2 : Nat)).n → [SV.int .i64 ((L.catTo (L.two (L.Sq.mk (L.chain (L.Sq.mk l.n fun (i : Nat) ↦ (L.sorted (L.Sq.mk l.n fun (i : Nat) ↦ l.g i)).g i)).n fun (i : Nat) ↦ (L.chain (L.Sq.mk l.n fun (i : Nat) ↦ (L.sorted (L.Sq.mk l.n fun (i : Nat) ↦ l.g i)).g i)).g i) (L.Sq.mk (L.chain (L.Sq.mk t.n
 fun (i : Nat) ↦ t.g (t.n - (1 : Nat) - i))).n fun (i : Nat) ↦ (L.chain (L.Sq.mk t.n fun (i : Nat) ↦ t.g (t.n - (1 : Nat) - i))).g i)) (2 : Nat)).g i).x, SV.int .i64 ((L.catTo (L.two (L.Sq.mk (L.chain (L.Sq.mk l.n fun (i : Nat) ↦ (L.sorted (L.Sq.mk l.n fun (i : Nat) ↦ l.g i)).g i)).n fun (i : Nat) ↦ (L.chain (L.Sq.mk l.n fun (i : Nat) ↦ (L.sorted (L.Sq.mk l.n fun (i : Nat) ↦ l.g
 i)).g i)).g i) (L.Sq.mk (L.chain (L.Sq.mk t.n fun (i : Nat) ↦ t.g (t.n - (1 : Nat) - i))).n fun (i : Nat) ↦ (L.chain (L.Sq.mk t.n fun (i : Nat) ↦ t.g (t.n - (1 : Nat) - i))).g i)) (2 : Nat)).g i).y] = [SV.int .i64 ((L.hull l).g i).x, SV.int .i64 ((L.hull l).g i).y]) ∧ True) (by kernel_rfl) (by
    obtain ⟨h1, hn, hb⟩ := hp
    have sb : ∀ i, i < l.n → L.bd ((L.sorted l).g i) := fun i hi => by
      obtain ⟨j, hj, e⟩ := sorted_mem l hi
      rw [e]; exact hb j hj
    have cl : ∀ m : L.Sq L.Pt, (L.chain m).n ≤ m.n := fun m => by
      have := chainTo_len m m.n
      show (L.chainTo m m.n).length - 1 ≤ m.n
      omega
    have c1 : (L.chain (L.sorted l)).n ≤ l.n := cl (L.sorted l)
    have c2 : (L.chain (L.revd (L.sorted l))).n ≤ l.n := cl (L.revd (L.sorted l))
    have c3 : 1 ≤ (L.chain (L.sorted l)).n := chain_pos (l := L.sorted l) h1
    refine ⟨⟨fun _ _ => rfl, by omega⟩, ⟨fun _ _ => rfl, by omega⟩, fun t _ => ⟨⟨fun _ _ => rfl, by omega, by omega, sb⟩, fun t _ => ⟨fun _ _ => rfl, L.sorted l, ⟨rfl, fun _ _ => rfl⟩, show l.n ≤ 1000000 by omega, fun u _ => ⟨⟨fun _ _ => rfl, show 1 ≤ l.n by omega, show l.n ≤ 1000000 by omega, fun i hi => sb _ ?_⟩, fun t1 _ => ⟨fun _ _ => rfl, ⟨⟨fun _ _ => rfl, fun _ _ => rfl⟩, ?_, ?_, ?_⟩, fun t2 _ => ⟨(0 : Nat), ⟨rfl, fun _ _ => rfl⟩, trivial⟩⟩⟩⟩⟩⟩
    · have hi : i < l.n := hi
      show l.n - 1 - i < l.n
      omega
    · show 1 ≤ (L.chain (L.sorted l)).n + (L.chain (L.revd (L.sorted l))).n
      omega
    · show (L.chain (L.sorted l)).n ≤ 1000000
      omega
    · show (L.chain (L.revd (L.sorted l))).n ≤ 1000000
      omega)
theorem p_hull_ok : SpecOk Try.prog 18 p_hull_S := freshX Try.func18 (c := bodyOf Try.f18) (by kernel_rfl) mixed (fun args p q n g hs hp => by
  unfold p_hull_s at hs
  split at hs
  · cases hs; exact ⟨_, _, p_hull_vc _ hp.2, (.p (.sl hp.1) .nil), ⟨show SpecsL Try.prog _ from (SpecsL.cons s_values_ok s_values_en (SpecsL.cons s_sortedF_ok s_sortedF_en (SpecsL.cons p_chain_ok p_chain_en (SpecsL.cons s_concat_ok s_concat_en SpecsL.nil)))), rfl, ⟨show ItersL Try.prog _ from ItersL.nil, (show TrsL Try.prog _ from (TrsL.cons s_revP_tok s_revP_en TrsL.nil))⟩⟩⟩
  · cases hs)
theorem p_hull_en : Enters Try.prog 18 := fun args w => by kernel_rfl
end Go.Proofs.Ytinfalehnaejbaa

namespace Go.Proofs.Ytinfalehnaejbaa
open Go.SE Go.RowKit
set_option maxRecDepth 100000
set_option maxHeartbeats 4000000
set_option linter.unusedVariables false
attribute [local irreducible] vc

structure L.Pocket where
  fr : Int
  to_ : Int
  area : Int
instance : Inhabited L.Pocket := ⟨⟨0, 0, 0⟩⟩
def encPk (p : L.Pocket) : List Int := [p.fr, p.to_, p.area]
def L.cmpFr (a b : L.Pocket) : Int := L.cmp a.fr b.fr
theorem swoPk : Go.Sort.SWO (Go.Proofs.ltOf L.cmpFr) := by
  have k : ∀ x y, Go.Proofs.ltOf L.cmpFr x y = true ↔ x.fr < y.fr := fun x y => by
    unfold Go.Proofs.ltOf L.cmpFr L.cmp; rw [decide_eq_true_iff]
    by_cases h1 : x.fr < y.fr
    · simp [h1]
    · by_cases h2 : y.fr < x.fr <;> simp [h1, h2]
  have kf : ∀ x y, Go.Proofs.ltOf L.cmpFr x y = false ↔ ¬ x.fr < y.fr := fun x y => by
    rw [← k, Bool.not_eq_true]
  refine ⟨fun x => ?_, fun x y z => ?_, fun x y z => ?_⟩
  · rw [kf]; omega
  · simp only [k]; omega
  · simp only [kf]; omega
def L.pkFrom (l h : L.Sq L.Pt) (k : Nat) : Int := L.ptIdx l (h.g k)
def L.pkTo (l h : L.Sq L.Pt) (k : Nat) : Int := L.ptIdx l (h.g (L.next h.n k))
def L.isPk (l h : L.Sq L.Pt) (k : Nat) : Bool := !decide (L.pkTo l h k = Int.tmod (L.pkFrom l h k + 1) (l.n : Int))
def L.back (n : Nat) (to_ : Int) (j : Nat) : Int := Int.tmod (to_ + (n : Int) - (j : Int)) (n : Int)
def L.pkLen (n : Nat) (fr to_ : Int) : Nat := (Int.tmod (to_ + (n : Int) - fr) (n : Int)).toNat
def L.pkRow (l : L.Sq L.Pt) (fr to_ : Int) : L.Sq L.Pt := ⟨L.pkLen l.n fr to_ + 1, fun j => l.g (L.back l.n to_ j).toNat⟩
def L.pk (l h : L.Sq L.Pt) (k : Nat) : L.Pocket := ⟨L.pkFrom l h k, L.pkTo l h k, L.areaTo (L.pkRow l (L.pkFrom l h k) (L.pkTo l h k)) (L.pkRow l (L.pkFrom l h k) (L.pkTo l h k)).n⟩
def L.pks (l : L.Sq L.Pt) : L.Sq L.Pocket := ⟨L.cnt (L.isPk l (L.hull l)) (L.hull l).n, fun i => L.pk l (L.hull l) (L.selN (L.isPk l (L.hull l)) (L.hull l).n i)⟩
def L.pkN (l : L.Sq L.Pt) : Nat := bif L.validOutline l then (L.pks l).n else 0
def sortPk_ren : Go.Shelf.Ren := ⟨fun | 6 => 20 | 15 => 41 | 14 => 40 | 28 => 61 | 29 => 62 | 20 => 53 | 21 => 54 | 22 => 55 | 23 => 56 | 24 => 57 | 25 => 58 | 26 => 59 | 27 => 60 | 46 => 67 | 47 => 68 | 48 => 69 | 49 => 70 | 50 => 71 | 57 => 80 | n => n, fun | 22 => 35 | 24 => 43 | 25 => 54 | 3 => 3 | 39 => 74 | 0 => 0 | 53 => 94 | 55 => 96 | 4 => 4 | 46 => 87 | 45 => 86 | 50 => 91 | 5 => 5 | 9 => 9 | 66 => 101 | 70 => 105 | 76 => 112 | 77 => 113 | n => n, fun | n => n⟩
theorem sortPk_lay : Go.Proofs.SlLaysF0.n6 Try.prog sortPk_ren := {
  mixed := by kernel_rfl
  f6 := ⟨Try.f20.name, by decide, Try.func20.trans (congrArg some (by kernel_rfl))⟩
  f14 := ⟨Try.f40.name, by decide, Try.func40.trans (congrArg some (by kernel_rfl))⟩
  f15 := Try.func41.trans (congrArg some (by kernel_rfl))
  f20 := ⟨Try.f53.name, by decide, Try.func53.trans (congrArg some (by kernel_rfl))⟩
  f21 := ⟨Try.f54.name, by decide, Try.func54.trans (congrArg some (by kernel_rfl))⟩
  f22 := ⟨Try.f55.name, by decide, Try.func55.trans (congrArg some (by kernel_rfl))⟩
  f23 := ⟨Try.f56.name, by decide, Try.func56.trans (congrArg some (by kernel_rfl))⟩
  f24 := ⟨Try.f57.name, by decide, Try.func57.trans (congrArg some (by kernel_rfl))⟩
  f25 := ⟨Try.f58.name, by decide, Try.func58.trans (congrArg some (by kernel_rfl))⟩
  f26 := ⟨Try.f59.name, by decide, Try.func59.trans (congrArg some (by kernel_rfl))⟩
  f27 := ⟨Try.f60.name, by decide, Try.func60.trans (congrArg some (by kernel_rfl))⟩
  f28 := Try.func61.trans (congrArg some (by kernel_rfl))
  f29 := Try.func62.trans (congrArg some (by kernel_rfl))
  f46 := ⟨Try.f67.name, by decide, Try.func67.trans (congrArg some (by kernel_rfl))⟩
  f47 := Try.func68.trans (congrArg some (by kernel_rfl))
  f48 := Try.func69.trans (congrArg some (by kernel_rfl))
  f49 := ⟨Try.f70.name, by decide, Try.func70.trans (congrArg some (by kernel_rfl))⟩
  f50 := ⟨Try.f71.name, by decide, Try.func71.trans (congrArg some (by kernel_rfl))⟩
  f57 := ⟨Try.f80.name, by decide, Try.func80.trans (congrArg some (by kernel_rfl))⟩
  t0 := Try.underlying0
  a0 := Try.isAgg0
  z0 := Try.sizeOf0
  v0 := Try.zeroValue0
  t3 := Try.underlying3
  a3 := Try.isAgg3
  z3 := Try.sizeOf3
  v3 := Try.zeroValue3
  t4 := Try.underlying4
  a4 := Try.isAgg4
  z4 := Try.sizeOf4
  v4 := Try.zeroValue4
  t5 := Try.underlying5
  a5 := Try.isAgg5
  z5 := Try.sizeOf5
  v5 := Try.zeroValue5
  t9 := Try.underlying9
  a9 := Try.isAgg9
  z9 := Try.sizeOf9
  v9 := Try.zeroValue9
  t22 := Try.underlying35
  a22 := Try.isAgg35
  z22 := Try.sizeOf35
  v22 := Try.zeroValue35
  t25 := Try.underlying54
  a25 := Try.isAgg54
  z25 := Try.sizeOf54
  v25 := Try.zeroValue54
  t39 := Try.underlying74
  a39 := Try.isAgg74
  z39 := Try.sizeOf74
  v39 := Try.zeroValue74
  t45 := Try.underlying86
  a45 := Try.isAgg86
  z45 := Try.sizeOf86
  v45 := Try.zeroValue86
  t46 := Try.underlying87
  a46 := Try.isAgg87
  z46 := Try.sizeOf87
  v46 := Try.zeroValue87
  t50 := Try.underlying91
  a50 := Try.isAgg91
  z50 := Try.sizeOf91
  v50 := Try.zeroValue91
  t53 := Try.underlying94
  a53 := Try.isAgg94
  z53 := Try.sizeOf94
  v53 := Try.zeroValue94
  t55 := Try.underlying96
  a55 := Try.isAgg96
  z55 := Try.sizeOf96
  v55 := Try.zeroValue96
  t66 := Try.underlying101
  a66 := Try.isAgg101
  z66 := Try.sizeOf101
  v66 := Try.zeroValue101
  t70 := Try.underlying105
  a70 := Try.isAgg105
  z70 := Try.sizeOf105
  v70 := Try.zeroValue105
  t76 := Try.underlying112
  a76 := Try.isAgg112
  z76 := Try.sizeOf112
  v76 := Try.zeroValue112
  t77 := Try.underlying113
  a77 := Try.isAgg113
  z77 := Try.sizeOf113
  v77 := Try.zeroValue113 }

theorem back_bd {n : Nat} {to_ : Int} (hn : 0 < n) (h0 : 0 ≤ to_) {j : Nat} (hj : j ≤ n) : 0 ≤ L.back n to_ j ∧ L.back n to_ j < (n : Int) := by
  unfold L.back
  exact ⟨Int.tmod_nonneg (n : Int) (by omega), Int.tmod_lt_of_pos _ (by omega)⟩
theorem back_0 {n : Nat} {to_ : Int} (h0 : 0 ≤ to_) (h1 : to_ < (n : Int)) : L.back n to_ 0 = to_ := by
  unfold L.back
  rw [show to_ + (n : Int) - ((0 : Nat) : Int) = to_ + (n : Int) by omega, Int.tmod_eq_emod_of_nonneg (by omega), Int.add_emod_right, Int.emod_eq_of_lt h0 h1]
theorem back_succ {n : Nat} {to_ : Int} (hn : 0 < n) (h0 : 0 ≤ to_) {j : Nat} (hj : j < n) : Int.tmod (L.back n to_ j + (n : Int) - 1) (n : Int) = L.back n to_ (j + 1) := by
  have hb := back_bd hn h0 (j := j) (by omega)
  unfold L.back at hb ⊢
  rw [Int.tmod_eq_emod_of_nonneg (a := to_ + (n : Int) - (j : Int)) (by omega)] at hb ⊢
  rw [Int.tmod_eq_emod_of_nonneg (by omega), Int.tmod_eq_emod_of_nonneg (a := to_ + (n : Int) - ((j + 1 : Nat) : Int)) (by omega)]
  rw [show (to_ + (n : Int) - (j : Int)) % (n : Int) + (n : Int) - 1 = (to_ + (n : Int) - (j : Int)) % (n : Int) + ((n : Int) - 1) by omega, Int.emod_add_emod, show to_ + (n : Int) - (j : Int) + ((n : Int) - 1) = to_ + (n : Int) - ((j + 1 : Nat) : Int) + (n : Int) by omega, Int.add_emod_right]
theorem back_end {n : Nat} {fr to_ : Int} (hf0 : 0 ≤ fr) (hf1 : fr < (n : Int)) (ht0 : 0 ≤ to_) (ht1 : to_ < (n : Int)) {j : Nat} (hj : j ≤ L.pkLen n fr to_) : (L.back n to_ j = fr ↔ j = L.pkLen n fr to_) ∧ L.pkLen n fr to_ < n := by
  unfold L.pkLen L.back at *
  rw [Int.tmod_eq_emod_of_nonneg (a := to_ + (n : Int) - fr) (by omega)] at hj ⊢
  by_cases h : fr ≤ to_
  · have e1 : (to_ + (n : Int) - fr) % (n : Int) = to_ - fr := by
      rw [show to_ + (n : Int) - fr = to_ - fr + (n : Int) by omega, Int.add_emod_right, Int.emod_eq_of_lt (by omega) (by omega)]
    rw [e1] at hj ⊢
    rw [Int.tmod_eq_emod_of_nonneg (by omega), show to_ + (n : Int) - (j : Int) = to_ - (j : Int) + (n : Int) by omega, Int.add_emod_right, Int.emod_eq_of_lt (by omega) (by omega)]
    omega
  · have e1 : (to_ + (n : Int) - fr) % (n : Int) = to_ + (n : Int) - fr := Int.emod_eq_of_lt (by omega) (by omega)
    rw [e1] at hj ⊢
    rw [Int.tmod_eq_emod_of_nonneg (by omega)]
    by_cases h2 : (j : Int) ≤ to_
    · rw [show to_ + (n : Int) - (j : Int) = to_ - (j : Int) + (n : Int) by omega, Int.add_emod_right, Int.emod_eq_of_lt (by omega) (by omega)]
      omega
    · rw [Int.emod_eq_of_lt (by omega) (by omega)]
      omega
theorem pkRow_small {l : L.Sq L.Pt} (hs : L.small l) {fr to_ : Int} (hn : l.n ≤ 900) (hf0 : 0 ≤ fr) (hf1 : fr < (l.n : Int)) (ht0 : 0 ≤ to_) (ht1 : to_ < (l.n : Int)) : L.small (L.pkRow l fr to_) := by
  have hlen := (back_end hf0 hf1 ht0 ht1 (j := 0) (Nat.zero_le _)).2
  refine ⟨show L.pkLen l.n fr to_ + 1 ≤ 1000 by omega, fun i hi => ?_⟩
  have hi : i < L.pkLen l.n fr to_ + 1 := hi
  have hb := back_bd (n := l.n) (by omega) ht0 (j := i) (by omega)
  exact hs.2 _ (by omega)
theorem pk_idx {l : L.Sq L.Pt} {k : Nat} (hk : k < (L.hull l).n) : 0 ≤ L.ptIdx l ((L.hull l).g k) ∧ L.ptIdx l ((L.hull l).g k) < (l.n : Int) := by
  obtain ⟨i, hi, e⟩ := hull_mem l hk
  obtain ⟨j, hj, e2, _⟩ := ptIdx_of (l := l) hi
  rw [e, e2]; omega
def p_pk1_p (a : L.Pocket) (b : L.Pocket) : Prop := True
def p_pk1_r (a : L.Pocket) (b : L.Pocket) : SV := .int .i64 (L.cmpFr a b)
def p_pk1_s : List EV → Option (Prop × SV)
  | [.p (.agg [.int .i64 a_fr, .int .i64 a_to_, .int .i64 a_area]), .p (.agg [.int .i64 b_fr, .int .i64 b_to_, .int .i64 b_area])] => some (p_pk1_p (⟨a_fr, a_to_, a_area⟩ : L.Pocket) (⟨b_fr, b_to_, b_area⟩ : L.Pocket), p_pk1_r (⟨a_fr, a_to_, a_area⟩ : L.Pocket) (⟨b_fr, b_to_, b_area⟩ : L.Pocket))
  | _ => none
abbrev p_pk1_S : SE.Spec := (specO p_pk1_s)
def p_pk1_C : Cfg := { muts := [], frz := lookN [], specs := lookS [(22, c_cmp_S)], loops := lookL [], iters := lookI [], rfs := lookR [], nils := lookM [] }
theorem p_pk1_vc (a : L.Pocket) (b : L.Pocket) (hp : p_pk1_p a b) : vc Try.prog (p_pk1_C) (bodyOf Try.f21) (st0 Try.f21 [.p (.agg [.int .i64 a.fr, .int .i64 a.to_, .int .i64 a.area]), .p (.agg [.int .i64 b.fr, .int .i64 b.to_, .int .i64 b.area])]) (retFn Try.prog Try.f21 (p_pk1_r a b)) :=
  @Eq.mpr _ (True ∧ L.cmp a.fr b.fr = L.cmpFr a b) (by kernel_rfl) (by
    exact ⟨trivial, rfl⟩)
theorem p_pk1_ok : SpecOk Try.prog 21 p_pk1_S := fnX Try.func21 (c := bodyOf Try.f21) (by kernel_rfl) mixed (fun args p r hs hp => by
  unfold p_pk1_s at hs
  split at hs
  · cases hs; exact ⟨_, _, p_pk1_vc _ _ hp, (.same _ (.same _ .nil)), ⟨show SpecsL Try.prog _ from (SpecsL.cons c_cmp_ok c_cmp_en SpecsL.nil), rfl, ⟨show ItersL Try.prog _ from ItersL.nil, (TrsOk.none (fun _ => rfl))⟩⟩⟩
  · cases hs)
theorem p_pk1_en : Enters Try.prog 21 := fun args w => by kernel_rfl
abbrev s_sortK_tr : Tr := sortTr 43 3 21 1005 encPk L.cmpFr
theorem s_sortK_tok : TrOk Try.prog 20 s_sortK_tr := sortTr_ok (enc := encPk) sortPk_lay (by decide) (fun w => Try.isAgg43 w) (fun w => Try.sizeOf43 w) (fun _ => rfl) swoPk p_pk1_ok p_pk1_en (fun x y => show preO p_pk1_s [.p (.agg [.int .i64 x.fr, .int .i64 x.to_, .int .i64 x.area]), .p (.agg [.int .i64 y.fr, .int .i64 y.to_, .int .i64 y.area])] from trivial) (fun x y => rfl) _ _
theorem s_sortK_en : Enters Try.prog 20 := fun args w => by kernel_rfl
def p_Pockets_p (l : (L.Sq L.Pt)) : Prop := l.n ≤ 1000000
def p_Pockets_q (l : (L.Sq L.Pt)) : (Nat → L.Pocket) → Prop := fun u => L.validOutline l = true → SortedBy L.cmpFr (L.pks l).n (L.pks l).g u
def p_Pockets_r (l : (L.Sq L.Pt)) : (Nat → L.Pocket) → SV := fun u => .tup [.sl 3 (L.pkN l) (fun i => [.int .i64 ((u i).fr), .int .i64 ((u i).to_), .int .i64 ((u i).area)]), .int .i64 (bif L.validOutline l then 0 else 1)]
def p_Pockets_s : List EV → Option (Prop × ((Nat → L.Pocket) → Prop) × ((Nat → L.Pocket) → SV))
  | [.p (.sl 2 l_n l_g)] => some ((∀ i, i < l_n → l_g i = [.int .i64 ((ofPt (l_g i)).x), .int .i64 ((ofPt (l_g i)).y)]) ∧ p_Pockets_p (⟨l_n, fun i => ofPt (l_g i)⟩ : (L.Sq L.Pt)), p_Pockets_q (⟨l_n, fun i => ofPt (l_g i)⟩ : (L.Sq L.Pt)), p_Pockets_r (⟨l_n, fun i => ofPt (l_g i)⟩ : (L.Sq L.Pt)))
  | _ => none
abbrev p_Pockets_S : SE.Spec := (specR (Nat → L.Pocket) (fun _ => ⟨0, 0, 0⟩) p_Pockets_s)
def p_Pockets_C : Cfg := { muts := [4, 5, 7, 40], frz := lookN [], specs := lookS [(12, p_ValidOutline_S), (18, p_hull_S), (14, p_triples_S), (19, s_idxPt_S), (13, p_area_S), (21, p_pk1_S)], loops := fun _ => none, iters := lookI [(33, p_triples1_it)], rfs := lookR [], nils := lookM [(5, [(4, 68, 43, 3)])], trs := lookT [(20, s_sortK_tr)], ren := fun k => k - 937 }
theorem p_Pockets_vc (l : (L.Sq L.Pt)) (hp : p_Pockets_p l) : vc Try.prog ({ p_Pockets_C with loops := lookL [(11, { T := Nat × Int × Int, keep := [1, 4, 5, 8, 9, 10], keepO := [4, 5, 68], tie := fun g => [(8, .int .i64 g.2.1), (9, .int .i64 g.2.2)], chg := fun g => [(11, .p (.int .i64 (L.back l.n g.2.2 g.1)))], own := fun g => [(40, .row 30 2 (g.1 + 1) (fun j => [.int .i64 ((l.g (L.back l.n g.2.2 j).toNat).x), .int .i64 ((l.g (L.back l.n g.2.2 j).toNat).y)]))], inv := fun g => (0 ≤ g.2.1 ∧ g.2.1 < (l.n : Int)) ∧ (0 ≤ g.2.2 ∧ g.2.2 < (l.n : Int)) ∧ g.1 ≤ L.pkLen l.n g.2.1 g.2.2, mu := fun g => l.n - g.1 })], rfs := lookR [(6, { T := Nat, keep := [1, 4, 5], keepO := [5], own := fun k _ => [(4, .blk 35 [.row 68]), (68, .row 43 3 (L.cnt (L.isPk l (L.hull l)) k) (fun i => [.int .i64 ((L.pk l (L.hull l) (L.selN (L.isPk l (L.hull l)) k i)).fr), .int .i64 ((L.pk l (L.hull l) (L.selN (L.isPk l (L.hull l)) k i)).to_), .int .i64 ((L.pk l (L.hull l) (L.selN (L.isPk l (L.hull l)) k i)).area)]))], inv := fun k _ => k ≤ (L.hull l).n })] }) (bodyOf Try.f9) (st0 Try.f9 [.p (.sl 2 l.n (fun i => [.int .i64 ((l.g i).x), .int .i64 ((l.g i).y)]))]) (retRel Try.prog Try.f9 ((Nat → L.Pocket)) (p_Pockets_q l) (p_Pockets_r l)) :=
  @Eq.mpr _ (((∀ (i : Nat), i < l.n → [SV.int .i64 (l.g i).x, SV.int .i64 (l.g i).y] = [SV.int .i64 (l.g i).x, SV.int .i64 (l.g i).y]) ∧ l.n ≤ (1000000 : Nat)) ∧ ((!L.validOutline (L.Sq.mk l.n fun (i : Nat) ↦ l.g i)) = true → ∃ (t : Nat → L.Pocket), L.pkN l = (0 : Nat) ∧ ((1 : Int) = bif L.validOutline l then (0 : Int) else (1 : Int)) ∧
 (L.validOutline l = true → SortedBy L.cmpFr (L.pks l).n (L.pks l).g t)) ∧ ((!L.validOutline (L.Sq.mk l.n fun (i : Nat) ↦ l.g i)) = false → ((∀ (i : Nat), i < l.n → [SV.int .i64 (l.g i).x, SV.int .i64 (l.g i).y] = [SV.int .i64 (l.g i).x, SV.int .i64 (l.g i).y]) ∧ (2 : Nat) ≤ l.n ∧ l.n ≤ (1000 : Nat) ∧ ∀ (i : Nat), i <
 l.n → L.bd (l.g i)) ∧ ∀ (t : Nat), True → ((∀ (i : Nat), i < (L.hull (L.Sq.mk l.n fun (i : Nat) ↦ l.g i)).n → [SV.int .i64 ((L.hull (L.Sq.mk l.n fun (i : Nat) ↦ l.g i)).g i).x, SV.int .i64 ((L.hull (L.Sq.mk l.n fun (i : Nat) ↦ l.g i)).g i).y] = [SV.int .i64 ((L.hull (L.Sq.mk l.n fun (i : Nat) ↦ l.g i)).g i).x, SV.int .i64 ((L.hull
 (L.Sq.mk l.n fun (i : Nat) ↦ l.g i)).g i).y]) ∧ (L.hull (L.Sq.mk l.n fun (i : Nat) ↦ l.g i)).n ≤ (1000 : Nat)) ∧ (((∀ (i : Nat), i < (L.hull (L.Sq.mk l.n fun (i : Nat) ↦ l.g i)).n → [SV.int .i64 ((L.hull (L.Sq.mk l.n fun (i : Nat) ↦ l.g i)).g i).x, SV.int .i64 ((L.hull (L.Sq.mk l.n fun (i : Nat) ↦ l.g i)).g i).y] = [SV.int .i64 ((L.hull (L.Sq.mk l.n
 fun (i : Nat) ↦ l.g i)).g i).x, SV.int .i64 ((L.hull (L.Sq.mk l.n fun (i : Nat) ↦ l.g i)).g i).y]) ∧ (L.hull (L.Sq.mk l.n fun (i : Nat) ↦ l.g i)).n ≤ (1000 : Nat)) ∧ ∃ (t : Nat), (nat_lit 0 = L.cnt (L.isPk l (L.hull l)) (0 : Nat) ∧ ∀ (i : Nat), i < nat_lit 0 → [] = [SV.int .i64 (L.pk l (L.hull l) (L.selN (L.isPk l (L.hull l)) (0 : Nat) i)).fr, SV.int
 .i64 (L.pk l (L.hull l) (L.selN (L.isPk l (L.hull l)) (0 : Nat) i)).to_, SV.int .i64 (L.pk l (L.hull l) (L.selN (L.isPk l (L.hull l)) (0 : Nat) i)).area]) ∧ (↑l.n : Int) = (↑l.n : Int) ∧ (0 : Nat) ≤ (L.hull l).n) ∧ (∀ (k t_1 : Nat) (vk : Nat → Go.Value), k < (L.hull (L.Sq.mk l.n fun (i : Nat) ↦ l.g i)).n → k ≤ (L.hull l).n → ((0 : Int) ≤ (1 : Int) ∧ (1 : Int) < (↑(3 :
 Nat) : Int)) ∧ ((∀ (i : Nat), i < l.n → [SV.int .i64 (l.g i).x, SV.int .i64 (l.g i).y] = [SV.int .i64 (l.g i).x, SV.int .i64 (l.g i).y]) ∧ l.n ≤ (1000000 : Nat)) ∧ ((0 : Int) ≤ (2 : Int) ∧ (2 : Int) < (↑(3 : Nat) : Int)) ∧ ((∀ (i : Nat), i < l.n → [SV.int .i64 (l.g i).x, SV.int .i64 (l.g i).y] =
 [SV.int .i64 (l.g i).x, SV.int .i64 (l.g i).y]) ∧ l.n ≤ (1000000 : Nat)) ∧ InK .i64 (L.ptIdx (L.Sq.mk l.n fun (i : Nat) ↦ l.g i) ((L.hull (L.Sq.mk l.n fun (i : Nat) ↦ l.g i)).g (Int.toNat (↑k : Int))) + (1 : Int)) ∧ (↑l.n : Int) ≠ (0 : Int) ∧ (decide (L.ptIdx (L.Sq.mk l.n fun (i : Nat) ↦ l.g i) ((L.hull (L.Sq.mk l.n fun (i : Nat) ↦ l.g
 i)).g (Int.toNat (Int.tmod ((↑k : Int) + (1 : Int)) (↑(L.hull (L.Sq.mk l.n fun (i : Nat) ↦ l.g i)).n : Int)))) = Int.tmod (L.ptIdx (L.Sq.mk l.n fun (i : Nat) ↦ l.g i) ((L.hull (L.Sq.mk l.n fun (i : Nat) ↦ l.g i)).g (Int.toNat (↑k : Int))) + (1 : Int)) (↑l.n : Int)) = true → ∃ (t' : Nat), nat_lit 0 = nat_lit 0 ∧ nat_lit 0 = nat_lit 0 ∧ SV.ref [SV.sl (nat_lit 2) l.n fun (i : Nat) ↦
 [SV.int .i64 (l.g i).x, SV.int .i64 (l.g i).y]] (nat_lit 0) = SV.ref [SV.sl (nat_lit 2) l.n fun (i : Nat) ↦ [SV.int .i64 (l.g i).x, SV.int .i64 (l.g i).y]] (nat_lit 0) ∧ vk (nat_lit 5) = vk (nat_lit 5) ∧ vk (nat_lit 4) = vk (nat_lit 4) ∧ vk (nat_lit 1) = vk (nat_lit 1) ∧ (L.cnt (L.isPk l (L.hull l)) k = L.cnt (L.isPk l
 (L.hull l)) (k + (1 : Nat)) ∧ ∀ (i : Nat), i < L.cnt (L.isPk l (L.hull l)) k → [SV.int .i64 (L.pk l (L.hull l) (L.selN (L.isPk l (L.hull l)) k i)).fr, SV.int .i64 (L.pk l (L.hull l) (L.selN (L.isPk l (L.hull l)) k i)).to_, SV.int .i64 (L.pk l (L.hull l) (L.selN (L.isPk l (L.hull l)) k i)).area] = [SV.int .i64 (L.pk l (L.hull l)
 (L.selN (L.isPk l (L.hull l)) (k + (1 : Nat)) i)).fr, SV.int .i64 (L.pk l (L.hull l) (L.selN (L.isPk l (L.hull l)) (k + (1 : Nat)) i)).to_, SV.int .i64 (L.pk l (L.hull l) (L.selN (L.isPk l (L.hull l)) (k + (1 : Nat)) i)).area]) ∧ (↑l.n : Int) = (↑l.n : Int) ∧ k + (1 : Nat) ≤ (L.hull l).n) ∧ (decide (L.ptIdx (L.Sq.mk l.n fun (i : Nat) ↦ l.g i) ((L.hull
 (L.Sq.mk l.n fun (i : Nat) ↦ l.g i)).g (Int.toNat (Int.tmod ((↑k : Int) + (1 : Int)) (↑(L.hull (L.Sq.mk l.n fun (i : Nat) ↦ l.g i)).n : Int)))) = Int.tmod (L.ptIdx (L.Sq.mk l.n fun (i : Nat) ↦ l.g i) ((L.hull (L.Sq.mk l.n fun (i : Nat) ↦ l.g i)).g (Int.toNat (↑k : Int))) + (1 : Int)) (↑l.n : Int)) = false → ((0 : Int) ≤ L.ptIdx (L.Sq.mk l.n fun (i : Nat) ↦ l.g i) ((L.hull (L.Sq.mk l.n fun (i
 : Nat) ↦ l.g i)).g (Int.toNat (Int.tmod ((↑k : Int) + (1 : Int)) (↑(L.hull (L.Sq.mk l.n fun (i : Nat) ↦ l.g i)).n : Int)))) ∧ L.ptIdx (L.Sq.mk l.n fun (i : Nat) ↦ l.g i) ((L.hull (L.Sq.mk l.n fun (i : Nat) ↦ l.g i)).g (Int.toNat (Int.tmod ((↑k : Int) + (1 : Int)) (↑(L.hull (L.Sq.mk l.n fun (i : Nat) ↦ l.g i)).n : Int)))) < (↑l.n : Int)) ∧ (∃ (g : Nat × Int × Int), L.ptIdx (L.Sq.mk l.n fun (i :
 Nat) ↦ l.g i) ((L.hull (L.Sq.mk l.n fun (i : Nat) ↦ l.g i)).g (Int.toNat (Int.tmod ((↑k : Int) + (1 : Int)) (↑(L.hull (L.Sq.mk l.n fun (i : Nat) ↦ l.g i)).n : Int)))) = L.back l.n g.2.2 g.1 ∧ (nat_lit 1 = g.1 + (1 : Nat) ∧ ∀ (i : Nat), i < nat_lit 1 → rowsOf [SV.int .i64 (l.g (Int.toNat (L.ptIdx (L.Sq.mk l.n fun (i : Nat) ↦ l.g i) ((L.hull (L.Sq.mk l.n fun (i : Nat) ↦ l.g
 i)).g (Int.toNat (Int.tmod ((↑k : Int) + (1 : Int)) (↑(L.hull (L.Sq.mk l.n fun (i : Nat) ↦ l.g i)).n : Int))))))).x, SV.int .i64 (l.g (Int.toNat (L.ptIdx (L.Sq.mk l.n fun (i : Nat) ↦ l.g i) ((L.hull (L.Sq.mk l.n fun (i : Nat) ↦ l.g i)).g (Int.toNat (Int.tmod ((↑k : Int) + (1 : Int)) (↑(L.hull (L.Sq.mk l.n fun (i : Nat) ↦ l.g i)).n : Int))))))).y] (nat_lit 2) i = [SV.int
 .i64 (l.g (Int.toNat (L.back l.n g.2.2 i))).x, SV.int .i64 (l.g (Int.toNat (L.back l.n g.2.2 i))).y]) ∧ L.ptIdx (L.Sq.mk l.n fun (i : Nat) ↦ l.g i) ((L.hull (L.Sq.mk l.n fun (i : Nat) ↦ l.g i)).g (Int.toNat (↑k : Int))) = g.2.1 ∧ L.ptIdx (L.Sq.mk l.n fun (i : Nat) ↦ l.g i) ((L.hull (L.Sq.mk l.n fun (i : Nat) ↦ l.g i)).g (Int.toNat (Int.tmod ((↑k : Int) + (1 : Int))
 (↑(L.hull (L.Sq.mk l.n fun (i : Nat) ↦ l.g i)).n : Int)))) = g.2.2 ∧ ((0 : Int) ≤ g.2.1 ∧ g.2.1 < (↑l.n : Int)) ∧ ((0 : Int) ≤ g.2.2 ∧ g.2.2 < (↑l.n : Int)) ∧ g.1 ≤ L.pkLen l.n g.2.1 g.2.2) ∧ ∀ (g : Nat × Int × Int), L.ptIdx (L.Sq.mk l.n fun (i : Nat) ↦ l.g i) ((L.hull (L.Sq.mk l.n fun (i : Nat) ↦ l.g i)).g (Int.toNat (↑k : Int))) = g.2.1 ∧ L.ptIdx (L.Sq.mk l.n fun (i : Nat) ↦ l.g i) ((L.hull
 (L.Sq.mk l.n fun (i : Nat) ↦ l.g i)).g (Int.toNat (Int.tmod ((↑k : Int) + (1 : Int)) (↑(L.hull (L.Sq.mk l.n fun (i : Nat) ↦ l.g i)).n : Int)))) = g.2.2 ∧ ((0 : Int) ≤ g.2.1 ∧ g.2.1 < (↑l.n : Int)) ∧ ((0 : Int) ≤ g.2.2 ∧ g.2.2 < (↑l.n : Int)) ∧ g.1 ≤ L.pkLen l.n g.2.1 g.2.2 → ((!decide (L.back l.n g.2.2 g.1 = L.ptIdx (L.Sq.mk l.n fun (i : Nat) ↦ l.g i) ((L.hull (L.Sq.mk l.n fun (i : Nat)
 ↦ l.g i)).g (Int.toNat (↑k : Int))))) = true → InK .i64 (L.back l.n g.2.2 g.1 + (↑l.n : Int)) ∧ InK .i64 (L.back l.n g.2.2 g.1 + (↑l.n : Int) - (1 : Int)) ∧ (↑l.n : Int) ≠ (0 : Int) ∧ ((0 : Int) ≤ Int.tmod (L.back l.n g.2.2 g.1 + (↑l.n : Int) - (1 : Int)) (↑l.n : Int) ∧ Int.tmod (L.back l.n g.2.2 g.1 + (↑l.n : Int) - (1 : Int)) (↑l.n : Int) < (↑l.n : Int)) ∧
 (g.1 + (1 : Nat) + nat_lit 1) * nat_lit 16 ≤ (140737488355328 : Nat) ∧ ∃ (g' : Nat × Int × Int), Int.tmod (L.back l.n g.2.2 g.1 + (↑l.n : Int) - (1 : Int)) (↑l.n : Int) = L.back l.n g'.2.2 g'.1 ∧ L.ptIdx (L.Sq.mk l.n fun (i : Nat) ↦ l.g i) ((L.hull (L.Sq.mk l.n fun (i : Nat) ↦ l.g i)).g (Int.toNat (Int.tmod ((↑k : Int) + (1 : Int)) (↑(L.hull (L.Sq.mk l.n fun (i : Nat) ↦ l.g i)).n : Int)))) =
 L.ptIdx (L.Sq.mk l.n fun (i : Nat) ↦ l.g i) ((L.hull (L.Sq.mk l.n fun (i : Nat) ↦ l.g i)).g (Int.toNat (Int.tmod ((↑k : Int) + (1 : Int)) (↑(L.hull (L.Sq.mk l.n fun (i : Nat) ↦ l.g i)).n : Int)))) ∧ L.ptIdx (L.Sq.mk l.n fun (i : Nat) ↦ l.g i) ((L.hull (L.Sq.mk l.n fun (i : Nat) ↦ l.g i)).g (Int.toNat (↑k : Int))) = L.ptIdx (L.Sq.mk l.n fun (i : Nat) ↦ l.g i) ((L.hull (L.Sq.mk l.n fun (i : Nat) ↦
 l.g i)).g (Int.toNat (↑k : Int))) ∧ nat_lit 0 = nat_lit 0 ∧ nat_lit 0 = nat_lit 0 ∧ SV.ref [SV.sl (nat_lit 2) l.n fun (i : Nat) ↦ [SV.int .i64 (l.g i).x, SV.int .i64 (l.g i).y]] (nat_lit 0) = SV.ref [SV.sl (nat_lit 2) l.n fun (i : Nat) ↦ [SV.int .i64 (l.g i).x, SV.int .i64 (l.g i).y]] (nat_lit 0) ∧ vk (nat_lit
 5) = vk (nat_lit 5) ∧ vk (nat_lit 4) = vk (nat_lit 4) ∧ vk (nat_lit 1) = vk (nat_lit 1) ∧ (g.1 + (1 : Nat) + nat_lit 1 = g'.1 + (1 : Nat) ∧ ∀ (i : Nat), i < g.1 + (1 : Nat) + nat_lit 1 → appGet (g.1 + (1 : Nat)) (fun (j : Nat) ↦ [SV.int .i64 (l.g (Int.toNat (L.back l.n g.2.2 j))).x, SV.int .i64 (l.g (Int.toNat (L.back l.n g.2.2 j))).y]) (fun (x : Nat) ↦
 [SV.int .i64 (l.g (Int.toNat (Int.tmod (L.back l.n g.2.2 g.1 + (↑l.n : Int) - (1 : Int)) (↑l.n : Int)))).x, SV.int .i64 (l.g (Int.toNat (Int.tmod (L.back l.n g.2.2 g.1 + (↑l.n : Int) - (1 : Int)) (↑l.n : Int)))).y]) i = [SV.int .i64 (l.g (Int.toNat (L.back l.n g'.2.2 i))).x, SV.int .i64 (l.g (Int.toNat (L.back l.n g'.2.2 i))).y]) ∧
 (L.cnt (L.isPk l (L.hull l)) k = L.cnt (L.isPk l (L.hull l)) k ∧ ∀ (i : Nat), i < L.cnt (L.isPk l (L.hull l)) k → [SV.int .i64 (L.pk l (L.hull l) (L.selN (L.isPk l (L.hull l)) k i)).fr, SV.int .i64 (L.pk l (L.hull l) (L.selN (L.isPk l (L.hull l)) k i)).to_, SV.int .i64 (L.pk l (L.hull l) (L.selN (L.isPk l (L.hull l)) k i)).area] = [SV.int
 .i64 (L.pk l (L.hull l) (L.selN (L.isPk l (L.hull l)) k i)).fr, SV.int .i64 (L.pk l (L.hull l) (L.selN (L.isPk l (L.hull l)) k i)).to_, SV.int .i64 (L.pk l (L.hull l) (L.selN (L.isPk l (L.hull l)) k i)).area]) ∧ (↑l.n : Int) = (↑l.n : Int) ∧ (L.ptIdx (L.Sq.mk l.n fun (i : Nat) ↦ l.g i) ((L.hull (L.Sq.mk l.n fun (i : Nat) ↦ l.g i)).g (Int.toNat (↑k : Int)))
 = g'.2.1 ∧ L.ptIdx (L.Sq.mk l.n fun (i : Nat) ↦ l.g i) ((L.hull (L.Sq.mk l.n fun (i : Nat) ↦ l.g i)).g (Int.toNat (Int.tmod ((↑k : Int) + (1 : Int)) (↑(L.hull (L.Sq.mk l.n fun (i : Nat) ↦ l.g i)).n : Int)))) = g'.2.2 ∧ ((0 : Int) ≤ g'.2.1 ∧ g'.2.1 < (↑l.n : Int)) ∧ ((0 : Int) ≤ g'.2.2 ∧ g'.2.2 < (↑l.n : Int)) ∧ g'.1 ≤ L.pkLen l.n g'.2.1 g'.2.2) ∧ l.n - g'.1 < l.n - g.1) ∧ ((!decide
 (L.back l.n g.2.2 g.1 = L.ptIdx (L.Sq.mk l.n fun (i : Nat) ↦ l.g i) ((L.hull (L.Sq.mk l.n fun (i : Nat) ↦ l.g i)).g (Int.toNat (↑k : Int))))) = false → ((∀ (i : Nat), i < g.1 + (1 : Nat) → [SV.int .i64 (l.g (Int.toNat (L.back l.n g.2.2 i))).x, SV.int .i64 (l.g (Int.toNat (L.back l.n g.2.2 i))).y] = [SV.int .i64 (l.g (Int.toNat (L.back l.n g.2.2
 i))).x, SV.int .i64 (l.g (Int.toNat (L.back l.n g.2.2 i))).y]) ∧ L.small (L.Sq.mk (g.1 + (1 : Nat)) fun (i : Nat) ↦ l.g (Int.toNat (L.back l.n g.2.2 i)))) ∧ (L.cnt (L.isPk l (L.hull l)) k + nat_lit 1) * nat_lit 24 ≤ (140737488355328 : Nat) ∧ ∃ (t' : Nat), nat_lit 0 = nat_lit 0 ∧ nat_lit 0 = nat_lit 0 ∧ SV.ref [SV.sl (nat_lit 2) l.n fun (i : Nat) ↦ [SV.int
 .i64 (l.g i).x, SV.int .i64 (l.g i).y]] (nat_lit 0) = SV.ref [SV.sl (nat_lit 2) l.n fun (i : Nat) ↦ [SV.int .i64 (l.g i).x, SV.int .i64 (l.g i).y]] (nat_lit 0) ∧ vk (nat_lit 5) = vk (nat_lit 5) ∧ vk (nat_lit 4) = vk (nat_lit 4) ∧ vk (nat_lit 1) = vk (nat_lit 1) ∧ (L.cnt (L.isPk l (L.hull l)) k + nat_lit 1 = L.cnt (L.isPk l
 (L.hull l)) (k + (1 : Nat)) ∧ ∀ (i : Nat), i < L.cnt (L.isPk l (L.hull l)) k + nat_lit 1 → appGet (L.cnt (L.isPk l (L.hull l)) k) (fun (i : Nat) ↦ [SV.int .i64 (L.pk l (L.hull l) (L.selN (L.isPk l (L.hull l)) k i)).fr, SV.int .i64 (L.pk l (L.hull l) (L.selN (L.isPk l (L.hull l)) k i)).to_, SV.int .i64 (L.pk l (L.hull l) (L.selN (L.isPk l
 (L.hull l)) k i)).area]) (fun (x : Nat) ↦ [SV.int .i64 (L.ptIdx (L.Sq.mk l.n fun (i : Nat) ↦ l.g i) ((L.hull (L.Sq.mk l.n fun (i : Nat) ↦ l.g i)).g (Int.toNat (↑k : Int)))), SV.int .i64 (L.ptIdx (L.Sq.mk l.n fun (i : Nat) ↦ l.g i) ((L.hull (L.Sq.mk l.n fun (i : Nat) ↦ l.g i)).g (Int.toNat (Int.tmod ((↑k : Int) + (1 : Int)) (↑(L.hull (L.Sq.mk l.n fun (i : Nat) ↦ l.g
 i)).n : Int))))), SV.int .i64 (L.areaTo (L.Sq.mk (g.1 + (1 : Nat)) fun (i : Nat) ↦ l.g (Int.toNat (L.back l.n g.2.2 i))) (g.1 + (1 : Nat)))]) i = [SV.int .i64 (L.pk l (L.hull l) (L.selN (L.isPk l (L.hull l)) (k + (1 : Nat)) i)).fr, SV.int .i64 (L.pk l (L.hull l) (L.selN (L.isPk l (L.hull l)) (k + (1 : Nat)) i)).to_, SV.int .i64 (L.pk
 l (L.hull l) (L.selN (L.isPk l (L.hull l)) (k + (1 : Nat)) i)).area]) ∧ (↑l.n : Int) = (↑l.n : Int) ∧ k + (1 : Nat) ≤ (L.hull l).n))) ∧ ∀ (t : Nat), (L.hull (L.Sq.mk l.n fun (i : Nat) ↦ l.g i)).n ≤ (L.hull l).n → ∃ (t : Nat × (Nat → L.Pocket)), SV.clo (nat_lit 21) [] = SV.clo (21 : Nat) [] ∧ (L.cnt (L.isPk l (L.hull l)) (L.hull (L.Sq.mk l.n fun (i : Nat) ↦ l.g i)).n = t.1 ∧ ∀ (i :
 Nat), i < L.cnt (L.isPk l (L.hull l)) (L.hull (L.Sq.mk l.n fun (i : Nat) ↦ l.g i)).n → [SV.int .i64 (L.pk l (L.hull l) (L.selN (L.isPk l (L.hull l)) (L.hull (L.Sq.mk l.n fun (i : Nat) ↦ l.g i)).n i)).fr, SV.int .i64 (L.pk l (L.hull l) (L.selN (L.isPk l (L.hull l)) (L.hull (L.Sq.mk l.n fun (i : Nat) ↦ l.g i)).n i)).to_, SV.int .i64 (L.pk l (L.hull l)
 (L.selN (L.isPk l (L.hull l)) (L.hull (L.Sq.mk l.n fun (i : Nat) ↦ l.g i)).n i)).area] = [SV.int .i64 (t.2 i).fr, SV.int .i64 (t.2 i).to_, SV.int .i64 (t.2 i).area]) ∧ t.1 ≤ (1000000 : Nat) ∧ ∀ (u : Nat → L.Pocket), SortedBy L.cmpFr t.1 t.2 u → ∃ (t_1 : Nat → L.Pocket), (t.1 = L.pkN l ∧ ∀ (i : Nat), i < t.1 → [SV.int .i64 (u
 i).fr, SV.int .i64 (u i).to_, SV.int .i64 (u i).area] = [SV.int .i64 (t_1 i).fr, SV.int .i64 (t_1 i).to_, SV.int .i64 (t_1 i).area]) ∧ ((0 : Int) = bif L.validOutline l then (0 : Int) else (1 : Int)) ∧ (L.validOutline l = true → SortedBy L.cmpFr (L.pks l).n (L.pks l).g t_1))) (by kernel_rfl) (by
    have hn : l.n ≤ 1000000 := hp
    refine ⟨⟨fun _ _ => rfl, hn⟩, fun h => ?_, fun h => ?_⟩
    · have hv : L.validOutline l = false := by simpa using (show (!L.validOutline l) = true from h)
      unfold L.pkN
      rw [hv]; exact ⟨fun _ => ⟨0, 0, 0⟩, rfl, rfl, fun h => (by cases h)⟩
    have hv : L.validOutline l = true := by simpa using (show (!L.validOutline l) = false from h)
    obtain ⟨n3, n24, hsm, hbd⟩ := validOutline_of hv
    have hHN : (L.hull l).n ≤ 1000 := by
      have cl : ∀ m : L.Sq L.Pt, (L.chain m).n ≤ m.n := fun m => by
        have := chainTo_len m m.n
        show (L.chainTo m m.n).length - 1 ≤ m.n
        omega
      have c1 : (L.chain (L.sorted l)).n ≤ l.n := cl (L.sorted l)
      have c2 : (L.chain (L.revd (L.sorted l))).n ≤ l.n := cl (L.revd (L.sorted l))
      show 0 + (L.chain (L.sorted l)).n + (L.chain (L.revd (L.sorted l))).n ≤ 1000
      omega
    have hck : ∀ k, L.cnt (L.isPk l (L.hull l)) k ≤ k := fun k => cnt_le
    refine ⟨⟨fun _ _ => rfl, by omega, by omega, hbd.2⟩, fun t _ => ⟨⟨fun _ _ => rfl, hHN⟩, ⟨⟨fun _ _ => rfl, hHN⟩, (0 : Nat), ⟨rfl, fun i hi => absurd hi (Nat.not_lt_zero _)⟩, rfl, Nat.zero_le _⟩, fun k t1 vk hk hk' => ?_, fun t _ => ?_⟩⟩
    · have hk : k < (L.hull l).n := hk
      have e0 : ((k : Int)).toNat = k := by omega
      have e1 : (Int.tmod ((k : Int) + 1) ((L.hull l).n : Int)).toNat = L.next (L.hull l).n k := rfl
      have hf := pk_idx (l := l) hk
      have ht := pk_idx (l := l) (k := L.next (L.hull l).n k) (next_lt (by omega))
      have eF : L.ptIdx l ((L.hull l).g k) = L.pkFrom l (L.hull l) k := rfl
      have eT : L.ptIdx l ((L.hull l).g (L.next (L.hull l).n k)) = L.pkTo l (L.hull l) k := rfl
      rw [eF] at hf
      rw [eT] at ht
      rw [e0, e1, eF, eT]
      have hkk := hck k
      refine ⟨⟨by decide, by decide⟩, ⟨fun _ _ => rfl, hn⟩, ⟨by decide, by decide⟩, ⟨fun _ _ => rfl, hn⟩, InK.of (by omega) (by omega), by omega, fun hc => ?_, fun hc => ?_⟩
      · have hp : L.isPk l (L.hull l) k = false := by unfold L.isPk; rw [hc]; rfl
        refine ⟨(0 : Nat), rfl, rfl, rfl, rfl, rfl, rfl, ⟨(cnt_not hp).symm, fun i hi => ?_⟩, rfl, by omega⟩
        rw [selN_not hp]
      have hp : L.isPk l (L.hull l) k = true := by unfold L.isPk; rw [hc]; rfl
      refine ⟨ht, ⟨(0, L.pkFrom l (L.hull l) k, L.pkTo l (L.hull l) k), (back_0 ht.1 ht.2).symm, ⟨rfl, fun i hi => ?_⟩, rfl, rfl, hf, ht, Nat.zero_le _⟩, fun g hg => ?_⟩
      · have hi : i < 1 := hi
        obtain rfl : i = 0 := by omega
        dsimp only
        rw [back_0 ht.1 ht.2]; rfl
      obtain ⟨j, fr, to_⟩ := g
      dsimp only at hg ⊢
      obtain ⟨e2, e3, _, _, hj⟩ := hg
      rw [← e2, ← e3] at *
      have hlen := back_end hf.1 hf.2 ht.1 ht.2 hj
      have hb := back_bd (n := l.n) (by omega) ht.1 (j := j) (by omega)
      refine ⟨fun hd => ?_, fun hd => ?_⟩
      · have hd : L.back l.n (L.pkTo l (L.hull l) k) j ≠ L.pkFrom l (L.hull l) k := fun e => by
          rw [decide_eq_true e] at hd; cases hd
        have hne : j ≠ L.pkLen l.n (L.pkFrom l (L.hull l) k) (L.pkTo l (L.hull l) k) := fun e => hd (hlen.1.2 e)
        have hs := back_succ (n := l.n) (by omega) ht.1 (j := j) (by omega)
        have hb2 := back_bd (n := l.n) (by omega) ht.1 (j := j + 1) (by omega)
        rw [hs]
        refine ⟨InK.of (by omega) (by omega), InK.of (by omega) (by omega), by omega, hb2, show (j + 1 + 1) * 16 ≤ 140737488355328 by omega, (j + 1, L.pkFrom l (L.hull l) k, L.pkTo l (L.hull l) k), rfl, rfl, rfl, rfl, rfl, rfl, rfl, rfl, rfl, ⟨rfl, fun i hi => ?_⟩, ⟨rfl, fun _ _ => rfl⟩, rfl, ⟨rfl, rfl, hf, ht, by show j + 1 ≤ L.pkLen l.n (L.pkFrom l (L.hull l) k) (L.pkTo l (L.hull l) k); omega⟩, by show l.n - (j + 1) < l.n - j; omega⟩
        have hi : i < j + 1 + 1 := hi
        unfold appGet
        by_cases h' : i < j + 1
        · rw [if_pos h']
        · rw [if_neg h']
          obtain rfl : i = j + 1 := by omega
          rfl
      · have hd : L.back l.n (L.pkTo l (L.hull l) k) j = L.pkFrom l (L.hull l) k := by
          apply Decidable.byContradiction
          intro e
          rw [decide_eq_false e] at hd; cases hd
        have hje := hlen.1.1 hd
        have hrow : (L.Sq.mk (j + 1) fun (i : Nat) => l.g (L.back l.n (L.pkTo l (L.hull l) k) i).toNat) = L.pkRow l (L.pkFrom l (L.hull l) k) (L.pkTo l (L.hull l) k) := by
          rw [hje]; rfl
        have hj1 : j + 1 = (L.pkRow l (L.pkFrom l (L.hull l) k) (L.pkTo l (L.hull l) k)).n := by rw [← hrow]
        rw [hrow, hj1]
        refine ⟨⟨fun _ _ => rfl, pkRow_small hsm (by omega) hf.1 hf.2 ht.1 ht.2⟩, show (L.cnt (L.isPk l (L.hull l)) k + 1) * 24 ≤ 140737488355328 by omega, (0 : Nat), rfl, rfl, rfl, rfl, rfl, rfl, ⟨(cnt_yes hp).symm, fun i hi => ?_⟩, rfl, by omega⟩
        have hi : i < L.cnt (L.isPk l (L.hull l)) k + 1 := hi
        unfold appGet
        by_cases h' : i < L.cnt (L.isPk l (L.hull l)) k
        · rw [if_pos h', selN_old (Nat.ne_of_lt h')]
        · rw [if_neg h']
          obtain rfl : i = L.cnt (L.isPk l (L.hull l)) k := by omega
          rw [selN_new hp]; rfl
    · have hcn := hck (L.hull l).n
      refine ⟨((L.pks l).n, (L.pks l).g), rfl, ⟨rfl, fun _ _ => rfl⟩, show L.cnt (L.isPk l (L.hull l)) (L.hull l).n ≤ 1000000 by omega, fun u hu => ⟨u, ⟨?_, fun _ _ => rfl⟩, ?_, fun _ => hu⟩⟩
      · unfold L.pkN; rw [hv]; rfl
      · rw [hv]; rfl)
theorem p_Pockets_ok : SpecOk Try.prog 9 p_Pockets_S := relX Try.func9 (c := bodyOf Try.f9) (by kernel_rfl) mixed (fun args p q r hs hp => by
  unfold p_Pockets_s at hs
  split at hs
  · cases hs; exact ⟨_, _, p_Pockets_vc _ hp.2, (.p (.sl hp.1) .nil), ⟨show SpecsL Try.prog _ from (SpecsL.cons p_ValidOutline_ok p_ValidOutline_en (SpecsL.cons p_hull_ok p_hull_en (SpecsL.cons p_triples_ok p_triples_en (SpecsL.cons s_idxPt_ok s_idxPt_en (SpecsL.cons p_area_ok p_area_en (SpecsL.cons p_pk1_ok p_pk1_en SpecsL.nil)))))), rfl, ⟨show ItersL Try.prog _ from (ItersL.cons p_triples1_itok p_triples1_en ItersL.nil), (show TrsL Try.prog _ from (TrsL.cons s_sortK_tok s_sortK_en TrsL.nil))⟩⟩⟩
  · cases hs)
theorem p_Pockets_en : Enters Try.prog 9 := fun args w => by kernel_rfl
end Go.Proofs.Ytinfalehnaejbaa
