/- A symbolic walk over the model, and what it shows of functions of the program: parts of the proof that the text of the row joins. -/
import Derived.Test.YtkklpamllfkbaaaE3
import Derived.KernelRfl
import Derived.Test.YtkklpamllfkbaaaProg

/- Plain values that the contracts speak of. -/
namespace Go.Proofs.Ytkklpamllfkbaaa
open Go.SE Go.RowKit
namespace L
structure Pt where
  x : Int
  y : Int
structure Span where
  lo : Int
  hi : Int
structure Mark where
  edge : Int
  place : Int
  tone : Int
structure Gauge where
  edge : Span
  across : Span
  bend : Int
structure Meas where
  edge : Int
  across : Int
  bend : Int
structure Setting where
  shift : Int
  back : Bool
structure Motion where
  turn : Int
  mirror : Bool
  by_ : Pt
structure Tri where
  a : Pt
  b : Pt
  c : Pt
/-- A list: how long, and what lies where. -/
structure Sq (α : Type) where
  n : Nat
  g : Nat → α
structure Film where
  id : Int
  grey : Sq Int
structure Piece where
  id : Int
  colour : Int
  rev : Int
  made : Int
  swell : Int
  gauges : Sq Gauge
  marks : Sq Mark
end L
namespace R
end R
def intOf : List SV → Int
  | [.int _ n] => n
  | _ => 0
def boolOf : List SV → Bool
  | [.bool b] => b
  | _ => false
def ofPt : List SV → L.Pt
  | [.int _ x, .int _ y] => ⟨x, y⟩
  | _ => ⟨0, 0⟩
def ofMark : List SV → L.Mark
  | [.int _ x, .int _ y, .int _ z] => ⟨x, y, z⟩
  | _ => ⟨0, 0, 0⟩
def ofGauge : List SV → L.Gauge
  | [.int _ a, .int _ b, .int _ c, .int _ d, .int _ e] => ⟨⟨a, b⟩, ⟨c, d⟩, e⟩
  | _ => ⟨⟨0, 0⟩, ⟨0, 0⟩, 0⟩
def ofSetting : List SV → L.Setting
  | [.int _ x, .bool b] => ⟨x, b⟩
  | _ => ⟨0, false⟩
def L.allB : Nat → (Nat → Bool) → Bool
  | 0, _ => true
  | n + 1, f => L.allB n f && f n
theorem allB_iff {f : Nat → Bool} : ∀ {n : Nat}, L.allB n f = true ↔ ∀ i, i < n → f i = true
  | 0 => by simp [L.allB]
  | n + 1 => by
    simp only [L.allB, Bool.and_eq_true, allB_iff (n := n)]
    constructor
    · rintro ⟨h, k⟩ i hi
      rcases Nat.lt_succ_iff_lt_or_eq.1 hi with hi | rfl
      · exact h i hi
      · exact k
    · exact fun h => ⟨fun i hi => h i (by omega), h n (by omega)⟩
theorem allB_false {f : Nat → Bool} {n i : Nat} (hi : i < n) (h : f i = false) : L.allB n f = false := by
  cases hb : L.allB n f with
  | false => rfl
  | true => rw [allB_iff.1 hb i hi] at h; cases h
theorem mul_bd {a b : Int} {m n : Int} (h1 : -m ≤ a) (h2 : a ≤ m) (h3 : -n ≤ b) (h4 : b ≤ n) : -(m * n) ≤ a * b ∧ a * b ≤ m * n := by
  have hm : 0 ≤ m := by omega
  have hn : 0 ≤ n := by omega
  have e1 := Int.mul_nonneg (show 0 ≤ m - a by omega) (show 0 ≤ n - b by omega)
  have e2 := Int.mul_nonneg (show 0 ≤ m + a by omega) (show 0 ≤ n + b by omega)
  have e3 := Int.mul_nonneg (show 0 ≤ m - a by omega) (show 0 ≤ n + b by omega)
  have e4 := Int.mul_nonneg (show 0 ≤ m + a by omega) (show 0 ≤ n - b by omega)
  simp only [Int.sub_mul, Int.mul_sub, Int.add_mul, Int.mul_add] at e1 e2 e3 e4
  omega
/-- A bool-valued function's value. -/
def L.fbl (p : FSpec) (xs : List SV) : Bool := boolOf [p.res xs]
theorem fbl_res {p : FSpec} (h : isB p) {xs : List SV} (hp : p.pre xs) : p.res xs = .bool (L.fbl p xs) := by
  obtain ⟨b, hb⟩ := h xs hp
  rw [hb, L.fbl, hb]; rfl
def L.fil (p : FSpec) (xs : List SV) : Int := intOf [p.res xs]
theorem fil_res {p : FSpec} (h : isI p) {xs : List SV} (hp : p.pre xs) : p.res xs = .int .i64 (L.fil p xs) := by
  obtain ⟨b, hb⟩ := h xs hp
  rw [hb, L.fil, hb]; rfl
theorem mixed : Try.prog.follows .mixedOrders = true := by kernel_rfl
theorem InK.of {n : Int} (h : -9223372036854775808 ≤ n) (k : n ≤ 9223372036854775807) : InK .i64 n := ⟨h, k⟩
end Go.Proofs.Ytkklpamllfkbaaa

namespace Go.Proofs.Ytkklpamllfkbaaa
open Go.SE Go.RowKit
set_option maxRecDepth 100000
set_option maxHeartbeats 4000000
set_option linter.unusedVariables false
attribute [local irreducible] Go.SE.vc

def L.within (n a b : Int) : Bool := decide (a ≤ n) && decide (n ≤ b)
def L.earlier (a b : L.Mark) : Bool := bif decide (a.edge = b.edge) then (bif decide (a.place = b.place) then decide (a.tone < b.tone) else decide (a.place < b.place)) else decide (a.edge < b.edge)
def L.mark1 (l : L.Sq L.Mark) (i : Nat) : Bool := L.within (l.g i).place 0 16 && L.within (l.g i).tone 1 16 && (bif decide (0 < i) then L.earlier (l.g (i - 1)) (l.g i) else true)
def L.marks (l : L.Sq L.Mark) : Bool := decide (l.n ≤ 32) && L.allB l.n (L.mark1 l)
def p_within_p (n : Int) (a : Int) (b : Int) : Prop := True
def p_within_r (n : Int) (a : Int) (b : Int) : SV := .bool (L.within n a b)
def p_within_s : List EV → Option (Prop × SV)
  | [.p (.int .i64 n), .p (.int .i64 a), .p (.int .i64 b)] => some (p_within_p n a b, p_within_r n a b)
  | _ => none
abbrev p_within_S : SE.Spec := (specO p_within_s)
def p_within_C : Cfg := { muts := [], frz := lookN [], specs := lookS [], loops := lookL [], iters := lookI [], rfs := lookR [], nils := lookM [] }
theorem p_within_vc (n : Int) (a : Int) (b : Int) (hp : p_within_p n a b) : vc Try.prog (p_within_C) (bodyOf Try.f37) (st0 Try.f37 [.p (.int .i64 n), .p (.int .i64 a), .p (.int .i64 b)]) (retFn Try.prog Try.f37 (p_within_r n a b)) :=
  @Eq.mpr _ ((bif Decidable.decide (a ≤ n) then Decidable.decide (n ≤ b) else Bool.false) = L.within n a b) (by kernel_rfl) (by
    grind [L.within])
theorem p_within_ok : SpecOk Try.prog 37 p_within_S := fnX Try.func37 (c := bodyOf Try.f37) (by kernel_rfl) mixed (fun args p r hs hp => by
  unfold p_within_s at hs
  split at hs
  · cases hs; exact ⟨_, _, p_within_vc _ _ _ hp, (.same _ (.same _ (.same _ .nil))), ⟨show SpecsL Try.prog _ from SpecsL.nil, rfl, ⟨show ItersL Try.prog _ from ItersL.nil, (TrsOk.none (fun _ => rfl))⟩⟩⟩
  · cases hs)
theorem p_within_en : Enters Try.prog 37 := fun args w => by kernel_rfl
theorem p_within_B : ∀ args p r, p_within_s args = some (p, r) → ∃ b, r = .bool b := by
  intro args p r h
  unfold p_within_s at h
  split at h
  · cases h; exact ⟨_, rfl⟩
  · cases h
end Go.Proofs.Ytkklpamllfkbaaa

namespace Go.Proofs.Ytkklpamllfkbaaa
open Go.SE Go.RowKit
set_option maxRecDepth 100000
set_option maxHeartbeats 4000000
set_option linter.unusedVariables false
attribute [local irreducible] Go.SE.vc

def L.prev (n k : Nat) : Nat := (Int.tmod ((k : Int) + (n : Int) - 1) (n : Int)).toNat
def L.next (n k : Nat) : Nat := (Int.tmod ((k : Int) + 1) (n : Int)).toNat
def L.areaTo (l : L.Sq L.Pt) : Nat → Int
  | 0 => 0
  | k + 1 => L.areaTo l k + ((l.g k).x * (l.g (L.next l.n k)).y - (l.g (L.next l.n k)).x * (l.g k).y)
theorem next_lt {n k : Nat} (h : 0 < n) : L.next n k < n := by
  have t3 := Int.tmod_nonneg (n : Int) (show 0 ≤ (k : Int) + 1 by omega)
  have t4 := Int.tmod_lt_of_pos ((k : Int) + 1) (show 0 < (n : Int) by omega)
  unfold L.next; omega
def L.small (l : L.Sq L.Pt) : Prop := l.n ≤ 1000 ∧ ∀ i, i < l.n → -4000000 ≤ (l.g i).x ∧ (l.g i).x ≤ 4000000 ∧ -4000000 ≤ (l.g i).y ∧ (l.g i).y ≤ 4000000
theorem area_term {l : L.Sq L.Pt} (h : L.small l) {k : Nat} (hk : k < l.n) : (-16000000000000 ≤ (l.g k).x * (l.g (L.next l.n k)).y ∧ (l.g k).x * (l.g (L.next l.n k)).y ≤ 16000000000000) ∧ (-16000000000000 ≤ (l.g (L.next l.n k)).x * (l.g k).y ∧ (l.g (L.next l.n k)).x * (l.g k).y ≤ 16000000000000) := by
  have h1 := h.2 k hk
  have h2 := h.2 _ (next_lt (n := l.n) (k := k) (by omega))
  have m1 := mul_bd (m := 4000000) (n := 4000000) h1.1 h1.2.1 h2.2.2.1 h2.2.2.2
  have m2 := mul_bd (m := 4000000) (n := 4000000) h2.1 h2.2.1 h1.2.2.1 h1.2.2.2
  omega
theorem areaTo_bd {l : L.Sq L.Pt} (h : L.small l) : ∀ k, k ≤ l.n → -(32000000000000 * (k : Int)) ≤ L.areaTo l k ∧ L.areaTo l k ≤ 32000000000000 * (k : Int)
  | 0, _ => by simp [L.areaTo]
  | k + 1, hk => by
    have ih := areaTo_bd h k (by omega)
    have t := area_term h (k := k) (by omega)
    simp only [L.areaTo]
    omega
def p_triples1_p (l : (L.Sq L.Pt)) : Prop := l.n ≤ 1000
def p_triples1_n (l : (L.Sq L.Pt)) : Nat := l.n
def p_triples1_i (l : (L.Sq L.Pt)) : Nat → List SV := fun k => [.int .i64 (k : Int), .agg [.int .i64 (l.g (Int.tmod ((k : Int) + (l.n : Int) - 1) (l.n : Int)).toNat).x, .int .i64 (l.g (Int.tmod ((k : Int) + (l.n : Int) - 1) (l.n : Int)).toNat).y, .int .i64 (l.g (k : Int).toNat).x, .int .i64 (l.g (k : Int).toNat).y, .int .i64 (l.g (Int.tmod ((k : Int) + 1) (l.n : Int)).toNat).x, .int .i64 (l.g (Int.tmod ((k : Int) + 1) (l.n : Int)).toNat).y]]
def p_triples1_ic : List SV → Option (Prop × Nat × (Nat → List SV))
  | [.ref [.sl 2 l_n l_g] 0] => some ((∀ i, i < l_n → l_g i = [.int .i64 ((ofPt (l_g i)).x), .int .i64 ((ofPt (l_g i)).y)]) ∧ p_triples1_p (⟨l_n, fun i => ofPt (l_g i)⟩ : (L.Sq L.Pt)), p_triples1_n (⟨l_n, fun i => ofPt (l_g i)⟩ : (L.Sq L.Pt)), p_triples1_i (⟨l_n, fun i => ofPt (l_g i)⟩ : (L.Sq L.Pt)))
  | _ => none
abbrev p_triples1_it : ItSpec := itOf p_triples1_ic
def p_triples1_C : Cfg := { muts := [], frz := lookN [], specs := lookS [], loops := fun _ => none, iters := lookI [], rfs := lookR [] }
theorem p_triples1_vc (yl : Nat) (l : (L.Sq L.Pt)) (hp : p_triples1_p l) : vc Try.prog { p_triples1_C with loops := lookL [(1, { T := Nat, keep := [0, 1, 5, 6], keepO := [], chg := fun i => [(7, .p (.int .i64 (i : Int)))], own := fun _ => [], inv := fun i => i ≤ l.n, mu := fun i => l.n - i, yk := some (fun i => i) })], yld := some ⟨yl, p_triples1_n l, p_triples1_i l⟩ } (bodyOf Try.f83) (st0 Try.f83 (.yield yl :: ([.ref [.sl 2 l.n (fun i => [.int .i64 ((l.g i).x), .int .i64 ((l.g i).y)])] 0] : List SV).map .p)) (retIt Try.prog Try.f83 (p_triples1_n l)) :=
  @Eq.mpr _ ((∃ (g : Nat), nat_lit 0 = g ∧ Bool.false = Bool.false ∧ (0 : Int) = (↑g : Int) ∧ g ≤ l.n) ∧ ∀ (g : Nat), g ≤ l.n → (Decidable.decide ((↑g : Int) < (↑l.n : Int)) = Bool.true → ((0 : Int) ≤ (↑g : Int) ∧ (↑g : Int) < (↑l.n : Int)) ∧ Go.SE.InK Go.IntKind.i64 ((↑g : Int) + (↑l.n : Int)) ∧ Go.SE.InK Go.IntKind.i64 ((↑g : Int) + (↑l.n : Int) - (1 : Int)) ∧ (↑l.n : Int) ≠ (0 : Int) ∧ ((0 : Int) ≤ Int.tmod
 ((↑g : Int) + (↑l.n : Int) - (1 : Int)) (↑l.n : Int) ∧ Int.tmod ((↑g : Int) + (↑l.n : Int) - (1 : Int)) (↑l.n : Int) < (↑l.n : Int)) ∧ Go.SE.InK Go.IntKind.i64 ((↑g : Int) + (1 : Int)) ∧ (↑l.n : Int) ≠ (0 : Int) ∧ ((0 : Int) ≤ Int.tmod ((↑g : Int) + (1 : Int)) (↑l.n : Int) ∧ Int.tmod ((↑g : Int) + (1 : Int)) (↑l.n : Int) < (↑l.n : Int)) ∧ yl = yl ∧ g < l.n ∧ [Go.SE.SV.int Go.IntKind.i64 (↑g :
 Int), Go.SE.SV.agg [Go.SE.SV.int Go.IntKind.i64 (l.g (Int.toNat (Int.tmod ((↑g : Int) + (↑l.n : Int) - (1 : Int)) (↑l.n : Int)))).x, Go.SE.SV.int Go.IntKind.i64 (l.g (Int.toNat (Int.tmod ((↑g : Int) + (↑l.n : Int) - (1 : Int)) (↑l.n : Int)))).y, Go.SE.SV.int Go.IntKind.i64 (l.g (Int.toNat (↑g : Int))).x, Go.SE.SV.int Go.IntKind.i64 (l.g (Int.toNat (↑g : Int))).y, Go.SE.SV.int Go.IntKind.i64 (l.g
 (Int.toNat (Int.tmod ((↑g : Int) + (1 : Int)) (↑l.n : Int)))).x, Go.SE.SV.int Go.IntKind.i64 (l.g (Int.toNat (Int.tmod ((↑g : Int) + (1 : Int)) (↑l.n : Int)))).y]] = [Go.SE.SV.int Go.IntKind.i64 (↑g : Int), Go.SE.SV.agg [Go.SE.SV.int Go.IntKind.i64 (l.g (Int.toNat (Int.tmod ((↑g : Int) + (↑l.n : Int) - (1 : Int)) (↑l.n : Int)))).x, Go.SE.SV.int Go.IntKind.i64 (l.g (Int.toNat (Int.tmod ((↑g : Int)
 + (↑l.n : Int) - (1 : Int)) (↑l.n : Int)))).y, Go.SE.SV.int Go.IntKind.i64 (l.g (Int.toNat (↑g : Int))).x, Go.SE.SV.int Go.IntKind.i64 (l.g (Int.toNat (↑g : Int))).y, Go.SE.SV.int Go.IntKind.i64 (l.g (Int.toNat (Int.tmod ((↑g : Int) + (1 : Int)) (↑l.n : Int)))).x, Go.SE.SV.int Go.IntKind.i64 (l.g (Int.toNat (Int.tmod ((↑g : Int) + (1 : Int)) (↑l.n : Int)))).y]] ∧ ((Bool.false = Bool.true → g + (1
 : Nat) = l.n ∨ g + (1 : Nat) = l.n + (1 : Nat)) ∧ (Bool.false = Bool.false → Go.SE.InK Go.IntKind.i64 ((↑g : Int) + (1 : Int)) ∧ ∃ (g' : Nat), g + (1 : Nat) = g' ∧ Bool.false = Bool.false ∧ (↑g : Int) + (1 : Int) = (↑g' : Int) ∧ (↑l.n : Int) = (↑l.n : Int) ∧ (l.n = l.n ∧ ∀ (i : Nat), i < l.n → [Go.SE.SV.int Go.IntKind.i64 (l.g i).x, Go.SE.SV.int Go.IntKind.i64 (l.g i).y] = [Go.SE.SV.int
 Go.IntKind.i64 (l.g i).x, Go.SE.SV.int Go.IntKind.i64 (l.g i).y]) ∧ yl = yl ∧ Go.SE.SV.ref [Go.SE.SV.sl (nat_lit 2) l.n fun (i : Nat) ↦ [Go.SE.SV.int Go.IntKind.i64 (l.g i).x, Go.SE.SV.int Go.IntKind.i64 (l.g i).y]] (nat_lit 0) = Go.SE.SV.ref [Go.SE.SV.sl (nat_lit 2) l.n fun (i : Nat) ↦ [Go.SE.SV.int Go.IntKind.i64 (l.g i).x, Go.SE.SV.int Go.IntKind.i64 (l.g i).y]] (nat_lit 0) ∧ g' ≤ l.n ∧ l.n -
 g' < l.n - g)) ∧ (Bool.true = Bool.true → l.n + (1 : Nat) = l.n ∨ l.n + (1 : Nat) = l.n + (1 : Nat)) ∧ (Bool.true = Bool.false → Go.SE.InK Go.IntKind.i64 ((↑g : Int) + (1 : Int)) ∧ ∃ (g' : Nat), l.n + (1 : Nat) = g' ∧ Bool.false = Bool.false ∧ (↑g : Int) + (1 : Int) = (↑g' : Int) ∧ (↑l.n : Int) = (↑l.n : Int) ∧ (l.n = l.n ∧ ∀ (i : Nat), i < l.n → [Go.SE.SV.int Go.IntKind.i64 (l.g i).x,
 Go.SE.SV.int Go.IntKind.i64 (l.g i).y] = [Go.SE.SV.int Go.IntKind.i64 (l.g i).x, Go.SE.SV.int Go.IntKind.i64 (l.g i).y]) ∧ yl = yl ∧ Go.SE.SV.ref [Go.SE.SV.sl (nat_lit 2) l.n fun (i : Nat) ↦ [Go.SE.SV.int Go.IntKind.i64 (l.g i).x, Go.SE.SV.int Go.IntKind.i64 (l.g i).y]] (nat_lit 0) = Go.SE.SV.ref [Go.SE.SV.sl (nat_lit 2) l.n fun (i : Nat) ↦ [Go.SE.SV.int Go.IntKind.i64 (l.g i).x, Go.SE.SV.int
 Go.IntKind.i64 (l.g i).y]] (nat_lit 0) ∧ g' ≤ l.n ∧ l.n - g' < l.n - g)) ∧ (Decidable.decide ((↑g : Int) < (↑l.n : Int)) = Bool.false → g = l.n ∨ g = l.n + (1 : Nat))) (by kernel_rfl) (by
    refine ⟨⟨(0 : Nat), rfl, rfl, rfl, Nat.zero_le _⟩, fun g hg => ⟨fun hlt => ?_, fun hge => ?_⟩⟩
    · have hb : (g : Int) < (l.n : Int) := by simpa using hlt
      have hn : l.n ≤ 1000 := hp
      have t1 := Int.tmod_nonneg (l.n : Int) (show 0 ≤ (g : Int) + (l.n : Int) - 1 by omega)
      have t2 := Int.tmod_lt_of_pos ((g : Int) + (l.n : Int) - 1) (show 0 < (l.n : Int) by omega)
      have t3 := Int.tmod_nonneg (l.n : Int) (show 0 ≤ (g : Int) + 1 by omega)
      have t4 := Int.tmod_lt_of_pos ((g : Int) + 1) (show 0 < (l.n : Int) by omega)
      refine ⟨by omega, InK.of (by omega) (by omega), InK.of (by omega) (by omega), by omega, ⟨t1, t2⟩, InK.of (by omega) (by omega), by omega, ⟨t3, t4⟩, rfl, by omega, rfl, ?_⟩
      exact ⟨⟨fun h => (by cases h), fun _ => ⟨InK.of (by omega) (by omega), g + 1, rfl, rfl, by omega, rfl, ⟨rfl, fun _ _ => rfl⟩, rfl, rfl, by omega, by omega⟩⟩, fun _ => .inr rfl, fun h => (by cases h)⟩
    · have hb : ¬ (g : Int) < (l.n : Int) := by simpa using hge
      exact .inl (by omega))
theorem p_triples1_itok : ItOk Try.prog 83 p_triples1_it := iterX Try.func83 (c := bodyOf Try.f83) (by kernel_rfl) mixed (fun caps l p n g hs hp => by
  unfold p_triples1_ic at hs
  split at hs
  · cases hs; exact ⟨_, _, p_triples1_vc l _ hp.2, (.cons (Ext.ref rfl (fun i hi => by
      rcases i with _ | i
      · show Ext (SV.sl _ _ _) (SV.sl _ _ _); exact (Ext.sl hp.1)
      exact absurd hi (by simp; try omega))) .nil), rfl, show SpecsL Try.prog _ from SpecsL.nil, ⟨show ItersL Try.prog _ from ItersL.nil, TrsOk.none (fun _ => rfl)⟩⟩
  · cases hs)
theorem p_triples1_en : Enters Try.prog 83 := fun args w => by kernel_rfl
def p_triples_p (l : (L.Sq L.Pt)) : Prop := l.n ≤ 1000
def p_triples_r (l : (L.Sq L.Pt)) : SV := .clo 83 [.ref [(.sl 2 l.n (fun i => [.int .i64 ((l.g i).x), .int .i64 ((l.g i).y)]))] 0]
def p_triples_s : List EV → Option (Prop × SV)
  | [.p (.sl 2 l_n l_g)] => some ((∀ i, i < l_n → l_g i = [.int .i64 ((ofPt (l_g i)).x), .int .i64 ((ofPt (l_g i)).y)]) ∧ p_triples_p (⟨l_n, fun i => ofPt (l_g i)⟩ : (L.Sq L.Pt)), p_triples_r (⟨l_n, fun i => ofPt (l_g i)⟩ : (L.Sq L.Pt)))
  | _ => none
abbrev p_triples_S : SE.Spec := (specO p_triples_s)
def p_triples_C : Cfg := { muts := [], frz := lookN [], specs := lookS [], loops := lookL [], iters := lookI [], rfs := lookR [], nils := lookM [] }
theorem p_triples_vc (l : (L.Sq L.Pt)) (hp : p_triples_p l) : vc Try.prog (p_triples_C) (bodyOf Try.f57) (st0 Try.f57 [.p (.sl 2 l.n (fun i => [.int .i64 ((l.g i).x), .int .i64 ((l.g i).y)]))]) (retFn Try.prog Try.f57 (p_triples_r l)) :=
  @Eq.mpr _ (Go.SE.SV.clo (nat_lit 83) [Go.SE.SV.ref [Go.SE.SV.sl (nat_lit 2) l.n fun (i : Nat) ↦ [Go.SE.SV.int Go.IntKind.i64 (l.g i).x, Go.SE.SV.int Go.IntKind.i64 (l.g i).y]] (nat_lit 0)] = Go.SE.SV.clo (nat_lit 83) [Go.SE.SV.ref [Go.SE.SV.sl (nat_lit 2) l.n fun (i : Nat) ↦ [Go.SE.SV.int Go.IntKind.i64 (l.g i).x, Go.SE.SV.int Go.IntKind.i64 (l.g i).y]] (nat_lit 0)]) (by kernel_rfl) (by
    rfl)
theorem p_triples_ok : SpecOk Try.prog 57 p_triples_S := fnX Try.func57 (c := bodyOf Try.f57) (by kernel_rfl) mixed (fun args p r hs hp => by
  unfold p_triples_s at hs
  split at hs
  · cases hs; exact ⟨_, _, p_triples_vc _ hp.2, (.p (.sl hp.1) .nil), ⟨show SpecsL Try.prog _ from SpecsL.nil, rfl, ⟨show ItersL Try.prog _ from ItersL.nil, (TrsOk.none (fun _ => rfl))⟩⟩⟩
  · cases hs)
theorem p_triples_en : Enters Try.prog 57 := fun args w => by kernel_rfl
def p_area_p (l : (L.Sq L.Pt)) : Prop := L.small l
def p_area_r (l : (L.Sq L.Pt)) : SV := .int .i64 (L.areaTo l l.n)
def p_area_s : List EV → Option (Prop × SV)
  | [.p (.sl 2 l_n l_g)] => some ((∀ i, i < l_n → l_g i = [.int .i64 ((ofPt (l_g i)).x), .int .i64 ((ofPt (l_g i)).y)]) ∧ p_area_p (⟨l_n, fun i => ofPt (l_g i)⟩ : (L.Sq L.Pt)), p_area_r (⟨l_n, fun i => ofPt (l_g i)⟩ : (L.Sq L.Pt)))
  | _ => none
abbrev p_area_S : SE.Spec := (specO p_area_s)
def p_area_C : Cfg := { muts := [3, 5], frz := lookN [], specs := lookS [(57, p_triples_S)], loops := lookL [], iters := lookI [(83, p_triples1_it)], rfs := lookR [], nils := lookM [] }
theorem p_area_vc (l : (L.Sq L.Pt)) (hp : p_area_p l) : vc Try.prog ({ p_area_C with loops := lookL [], rfs := lookR [(3, { T := Nat, keep := [3], keepO := [], own := fun k _ => [(3, .blk 3 [.p (.int .i64 (L.areaTo l k))])], inv := fun k _ => k ≤ l.n })] }) (bodyOf Try.f56) (st0 Try.f56 [.p (.sl 2 l.n (fun i => [.int .i64 ((l.g i).x), .int .i64 ((l.g i).y)]))]) (retFn Try.prog Try.f56 (p_area_r l)) :=
  @Eq.mpr _ (((∀ (i : Nat), i < l.n → [Go.SE.SV.int Go.IntKind.i64 (l.g i).x, Go.SE.SV.int Go.IntKind.i64 (l.g i).y] = [Go.SE.SV.int Go.IntKind.i64 (l.g i).x, Go.SE.SV.int Go.IntKind.i64 (l.g i).y]) ∧ l.n ≤ (1000 : Nat)) ∧ (((∀ (i : Nat), i < l.n → [Go.SE.SV.int Go.IntKind.i64 (l.g i).x, Go.SE.SV.int Go.IntKind.i64 (l.g i).y] = [Go.SE.SV.int Go.IntKind.i64 (l.g i).x, Go.SE.SV.int Go.IntKind.i64 (l.g i).y]) ∧
 l.n ≤ (1000 : Nat)) ∧ ∃ (t : Nat), (0 : Int) = L.areaTo l (0 : Nat) ∧ (0 : Nat) ≤ l.n) ∧ (∀ (k t : Nat) (vk : Nat → Go.Value), k < l.n → k ≤ l.n → ((0 : Int) ≤ (1 : Int) ∧ (1 : Int) < (↑(3 : Nat) : Int)) ∧ ((0 : Int) ≤ (2 : Int) ∧ (2 : Int) < (↑(3 : Nat) : Int)) ∧ Go.SE.InK Go.IntKind.i64 ((l.g (Int.toNat (↑k : Int))).x * (l.g (Int.toNat (Int.tmod ((↑k : Int) + (1 : Int)) (↑l.n : Int)))).y) ∧ ((0
 : Int) ≤ (2 : Int) ∧ (2 : Int) < (↑(3 : Nat) : Int)) ∧ ((0 : Int) ≤ (1 : Int) ∧ (1 : Int) < (↑(3 : Nat) : Int)) ∧ Go.SE.InK Go.IntKind.i64 ((l.g (Int.toNat (Int.tmod ((↑k : Int) + (1 : Int)) (↑l.n : Int)))).x * (l.g (Int.toNat (↑k : Int))).y) ∧ Go.SE.InK Go.IntKind.i64 ((l.g (Int.toNat (↑k : Int))).x * (l.g (Int.toNat (Int.tmod ((↑k : Int) + (1 : Int)) (↑l.n : Int)))).y - (l.g (Int.toNat (Int.tmod
 ((↑k : Int) + (1 : Int)) (↑l.n : Int)))).x * (l.g (Int.toNat (↑k : Int))).y) ∧ Go.SE.InK Go.IntKind.i64 (L.areaTo l k + ((l.g (Int.toNat (↑k : Int))).x * (l.g (Int.toNat (Int.tmod ((↑k : Int) + (1 : Int)) (↑l.n : Int)))).y - (l.g (Int.toNat (Int.tmod ((↑k : Int) + (1 : Int)) (↑l.n : Int)))).x * (l.g (Int.toNat (↑k : Int))).y)) ∧ ∃ (t' : Nat), nat_lit 0 = nat_lit 0 ∧ vk (nat_lit 3) = vk (nat_lit 3)
 ∧ L.areaTo l k + ((l.g (Int.toNat (↑k : Int))).x * (l.g (Int.toNat (Int.tmod ((↑k : Int) + (1 : Int)) (↑l.n : Int)))).y - (l.g (Int.toNat (Int.tmod ((↑k : Int) + (1 : Int)) (↑l.n : Int)))).x * (l.g (Int.toNat (↑k : Int))).y) = L.areaTo l (k + (1 : Nat)) ∧ k + (1 : Nat) ≤ l.n) ∧ ∀ (t : Nat), l.n ≤ l.n → L.areaTo l l.n = L.areaTo l l.n) (by kernel_rfl) (by
    have hs : L.small l := hp
    refine ⟨⟨fun _ _ => rfl, hs.1⟩, ⟨⟨fun _ _ => rfl, hs.1⟩, (0 : Nat), rfl, Nat.zero_le _⟩, fun k t vk hk hi => ?_, fun _ _ => rfl⟩
    have e0 : ((k : Int)).toNat = k := by omega
    have e1 : (Int.tmod ((k : Int) + 1) (l.n : Int)).toNat = L.next l.n k := rfl
    rw [e0, e1]
    have b1 := area_term hs hk
    have b2 := areaTo_bd hs k hi
    have hn := hs.1
    refine ⟨by omega, by omega, InK.of (by omega) (by omega), by omega, by omega, InK.of (by omega) (by omega), InK.of (by omega) (by omega), InK.of (by omega) (by omega), (0 : Nat), rfl, rfl, rfl, hk⟩)
theorem p_area_ok : SpecOk Try.prog 56 p_area_S := fnX Try.func56 (c := bodyOf Try.f56) (by kernel_rfl) mixed (fun args p r hs hp => by
  unfold p_area_s at hs
  split at hs
  · cases hs; exact ⟨_, _, p_area_vc _ hp.2, (.p (.sl hp.1) .nil), ⟨show SpecsL Try.prog _ from (SpecsL.cons p_triples_ok p_triples_en SpecsL.nil), rfl, ⟨show ItersL Try.prog _ from (ItersL.cons p_triples1_itok p_triples1_en ItersL.nil), (TrsOk.none (fun _ => rfl))⟩⟩⟩
  · cases hs)
theorem p_area_en : Enters Try.prog 56 := fun args w => by kernel_rfl
theorem p_area_I : ∀ args p r, p_area_s args = some (p, r) → ∃ n, r = .int .i64 n := by
  intro args p r h
  unfold p_area_s at h
  split at h
  · cases h; exact ⟨_, rfl⟩
  · cases h
end Go.Proofs.Ytkklpamllfkbaaa

namespace Go.Proofs.Ytkklpamllfkbaaa
open Go.SE Go.RowKit
set_option maxRecDepth 100000
set_option maxHeartbeats 4000000
set_option linter.unusedVariables false
attribute [local irreducible] Go.SE.vc

def L.cmp (a b : Int) : Int := bif decide (a < b) then -1 else bif decide (b < a) then 1 else 0
def L.or2 (a b : Int) : Int := bif decide (a = 0) then b else a
def L.firstNZ (g : Nat → Int) : Nat → Int
  | 0 => 0
  | n + 1 => L.or2 (L.firstNZ g n) (g n)
theorem firstNZ_zero {g : Nat → Int} : ∀ {n : Nat}, (∀ j, j < n → g j = 0) → L.firstNZ g n = 0
  | 0, _ => rfl
  | n + 1, h => by rw [L.firstNZ, firstNZ_zero (n := n) (fun j hj => h j (by omega)), h n (by omega)]; rfl
theorem firstNZ_at {g : Nat → Int} {i : Nat} (h0 : ∀ j, j < i → g j = 0) (hi : g i ≠ 0) : ∀ {n : Nat}, i < n → L.firstNZ g n = g i
  | n + 1, h => by
    by_cases hin : i < n
    · simp [L.firstNZ, L.or2, firstNZ_at h0 hi hin, hi]
    · have : i = n := by omega
      subst this
      simp [L.firstNZ, L.or2, firstNZ_zero h0]
def L.idx : Nat → (Nat → Bool) → Int
  | 0, _ => -1
  | n + 1, f => bif decide (0 ≤ L.idx n f) then L.idx n f else bif f n then (n : Int) else -1
def L.anyB : Nat → (Nat → Bool) → Bool
  | 0, _ => false
  | n + 1, f => L.anyB n f || f n
theorem anyB_iff {f : Nat → Bool} : ∀ {n : Nat}, L.anyB n f = true ↔ ∃ i, i < n ∧ f i = true
  | 0 => by simp [L.anyB]
  | n + 1 => by
    simp only [L.anyB, Bool.or_eq_true, anyB_iff (n := n)]
    constructor
    · rintro (⟨i, h, k⟩ | h)
      · exact ⟨i, by omega, k⟩
      · exact ⟨n, by omega, h⟩
    · rintro ⟨i, h, k⟩
      rcases Nat.lt_succ_iff_lt_or_eq.1 h with h | rfl
      · exact .inl ⟨i, h, k⟩
      · exact .inr k
theorem idx_none {f : Nat → Bool} : ∀ {n : Nat}, (∀ j, j < n → f j = false) → L.idx n f = -1
  | 0, _ => rfl
  | n + 1, h => by rw [L.idx, idx_none (n := n) (fun j hj => h j (by omega)), h n (by omega)]; rfl
theorem idx_at {f : Nat → Bool} {i : Nat} (h0 : ∀ j, j < i → f j = false) (hi : f i = true) : ∀ {n : Nat}, i < n → L.idx n f = (i : Int)
  | n + 1, h => by
    by_cases hin : i < n
    · simp [L.idx, idx_at h0 hi hin]
    · have : i = n := by omega
      subst this
      simp [L.idx, idx_none h0, hi]
theorem idx_any {f : Nat → Bool} : ∀ {n : Nat}, decide (0 ≤ L.idx n f) = L.anyB n f
  | 0 => rfl
  | n + 1 => by
    have ih := idx_any (f := f) (n := n)
    unfold L.anyB
    rw [← ih]
    cases hf : f n <;> by_cases h : 0 ≤ L.idx n f <;> simp [L.idx, hf, h]
theorem idx_lt {f : Nat → Bool} : ∀ {n : Nat}, -1 ≤ L.idx n f ∧ L.idx n f < (n : Int)
  | 0 => by simp [L.idx]
  | n + 1 => by
    have ih := idx_lt (f := f) (n := n)
    cases hf : f n <;> by_cases h : 0 ≤ L.idx n f <;> simp [L.idx, hf, h] <;> omega
def L.cnt (p : Nat → Bool) : Nat → Nat
  | 0 => 0
  | n + 1 => bif p n then L.cnt p n + 1 else L.cnt p n
theorem cnt_le {p : Nat → Bool} : ∀ {n : Nat}, L.cnt p n ≤ n
  | 0 => Nat.le_refl _
  | n + 1 => by
    have := cnt_le (p := p) (n := n)
    unfold L.cnt
    cases p n <;> simp <;> omega
def L.selN (p : Nat → Bool) : Nat → Nat → Nat
  | 0, _ => 0
  | n + 1, k => bif p n && decide (k = L.cnt p n) then n else L.selN p n k
theorem cnt_yes {p : Nat → Bool} {n : Nat} (h : p n = true) : L.cnt p (n + 1) = L.cnt p n + 1 := by simp [L.cnt, h]
theorem cnt_not {p : Nat → Bool} {n : Nat} (h : p n = false) : L.cnt p (n + 1) = L.cnt p n := by simp [L.cnt, h]
theorem selN_new {p : Nat → Bool} {n : Nat} (h : p n = true) : L.selN p (n + 1) (L.cnt p n) = n := by simp [L.selN, h]
theorem selN_old {p : Nat → Bool} {n k : Nat} (h : k ≠ L.cnt p n) : L.selN p (n + 1) k = L.selN p n k := by simp [L.selN, h]
theorem selN_not {p : Nat → Bool} {n k : Nat} (h : p n = false) : L.selN p (n + 1) k = L.selN p n k := by simp [L.selN, h]
theorem sel_in {p : Nat → Bool} : ∀ {n k : Nat}, k < L.cnt p n → L.selN p n k < n ∧ p (L.selN p n k) = true
  | 0, k, h => absurd h (Nat.not_lt_zero _)
  | n + 1, k, h => by
    cases hp : p n with
    | false =>
      rw [cnt_not hp] at h
      rw [selN_not hp]
      have := sel_in (p := p) h
      exact ⟨by omega, this.2⟩
    | true =>
      rw [cnt_yes hp] at h
      by_cases e : k = L.cnt p n
      · rw [e, selN_new hp]; exact ⟨by omega, hp⟩
      · rw [selN_old e]
        have := sel_in (p := p) (n := n) (k := k) (by omega)
        exact ⟨by omega, this.2⟩
theorem sel_of {p : Nat → Bool} {c : Nat} (hc : p c = true) : ∀ {n : Nat}, c < n → ∃ k, k < L.cnt p n ∧ L.selN p n k = c
  | 0, h => absurd h (Nat.not_lt_zero _)
  | n + 1, h => by
    rcases Nat.lt_succ_iff_lt_or_eq.1 h with h' | rfl
    · obtain ⟨k, h1, h2⟩ := sel_of hc h'
      cases hp : p n with
      | false => exact ⟨k, by rw [cnt_not hp]; exact h1, by rw [selN_not hp]; exact h2⟩
      | true => exact ⟨k, by rw [cnt_yes hp]; omega, by rw [selN_old (by omega)]; exact h2⟩
    · exact ⟨L.cnt p c, by rw [cnt_yes hc]; omega, selN_new hc⟩
theorem idx_cases {f : Nat → Bool} : ∀ {n : Nat}, (L.idx n f = -1 ∧ ∀ j, j < n → f j = false) ∨ ∃ i, i < n ∧ L.idx n f = (i : Int) ∧ f i = true ∧ ∀ j, j < i → f j = false
  | 0 => .inl ⟨rfl, fun j hj => absurd hj (Nat.not_lt_zero _)⟩
  | n + 1 => by
    rcases idx_cases (f := f) (n := n) with ⟨h1, h2⟩ | ⟨i, h1, h2, h3, h4⟩
    · cases hf : f n with
      | true => exact .inr ⟨n, Nat.lt_succ_self n, by simp [L.idx, h1, hf], hf, h2⟩
      | false => exact .inl ⟨by simp [L.idx, h1, hf], fun j hj => by
          rcases Nat.lt_succ_iff_lt_or_eq.1 hj with h | rfl
          · exact h2 j h
          · exact hf⟩
    · exact .inr ⟨i, by omega, by simp [L.idx, h2], h3, h4⟩
theorem band (a b : Bool) : (bif a then b else false) = (a && b) := by cases a <;> rfl
theorem bor (a b : Bool) : (bif a then true else b) = (a || b) := by cases a <;> rfl
def c_isNaN_p (x : Int) : Prop := True
def c_isNaN_r (x : Int) : SV := .bool false
def c_isNaN_s : List EV → Option (Prop × SV)
  | [.p (.int .i64 x)] => some (c_isNaN_p x, c_isNaN_r x)
  | _ => none
abbrev c_isNaN_S : SE.Spec := (specO c_isNaN_s)
def c_isNaN_C : Cfg := { muts := [], frz := lookN [], specs := lookS [], loops := lookL [], iters := lookI [], rfs := lookR [], nils := lookM [] }
theorem c_isNaN_vc (x : Int) (hp : c_isNaN_p x) : vc Try.prog (c_isNaN_C) (bodyOf Try.f65) (st0 Try.f65 [.p (.int .i64 x)]) (retFn Try.prog Try.f65 (c_isNaN_r x)) :=
  @Eq.mpr _ ((!Decidable.decide (x = x)) = Bool.false) (by kernel_rfl) (by
    simp)
theorem c_isNaN_ok : SpecOk Try.prog 65 c_isNaN_S := fnX Try.func65 (c := bodyOf Try.f65) (by kernel_rfl) mixed (fun args p r hs hp => by
  unfold c_isNaN_s at hs
  split at hs
  · cases hs; exact ⟨_, _, c_isNaN_vc _ hp, (.same _ .nil), ⟨show SpecsL Try.prog _ from SpecsL.nil, rfl, ⟨show ItersL Try.prog _ from ItersL.nil, (TrsOk.none (fun _ => rfl))⟩⟩⟩
  · cases hs)
theorem c_isNaN_en : Enters Try.prog 65 := fun args w => by kernel_rfl
theorem c_isNaN_B : ∀ args p r, c_isNaN_s args = some (p, r) → ∃ b, r = .bool b := by
  intro args p r h
  unfold c_isNaN_s at h
  split at h
  · cases h; exact ⟨_, rfl⟩
  · cases h
def c_cmp_p (a : Int) (b : Int) : Prop := True
def c_cmp_r (a : Int) (b : Int) : SV := .int .i64 (L.cmp a b)
def c_cmp_s : List EV → Option (Prop × SV)
  | [.p (.int .i64 a), .p (.int .i64 b)] => some (c_cmp_p a b, c_cmp_r a b)
  | _ => none
abbrev c_cmp_S : SE.Spec := (specO c_cmp_s)
def c_cmp_C : Cfg := { muts := [], frz := lookN [], specs := lookS [(65, c_isNaN_S)], loops := lookL [], iters := lookI [], rfs := lookR [], nils := lookM [] }
theorem c_cmp_vc (a : Int) (b : Int) (hp : c_cmp_p a b) : vc Try.prog (c_cmp_C) (bodyOf Try.f33) (st0 Try.f33 [.p (.int .i64 a), .p (.int .i64 b)]) (retFn Try.prog Try.f33 (c_cmp_r a b)) :=
  @Eq.mpr _ (True ∧ True ∧ (Bool.false = Bool.true → (Bool.false = Bool.true → (0 : Int) = L.cmp a b) ∧ (Bool.false = Bool.false → (-1 : Int) = L.cmp a b)) ∧ (Bool.false = Bool.false → (Bool.false = Bool.true → (1 : Int) = L.cmp a b) ∧ (Bool.false = Bool.false → (Decidable.decide (a < b) = Bool.true → (-1 : Int) = L.cmp a b) ∧ (Decidable.decide (a < b) = Bool.false → (Decidable.decide (b < a) = Bool.true → (1
 : Int) = L.cmp a b) ∧ (Decidable.decide (b < a) = Bool.false → (0 : Int) = L.cmp a b))))) (by kernel_rfl) (by
    grind [L.cmp])
theorem c_cmp_ok : SpecOk Try.prog 33 c_cmp_S := fnX Try.func33 (c := bodyOf Try.f33) (by kernel_rfl) mixed (fun args p r hs hp => by
  unfold c_cmp_s at hs
  split at hs
  · cases hs; exact ⟨_, _, c_cmp_vc _ _ hp, (.same _ (.same _ .nil)), ⟨show SpecsL Try.prog _ from (SpecsL.cons c_isNaN_ok c_isNaN_en SpecsL.nil), rfl, ⟨show ItersL Try.prog _ from ItersL.nil, (TrsOk.none (fun _ => rfl))⟩⟩⟩
  · cases hs)
theorem c_cmp_en : Enters Try.prog 33 := fun args w => by kernel_rfl
theorem c_cmp_I : ∀ args p r, c_cmp_s args = some (p, r) → ∃ n, r = .int .i64 n := by
  intro args p r h
  unfold c_cmp_s at h
  split at h
  · cases h; exact ⟨_, rfl⟩
  · cases h
def c_or_p (l : (L.Sq Int)) : Prop := l.n ≤ 1000000
def c_or_r (l : (L.Sq Int)) : SV := .int .i64 (L.firstNZ l.g l.n)
def c_or_s : List EV → Option (Prop × SV)
  | [.p (.sl 1 l_n l_g)] => some ((∀ i, i < l_n → l_g i = [.int .i64 ((intOf (l_g i)))]) ∧ c_or_p (⟨l_n, fun i => intOf (l_g i)⟩ : (L.Sq Int)), c_or_r (⟨l_n, fun i => intOf (l_g i)⟩ : (L.Sq Int)))
  | _ => none
abbrev c_or_S : SE.Spec := (specO c_or_s)
def c_or_C : Cfg := { muts := [], frz := lookN [], specs := lookS [], loops := fun _ => none, iters := lookI [], rfs := lookR [], nils := lookM [] }
theorem c_or_vc (l : (L.Sq Int)) (hp : c_or_p l) : vc Try.prog ({ c_or_C with loops := lookL [(3, { T := Nat, keep := [0, 3, 6, 7], keepO := [], chg := fun i => [(8, .p (.int .i64 i))], own := fun _ => [], inv := fun i => i ≤ l.n ∧ (∀ j, j < i → l.g j = 0), mu := fun i => l.n - i })], rfs := lookR [] }) (bodyOf Try.f91) (st0 Try.f91 [.p (.sl 1 l.n (fun i => [.int .i64 ((l.g i))]))]) (retFn Try.prog Try.f91 (c_or_r l)) :=
  @Eq.mpr _ ((∃ (g : Nat), (0 : Int) = (↑g : Int) ∧ g ≤ l.n ∧ ∀ (j : Nat), j < g → l.g j = (0 : Int)) ∧ ∀ (g : Nat), (g ≤ l.n ∧ ∀ (j : Nat), j < g → l.g j = (0 : Int)) → (Decidable.decide ((↑g : Int) < (↑l.n : Int)) = Bool.true → ((0 : Int) ≤ (↑g : Int) ∧ (↑g : Int) < (↑l.n : Int)) ∧ ((!Decidable.decide (l.g (Int.toNat (↑g : Int)) = (0 : Int))) = Bool.true → l.g (Int.toNat (↑g : Int)) = L.firstNZ l.g l.n) ∧
 ((!Decidable.decide (l.g (Int.toNat (↑g : Int)) = (0 : Int))) = Bool.false → Go.SE.InK Go.IntKind.i64 ((↑g : Int) + (1 : Int)) ∧ ∃ (g' : Nat), (↑g : Int) + (1 : Int) = (↑g' : Int) ∧ (↑l.n : Int) = (↑l.n : Int) ∧ (l.n = l.n ∧ ∀ (i : Nat), i < l.n → [Go.SE.SV.int Go.IntKind.i64 (l.g i)] = [Go.SE.SV.int Go.IntKind.i64 (l.g i)]) ∧ (0 : Int) = (0 : Int) ∧ (l.n = l.n ∧ ∀ (i : Nat), i < l.n →
 [Go.SE.SV.int Go.IntKind.i64 (l.g i)] = [Go.SE.SV.int Go.IntKind.i64 (l.g i)]) ∧ (g' ≤ l.n ∧ ∀ (j : Nat), j < g' → l.g j = (0 : Int)) ∧ l.n - g' < l.n - g)) ∧ (Decidable.decide ((↑g : Int) < (↑l.n : Int)) = Bool.false → (0 : Int) = L.firstNZ l.g l.n)) (by kernel_rfl) (by
    refine ⟨⟨(0 : Nat), rfl, Nat.zero_le _, fun j hj => by omega⟩, fun g hg => ⟨fun hlt => ?_, fun hge => ?_⟩⟩
    · have hb : (g : Int) < (l.n : Int) := by simpa using hlt
      have e0 : ((g : Int)).toNat = g := by omega
      rw [e0]
      have hn : l.n ≤ 1000000 := hp
      refine ⟨by omega, fun h => ?_, fun h => ?_⟩
      · exact (firstNZ_at hg.2 (by simpa using h) (by omega)).symm
      · have h0 : l.g g = 0 := by simpa using h
        exact ⟨InK.of (by omega) (by omega), g + 1, by omega, rfl, ⟨rfl, fun _ _ => rfl⟩, rfl, ⟨rfl, fun _ _ => rfl⟩, ⟨by omega, fun j hj => by
          rcases Nat.lt_succ_iff_lt_or_eq.1 hj with h | rfl
          · exact hg.2 j h
          · exact h0⟩, by omega⟩
    · have hb : ¬ (g : Int) < (l.n : Int) := by simpa using hge
      exact (firstNZ_zero (fun j hj => hg.2 j (by omega))).symm)
theorem c_or_ok : SpecOk Try.prog 91 c_or_S := fnX Try.func91 (c := bodyOf Try.f91) (by kernel_rfl) mixed (fun args p r hs hp => by
  unfold c_or_s at hs
  split at hs
  · cases hs; exact ⟨_, _, c_or_vc _ hp.2, (.p (.sl hp.1) .nil), ⟨show SpecsL Try.prog _ from SpecsL.nil, rfl, ⟨show ItersL Try.prog _ from ItersL.nil, (TrsOk.none (fun _ => rfl))⟩⟩⟩
  · cases hs)
theorem c_or_en : Enters Try.prog 91 := fun args w => by kernel_rfl
theorem c_or_I : ∀ args p r, c_or_s args = some (p, r) → ∃ n, r = .int .i64 n := by
  intro args p r h
  unfold c_or_s at h
  split at h
  · cases h; exact ⟨_, rfl⟩
  · cases h
def s_idxFP_p (l : (L.Sq L.Pt)) (p : FSpec) : Prop := l.n ≤ 1000000 ∧ ∀ i, i < l.n → p.pre [(.agg [.int .i64 ((l.g i).x), .int .i64 ((l.g i).y)])]
def s_idxFP_r (l : (L.Sq L.Pt)) (p : FSpec) : SV := .int .i64 (L.idx l.n (fun i => L.fbl p [(.agg [.int .i64 ((l.g i).x), .int .i64 ((l.g i).y)])]))
def s_idxFP_s : List EV → Option (Prop × SV)
  | [.p (.sl 2 l_n l_g), .fn p] => some ((∀ i, i < l_n → l_g i = [.int .i64 ((ofPt (l_g i)).x), .int .i64 ((ofPt (l_g i)).y)]) ∧ isB p ∧ s_idxFP_p (⟨l_n, fun i => ofPt (l_g i)⟩ : (L.Sq L.Pt)) p, s_idxFP_r (⟨l_n, fun i => ofPt (l_g i)⟩ : (L.Sq L.Pt)) p)
  | _ => none
abbrev s_idxFP_S : SE.Spec := (specO s_idxFP_s)
def s_idxFP_C : Cfg := { muts := [], frz := lookN [], specs := lookS [], loops := fun _ => none, iters := lookI [], rfs := lookR [], nils := lookM [] }
theorem s_idxFP_vc (l : (L.Sq L.Pt)) (p : FSpec) (hp : s_idxFP_p l p) : vc Try.prog ({ s_idxFP_C with loops := lookL [(2, { T := Nat, keep := [0, 1, 6, 7], keepO := [], chg := fun i => [(8, .p (.int .i64 i))], own := fun _ => [], inv := fun i => i ≤ l.n ∧ (∀ j, j < i → L.fbl p [(.agg [.int .i64 ((l.g j).x), .int .i64 ((l.g j).y)])] = false), mu := fun i => l.n - i })], rfs := lookR [] }) (bodyOf Try.f75) (st0 Try.f75 [.p (.sl 2 l.n (fun i => [.int .i64 ((l.g i).x), .int .i64 ((l.g i).y)])), .fn ⟨p.pre, fun xs => .bool (L.fbl p xs)⟩]) (retFn Try.prog Try.f75 (s_idxFP_r l p)) :=
  @Eq.mpr _ ((∃ (g : Nat), (0 : Int) = (↑g : Int) ∧ g ≤ l.n ∧ ∀ (j : Nat), j < g → L.fbl p [Go.SE.SV.agg [Go.SE.SV.int Go.IntKind.i64 (l.g j).x, Go.SE.SV.int Go.IntKind.i64 (l.g j).y]] = Bool.false) ∧ ∀ (g : Nat), (g ≤ l.n ∧ ∀ (j : Nat), j < g → L.fbl p [Go.SE.SV.agg [Go.SE.SV.int Go.IntKind.i64 (l.g j).x, Go.SE.SV.int Go.IntKind.i64 (l.g j).y]] = Bool.false) → (Decidable.decide ((↑g : Int) < (↑l.n : Int)) =
 Bool.true → ((0 : Int) ≤ (↑g : Int) ∧ (↑g : Int) < (↑l.n : Int)) ∧ p.1 [Go.SE.SV.agg [Go.SE.SV.int Go.IntKind.i64 (l.g (Int.toNat (↑g : Int))).x, Go.SE.SV.int Go.IntKind.i64 (l.g (Int.toNat (↑g : Int))).y]] ∧ (L.fbl p [Go.SE.SV.agg [Go.SE.SV.int Go.IntKind.i64 (l.g (Int.toNat (↑g : Int))).x, Go.SE.SV.int Go.IntKind.i64 (l.g (Int.toNat (↑g : Int))).y]] = Bool.true → (↑g : Int) = L.idx l.n fun (i :
 Nat) ↦ L.fbl p [Go.SE.SV.agg [Go.SE.SV.int Go.IntKind.i64 (l.g i).x, Go.SE.SV.int Go.IntKind.i64 (l.g i).y]]) ∧ (L.fbl p [Go.SE.SV.agg [Go.SE.SV.int Go.IntKind.i64 (l.g (Int.toNat (↑g : Int))).x, Go.SE.SV.int Go.IntKind.i64 (l.g (Int.toNat (↑g : Int))).y]] = Bool.false → Go.SE.InK Go.IntKind.i64 ((↑g : Int) + (1 : Int)) ∧ ∃ (g' : Nat), (↑g : Int) + (1 : Int) = (↑g' : Int) ∧ (↑l.n : Int) = (↑l.n :
 Int) ∧ (l.n = l.n ∧ ∀ (i : Nat), i < l.n → [Go.SE.SV.int Go.IntKind.i64 (l.g i).x, Go.SE.SV.int Go.IntKind.i64 (l.g i).y] = [Go.SE.SV.int Go.IntKind.i64 (l.g i).x, Go.SE.SV.int Go.IntKind.i64 (l.g i).y]) ∧ (l.n = l.n ∧ ∀ (i : Nat), i < l.n → [Go.SE.SV.int Go.IntKind.i64 (l.g i).x, Go.SE.SV.int Go.IntKind.i64 (l.g i).y] = [Go.SE.SV.int Go.IntKind.i64 (l.g i).x, Go.SE.SV.int Go.IntKind.i64 (l.g
 i).y]) ∧ ((Go.SE.FSpec.mk p.pre fun (xs : List Go.SE.SV) ↦ Go.SE.SV.bool (L.fbl p xs)) = Go.SE.FSpec.mk p.pre fun (xs : List Go.SE.SV) ↦ Go.SE.SV.bool (L.fbl p xs)) ∧ (g' ≤ l.n ∧ ∀ (j : Nat), j < g' → L.fbl p [Go.SE.SV.agg [Go.SE.SV.int Go.IntKind.i64 (l.g j).x, Go.SE.SV.int Go.IntKind.i64 (l.g j).y]] = Bool.false) ∧ l.n - g' < l.n - g)) ∧ (Decidable.decide ((↑g : Int) < (↑l.n : Int)) = Bool.false
 → (-1 : Int) = L.idx l.n fun (i : Nat) ↦ L.fbl p [Go.SE.SV.agg [Go.SE.SV.int Go.IntKind.i64 (l.g i).x, Go.SE.SV.int Go.IntKind.i64 (l.g i).y]])) (by kernel_rfl) (by
    obtain ⟨hn, hpre⟩ := hp
    refine ⟨⟨(0 : Nat), rfl, Nat.zero_le _, fun j hj => by omega⟩, fun g hg => ⟨fun hlt => ?_, fun hge => ?_⟩⟩
    · have hb : (g : Int) < (l.n : Int) := by simpa using hlt
      have e0 : ((g : Int)).toNat = g := by omega
      rw [e0]
      refine ⟨by omega, hpre g (by omega), fun h => ?_, fun h => ?_⟩
      · exact (idx_at hg.2 h (by omega)).symm
      · exact ⟨InK.of (by omega) (by omega), g + 1, by omega, rfl, ⟨rfl, fun _ _ => rfl⟩, ⟨rfl, fun _ _ => rfl⟩, rfl, ⟨by omega, fun j hj => by
          rcases Nat.lt_succ_iff_lt_or_eq.1 hj with h' | rfl
          · exact hg.2 j h'
          · exact h⟩, by omega⟩
    · have hb : ¬ (g : Int) < (l.n : Int) := by simpa using hge
      exact (idx_none (fun j hj => hg.2 j (by omega))).symm)
theorem s_idxFP_ok : SpecOk Try.prog 75 s_idxFP_S := fnX Try.func75 (c := bodyOf Try.f75) (by kernel_rfl) mixed (fun args p r hs hp => by
  unfold s_idxFP_s at hs
  split at hs
  · cases hs; exact ⟨_, _, s_idxFP_vc _ _ hp.2.2, (.p (.sl hp.1) (.fn (fun xs h => ⟨h, (fbl_res hp.2.1 h).symm⟩) .nil)), ⟨show SpecsL Try.prog _ from SpecsL.nil, rfl, ⟨show ItersL Try.prog _ from ItersL.nil, (TrsOk.none (fun _ => rfl))⟩⟩⟩
  · cases hs)
theorem s_idxFP_en : Enters Try.prog 75 := fun args w => by kernel_rfl
theorem s_idxFP_I : ∀ args p r, s_idxFP_s args = some (p, r) → ∃ n, r = .int .i64 n := by
  intro args p r h
  unfold s_idxFP_s at h
  split at h
  · cases h; exact ⟨_, rfl⟩
  · cases h
def s_conFP_p (l : (L.Sq L.Pt)) (p : FSpec) : Prop := l.n ≤ 1000000 ∧ ∀ i, i < l.n → p.pre [(.agg [.int .i64 ((l.g i).x), .int .i64 ((l.g i).y)])]
def s_conFP_r (l : (L.Sq L.Pt)) (p : FSpec) : SV := .bool (L.anyB l.n (fun i => L.fbl p [(.agg [.int .i64 ((l.g i).x), .int .i64 ((l.g i).y)])]))
def s_conFP_s : List EV → Option (Prop × SV)
  | [.p (.sl 2 l_n l_g), .fn p] => some ((∀ i, i < l_n → l_g i = [.int .i64 ((ofPt (l_g i)).x), .int .i64 ((ofPt (l_g i)).y)]) ∧ isB p ∧ s_conFP_p (⟨l_n, fun i => ofPt (l_g i)⟩ : (L.Sq L.Pt)) p, s_conFP_r (⟨l_n, fun i => ofPt (l_g i)⟩ : (L.Sq L.Pt)) p)
  | _ => none
abbrev s_conFP_S : SE.Spec := (specO s_conFP_s)
def s_conFP_C : Cfg := { muts := [], frz := lookN [], specs := lookS [(75, s_idxFP_S)], loops := lookL [], iters := lookI [], rfs := lookR [], nils := lookM [] }
theorem s_conFP_vc (l : (L.Sq L.Pt)) (p : FSpec) (hp : s_conFP_p l p) : vc Try.prog (s_conFP_C) (bodyOf Try.f49) (st0 Try.f49 [.p (.sl 2 l.n (fun i => [.int .i64 ((l.g i).x), .int .i64 ((l.g i).y)])), .fn ⟨p.pre, fun xs => .bool (L.fbl p xs)⟩]) (retFn Try.prog Try.f49 (s_conFP_r l p)) :=
  @Eq.mpr _ (((∀ (i : Nat), i < l.n → [Go.SE.SV.int Go.IntKind.i64 (l.g i).x, Go.SE.SV.int Go.IntKind.i64 (l.g i).y] = [Go.SE.SV.int Go.IntKind.i64 (l.g i).x, Go.SE.SV.int Go.IntKind.i64 (l.g i).y]) ∧ Go.SE.isB (Go.SE.FSpec.mk p.pre fun (xs : List Go.SE.SV) ↦ Go.SE.SV.bool (L.fbl p xs)) ∧ l.n ≤ (1000000 : Nat) ∧ ∀ (i : Nat), i < l.n → p.1 [Go.SE.SV.agg [Go.SE.SV.int Go.IntKind.i64 (l.g i).x, Go.SE.SV.int
 Go.IntKind.i64 (l.g i).y]]) ∧ Decidable.decide ((0 : Int) ≤ L.idx l.n fun (i : Nat) ↦ L.fbl (Go.SE.FSpec.mk p.pre fun (xs : List Go.SE.SV) ↦ Go.SE.SV.bool (L.fbl p xs)) [Go.SE.SV.agg [Go.SE.SV.int Go.IntKind.i64 (l.g i).x, Go.SE.SV.int Go.IntKind.i64 (l.g i).y]]) = L.anyB l.n fun (i : Nat) ↦ L.fbl p [Go.SE.SV.agg [Go.SE.SV.int Go.IntKind.i64 (l.g i).x, Go.SE.SV.int Go.IntKind.i64 (l.g i).y]]) (by kernel_rfl) (by
    refine ⟨⟨fun _ _ => rfl, fun xs _ => ⟨_, rfl⟩, hp⟩, idx_any⟩)
theorem s_conFP_ok : SpecOk Try.prog 49 s_conFP_S := fnX Try.func49 (c := bodyOf Try.f49) (by kernel_rfl) mixed (fun args p r hs hp => by
  unfold s_conFP_s at hs
  split at hs
  · cases hs; exact ⟨_, _, s_conFP_vc _ _ hp.2.2, (.p (.sl hp.1) (.fn (fun xs h => ⟨h, (fbl_res hp.2.1 h).symm⟩) .nil)), ⟨show SpecsL Try.prog _ from (SpecsL.cons s_idxFP_ok s_idxFP_en SpecsL.nil), rfl, ⟨show ItersL Try.prog _ from ItersL.nil, (TrsOk.none (fun _ => rfl))⟩⟩⟩
  · cases hs)
theorem s_conFP_en : Enters Try.prog 49 := fun args w => by kernel_rfl
theorem s_conFP_B : ∀ args p r, s_conFP_s args = some (p, r) → ∃ b, r = .bool b := by
  intro args p r h
  unfold s_conFP_s at h
  split at h
  · cases h; exact ⟨_, rfl⟩
  · cases h
end Go.Proofs.Ytkklpamllfkbaaa

namespace Go.Proofs.Ytkklpamllfkbaaa
open Go.SE Go.RowKit
set_option maxRecDepth 100000
set_option maxHeartbeats 4000000
set_option linter.unusedVariables false
attribute [local irreducible] Go.SE.vc

def L.cross (a b c : L.Pt) : Int := (b.x - a.x) * (c.y - a.y) - (b.y - a.y) * (c.x - a.x)
def L.dist (a b : L.Pt) : Int := (b.x - a.x) * (b.x - a.x) + (b.y - a.y) * (b.y - a.y)
def L.bd (p : L.Pt) : Prop := -4000000 ≤ p.x ∧ p.x ≤ 4000000 ∧ -4000000 ≤ p.y ∧ p.y ≤ 4000000
def L.validPt (p : L.Pt) : Bool := L.within p.x 0 4096 && L.within p.y 0 4096
theorem validPt_bd {p : L.Pt} (h : L.validPt p = true) : L.bd p := by
  simp only [L.validPt, L.within, Bool.and_eq_true, decide_eq_true_eq] at h
  unfold L.bd; omega
def L.cmpPt (a b : L.Pt) : Int := L.or2 (L.cmp a.x b.x) (L.cmp a.y b.y)
def L.on (a b p : L.Pt) : Bool := decide (L.cross a b p = 0) && L.within p.x (min a.x b.x) (max a.x b.x) && L.within p.y (min a.y b.y) (max a.y b.y)
def L.apart (a b c d : L.Pt) : Bool := decide (L.cmp (L.cross a b c) 0 * L.cmp (L.cross a b d) 0 < 0)
theorem not_anyB {f : Nat → Bool} : ∀ {n : Nat}, (!L.anyB n f) = L.allB n (fun i => !f i)
  | 0 => rfl
  | n + 1 => by simp [L.anyB, L.allB, ← not_anyB (n := n)]
theorem cmp_bd (a b : Int) : -1 ≤ L.cmp a b ∧ L.cmp a b ≤ 1 := by
  unfold L.cmp
  by_cases h : a < b <;> by_cases k : b < a <;> simp [h, k]
def p_cross_p (a : L.Pt) (b : L.Pt) (c : L.Pt) : Prop := L.bd a ∧ L.bd b ∧ L.bd c
def p_cross_r (a : L.Pt) (b : L.Pt) (c : L.Pt) : SV := .int .i64 (L.cross a b c)
def p_cross_s : List EV → Option (Prop × SV)
  | [.p (.agg [.int .i64 a_x, .int .i64 a_y]), .p (.agg [.int .i64 b_x, .int .i64 b_y]), .p (.agg [.int .i64 c_x, .int .i64 c_y])] => some (p_cross_p (⟨a_x, a_y⟩ : L.Pt) (⟨b_x, b_y⟩ : L.Pt) (⟨c_x, c_y⟩ : L.Pt), p_cross_r (⟨a_x, a_y⟩ : L.Pt) (⟨b_x, b_y⟩ : L.Pt) (⟨c_x, c_y⟩ : L.Pt))
  | _ => none
abbrev p_cross_S : SE.Spec := (specO p_cross_s)
def p_cross_C : Cfg := { muts := [], frz := lookN [], specs := lookS [], loops := lookL [], iters := lookI [], rfs := lookR [], nils := lookM [] }
theorem p_cross_vc (a : L.Pt) (b : L.Pt) (c : L.Pt) (hp : p_cross_p a b c) : vc Try.prog (p_cross_C) (bodyOf Try.f34) (st0 Try.f34 [.p (.agg [.int .i64 a.x, .int .i64 a.y]), .p (.agg [.int .i64 b.x, .int .i64 b.y]), .p (.agg [.int .i64 c.x, .int .i64 c.y])]) (retFn Try.prog Try.f34 (p_cross_r a b c)) :=
  @Eq.mpr _ (Go.SE.InK Go.IntKind.i64 (b.x - a.x) ∧ Go.SE.InK Go.IntKind.i64 (c.y - a.y) ∧ Go.SE.InK Go.IntKind.i64 ((b.x - a.x) * (c.y - a.y)) ∧ Go.SE.InK Go.IntKind.i64 (b.y - a.y) ∧ Go.SE.InK Go.IntKind.i64 (c.x - a.x) ∧ Go.SE.InK Go.IntKind.i64 ((b.y - a.y) * (c.x - a.x)) ∧ Go.SE.InK Go.IntKind.i64 ((b.x - a.x) * (c.y - a.y) - (b.y - a.y) * (c.x - a.x)) ∧ (b.x - a.x) * (c.y - a.y) - (b.y - a.y) * (c.x -
 a.x) = L.cross a b c) (by kernel_rfl) (by
    obtain ⟨h1, h2, h3⟩ := hp
    unfold L.bd at h1 h2 h3
    have m1 := mul_bd (a := b.x - a.x) (b := c.y - a.y) (m := 8000000) (n := 8000000) (by omega) (by omega) (by omega) (by omega)
    have m2 := mul_bd (a := b.y - a.y) (b := c.x - a.x) (m := 8000000) (n := 8000000) (by omega) (by omega) (by omega) (by omega)
    exact ⟨InK.of (by omega) (by omega), InK.of (by omega) (by omega), InK.of (by omega) (by omega), InK.of (by omega) (by omega), InK.of (by omega) (by omega), InK.of (by omega) (by omega), InK.of (by omega) (by omega), rfl⟩)
theorem p_cross_ok : SpecOk Try.prog 34 p_cross_S := fnX Try.func34 (c := bodyOf Try.f34) (by kernel_rfl) mixed (fun args p r hs hp => by
  unfold p_cross_s at hs
  split at hs
  · cases hs; exact ⟨_, _, p_cross_vc _ _ _ hp, (.same _ (.same _ (.same _ .nil))), ⟨show SpecsL Try.prog _ from SpecsL.nil, rfl, ⟨show ItersL Try.prog _ from ItersL.nil, (TrsOk.none (fun _ => rfl))⟩⟩⟩
  · cases hs)
theorem p_cross_en : Enters Try.prog 34 := fun args w => by kernel_rfl
theorem p_cross_I : ∀ args p r, p_cross_s args = some (p, r) → ∃ n, r = .int .i64 n := by
  intro args p r h
  unfold p_cross_s at h
  split at h
  · cases h; exact ⟨_, rfl⟩
  · cases h
def p_square_p (a : L.Pt) (b : L.Pt) : Prop := L.bd a ∧ L.bd b
def p_square_r (a : L.Pt) (b : L.Pt) : SV := .int .i64 (L.dist a b)
def p_square_s : List EV → Option (Prop × SV)
  | [.p (.agg [.int .i64 a_x, .int .i64 a_y]), .p (.agg [.int .i64 b_x, .int .i64 b_y])] => some (p_square_p (⟨a_x, a_y⟩ : L.Pt) (⟨b_x, b_y⟩ : L.Pt), p_square_r (⟨a_x, a_y⟩ : L.Pt) (⟨b_x, b_y⟩ : L.Pt))
  | _ => none
abbrev p_square_S : SE.Spec := (specO p_square_s)
def p_square_C : Cfg := { muts := [], frz := lookN [], specs := lookS [], loops := lookL [], iters := lookI [], rfs := lookR [], nils := lookM [] }
theorem p_square_vc (a : L.Pt) (b : L.Pt) (hp : p_square_p a b) : vc Try.prog (p_square_C) (bodyOf Try.f38) (st0 Try.f38 [.p (.agg [.int .i64 a.x, .int .i64 a.y]), .p (.agg [.int .i64 b.x, .int .i64 b.y])]) (retFn Try.prog Try.f38 (p_square_r a b)) :=
  @Eq.mpr _ (Go.SE.InK Go.IntKind.i64 (b.x - a.x) ∧ Go.SE.InK Go.IntKind.i64 (b.x - a.x) ∧ Go.SE.InK Go.IntKind.i64 ((b.x - a.x) * (b.x - a.x)) ∧ Go.SE.InK Go.IntKind.i64 (b.y - a.y) ∧ Go.SE.InK Go.IntKind.i64 (b.y - a.y) ∧ Go.SE.InK Go.IntKind.i64 ((b.y - a.y) * (b.y - a.y)) ∧ Go.SE.InK Go.IntKind.i64 ((b.x - a.x) * (b.x - a.x) + (b.y - a.y) * (b.y - a.y)) ∧ (b.x - a.x) * (b.x - a.x) + (b.y - a.y) * (b.y -
 a.y) = L.dist a b) (by kernel_rfl) (by
    obtain ⟨h1, h2⟩ := hp
    unfold L.bd at h1 h2
    have m1 := mul_bd (a := b.x - a.x) (b := b.x - a.x) (m := 8000000) (n := 8000000) (by omega) (by omega) (by omega) (by omega)
    have m2 := mul_bd (a := b.y - a.y) (b := b.y - a.y) (m := 8000000) (n := 8000000) (by omega) (by omega) (by omega) (by omega)
    exact ⟨InK.of (by omega) (by omega), InK.of (by omega) (by omega), InK.of (by omega) (by omega), InK.of (by omega) (by omega), InK.of (by omega) (by omega), InK.of (by omega) (by omega), InK.of (by omega) (by omega), rfl⟩)
theorem p_square_ok : SpecOk Try.prog 38 p_square_S := fnX Try.func38 (c := bodyOf Try.f38) (by kernel_rfl) mixed (fun args p r hs hp => by
  unfold p_square_s at hs
  split at hs
  · cases hs; exact ⟨_, _, p_square_vc _ _ hp, (.same _ (.same _ .nil)), ⟨show SpecsL Try.prog _ from SpecsL.nil, rfl, ⟨show ItersL Try.prog _ from ItersL.nil, (TrsOk.none (fun _ => rfl))⟩⟩⟩
  · cases hs)
theorem p_square_en : Enters Try.prog 38 := fun args w => by kernel_rfl
theorem p_square_I : ∀ args p r, p_square_s args = some (p, r) → ∃ n, r = .int .i64 n := by
  intro args p r h
  unfold p_square_s at h
  split at h
  · cases h; exact ⟨_, rfl⟩
  · cases h
def p_validPoint_p (p : L.Pt) : Prop := True
def p_validPoint_r (p : L.Pt) : SV := .bool (L.validPt p)
def p_validPoint_s : List EV → Option (Prop × SV)
  | [.p (.agg [.int .i64 p_x, .int .i64 p_y])] => some (p_validPoint_p (⟨p_x, p_y⟩ : L.Pt), p_validPoint_r (⟨p_x, p_y⟩ : L.Pt))
  | _ => none
abbrev p_validPoint_S : SE.Spec := (specO p_validPoint_s)
def p_validPoint_C : Cfg := { muts := [], frz := lookN [], specs := lookS [(37, p_within_S)], loops := lookL [], iters := lookI [], rfs := lookR [], nils := lookM [] }
theorem p_validPoint_vc (p : L.Pt) (hp : p_validPoint_p p) : vc Try.prog (p_validPoint_C) (bodyOf Try.f13) (st0 Try.f13 [.p (.agg [.int .i64 p.x, .int .i64 p.y])]) (retFn Try.prog Try.f13 (p_validPoint_r p)) :=
  @Eq.mpr _ (True ∧ (L.within p.x (0 : Int) (4096 : Int) = Bool.true → True) ∧ (bif L.within p.x (0 : Int) (4096 : Int) then L.within p.y (0 : Int) (4096 : Int) else Bool.false) = L.validPt p) (by kernel_rfl) (by
    refine ⟨trivial, fun _ => trivial, ?_⟩
    unfold L.validPt
    cases L.within p.x 0 4096 <;> rfl)
theorem p_validPoint_ok : SpecOk Try.prog 13 p_validPoint_S := fnX Try.func13 (c := bodyOf Try.f13) (by kernel_rfl) mixed (fun args p r hs hp => by
  unfold p_validPoint_s at hs
  split at hs
  · cases hs; exact ⟨_, _, p_validPoint_vc _ hp, (.same _ .nil), ⟨show SpecsL Try.prog _ from (SpecsL.cons p_within_ok p_within_en SpecsL.nil), rfl, ⟨show ItersL Try.prog _ from ItersL.nil, (TrsOk.none (fun _ => rfl))⟩⟩⟩
  · cases hs)
theorem p_validPoint_en : Enters Try.prog 13 := fun args w => by kernel_rfl
theorem p_validPoint_B : ∀ args p r, p_validPoint_s args = some (p, r) → ∃ b, r = .bool b := by
  intro args p r h
  unfold p_validPoint_s at h
  split at h
  · cases h; exact ⟨_, rfl⟩
  · cases h
def p_valid1_p (p : L.Pt) : Prop := True
def p_valid1_r (p : L.Pt) : SV := .bool (!L.validPt p)
def p_valid1_s : List EV → Option (Prop × SV)
  | [.p (.agg [.int .i64 p_x, .int .i64 p_y])] => some (p_valid1_p (⟨p_x, p_y⟩ : L.Pt), p_valid1_r (⟨p_x, p_y⟩ : L.Pt))
  | _ => none
abbrev p_valid1_S : SE.Spec := (specO p_valid1_s)
def p_valid1_C : Cfg := { muts := [], frz := lookN [], specs := lookS [(13, p_validPoint_S)], loops := lookL [], iters := lookI [], rfs := lookR [], nils := lookM [] }
theorem p_valid1_vc (p : L.Pt) (hp : p_valid1_p p) : vc Try.prog (p_valid1_C) (bodyOf Try.f62) (st0 Try.f62 [.p (.agg [.int .i64 p.x, .int .i64 p.y])]) (retFn Try.prog Try.f62 (p_valid1_r p)) :=
  @Eq.mpr _ (True ∧ (!L.validPt p) = !L.validPt p) (by kernel_rfl) (by
    exact ⟨trivial, rfl⟩)
theorem p_valid1_ok : SpecOk Try.prog 62 p_valid1_S := fnX Try.func62 (c := bodyOf Try.f62) (by kernel_rfl) mixed (fun args p r hs hp => by
  unfold p_valid1_s at hs
  split at hs
  · cases hs; exact ⟨_, _, p_valid1_vc _ hp, (.same _ .nil), ⟨show SpecsL Try.prog _ from (SpecsL.cons p_validPoint_ok p_validPoint_en SpecsL.nil), rfl, ⟨show ItersL Try.prog _ from ItersL.nil, (TrsOk.none (fun _ => rfl))⟩⟩⟩
  · cases hs)
theorem p_valid1_en : Enters Try.prog 62 := fun args w => by kernel_rfl
theorem p_valid1_B : ∀ args p r, p_valid1_s args = some (p, r) → ∃ b, r = .bool b := by
  intro args p r h
  unfold p_valid1_s at h
  split at h
  · cases h; exact ⟨_, rfl⟩
  · cases h
def p_valid_p (l : (L.Sq L.Pt)) : Prop := l.n ≤ 1000000
def p_valid_r (l : (L.Sq L.Pt)) : SV := .bool (L.allB l.n (fun i => L.validPt (l.g i)))
def p_valid_s : List EV → Option (Prop × SV)
  | [.p (.sl 2 l_n l_g)] => some ((∀ i, i < l_n → l_g i = [.int .i64 ((ofPt (l_g i)).x), .int .i64 ((ofPt (l_g i)).y)]) ∧ p_valid_p (⟨l_n, fun i => ofPt (l_g i)⟩ : (L.Sq L.Pt)), p_valid_r (⟨l_n, fun i => ofPt (l_g i)⟩ : (L.Sq L.Pt)))
  | _ => none
abbrev p_valid_S : SE.Spec := (specO p_valid_s)
def p_valid_C : Cfg := { muts := [], frz := lookN [], specs := lookS [(49, s_conFP_S), (62, p_valid1_S)], loops := lookL [], iters := lookI [], rfs := lookR [], nils := lookM [] }
theorem p_valid_vc (l : (L.Sq L.Pt)) (hp : p_valid_p l) : vc Try.prog (p_valid_C) (bodyOf Try.f31) (st0 Try.f31 [.p (.sl 2 l.n (fun i => [.int .i64 ((l.g i).x), .int .i64 ((l.g i).y)]))]) (retFn Try.prog Try.f31 (p_valid_r l)) :=
  @Eq.mpr _ (((∀ (i : Nat), i < l.n → [Go.SE.SV.int Go.IntKind.i64 (l.g i).x, Go.SE.SV.int Go.IntKind.i64 (l.g i).y] = [Go.SE.SV.int Go.IntKind.i64 (l.g i).x, Go.SE.SV.int Go.IntKind.i64 (l.g i).y]) ∧ Go.SE.isB (Go.SE.FSpec.mk (fun («as» : List Go.SE.SV) ↦ Go.SE.preO p_valid1_s (List.map Go.SE.EV.p «as» ++ List.map Go.SE.EV.p [])) fun («as» : List Go.SE.SV) ↦ Go.SE.resO p_valid1_s (List.map Go.SE.EV.p «as» ++
 List.map Go.SE.EV.p [])) ∧ l.n ≤ (1000000 : Nat) ∧ ∀ (i : Nat), i < l.n → True) ∧ (!L.anyB l.n fun (i : Nat) ↦ L.fbl (Go.SE.FSpec.mk (fun («as» : List Go.SE.SV) ↦ Go.SE.preO p_valid1_s (List.map Go.SE.EV.p «as» ++ List.map Go.SE.EV.p [])) fun («as» : List Go.SE.SV) ↦ Go.SE.resO p_valid1_s (List.map Go.SE.EV.p «as» ++ List.map Go.SE.EV.p [])) [Go.SE.SV.agg [Go.SE.SV.int Go.IntKind.i64 (l.g i).x,
 Go.SE.SV.int Go.IntKind.i64 (l.g i).y]]) = L.allB l.n fun (i : Nat) ↦ L.validPt (l.g i)) (by kernel_rfl) (by
    refine ⟨⟨fun _ _ => rfl, isB_of p_valid1_B _, hp, fun _ _ => trivial⟩, ?_⟩
    rw [not_anyB]
    exact congrArg (L.allB l.n) (funext fun i => Bool.not_not (L.validPt (l.g i))))
theorem p_valid_ok : SpecOk Try.prog 31 p_valid_S := fnX Try.func31 (c := bodyOf Try.f31) (by kernel_rfl) mixed (fun args p r hs hp => by
  unfold p_valid_s at hs
  split at hs
  · cases hs; exact ⟨_, _, p_valid_vc _ hp.2, (.p (.sl hp.1) .nil), ⟨show SpecsL Try.prog _ from (SpecsL.cons s_conFP_ok s_conFP_en (SpecsL.cons p_valid1_ok p_valid1_en SpecsL.nil)), rfl, ⟨show ItersL Try.prog _ from ItersL.nil, (TrsOk.none (fun _ => rfl))⟩⟩⟩
  · cases hs)
theorem p_valid_en : Enters Try.prog 31 := fun args w => by kernel_rfl
theorem p_valid_B : ∀ args p r, p_valid_s args = some (p, r) → ∃ b, r = .bool b := by
  intro args p r h
  unfold p_valid_s at h
  split at h
  · cases h; exact ⟨_, rfl⟩
  · cases h
def p_Square_p (a : L.Pt) (b : L.Pt) : Prop := True
def p_Square_r (a : L.Pt) (b : L.Pt) : SV := .tup [.int .i64 (bif L.validPt a && L.validPt b then L.dist a b else 0), .int .i64 (bif L.validPt a && L.validPt b then 0 else 1)]
def p_Square_s : List EV → Option (Prop × SV)
  | [.p (.agg [.int .i64 a_x, .int .i64 a_y]), .p (.agg [.int .i64 b_x, .int .i64 b_y])] => some (p_Square_p (⟨a_x, a_y⟩ : L.Pt) (⟨b_x, b_y⟩ : L.Pt), p_Square_r (⟨a_x, a_y⟩ : L.Pt) (⟨b_x, b_y⟩ : L.Pt))
  | _ => none
abbrev p_Square_S : SE.Spec := (specO p_Square_s)
def p_Square_C : Cfg := { muts := [], frz := lookN [], specs := lookS [(31, p_valid_S), (38, p_square_S)], loops := lookL [], iters := lookI [], rfs := lookR [], nils := lookM [] }
theorem p_Square_vc (a : L.Pt) (b : L.Pt) (hp : p_Square_p a b) : vc Try.prog (p_Square_C) (bodyOf Try.f15) (st0 Try.f15 [.p (.agg [.int .i64 a.x, .int .i64 a.y]), .p (.agg [.int .i64 b.x, .int .i64 b.y])]) (retFn Try.prog Try.f15 (p_Square_r a b)) :=
  @Eq.mpr _ (((∀ (i : Nat), i < nat_lit 2 → Go.SE.rowsOf [Go.SE.SV.int Go.IntKind.i64 a.x, Go.SE.SV.int Go.IntKind.i64 a.y, Go.SE.SV.int Go.IntKind.i64 b.x, Go.SE.SV.int Go.IntKind.i64 b.y] (nat_lit 2) i = [Go.SE.SV.int Go.IntKind.i64 (ofPt (Go.SE.rowsOf [Go.SE.SV.int Go.IntKind.i64 a.x, Go.SE.SV.int Go.IntKind.i64 a.y, Go.SE.SV.int Go.IntKind.i64 b.x, Go.SE.SV.int Go.IntKind.i64 b.y] (nat_lit 2) i)).x,
 Go.SE.SV.int Go.IntKind.i64 (ofPt (Go.SE.rowsOf [Go.SE.SV.int Go.IntKind.i64 a.x, Go.SE.SV.int Go.IntKind.i64 a.y, Go.SE.SV.int Go.IntKind.i64 b.x, Go.SE.SV.int Go.IntKind.i64 b.y] (nat_lit 2) i)).y]) ∧ nat_lit 2 ≤ (1000000 : Nat)) ∧ ((!L.allB (nat_lit 2) fun (i : Nat) ↦ L.validPt (ofPt (Go.SE.rowsOf [Go.SE.SV.int Go.IntKind.i64 a.x, Go.SE.SV.int Go.IntKind.i64 a.y, Go.SE.SV.int Go.IntKind.i64
 b.x, Go.SE.SV.int Go.IntKind.i64 b.y] (nat_lit 2) i))) = Bool.true → ((0 : Int) = bif L.validPt a && L.validPt b then L.dist a b else (0 : Int)) ∧ (1 : Int) = bif L.validPt a && L.validPt b then (0 : Int) else (1 : Int)) ∧ ((!L.allB (nat_lit 2) fun (i : Nat) ↦ L.validPt (ofPt (Go.SE.rowsOf [Go.SE.SV.int Go.IntKind.i64 a.x, Go.SE.SV.int Go.IntKind.i64 a.y, Go.SE.SV.int Go.IntKind.i64 b.x,
 Go.SE.SV.int Go.IntKind.i64 b.y] (nat_lit 2) i))) = Bool.false → (L.bd a ∧ L.bd b) ∧ (L.dist a b = bif L.validPt a && L.validPt b then L.dist a b else (0 : Int)) ∧ (0 : Int) = bif L.validPt a && L.validPt b then (0 : Int) else (1 : Int))) (by kernel_rfl) (by
    refine ⟨⟨fun i hi => by match i, hi with | 0, _ => rfl | 1, _ => rfl, by decide⟩, fun h => ?_, fun h => ?_⟩
    · have h' : (L.validPt a && L.validPt b) = false := by simpa only [Bool.not_eq_true', Bool.not_eq_false'] using (show (!(L.validPt a && L.validPt b)) = true from h)
      rw [h']; exact ⟨rfl, rfl⟩
    · have h' : (L.validPt a && L.validPt b) = true := by simpa only [Bool.not_eq_true', Bool.not_eq_false'] using (show (!(L.validPt a && L.validPt b)) = false from h)
      obtain ⟨va, vb⟩ := Bool.and_eq_true_iff.1 h'
      rw [h']; exact ⟨⟨validPt_bd va, validPt_bd vb⟩, rfl, rfl⟩)
theorem p_Square_ok : SpecOk Try.prog 15 p_Square_S := fnX Try.func15 (c := bodyOf Try.f15) (by kernel_rfl) mixed (fun args p r hs hp => by
  unfold p_Square_s at hs
  split at hs
  · cases hs; exact ⟨_, _, p_Square_vc _ _ hp, (.same _ (.same _ .nil)), ⟨show SpecsL Try.prog _ from (SpecsL.cons p_valid_ok p_valid_en (SpecsL.cons p_square_ok p_square_en SpecsL.nil)), rfl, ⟨show ItersL Try.prog _ from ItersL.nil, (TrsOk.none (fun _ => rfl))⟩⟩⟩
  · cases hs)
theorem p_Square_en : Enters Try.prog 15 := fun args w => by kernel_rfl
def p_compare_p (a : L.Pt) (b : L.Pt) : Prop := True
def p_compare_r (a : L.Pt) (b : L.Pt) : SV := .int .i64 (L.cmpPt a b)
def p_compare_s : List EV → Option (Prop × SV)
  | [.p (.agg [.int .i64 a_x, .int .i64 a_y]), .p (.agg [.int .i64 b_x, .int .i64 b_y])] => some (p_compare_p (⟨a_x, a_y⟩ : L.Pt) (⟨b_x, b_y⟩ : L.Pt), p_compare_r (⟨a_x, a_y⟩ : L.Pt) (⟨b_x, b_y⟩ : L.Pt))
  | _ => none
abbrev p_compare_S : SE.Spec := (specO p_compare_s)
def p_compare_C : Cfg := { muts := [], frz := lookN [], specs := lookS [(33, c_cmp_S), (91, c_or_S)], loops := lookL [], iters := lookI [], rfs := lookR [], nils := lookM [] }
theorem p_compare_vc (a : L.Pt) (b : L.Pt) (hp : p_compare_p a b) : vc Try.prog (p_compare_C) (bodyOf Try.f67) (st0 Try.f67 [.p (.agg [.int .i64 a.x, .int .i64 a.y]), .p (.agg [.int .i64 b.x, .int .i64 b.y])]) (retFn Try.prog Try.f67 (p_compare_r a b)) :=
  @Eq.mpr _ (True ∧ True ∧ ((∀ (i : Nat), i < nat_lit 2 → Go.SE.rowsOf [Go.SE.SV.int Go.IntKind.i64 (L.cmp a.x b.x), Go.SE.SV.int Go.IntKind.i64 (L.cmp a.y b.y)] (nat_lit 1) i = [Go.SE.SV.int Go.IntKind.i64 (intOf (Go.SE.rowsOf [Go.SE.SV.int Go.IntKind.i64 (L.cmp a.x b.x), Go.SE.SV.int Go.IntKind.i64 (L.cmp a.y b.y)] (nat_lit 1) i))]) ∧ nat_lit 2 ≤ (1000000 : Nat)) ∧ L.firstNZ (fun (i : Nat) ↦ intOf
 (Go.SE.rowsOf [Go.SE.SV.int Go.IntKind.i64 (L.cmp a.x b.x), Go.SE.SV.int Go.IntKind.i64 (L.cmp a.y b.y)] (nat_lit 1) i)) (2 : Nat) = L.cmpPt a b) (by kernel_rfl) (by
    exact ⟨trivial, trivial, ⟨fun i hi => by match i, hi with | 0, _ => rfl | 1, _ => rfl, by decide⟩, rfl⟩)
theorem p_compare_ok : SpecOk Try.prog 67 p_compare_S := fnX Try.func67 (c := bodyOf Try.f67) (by kernel_rfl) mixed (fun args p r hs hp => by
  unfold p_compare_s at hs
  split at hs
  · cases hs; exact ⟨_, _, p_compare_vc _ _ hp, (.same _ (.same _ .nil)), ⟨show SpecsL Try.prog _ from (SpecsL.cons c_cmp_ok c_cmp_en (SpecsL.cons c_or_ok c_or_en SpecsL.nil)), rfl, ⟨show ItersL Try.prog _ from ItersL.nil, (TrsOk.none (fun _ => rfl))⟩⟩⟩
  · cases hs)
theorem p_compare_en : Enters Try.prog 67 := fun args w => by kernel_rfl
theorem p_compare_I : ∀ args p r, p_compare_s args = some (p, r) → ∃ n, r = .int .i64 n := by
  intro args p r h
  unfold p_compare_s at h
  split at h
  · cases h; exact ⟨_, rfl⟩
  · cases h
def p_on_p (a : L.Pt) (b : L.Pt) (p : L.Pt) : Prop := L.bd a ∧ L.bd b ∧ L.bd p
def p_on_r (a : L.Pt) (b : L.Pt) (p : L.Pt) : SV := .bool (L.on a b p)
def p_on_s : List EV → Option (Prop × SV)
  | [.p (.agg [.int .i64 a_x, .int .i64 a_y]), .p (.agg [.int .i64 b_x, .int .i64 b_y]), .p (.agg [.int .i64 p_x, .int .i64 p_y])] => some (p_on_p (⟨a_x, a_y⟩ : L.Pt) (⟨b_x, b_y⟩ : L.Pt) (⟨p_x, p_y⟩ : L.Pt), p_on_r (⟨a_x, a_y⟩ : L.Pt) (⟨b_x, b_y⟩ : L.Pt) (⟨p_x, p_y⟩ : L.Pt))
  | _ => none
abbrev p_on_S : SE.Spec := (specO p_on_s)
def p_on_C : Cfg := { muts := [], frz := lookN [], specs := lookS [(34, p_cross_S), (37, p_within_S)], loops := lookL [], iters := lookI [], rfs := lookR [], nils := lookM [] }
theorem p_on_vc (a : L.Pt) (b : L.Pt) (p : L.Pt) (hp : p_on_p a b p) : vc Try.prog (p_on_C) (bodyOf Try.f63) (st0 Try.f63 [.p (.agg [.int .i64 a.x, .int .i64 a.y]), .p (.agg [.int .i64 b.x, .int .i64 b.y]), .p (.agg [.int .i64 p.x, .int .i64 p.y])]) (retFn Try.prog Try.f63 (p_on_r a b p)) :=
  @Eq.mpr _ ((L.bd a ∧ L.bd b ∧ L.bd p) ∧ (Decidable.decide (L.cross a b p = (0 : Int)) = Bool.true → True) ∧ ((bif Decidable.decide (L.cross a b p = (0 : Int)) then L.within p.x (Min.min a.x b.x) (Max.max a.x b.x) else Bool.false) = Bool.true → True) ∧ (bif bif Decidable.decide (L.cross a b p = (0 : Int)) then L.within p.x (Min.min a.x b.x) (Max.max a.x b.x) else Bool.false then L.within p.y (Min.min a.y b.y)
 (Max.max a.y b.y) else Bool.false) = L.on a b p) (by kernel_rfl) (by
    refine ⟨hp, fun _ => trivial, fun _ => trivial, ?_⟩
    unfold L.on
    cases decide (L.cross a b p = 0) <;> cases L.within p.x (min a.x b.x) (max a.x b.x) <;> rfl)
theorem p_on_ok : SpecOk Try.prog 63 p_on_S := fnX Try.func63 (c := bodyOf Try.f63) (by kernel_rfl) mixed (fun args p r hs hp => by
  unfold p_on_s at hs
  split at hs
  · cases hs; exact ⟨_, _, p_on_vc _ _ _ hp, (.same _ (.same _ (.same _ .nil))), ⟨show SpecsL Try.prog _ from (SpecsL.cons p_cross_ok p_cross_en (SpecsL.cons p_within_ok p_within_en SpecsL.nil)), rfl, ⟨show ItersL Try.prog _ from ItersL.nil, (TrsOk.none (fun _ => rfl))⟩⟩⟩
  · cases hs)
theorem p_on_en : Enters Try.prog 63 := fun args w => by kernel_rfl
theorem p_on_B : ∀ args p r, p_on_s args = some (p, r) → ∃ b, r = .bool b := by
  intro args p r h
  unfold p_on_s at h
  split at h
  · cases h; exact ⟨_, rfl⟩
  · cases h
def p_meet1_p (a : L.Pt) (b : L.Pt) (c : L.Pt) (d : L.Pt) : Prop := L.bd a ∧ L.bd b ∧ L.bd c ∧ L.bd d
def p_meet1_r (a : L.Pt) (b : L.Pt) (c : L.Pt) (d : L.Pt) : SV := .bool (L.apart a b c d)
def p_meet1_s : List EV → Option (Prop × SV)
  | [.p (.agg [.int .i64 a_x, .int .i64 a_y]), .p (.agg [.int .i64 b_x, .int .i64 b_y]), .p (.agg [.int .i64 c_x, .int .i64 c_y]), .p (.agg [.int .i64 d_x, .int .i64 d_y])] => some (p_meet1_p (⟨a_x, a_y⟩ : L.Pt) (⟨b_x, b_y⟩ : L.Pt) (⟨c_x, c_y⟩ : L.Pt) (⟨d_x, d_y⟩ : L.Pt), p_meet1_r (⟨a_x, a_y⟩ : L.Pt) (⟨b_x, b_y⟩ : L.Pt) (⟨c_x, c_y⟩ : L.Pt) (⟨d_x, d_y⟩ : L.Pt))
  | _ => none
abbrev p_meet1_S : SE.Spec := (specO p_meet1_s)
def p_meet1_C : Cfg := { muts := [], frz := lookN [], specs := lookS [(34, p_cross_S), (33, c_cmp_S)], loops := lookL [], iters := lookI [], rfs := lookR [], nils := lookM [] }
theorem p_meet1_vc (a : L.Pt) (b : L.Pt) (c : L.Pt) (d : L.Pt) (hp : p_meet1_p a b c d) : vc Try.prog (p_meet1_C) (bodyOf Try.f64) (st0 Try.f64 [.p (.agg [.int .i64 a.x, .int .i64 a.y]), .p (.agg [.int .i64 b.x, .int .i64 b.y]), .p (.agg [.int .i64 c.x, .int .i64 c.y]), .p (.agg [.int .i64 d.x, .int .i64 d.y])]) (retFn Try.prog Try.f64 (p_meet1_r a b c d)) :=
  @Eq.mpr _ ((L.bd a ∧ L.bd b ∧ L.bd c) ∧ True ∧ (L.bd a ∧ L.bd b ∧ L.bd d) ∧ True ∧ Go.SE.InK Go.IntKind.i64 (L.cmp (L.cross a b c) (0 : Int) * L.cmp (L.cross a b d) (0 : Int)) ∧ Decidable.decide (L.cmp (L.cross a b c) (0 : Int) * L.cmp (L.cross a b d) (0 : Int) < (0 : Int)) = L.apart a b c d) (by kernel_rfl) (by
    obtain ⟨h1, h2, h3, h4⟩ := hp
    have c1 := cmp_bd (L.cross a b c) 0
    have c2 := cmp_bd (L.cross a b d) 0
    have m := mul_bd (m := 1) (n := 1) (by omega) c1.2 (by omega) c2.2
    exact ⟨⟨h1, h2, h3⟩, trivial, ⟨h1, h2, h4⟩, trivial, InK.of (by omega) (by omega), rfl⟩)
theorem p_meet1_ok : SpecOk Try.prog 64 p_meet1_S := fnX Try.func64 (c := bodyOf Try.f64) (by kernel_rfl) mixed (fun args p r hs hp => by
  unfold p_meet1_s at hs
  split at hs
  · cases hs; exact ⟨_, _, p_meet1_vc _ _ _ _ hp, (.same _ (.same _ (.same _ (.same _ .nil)))), ⟨show SpecsL Try.prog _ from (SpecsL.cons p_cross_ok p_cross_en (SpecsL.cons c_cmp_ok c_cmp_en SpecsL.nil)), rfl, ⟨show ItersL Try.prog _ from ItersL.nil, (TrsOk.none (fun _ => rfl))⟩⟩⟩
  · cases hs)
theorem p_meet1_en : Enters Try.prog 64 := fun args w => by kernel_rfl
theorem p_meet1_B : ∀ args p r, p_meet1_s args = some (p, r) → ∃ b, r = .bool b := by
  intro args p r h
  unfold p_meet1_s at h
  split at h
  · cases h; exact ⟨_, rfl⟩
  · cases h
end Go.Proofs.Ytkklpamllfkbaaa

namespace Go.Proofs.Ytkklpamllfkbaaa
open Go.SE Go.RowKit
set_option maxRecDepth 100000
set_option maxHeartbeats 4000000
set_option linter.unusedVariables false
attribute [local irreducible] Go.SE.vc

def L.same (p q : L.Pt) : Bool := decide (p.x = q.x) && decide (p.y = q.y)
def L.has (ks : L.Sq L.Pt) (p : L.Pt) : Bool := L.anyB ks.n (fun i => L.same p (ks.g i))
def L.put (ks : L.Sq L.Pt) (p : L.Pt) : L.Sq L.Pt := bif L.has ks p then ks else ⟨ks.n + 1, fun i => if i < ks.n then ks.g i else p⟩
def L.putIf (c : Bool) (ks : L.Sq L.Pt) (p : L.Pt) : L.Sq L.Pt := bif c then L.put ks p else ks
def L.no : L.Sq L.Pt := ⟨0, fun _ => ⟨0, 0⟩⟩
def L.pick (a b : L.Pt) (i : Nat) : L.Pt := bif decide (i = 0) then a else b
def L.k1 (a b c d : L.Pt) : Nat → L.Sq L.Pt
  | 0 => L.no
  | n + 1 => L.putIf (L.on c d (L.pick a b n)) (L.k1 a b c d n) (L.pick a b n)
def L.k2 (a b c d : L.Pt) : Nat → L.Sq L.Pt
  | 0 => L.k1 a b c d 2
  | n + 1 => L.putIf (L.on a b (L.pick c d n)) (L.k2 a b c d n) (L.pick c d n)
def L.meet (a b c d : L.Pt) : Int := bif decide (1 < ((L.k2 a b c d 2).n : Int)) then 3 else bif decide (((L.k2 a b c d 2).n : Int) = 1) then 1 else bif (bif L.apart a b c d then L.apart c d a b else false) then 2 else 0
def L.cell (ks : L.Sq L.Pt) : Nat → List SV := fun i => [.int .i64 (ks.g i).x, .int .i64 (ks.g i).y]
theorem pick_bd {a b : L.Pt} (ha : L.bd a) (hb : L.bd b) (i : Nat) : L.bd (L.pick a b i) := by
  unfold L.pick; cases decide (i = 0) <;> assumption
theorem put_has {ks : L.Sq L.Pt} {p : L.Pt} (h : ∃ i, i < ks.n ∧ (decide (p.x = (ks.g i).x) && decide (p.y = (ks.g i).y)) = true) : L.put ks p = ks := by
  have : L.has ks p = true := anyB_iff.2 h
  simp [L.put, this]
theorem put_new {ks : L.Sq L.Pt} {p : L.Pt} (h : ∀ i, i < ks.n → (decide (p.x = (ks.g i).x) && decide (p.y = (ks.g i).y)) = false) :
    ks.n + 1 = (L.put ks p).n ∧ ∀ i, i < ks.n + 1 → appGet ks.n (L.cell ks) (fun _ => [.int .i64 p.x, .int .i64 p.y]) i = L.cell (L.put ks p) i := by
  have hn : L.has ks p = false := by
    cases hb : L.has ks p with
    | false => rfl
    | true =>
      obtain ⟨i, hi, hq⟩ := anyB_iff.1 hb
      rw [show L.same p (ks.g i) = false from h i hi] at hq
      cases hq
  simp only [L.put, hn, cond_false, true_and]
  intro i hi
  unfold appGet L.cell
  by_cases hlt : i < ks.n <;> simp [hlt]
theorem putIf_step {ks : L.Sq L.Pt} {p : L.Pt} : (L.putIf false ks p = ks) ∧ L.putIf true ks p = L.put ks p := ⟨rfl, rfl⟩
def p_meet_p (a : L.Pt) (b : L.Pt) (c : L.Pt) (d : L.Pt) : Prop := L.bd a ∧ L.bd b ∧ L.bd c ∧ L.bd d
def p_meet_r (a : L.Pt) (b : L.Pt) (c : L.Pt) (d : L.Pt) : SV := .int .i64 (L.meet a b c d)
def p_meet_s : List EV → Option (Prop × SV)
  | [.p (.agg [.int .i64 a_x, .int .i64 a_y]), .p (.agg [.int .i64 b_x, .int .i64 b_y]), .p (.agg [.int .i64 c_x, .int .i64 c_y]), .p (.agg [.int .i64 d_x, .int .i64 d_y])] => some (p_meet_p (⟨a_x, a_y⟩ : L.Pt) (⟨b_x, b_y⟩ : L.Pt) (⟨c_x, c_y⟩ : L.Pt) (⟨d_x, d_y⟩ : L.Pt), p_meet_r (⟨a_x, a_y⟩ : L.Pt) (⟨b_x, b_y⟩ : L.Pt) (⟨c_x, c_y⟩ : L.Pt) (⟨d_x, d_y⟩ : L.Pt))
  | _ => none
abbrev p_meet_S : SE.Spec := (specO p_meet_s)
def p_meet_C : Cfg := { muts := [], frz := lookN [], specs := lookS [(63, p_on_S), (64, p_meet1_S)], loops := fun _ => none, iters := lookI [], rfs := lookR [], nils := lookM [] }
theorem p_meet_vc (a : L.Pt) (b : L.Pt) (c : L.Pt) (d : L.Pt) (hp : p_meet_p a b c d) : vc Try.prog ({ p_meet_C with loops := lookL [(3, { T := Nat, keep := [4, 5, 6, 7, 8, 9, 20], keepO := [], chg := fun i => [(21, .p (.int .i64 (i : Int))), (19, .p (.sl 2 2 (fun i => [.int .i64 ((L.pick a b i).x), .int .i64 ((L.pick a b i).y)])))], own := fun i => [(16, .mp 23 (L.k1 a b c d i).n (L.cell (L.k1 a b c d i)))], inv := fun i => i ≤ 2, mu := fun i => 2 - i }), (9, { T := Nat, keep := [4, 5, 6, 7, 8, 9, 35], keepO := [], chg := fun i => [(36, .p (.int .i64 (i : Int))), (34, .p (.sl 2 2 (fun i => [.int .i64 ((L.pick c d i).x), .int .i64 ((L.pick c d i).y)])))], own := fun i => [(16, .mp 23 (L.k2 a b c d i).n (L.cell (L.k2 a b c d i)))], inv := fun i => i ≤ 2, mu := fun i => 2 - i })], rfs := lookR [] }) (bodyOf Try.f32) (st0 Try.f32 [.p (.agg [.int .i64 a.x, .int .i64 a.y]), .p (.agg [.int .i64 b.x, .int .i64 b.y]), .p (.agg [.int .i64 c.x, .int .i64 c.y]), .p (.agg [.int .i64 d.x, .int .i64 d.y])]) (retFn Try.prog Try.f32 (p_meet_r a b c d)) :=
  @Eq.mpr _ ((∃ (g : Nat), (0 : Int) = (↑g : Int) ∧ (nat_lit 2 = (2 : Nat) ∧ ∀ (i : Nat), i < nat_lit 2 → Go.SE.rowsOf [Go.SE.SV.int Go.IntKind.i64 a.x, Go.SE.SV.int Go.IntKind.i64 a.y, Go.SE.SV.int Go.IntKind.i64 b.x, Go.SE.SV.int Go.IntKind.i64 b.y] (nat_lit 2) i = [Go.SE.SV.int Go.IntKind.i64 (L.pick a b i).x, Go.SE.SV.int Go.IntKind.i64 (L.pick a b i).y]) ∧ (nat_lit 0 = (L.k1 a b c d g).n ∧ ∀ (i : Nat), i
 < nat_lit 0 → [] = L.cell (L.k1 a b c d g) i) ∧ g ≤ (2 : Nat)) ∧ ∀ (g : Nat), g ≤ (2 : Nat) → (Decidable.decide ((↑g : Int) < (↑(nat_lit 2) : Int)) = Bool.true → ((0 : Int) ≤ (↑g : Int) ∧ (↑g : Int) < (↑(nat_lit 2) : Int)) ∧ (L.bd c ∧ L.bd d ∧ L.bd (L.pick a b (Int.toNat (↑g : Int)))) ∧ (L.on c d (L.pick a b (Int.toNat (↑g : Int))) = Bool.true → (∀ (i : Nat), i < (L.k1 a b c d g).n →
 (Decidable.decide ((L.pick a b (Int.toNat (↑g : Int))).x = ((L.k1 a b c d g).g i).x) && Decidable.decide ((L.pick a b (Int.toNat (↑g : Int))).y = ((L.k1 a b c d g).g i).y)) = (Decidable.decide ((L.pick a b (Int.toNat (↑g : Int))).x = ((L.k1 a b c d g).g i).x) && Decidable.decide ((L.pick a b (Int.toNat (↑g : Int))).y = ((L.k1 a b c d g).g i).y))) ∧ ((∃ (i : Nat), i < (L.k1 a b c d g).n ∧
 (Decidable.decide ((L.pick a b (Int.toNat (↑g : Int))).x = ((L.k1 a b c d g).g i).x) && Decidable.decide ((L.pick a b (Int.toNat (↑g : Int))).y = ((L.k1 a b c d g).g i).y)) = Bool.true) → Go.SE.InK Go.IntKind.i64 ((↑g : Int) + (1 : Int)) ∧ ∃ (g' : Nat), (↑g : Int) + (1 : Int) = (↑g' : Int) ∧ (nat_lit 2 = (2 : Nat) ∧ ∀ (i : Nat), i < nat_lit 2 → [Go.SE.SV.int Go.IntKind.i64 (L.pick a b i).x,
 Go.SE.SV.int Go.IntKind.i64 (L.pick a b i).y] = [Go.SE.SV.int Go.IntKind.i64 (L.pick a b i).x, Go.SE.SV.int Go.IntKind.i64 (L.pick a b i).y]) ∧ (↑(nat_lit 2) : Int) = (↑(nat_lit 2) : Int) ∧ (0 : Int) = (0 : Int) ∧ Go.SE.SV.ref [Go.SE.SV.int Go.IntKind.i64 d.x, Go.SE.SV.int Go.IntKind.i64 d.y] (nat_lit 0) = Go.SE.SV.ref [Go.SE.SV.int Go.IntKind.i64 d.x, Go.SE.SV.int Go.IntKind.i64 d.y] (nat_lit 0)
 ∧ Go.SE.SV.ref [Go.SE.SV.int Go.IntKind.i64 c.x, Go.SE.SV.int Go.IntKind.i64 c.y] (nat_lit 0) = Go.SE.SV.ref [Go.SE.SV.int Go.IntKind.i64 c.x, Go.SE.SV.int Go.IntKind.i64 c.y] (nat_lit 0) ∧ Go.SE.SV.ref [Go.SE.SV.int Go.IntKind.i64 b.x, Go.SE.SV.int Go.IntKind.i64 b.y] (nat_lit 0) = Go.SE.SV.ref [Go.SE.SV.int Go.IntKind.i64 b.x, Go.SE.SV.int Go.IntKind.i64 b.y] (nat_lit 0) ∧ Go.SE.SV.ref
 [Go.SE.SV.int Go.IntKind.i64 a.x, Go.SE.SV.int Go.IntKind.i64 a.y] (nat_lit 0) = Go.SE.SV.ref [Go.SE.SV.int Go.IntKind.i64 a.x, Go.SE.SV.int Go.IntKind.i64 a.y] (nat_lit 0) ∧ ((L.k1 a b c d g).n = (L.k1 a b c d g').n ∧ ∀ (i : Nat), i < (L.k1 a b c d g).n → L.cell (L.k1 a b c d g) i = L.cell (L.k1 a b c d g') i) ∧ g' ≤ (2 : Nat) ∧ (2 : Nat) - g' < (2 : Nat) - g) ∧ ((∀ (i : Nat), i < (L.k1 a b c d
 g).n → (Decidable.decide ((L.pick a b (Int.toNat (↑g : Int))).x = ((L.k1 a b c d g).g i).x) && Decidable.decide ((L.pick a b (Int.toNat (↑g : Int))).y = ((L.k1 a b c d g).g i).y)) = Bool.false) → Go.SE.InK Go.IntKind.i64 ((↑g : Int) + (1 : Int)) ∧ ∃ (g' : Nat), (↑g : Int) + (1 : Int) = (↑g' : Int) ∧ (nat_lit 2 = (2 : Nat) ∧ ∀ (i : Nat), i < nat_lit 2 → [Go.SE.SV.int Go.IntKind.i64 (L.pick a b
 i).x, Go.SE.SV.int Go.IntKind.i64 (L.pick a b i).y] = [Go.SE.SV.int Go.IntKind.i64 (L.pick a b i).x, Go.SE.SV.int Go.IntKind.i64 (L.pick a b i).y]) ∧ (↑(nat_lit 2) : Int) = (↑(nat_lit 2) : Int) ∧ (0 : Int) = (0 : Int) ∧ Go.SE.SV.ref [Go.SE.SV.int Go.IntKind.i64 d.x, Go.SE.SV.int Go.IntKind.i64 d.y] (nat_lit 0) = Go.SE.SV.ref [Go.SE.SV.int Go.IntKind.i64 d.x, Go.SE.SV.int Go.IntKind.i64 d.y]
 (nat_lit 0) ∧ Go.SE.SV.ref [Go.SE.SV.int Go.IntKind.i64 c.x, Go.SE.SV.int Go.IntKind.i64 c.y] (nat_lit 0) = Go.SE.SV.ref [Go.SE.SV.int Go.IntKind.i64 c.x, Go.SE.SV.int Go.IntKind.i64 c.y] (nat_lit 0) ∧ Go.SE.SV.ref [Go.SE.SV.int Go.IntKind.i64 b.x, Go.SE.SV.int Go.IntKind.i64 b.y] (nat_lit 0) = Go.SE.SV.ref [Go.SE.SV.int Go.IntKind.i64 b.x, Go.SE.SV.int Go.IntKind.i64 b.y] (nat_lit 0) ∧
 Go.SE.SV.ref [Go.SE.SV.int Go.IntKind.i64 a.x, Go.SE.SV.int Go.IntKind.i64 a.y] (nat_lit 0) = Go.SE.SV.ref [Go.SE.SV.int Go.IntKind.i64 a.x, Go.SE.SV.int Go.IntKind.i64 a.y] (nat_lit 0) ∧ ((L.k1 a b c d g).n + (1 : Nat) = (L.k1 a b c d g').n ∧ ∀ (i : Nat), i < (L.k1 a b c d g).n + (1 : Nat) → Go.SE.appGet (L.k1 a b c d g).n (L.cell (L.k1 a b c d g)) (fun (x : Nat) ↦ [Go.SE.SV.int Go.IntKind.i64
 (L.pick a b (Int.toNat (↑g : Int))).x, Go.SE.SV.int Go.IntKind.i64 (L.pick a b (Int.toNat (↑g : Int))).y]) i = L.cell (L.k1 a b c d g') i) ∧ g' ≤ (2 : Nat) ∧ (2 : Nat) - g' < (2 : Nat) - g)) ∧ (L.on c d (L.pick a b (Int.toNat (↑g : Int))) = Bool.false → Go.SE.InK Go.IntKind.i64 ((↑g : Int) + (1 : Int)) ∧ ∃ (g' : Nat), (↑g : Int) + (1 : Int) = (↑g' : Int) ∧ (nat_lit 2 = (2 : Nat) ∧ ∀ (i : Nat), i <
 nat_lit 2 → [Go.SE.SV.int Go.IntKind.i64 (L.pick a b i).x, Go.SE.SV.int Go.IntKind.i64 (L.pick a b i).y] = [Go.SE.SV.int Go.IntKind.i64 (L.pick a b i).x, Go.SE.SV.int Go.IntKind.i64 (L.pick a b i).y]) ∧ (↑(nat_lit 2) : Int) = (↑(nat_lit 2) : Int) ∧ (0 : Int) = (0 : Int) ∧ Go.SE.SV.ref [Go.SE.SV.int Go.IntKind.i64 d.x, Go.SE.SV.int Go.IntKind.i64 d.y] (nat_lit 0) = Go.SE.SV.ref [Go.SE.SV.int
 Go.IntKind.i64 d.x, Go.SE.SV.int Go.IntKind.i64 d.y] (nat_lit 0) ∧ Go.SE.SV.ref [Go.SE.SV.int Go.IntKind.i64 c.x, Go.SE.SV.int Go.IntKind.i64 c.y] (nat_lit 0) = Go.SE.SV.ref [Go.SE.SV.int Go.IntKind.i64 c.x, Go.SE.SV.int Go.IntKind.i64 c.y] (nat_lit 0) ∧ Go.SE.SV.ref [Go.SE.SV.int Go.IntKind.i64 b.x, Go.SE.SV.int Go.IntKind.i64 b.y] (nat_lit 0) = Go.SE.SV.ref [Go.SE.SV.int Go.IntKind.i64 b.x,
 Go.SE.SV.int Go.IntKind.i64 b.y] (nat_lit 0) ∧ Go.SE.SV.ref [Go.SE.SV.int Go.IntKind.i64 a.x, Go.SE.SV.int Go.IntKind.i64 a.y] (nat_lit 0) = Go.SE.SV.ref [Go.SE.SV.int Go.IntKind.i64 a.x, Go.SE.SV.int Go.IntKind.i64 a.y] (nat_lit 0) ∧ ((L.k1 a b c d g).n = (L.k1 a b c d g').n ∧ ∀ (i : Nat), i < (L.k1 a b c d g).n → L.cell (L.k1 a b c d g) i = L.cell (L.k1 a b c d g') i) ∧ g' ≤ (2 : Nat) ∧ (2 :
 Nat) - g' < (2 : Nat) - g)) ∧ (Decidable.decide ((↑g : Int) < (↑(nat_lit 2) : Int)) = Bool.false → (∃ (g_1 : Nat), (0 : Int) = (↑g_1 : Int) ∧ (nat_lit 2 = (2 : Nat) ∧ ∀ (i : Nat), i < nat_lit 2 → Go.SE.rowsOf [Go.SE.SV.int Go.IntKind.i64 c.x, Go.SE.SV.int Go.IntKind.i64 c.y, Go.SE.SV.int Go.IntKind.i64 d.x, Go.SE.SV.int Go.IntKind.i64 d.y] (nat_lit 2) i = [Go.SE.SV.int Go.IntKind.i64 (L.pick c d
 i).x, Go.SE.SV.int Go.IntKind.i64 (L.pick c d i).y]) ∧ ((L.k1 a b c d g).n = (L.k2 a b c d g_1).n ∧ ∀ (i : Nat), i < (L.k1 a b c d g).n → L.cell (L.k1 a b c d g) i = L.cell (L.k2 a b c d g_1) i) ∧ g_1 ≤ (2 : Nat)) ∧ ∀ (g_1 : Nat), g_1 ≤ (2 : Nat) → (Decidable.decide ((↑g_1 : Int) < (↑(nat_lit 2) : Int)) = Bool.true → ((0 : Int) ≤ (↑g_1 : Int) ∧ (↑g_1 : Int) < (↑(nat_lit 2) : Int)) ∧ (L.bd a ∧ L.bd
 b ∧ L.bd (L.pick c d (Int.toNat (↑g_1 : Int)))) ∧ (L.on a b (L.pick c d (Int.toNat (↑g_1 : Int))) = Bool.true → (∀ (i : Nat), i < (L.k2 a b c d g_1).n → (Decidable.decide ((L.pick c d (Int.toNat (↑g_1 : Int))).x = ((L.k2 a b c d g_1).g i).x) && Decidable.decide ((L.pick c d (Int.toNat (↑g_1 : Int))).y = ((L.k2 a b c d g_1).g i).y)) = (Decidable.decide ((L.pick c d (Int.toNat (↑g_1 : Int))).x =
 ((L.k2 a b c d g_1).g i).x) && Decidable.decide ((L.pick c d (Int.toNat (↑g_1 : Int))).y = ((L.k2 a b c d g_1).g i).y))) ∧ ((∃ (i : Nat), i < (L.k2 a b c d g_1).n ∧ (Decidable.decide ((L.pick c d (Int.toNat (↑g_1 : Int))).x = ((L.k2 a b c d g_1).g i).x) && Decidable.decide ((L.pick c d (Int.toNat (↑g_1 : Int))).y = ((L.k2 a b c d g_1).g i).y)) = Bool.true) → Go.SE.InK Go.IntKind.i64 ((↑g_1 : Int)
 + (1 : Int)) ∧ ∃ (g' : Nat), (↑g_1 : Int) + (1 : Int) = (↑g' : Int) ∧ (nat_lit 2 = (2 : Nat) ∧ ∀ (i : Nat), i < nat_lit 2 → [Go.SE.SV.int Go.IntKind.i64 (L.pick c d i).x, Go.SE.SV.int Go.IntKind.i64 (L.pick c d i).y] = [Go.SE.SV.int Go.IntKind.i64 (L.pick c d i).x, Go.SE.SV.int Go.IntKind.i64 (L.pick c d i).y]) ∧ (↑(nat_lit 2) : Int) = (↑(nat_lit 2) : Int) ∧ (0 : Int) = (0 : Int) ∧ Go.SE.SV.ref
 [Go.SE.SV.int Go.IntKind.i64 d.x, Go.SE.SV.int Go.IntKind.i64 d.y] (nat_lit 0) = Go.SE.SV.ref [Go.SE.SV.int Go.IntKind.i64 d.x, Go.SE.SV.int Go.IntKind.i64 d.y] (nat_lit 0) ∧ Go.SE.SV.ref [Go.SE.SV.int Go.IntKind.i64 c.x, Go.SE.SV.int Go.IntKind.i64 c.y] (nat_lit 0) = Go.SE.SV.ref [Go.SE.SV.int Go.IntKind.i64 c.x, Go.SE.SV.int Go.IntKind.i64 c.y] (nat_lit 0) ∧ Go.SE.SV.ref [Go.SE.SV.int
 Go.IntKind.i64 b.x, Go.SE.SV.int Go.IntKind.i64 b.y] (nat_lit 0) = Go.SE.SV.ref [Go.SE.SV.int Go.IntKind.i64 b.x, Go.SE.SV.int Go.IntKind.i64 b.y] (nat_lit 0) ∧ Go.SE.SV.ref [Go.SE.SV.int Go.IntKind.i64 a.x, Go.SE.SV.int Go.IntKind.i64 a.y] (nat_lit 0) = Go.SE.SV.ref [Go.SE.SV.int Go.IntKind.i64 a.x, Go.SE.SV.int Go.IntKind.i64 a.y] (nat_lit 0) ∧ ((L.k2 a b c d g_1).n = (L.k2 a b c d g').n ∧ ∀ (i
 : Nat), i < (L.k2 a b c d g_1).n → L.cell (L.k2 a b c d g_1) i = L.cell (L.k2 a b c d g') i) ∧ g' ≤ (2 : Nat) ∧ (2 : Nat) - g' < (2 : Nat) - g_1) ∧ ((∀ (i : Nat), i < (L.k2 a b c d g_1).n → (Decidable.decide ((L.pick c d (Int.toNat (↑g_1 : Int))).x = ((L.k2 a b c d g_1).g i).x) && Decidable.decide ((L.pick c d (Int.toNat (↑g_1 : Int))).y = ((L.k2 a b c d g_1).g i).y)) = Bool.false) → Go.SE.InK
 Go.IntKind.i64 ((↑g_1 : Int) + (1 : Int)) ∧ ∃ (g' : Nat), (↑g_1 : Int) + (1 : Int) = (↑g' : Int) ∧ (nat_lit 2 = (2 : Nat) ∧ ∀ (i : Nat), i < nat_lit 2 → [Go.SE.SV.int Go.IntKind.i64 (L.pick c d i).x, Go.SE.SV.int Go.IntKind.i64 (L.pick c d i).y] = [Go.SE.SV.int Go.IntKind.i64 (L.pick c d i).x, Go.SE.SV.int Go.IntKind.i64 (L.pick c d i).y]) ∧ (↑(nat_lit 2) : Int) = (↑(nat_lit 2) : Int) ∧ (0 : Int)
 = (0 : Int) ∧ Go.SE.SV.ref [Go.SE.SV.int Go.IntKind.i64 d.x, Go.SE.SV.int Go.IntKind.i64 d.y] (nat_lit 0) = Go.SE.SV.ref [Go.SE.SV.int Go.IntKind.i64 d.x, Go.SE.SV.int Go.IntKind.i64 d.y] (nat_lit 0) ∧ Go.SE.SV.ref [Go.SE.SV.int Go.IntKind.i64 c.x, Go.SE.SV.int Go.IntKind.i64 c.y] (nat_lit 0) = Go.SE.SV.ref [Go.SE.SV.int Go.IntKind.i64 c.x, Go.SE.SV.int Go.IntKind.i64 c.y] (nat_lit 0) ∧
 Go.SE.SV.ref [Go.SE.SV.int Go.IntKind.i64 b.x, Go.SE.SV.int Go.IntKind.i64 b.y] (nat_lit 0) = Go.SE.SV.ref [Go.SE.SV.int Go.IntKind.i64 b.x, Go.SE.SV.int Go.IntKind.i64 b.y] (nat_lit 0) ∧ Go.SE.SV.ref [Go.SE.SV.int Go.IntKind.i64 a.x, Go.SE.SV.int Go.IntKind.i64 a.y] (nat_lit 0) = Go.SE.SV.ref [Go.SE.SV.int Go.IntKind.i64 a.x, Go.SE.SV.int Go.IntKind.i64 a.y] (nat_lit 0) ∧ ((L.k2 a b c d g_1).n +
 (1 : Nat) = (L.k2 a b c d g').n ∧ ∀ (i : Nat), i < (L.k2 a b c d g_1).n + (1 : Nat) → Go.SE.appGet (L.k2 a b c d g_1).n (L.cell (L.k2 a b c d g_1)) (fun (x : Nat) ↦ [Go.SE.SV.int Go.IntKind.i64 (L.pick c d (Int.toNat (↑g_1 : Int))).x, Go.SE.SV.int Go.IntKind.i64 (L.pick c d (Int.toNat (↑g_1 : Int))).y]) i = L.cell (L.k2 a b c d g') i) ∧ g' ≤ (2 : Nat) ∧ (2 : Nat) - g' < (2 : Nat) - g_1)) ∧ (L.on a
 b (L.pick c d (Int.toNat (↑g_1 : Int))) = Bool.false → Go.SE.InK Go.IntKind.i64 ((↑g_1 : Int) + (1 : Int)) ∧ ∃ (g' : Nat), (↑g_1 : Int) + (1 : Int) = (↑g' : Int) ∧ (nat_lit 2 = (2 : Nat) ∧ ∀ (i : Nat), i < nat_lit 2 → [Go.SE.SV.int Go.IntKind.i64 (L.pick c d i).x, Go.SE.SV.int Go.IntKind.i64 (L.pick c d i).y] = [Go.SE.SV.int Go.IntKind.i64 (L.pick c d i).x, Go.SE.SV.int Go.IntKind.i64 (L.pick c d
 i).y]) ∧ (↑(nat_lit 2) : Int) = (↑(nat_lit 2) : Int) ∧ (0 : Int) = (0 : Int) ∧ Go.SE.SV.ref [Go.SE.SV.int Go.IntKind.i64 d.x, Go.SE.SV.int Go.IntKind.i64 d.y] (nat_lit 0) = Go.SE.SV.ref [Go.SE.SV.int Go.IntKind.i64 d.x, Go.SE.SV.int Go.IntKind.i64 d.y] (nat_lit 0) ∧ Go.SE.SV.ref [Go.SE.SV.int Go.IntKind.i64 c.x, Go.SE.SV.int Go.IntKind.i64 c.y] (nat_lit 0) = Go.SE.SV.ref [Go.SE.SV.int
 Go.IntKind.i64 c.x, Go.SE.SV.int Go.IntKind.i64 c.y] (nat_lit 0) ∧ Go.SE.SV.ref [Go.SE.SV.int Go.IntKind.i64 b.x, Go.SE.SV.int Go.IntKind.i64 b.y] (nat_lit 0) = Go.SE.SV.ref [Go.SE.SV.int Go.IntKind.i64 b.x, Go.SE.SV.int Go.IntKind.i64 b.y] (nat_lit 0) ∧ Go.SE.SV.ref [Go.SE.SV.int Go.IntKind.i64 a.x, Go.SE.SV.int Go.IntKind.i64 a.y] (nat_lit 0) = Go.SE.SV.ref [Go.SE.SV.int Go.IntKind.i64 a.x,
 Go.SE.SV.int Go.IntKind.i64 a.y] (nat_lit 0) ∧ ((L.k2 a b c d g_1).n = (L.k2 a b c d g').n ∧ ∀ (i : Nat), i < (L.k2 a b c d g_1).n → L.cell (L.k2 a b c d g_1) i = L.cell (L.k2 a b c d g') i) ∧ g' ≤ (2 : Nat) ∧ (2 : Nat) - g' < (2 : Nat) - g_1)) ∧ (Decidable.decide ((↑g_1 : Int) < (↑(nat_lit 2) : Int)) = Bool.false → (Decidable.decide ((1 : Int) < (↑(L.k2 a b c d g_1).n : Int)) = Bool.true → (3 :
 Int) = L.meet a b c d) ∧ (Decidable.decide ((1 : Int) < (↑(L.k2 a b c d g_1).n : Int)) = Bool.false → (Decidable.decide ((↑(L.k2 a b c d g_1).n : Int) = (1 : Int)) = Bool.true → (1 : Int) = L.meet a b c d) ∧ (Decidable.decide ((↑(L.k2 a b c d g_1).n : Int) = (1 : Int)) = Bool.false → (L.bd a ∧ L.bd b ∧ L.bd c ∧ L.bd d) ∧ (L.apart a b c d = Bool.true → L.bd c ∧ L.bd d ∧ L.bd a ∧ L.bd b) ∧ ((bif
 L.apart a b c d then L.apart c d a b else Bool.false) = Bool.true → (2 : Int) = L.meet a b c d) ∧ ((bif L.apart a b c d then L.apart c d a b else Bool.false) = Bool.false → (0 : Int) = L.meet a b c d)))))) (by kernel_rfl) (by
    obtain ⟨ha, hb, hc, hd⟩ := hp
    refine ⟨⟨(0 : Nat), rfl, ⟨rfl, fun i hi => by match i, hi with | 0, _ => rfl | 1, _ => rfl⟩, ⟨rfl, fun i hi => absurd hi (Nat.not_lt_zero _)⟩, by decide⟩, fun g hg => ⟨fun hlt => ?_, fun hge => ?_⟩⟩
    · have hb1 : (g : Int) < 2 := by simpa using hlt
      have e0 : ((g : Int)).toNat = g := by omega
      rw [e0]
      refine ⟨⟨by omega, hb1⟩, ⟨hc, hd, pick_bd ha hb g⟩, fun hon => ⟨fun _ _ => rfl, fun hex => ⟨InK.of (by omega) (by omega), g + 1, by omega, ⟨rfl, fun _ _ => rfl⟩, rfl, rfl, rfl, rfl, rfl, rfl, ?_, by omega, by omega⟩, fun hnx => ⟨InK.of (by omega) (by omega), g + 1, by omega, ⟨rfl, fun _ _ => rfl⟩, rfl, rfl, rfl, rfl, rfl, rfl, ?_, by omega, by omega⟩⟩, fun hon => ⟨InK.of (by omega) (by omega), g + 1, by omega, ⟨rfl, fun _ _ => rfl⟩, rfl, rfl, rfl, rfl, rfl, rfl, ?_, by omega, by omega⟩⟩
      · rw [show L.k1 a b c d (g + 1) = L.k1 a b c d g by rw [L.k1, hon, putIf_step.2, put_has hex]]; exact ⟨rfl, fun _ _ => rfl⟩
      · rw [L.k1, hon, putIf_step.2]; exact put_new hnx
      · rw [show L.k1 a b c d (g + 1) = L.k1 a b c d g by rw [L.k1, hon, putIf_step.1]]; exact ⟨rfl, fun _ _ => rfl⟩
    · have hb1 : ¬ (g : Int) < 2 := by simpa using hge
      obtain rfl : g = 2 := by omega
      refine ⟨⟨(0 : Nat), rfl, ⟨rfl, fun i hi => by match i, hi with | 0, _ => rfl | 1, _ => rfl⟩, ⟨rfl, fun i hi => rfl⟩, by decide⟩, fun g hg => ⟨fun hlt => ?_, fun hge => ?_⟩⟩
      · have hb1 : (g : Int) < 2 := by simpa using hlt
        have e0 : ((g : Int)).toNat = g := by omega
        rw [e0]
        refine ⟨⟨by omega, hb1⟩, ⟨ha, hb, pick_bd hc hd g⟩, fun hon => ⟨fun _ _ => rfl, fun hex => ⟨InK.of (by omega) (by omega), g + 1, by omega, ⟨rfl, fun _ _ => rfl⟩, rfl, rfl, rfl, rfl, rfl, rfl, ?_, by omega, by omega⟩, fun hnx => ⟨InK.of (by omega) (by omega), g + 1, by omega, ⟨rfl, fun _ _ => rfl⟩, rfl, rfl, rfl, rfl, rfl, rfl, ?_, by omega, by omega⟩⟩, fun hon => ⟨InK.of (by omega) (by omega), g + 1, by omega, ⟨rfl, fun _ _ => rfl⟩, rfl, rfl, rfl, rfl, rfl, rfl, ?_, by omega, by omega⟩⟩
        · rw [show L.k2 a b c d (g + 1) = L.k2 a b c d g by rw [L.k2, hon, putIf_step.2, put_has hex]]; exact ⟨rfl, fun _ _ => rfl⟩
        · rw [L.k2, hon, putIf_step.2]; exact put_new hnx
        · rw [show L.k2 a b c d (g + 1) = L.k2 a b c d g by rw [L.k2, hon, putIf_step.1]]; exact ⟨rfl, fun _ _ => rfl⟩
      · have hb1 : ¬ (g : Int) < 2 := by simpa using hge
        obtain rfl : g = 2 := by omega
        unfold L.meet
        refine ⟨fun h => by rw [h]; rfl, fun h => ⟨fun h' => by rw [h, h']; rfl, fun h' => ⟨⟨ha, hb, hc, hd⟩, fun _ => ⟨hc, hd, ha, hb⟩, fun q => by rw [h, h', q]; rfl, fun q => by rw [h, h', q]; rfl⟩⟩⟩)
theorem p_meet_ok : SpecOk Try.prog 32 p_meet_S := fnX Try.func32 (c := bodyOf Try.f32) (by kernel_rfl) mixed (fun args p r hs hp => by
  unfold p_meet_s at hs
  split at hs
  · cases hs; exact ⟨_, _, p_meet_vc _ _ _ _ hp, (.same _ (.same _ (.same _ (.same _ .nil)))), ⟨show SpecsL Try.prog _ from (SpecsL.cons p_on_ok p_on_en (SpecsL.cons p_meet1_ok p_meet1_en SpecsL.nil)), rfl, ⟨show ItersL Try.prog _ from ItersL.nil, (TrsOk.none (fun _ => rfl))⟩⟩⟩
  · cases hs)
theorem p_meet_en : Enters Try.prog 32 := fun args w => by kernel_rfl
theorem p_meet_I : ∀ args p r, p_meet_s args = some (p, r) → ∃ n, r = .int .i64 n := by
  intro args p r h
  unfold p_meet_s at h
  split at h
  · cases h; exact ⟨_, rfl⟩
  · cases h
end Go.Proofs.Ytkklpamllfkbaaa

namespace Go.Proofs.Ytkklpamllfkbaaa
open Go.SE Go.RowKit
set_option maxRecDepth 100000
set_option maxHeartbeats 4000000
set_option linter.unusedVariables false
attribute [local irreducible] Go.SE.vc

def L.nxt (l : L.Sq L.Pt) (i k : Nat) : Bool := bif decide ((k : Int) = (i : Int) + 1) then true else bif decide ((i : Int) = 0) then decide ((k : Int) = (l.n : Int) - 1) else false
def L.how (l : L.Sq L.Pt) (i k : Nat) : Int := L.meet (l.g i) (l.g (i + 1)) (l.g k) (l.g (L.next l.n k))
def L.okPair (l : L.Sq L.Pt) (i k : Nat) : Bool := bif L.nxt l i k then decide (L.how l i k = 1) else decide (L.how l i k = 0)
def L.simple (l : L.Sq L.Pt) : Bool := L.allB l.n (fun i => L.allB l.n (fun k => !decide (i < k) || L.okPair l i k))
def L.allBd (l : L.Sq L.Pt) : Prop := l.n ≤ 1000 ∧ ∀ i, i < l.n → L.bd (l.g i)
def p_simple_p (l : (L.Sq L.Pt)) : Prop := L.allBd l
def p_simple_r (l : (L.Sq L.Pt)) : SV := .bool (L.simple l)
def p_simple_s : List EV → Option (Prop × SV)
  | [.p (.sl 2 l_n l_g)] => some ((∀ i, i < l_n → l_g i = [.int .i64 ((ofPt (l_g i)).x), .int .i64 ((ofPt (l_g i)).y)]) ∧ p_simple_p (⟨l_n, fun i => ofPt (l_g i)⟩ : (L.Sq L.Pt)), p_simple_r (⟨l_n, fun i => ofPt (l_g i)⟩ : (L.Sq L.Pt)))
  | _ => none
abbrev p_simple_S : SE.Spec := (specO p_simple_s)
def p_simple_C : Cfg := { muts := [], frz := lookN [], specs := lookS [(32, p_meet_S)], loops := fun _ => none, iters := lookI [], rfs := lookR [], nils := lookM [] }
theorem p_simple_vc (l : (L.Sq L.Pt)) (hp : p_simple_p l) : vc Try.prog ({ p_simple_C with loops := lookL [(3, { T := Nat, keep := [0, 3, 11], keepO := [], chg := fun i => [(12, .p (.int .i64 (i : Int)))], own := fun _ => [], inv := fun i => i ≤ l.n ∧ ∀ j, j < i → ∀ k, j < k → k < l.n → L.okPair l j k = true, mu := fun i => l.n - i }), (6, { T := Nat × Nat, keep := [0, 3, 4, 11, 12], keepO := [], tie := fun i => [(4, .int .i64 (i.1 : Int)), (12, .int .i64 (i.1 : Int))], chg := fun i => [(5, .p (.int .i64 (i.2 : Int)))], own := fun _ => [], inv := fun i => i.1 < i.2 ∧ i.2 ≤ l.n ∧ (∀ j, j < i.1 → ∀ k, j < k → k < l.n → L.okPair l j k = true) ∧ ∀ k, i.1 < k → k < i.2 → L.okPair l i.1 k = true, mu := fun i => l.n - i.2 })], rfs := lookR [] }) (bodyOf Try.f68) (st0 Try.f68 [.p (.sl 2 l.n (fun i => [.int .i64 ((l.g i).x), .int .i64 ((l.g i).y)]))]) (retFn Try.prog Try.f68 (p_simple_r l)) :=
  @Eq.mpr _ ((∃ (g : Nat), (0 : Int) = (↑g : Int) ∧ g ≤ l.n ∧ ∀ (j : Nat), j < g → ∀ (k : Nat), j < k → k < l.n → L.okPair l j k = Bool.true) ∧ ∀ (g : Nat), (g ≤ l.n ∧ ∀ (j : Nat), j < g → ∀ (k : Nat), j < k → k < l.n → L.okPair l j k = Bool.true) → (Decidable.decide ((↑g : Int) < (↑l.n : Int)) = Bool.true → Go.SE.InK Go.IntKind.i64 ((↑g : Int) + (1 : Int)) ∧ (∃ (g_1 : Nat × Nat), (↑g : Int) + (1 : Int) =
 (↑g_1.2 : Int) ∧ (↑g : Int) = (↑g_1.1 : Int) ∧ (↑g : Int) = (↑g_1.1 : Int) ∧ g_1.1 < g_1.2 ∧ g_1.2 ≤ l.n ∧ (∀ (j : Nat), j < g_1.1 → ∀ (k : Nat), j < k → k < l.n → L.okPair l j k = Bool.true) ∧ ∀ (k : Nat), g_1.1 < k → k < g_1.2 → L.okPair l g_1.1 k = Bool.true) ∧ ∀ (g_1 : Nat × Nat), ((↑g : Int) = (↑g_1.1 : Int) ∧ (↑g : Int) = (↑g_1.1 : Int) ∧ g_1.1 < g_1.2 ∧ g_1.2 ≤ l.n ∧ (∀ (j : Nat), j < g_1.1
 → ∀ (k : Nat), j < k → k < l.n → L.okPair l j k = Bool.true) ∧ ∀ (k : Nat), g_1.1 < k → k < g_1.2 → L.okPair l g_1.1 k = Bool.true) → (Decidable.decide ((↑g_1.2 : Int) < (↑l.n : Int)) = Bool.true → ((0 : Int) ≤ (↑g : Int) ∧ (↑g : Int) < (↑l.n : Int)) ∧ Go.SE.InK Go.IntKind.i64 ((↑g : Int) + (1 : Int)) ∧ ((0 : Int) ≤ (↑g : Int) + (1 : Int) ∧ (↑g : Int) + (1 : Int) < (↑l.n : Int)) ∧ ((0 : Int) ≤
 (↑g_1.2 : Int) ∧ (↑g_1.2 : Int) < (↑l.n : Int)) ∧ Go.SE.InK Go.IntKind.i64 ((↑g_1.2 : Int) + (1 : Int)) ∧ (↑l.n : Int) ≠ (0 : Int) ∧ ((0 : Int) ≤ Int.tmod ((↑g_1.2 : Int) + (1 : Int)) (↑l.n : Int) ∧ Int.tmod ((↑g_1.2 : Int) + (1 : Int)) (↑l.n : Int) < (↑l.n : Int)) ∧ (L.bd (l.g (Int.toNat (↑g : Int))) ∧ L.bd (l.g (Int.toNat ((↑g : Int) + (1 : Int)))) ∧ L.bd (l.g (Int.toNat (↑g_1.2 : Int))) ∧ L.bd
 (l.g (Int.toNat (Int.tmod ((↑g_1.2 : Int) + (1 : Int)) (↑l.n : Int))))) ∧ Go.SE.InK Go.IntKind.i64 ((↑g : Int) + (1 : Int)) ∧ ((!Decidable.decide ((↑g_1.2 : Int) = (↑g : Int) + (1 : Int)) && Decidable.decide ((↑g : Int) = (0 : Int))) = Bool.true → Go.SE.InK Go.IntKind.i64 ((↑l.n : Int) - (1 : Int))) ∧ ((bif bif bif Decidable.decide ((↑g_1.2 : Int) = (↑g : Int) + (1 : Int)) then Bool.true else bif
 Decidable.decide ((↑g : Int) = (0 : Int)) then Decidable.decide ((↑g_1.2 : Int) = (↑l.n : Int) - (1 : Int)) else Bool.false then !Decidable.decide (L.meet (l.g (Int.toNat (↑g : Int))) (l.g (Int.toNat ((↑g : Int) + (1 : Int)))) (l.g (Int.toNat (↑g_1.2 : Int))) (l.g (Int.toNat (Int.tmod ((↑g_1.2 : Int) + (1 : Int)) (↑l.n : Int)))) = (1 : Int)) else Bool.false then Bool.true else bif !bif
 Decidable.decide ((↑g_1.2 : Int) = (↑g : Int) + (1 : Int)) then Bool.true else bif Decidable.decide ((↑g : Int) = (0 : Int)) then Decidable.decide ((↑g_1.2 : Int) = (↑l.n : Int) - (1 : Int)) else Bool.false then !Decidable.decide (L.meet (l.g (Int.toNat (↑g : Int))) (l.g (Int.toNat ((↑g : Int) + (1 : Int)))) (l.g (Int.toNat (↑g_1.2 : Int))) (l.g (Int.toNat (Int.tmod ((↑g_1.2 : Int) + (1 : Int))
 (↑l.n : Int)))) = (0 : Int)) else Bool.false) = Bool.true → Bool.false = L.simple l) ∧ ((bif bif bif Decidable.decide ((↑g_1.2 : Int) = (↑g : Int) + (1 : Int)) then Bool.true else bif Decidable.decide ((↑g : Int) = (0 : Int)) then Decidable.decide ((↑g_1.2 : Int) = (↑l.n : Int) - (1 : Int)) else Bool.false then !Decidable.decide (L.meet (l.g (Int.toNat (↑g : Int))) (l.g (Int.toNat ((↑g : Int) + (1
 : Int)))) (l.g (Int.toNat (↑g_1.2 : Int))) (l.g (Int.toNat (Int.tmod ((↑g_1.2 : Int) + (1 : Int)) (↑l.n : Int)))) = (1 : Int)) else Bool.false then Bool.true else bif !bif Decidable.decide ((↑g_1.2 : Int) = (↑g : Int) + (1 : Int)) then Bool.true else bif Decidable.decide ((↑g : Int) = (0 : Int)) then Decidable.decide ((↑g_1.2 : Int) = (↑l.n : Int) - (1 : Int)) else Bool.false then
 !Decidable.decide (L.meet (l.g (Int.toNat (↑g : Int))) (l.g (Int.toNat ((↑g : Int) + (1 : Int)))) (l.g (Int.toNat (↑g_1.2 : Int))) (l.g (Int.toNat (Int.tmod ((↑g_1.2 : Int) + (1 : Int)) (↑l.n : Int)))) = (0 : Int)) else Bool.false) = Bool.false → Go.SE.InK Go.IntKind.i64 ((↑g_1.2 : Int) + (1 : Int)) ∧ ∃ (g' : Nat × Nat), (↑g_1.2 : Int) + (1 : Int) = (↑g'.2 : Int) ∧ (↑g : Int) = (↑g : Int) ∧ (↑g :
 Int) = (↑g : Int) ∧ (↑l.n : Int) = (↑l.n : Int) ∧ (↑l.n : Int) = (↑l.n : Int) ∧ (l.n = l.n ∧ ∀ (i : Nat), i < l.n → [Go.SE.SV.int Go.IntKind.i64 (l.g i).x, Go.SE.SV.int Go.IntKind.i64 (l.g i).y] = [Go.SE.SV.int Go.IntKind.i64 (l.g i).x, Go.SE.SV.int Go.IntKind.i64 (l.g i).y]) ∧ ((↑g : Int) = (↑g'.1 : Int) ∧ (↑g : Int) = (↑g'.1 : Int) ∧ g'.1 < g'.2 ∧ g'.2 ≤ l.n ∧ (∀ (j : Nat), j < g'.1 → ∀ (k :
 Nat), j < k → k < l.n → L.okPair l j k = Bool.true) ∧ ∀ (k : Nat), g'.1 < k → k < g'.2 → L.okPair l g'.1 k = Bool.true) ∧ l.n - g'.2 < l.n - g_1.2)) ∧ (Decidable.decide ((↑g_1.2 : Int) < (↑l.n : Int)) = Bool.false → Go.SE.InK Go.IntKind.i64 ((↑g : Int) + (1 : Int)) ∧ ∃ (g' : Nat), (↑g : Int) + (1 : Int) = (↑g' : Int) ∧ (↑l.n : Int) = (↑l.n : Int) ∧ (↑l.n : Int) = (↑l.n : Int) ∧ (l.n = l.n ∧ ∀ (i :
 Nat), i < l.n → [Go.SE.SV.int Go.IntKind.i64 (l.g i).x, Go.SE.SV.int Go.IntKind.i64 (l.g i).y] = [Go.SE.SV.int Go.IntKind.i64 (l.g i).x, Go.SE.SV.int Go.IntKind.i64 (l.g i).y]) ∧ (g' ≤ l.n ∧ ∀ (j : Nat), j < g' → ∀ (k : Nat), j < k → k < l.n → L.okPair l j k = Bool.true) ∧ l.n - g' < l.n - g)) ∧ (Decidable.decide ((↑g : Int) < (↑l.n : Int)) = Bool.false → Bool.true = L.simple l)) (by kernel_rfl) (by
    obtain ⟨hn, hb⟩ := hp
    have fin0 : ∀ {i k : Nat}, i < k → k < l.n → L.okPair l i k = false → false = L.simple l := fun {i k} hik hk h => by
      unfold L.simple
      rw [allB_false (i := i) (by omega) (allB_false (i := k) hk (by simp [hik, h]))]
    refine ⟨⟨(0 : Nat), rfl, Nat.zero_le _, fun j hj => absurd hj (Nat.not_lt_zero _)⟩, fun g hg => ⟨fun hlt => ?_, fun hge => ?_⟩⟩
    · have hb1 : (g : Int) < (l.n : Int) := by simpa using hlt
      refine ⟨InK.of (by omega) (by omega), ⟨(g, g + 1), by simp, rfl, rfl, by simp, by simp; omega, hg.2, fun k h1 h2 => by simp at h1 h2; omega⟩, ?_⟩
      rintro ⟨i, k⟩ ⟨e1, e2, hik, hkn, h0, h1⟩
      simp only at e1 e2 hik hkn h0 h1
      obtain rfl : i = g := by omega
      refine ⟨fun hlt2 => ?_, fun hge2 => ?_⟩
      · have hk : (k : Int) < (l.n : Int) := by simpa using hlt2
        have t3 := Int.tmod_nonneg (l.n : Int) (show 0 ≤ (k : Int) + 1 by omega)
        have t4 := Int.tmod_lt_of_pos ((k : Int) + 1) (show 0 < (l.n : Int) by omega)
        have c1 : ((i : Int)).toNat = i := by omega
        have c2 : ((i : Int) + 1).toNat = i + 1 := by omega
        have c3 : ((k : Int)).toNat = k := by omega
        have c4 : (Int.tmod ((k : Int) + 1) (l.n : Int)).toNat = L.next l.n k := rfl
        have c5 : L.next l.n k < l.n := next_lt (by omega)
        dsimp only
        rw [c1, c2, c3, c4]
        have key : (bif (bif (bif decide ((k : Int) = (i : Int) + 1) then true else bif decide ((i : Int) = 0) then decide ((k : Int) = (l.n : Int) - 1) else false) then !decide (L.meet (l.g i) (l.g (i + 1)) (l.g k) (l.g (L.next l.n k)) = 1) else false) then true else bif !(bif decide ((k : Int) = (i : Int) + 1) then true else bif decide ((i : Int) = 0) then decide ((k : Int) = (l.n : Int) - 1) else false) then !decide (L.meet (l.g i) (l.g (i + 1)) (l.g k) (l.g (L.next l.n k)) = 0) else false) = !L.okPair l i k := by
          unfold L.okPair L.nxt L.how
          generalize (bif decide ((k : Int) = (i : Int) + 1) then true else bif decide ((i : Int) = 0) then decide ((k : Int) = (l.n : Int) - 1) else false) = q
          generalize decide (L.meet (l.g i) (l.g (i + 1)) (l.g k) (l.g (L.next l.n k)) = 1) = q1
          generalize decide (L.meet (l.g i) (l.g (i + 1)) (l.g k) (l.g (L.next l.n k)) = 0) = q2
          cases q <;> cases q1 <;> cases q2 <;> rfl
        rw [key]
        refine ⟨by omega, InK.of (by omega) (by omega), by omega, by omega, InK.of (by omega) (by omega), by omega, ⟨t3, t4⟩, ⟨hb i (by omega), hb (i + 1) (by omega), hb k (by omega), hb _ c5⟩, InK.of (by omega) (by omega), fun _ => InK.of (by omega) (by omega), fun h => fin0 hik (by omega) (by simpa using h), fun h => ?_⟩
        have hok : L.okPair l i k = true := by simpa using h
        refine ⟨InK.of (by omega) (by omega), (i, k + 1), by simp, rfl, rfl, rfl, rfl, ⟨rfl, fun _ _ => rfl⟩, ⟨rfl, rfl, by simp; omega, by simp; omega, h0, fun m hm1 hm2 => ?_⟩, by simp; omega⟩
        dsimp only at hm1 hm2 ⊢
        rcases Nat.lt_succ_iff_lt_or_eq.1 hm2 with h' | rfl
        · exact h1 m hm1 h'
        · exact hok
      · have hk : ¬ (k : Int) < (l.n : Int) := by simpa using hge2
        refine ⟨InK.of (by omega) (by omega), i + 1, by omega, rfl, rfl, ⟨rfl, fun _ _ => rfl⟩, ⟨by omega, fun j hj m hm1 hm2 => ?_⟩, by omega⟩
        rcases Nat.lt_succ_iff_lt_or_eq.1 hj with h' | rfl
        · exact h0 j h' m hm1 hm2
        · exact h1 m hm1 (by omega)
    · have hb1 : ¬ (g : Int) < (l.n : Int) := by simpa using hge
      unfold L.simple
      rw [allB_iff.2 (fun i hi => allB_iff.2 (fun k hk => ?_))]
      by_cases hik : i < k
      · simp [hik, hg.2 i (by omega) k hik hk]
      · simp [hik])
theorem p_simple_ok : SpecOk Try.prog 68 p_simple_S := fnX Try.func68 (c := bodyOf Try.f68) (by kernel_rfl) mixed (fun args p r hs hp => by
  unfold p_simple_s at hs
  split at hs
  · cases hs; exact ⟨_, _, p_simple_vc _ hp.2, (.p (.sl hp.1) .nil), ⟨show SpecsL Try.prog _ from (SpecsL.cons p_meet_ok p_meet_en SpecsL.nil), rfl, ⟨show ItersL Try.prog _ from ItersL.nil, (TrsOk.none (fun _ => rfl))⟩⟩⟩
  · cases hs)
theorem p_simple_en : Enters Try.prog 68 := fun args w => by kernel_rfl
theorem p_simple_B : ∀ args p r, p_simple_s args = some (p, r) → ∃ b, r = .bool b := by
  intro args p r h
  unfold p_simple_s at h
  split at h
  · cases h; exact ⟨_, rfl⟩
  · cases h
end Go.Proofs.Ytkklpamllfkbaaa

namespace Go.Proofs.Ytkklpamllfkbaaa
open Go.SE Go.RowKit
set_option maxRecDepth 100000
set_option maxHeartbeats 4000000
set_option linter.unusedVariables false
attribute [local irreducible] Go.SE.vc

def L.corner (l : L.Sq L.Pt) (k : Nat) : Bool := !(bif decide (L.cross (l.g (L.prev l.n k)) (l.g k) (l.g (L.next l.n k)) = 0) then true else bif decide (0 < (k : Int)) then decide (0 ≤ L.cmpPt (l.g 0) (l.g k)) else false)
def L.validPts (l : L.Sq L.Pt) : Bool := L.allB l.n (fun i => L.validPt (l.g i))
def L.valid3 (l : L.Sq L.Pt) : Bool := bif (bif !L.within (l.n : Int) 3 24 then true else !L.validPts l) then false else decide (0 < L.areaTo l l.n)
def L.validOutline (l : L.Sq L.Pt) : Bool := L.valid3 l && (L.allB l.n (L.corner l) && L.simple l)
def L.bend (l : L.Sq L.Pt) (k : Nat) : Int := L.cmp (L.cross (l.g (L.prev l.n k)) (l.g k) (l.g (L.next l.n k))) 0
theorem prev_lt {n k : Nat} (h : 0 < n) : L.prev n k < n := by
  have t3 := Int.tmod_nonneg (n : Int) (show 0 ≤ (k : Int) + (n : Int) - 1 by omega)
  have t4 := Int.tmod_lt_of_pos ((k : Int) + (n : Int) - 1) (show 0 < (n : Int) by omega)
  unfold L.prev; omega
theorem within_iff {n a b : Int} : L.within n a b = true ↔ a ≤ n ∧ n ≤ b := by simp [L.within]
theorem valid3_spec {l : L.Sq L.Pt} (h : L.within (l.n : Int) 3 24 = true) (h' : L.validPts l = true) : 3 ≤ l.n ∧ l.n ≤ 24 ∧ L.small l ∧ L.allBd l := by
  obtain ⟨h1, h2⟩ := within_iff.1 h
  have hb : ∀ i, i < l.n → L.bd (l.g i) := fun i hi => validPt_bd (allB_iff.1 h' i hi)
  exact ⟨by omega, by omega, ⟨by omega, hb⟩, ⟨by omega, hb⟩⟩
theorem valid3_eq (l : L.Sq L.Pt) : (bif (bif !L.within (l.n : Int) 3 24 then true else !(L.allB l.n fun i => L.validPt (l.g i))) then true else decide (L.areaTo l l.n ≤ 0)) = !L.valid3 l := by
  unfold L.valid3 L.validPts
  have : decide (0 < L.areaTo l l.n) = !decide (L.areaTo l l.n ≤ 0) := by
    by_cases h : L.areaTo l l.n ≤ 0 <;> simp [h] <;> omega
  rw [this]
  generalize decide (L.areaTo l l.n ≤ 0) = q
  cases L.within (l.n : Int) 3 24 <;> cases (L.allB l.n fun i => L.validPt (l.g i)) <;> cases q <;> rfl
theorem valid3_of {l : L.Sq L.Pt} (h : L.valid3 l = true) : 3 ≤ l.n ∧ l.n ≤ 24 ∧ L.small l ∧ L.allBd l := by
  unfold L.valid3 at h
  cases h1 : L.within (l.n : Int) 3 24 with
  | false => simp [h1] at h
  | true => cases h2 : L.validPts l with
    | false => simp [h1, h2] at h
    | true => exact valid3_spec h1 h2
theorem validOutline_of {l : L.Sq L.Pt} (h : L.validOutline l = true) : 3 ≤ l.n ∧ l.n ≤ 24 ∧ L.small l ∧ L.allBd l := valid3_of (Bool.and_eq_true_iff.1 h).1
theorem not_any_not {n : Nat} {f : Nat → Bool} : (!L.anyB n (fun i => !f i)) = L.allB n f := by
  rw [not_anyB]
  exact congrArg (L.allB n) (funext fun i => Bool.not_not (f i))
theorem notT {b : Bool} (h : (!b) = true) : b = false := by cases b with | false => rfl | true => cases h
theorem notF {b : Bool} (h : (!b) = false) : b = true := by cases b with | true => rfl | false => cases h
theorem anyB_no {n : Nat} {f : Nat → Bool} (h : ∀ i, i < n → f i = false) : L.anyB n f = false := by
  cases h' : L.anyB n f with
  | false => rfl
  | true =>
    obtain ⟨i, hi, h1⟩ := anyB_iff.1 h'
    rw [h i hi] at h1; cases h1
theorem anyB_congr {n : Nat} {f g : Nat → Bool} (h : ∀ i, i < n → f i = g i) : L.anyB n f = L.anyB n g := by
  rw [Bool.eq_iff_iff, anyB_iff, anyB_iff]
  exact ⟨fun ⟨i, hi, e⟩ => ⟨i, hi, by rw [← h i hi]; exact e⟩, fun ⟨i, hi, e⟩ => ⟨i, hi, by rw [h i hi]; exact e⟩⟩
def p_ValidOutline_p (l : (L.Sq L.Pt)) : Prop := l.n ≤ 1000000
def p_ValidOutline_r (l : (L.Sq L.Pt)) : SV := .bool (L.validOutline l)
def p_ValidOutline_s : List EV → Option (Prop × SV)
  | [.p (.sl 2 l_n l_g)] => some ((∀ i, i < l_n → l_g i = [.int .i64 ((ofPt (l_g i)).x), .int .i64 ((ofPt (l_g i)).y)]) ∧ p_ValidOutline_p (⟨l_n, fun i => ofPt (l_g i)⟩ : (L.Sq L.Pt)), p_ValidOutline_r (⟨l_n, fun i => ofPt (l_g i)⟩ : (L.Sq L.Pt)))
  | _ => none
abbrev p_ValidOutline_S : SE.Spec := (specO p_ValidOutline_s)
def p_ValidOutline_C : Cfg := { muts := [], frz := lookN [], specs := lookS [(37, p_within_S), (31, p_valid_S), (56, p_area_S), (57, p_triples_S), (34, p_cross_S), (67, p_compare_S), (68, p_simple_S)], loops := lookL [], iters := lookI [(83, p_triples1_it)], rfs := lookR [], nils := lookM [] }
theorem p_ValidOutline_vc (l : (L.Sq L.Pt)) (hp : p_ValidOutline_p l) : vc Try.prog ({ p_ValidOutline_C with loops := lookL [], rfs := lookR [(4, { T := Nat, keep := [1, 2], keepO := [2], own := fun k _ => [], inv := fun k _ => ∀ j, j < k → L.corner l j = true })] }) (bodyOf Try.f43) (st0 Try.f43 [.p (.sl 2 l.n (fun i => [.int .i64 ((l.g i).x), .int .i64 ((l.g i).y)]))]) (retFn Try.prog Try.f43 (p_ValidOutline_r l)) :=
  @Eq.mpr _ (True ∧ ((!!L.within (↑l.n : Int) (3 : Int) (24 : Int)) = Bool.true → (∀ (i : Nat), i < l.n → [Go.SE.SV.int Go.IntKind.i64 (l.g i).x, Go.SE.SV.int Go.IntKind.i64 (l.g i).y] = [Go.SE.SV.int Go.IntKind.i64 (l.g i).x, Go.SE.SV.int Go.IntKind.i64 (l.g i).y]) ∧ l.n ≤ (1000000 : Nat)) ∧ ((!bif !L.within (↑l.n : Int) (3 : Int) (24 : Int) then Bool.true else !L.allB l.n fun (i : Nat) ↦ L.validPt (l.g i)) =
 Bool.true → (∀ (i : Nat), i < l.n → [Go.SE.SV.int Go.IntKind.i64 (l.g i).x, Go.SE.SV.int Go.IntKind.i64 (l.g i).y] = [Go.SE.SV.int Go.IntKind.i64 (l.g i).x, Go.SE.SV.int Go.IntKind.i64 (l.g i).y]) ∧ L.small (L.Sq.mk l.n fun (i : Nat) ↦ l.g i)) ∧ ((bif bif !L.within (↑l.n : Int) (3 : Int) (24 : Int) then Bool.true else !L.allB l.n fun (i : Nat) ↦ L.validPt (l.g i) then Bool.true else
 Decidable.decide (L.areaTo (L.Sq.mk l.n fun (i : Nat) ↦ l.g i) l.n ≤ (0 : Int))) = Bool.true → Bool.false = L.validOutline l) ∧ ((bif bif !L.within (↑l.n : Int) (3 : Int) (24 : Int) then Bool.true else !L.allB l.n fun (i : Nat) ↦ L.validPt (l.g i) then Bool.true else Decidable.decide (L.areaTo (L.Sq.mk l.n fun (i : Nat) ↦ l.g i) l.n ≤ (0 : Int))) = Bool.false → ((∀ (i : Nat), i < l.n →
 [Go.SE.SV.int Go.IntKind.i64 (l.g i).x, Go.SE.SV.int Go.IntKind.i64 (l.g i).y] = [Go.SE.SV.int Go.IntKind.i64 (l.g i).x, Go.SE.SV.int Go.IntKind.i64 (l.g i).y]) ∧ l.n ≤ (1000 : Nat)) ∧ (((∀ (i : Nat), i < l.n → [Go.SE.SV.int Go.IntKind.i64 (l.g i).x, Go.SE.SV.int Go.IntKind.i64 (l.g i).y] = [Go.SE.SV.int Go.IntKind.i64 (l.g i).x, Go.SE.SV.int Go.IntKind.i64 (l.g i).y]) ∧ l.n ≤ (1000 : Nat)) ∧ ∃ (t
 : Nat), Bool.false = Bool.false ∧ ∀ (j : Nat), j < (0 : Nat) → L.corner l j = Bool.true) ∧ (∀ (k t : Nat) (vk : Nat → Go.Value), k < l.n → (∀ (j : Nat), j < k → L.corner l j = Bool.true) → ((0 : Int) ≤ (0 : Int) ∧ (0 : Int) < (↑(3 : Nat) : Int)) ∧ ((0 : Int) ≤ (1 : Int) ∧ (1 : Int) < (↑(3 : Nat) : Int)) ∧ ((0 : Int) ≤ (2 : Int) ∧ (2 : Int) < (↑(3 : Nat) : Int)) ∧ (L.bd (l.g (Int.toNat (Int.tmod
 ((↑k : Int) + (↑l.n : Int) - (1 : Int)) (↑l.n : Int)))) ∧ L.bd (l.g (Int.toNat (↑k : Int))) ∧ L.bd (l.g (Int.toNat (Int.tmod ((↑k : Int) + (1 : Int)) (↑l.n : Int))))) ∧ ((!Decidable.decide (L.cross (l.g (Int.toNat (Int.tmod ((↑k : Int) + (↑l.n : Int) - (1 : Int)) (↑l.n : Int)))) (l.g (Int.toNat (↑k : Int))) (l.g (Int.toNat (Int.tmod ((↑k : Int) + (1 : Int)) (↑l.n : Int)))) = (0 : Int)) &&
 Decidable.decide ((0 : Int) < (↑k : Int))) = Bool.true → (0 : Int) ≤ (0 : Int) ∧ (0 : Int) < (↑l.n : Int)) ∧ ((!Decidable.decide (L.cross (l.g (Int.toNat (Int.tmod ((↑k : Int) + (↑l.n : Int) - (1 : Int)) (↑l.n : Int)))) (l.g (Int.toNat (↑k : Int))) (l.g (Int.toNat (Int.tmod ((↑k : Int) + (1 : Int)) (↑l.n : Int)))) = (0 : Int)) && Decidable.decide ((0 : Int) < (↑k : Int))) = Bool.true → (0 : Int) ≤
 (1 : Int) ∧ (1 : Int) < (↑(3 : Nat) : Int)) ∧ ((!Decidable.decide (L.cross (l.g (Int.toNat (Int.tmod ((↑k : Int) + (↑l.n : Int) - (1 : Int)) (↑l.n : Int)))) (l.g (Int.toNat (↑k : Int))) (l.g (Int.toNat (Int.tmod ((↑k : Int) + (1 : Int)) (↑l.n : Int)))) = (0 : Int)) && Decidable.decide ((0 : Int) < (↑k : Int))) = Bool.true → True) ∧ ((bif Decidable.decide (L.cross (l.g (Int.toNat (Int.tmod ((↑k :
 Int) + (↑l.n : Int) - (1 : Int)) (↑l.n : Int)))) (l.g (Int.toNat (↑k : Int))) (l.g (Int.toNat (Int.tmod ((↑k : Int) + (1 : Int)) (↑l.n : Int)))) = (0 : Int)) then Bool.true else bif Decidable.decide ((0 : Int) < (↑k : Int)) then Decidable.decide ((0 : Int) ≤ L.cmpPt (l.g (Int.toNat (0 : Int))) (l.g (Int.toNat (↑k : Int)))) else Bool.false) = Bool.true → nat_lit 0 = nat_lit 0 ∧ Go.SE.SV.ref
 [Go.SE.SV.sl (nat_lit 2) l.n fun (i : Nat) ↦ [Go.SE.SV.int Go.IntKind.i64 (l.g i).x, Go.SE.SV.int Go.IntKind.i64 (l.g i).y]] (nat_lit 0) = Go.SE.SV.ref [Go.SE.SV.sl (nat_lit 2) l.n fun (i : Nat) ↦ [Go.SE.SV.int Go.IntKind.i64 (l.g i).x, Go.SE.SV.int Go.IntKind.i64 (l.g i).y]] (nat_lit 0) ∧ vk (nat_lit 2) = vk (nat_lit 2) ∧ vk (nat_lit 1) = vk (nat_lit 1) ∧ Bool.false = L.validOutline l) ∧ ((bif
 Decidable.decide (L.cross (l.g (Int.toNat (Int.tmod ((↑k : Int) + (↑l.n : Int) - (1 : Int)) (↑l.n : Int)))) (l.g (Int.toNat (↑k : Int))) (l.g (Int.toNat (Int.tmod ((↑k : Int) + (1 : Int)) (↑l.n : Int)))) = (0 : Int)) then Bool.true else bif Decidable.decide ((0 : Int) < (↑k : Int)) then Decidable.decide ((0 : Int) ≤ L.cmpPt (l.g (Int.toNat (0 : Int))) (l.g (Int.toNat (↑k : Int)))) else Bool.false)
 = Bool.false → ∃ (t' : Nat), nat_lit 0 = nat_lit 0 ∧ Go.SE.SV.ref [Go.SE.SV.sl (nat_lit 2) l.n fun (i : Nat) ↦ [Go.SE.SV.int Go.IntKind.i64 (l.g i).x, Go.SE.SV.int Go.IntKind.i64 (l.g i).y]] (nat_lit 0) = Go.SE.SV.ref [Go.SE.SV.sl (nat_lit 2) l.n fun (i : Nat) ↦ [Go.SE.SV.int Go.IntKind.i64 (l.g i).x, Go.SE.SV.int Go.IntKind.i64 (l.g i).y]] (nat_lit 0) ∧ vk (nat_lit 2) = vk (nat_lit 2) ∧ vk
 (nat_lit 1) = vk (nat_lit 1) ∧ Bool.false = Bool.false ∧ ∀ (j : Nat), j < k + (1 : Nat) → L.corner l j = Bool.true)) ∧ ∀ (t : Nat), (∀ (j : Nat), j < l.n → L.corner l j = Bool.true) → ((∀ (i : Nat), i < l.n → [Go.SE.SV.int Go.IntKind.i64 (l.g i).x, Go.SE.SV.int Go.IntKind.i64 (l.g i).y] = [Go.SE.SV.int Go.IntKind.i64 (l.g i).x, Go.SE.SV.int Go.IntKind.i64 (l.g i).y]) ∧ L.allBd (L.Sq.mk l.n fun (i
 : Nat) ↦ l.g i)) ∧ L.simple (L.Sq.mk l.n fun (i : Nat) ↦ l.g i) = L.validOutline l)) (by kernel_rfl) (by
    have hn : l.n ≤ 1000000 := hp
    have e3 := valid3_eq l
    refine ⟨trivial, fun _ => ⟨fun _ _ => rfl, hn⟩, fun h => ⟨fun _ _ => rfl, ?_⟩, fun h => ?_, fun h => ?_⟩
    · cases h1 : L.within (l.n : Int) 3 24 with
      | false => simp [h1] at h
      | true => cases h2 : L.validPts l with
        | false => rw [h1] at h; rw [show (L.allB l.n fun i => L.validPt (l.g i)) = false from h2] at h; simp at h
        | true => exact (valid3_spec h1 h2).2.2.1
    · have h := e3.symm.trans h
      have : L.valid3 l = false := by simpa using h
      unfold L.validOutline; rw [this]; rfl
    · have h := e3.symm.trans h
      have hv : L.valid3 l = true := by simpa using h
      obtain ⟨n3, n24, hsm, hbd⟩ := valid3_of hv
      refine ⟨⟨fun _ _ => rfl, by omega⟩, ⟨⟨fun _ _ => rfl, by omega⟩, (0 : Nat), rfl, fun j hj => absurd hj (Nat.not_lt_zero _)⟩, fun k t vk hk hi => ?_, fun t hi => ?_⟩
      · have c1 : (Int.tmod ((k : Int) + (l.n : Int) - 1) (l.n : Int)).toNat = L.prev l.n k := rfl
        have c2 : ((k : Int)).toNat = k := by omega
        have c3 : (Int.tmod ((k : Int) + 1) (l.n : Int)).toNat = L.next l.n k := rfl
        rw [c1, c2, c3]
        have key : (bif decide (L.cross (l.g (L.prev l.n k)) (l.g k) (l.g (L.next l.n k)) = 0) then true else bif decide (0 < (k : Int)) then decide (0 ≤ L.cmpPt (l.g (Int.toNat 0)) (l.g k)) else false) = !L.corner l k := by
          unfold L.corner; rw [Bool.not_not]; rfl
        rw [key]
        refine ⟨by omega, by omega, by omega, ⟨hbd.2 _ (prev_lt (by omega)), hbd.2 _ hk, hbd.2 _ (next_lt (by omega))⟩, fun _ => by omega, fun _ => by omega, fun _ => trivial, fun h => ⟨rfl, rfl, rfl, rfl, ?_⟩, fun h => ⟨t, rfl, rfl, rfl, rfl, rfl, fun j hj => ?_⟩⟩
        · have : L.corner l k = false := by simpa using h
          unfold L.validOutline
          rw [allB_false hk this]; simp
        · rcases Nat.lt_succ_iff_lt_or_eq.1 hj with h' | rfl
          · exact hi j h'
          · simpa using h
      · refine ⟨⟨fun _ _ => rfl, hbd⟩, ?_⟩
        unfold L.validOutline
        rw [hv, allB_iff.2 hi]; rfl)
theorem p_ValidOutline_ok : SpecOk Try.prog 43 p_ValidOutline_S := fnX Try.func43 (c := bodyOf Try.f43) (by kernel_rfl) mixed (fun args p r hs hp => by
  unfold p_ValidOutline_s at hs
  split at hs
  · cases hs; exact ⟨_, _, p_ValidOutline_vc _ hp.2, (.p (.sl hp.1) .nil), ⟨show SpecsL Try.prog _ from (SpecsL.cons p_within_ok p_within_en (SpecsL.cons p_valid_ok p_valid_en (SpecsL.cons p_area_ok p_area_en (SpecsL.cons p_triples_ok p_triples_en (SpecsL.cons p_cross_ok p_cross_en (SpecsL.cons p_compare_ok p_compare_en (SpecsL.cons p_simple_ok p_simple_en SpecsL.nil))))))), rfl, ⟨show ItersL Try.prog _ from (ItersL.cons p_triples1_itok p_triples1_en ItersL.nil), (TrsOk.none (fun _ => rfl))⟩⟩⟩
  · cases hs)
theorem p_ValidOutline_en : Enters Try.prog 43 := fun args w => by kernel_rfl
theorem p_ValidOutline_B : ∀ args p r, p_ValidOutline_s args = some (p, r) → ∃ b, r = .bool b := by
  intro args p r h
  unfold p_ValidOutline_s at h
  split at h
  · cases h; exact ⟨_, rfl⟩
  · cases h
end Go.Proofs.Ytkklpamllfkbaaa

namespace Go.Proofs.Ytkklpamllfkbaaa
open Go.SE Go.RowKit
set_option maxRecDepth 100000
set_option maxHeartbeats 4000000
set_option linter.unusedVariables false
attribute [local irreducible] Go.SE.vc

def L.sett (k : Nat) : L.Setting := ⟨Int.tdiv (k : Int) 2, decide (Int.tmod (k : Int) 2 = 1)⟩
def L.validSet (s : L.Setting) (n : Int) : Bool := bif L.within n 3 24 then L.within s.shift 0 (n - 1) else false
theorem sett_lt {k n : Nat} (h : k < 2 * n) : 0 ≤ (L.sett k).shift ∧ (L.sett k).shift < (n : Int) := by
  unfold L.sett
  dsimp only
  rw [Int.tdiv_eq_ediv_of_nonneg (by omega)]
  omega
theorem validSet_iff {s : L.Setting} {n : Int} : L.validSet s n = true ↔ (3 ≤ n ∧ n ≤ 24) ∧ 0 ≤ s.shift ∧ s.shift < n := by
  unfold L.validSet
  rw [band, Bool.and_eq_true, within_iff, within_iff]
  omega
def L.sameS (a b : L.Setting) : Bool := decide (a.shift = b.shift) && (a.back == b.back)
def L.sameSs (a b : L.Sq L.Setting) : Bool := bif decide ((a.n : Int) = b.n) then L.allB a.n (fun i => L.sameS (a.g i) (b.g i)) else false
theorem sett_even (g : Nat) : L.sett (2 * g) = ⟨(g : Int), false⟩ := by
  unfold L.sett
  rw [Int.tdiv_eq_ediv_of_nonneg (by omega), Int.tmod_eq_emod_of_nonneg (by omega), decide_eq_false (by omega), show ((2 * g : Nat) : Int) / 2 = (g : Int) by omega]
theorem sett_odd (g : Nat) : L.sett (2 * g + 1) = ⟨(g : Int), true⟩ := by
  unfold L.sett
  rw [Int.tdiv_eq_ediv_of_nonneg (by omega), Int.tmod_eq_emod_of_nonneg (by omega), decide_eq_true (by omega), show ((2 * g + 1 : Nat) : Int) / 2 = (g : Int) by omega]
theorem sameS_refl (a : L.Setting) : L.sameS a a = true := by simp [L.sameS]
theorem sameSs_refl (a : L.Sq L.Setting) : L.sameSs a a = true := by
  unfold L.sameSs
  rw [decide_eq_true rfl, allB_iff.2 (fun i _ => sameS_refl (a.g i))]; rfl
def L.lay (s : L.Setting) (n i : Int) : Int := bif s.back then Int.tmod (s.shift + n - i) n else Int.tmod (s.shift + i) n
def L.compE (s t : L.Setting) (n : Int) : Int := bif (bif !L.validSet s n then true else !L.validSet t n) then 1 else 0
def L.comp (s t : L.Setting) (n : Int) : L.Setting := bif decide (L.compE s t n = 0) then ⟨L.lay t n s.shift, !(s.back == t.back)⟩ else ⟨0, false⟩
def L.inv (s : L.Setting) (n : Int) : L.Setting := bif L.validSet s n then (bif s.back then s else ⟨Int.tmod (n - s.shift) n, false⟩) else ⟨0, false⟩
def L.invE (s : L.Setting) (n : Int) : Int := bif L.validSet s n then 0 else 1
def L.edE (s : L.Setting) (n i : Int) : Int := bif (bif !L.validSet s n then true else !L.within i 0 (n - 1)) then 1 else 0
def L.ed (s : L.Setting) (n i : Int) : Int := bif decide (L.edE s n i = 0) then L.lay s n i else 0
def p_ValidSetting_p (s : L.Setting) (n : Int) : Prop := True
def p_ValidSetting_r (s : L.Setting) (n : Int) : SV := .bool (L.validSet s n)
def p_ValidSetting_s : List EV → Option (Prop × SV)
  | [.p (.agg [.int .i64 s_shift, .bool s_back]), .p (.int .i64 n)] => some (p_ValidSetting_p (⟨s_shift, s_back⟩ : L.Setting) n, p_ValidSetting_r (⟨s_shift, s_back⟩ : L.Setting) n)
  | _ => none
abbrev p_ValidSetting_S : SE.Spec := (specO p_ValidSetting_s)
def p_ValidSetting_C : Cfg := { muts := [], frz := lookN [], specs := lookS [(37, p_within_S)], loops := lookL [], iters := lookI [], rfs := lookR [], nils := lookM [] }
theorem p_ValidSetting_vc (s : L.Setting) (n : Int) (hp : p_ValidSetting_p s n) : vc Try.prog (p_ValidSetting_C) (bodyOf Try.f41) (st0 Try.f41 [.p (.agg [.int .i64 s.shift, .bool s.back]), .p (.int .i64 n)]) (retFn Try.prog Try.f41 (p_ValidSetting_r s n)) :=
  @Eq.mpr _ (True ∧ (L.within n (3 : Int) (24 : Int) = Bool.true → Go.SE.InK Go.IntKind.i64 (n - (1 : Int))) ∧ (L.within n (3 : Int) (24 : Int) = Bool.true → True) ∧ (bif L.within n (3 : Int) (24 : Int) then L.within s.shift (0 : Int) (n - (1 : Int)) else Bool.false) = L.validSet s n) (by kernel_rfl) (by
    exact ⟨trivial, fun h => (by have := within_iff.1 h; exact InK.of (by omega) (by omega)), fun _ => trivial, rfl⟩)
theorem p_ValidSetting_ok : SpecOk Try.prog 41 p_ValidSetting_S := fnX Try.func41 (c := bodyOf Try.f41) (by kernel_rfl) mixed (fun args p r hs hp => by
  unfold p_ValidSetting_s at hs
  split at hs
  · cases hs; exact ⟨_, _, p_ValidSetting_vc _ _ hp, (.same _ (.same _ .nil)), ⟨show SpecsL Try.prog _ from (SpecsL.cons p_within_ok p_within_en SpecsL.nil), rfl, ⟨show ItersL Try.prog _ from ItersL.nil, (TrsOk.none (fun _ => rfl))⟩⟩⟩
  · cases hs)
theorem p_ValidSetting_en : Enters Try.prog 41 := fun args w => by kernel_rfl
theorem p_ValidSetting_B : ∀ args p r, p_ValidSetting_s args = some (p, r) → ∃ b, r = .bool b := by
  intro args p r h
  unfold p_ValidSetting_s at h
  split at h
  · cases h; exact ⟨_, rfl⟩
  · cases h
def r1_ValidSetting_p (s : L.Setting) (n : Int) : Prop := True
def r1_ValidSetting_r (s : L.Setting) (n : Int) : SV := .bool (L.validSet s n)
def r1_ValidSetting_s : List EV → Option (Prop × SV)
  | [.p (.agg [.int .i64 s_shift, .bool s_back]), .p (.int .i64 n)] => some (r1_ValidSetting_p (⟨s_shift, s_back⟩ : L.Setting) n, r1_ValidSetting_r (⟨s_shift, s_back⟩ : L.Setting) n)
  | _ => none
abbrev r1_ValidSetting_S : SE.Spec := (specO r1_ValidSetting_s)
def r1_ValidSetting_C : Cfg := { muts := [], frz := lookN [], specs := lookS [], loops := lookL [], iters := lookI [], rfs := lookR [], nils := lookM [] }
theorem r1_ValidSetting_vc (s : L.Setting) (n : Int) (hp : r1_ValidSetting_p s n) : vc Try.prog (r1_ValidSetting_C) (bodyOf Try.f18) (st0 Try.f18 [.p (.agg [.int .i64 s.shift, .bool s.back]), .p (.int .i64 n)]) (retFn Try.prog Try.f18 (r1_ValidSetting_r s n)) :=
  @Eq.mpr _ ((bif bif bif Decidable.decide ((3 : Int) ≤ n) then Decidable.decide (n ≤ (24 : Int)) else Bool.false then Decidable.decide ((0 : Int) ≤ s.shift) else Bool.false then Decidable.decide (s.shift < n) else Bool.false) = L.validSet s n) (by kernel_rfl) (by
    rw [Bool.eq_iff_iff, validSet_iff, band, band, band, Bool.and_eq_true, Bool.and_eq_true, Bool.and_eq_true, decide_eq_true_eq, decide_eq_true_eq, decide_eq_true_eq, decide_eq_true_eq]
    omega)
theorem r1_ValidSetting_ok : SpecOk Try.prog 18 r1_ValidSetting_S := fnX Try.func18 (c := bodyOf Try.f18) (by kernel_rfl) mixed (fun args p r hs hp => by
  unfold r1_ValidSetting_s at hs
  split at hs
  · cases hs; exact ⟨_, _, r1_ValidSetting_vc _ _ hp, (.same _ (.same _ .nil)), ⟨show SpecsL Try.prog _ from SpecsL.nil, rfl, ⟨show ItersL Try.prog _ from ItersL.nil, (TrsOk.none (fun _ => rfl))⟩⟩⟩
  · cases hs)
theorem r1_ValidSetting_en : Enters Try.prog 18 := fun args w => by kernel_rfl
theorem r1_ValidSetting_B : ∀ args p r, r1_ValidSetting_s args = some (p, r) → ∃ b, r = .bool b := by
  intro args p r h
  unfold r1_ValidSetting_s at h
  split at h
  · cases h; exact ⟨_, rfl⟩
  · cases h
def p_lay_p (s : L.Setting) (n : Int) (i : Int) : Prop := 1 ≤ n ∧ n ≤ 1000000 ∧ -1000000 ≤ s.shift ∧ s.shift ≤ 1000000 ∧ -1000000 ≤ i ∧ i ≤ 1000000
def p_lay_r (s : L.Setting) (n : Int) (i : Int) : SV := .int .i64 (L.lay s n i)
def p_lay_s : List EV → Option (Prop × SV)
  | [.p (.agg [.int .i64 s_shift, .bool s_back]), .p (.int .i64 n), .p (.int .i64 i)] => some (p_lay_p (⟨s_shift, s_back⟩ : L.Setting) n i, p_lay_r (⟨s_shift, s_back⟩ : L.Setting) n i)
  | _ => none
abbrev p_lay_S : SE.Spec := (specO p_lay_s)
def p_lay_C : Cfg := { muts := [], frz := lookN [], specs := lookS [], loops := lookL [], iters := lookI [], rfs := lookR [], nils := lookM [] }
theorem p_lay_vc (s : L.Setting) (n : Int) (i : Int) (hp : p_lay_p s n i) : vc Try.prog (p_lay_C) (bodyOf Try.f42) (st0 Try.f42 [.p (.agg [.int .i64 s.shift, .bool s.back]), .p (.int .i64 n), .p (.int .i64 i)]) (retFn Try.prog Try.f42 (p_lay_r s n i)) :=
  @Eq.mpr _ ((s.back = Bool.true → Go.SE.InK Go.IntKind.i64 (s.shift + n) ∧ Go.SE.InK Go.IntKind.i64 (s.shift + n - i) ∧ n ≠ (0 : Int) ∧ Int.tmod (s.shift + n - i) n = L.lay s n i) ∧ (s.back = Bool.false → Go.SE.InK Go.IntKind.i64 (s.shift + i) ∧ n ≠ (0 : Int) ∧ Int.tmod (s.shift + i) n = L.lay s n i)) (by kernel_rfl) (by
    obtain ⟨h1, h2, h3, h4, h5, h6⟩ := hp
    refine ⟨fun h => ⟨InK.of (by omega) (by omega), InK.of (by omega) (by omega), by omega, ?_⟩, fun h => ⟨InK.of (by omega) (by omega), by omega, ?_⟩⟩
    · unfold L.lay; rw [h]; rfl
    · unfold L.lay; rw [h]; rfl)
theorem p_lay_ok : SpecOk Try.prog 42 p_lay_S := fnX Try.func42 (c := bodyOf Try.f42) (by kernel_rfl) mixed (fun args p r hs hp => by
  unfold p_lay_s at hs
  split at hs
  · cases hs; exact ⟨_, _, p_lay_vc _ _ _ hp, (.same _ (.same _ (.same _ .nil))), ⟨show SpecsL Try.prog _ from SpecsL.nil, rfl, ⟨show ItersL Try.prog _ from ItersL.nil, (TrsOk.none (fun _ => rfl))⟩⟩⟩
  · cases hs)
theorem p_lay_en : Enters Try.prog 42 := fun args w => by kernel_rfl
theorem p_lay_I : ∀ args p r, p_lay_s args = some (p, r) → ∃ n, r = .int .i64 n := by
  intro args p r h
  unfold p_lay_s at h
  split at h
  · cases h; exact ⟨_, rfl⟩
  · cases h
def p_Compose_p (s : L.Setting) (t : L.Setting) (n : Int) : Prop := True
def p_Compose_r (s : L.Setting) (t : L.Setting) (n : Int) : SV := .tup [(.agg [.int .i64 ((L.comp s t n).shift), .bool ((L.comp s t n).back)]), .int .i64 (L.compE s t n)]
def p_Compose_s : List EV → Option (Prop × SV)
  | [.p (.agg [.int .i64 s_shift, .bool s_back]), .p (.agg [.int .i64 t_shift, .bool t_back]), .p (.int .i64 n)] => some (p_Compose_p (⟨s_shift, s_back⟩ : L.Setting) (⟨t_shift, t_back⟩ : L.Setting) n, p_Compose_r (⟨s_shift, s_back⟩ : L.Setting) (⟨t_shift, t_back⟩ : L.Setting) n)
  | _ => none
abbrev p_Compose_S : SE.Spec := (specO p_Compose_s)
def p_Compose_C : Cfg := { muts := [6], frz := lookN [], specs := lookS [(41, p_ValidSetting_S), (42, p_lay_S)], loops := lookL [], iters := lookI [], rfs := lookR [], nils := lookM [] }
theorem p_Compose_vc (s : L.Setting) (t : L.Setting) (n : Int) (hp : p_Compose_p s t n) : vc Try.prog (p_Compose_C) (bodyOf Try.f19) (st0 Try.f19 [.p (.agg [.int .i64 s.shift, .bool s.back]), .p (.agg [.int .i64 t.shift, .bool t.back]), .p (.int .i64 n)]) (retFn Try.prog Try.f19 (p_Compose_r s t n)) :=
  @Eq.mpr _ (True ∧ ((!!L.validSet s n) = Bool.true → True) ∧ ((bif !L.validSet s n then Bool.true else !L.validSet t n) = Bool.true → Go.SE.SV.agg [Go.SE.SV.int Go.IntKind.i64 (0 : Int), Go.SE.SV.bool Bool.false] = Go.SE.SV.agg [Go.SE.SV.int Go.IntKind.i64 (L.comp s t n).shift, Go.SE.SV.bool (L.comp s t n).back] ∧ (1 : Int) = L.compE s t n) ∧ ((bif !L.validSet s n then Bool.true else !L.validSet t n) =
 Bool.false → ((1 : Int) ≤ n ∧ n ≤ (1000000 : Int) ∧ (-1000000 : Int) ≤ t.shift ∧ t.shift ≤ (1000000 : Int) ∧ (-1000000 : Int) ≤ s.shift ∧ s.shift ≤ (1000000 : Int)) ∧ Go.SE.SV.agg [Go.SE.SV.int Go.IntKind.i64 (L.lay t n s.shift), Go.SE.SV.bool !s.back == t.back] = Go.SE.SV.agg [Go.SE.SV.int Go.IntKind.i64 (L.comp s t n).shift, Go.SE.SV.bool (L.comp s t n).back] ∧ (0 : Int) = L.compE s t n)) (by kernel_rfl) (by
    refine ⟨trivial, fun _ => trivial, fun h => ?_, fun h => ?_⟩
    · have e : L.compE s t n = 1 := by unfold L.compE; rw [h]; rfl
      unfold L.comp; rw [e]; exact ⟨rfl, rfl⟩
    · have e : L.compE s t n = 0 := by unfold L.compE; rw [h]; rfl
      rw [bor, Bool.or_eq_false_iff] at h
      have a := validSet_iff.1 (notF h.1)
      have b := validSet_iff.1 (notF h.2)
      refine ⟨⟨by omega, by omega, by omega, by omega, by omega, by omega⟩, ?_, e.symm⟩
      unfold L.comp; rw [e]; rfl)
theorem p_Compose_ok : SpecOk Try.prog 19 p_Compose_S := fnX Try.func19 (c := bodyOf Try.f19) (by kernel_rfl) mixed (fun args p r hs hp => by
  unfold p_Compose_s at hs
  split at hs
  · cases hs; exact ⟨_, _, p_Compose_vc _ _ _ hp, (.same _ (.same _ (.same _ .nil))), ⟨show SpecsL Try.prog _ from (SpecsL.cons p_ValidSetting_ok p_ValidSetting_en (SpecsL.cons p_lay_ok p_lay_en SpecsL.nil)), rfl, ⟨show ItersL Try.prog _ from ItersL.nil, (TrsOk.none (fun _ => rfl))⟩⟩⟩
  · cases hs)
theorem p_Compose_en : Enters Try.prog 19 := fun args w => by kernel_rfl
def p_Inverse_p (s : L.Setting) (n : Int) : Prop := True
def p_Inverse_r (s : L.Setting) (n : Int) : SV := .tup [(.agg [.int .i64 ((L.inv s n).shift), .bool ((L.inv s n).back)]), .int .i64 (L.invE s n)]
def p_Inverse_s : List EV → Option (Prop × SV)
  | [.p (.agg [.int .i64 s_shift, .bool s_back]), .p (.int .i64 n)] => some (p_Inverse_p (⟨s_shift, s_back⟩ : L.Setting) n, p_Inverse_r (⟨s_shift, s_back⟩ : L.Setting) n)
  | _ => none
abbrev p_Inverse_S : SE.Spec := (specO p_Inverse_s)
def p_Inverse_C : Cfg := { muts := [4], frz := lookN [], specs := lookS [(41, p_ValidSetting_S)], loops := lookL [], iters := lookI [], rfs := lookR [], nils := lookM [] }
theorem p_Inverse_vc (s : L.Setting) (n : Int) (hp : p_Inverse_p s n) : vc Try.prog (p_Inverse_C) (bodyOf Try.f20) (st0 Try.f20 [.p (.agg [.int .i64 s.shift, .bool s.back]), .p (.int .i64 n)]) (retFn Try.prog Try.f20 (p_Inverse_r s n)) :=
  @Eq.mpr _ (True ∧ ((!L.validSet s n) = Bool.true → Go.SE.SV.agg [Go.SE.SV.int Go.IntKind.i64 (0 : Int), Go.SE.SV.bool Bool.false] = Go.SE.SV.agg [Go.SE.SV.int Go.IntKind.i64 (L.inv s n).shift, Go.SE.SV.bool (L.inv s n).back] ∧ (1 : Int) = L.invE s n) ∧ ((!L.validSet s n) = Bool.false → (s.back = Bool.true → Go.SE.SV.agg [Go.SE.SV.int Go.IntKind.i64 s.shift, Go.SE.SV.bool s.back] = Go.SE.SV.agg [Go.SE.SV.int
 Go.IntKind.i64 (L.inv s n).shift, Go.SE.SV.bool (L.inv s n).back] ∧ (0 : Int) = L.invE s n) ∧ (s.back = Bool.false → Go.SE.InK Go.IntKind.i64 (n - s.shift) ∧ n ≠ (0 : Int) ∧ Go.SE.SV.agg [Go.SE.SV.int Go.IntKind.i64 (Int.tmod (n - s.shift) n), Go.SE.SV.bool Bool.false] = Go.SE.SV.agg [Go.SE.SV.int Go.IntKind.i64 (L.inv s n).shift, Go.SE.SV.bool (L.inv s n).back] ∧ (0 : Int) = L.invE s n))) (by kernel_rfl) (by
    refine ⟨trivial, fun h => ?_, fun h => ⟨fun hb => ?_, fun hb => ?_⟩⟩
    · have hv : L.validSet s n = false := notT h
      unfold L.inv L.invE; rw [hv]; exact ⟨rfl, rfl⟩
    · have hv : L.validSet s n = true := notF h
      unfold L.inv L.invE; rw [hv, hb, cond_true, cond_true, hb]; exact ⟨rfl, rfl⟩
    · have hv : L.validSet s n = true := notF h
      have hs := validSet_iff.1 hv
      unfold L.inv L.invE; rw [hv, hb]; exact ⟨InK.of (by omega) (by omega), by omega, rfl, rfl⟩)
theorem p_Inverse_ok : SpecOk Try.prog 20 p_Inverse_S := fnX Try.func20 (c := bodyOf Try.f20) (by kernel_rfl) mixed (fun args p r hs hp => by
  unfold p_Inverse_s at hs
  split at hs
  · cases hs; exact ⟨_, _, p_Inverse_vc _ _ hp, (.same _ (.same _ .nil)), ⟨show SpecsL Try.prog _ from (SpecsL.cons p_ValidSetting_ok p_ValidSetting_en SpecsL.nil), rfl, ⟨show ItersL Try.prog _ from ItersL.nil, (TrsOk.none (fun _ => rfl))⟩⟩⟩
  · cases hs)
theorem p_Inverse_en : Enters Try.prog 20 := fun args w => by kernel_rfl
def p_Edge_p (s : L.Setting) (n : Int) (i : Int) : Prop := True
def p_Edge_r (s : L.Setting) (n : Int) (i : Int) : SV := .tup [.int .i64 (L.ed s n i), .int .i64 (L.edE s n i)]
def p_Edge_s : List EV → Option (Prop × SV)
  | [.p (.agg [.int .i64 s_shift, .bool s_back]), .p (.int .i64 n), .p (.int .i64 i)] => some (p_Edge_p (⟨s_shift, s_back⟩ : L.Setting) n i, p_Edge_r (⟨s_shift, s_back⟩ : L.Setting) n i)
  | _ => none
abbrev p_Edge_S : SE.Spec := (specO p_Edge_s)
def p_Edge_C : Cfg := { muts := [], frz := lookN [], specs := lookS [(41, p_ValidSetting_S), (37, p_within_S), (42, p_lay_S)], loops := lookL [], iters := lookI [], rfs := lookR [], nils := lookM [] }
theorem p_Edge_vc (s : L.Setting) (n : Int) (i : Int) (hp : p_Edge_p s n i) : vc Try.prog (p_Edge_C) (bodyOf Try.f21) (st0 Try.f21 [.p (.agg [.int .i64 s.shift, .bool s.back]), .p (.int .i64 n), .p (.int .i64 i)]) (retFn Try.prog Try.f21 (p_Edge_r s n i)) :=
  @Eq.mpr _ (True ∧ ((!!L.validSet s n) = Bool.true → Go.SE.InK Go.IntKind.i64 (n - (1 : Int))) ∧ ((!!L.validSet s n) = Bool.true → True) ∧ ((bif !L.validSet s n then Bool.true else !L.within i (0 : Int) (n - (1 : Int))) = Bool.true → (0 : Int) = L.ed s n i ∧ (1 : Int) = L.edE s n i) ∧ ((bif !L.validSet s n then Bool.true else !L.within i (0 : Int) (n - (1 : Int))) = Bool.false → ((1 : Int) ≤ n ∧ n ≤ (1000000
 : Int) ∧ (-1000000 : Int) ≤ s.shift ∧ s.shift ≤ (1000000 : Int) ∧ (-1000000 : Int) ≤ i ∧ i ≤ (1000000 : Int)) ∧ L.lay s n i = L.ed s n i ∧ (0 : Int) = L.edE s n i)) (by kernel_rfl) (by
    refine ⟨trivial, fun h => ?_, fun _ => trivial, fun h => ?_, fun h => ?_⟩
    · have hv : L.validSet s n = true := by simpa using (show (!!L.validSet s n) = true from h)
      have hs := validSet_iff.1 hv
      exact InK.of (by omega) (by omega)
    · have e : L.edE s n i = 1 := by unfold L.edE; rw [h]; rfl
      unfold L.ed; rw [e]; exact ⟨rfl, rfl⟩
    · have e : L.edE s n i = 0 := by unfold L.edE; rw [h]; rfl
      rw [bor, Bool.or_eq_false_iff] at h
      have hs := validSet_iff.1 (notF h.1)
      have hi := within_iff.1 (notF h.2)
      unfold L.ed; rw [e]; exact ⟨⟨by omega, by omega, by omega, by omega, by omega, by omega⟩, rfl, rfl⟩)
theorem p_Edge_ok : SpecOk Try.prog 21 p_Edge_S := fnX Try.func21 (c := bodyOf Try.f21) (by kernel_rfl) mixed (fun args p r hs hp => by
  unfold p_Edge_s at hs
  split at hs
  · cases hs; exact ⟨_, _, p_Edge_vc _ _ _ hp, (.same _ (.same _ (.same _ .nil))), ⟨show SpecsL Try.prog _ from (SpecsL.cons p_ValidSetting_ok p_ValidSetting_en (SpecsL.cons p_within_ok p_within_en (SpecsL.cons p_lay_ok p_lay_en SpecsL.nil))), rfl, ⟨show ItersL Try.prog _ from ItersL.nil, (TrsOk.none (fun _ => rfl))⟩⟩⟩
  · cases hs)
theorem p_Edge_en : Enters Try.prog 21 := fun args w => by kernel_rfl
end Go.Proofs.Ytkklpamllfkbaaa

namespace Go.Proofs.Ytkklpamllfkbaaa
open Go.SE Go.RowKit
set_option maxRecDepth 100000
set_option maxHeartbeats 4000000
set_option linter.unusedVariables false
attribute [local irreducible] Go.SE.vc

def L.cor (s : L.Setting) (n : Int) (i : Int) : Int := bif s.back then Int.tmod (s.shift + n - i + 1) n else Int.tmod (s.shift + i) n
def L.laid (q : L.Sq L.Pt) (s : L.Setting) (n : Nat) (i : Nat) : L.Pt := q.g (L.cor s n (i : Int)).toNat
def L.laidTo (q : L.Sq L.Pt) (s : L.Setting) (n i k : Nat) : L.Pt := bif decide (k < i) then L.laid q s n k else ⟨0, 0⟩
def L.conD (p q : L.Sq L.Pt) (s : L.Setting) (i k : Nat) : Bool := decide (L.dist (p.g i) (p.g k) = L.dist (L.laid q s p.n i) (L.laid q s p.n k))
def L.conB (p q : L.Sq L.Pt) (s : L.Setting) (i : Nat) : Bool := decide (0 < L.cross (p.g (L.prev p.n i)) (p.g i) (p.g (L.next p.n i))) == !(decide (0 < L.cross (L.laid q s p.n (L.prev p.n i)) (L.laid q s p.n i) (L.laid q s p.n (L.next p.n i))) == s.back)
def L.conI (p q : L.Sq L.Pt) (s : L.Setting) (i : Nat) : Bool := L.allB i (L.conD p q s i) && L.conB p q s i
def L.congr (p q : L.Sq L.Pt) (s : L.Setting) : Bool := L.allB p.n (L.conI p q s)
def L.conK (p q : L.Sq L.Pt) (k : Nat) : Bool := L.congr p q (L.sett k)
def L.conE (p q : L.Sq L.Pt) : Int := bif (bif !L.validOutline p then true else !L.validOutline q) then 1 else 0
def L.conN (p q : L.Sq L.Pt) : Nat := bif decide (L.conE p q = 0) then (bif decide ((p.n : Int) = q.n) then L.cnt (L.conK p q) (2 * p.n) else 0) else 0
def L.conG (p q : L.Sq L.Pt) (k : Nat) : L.Setting := L.sett (L.selN (L.conK p q) (2 * p.n) k)
def L.among (l : L.Sq L.Setting) (s : L.Setting) : Bool := L.anyB l.n (fun i => L.sameS (l.g i) s)
def p_corner_p (s : L.Setting) (n : Int) (i : Int) : Prop := 1 ≤ n ∧ n ≤ 1000 ∧ 0 ≤ s.shift ∧ s.shift ≤ 1000 ∧ 0 ≤ i ∧ i ≤ 1000
def p_corner_r (s : L.Setting) (n : Int) (i : Int) : SV := .int .i64 (L.cor s n i)
def p_corner_s : List EV → Option (Prop × SV)
  | [.p (.agg [.int .i64 s_shift, .bool s_back]), .p (.int .i64 n), .p (.int .i64 i)] => some (p_corner_p (⟨s_shift, s_back⟩ : L.Setting) n i, p_corner_r (⟨s_shift, s_back⟩ : L.Setting) n i)
  | _ => none
abbrev p_corner_S : SE.Spec := (specO p_corner_s)
def p_corner_C : Cfg := { muts := [], frz := lookN [], specs := lookS [], loops := lookL [], iters := lookI [], rfs := lookR [], nils := lookM [] }
theorem p_corner_vc (s : L.Setting) (n : Int) (i : Int) (hp : p_corner_p s n i) : vc Try.prog (p_corner_C) (bodyOf Try.f69) (st0 Try.f69 [.p (.agg [.int .i64 s.shift, .bool s.back]), .p (.int .i64 n), .p (.int .i64 i)]) (retFn Try.prog Try.f69 (p_corner_r s n i)) :=
  @Eq.mpr _ ((s.back = Bool.true → Go.SE.InK Go.IntKind.i64 (s.shift + n) ∧ Go.SE.InK Go.IntKind.i64 (s.shift + n - i) ∧ Go.SE.InK Go.IntKind.i64 (s.shift + n - i + (1 : Int)) ∧ n ≠ (0 : Int) ∧ Int.tmod (s.shift + n - i + (1 : Int)) n = L.cor s n i) ∧ (s.back = Bool.false → Go.SE.InK Go.IntKind.i64 (s.shift + i) ∧ n ≠ (0 : Int) ∧ Int.tmod (s.shift + i) n = L.cor s n i)) (by kernel_rfl) (by
    obtain ⟨h1, h2, h3, h4, h5, h6⟩ := hp
    refine ⟨fun h => ⟨InK.of (by omega) (by omega), InK.of (by omega) (by omega), InK.of (by omega) (by omega), by omega, ?_⟩, fun h => ⟨InK.of (by omega) (by omega), by omega, ?_⟩⟩
    · unfold L.cor; rw [h]; rfl
    · unfold L.cor; rw [h]; rfl)
theorem p_corner_ok : SpecOk Try.prog 69 p_corner_S := fnX Try.func69 (c := bodyOf Try.f69) (by kernel_rfl) mixed (fun args p r hs hp => by
  unfold p_corner_s at hs
  split at hs
  · cases hs; exact ⟨_, _, p_corner_vc _ _ _ hp, (.same _ (.same _ (.same _ .nil))), ⟨show SpecsL Try.prog _ from SpecsL.nil, rfl, ⟨show ItersL Try.prog _ from ItersL.nil, (TrsOk.none (fun _ => rfl))⟩⟩⟩
  · cases hs)
theorem p_corner_en : Enters Try.prog 69 := fun args w => by kernel_rfl
theorem p_corner_I : ∀ args p r, p_corner_s args = some (p, r) → ∃ n, r = .int .i64 n := by
  intro args p r h
  unfold p_corner_s at h
  split at h
  · cases h; exact ⟨_, rfl⟩
  · cases h
def p_congruent_p (p : (L.Sq L.Pt)) (q : (L.Sq L.Pt)) (s : L.Setting) : Prop := L.allBd p ∧ L.allBd q ∧ p.n = q.n ∧ 1 ≤ p.n ∧ 0 ≤ s.shift ∧ s.shift < (p.n : Int)
def p_congruent_r (p : (L.Sq L.Pt)) (q : (L.Sq L.Pt)) (s : L.Setting) : SV := .bool (L.congr p q s)
def p_congruent_s : List EV → Option (Prop × SV)
  | [.p (.sl 2 p_n p_g), .p (.sl 2 q_n q_g), .p (.agg [.int .i64 s_shift, .bool s_back])] => some ((∀ i, i < p_n → p_g i = [.int .i64 ((ofPt (p_g i)).x), .int .i64 ((ofPt (p_g i)).y)]) ∧ (∀ i, i < q_n → q_g i = [.int .i64 ((ofPt (q_g i)).x), .int .i64 ((ofPt (q_g i)).y)]) ∧ p_congruent_p (⟨p_n, fun i => ofPt (p_g i)⟩ : (L.Sq L.Pt)) (⟨q_n, fun i => ofPt (q_g i)⟩ : (L.Sq L.Pt)) (⟨s_shift, s_back⟩ : L.Setting), p_congruent_r (⟨p_n, fun i => ofPt (p_g i)⟩ : (L.Sq L.Pt)) (⟨q_n, fun i => ofPt (q_g i)⟩ : (L.Sq L.Pt)) (⟨s_shift, s_back⟩ : L.Setting))
  | _ => none
abbrev p_congruent_S : SE.Spec := (specO p_congruent_s)
def p_congruent_C : Cfg := { muts := [], frz := lookN [], specs := lookS [(69, p_corner_S), (38, p_square_S), (34, p_cross_S)], loops := fun _ => none, iters := lookI [], rfs := lookR [], nils := lookM [] }
theorem p_congruent_vc (p : (L.Sq L.Pt)) (q : (L.Sq L.Pt)) (s : L.Setting) (hp : p_congruent_p p q s) : vc Try.prog ({ p_congruent_C with loops := lookL [(4, { T := Nat, keep := [0, 1, 5, 7, 8, 19], keepO := [], chg := fun i => [(20, .p (.int .i64 (i : Int)))], own := fun i => [(17, .row 23 2 p.n (fun k => [.int .i64 ((L.laidTo q s p.n i k).x), .int .i64 ((L.laidTo q s p.n i k).y)]))], inv := fun i => i ≤ p.n, mu := fun i => p.n - i }), (9, { T := Nat, keep := [0, 5, 7, 8, 35], keepO := [], chg := fun i => [(36, .p (.int .i64 (i : Int)))], own := fun i => [(17, .row 23 2 p.n (fun k => [.int .i64 ((L.laidTo q s p.n p.n k).x), .int .i64 ((L.laidTo q s p.n p.n k).y)]))], inv := fun i => i ≤ p.n ∧ ∀ j, j < i → L.conI p q s j = true, mu := fun i => p.n - i }), (12, { T := Nat × Nat, keep := [0, 5, 7, 8, 10, 35, 36, 39], keepO := [], tie := fun g => [(10, .int .i64 (g.1 : Int)), (36, .int .i64 (g.1 : Int)), (39, .int .i64 (g.1 : Int))], chg := fun g => [(40, .p (.int .i64 (g.2 : Int)))], own := fun g => [(17, .row 23 2 p.n (fun k => [.int .i64 ((L.laidTo q s p.n p.n k).x), .int .i64 ((L.laidTo q s p.n p.n k).y)]))], inv := fun g => g.1 < p.n ∧ g.2 ≤ g.1 ∧ (∀ j, j < g.1 → L.conI p q s j = true) ∧ ∀ j, j < g.2 → L.conD p q s g.1 j = true, mu := fun g => g.1 - g.2 })], rfs := lookR [] }) (bodyOf Try.f44) (st0 Try.f44 [.p (.sl 2 p.n (fun i => [.int .i64 ((p.g i).x), .int .i64 ((p.g i).y)])), .p (.sl 2 q.n (fun i => [.int .i64 ((q.g i).x), .int .i64 ((q.g i).y)])), .p (.agg [.int .i64 s.shift, .bool s.back])]) (retFn Try.prog Try.f44 (p_congruent_r p q s)) :=
  @Eq.mpr _ (((0 : Int) ≤ (↑p.n : Int) ∧ (↑p.n : Int) ≤ (↑p.n : Int) ∧ (↑p.n : Int) * (↑(nat_lit 16) : Int) ≤ (140737488355328 : Int)) ∧ (∃ (g : Nat), (0 : Int) = (↑g : Int) ∧ (Int.toNat (↑p.n : Int) = p.n ∧ ∀ (i : Nat), i < Int.toNat (↑p.n : Int) → [Go.SE.SV.int Go.IntKind.i64 (0 : Int), Go.SE.SV.int Go.IntKind.i64 (0 : Int)] = [Go.SE.SV.int Go.IntKind.i64 (L.laidTo q s p.n g i).x, Go.SE.SV.int Go.IntKind.i64
 (L.laidTo q s p.n g i).y]) ∧ g ≤ p.n) ∧ ∀ (g : Nat), g ≤ p.n → (Decidable.decide ((↑g : Int) < (↑(Int.toNat (↑p.n : Int)) : Int)) = Bool.true → ((1 : Int) ≤ (↑p.n : Int) ∧ (↑p.n : Int) ≤ (1000 : Int) ∧ (0 : Int) ≤ s.shift ∧ s.shift ≤ (1000 : Int) ∧ (0 : Int) ≤ (↑g : Int) ∧ (↑g : Int) ≤ (1000 : Int)) ∧ ((0 : Int) ≤ L.cor s (↑p.n : Int) (↑g : Int) ∧ L.cor s (↑p.n : Int) (↑g : Int) < (↑q.n : Int)) ∧
 ((0 : Int) ≤ (↑g : Int) ∧ (↑g : Int) < (↑p.n : Int)) ∧ Int.toNat (↑g : Int) < p.n ∧ Go.SE.InK Go.IntKind.i64 ((↑g : Int) + (1 : Int)) ∧ ∃ (g' : Nat), (↑g : Int) + (1 : Int) = (↑g' : Int) ∧ (↑(Int.toNat (↑p.n : Int)) : Int) = (↑(Int.toNat (↑p.n : Int)) : Int) ∧ (↑p.n : Int) = (↑p.n : Int) ∧ Go.SE.SV.ref [Go.SE.SV.int Go.IntKind.i64 s.shift, Go.SE.SV.bool s.back] (nat_lit 0) = Go.SE.SV.ref
 [Go.SE.SV.int Go.IntKind.i64 s.shift, Go.SE.SV.bool s.back] (nat_lit 0) ∧ (p.n = p.n ∧ ∀ (i : Nat), i < p.n → [Go.SE.SV.int Go.IntKind.i64 (p.g i).x, Go.SE.SV.int Go.IntKind.i64 (p.g i).y] = [Go.SE.SV.int Go.IntKind.i64 (p.g i).x, Go.SE.SV.int Go.IntKind.i64 (p.g i).y]) ∧ (q.n = q.n ∧ ∀ (i : Nat), i < q.n → [Go.SE.SV.int Go.IntKind.i64 (q.g i).x, Go.SE.SV.int Go.IntKind.i64 (q.g i).y] =
 [Go.SE.SV.int Go.IntKind.i64 (q.g i).x, Go.SE.SV.int Go.IntKind.i64 (q.g i).y]) ∧ (p.n = p.n ∧ ∀ (i : Nat), i < p.n → Go.SE.setRow (fun (k : Nat) ↦ [Go.SE.SV.int Go.IntKind.i64 (L.laidTo q s p.n g k).x, Go.SE.SV.int Go.IntKind.i64 (L.laidTo q s p.n g k).y]) (Int.toNat (↑g : Int)) (nat_lit 0) [Go.SE.SV.int Go.IntKind.i64 (q.g (Int.toNat (L.cor s (↑p.n : Int) (↑g : Int)))).x, Go.SE.SV.int
 Go.IntKind.i64 (q.g (Int.toNat (L.cor s (↑p.n : Int) (↑g : Int)))).y] i = [Go.SE.SV.int Go.IntKind.i64 (L.laidTo q s p.n g' i).x, Go.SE.SV.int Go.IntKind.i64 (L.laidTo q s p.n g' i).y]) ∧ g' ≤ p.n ∧ p.n - g' < p.n - g) ∧ (Decidable.decide ((↑g : Int) < (↑(Int.toNat (↑p.n : Int)) : Int)) = Bool.false → (∃ (g_1 : Nat), (0 : Int) = (↑g_1 : Int) ∧ (p.n = p.n ∧ ∀ (i : Nat), i < p.n → [Go.SE.SV.int
 Go.IntKind.i64 (L.laidTo q s p.n g i).x, Go.SE.SV.int Go.IntKind.i64 (L.laidTo q s p.n g i).y] = [Go.SE.SV.int Go.IntKind.i64 (L.laidTo q s p.n p.n i).x, Go.SE.SV.int Go.IntKind.i64 (L.laidTo q s p.n p.n i).y]) ∧ g_1 ≤ p.n ∧ ∀ (j : Nat), j < g_1 → L.conI p q s j = Bool.true) ∧ ∀ (g_1 : Nat), (g_1 ≤ p.n ∧ ∀ (j : Nat), j < g_1 → L.conI p q s j = Bool.true) → (Decidable.decide ((↑g_1 : Int) < (↑p.n :
 Int)) = Bool.true → (∃ (g : Nat × Nat), (0 : Int) = (↑g.2 : Int) ∧ (p.n = p.n ∧ ∀ (i : Nat), i < p.n → [Go.SE.SV.int Go.IntKind.i64 (L.laidTo q s p.n p.n i).x, Go.SE.SV.int Go.IntKind.i64 (L.laidTo q s p.n p.n i).y] = [Go.SE.SV.int Go.IntKind.i64 (L.laidTo q s p.n p.n i).x, Go.SE.SV.int Go.IntKind.i64 (L.laidTo q s p.n p.n i).y]) ∧ (↑g_1 : Int) = (↑g.1 : Int) ∧ (↑g_1 : Int) = (↑g.1 : Int) ∧ (↑g_1
 : Int) = (↑g.1 : Int) ∧ g.1 < p.n ∧ g.2 ≤ g.1 ∧ (∀ (j : Nat), j < g.1 → L.conI p q s j = Bool.true) ∧ ∀ (j : Nat), j < g.2 → L.conD p q s g.1 j = Bool.true) ∧ ∀ (g_2 : Nat × Nat), ((↑g_1 : Int) = (↑g_2.1 : Int) ∧ (↑g_1 : Int) = (↑g_2.1 : Int) ∧ (↑g_1 : Int) = (↑g_2.1 : Int) ∧ g_2.1 < p.n ∧ g_2.2 ≤ g_2.1 ∧ (∀ (j : Nat), j < g_2.1 → L.conI p q s j = Bool.true) ∧ ∀ (j : Nat), j < g_2.2 → L.conD p q s
 g_2.1 j = Bool.true) → (Decidable.decide ((↑g_2.2 : Int) < (↑g_1 : Int)) = Bool.true → ((0 : Int) ≤ (↑g_1 : Int) ∧ (↑g_1 : Int) < (↑p.n : Int)) ∧ ((0 : Int) ≤ (↑g_2.2 : Int) ∧ (↑g_2.2 : Int) < (↑p.n : Int)) ∧ (L.bd (p.g (Int.toNat (↑g_1 : Int))) ∧ L.bd (p.g (Int.toNat (↑g_2.2 : Int)))) ∧ ((0 : Int) ≤ (↑g_1 : Int) ∧ (↑g_1 : Int) < (↑p.n : Int)) ∧ Int.toNat (↑g_1 : Int) < p.n ∧ ((0 : Int) ≤ (↑g_2.2
 : Int) ∧ (↑g_2.2 : Int) < (↑p.n : Int)) ∧ Int.toNat (↑g_2.2 : Int) < p.n ∧ (L.bd (L.laidTo q s p.n p.n (Int.toNat (↑g_1 : Int))) ∧ L.bd (L.laidTo q s p.n p.n (Int.toNat (↑g_2.2 : Int)))) ∧ ((!Decidable.decide (L.dist (p.g (Int.toNat (↑g_1 : Int))) (p.g (Int.toNat (↑g_2.2 : Int))) = L.dist (L.laidTo q s p.n p.n (Int.toNat (↑g_1 : Int))) (L.laidTo q s p.n p.n (Int.toNat (↑g_2.2 : Int))))) =
 Bool.true → Bool.false = L.congr p q s) ∧ ((!Decidable.decide (L.dist (p.g (Int.toNat (↑g_1 : Int))) (p.g (Int.toNat (↑g_2.2 : Int))) = L.dist (L.laidTo q s p.n p.n (Int.toNat (↑g_1 : Int))) (L.laidTo q s p.n p.n (Int.toNat (↑g_2.2 : Int))))) = Bool.false → Go.SE.InK Go.IntKind.i64 ((↑g_2.2 : Int) + (1 : Int)) ∧ ∃ (g' : Nat × Nat), (↑g_2.2 : Int) + (1 : Int) = (↑g'.2 : Int) ∧ (↑g_1 : Int) = (↑g_1
 : Int) ∧ (↑g_1 : Int) = (↑g_1 : Int) ∧ (↑g_1 : Int) = (↑g_1 : Int) ∧ (↑p.n : Int) = (↑p.n : Int) ∧ (↑p.n : Int) = (↑p.n : Int) ∧ Go.SE.SV.ref [Go.SE.SV.int Go.IntKind.i64 s.shift, Go.SE.SV.bool s.back] (nat_lit 0) = Go.SE.SV.ref [Go.SE.SV.int Go.IntKind.i64 s.shift, Go.SE.SV.bool s.back] (nat_lit 0) ∧ (p.n = p.n ∧ ∀ (i : Nat), i < p.n → [Go.SE.SV.int Go.IntKind.i64 (p.g i).x, Go.SE.SV.int
 Go.IntKind.i64 (p.g i).y] = [Go.SE.SV.int Go.IntKind.i64 (p.g i).x, Go.SE.SV.int Go.IntKind.i64 (p.g i).y]) ∧ (p.n = p.n ∧ ∀ (i : Nat), i < p.n → [Go.SE.SV.int Go.IntKind.i64 (L.laidTo q s p.n p.n i).x, Go.SE.SV.int Go.IntKind.i64 (L.laidTo q s p.n p.n i).y] = [Go.SE.SV.int Go.IntKind.i64 (L.laidTo q s p.n p.n i).x, Go.SE.SV.int Go.IntKind.i64 (L.laidTo q s p.n p.n i).y]) ∧ ((↑g_1 : Int) = (↑g'.1
 : Int) ∧ (↑g_1 : Int) = (↑g'.1 : Int) ∧ (↑g_1 : Int) = (↑g'.1 : Int) ∧ g'.1 < p.n ∧ g'.2 ≤ g'.1 ∧ (∀ (j : Nat), j < g'.1 → L.conI p q s j = Bool.true) ∧ ∀ (j : Nat), j < g'.2 → L.conD p q s g'.1 j = Bool.true) ∧ g'.1 - g'.2 < g_2.1 - g_2.2)) ∧ (Decidable.decide ((↑g_2.2 : Int) < (↑g_1 : Int)) = Bool.false → Go.SE.InK Go.IntKind.i64 ((↑g_1 : Int) + (↑p.n : Int)) ∧ Go.SE.InK Go.IntKind.i64 ((↑g_1 :
 Int) + (↑p.n : Int) - (1 : Int)) ∧ (↑p.n : Int) ≠ (0 : Int) ∧ ((0 : Int) ≤ Int.tmod ((↑g_1 : Int) + (↑p.n : Int) - (1 : Int)) (↑p.n : Int) ∧ Int.tmod ((↑g_1 : Int) + (↑p.n : Int) - (1 : Int)) (↑p.n : Int) < (↑p.n : Int)) ∧ ((0 : Int) ≤ (↑g_1 : Int) ∧ (↑g_1 : Int) < (↑p.n : Int)) ∧ Go.SE.InK Go.IntKind.i64 ((↑g_1 : Int) + (1 : Int)) ∧ (↑p.n : Int) ≠ (0 : Int) ∧ ((0 : Int) ≤ Int.tmod ((↑g_1 : Int) +
 (1 : Int)) (↑p.n : Int) ∧ Int.tmod ((↑g_1 : Int) + (1 : Int)) (↑p.n : Int) < (↑p.n : Int)) ∧ (L.bd (p.g (Int.toNat (Int.tmod ((↑g_1 : Int) + (↑p.n : Int) - (1 : Int)) (↑p.n : Int)))) ∧ L.bd (p.g (Int.toNat (↑g_1 : Int))) ∧ L.bd (p.g (Int.toNat (Int.tmod ((↑g_1 : Int) + (1 : Int)) (↑p.n : Int))))) ∧ Go.SE.InK Go.IntKind.i64 ((↑g_1 : Int) + (↑p.n : Int)) ∧ Go.SE.InK Go.IntKind.i64 ((↑g_1 : Int) +
 (↑p.n : Int) - (1 : Int)) ∧ (↑p.n : Int) ≠ (0 : Int) ∧ ((0 : Int) ≤ Int.tmod ((↑g_1 : Int) + (↑p.n : Int) - (1 : Int)) (↑p.n : Int) ∧ Int.tmod ((↑g_1 : Int) + (↑p.n : Int) - (1 : Int)) (↑p.n : Int) < (↑p.n : Int)) ∧ Int.toNat (Int.tmod ((↑g_1 : Int) + (↑p.n : Int) - (1 : Int)) (↑p.n : Int)) < p.n ∧ ((0 : Int) ≤ (↑g_1 : Int) ∧ (↑g_1 : Int) < (↑p.n : Int)) ∧ Int.toNat (↑g_1 : Int) < p.n ∧ Go.SE.InK
 Go.IntKind.i64 ((↑g_1 : Int) + (1 : Int)) ∧ (↑p.n : Int) ≠ (0 : Int) ∧ ((0 : Int) ≤ Int.tmod ((↑g_1 : Int) + (1 : Int)) (↑p.n : Int) ∧ Int.tmod ((↑g_1 : Int) + (1 : Int)) (↑p.n : Int) < (↑p.n : Int)) ∧ Int.toNat (Int.tmod ((↑g_1 : Int) + (1 : Int)) (↑p.n : Int)) < p.n ∧ (L.bd (L.laidTo q s p.n p.n (Int.toNat (Int.tmod ((↑g_1 : Int) + (↑p.n : Int) - (1 : Int)) (↑p.n : Int)))) ∧ L.bd (L.laidTo q s
 p.n p.n (Int.toNat (↑g_1 : Int))) ∧ L.bd (L.laidTo q s p.n p.n (Int.toNat (Int.tmod ((↑g_1 : Int) + (1 : Int)) (↑p.n : Int))))) ∧ ((!Decidable.decide ((0 : Int) < L.cross (p.g (Int.toNat (Int.tmod ((↑g_1 : Int) + (↑p.n : Int) - (1 : Int)) (↑p.n : Int)))) (p.g (Int.toNat (↑g_1 : Int))) (p.g (Int.toNat (Int.tmod ((↑g_1 : Int) + (1 : Int)) (↑p.n : Int))))) == !Decidable.decide ((0 : Int) < L.cross
 (L.laidTo q s p.n p.n (Int.toNat (Int.tmod ((↑g_1 : Int) + (↑p.n : Int) - (1 : Int)) (↑p.n : Int)))) (L.laidTo q s p.n p.n (Int.toNat (↑g_1 : Int))) (L.laidTo q s p.n p.n (Int.toNat (Int.tmod ((↑g_1 : Int) + (1 : Int)) (↑p.n : Int))))) == s.back) = Bool.true → Bool.false = L.congr p q s) ∧ ((!Decidable.decide ((0 : Int) < L.cross (p.g (Int.toNat (Int.tmod ((↑g_1 : Int) + (↑p.n : Int) - (1 : Int))
 (↑p.n : Int)))) (p.g (Int.toNat (↑g_1 : Int))) (p.g (Int.toNat (Int.tmod ((↑g_1 : Int) + (1 : Int)) (↑p.n : Int))))) == !Decidable.decide ((0 : Int) < L.cross (L.laidTo q s p.n p.n (Int.toNat (Int.tmod ((↑g_1 : Int) + (↑p.n : Int) - (1 : Int)) (↑p.n : Int)))) (L.laidTo q s p.n p.n (Int.toNat (↑g_1 : Int))) (L.laidTo q s p.n p.n (Int.toNat (Int.tmod ((↑g_1 : Int) + (1 : Int)) (↑p.n : Int))))) ==
 s.back) = Bool.false → Go.SE.InK Go.IntKind.i64 ((↑g_1 : Int) + (1 : Int)) ∧ ∃ (g' : Nat), (↑g_1 : Int) + (1 : Int) = (↑g' : Int) ∧ (↑p.n : Int) = (↑p.n : Int) ∧ (↑p.n : Int) = (↑p.n : Int) ∧ Go.SE.SV.ref [Go.SE.SV.int Go.IntKind.i64 s.shift, Go.SE.SV.bool s.back] (nat_lit 0) = Go.SE.SV.ref [Go.SE.SV.int Go.IntKind.i64 s.shift, Go.SE.SV.bool s.back] (nat_lit 0) ∧ (p.n = p.n ∧ ∀ (i : Nat), i < p.n
 → [Go.SE.SV.int Go.IntKind.i64 (p.g i).x, Go.SE.SV.int Go.IntKind.i64 (p.g i).y] = [Go.SE.SV.int Go.IntKind.i64 (p.g i).x, Go.SE.SV.int Go.IntKind.i64 (p.g i).y]) ∧ (p.n = p.n ∧ ∀ (i : Nat), i < p.n → [Go.SE.SV.int Go.IntKind.i64 (L.laidTo q s p.n p.n i).x, Go.SE.SV.int Go.IntKind.i64 (L.laidTo q s p.n p.n i).y] = [Go.SE.SV.int Go.IntKind.i64 (L.laidTo q s p.n p.n i).x, Go.SE.SV.int Go.IntKind.i64
 (L.laidTo q s p.n p.n i).y]) ∧ (g' ≤ p.n ∧ ∀ (j : Nat), j < g' → L.conI p q s j = Bool.true) ∧ p.n - g' < p.n - g_1))) ∧ (Decidable.decide ((↑g_1 : Int) < (↑p.n : Int)) = Bool.false → Bool.true = L.congr p q s))) (by kernel_rfl) (by
    obtain ⟨hbp, hbq, hn, h1, s0, s1⟩ := hp
    have hpn := hbp.1
    have hc : ∀ k : Nat, k < p.n → 0 ≤ L.cor s (p.n : Int) (k : Int) ∧ L.cor s (p.n : Int) (k : Int) < (q.n : Int) := fun k hk => by
      unfold L.cor
      rw [← hn]
      cases s.back
      · exact ⟨Int.tmod_nonneg _ (by omega), Int.tmod_lt_of_pos _ (by omega)⟩
      · exact ⟨Int.tmod_nonneg _ (by omega), Int.tmod_lt_of_pos _ (by omega)⟩
    have hl : ∀ k, k < p.n → L.laidTo q s p.n p.n k = L.laid q s p.n k := fun k hk => by
      unfold L.laidTo; rw [decide_eq_true hk]; rfl
    have hlb : ∀ k, k < p.n → L.bd (L.laidTo q s p.n p.n k) := fun k hk => by
      rw [hl k hk]; exact hbq.2 _ (by have := hc k hk; omega)
    have fin0 : ∀ {i : Nat}, i < p.n → L.conI p q s i = false → false = L.congr p q s := fun {i} hi h => by
      unfold L.congr; rw [allB_false hi h]
    have et : ((p.n : Int)).toNat = p.n := by omega
    rw [et]
    refine ⟨⟨by omega, by omega, by show (p.n : Int) * 16 ≤ 140737488355328; omega⟩, ⟨(0 : Nat), rfl, ⟨rfl, fun i hi => rfl⟩, Nat.zero_le _⟩, fun g hg => ⟨fun hlt => ?_, fun hge => ⟨⟨(0 : Nat), rfl, ⟨rfl, fun i hi => ?_⟩, Nat.zero_le _, fun j hj => absurd hj (Nat.not_lt_zero _)⟩, fun g1 hg1 => ⟨fun hlt1 => ?_, fun hge1 => ?_⟩⟩⟩⟩
    · have hb : (g : Int) < (p.n : Int) := of_decide_eq_true hlt
      have e0 : ((g : Int)).toNat = g := by omega
      rw [e0]
      refine ⟨⟨by omega, by omega, by omega, by omega, by omega, by omega⟩, hc g (by omega), ⟨by omega, hb⟩, by omega, InK.of (by omega) (by omega), g + 1, by omega, rfl, rfl, rfl, ⟨rfl, fun _ _ => rfl⟩, ⟨rfl, fun _ _ => rfl⟩, ⟨rfl, fun i hi => ?_⟩, by omega, by omega⟩
      unfold setRow
      by_cases e : i = g
      · subst e
        rw [if_pos rfl]
        unfold L.laidTo
        rw [decide_eq_true (Nat.lt_succ_self i)]; rfl
      · rw [if_neg e]
        dsimp only
        have w : L.laidTo q s p.n (g + 1) i = L.laidTo q s p.n g i := by
          unfold L.laidTo
          by_cases c : i < g
          · rw [decide_eq_true c, decide_eq_true (by omega)]
          · rw [decide_eq_false c, decide_eq_false (by omega)]
        rw [w]
    · have hb : ¬ (g : Int) < (p.n : Int) := of_decide_eq_false hge
      obtain rfl : g = p.n := by omega
      rfl
    · have hb1 : (g1 : Int) < (p.n : Int) := of_decide_eq_true hlt1
      have hk1 : g1 < p.n := by omega
      have e1 : ((g1 : Int)).toNat = g1 := by omega
      rw [e1]
      refine ⟨⟨(g1, 0), rfl, ⟨rfl, fun _ _ => rfl⟩, rfl, rfl, rfl, hk1, Nat.zero_le _, hg1.2, fun j hj => absurd hj (Nat.not_lt_zero _)⟩, ?_⟩
      rintro ⟨i, k⟩ ⟨t1, _, _, _, hki, h0, hD⟩
      have t1 : (g1 : Int) = (i : Int) := t1
      obtain rfl : g1 = i := by omega
      have hki : k ≤ g1 := hki
      have h0 : ∀ j, j < g1 → L.conI p q s j = true := h0
      have hD : ∀ j, j < k → L.conD p q s g1 j = true := hD
      dsimp only
      have ek : ((k : Int)).toNat = k := by omega
      rw [ek]
      refine ⟨fun hlt2 => ?_, fun hge2 => ?_⟩
      · have hk : (k : Int) < (g1 : Int) := of_decide_eq_true hlt2
        have key : decide (L.dist (p.g g1) (p.g k) = L.dist (L.laidTo q s p.n p.n g1) (L.laidTo q s p.n p.n k)) = L.conD p q s g1 k := by
          rw [hl g1 hk1, hl k (by omega)]; rfl
        rw [key]
        refine ⟨⟨by omega, hb1⟩, ⟨by omega, by omega⟩, ⟨hbp.2 _ hk1, hbp.2 _ (by omega)⟩, ⟨by omega, hb1⟩, hk1, ⟨by omega, by omega⟩, by omega, ⟨hlb _ hk1, hlb _ (by omega)⟩, fun h => ?_, fun h => ?_⟩
        · refine fin0 hk1 ?_
          unfold L.conI
          rw [allB_false (i := k) (by omega) (notT h)]; rfl
        · refine ⟨InK.of (by omega) (by omega), (g1, k + 1), by show (k : Int) + 1 = ((k + 1 : Nat) : Int); omega, rfl, rfl, rfl, rfl, rfl, rfl, ⟨rfl, fun _ _ => rfl⟩, ⟨rfl, fun _ _ => rfl⟩, ⟨rfl, rfl, rfl, hk1, by show k + 1 ≤ g1; omega, h0, fun j hj => ?_⟩, by show g1 - (k + 1) < g1 - k; omega⟩
          have hj : j < k + 1 := hj
          show L.conD p q s g1 j = true
          rcases Nat.lt_succ_iff_lt_or_eq.1 hj with h' | rfl
          · exact hD j h'
          · exact notF h
      · have hk : ¬ (k : Int) < (g1 : Int) := of_decide_eq_false hge2
        have hpv : L.prev p.n g1 < p.n := prev_lt (by omega)
        have hnx : L.next p.n g1 < p.n := next_lt (by omega)
        have hp0 := Int.tmod_nonneg (p.n : Int) (show 0 ≤ (g1 : Int) + (p.n : Int) - 1 by omega)
        have hp1 := Int.tmod_lt_of_pos ((g1 : Int) + (p.n : Int) - 1) (show 0 < (p.n : Int) by omega)
        have hn0 := Int.tmod_nonneg (p.n : Int) (show 0 ≤ (g1 : Int) + 1 by omega)
        have hn1 := Int.tmod_lt_of_pos ((g1 : Int) + 1) (show 0 < (p.n : Int) by omega)
        have key : (decide (0 < L.cross (p.g (L.prev p.n g1)) (p.g g1) (p.g (L.next p.n g1))) == !(decide (0 < L.cross (L.laidTo q s p.n p.n (L.prev p.n g1)) (L.laidTo q s p.n p.n g1) (L.laidTo q s p.n p.n (L.next p.n g1))) == s.back)) = L.conB p q s g1 := by
          rw [hl g1 hk1, hl _ hpv, hl _ hnx]; rfl
        refine ⟨InK.of (by omega) (by omega), InK.of (by omega) (by omega), by omega, ⟨hp0, hp1⟩, ⟨by omega, hb1⟩, InK.of (by omega) (by omega), by omega, ⟨hn0, hn1⟩, ⟨hbp.2 _ hpv, hbp.2 _ hk1, hbp.2 _ hnx⟩, InK.of (by omega) (by omega), InK.of (by omega) (by omega), by omega, ⟨hp0, hp1⟩, hpv, ⟨by omega, hb1⟩, hk1, InK.of (by omega) (by omega), by omega, ⟨hn0, hn1⟩, hnx, ⟨hlb _ hpv, hlb _ hk1, hlb _ hnx⟩, fun h => ?_, fun h => ?_⟩
        · have h : (!(decide (0 < L.cross (p.g (L.prev p.n g1)) (p.g g1) (p.g (L.next p.n g1))) == !(decide (0 < L.cross (L.laidTo q s p.n p.n (L.prev p.n g1)) (L.laidTo q s p.n p.n g1) (L.laidTo q s p.n p.n (L.next p.n g1))) == s.back))) = true := h
          rw [key] at h
          refine fin0 hk1 ?_
          unfold L.conI
          rw [notT h, Bool.and_false]
        · have h : (!(decide (0 < L.cross (p.g (L.prev p.n g1)) (p.g g1) (p.g (L.next p.n g1))) == !(decide (0 < L.cross (L.laidTo q s p.n p.n (L.prev p.n g1)) (L.laidTo q s p.n p.n g1) (L.laidTo q s p.n p.n (L.next p.n g1))) == s.back))) = false := h
          rw [key] at h
          refine ⟨InK.of (by omega) (by omega), g1 + 1, by omega, rfl, rfl, rfl, ⟨rfl, fun _ _ => rfl⟩, ⟨rfl, fun _ _ => rfl⟩, ⟨by omega, fun j hj => ?_⟩, by omega⟩
          rcases Nat.lt_succ_iff_lt_or_eq.1 hj with h' | rfl
          · exact h0 j h'
          · unfold L.conI
            rw [allB_iff.2 (fun m hm => hD m (by omega)), notF h]; rfl
    · have hb1 : ¬ (g1 : Int) < (p.n : Int) := of_decide_eq_false hge1
      unfold L.congr
      rw [allB_iff.2 (fun i hi => hg1.2 i (by omega))])
theorem p_congruent_ok : SpecOk Try.prog 44 p_congruent_S := fnX Try.func44 (c := bodyOf Try.f44) (by kernel_rfl) mixed (fun args p r hs hp => by
  unfold p_congruent_s at hs
  split at hs
  · cases hs; exact ⟨_, _, p_congruent_vc _ _ _ hp.2.2, (.p (.sl hp.1) (.p (.sl hp.2.1) (.same _ .nil))), ⟨show SpecsL Try.prog _ from (SpecsL.cons p_corner_ok p_corner_en (SpecsL.cons p_square_ok p_square_en (SpecsL.cons p_cross_ok p_cross_en SpecsL.nil))), rfl, ⟨show ItersL Try.prog _ from ItersL.nil, (TrsOk.none (fun _ => rfl))⟩⟩⟩
  · cases hs)
theorem p_congruent_en : Enters Try.prog 44 := fun args w => by kernel_rfl
theorem p_congruent_B : ∀ args p r, p_congruent_s args = some (p, r) → ∃ b, r = .bool b := by
  intro args p r h
  unfold p_congruent_s at h
  split at h
  · cases h; exact ⟨_, rfl⟩
  · cases h
def p_Settings_p (p : (L.Sq L.Pt)) (q : (L.Sq L.Pt)) : Prop := p.n ≤ 1000000 ∧ q.n ≤ 1000000
def p_Settings_r (p : (L.Sq L.Pt)) (q : (L.Sq L.Pt)) : SV := .tup [.sl 2 (L.conN p q) (fun k => [.int .i64 ((L.conG p q k).shift), .bool ((L.conG p q k).back)]), .int .i64 (L.conE p q)]
def p_Settings_s : List EV → Option (Prop × SV)
  | [.p (.sl 2 p_n p_g), .p (.sl 2 q_n q_g)] => some ((∀ i, i < p_n → p_g i = [.int .i64 ((ofPt (p_g i)).x), .int .i64 ((ofPt (p_g i)).y)]) ∧ (∀ i, i < q_n → q_g i = [.int .i64 ((ofPt (q_g i)).x), .int .i64 ((ofPt (q_g i)).y)]) ∧ p_Settings_p (⟨p_n, fun i => ofPt (p_g i)⟩ : (L.Sq L.Pt)) (⟨q_n, fun i => ofPt (q_g i)⟩ : (L.Sq L.Pt)), p_Settings_r (⟨p_n, fun i => ofPt (p_g i)⟩ : (L.Sq L.Pt)) (⟨q_n, fun i => ofPt (q_g i)⟩ : (L.Sq L.Pt)))
  | _ => none
abbrev p_Settings_S : SE.Spec := (specO p_Settings_s)
def p_Settings_C : Cfg := { muts := [], frz := lookN [], specs := lookS [(43, p_ValidOutline_S), (44, p_congruent_S)], loops := fun _ => none, iters := lookI [], rfs := lookR [], nils := lookM [(6, [(6, 28, 33, 2)])] }
theorem p_Settings_vc (p : (L.Sq L.Pt)) (q : (L.Sq L.Pt)) (hp : p_Settings_p p q) : vc Try.prog ({ p_Settings_C with loops := lookL [(7, { T := Nat, keep := [0, 1, 6, 24], keepO := [], chg := fun i => [(25, .p (.int .i64 (i : Int)))], own := fun i => [(28, .row 33 2 (L.cnt (L.conK p q) i) (fun k => [.int .i64 ((L.sett (L.selN (L.conK p q) i k)).shift), .bool ((L.sett (L.selN (L.conK p q) i k)).back)]))], inv := fun i => i ≤ 2 * p.n, mu := fun i => 2 * p.n - i })], rfs := lookR [] }) (bodyOf Try.f22) (st0 Try.f22 [.p (.sl 2 p.n (fun i => [.int .i64 ((p.g i).x), .int .i64 ((p.g i).y)])), .p (.sl 2 q.n (fun i => [.int .i64 ((q.g i).x), .int .i64 ((q.g i).y)]))]) (retFn Try.prog Try.f22 (p_Settings_r p q)) :=
  @Eq.mpr _ (((∀ (i : Nat), i < p.n → [Go.SE.SV.int Go.IntKind.i64 (p.g i).x, Go.SE.SV.int Go.IntKind.i64 (p.g i).y] = [Go.SE.SV.int Go.IntKind.i64 (p.g i).x, Go.SE.SV.int Go.IntKind.i64 (p.g i).y]) ∧ p.n ≤ (1000000 : Nat)) ∧ ((!!L.validOutline (L.Sq.mk p.n fun (i : Nat) ↦ p.g i)) = Bool.true → (∀ (i : Nat), i < q.n → [Go.SE.SV.int Go.IntKind.i64 (q.g i).x, Go.SE.SV.int Go.IntKind.i64 (q.g i).y] =
 [Go.SE.SV.int Go.IntKind.i64 (q.g i).x, Go.SE.SV.int Go.IntKind.i64 (q.g i).y]) ∧ q.n ≤ (1000000 : Nat)) ∧ ((bif !L.validOutline (L.Sq.mk p.n fun (i : Nat) ↦ p.g i) then Bool.true else !L.validOutline (L.Sq.mk q.n fun (i : Nat) ↦ q.g i)) = Bool.true → L.conN p q = (0 : Nat) ∧ (1 : Int) = L.conE p q) ∧ ((bif !L.validOutline (L.Sq.mk p.n fun (i : Nat) ↦ p.g i) then Bool.true else !L.validOutline
 (L.Sq.mk q.n fun (i : Nat) ↦ q.g i)) = Bool.false → ((!Decidable.decide ((↑p.n : Int) = (↑q.n : Int))) = Bool.true → L.conN p q = (0 : Nat) ∧ (0 : Int) = L.conE p q) ∧ ((!Decidable.decide ((↑p.n : Int) = (↑q.n : Int))) = Bool.false → Go.SE.InK Go.IntKind.i64 ((2 : Int) * (↑p.n : Int)) ∧ (∃ (g : Nat), (0 : Int) = (↑g : Int) ∧ (nat_lit 0 = L.cnt (L.conK p q) g ∧ ∀ (i : Nat), i < nat_lit 0 → [] =
 [Go.SE.SV.int Go.IntKind.i64 (L.sett (L.selN (L.conK p q) g i)).shift, Go.SE.SV.bool (L.sett (L.selN (L.conK p q) g i)).back]) ∧ g ≤ (2 : Nat) * p.n) ∧ ∀ (g : Nat), g ≤ (2 : Nat) * p.n → (Decidable.decide ((↑g : Int) < (2 : Int) * (↑p.n : Int)) = Bool.true → (2 : Int) ≠ (0 : Int) ∧ Go.SE.InK Go.IntKind.i64 (Int.tdiv (↑g : Int) (2 : Int)) ∧ (2 : Int) ≠ (0 : Int) ∧ ((∀ (i : Nat), i < p.n →
 [Go.SE.SV.int Go.IntKind.i64 (p.g i).x, Go.SE.SV.int Go.IntKind.i64 (p.g i).y] = [Go.SE.SV.int Go.IntKind.i64 (p.g i).x, Go.SE.SV.int Go.IntKind.i64 (p.g i).y]) ∧ (∀ (i : Nat), i < q.n → [Go.SE.SV.int Go.IntKind.i64 (q.g i).x, Go.SE.SV.int Go.IntKind.i64 (q.g i).y] = [Go.SE.SV.int Go.IntKind.i64 (q.g i).x, Go.SE.SV.int Go.IntKind.i64 (q.g i).y]) ∧ L.allBd (L.Sq.mk p.n fun (i : Nat) ↦ p.g i) ∧
 L.allBd (L.Sq.mk q.n fun (i : Nat) ↦ q.g i) ∧ p.n = q.n ∧ (1 : Nat) ≤ p.n ∧ (0 : Int) ≤ Int.tdiv (↑g : Int) (2 : Int) ∧ Int.tdiv (↑g : Int) (2 : Int) < (↑p.n : Int)) ∧ (L.congr (L.Sq.mk p.n fun (i : Nat) ↦ p.g i) (L.Sq.mk q.n fun (i : Nat) ↦ q.g i) (L.Setting.mk (Int.tdiv (↑g : Int) (2 : Int)) (Decidable.decide (Int.tmod (↑g : Int) (2 : Int) = (1 : Int)))) = Bool.true → (L.cnt (L.conK p q) g +
 nat_lit 1) * nat_lit 16 ≤ (140737488355328 : Nat) ∧ Go.SE.InK Go.IntKind.i64 ((↑g : Int) + (1 : Int)) ∧ ∃ (g' : Nat), (↑g : Int) + (1 : Int) = (↑g' : Int) ∧ (2 : Int) * (↑p.n : Int) = (2 : Int) * (↑p.n : Int) ∧ (p.n = p.n ∧ ∀ (i : Nat), i < p.n → [Go.SE.SV.int Go.IntKind.i64 (p.g i).x, Go.SE.SV.int Go.IntKind.i64 (p.g i).y] = [Go.SE.SV.int Go.IntKind.i64 (p.g i).x, Go.SE.SV.int Go.IntKind.i64 (p.g
 i).y]) ∧ (q.n = q.n ∧ ∀ (i : Nat), i < q.n → [Go.SE.SV.int Go.IntKind.i64 (q.g i).x, Go.SE.SV.int Go.IntKind.i64 (q.g i).y] = [Go.SE.SV.int Go.IntKind.i64 (q.g i).x, Go.SE.SV.int Go.IntKind.i64 (q.g i).y]) ∧ (L.cnt (L.conK p q) g + nat_lit 1 = L.cnt (L.conK p q) g' ∧ ∀ (i : Nat), i < L.cnt (L.conK p q) g + nat_lit 1 → Go.SE.appGet (L.cnt (L.conK p q) g) (fun (k : Nat) ↦ [Go.SE.SV.int
 Go.IntKind.i64 (L.sett (L.selN (L.conK p q) g k)).shift, Go.SE.SV.bool (L.sett (L.selN (L.conK p q) g k)).back]) (fun (x : Nat) ↦ [Go.SE.SV.int Go.IntKind.i64 (Int.tdiv (↑g : Int) (2 : Int)), Go.SE.SV.bool (Decidable.decide (Int.tmod (↑g : Int) (2 : Int) = (1 : Int)))]) i = [Go.SE.SV.int Go.IntKind.i64 (L.sett (L.selN (L.conK p q) g' i)).shift, Go.SE.SV.bool (L.sett (L.selN (L.conK p q) g'
 i)).back]) ∧ g' ≤ (2 : Nat) * p.n ∧ (2 : Nat) * p.n - g' < (2 : Nat) * p.n - g) ∧ (L.congr (L.Sq.mk p.n fun (i : Nat) ↦ p.g i) (L.Sq.mk q.n fun (i : Nat) ↦ q.g i) (L.Setting.mk (Int.tdiv (↑g : Int) (2 : Int)) (Decidable.decide (Int.tmod (↑g : Int) (2 : Int) = (1 : Int)))) = Bool.false → Go.SE.InK Go.IntKind.i64 ((↑g : Int) + (1 : Int)) ∧ ∃ (g' : Nat), (↑g : Int) + (1 : Int) = (↑g' : Int) ∧ (2 :
 Int) * (↑p.n : Int) = (2 : Int) * (↑p.n : Int) ∧ (p.n = p.n ∧ ∀ (i : Nat), i < p.n → [Go.SE.SV.int Go.IntKind.i64 (p.g i).x, Go.SE.SV.int Go.IntKind.i64 (p.g i).y] = [Go.SE.SV.int Go.IntKind.i64 (p.g i).x, Go.SE.SV.int Go.IntKind.i64 (p.g i).y]) ∧ (q.n = q.n ∧ ∀ (i : Nat), i < q.n → [Go.SE.SV.int Go.IntKind.i64 (q.g i).x, Go.SE.SV.int Go.IntKind.i64 (q.g i).y] = [Go.SE.SV.int Go.IntKind.i64 (q.g
 i).x, Go.SE.SV.int Go.IntKind.i64 (q.g i).y]) ∧ (L.cnt (L.conK p q) g = L.cnt (L.conK p q) g' ∧ ∀ (i : Nat), i < L.cnt (L.conK p q) g → [Go.SE.SV.int Go.IntKind.i64 (L.sett (L.selN (L.conK p q) g i)).shift, Go.SE.SV.bool (L.sett (L.selN (L.conK p q) g i)).back] = [Go.SE.SV.int Go.IntKind.i64 (L.sett (L.selN (L.conK p q) g' i)).shift, Go.SE.SV.bool (L.sett (L.selN (L.conK p q) g' i)).back]) ∧ g' ≤
 (2 : Nat) * p.n ∧ (2 : Nat) * p.n - g' < (2 : Nat) * p.n - g)) ∧ (Decidable.decide ((↑g : Int) < (2 : Int) * (↑p.n : Int)) = Bool.false → (L.cnt (L.conK p q) g = L.conN p q ∧ ∀ (i : Nat), i < L.cnt (L.conK p q) g → [Go.SE.SV.int Go.IntKind.i64 (L.sett (L.selN (L.conK p q) g i)).shift, Go.SE.SV.bool (L.sett (L.selN (L.conK p q) g i)).back] = [Go.SE.SV.int Go.IntKind.i64 (L.conG p q i).shift,
 Go.SE.SV.bool (L.conG p q i).back]) ∧ (0 : Int) = L.conE p q)))) (by kernel_rfl) (by
    obtain ⟨h1, h2⟩ := hp
    refine ⟨⟨fun _ _ => rfl, h1⟩, fun _ => ⟨fun _ _ => rfl, h2⟩, fun h => ?_, fun h => ⟨fun h3 => ?_, fun h3 => ?_⟩⟩
    · have h : (bif !L.validOutline p then true else !L.validOutline q) = true := h
      have e : L.conE p q = 1 := by unfold L.conE; rw [h]; rfl
      unfold L.conN; rw [e]; exact ⟨rfl, rfl⟩
    · have h : (bif !L.validOutline p then true else !L.validOutline q) = false := h
      have e : L.conE p q = 0 := by unfold L.conE; rw [h]; rfl
      unfold L.conN; rw [e, notT h3]; exact ⟨rfl, rfl⟩
    have h : (bif !L.validOutline p then true else !L.validOutline q) = false := h
    have e : L.conE p q = 0 := by unfold L.conE; rw [h]; rfl
    rw [bor, Bool.or_eq_false_iff] at h
    obtain ⟨n3, n24, _, hbp⟩ := validOutline_of (notF h.1)
    obtain ⟨_, _, _, hbq⟩ := validOutline_of (notF h.2)
    have hd := notF h3
    have hn : p.n = q.n := by have := of_decide_eq_true hd; omega
    refine ⟨InK.of (by omega) (by omega), ⟨(0 : Nat), rfl, ⟨rfl, fun i hi => absurd hi (Nat.not_lt_zero _)⟩, Nat.zero_le _⟩, fun k hk' => ⟨fun hlt => ?_, fun hge => ?_⟩⟩
    · have hb : (k : Int) < 2 * (p.n : Int) := of_decide_eq_true hlt
      have hk : k < 2 * p.n := by omega
      have hs := sett_lt hk
      have hc := cnt_le (p := L.conK p q) (n := k)
      refine ⟨by decide, InK.of (by rw [Int.tdiv_eq_ediv_of_nonneg (by omega)]; omega) (by rw [Int.tdiv_eq_ediv_of_nonneg (by omega)]; omega), by decide, ⟨fun _ _ => rfl, fun _ _ => rfl, hbp, hbq, hn, by omega, hs.1, hs.2⟩, fun h5 => ?_, fun h5 => ?_⟩
      · have h5 : L.conK p q k = true := h5
        have c1 := cnt_yes h5
        refine ⟨show (L.cnt (L.conK p q) k + 1) * 16 ≤ 140737488355328 by omega, InK.of (by omega) (by omega), k + 1, by omega, rfl, ⟨rfl, fun _ _ => rfl⟩, ⟨rfl, fun _ _ => rfl⟩, ⟨c1.symm, fun i hi => ?_⟩, by omega, by omega⟩
        have hi : i < L.cnt (L.conK p q) k + 1 := hi
        unfold appGet
        by_cases h' : i < L.cnt (L.conK p q) k
        · rw [if_pos h', selN_old (Nat.ne_of_lt h')]
        · have : i = L.cnt (L.conK p q) k := by omega
          rw [if_neg h', this, selN_new h5]; rfl
      · have h5 : L.conK p q k = false := h5
        exact ⟨InK.of (by omega) (by omega), k + 1, by omega, rfl, ⟨rfl, fun _ _ => rfl⟩, ⟨rfl, fun _ _ => rfl⟩, ⟨(cnt_not h5).symm, fun i hi => by rw [selN_not h5]⟩, by omega, by omega⟩
    · have hb : ¬ (k : Int) < 2 * (p.n : Int) := of_decide_eq_false hge
      obtain rfl : k = 2 * p.n := by omega
      refine ⟨⟨?_, fun _ _ => rfl⟩, e.symm⟩
      unfold L.conN; rw [e, hd]; rfl)
theorem p_Settings_ok : SpecOk Try.prog 22 p_Settings_S := fnX Try.func22 (c := bodyOf Try.f22) (by kernel_rfl) mixed (fun args p r hs hp => by
  unfold p_Settings_s at hs
  split at hs
  · cases hs; exact ⟨_, _, p_Settings_vc _ _ hp.2.2, (.p (.sl hp.1) (.p (.sl hp.2.1) .nil)), ⟨show SpecsL Try.prog _ from (SpecsL.cons p_ValidOutline_ok p_ValidOutline_en (SpecsL.cons p_congruent_ok p_congruent_en SpecsL.nil)), rfl, ⟨show ItersL Try.prog _ from ItersL.nil, (TrsOk.none (fun _ => rfl))⟩⟩⟩
  · cases hs)
theorem p_Settings_en : Enters Try.prog 22 := fun args w => by kernel_rfl
end Go.Proofs.Ytkklpamllfkbaaa

namespace Go.Proofs.Ytkklpamllfkbaaa
open Go.SE Go.RowKit
set_option maxRecDepth 100000
set_option maxHeartbeats 4000000
set_option linter.unusedVariables false
attribute [local irreducible] Go.SE.vc

def L.ix (n : Nat) (i : Int) : Nat := (Int.tmod (Int.tmod i (n : Int) + (n : Int)) (n : Int)).toNat
theorem tmod_add {m n : Int} (h0 : 0 ≤ m) (h1 : m < n) : Int.tmod (m + n) n = m := by
  rw [Int.tmod_eq_emod_of_nonneg (by omega), Int.add_emod_right, Int.emod_eq_of_lt h0 h1]
theorem ix_self {n k : Nat} (h : k < n) : L.ix n (k : Int) = k := by
  unfold L.ix
  rw [Int.tmod_eq_of_lt (show 0 ≤ (k : Int) by omega) (show (k : Int) < n by omega), tmod_add (by omega) (by omega)]
  omega
theorem ix_next {n k : Nat} (h : k < n) : L.ix n ((k : Int) + 1) = L.next n k := by
  unfold L.ix L.next
  by_cases e : k + 1 < n
  · rw [Int.tmod_eq_of_lt (show 0 ≤ (k : Int) + 1 by omega) (show (k : Int) + 1 < n by omega), tmod_add (by omega) (by omega)]
  · rw [show (k : Int) + 1 = (n : Int) by omega, Int.tmod_self, Int.zero_add, Int.tmod_self]
theorem ix_prev {n k : Nat} (h : k < n) : L.ix n ((k : Int) - 1) = L.prev n k := by
  unfold L.ix L.prev
  by_cases e : 1 ≤ k
  · rw [Int.tmod_eq_of_lt (show 0 ≤ (k : Int) - 1 by omega) (show (k : Int) - 1 < n by omega), show (k : Int) + (n : Int) - 1 = (k : Int) - 1 + n by omega]
  · obtain rfl : k = 0 := by omega
    by_cases e1 : n = 1
    · subst e1; rfl
    · rw [show ((0 : Nat) : Int) - 1 = -(1 : Int) by omega, Int.neg_tmod, Int.tmod_eq_of_lt (show 0 ≤ (1 : Int) by omega) (show (1 : Int) < n by omega), show -(1 : Int) + (n : Int) = ((0 : Nat) : Int) + (n : Int) - 1 by omega]
theorem ix_bd {n : Nat} {i : Int} (h : 0 < n) : 0 ≤ Int.tmod i (n : Int) + (n : Int) ∧ Int.tmod i (n : Int) + (n : Int) ≤ 2 * (n : Int) ∧ 0 ≤ Int.tmod (Int.tmod i (n : Int) + (n : Int)) (n : Int) ∧ Int.tmod (Int.tmod i (n : Int) + (n : Int)) (n : Int) < (n : Int) := by
  have h1 := Int.lt_tmod_of_pos i (show 0 < (n : Int) by omega)
  have h2 := Int.tmod_lt_of_pos i (show 0 < (n : Int) by omega)
  exact ⟨by omega, by omega, Int.tmod_nonneg _ (by omega), Int.tmod_lt_of_pos _ (by omega)⟩
theorem ix_lt {n : Nat} {i : Int} (h : 0 < n) : L.ix n i < n := by
  have := ix_bd (i := i) h
  unfold L.ix; omega
theorem cmpPt_neg {a b : L.Pt} : decide (L.cmpPt a b < 0) = (bif decide (a.x < b.x) then true else bif decide (a.x = b.x) then decide (a.y < b.y) else false) := by
  unfold L.cmpPt L.or2 L.cmp
  rcases Int.lt_trichotomy a.x b.x with h1 | h1 | h1 <;> rcases Int.lt_trichotomy a.y b.y with h2 | h2 | h2 <;> grind
theorem ix_emod {n : Nat} {a : Int} (h : 0 < n) : ((L.ix n a : Nat) : Int) = a % (n : Int) := by
  obtain ⟨q1, q2, q3, q4⟩ := ix_bd (i := a) h
  unfold L.ix
  rw [Int.toNat_of_nonneg q3, Int.tmod_eq_emod_of_nonneg q1, Int.add_emod_right]
  have := Int.tmod_add_mul_tdiv a (n : Int)
  conv => rhs; rw [← this]
  rw [Int.add_mul_emod_self_left]
theorem ix_congr {n : Nat} {a b : Int} (hn : 0 < n) (h : a % (n : Int) = b % (n : Int)) (c : Int) : L.ix n (a + c) = L.ix n (b + c) := by
  have h1 := ix_emod (a := a + c) hn
  have h2 := ix_emod (a := b + c) hn
  rw [← Int.emod_add_emod, h, Int.emod_add_emod] at h1
  omega
theorem ix_ix {n : Nat} {a : Int} (hn : 0 < n) (c : Int) : L.ix n (((L.ix n a : Nat) : Int) + c) = L.ix n (a + c) :=
  ix_congr hn (by rw [ix_emod hn, Int.emod_emod]) c
theorem outline_all {l : L.Sq L.Pt} (hv : L.validOutline l = true) : (∀ i, i < l.n → L.validPt (l.g i) = true) ∧ ∀ i, i < l.n → L.cross (l.g (L.prev l.n i)) (l.g i) (l.g (L.next l.n i)) ≠ 0 := by
  unfold L.validOutline at hv
  rw [Bool.and_eq_true, Bool.and_eq_true] at hv
  constructor
  · have h := hv.1
    unfold L.valid3 at h
    cases h2 : L.validPts l with
    | true => exact allB_iff.1 h2
    | false =>
      rw [h2] at h
      revert h
      cases L.within (l.n : Int) 3 24 <;> intro h <;> cases h
  · intro i hi e
    have h := allB_iff.1 hv.2.1 i hi
    unfold L.corner at h
    rw [decide_eq_true e] at h
    cases h
def r1_ValidPoint_p (p : L.Pt) : Prop := True
def r1_ValidPoint_r (p : L.Pt) : SV := .bool (L.validPt p)
def r1_ValidPoint_s : List EV → Option (Prop × SV)
  | [.p (.agg [.int .i64 p_x, .int .i64 p_y])] => some (r1_ValidPoint_p (⟨p_x, p_y⟩ : L.Pt), r1_ValidPoint_r (⟨p_x, p_y⟩ : L.Pt))
  | _ => none
abbrev r1_ValidPoint_S : SE.Spec := (specO r1_ValidPoint_s)
def r1_ValidPoint_C : Cfg := { muts := [], frz := lookN [], specs := lookS [], loops := lookL [], iters := lookI [], rfs := lookR [], nils := lookM [] }
theorem r1_ValidPoint_vc (p : L.Pt) (hp : r1_ValidPoint_p p) : vc Try.prog (r1_ValidPoint_C) (bodyOf Try.f14) (st0 Try.f14 [.p (.agg [.int .i64 p.x, .int .i64 p.y])]) (retFn Try.prog Try.f14 (r1_ValidPoint_r p)) :=
  @Eq.mpr _ ((bif bif bif Decidable.decide ((0 : Int) ≤ p.x) then Decidable.decide (p.x ≤ (4096 : Int)) else Bool.false then Decidable.decide ((0 : Int) ≤ p.y) else Bool.false then Decidable.decide (p.y ≤ (4096 : Int)) else Bool.false) = L.validPt p) (by kernel_rfl) (by
    unfold L.validPt L.within
    rw [band, band, band]
    cases decide (0 ≤ p.x) <;> cases decide (p.x ≤ 4096) <;> cases decide (0 ≤ p.y) <;> cases decide (p.y ≤ 4096) <;> rfl)
theorem r1_ValidPoint_ok : SpecOk Try.prog 14 r1_ValidPoint_S := fnX Try.func14 (c := bodyOf Try.f14) (by kernel_rfl) mixed (fun args p r hs hp => by
  unfold r1_ValidPoint_s at hs
  split at hs
  · cases hs; exact ⟨_, _, r1_ValidPoint_vc _ hp, (.same _ .nil), ⟨show SpecsL Try.prog _ from SpecsL.nil, rfl, ⟨show ItersL Try.prog _ from ItersL.nil, (TrsOk.none (fun _ => rfl))⟩⟩⟩
  · cases hs)
theorem r1_ValidPoint_en : Enters Try.prog 14 := fun args w => by kernel_rfl
theorem r1_ValidPoint_B : ∀ args p r, r1_ValidPoint_s args = some (p, r) → ∃ b, r = .bool b := by
  intro args p r h
  unfold r1_ValidPoint_s at h
  split at h
  · cases h; exact ⟨_, rfl⟩
  · cases h
def r1_points_p (l : (L.Sq L.Pt)) : Prop := l.n ≤ 1000000
def r1_points_r (l : (L.Sq L.Pt)) : SV := .bool (L.validPts l)
def r1_points_s : List EV → Option (Prop × SV)
  | [.p (.sl 2 l_n l_g)] => some ((∀ i, i < l_n → l_g i = [.int .i64 ((ofPt (l_g i)).x), .int .i64 ((ofPt (l_g i)).y)]) ∧ r1_points_p (⟨l_n, fun i => ofPt (l_g i)⟩ : (L.Sq L.Pt)), r1_points_r (⟨l_n, fun i => ofPt (l_g i)⟩ : (L.Sq L.Pt)))
  | _ => none
abbrev r1_points_S : SE.Spec := (specO r1_points_s)
def r1_points_C : Cfg := { muts := [], frz := lookN [], specs := lookS [(14, r1_ValidPoint_S)], loops := fun _ => none, iters := lookI [], rfs := lookR [], nils := lookM [] }
theorem r1_points_vc (l : (L.Sq L.Pt)) (hp : r1_points_p l) : vc Try.prog ({ r1_points_C with loops := lookL [(2, { T := Nat, keep := [0], keepO := [], chg := fun i => [(3, .p (.int .i64 (i : Int)))], own := fun _ => [], inv := fun i => i ≤ l.n ∧ ∀ j, j < i → L.validPt (l.g j) = true, mu := fun i => l.n - i })], rfs := lookR [] }) (bodyOf Try.f70) (st0 Try.f70 [.p (.sl 2 l.n (fun i => [.int .i64 ((l.g i).x), .int .i64 ((l.g i).y)]))]) (retFn Try.prog Try.f70 (r1_points_r l)) :=
  @Eq.mpr _ ((∃ (g : Nat), (0 : Int) = (↑g : Int) ∧ g ≤ l.n ∧ ∀ (j : Nat), j < g → L.validPt (l.g j) = Bool.true) ∧ ∀ (g : Nat), (g ≤ l.n ∧ ∀ (j : Nat), j < g → L.validPt (l.g j) = Bool.true) → (Decidable.decide ((↑g : Int) < (↑l.n : Int)) = Bool.true → ((0 : Int) ≤ (↑g : Int) ∧ (↑g : Int) < (↑l.n : Int)) ∧ True ∧ ((!L.validPt (l.g (Int.toNat (↑g : Int)))) = Bool.true → Bool.false = L.validPts l) ∧
 ((!L.validPt (l.g (Int.toNat (↑g : Int)))) = Bool.false → Go.SE.InK Go.IntKind.i64 ((↑g : Int) + (1 : Int)) ∧ ∃ (g' : Nat), (↑g : Int) + (1 : Int) = (↑g' : Int) ∧ (l.n = l.n ∧ ∀ (i : Nat), i < l.n → [Go.SE.SV.int Go.IntKind.i64 (l.g i).x, Go.SE.SV.int Go.IntKind.i64 (l.g i).y] = [Go.SE.SV.int Go.IntKind.i64 (l.g i).x, Go.SE.SV.int Go.IntKind.i64 (l.g i).y]) ∧ (g' ≤ l.n ∧ ∀ (j : Nat), j < g' →
 L.validPt (l.g j) = Bool.true) ∧ l.n - g' < l.n - g)) ∧ (Decidable.decide ((↑g : Int) < (↑l.n : Int)) = Bool.false → Bool.true = L.validPts l)) (by kernel_rfl) (by
    have hn : l.n ≤ 1000000 := hp
    refine ⟨⟨(0 : Nat), rfl, Nat.zero_le _, fun j hj => absurd hj (Nat.not_lt_zero _)⟩, fun g hg => ⟨fun hlt => ?_, fun hge => ?_⟩⟩
    · have hb : (g : Int) < (l.n : Int) := of_decide_eq_true hlt
      have e0 : ((g : Int)).toNat = g := by omega
      rw [e0]
      refine ⟨by omega, trivial, fun h1 => ?_, fun h1 => ?_⟩
      · unfold L.validPts; rw [allB_false (i := g) (by omega) (notT h1)]
      · exact ⟨InK.of (by omega) (by omega), g + 1, by omega, ⟨rfl, fun _ _ => rfl⟩, ⟨by omega, fun j hj => by
          rcases Nat.lt_succ_iff_lt_or_eq.1 hj with h' | rfl
          · exact hg.2 j h'
          · exact notF h1⟩, by omega⟩
    · have hb : ¬ (g : Int) < (l.n : Int) := of_decide_eq_false hge
      exact (allB_iff.2 (fun i hi => hg.2 i (by omega))).symm)
theorem r1_points_ok : SpecOk Try.prog 70 r1_points_S := fnX Try.func70 (c := bodyOf Try.f70) (by kernel_rfl) mixed (fun args p r hs hp => by
  unfold r1_points_s at hs
  split at hs
  · cases hs; exact ⟨_, _, r1_points_vc _ hp.2, (.p (.sl hp.1) .nil), ⟨show SpecsL Try.prog _ from (SpecsL.cons r1_ValidPoint_ok r1_ValidPoint_en SpecsL.nil), rfl, ⟨show ItersL Try.prog _ from ItersL.nil, (TrsOk.none (fun _ => rfl))⟩⟩⟩
  · cases hs)
theorem r1_points_en : Enters Try.prog 70 := fun args w => by kernel_rfl
theorem r1_points_B : ∀ args p r, r1_points_s args = some (p, r) → ∃ b, r = .bool b := by
  intro args p r h
  unfold r1_points_s at h
  split at h
  · cases h; exact ⟨_, rfl⟩
  · cases h
def r1_Cross_p (a : L.Pt) (b : L.Pt) (c : L.Pt) : Prop := L.bd a ∧ L.bd b ∧ L.bd c
def r1_Cross_r (a : L.Pt) (b : L.Pt) (c : L.Pt) : SV := .int .i64 (L.cross a b c)
def r1_Cross_s : List EV → Option (Prop × SV)
  | [.p (.agg [.int .i64 a_x, .int .i64 a_y]), .p (.agg [.int .i64 b_x, .int .i64 b_y]), .p (.agg [.int .i64 c_x, .int .i64 c_y])] => some (r1_Cross_p (⟨a_x, a_y⟩ : L.Pt) (⟨b_x, b_y⟩ : L.Pt) (⟨c_x, c_y⟩ : L.Pt), r1_Cross_r (⟨a_x, a_y⟩ : L.Pt) (⟨b_x, b_y⟩ : L.Pt) (⟨c_x, c_y⟩ : L.Pt))
  | _ => none
abbrev r1_Cross_S : SE.Spec := (specO r1_Cross_s)
def r1_Cross_C : Cfg := { muts := [], frz := lookN [], specs := lookS [], loops := lookL [], iters := lookI [], rfs := lookR [], nils := lookM [] }
theorem r1_Cross_vc (a : L.Pt) (b : L.Pt) (c : L.Pt) (hp : r1_Cross_p a b c) : vc Try.prog (r1_Cross_C) (bodyOf Try.f36) (st0 Try.f36 [.p (.agg [.int .i64 a.x, .int .i64 a.y]), .p (.agg [.int .i64 b.x, .int .i64 b.y]), .p (.agg [.int .i64 c.x, .int .i64 c.y])]) (retFn Try.prog Try.f36 (r1_Cross_r a b c)) :=
  @Eq.mpr _ (Go.SE.InK Go.IntKind.i64 (b.x - a.x) ∧ Go.SE.InK Go.IntKind.i64 (c.y - a.y) ∧ Go.SE.InK Go.IntKind.i64 ((b.x - a.x) * (c.y - a.y)) ∧ Go.SE.InK Go.IntKind.i64 (b.y - a.y) ∧ Go.SE.InK Go.IntKind.i64 (c.x - a.x) ∧ Go.SE.InK Go.IntKind.i64 ((b.y - a.y) * (c.x - a.x)) ∧ Go.SE.InK Go.IntKind.i64 ((b.x - a.x) * (c.y - a.y) - (b.y - a.y) * (c.x - a.x)) ∧ (b.x - a.x) * (c.y - a.y) - (b.y - a.y) * (c.x -
 a.x) = L.cross a b c) (by kernel_rfl) (by
    obtain ⟨h1, h2, h3⟩ := hp
    unfold L.bd at h1 h2 h3
    have m1 := mul_bd (a := b.x - a.x) (b := c.y - a.y) (m := 8000000) (n := 8000000) (by omega) (by omega) (by omega) (by omega)
    have m2 := mul_bd (a := b.y - a.y) (b := c.x - a.x) (m := 8000000) (n := 8000000) (by omega) (by omega) (by omega) (by omega)
    exact ⟨InK.of (by omega) (by omega), InK.of (by omega) (by omega), InK.of (by omega) (by omega), InK.of (by omega) (by omega), InK.of (by omega) (by omega), InK.of (by omega) (by omega), InK.of (by omega) (by omega), rfl⟩)
theorem r1_Cross_ok : SpecOk Try.prog 36 r1_Cross_S := fnX Try.func36 (c := bodyOf Try.f36) (by kernel_rfl) mixed (fun args p r hs hp => by
  unfold r1_Cross_s at hs
  split at hs
  · cases hs; exact ⟨_, _, r1_Cross_vc _ _ _ hp, (.same _ (.same _ (.same _ .nil))), ⟨show SpecsL Try.prog _ from SpecsL.nil, rfl, ⟨show ItersL Try.prog _ from ItersL.nil, (TrsOk.none (fun _ => rfl))⟩⟩⟩
  · cases hs)
theorem r1_Cross_en : Enters Try.prog 36 := fun args w => by kernel_rfl
theorem r1_Cross_I : ∀ args p r, r1_Cross_s args = some (p, r) → ∃ n, r = .int .i64 n := by
  intro args p r h
  unfold r1_Cross_s at h
  split at h
  · cases h; exact ⟨_, rfl⟩
  · cases h
def r1_Dist_p (a : L.Pt) (b : L.Pt) : Prop := L.bd a ∧ L.bd b
def r1_Dist_r (a : L.Pt) (b : L.Pt) : SV := .int .i64 (L.dist a b)
def r1_Dist_s : List EV → Option (Prop × SV)
  | [.p (.agg [.int .i64 a_x, .int .i64 a_y]), .p (.agg [.int .i64 b_x, .int .i64 b_y])] => some (r1_Dist_p (⟨a_x, a_y⟩ : L.Pt) (⟨b_x, b_y⟩ : L.Pt), r1_Dist_r (⟨a_x, a_y⟩ : L.Pt) (⟨b_x, b_y⟩ : L.Pt))
  | _ => none
abbrev r1_Dist_S : SE.Spec := (specO r1_Dist_s)
def r1_Dist_C : Cfg := { muts := [], frz := lookN [], specs := lookS [], loops := lookL [], iters := lookI [], rfs := lookR [], nils := lookM [] }
theorem r1_Dist_vc (a : L.Pt) (b : L.Pt) (hp : r1_Dist_p a b) : vc Try.prog (r1_Dist_C) (bodyOf Try.f39) (st0 Try.f39 [.p (.agg [.int .i64 a.x, .int .i64 a.y]), .p (.agg [.int .i64 b.x, .int .i64 b.y])]) (retFn Try.prog Try.f39 (r1_Dist_r a b)) :=
  @Eq.mpr _ (Go.SE.InK Go.IntKind.i64 (a.x - b.x) ∧ Go.SE.InK Go.IntKind.i64 (a.x - b.x) ∧ Go.SE.InK Go.IntKind.i64 ((a.x - b.x) * (a.x - b.x)) ∧ Go.SE.InK Go.IntKind.i64 (a.y - b.y) ∧ Go.SE.InK Go.IntKind.i64 (a.y - b.y) ∧ Go.SE.InK Go.IntKind.i64 ((a.y - b.y) * (a.y - b.y)) ∧ Go.SE.InK Go.IntKind.i64 ((a.x - b.x) * (a.x - b.x) + (a.y - b.y) * (a.y - b.y)) ∧ (a.x - b.x) * (a.x - b.x) + (a.y - b.y) * (a.y -
 b.y) = L.dist a b) (by kernel_rfl) (by
    obtain ⟨h1, h2⟩ := hp
    unfold L.bd at h1 h2
    have m1 := mul_bd (a := a.x - b.x) (b := a.x - b.x) (m := 8000000) (n := 8000000) (by omega) (by omega) (by omega) (by omega)
    have m2 := mul_bd (a := a.y - b.y) (b := a.y - b.y) (m := 8000000) (n := 8000000) (by omega) (by omega) (by omega) (by omega)
    refine ⟨InK.of (by omega) (by omega), InK.of (by omega) (by omega), InK.of (by omega) (by omega), InK.of (by omega) (by omega), InK.of (by omega) (by omega), InK.of (by omega) (by omega), InK.of (by omega) (by omega), ?_⟩
    unfold L.dist
    rw [show a.x - b.x = -(b.x - a.x) by omega, show a.y - b.y = -(b.y - a.y) by omega, Int.neg_mul_neg, Int.neg_mul_neg])
theorem r1_Dist_ok : SpecOk Try.prog 39 r1_Dist_S := fnX Try.func39 (c := bodyOf Try.f39) (by kernel_rfl) mixed (fun args p r hs hp => by
  unfold r1_Dist_s at hs
  split at hs
  · cases hs; exact ⟨_, _, r1_Dist_vc _ _ hp, (.same _ (.same _ .nil)), ⟨show SpecsL Try.prog _ from SpecsL.nil, rfl, ⟨show ItersL Try.prog _ from ItersL.nil, (TrsOk.none (fun _ => rfl))⟩⟩⟩
  · cases hs)
theorem r1_Dist_en : Enters Try.prog 39 := fun args w => by kernel_rfl
theorem r1_Dist_I : ∀ args p r, r1_Dist_s args = some (p, r) → ∃ n, r = .int .i64 n := by
  intro args p r h
  unfold r1_Dist_s at h
  split at h
  · cases h; exact ⟨_, rfl⟩
  · cases h
def r1_less_p (a : L.Pt) (b : L.Pt) : Prop := True
def r1_less_r (a : L.Pt) (b : L.Pt) : SV := .bool (decide (L.cmpPt a b < 0))
def r1_less_s : List EV → Option (Prop × SV)
  | [.p (.agg [.int .i64 a_x, .int .i64 a_y]), .p (.agg [.int .i64 b_x, .int .i64 b_y])] => some (r1_less_p (⟨a_x, a_y⟩ : L.Pt) (⟨b_x, b_y⟩ : L.Pt), r1_less_r (⟨a_x, a_y⟩ : L.Pt) (⟨b_x, b_y⟩ : L.Pt))
  | _ => none
abbrev r1_less_S : SE.Spec := (specO r1_less_s)
def r1_less_C : Cfg := { muts := [], frz := lookN [], specs := lookS [], loops := lookL [], iters := lookI [], rfs := lookR [], nils := lookM [] }
theorem r1_less_vc (a : L.Pt) (b : L.Pt) (hp : r1_less_p a b) : vc Try.prog (r1_less_C) (bodyOf Try.f73) (st0 Try.f73 [.p (.agg [.int .i64 a.x, .int .i64 a.y]), .p (.agg [.int .i64 b.x, .int .i64 b.y])]) (retFn Try.prog Try.f73 (r1_less_r a b)) :=
  @Eq.mpr _ ((bif Decidable.decide (a.x < b.x) then Bool.true else bif Decidable.decide (a.x = b.x) then Decidable.decide (a.y < b.y) else Bool.false) = Decidable.decide (L.cmpPt a b < (0 : Int))) (by kernel_rfl) (by
    exact cmpPt_neg.symm)
theorem r1_less_ok : SpecOk Try.prog 73 r1_less_S := fnX Try.func73 (c := bodyOf Try.f73) (by kernel_rfl) mixed (fun args p r hs hp => by
  unfold r1_less_s at hs
  split at hs
  · cases hs; exact ⟨_, _, r1_less_vc _ _ hp, (.same _ (.same _ .nil)), ⟨show SpecsL Try.prog _ from SpecsL.nil, rfl, ⟨show ItersL Try.prog _ from ItersL.nil, (TrsOk.none (fun _ => rfl))⟩⟩⟩
  · cases hs)
theorem r1_less_en : Enters Try.prog 73 := fun args w => by kernel_rfl
theorem r1_less_B : ∀ args p r, r1_less_s args = some (p, r) → ∃ b, r = .bool b := by
  intro args p r h
  unfold r1_less_s at h
  split at h
  · cases h; exact ⟨_, rfl⟩
  · cases h
def r1_On_p (a : L.Pt) (b : L.Pt) (p : L.Pt) : Prop := L.bd a ∧ L.bd b ∧ L.bd p
def r1_On_r (a : L.Pt) (b : L.Pt) (p : L.Pt) : SV := .bool (L.on a b p)
def r1_On_s : List EV → Option (Prop × SV)
  | [.p (.agg [.int .i64 a_x, .int .i64 a_y]), .p (.agg [.int .i64 b_x, .int .i64 b_y]), .p (.agg [.int .i64 p_x, .int .i64 p_y])] => some (r1_On_p (⟨a_x, a_y⟩ : L.Pt) (⟨b_x, b_y⟩ : L.Pt) (⟨p_x, p_y⟩ : L.Pt), r1_On_r (⟨a_x, a_y⟩ : L.Pt) (⟨b_x, b_y⟩ : L.Pt) (⟨p_x, p_y⟩ : L.Pt))
  | _ => none
abbrev r1_On_S : SE.Spec := (specO r1_On_s)
def r1_On_C : Cfg := { muts := [], frz := lookN [], specs := lookS [(36, r1_Cross_S)], loops := lookL [], iters := lookI [], rfs := lookR [], nils := lookM [] }
theorem r1_On_vc (a : L.Pt) (b : L.Pt) (p : L.Pt) (hp : r1_On_p a b p) : vc Try.prog (r1_On_C) (bodyOf Try.f66) (st0 Try.f66 [.p (.agg [.int .i64 a.x, .int .i64 a.y]), .p (.agg [.int .i64 b.x, .int .i64 b.y]), .p (.agg [.int .i64 p.x, .int .i64 p.y])]) (retFn Try.prog Try.f66 (r1_On_r a b p)) :=
  @Eq.mpr _ ((L.bd a ∧ L.bd b ∧ L.bd p) ∧ (bif bif bif bif Decidable.decide (L.cross a b p = (0 : Int)) then Decidable.decide (Min.min a.x b.x ≤ p.x) else Bool.false then Decidable.decide (p.x ≤ Max.max a.x b.x) else Bool.false then Decidable.decide (Min.min a.y b.y ≤ p.y) else Bool.false then Decidable.decide (p.y ≤ Max.max a.y b.y) else Bool.false) = L.on a b p) (by kernel_rfl) (by
    obtain ⟨h1, h2, h3⟩ := hp
    refine ⟨⟨h1, h2, h3⟩, ?_⟩
    unfold L.on L.within
    rw [band, band, band, band]
    cases decide (L.cross a b p = 0) <;> cases decide (min a.x b.x ≤ p.x) <;> cases decide (p.x ≤ max a.x b.x) <;> cases decide (min a.y b.y ≤ p.y) <;> cases decide (p.y ≤ max a.y b.y) <;> rfl)
theorem r1_On_ok : SpecOk Try.prog 66 r1_On_S := fnX Try.func66 (c := bodyOf Try.f66) (by kernel_rfl) mixed (fun args p r hs hp => by
  unfold r1_On_s at hs
  split at hs
  · cases hs; exact ⟨_, _, r1_On_vc _ _ _ hp, (.same _ (.same _ (.same _ .nil))), ⟨show SpecsL Try.prog _ from (SpecsL.cons r1_Cross_ok r1_Cross_en SpecsL.nil), rfl, ⟨show ItersL Try.prog _ from ItersL.nil, (TrsOk.none (fun _ => rfl))⟩⟩⟩
  · cases hs)
theorem r1_On_en : Enters Try.prog 66 := fun args w => by kernel_rfl
theorem r1_On_B : ∀ args p r, r1_On_s args = some (p, r) → ∃ b, r = .bool b := by
  intro args p r h
  unfold r1_On_s at h
  split at h
  · cases h; exact ⟨_, rfl⟩
  · cases h
def r1_sign_p (n : Int) : Prop := True
def r1_sign_r (n : Int) : SV := .int .i64 (L.cmp n 0)
def r1_sign_s : List EV → Option (Prop × SV)
  | [.p (.int .i64 n)] => some (r1_sign_p n, r1_sign_r n)
  | _ => none
abbrev r1_sign_S : SE.Spec := (specO r1_sign_s)
def r1_sign_C : Cfg := { muts := [], frz := lookN [], specs := lookS [], loops := lookL [], iters := lookI [], rfs := lookR [], nils := lookM [] }
theorem r1_sign_vc (n : Int) (hp : r1_sign_p n) : vc Try.prog (r1_sign_C) (bodyOf Try.f35) (st0 Try.f35 [.p (.int .i64 n)]) (retFn Try.prog Try.f35 (r1_sign_r n)) :=
  @Eq.mpr _ ((Decidable.decide ((0 : Int) < n) = Bool.true → (1 : Int) = L.cmp n (0 : Int)) ∧ (Decidable.decide ((0 : Int) < n) = Bool.false → (Decidable.decide (n < (0 : Int)) = Bool.true → (-1 : Int) = L.cmp n (0 : Int)) ∧ (Decidable.decide (n < (0 : Int)) = Bool.false → (0 : Int) = L.cmp n (0 : Int)))) (by kernel_rfl) (by
    refine ⟨fun h => ?_, fun h => ⟨fun h1 => ?_, fun h1 => ?_⟩⟩
    · have h := of_decide_eq_true h
      unfold L.cmp; rw [decide_eq_false (by omega), decide_eq_true h]; rfl
    · have h1 := of_decide_eq_true h1
      unfold L.cmp; rw [decide_eq_true h1]; rfl
    · unfold L.cmp; rw [h1, h]; rfl)
theorem r1_sign_ok : SpecOk Try.prog 35 r1_sign_S := fnX Try.func35 (c := bodyOf Try.f35) (by kernel_rfl) mixed (fun args p r hs hp => by
  unfold r1_sign_s at hs
  split at hs
  · cases hs; exact ⟨_, _, r1_sign_vc _ hp, (.same _ .nil), ⟨show SpecsL Try.prog _ from SpecsL.nil, rfl, ⟨show ItersL Try.prog _ from ItersL.nil, (TrsOk.none (fun _ => rfl))⟩⟩⟩
  · cases hs)
theorem r1_sign_en : Enters Try.prog 35 := fun args w => by kernel_rfl
theorem r1_sign_I : ∀ args p r, r1_sign_s args = some (p, r) → ∃ n, r = .int .i64 n := by
  intro args p r h
  unfold r1_sign_s at h
  split at h
  · cases h; exact ⟨_, rfl⟩
  · cases h
def r1_at_p (l : (L.Sq L.Pt)) (i : Int) : Prop := 1 ≤ l.n ∧ l.n ≤ 1000000 ∧ -1000000 ≤ i ∧ i ≤ 1000000
def r1_at_r (l : (L.Sq L.Pt)) (i : Int) : SV := (.agg [.int .i64 ((l.g (L.ix l.n i)).x), .int .i64 ((l.g (L.ix l.n i)).y)])
def r1_at_s : List EV → Option (Prop × SV)
  | [.p (.sl 2 l_n l_g), .p (.int .i64 i)] => some ((∀ i, i < l_n → l_g i = [.int .i64 ((ofPt (l_g i)).x), .int .i64 ((ofPt (l_g i)).y)]) ∧ r1_at_p (⟨l_n, fun i => ofPt (l_g i)⟩ : (L.Sq L.Pt)) i, r1_at_r (⟨l_n, fun i => ofPt (l_g i)⟩ : (L.Sq L.Pt)) i)
  | _ => none
abbrev r1_at_S : SE.Spec := (specO r1_at_s)
def r1_at_C : Cfg := { muts := [], frz := lookN [], specs := lookS [], loops := lookL [], iters := lookI [], rfs := lookR [], nils := lookM [] }
theorem r1_at_vc (l : (L.Sq L.Pt)) (i : Int) (hp : r1_at_p l i) : vc Try.prog (r1_at_C) (bodyOf Try.f74) (st0 Try.f74 [.p (.sl 2 l.n (fun i => [.int .i64 ((l.g i).x), .int .i64 ((l.g i).y)])), .p (.int .i64 i)]) (retFn Try.prog Try.f74 (r1_at_r l i)) :=
  @Eq.mpr _ ((↑l.n : Int) ≠ (0 : Int) ∧ Go.SE.InK Go.IntKind.i64 (Int.tmod i (↑l.n : Int) + (↑l.n : Int)) ∧ (↑l.n : Int) ≠ (0 : Int) ∧ ((0 : Int) ≤ Int.tmod (Int.tmod i (↑l.n : Int) + (↑l.n : Int)) (↑l.n : Int) ∧ Int.tmod (Int.tmod i (↑l.n : Int) + (↑l.n : Int)) (↑l.n : Int) < (↑l.n : Int)) ∧ Go.SE.SV.agg [Go.SE.SV.int Go.IntKind.i64 (l.g (Int.toNat (Int.tmod (Int.tmod i (↑l.n : Int) + (↑l.n : Int)) (↑l.n :
 Int)))).x, Go.SE.SV.int Go.IntKind.i64 (l.g (Int.toNat (Int.tmod (Int.tmod i (↑l.n : Int) + (↑l.n : Int)) (↑l.n : Int)))).y] = Go.SE.SV.agg [Go.SE.SV.int Go.IntKind.i64 (l.g (L.ix l.n i)).x, Go.SE.SV.int Go.IntKind.i64 (l.g (L.ix l.n i)).y]) (by kernel_rfl) (by
    obtain ⟨h1, h2, h3, h4⟩ := hp
    obtain ⟨q1, q2, q3, q4⟩ := ix_bd (n := l.n) (i := i) (by omega)
    exact ⟨by omega, InK.of (by omega) (by omega), by omega, ⟨q3, q4⟩, rfl⟩)
theorem r1_at_ok : SpecOk Try.prog 74 r1_at_S := fnX Try.func74 (c := bodyOf Try.f74) (by kernel_rfl) mixed (fun args p r hs hp => by
  unfold r1_at_s at hs
  split at hs
  · cases hs; exact ⟨_, _, r1_at_vc _ _ hp.2, (.p (.sl hp.1) (.same _ .nil)), ⟨show SpecsL Try.prog _ from SpecsL.nil, rfl, ⟨show ItersL Try.prog _ from ItersL.nil, (TrsOk.none (fun _ => rfl))⟩⟩⟩
  · cases hs)
theorem r1_at_en : Enters Try.prog 74 := fun args w => by kernel_rfl
def r1_sum_p (l : (L.Sq L.Pt)) : Prop := L.small l
def r1_sum_r (l : (L.Sq L.Pt)) : SV := .int .i64 (L.areaTo l l.n)
def r1_sum_s : List EV → Option (Prop × SV)
  | [.p (.sl 2 l_n l_g)] => some ((∀ i, i < l_n → l_g i = [.int .i64 ((ofPt (l_g i)).x), .int .i64 ((ofPt (l_g i)).y)]) ∧ r1_sum_p (⟨l_n, fun i => ofPt (l_g i)⟩ : (L.Sq L.Pt)), r1_sum_r (⟨l_n, fun i => ofPt (l_g i)⟩ : (L.Sq L.Pt)))
  | _ => none
abbrev r1_sum_S : SE.Spec := (specO r1_sum_s)
def r1_sum_C : Cfg := { muts := [], frz := lookN [], specs := lookS [(74, r1_at_S)], loops := fun _ => none, iters := lookI [], rfs := lookR [], nils := lookM [] }
theorem r1_sum_vc (l : (L.Sq L.Pt)) (hp : r1_sum_p l) : vc Try.prog ({ r1_sum_C with loops := lookL [(3, { T := Nat, keep := [0], keepO := [], chg := fun i => [(3, .p (.int .i64 (L.areaTo l i))), (4, .p (.int .i64 (i : Int)))], own := fun _ => [], inv := fun i => i ≤ l.n, mu := fun i => l.n - i })], rfs := lookR [] }) (bodyOf Try.f72) (st0 Try.f72 [.p (.sl 2 l.n (fun i => [.int .i64 ((l.g i).x), .int .i64 ((l.g i).y)]))]) (retFn Try.prog Try.f72 (r1_sum_r l)) :=
  @Eq.mpr _ ((∃ (g : Nat), (0 : Int) = L.areaTo l g ∧ (0 : Int) = (↑g : Int) ∧ g ≤ l.n) ∧ ∀ (g : Nat), g ≤ l.n → (Decidable.decide ((↑g : Int) < (↑l.n : Int)) = Bool.true → ((∀ (i : Nat), i < l.n → [Go.SE.SV.int Go.IntKind.i64 (l.g i).x, Go.SE.SV.int Go.IntKind.i64 (l.g i).y] = [Go.SE.SV.int Go.IntKind.i64 (l.g i).x, Go.SE.SV.int Go.IntKind.i64 (l.g i).y]) ∧ (1 : Nat) ≤ l.n ∧ l.n ≤ (1000000 : Nat) ∧ (-1000000
 : Int) ≤ (↑g : Int) ∧ (↑g : Int) ≤ (1000000 : Int)) ∧ Go.SE.InK Go.IntKind.i64 ((↑g : Int) + (1 : Int)) ∧ ((∀ (i : Nat), i < l.n → [Go.SE.SV.int Go.IntKind.i64 (l.g i).x, Go.SE.SV.int Go.IntKind.i64 (l.g i).y] = [Go.SE.SV.int Go.IntKind.i64 (l.g i).x, Go.SE.SV.int Go.IntKind.i64 (l.g i).y]) ∧ (1 : Nat) ≤ l.n ∧ l.n ≤ (1000000 : Nat) ∧ (-1000000 : Int) ≤ (↑g : Int) + (1 : Int) ∧ (↑g : Int) + (1 :
 Int) ≤ (1000000 : Int)) ∧ Go.SE.InK Go.IntKind.i64 ((l.g (L.ix l.n (↑g : Int))).x * (l.g (L.ix l.n ((↑g : Int) + (1 : Int)))).y) ∧ Go.SE.InK Go.IntKind.i64 ((l.g (L.ix l.n ((↑g : Int) + (1 : Int)))).x * (l.g (L.ix l.n (↑g : Int))).y) ∧ Go.SE.InK Go.IntKind.i64 ((l.g (L.ix l.n (↑g : Int))).x * (l.g (L.ix l.n ((↑g : Int) + (1 : Int)))).y - (l.g (L.ix l.n ((↑g : Int) + (1 : Int)))).x * (l.g (L.ix l.n
 (↑g : Int))).y) ∧ Go.SE.InK Go.IntKind.i64 (L.areaTo l g + ((l.g (L.ix l.n (↑g : Int))).x * (l.g (L.ix l.n ((↑g : Int) + (1 : Int)))).y - (l.g (L.ix l.n ((↑g : Int) + (1 : Int)))).x * (l.g (L.ix l.n (↑g : Int))).y)) ∧ Go.SE.InK Go.IntKind.i64 ((↑g : Int) + (1 : Int)) ∧ ∃ (g' : Nat), L.areaTo l g + ((l.g (L.ix l.n (↑g : Int))).x * (l.g (L.ix l.n ((↑g : Int) + (1 : Int)))).y - (l.g (L.ix l.n ((↑g :
 Int) + (1 : Int)))).x * (l.g (L.ix l.n (↑g : Int))).y) = L.areaTo l g' ∧ (↑g : Int) + (1 : Int) = (↑g' : Int) ∧ (l.n = l.n ∧ ∀ (i : Nat), i < l.n → [Go.SE.SV.int Go.IntKind.i64 (l.g i).x, Go.SE.SV.int Go.IntKind.i64 (l.g i).y] = [Go.SE.SV.int Go.IntKind.i64 (l.g i).x, Go.SE.SV.int Go.IntKind.i64 (l.g i).y]) ∧ g' ≤ l.n ∧ l.n - g' < l.n - g) ∧ (Decidable.decide ((↑g : Int) < (↑l.n : Int)) =
 Bool.false → L.areaTo l g = L.areaTo l l.n)) (by kernel_rfl) (by
    have hs : L.small l := hp
    have hn := hs.1
    refine ⟨⟨(0 : Nat), rfl, rfl, Nat.zero_le _⟩, fun g hg => ⟨fun hlt => ?_, fun hge => ?_⟩⟩
    · have hb : (g : Int) < (l.n : Int) := of_decide_eq_true hlt
      have hk : g < l.n := by omega
      rw [ix_self hk, ix_next hk]
      have b1 := area_term hs hk
      have b2 := areaTo_bd hs g hg
      exact ⟨⟨fun _ _ => rfl, by omega, by omega, by omega, by omega⟩, InK.of (by omega) (by omega), ⟨fun _ _ => rfl, by omega, by omega, by omega, by omega⟩, InK.of (by omega) (by omega), InK.of (by omega) (by omega), InK.of (by omega) (by omega), InK.of (by omega) (by omega), InK.of (by omega) (by omega), g + 1, rfl, by omega, ⟨rfl, fun _ _ => rfl⟩, by omega, by omega⟩
    · have hb : ¬ (g : Int) < (l.n : Int) := of_decide_eq_false hge
      obtain rfl : g = l.n := by omega
      rfl)
theorem r1_sum_ok : SpecOk Try.prog 72 r1_sum_S := fnX Try.func72 (c := bodyOf Try.f72) (by kernel_rfl) mixed (fun args p r hs hp => by
  unfold r1_sum_s at hs
  split at hs
  · cases hs; exact ⟨_, _, r1_sum_vc _ hp.2, (.p (.sl hp.1) .nil), ⟨show SpecsL Try.prog _ from (SpecsL.cons r1_at_ok r1_at_en SpecsL.nil), rfl, ⟨show ItersL Try.prog _ from ItersL.nil, (TrsOk.none (fun _ => rfl))⟩⟩⟩
  · cases hs)
theorem r1_sum_en : Enters Try.prog 72 := fun args w => by kernel_rfl
theorem r1_sum_I : ∀ args p r, r1_sum_s args = some (p, r) → ∃ n, r = .int .i64 n := by
  intro args p r h
  unfold r1_sum_s at h
  split at h
  · cases h; exact ⟨_, rfl⟩
  · cases h
end Go.Proofs.Ytkklpamllfkbaaa

namespace Go.Proofs.Ytkklpamllfkbaaa
open Go.SE Go.RowKit
set_option maxRecDepth 100000
set_option maxHeartbeats 4000000
set_option linter.unusedVariables false
attribute [local irreducible] Go.SE.vc

def ofSqPt : List SV → L.Sq L.Pt
  | [.sl _ n g] => ⟨n, fun i => ofPt (g i)⟩
  | _ => ⟨0, fun _ => ⟨0, 0⟩⟩
def rowPt : List SV → Prop
  | [.sl 2 n g] => ∀ i, i < n → g i = [.int .i64 (ofPt (g i)).x, .int .i64 (ofPt (g i)).y]
  | _ => False
theorem row_len {l : List SV} (h : rowPt l) : l.length = 1 ∧ Ext (SV.at l 0) (.sl 2 (ofSqPt l).n (fun k => [.int .i64 ((ofSqPt l).g k).x, .int .i64 ((ofSqPt l).g k).y])) := by
  unfold rowPt at h
  split at h
  · rename_i n g
    exact ⟨rfl, .sl h⟩
  · exact h.elim
def L.two (a b : L.Sq L.Pt) (i : Nat) : L.Sq L.Pt := bif decide (i = 0) then a else b
theorem rows_ext {g : Nat → List SV} (h : rowPt (g 0) ∧ rowPt (g 1)) : Ext (.sl 1 2 g) (.sl 1 2 (fun i => [.sl 2 (L.two (ofSqPt (g 0)) (ofSqPt (g 1)) i).n (fun k => [.int .i64 ((L.two (ofSqPt (g 0)) (ofSqPt (g 1)) i).g k).x, .int .i64 ((L.two (ofSqPt (g 0)) (ofSqPt (g 1)) i).g k).y])])) := by
  have key : ∀ i, i < 2 → rowPt (g i) ∧ L.two (ofSqPt (g 0)) (ofSqPt (g 1)) i = ofSqPt (g i) := fun i hi => by
    match i, hi with
    | 0, _ => exact ⟨h.1, rfl⟩
    | 1, _ => exact ⟨h.2, rfl⟩
  refine .sl2 (fun i hi => (row_len (key i hi).1).1.symm) (fun i hi j hj => ?_)
  rw [(row_len (key i hi).1).1] at hj
  obtain rfl : j = 0 := by omega
  rw [(key i hi).2]
  exact (row_len (key i hi).1).2
def L.catTo (c : Nat → L.Sq L.Pt) : Nat → L.Sq L.Pt
  | 0 => ⟨0, fun _ => ⟨0, 0⟩⟩
  | i + 1 => ⟨(L.catTo c i).n + (c i).n, fun k => bif decide (k < (L.catTo c i).n) then (L.catTo c i).g k else (c i).g (k - (L.catTo c i).n)⟩
def L.revTo (l : L.Sq L.Pt) (i k : Nat) : L.Pt := bif decide (k < i) || decide (l.n ≤ k + i) then l.g (l.n - 1 - k) else l.g k
def L.minTo (l : L.Sq L.Pt) : Nat → L.Pt
  | 0 => l.g 0
  | i + 1 => bif decide (L.cmpPt (l.g (i + 1)) (L.minTo l i) < 0) then l.g (i + 1) else L.minTo l i
def L.ptIdx (l : L.Sq L.Pt) (v : L.Pt) : Int := L.idx l.n (fun i => L.same v (l.g i))
def L.flip (l : L.Sq L.Pt) : L.Sq L.Pt := bif decide (L.areaTo l l.n < 0) then ⟨l.n, fun k => l.g (l.n - 1 - k)⟩ else l
def L.minK (l : L.Sq L.Pt) : Nat := (L.ptIdx l (L.minTo l (l.n - 1))).toNat
def L.rot (l : L.Sq L.Pt) (d : Nat) : L.Sq L.Pt := ⟨l.n, fun k => bif decide (k < l.n - d) then l.g (d + k) else l.g (k - (l.n - d))⟩
def L.norm (l : L.Sq L.Pt) : L.Sq L.Pt := ⟨l.n, fun k => (L.rot (L.flip l) (L.minK (L.flip l))).g k⟩
theorem same_eq {a b : L.Pt} (h : L.same a b = true) : a = b := by
  unfold L.same at h
  rw [Bool.and_eq_true, decide_eq_true_eq, decide_eq_true_eq] at h
  cases a; cases b
  simp only at h
  rw [h.1, h.2]
theorem same_refl (a : L.Pt) : L.same a a = true := by simp [L.same]
theorem ptIdx_of {l : L.Sq L.Pt} {j : Nat} (hj : j < l.n) : ∃ i, i ≤ j ∧ L.ptIdx l (l.g j) = (i : Int) ∧ l.g i = l.g j ∧ ∀ k, k < i → l.g k ≠ l.g j := by
  unfold L.ptIdx
  rcases idx_cases (f := fun i => L.same (l.g j) (l.g i)) (n := l.n) with ⟨_, h2⟩ | ⟨i, h1, h2, h3, h4⟩
  · have := h2 j hj
    rw [same_refl] at this; cases this
  · refine ⟨i, ?_, h2, (same_eq h3).symm, fun k hk e => ?_⟩
    · rcases Nat.lt_or_ge j i with h | h
      · have := h4 j h
        rw [same_refl] at this; cases this
      · exact h
    · have := h4 k hk
      rw [e, same_refl] at this; cases this
theorem cmpPt_lt {a b : L.Pt} : L.cmpPt a b < 0 ↔ a.x < b.x ∨ (a.x = b.x ∧ a.y < b.y) := by
  unfold L.cmpPt L.or2 L.cmp
  by_cases h1 : a.x < b.x
  · simp [h1]
  · by_cases h2 : b.x < a.x
    · simp [h1, h2]; omega
    · by_cases h3 : a.y < b.y
      · simp [h1, h2, h3]; try omega
      · by_cases h4 : b.y < a.y
        · simp [h1, h2, h3, h4]
        · simp [h1, h2, h3, h4]
def s_grow_p (s : Nat) (n : Int) : Prop := 1 ≤ n ∧ n ≤ 2000000
def s_grow_q (s : Nat) (n : Int) : Nat → Prop := fun _ => True
def s_grow_n (s : Nat) (n : Int) : Nat → Nat := fun _ => 0
def s_grow_g (s : Nat) (n : Int) : Nat → Nat → List SV := fun _ _ => []
def s_grow_s : List EV → Option (Prop × (Nat → Prop) × (Nat → Nat) × (Nat → Nat → List SV))
  | [.p (.raw (.slice none 0 0)), .p (.int .i64 n)] => some (s_grow_p (0 : Nat) n, s_grow_q (0 : Nat) n, s_grow_n (0 : Nat) n, s_grow_g (0 : Nat) n)
  | _ => none
abbrev s_grow_S : SE.Spec := (specF Nat 0 23 2 s_grow_s)
def s_grow_C : Cfg := { muts := [22], frz := lookN [], specs := lookS [], loops := lookL [], iters := lookI [], rfs := lookR [], nils := lookM [], cuts := [25] }
theorem s_grow_vc (s : Nat) (n : Int) (hp : s_grow_p s n) : vc Try.prog (s_grow_C) (bodyOf Try.f97) (st0 Try.f97 [.p (.raw (.slice none 0 0)), .p (.int .i64 n)]) (retFresh Try.prog Try.f97 (Nat) (s_grow_q s n) 23 2 (s_grow_n s n) (s_grow_g s n)) :=
  @Eq.mpr _ ((Decidable.decide (n < (0 : Int)) = Bool.true → False) ∧ (Decidable.decide (n < (0 : Int)) = Bool.false → Go.SE.InK Go.IntKind.i64 ((↑(0 : Nat) : Int) - (↑(0 : Nat) : Int)) ∧ Go.SE.InK Go.IntKind.i64 (n - ((↑(0 : Nat) : Int) - (↑(0 : Nat) : Int))) ∧ (Decidable.decide ((0 : Int) < n - ((↑(0 : Nat) : Int) - (↑(0 : Nat) : Int))) = Bool.true → ((0 : Int) ≤ (0 : Int) ∧ (0 : Int) ≤ (↑(0 : Nat) : Int) ∧
 (↑(0 : Nat) : Int) ≤ (0 : Int)) ∧ ((0 : Int) < n - ((↑(0 : Nat) : Int) - (↑(0 : Nat) : Int)) ∧ (n - ((↑(0 : Nat) : Int) - (↑(0 : Nat) : Int))) * (↑(nat_lit 16) : Int) ≤ (140737488355328 : Int)) ∧ ((0 : Int) ≤ (↑(0 : Nat) : Int) ∧ (↑(0 : Nat) : Int) ≤ (↑(Int.toNat (n - ((↑(0 : Nat) : Int) - (↑(0 : Nat) : Int)))) : Int)) ∧ ∃ (t : Nat), (nat_lit 0 = (0 : Nat) ∧ ∀ (i : Nat), i < nat_lit 0 →
 [Go.SE.SV.int Go.IntKind.i64 (0 : Int), Go.SE.SV.int Go.IntKind.i64 (0 : Int)] = []) ∧ True) ∧ (Decidable.decide ((0 : Int) < n - ((↑(0 : Nat) : Int) - (↑(0 : Nat) : Int))) = Bool.false → ∃ (t : Nat), (0 : Nat) = (0 : Nat) ∧ True))) (by kernel_rfl) (by
    obtain ⟨h1, h2⟩ := hp
    refine ⟨fun h => ?_, fun _ => ⟨InK.of (by omega) (by omega), InK.of (by omega) (by omega), fun h => ⟨⟨by omega, by omega, by omega⟩, ⟨by omega, show (n - (((0 : Nat) : Int) - ((0 : Nat) : Int))) * 16 ≤ 140737488355328 by omega⟩, ⟨by omega, by omega⟩, (0 : Nat), ⟨rfl, fun i hi => absurd hi (Nat.not_lt_zero _)⟩, trivial⟩, fun h => ⟨(0 : Nat), rfl, trivial⟩⟩⟩
    have := of_decide_eq_true h
    omega)
theorem s_grow_ok : SpecOk Try.prog 97 s_grow_S := freshX Try.func97 (c := bodyOf Try.f97) (by kernel_rfl) mixed (fun args p q n g hs hp => by
  unfold s_grow_s at hs
  split at hs
  · cases hs; exact ⟨_, _, s_grow_vc _ _ hp, (.same _ (.same _ .nil)), ⟨show SpecsL Try.prog _ from SpecsL.nil, rfl, ⟨show ItersL Try.prog _ from ItersL.nil, (TrsOk.none (fun _ => rfl))⟩⟩⟩
  · cases hs)
theorem s_grow_en : Enters Try.prog 97 := fun args w => by kernel_rfl
def s_concat_p (c : (Nat → L.Sq L.Pt)) : Prop := 1 ≤ (c 0).n + (c 1).n ∧ (c 0).n ≤ 1000000 ∧ (c 1).n ≤ 1000000
def s_concat_q (c : (Nat → L.Sq L.Pt)) : Nat → Prop := fun _ => True
def s_concat_n (c : (Nat → L.Sq L.Pt)) : Nat → Nat := fun _ => (L.catTo c 2).n
def s_concat_g (c : (Nat → L.Sq L.Pt)) : Nat → Nat → List SV := fun _ k => [.int .i64 (((L.catTo c 2).g k).x), .int .i64 (((L.catTo c 2).g k).y)]
def s_concat_s : List EV → Option (Prop × (Nat → Prop) × (Nat → Nat) × (Nat → Nat → List SV))
  | [.p (.sl 1 2 c_g)] => some ((rowPt (c_g 0) ∧ rowPt (c_g 1)) ∧ s_concat_p (L.two (ofSqPt (c_g 0)) (ofSqPt (c_g 1))), s_concat_q (L.two (ofSqPt (c_g 0)) (ofSqPt (c_g 1))), s_concat_n (L.two (ofSqPt (c_g 0)) (ofSqPt (c_g 1))), s_concat_g (L.two (ofSqPt (c_g 0)) (ofSqPt (c_g 1))))
  | _ => none
abbrev s_concat_S : SE.Spec := (specF Nat 0 23 2 s_concat_s)
def s_concat_C : Cfg := { muts := [24], frz := lookN [], specs := lookS [(97, s_grow_S)], loops := fun _ => none, iters := lookI [], rfs := lookR [], nils := lookM [], raws := [97] }
theorem s_concat_vc (c : (Nat → L.Sq L.Pt)) (hp : s_concat_p c) : vc Try.prog ({ s_concat_C with loops := lookL [(3, { T := Nat, keep := [0, 9, 10], keepO := [], chg := fun i => [(3, .p (.int .i64 ((L.catTo c i).n : Int))), (11, .p (.int .i64 (i : Int)))], own := fun _ => [], inv := fun i => i ≤ 2, mu := fun i => 2 - i }), (11, { T := Nat, keep := [0, 6, 25, 26], keepO := [], chg := fun i => [(27, .p (.int .i64 (i : Int)))], own := fun i => [(24, .row 23 2 (L.catTo c i).n (fun k => [.int .i64 (((L.catTo c i).g k).x), .int .i64 (((L.catTo c i).g k).y)]))], inv := fun i => i ≤ 2, mu := fun i => 2 - i })], rfs := lookR [] }) (bodyOf Try.f88) (st0 Try.f88 [.p (.sl 1 2 (fun i => [.sl 2 (c i).n (fun k => [.int .i64 ((c i).g k).x, .int .i64 ((c i).g k).y])]))]) (retFresh Try.prog Try.f88 (Nat) (s_concat_q c) 23 2 (s_concat_n c) (s_concat_g c)) :=
  @Eq.mpr _ ((∃ (g : Nat), (0 : Int) = (↑(L.catTo c g).n : Int) ∧ (0 : Int) = (↑g : Int) ∧ g ≤ (2 : Nat)) ∧ ∀ (g : Nat), g ≤ (2 : Nat) → (Decidable.decide ((↑g : Int) < (↑(nat_lit 2) : Int)) = Bool.true → ((0 : Int) ≤ (↑g : Int) ∧ (↑g : Int) < (↑(nat_lit 2) : Int)) ∧ Go.SE.InK Go.IntKind.i64 ((↑(L.catTo c g).n : Int) + (↑(c (Int.toNat (↑g : Int))).n : Int)) ∧ (Bool.false = Bool.true → False) ∧ (Bool.false =
 Bool.false → Go.SE.InK Go.IntKind.i64 ((↑g : Int) + (1 : Int)) ∧ ∃ (g' : Nat), (↑(L.catTo c g).n : Int) + (↑(c (Int.toNat (↑g : Int))).n : Int) = (↑(L.catTo c g').n : Int) ∧ (↑g : Int) + (1 : Int) = (↑g' : Int) ∧ (↑(nat_lit 2) : Int) = (↑(nat_lit 2) : Int) ∧ (nat_lit 2 = nat_lit 2 ∧ ∀ (i : Nat), i < nat_lit 2 → [Go.SE.SV.sl (2 : Nat) (c i).n fun (k : Nat) ↦ [Go.SE.SV.int Go.IntKind.i64 ((c i).g
 k).x, Go.SE.SV.int Go.IntKind.i64 ((c i).g k).y]] = [Go.SE.SV.sl (2 : Nat) (c i).n fun (k : Nat) ↦ [Go.SE.SV.int Go.IntKind.i64 ((c i).g k).x, Go.SE.SV.int Go.IntKind.i64 ((c i).g k).y]]) ∧ (nat_lit 2 = nat_lit 2 ∧ ∀ (i : Nat), i < nat_lit 2 → [Go.SE.SV.sl (2 : Nat) (c i).n fun (k : Nat) ↦ [Go.SE.SV.int Go.IntKind.i64 ((c i).g k).x, Go.SE.SV.int Go.IntKind.i64 ((c i).g k).y]] = [Go.SE.SV.sl (2 :
 Nat) (c i).n fun (k : Nat) ↦ [Go.SE.SV.int Go.IntKind.i64 ((c i).g k).x, Go.SE.SV.int Go.IntKind.i64 ((c i).g k).y]]) ∧ g' ≤ (2 : Nat) ∧ (2 : Nat) - g' < (2 : Nat) - g)) ∧ (Decidable.decide ((↑g : Int) < (↑(nat_lit 2) : Int)) = Bool.false → ((1 : Int) ≤ (↑(L.catTo c g).n : Int) ∧ (↑(L.catTo c g).n : Int) ≤ (2000000 : Int)) ∧ ∀ (t : Nat), True → (∃ (g : Nat), (0 : Int) = (↑g : Int) ∧ ((0 : Nat) =
 (L.catTo c g).n ∧ ∀ (i : Nat), i < (0 : Nat) → [] = [Go.SE.SV.int Go.IntKind.i64 ((L.catTo c g).g i).x, Go.SE.SV.int Go.IntKind.i64 ((L.catTo c g).g i).y]) ∧ g ≤ (2 : Nat)) ∧ ∀ (g_1 : Nat), g_1 ≤ (2 : Nat) → (Decidable.decide ((↑g_1 : Int) < (↑(nat_lit 2) : Int)) = Bool.true → ((0 : Int) ≤ (↑g_1 : Int) ∧ (↑g_1 : Int) < (↑(nat_lit 2) : Int)) ∧ ((L.catTo c g_1).n + (c (Int.toNat (↑g_1 : Int))).n) *
 nat_lit 16 ≤ (140737488355328 : Nat) ∧ Go.SE.InK Go.IntKind.i64 ((↑g_1 : Int) + (1 : Int)) ∧ ∃ (g' : Nat), (↑g_1 : Int) + (1 : Int) = (↑g' : Int) ∧ (↑(nat_lit 2) : Int) = (↑(nat_lit 2) : Int) ∧ (nat_lit 2 = nat_lit 2 ∧ ∀ (i : Nat), i < nat_lit 2 → [Go.SE.SV.sl (2 : Nat) (c i).n fun (k : Nat) ↦ [Go.SE.SV.int Go.IntKind.i64 ((c i).g k).x, Go.SE.SV.int Go.IntKind.i64 ((c i).g k).y]] = [Go.SE.SV.sl (2
 : Nat) (c i).n fun (k : Nat) ↦ [Go.SE.SV.int Go.IntKind.i64 ((c i).g k).x, Go.SE.SV.int Go.IntKind.i64 ((c i).g k).y]]) ∧ (nat_lit 2 = nat_lit 2 ∧ ∀ (i : Nat), i < nat_lit 2 → [Go.SE.SV.sl (2 : Nat) (c i).n fun (k : Nat) ↦ [Go.SE.SV.int Go.IntKind.i64 ((c i).g k).x, Go.SE.SV.int Go.IntKind.i64 ((c i).g k).y]] = [Go.SE.SV.sl (2 : Nat) (c i).n fun (k : Nat) ↦ [Go.SE.SV.int Go.IntKind.i64 ((c i).g
 k).x, Go.SE.SV.int Go.IntKind.i64 ((c i).g k).y]]) ∧ ((L.catTo c g_1).n + (c (Int.toNat (↑g_1 : Int))).n = (L.catTo c g').n ∧ ∀ (i : Nat), i < (L.catTo c g_1).n + (c (Int.toNat (↑g_1 : Int))).n → Go.SE.appGet (L.catTo c g_1).n (fun (k : Nat) ↦ [Go.SE.SV.int Go.IntKind.i64 ((L.catTo c g_1).g k).x, Go.SE.SV.int Go.IntKind.i64 ((L.catTo c g_1).g k).y]) (fun (k : Nat) ↦ [Go.SE.SV.int Go.IntKind.i64
 ((c (Int.toNat (↑g_1 : Int))).g k).x, Go.SE.SV.int Go.IntKind.i64 ((c (Int.toNat (↑g_1 : Int))).g k).y]) i = [Go.SE.SV.int Go.IntKind.i64 ((L.catTo c g').g i).x, Go.SE.SV.int Go.IntKind.i64 ((L.catTo c g').g i).y]) ∧ g' ≤ (2 : Nat) ∧ (2 : Nat) - g' < (2 : Nat) - g_1) ∧ (Decidable.decide ((↑g_1 : Int) < (↑(nat_lit 2) : Int)) = Bool.false → ∃ (t : Nat), ((L.catTo c g_1).n = (L.catTo c (2 : Nat)).n ∧
 ∀ (i : Nat), i < (L.catTo c g_1).n → [Go.SE.SV.int Go.IntKind.i64 ((L.catTo c g_1).g i).x, Go.SE.SV.int Go.IntKind.i64 ((L.catTo c g_1).g i).y] = [Go.SE.SV.int Go.IntKind.i64 ((L.catTo c (2 : Nat)).g i).x, Go.SE.SV.int Go.IntKind.i64 ((L.catTo c (2 : Nat)).g i).y]) ∧ True))) (by kernel_rfl) (by
    obtain ⟨h1, h2, h3⟩ := hp
    have hc : ∀ i, i < 2 → (c i).n ≤ 1000000 := fun i hi => by
      match i, hi with
      | 0, _ => exact h2
      | 1, _ => exact h3
    have e1 : (L.catTo c 1).n = 0 + (c 0).n := rfl
    have e2 : (L.catTo c 2).n = 0 + (c 0).n + (c 1).n := rfl
    have ht : ∀ i, i ≤ 2 → (L.catTo c i).n ≤ 2000000 := fun i hi => by
      match i, hi with
      | 0, _ => exact Nat.zero_le _
      | 1, _ => omega
      | 2, _ => omega
    refine ⟨⟨(0 : Nat), rfl, rfl, Nat.zero_le _⟩, fun g hg => ⟨fun hlt => ?_, fun hge => ?_⟩⟩
    · have hb : (g : Int) < 2 := of_decide_eq_true hlt
      have e0 : ((g : Int)).toNat = g := by omega
      have hcg := hc g (by omega)
      have htg := ht g hg
      rw [e0]
      exact ⟨⟨by omega, hb⟩, InK.of (by omega) (by omega), fun h => Bool.false_ne_true h, fun _ => ⟨InK.of (by omega) (by omega), g + 1, by show ((L.catTo c g).n : Int) + ((c g).n : Int) = (((L.catTo c g).n + (c g).n : Nat) : Int); omega, by omega, rfl, ⟨rfl, fun _ _ => rfl⟩, ⟨rfl, fun _ _ => rfl⟩, by omega, by omega⟩⟩
    · have hb : ¬ (g : Int) < 2 := of_decide_eq_false hge
      obtain rfl : g = 2 := by omega
      refine ⟨⟨by omega, by omega⟩, fun _ _ => ⟨⟨(0 : Nat), rfl, ⟨rfl, fun i hi => absurd hi (Nat.not_lt_zero _)⟩, Nat.zero_le _⟩, fun k hk => ⟨fun hlt => ?_, fun hge => ?_⟩⟩⟩
      · have hb : (k : Int) < 2 := of_decide_eq_true hlt
        have e0 : ((k : Int)).toNat = k := by omega
        have hck := hc k (by omega)
        have htk := ht k hk
        rw [e0]
        refine ⟨⟨by omega, hb⟩, show ((L.catTo c k).n + (c k).n) * 16 ≤ 140737488355328 by omega, InK.of (by omega) (by omega), k + 1, by omega, rfl, ⟨rfl, fun _ _ => rfl⟩, ⟨rfl, fun _ _ => rfl⟩, ⟨rfl, fun i hi => ?_⟩, by omega, by omega⟩
        unfold appGet
        by_cases h : i < (L.catTo c k).n
        · have w : (L.catTo c (k + 1)).g i = (L.catTo c k).g i := by
            show (bif decide (i < (L.catTo c k).n) then _ else _) = _
            rw [decide_eq_true h]; rfl
          rw [if_pos h, w]
        · have w : (L.catTo c (k + 1)).g i = (c k).g (i - (L.catTo c k).n) := by
            show (bif decide (i < (L.catTo c k).n) then _ else _) = _
            rw [decide_eq_false h]; rfl
          rw [if_neg h, w]
      · have hb : ¬ (k : Int) < 2 := of_decide_eq_false hge
        obtain rfl : k = 2 := by omega
        exact ⟨(0 : Nat), ⟨rfl, fun _ _ => rfl⟩, trivial⟩)
theorem s_concat_ok : SpecOk Try.prog 88 s_concat_S := freshX Try.func88 (c := bodyOf Try.f88) (by kernel_rfl) mixed (fun args p q n g hs hp => by
  unfold s_concat_s at hs
  split at hs
  · cases hs; exact ⟨_, _, s_concat_vc _ hp.2, (.p (rows_ext hp.1) .nil), ⟨show SpecsL Try.prog _ from (SpecsL.cons s_grow_ok s_grow_en SpecsL.nil), rfl, ⟨show ItersL Try.prog _ from ItersL.nil, (TrsOk.none (fun _ => rfl))⟩⟩⟩
  · cases hs)
theorem s_concat_en : Enters Try.prog 88 := fun args w => by kernel_rfl
abbrev s_revP_tr : Tr := { T := (L.Sq L.Pt), U := Nat, args := fun t => (fun l => [.row 1005]) t, own := fun t => (fun l => [(1005, .row 23 2 l.n (fun k => [.int .i64 ((l.g k).x), .int .i64 ((l.g k).y)]))]) t, pre := fun t => (fun l => l.n ≤ 1000000) t, post := fun t u => (fun l => fun u => True) t u, own' := fun t u => (fun l => fun u => [(1005, .row 23 2 l.n (fun k => [.int .i64 ((l.g (l.n - 1 - k)).x), .int .i64 ((l.g (l.n - 1 - k)).y)]))]) t u, res := fun t u => (fun l => fun u => .p (.tup [])) t u }
theorem s_revP_vc (l : L.Sq L.Pt) (hp : s_revP_tr.pre l) : vc Try.prog ({ muts := [], frz := lookN [], specs := lookS [], loops := lookL [(1, { T := Nat, keep := [0], keepO := [], chg := fun i => [(2, .p (.int .i64 (i : Int))), (3, .p (.int .i64 ((l.n : Int) - 1 - (i : Int))))], own := fun i => [(1005, .row 23 2 l.n (fun k => [.int .i64 ((L.revTo l i k).x), .int .i64 ((L.revTo l i k).y)]))], inv := fun i => 2 * i ≤ l.n, mu := fun i => l.n - i })], iters := lookI [], rfs := lookR [], nils := lookM [] }) (bodyOf Try.f87) (stTr Try.f87 (s_revP_tr.args l) (s_revP_tr.own l)) (retTr Try.prog Try.f87 s_revP_tr l) :=
  @Eq.mpr _ (Go.SE.InK Go.IntKind.i64 ((↑l.n : Int) - (1 : Int)) ∧ (∃ (g : Nat), (0 : Int) = (↑g : Int) ∧ (↑l.n : Int) - (1 : Int) = (↑l.n : Int) - (1 : Int) - (↑g : Int) ∧ (l.n = l.n ∧ ∀ (i : Nat), i < l.n → [Go.SE.SV.int Go.IntKind.i64 (l.g i).x, Go.SE.SV.int Go.IntKind.i64 (l.g i).y] = [Go.SE.SV.int Go.IntKind.i64 (L.revTo l g i).x, Go.SE.SV.int Go.IntKind.i64 (L.revTo l g i).y]) ∧ (2 : Nat) * g ≤ l.n) ∧ ∀
 (g : Nat), (2 : Nat) * g ≤ l.n → (Decidable.decide ((↑g : Int) < (↑l.n : Int) - (1 : Int) - (↑g : Int)) = Bool.true → ((0 : Int) ≤ (↑l.n : Int) - (1 : Int) - (↑g : Int) ∧ (↑l.n : Int) - (1 : Int) - (↑g : Int) < (↑l.n : Int)) ∧ Int.toNat ((↑l.n : Int) - (1 : Int) - (↑g : Int)) < l.n ∧ ((0 : Int) ≤ (↑g : Int) ∧ (↑g : Int) < (↑l.n : Int)) ∧ Int.toNat (↑g : Int) < l.n ∧ ((0 : Int) ≤ (↑g : Int) ∧ (↑g :
 Int) < (↑l.n : Int)) ∧ Int.toNat (↑g : Int) < l.n ∧ ((0 : Int) ≤ (↑l.n : Int) - (1 : Int) - (↑g : Int) ∧ (↑l.n : Int) - (1 : Int) - (↑g : Int) < (↑l.n : Int)) ∧ Int.toNat ((↑l.n : Int) - (1 : Int) - (↑g : Int)) < l.n ∧ Go.SE.InK Go.IntKind.i64 ((↑g : Int) + (1 : Int)) ∧ Go.SE.InK Go.IntKind.i64 ((↑l.n : Int) - (1 : Int) - (↑g : Int) - (1 : Int)) ∧ ∃ (g' : Nat), (↑g : Int) + (1 : Int) = (↑g' : Int)
 ∧ (↑l.n : Int) - (1 : Int) - (↑g : Int) - (1 : Int) = (↑l.n : Int) - (1 : Int) - (↑g' : Int) ∧ (l.n = l.n ∧ ∀ (i : Nat), i < l.n → Go.SE.setRow (Go.SE.setRow (fun (k : Nat) ↦ [Go.SE.SV.int Go.IntKind.i64 (L.revTo l g k).x, Go.SE.SV.int Go.IntKind.i64 (L.revTo l g k).y]) (Int.toNat (↑g : Int)) (nat_lit 0) [Go.SE.SV.int Go.IntKind.i64 (L.revTo l g (Int.toNat ((↑l.n : Int) - (1 : Int) - (↑g :
 Int)))).x, Go.SE.SV.int Go.IntKind.i64 (L.revTo l g (Int.toNat ((↑l.n : Int) - (1 : Int) - (↑g : Int)))).y]) (Int.toNat ((↑l.n : Int) - (1 : Int) - (↑g : Int))) (nat_lit 0) [Go.SE.SV.int Go.IntKind.i64 (L.revTo l g (Int.toNat (↑g : Int))).x, Go.SE.SV.int Go.IntKind.i64 (L.revTo l g (Int.toNat (↑g : Int))).y] i = [Go.SE.SV.int Go.IntKind.i64 (L.revTo l g' i).x, Go.SE.SV.int Go.IntKind.i64 (L.revTo
 l g' i).y]) ∧ (2 : Nat) * g' ≤ l.n ∧ l.n - g' < l.n - g) ∧ (Decidable.decide ((↑g : Int) < (↑l.n : Int) - (1 : Int) - (↑g : Int)) = Bool.false → ∃ (u : Nat), (l.n = l.n ∧ ∀ (i : Nat), i < l.n → [Go.SE.SV.int Go.IntKind.i64 (L.revTo l g i).x, Go.SE.SV.int Go.IntKind.i64 (L.revTo l g i).y] = [Go.SE.SV.int Go.IntKind.i64 (l.g (l.n - (1 : Nat) - i)).x, Go.SE.SV.int Go.IntKind.i64 (l.g (l.n - (1 : Nat)
 - i)).y]) ∧ True)) (by kernel_rfl) (by
    have hn : l.n ≤ 1000000 := hp
    refine ⟨InK.of (by omega) (by omega), ⟨(0 : Nat), rfl, by omega, ⟨rfl, fun i hi => ?_⟩, Nat.zero_le _⟩, fun g hg => ⟨fun hlt => ?_, fun hge => ?_⟩⟩
    · have hi : i < l.n := hi
      have w : L.revTo l 0 i = l.g i := by unfold L.revTo; rw [decide_eq_false (Nat.not_lt_zero _), decide_eq_false (by omega)]; rfl
      rw [w]
    · have hb : (g : Int) < (l.n : Int) - 1 - (g : Int) := of_decide_eq_true hlt
      have e0 : ((g : Int)).toNat = g := by omega
      have e1 : ((l.n : Int) - 1 - (g : Int)).toNat = l.n - 1 - g := by omega
      rw [e0, e1]
      refine ⟨⟨by omega, by omega⟩, by omega, ⟨by omega, by omega⟩, by omega, ⟨by omega, by omega⟩, by omega, ⟨by omega, by omega⟩, by omega, InK.of (by omega) (by omega), InK.of (by omega) (by omega), g + 1, by omega, by omega, ⟨rfl, fun i hi => ?_⟩, by omega, by omega⟩
      have hi : i < l.n := hi
      have r0 : ∀ k, ¬ k < g → ¬ l.n ≤ k + g → L.revTo l g k = l.g k := fun k h1 h2 => by
        unfold L.revTo; rw [decide_eq_false h1, decide_eq_false h2]; rfl
      have r1 : ∀ j k, k < j ∨ l.n ≤ k + j → L.revTo l j k = l.g (l.n - 1 - k) := fun j k h => by
        unfold L.revTo
        rcases h with h | h
        · rw [decide_eq_true h]; rfl
        · rw [decide_eq_true h, Bool.or_true]; rfl
      unfold setRow
      by_cases c1 : i = l.n - 1 - g
      · subst c1
        rw [if_pos rfl, r0 g (by omega) (by omega), r1 (g + 1) _ (.inr (by omega)), show l.n - 1 - (l.n - 1 - g) = g by omega]
        rw [if_neg (show ¬ (l.n - 1 - g = g) by omega)]
        rfl
      · rw [if_neg c1]
        by_cases c2 : i = g
        · subst c2
          rw [if_pos rfl, r0 (l.n - 1 - i) (by omega) (by omega), r1 (i + 1) i (.inl (by omega))]
          rfl
        · rw [if_neg c2]
          dsimp only
          by_cases c3 : i < g ∨ l.n ≤ i + g
          · rw [r1 g i c3, r1 (g + 1) i (by omega)]
          · rw [r0 i (by omega) (by omega)]
            have : L.revTo l (g + 1) i = l.g i := by
              unfold L.revTo; rw [decide_eq_false (by omega), decide_eq_false (by omega)]; rfl
            rw [this]
    · have hb : ¬ (g : Int) < (l.n : Int) - 1 - (g : Int) := of_decide_eq_false hge
      refine ⟨(0 : Nat), ⟨rfl, fun i hi => ?_⟩, trivial⟩
      have hi : i < l.n := hi
      have w : L.revTo l g i = l.g (l.n - 1 - i) := by
        unfold L.revTo
        by_cases c1 : i < g
        · rw [decide_eq_true c1]; rfl
        · by_cases c2 : l.n ≤ i + g
          · rw [decide_eq_true c2, Bool.or_true]; rfl
          · rw [decide_eq_false c1, decide_eq_false c2, show l.n - 1 - i = i by omega]; rfl
      rw [w])
theorem s_revP_en : Enters Try.prog 87 := fun args w => by kernel_rfl
theorem s_revP_tok : TrOk Try.prog 87 s_revP_tr := tr_ok (ks := [1005]) (n := 1) Try.func87 (c := bodyOf Try.f87) (by kernel_rfl) mixed ⟨fun t => rfl, fun t => rfl, fun t u => rfl, fun t u => rfl, fun t u => rfl, by kernel_rfl⟩ (fun l hp => ⟨_, s_revP_vc l hp, ⟨show SpecsL Try.prog _ from SpecsL.nil, rfl, ⟨show ItersL Try.prog _ from ItersL.nil, (TrsOk.none (fun _ => rfl))⟩⟩⟩)
def s_idxPt_p (l : (L.Sq L.Pt)) (v : L.Pt) : Prop := l.n ≤ 1000000
def s_idxPt_r (l : (L.Sq L.Pt)) (v : L.Pt) : SV := .int .i64 (L.ptIdx l v)
def s_idxPt_s : List EV → Option (Prop × SV)
  | [.p (.sl 2 l_n l_g), .p (.agg [.int .i64 v_x, .int .i64 v_y])] => some ((∀ i, i < l_n → l_g i = [.int .i64 ((ofPt (l_g i)).x), .int .i64 ((ofPt (l_g i)).y)]) ∧ s_idxPt_p (⟨l_n, fun i => ofPt (l_g i)⟩ : (L.Sq L.Pt)) (⟨v_x, v_y⟩ : L.Pt), s_idxPt_r (⟨l_n, fun i => ofPt (l_g i)⟩ : (L.Sq L.Pt)) (⟨v_x, v_y⟩ : L.Pt))
  | _ => none
abbrev s_idxPt_S : SE.Spec := (specO s_idxPt_s)
def s_idxPt_C : Cfg := { muts := [], frz := lookN [], specs := lookS [], loops := fun _ => none, iters := lookI [], rfs := lookR [], nils := lookM [] }
theorem s_idxPt_vc (l : (L.Sq L.Pt)) (v : L.Pt) (hp : s_idxPt_p l v) : vc Try.prog ({ s_idxPt_C with loops := lookL [(2, { T := Nat, keep := [0, 3, 6, 7], keepO := [], chg := fun i => [(8, .p (.int .i64 i))], own := fun _ => [], inv := fun i => i ≤ l.n ∧ (∀ j, j < i → L.same v (l.g j) = false), mu := fun i => l.n - i })], rfs := lookR [] }) (bodyOf Try.f59) (st0 Try.f59 [.p (.sl 2 l.n (fun i => [.int .i64 ((l.g i).x), .int .i64 ((l.g i).y)])), .p (.agg [.int .i64 v.x, .int .i64 v.y])]) (retFn Try.prog Try.f59 (s_idxPt_r l v)) :=
  @Eq.mpr _ ((∃ (g : Nat), (0 : Int) = (↑g : Int) ∧ g ≤ l.n ∧ ∀ (j : Nat), j < g → L.same v (l.g j) = Bool.false) ∧ ∀ (g : Nat), (g ≤ l.n ∧ ∀ (j : Nat), j < g → L.same v (l.g j) = Bool.false) → (Decidable.decide ((↑g : Int) < (↑l.n : Int)) = Bool.true → ((0 : Int) ≤ (↑g : Int) ∧ (↑g : Int) < (↑l.n : Int)) ∧ ((Decidable.decide (v.x = (l.g (Int.toNat (↑g : Int))).x) && Decidable.decide (v.y = (l.g (Int.toNat (↑g
 : Int))).y)) = Bool.true → (↑g : Int) = L.ptIdx l v) ∧ ((Decidable.decide (v.x = (l.g (Int.toNat (↑g : Int))).x) && Decidable.decide (v.y = (l.g (Int.toNat (↑g : Int))).y)) = Bool.false → Go.SE.InK Go.IntKind.i64 ((↑g : Int) + (1 : Int)) ∧ ∃ (g' : Nat), (↑g : Int) + (1 : Int) = (↑g' : Int) ∧ (↑l.n : Int) = (↑l.n : Int) ∧ (l.n = l.n ∧ ∀ (i : Nat), i < l.n → [Go.SE.SV.int Go.IntKind.i64 (l.g i).x,
 Go.SE.SV.int Go.IntKind.i64 (l.g i).y] = [Go.SE.SV.int Go.IntKind.i64 (l.g i).x, Go.SE.SV.int Go.IntKind.i64 (l.g i).y]) ∧ Go.SE.SV.ref [Go.SE.SV.int Go.IntKind.i64 v.x, Go.SE.SV.int Go.IntKind.i64 v.y] (nat_lit 0) = Go.SE.SV.ref [Go.SE.SV.int Go.IntKind.i64 v.x, Go.SE.SV.int Go.IntKind.i64 v.y] (nat_lit 0) ∧ (l.n = l.n ∧ ∀ (i : Nat), i < l.n → [Go.SE.SV.int Go.IntKind.i64 (l.g i).x, Go.SE.SV.int
 Go.IntKind.i64 (l.g i).y] = [Go.SE.SV.int Go.IntKind.i64 (l.g i).x, Go.SE.SV.int Go.IntKind.i64 (l.g i).y]) ∧ (g' ≤ l.n ∧ ∀ (j : Nat), j < g' → L.same v (l.g j) = Bool.false) ∧ l.n - g' < l.n - g)) ∧ (Decidable.decide ((↑g : Int) < (↑l.n : Int)) = Bool.false → (-1 : Int) = L.ptIdx l v)) (by kernel_rfl) (by
    have hn : l.n ≤ 1000000 := hp
    refine ⟨⟨(0 : Nat), rfl, Nat.zero_le _, fun j hj => absurd hj (Nat.not_lt_zero _)⟩, fun g hg => ⟨fun hlt => ?_, fun hge => ?_⟩⟩
    · have hb : (g : Int) < (l.n : Int) := of_decide_eq_true hlt
      have e0 : ((g : Int)).toNat = g := by omega
      rw [e0]
      refine ⟨⟨by omega, hb⟩, fun h => ?_, fun h => ?_⟩
      · have h : L.same v (l.g g) = true := h
        exact (idx_at (f := fun i => L.same v (l.g i)) hg.2 h (by omega)).symm
      · have h : L.same v (l.g g) = false := h
        exact ⟨InK.of (by omega) (by omega), g + 1, by omega, rfl, ⟨rfl, fun _ _ => rfl⟩, rfl, ⟨rfl, fun _ _ => rfl⟩, ⟨by omega, fun j hj => by
          rcases Nat.lt_succ_iff_lt_or_eq.1 hj with h' | rfl
          · exact hg.2 j h'
          · exact h⟩, by omega⟩
    · have hb : ¬ (g : Int) < (l.n : Int) := of_decide_eq_false hge
      exact (idx_none (f := fun i => L.same v (l.g i)) (fun j hj => hg.2 j (by omega))).symm)
theorem s_idxPt_ok : SpecOk Try.prog 59 s_idxPt_S := fnX Try.func59 (c := bodyOf Try.f59) (by kernel_rfl) mixed (fun args p r hs hp => by
  unfold s_idxPt_s at hs
  split at hs
  · cases hs; exact ⟨_, _, s_idxPt_vc _ _ hp.2, (.p (.sl hp.1) (.same _ .nil)), ⟨show SpecsL Try.prog _ from SpecsL.nil, rfl, ⟨show ItersL Try.prog _ from ItersL.nil, (TrsOk.none (fun _ => rfl))⟩⟩⟩
  · cases hs)
theorem s_idxPt_en : Enters Try.prog 59 := fun args w => by kernel_rfl
theorem s_idxPt_I : ∀ args p r, s_idxPt_s args = some (p, r) → ∃ n, r = .int .i64 n := by
  intro args p r h
  unfold s_idxPt_s at h
  split at h
  · cases h; exact ⟨_, rfl⟩
  · cases h
end Go.Proofs.Ytkklpamllfkbaaa
