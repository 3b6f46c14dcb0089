/- A symbolic walk over the model, and what it shows of functions of the program: parts of the proof that the text of the row joins. -/
import Derived.Test.YtipaekbdalahdaaW1
import Derived.Test.YtipaekbdalahdaaE3
import Derived.KernelRfl

namespace Go.Proofs.Ytipaekbdalahdaa
open Go.SE Go.RowKit
set_option maxRecDepth 100000
set_option maxHeartbeats 4000000
set_option linter.unusedVariables false

def L.pt (l : L.Sq L.Pt) (a : Int) : L.Pt := l.g (Int.tmod (a + (l.n : Int)) (l.n : Int)).toNat
def L.sq (l : L.Sq L.Pt) (a b : Int) : Int := bif L.validPt (L.pt l a) && L.validPt (L.pt l b) then L.dist (L.pt l a) (L.pt l b) else 0
def L.kF (l : L.Sq L.Pt) (s : L.Setting) (i : Nat) : Int := Int.tmod (s.shift + (i : Int)) (l.n : Int)
def L.kB (l : L.Sq L.Pt) (s : L.Setting) (i : Nat) : Int := Int.tmod (s.shift + (l.n : Int) - (i : Int)) (l.n : Int)
def L.meas (l : L.Sq L.Pt) (s : L.Setting) (i : Nat) : L.Meas :=
  bif s.back then ⟨L.sq l (L.kB l s i) (L.kB l s i + 1), L.sq l (L.kB l s i - 1) (L.kB l s i + 1), L.bend l (L.kB l s i).toNat⟩
  else ⟨L.sq l (L.kF l s i) (L.kF l s i + 1), L.sq l (L.kF l s i) (L.kF l s i + 2), L.bend l (Int.tmod (L.kF l s i + 1) (l.n : Int)).toNat⟩
def g_meas1_p (a : Int) (b : Int) (l : (L.Sq L.Pt)) (n : Int) : Prop := n = (l.n : Int) ∧ 1 ≤ l.n ∧ l.n ≤ 1000 ∧ -1 ≤ a ∧ a ≤ 10000 ∧ -1 ≤ b ∧ b ≤ 10000
def g_meas1_r (a : Int) (b : Int) (l : (L.Sq L.Pt)) (n : Int) : SV := .int .i64 (L.sq l a b)
def g_meas1_s : List EV → Option (Prop × SV)
  | [.p (.int .i64 a), .p (.int .i64 b), .p (.ref [.sl 2 l_n l_g] 0), .p (.ref [.int .i64 n] 0)] => some ((∀ i, i < l_n → l_g i = [.int .i64 ((ofPt (l_g i)).x), .int .i64 ((ofPt (l_g i)).y)]) ∧ g_meas1_p a b (⟨l_n, fun i => ofPt (l_g i)⟩ : (L.Sq L.Pt)) n, g_meas1_r a b (⟨l_n, fun i => ofPt (l_g i)⟩ : (L.Sq L.Pt)) n)
  | _ => none
abbrev g_meas1_S : SE.Spec := (specO g_meas1_s)
def g_meas1_C : Cfg := { muts := [], frz := lookN [], specs := lookS [(120, p_Square_S)], loops := lookL [], iters := lookI [], rfs := lookR [], nils := lookM [] }
theorem g_meas1_vc (a : Int) (b : Int) (l : (L.Sq L.Pt)) (n : Int) (hp : g_meas1_p a b l n) : vc Try.prog (g_meas1_C) (bodyOf Try.f119) (st0 Try.f119 [.p (.int .i64 a), .p (.int .i64 b), .p (.ref [.sl 2 l.n (fun i => [.int .i64 ((l.g i).x), .int .i64 ((l.g i).y)])] 0), .p (.ref [.int .i64 n] 0)]) (retFn Try.prog Try.f119 (g_meas1_r a b l n)) :=
  @Eq.mpr _ (Go.SE.InK Go.IntKind.i64 (a + n) ∧
  n ≠ (0 : Int) ∧
    ((0 : Int) ≤ Int.tmod (a + n) n ∧ Int.tmod (a + n) n < (↑l.n : Int)) ∧
      Go.SE.InK Go.IntKind.i64 (b + n) ∧
        n ≠ (0 : Int) ∧
          ((0 : Int) ≤ Int.tmod (b + n) n ∧ Int.tmod (b + n) n < (↑l.n : Int)) ∧
            True ∧
              (bif
                    Go.Proofs.Ytipaekbdalahdaa.L.validPt (l.g (Int.toNat (Int.tmod (a + n) n))) &&
                      Go.Proofs.Ytipaekbdalahdaa.L.validPt (l.g (Int.toNat (Int.tmod (b + n) n))) then
                  Go.Proofs.Ytipaekbdalahdaa.L.dist (l.g (Int.toNat (Int.tmod (a + n) n))) (l.g (Int.toNat (Int.tmod (b + n) n)))
                else (0 : Int)) =
                Go.Proofs.Ytipaekbdalahdaa.L.sq l a b) (by kernel_rfl) (by
    obtain ⟨rfl, n1, n2, a1, a2, b1, b2⟩ := hp
    have t1 := Int.tmod_nonneg (l.n : Int) (show 0 ≤ a + (l.n : Int) by omega)
    have t2 := Int.tmod_lt_of_pos (a + (l.n : Int)) (show 0 < (l.n : Int) by omega)
    have t3 := Int.tmod_nonneg (l.n : Int) (show 0 ≤ b + (l.n : Int) by omega)
    have t4 := Int.tmod_lt_of_pos (b + (l.n : Int)) (show 0 < (l.n : Int) by omega)
    exact ⟨InK.of (by omega) (by omega), by omega, ⟨t1, t2⟩, InK.of (by omega) (by omega), by omega, ⟨t3, t4⟩, trivial, rfl⟩)
theorem g_meas1_ok : SpecOk Try.prog 119 g_meas1_S := fnX Try.func119 (c := bodyOf Try.f119) (by kernel_rfl) mixed (fun args p r hs hp => by
  unfold g_meas1_s at hs
  split at hs
  · cases hs; exact ⟨_, _, g_meas1_vc _ _ _ _ hp.2, (.same _ (.same _ (.p (Ext.ref rfl (fun i hi => by
      rcases i with _ | i
      · show Ext (SV.sl _ _ _) (SV.sl _ _ _); exact (Ext.sl hp.1)
      exact absurd hi (by simp; try omega))) (.same _ .nil)))), ⟨show SpecsL Try.prog _ from (SpecsL.cons p_Square_ok p_Square_en SpecsL.nil), rfl, ⟨show ItersL Try.prog _ from ItersL.nil, (TrsOk.none (fun _ => rfl))⟩⟩⟩
  · cases hs)
theorem g_meas1_en : Enters Try.prog 119 := fun args w => by kernel_rfl
theorem g_meas1_I : ∀ args p r, g_meas1_s args = some (p, r) → ∃ n, r = .int .i64 n := by
  intro args p r h
  unfold g_meas1_s at h
  split at h
  · cases h; exact ⟨_, rfl⟩
  · cases h
def g_meas2_p (n : Int) (s : L.Setting) (l : (L.Sq L.Pt)) (m : Int) (be : (L.Sq Int)) : Prop := n = (l.n : Int) ∧ m = (l.n : Int) ∧ be.n = l.n ∧ (∀ i, i < l.n → be.g i = L.bend l i) ∧ 1 ≤ l.n ∧ l.n ≤ 1000 ∧ 0 ≤ s.shift ∧ s.shift ≤ 1000
def g_meas2_n (n : Int) (s : L.Setting) (l : (L.Sq L.Pt)) (m : Int) (be : (L.Sq Int)) : Nat := l.n
def g_meas2_i (n : Int) (s : L.Setting) (l : (L.Sq L.Pt)) (m : Int) (be : (L.Sq Int)) : Nat → List SV := fun k => [.int .i64 (k : Int), (.agg [.int .i64 ((L.meas l s k).edge), .int .i64 ((L.meas l s k).across), .int .i64 ((L.meas l s k).bend)])]
def g_meas2_ic : List SV → Option (Prop × Nat × (Nat → List SV))
  | [.ref [.int .i64 n] 0, .ref [.int .i64 s_shift, .bool s_back] 0, .ref [.clo 119 [.ref [.sl 2 l_n l_g] 0, .ref [.int .i64 m] 0]] 0, .ref [.sl 1 be_n be_g] 0] => some ((∀ i, i < l_n → l_g i = [.int .i64 ((ofPt (l_g i)).x), .int .i64 ((ofPt (l_g i)).y)]) ∧ (∀ i, i < be_n → be_g i = [.int .i64 ((intOf (be_g i)))]) ∧ g_meas2_p n (⟨s_shift, s_back⟩ : L.Setting) (⟨l_n, fun i => ofPt (l_g i)⟩ : (L.Sq L.Pt)) m (⟨be_n, fun i => intOf (be_g i)⟩ : (L.Sq Int)), g_meas2_n n (⟨s_shift, s_back⟩ : L.Setting) (⟨l_n, fun i => ofPt (l_g i)⟩ : (L.Sq L.Pt)) m (⟨be_n, fun i => intOf (be_g i)⟩ : (L.Sq Int)), g_meas2_i n (⟨s_shift, s_back⟩ : L.Setting) (⟨l_n, fun i => ofPt (l_g i)⟩ : (L.Sq L.Pt)) m (⟨be_n, fun i => intOf (be_g i)⟩ : (L.Sq Int)))
  | _ => none
abbrev g_meas2_it : ItSpec := itOf g_meas2_ic
def g_meas2_C : Cfg := { muts := [], frz := lookN [], specs := lookS [(119, g_meas1_S)], loops := fun _ => none, iters := lookI [], rfs := lookR [] }
theorem g_meas2_vc (yl : Nat) (n : Int) (s : L.Setting) (l : (L.Sq L.Pt)) (m : Int) (be : (L.Sq Int)) (hp : g_meas2_p n s l m be) : vc Try.prog { g_meas2_C with loops := lookL [(1, { T := Nat, keep := [0, 1, 2, 3, 4, 9], keepO := [], chg := fun i => [(10, .p (.int .i64 (i : Int)))], own := fun _ => [], inv := fun i => i ≤ l.n, mu := fun i => l.n - i, yk := some (fun i => i) })], yld := some ⟨yl, g_meas2_n n s l m be, g_meas2_i n s l m be⟩ } (bodyOf Try.f122) (st0 Try.f122 (.yield yl :: ([.ref [.int .i64 n] 0, .ref [.int .i64 s.shift, .bool s.back] 0, .ref [.clo 119 [.ref [.sl 2 l.n (fun i => [.int .i64 ((l.g i).x), .int .i64 ((l.g i).y)])] 0, .ref [.int .i64 m] 0]] 0, .ref [.sl 1 be.n (fun i => [.int .i64 ((be.g i))])] 0] : List SV).map .p)) (retIt Try.prog Try.f122 (g_meas2_n n s l m be)) :=
  @Eq.mpr _ ((∃ (g : Nat), nat_lit 0 = g ∧ Bool.false = Bool.false ∧ (0 : Int) = (↑g : Int) ∧ g ≤ l.n) ∧
  ∀ (g : Nat),
    g ≤ l.n →
      (Decidable.decide ((↑g : Int) < n) = Bool.true →
          Go.SE.InK Go.IntKind.i64 (s.shift + (↑g : Int)) ∧
            n ≠ (0 : Int) ∧
              Go.SE.InK Go.IntKind.i64 (Int.tmod (s.shift + (↑g : Int)) n + (1 : Int)) ∧
                ((∀ (i : Nat),
                      i < l.n →
                        [Go.SE.SV.int Go.IntKind.i64 (l.g i).x, Go.SE.SV.int Go.IntKind.i64 (l.g i).y] =
                          [Go.SE.SV.int Go.IntKind.i64 (l.g i).x, Go.SE.SV.int Go.IntKind.i64 (l.g i).y]) ∧
                    m = (↑l.n : Int) ∧
                      (1 : Nat) ≤ l.n ∧
                        l.n ≤ (1000 : Nat) ∧
                          (-1 : Int) ≤ Int.tmod (s.shift + (↑g : Int)) n ∧
                            Int.tmod (s.shift + (↑g : Int)) n ≤ (10000 : Int) ∧
                              (-1 : Int) ≤ Int.tmod (s.shift + (↑g : Int)) n + (1 : Int) ∧ Int.tmod (s.shift + (↑g : Int)) n + (1 : Int) ≤ (10000 : Int)) ∧
                  Go.SE.InK Go.IntKind.i64 (Int.tmod (s.shift + (↑g : Int)) n + (2 : Int)) ∧
                    ((∀ (i : Nat),
                          i < l.n →
                            [Go.SE.SV.int Go.IntKind.i64 (l.g i).x, Go.SE.SV.int Go.IntKind.i64 (l.g i).y] =
                              [Go.SE.SV.int Go.IntKind.i64 (l.g i).x, Go.SE.SV.int Go.IntKind.i64 (l.g i).y]) ∧
                        m = (↑l.n : Int) ∧
                          (1 : Nat) ≤ l.n ∧
                            l.n ≤ (1000 : Nat) ∧
                              (-1 : Int) ≤ Int.tmod (s.shift + (↑g : Int)) n ∧
                                Int.tmod (s.shift + (↑g : Int)) n ≤ (10000 : Int) ∧
                                  (-1 : Int) ≤ Int.tmod (s.shift + (↑g : Int)) n + (2 : Int) ∧ Int.tmod (s.shift + (↑g : Int)) n + (2 : Int) ≤ (10000 : Int)) ∧
                      Go.SE.InK Go.IntKind.i64 (Int.tmod (s.shift + (↑g : Int)) n + (1 : Int)) ∧
                        n ≠ (0 : Int) ∧
                          ((0 : Int) ≤ Int.tmod (Int.tmod (s.shift + (↑g : Int)) n + (1 : Int)) n ∧
                              Int.tmod (Int.tmod (s.shift + (↑g : Int)) n + (1 : Int)) n < (↑be.n : Int)) ∧
                            (s.back = Bool.true →
                                Go.SE.InK Go.IntKind.i64 (s.shift + n) ∧
                                  Go.SE.InK Go.IntKind.i64 (s.shift + n - (↑g : Int)) ∧
                                    n ≠ (0 : Int) ∧
                                      Go.SE.InK Go.IntKind.i64 (Int.tmod (s.shift + n - (↑g : Int)) n + (1 : Int)) ∧
                                        ((∀ (i : Nat),
                                              i < l.n →
                                                [Go.SE.SV.int Go.IntKind.i64 (l.g i).x, Go.SE.SV.int Go.IntKind.i64 (l.g i).y] =
                                                  [Go.SE.SV.int Go.IntKind.i64 (l.g i).x, Go.SE.SV.int Go.IntKind.i64 (l.g i).y]) ∧
                                            m = (↑l.n : Int) ∧
                                              (1 : Nat) ≤ l.n ∧
                                                l.n ≤ (1000 : Nat) ∧
                                                  (-1 : Int) ≤ Int.tmod (s.shift + n - (↑g : Int)) n ∧
                                                    Int.tmod (s.shift + n - (↑g : Int)) n ≤ (10000 : Int) ∧
                                                      (-1 : Int) ≤ Int.tmod (s.shift + n - (↑g : Int)) n + (1 : Int) ∧
                                                        Int.tmod (s.shift + n - (↑g : Int)) n + (1 : Int) ≤ (10000 : Int)) ∧
                                          Go.SE.InK Go.IntKind.i64 (Int.tmod (s.shift + n - (↑g : Int)) n - (1 : Int)) ∧
                                            Go.SE.InK Go.IntKind.i64 (Int.tmod (s.shift + n - (↑g : Int)) n + (1 : Int)) ∧
                                              ((∀ (i : Nat),
                                                    i < l.n →
                                                      [Go.SE.SV.int Go.IntKind.i64 (l.g i).x, Go.SE.SV.int Go.IntKind.i64 (l.g i).y] =
                                                        [Go.SE.SV.int Go.IntKind.i64 (l.g i).x, Go.SE.SV.int Go.IntKind.i64 (l.g i).y]) ∧
                                                  m = (↑l.n : Int) ∧
                                                    (1 : Nat) ≤ l.n ∧
                                                      l.n ≤ (1000 : Nat) ∧
                                                        (-1 : Int) ≤ Int.tmod (s.shift + n - (↑g : Int)) n - (1 : Int) ∧
                                                          Int.tmod (s.shift + n - (↑g : Int)) n - (1 : Int) ≤ (10000 : Int) ∧
                                                            (-1 : Int) ≤ Int.tmod (s.shift + n - (↑g : Int)) n + (1 : Int) ∧
                                                              Int.tmod (s.shift + n - (↑g : Int)) n + (1 : Int) ≤ (10000 : Int)) ∧
                                                ((0 : Int) ≤ Int.tmod (s.shift + n - (↑g : Int)) n ∧ Int.tmod (s.shift + n - (↑g : Int)) n < (↑be.n : Int)) ∧
                                                  yl = yl ∧
                                                    g < l.n ∧
                                                      [Go.SE.SV.int Go.IntKind.i64 (↑g : Int),
                                                            Go.SE.SV.agg
                                                              [Go.SE.SV.int Go.IntKind.i64
                                                                  (Go.Proofs.Ytipaekbdalahdaa.L.sq
                                                                    (Go.Proofs.Ytipaekbdalahdaa.L.Sq.mk l.n fun (i : Nat) ↦ l.g i)
                                                                    (Int.tmod (s.shift + n - (↑g : Int)) n)
                                                                    (Int.tmod (s.shift + n - (↑g : Int)) n + (1 : Int))),
                                                                Go.SE.SV.int Go.IntKind.i64
                                                                  (Go.Proofs.Ytipaekbdalahdaa.L.sq
                                                                    (Go.Proofs.Ytipaekbdalahdaa.L.Sq.mk l.n fun (i : Nat) ↦ l.g i)
                                                                    (Int.tmod (s.shift + n - (↑g : Int)) n - (1 : Int))
                                                                    (Int.tmod (s.shift + n - (↑g : Int)) n + (1 : Int))),
                                                                Go.SE.SV.int Go.IntKind.i64 (be.g (Int.toNat (Int.tmod (s.shift + n - (↑g : Int)) n)))]] =
                                                          [Go.SE.SV.int Go.IntKind.i64 (↑g : Int),
                                                            Go.SE.SV.agg
                                                              [Go.SE.SV.int Go.IntKind.i64 (Go.Proofs.Ytipaekbdalahdaa.L.meas l s g).edge,
                                                                Go.SE.SV.int Go.IntKind.i64 (Go.Proofs.Ytipaekbdalahdaa.L.meas l s g).across,
                                                                Go.SE.SV.int Go.IntKind.i64 (Go.Proofs.Ytipaekbdalahdaa.L.meas l s g).bend]] ∧
                                                        ((Bool.false = Bool.true → g + (1 : Nat) = l.n ∨ g + (1 : Nat) = l.n + (1 : Nat)) ∧
                                                            (Bool.false = Bool.false →
                                                              Go.SE.InK Go.IntKind.i64 ((↑g : Int) + (1 : Int)) ∧
                                                                ∃ (g' : Nat),
                                                                  g + (1 : Nat) = g' ∧
                                                                    Bool.false = Bool.false ∧
                                                                      (↑g : Int) + (1 : Int) = (↑g' : Int) ∧
                                                                        n = n ∧
                                                                          yl = yl ∧
                                                                            Go.SE.SV.ref [Go.SE.SV.int Go.IntKind.i64 n] (nat_lit 0) =
                                                                                Go.SE.SV.ref [Go.SE.SV.int Go.IntKind.i64 n] (nat_lit 0) ∧
                                                                              Go.SE.SV.ref [Go.SE.SV.int Go.IntKind.i64 s.shift, Go.SE.SV.bool s.back]
                                                                                    (nat_lit 0) =
                                                                                  Go.SE.SV.ref [Go.SE.SV.int Go.IntKind.i64 s.shift, Go.SE.SV.bool s.back]
                                                                                    (nat_lit 0) ∧
                                                                                Go.SE.SV.ref
                                                                                      [Go.SE.SV.clo (nat_lit 119)
                                                                                          [Go.SE.SV.ref
                                                                                              [Go.SE.SV.sl (nat_lit 2) l.n fun (i : Nat) ↦
                                                                                                  [Go.SE.SV.int Go.IntKind.i64 (l.g i).x,
                                                                                                    Go.SE.SV.int Go.IntKind.i64 (l.g i).y]]
                                                                                              (nat_lit 0),
                                                                                            Go.SE.SV.ref [Go.SE.SV.int Go.IntKind.i64 m] (nat_lit 0)]]
                                                                                      (nat_lit 0) =
                                                                                    Go.SE.SV.ref
                                                                                      [Go.SE.SV.clo (nat_lit 119)
                                                                                          [Go.SE.SV.ref
                                                                                              [Go.SE.SV.sl (nat_lit 2) l.n fun (i : Nat) ↦
                                                                                                  [Go.SE.SV.int Go.IntKind.i64 (l.g i).x,
                                                                                                    Go.SE.SV.int Go.IntKind.i64 (l.g i).y]]
                                                                                              (nat_lit 0),
                                                                                            Go.SE.SV.ref [Go.SE.SV.int Go.IntKind.i64 m] (nat_lit 0)]]
                                                                                      (nat_lit 0) ∧
                                                                                  Go.SE.SV.ref
                                                                                        [Go.SE.SV.sl (nat_lit 1) be.n fun (i : Nat) ↦
                                                                                            [Go.SE.SV.int Go.IntKind.i64 (be.g i)]]
                                                                                        (nat_lit 0) =
                                                                                      Go.SE.SV.ref
                                                                                        [Go.SE.SV.sl (nat_lit 1) be.n fun (i : Nat) ↦
                                                                                            [Go.SE.SV.int Go.IntKind.i64 (be.g i)]]
                                                                                        (nat_lit 0) ∧
                                                                                    g' ≤ l.n ∧ l.n - g' < l.n - g)) ∧
                                                          (Bool.true = Bool.true → l.n + (1 : Nat) = l.n ∨ l.n + (1 : Nat) = l.n + (1 : Nat)) ∧
                                                            (Bool.true = Bool.false →
                                                              Go.SE.InK Go.IntKind.i64 ((↑g : Int) + (1 : Int)) ∧
                                                                ∃ (g' : Nat),
                                                                  l.n + (1 : Nat) = g' ∧
                                                                    Bool.false = Bool.false ∧
                                                                      (↑g : Int) + (1 : Int) = (↑g' : Int) ∧
                                                                        n = n ∧
                                                                          yl = yl ∧
                                                                            Go.SE.SV.ref [Go.SE.SV.int Go.IntKind.i64 n] (nat_lit 0) =
                                                                                Go.SE.SV.ref [Go.SE.SV.int Go.IntKind.i64 n] (nat_lit 0) ∧
                                                                              Go.SE.SV.ref [Go.SE.SV.int Go.IntKind.i64 s.shift, Go.SE.SV.bool s.back]
                                                                                    (nat_lit 0) =
                                                                                  Go.SE.SV.ref [Go.SE.SV.int Go.IntKind.i64 s.shift, Go.SE.SV.bool s.back]
                                                                                    (nat_lit 0) ∧
                                                                                Go.SE.SV.ref
                                                                                      [Go.SE.SV.clo (nat_lit 119)
                                                                                          [Go.SE.SV.ref
                                                                                              [Go.SE.SV.sl (nat_lit 2) l.n fun (i : Nat) ↦
                                                                                                  [Go.SE.SV.int Go.IntKind.i64 (l.g i).x,
                                                                                                    Go.SE.SV.int Go.IntKind.i64 (l.g i).y]]
                                                                                              (nat_lit 0),
                                                                                            Go.SE.SV.ref [Go.SE.SV.int Go.IntKind.i64 m] (nat_lit 0)]]
                                                                                      (nat_lit 0) =
                                                                                    Go.SE.SV.ref
                                                                                      [Go.SE.SV.clo (nat_lit 119)
                                                                                          [Go.SE.SV.ref
                                                                                              [Go.SE.SV.sl (nat_lit 2) l.n fun (i : Nat) ↦
                                                                                                  [Go.SE.SV.int Go.IntKind.i64 (l.g i).x,
                                                                                                    Go.SE.SV.int Go.IntKind.i64 (l.g i).y]]
                                                                                              (nat_lit 0),
                                                                                            Go.SE.SV.ref [Go.SE.SV.int Go.IntKind.i64 m] (nat_lit 0)]]
                                                                                      (nat_lit 0) ∧
                                                                                  Go.SE.SV.ref
                                                                                        [Go.SE.SV.sl (nat_lit 1) be.n fun (i : Nat) ↦
                                                                                            [Go.SE.SV.int Go.IntKind.i64 (be.g i)]]
                                                                                        (nat_lit 0) =
                                                                                      Go.SE.SV.ref
                                                                                        [Go.SE.SV.sl (nat_lit 1) be.n fun (i : Nat) ↦
                                                                                            [Go.SE.SV.int Go.IntKind.i64 (be.g i)]]
                                                                                        (nat_lit 0) ∧
                                                                                    g' ≤ l.n ∧ l.n - g' < l.n - g)) ∧
                              (s.back = Bool.false →
                                yl = yl ∧
                                  g < l.n ∧
                                    [Go.SE.SV.int Go.IntKind.i64 (↑g : Int),
                                          Go.SE.SV.agg
                                            [Go.SE.SV.int Go.IntKind.i64
                                                (Go.Proofs.Ytipaekbdalahdaa.L.sq (Go.Proofs.Ytipaekbdalahdaa.L.Sq.mk l.n fun (i : Nat) ↦ l.g i)
                                                  (Int.tmod (s.shift + (↑g : Int)) n) (Int.tmod (s.shift + (↑g : Int)) n + (1 : Int))),
                                              Go.SE.SV.int Go.IntKind.i64
                                                (Go.Proofs.Ytipaekbdalahdaa.L.sq (Go.Proofs.Ytipaekbdalahdaa.L.Sq.mk l.n fun (i : Nat) ↦ l.g i)
                                                  (Int.tmod (s.shift + (↑g : Int)) n) (Int.tmod (s.shift + (↑g : Int)) n + (2 : Int))),
                                              Go.SE.SV.int Go.IntKind.i64 (be.g (Int.toNat (Int.tmod (Int.tmod (s.shift + (↑g : Int)) n + (1 : Int)) n)))]] =
                                        [Go.SE.SV.int Go.IntKind.i64 (↑g : Int),
                                          Go.SE.SV.agg
                                            [Go.SE.SV.int Go.IntKind.i64 (Go.Proofs.Ytipaekbdalahdaa.L.meas l s g).edge,
                                              Go.SE.SV.int Go.IntKind.i64 (Go.Proofs.Ytipaekbdalahdaa.L.meas l s g).across,
                                              Go.SE.SV.int Go.IntKind.i64 (Go.Proofs.Ytipaekbdalahdaa.L.meas l s g).bend]] ∧
                                      ((Bool.false = Bool.true → g + (1 : Nat) = l.n ∨ g + (1 : Nat) = l.n + (1 : Nat)) ∧
                                          (Bool.false = Bool.false →
                                            Go.SE.InK Go.IntKind.i64 ((↑g : Int) + (1 : Int)) ∧
                                              ∃ (g' : Nat),
                                                g + (1 : Nat) = g' ∧
                                                  Bool.false = Bool.false ∧
                                                    (↑g : Int) + (1 : Int) = (↑g' : Int) ∧
                                                      n = n ∧
                                                        yl = yl ∧
                                                          Go.SE.SV.ref [Go.SE.SV.int Go.IntKind.i64 n] (nat_lit 0) =
                                                              Go.SE.SV.ref [Go.SE.SV.int Go.IntKind.i64 n] (nat_lit 0) ∧
                                                            Go.SE.SV.ref [Go.SE.SV.int Go.IntKind.i64 s.shift, Go.SE.SV.bool s.back] (nat_lit 0) =
                                                                Go.SE.SV.ref [Go.SE.SV.int Go.IntKind.i64 s.shift, Go.SE.SV.bool s.back] (nat_lit 0) ∧
                                                              Go.SE.SV.ref
                                                                    [Go.SE.SV.clo (nat_lit 119)
                                                                        [Go.SE.SV.ref
                                                                            [Go.SE.SV.sl (nat_lit 2) l.n fun (i : Nat) ↦
                                                                                [Go.SE.SV.int Go.IntKind.i64 (l.g i).x, Go.SE.SV.int Go.IntKind.i64 (l.g i).y]]
                                                                            (nat_lit 0),
                                                                          Go.SE.SV.ref [Go.SE.SV.int Go.IntKind.i64 m] (nat_lit 0)]]
                                                                    (nat_lit 0) =
                                                                  Go.SE.SV.ref
                                                                    [Go.SE.SV.clo (nat_lit 119)
                                                                        [Go.SE.SV.ref
                                                                            [Go.SE.SV.sl (nat_lit 2) l.n fun (i : Nat) ↦
                                                                                [Go.SE.SV.int Go.IntKind.i64 (l.g i).x, Go.SE.SV.int Go.IntKind.i64 (l.g i).y]]
                                                                            (nat_lit 0),
                                                                          Go.SE.SV.ref [Go.SE.SV.int Go.IntKind.i64 m] (nat_lit 0)]]
                                                                    (nat_lit 0) ∧
                                                                Go.SE.SV.ref
                                                                      [Go.SE.SV.sl (nat_lit 1) be.n fun (i : Nat) ↦ [Go.SE.SV.int Go.IntKind.i64 (be.g i)]]
                                                                      (nat_lit 0) =
                                                                    Go.SE.SV.ref
                                                                      [Go.SE.SV.sl (nat_lit 1) be.n fun (i : Nat) ↦ [Go.SE.SV.int Go.IntKind.i64 (be.g i)]]
                                                                      (nat_lit 0) ∧
                                                                  g' ≤ l.n ∧ l.n - g' < l.n - g)) ∧
                                        (Bool.true = Bool.true → l.n + (1 : Nat) = l.n ∨ l.n + (1 : Nat) = l.n + (1 : Nat)) ∧
                                          (Bool.true = Bool.false →
                                            Go.SE.InK Go.IntKind.i64 ((↑g : Int) + (1 : Int)) ∧
                                              ∃ (g' : Nat),
                                                l.n + (1 : Nat) = g' ∧
                                                  Bool.false = Bool.false ∧
                                                    (↑g : Int) + (1 : Int) = (↑g' : Int) ∧
                                                      n = n ∧
                                                        yl = yl ∧
                                                          Go.SE.SV.ref [Go.SE.SV.int Go.IntKind.i64 n] (nat_lit 0) =
                                                              Go.SE.SV.ref [Go.SE.SV.int Go.IntKind.i64 n] (nat_lit 0) ∧
                                                            Go.SE.SV.ref [Go.SE.SV.int Go.IntKind.i64 s.shift, Go.SE.SV.bool s.back] (nat_lit 0) =
                                                                Go.SE.SV.ref [Go.SE.SV.int Go.IntKind.i64 s.shift, Go.SE.SV.bool s.back] (nat_lit 0) ∧
                                                              Go.SE.SV.ref
                                                                    [Go.SE.SV.clo (nat_lit 119)
                                                                        [Go.SE.SV.ref
                                                                            [Go.SE.SV.sl (nat_lit 2) l.n fun (i : Nat) ↦
                                                                                [Go.SE.SV.int Go.IntKind.i64 (l.g i).x, Go.SE.SV.int Go.IntKind.i64 (l.g i).y]]
                                                                            (nat_lit 0),
                                                                          Go.SE.SV.ref [Go.SE.SV.int Go.IntKind.i64 m] (nat_lit 0)]]
                                                                    (nat_lit 0) =
                                                                  Go.SE.SV.ref
                                                                    [Go.SE.SV.clo (nat_lit 119)
                                                                        [Go.SE.SV.ref
                                                                            [Go.SE.SV.sl (nat_lit 2) l.n fun (i : Nat) ↦
                                                                                [Go.SE.SV.int Go.IntKind.i64 (l.g i).x, Go.SE.SV.int Go.IntKind.i64 (l.g i).y]]
                                                                            (nat_lit 0),
                                                                          Go.SE.SV.ref [Go.SE.SV.int Go.IntKind.i64 m] (nat_lit 0)]]
                                                                    (nat_lit 0) ∧
                                                                Go.SE.SV.ref
                                                                      [Go.SE.SV.sl (nat_lit 1) be.n fun (i : Nat) ↦ [Go.SE.SV.int Go.IntKind.i64 (be.g i)]]
                                                                      (nat_lit 0) =
                                                                    Go.SE.SV.ref
                                                                      [Go.SE.SV.sl (nat_lit 1) be.n fun (i : Nat) ↦ [Go.SE.SV.int Go.IntKind.i64 (be.g i)]]
                                                                      (nat_lit 0) ∧
                                                                  g' ≤ l.n ∧ l.n - g' < l.n - g))) ∧
        (Decidable.decide ((↑g : Int) < n) = Bool.false → g = l.n ∨ g = l.n + (1 : Nat))) (by kernel_rfl) (by
    obtain ⟨rfl, hm, hbn, hbe, n1, n2, s1, s2⟩ := hp
    refine ⟨⟨(0 : Nat), rfl, rfl, rfl, Nat.zero_le _⟩, fun g hg => ⟨fun hlt => ?_, fun hge => ?_⟩⟩
    rotate_left
    · have : ¬ (g : Int) < (l.n : Int) := by simpa using hge
      exact .inl (by omega)
    have hb : (g : Int) < (l.n : Int) := by simpa using hlt
    have f1 := Int.tmod_nonneg (l.n : Int) (show 0 ≤ s.shift + (g : Int) by omega)
    have f2 := Int.tmod_lt_of_pos (s.shift + (g : Int)) (show 0 < (l.n : Int) by omega)
    have g1 := Int.tmod_nonneg (l.n : Int) (show 0 ≤ Int.tmod (s.shift + (g : Int)) (l.n : Int) + 1 by omega)
    have g2 := Int.tmod_lt_of_pos (Int.tmod (s.shift + (g : Int)) (l.n : Int) + 1) (show 0 < (l.n : Int) by omega)
    have h1 := Int.tmod_nonneg (l.n : Int) (show 0 ≤ s.shift + (l.n : Int) - (g : Int) by omega)
    have h2 := Int.tmod_lt_of_pos (s.shift + (l.n : Int) - (g : Int)) (show 0 < (l.n : Int) by omega)
    refine ⟨InK.of (by omega) (by omega), by omega, InK.of (by omega) (by omega), ⟨fun _ _ => rfl, hm, n1, n2, by omega, by omega, by omega, by omega⟩, InK.of (by omega) (by omega), ⟨fun _ _ => rfl, hm, n1, n2, by omega, by omega, by omega, by omega⟩, InK.of (by omega) (by omega), by omega, ⟨g1, by omega⟩, fun hback => ?_, fun hback => ?_⟩
    · refine ⟨InK.of (by omega) (by omega), InK.of (by omega) (by omega), by omega, InK.of (by omega) (by omega), ⟨fun _ _ => rfl, hm, n1, n2, by omega, by omega, by omega, by omega⟩, InK.of (by omega) (by omega), InK.of (by omega) (by omega), ⟨fun _ _ => rfl, hm, n1, n2, by omega, by omega, by omega, by omega⟩, ⟨h1, by omega⟩, rfl, by omega, ?_, ⟨fun h => (by cases h), fun _ => ⟨InK.of (by omega) (by omega), g + 1, rfl, rfl, by omega, rfl, rfl, rfl, rfl, rfl, rfl, by omega, by omega⟩⟩, fun _ => .inr rfl, fun h => (by cases h)⟩
      have e : L.meas l s g = ⟨L.sq l (L.kB l s g) (L.kB l s g + 1), L.sq l (L.kB l s g - 1) (L.kB l s g + 1), L.bend l (L.kB l s g).toNat⟩ := by
        unfold L.meas; rw [hback]; rfl
      rw [e, hbe _ (by omega)]
      rfl
    · refine ⟨rfl, by omega, ?_, ⟨fun h => (by cases h), fun _ => ⟨InK.of (by omega) (by omega), g + 1, rfl, rfl, by omega, rfl, rfl, rfl, rfl, rfl, rfl, by omega, by omega⟩⟩, fun _ => .inr rfl, fun h => (by cases h)⟩
      have e : L.meas l s g = ⟨L.sq l (L.kF l s g) (L.kF l s g + 1), L.sq l (L.kF l s g) (L.kF l s g + 2), L.bend l (Int.tmod (L.kF l s g + 1) (l.n : Int)).toNat⟩ := by
        unfold L.meas; rw [hback]; rfl
      rw [e, hbe _ (by omega)]
      rfl)
theorem g_meas2_itok : ItOk Try.prog 122 g_meas2_it := iterX Try.func122 (c := bodyOf Try.f122) (by kernel_rfl) mixed (fun caps l p n g hs hp => by
  unfold g_meas2_ic at hs
  split at hs
  · cases hs; exact ⟨_, _, g_meas2_vc l _ _ _ _ _ hp.2.2, (.cons (Ext.refl _) (.cons (Ext.refl _) (.cons (Ext.ref rfl (fun i hi => by
      rcases i with _ | i
      · show Ext (SV.clo _ _) (SV.clo _ _); exact (Ext.clo rfl (fun i hi => by
      rcases i with _ | i
      · show Ext (SV.ref _ _) (SV.ref _ _); exact (Ext.ref rfl (fun i hi => by
      rcases i with _ | i
      · show Ext (SV.sl _ _ _) (SV.sl _ _ _); exact (Ext.sl hp.1)
      exact absurd hi (by simp; try omega)))
      rcases i with _ | i
      · exact (Ext.refl _)
      exact absurd hi (by simp; try omega)))
      exact absurd hi (by simp; try omega))) (.cons (Ext.ref rfl (fun i hi => by
      rcases i with _ | i
      · show Ext (SV.sl _ _ _) (SV.sl _ _ _); exact (Ext.sl hp.2.1)
      exact absurd hi (by simp; try omega))) .nil)))), rfl, show SpecsL Try.prog _ from (SpecsL.cons g_meas1_ok g_meas1_en SpecsL.nil), ⟨show ItersL Try.prog _ from ItersL.nil, TrsOk.none (fun _ => rfl)⟩⟩
  · cases hs)
theorem g_meas2_en : Enters Try.prog 122 := fun args w => by kernel_rfl
def g_measures_p (l : (L.Sq L.Pt)) (s : L.Setting) : Prop := l.n ≤ 1000000
def g_measures_r (l : (L.Sq L.Pt)) (s : L.Setting) : SV := .clo 122 [.ref [.int .i64 (l.n : Int)] 0, .ref [.int .i64 s.shift, .bool s.back] 0, .ref [.clo 119 [.ref [(.sl 2 l.n (fun i => [.int .i64 ((l.g i).x), .int .i64 ((l.g i).y)]))] 0, .ref [.int .i64 (l.n : Int)] 0]] 0, .ref [.sl 1 (bif L.validOutline l then l.n else 0) (fun k => [.int .i64 (L.bend l k)])] 0]
def g_measures_s : List EV → Option (Prop × SV)
  | [.p (.sl 2 l_n l_g), .p (.agg [.int .i64 s_shift, .bool s_back])] => some ((∀ i, i < l_n → l_g i = [.int .i64 ((ofPt (l_g i)).x), .int .i64 ((ofPt (l_g i)).y)]) ∧ g_measures_p (⟨l_n, fun i => ofPt (l_g i)⟩ : (L.Sq L.Pt)) (⟨s_shift, s_back⟩ : L.Setting), g_measures_r (⟨l_n, fun i => ofPt (l_g i)⟩ : (L.Sq L.Pt)) (⟨s_shift, s_back⟩ : L.Setting))
  | _ => none
abbrev g_measures_S : SE.Spec := (specO g_measures_s)
def g_measures_C : Cfg := { muts := [], frz := lookN [(2, [5]), (3, [6]), (4, [7])], specs := lookS [(121, p_Bends_S)], loops := lookL [], iters := lookI [], rfs := lookR [], nils := lookM [] }
theorem g_measures_vc (l : (L.Sq L.Pt)) (s : L.Setting) (hp : g_measures_p l s) : vc Try.prog (g_measures_C) (bodyOf Try.f65) (st0 Try.f65 [.p (.sl 2 l.n (fun i => [.int .i64 ((l.g i).x), .int .i64 ((l.g i).y)])), .p (.agg [.int .i64 s.shift, .bool s.back])]) (retFn Try.prog Try.f65 (g_measures_r l s)) :=
  @Eq.mpr _ (((∀ (i : Nat),
      i < l.n →
        [Go.SE.SV.int Go.IntKind.i64 (l.g i).x, Go.SE.SV.int Go.IntKind.i64 (l.g i).y] =
          [Go.SE.SV.int Go.IntKind.i64 (l.g i).x, Go.SE.SV.int Go.IntKind.i64 (l.g i).y]) ∧
    l.n ≤ (1000000 : Nat)) ∧
  Go.SE.SV.clo (nat_lit 122)
      [Go.SE.SV.ref [Go.SE.SV.int Go.IntKind.i64 (↑l.n : Int)] (nat_lit 0),
        Go.SE.SV.ref [Go.SE.SV.int Go.IntKind.i64 s.shift, Go.SE.SV.bool s.back] (nat_lit 0),
        Go.SE.SV.ref
          [Go.SE.SV.clo (nat_lit 119)
              [Go.SE.SV.ref [Go.SE.SV.sl (nat_lit 2) l.n fun (i : Nat) ↦ [Go.SE.SV.int Go.IntKind.i64 (l.g i).x, Go.SE.SV.int Go.IntKind.i64 (l.g i).y]]
                  (nat_lit 0),
                Go.SE.SV.ref [Go.SE.SV.int Go.IntKind.i64 (↑l.n : Int)] (nat_lit 0)]]
          (nat_lit 0),
        Go.SE.SV.ref
          [Go.SE.SV.sl (nat_lit 1)
              (bif Go.Proofs.Ytipaekbdalahdaa.L.validOutline (Go.Proofs.Ytipaekbdalahdaa.L.Sq.mk l.n fun (i : Nat) ↦ l.g i) then l.n else (0 : Nat))
              fun (k : Nat) ↦
              [Go.SE.SV.int Go.IntKind.i64 (Go.Proofs.Ytipaekbdalahdaa.L.bend (Go.Proofs.Ytipaekbdalahdaa.L.Sq.mk l.n fun (i : Nat) ↦ l.g i) k)]]
          (nat_lit 0)] =
    Go.SE.SV.clo (nat_lit 122)
      [Go.SE.SV.ref [Go.SE.SV.int Go.IntKind.i64 (↑l.n : Int)] (nat_lit 0),
        Go.SE.SV.ref [Go.SE.SV.int Go.IntKind.i64 s.shift, Go.SE.SV.bool s.back] (nat_lit 0),
        Go.SE.SV.ref
          [Go.SE.SV.clo (nat_lit 119)
              [Go.SE.SV.ref [Go.SE.SV.sl (nat_lit 2) l.n fun (i : Nat) ↦ [Go.SE.SV.int Go.IntKind.i64 (l.g i).x, Go.SE.SV.int Go.IntKind.i64 (l.g i).y]]
                  (nat_lit 0),
                Go.SE.SV.ref [Go.SE.SV.int Go.IntKind.i64 (↑l.n : Int)] (nat_lit 0)]]
          (nat_lit 0),
        Go.SE.SV.ref
          [Go.SE.SV.sl (nat_lit 1) (bif Go.Proofs.Ytipaekbdalahdaa.L.validOutline l then l.n else (0 : Nat)) fun (k : Nat) ↦
              [Go.SE.SV.int Go.IntKind.i64 (Go.Proofs.Ytipaekbdalahdaa.L.bend l k)]]
          (nat_lit 0)]) (by kernel_rfl) (by
    exact ⟨⟨fun _ _ => rfl, hp⟩, rfl⟩)
theorem g_measures_ok : SpecOk Try.prog 65 g_measures_S := fnX Try.func65 (c := bodyOf Try.f65) (by kernel_rfl) mixed (fun args p r hs hp => by
  unfold g_measures_s at hs
  split at hs
  · cases hs; exact ⟨_, _, g_measures_vc _ _ hp.2, (.p (.sl hp.1) (.same _ .nil)), ⟨show SpecsL Try.prog _ from (SpecsL.cons p_Bends_ok p_Bends_en SpecsL.nil), rfl, ⟨show ItersL Try.prog _ from ItersL.nil, (TrsOk.none (fun _ => rfl))⟩⟩⟩
  · cases hs)
theorem g_measures_en : Enters Try.prog 65 := fun args w => by kernel_rfl
end Go.Proofs.Ytipaekbdalahdaa

namespace Go.Proofs.Ytipaekbdalahdaa
open Go.SE Go.RowKit
set_option maxRecDepth 100000
set_option maxHeartbeats 4000000
set_option linter.unusedVariables false

def L.gaugeOf (l : L.Sq L.Pt) (k : Nat) : L.Gauge := ⟨⟨(L.meas l ⟨0, false⟩ k).edge, (L.meas l ⟨0, false⟩ k).edge⟩, ⟨(L.meas l ⟨0, false⟩ k).across, (L.meas l ⟨0, false⟩ k).across⟩, (L.meas l ⟨0, false⟩ k).bend⟩
def L.heldBad (sw : Int) (fl : L.Sq Int) : Bool := bif (bif !L.within sw (-64) 64 then true else decide (400 < (fl.n : Int))) then true else L.anyB fl.n (fun i => decide (fl.g i < 0))
def L.held (sw : Int) (fl : L.Sq Int) : Bool := !L.anyB fl.n (fun i => decide (fl.g i < 0 - sw))
def g_Gauges_p (l : (L.Sq L.Pt)) : Prop := l.n ≤ 1000000
def g_Gauges_r (l : (L.Sq L.Pt)) : SV := .tup [.sl 5 (bif L.validOutline l then l.n else 0) (fun k => [.int .i64 ((L.gaugeOf l k).edge.lo), .int .i64 ((L.gaugeOf l k).edge.hi), .int .i64 ((L.gaugeOf l k).across.lo), .int .i64 ((L.gaugeOf l k).across.hi), .int .i64 ((L.gaugeOf l k).bend)]), .int .i64 (bif L.validOutline l then 0 else 1)]
def g_Gauges_s : List EV → Option (Prop × SV)
  | [.p (.sl 2 l_n l_g)] => some ((∀ i, i < l_n → l_g i = [.int .i64 ((ofPt (l_g i)).x), .int .i64 ((ofPt (l_g i)).y)]) ∧ g_Gauges_p (⟨l_n, fun i => ofPt (l_g i)⟩ : (L.Sq L.Pt)), g_Gauges_r (⟨l_n, fun i => ofPt (l_g i)⟩ : (L.Sq L.Pt)))
  | _ => none
abbrev g_Gauges_S : SE.Spec := (specO g_Gauges_s)
def g_Gauges_C : Cfg := { muts := [], frz := lookN [], specs := lookS [(64, p_ValidOutline_S), (65, g_measures_S)], loops := lookL [], iters := lookI [(122, g_meas2_it)], rfs := lookR [], nils := lookM [(4, [(4, 13, 88, 5)])] }
theorem g_Gauges_vc (l : (L.Sq L.Pt)) (hp : g_Gauges_p l) : vc Try.prog ({ g_Gauges_C with loops := lookL [], rfs := lookR [(5, { T := Nat, keep := [0, 2, 3, 4], keepO := [], own := fun k _ => [(4, .blk 32 [.row 13]), (13, .row 88 5 k (fun i => [.int .i64 ((L.gaugeOf l i).edge.lo), .int .i64 ((L.gaugeOf l i).edge.hi), .int .i64 ((L.gaugeOf l i).across.lo), .int .i64 ((L.gaugeOf l i).across.hi), .int .i64 ((L.gaugeOf l i).bend)]))], inv := fun k _ => k ≤ l.n })] }) (bodyOf Try.f19) (st0 Try.f19 [.p (.sl 2 l.n (fun i => [.int .i64 ((l.g i).x), .int .i64 ((l.g i).y)]))]) (retFn Try.prog Try.f19 (g_Gauges_r l)) :=
  @Eq.mpr _ (((∀ (i : Nat),
      i < l.n →
        [Go.SE.SV.int Go.IntKind.i64 (l.g i).x, Go.SE.SV.int Go.IntKind.i64 (l.g i).y] =
          [Go.SE.SV.int Go.IntKind.i64 (l.g i).x, Go.SE.SV.int Go.IntKind.i64 (l.g i).y]) ∧
    l.n ≤ (1000000 : Nat)) ∧
  ((!Go.Proofs.Ytipaekbdalahdaa.L.validOutline (Go.Proofs.Ytipaekbdalahdaa.L.Sq.mk l.n fun (i : Nat) ↦ l.g i)) = Bool.true →
      (bif Go.Proofs.Ytipaekbdalahdaa.L.validOutline l then l.n else (0 : Nat)) = (0 : Nat) ∧
        (1 : Int) = bif Go.Proofs.Ytipaekbdalahdaa.L.validOutline l then (0 : Int) else (1 : Int)) ∧
    ((!Go.Proofs.Ytipaekbdalahdaa.L.validOutline (Go.Proofs.Ytipaekbdalahdaa.L.Sq.mk l.n fun (i : Nat) ↦ l.g i)) = Bool.false →
      ((∀ (i : Nat),
            i < l.n →
              [Go.SE.SV.int Go.IntKind.i64 (l.g i).x, Go.SE.SV.int Go.IntKind.i64 (l.g i).y] =
                [Go.SE.SV.int Go.IntKind.i64 (l.g i).x, Go.SE.SV.int Go.IntKind.i64 (l.g i).y]) ∧
          l.n ≤ (1000000 : Nat)) ∧
        (((∀ (i : Nat),
                i < l.n →
                  [Go.SE.SV.int Go.IntKind.i64 (l.g i).x, Go.SE.SV.int Go.IntKind.i64 (l.g i).y] =
                    [Go.SE.SV.int Go.IntKind.i64 (l.g i).x, Go.SE.SV.int Go.IntKind.i64 (l.g i).y]) ∧
              (∀ (i : Nat),
                  (i < bif Go.Proofs.Ytipaekbdalahdaa.L.validOutline (Go.Proofs.Ytipaekbdalahdaa.L.Sq.mk l.n fun (i : Nat) ↦ l.g i) then l.n else (0 : Nat)) →
                    [Go.SE.SV.int Go.IntKind.i64 (Go.Proofs.Ytipaekbdalahdaa.L.bend (Go.Proofs.Ytipaekbdalahdaa.L.Sq.mk l.n fun (i : Nat) ↦ l.g i) i)] =
                      [Go.SE.SV.int Go.IntKind.i64 (Go.Proofs.Ytipaekbdalahdaa.L.bend (Go.Proofs.Ytipaekbdalahdaa.L.Sq.mk l.n fun (i : Nat) ↦ l.g i) i)]) ∧
                (↑l.n : Int) = (↑l.n : Int) ∧
                  (↑l.n : Int) = (↑l.n : Int) ∧
                    (bif Go.Proofs.Ytipaekbdalahdaa.L.validOutline (Go.Proofs.Ytipaekbdalahdaa.L.Sq.mk l.n fun (i : Nat) ↦ l.g i) then l.n else (0 : Nat)) =
                        l.n ∧
                      (∀ (i : Nat),
                          i < l.n →
                            Go.Proofs.Ytipaekbdalahdaa.L.bend (Go.Proofs.Ytipaekbdalahdaa.L.Sq.mk l.n fun (i : Nat) ↦ l.g i) i =
                              Go.Proofs.Ytipaekbdalahdaa.L.bend (Go.Proofs.Ytipaekbdalahdaa.L.Sq.mk l.n fun (i : Nat) ↦ l.g i) i) ∧
                        (1 : Nat) ≤ l.n ∧ l.n ≤ (1000 : Nat) ∧ (0 : Int) ≤ (0 : Int) ∧ (0 : Int) ≤ (1000 : Int)) ∧
            ∃ (t : Nat),
              (nat_lit 0 = (0 : Nat) ∧
                  ∀ (i : Nat),
                    i < nat_lit 0 →
                      [] =
                        [Go.SE.SV.int Go.IntKind.i64 (Go.Proofs.Ytipaekbdalahdaa.L.gaugeOf l i).edge.lo,
                          Go.SE.SV.int Go.IntKind.i64 (Go.Proofs.Ytipaekbdalahdaa.L.gaugeOf l i).edge.hi,
                          Go.SE.SV.int Go.IntKind.i64 (Go.Proofs.Ytipaekbdalahdaa.L.gaugeOf l i).across.lo,
                          Go.SE.SV.int Go.IntKind.i64 (Go.Proofs.Ytipaekbdalahdaa.L.gaugeOf l i).across.hi,
                          Go.SE.SV.int Go.IntKind.i64 (Go.Proofs.Ytipaekbdalahdaa.L.gaugeOf l i).bend]) ∧
                (0 : Nat) ≤ l.n) ∧
          (∀ (k t : Nat) (vk : Nat → Go.Value),
              k < l.n →
                k ≤ l.n →
                  (k + nat_lit 1) * nat_lit 40 ≤ (140737488355328 : Nat) ∧
                    ∃ (t' : Nat),
                      nat_lit 0 = nat_lit 0 ∧
                        (0 : Int) = (0 : Int) ∧
                          Go.SE.SV.raw (Go.Value.slice Option.none (0 : Nat) (0 : Nat)) = Go.SE.SV.raw (Go.Value.slice Option.none (0 : Nat) (0 : Nat)) ∧
                            (l.n = l.n ∧
                                ∀ (i : Nat),
                                  i < l.n →
                                    [Go.SE.SV.int Go.IntKind.i64 (l.g i).x, Go.SE.SV.int Go.IntKind.i64 (l.g i).y] =
                                      [Go.SE.SV.int Go.IntKind.i64 (l.g i).x, Go.SE.SV.int Go.IntKind.i64 (l.g i).y]) ∧
                              vk (nat_lit 4) = vk (nat_lit 4) ∧
                                vk (nat_lit 3) = vk (nat_lit 3) ∧
                                  vk (nat_lit 2) = vk (nat_lit 2) ∧
                                    vk (nat_lit 0) = vk (nat_lit 0) ∧
                                      (k + nat_lit 1 = k + (1 : Nat) ∧
                                          ∀ (i : Nat),
                                            i < k + nat_lit 1 →
                                              Go.SE.appGet k
                                                  (fun (i : Nat) ↦
                                                    [Go.SE.SV.int Go.IntKind.i64 (Go.Proofs.Ytipaekbdalahdaa.L.gaugeOf l i).edge.lo,
                                                      Go.SE.SV.int Go.IntKind.i64 (Go.Proofs.Ytipaekbdalahdaa.L.gaugeOf l i).edge.hi,
                                                      Go.SE.SV.int Go.IntKind.i64 (Go.Proofs.Ytipaekbdalahdaa.L.gaugeOf l i).across.lo,
                                                      Go.SE.SV.int Go.IntKind.i64 (Go.Proofs.Ytipaekbdalahdaa.L.gaugeOf l i).across.hi,
                                                      Go.SE.SV.int Go.IntKind.i64 (Go.Proofs.Ytipaekbdalahdaa.L.gaugeOf l i).bend])
                                                  (fun (x : Nat) ↦
                                                    [Go.SE.SV.int Go.IntKind.i64
                                                        (Go.Proofs.Ytipaekbdalahdaa.L.meas (Go.Proofs.Ytipaekbdalahdaa.L.Sq.mk l.n fun (i : Nat) ↦ l.g i)
                                                            (Go.Proofs.Ytipaekbdalahdaa.L.Setting.mk (0 : Int) Bool.false) k).edge,
                                                      Go.SE.SV.int Go.IntKind.i64
                                                        (Go.Proofs.Ytipaekbdalahdaa.L.meas (Go.Proofs.Ytipaekbdalahdaa.L.Sq.mk l.n fun (i : Nat) ↦ l.g i)
                                                            (Go.Proofs.Ytipaekbdalahdaa.L.Setting.mk (0 : Int) Bool.false) k).edge,
                                                      Go.SE.SV.int Go.IntKind.i64
                                                        (Go.Proofs.Ytipaekbdalahdaa.L.meas (Go.Proofs.Ytipaekbdalahdaa.L.Sq.mk l.n fun (i : Nat) ↦ l.g i)
                                                            (Go.Proofs.Ytipaekbdalahdaa.L.Setting.mk (0 : Int) Bool.false) k).across,
                                                      Go.SE.SV.int Go.IntKind.i64
                                                        (Go.Proofs.Ytipaekbdalahdaa.L.meas (Go.Proofs.Ytipaekbdalahdaa.L.Sq.mk l.n fun (i : Nat) ↦ l.g i)
                                                            (Go.Proofs.Ytipaekbdalahdaa.L.Setting.mk (0 : Int) Bool.false) k).across,
                                                      Go.SE.SV.int Go.IntKind.i64
                                                        (Go.Proofs.Ytipaekbdalahdaa.L.meas (Go.Proofs.Ytipaekbdalahdaa.L.Sq.mk l.n fun (i : Nat) ↦ l.g i)
                                                            (Go.Proofs.Ytipaekbdalahdaa.L.Setting.mk (0 : Int) Bool.false) k).bend])
                                                  i =
                                                [Go.SE.SV.int Go.IntKind.i64 (Go.Proofs.Ytipaekbdalahdaa.L.gaugeOf l i).edge.lo,
                                                  Go.SE.SV.int Go.IntKind.i64 (Go.Proofs.Ytipaekbdalahdaa.L.gaugeOf l i).edge.hi,
                                                  Go.SE.SV.int Go.IntKind.i64 (Go.Proofs.Ytipaekbdalahdaa.L.gaugeOf l i).across.lo,
                                                  Go.SE.SV.int Go.IntKind.i64 (Go.Proofs.Ytipaekbdalahdaa.L.gaugeOf l i).across.hi,
                                                  Go.SE.SV.int Go.IntKind.i64 (Go.Proofs.Ytipaekbdalahdaa.L.gaugeOf l i).bend]) ∧
                                        k + (1 : Nat) ≤ l.n) ∧
            ∀ (t : Nat),
              l.n ≤ l.n →
                ((l.n = bif Go.Proofs.Ytipaekbdalahdaa.L.validOutline l then l.n else (0 : Nat)) ∧
                    ∀ (i : Nat),
                      i < l.n →
                        [Go.SE.SV.int Go.IntKind.i64 (Go.Proofs.Ytipaekbdalahdaa.L.gaugeOf l i).edge.lo,
                            Go.SE.SV.int Go.IntKind.i64 (Go.Proofs.Ytipaekbdalahdaa.L.gaugeOf l i).edge.hi,
                            Go.SE.SV.int Go.IntKind.i64 (Go.Proofs.Ytipaekbdalahdaa.L.gaugeOf l i).across.lo,
                            Go.SE.SV.int Go.IntKind.i64 (Go.Proofs.Ytipaekbdalahdaa.L.gaugeOf l i).across.hi,
                            Go.SE.SV.int Go.IntKind.i64 (Go.Proofs.Ytipaekbdalahdaa.L.gaugeOf l i).bend] =
                          [Go.SE.SV.int Go.IntKind.i64 (Go.Proofs.Ytipaekbdalahdaa.L.gaugeOf l i).edge.lo,
                            Go.SE.SV.int Go.IntKind.i64 (Go.Proofs.Ytipaekbdalahdaa.L.gaugeOf l i).edge.hi,
                            Go.SE.SV.int Go.IntKind.i64 (Go.Proofs.Ytipaekbdalahdaa.L.gaugeOf l i).across.lo,
                            Go.SE.SV.int Go.IntKind.i64 (Go.Proofs.Ytipaekbdalahdaa.L.gaugeOf l i).across.hi,
                            Go.SE.SV.int Go.IntKind.i64 (Go.Proofs.Ytipaekbdalahdaa.L.gaugeOf l i).bend]) ∧
                  (0 : Int) = bif Go.Proofs.Ytipaekbdalahdaa.L.validOutline l then (0 : Int) else (1 : Int))) (by kernel_rfl) (by
    have hn : l.n ≤ 1000000 := hp
    refine ⟨⟨fun _ _ => rfl, hn⟩, fun h => ?_, fun h => ?_⟩
    · have hv : L.validOutline l = false := by simpa using (show (!L.validOutline l) = true from h)
      rw [hv]; exact ⟨rfl, rfl⟩
    · have hv : L.validOutline l = true := by simpa using (show (!L.validOutline l) = false from h)
      obtain ⟨n3, n24, hsm, hbd⟩ := validOutline_of hv
      refine ⟨⟨fun _ _ => rfl, hn⟩, ⟨⟨fun _ _ => rfl, fun _ _ => rfl, rfl, rfl, ?_, fun _ _ => rfl, by omega, by omega, by omega, by omega⟩, (0 : Nat), ⟨rfl, fun i hi => absurd hi (Nat.not_lt_zero _)⟩, Nat.zero_le _⟩, fun k t vk hk hi => ⟨show (k + 1) * 40 ≤ 140737488355328 by omega, t, rfl, rfl, rfl, ⟨rfl, fun _ _ => rfl⟩, rfl, rfl, rfl, rfl, ⟨rfl, fun i hi => ?_⟩, by omega⟩, fun t hi => ?_⟩
      · rw [show L.validOutline (L.Sq.mk l.n fun i => l.g i) = true from hv]; rfl
      · have hi : i < k + 1 := hi
        unfold appGet
        by_cases h' : i < k
        · rw [if_pos h']
        · rw [if_neg h']
          obtain rfl : i = k := by omega
          rfl
      · rw [hv]; exact ⟨⟨rfl, fun _ _ => rfl⟩, rfl⟩)
theorem g_Gauges_ok : SpecOk Try.prog 19 g_Gauges_S := fnX Try.func19 (c := bodyOf Try.f19) (by kernel_rfl) mixed (fun args p r hs hp => by
  unfold g_Gauges_s at hs
  split at hs
  · cases hs; exact ⟨_, _, g_Gauges_vc _ hp.2, (.p (.sl hp.1) .nil), ⟨show SpecsL Try.prog _ from (SpecsL.cons p_ValidOutline_ok p_ValidOutline_en (SpecsL.cons g_measures_ok g_measures_en SpecsL.nil)), rfl, ⟨show ItersL Try.prog _ from (ItersL.cons g_meas2_itok g_meas2_en ItersL.nil), (TrsOk.none (fun _ => rfl))⟩⟩⟩
  · cases hs)
theorem g_Gauges_en : Enters Try.prog 19 := fun args w => by kernel_rfl
def g_Held1_p (n : Int) : Prop := True
def g_Held1_r (n : Int) : SV := .bool (decide (n < 0))
def g_Held1_s : List EV → Option (Prop × SV)
  | [.p (.int .i64 n)] => some (g_Held1_p n, g_Held1_r n)
  | _ => none
abbrev g_Held1_S : SE.Spec := (specO g_Held1_s)
def g_Held1_C : Cfg := { muts := [], frz := lookN [], specs := lookS [], loops := lookL [], iters := lookI [], rfs := lookR [], nils := lookM [] }
theorem g_Held1_vc (n : Int) (hp : g_Held1_p n) : vc Try.prog (g_Held1_C) (bodyOf Try.f80) (st0 Try.f80 [.p (.int .i64 n)]) (retFn Try.prog Try.f80 (g_Held1_r n)) :=
  @Eq.mpr _ (Decidable.decide (n < (0 : Int)) = Decidable.decide (n < (0 : Int))) (by kernel_rfl) (by
    rfl)
theorem g_Held1_ok : SpecOk Try.prog 80 g_Held1_S := fnX Try.func80 (c := bodyOf Try.f80) (by kernel_rfl) mixed (fun args p r hs hp => by
  unfold g_Held1_s at hs
  split at hs
  · cases hs; exact ⟨_, _, g_Held1_vc _ hp, (.same _ .nil), ⟨show SpecsL Try.prog _ from SpecsL.nil, rfl, ⟨show ItersL Try.prog _ from ItersL.nil, (TrsOk.none (fun _ => rfl))⟩⟩⟩
  · cases hs)
theorem g_Held1_en : Enters Try.prog 80 := fun args w => by kernel_rfl
theorem g_Held1_B : ∀ args p r, g_Held1_s args = some (p, r) → ∃ b, r = .bool b := by
  intro args p r h
  unfold g_Held1_s at h
  split at h
  · cases h; exact ⟨_, rfl⟩
  · cases h
def g_Held2_p (n : Int) (sw : Int) : Prop := -1000 ≤ sw ∧ sw ≤ 1000
def g_Held2_r (n : Int) (sw : Int) : SV := .bool (decide (n < 0 - sw))
def g_Held2_s : List EV → Option (Prop × SV)
  | [.p (.int .i64 n), .p (.ref [.int .i64 sw] 0)] => some (g_Held2_p n sw, g_Held2_r n sw)
  | _ => none
abbrev g_Held2_S : SE.Spec := (specO g_Held2_s)
def g_Held2_C : Cfg := { muts := [], frz := lookN [], specs := lookS [], loops := lookL [], iters := lookI [], rfs := lookR [], nils := lookM [] }
theorem g_Held2_vc (n : Int) (sw : Int) (hp : g_Held2_p n sw) : vc Try.prog (g_Held2_C) (bodyOf Try.f81) (st0 Try.f81 [.p (.int .i64 n), .p (.ref [.int .i64 sw] 0)]) (retFn Try.prog Try.f81 (g_Held2_r n sw)) :=
  @Eq.mpr _ (Go.SE.InK Go.IntKind.i64 ((0 : Int) - sw) ∧ Decidable.decide (n < (0 : Int) - sw) = Decidable.decide (n < (0 : Int) - sw)) (by kernel_rfl) (by
    obtain ⟨h1, h2⟩ := hp
    exact ⟨InK.of (by omega) (by omega), rfl⟩)
theorem g_Held2_ok : SpecOk Try.prog 81 g_Held2_S := fnX Try.func81 (c := bodyOf Try.f81) (by kernel_rfl) mixed (fun args p r hs hp => by
  unfold g_Held2_s at hs
  split at hs
  · cases hs; exact ⟨_, _, g_Held2_vc _ _ hp, (.same _ (.same _ .nil)), ⟨show SpecsL Try.prog _ from SpecsL.nil, rfl, ⟨show ItersL Try.prog _ from ItersL.nil, (TrsOk.none (fun _ => rfl))⟩⟩⟩
  · cases hs)
theorem g_Held2_en : Enters Try.prog 81 := fun args w => by kernel_rfl
theorem g_Held2_B : ∀ args p r, g_Held2_s args = some (p, r) → ∃ b, r = .bool b := by
  intro args p r h
  unfold g_Held2_s at h
  split at h
  · cases h; exact ⟨_, rfl⟩
  · cases h
def g_Held_p (sw : Int) (fl : (L.Sq Int)) : Prop := fl.n ≤ 1000000
def g_Held_r (sw : Int) (fl : (L.Sq Int)) : SV := .tup [.bool (bif L.heldBad sw fl then false else L.held sw fl), .int .i64 (bif L.heldBad sw fl then 1 else 0)]
def g_Held_s : List EV → Option (Prop × SV)
  | [.p (.int .i64 sw), .p (.sl 1 fl_n fl_g)] => some ((∀ i, i < fl_n → fl_g i = [.int .i64 ((intOf (fl_g i)))]) ∧ g_Held_p sw (⟨fl_n, fun i => intOf (fl_g i)⟩ : (L.Sq Int)), g_Held_r sw (⟨fl_n, fun i => intOf (fl_g i)⟩ : (L.Sq Int)))
  | _ => none
abbrev g_Held_S : SE.Spec := (specO g_Held_s)
def g_Held_C : Cfg := { muts := [], frz := lookN [], specs := lookS [(52, g_within_S), (62, s_conFI_S), (80, g_Held1_S), (81, g_Held2_S)], loops := lookL [], iters := lookI [], rfs := lookR [], nils := lookM [] }
theorem g_Held_vc (sw : Int) (fl : (L.Sq Int)) (hp : g_Held_p sw fl) : vc Try.prog (g_Held_C) (bodyOf Try.f37) (st0 Try.f37 [.p (.int .i64 sw), .p (.sl 1 fl.n (fun i => [.int .i64 ((fl.g i))]))]) (retFn Try.prog Try.f37 (g_Held_r sw fl)) :=
  @Eq.mpr _ (True ∧
  ((!bif !Go.Proofs.Ytipaekbdalahdaa.L.within sw (-64 : Int) (64 : Int) then Bool.true else Decidable.decide ((400 : Int) < (↑fl.n : Int))) = Bool.true →
      (∀ (i : Nat), i < fl.n → [Go.SE.SV.int Go.IntKind.i64 (fl.g i)] = [Go.SE.SV.int Go.IntKind.i64 (fl.g i)]) ∧
        Go.SE.isB
            (Go.SE.FSpec.mk (fun («as» : List Go.SE.SV) ↦ Go.SE.preO Go.Proofs.Ytipaekbdalahdaa.g_Held1_s (List.map Go.SE.EV.p «as» ++ List.map Go.SE.EV.p []))
              fun («as» : List Go.SE.SV) ↦ Go.SE.resO Go.Proofs.Ytipaekbdalahdaa.g_Held1_s (List.map Go.SE.EV.p «as» ++ List.map Go.SE.EV.p [])) ∧
          fl.n ≤ (1000000 : Nat) ∧ ∀ (i : Nat), i < fl.n → True) ∧
    ((bif bif !Go.Proofs.Ytipaekbdalahdaa.L.within sw (-64 : Int) (64 : Int) then Bool.true else Decidable.decide ((400 : Int) < (↑fl.n : Int)) then Bool.true
          else
            Go.Proofs.Ytipaekbdalahdaa.L.anyB fl.n fun (i : Nat) ↦
              Go.Proofs.Ytipaekbdalahdaa.L.fbl
                (Go.SE.FSpec.mk
                  (fun («as» : List Go.SE.SV) ↦ Go.SE.preO Go.Proofs.Ytipaekbdalahdaa.g_Held1_s (List.map Go.SE.EV.p «as» ++ List.map Go.SE.EV.p []))
                  fun («as» : List Go.SE.SV) ↦ Go.SE.resO Go.Proofs.Ytipaekbdalahdaa.g_Held1_s (List.map Go.SE.EV.p «as» ++ List.map Go.SE.EV.p []))
                [Go.SE.SV.int Go.IntKind.i64 (fl.g i)]) =
          Bool.true →
        (Bool.false = bif Go.Proofs.Ytipaekbdalahdaa.L.heldBad sw fl then Bool.false else Go.Proofs.Ytipaekbdalahdaa.L.held sw fl) ∧
          (1 : Int) = bif Go.Proofs.Ytipaekbdalahdaa.L.heldBad sw fl then (1 : Int) else (0 : Int)) ∧
      ((bif bif !Go.Proofs.Ytipaekbdalahdaa.L.within sw (-64 : Int) (64 : Int) then Bool.true else Decidable.decide ((400 : Int) < (↑fl.n : Int)) then Bool.true
          else
            Go.Proofs.Ytipaekbdalahdaa.L.anyB fl.n fun (i : Nat) ↦
              Go.Proofs.Ytipaekbdalahdaa.L.fbl
                (Go.SE.FSpec.mk
                  (fun («as» : List Go.SE.SV) ↦ Go.SE.preO Go.Proofs.Ytipaekbdalahdaa.g_Held1_s (List.map Go.SE.EV.p «as» ++ List.map Go.SE.EV.p []))
                  fun («as» : List Go.SE.SV) ↦ Go.SE.resO Go.Proofs.Ytipaekbdalahdaa.g_Held1_s (List.map Go.SE.EV.p «as» ++ List.map Go.SE.EV.p []))
                [Go.SE.SV.int Go.IntKind.i64 (fl.g i)]) =
          Bool.false →
        ((∀ (i : Nat), i < fl.n → [Go.SE.SV.int Go.IntKind.i64 (fl.g i)] = [Go.SE.SV.int Go.IntKind.i64 (fl.g i)]) ∧
            Go.SE.isB
                (Go.SE.FSpec.mk
                  (fun («as» : List Go.SE.SV) ↦
                    Go.SE.preO Go.Proofs.Ytipaekbdalahdaa.g_Held2_s
                      (List.map Go.SE.EV.p «as» ++ List.map Go.SE.EV.p [Go.SE.SV.ref [Go.SE.SV.int Go.IntKind.i64 sw] (nat_lit 0)]))
                  fun («as» : List Go.SE.SV) ↦
                  Go.SE.resO Go.Proofs.Ytipaekbdalahdaa.g_Held2_s
                    (List.map Go.SE.EV.p «as» ++ List.map Go.SE.EV.p [Go.SE.SV.ref [Go.SE.SV.int Go.IntKind.i64 sw] (nat_lit 0)])) ∧
              fl.n ≤ (1000000 : Nat) ∧ ∀ (i : Nat), i < fl.n → (-1000 : Int) ≤ sw ∧ sw ≤ (1000 : Int)) ∧
          ((!Go.Proofs.Ytipaekbdalahdaa.L.anyB fl.n fun (i : Nat) ↦
                  Go.Proofs.Ytipaekbdalahdaa.L.fbl
                    (Go.SE.FSpec.mk
                      (fun («as» : List Go.SE.SV) ↦
                        Go.SE.preO Go.Proofs.Ytipaekbdalahdaa.g_Held2_s
                          (List.map Go.SE.EV.p «as» ++ List.map Go.SE.EV.p [Go.SE.SV.ref [Go.SE.SV.int Go.IntKind.i64 sw] (nat_lit 0)]))
                      fun («as» : List Go.SE.SV) ↦
                      Go.SE.resO Go.Proofs.Ytipaekbdalahdaa.g_Held2_s
                        (List.map Go.SE.EV.p «as» ++ List.map Go.SE.EV.p [Go.SE.SV.ref [Go.SE.SV.int Go.IntKind.i64 sw] (nat_lit 0)]))
                    [Go.SE.SV.int Go.IntKind.i64 (fl.g i)]) =
              bif Go.Proofs.Ytipaekbdalahdaa.L.heldBad sw fl then Bool.false else Go.Proofs.Ytipaekbdalahdaa.L.held sw fl) ∧
            (0 : Int) = bif Go.Proofs.Ytipaekbdalahdaa.L.heldBad sw fl then (1 : Int) else (0 : Int))) (by kernel_rfl) (by
    have hn : fl.n ≤ 1000000 := hp
    refine ⟨trivial, fun _ => ⟨fun _ _ => rfl, isB_of g_Held1_B _, hn, fun _ _ => trivial⟩, fun h => ?_, fun h => ?_⟩
    · have h : L.heldBad sw fl = true := h
      rw [h]; exact ⟨rfl, rfl⟩
    · have h : L.heldBad sw fl = false := h
      cases hw : L.within sw (-64) 64 with
      | false => simp [L.heldBad, hw] at h
      | true =>
        have hw := within_iff.1 hw
        rw [h]; exact ⟨⟨fun _ _ => rfl, isB_of g_Held2_B _, hn, fun _ _ => by omega⟩, rfl, rfl⟩)
theorem g_Held_ok : SpecOk Try.prog 37 g_Held_S := fnX Try.func37 (c := bodyOf Try.f37) (by kernel_rfl) mixed (fun args p r hs hp => by
  unfold g_Held_s at hs
  split at hs
  · cases hs; exact ⟨_, _, g_Held_vc _ _ hp.2, (.same _ (.p (.sl hp.1) .nil)), ⟨show SpecsL Try.prog _ from (SpecsL.cons g_within_ok g_within_en (SpecsL.cons s_conFI_ok s_conFI_en (SpecsL.cons g_Held1_ok g_Held1_en (SpecsL.cons g_Held2_ok g_Held2_en SpecsL.nil)))), rfl, ⟨show ItersL Try.prog _ from ItersL.nil, (TrsOk.none (fun _ => rfl))⟩⟩⟩
  · cases hs)
theorem g_Held_en : Enters Try.prog 37 := fun args w => by kernel_rfl
end Go.Proofs.Ytipaekbdalahdaa

namespace Go.Proofs.Ytipaekbdalahdaa
open Go.SE Go.RowKit
set_option maxRecDepth 100000
set_option maxHeartbeats 4000000
set_option linter.unusedVariables false

def L.cmpMark (a b : L.Mark) : Int := L.or2 (L.or2 (L.cmp a.edge b.edge) (L.cmp a.place b.place)) (L.cmp a.tone b.tone)
def L.rise (n : Nat) (f : Nat → Int) : Bool := L.allB n (fun i => !(bif decide (0 < (i : Int)) then decide (0 ≤ f i) else false))
def L.badMark (l : L.Sq L.Mark) (m : L.Mark) : Bool := bif (bif !decide (m.edge = (l.g 0).edge) then true else !L.within m.place 0 16) then true else !L.within m.tone 1 16
def L.oneEdge (l : L.Sq L.Mark) : Bool := bif (bif decide ((l.n : Int) ≤ 32) then L.rise l.n (fun i => L.cmpMark (l.g (i - 1)) (l.g i)) else false) then !L.anyB l.n (fun i => L.badMark l (l.g i)) else false
def g_cmpMarks_p (a : L.Mark) (b : L.Mark) : Prop := True
def g_cmpMarks_r (a : L.Mark) (b : L.Mark) : SV := .int .i64 (L.cmpMark a b)
def g_cmpMarks_s : List EV → Option (Prop × SV)
  | [.p (.agg [.int .i64 a_edge, .int .i64 a_place, .int .i64 a_tone]), .p (.agg [.int .i64 b_edge, .int .i64 b_place, .int .i64 b_tone])] => some (g_cmpMarks_p (⟨a_edge, a_place, a_tone⟩ : L.Mark) (⟨b_edge, b_place, b_tone⟩ : L.Mark), g_cmpMarks_r (⟨a_edge, a_place, a_tone⟩ : L.Mark) (⟨b_edge, b_place, b_tone⟩ : L.Mark))
  | _ => none
abbrev g_cmpMarks_S : SE.Spec := (specO g_cmpMarks_s)
def g_cmpMarks_C : Cfg := { muts := [], frz := lookN [], specs := lookS [(78, c_cmp_S), (143, c_or_S)], loops := lookL [], iters := lookI [], rfs := lookR [], nils := lookM [] }
theorem g_cmpMarks_vc (a : L.Mark) (b : L.Mark) (hp : g_cmpMarks_p a b) : vc Try.prog (g_cmpMarks_C) (bodyOf Try.f103) (st0 Try.f103 [.p (.agg [.int .i64 a.edge, .int .i64 a.place, .int .i64 a.tone]), .p (.agg [.int .i64 b.edge, .int .i64 b.place, .int .i64 b.tone])]) (retFn Try.prog Try.f103 (g_cmpMarks_r a b)) :=
  @Eq.mpr _ (True ∧
  True ∧
    True ∧
      ((∀ (i : Nat),
            i < nat_lit 3 →
              Go.SE.rowsOf
                  [Go.SE.SV.int Go.IntKind.i64 (Go.Proofs.Ytipaekbdalahdaa.L.cmp a.edge b.edge),
                    Go.SE.SV.int Go.IntKind.i64 (Go.Proofs.Ytipaekbdalahdaa.L.cmp a.place b.place),
                    Go.SE.SV.int Go.IntKind.i64 (Go.Proofs.Ytipaekbdalahdaa.L.cmp a.tone b.tone)]
                  (nat_lit 1) i =
                [Go.SE.SV.int Go.IntKind.i64
                    (Go.Proofs.Ytipaekbdalahdaa.intOf
                      (Go.SE.rowsOf
                        [Go.SE.SV.int Go.IntKind.i64 (Go.Proofs.Ytipaekbdalahdaa.L.cmp a.edge b.edge),
                          Go.SE.SV.int Go.IntKind.i64 (Go.Proofs.Ytipaekbdalahdaa.L.cmp a.place b.place),
                          Go.SE.SV.int Go.IntKind.i64 (Go.Proofs.Ytipaekbdalahdaa.L.cmp a.tone b.tone)]
                        (nat_lit 1) i))]) ∧
          nat_lit 3 ≤ (1000000 : Nat)) ∧
        Go.Proofs.Ytipaekbdalahdaa.L.firstNZ
            (fun (i : Nat) ↦
              Go.Proofs.Ytipaekbdalahdaa.intOf
                (Go.SE.rowsOf
                  [Go.SE.SV.int Go.IntKind.i64 (Go.Proofs.Ytipaekbdalahdaa.L.cmp a.edge b.edge),
                    Go.SE.SV.int Go.IntKind.i64 (Go.Proofs.Ytipaekbdalahdaa.L.cmp a.place b.place),
                    Go.SE.SV.int Go.IntKind.i64 (Go.Proofs.Ytipaekbdalahdaa.L.cmp a.tone b.tone)]
                  (nat_lit 1) i))
            (3 : Nat) =
          Go.Proofs.Ytipaekbdalahdaa.L.cmpMark a b) (by kernel_rfl) (by
    exact ⟨trivial, trivial, trivial, ⟨fun i hi => by match i, hi with | 0, _ => rfl | 1, _ => rfl | 2, _ => rfl, by decide⟩, rfl⟩)
theorem g_cmpMarks_ok : SpecOk Try.prog 103 g_cmpMarks_S := fnX Try.func103 (c := bodyOf Try.f103) (by kernel_rfl) mixed (fun args p r hs hp => by
  unfold g_cmpMarks_s at hs
  split at hs
  · cases hs; exact ⟨_, _, g_cmpMarks_vc _ _ hp, (.same _ (.same _ .nil)), ⟨show SpecsL Try.prog _ from (SpecsL.cons c_cmp_ok c_cmp_en (SpecsL.cons c_or_ok c_or_en SpecsL.nil)), rfl, ⟨show ItersL Try.prog _ from ItersL.nil, (TrsOk.none (fun _ => rfl))⟩⟩⟩
  · cases hs)
theorem g_cmpMarks_en : Enters Try.prog 103 := fun args w => by kernel_rfl
theorem g_cmpMarks_I : ∀ args p r, g_cmpMarks_s args = some (p, r) → ∃ n, r = .int .i64 n := by
  intro args p r h
  unfold g_cmpMarks_s at h
  split at h
  · cases h; exact ⟨_, rfl⟩
  · cases h
def g_risingM_p (l : (L.Sq L.Mark)) (p : FSpec) : Prop := l.n ≤ 1000000 ∧ ∀ i, i + 1 < l.n → p.pre [(.agg [.int .i64 ((l.g i).edge), .int .i64 ((l.g i).place), .int .i64 ((l.g i).tone)]), (.agg [.int .i64 ((l.g (i + 1)).edge), .int .i64 ((l.g (i + 1)).place), .int .i64 ((l.g (i + 1)).tone)])]
def g_risingM_r (l : (L.Sq L.Mark)) (p : FSpec) : SV := .bool (L.rise l.n (fun i => L.fil p [(.agg [.int .i64 ((l.g (i - 1)).edge), .int .i64 ((l.g (i - 1)).place), .int .i64 ((l.g (i - 1)).tone)]), (.agg [.int .i64 ((l.g i).edge), .int .i64 ((l.g i).place), .int .i64 ((l.g i).tone)])]))
def g_risingM_s : List EV → Option (Prop × SV)
  | [.p (.sl 3 l_n l_g), .fn p] => some ((∀ i, i < l_n → l_g i = [.int .i64 ((ofMark (l_g i)).edge), .int .i64 ((ofMark (l_g i)).place), .int .i64 ((ofMark (l_g i)).tone)]) ∧ isI p ∧ g_risingM_p (⟨l_n, fun i => ofMark (l_g i)⟩ : (L.Sq L.Mark)) p, g_risingM_r (⟨l_n, fun i => ofMark (l_g i)⟩ : (L.Sq L.Mark)) p)
  | _ => none
abbrev g_risingM_S : SE.Spec := (specO g_risingM_s)
def g_risingM_C : Cfg := { muts := [], frz := lookN [], specs := lookS [], loops := fun _ => none, iters := lookI [], rfs := lookR [], nils := lookM [] }
theorem g_risingM_vc (l : (L.Sq L.Mark)) (p : FSpec) (hp : g_risingM_p l p) : vc Try.prog ({ g_risingM_C with loops := lookL [(2, { T := Nat, keep := [0, 1, 6, 7], keepO := [], chg := fun i => [(8, .p (.int .i64 (i : Int)))], own := fun _ => [], inv := fun i => i ≤ l.n ∧ ∀ j, j < i → (!(bif decide (0 < (j : Int)) then decide (0 ≤ L.fil p [(.agg [.int .i64 ((l.g (j - 1)).edge), .int .i64 ((l.g (j - 1)).place), .int .i64 ((l.g (j - 1)).tone)]), (.agg [.int .i64 ((l.g j).edge), .int .i64 ((l.g j).place), .int .i64 ((l.g j).tone)])]) else false)) = true, mu := fun i => l.n - i })], rfs := lookR [] }) (bodyOf Try.f102) (st0 Try.f102 [.p (.sl 3 l.n (fun i => [.int .i64 ((l.g i).edge), .int .i64 ((l.g i).place), .int .i64 ((l.g i).tone)])), .fn ⟨p.pre, fun xs => .int .i64 (L.fil p xs)⟩]) (retFn Try.prog Try.f102 (g_risingM_r l p)) :=
  @Eq.mpr _ ((∃ (g : Nat),
    (0 : Int) = (↑g : Int) ∧
      g ≤ l.n ∧
        ∀ (j : Nat),
          j < g →
            (!bif Decidable.decide ((0 : Int) < (↑j : Int)) then
                  Decidable.decide
                    ((0 : Int) ≤
                      Go.Proofs.Ytipaekbdalahdaa.L.fil p
                        [Go.SE.SV.agg
                            [Go.SE.SV.int Go.IntKind.i64 (l.g (j - (1 : Nat))).edge, Go.SE.SV.int Go.IntKind.i64 (l.g (j - (1 : Nat))).place,
                              Go.SE.SV.int Go.IntKind.i64 (l.g (j - (1 : Nat))).tone],
                          Go.SE.SV.agg
                            [Go.SE.SV.int Go.IntKind.i64 (l.g j).edge, Go.SE.SV.int Go.IntKind.i64 (l.g j).place, Go.SE.SV.int Go.IntKind.i64 (l.g j).tone]])
                else Bool.false) =
              Bool.true) ∧
  ∀ (g : Nat),
    (g ≤ l.n ∧
        ∀ (j : Nat),
          j < g →
            (!bif Decidable.decide ((0 : Int) < (↑j : Int)) then
                  Decidable.decide
                    ((0 : Int) ≤
                      Go.Proofs.Ytipaekbdalahdaa.L.fil p
                        [Go.SE.SV.agg
                            [Go.SE.SV.int Go.IntKind.i64 (l.g (j - (1 : Nat))).edge, Go.SE.SV.int Go.IntKind.i64 (l.g (j - (1 : Nat))).place,
                              Go.SE.SV.int Go.IntKind.i64 (l.g (j - (1 : Nat))).tone],
                          Go.SE.SV.agg
                            [Go.SE.SV.int Go.IntKind.i64 (l.g j).edge, Go.SE.SV.int Go.IntKind.i64 (l.g j).place, Go.SE.SV.int Go.IntKind.i64 (l.g j).tone]])
                else Bool.false) =
              Bool.true) →
      (Decidable.decide ((↑g : Int) < (↑l.n : Int)) = Bool.true →
          (Decidable.decide ((0 : Int) < (↑g : Int)) = Bool.true → Go.SE.InK Go.IntKind.i64 ((↑g : Int) - (1 : Int))) ∧
            (Decidable.decide ((0 : Int) < (↑g : Int)) = Bool.true → (0 : Int) ≤ (↑g : Int) - (1 : Int) ∧ (↑g : Int) - (1 : Int) < (↑l.n : Int)) ∧
              (Decidable.decide ((0 : Int) < (↑g : Int)) = Bool.true → (0 : Int) ≤ (↑g : Int) ∧ (↑g : Int) < (↑l.n : Int)) ∧
                (Decidable.decide ((0 : Int) < (↑g : Int)) = Bool.true →
                    p.1
                      [Go.SE.SV.agg
                          [Go.SE.SV.int Go.IntKind.i64 (l.g (Int.toNat ((↑g : Int) - (1 : Int)))).edge,
                            Go.SE.SV.int Go.IntKind.i64 (l.g (Int.toNat ((↑g : Int) - (1 : Int)))).place,
                            Go.SE.SV.int Go.IntKind.i64 (l.g (Int.toNat ((↑g : Int) - (1 : Int)))).tone],
                        Go.SE.SV.agg
                          [Go.SE.SV.int Go.IntKind.i64 (l.g (Int.toNat (↑g : Int))).edge, Go.SE.SV.int Go.IntKind.i64 (l.g (Int.toNat (↑g : Int))).place,
                            Go.SE.SV.int Go.IntKind.i64 (l.g (Int.toNat (↑g : Int))).tone]]) ∧
                  ((bif Decidable.decide ((0 : Int) < (↑g : Int)) then
                          Decidable.decide
                            ((0 : Int) ≤
                              Go.Proofs.Ytipaekbdalahdaa.L.fil p
                                [Go.SE.SV.agg
                                    [Go.SE.SV.int Go.IntKind.i64 (l.g (Int.toNat ((↑g : Int) - (1 : Int)))).edge,
                                      Go.SE.SV.int Go.IntKind.i64 (l.g (Int.toNat ((↑g : Int) - (1 : Int)))).place,
                                      Go.SE.SV.int Go.IntKind.i64 (l.g (Int.toNat ((↑g : Int) - (1 : Int)))).tone],
                                  Go.SE.SV.agg
                                    [Go.SE.SV.int Go.IntKind.i64 (l.g (Int.toNat (↑g : Int))).edge,
                                      Go.SE.SV.int Go.IntKind.i64 (l.g (Int.toNat (↑g : Int))).place,
                                      Go.SE.SV.int Go.IntKind.i64 (l.g (Int.toNat (↑g : Int))).tone]])
                        else Bool.false) =
                        Bool.true →
                      Bool.false =
                        Go.Proofs.Ytipaekbdalahdaa.L.rise l.n fun (i : Nat) ↦
                          Go.Proofs.Ytipaekbdalahdaa.L.fil p
                            [Go.SE.SV.agg
                                [Go.SE.SV.int Go.IntKind.i64 (l.g (i - (1 : Nat))).edge, Go.SE.SV.int Go.IntKind.i64 (l.g (i - (1 : Nat))).place,
                                  Go.SE.SV.int Go.IntKind.i64 (l.g (i - (1 : Nat))).tone],
                              Go.SE.SV.agg
                                [Go.SE.SV.int Go.IntKind.i64 (l.g i).edge, Go.SE.SV.int Go.IntKind.i64 (l.g i).place,
                                  Go.SE.SV.int Go.IntKind.i64 (l.g i).tone]]) ∧
                    ((bif Decidable.decide ((0 : Int) < (↑g : Int)) then
                          Decidable.decide
                            ((0 : Int) ≤
                              Go.Proofs.Ytipaekbdalahdaa.L.fil p
                                [Go.SE.SV.agg
                                    [Go.SE.SV.int Go.IntKind.i64 (l.g (Int.toNat ((↑g : Int) - (1 : Int)))).edge,
                                      Go.SE.SV.int Go.IntKind.i64 (l.g (Int.toNat ((↑g : Int) - (1 : Int)))).place,
                                      Go.SE.SV.int Go.IntKind.i64 (l.g (Int.toNat ((↑g : Int) - (1 : Int)))).tone],
                                  Go.SE.SV.agg
                                    [Go.SE.SV.int Go.IntKind.i64 (l.g (Int.toNat (↑g : Int))).edge,
                                      Go.SE.SV.int Go.IntKind.i64 (l.g (Int.toNat (↑g : Int))).place,
                                      Go.SE.SV.int Go.IntKind.i64 (l.g (Int.toNat (↑g : Int))).tone]])
                        else Bool.false) =
                        Bool.false →
                      Go.SE.InK Go.IntKind.i64 ((↑g : Int) + (1 : Int)) ∧
                        ∃ (g' : Nat),
                          (↑g : Int) + (1 : Int) = (↑g' : Int) ∧
                            (↑l.n : Int) = (↑l.n : Int) ∧
                              (l.n = l.n ∧
                                  ∀ (i : Nat),
                                    i < l.n →
                                      [Go.SE.SV.int Go.IntKind.i64 (l.g i).edge, Go.SE.SV.int Go.IntKind.i64 (l.g i).place,
                                          Go.SE.SV.int Go.IntKind.i64 (l.g i).tone] =
                                        [Go.SE.SV.int Go.IntKind.i64 (l.g i).edge, Go.SE.SV.int Go.IntKind.i64 (l.g i).place,
                                          Go.SE.SV.int Go.IntKind.i64 (l.g i).tone]) ∧
                                (l.n = l.n ∧
                                    ∀ (i : Nat),
                                      i < l.n →
                                        [Go.SE.SV.int Go.IntKind.i64 (l.g i).edge, Go.SE.SV.int Go.IntKind.i64 (l.g i).place,
                                            Go.SE.SV.int Go.IntKind.i64 (l.g i).tone] =
                                          [Go.SE.SV.int Go.IntKind.i64 (l.g i).edge, Go.SE.SV.int Go.IntKind.i64 (l.g i).place,
                                            Go.SE.SV.int Go.IntKind.i64 (l.g i).tone]) ∧
                                  ((Go.SE.FSpec.mk p.pre fun (xs : List Go.SE.SV) ↦ Go.SE.SV.int Go.IntKind.i64 (Go.Proofs.Ytipaekbdalahdaa.L.fil p xs)) =
                                      Go.SE.FSpec.mk p.pre fun (xs : List Go.SE.SV) ↦ Go.SE.SV.int Go.IntKind.i64 (Go.Proofs.Ytipaekbdalahdaa.L.fil p xs)) ∧
                                    (g' ≤ l.n ∧
                                        ∀ (j : Nat),
                                          j < g' →
                                            (!bif Decidable.decide ((0 : Int) < (↑j : Int)) then
                                                  Decidable.decide
                                                    ((0 : Int) ≤
                                                      Go.Proofs.Ytipaekbdalahdaa.L.fil p
                                                        [Go.SE.SV.agg
                                                            [Go.SE.SV.int Go.IntKind.i64 (l.g (j - (1 : Nat))).edge,
                                                              Go.SE.SV.int Go.IntKind.i64 (l.g (j - (1 : Nat))).place,
                                                              Go.SE.SV.int Go.IntKind.i64 (l.g (j - (1 : Nat))).tone],
                                                          Go.SE.SV.agg
                                                            [Go.SE.SV.int Go.IntKind.i64 (l.g j).edge, Go.SE.SV.int Go.IntKind.i64 (l.g j).place,
                                                              Go.SE.SV.int Go.IntKind.i64 (l.g j).tone]])
                                                else Bool.false) =
                                              Bool.true) ∧
                                      l.n - g' < l.n - g)) ∧
        (Decidable.decide ((↑g : Int) < (↑l.n : Int)) = Bool.false →
          Bool.true =
            Go.Proofs.Ytipaekbdalahdaa.L.rise l.n fun (i : Nat) ↦
              Go.Proofs.Ytipaekbdalahdaa.L.fil p
                [Go.SE.SV.agg
                    [Go.SE.SV.int Go.IntKind.i64 (l.g (i - (1 : Nat))).edge, Go.SE.SV.int Go.IntKind.i64 (l.g (i - (1 : Nat))).place,
                      Go.SE.SV.int Go.IntKind.i64 (l.g (i - (1 : Nat))).tone],
                  Go.SE.SV.agg [Go.SE.SV.int Go.IntKind.i64 (l.g i).edge, Go.SE.SV.int Go.IntKind.i64 (l.g i).place, Go.SE.SV.int Go.IntKind.i64 (l.g i).tone]])) (by kernel_rfl) (by
    obtain ⟨hn, hpre⟩ := hp
    refine ⟨⟨(0 : Nat), rfl, Nat.zero_le _, fun j hj => absurd hj (Nat.not_lt_zero _)⟩, fun g hg => ⟨fun hlt => ?_, fun hge => ?_⟩⟩
    · have hb : (g : Int) < (l.n : Int) := by simpa using hlt
      have e0 : ((g : Int)).toNat = g := by omega
      have e1 : ((g : Int) - 1).toNat = g - 1 := by omega
      rw [e0, e1]
      refine ⟨fun _ => InK.of (by omega) (by omega), fun h => by have := of_decide_eq_true h; omega, fun _ => by omega, fun h => ?_, fun h => ?_, fun h => ?_⟩
      · have h0 : (0 : Int) < g := of_decide_eq_true h
        have := hpre (g - 1) (by omega)
        rw [show g - 1 + 1 = g by omega] at this
        exact this
      · unfold L.rise
        rw [allB_false (i := g) (by omega) (by rw [h]; rfl)]
      · exact ⟨InK.of (by omega) (by omega), g + 1, by omega, rfl, ⟨rfl, fun _ _ => rfl⟩, ⟨rfl, fun _ _ => rfl⟩, rfl, ⟨by omega, fun j hj => by
          rcases Nat.lt_succ_iff_lt_or_eq.1 hj with h' | rfl
          · exact hg.2 j h'
          · rw [h]; rfl⟩, by omega⟩
    · have hb : ¬ (g : Int) < (l.n : Int) := by simpa using hge
      unfold L.rise
      rw [allB_iff.2 (fun i hi => hg.2 i (by omega))])
theorem g_risingM_ok : SpecOk Try.prog 102 g_risingM_S := fnX Try.func102 (c := bodyOf Try.f102) (by kernel_rfl) mixed (fun args p r hs hp => by
  unfold g_risingM_s at hs
  split at hs
  · cases hs; exact ⟨_, _, g_risingM_vc _ _ hp.2.2, (.p (.sl hp.1) (.fn (fun xs h => ⟨h, (fil_res hp.2.1 h).symm⟩) .nil)), ⟨show SpecsL Try.prog _ from SpecsL.nil, rfl, ⟨show ItersL Try.prog _ from ItersL.nil, (TrsOk.none (fun _ => rfl))⟩⟩⟩
  · cases hs)
theorem g_risingM_en : Enters Try.prog 102 := fun args w => by kernel_rfl
theorem g_risingM_B : ∀ args p r, g_risingM_s args = some (p, r) → ∃ b, r = .bool b := by
  intro args p r h
  unfold g_risingM_s at h
  split at h
  · cases h; exact ⟨_, rfl⟩
  · cases h
def g_oneEdge1_p (m : L.Mark) (l : (L.Sq L.Mark)) : Prop := 1 ≤ l.n
def g_oneEdge1_r (m : L.Mark) (l : (L.Sq L.Mark)) : SV := .bool (L.badMark l m)
def g_oneEdge1_s : List EV → Option (Prop × SV)
  | [.p (.agg [.int .i64 m_edge, .int .i64 m_place, .int .i64 m_tone]), .p (.ref [.sl 3 l_n l_g] 0)] => some ((∀ i, i < l_n → l_g i = [.int .i64 ((ofMark (l_g i)).edge), .int .i64 ((ofMark (l_g i)).place), .int .i64 ((ofMark (l_g i)).tone)]) ∧ g_oneEdge1_p (⟨m_edge, m_place, m_tone⟩ : L.Mark) (⟨l_n, fun i => ofMark (l_g i)⟩ : (L.Sq L.Mark)), g_oneEdge1_r (⟨m_edge, m_place, m_tone⟩ : L.Mark) (⟨l_n, fun i => ofMark (l_g i)⟩ : (L.Sq L.Mark)))
  | _ => none
abbrev g_oneEdge1_S : SE.Spec := (specO g_oneEdge1_s)
def g_oneEdge1_C : Cfg := { muts := [], frz := lookN [], specs := lookS [(52, g_within_S)], loops := lookL [], iters := lookI [], rfs := lookR [], nils := lookM [] }
theorem g_oneEdge1_vc (m : L.Mark) (l : (L.Sq L.Mark)) (hp : g_oneEdge1_p m l) : vc Try.prog (g_oneEdge1_C) (bodyOf Try.f101) (st0 Try.f101 [.p (.agg [.int .i64 m.edge, .int .i64 m.place, .int .i64 m.tone]), .p (.ref [.sl 3 l.n (fun i => [.int .i64 ((l.g i).edge), .int .i64 ((l.g i).place), .int .i64 ((l.g i).tone)])] 0)]) (retFn Try.prog Try.f101 (g_oneEdge1_r m l)) :=
  @Eq.mpr _ (((0 : Int) ≤ (0 : Int) ∧ (0 : Int) < (↑l.n : Int)) ∧
  ((!!Decidable.decide (m.edge = (l.g (Int.toNat (0 : Int))).edge)) = Bool.true → True) ∧
    ((!bif !Decidable.decide (m.edge = (l.g (Int.toNat (0 : Int))).edge) then Bool.true
            else !Go.Proofs.Ytipaekbdalahdaa.L.within m.place (0 : Int) (16 : Int)) =
          Bool.true →
        True) ∧
      (bif
            bif !Decidable.decide (m.edge = (l.g (Int.toNat (0 : Int))).edge) then Bool.true
            else !Go.Proofs.Ytipaekbdalahdaa.L.within m.place (0 : Int) (16 : Int) then
          Bool.true
        else !Go.Proofs.Ytipaekbdalahdaa.L.within m.tone (1 : Int) (16 : Int)) =
        Go.Proofs.Ytipaekbdalahdaa.L.badMark l m) (by kernel_rfl) (by
    have h1 : 1 ≤ l.n := hp
    exact ⟨by omega, fun _ => trivial, fun _ => trivial, rfl⟩)
theorem g_oneEdge1_ok : SpecOk Try.prog 101 g_oneEdge1_S := fnX Try.func101 (c := bodyOf Try.f101) (by kernel_rfl) mixed (fun args p r hs hp => by
  unfold g_oneEdge1_s at hs
  split at hs
  · cases hs; exact ⟨_, _, g_oneEdge1_vc _ _ hp.2, (.same _ (.p (Ext.ref rfl (fun i hi => by
      rcases i with _ | i
      · show Ext (SV.sl _ _ _) (SV.sl _ _ _); exact (Ext.sl hp.1)
      exact absurd hi (by simp; try omega))) .nil)), ⟨show SpecsL Try.prog _ from (SpecsL.cons g_within_ok g_within_en SpecsL.nil), rfl, ⟨show ItersL Try.prog _ from ItersL.nil, (TrsOk.none (fun _ => rfl))⟩⟩⟩
  · cases hs)
theorem g_oneEdge1_en : Enters Try.prog 101 := fun args w => by kernel_rfl
theorem g_oneEdge1_B : ∀ args p r, g_oneEdge1_s args = some (p, r) → ∃ b, r = .bool b := by
  intro args p r h
  unfold g_oneEdge1_s at h
  split at h
  · cases h; exact ⟨_, rfl⟩
  · cases h
def g_oneEdge_p (l : (L.Sq L.Mark)) : Prop := l.n ≤ 1000000
def g_oneEdge_r (l : (L.Sq L.Mark)) : SV := .bool (L.oneEdge l)
def g_oneEdge_s : List EV → Option (Prop × SV)
  | [.p (.sl 3 l_n l_g)] => some ((∀ i, i < l_n → l_g i = [.int .i64 ((ofMark (l_g i)).edge), .int .i64 ((ofMark (l_g i)).place), .int .i64 ((ofMark (l_g i)).tone)]) ∧ g_oneEdge_p (⟨l_n, fun i => ofMark (l_g i)⟩ : (L.Sq L.Mark)), g_oneEdge_r (⟨l_n, fun i => ofMark (l_g i)⟩ : (L.Sq L.Mark)))
  | _ => none
abbrev g_oneEdge_S : SE.Spec := (specO g_oneEdge_s)
def g_oneEdge_C : Cfg := { muts := [], frz := lookN [], specs := lookS [(102, g_risingM_S), (103, g_cmpMarks_S), (104, s_conFM_S), (101, g_oneEdge1_S)], loops := lookL [], iters := lookI [], rfs := lookR [], nils := lookM [] }
theorem g_oneEdge_vc (l : (L.Sq L.Mark)) (hp : g_oneEdge_p l) : vc Try.prog (g_oneEdge_C) (bodyOf Try.f51) (st0 Try.f51 [.p (.sl 3 l.n (fun i => [.int .i64 ((l.g i).edge), .int .i64 ((l.g i).place), .int .i64 ((l.g i).tone)]))]) (retFn Try.prog Try.f51 (g_oneEdge_r l)) :=
  @Eq.mpr _ ((Decidable.decide ((↑l.n : Int) ≤ (32 : Int)) = Bool.true →
    (∀ (i : Nat),
        i < l.n →
          [Go.SE.SV.int Go.IntKind.i64 (l.g i).edge, Go.SE.SV.int Go.IntKind.i64 (l.g i).place, Go.SE.SV.int Go.IntKind.i64 (l.g i).tone] =
            [Go.SE.SV.int Go.IntKind.i64 (l.g i).edge, Go.SE.SV.int Go.IntKind.i64 (l.g i).place, Go.SE.SV.int Go.IntKind.i64 (l.g i).tone]) ∧
      Go.SE.isI
          (Go.SE.FSpec.mk (fun («as» : List Go.SE.SV) ↦ Go.SE.preO Go.Proofs.Ytipaekbdalahdaa.g_cmpMarks_s (List.map Go.SE.EV.p «as» ++ List.map Go.SE.EV.p []))
            fun («as» : List Go.SE.SV) ↦ Go.SE.resO Go.Proofs.Ytipaekbdalahdaa.g_cmpMarks_s (List.map Go.SE.EV.p «as» ++ List.map Go.SE.EV.p [])) ∧
        l.n ≤ (1000000 : Nat) ∧ ∀ (i : Nat), i + (1 : Nat) < l.n → True) ∧
  ((bif Decidable.decide ((↑l.n : Int) ≤ (32 : Int)) then
          Go.Proofs.Ytipaekbdalahdaa.L.rise l.n fun (i : Nat) ↦
            Go.Proofs.Ytipaekbdalahdaa.L.fil
              (Go.SE.FSpec.mk
                (fun («as» : List Go.SE.SV) ↦ Go.SE.preO Go.Proofs.Ytipaekbdalahdaa.g_cmpMarks_s (List.map Go.SE.EV.p «as» ++ List.map Go.SE.EV.p []))
                fun («as» : List Go.SE.SV) ↦ Go.SE.resO Go.Proofs.Ytipaekbdalahdaa.g_cmpMarks_s (List.map Go.SE.EV.p «as» ++ List.map Go.SE.EV.p []))
              [Go.SE.SV.agg
                  [Go.SE.SV.int Go.IntKind.i64 (l.g (i - (1 : Nat))).edge, Go.SE.SV.int Go.IntKind.i64 (l.g (i - (1 : Nat))).place,
                    Go.SE.SV.int Go.IntKind.i64 (l.g (i - (1 : Nat))).tone],
                Go.SE.SV.agg [Go.SE.SV.int Go.IntKind.i64 (l.g i).edge, Go.SE.SV.int Go.IntKind.i64 (l.g i).place, Go.SE.SV.int Go.IntKind.i64 (l.g i).tone]]
        else Bool.false) =
        Bool.true →
      (∀ (i : Nat),
          i < l.n →
            [Go.SE.SV.int Go.IntKind.i64 (l.g i).edge, Go.SE.SV.int Go.IntKind.i64 (l.g i).place, Go.SE.SV.int Go.IntKind.i64 (l.g i).tone] =
              [Go.SE.SV.int Go.IntKind.i64 (l.g i).edge, Go.SE.SV.int Go.IntKind.i64 (l.g i).place, Go.SE.SV.int Go.IntKind.i64 (l.g i).tone]) ∧
        Go.SE.isB
            (Go.SE.FSpec.mk
              (fun («as» : List Go.SE.SV) ↦
                Go.SE.preO Go.Proofs.Ytipaekbdalahdaa.g_oneEdge1_s
                  (List.map Go.SE.EV.p «as» ++
                    List.map Go.SE.EV.p
                      [Go.SE.SV.ref
                          [Go.SE.SV.sl (nat_lit 3) l.n fun (i : Nat) ↦
                              [Go.SE.SV.int Go.IntKind.i64 (l.g i).edge, Go.SE.SV.int Go.IntKind.i64 (l.g i).place, Go.SE.SV.int Go.IntKind.i64 (l.g i).tone]]
                          (nat_lit 0)]))
              fun («as» : List Go.SE.SV) ↦
              Go.SE.resO Go.Proofs.Ytipaekbdalahdaa.g_oneEdge1_s
                (List.map Go.SE.EV.p «as» ++
                  List.map Go.SE.EV.p
                    [Go.SE.SV.ref
                        [Go.SE.SV.sl (nat_lit 3) l.n fun (i : Nat) ↦
                            [Go.SE.SV.int Go.IntKind.i64 (l.g i).edge, Go.SE.SV.int Go.IntKind.i64 (l.g i).place, Go.SE.SV.int Go.IntKind.i64 (l.g i).tone]]
                        (nat_lit 0)])) ∧
          l.n ≤ (1000000 : Nat) ∧
            ∀ (i : Nat),
              i < l.n →
                (∀ (i : Nat),
                    i < l.n →
                      [Go.SE.SV.int Go.IntKind.i64 (l.g i).edge, Go.SE.SV.int Go.IntKind.i64 (l.g i).place, Go.SE.SV.int Go.IntKind.i64 (l.g i).tone] =
                        [Go.SE.SV.int Go.IntKind.i64 (l.g i).edge, Go.SE.SV.int Go.IntKind.i64 (l.g i).place, Go.SE.SV.int Go.IntKind.i64 (l.g i).tone]) ∧
                  (1 : Nat) ≤ l.n) ∧
    (bif
          bif Decidable.decide ((↑l.n : Int) ≤ (32 : Int)) then
            Go.Proofs.Ytipaekbdalahdaa.L.rise l.n fun (i : Nat) ↦
              Go.Proofs.Ytipaekbdalahdaa.L.fil
                (Go.SE.FSpec.mk
                  (fun («as» : List Go.SE.SV) ↦ Go.SE.preO Go.Proofs.Ytipaekbdalahdaa.g_cmpMarks_s (List.map Go.SE.EV.p «as» ++ List.map Go.SE.EV.p []))
                  fun («as» : List Go.SE.SV) ↦ Go.SE.resO Go.Proofs.Ytipaekbdalahdaa.g_cmpMarks_s (List.map Go.SE.EV.p «as» ++ List.map Go.SE.EV.p []))
                [Go.SE.SV.agg
                    [Go.SE.SV.int Go.IntKind.i64 (l.g (i - (1 : Nat))).edge, Go.SE.SV.int Go.IntKind.i64 (l.g (i - (1 : Nat))).place,
                      Go.SE.SV.int Go.IntKind.i64 (l.g (i - (1 : Nat))).tone],
                  Go.SE.SV.agg [Go.SE.SV.int Go.IntKind.i64 (l.g i).edge, Go.SE.SV.int Go.IntKind.i64 (l.g i).place, Go.SE.SV.int Go.IntKind.i64 (l.g i).tone]]
          else Bool.false then
        !Go.Proofs.Ytipaekbdalahdaa.L.anyB l.n fun (i : Nat) ↦
            Go.Proofs.Ytipaekbdalahdaa.L.fbl
              (Go.SE.FSpec.mk
                (fun («as» : List Go.SE.SV) ↦
                  Go.SE.preO Go.Proofs.Ytipaekbdalahdaa.g_oneEdge1_s
                    (List.map Go.SE.EV.p «as» ++
                      List.map Go.SE.EV.p
                        [Go.SE.SV.ref
                            [Go.SE.SV.sl (nat_lit 3) l.n fun (i : Nat) ↦
                                [Go.SE.SV.int Go.IntKind.i64 (l.g i).edge, Go.SE.SV.int Go.IntKind.i64 (l.g i).place, Go.SE.SV.int Go.IntKind.i64 (l.g i).tone]]
                            (nat_lit 0)]))
                fun («as» : List Go.SE.SV) ↦
                Go.SE.resO Go.Proofs.Ytipaekbdalahdaa.g_oneEdge1_s
                  (List.map Go.SE.EV.p «as» ++
                    List.map Go.SE.EV.p
                      [Go.SE.SV.ref
                          [Go.SE.SV.sl (nat_lit 3) l.n fun (i : Nat) ↦
                              [Go.SE.SV.int Go.IntKind.i64 (l.g i).edge, Go.SE.SV.int Go.IntKind.i64 (l.g i).place, Go.SE.SV.int Go.IntKind.i64 (l.g i).tone]]
                          (nat_lit 0)]))
              [Go.SE.SV.agg [Go.SE.SV.int Go.IntKind.i64 (l.g i).edge, Go.SE.SV.int Go.IntKind.i64 (l.g i).place, Go.SE.SV.int Go.IntKind.i64 (l.g i).tone]]
      else Bool.false) =
      Go.Proofs.Ytipaekbdalahdaa.L.oneEdge l) (by kernel_rfl) (by
    exact ⟨fun _ => ⟨fun _ _ => rfl, isI_of g_cmpMarks_I _, hp, fun _ _ => trivial⟩, fun _ => ⟨fun _ _ => rfl, isB_of g_oneEdge1_B _, hp, fun i hi => ⟨fun _ _ => rfl, Nat.lt_of_le_of_lt (Nat.zero_le _) hi⟩⟩, rfl⟩)
theorem g_oneEdge_ok : SpecOk Try.prog 51 g_oneEdge_S := fnX Try.func51 (c := bodyOf Try.f51) (by kernel_rfl) mixed (fun args p r hs hp => by
  unfold g_oneEdge_s at hs
  split at hs
  · cases hs; exact ⟨_, _, g_oneEdge_vc _ hp.2, (.p (.sl hp.1) .nil), ⟨show SpecsL Try.prog _ from (SpecsL.cons g_risingM_ok g_risingM_en (SpecsL.cons g_cmpMarks_ok g_cmpMarks_en (SpecsL.cons s_conFM_ok s_conFM_en (SpecsL.cons g_oneEdge1_ok g_oneEdge1_en SpecsL.nil)))), rfl, ⟨show ItersL Try.prog _ from ItersL.nil, (TrsOk.none (fun _ => rfl))⟩⟩⟩
  · cases hs)
theorem g_oneEdge_en : Enters Try.prog 51 := fun args w => by kernel_rfl
theorem g_oneEdge_B : ∀ args p r, g_oneEdge_s args = some (p, r) → ∃ b, r = .bool b := by
  intro args p r h
  unfold g_oneEdge_s at h
  split at h
  · cases h; exact ⟨_, rfl⟩
  · cases h
end Go.Proofs.Ytipaekbdalahdaa

namespace Go.Proofs.Ytipaekbdalahdaa
open Go.SE Go.RowKit
set_option maxRecDepth 100000
set_option maxHeartbeats 4000000
set_option linter.unusedVariables false

def L.near (a b : L.Sq L.Mark) (sl : Int) (i k : Nat) : Bool := bif decide ((a.g i).tone = (b.g k).tone) then L.within ((a.g i).place + (b.g k).place - 16) (0 - sl) sl else false
def L.okMarks (a b : L.Sq L.Mark) (sl : Int) : Prop := a.n = b.n ∧ b.n ≤ 1000 ∧ (∀ i, i < a.n → 0 ≤ (a.g i).place ∧ (a.g i).place ≤ 16) ∧ (∀ i, i < b.n → 0 ≤ (b.g i).place ∧ (b.g i).place ≤ 16) ∧ 0 ≤ sl ∧ sl ≤ 16
def L.unseen : Nat → (Nat → Bool) → Nat
  | 0, _ => 0
  | n + 1, s => L.unseen n s + (bif s n then 0 else 1)
def L.isF (ow : Nat → Int) (c k : Nat) : Prop := 0 ≤ ow k ∧ ow k < (c : Int)
def L.placeP (a b : L.Sq L.Mark) (sl : Int) (i : Nat) (sn : Nat → Bool) (ow : Nat → Int) (f : L.Sq Int) : Prop :=
  L.okMarks a b sl ∧ f.n ≤ i ∧ i < b.n ∧ (∀ k, k < b.n → ow k < (b.n : Int)) ∧ (∀ k k', k < b.n → k' < b.n → sn k = false → sn k' = false → 0 ≤ ow k → ow k = ow k' → k = k') ∧ (∀ k, k < b.n → sn k = false → ow k ≠ (i : Int))
def L.placeQ (a b : L.Sq L.Mark) (sl : Int) (i : Nat) (sn : Nat → Bool) (ow : Nat → Int) (f : L.Sq Int) (r : Bool) (sn' : Nat → Bool) (ow' : Nat → Int) : Prop :=
  (∀ k, sn k = true → sn' k = true) ∧
  (r = false → (∀ k, k < b.n → ow' k = ow k) ∧ (∀ k, k < b.n → L.near a b sl i k = true → sn' k = true ∨ L.isF ow f.n k) ∧
    ∀ q, q < b.n → sn' q = true → sn q = false → (f.n : Int) ≤ ow q ∧ ∀ k, k < b.n → L.near a b sl (ow q).toNat k = true → sn' k = true ∨ L.isF ow f.n k) ∧
  (r = true → (∀ k, k < b.n → sn k = true → ow' k = ow k) ∧ (∀ k, k < b.n → L.isF ow f.n k → ow' k = ow k) ∧ (∀ k, k < b.n → ow' k < (b.n : Int)) ∧
    (∀ k k', k < b.n → k' < b.n → sn k = false → sn k' = false → 0 ≤ ow' k → ow' k = ow' k' → k = k') ∧
    (∀ j : Int, 0 ≤ j → ((∃ k, k < b.n ∧ sn k = false ∧ ow' k = j) ↔ ((∃ k, k < b.n ∧ sn k = false ∧ ow k = j) ∨ j = (i : Int)))) ∧
    (∀ k, k < b.n → 0 ≤ ow' k → ow' k ≠ ow k → (f.n : Int) ≤ ow' k ∧ L.near a b sl (ow' k).toNat k = true))
def L.set (s : Nat → Bool) (k : Nat) : Nat → Bool := fun j => bif decide (j = k) then true else s j
def L.own (s : Nat → Int) (k : Nat) (v : Int) : Nat → Int := fun j => bif decide (j = k) then v else s j
def L.placeI (a b : L.Sq L.Mark) (sl : Int) (i : Nat) (sn : Nat → Bool) (ow : Nat → Int) (f : L.Sq Int) (k : Nat) (s : Nat → Bool) : Prop :=
  k ≤ b.n ∧ (∀ q, sn q = true → s q = true) ∧ (∀ q, q < k → L.near a b sl i q = true → s q = true ∨ L.isF ow f.n q) ∧
  (∀ q, q < b.n → s q = true → sn q = false → (f.n : Int) ≤ ow q ∧ ∀ k', k' < b.n → L.near a b sl (ow q).toNat k' = true → s k' = true ∨ L.isF ow f.n k')
theorem set_self (s : Nat → Bool) (k : Nat) : L.set s k k = true := by simp [L.set]
theorem set_ne {s : Nat → Bool} {k j : Nat} (h : j ≠ k) : L.set s k j = s j := by simp [L.set, h]
theorem set_of {s : Nat → Bool} {k j : Nat} (h : s j = true) : L.set s k j = true := by
  by_cases e : j = k
  · subst e; exact set_self s j
  · rw [set_ne e]; exact h
theorem set_false {s : Nat → Bool} {k j : Nat} (h : L.set s k j = false) : j ≠ k ∧ s j = false := by
  have e : j ≠ k := fun e => by subst e; rw [set_self] at h; cases h
  rw [set_ne e] at h; exact ⟨e, h⟩
theorem own_self (s : Nat → Int) (k : Nat) (v : Int) : L.own s k v k = v := by simp [L.own]
theorem own_ne {s : Nat → Int} {k j : Nat} {v : Int} (h : j ≠ k) : L.own s k v j = s j := by simp [L.own, h]
theorem unseen_le {s s' : Nat → Bool} (h : ∀ q, s q = true → s' q = true) : ∀ n, L.unseen n s' ≤ L.unseen n s
  | 0 => Nat.le_refl _
  | n + 1 => by
    have ih := unseen_le h n
    simp only [L.unseen]
    cases h1 : s n with
    | true => rw [h n h1]; simp; exact ih
    | false => cases s' n <;> simp <;> omega
theorem unseen_lt {s : Nat → Bool} {k : Nat} (hs : s k = false) : ∀ {n}, k < n → L.unseen n (L.set s k) < L.unseen n s
  | n + 1, h => by
    simp only [L.unseen]
    by_cases e : k = n
    · subst e
      rw [set_self, hs]
      have := unseen_le (s := s) (s' := L.set s k) (fun q hq => set_of hq) k
      simp; omega
    · have ih := unseen_lt hs (n := n) (by omega)
      rw [set_ne (j := n) (fun h => e h.symm)]
      omega
section
variable {a b : L.Sq L.Mark} {sl : Int} {i : Nat} {sn : Nat → Bool} {ow : Nat → Int} {f : L.Sq Int} {k : Nat} {s : Nat → Bool}
theorem place_0 : L.placeI a b sl i sn ow f 0 sn := ⟨Nat.zero_le _, fun _ h => h, fun q hq => absurd hq (Nat.not_lt_zero _), fun q _ h1 h2 => by rw [h2] at h1; cases h1⟩
theorem place_skip (h : L.placeI a b sl i sn ow f k s) (hk : k < b.n) (hn : L.near a b sl i k = true → s k = true ∨ L.isF ow f.n k) : L.placeI a b sl i sn ow f (k + 1) s :=
  ⟨hk, h.2.1, fun q hq hnq => by
    rcases Nat.lt_succ_iff_lt_or_eq.1 hq with h' | rfl
    · exact h.2.2.1 q h' hnq
    · exact hn hnq, h.2.2.2⟩
theorem place_end (h : L.placeI a b sl i sn ow f b.n s) : L.placeQ a b sl i sn ow f false s ow :=
  ⟨h.2.1, fun _ => ⟨fun _ _ => rfl, fun q hq hn => h.2.2.1 q hq hn, fun q hq h1 h2 => h.2.2.2 q hq h1 h2⟩, fun h => (by cases h)⟩
theorem place_sn (h : L.placeI a b sl i sn ow f k s) {q : Nat} (hq : s q = false) : sn q = false := by
  cases hs : sn q with
  | false => rfl
  | true => rw [h.2.1 q hs] at hq; cases hq
theorem place_pre (hp : L.placeP a b sl i sn ow f) (h : L.placeI a b sl i sn ow f k s) (hk : k < b.n) (hs : s k = false) (hF : ¬ L.isF ow f.n k) (h0 : 0 ≤ ow k) :
    L.placeP a b sl (ow k).toNat (L.set s k) ow f ∧ L.unseen b.n (L.set s k) < L.unseen b.n sn := by
  obtain ⟨p1, p2, p3, p4, p5, p6⟩ := hp
  have hkb := p4 k hk
  have hfk : (f.n : Int) ≤ ow k := by
    rcases Int.lt_or_le (ow k) (f.n : Int) with h' | h'
    · exact absurd ⟨h0, h'⟩ hF
    · exact h'
  have hsnk := place_sn h hs
  refine ⟨⟨p1, by omega, by omega, p4, fun q q' hq hq' h1 h2 => p5 q q' hq hq' (place_sn h (set_false h1).2) (place_sn h (set_false h2).2), fun q hq h1 e => ?_⟩, Nat.lt_of_lt_of_le (unseen_lt hs hk) (unseen_le h.2.1 _)⟩
  obtain ⟨n1, n2⟩ := set_false h1
  exact n1 (p5 q k hq hk (place_sn h n2) hsnk (by omega) (by omega))
theorem place_no {s' : Nat → Bool} {ow' : Nat → Int} (h : L.placeI a b sl i sn ow f k s) (hk : k < b.n) (hs : s k = false) (hF : ¬ L.isF ow f.n k) (h0 : 0 ≤ ow k) (hr : L.placeQ a b sl (ow k).toNat (L.set s k) ow f false s' ow') :
    L.placeI a b sl i sn ow f (k + 1) s' ∧ ∀ q, q < b.n → ow' q = ow q := by
  obtain ⟨r1, r2, _⟩ := hr
  obtain ⟨r2, r3, r4⟩ := r2 rfl
  have up : ∀ q, s q = true → s' q = true := fun q hq => r1 q (set_of hq)
  have hfk : (f.n : Int) ≤ ow k := by
    rcases Int.lt_or_le (ow k) (f.n : Int) with h' | h'
    · exact absurd ⟨h0, h'⟩ hF
    · exact h'
  refine ⟨⟨hk, fun q hq => up q (h.2.1 q hq), fun q hq hn => ?_, fun q hq h1 h2 => ?_⟩, r2⟩
  · rcases Nat.lt_succ_iff_lt_or_eq.1 hq with h' | rfl
    · exact (h.2.2.1 q h' hn).imp (up q) id
    · exact .inl (r1 q (set_self s q))
  · cases hset : L.set s k q with
    | false => exact r4 q hq h1 hset
    | true =>
      by_cases e : q = k
      · subst e; exact ⟨hfk, r3⟩
      · rw [set_ne e] at hset
        obtain ⟨q1, q2⟩ := h.2.2.2 q hq hset h2
        exact ⟨q1, fun k' hk' hn => (q2 k' hk' hn).imp (up k') id⟩
theorem place_free (hp : L.placeP a b sl i sn ow f) (h : L.placeI a b sl i sn ow f k s) (hk : k < b.n) (hs : s k = false) (h0 : ow k < 0) (hn : L.near a b sl i k = true) :
    L.placeQ a b sl i sn ow f true (L.set s k) (L.own ow k (i : Int)) := by
  obtain ⟨p1, p2, p3, p4, p5, p6⟩ := hp
  have hsnk := place_sn h hs
  refine ⟨fun q hq => set_of (h.2.1 q hq), fun h => (by cases h), fun _ => ⟨fun q hq h1 => ?_, fun q hq h1 => ?_, fun q hq => ?_, fun q q' hq hq' h1 h2 h3 h4 => ?_, fun j hj => ⟨?_, ?_⟩, fun q hq h1 h2 => ?_⟩⟩
  · exact own_ne (fun e => by subst e; rw [hsnk] at h1; cases h1)
  · exact own_ne (fun e => by subst e; have := h1.1; omega)
  · by_cases e : q = k
    · subst e; rw [own_self]; omega
    · rw [own_ne e]; exact p4 q hq
  · by_cases e : q = k <;> by_cases e' : q' = k
    · omega
    · subst e; rw [own_self, own_ne e'] at h4; exact absurd h4.symm (p6 q' hq' h2)
    · subst e'; rw [own_self, own_ne e] at h4; exact absurd h4 (p6 q hq h1)
    · rw [own_ne e] at h3; rw [own_ne e, own_ne e'] at h4; exact p5 q q' hq hq' h1 h2 h3 h4
  · rintro ⟨q, hq, h1, h2⟩
    by_cases e : q = k
    · subst e; rw [own_self] at h2; exact .inr h2.symm
    · rw [own_ne e] at h2; exact .inl ⟨q, hq, h1, h2⟩
  · rintro (⟨q, hq, h1, h2⟩ | rfl)
    · have e : q ≠ k := fun e => by subst e; omega
      exact ⟨q, hq, h1, by rw [own_ne e]; exact h2⟩
    · exact ⟨k, hk, hsnk, own_self _ _ _⟩
  · by_cases e : q = k
    · subst e; rw [own_self]; exact ⟨by omega, by rw [Int.toNat_natCast]; exact hn⟩
    · rw [own_ne e] at h2; exact absurd rfl h2
theorem place_rec {s' : Nat → Bool} {ow' : Nat → Int} (hp : L.placeP a b sl i sn ow f) (h : L.placeI a b sl i sn ow f k s) (hk : k < b.n) (hs : s k = false) (hF : ¬ L.isF ow f.n k) (h0 : 0 ≤ ow k) (hn : L.near a b sl i k = true)
    (hr : L.placeQ a b sl (ow k).toNat (L.set s k) ow f true s' ow') : L.placeQ a b sl i sn ow f true s' (L.own ow' k (i : Int)) := by
  obtain ⟨p1, p2, p3, p4, p5, p6⟩ := hp
  obtain ⟨r1, _, r2⟩ := hr
  obtain ⟨ra, rb, rc, rd, re, rf⟩ := r2 rfl
  have hsnk := place_sn h hs
  have ej : (((ow k).toNat : Nat) : Int) = ow k := by omega
  rw [ej] at re
  have oks : ∀ q, q < b.n → L.set s k q = true → ow' q = ow q := ra
  have hki : ow k ≠ (i : Int) := p6 k hk hsnk
  -- an owner among those that were not seen
  have new : ∀ q, q < b.n → L.set s k q = false → 0 ≤ ow' q → (∃ q', q' < b.n ∧ L.set s k q' = false ∧ ow q' = ow' q) ∨ ow' q = ow k := fun q hq h1 h2 => (re (ow' q) h2).1 ⟨q, hq, h1, rfl⟩
  have noti : ∀ q, q < b.n → q ≠ k → sn q = false → ow' q ≠ (i : Int) := fun q hq hqk h1 e => by
    cases hset : L.set s k q with
    | true => rw [oks q hq hset] at e; exact p6 q hq h1 e
    | false =>
      rcases new q hq hset (by omega) with ⟨q', hq', h3, h4⟩ | h4
      · exact p6 q' hq' (place_sn h (set_false h3).2) (by omega)
      · omega
  refine ⟨fun q hq => r1 q (set_of (h.2.1 q hq)), fun h => (by cases h), fun _ => ⟨fun q hq h1 => ?_, fun q hq h1 => ?_, fun q hq => ?_, fun q q' hq hq' h1 h2 h3 h4 => ?_, fun j hj => ⟨?_, ?_⟩, fun q hq h1 h2 => ?_⟩⟩
  · have e : q ≠ k := fun e => by subst e; rw [hsnk] at h1; cases h1
    rw [own_ne e]; exact oks q hq (set_of (h.2.1 q h1))
  · have e : q ≠ k := fun e => by subst e; exact hF h1
    rw [own_ne e]; exact rb q hq h1
  · by_cases e : q = k
    · subst e; rw [own_self]; omega
    · rw [own_ne e]; exact rc q hq
  · by_cases e : q = k <;> by_cases e' : q' = k
    · omega
    · subst e; rw [own_self, own_ne e'] at h4; exact absurd h4.symm (noti q' hq' e' h2)
    · subst e'; rw [own_self, own_ne e] at h4; exact absurd h4 (noti q hq e h1)
    · rw [own_ne e] at h3; rw [own_ne e, own_ne e'] at h4
      cases hset : L.set s k q with
      | true =>
        have o1 := oks q hq hset
        cases hset' : L.set s k q' with
        | true => have o2 := oks q' hq' hset'; exact p5 q q' hq hq' h1 h2 (by omega) (by omega)
        | false =>
          rcases new q' hq' hset' (by omega) with ⟨q2, hq2, h5, h6⟩ | h6
          · have := p5 q q2 hq hq2 h1 (place_sn h (set_false h5).2) (by omega) (by omega)
            subst this; rw [hset] at h5; cases h5
          · exact absurd (p5 q k hq hk h1 hsnk (by omega) (by omega)) e
      | false =>
        cases hset' : L.set s k q' with
        | true =>
          have o2 := oks q' hq' hset'
          rcases new q hq hset (by omega) with ⟨q2, hq2, h5, h6⟩ | h6
          · have := p5 q' q2 hq' hq2 h2 (place_sn h (set_false h5).2) (by omega) (by omega)
            subst this; rw [hset'] at h5; cases h5
          · exact absurd (p5 q' k hq' hk h2 hsnk (by omega) (by omega)) e'
        | false => exact rd q q' hq hq' hset hset' h3 h4
  · rintro ⟨q, hq, h1, h2⟩
    by_cases e : q = k
    · subst e; rw [own_self] at h2; exact .inr h2.symm
    · rw [own_ne e] at h2
      cases hset : L.set s k q with
      | true => rw [oks q hq hset] at h2; exact .inl ⟨q, hq, h1, h2⟩
      | false =>
        rcases new q hq hset (by omega) with ⟨q', hq', h3, h4⟩ | h4
        · exact .inl ⟨q', hq', place_sn h (set_false h3).2, by omega⟩
        · exact .inl ⟨k, hk, hsnk, by omega⟩
  · rintro (⟨q, hq, h1, h2⟩ | rfl)
    · by_cases e : q = k
      · subst e
        obtain ⟨q', hq', h3, h4⟩ := (re j hj).2 (.inr h2.symm)
        obtain ⟨n1, n2⟩ := set_false h3
        exact ⟨q', hq', place_sn h n2, by rw [own_ne n1]; exact h4⟩
      · cases hset : L.set s k q with
        | true => exact ⟨q, hq, h1, by rw [own_ne e, oks q hq hset]; exact h2⟩
        | false =>
          obtain ⟨q', hq', h3, h4⟩ := (re j hj).2 (.inl ⟨q, hq, hset, h2⟩)
          obtain ⟨n1, n2⟩ := set_false h3
          exact ⟨q', hq', place_sn h n2, by rw [own_ne n1]; exact h4⟩
    · exact ⟨k, hk, hsnk, own_self _ _ _⟩
  · by_cases e : q = k
    · subst e; rw [own_self]; exact ⟨by omega, by rw [Int.toNat_natCast]; exact hn⟩
    · rw [own_ne e] at h1 h2 ⊢; exact rf q hq h1 h2
end
def g_near_p (i : Int) (k : Int) (a : (L.Sq L.Mark)) (b : (L.Sq L.Mark)) (sl : Int) : Prop := L.okMarks a b sl ∧ 0 ≤ i ∧ i < (a.n : Int) ∧ 0 ≤ k ∧ k < (b.n : Int)
def g_near_r (i : Int) (k : Int) (a : (L.Sq L.Mark)) (b : (L.Sq L.Mark)) (sl : Int) : SV := .bool (L.near a b sl i.toNat k.toNat)
def g_near_s : List EV → Option (Prop × SV)
  | [.p (.int .i64 i), .p (.int .i64 k), .p (.ref [.sl 3 a_n a_g] 0), .p (.ref [.sl 3 b_n b_g] 0), .p (.ref [.int .i64 sl] 0)] => some ((∀ i, i < a_n → a_g i = [.int .i64 ((ofMark (a_g i)).edge), .int .i64 ((ofMark (a_g i)).place), .int .i64 ((ofMark (a_g i)).tone)]) ∧ (∀ i, i < b_n → b_g i = [.int .i64 ((ofMark (b_g i)).edge), .int .i64 ((ofMark (b_g i)).place), .int .i64 ((ofMark (b_g i)).tone)]) ∧ g_near_p i k (⟨a_n, fun i => ofMark (a_g i)⟩ : (L.Sq L.Mark)) (⟨b_n, fun i => ofMark (b_g i)⟩ : (L.Sq L.Mark)) sl, g_near_r i k (⟨a_n, fun i => ofMark (a_g i)⟩ : (L.Sq L.Mark)) (⟨b_n, fun i => ofMark (b_g i)⟩ : (L.Sq L.Mark)) sl)
  | _ => none
abbrev g_near_S : SE.Spec := (specO g_near_s)
def g_near_C : Cfg := { muts := [], frz := lookN [], specs := lookS [(52, g_within_S)], loops := lookL [], iters := lookI [], rfs := lookR [], nils := lookM [] }
theorem g_near_vc (i : Int) (k : Int) (a : (L.Sq L.Mark)) (b : (L.Sq L.Mark)) (sl : Int) (hp : g_near_p i k a b sl) : vc Try.prog (g_near_C) (bodyOf Try.f53) (st0 Try.f53 [.p (.int .i64 i), .p (.int .i64 k), .p (.ref [.sl 3 a.n (fun i => [.int .i64 ((a.g i).edge), .int .i64 ((a.g i).place), .int .i64 ((a.g i).tone)])] 0), .p (.ref [.sl 3 b.n (fun i => [.int .i64 ((b.g i).edge), .int .i64 ((b.g i).place), .int .i64 ((b.g i).tone)])] 0), .p (.ref [.int .i64 sl] 0)]) (retFn Try.prog Try.f53 (g_near_r i k a b sl)) :=
  @Eq.mpr _ (((0 : Int) ≤ i ∧ i < (↑a.n : Int)) ∧
  ((0 : Int) ≤ k ∧ k < (↑b.n : Int)) ∧
    (Decidable.decide ((a.g (Int.toNat i)).tone = (b.g (Int.toNat k)).tone) = Bool.true → (0 : Int) ≤ i ∧ i < (↑a.n : Int)) ∧
      (Decidable.decide ((a.g (Int.toNat i)).tone = (b.g (Int.toNat k)).tone) = Bool.true → (0 : Int) ≤ k ∧ k < (↑b.n : Int)) ∧
        (Decidable.decide ((a.g (Int.toNat i)).tone = (b.g (Int.toNat k)).tone) = Bool.true →
            Go.SE.InK Go.IntKind.i64 ((a.g (Int.toNat i)).place + (b.g (Int.toNat k)).place)) ∧
          (Decidable.decide ((a.g (Int.toNat i)).tone = (b.g (Int.toNat k)).tone) = Bool.true →
              Go.SE.InK Go.IntKind.i64 ((a.g (Int.toNat i)).place + (b.g (Int.toNat k)).place - (16 : Int))) ∧
            (Decidable.decide ((a.g (Int.toNat i)).tone = (b.g (Int.toNat k)).tone) = Bool.true → Go.SE.InK Go.IntKind.i64 ((0 : Int) - sl)) ∧
              (Decidable.decide ((a.g (Int.toNat i)).tone = (b.g (Int.toNat k)).tone) = Bool.true → True) ∧
                (bif Decidable.decide ((a.g (Int.toNat i)).tone = (b.g (Int.toNat k)).tone) then
                    Go.Proofs.Ytipaekbdalahdaa.L.within ((a.g (Int.toNat i)).place + (b.g (Int.toNat k)).place - (16 : Int)) ((0 : Int) - sl) sl
                  else Bool.false) =
                  Go.Proofs.Ytipaekbdalahdaa.L.near a b sl (Int.toNat i) (Int.toNat k)) (by kernel_rfl) (by
    obtain ⟨⟨hab, hn, ha, hb, s0, s1⟩, i0, i1, k0, k1⟩ := hp
    have h1 := ha i.toNat (by omega)
    have h2 := hb k.toNat (by omega)
    exact ⟨⟨i0, i1⟩, ⟨k0, k1⟩, fun _ => ⟨i0, i1⟩, fun _ => ⟨k0, k1⟩, fun _ => InK.of (by omega) (by omega), fun _ => InK.of (by omega) (by omega), fun _ => InK.of (by omega) (by omega), fun _ => trivial, rfl⟩)
theorem g_near_ok : SpecOk Try.prog 53 g_near_S := fnX Try.func53 (c := bodyOf Try.f53) (by kernel_rfl) mixed (fun args p r hs hp => by
  unfold g_near_s at hs
  split at hs
  · cases hs; exact ⟨_, _, g_near_vc _ _ _ _ _ hp.2.2, (.same _ (.same _ (.p (Ext.ref rfl (fun i hi => by
      rcases i with _ | i
      · show Ext (SV.sl _ _ _) (SV.sl _ _ _); exact (Ext.sl hp.1)
      exact absurd hi (by simp; try omega))) (.p (Ext.ref rfl (fun i hi => by
      rcases i with _ | i
      · show Ext (SV.sl _ _ _) (SV.sl _ _ _); exact (Ext.sl hp.2.1)
      exact absurd hi (by simp; try omega))) (.same _ .nil))))), ⟨show SpecsL Try.prog _ from (SpecsL.cons g_within_ok g_within_en SpecsL.nil), rfl, ⟨show ItersL Try.prog _ from ItersL.nil, (TrsOk.none (fun _ => rfl))⟩⟩⟩
  · cases hs)
theorem g_near_en : Enters Try.prog 53 := fun args w => by kernel_rfl
theorem g_near_B : ∀ args p r, g_near_s args = some (p, r) → ∃ b, r = .bool b := by
  intro args p r h
  unfold g_near_s at h
  split at h
  · cases h; exact ⟨_, rfl⟩
  · cases h
abbrev g_place_tr : Tr := { T := (L.Sq L.Mark) × (L.Sq L.Mark) × (Int) × (Nat) × (Nat → Bool) × (Nat → Int) × (L.Sq Int), U := Bool × (Nat → Bool) × (Nat → Int), args := fun t => (fun a b sl i sn ow f => [.p (.int .i64 (i : Int)), .p (.ref [(.sl 3 b.n (fun i => [.int .i64 ((b.g i).edge), .int .i64 ((b.g i).place), .int .i64 ((b.g i).tone)]))] 0), .p (.ref [.clo 53 [.ref [(.sl 3 a.n (fun i => [.int .i64 ((a.g i).edge), .int .i64 ((a.g i).place), .int .i64 ((a.g i).tone)]))] 0, .ref [(.sl 3 b.n (fun i => [.int .i64 ((b.g i).edge), .int .i64 ((b.g i).place), .int .i64 ((b.g i).tone)]))] 0, .ref [.int .i64 sl] 0]] 0), .loc 1009 0, .loc 1005 0, .loc 2009 0, .loc 1010 0]) t.1 t.2.1 t.2.2.1 t.2.2.2.1 t.2.2.2.2.1 t.2.2.2.2.2.1 t.2.2.2.2.2.2, own := fun t => (fun a b sl i sn ow f => [(1009, .blk 28 [.row 1047]), (1047, .row 4 1 b.n (fun k => [.bool (sn k)])), (1005, .blk 24 [.row 1014]), (1014, .row 3 1 b.n (fun k => [.int .i64 (ow k)])), (2009, .blk 24 [.row 2020]), (2020, .row 3 1 f.n (fun k => [.int .i64 (f.g k)])), (1010, .blk 92 [.cl 55 [.p (.ref [(.sl 3 b.n (fun i => [.int .i64 ((b.g i).edge), .int .i64 ((b.g i).place), .int .i64 ((b.g i).tone)]))] 0), .p (.ref [.clo 53 [.ref [(.sl 3 a.n (fun i => [.int .i64 ((a.g i).edge), .int .i64 ((a.g i).place), .int .i64 ((a.g i).tone)]))] 0, .ref [(.sl 3 b.n (fun i => [.int .i64 ((b.g i).edge), .int .i64 ((b.g i).place), .int .i64 ((b.g i).tone)]))] 0, .ref [.int .i64 sl] 0]] 0), .loc 1009 0, .loc 1005 0, .loc 2009 0, .loc 1010 0]])]) t.1 t.2.1 t.2.2.1 t.2.2.2.1 t.2.2.2.2.1 t.2.2.2.2.2.1 t.2.2.2.2.2.2, pre := fun t => (fun a b sl i sn ow f => L.placeP a b sl i sn ow f) t.1 t.2.1 t.2.2.1 t.2.2.2.1 t.2.2.2.2.1 t.2.2.2.2.2.1 t.2.2.2.2.2.2, post := fun t u => (fun a b sl i sn ow f => fun r sn1 ow1 => L.placeQ a b sl i sn ow f r sn1 ow1) t.1 t.2.1 t.2.2.1 t.2.2.2.1 t.2.2.2.2.1 t.2.2.2.2.2.1 t.2.2.2.2.2.2 u.1 u.2.1 u.2.2, own' := fun t u => (fun a b sl i sn ow f => fun r sn1 ow1 => [(1009, .blk 28 [.row 1047]), (1047, .row 4 1 b.n (fun k => [.bool (sn1 k)])), (1005, .blk 24 [.row 1014]), (1014, .row 3 1 b.n (fun k => [.int .i64 (ow1 k)])), (2009, .blk 24 [.row 2020]), (2020, .row 3 1 f.n (fun k => [.int .i64 (f.g k)])), (1010, .blk 92 [.cl 55 [.p (.ref [(.sl 3 b.n (fun i => [.int .i64 ((b.g i).edge), .int .i64 ((b.g i).place), .int .i64 ((b.g i).tone)]))] 0), .p (.ref [.clo 53 [.ref [(.sl 3 a.n (fun i => [.int .i64 ((a.g i).edge), .int .i64 ((a.g i).place), .int .i64 ((a.g i).tone)]))] 0, .ref [(.sl 3 b.n (fun i => [.int .i64 ((b.g i).edge), .int .i64 ((b.g i).place), .int .i64 ((b.g i).tone)]))] 0, .ref [.int .i64 sl] 0]] 0), .loc 1009 0, .loc 1005 0, .loc 2009 0, .loc 1010 0]])]) t.1 t.2.1 t.2.2.1 t.2.2.2.1 t.2.2.2.2.1 t.2.2.2.2.2.1 t.2.2.2.2.2.2 u.1 u.2.1 u.2.2, res := fun t u => (fun a b sl i sn ow f => fun r sn1 ow1 => .bool r) t.1 t.2.1 t.2.2.1 t.2.2.2.1 t.2.2.2.2.1 t.2.2.2.2.2.1 t.2.2.2.2.2.2 u.1 u.2.1 u.2.2 }
abbrev g_place_mu : g_place_tr.T → Nat := fun t => (fun a b sl i sn ow f => L.unseen b.n sn) t.1 t.2.1 t.2.2.1 t.2.2.2.1 t.2.2.2.2.1 t.2.2.2.2.2.1 t.2.2.2.2.2.2
theorem g_place_vc (rn : Nat) (a : L.Sq L.Mark) (b : L.Sq L.Mark) (sl : Int) (i : Nat) (sn : Nat → Bool) (ow : Nat → Int) (f : L.Sq Int) (hp : g_place_tr.pre (a, b, sl, i, sn, ow, f)) (hmu : L.unseen b.n sn < rn + 1) : vc Try.prog ({ muts := [], frz := lookN [], specs := lookS [(53, g_near_S)], loops := lookL [(2, { T := Nat × (Nat → Bool), keep := [0, 1, 2, 3, 4, 5, 6, 10, 11], keepO := [1009, 1005, 1014, 2009, 2020, 1010], chg := fun g => [(12, .p (.int .i64 (g.1 : Int)))], own := fun g => [(1047, .row 4 1 b.n (fun k => [.bool (g.2 k)]))], inv := fun g => L.placeI a b sl i sn ow f g.1 g.2, mu := fun g => b.n - g.1 })], iters := lookI [], rfs := lookR [], nils := lookM [], trs := lookT [(55, Tr.lt g_place_tr g_place_mu rn)], ren := fun k => k }) (bodyOf Try.f55) (stTr Try.f55 (g_place_tr.args (a, b, sl, i, sn, ow, f)) (g_place_tr.own (a, b, sl, i, sn, ow, f))) (retTr Try.prog Try.f55 g_place_tr (a, b, sl, i, sn, ow, f)) :=
  @Eq.mpr _ ((∃ (g : Nat × (Nat → Bool)),
    (0 : Int) = (↑g.1 : Int) ∧
      (b.n = b.n ∧ ∀ (i : Nat), i < b.n → [Go.SE.SV.bool (sn i)] = [Go.SE.SV.bool (g.2 i)]) ∧ Go.Proofs.Ytipaekbdalahdaa.L.placeI a b sl i sn ow f g.1 g.2) ∧
  ∀ (g : Nat × (Nat → Bool)),
    Go.Proofs.Ytipaekbdalahdaa.L.placeI a b sl i sn ow f g.1 g.2 →
      (Decidable.decide ((↑g.1 : Int) < (↑b.n : Int)) = Bool.true →
          ((∀ (i : Nat),
                i < a.n →
                  [Go.SE.SV.int Go.IntKind.i64 (a.g i).edge, Go.SE.SV.int Go.IntKind.i64 (a.g i).place, Go.SE.SV.int Go.IntKind.i64 (a.g i).tone] =
                    [Go.SE.SV.int Go.IntKind.i64 (a.g i).edge, Go.SE.SV.int Go.IntKind.i64 (a.g i).place, Go.SE.SV.int Go.IntKind.i64 (a.g i).tone]) ∧
              (∀ (i : Nat),
                  i < b.n →
                    [Go.SE.SV.int Go.IntKind.i64 (b.g i).edge, Go.SE.SV.int Go.IntKind.i64 (b.g i).place, Go.SE.SV.int Go.IntKind.i64 (b.g i).tone] =
                      [Go.SE.SV.int Go.IntKind.i64 (b.g i).edge, Go.SE.SV.int Go.IntKind.i64 (b.g i).place, Go.SE.SV.int Go.IntKind.i64 (b.g i).tone]) ∧
                Go.Proofs.Ytipaekbdalahdaa.L.okMarks (Go.Proofs.Ytipaekbdalahdaa.L.Sq.mk a.n fun (i : Nat) ↦ a.g i)
                    (Go.Proofs.Ytipaekbdalahdaa.L.Sq.mk b.n fun (i : Nat) ↦ b.g i) sl ∧
                  (0 : Int) ≤ (↑i : Int) ∧ (↑i : Int) < (↑a.n : Int) ∧ (0 : Int) ≤ (↑g.1 : Int) ∧ (↑g.1 : Int) < (↑b.n : Int)) ∧
            ((!!Go.Proofs.Ytipaekbdalahdaa.L.near (Go.Proofs.Ytipaekbdalahdaa.L.Sq.mk a.n fun (i : Nat) ↦ a.g i)
                        (Go.Proofs.Ytipaekbdalahdaa.L.Sq.mk b.n fun (i : Nat) ↦ b.g i) sl (Int.toNat (↑i : Int)) (Int.toNat (↑g.1 : Int))) =
                  Bool.true →
                (0 : Int) ≤ (↑g.1 : Int) ∧ (↑g.1 : Int) < (↑b.n : Int)) ∧
              ((!!Go.Proofs.Ytipaekbdalahdaa.L.near (Go.Proofs.Ytipaekbdalahdaa.L.Sq.mk a.n fun (i : Nat) ↦ a.g i)
                          (Go.Proofs.Ytipaekbdalahdaa.L.Sq.mk b.n fun (i : Nat) ↦ b.g i) sl (Int.toNat (↑i : Int)) (Int.toNat (↑g.1 : Int))) =
                    Bool.true →
                  Int.toNat (↑g.1 : Int) < b.n) ∧
                ((!bif
                            !Go.Proofs.Ytipaekbdalahdaa.L.near (Go.Proofs.Ytipaekbdalahdaa.L.Sq.mk a.n fun (i : Nat) ↦ a.g i)
                                (Go.Proofs.Ytipaekbdalahdaa.L.Sq.mk b.n fun (i : Nat) ↦ b.g i) sl (Int.toNat (↑i : Int)) (Int.toNat (↑g.1 : Int)) then
                          Bool.true
                        else g.2 (Int.toNat (↑g.1 : Int))) =
                      Bool.true →
                    (0 : Int) ≤ (↑g.1 : Int) ∧ (↑g.1 : Int) < (↑b.n : Int)) ∧
                  ((!bif
                              !Go.Proofs.Ytipaekbdalahdaa.L.near (Go.Proofs.Ytipaekbdalahdaa.L.Sq.mk a.n fun (i : Nat) ↦ a.g i)
                                  (Go.Proofs.Ytipaekbdalahdaa.L.Sq.mk b.n fun (i : Nat) ↦ b.g i) sl (Int.toNat (↑i : Int)) (Int.toNat (↑g.1 : Int)) then
                            Bool.true
                          else g.2 (Int.toNat (↑g.1 : Int))) =
                        Bool.true →
                      Int.toNat (↑g.1 : Int) < b.n) ∧
                    (((!bif
                                  !Go.Proofs.Ytipaekbdalahdaa.L.near (Go.Proofs.Ytipaekbdalahdaa.L.Sq.mk a.n fun (i : Nat) ↦ a.g i)
                                      (Go.Proofs.Ytipaekbdalahdaa.L.Sq.mk b.n fun (i : Nat) ↦ b.g i) sl (Int.toNat (↑i : Int)) (Int.toNat (↑g.1 : Int)) then
                                Bool.true
                              else g.2 (Int.toNat (↑g.1 : Int))) &&
                            Decidable.decide ((0 : Int) ≤ ow (Int.toNat (↑g.1 : Int)))) =
                          Bool.true →
                        (0 : Int) ≤ (↑g.1 : Int) ∧ (↑g.1 : Int) < (↑b.n : Int)) ∧
                      (((!bif
                                    !Go.Proofs.Ytipaekbdalahdaa.L.near (Go.Proofs.Ytipaekbdalahdaa.L.Sq.mk a.n fun (i : Nat) ↦ a.g i)
                                        (Go.Proofs.Ytipaekbdalahdaa.L.Sq.mk b.n fun (i : Nat) ↦ b.g i) sl (Int.toNat (↑i : Int)) (Int.toNat (↑g.1 : Int)) then
                                  Bool.true
                                else g.2 (Int.toNat (↑g.1 : Int))) &&
                              Decidable.decide ((0 : Int) ≤ ow (Int.toNat (↑g.1 : Int)))) =
                            Bool.true →
                          Int.toNat (↑g.1 : Int) < b.n) ∧
                        ((bif
                                  bif
                                      !Go.Proofs.Ytipaekbdalahdaa.L.near (Go.Proofs.Ytipaekbdalahdaa.L.Sq.mk a.n fun (i : Nat) ↦ a.g i)
                                          (Go.Proofs.Ytipaekbdalahdaa.L.Sq.mk b.n fun (i : Nat) ↦ b.g i) sl (Int.toNat (↑i : Int)) (Int.toNat (↑g.1 : Int)) then
                                    Bool.true
                                  else g.2 (Int.toNat (↑g.1 : Int)) then
                                Bool.true
                              else
                                bif Decidable.decide ((0 : Int) ≤ ow (Int.toNat (↑g.1 : Int))) then
                                  Decidable.decide (ow (Int.toNat (↑g.1 : Int)) < (↑f.n : Int))
                                else Bool.false) =
                              Bool.true →
                            Go.SE.InK Go.IntKind.i64 ((↑g.1 : Int) + (1 : Int)) ∧
                              ∃ (g' : Nat × (Nat → Bool)),
                                (↑g.1 : Int) + (1 : Int) = (↑g'.1 : Int) ∧
                                  (↑b.n : Int) = (↑b.n : Int) ∧
                                    (b.n = b.n ∧
                                        ∀ (i : Nat),
                                          i < b.n →
                                            [Go.SE.SV.int Go.IntKind.i64 (b.g i).edge, Go.SE.SV.int Go.IntKind.i64 (b.g i).place,
                                                Go.SE.SV.int Go.IntKind.i64 (b.g i).tone] =
                                              [Go.SE.SV.int Go.IntKind.i64 (b.g i).edge, Go.SE.SV.int Go.IntKind.i64 (b.g i).place,
                                                Go.SE.SV.int Go.IntKind.i64 (b.g i).tone]) ∧
                                      (↑i : Int) = (↑i : Int) ∧
                                        Go.SE.SV.ref
                                              [Go.SE.SV.sl (nat_lit 3) b.n fun (i : Nat) ↦
                                                  [Go.SE.SV.int Go.IntKind.i64 (b.g i).edge, Go.SE.SV.int Go.IntKind.i64 (b.g i).place,
                                                    Go.SE.SV.int Go.IntKind.i64 (b.g i).tone]]
                                              (nat_lit 0) =
                                            Go.SE.SV.ref
                                              [Go.SE.SV.sl (nat_lit 3) b.n fun (i : Nat) ↦
                                                  [Go.SE.SV.int Go.IntKind.i64 (b.g i).edge, Go.SE.SV.int Go.IntKind.i64 (b.g i).place,
                                                    Go.SE.SV.int Go.IntKind.i64 (b.g i).tone]]
                                              (nat_lit 0) ∧
                                          Go.SE.SV.ref
                                                [Go.SE.SV.clo (nat_lit 53)
                                                    [Go.SE.SV.ref
                                                        [Go.SE.SV.sl (nat_lit 3) a.n fun (i : Nat) ↦
                                                            [Go.SE.SV.int Go.IntKind.i64 (a.g i).edge, Go.SE.SV.int Go.IntKind.i64 (a.g i).place,
                                                              Go.SE.SV.int Go.IntKind.i64 (a.g i).tone]]
                                                        (nat_lit 0),
                                                      Go.SE.SV.ref
                                                        [Go.SE.SV.sl (nat_lit 3) b.n fun (i : Nat) ↦
                                                            [Go.SE.SV.int Go.IntKind.i64 (b.g i).edge, Go.SE.SV.int Go.IntKind.i64 (b.g i).place,
                                                              Go.SE.SV.int Go.IntKind.i64 (b.g i).tone]]
                                                        (nat_lit 0),
                                                      Go.SE.SV.ref [Go.SE.SV.int Go.IntKind.i64 sl] (nat_lit 0)]]
                                                (nat_lit 0) =
                                              Go.SE.SV.ref
                                                [Go.SE.SV.clo (nat_lit 53)
                                                    [Go.SE.SV.ref
                                                        [Go.SE.SV.sl (nat_lit 3) a.n fun (i : Nat) ↦
                                                            [Go.SE.SV.int Go.IntKind.i64 (a.g i).edge, Go.SE.SV.int Go.IntKind.i64 (a.g i).place,
                                                              Go.SE.SV.int Go.IntKind.i64 (a.g i).tone]]
                                                        (nat_lit 0),
                                                      Go.SE.SV.ref
                                                        [Go.SE.SV.sl (nat_lit 3) b.n fun (i : Nat) ↦
                                                            [Go.SE.SV.int Go.IntKind.i64 (b.g i).edge, Go.SE.SV.int Go.IntKind.i64 (b.g i).place,
                                                              Go.SE.SV.int Go.IntKind.i64 (b.g i).tone]]
                                                        (nat_lit 0),
                                                      Go.SE.SV.ref [Go.SE.SV.int Go.IntKind.i64 sl] (nat_lit 0)]]
                                                (nat_lit 0) ∧
                                            nat_lit 0 = nat_lit 0 ∧
                                              nat_lit 0 = nat_lit 0 ∧
                                                nat_lit 0 = nat_lit 0 ∧
                                                  nat_lit 0 = nat_lit 0 ∧
                                                    (b.n = b.n ∧ ∀ (i : Nat), i < b.n → [Go.SE.SV.bool (g.2 i)] = [Go.SE.SV.bool (g'.2 i)]) ∧
                                                      (b.n = b.n ∧
                                                          ∀ (i : Nat), i < b.n → [Go.SE.SV.int Go.IntKind.i64 (ow i)] = [Go.SE.SV.int Go.IntKind.i64 (ow i)]) ∧
                                                        (f.n = f.n ∧
                                                            ∀ (i : Nat),
                                                              i < f.n → [Go.SE.SV.int Go.IntKind.i64 (f.g i)] = [Go.SE.SV.int Go.IntKind.i64 (f.g i)]) ∧
                                                          Go.SE.EV.cl (nat_lit 55)
                                                                [Go.SE.EV.p
                                                                    (Go.SE.SV.ref
                                                                      [Go.SE.SV.sl (nat_lit 3) b.n fun (i : Nat) ↦
                                                                          [Go.SE.SV.int Go.IntKind.i64 (b.g i).edge, Go.SE.SV.int Go.IntKind.i64 (b.g i).place,
                                                                            Go.SE.SV.int Go.IntKind.i64 (b.g i).tone]]
                                                                      (nat_lit 0)),
                                                                  Go.SE.EV.p
                                                                    (Go.SE.SV.ref
                                                                      [Go.SE.SV.clo (nat_lit 53)
                                                                          [Go.SE.SV.ref
                                                                              [Go.SE.SV.sl (nat_lit 3) a.n fun (i : Nat) ↦
                                                                                  [Go.SE.SV.int Go.IntKind.i64 (a.g i).edge,
                                                                                    Go.SE.SV.int Go.IntKind.i64 (a.g i).place,
                                                                                    Go.SE.SV.int Go.IntKind.i64 (a.g i).tone]]
                                                                              (nat_lit 0),
                                                                            Go.SE.SV.ref
                                                                              [Go.SE.SV.sl (nat_lit 3) b.n fun (i : Nat) ↦
                                                                                  [Go.SE.SV.int Go.IntKind.i64 (b.g i).edge,
                                                                                    Go.SE.SV.int Go.IntKind.i64 (b.g i).place,
                                                                                    Go.SE.SV.int Go.IntKind.i64 (b.g i).tone]]
                                                                              (nat_lit 0),
                                                                            Go.SE.SV.ref [Go.SE.SV.int Go.IntKind.i64 sl] (nat_lit 0)]]
                                                                      (nat_lit 0)),
                                                                  Go.SE.EV.loc (nat_lit 1009) (nat_lit 0), Go.SE.EV.loc (nat_lit 1005) (nat_lit 0),
                                                                  Go.SE.EV.loc (nat_lit 2009) (nat_lit 0), Go.SE.EV.loc (nat_lit 1010) (nat_lit 0)] =
                                                              Go.SE.EV.cl (nat_lit 55)
                                                                [Go.SE.EV.p
                                                                    (Go.SE.SV.ref
                                                                      [Go.SE.SV.sl (nat_lit 3) b.n fun (i : Nat) ↦
                                                                          [Go.SE.SV.int Go.IntKind.i64 (b.g i).edge, Go.SE.SV.int Go.IntKind.i64 (b.g i).place,
                                                                            Go.SE.SV.int Go.IntKind.i64 (b.g i).tone]]
                                                                      (nat_lit 0)),
                                                                  Go.SE.EV.p
                                                                    (Go.SE.SV.ref
                                                                      [Go.SE.SV.clo (nat_lit 53)
                                                                          [Go.SE.SV.ref
                                                                              [Go.SE.SV.sl (nat_lit 3) a.n fun (i : Nat) ↦
                                                                                  [Go.SE.SV.int Go.IntKind.i64 (a.g i).edge,
                                                                                    Go.SE.SV.int Go.IntKind.i64 (a.g i).place,
                                                                                    Go.SE.SV.int Go.IntKind.i64 (a.g i).tone]]
                                                                              (nat_lit 0),
                                                                            Go.SE.SV.ref
                                                                              [Go.SE.SV.sl (nat_lit 3) b.n fun (i : Nat) ↦
                                                                                  [Go.SE.SV.int Go.IntKind.i64 (b.g i).edge,
                                                                                    Go.SE.SV.int Go.IntKind.i64 (b.g i).place,
                                                                                    Go.SE.SV.int Go.IntKind.i64 (b.g i).tone]]
                                                                              (nat_lit 0),
                                                                            Go.SE.SV.ref [Go.SE.SV.int Go.IntKind.i64 sl] (nat_lit 0)]]
                                                                      (nat_lit 0)),
                                                                  Go.SE.EV.loc (nat_lit 1009) (nat_lit 0), Go.SE.EV.loc (nat_lit 1005) (nat_lit 0),
                                                                  Go.SE.EV.loc (nat_lit 2009) (nat_lit 0), Go.SE.EV.loc (nat_lit 1010) (nat_lit 0)] ∧
                                                            Go.Proofs.Ytipaekbdalahdaa.L.placeI a b sl i sn ow f g'.1 g'.2 ∧ b.n - g'.1 < b.n - g.1) ∧
                          ((bif
                                  bif
                                      !Go.Proofs.Ytipaekbdalahdaa.L.near (Go.Proofs.Ytipaekbdalahdaa.L.Sq.mk a.n fun (i : Nat) ↦ a.g i)
                                          (Go.Proofs.Ytipaekbdalahdaa.L.Sq.mk b.n fun (i : Nat) ↦ b.g i) sl (Int.toNat (↑i : Int)) (Int.toNat (↑g.1 : Int)) then
                                    Bool.true
                                  else g.2 (Int.toNat (↑g.1 : Int)) then
                                Bool.true
                              else
                                bif Decidable.decide ((0 : Int) ≤ ow (Int.toNat (↑g.1 : Int))) then
                                  Decidable.decide (ow (Int.toNat (↑g.1 : Int)) < (↑f.n : Int))
                                else Bool.false) =
                              Bool.false →
                            ((0 : Int) ≤ (↑g.1 : Int) ∧ (↑g.1 : Int) < (↑b.n : Int)) ∧
                              Int.toNat (↑g.1 : Int) < b.n ∧
                                ((0 : Int) ≤ (↑g.1 : Int) ∧ (↑g.1 : Int) < (↑b.n : Int)) ∧
                                  Int.toNat (↑g.1 : Int) < b.n ∧
                                    ((!Decidable.decide (ow (Int.toNat (↑g.1 : Int)) < (0 : Int))) = Bool.true →
                                        (0 : Int) ≤ (↑g.1 : Int) ∧ (↑g.1 : Int) < (↑b.n : Int)) ∧
                                      ((!Decidable.decide (ow (Int.toNat (↑g.1 : Int)) < (0 : Int))) = Bool.true → Int.toNat (↑g.1 : Int) < b.n) ∧
                                        ((!Decidable.decide (ow (Int.toNat (↑g.1 : Int)) < (0 : Int))) = Bool.true →
                                            ∃ (t :
                                              Go.Proofs.Ytipaekbdalahdaa.L.Sq Go.Proofs.Ytipaekbdalahdaa.L.Mark ×
                                                Go.Proofs.Ytipaekbdalahdaa.L.Sq Go.Proofs.Ytipaekbdalahdaa.L.Mark ×
                                                  Int × Nat × (Nat → Bool) × (Nat → Int) × Go.Proofs.Ytipaekbdalahdaa.L.Sq Int),
                                              ow (Int.toNat (↑g.1 : Int)) = (↑t.snd.snd.2.1 : Int) ∧
                                                Go.SE.SV.ref
                                                      [Go.SE.SV.sl (nat_lit 3) b.n fun (i : Nat) ↦
                                                          [Go.SE.SV.int Go.IntKind.i64 (b.g i).edge, Go.SE.SV.int Go.IntKind.i64 (b.g i).place,
                                                            Go.SE.SV.int Go.IntKind.i64 (b.g i).tone]]
                                                      (nat_lit 0) =
                                                    Go.SE.SV.ref
                                                      [Go.SE.SV.sl (3 : Nat) t.2.1.n fun (i : Nat) ↦
                                                          [Go.SE.SV.int Go.IntKind.i64 (t.2.1.g i).edge, Go.SE.SV.int Go.IntKind.i64 (t.2.1.g i).place,
                                                            Go.SE.SV.int Go.IntKind.i64 (t.2.1.g i).tone]]
                                                      (0 : Nat) ∧
                                                  Go.SE.SV.ref
                                                        [Go.SE.SV.clo (nat_lit 53)
                                                            [Go.SE.SV.ref
                                                                [Go.SE.SV.sl (nat_lit 3) a.n fun (i : Nat) ↦
                                                                    [Go.SE.SV.int Go.IntKind.i64 (a.g i).edge, Go.SE.SV.int Go.IntKind.i64 (a.g i).place,
                                                                      Go.SE.SV.int Go.IntKind.i64 (a.g i).tone]]
                                                                (nat_lit 0),
                                                              Go.SE.SV.ref
                                                                [Go.SE.SV.sl (nat_lit 3) b.n fun (i : Nat) ↦
                                                                    [Go.SE.SV.int Go.IntKind.i64 (b.g i).edge, Go.SE.SV.int Go.IntKind.i64 (b.g i).place,
                                                                      Go.SE.SV.int Go.IntKind.i64 (b.g i).tone]]
                                                                (nat_lit 0),
                                                              Go.SE.SV.ref [Go.SE.SV.int Go.IntKind.i64 sl] (nat_lit 0)]]
                                                        (nat_lit 0) =
                                                      Go.SE.SV.ref
                                                        [Go.SE.SV.clo (53 : Nat)
                                                            [Go.SE.SV.ref
                                                                [Go.SE.SV.sl (3 : Nat) t.1.n fun (i : Nat) ↦
                                                                    [Go.SE.SV.int Go.IntKind.i64 (t.1.g i).edge, Go.SE.SV.int Go.IntKind.i64 (t.1.g i).place,
                                                                      Go.SE.SV.int Go.IntKind.i64 (t.1.g i).tone]]
                                                                (0 : Nat),
                                                              Go.SE.SV.ref
                                                                [Go.SE.SV.sl (3 : Nat) t.2.1.n fun (i : Nat) ↦
                                                                    [Go.SE.SV.int Go.IntKind.i64 (t.2.1.g i).edge,
                                                                      Go.SE.SV.int Go.IntKind.i64 (t.2.1.g i).place,
                                                                      Go.SE.SV.int Go.IntKind.i64 (t.2.1.g i).tone]]
                                                                (0 : Nat),
                                                              Go.SE.SV.ref [Go.SE.SV.int Go.IntKind.i64 t.snd.2.1] (0 : Nat)]]
                                                        (0 : Nat) ∧
                                                    nat_lit 0 = (0 : Nat) ∧
                                                      nat_lit 0 = (0 : Nat) ∧
                                                        nat_lit 0 = (0 : Nat) ∧
                                                          nat_lit 0 = (0 : Nat) ∧
                                                            (b.n = t.2.1.n ∧
                                                                ∀ (i : Nat),
                                                                  i < b.n →
                                                                    Go.SE.setRow (fun (k : Nat) ↦ [Go.SE.SV.bool (g.2 k)]) (Int.toNat (↑g.1 : Int)) (nat_lit 0)
                                                                        [Go.SE.SV.bool Bool.true] i =
                                                                      [Go.SE.SV.bool (t.snd.snd.snd.2.1 i)]) ∧
                                                              (b.n = t.2.1.n ∧
                                                                  ∀ (i : Nat),
                                                                    i < b.n →
                                                                      [Go.SE.SV.int Go.IntKind.i64 (ow i)] =
                                                                        [Go.SE.SV.int Go.IntKind.i64 (t.snd.snd.snd.snd.2.1 i)]) ∧
                                                                (f.n = t.snd.snd.snd.snd.2.2.n ∧
                                                                    ∀ (i : Nat),
                                                                      i < f.n →
                                                                        [Go.SE.SV.int Go.IntKind.i64 (f.g i)] =
                                                                          [Go.SE.SV.int Go.IntKind.i64 (t.snd.snd.snd.snd.2.2.g i)]) ∧
                                                                  Go.SE.EV.cl (nat_lit 55)
                                                                        [Go.SE.EV.p
                                                                            (Go.SE.SV.ref
                                                                              [Go.SE.SV.sl (nat_lit 3) b.n fun (i : Nat) ↦
                                                                                  [Go.SE.SV.int Go.IntKind.i64 (b.g i).edge,
                                                                                    Go.SE.SV.int Go.IntKind.i64 (b.g i).place,
                                                                                    Go.SE.SV.int Go.IntKind.i64 (b.g i).tone]]
                                                                              (nat_lit 0)),
                                                                          Go.SE.EV.p
                                                                            (Go.SE.SV.ref
                                                                              [Go.SE.SV.clo (nat_lit 53)
                                                                                  [Go.SE.SV.ref
                                                                                      [Go.SE.SV.sl (nat_lit 3) a.n fun (i : Nat) ↦
                                                                                          [Go.SE.SV.int Go.IntKind.i64 (a.g i).edge,
                                                                                            Go.SE.SV.int Go.IntKind.i64 (a.g i).place,
                                                                                            Go.SE.SV.int Go.IntKind.i64 (a.g i).tone]]
                                                                                      (nat_lit 0),
                                                                                    Go.SE.SV.ref
                                                                                      [Go.SE.SV.sl (nat_lit 3) b.n fun (i : Nat) ↦
                                                                                          [Go.SE.SV.int Go.IntKind.i64 (b.g i).edge,
                                                                                            Go.SE.SV.int Go.IntKind.i64 (b.g i).place,
                                                                                            Go.SE.SV.int Go.IntKind.i64 (b.g i).tone]]
                                                                                      (nat_lit 0),
                                                                                    Go.SE.SV.ref [Go.SE.SV.int Go.IntKind.i64 sl] (nat_lit 0)]]
                                                                              (nat_lit 0)),
                                                                          Go.SE.EV.loc (nat_lit 1009) (nat_lit 0), Go.SE.EV.loc (nat_lit 1005) (nat_lit 0),
                                                                          Go.SE.EV.loc (nat_lit 2009) (nat_lit 0), Go.SE.EV.loc (nat_lit 1010) (nat_lit 0)] =
                                                                      Go.SE.EV.cl (55 : Nat)
                                                                        [Go.SE.EV.p
                                                                            (Go.SE.SV.ref
                                                                              [Go.SE.SV.sl (nat_lit 3) t.2.1.n fun (i : Nat) ↦
                                                                                  [Go.SE.SV.int Go.IntKind.i64 (t.2.1.g i).edge,
                                                                                    Go.SE.SV.int Go.IntKind.i64 (t.2.1.g i).place,
                                                                                    Go.SE.SV.int Go.IntKind.i64 (t.2.1.g i).tone]]
                                                                              (nat_lit 0)),
                                                                          Go.SE.EV.p
                                                                            (Go.SE.SV.ref
                                                                              [Go.SE.SV.clo (nat_lit 53)
                                                                                  [Go.SE.SV.ref
                                                                                      [Go.SE.SV.sl (nat_lit 3) t.1.n fun (i : Nat) ↦
                                                                                          [Go.SE.SV.int Go.IntKind.i64 (t.1.g i).edge,
                                                                                            Go.SE.SV.int Go.IntKind.i64 (t.1.g i).place,
                                                                                            Go.SE.SV.int Go.IntKind.i64 (t.1.g i).tone]]
                                                                                      (nat_lit 0),
                                                                                    Go.SE.SV.ref
                                                                                      [Go.SE.SV.sl (nat_lit 3) t.2.1.n fun (i : Nat) ↦
                                                                                          [Go.SE.SV.int Go.IntKind.i64 (t.2.1.g i).edge,
                                                                                            Go.SE.SV.int Go.IntKind.i64 (t.2.1.g i).place,
                                                                                            Go.SE.SV.int Go.IntKind.i64 (t.2.1.g i).tone]]
                                                                                      (nat_lit 0),
                                                                                    Go.SE.SV.ref [Go.SE.SV.int Go.IntKind.i64 t.snd.2.1] (nat_lit 0)]]
                                                                              (nat_lit 0)),
                                                                          Go.SE.EV.loc (nat_lit 1009) (nat_lit 0), Go.SE.EV.loc (nat_lit 1005) (nat_lit 0),
                                                                          Go.SE.EV.loc (nat_lit 2009) (nat_lit 0), Go.SE.EV.loc (nat_lit 1010) (nat_lit 0)] ∧
                                                                    (Go.Proofs.Ytipaekbdalahdaa.L.placeP t.1 t.2.1 t.snd.2.1 t.snd.snd.2.1 t.snd.snd.snd.2.1
                                                                          t.snd.snd.snd.snd.2.1 t.snd.snd.snd.snd.2.2 ∧
                                                                        Go.Proofs.Ytipaekbdalahdaa.L.unseen t.2.1.n t.snd.snd.snd.2.1 < rn) ∧
                                                                      ∀ (u : Bool × (Nat → Bool) × (Nat → Int)),
                                                                        Go.Proofs.Ytipaekbdalahdaa.L.placeQ t.1 t.2.1 t.snd.2.1 t.snd.snd.2.1 t.snd.snd.snd.2.1
                                                                            t.snd.snd.snd.snd.2.1 t.snd.snd.snd.snd.2.2 u.1 u.2.1 u.2.2 →
                                                                          ((bif Decidable.decide (ow (Int.toNat (↑g.1 : Int)) < (0 : Int)) then Bool.true
                                                                                else u.1) =
                                                                                Bool.true →
                                                                              ((0 : Int) ≤ (↑g.1 : Int) ∧ (↑g.1 : Int) < (↑t.2.1.n : Int)) ∧
                                                                                Int.toNat (↑g.1 : Int) < t.2.1.n ∧
                                                                                  ∃ (u_1 : Bool × (Nat → Bool) × (Nat → Int)),
                                                                                    Bool.true = u_1.1 ∧
                                                                                      (t.2.1.n = b.n ∧
                                                                                          ∀ (i : Nat),
                                                                                            i < t.2.1.n →
                                                                                              [Go.SE.SV.bool (u.2.1 i)] = [Go.SE.SV.bool (u_1.2.1 i)]) ∧
                                                                                        (t.2.1.n = b.n ∧
                                                                                            ∀ (i_1 : Nat),
                                                                                              i_1 < t.2.1.n →
                                                                                                Go.SE.setRow
                                                                                                    (fun (k : Nat) ↦ [Go.SE.SV.int Go.IntKind.i64 (u.2.2 k)])
                                                                                                    (Int.toNat (↑g.1 : Int)) (nat_lit 0)
                                                                                                    [Go.SE.SV.int Go.IntKind.i64 (↑i : Int)] i_1 =
                                                                                                  [Go.SE.SV.int Go.IntKind.i64 (u_1.2.2 i_1)]) ∧
                                                                                          (t.snd.snd.snd.snd.2.2.n = f.n ∧
                                                                                              ∀ (i : Nat),
                                                                                                i < t.snd.snd.snd.snd.2.2.n →
                                                                                                  [Go.SE.SV.int Go.IntKind.i64 (t.snd.snd.snd.snd.2.2.g i)] =
                                                                                                    [Go.SE.SV.int Go.IntKind.i64 (f.g i)]) ∧
                                                                                            Go.SE.EV.cl (nat_lit 55)
                                                                                                  [Go.SE.EV.p
                                                                                                      (Go.SE.SV.ref
                                                                                                        [Go.SE.SV.sl (nat_lit 3) t.2.1.n fun (i : Nat) ↦
                                                                                                            [Go.SE.SV.int Go.IntKind.i64 (t.2.1.g i).edge,
                                                                                                              Go.SE.SV.int Go.IntKind.i64 (t.2.1.g i).place,
                                                                                                              Go.SE.SV.int Go.IntKind.i64 (t.2.1.g i).tone]]
                                                                                                        (nat_lit 0)),
                                                                                                    Go.SE.EV.p
                                                                                                      (Go.SE.SV.ref
                                                                                                        [Go.SE.SV.clo (nat_lit 53)
                                                                                                            [Go.SE.SV.ref
                                                                                                                [Go.SE.SV.sl (nat_lit 3) t.1.n fun (i : Nat) ↦
                                                                                                                    [Go.SE.SV.int Go.IntKind.i64 (t.1.g i).edge,
                                                                                                                      Go.SE.SV.int Go.IntKind.i64
                                                                                                                        (t.1.g i).place,
                                                                                                                      Go.SE.SV.int Go.IntKind.i64
                                                                                                                        (t.1.g i).tone]]
                                                                                                                (nat_lit 0),
                                                                                                              Go.SE.SV.ref
                                                                                                                [Go.SE.SV.sl (nat_lit 3) t.2.1.n fun (i : Nat) ↦
                                                                                                                    [Go.SE.SV.int Go.IntKind.i64
                                                                                                                        (t.2.1.g i).edge,
                                                                                                                      Go.SE.SV.int Go.IntKind.i64
                                                                                                                        (t.2.1.g i).place,
                                                                                                                      Go.SE.SV.int Go.IntKind.i64
                                                                                                                        (t.2.1.g i).tone]]
                                                                                                                (nat_lit 0),
                                                                                                              Go.SE.SV.ref
                                                                                                                [Go.SE.SV.int Go.IntKind.i64 t.snd.2.1]
                                                                                                                (nat_lit 0)]]
                                                                                                        (nat_lit 0)),
                                                                                                    Go.SE.EV.loc (1009 : Nat) (nat_lit 0),
                                                                                                    Go.SE.EV.loc (1005 : Nat) (nat_lit 0),
                                                                                                    Go.SE.EV.loc (2009 : Nat) (nat_lit 0),
                                                                                                    Go.SE.EV.loc (1010 : Nat) (nat_lit 0)] =
                                                                                                Go.SE.EV.cl (55 : Nat)
                                                                                                  [Go.SE.EV.p
                                                                                                      (Go.SE.SV.ref
                                                                                                        [Go.SE.SV.sl (3 : Nat) b.n fun (i : Nat) ↦
                                                                                                            [Go.SE.SV.int Go.IntKind.i64 (b.g i).edge,
                                                                                                              Go.SE.SV.int Go.IntKind.i64 (b.g i).place,
                                                                                                              Go.SE.SV.int Go.IntKind.i64 (b.g i).tone]]
                                                                                                        (0 : Nat)),
                                                                                                    Go.SE.EV.p
                                                                                                      (Go.SE.SV.ref
                                                                                                        [Go.SE.SV.clo (53 : Nat)
                                                                                                            [Go.SE.SV.ref
                                                                                                                [Go.SE.SV.sl (3 : Nat) a.n fun (i : Nat) ↦
                                                                                                                    [Go.SE.SV.int Go.IntKind.i64 (a.g i).edge,
                                                                                                                      Go.SE.SV.int Go.IntKind.i64 (a.g i).place,
                                                                                                                      Go.SE.SV.int Go.IntKind.i64 (a.g i).tone]]
                                                                                                                (0 : Nat),
                                                                                                              Go.SE.SV.ref
                                                                                                                [Go.SE.SV.sl (3 : Nat) b.n fun (i : Nat) ↦
                                                                                                                    [Go.SE.SV.int Go.IntKind.i64 (b.g i).edge,
                                                                                                                      Go.SE.SV.int Go.IntKind.i64 (b.g i).place,
                                                                                                                      Go.SE.SV.int Go.IntKind.i64 (b.g i).tone]]
                                                                                                                (0 : Nat),
                                                                                                              Go.SE.SV.ref [Go.SE.SV.int Go.IntKind.i64 sl]
                                                                                                                (0 : Nat)]]
                                                                                                        (0 : Nat)),
                                                                                                    Go.SE.EV.loc (1009 : Nat) (0 : Nat),
                                                                                                    Go.SE.EV.loc (1005 : Nat) (0 : Nat),
                                                                                                    Go.SE.EV.loc (2009 : Nat) (0 : Nat),
                                                                                                    Go.SE.EV.loc (1010 : Nat) (0 : Nat)] ∧
                                                                                              Go.Proofs.Ytipaekbdalahdaa.L.placeQ a b sl i sn ow f u_1.1 u_1.2.1
                                                                                                u_1.2.2) ∧
                                                                            ((bif Decidable.decide (ow (Int.toNat (↑g.1 : Int)) < (0 : Int)) then Bool.true
                                                                                else u.1) =
                                                                                Bool.false →
                                                                              Go.SE.InK Go.IntKind.i64 ((↑g.1 : Int) + (1 : Int)) ∧
                                                                                ∃ (g' : Nat × (Nat → Bool)),
                                                                                  (↑g.1 : Int) + (1 : Int) = (↑g'.1 : Int) ∧
                                                                                    (↑b.n : Int) = (↑b.n : Int) ∧
                                                                                      (b.n = b.n ∧
                                                                                          ∀ (i : Nat),
                                                                                            i < b.n →
                                                                                              [Go.SE.SV.int Go.IntKind.i64 (b.g i).edge,
                                                                                                  Go.SE.SV.int Go.IntKind.i64 (b.g i).place,
                                                                                                  Go.SE.SV.int Go.IntKind.i64 (b.g i).tone] =
                                                                                                [Go.SE.SV.int Go.IntKind.i64 (b.g i).edge,
                                                                                                  Go.SE.SV.int Go.IntKind.i64 (b.g i).place,
                                                                                                  Go.SE.SV.int Go.IntKind.i64 (b.g i).tone]) ∧
                                                                                        (↑i : Int) = (↑i : Int) ∧
                                                                                          Go.SE.SV.ref
                                                                                                [Go.SE.SV.sl (nat_lit 3) b.n fun (i : Nat) ↦
                                                                                                    [Go.SE.SV.int Go.IntKind.i64 (b.g i).edge,
                                                                                                      Go.SE.SV.int Go.IntKind.i64 (b.g i).place,
                                                                                                      Go.SE.SV.int Go.IntKind.i64 (b.g i).tone]]
                                                                                                (nat_lit 0) =
                                                                                              Go.SE.SV.ref
                                                                                                [Go.SE.SV.sl (nat_lit 3) b.n fun (i : Nat) ↦
                                                                                                    [Go.SE.SV.int Go.IntKind.i64 (b.g i).edge,
                                                                                                      Go.SE.SV.int Go.IntKind.i64 (b.g i).place,
                                                                                                      Go.SE.SV.int Go.IntKind.i64 (b.g i).tone]]
                                                                                                (nat_lit 0) ∧
                                                                                            Go.SE.SV.ref
                                                                                                  [Go.SE.SV.clo (nat_lit 53)
                                                                                                      [Go.SE.SV.ref
                                                                                                          [Go.SE.SV.sl (nat_lit 3) a.n fun (i : Nat) ↦
                                                                                                              [Go.SE.SV.int Go.IntKind.i64 (a.g i).edge,
                                                                                                                Go.SE.SV.int Go.IntKind.i64 (a.g i).place,
                                                                                                                Go.SE.SV.int Go.IntKind.i64 (a.g i).tone]]
                                                                                                          (nat_lit 0),
                                                                                                        Go.SE.SV.ref
                                                                                                          [Go.SE.SV.sl (nat_lit 3) b.n fun (i : Nat) ↦
                                                                                                              [Go.SE.SV.int Go.IntKind.i64 (b.g i).edge,
                                                                                                                Go.SE.SV.int Go.IntKind.i64 (b.g i).place,
                                                                                                                Go.SE.SV.int Go.IntKind.i64 (b.g i).tone]]
                                                                                                          (nat_lit 0),
                                                                                                        Go.SE.SV.ref [Go.SE.SV.int Go.IntKind.i64 sl]
                                                                                                          (nat_lit 0)]]
                                                                                                  (nat_lit 0) =
                                                                                                Go.SE.SV.ref
                                                                                                  [Go.SE.SV.clo (nat_lit 53)
                                                                                                      [Go.SE.SV.ref
                                                                                                          [Go.SE.SV.sl (nat_lit 3) a.n fun (i : Nat) ↦
                                                                                                              [Go.SE.SV.int Go.IntKind.i64 (a.g i).edge,
                                                                                                                Go.SE.SV.int Go.IntKind.i64 (a.g i).place,
                                                                                                                Go.SE.SV.int Go.IntKind.i64 (a.g i).tone]]
                                                                                                          (nat_lit 0),
                                                                                                        Go.SE.SV.ref
                                                                                                          [Go.SE.SV.sl (nat_lit 3) b.n fun (i : Nat) ↦
                                                                                                              [Go.SE.SV.int Go.IntKind.i64 (b.g i).edge,
                                                                                                                Go.SE.SV.int Go.IntKind.i64 (b.g i).place,
                                                                                                                Go.SE.SV.int Go.IntKind.i64 (b.g i).tone]]
                                                                                                          (nat_lit 0),
                                                                                                        Go.SE.SV.ref [Go.SE.SV.int Go.IntKind.i64 sl]
                                                                                                          (nat_lit 0)]]
                                                                                                  (nat_lit 0) ∧
                                                                                              nat_lit 0 = nat_lit 0 ∧
                                                                                                nat_lit 0 = nat_lit 0 ∧
                                                                                                  nat_lit 0 = nat_lit 0 ∧
                                                                                                    nat_lit 0 = nat_lit 0 ∧
                                                                                                      (t.2.1.n = b.n ∧
                                                                                                          ∀ (i : Nat),
                                                                                                            i < t.2.1.n →
                                                                                                              [Go.SE.SV.bool (u.2.1 i)] =
                                                                                                                [Go.SE.SV.bool (g'.2 i)]) ∧
                                                                                                        (t.2.1.n = b.n ∧
                                                                                                            ∀ (i : Nat),
                                                                                                              i < t.2.1.n →
                                                                                                                [Go.SE.SV.int Go.IntKind.i64 (u.2.2 i)] =
                                                                                                                  [Go.SE.SV.int Go.IntKind.i64 (ow i)]) ∧
                                                                                                          (t.snd.snd.snd.snd.2.2.n = f.n ∧
                                                                                                              ∀ (i : Nat),
                                                                                                                i < t.snd.snd.snd.snd.2.2.n →
                                                                                                                  [Go.SE.SV.int Go.IntKind.i64
                                                                                                                        (t.snd.snd.snd.snd.2.2.g i)] =
                                                                                                                    [Go.SE.SV.int Go.IntKind.i64 (f.g i)]) ∧
                                                                                                            Go.SE.EV.cl (nat_lit 55)
                                                                                                                  [Go.SE.EV.p
                                                                                                                      (Go.SE.SV.ref
                                                                                                                        [Go.SE.SV.sl (nat_lit 3) t.2.1.n
                                                                                                                            fun (i : Nat) ↦
                                                                                                                            [Go.SE.SV.int Go.IntKind.i64
                                                                                                                                (t.2.1.g i).edge,
                                                                                                                              Go.SE.SV.int Go.IntKind.i64
                                                                                                                                (t.2.1.g i).place,
                                                                                                                              Go.SE.SV.int Go.IntKind.i64
                                                                                                                                (t.2.1.g i).tone]]
                                                                                                                        (nat_lit 0)),
                                                                                                                    Go.SE.EV.p
                                                                                                                      (Go.SE.SV.ref
                                                                                                                        [Go.SE.SV.clo (nat_lit 53)
                                                                                                                            [Go.SE.SV.ref
                                                                                                                                [Go.SE.SV.sl (nat_lit 3) t.1.n
                                                                                                                                    fun (i : Nat) ↦
                                                                                                                                    [Go.SE.SV.int Go.IntKind.i64
                                                                                                                                        (t.1.g i).edge,
                                                                                                                                      Go.SE.SV.int
                                                                                                                                        Go.IntKind.i64
                                                                                                                                        (t.1.g i).place,
                                                                                                                                      Go.SE.SV.int
                                                                                                                                        Go.IntKind.i64
                                                                                                                                        (t.1.g i).tone]]
                                                                                                                                (nat_lit 0),
                                                                                                                              Go.SE.SV.ref
                                                                                                                                [Go.SE.SV.sl (nat_lit 3) t.2.1.n
                                                                                                                                    fun (i : Nat) ↦
                                                                                                                                    [Go.SE.SV.int Go.IntKind.i64
                                                                                                                                        (t.2.1.g i).edge,
                                                                                                                                      Go.SE.SV.int
                                                                                                                                        Go.IntKind.i64
                                                                                                                                        (t.2.1.g i).place,
                                                                                                                                      Go.SE.SV.int
                                                                                                                                        Go.IntKind.i64
                                                                                                                                        (t.2.1.g i).tone]]
                                                                                                                                (nat_lit 0),
                                                                                                                              Go.SE.SV.ref
                                                                                                                                [Go.SE.SV.int Go.IntKind.i64
                                                                                                                                    t.snd.2.1]
                                                                                                                                (nat_lit 0)]]
                                                                                                                        (nat_lit 0)),
                                                                                                                    Go.SE.EV.loc (1009 : Nat) (nat_lit 0),
                                                                                                                    Go.SE.EV.loc (1005 : Nat) (nat_lit 0),
                                                                                                                    Go.SE.EV.loc (2009 : Nat) (nat_lit 0),
                                                                                                                    Go.SE.EV.loc (1010 : Nat) (nat_lit 0)] =
                                                                                                                Go.SE.EV.cl (nat_lit 55)
                                                                                                                  [Go.SE.EV.p
                                                                                                                      (Go.SE.SV.ref
                                                                                                                        [Go.SE.SV.sl (nat_lit 3) b.n
                                                                                                                            fun (i : Nat) ↦
                                                                                                                            [Go.SE.SV.int Go.IntKind.i64
                                                                                                                                (b.g i).edge,
                                                                                                                              Go.SE.SV.int Go.IntKind.i64
                                                                                                                                (b.g i).place,
                                                                                                                              Go.SE.SV.int Go.IntKind.i64
                                                                                                                                (b.g i).tone]]
                                                                                                                        (nat_lit 0)),
                                                                                                                    Go.SE.EV.p
                                                                                                                      (Go.SE.SV.ref
                                                                                                                        [Go.SE.SV.clo (nat_lit 53)
                                                                                                                            [Go.SE.SV.ref
                                                                                                                                [Go.SE.SV.sl (nat_lit 3) a.n
                                                                                                                                    fun (i : Nat) ↦
                                                                                                                                    [Go.SE.SV.int Go.IntKind.i64
                                                                                                                                        (a.g i).edge,
                                                                                                                                      Go.SE.SV.int
                                                                                                                                        Go.IntKind.i64
                                                                                                                                        (a.g i).place,
                                                                                                                                      Go.SE.SV.int
                                                                                                                                        Go.IntKind.i64
                                                                                                                                        (a.g i).tone]]
                                                                                                                                (nat_lit 0),
                                                                                                                              Go.SE.SV.ref
                                                                                                                                [Go.SE.SV.sl (nat_lit 3) b.n
                                                                                                                                    fun (i : Nat) ↦
                                                                                                                                    [Go.SE.SV.int Go.IntKind.i64
                                                                                                                                        (b.g i).edge,
                                                                                                                                      Go.SE.SV.int
                                                                                                                                        Go.IntKind.i64
                                                                                                                                        (b.g i).place,
                                                                                                                                      Go.SE.SV.int
                                                                                                                                        Go.IntKind.i64
                                                                                                                                        (b.g i).tone]]
                                                                                                                                (nat_lit 0),
                                                                                                                              Go.SE.SV.ref
                                                                                                                                [Go.SE.SV.int Go.IntKind.i64 sl]
                                                                                                                                (nat_lit 0)]]
                                                                                                                        (nat_lit 0)),
                                                                                                                    Go.SE.EV.loc (nat_lit 1009) (nat_lit 0),
                                                                                                                    Go.SE.EV.loc (nat_lit 1005) (nat_lit 0),
                                                                                                                    Go.SE.EV.loc (nat_lit 2009) (nat_lit 0),
                                                                                                                    Go.SE.EV.loc (nat_lit 1010) (nat_lit 0)] ∧
                                                                                                              Go.Proofs.Ytipaekbdalahdaa.L.placeI a b sl i sn ow
                                                                                                                  f g'.1 g'.2 ∧
                                                                                                                b.n - g'.1 < b.n - g.1)) ∧
                                          ((!Decidable.decide (ow (Int.toNat (↑g.1 : Int)) < (0 : Int))) = Bool.false →
                                            ((bif Decidable.decide (ow (Int.toNat (↑g.1 : Int)) < (0 : Int)) then Bool.true else Bool.false) = Bool.true →
                                                ((0 : Int) ≤ (↑g.1 : Int) ∧ (↑g.1 : Int) < (↑b.n : Int)) ∧
                                                  Int.toNat (↑g.1 : Int) < b.n ∧
                                                    ∃ (u : Bool × (Nat → Bool) × (Nat → Int)),
                                                      Bool.true = u.1 ∧
                                                        (b.n = b.n ∧
                                                            ∀ (i : Nat),
                                                              i < b.n →
                                                                Go.SE.setRow (fun (k : Nat) ↦ [Go.SE.SV.bool (g.2 k)]) (Int.toNat (↑g.1 : Int)) (nat_lit 0)
                                                                    [Go.SE.SV.bool Bool.true] i =
                                                                  [Go.SE.SV.bool (u.2.1 i)]) ∧
                                                          (b.n = b.n ∧
                                                              ∀ (i_1 : Nat),
                                                                i_1 < b.n →
                                                                  Go.SE.setRow (fun (k : Nat) ↦ [Go.SE.SV.int Go.IntKind.i64 (ow k)]) (Int.toNat (↑g.1 : Int))
                                                                      (nat_lit 0) [Go.SE.SV.int Go.IntKind.i64 (↑i : Int)] i_1 =
                                                                    [Go.SE.SV.int Go.IntKind.i64 (u.2.2 i_1)]) ∧
                                                            (f.n = f.n ∧
                                                                ∀ (i : Nat),
                                                                  i < f.n → [Go.SE.SV.int Go.IntKind.i64 (f.g i)] = [Go.SE.SV.int Go.IntKind.i64 (f.g i)]) ∧
                                                              Go.SE.EV.cl (nat_lit 55)
                                                                    [Go.SE.EV.p
                                                                        (Go.SE.SV.ref
                                                                          [Go.SE.SV.sl (nat_lit 3) b.n fun (i : Nat) ↦
                                                                              [Go.SE.SV.int Go.IntKind.i64 (b.g i).edge,
                                                                                Go.SE.SV.int Go.IntKind.i64 (b.g i).place,
                                                                                Go.SE.SV.int Go.IntKind.i64 (b.g i).tone]]
                                                                          (nat_lit 0)),
                                                                      Go.SE.EV.p
                                                                        (Go.SE.SV.ref
                                                                          [Go.SE.SV.clo (nat_lit 53)
                                                                              [Go.SE.SV.ref
                                                                                  [Go.SE.SV.sl (nat_lit 3) a.n fun (i : Nat) ↦
                                                                                      [Go.SE.SV.int Go.IntKind.i64 (a.g i).edge,
                                                                                        Go.SE.SV.int Go.IntKind.i64 (a.g i).place,
                                                                                        Go.SE.SV.int Go.IntKind.i64 (a.g i).tone]]
                                                                                  (nat_lit 0),
                                                                                Go.SE.SV.ref
                                                                                  [Go.SE.SV.sl (nat_lit 3) b.n fun (i : Nat) ↦
                                                                                      [Go.SE.SV.int Go.IntKind.i64 (b.g i).edge,
                                                                                        Go.SE.SV.int Go.IntKind.i64 (b.g i).place,
                                                                                        Go.SE.SV.int Go.IntKind.i64 (b.g i).tone]]
                                                                                  (nat_lit 0),
                                                                                Go.SE.SV.ref [Go.SE.SV.int Go.IntKind.i64 sl] (nat_lit 0)]]
                                                                          (nat_lit 0)),
                                                                      Go.SE.EV.loc (nat_lit 1009) (nat_lit 0), Go.SE.EV.loc (nat_lit 1005) (nat_lit 0),
                                                                      Go.SE.EV.loc (nat_lit 2009) (nat_lit 0), Go.SE.EV.loc (nat_lit 1010) (nat_lit 0)] =
                                                                  Go.SE.EV.cl (55 : Nat)
                                                                    [Go.SE.EV.p
                                                                        (Go.SE.SV.ref
                                                                          [Go.SE.SV.sl (3 : Nat) b.n fun (i : Nat) ↦
                                                                              [Go.SE.SV.int Go.IntKind.i64 (b.g i).edge,
                                                                                Go.SE.SV.int Go.IntKind.i64 (b.g i).place,
                                                                                Go.SE.SV.int Go.IntKind.i64 (b.g i).tone]]
                                                                          (0 : Nat)),
                                                                      Go.SE.EV.p
                                                                        (Go.SE.SV.ref
                                                                          [Go.SE.SV.clo (53 : Nat)
                                                                              [Go.SE.SV.ref
                                                                                  [Go.SE.SV.sl (3 : Nat) a.n fun (i : Nat) ↦
                                                                                      [Go.SE.SV.int Go.IntKind.i64 (a.g i).edge,
                                                                                        Go.SE.SV.int Go.IntKind.i64 (a.g i).place,
                                                                                        Go.SE.SV.int Go.IntKind.i64 (a.g i).tone]]
                                                                                  (0 : Nat),
                                                                                Go.SE.SV.ref
                                                                                  [Go.SE.SV.sl (3 : Nat) b.n fun (i : Nat) ↦
                                                                                      [Go.SE.SV.int Go.IntKind.i64 (b.g i).edge,
                                                                                        Go.SE.SV.int Go.IntKind.i64 (b.g i).place,
                                                                                        Go.SE.SV.int Go.IntKind.i64 (b.g i).tone]]
                                                                                  (0 : Nat),
                                                                                Go.SE.SV.ref [Go.SE.SV.int Go.IntKind.i64 sl] (0 : Nat)]]
                                                                          (0 : Nat)),
                                                                      Go.SE.EV.loc (1009 : Nat) (0 : Nat), Go.SE.EV.loc (1005 : Nat) (0 : Nat),
                                                                      Go.SE.EV.loc (2009 : Nat) (0 : Nat), Go.SE.EV.loc (1010 : Nat) (0 : Nat)] ∧
                                                                Go.Proofs.Ytipaekbdalahdaa.L.placeQ a b sl i sn ow f u.1 u.2.1 u.2.2) ∧
                                              ((bif Decidable.decide (ow (Int.toNat (↑g.1 : Int)) < (0 : Int)) then Bool.true else Bool.false) = Bool.false →
                                                Go.SE.InK Go.IntKind.i64 ((↑g.1 : Int) + (1 : Int)) ∧
                                                  ∃ (g' : Nat × (Nat → Bool)),
                                                    (↑g.1 : Int) + (1 : Int) = (↑g'.1 : Int) ∧
                                                      (↑b.n : Int) = (↑b.n : Int) ∧
                                                        (b.n = b.n ∧
                                                            ∀ (i : Nat),
                                                              i < b.n →
                                                                [Go.SE.SV.int Go.IntKind.i64 (b.g i).edge, Go.SE.SV.int Go.IntKind.i64 (b.g i).place,
                                                                    Go.SE.SV.int Go.IntKind.i64 (b.g i).tone] =
                                                                  [Go.SE.SV.int Go.IntKind.i64 (b.g i).edge, Go.SE.SV.int Go.IntKind.i64 (b.g i).place,
                                                                    Go.SE.SV.int Go.IntKind.i64 (b.g i).tone]) ∧
                                                          (↑i : Int) = (↑i : Int) ∧
                                                            Go.SE.SV.ref
                                                                  [Go.SE.SV.sl (nat_lit 3) b.n fun (i : Nat) ↦
                                                                      [Go.SE.SV.int Go.IntKind.i64 (b.g i).edge, Go.SE.SV.int Go.IntKind.i64 (b.g i).place,
                                                                        Go.SE.SV.int Go.IntKind.i64 (b.g i).tone]]
                                                                  (nat_lit 0) =
                                                                Go.SE.SV.ref
                                                                  [Go.SE.SV.sl (nat_lit 3) b.n fun (i : Nat) ↦
                                                                      [Go.SE.SV.int Go.IntKind.i64 (b.g i).edge, Go.SE.SV.int Go.IntKind.i64 (b.g i).place,
                                                                        Go.SE.SV.int Go.IntKind.i64 (b.g i).tone]]
                                                                  (nat_lit 0) ∧
                                                              Go.SE.SV.ref
                                                                    [Go.SE.SV.clo (nat_lit 53)
                                                                        [Go.SE.SV.ref
                                                                            [Go.SE.SV.sl (nat_lit 3) a.n fun (i : Nat) ↦
                                                                                [Go.SE.SV.int Go.IntKind.i64 (a.g i).edge,
                                                                                  Go.SE.SV.int Go.IntKind.i64 (a.g i).place,
                                                                                  Go.SE.SV.int Go.IntKind.i64 (a.g i).tone]]
                                                                            (nat_lit 0),
                                                                          Go.SE.SV.ref
                                                                            [Go.SE.SV.sl (nat_lit 3) b.n fun (i : Nat) ↦
                                                                                [Go.SE.SV.int Go.IntKind.i64 (b.g i).edge,
                                                                                  Go.SE.SV.int Go.IntKind.i64 (b.g i).place,
                                                                                  Go.SE.SV.int Go.IntKind.i64 (b.g i).tone]]
                                                                            (nat_lit 0),
                                                                          Go.SE.SV.ref [Go.SE.SV.int Go.IntKind.i64 sl] (nat_lit 0)]]
                                                                    (nat_lit 0) =
                                                                  Go.SE.SV.ref
                                                                    [Go.SE.SV.clo (nat_lit 53)
                                                                        [Go.SE.SV.ref
                                                                            [Go.SE.SV.sl (nat_lit 3) a.n fun (i : Nat) ↦
                                                                                [Go.SE.SV.int Go.IntKind.i64 (a.g i).edge,
                                                                                  Go.SE.SV.int Go.IntKind.i64 (a.g i).place,
                                                                                  Go.SE.SV.int Go.IntKind.i64 (a.g i).tone]]
                                                                            (nat_lit 0),
                                                                          Go.SE.SV.ref
                                                                            [Go.SE.SV.sl (nat_lit 3) b.n fun (i : Nat) ↦
                                                                                [Go.SE.SV.int Go.IntKind.i64 (b.g i).edge,
                                                                                  Go.SE.SV.int Go.IntKind.i64 (b.g i).place,
                                                                                  Go.SE.SV.int Go.IntKind.i64 (b.g i).tone]]
                                                                            (nat_lit 0),
                                                                          Go.SE.SV.ref [Go.SE.SV.int Go.IntKind.i64 sl] (nat_lit 0)]]
                                                                    (nat_lit 0) ∧
                                                                nat_lit 0 = nat_lit 0 ∧
                                                                  nat_lit 0 = nat_lit 0 ∧
                                                                    nat_lit 0 = nat_lit 0 ∧
                                                                      nat_lit 0 = nat_lit 0 ∧
                                                                        (b.n = b.n ∧
                                                                            ∀ (i : Nat),
                                                                              i < b.n →
                                                                                Go.SE.setRow (fun (k : Nat) ↦ [Go.SE.SV.bool (g.2 k)]) (Int.toNat (↑g.1 : Int))
                                                                                    (nat_lit 0) [Go.SE.SV.bool Bool.true] i =
                                                                                  [Go.SE.SV.bool (g'.2 i)]) ∧
                                                                          (b.n = b.n ∧
                                                                              ∀ (i : Nat),
                                                                                i < b.n →
                                                                                  [Go.SE.SV.int Go.IntKind.i64 (ow i)] = [Go.SE.SV.int Go.IntKind.i64 (ow i)]) ∧
                                                                            (f.n = f.n ∧
                                                                                ∀ (i : Nat),
                                                                                  i < f.n →
                                                                                    [Go.SE.SV.int Go.IntKind.i64 (f.g i)] =
                                                                                      [Go.SE.SV.int Go.IntKind.i64 (f.g i)]) ∧
                                                                              Go.SE.EV.cl (nat_lit 55)
                                                                                    [Go.SE.EV.p
                                                                                        (Go.SE.SV.ref
                                                                                          [Go.SE.SV.sl (nat_lit 3) b.n fun (i : Nat) ↦
                                                                                              [Go.SE.SV.int Go.IntKind.i64 (b.g i).edge,
                                                                                                Go.SE.SV.int Go.IntKind.i64 (b.g i).place,
                                                                                                Go.SE.SV.int Go.IntKind.i64 (b.g i).tone]]
                                                                                          (nat_lit 0)),
                                                                                      Go.SE.EV.p
                                                                                        (Go.SE.SV.ref
                                                                                          [Go.SE.SV.clo (nat_lit 53)
                                                                                              [Go.SE.SV.ref
                                                                                                  [Go.SE.SV.sl (nat_lit 3) a.n fun (i : Nat) ↦
                                                                                                      [Go.SE.SV.int Go.IntKind.i64 (a.g i).edge,
                                                                                                        Go.SE.SV.int Go.IntKind.i64 (a.g i).place,
                                                                                                        Go.SE.SV.int Go.IntKind.i64 (a.g i).tone]]
                                                                                                  (nat_lit 0),
                                                                                                Go.SE.SV.ref
                                                                                                  [Go.SE.SV.sl (nat_lit 3) b.n fun (i : Nat) ↦
                                                                                                      [Go.SE.SV.int Go.IntKind.i64 (b.g i).edge,
                                                                                                        Go.SE.SV.int Go.IntKind.i64 (b.g i).place,
                                                                                                        Go.SE.SV.int Go.IntKind.i64 (b.g i).tone]]
                                                                                                  (nat_lit 0),
                                                                                                Go.SE.SV.ref [Go.SE.SV.int Go.IntKind.i64 sl] (nat_lit 0)]]
                                                                                          (nat_lit 0)),
                                                                                      Go.SE.EV.loc (nat_lit 1009) (nat_lit 0),
                                                                                      Go.SE.EV.loc (nat_lit 1005) (nat_lit 0),
                                                                                      Go.SE.EV.loc (nat_lit 2009) (nat_lit 0),
                                                                                      Go.SE.EV.loc (nat_lit 1010) (nat_lit 0)] =
                                                                                  Go.SE.EV.cl (nat_lit 55)
                                                                                    [Go.SE.EV.p
                                                                                        (Go.SE.SV.ref
                                                                                          [Go.SE.SV.sl (nat_lit 3) b.n fun (i : Nat) ↦
                                                                                              [Go.SE.SV.int Go.IntKind.i64 (b.g i).edge,
                                                                                                Go.SE.SV.int Go.IntKind.i64 (b.g i).place,
                                                                                                Go.SE.SV.int Go.IntKind.i64 (b.g i).tone]]
                                                                                          (nat_lit 0)),
                                                                                      Go.SE.EV.p
                                                                                        (Go.SE.SV.ref
                                                                                          [Go.SE.SV.clo (nat_lit 53)
                                                                                              [Go.SE.SV.ref
                                                                                                  [Go.SE.SV.sl (nat_lit 3) a.n fun (i : Nat) ↦
                                                                                                      [Go.SE.SV.int Go.IntKind.i64 (a.g i).edge,
                                                                                                        Go.SE.SV.int Go.IntKind.i64 (a.g i).place,
                                                                                                        Go.SE.SV.int Go.IntKind.i64 (a.g i).tone]]
                                                                                                  (nat_lit 0),
                                                                                                Go.SE.SV.ref
                                                                                                  [Go.SE.SV.sl (nat_lit 3) b.n fun (i : Nat) ↦
                                                                                                      [Go.SE.SV.int Go.IntKind.i64 (b.g i).edge,
                                                                                                        Go.SE.SV.int Go.IntKind.i64 (b.g i).place,
                                                                                                        Go.SE.SV.int Go.IntKind.i64 (b.g i).tone]]
                                                                                                  (nat_lit 0),
                                                                                                Go.SE.SV.ref [Go.SE.SV.int Go.IntKind.i64 sl] (nat_lit 0)]]
                                                                                          (nat_lit 0)),
                                                                                      Go.SE.EV.loc (nat_lit 1009) (nat_lit 0),
                                                                                      Go.SE.EV.loc (nat_lit 1005) (nat_lit 0),
                                                                                      Go.SE.EV.loc (nat_lit 2009) (nat_lit 0),
                                                                                      Go.SE.EV.loc (nat_lit 1010) (nat_lit 0)] ∧
                                                                                Go.Proofs.Ytipaekbdalahdaa.L.placeI a b sl i sn ow f g'.1 g'.2 ∧
                                                                                  b.n - g'.1 < b.n - g.1)))) ∧
        (Decidable.decide ((↑g.1 : Int) < (↑b.n : Int)) = Bool.false →
          ∃ (u : Bool × (Nat → Bool) × (Nat → Int)),
            Bool.false = u.1 ∧
              (b.n = b.n ∧ ∀ (i : Nat), i < b.n → [Go.SE.SV.bool (g.2 i)] = [Go.SE.SV.bool (u.2.1 i)]) ∧
                (b.n = b.n ∧ ∀ (i : Nat), i < b.n → [Go.SE.SV.int Go.IntKind.i64 (ow i)] = [Go.SE.SV.int Go.IntKind.i64 (u.2.2 i)]) ∧
                  (f.n = f.n ∧ ∀ (i : Nat), i < f.n → [Go.SE.SV.int Go.IntKind.i64 (f.g i)] = [Go.SE.SV.int Go.IntKind.i64 (f.g i)]) ∧
                    Go.SE.EV.cl (nat_lit 55)
                          [Go.SE.EV.p
                              (Go.SE.SV.ref
                                [Go.SE.SV.sl (nat_lit 3) b.n fun (i : Nat) ↦
                                    [Go.SE.SV.int Go.IntKind.i64 (b.g i).edge, Go.SE.SV.int Go.IntKind.i64 (b.g i).place,
                                      Go.SE.SV.int Go.IntKind.i64 (b.g i).tone]]
                                (nat_lit 0)),
                            Go.SE.EV.p
                              (Go.SE.SV.ref
                                [Go.SE.SV.clo (nat_lit 53)
                                    [Go.SE.SV.ref
                                        [Go.SE.SV.sl (nat_lit 3) a.n fun (i : Nat) ↦
                                            [Go.SE.SV.int Go.IntKind.i64 (a.g i).edge, Go.SE.SV.int Go.IntKind.i64 (a.g i).place,
                                              Go.SE.SV.int Go.IntKind.i64 (a.g i).tone]]
                                        (nat_lit 0),
                                      Go.SE.SV.ref
                                        [Go.SE.SV.sl (nat_lit 3) b.n fun (i : Nat) ↦
                                            [Go.SE.SV.int Go.IntKind.i64 (b.g i).edge, Go.SE.SV.int Go.IntKind.i64 (b.g i).place,
                                              Go.SE.SV.int Go.IntKind.i64 (b.g i).tone]]
                                        (nat_lit 0),
                                      Go.SE.SV.ref [Go.SE.SV.int Go.IntKind.i64 sl] (nat_lit 0)]]
                                (nat_lit 0)),
                            Go.SE.EV.loc (nat_lit 1009) (nat_lit 0), Go.SE.EV.loc (nat_lit 1005) (nat_lit 0), Go.SE.EV.loc (nat_lit 2009) (nat_lit 0),
                            Go.SE.EV.loc (nat_lit 1010) (nat_lit 0)] =
                        Go.SE.EV.cl (55 : Nat)
                          [Go.SE.EV.p
                              (Go.SE.SV.ref
                                [Go.SE.SV.sl (3 : Nat) b.n fun (i : Nat) ↦
                                    [Go.SE.SV.int Go.IntKind.i64 (b.g i).edge, Go.SE.SV.int Go.IntKind.i64 (b.g i).place,
                                      Go.SE.SV.int Go.IntKind.i64 (b.g i).tone]]
                                (0 : Nat)),
                            Go.SE.EV.p
                              (Go.SE.SV.ref
                                [Go.SE.SV.clo (53 : Nat)
                                    [Go.SE.SV.ref
                                        [Go.SE.SV.sl (3 : Nat) a.n fun (i : Nat) ↦
                                            [Go.SE.SV.int Go.IntKind.i64 (a.g i).edge, Go.SE.SV.int Go.IntKind.i64 (a.g i).place,
                                              Go.SE.SV.int Go.IntKind.i64 (a.g i).tone]]
                                        (0 : Nat),
                                      Go.SE.SV.ref
                                        [Go.SE.SV.sl (3 : Nat) b.n fun (i : Nat) ↦
                                            [Go.SE.SV.int Go.IntKind.i64 (b.g i).edge, Go.SE.SV.int Go.IntKind.i64 (b.g i).place,
                                              Go.SE.SV.int Go.IntKind.i64 (b.g i).tone]]
                                        (0 : Nat),
                                      Go.SE.SV.ref [Go.SE.SV.int Go.IntKind.i64 sl] (0 : Nat)]]
                                (0 : Nat)),
                            Go.SE.EV.loc (1009 : Nat) (0 : Nat), Go.SE.EV.loc (1005 : Nat) (0 : Nat), Go.SE.EV.loc (2009 : Nat) (0 : Nat),
                            Go.SE.EV.loc (1010 : Nat) (0 : Nat)] ∧
                      Go.Proofs.Ytipaekbdalahdaa.L.placeQ a b sl i sn ow f u.1 u.2.1 u.2.2)) (by kernel_rfl) (by
    have hp : L.placeP a b sl i sn ow f := hp
    have hmu : L.unseen b.n sn < rn + 1 := hmu
    obtain ⟨⟨hab, hn, ha, hb, s0, s1⟩, hfi, hib, p4, p5, p6⟩ := id hp
    have ei : ((i : Int)).toNat = i := by omega
    refine ⟨⟨(0, sn), rfl, ⟨rfl, fun _ _ => rfl⟩, place_0⟩, ?_⟩
    rintro ⟨k, s⟩ hI
    have hI : L.placeI a b sl i sn ow f k s := hI
    refine ⟨fun hlt => ?_, fun hge => ?_⟩
    · have hk : (k : Int) < (b.n : Int) := by simpa using hlt
      have hk' : k < b.n := by omega
      have e0 : ((k : Int)).toNat = k := by omega
      dsimp only
      rw [e0, ei]
      refine ⟨⟨fun _ _ => rfl, fun _ _ => rfl, hp.1, by omega, by omega, by omega, hk⟩, fun _ => by omega, fun _ => hk', fun _ => by omega, fun _ => hk', fun _ => by omega, fun _ => hk', fun h => ?_, fun h => ?_⟩
      · have h : (bif (bif !L.near a b sl i k then true else s k) then true else bif decide (0 ≤ ow k) then decide (ow k < (f.n : Int)) else false) = true := h
        have hs : L.near a b sl i k = true → s k = true ∨ L.isF ow f.n k := fun hne => by
          rw [hne] at h
          cases hsk : s k with
          | true => exact .inl rfl
          | false =>
            right
            rw [hsk] at h
            simpa [L.isF] using h
        exact ⟨InK.of (by omega) (by omega), (k + 1, s), by simp, rfl, ⟨rfl, fun _ _ => rfl⟩, rfl, rfl, rfl, rfl, rfl, rfl, rfl, ⟨rfl, fun _ _ => rfl⟩, ⟨rfl, fun _ _ => rfl⟩, ⟨rfl, fun _ _ => rfl⟩, rfl, place_skip hI hk' hs, by simp; omega⟩
      · have h : (bif (bif !L.near a b sl i k then true else s k) then true else bif decide (0 ≤ ow k) then decide (ow k < (f.n : Int)) else false) = false := h
        cases hne : L.near a b sl i k with
        | false => rw [hne] at h; simp at h
        | true =>
          cases hsk : s k with
          | true => rw [hne, hsk] at h; simp at h
          | false =>
            rw [hne, hsk] at h
            have hF : ¬ L.isF ow f.n k := fun hf => by simp [hf.1, hf.2] at h
            have hset : ∀ q, setRow (fun (k : Nat) => [SV.bool (s k)]) k 0 [SV.bool true] q = [SV.bool (L.set s k q)] := fun q => by
              unfold setRow
              by_cases e : q = k
              · subst e; simp [fillAt, set_self]
              · simp [e, set_ne e]
            have hown : ∀ (o : Nat → Int) q, setRow (fun (k : Nat) => [SV.int .i64 (o k)]) k 0 [SV.int .i64 (i : Int)] q = [SV.int .i64 (L.own o k (i : Int) q)] := fun o q => by
              unfold setRow
              by_cases e : q = k
              · subst e; simp [fillAt, own_self]
              · simp [e, own_ne e]
            refine ⟨by omega, hk', by omega, hk', fun _ => by omega, fun _ => hk', fun h0 => ?_, fun h0 => ⟨fun _ => ?_, fun h1 => ?_⟩⟩
            · have hd : decide (ow k < 0) = false := by simpa using h0
              have h0' : 0 ≤ ow k := by simpa using hd
              obtain ⟨hpr, hlt'⟩ := place_pre hp hI hk' hsk hF h0'
              have ej : (((ow k).toNat : Nat) : Int) = ow k := by omega
              refine ⟨(a, b, sl, (ow k).toNat, L.set s k, ow, f), ej.symm, rfl, rfl, rfl, rfl, rfl, rfl, ⟨rfl, fun q _ => hset q⟩, ⟨rfl, fun _ _ => rfl⟩, ⟨rfl, fun _ _ => rfl⟩, rfl, ⟨hpr, Nat.lt_of_lt_of_le hlt' (by omega)⟩, ?_⟩
              rintro ⟨r, s2, ow2⟩ hQ
              rw [hd]
              refine ⟨fun hr => ?_, fun hr => ?_⟩
              · have hr : r = true := hr
                subst hr
                exact ⟨⟨by omega, hk⟩, hk', (true, s2, L.own ow2 k (i : Int)), rfl, ⟨rfl, fun _ _ => rfl⟩, ⟨rfl, fun q _ => hown ow2 q⟩, ⟨rfl, fun _ _ => rfl⟩, rfl, place_rec hp hI hk' hsk hF h0' hne hQ⟩
              · have hr : r = false := hr
                subst hr
                obtain ⟨n1, n2⟩ := place_no hI hk' hsk hF h0' hQ
                exact ⟨InK.of (by omega) (by omega), (k + 1, s2), by simp, rfl, ⟨rfl, fun _ _ => rfl⟩, rfl, rfl, rfl, rfl, rfl, rfl, rfl, ⟨rfl, fun _ _ => rfl⟩, ⟨rfl, fun q hq => congrArg (fun v => [SV.int .i64 v]) (n2 q hq)⟩, ⟨rfl, fun _ _ => rfl⟩, rfl, n1, by simp; omega⟩
            · have hd : decide (ow k < 0) = true := by simpa using h0
              have h0' : ow k < 0 := by simpa using hd
              exact ⟨⟨by omega, hk⟩, hk', (true, L.set s k, L.own ow k (i : Int)), rfl, ⟨rfl, fun q _ => hset q⟩, ⟨rfl, fun q _ => hown ow q⟩, ⟨rfl, fun _ _ => rfl⟩, rfl, place_free hp hI hk' hsk h0' hne⟩
            · have hd : decide (ow k < 0) = true := by simpa using h0
              rw [hd] at h1; cases h1
    · have hk : ¬ (k : Int) < (b.n : Int) := by simpa using hge
      have e : k = b.n := by have := hI.1; omega
      rw [e] at hI
      exact ⟨(false, s, ow), rfl, ⟨rfl, fun _ _ => rfl⟩, ⟨rfl, fun _ _ => rfl⟩, ⟨rfl, fun _ _ => rfl⟩, rfl, place_end hI⟩)
theorem g_place_en : Enters Try.prog 55 := fun args w => by kernel_rfl
theorem g_place_tok : TrOk Try.prog 55 g_place_tr := tr_rec g_place_mu (fun t u => rfl) (fun rn ih => tr_ok (ks := [1009, 1047, 1005, 1014, 2009, 2020, 1010]) (n := 7) Try.func55 (c := bodyOf Try.f55) (by kernel_rfl) mixed ⟨fun t => rfl, fun t => rfl, fun t u => rfl, fun t u => rfl, fun t u => rfl, by kernel_rfl⟩ (fun ⟨a, b, sl, i, sn, ow, f⟩ hp => ⟨_, g_place_vc rn a b sl i sn ow f hp.1 hp.2, ⟨show SpecsL Try.prog _ from (SpecsL.cons g_near_ok g_near_en SpecsL.nil), rfl, ⟨show ItersL Try.prog _ from ItersL.nil, (show TrsL Try.prog _ from (TrsL.cons ih g_place_en TrsL.nil))⟩⟩⟩))
end Go.Proofs.Ytipaekbdalahdaa
