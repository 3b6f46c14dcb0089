/- A symbolic walk over the model, and what it shows of functions of the program: parts of the proof that the text of the row joins. -/
import Derived.Test.YtkklpamllfkbaaaW2
import Derived.Test.YtkklpamllfkbaaaE3
import Derived.KernelRfl

namespace Go.Proofs.Ytkklpamllfkbaaa
open Go.SE Go.RowKit
set_option maxRecDepth 100000
set_option maxHeartbeats 4000000
set_option linter.unusedVariables false
attribute [local irreducible] Go.SE.vc

def L.kOf (s : L.Setting) : Nat := 2 * s.shift.toNat + (bif s.back then 1 else 0)
theorem sett_kOf {s : L.Setting} {n : Nat} (h : L.validSet s n = true) : L.sett (L.kOf s) = s ∧ L.kOf s < 2 * n := by
  have a := validSet_iff.1 h
  unfold L.kOf
  cases hb : s.back with
  | false =>
    rw [cond_false, Nat.add_zero, sett_even]
    exact ⟨set_ext (by show ((s.shift.toNat : Nat) : Int) = s.shift; omega) hb.symm, by omega⟩
  | true =>
    rw [cond_true, sett_odd]
    exact ⟨set_ext (by show ((s.shift.toNat : Nat) : Int) = s.shift; omega) hb.symm, by omega⟩
theorem sett_valid {k n : Nat} (h3 : 3 ≤ n) (h24 : n ≤ 24) (h : k < 2 * n) : L.validSet (L.sett k) n = true := by
  have := sett_lt h
  exact validSet_iff.2 ⟨⟨by omega, by omega⟩, this.1, this.2⟩
theorem kOf_sett (k : Nat) : L.kOf (L.sett k) = k := by
  have hk : k = 2 * (k / 2) ∨ k = 2 * (k / 2) + 1 := by omega
  generalize k / 2 = m at hk
  rcases hk with rfl | rfl
  · rw [sett_even]; unfold L.kOf; rw [cond_false]; show 2 * ((m : Int)).toNat + 0 = 2 * m; omega
  · rw [sett_odd]; unfold L.kOf; rw [cond_true]; show 2 * ((m : Int)).toNat + 1 = 2 * m + 1; omega
theorem cnt_del {q : Nat → Bool} {a : Nat} (hq : q a = true) : ∀ {m : Nat}, a < m → L.cnt q m = L.cnt (fun j => q j && !decide (j = a)) m + 1
  | 0, h => absurd h (Nat.not_lt_zero _)
  | m + 1, h => by
    rcases Nat.lt_succ_iff_lt_or_eq.1 h with h' | rfl
    · have ih := cnt_del hq h'
      have e : (q m && !decide (m = a)) = q m := by rw [decide_eq_false (by omega)]; simp
      cases hm : q m with
      | true => rw [cnt_yes hm, cnt_yes (p := fun j => q j && !decide (j = a)) (by show (q m && !decide (m = a)) = true; rw [e, hm]), ih]
      | false => rw [cnt_not hm, cnt_not (p := fun j => q j && !decide (j = a)) (by show (q m && !decide (m = a)) = false; rw [e, hm]), ih]
    · rw [cnt_yes hq, cnt_not (p := fun j => q j && !decide (j = a)) (by show (q a && !decide (a = a)) = false; simp)]
      have : ∀ c, c ≤ a → L.cnt q c = L.cnt (fun j => q j && !decide (j = a)) c := by
        intro c
        induction c with
        | zero => intro _; rfl
        | succ c ih =>
          intro hc
          have e : (q c && !decide (c = a)) = q c := by rw [decide_eq_false (by omega)]; simp
          cases hm : q c with
          | true => rw [cnt_yes hm, cnt_yes (p := fun j => q j && !decide (j = a)) (by show (q c && !decide (c = a)) = true; rw [e, hm]), ih (by omega)]
          | false => rw [cnt_not hm, cnt_not (p := fun j => q j && !decide (j = a)) (by show (q c && !decide (c = a)) = false; rw [e, hm]), ih (by omega)]
      rw [this a (Nat.le_refl _)]
theorem cnt_inj {p : Nat → Bool} {m : Nat} {f : Nat → Nat} : ∀ {n : Nat} {q : Nat → Bool}, (∀ k, k < n → p k = true → f k < m ∧ q (f k) = true) → (∀ j k, j < n → k < n → p j = true → p k = true → f j = f k → j = k) → L.cnt p n ≤ L.cnt q m
  | 0, q, _, _ => Nat.zero_le _
  | n + 1, q, h1, h2 => by
    cases hp : p n with
    | false =>
      rw [cnt_not hp]
      exact cnt_inj (fun k hk => h1 k (by omega)) (fun j k hj hk => h2 j k (by omega) (by omega))
    | true =>
      obtain ⟨a1, a2⟩ := h1 n (Nat.lt_succ_self n) hp
      rw [cnt_yes hp, cnt_del a2 a1]
      refine Nat.succ_le_succ (cnt_inj (fun k hk hpk => ?_) (fun j k hj hk => h2 j k (by omega) (by omega)))
      obtain ⟨b1, b2⟩ := h1 k (by omega) hpk
      refine ⟨b1, ?_⟩
      rw [b2, decide_eq_false (fun e => by have := h2 k n (by omega) (Nat.lt_succ_self n) hpk hp e; omega)]; rfl
theorem inv_inj {s t : L.Setting} {n : Int} (hs : L.validSet s n = true) (ht : L.validSet t n = true) (h : L.inv s n = L.inv t n) : s = t := by
  have e1 := comp_assoc hs (inv_ok hs).2.1 ht
  rw [(inv_ok hs).2.2, one_comp ht] at e1
  rw [e1]
  have e2 : L.comp (L.inv s n) t n = L.one := by
    rw [h]
    have i1 := (inv_ok ht)
    have i2 := (inv_ok i1.2.1)
    have a1 := comp_assoc i1.2.1 ht i1.2.1
    rw [i1.2.2, comp_one i1.2.1] at a1
    have a2 := comp_assoc (comp_ok i1.2.1 ht).2.2 i1.2.1 i2.2.1
    rw [a1, i2.2.2, comp_one (comp_ok i1.2.1 ht).2.2] at a2
    exact a2.symm
  rw [e2, comp_one hs]
theorem conE_cases (p q : L.Sq L.Pt) : L.conE p q = 1 ∨ (L.conE p q = 0 ∧ L.validOutline p = true ∧ L.validOutline q = true) := by
  unfold L.conE
  cases L.validOutline p <;> cases L.validOutline q <;> simp
theorem conE_zero {p q : L.Sq L.Pt} (hp : L.validOutline p = true) (hq : L.validOutline q = true) : L.conE p q = 0 := by
  unfold L.conE; rw [hp, hq]; rfl
theorem conN_eq {p q : L.Sq L.Pt} (hp : L.validOutline p = true) (hq : L.validOutline q = true) (hn : p.n = q.n) : L.conN p q = L.cnt (L.conK p q) (2 * p.n) := by
  unfold L.conN; rw [conE_zero hp hq, hn, decide_eq_true rfl, decide_eq_true rfl]; rfl
theorem conN_ne {p q : L.Sq L.Pt} (hn : p.n ≠ q.n) : L.conN p q = 0 := by
  unfold L.conN
  rw [decide_eq_false (p := (p.n : Int) = (q.n : Int)) (by omega)]
  cases decide (L.conE p q = 0) <;> rfl
theorem con_in {p q : L.Sq L.Pt} {g : Nat} (h : g < L.conN p q) : p.n = q.n ∧ L.validSet (L.conG p q g) p.n = true ∧ L.congr p q (L.conG p q g) = true := by
  have hn : p.n = q.n := Decidable.byContradiction fun hn => by rw [conN_ne hn] at h; omega
  rcases conE_cases p q with e | ⟨_, hp, hq⟩
  · unfold L.conN at h; rw [e] at h; exact absurd h (Nat.not_lt_zero _)
  rw [conN_eq hp hq hn] at h
  obtain ⟨h1, h2⟩ := sel_in h
  have hb := validOutline_of hp
  exact ⟨hn, sett_valid hb.1 hb.2.1 h1, h2⟩
theorem con_of {p q : L.Sq L.Pt} {s : L.Setting} (hp : L.validOutline p = true) (hq : L.validOutline q = true) (hn : p.n = q.n) (hs : L.validSet s p.n = true) (h : L.congr p q s = true) : L.among ⟨L.conN p q, fun i => L.conG p q i⟩ s = true := by
  obtain ⟨h1, h2⟩ := sett_kOf hs
  have h3 : L.conK p q (L.kOf s) = true := by unfold L.conK; rw [h1]; exact h
  obtain ⟨k, h4, h5⟩ := sel_of h3 h2
  unfold L.among
  rw [conN_eq hp hq hn]
  refine anyB_iff.2 ⟨k, h4, ?_⟩
  unfold L.conG
  dsimp only
  rw [h5, h1]; exact sameS_refl _
theorem con_inv {p q : L.Sq L.Pt} {s : L.Setting} (hp : L.validOutline p = true) (hq : L.validOutline q = true) (hn : p.n = q.n) (hs : L.validSet s p.n = true) (h : L.congr p q s = true) : L.congr q p (L.inv s p.n) = true := by
  have h3 := (validOutline_of hp).1
  have i := (validSet_iff.1 hs)
  have j := (validSet_iff.1 (inv_ok hs).2.1)
  exact (congr_iff hp hn.symm (by omega) j.2.1).2 (iso_inv hn.symm (by omega) hs ((congr_iff hq hn (by omega) i.2.1).1 h))
theorem con_comp {p q r : L.Sq L.Pt} {s t : L.Setting} (hp : L.validOutline p = true) (hq : L.validOutline q = true) (hr : L.validOutline r = true) (hn : p.n = q.n) (hm : q.n = r.n) (hs : L.validSet s p.n = true) (ht : L.validSet t p.n = true) (h : L.congr p q s = true) (k : L.congr q r t = true) : L.congr p r (L.comp s t p.n) = true := by
  have h3 := (validOutline_of hp).1
  have i := (validSet_iff.1 hs)
  have i' := (validSet_iff.1 ht)
  have j := (validSet_iff.1 (comp_ok hs ht).2.2)
  exact (congr_iff hr (by omega) (by omega) j.2.1).2 (iso_comp (by omega) (by omega) hs ht ((congr_iff hq hn (by omega) i.2.1).1 h) ((congr_iff hr hm (by omega) i'.2.1).1 k))
theorem con_le {p q : L.Sq L.Pt} (hp : L.validOutline p = true) (hq : L.validOutline q = true) (hn : p.n = q.n) : L.cnt (L.conK p q) (2 * p.n) ≤ L.cnt (L.conK q p) (2 * q.n) := by
  obtain ⟨h3, h24, _⟩ := validOutline_of hp
  refine cnt_inj (f := fun k => L.kOf (L.inv (L.sett k) p.n)) (fun k hk hpk => ?_) (fun j k hj hk _ _ e => ?_)
  · have v := sett_valid h3 h24 hk
    have w := sett_kOf (inv_ok v).2.1
    refine ⟨by have := w.2; omega, ?_⟩
    unfold L.conK
    rw [w.1]
    exact con_inv hp hq hn v hpk
  · have vj := sett_valid h3 h24 hj
    have vk := sett_valid h3 h24 hk
    have e : L.kOf (L.inv (L.sett j) p.n) = L.kOf (L.inv (L.sett k) p.n) := e
    have wj := (sett_kOf (inv_ok vj).2.1).1
    have wk := (sett_kOf (inv_ok vk).2.1).1
    rw [e, wk] at wj
    have := inv_inj vk vj wj
    rw [← kOf_sett j, ← kOf_sett k, this]
theorem con_sym {p q : L.Sq L.Pt} (hp : L.validOutline p = true) (hq : L.validOutline q = true) : L.conN p q = L.conN q p := by
  by_cases hn : p.n = q.n
  · rw [conN_eq hp hq hn, conN_eq hq hp hn.symm]
    exact Nat.le_antisymm (con_le hp hq hn) (con_le hq hp hn.symm)
  · rw [conN_ne hn, conN_ne (fun e => hn e.symm)]
theorem con_le2 (p q : L.Sq L.Pt) : L.conN p q ≤ 2 * p.n := by
  unfold L.conN
  have := cnt_le (p := L.conK p q) (n := 2 * p.n)
  cases decide (L.conE p q = 0)
  · exact Nat.zero_le _
  · cases decide ((p.n : Int) = q.n)
    · exact Nat.zero_le _
    · exact this
def w_among1_p (l : (L.Sq L.Setting)) (s : L.Setting) : Prop := l.n ≤ 1000000
def w_among1_r (l : (L.Sq L.Setting)) (s : L.Setting) : SV := .bool (L.among l s)
def w_among1_s : List EV → Option (Prop × SV)
  | [.p (.sl 2 l_n l_g), .p (.agg [.int .i64 s_shift, .bool s_back])] => some ((∀ i, i < l_n → l_g i = [.int .i64 ((ofSetting (l_g i)).shift), .bool ((ofSetting (l_g i)).back)]) ∧ w_among1_p (⟨l_n, fun i => ofSetting (l_g i)⟩ : (L.Sq L.Setting)) (⟨s_shift, s_back⟩ : L.Setting), w_among1_r (⟨l_n, fun i => ofSetting (l_g i)⟩ : (L.Sq L.Setting)) (⟨s_shift, s_back⟩ : L.Setting))
  | _ => none
abbrev w_among1_S : SE.Spec := (specO w_among1_s)
def w_among1_C : Cfg := { muts := [], frz := lookN [], specs := lookS [], loops := fun _ => none, iters := lookI [], rfs := lookR [], nils := lookM [] }
theorem w_among1_vc (l : (L.Sq L.Setting)) (s : L.Setting) (hp : w_among1_p l s) : vc Try.prog ({ w_among1_C with loops := lookL [(2, { T := Nat, keep := [0, 3], keepO := [], chg := fun i => [(5, .p (.int .i64 (i : Int)))], own := fun _ => [], inv := fun i => i ≤ l.n ∧ ∀ j, j < i → L.sameS (l.g j) s = false, mu := fun i => l.n - i })], rfs := lookR [] }) (bodyOf Try.f23) (st0 Try.f23 [.p (.sl 2 l.n (fun i => [.int .i64 ((l.g i).shift), .bool ((l.g i).back)])), .p (.agg [.int .i64 s.shift, .bool s.back])]) (retFn Try.prog Try.f23 (w_among1_r l s)) :=
  @Eq.mpr _ ((∃ (g : Nat), (0 : Int) = (↑g : Int) ∧ g ≤ l.n ∧ ∀ (j : Nat), j < g → L.sameS (l.g j) s = Bool.false) ∧ ∀ (g : Nat), (g ≤ l.n ∧ ∀ (j : Nat), j < g → L.sameS (l.g j) s = Bool.false) → (Decidable.decide ((↑g : Int) < (↑l.n : Int)) = Bool.true → ((0 : Int) ≤ (↑g : Int) ∧ (↑g : Int) < (↑l.n : Int)) ∧ ((Decidable.decide ((l.g (Int.toNat (↑g : Int))).shift = s.shift) && (l.g (Int.toNat (↑g : Int))).back
 == s.back) = Bool.true → Bool.true = L.among l s) ∧ ((Decidable.decide ((l.g (Int.toNat (↑g : Int))).shift = s.shift) && (l.g (Int.toNat (↑g : Int))).back == s.back) = Bool.false → Go.SE.InK Go.IntKind.i64 ((↑g : Int) + (1 : Int)) ∧ ∃ (g' : Nat), (↑g : Int) + (1 : Int) = (↑g' : Int) ∧ Go.SE.SV.ref [Go.SE.SV.int Go.IntKind.i64 s.shift, Go.SE.SV.bool s.back] (nat_lit 0) = Go.SE.SV.ref [Go.SE.SV.int
 Go.IntKind.i64 s.shift, Go.SE.SV.bool s.back] (nat_lit 0) ∧ (l.n = l.n ∧ ∀ (i : Nat), i < l.n → [Go.SE.SV.int Go.IntKind.i64 (l.g i).shift, Go.SE.SV.bool (l.g i).back] = [Go.SE.SV.int Go.IntKind.i64 (l.g i).shift, Go.SE.SV.bool (l.g i).back]) ∧ (g' ≤ l.n ∧ ∀ (j : Nat), j < g' → L.sameS (l.g j) s = Bool.false) ∧ l.n - g' < l.n - g)) ∧ (Decidable.decide ((↑g : Int) < (↑l.n : Int)) = Bool.false →
 Bool.false = L.among l s)) (by kernel_rfl) (by
    have hn : l.n ≤ 1000000 := hp
    refine ⟨⟨(0 : Nat), rfl, Nat.zero_le _, fun j hj => absurd hj (Nat.not_lt_zero _)⟩, fun g hg => ⟨fun hlt => ?_, fun hge => ?_⟩⟩
    · have hb : (g : Int) < (l.n : Int) := of_decide_eq_true hlt
      have e0 : ((g : Int)).toNat = g := by omega
      rw [e0]
      refine ⟨⟨by omega, hb⟩, fun h => ?_, fun h => ?_⟩
      · have h : L.sameS (l.g g) s = true := h
        exact (anyB_iff.2 ⟨g, by omega, h⟩).symm
      · have h : L.sameS (l.g g) s = false := h
        exact ⟨InK.of (by omega) (by omega), g + 1, by omega, rfl, ⟨rfl, fun _ _ => rfl⟩, ⟨by omega, fun j hj => by
          rcases Nat.lt_succ_iff_lt_or_eq.1 hj with h' | rfl
          · exact hg.2 j h'
          · exact h⟩, by omega⟩
    · have hb : ¬ (g : Int) < (l.n : Int) := of_decide_eq_false hge
      exact (anyB_no (fun i hi => hg.2 i (by omega))).symm)
theorem w_among1_ok : SpecOk Try.prog 23 w_among1_S := fnX Try.func23 (c := bodyOf Try.f23) (by kernel_rfl) mixed (fun args p r hs hp => by
  unfold w_among1_s at hs
  split at hs
  · cases hs; exact ⟨_, _, w_among1_vc _ _ hp.2, (.p (.sl hp.1) (.same _ .nil)), ⟨show SpecsL Try.prog _ from SpecsL.nil, rfl, ⟨show ItersL Try.prog _ from ItersL.nil, (TrsOk.none (fun _ => rfl))⟩⟩⟩
  · cases hs)
theorem w_among1_en : Enters Try.prog 23 := fun args w => by kernel_rfl
theorem w_among1_B : ∀ args p r, w_among1_s args = some (p, r) → ∃ b, r = .bool b := by
  intro args p r h
  unfold w_among1_s at h
  split at h
  · cases h; exact ⟨_, rfl⟩
  · cases h
def w_Congruent_p (p : (L.Sq L.Pt)) (q : (L.Sq L.Pt)) (r : (L.Sq L.Pt)) : Prop := p.n ≤ 9223372036854775807 ∧ q.n ≤ 9223372036854775807 ∧ r.n ≤ 9223372036854775807
def w_Congruent_r (p : (L.Sq L.Pt)) (q : (L.Sq L.Pt)) (r : (L.Sq L.Pt)) : SV := .bool true
def w_Congruent_s : List EV → Option (Prop × SV)
  | [.p (.sl 2 p_n p_g), .p (.sl 2 q_n q_g), .p (.sl 2 r_n r_g)] => some ((∀ i, i < p_n → p_g i = [.int .i64 ((ofPt (p_g i)).x), .int .i64 ((ofPt (p_g i)).y)]) ∧ (∀ i, i < q_n → q_g i = [.int .i64 ((ofPt (q_g i)).x), .int .i64 ((ofPt (q_g i)).y)]) ∧ (∀ i, i < r_n → r_g i = [.int .i64 ((ofPt (r_g i)).x), .int .i64 ((ofPt (r_g i)).y)]) ∧ w_Congruent_p (⟨p_n, fun i => ofPt (p_g i)⟩ : (L.Sq L.Pt)) (⟨q_n, fun i => ofPt (q_g i)⟩ : (L.Sq L.Pt)) (⟨r_n, fun i => ofPt (r_g i)⟩ : (L.Sq L.Pt)), w_Congruent_r (⟨p_n, fun i => ofPt (p_g i)⟩ : (L.Sq L.Pt)) (⟨q_n, fun i => ofPt (q_g i)⟩ : (L.Sq L.Pt)) (⟨r_n, fun i => ofPt (r_g i)⟩ : (L.Sq L.Pt)))
  | _ => none
abbrev w_Congruent_S : SE.Spec := (specO w_Congruent_s)
def w_Congruent_C : Cfg := { muts := [18, 21], frz := lookN [], specs := lookS [(9, w_awake_S), (22, p_Settings_S), (20, p_Inverse_S), (19, p_Compose_S), (23, w_among1_S)], loops := fun _ => none, iters := lookI [], rfs := lookR [], nils := lookM [] }
theorem w_Congruent_vc (p : (L.Sq L.Pt)) (q : (L.Sq L.Pt)) (r : (L.Sq L.Pt)) (hp : w_Congruent_p p q r) : vc Try.prog ({ w_Congruent_C with loops := lookL [(14, { T := Nat, keep := [7, 8, 10, 12, 14, 16], keepO := [], chg := fun i => [(17, .p (.int .i64 (i : Int)))], own := fun _ => [], inv := fun i => i ≤ L.conN p q, mu := fun i => L.conN p q - i }), (20, { T := Nat × Nat, keep := [7, 8, 10, 12, 14, 16, 17], keepO := [], tie := fun g => [(17, .int .i64 (g.1 : Int))], chg := fun g => [(20, .p (.int .i64 (g.2 : Int)))], own := fun _ => [], inv := fun g => g.1 < L.conN p q ∧ g.2 ≤ L.conN q r, mu := fun g => L.conN q r - g.2 })], rfs := lookR [] }) (bodyOf Try.f6) (st0 Try.f6 [.p (.sl 2 p.n (fun i => [.int .i64 ((p.g i).x), .int .i64 ((p.g i).y)])), .p (.sl 2 q.n (fun i => [.int .i64 ((q.g i).x), .int .i64 ((q.g i).y)])), .p (.sl 2 r.n (fun i => [.int .i64 ((r.g i).x), .int .i64 ((r.g i).y)]))]) (retFn Try.prog Try.f6 (w_Congruent_r p q r)) :=
  @Eq.mpr _ (True ∧ ((bif bif Decidable.decide ((30 : Int) < (↑p.n : Int)) then Bool.true else Decidable.decide ((30 : Int) < (↑q.n : Int)) then Bool.true else Decidable.decide ((30 : Int) < (↑r.n : Int))) = Bool.true → Bool.true = Bool.true) ∧ ((bif bif Decidable.decide ((30 : Int) < (↑p.n : Int)) then Bool.true else Decidable.decide ((30 : Int) < (↑q.n : Int)) then Bool.true else Decidable.decide ((30 : Int)
 < (↑r.n : Int))) = Bool.false → ((∀ (i : Nat), i < p.n → [Go.SE.SV.int Go.IntKind.i64 (p.g i).x, Go.SE.SV.int Go.IntKind.i64 (p.g i).y] = [Go.SE.SV.int Go.IntKind.i64 (p.g i).x, Go.SE.SV.int Go.IntKind.i64 (p.g i).y]) ∧ (∀ (i : Nat), i < q.n → [Go.SE.SV.int Go.IntKind.i64 (q.g i).x, Go.SE.SV.int Go.IntKind.i64 (q.g i).y] = [Go.SE.SV.int Go.IntKind.i64 (q.g i).x, Go.SE.SV.int Go.IntKind.i64 (q.g
 i).y]) ∧ p.n ≤ (1000000 : Nat) ∧ q.n ≤ (1000000 : Nat)) ∧ ((∀ (i : Nat), i < q.n → [Go.SE.SV.int Go.IntKind.i64 (q.g i).x, Go.SE.SV.int Go.IntKind.i64 (q.g i).y] = [Go.SE.SV.int Go.IntKind.i64 (q.g i).x, Go.SE.SV.int Go.IntKind.i64 (q.g i).y]) ∧ (∀ (i : Nat), i < r.n → [Go.SE.SV.int Go.IntKind.i64 (r.g i).x, Go.SE.SV.int Go.IntKind.i64 (r.g i).y] = [Go.SE.SV.int Go.IntKind.i64 (r.g i).x,
 Go.SE.SV.int Go.IntKind.i64 (r.g i).y]) ∧ q.n ≤ (1000000 : Nat) ∧ r.n ≤ (1000000 : Nat)) ∧ ((∀ (i : Nat), i < p.n → [Go.SE.SV.int Go.IntKind.i64 (p.g i).x, Go.SE.SV.int Go.IntKind.i64 (p.g i).y] = [Go.SE.SV.int Go.IntKind.i64 (p.g i).x, Go.SE.SV.int Go.IntKind.i64 (p.g i).y]) ∧ (∀ (i : Nat), i < r.n → [Go.SE.SV.int Go.IntKind.i64 (r.g i).x, Go.SE.SV.int Go.IntKind.i64 (r.g i).y] = [Go.SE.SV.int
 Go.IntKind.i64 (r.g i).x, Go.SE.SV.int Go.IntKind.i64 (r.g i).y]) ∧ p.n ≤ (1000000 : Nat) ∧ r.n ≤ (1000000 : Nat)) ∧ ((∀ (i : Nat), i < q.n → [Go.SE.SV.int Go.IntKind.i64 (q.g i).x, Go.SE.SV.int Go.IntKind.i64 (q.g i).y] = [Go.SE.SV.int Go.IntKind.i64 (q.g i).x, Go.SE.SV.int Go.IntKind.i64 (q.g i).y]) ∧ (∀ (i : Nat), i < p.n → [Go.SE.SV.int Go.IntKind.i64 (p.g i).x, Go.SE.SV.int Go.IntKind.i64
 (p.g i).y] = [Go.SE.SV.int Go.IntKind.i64 (p.g i).x, Go.SE.SV.int Go.IntKind.i64 (p.g i).y]) ∧ q.n ≤ (1000000 : Nat) ∧ p.n ≤ (1000000 : Nat)) ∧ ((bif bif bif !Decidable.decide (L.conE (L.Sq.mk p.n fun (i : Nat) ↦ p.g i) (L.Sq.mk q.n fun (i : Nat) ↦ q.g i) = (0 : Int)) then Bool.true else !Decidable.decide (L.conE (L.Sq.mk q.n fun (i : Nat) ↦ q.g i) (L.Sq.mk r.n fun (i : Nat) ↦ r.g i) = (0 : Int))
 then Bool.true else !Decidable.decide (L.conE (L.Sq.mk p.n fun (i : Nat) ↦ p.g i) (L.Sq.mk r.n fun (i : Nat) ↦ r.g i) = (0 : Int)) then Bool.true else !Decidable.decide (L.conE (L.Sq.mk q.n fun (i : Nat) ↦ q.g i) (L.Sq.mk p.n fun (i : Nat) ↦ p.g i) = (0 : Int))) = Bool.true → (bif Bool.true then bif Decidable.decide (L.conE (L.Sq.mk p.n fun (i : Nat) ↦ p.g i) (L.Sq.mk q.n fun (i : Nat) ↦ q.g i) =
 (1 : Int)) then Bool.true else Decidable.decide (L.conE (L.Sq.mk q.n fun (i : Nat) ↦ q.g i) (L.Sq.mk r.n fun (i : Nat) ↦ r.g i) = (1 : Int)) else Bool.false) = Bool.true) ∧ ((bif bif bif !Decidable.decide (L.conE (L.Sq.mk p.n fun (i : Nat) ↦ p.g i) (L.Sq.mk q.n fun (i : Nat) ↦ q.g i) = (0 : Int)) then Bool.true else !Decidable.decide (L.conE (L.Sq.mk q.n fun (i : Nat) ↦ q.g i) (L.Sq.mk r.n fun (i
 : Nat) ↦ r.g i) = (0 : Int)) then Bool.true else !Decidable.decide (L.conE (L.Sq.mk p.n fun (i : Nat) ↦ p.g i) (L.Sq.mk r.n fun (i : Nat) ↦ r.g i) = (0 : Int)) then Bool.true else !Decidable.decide (L.conE (L.Sq.mk q.n fun (i : Nat) ↦ q.g i) (L.Sq.mk p.n fun (i : Nat) ↦ p.g i) = (0 : Int))) = Bool.false → ((!!Decidable.decide ((↑(L.conN (L.Sq.mk p.n fun (i : Nat) ↦ p.g i) (L.Sq.mk q.n fun (i :
 Nat) ↦ q.g i)) : Int) = (↑(L.conN (L.Sq.mk q.n fun (i : Nat) ↦ q.g i) (L.Sq.mk p.n fun (i : Nat) ↦ p.g i)) : Int))) = Bool.true → Go.SE.InK Go.IntKind.i64 ((2 : Int) * (↑p.n : Int))) ∧ ((bif bif !Decidable.decide ((↑(L.conN (L.Sq.mk p.n fun (i : Nat) ↦ p.g i) (L.Sq.mk q.n fun (i : Nat) ↦ q.g i)) : Int) = (↑(L.conN (L.Sq.mk q.n fun (i : Nat) ↦ q.g i) (L.Sq.mk p.n fun (i : Nat) ↦ p.g i)) : Int))
 then Bool.true else Decidable.decide ((2 : Int) * (↑p.n : Int) < (↑(L.conN (L.Sq.mk p.n fun (i : Nat) ↦ p.g i) (L.Sq.mk q.n fun (i : Nat) ↦ q.g i)) : Int)) then Bool.true else bif !Decidable.decide ((↑q.n : Int) = (↑p.n : Int)) then Decidable.decide ((0 : Int) < (↑(L.conN (L.Sq.mk p.n fun (i : Nat) ↦ p.g i) (L.Sq.mk q.n fun (i : Nat) ↦ q.g i)) : Int)) else Bool.false) = Bool.true → Bool.false =
 Bool.true) ∧ ((bif bif !Decidable.decide ((↑(L.conN (L.Sq.mk p.n fun (i : Nat) ↦ p.g i) (L.Sq.mk q.n fun (i : Nat) ↦ q.g i)) : Int) = (↑(L.conN (L.Sq.mk q.n fun (i : Nat) ↦ q.g i) (L.Sq.mk p.n fun (i : Nat) ↦ p.g i)) : Int)) then Bool.true else Decidable.decide ((2 : Int) * (↑p.n : Int) < (↑(L.conN (L.Sq.mk p.n fun (i : Nat) ↦ p.g i) (L.Sq.mk q.n fun (i : Nat) ↦ q.g i)) : Int)) then Bool.true else
 bif !Decidable.decide ((↑q.n : Int) = (↑p.n : Int)) then Decidable.decide ((0 : Int) < (↑(L.conN (L.Sq.mk p.n fun (i : Nat) ↦ p.g i) (L.Sq.mk q.n fun (i : Nat) ↦ q.g i)) : Int)) else Bool.false) = Bool.false → (∃ (g : Nat), (0 : Int) = (↑g : Int) ∧ g ≤ L.conN p q) ∧ ∀ (g : Nat), g ≤ L.conN p q → (Decidable.decide ((↑g : Int) < (↑(L.conN (L.Sq.mk p.n fun (i : Nat) ↦ p.g i) (L.Sq.mk q.n fun (i :
 Nat) ↦ q.g i)) : Int)) = Bool.true → ((0 : Int) ≤ (↑g : Int) ∧ (↑g : Int) < (↑(L.conN (L.Sq.mk p.n fun (i : Nat) ↦ p.g i) (L.Sq.mk q.n fun (i : Nat) ↦ q.g i)) : Int)) ∧ True ∧ ((!!Decidable.decide (L.invE (L.conG (L.Sq.mk p.n fun (i : Nat) ↦ p.g i) (L.Sq.mk q.n fun (i : Nat) ↦ q.g i) (Int.toNat (↑g : Int))) (↑p.n : Int) = (0 : Int))) = Bool.true → (∀ (i : Nat), i < L.conN (L.Sq.mk q.n fun (i :
 Nat) ↦ q.g i) (L.Sq.mk p.n fun (i : Nat) ↦ p.g i) → [Go.SE.SV.int Go.IntKind.i64 (L.conG (L.Sq.mk q.n fun (i : Nat) ↦ q.g i) (L.Sq.mk p.n fun (i : Nat) ↦ p.g i) i).shift, Go.SE.SV.bool (L.conG (L.Sq.mk q.n fun (i : Nat) ↦ q.g i) (L.Sq.mk p.n fun (i : Nat) ↦ p.g i) i).back] = [Go.SE.SV.int Go.IntKind.i64 (L.conG (L.Sq.mk q.n fun (i : Nat) ↦ q.g i) (L.Sq.mk p.n fun (i : Nat) ↦ p.g i) i).shift,
 Go.SE.SV.bool (L.conG (L.Sq.mk q.n fun (i : Nat) ↦ q.g i) (L.Sq.mk p.n fun (i : Nat) ↦ p.g i) i).back]) ∧ L.conN (L.Sq.mk q.n fun (i : Nat) ↦ q.g i) (L.Sq.mk p.n fun (i : Nat) ↦ p.g i) ≤ (1000000 : Nat)) ∧ ((bif !Decidable.decide (L.invE (L.conG (L.Sq.mk p.n fun (i : Nat) ↦ p.g i) (L.Sq.mk q.n fun (i : Nat) ↦ q.g i) (Int.toNat (↑g : Int))) (↑p.n : Int) = (0 : Int)) then Bool.true else !L.among
 (L.Sq.mk (L.conN (L.Sq.mk q.n fun (i : Nat) ↦ q.g i) (L.Sq.mk p.n fun (i : Nat) ↦ p.g i)) fun (i : Nat) ↦ L.conG (L.Sq.mk q.n fun (i : Nat) ↦ q.g i) (L.Sq.mk p.n fun (i : Nat) ↦ p.g i) i) (L.inv (L.conG (L.Sq.mk p.n fun (i : Nat) ↦ p.g i) (L.Sq.mk q.n fun (i : Nat) ↦ q.g i) (Int.toNat (↑g : Int))) (↑p.n : Int))) = Bool.true → Bool.false = Bool.true) ∧ ((bif !Decidable.decide (L.invE (L.conG
 (L.Sq.mk p.n fun (i : Nat) ↦ p.g i) (L.Sq.mk q.n fun (i : Nat) ↦ q.g i) (Int.toNat (↑g : Int))) (↑p.n : Int) = (0 : Int)) then Bool.true else !L.among (L.Sq.mk (L.conN (L.Sq.mk q.n fun (i : Nat) ↦ q.g i) (L.Sq.mk p.n fun (i : Nat) ↦ p.g i)) fun (i : Nat) ↦ L.conG (L.Sq.mk q.n fun (i : Nat) ↦ q.g i) (L.Sq.mk p.n fun (i : Nat) ↦ p.g i) i) (L.inv (L.conG (L.Sq.mk p.n fun (i : Nat) ↦ p.g i) (L.Sq.mk
 q.n fun (i : Nat) ↦ q.g i) (Int.toNat (↑g : Int))) (↑p.n : Int))) = Bool.false → (∃ (g_1 : Nat × Nat), (0 : Int) = (↑g_1.2 : Int) ∧ (↑g : Int) = (↑g_1.1 : Int) ∧ g_1.1 < L.conN p q ∧ g_1.2 ≤ L.conN q r) ∧ ∀ (g_1 : Nat × Nat), (↑g : Int) = (↑g_1.1 : Int) ∧ g_1.1 < L.conN p q ∧ g_1.2 ≤ L.conN q r → (Decidable.decide ((↑g_1.2 : Int) < (↑(L.conN (L.Sq.mk q.n fun (i : Nat) ↦ q.g i) (L.Sq.mk r.n fun (i
 : Nat) ↦ r.g i)) : Int)) = Bool.true → ((0 : Int) ≤ (↑g : Int) ∧ (↑g : Int) < (↑(L.conN (L.Sq.mk p.n fun (i : Nat) ↦ p.g i) (L.Sq.mk q.n fun (i : Nat) ↦ q.g i)) : Int)) ∧ ((0 : Int) ≤ (↑g_1.2 : Int) ∧ (↑g_1.2 : Int) < (↑(L.conN (L.Sq.mk q.n fun (i : Nat) ↦ q.g i) (L.Sq.mk r.n fun (i : Nat) ↦ r.g i)) : Int)) ∧ True ∧ ((!!Decidable.decide (L.compE (L.conG (L.Sq.mk p.n fun (i : Nat) ↦ p.g i) (L.Sq.mk
 q.n fun (i : Nat) ↦ q.g i) (Int.toNat (↑g : Int))) (L.conG (L.Sq.mk q.n fun (i : Nat) ↦ q.g i) (L.Sq.mk r.n fun (i : Nat) ↦ r.g i) (Int.toNat (↑g_1.2 : Int))) (↑p.n : Int) = (0 : Int))) = Bool.true → (∀ (i : Nat), i < L.conN (L.Sq.mk p.n fun (i : Nat) ↦ p.g i) (L.Sq.mk r.n fun (i : Nat) ↦ r.g i) → [Go.SE.SV.int Go.IntKind.i64 (L.conG (L.Sq.mk p.n fun (i : Nat) ↦ p.g i) (L.Sq.mk r.n fun (i : Nat) ↦
 r.g i) i).shift, Go.SE.SV.bool (L.conG (L.Sq.mk p.n fun (i : Nat) ↦ p.g i) (L.Sq.mk r.n fun (i : Nat) ↦ r.g i) i).back] = [Go.SE.SV.int Go.IntKind.i64 (L.conG (L.Sq.mk p.n fun (i : Nat) ↦ p.g i) (L.Sq.mk r.n fun (i : Nat) ↦ r.g i) i).shift, Go.SE.SV.bool (L.conG (L.Sq.mk p.n fun (i : Nat) ↦ p.g i) (L.Sq.mk r.n fun (i : Nat) ↦ r.g i) i).back]) ∧ L.conN (L.Sq.mk p.n fun (i : Nat) ↦ p.g i) (L.Sq.mk
 r.n fun (i : Nat) ↦ r.g i) ≤ (1000000 : Nat)) ∧ ((bif !Decidable.decide (L.compE (L.conG (L.Sq.mk p.n fun (i : Nat) ↦ p.g i) (L.Sq.mk q.n fun (i : Nat) ↦ q.g i) (Int.toNat (↑g : Int))) (L.conG (L.Sq.mk q.n fun (i : Nat) ↦ q.g i) (L.Sq.mk r.n fun (i : Nat) ↦ r.g i) (Int.toNat (↑g_1.2 : Int))) (↑p.n : Int) = (0 : Int)) then Bool.true else !L.among (L.Sq.mk (L.conN (L.Sq.mk p.n fun (i : Nat) ↦ p.g i)
 (L.Sq.mk r.n fun (i : Nat) ↦ r.g i)) fun (i : Nat) ↦ L.conG (L.Sq.mk p.n fun (i : Nat) ↦ p.g i) (L.Sq.mk r.n fun (i : Nat) ↦ r.g i) i) (L.comp (L.conG (L.Sq.mk p.n fun (i : Nat) ↦ p.g i) (L.Sq.mk q.n fun (i : Nat) ↦ q.g i) (Int.toNat (↑g : Int))) (L.conG (L.Sq.mk q.n fun (i : Nat) ↦ q.g i) (L.Sq.mk r.n fun (i : Nat) ↦ r.g i) (Int.toNat (↑g_1.2 : Int))) (↑p.n : Int))) = Bool.true → Bool.false =
 Bool.true) ∧ ((bif !Decidable.decide (L.compE (L.conG (L.Sq.mk p.n fun (i : Nat) ↦ p.g i) (L.Sq.mk q.n fun (i : Nat) ↦ q.g i) (Int.toNat (↑g : Int))) (L.conG (L.Sq.mk q.n fun (i : Nat) ↦ q.g i) (L.Sq.mk r.n fun (i : Nat) ↦ r.g i) (Int.toNat (↑g_1.2 : Int))) (↑p.n : Int) = (0 : Int)) then Bool.true else !L.among (L.Sq.mk (L.conN (L.Sq.mk p.n fun (i : Nat) ↦ p.g i) (L.Sq.mk r.n fun (i : Nat) ↦ r.g
 i)) fun (i : Nat) ↦ L.conG (L.Sq.mk p.n fun (i : Nat) ↦ p.g i) (L.Sq.mk r.n fun (i : Nat) ↦ r.g i) i) (L.comp (L.conG (L.Sq.mk p.n fun (i : Nat) ↦ p.g i) (L.Sq.mk q.n fun (i : Nat) ↦ q.g i) (Int.toNat (↑g : Int))) (L.conG (L.Sq.mk q.n fun (i : Nat) ↦ q.g i) (L.Sq.mk r.n fun (i : Nat) ↦ r.g i) (Int.toNat (↑g_1.2 : Int))) (↑p.n : Int))) = Bool.false → Go.SE.InK Go.IntKind.i64 ((↑g_1.2 : Int) + (1 :
 Int)) ∧ ∃ (g' : Nat × Nat), (↑g_1.2 : Int) + (1 : Int) = (↑g'.2 : Int) ∧ (↑g : Int) = (↑g : Int) ∧ (↑p.n : Int) = (↑p.n : Int) ∧ (L.conN (L.Sq.mk q.n fun (i : Nat) ↦ q.g i) (L.Sq.mk p.n fun (i : Nat) ↦ p.g i) = L.conN (L.Sq.mk q.n fun (i : Nat) ↦ q.g i) (L.Sq.mk p.n fun (i : Nat) ↦ p.g i) ∧ ∀ (i : Nat), i < L.conN (L.Sq.mk q.n fun (i : Nat) ↦ q.g i) (L.Sq.mk p.n fun (i : Nat) ↦ p.g i) →
 [Go.SE.SV.int Go.IntKind.i64 (L.conG (L.Sq.mk q.n fun (i : Nat) ↦ q.g i) (L.Sq.mk p.n fun (i : Nat) ↦ p.g i) i).shift, Go.SE.SV.bool (L.conG (L.Sq.mk q.n fun (i : Nat) ↦ q.g i) (L.Sq.mk p.n fun (i : Nat) ↦ p.g i) i).back] = [Go.SE.SV.int Go.IntKind.i64 (L.conG (L.Sq.mk q.n fun (i : Nat) ↦ q.g i) (L.Sq.mk p.n fun (i : Nat) ↦ p.g i) i).shift, Go.SE.SV.bool (L.conG (L.Sq.mk q.n fun (i : Nat) ↦ q.g i)
 (L.Sq.mk p.n fun (i : Nat) ↦ p.g i) i).back]) ∧ (L.conN (L.Sq.mk p.n fun (i : Nat) ↦ p.g i) (L.Sq.mk r.n fun (i : Nat) ↦ r.g i) = L.conN (L.Sq.mk p.n fun (i : Nat) ↦ p.g i) (L.Sq.mk r.n fun (i : Nat) ↦ r.g i) ∧ ∀ (i : Nat), i < L.conN (L.Sq.mk p.n fun (i : Nat) ↦ p.g i) (L.Sq.mk r.n fun (i : Nat) ↦ r.g i) → [Go.SE.SV.int Go.IntKind.i64 (L.conG (L.Sq.mk p.n fun (i : Nat) ↦ p.g i) (L.Sq.mk r.n fun
 (i : Nat) ↦ r.g i) i).shift, Go.SE.SV.bool (L.conG (L.Sq.mk p.n fun (i : Nat) ↦ p.g i) (L.Sq.mk r.n fun (i : Nat) ↦ r.g i) i).back] = [Go.SE.SV.int Go.IntKind.i64 (L.conG (L.Sq.mk p.n fun (i : Nat) ↦ p.g i) (L.Sq.mk r.n fun (i : Nat) ↦ r.g i) i).shift, Go.SE.SV.bool (L.conG (L.Sq.mk p.n fun (i : Nat) ↦ p.g i) (L.Sq.mk r.n fun (i : Nat) ↦ r.g i) i).back]) ∧ (L.conN (L.Sq.mk q.n fun (i : Nat) ↦ q.g
 i) (L.Sq.mk r.n fun (i : Nat) ↦ r.g i) = L.conN (L.Sq.mk q.n fun (i : Nat) ↦ q.g i) (L.Sq.mk r.n fun (i : Nat) ↦ r.g i) ∧ ∀ (i : Nat), i < L.conN (L.Sq.mk q.n fun (i : Nat) ↦ q.g i) (L.Sq.mk r.n fun (i : Nat) ↦ r.g i) → [Go.SE.SV.int Go.IntKind.i64 (L.conG (L.Sq.mk q.n fun (i : Nat) ↦ q.g i) (L.Sq.mk r.n fun (i : Nat) ↦ r.g i) i).shift, Go.SE.SV.bool (L.conG (L.Sq.mk q.n fun (i : Nat) ↦ q.g i)
 (L.Sq.mk r.n fun (i : Nat) ↦ r.g i) i).back] = [Go.SE.SV.int Go.IntKind.i64 (L.conG (L.Sq.mk q.n fun (i : Nat) ↦ q.g i) (L.Sq.mk r.n fun (i : Nat) ↦ r.g i) i).shift, Go.SE.SV.bool (L.conG (L.Sq.mk q.n fun (i : Nat) ↦ q.g i) (L.Sq.mk r.n fun (i : Nat) ↦ r.g i) i).back]) ∧ (L.conN (L.Sq.mk p.n fun (i : Nat) ↦ p.g i) (L.Sq.mk q.n fun (i : Nat) ↦ q.g i) = L.conN (L.Sq.mk p.n fun (i : Nat) ↦ p.g i)
 (L.Sq.mk q.n fun (i : Nat) ↦ q.g i) ∧ ∀ (i : Nat), i < L.conN (L.Sq.mk p.n fun (i : Nat) ↦ p.g i) (L.Sq.mk q.n fun (i : Nat) ↦ q.g i) → [Go.SE.SV.int Go.IntKind.i64 (L.conG (L.Sq.mk p.n fun (i : Nat) ↦ p.g i) (L.Sq.mk q.n fun (i : Nat) ↦ q.g i) i).shift, Go.SE.SV.bool (L.conG (L.Sq.mk p.n fun (i : Nat) ↦ p.g i) (L.Sq.mk q.n fun (i : Nat) ↦ q.g i) i).back] = [Go.SE.SV.int Go.IntKind.i64 (L.conG
 (L.Sq.mk p.n fun (i : Nat) ↦ p.g i) (L.Sq.mk q.n fun (i : Nat) ↦ q.g i) i).shift, Go.SE.SV.bool (L.conG (L.Sq.mk p.n fun (i : Nat) ↦ p.g i) (L.Sq.mk q.n fun (i : Nat) ↦ q.g i) i).back]) ∧ Bool.true = Bool.true ∧ ((↑g : Int) = (↑g'.1 : Int) ∧ g'.1 < L.conN p q ∧ g'.2 ≤ L.conN q r) ∧ L.conN q r - g'.2 < L.conN q r - g_1.2)) ∧ (Decidable.decide ((↑g_1.2 : Int) < (↑(L.conN (L.Sq.mk q.n fun (i : Nat) ↦
 q.g i) (L.Sq.mk r.n fun (i : Nat) ↦ r.g i)) : Int)) = Bool.false → Go.SE.InK Go.IntKind.i64 ((↑g : Int) + (1 : Int)) ∧ ∃ (g' : Nat), (↑g : Int) + (1 : Int) = (↑g' : Int) ∧ (↑p.n : Int) = (↑p.n : Int) ∧ (L.conN (L.Sq.mk q.n fun (i : Nat) ↦ q.g i) (L.Sq.mk p.n fun (i : Nat) ↦ p.g i) = L.conN (L.Sq.mk q.n fun (i : Nat) ↦ q.g i) (L.Sq.mk p.n fun (i : Nat) ↦ p.g i) ∧ ∀ (i : Nat), i < L.conN (L.Sq.mk
 q.n fun (i : Nat) ↦ q.g i) (L.Sq.mk p.n fun (i : Nat) ↦ p.g i) → [Go.SE.SV.int Go.IntKind.i64 (L.conG (L.Sq.mk q.n fun (i : Nat) ↦ q.g i) (L.Sq.mk p.n fun (i : Nat) ↦ p.g i) i).shift, Go.SE.SV.bool (L.conG (L.Sq.mk q.n fun (i : Nat) ↦ q.g i) (L.Sq.mk p.n fun (i : Nat) ↦ p.g i) i).back] = [Go.SE.SV.int Go.IntKind.i64 (L.conG (L.Sq.mk q.n fun (i : Nat) ↦ q.g i) (L.Sq.mk p.n fun (i : Nat) ↦ p.g i)
 i).shift, Go.SE.SV.bool (L.conG (L.Sq.mk q.n fun (i : Nat) ↦ q.g i) (L.Sq.mk p.n fun (i : Nat) ↦ p.g i) i).back]) ∧ (L.conN (L.Sq.mk p.n fun (i : Nat) ↦ p.g i) (L.Sq.mk r.n fun (i : Nat) ↦ r.g i) = L.conN (L.Sq.mk p.n fun (i : Nat) ↦ p.g i) (L.Sq.mk r.n fun (i : Nat) ↦ r.g i) ∧ ∀ (i : Nat), i < L.conN (L.Sq.mk p.n fun (i : Nat) ↦ p.g i) (L.Sq.mk r.n fun (i : Nat) ↦ r.g i) → [Go.SE.SV.int
 Go.IntKind.i64 (L.conG (L.Sq.mk p.n fun (i : Nat) ↦ p.g i) (L.Sq.mk r.n fun (i : Nat) ↦ r.g i) i).shift, Go.SE.SV.bool (L.conG (L.Sq.mk p.n fun (i : Nat) ↦ p.g i) (L.Sq.mk r.n fun (i : Nat) ↦ r.g i) i).back] = [Go.SE.SV.int Go.IntKind.i64 (L.conG (L.Sq.mk p.n fun (i : Nat) ↦ p.g i) (L.Sq.mk r.n fun (i : Nat) ↦ r.g i) i).shift, Go.SE.SV.bool (L.conG (L.Sq.mk p.n fun (i : Nat) ↦ p.g i) (L.Sq.mk r.n
 fun (i : Nat) ↦ r.g i) i).back]) ∧ (L.conN (L.Sq.mk q.n fun (i : Nat) ↦ q.g i) (L.Sq.mk r.n fun (i : Nat) ↦ r.g i) = L.conN (L.Sq.mk q.n fun (i : Nat) ↦ q.g i) (L.Sq.mk r.n fun (i : Nat) ↦ r.g i) ∧ ∀ (i : Nat), i < L.conN (L.Sq.mk q.n fun (i : Nat) ↦ q.g i) (L.Sq.mk r.n fun (i : Nat) ↦ r.g i) → [Go.SE.SV.int Go.IntKind.i64 (L.conG (L.Sq.mk q.n fun (i : Nat) ↦ q.g i) (L.Sq.mk r.n fun (i : Nat) ↦
 r.g i) i).shift, Go.SE.SV.bool (L.conG (L.Sq.mk q.n fun (i : Nat) ↦ q.g i) (L.Sq.mk r.n fun (i : Nat) ↦ r.g i) i).back] = [Go.SE.SV.int Go.IntKind.i64 (L.conG (L.Sq.mk q.n fun (i : Nat) ↦ q.g i) (L.Sq.mk r.n fun (i : Nat) ↦ r.g i) i).shift, Go.SE.SV.bool (L.conG (L.Sq.mk q.n fun (i : Nat) ↦ q.g i) (L.Sq.mk r.n fun (i : Nat) ↦ r.g i) i).back]) ∧ (L.conN (L.Sq.mk p.n fun (i : Nat) ↦ p.g i) (L.Sq.mk
 q.n fun (i : Nat) ↦ q.g i) = L.conN (L.Sq.mk p.n fun (i : Nat) ↦ p.g i) (L.Sq.mk q.n fun (i : Nat) ↦ q.g i) ∧ ∀ (i : Nat), i < L.conN (L.Sq.mk p.n fun (i : Nat) ↦ p.g i) (L.Sq.mk q.n fun (i : Nat) ↦ q.g i) → [Go.SE.SV.int Go.IntKind.i64 (L.conG (L.Sq.mk p.n fun (i : Nat) ↦ p.g i) (L.Sq.mk q.n fun (i : Nat) ↦ q.g i) i).shift, Go.SE.SV.bool (L.conG (L.Sq.mk p.n fun (i : Nat) ↦ p.g i) (L.Sq.mk q.n
 fun (i : Nat) ↦ q.g i) i).back] = [Go.SE.SV.int Go.IntKind.i64 (L.conG (L.Sq.mk p.n fun (i : Nat) ↦ p.g i) (L.Sq.mk q.n fun (i : Nat) ↦ q.g i) i).shift, Go.SE.SV.bool (L.conG (L.Sq.mk p.n fun (i : Nat) ↦ p.g i) (L.Sq.mk q.n fun (i : Nat) ↦ q.g i) i).back]) ∧ Bool.true = Bool.true ∧ g' ≤ L.conN p q ∧ L.conN p q - g' < L.conN p q - g))) ∧ (Decidable.decide ((↑g : Int) < (↑(L.conN (L.Sq.mk p.n fun (i
 : Nat) ↦ p.g i) (L.Sq.mk q.n fun (i : Nat) ↦ q.g i)) : Int)) = Bool.false → Bool.true = Bool.true))))) (by kernel_rfl) (by
    have _ := hp
    refine ⟨trivial, fun _ => rfl, fun hl => ?_⟩
    simp only [bor, Bool.or_eq_false_iff, decide_eq_false_iff_not] at hl
    obtain ⟨⟨l1, l2⟩, l3⟩ := hl
    refine ⟨⟨fun _ _ => rfl, fun _ _ => rfl, by omega, by omega⟩, ⟨fun _ _ => rfl, fun _ _ => rfl, by omega, by omega⟩, ⟨fun _ _ => rfl, fun _ _ => rfl, by omega, by omega⟩, ⟨fun _ _ => rfl, fun _ _ => rfl, by omega, by omega⟩, fun he => ?_, fun he => ?_⟩
    · show (bif decide (L.conE p q = 1) then true else decide (L.conE q r = 1)) = true
      rw [bor, Bool.or_eq_true, decide_eq_true_eq, decide_eq_true_eq]
      rcases conE_cases p q with a | ⟨a, vp, vq⟩
      · exact .inl a
      rcases conE_cases q r with b | ⟨b, _, vr⟩
      · exact .inr b
      rw [a, b, conE_zero vp vr, conE_zero vq vp] at he
      exact absurd he (by decide)
    have he : (bif bif bif !decide (L.conE p q = 0) then true else !decide (L.conE q r = 0) then true else !decide (L.conE p r = 0) then true else !decide (L.conE q p = 0)) = false := he
    simp only [bor, Bool.or_eq_false_iff, Bool.not_eq_false', decide_eq_true_eq] at he
    obtain ⟨⟨⟨e1, e2⟩, _⟩, _⟩ := he
    obtain ⟨vp, vq⟩ : L.validOutline p = true ∧ L.validOutline q = true := by
      rcases conE_cases p q with a | ⟨_, b⟩
      · omega
      · exact b
    have vr : L.validOutline r = true := by
      rcases conE_cases q r with a | ⟨_, _, b⟩
      · omega
      · exact b
    have hN := con_sym vp vq
    have hle := con_le2 p q
    have hlr := con_le2 p r
    have hlq := con_le2 q r
    refine ⟨fun _ => InK.of (by omega) (by omega), fun hb => ?_, fun _ => ⟨⟨(0 : Nat), rfl, Nat.zero_le _⟩, fun g hg => ⟨fun hlt => ?_, fun _ => rfl⟩⟩⟩
    · exfalso
      have hb : (bif bif !decide ((L.conN p q : Int) = (L.conN q p : Int)) then true else decide (2 * (p.n : Int) < (L.conN p q : Int)) then true else bif !decide ((q.n : Int) = (p.n : Int)) then decide (0 < (L.conN p q : Int)) else false) = true := hb
      simp only [bor, band, Bool.or_eq_true, Bool.and_eq_true, Bool.not_eq_true', decide_eq_false_iff_not, decide_eq_true_eq] at hb
      rcases hb with (hb | hb) | ⟨hb, hc⟩
      · omega
      · omega
      · have := conN_ne (p := p) (q := q) (by omega)
        omega
    have hlt : (g : Int) < (L.conN p q : Int) := of_decide_eq_true hlt
    have e0 : ((g : Int)).toNat = g := Int.toNat_natCast g
    rw [e0]
    obtain ⟨hn, v1, c1⟩ := con_in (show g < L.conN p q by omega)
    have hi := inv_ok v1
    have ha := con_of vq vp hn.symm (hn ▸ hi.2.1) (con_inv vp vq hn v1 c1)
    refine ⟨⟨by omega, hlt⟩, trivial, fun _ => ⟨fun _ _ => rfl, by show L.conN q p ≤ 1000000; omega⟩, fun h => ?_, fun _ => ⟨⟨(g, 0), rfl, rfl, by omega, Nat.zero_le _⟩, ?_⟩⟩
    · rw [hi.1] at h
      have h : (bif !decide ((0 : Int) = 0) then true else !L.among ⟨L.conN q p, fun i => L.conG q p i⟩ (L.inv (L.conG p q g) p.n)) = true := h
      rw [ha] at h
      exact absurd h (by decide)
    rintro ⟨i, j⟩ ⟨t1, hi', hj⟩
    have t1 : (g : Int) = (i : Int) := t1
    obtain rfl : g = i := by omega
    have hj : j ≤ L.conN q r := hj
    dsimp only
    refine ⟨fun hlt2 => ?_, fun _ => ⟨InK.of (by omega) (by omega), g + 1, by omega, rfl, ⟨rfl, fun _ _ => rfl⟩, ⟨rfl, fun _ _ => rfl⟩, ⟨rfl, fun _ _ => rfl⟩, ⟨rfl, fun _ _ => rfl⟩, rfl, by omega, by omega⟩⟩
    have hlt2 : (j : Int) < (L.conN q r : Int) := of_decide_eq_true hlt2
    have e1 : ((j : Int)).toNat = j := Int.toNat_natCast j
    rw [e1]
    obtain ⟨hm, v2, c2⟩ := con_in (show j < L.conN q r by omega)
    rw [← hn] at v2
    have hc := comp_ok v1 v2
    have ha2 := con_of vp vr (hn.trans hm) hc.2.2 (con_comp vp vq vr hn hm v1 v2 c1 c2)
    refine ⟨⟨by omega, hlt⟩, ⟨by omega, hlt2⟩, trivial, fun _ => ⟨fun _ _ => rfl, by show L.conN p r ≤ 1000000; omega⟩, fun h => ?_, fun _ => ⟨InK.of (by omega) (by omega), (g, j + 1), by show (j : Int) + 1 = ((j + 1 : Nat) : Int); omega, rfl, rfl, ⟨rfl, fun _ _ => rfl⟩, ⟨rfl, fun _ _ => rfl⟩, ⟨rfl, fun _ _ => rfl⟩, ⟨rfl, fun _ _ => rfl⟩, rfl, ⟨rfl, hi', by show j + 1 ≤ L.conN q r; omega⟩, by show L.conN q r - (j + 1) < L.conN q r - j; omega⟩⟩
    rw [hc.1] at h
    have h : (bif !decide ((0 : Int) = 0) then true else !L.among ⟨L.conN p r, fun i => L.conG p r i⟩ (L.comp (L.conG p q g) (L.conG q r j) p.n)) = true := h
    rw [ha2] at h
    exact absurd h (by decide))
theorem w_Congruent_ok : SpecOk Try.prog 6 w_Congruent_S := fnX Try.func6 (c := bodyOf Try.f6) (by kernel_rfl) mixed (fun args p r hs hp => by
  unfold w_Congruent_s at hs
  split at hs
  · cases hs; exact ⟨_, _, w_Congruent_vc _ _ _ hp.2.2.2, (.p (.sl hp.1) (.p (.sl hp.2.1) (.p (.sl hp.2.2.1) .nil))), ⟨show SpecsL Try.prog _ from (SpecsL.cons w_awake_ok w_awake_en (SpecsL.cons p_Settings_ok p_Settings_en (SpecsL.cons p_Inverse_ok p_Inverse_en (SpecsL.cons p_Compose_ok p_Compose_en (SpecsL.cons w_among1_ok w_among1_en SpecsL.nil))))), rfl, ⟨show ItersL Try.prog _ from ItersL.nil, (TrsOk.none (fun _ => rfl))⟩⟩⟩
  · cases hs)
theorem w_Congruent_en : Enters Try.prog 6 := fun args w => by kernel_rfl
theorem w_Congruent_B : ∀ args p r, w_Congruent_s args = some (p, r) → ∃ b, r = .bool b := by
  intro args p r h
  unfold w_Congruent_s at h
  split at h
  · cases h; exact ⟨_, rfl⟩
  · cases h
end Go.Proofs.Ytkklpamllfkbaaa
