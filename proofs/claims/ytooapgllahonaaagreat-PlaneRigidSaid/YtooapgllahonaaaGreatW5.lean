/- A symbolic walk over the model, and what it shows of functions of the program: parts of the proof that the text of the row joins. -/
import Derived.Test.YtooapgllahonaaaGreatW4
import Derived.Test.YtooapgllahonaaaGreatE3
import Derived.KernelRfl

namespace Go.Proofs.YtooapgllahonaaaGreat
open Go.SE Go.RowKit
set_option maxRecDepth 100000
set_option maxHeartbeats 4000000
set_option linter.unusedVariables false
attribute [local irreducible] Go.SE.vc

theorem first_less {l : L.Sq L.Pt} (hv : L.validOutline l = true) {k : Nat} (h0 : 0 < k) (hk : k < l.n) : L.cmpPt (l.g 0) (l.g k) < 0 := by
  unfold L.validOutline at hv
  rw [Bool.and_eq_true, Bool.and_eq_true] at hv
  have h := allB_iff.1 hv.2.1 k hk
  unfold L.corner at h
  cases hc : decide (L.cross (l.g (L.prev l.n k)) (l.g k) (l.g (L.next l.n k)) = 0) with
  | true => rw [hc] at h; cases h
  | false =>
    rw [hc, cond_false, decide_eq_true (show 0 < (k : Int) by omega), cond_true] at h
    cases hd : decide (0 ≤ L.cmpPt (l.g 0) (l.g k)) with
    | true => rw [hd] at h; cases h
    | false => have := of_decide_eq_false hd; omega
theorem uniq {r l : L.Sq L.Pt} (hn : r.n = l.n) (hr : L.validOutline r = true) (hl : L.validOutline l = true) {C : Int} (h : ∀ a, L.cy r a = L.cy l (C + a)) : C % (l.n : Int) = 0 := by
  obtain ⟨n3, _, _, _⟩ := validOutline_of hl
  have hp : 0 < l.n := by omega
  refine Decidable.byContradiction fun hC => ?_
  have c0 := Int.emod_nonneg C (show (l.n : Int) ≠ 0 by omega)
  have c1 := Int.emod_lt_of_pos C (show (0 : Int) < (l.n : Int) by omega)
  have e1 : r.g 0 = l.g (C % (l.n : Int)).toNat := by
    have := h 0
    rw [show (0 : Int) = ((0 : Nat) : Int) from rfl, cy_nat (l := r) (k := 0) (by omega)] at this
    rw [this, ← cy_nat (l := l) (k := (C % (l.n : Int)).toNat) (by omega), Int.toNat_of_nonneg c0]
    exact cy_mod (l := l) hp (by rw [Int.emod_emod_of_dvd _ (Int.dvd_refl _)]; congr 1; omega)
  have e2 : l.g 0 = r.g ((l.n : Int) - C % (l.n : Int)).toNat := by
    have := h ((l.n : Int) - C % (l.n : Int))
    rw [← cy_nat (l := r) (k := ((l.n : Int) - C % (l.n : Int)).toNat) (by omega), Int.toNat_of_nonneg (by omega), this, ← cy_nat (l := l) (k := 0) hp]
    refine (cy_mod (l := l) hp ?_).symm
    have hd := Int.emod_add_mul_ediv C (l.n : Int)
    have : C + ((l.n : Int) - C % (l.n : Int)) = 0 + (l.n : Int) * (C / (l.n : Int) + 1) := by rw [Int.mul_add]; omega
    rw [this, Int.add_mul_emod_self_left]; rfl
  have f1 := first_less hr (k := ((l.n : Int) - C % (l.n : Int)).toNat) (by omega) (by omega)
  have f2 := first_less hl (k := (C % (l.n : Int)).toNat) (by omega) (by omega)
  rw [← e1] at f2
  rw [← e2] at f1
  rw [cmpPt_lt] at f1 f2
  omega
theorem uniq_g {r l : L.Sq L.Pt} (hn : r.n = l.n) (hr : L.validOutline r = true) (hl : L.validOutline l = true) {C : Int} (h : ∀ a, L.cy r a = L.cy l (C + a)) : (∀ a, L.cy r a = L.cy l a) ∧ ∀ k, k < l.n → r.g k = l.g k := by
  obtain ⟨n3, _, _, _⟩ := validOutline_of hl
  have hC := uniq hn hr hl h
  have h1 : ∀ a, L.cy r a = L.cy l a := fun a => by
    rw [h a]
    exact cy_mod (l := l) (by omega) (by rw [Int.add_emod, hC, Int.zero_add, Int.emod_emod_of_dvd _ (Int.dvd_refl _)])
  refine ⟨h1, fun k hk => ?_⟩
  have := h1 (k : Int)
  rwa [cy_nat (l := r) (by omega), cy_nat hk] at this
theorem sameP_of {a b : L.Sq L.Pt} (hn : a.n = b.n) (h : ∀ k, k < b.n → a.g k = b.g k) : L.sameP a b = true := by
  unfold L.sameP
  rw [hn, decide_eq_true rfl]
  exact allB_iff.2 fun i hi => by
    have := h i hi
    show L.same (a.g i) (b.g i) = true
    rw [this]; exact same_refl _
theorem turnN_add (p q : L.Pt) : ∀ k, L.turnN ⟨p.x + q.x, p.y + q.y⟩ k = ⟨(L.turnN p k).x + (L.turnN q k).x, (L.turnN p k).y + (L.turnN q k).y⟩
  | 0 => rfl
  | k + 1 => by
    show (⟨-(L.turnN ⟨p.x + q.x, p.y + q.y⟩ k).y, (L.turnN ⟨p.x + q.x, p.y + q.y⟩ k).x⟩ : L.Pt) = ⟨-(L.turnN p k).y + -(L.turnN q k).y, (L.turnN p k).x + (L.turnN q k).x⟩
    rw [turnN_add p q k]
    exact pt_ext (by show -((L.turnN p k).y + (L.turnN q k).y) = -(L.turnN p k).y + -(L.turnN q k).y; omega) rfl
theorem turned_add (m : L.Motion) (p q : L.Pt) : L.turned m ⟨p.x + q.x, p.y + q.y⟩ = ⟨(L.turned m p).x + (L.turned m q).x, (L.turned m p).y + (L.turned m q).y⟩ := by
  unfold L.turned L.mir
  cases m.mirror with
  | false => exact turnN_add p q _
  | true =>
    show L.turnN ⟨-(p.x + q.x), p.y + q.y⟩ _ = _
    rw [Int.neg_add]
    exact turnN_add ⟨-p.x, p.y⟩ ⟨-q.x, q.y⟩ _
theorem cases4 {t : Int} (h0 : 0 ≤ t) (h3 : t ≤ 3) : t = 0 ∨ t = 1 ∨ t = 2 ∨ t = 3 := by omega
theorem turned_comp {m n c : L.Motion} (hm : 0 ≤ m.turn ∧ m.turn ≤ 3) (hn : 0 ≤ n.turn ∧ n.turn ≤ 3) (ht : c.turn = Int.tmod ((bif n.mirror then 4 - m.turn else m.turn) + n.turn) 4) (hc : c.mirror = !(m.mirror == n.mirror)) (p : L.Pt) : L.turned c p = L.turned n (L.turned m p) := by
  obtain ⟨mt, mm, mb⟩ := m
  obtain ⟨nt, nm, nb⟩ := n
  obtain ⟨ct, cm, cb⟩ := c
  dsimp only at hm hn ht hc
  subst ht hc
  rcases cases4 hm.1 hm.2 with rfl | rfl | rfl | rfl <;> rcases cases4 hn.1 hn.2 with rfl | rfl | rfl | rfl <;> cases mm <;> cases nm <;> simp [L.turned, L.mir, L.turnN, Int.tmod]
theorem apply_comp {m n : L.Motion} (hm : L.validM m = true) (hn : L.validM n = true) (p : L.Pt) : L.apply (L.cmM m n) p = L.apply n (L.apply m p) := by
  have a := validM_iff.1 hm
  have b := validM_iff.1 hn
  have e := turned_comp (m := m) (n := n) (c := L.cmM m n) a.1 b.1 rfl rfl p
  have f := turned_add n (L.turned m p) m.by_
  have g : L.turned n (L.apply m p) = ⟨(L.turned n (L.turned m p)).x + (L.turned n m.by_).x, (L.turned n (L.turned m p)).y + (L.turned n m.by_).y⟩ := f
  unfold L.apply at g ⊢
  rw [e, g]
  exact pt_ext (by show _ + ((L.turned n m.by_).x + n.by_.x) = _ + (L.turned n m.by_).x + n.by_.x; omega) (by show _ + ((L.turned n m.by_).y + n.by_.y) = _ + (L.turned n m.by_).y + n.by_.y; omega)
theorem apply_inv {m : L.Motion} (hm : L.validM m = true) (p : L.Pt) : L.apply (L.ivM m) (L.apply m p) = p := by
  have a := validM_iff.1 hm
  have e : ∀ q : L.Pt, L.turned (L.ivM m) q = L.turned (L.ivT m) q := fun q => rfl
  have f : L.turned (L.ivT m) (L.apply m p) = ⟨(L.turned (L.ivT m) (L.turned m p)).x + (L.turned (L.ivT m) m.by_).x, (L.turned (L.ivT m) (L.turned m p)).y + (L.turned (L.ivT m) m.by_).y⟩ := turned_add (L.ivT m) (L.turned m p) m.by_
  have g : L.turned (L.ivT m) (L.turned m p) = p := by
    obtain ⟨mt, mm, mb⟩ := m
    dsimp only at a
    obtain ⟨⟨a1, a2⟩, _⟩ := a
    rcases cases4 a1 a2 with rfl | rfl | rfl | rfl <;> cases mm <;> simp [L.turned, L.mir, L.turnN, L.ivT, Int.tmod]
  show (⟨(L.turned (L.ivM m) (L.apply m p)).x + -(L.turned (L.ivT m) m.by_).x, (L.turned (L.ivM m) (L.apply m p)).y + -(L.turned (L.ivT m) m.by_).y⟩ : L.Pt) = p
  rw [e, f, g]
  exact pt_ext (by show p.x + _ + -_ = p.x; omega) (by show p.y + _ + -_ = p.y; omega)
theorem ivM_valid {m : L.Motion} (hm : L.validM m = true) : L.validM (L.ivM m) = true := by
  have a := validM_iff.1 hm
  have b : -8192 ≤ (L.turned (L.ivT m) m.by_).x ∧ (L.turned (L.ivT m) m.by_).x ≤ 8192 ∧ -8192 ≤ (L.turned (L.ivT m) m.by_).y ∧ (L.turned (L.ivT m) m.by_).y ≤ 8192 := by
    obtain ⟨mt, mm, mb⟩ := m
    dsimp only at a
    obtain ⟨⟨a1, a2⟩, a3, a4⟩ := a
    rcases cases4 a1 a2 with rfl | rfl | rfl | rfl <;> cases mm <;> simp [L.turned, L.mir, L.turnN, L.ivT, Int.tmod] <;> omega
  have t0 : 0 ≤ (L.ivT m).turn ∧ (L.ivT m).turn ≤ 3 := by
    unfold L.ivT
    have t0 : 0 ≤ Int.tmod (4 - m.turn) 4 := Int.tmod_nonneg _ (by omega)
    have t1 := Int.tmod_lt_of_pos (4 - m.turn) (show (0 : Int) < 4 by omega)
    cases m.mirror
    · exact ⟨t0, by show Int.tmod (4 - m.turn) 4 ≤ 3; omega⟩
    · exact a.1
  exact validM_iff.2 ⟨t0, ⟨by show -8192 ≤ -(L.turned (L.ivT m) m.by_).x; omega, by show -(L.turned (L.ivT m) m.by_).x ≤ 8192; omega⟩, by show -8192 ≤ -(L.turned (L.ivT m) m.by_).y; omega, by show -(L.turned (L.ivT m) m.by_).y ≤ 8192; omega⟩
/-- The setting of a moved outline lays each corner where its image lies. -/
theorem movS_es {l : L.Sq L.Pt} {m : L.Motion} (hv : L.validOutline l = true) (he : L.movE l m = 0) (a : Int) : L.cy (L.norm (L.moved l m)) (L.es (L.movS l m) a) = L.apply m (L.cy l a) := by
  obtain ⟨_, _, hb, h⟩ := movS_of hv he
  unfold L.es
  rw [hb]
  cases hm : m.mirror with
  | false =>
    have := h a
    rw [hm, cond_false] at this
    rw [cond_false, this, cy_moved]
  | true =>
    have := h (1 - a)
    rw [hm, cond_true, show 1 - (1 - a) = a by omega] at this
    rw [cond_true, show (L.movS l m).shift - a + 1 = (L.movS l m).shift + (1 - a) by omega, this, cy_moved]
theorem movS_valid {l : L.Sq L.Pt} {m : L.Motion} (hv : L.validOutline l = true) (he : L.movE l m = 0) : L.validSet (L.movS l m) l.n = true := by
  obtain ⟨n3, n24, _, _⟩ := validOutline_of hv
  obtain ⟨h0, h1, _, _⟩ := movS_of hv he
  exact validSet_iff.2 ⟨⟨by omega, by omega⟩, h0, h1⟩
theorem rig_iso {l : L.Sq L.Pt} {m : L.Motion} (hv : L.validOutline l = true) (he : L.movE l m = 0) : L.isoS l (L.norm (L.moved l m)) (L.movS l m) := by
  have I := iso_apply m
  have E := movS_es hv he
  obtain ⟨_, _, hb, _⟩ := movS_of hv he
  refine ⟨fun a b => by rw [E, E, I.ds], fun a => ?_⟩
  unfold L.bnd
  have e0 := E a
  have e1 := E (a - 1)
  have e2 := E (a + 1)
  have cr := I.cr
  unfold L.sgM at cr
  unfold L.es at e0 e1 e2 ⊢
  rw [hb] at e0 e1 e2 ⊢
  cases hm : m.mirror with
  | false =>
    rw [hm] at cr
    rw [hm, cond_false] at e0 e1 e2
    rw [cond_false, e0, show (L.movS l m).shift + a - 1 = (L.movS l m).shift + (a - 1) by omega, show (L.movS l m).shift + a + 1 = (L.movS l m).shift + (a + 1) by omega, e1, e2, cr, cond_false, Int.one_mul]
  | true =>
    rw [hm] at cr
    rw [hm, cond_true] at e0 e1 e2
    rw [cond_true, e0, show (L.movS l m).shift - a + 1 - 1 = (L.movS l m).shift - (a + 1) + 1 by omega, show (L.movS l m).shift - a + 1 + 1 = (L.movS l m).shift - (a - 1) + 1 by omega, e1, e2, cr, cond_true]
    rw [cross_turn (L.cy l (a + 1))]
    congr 2; omega
theorem rig_area {l : L.Sq L.Pt} {m : L.Motion} (hv : L.validOutline l = true) : L.areaTo (L.norm (L.moved l m)) l.n = L.areaTo l l.n := by
  obtain ⟨n3, _, _, _⟩ := validOutline_of hv
  have hn : 0 < l.n := by omega
  have hM := area_moved (l := l) (m := m) hn
  obtain ⟨c, hc⟩ := norm_map (m := m) hv
  have a1 := area_sm (l := L.norm (L.moved l m)) (k := l.n) (Nat.le_refl _)
  have a2 := area_sm (l := L.moved l m) (k := l.n) (Nat.le_refl _)
  rw [a1]
  rw [a2] at hM
  have per : ∀ a b : Int, a % (l.n : Int) = b % (l.n : Int) → L.ct (L.moved l m) a = L.ct (L.moved l m) b := ct_per (l := L.moved l m) hn
  rcases sgM_or m with e | e <;> rw [e] at hM
  · have h1 : L.sm (L.ct (L.norm (L.moved l m))) l.n = L.sm (fun i => L.ct (L.moved l m) (i + c)) l.n := sm_congr (fun i => by
      unfold L.ct
      rw [hc, hc, e, show c + 1 * i = i + c by omega, show c + 1 * (i + 1) = i + c + 1 by omega]) l.n
    rw [h1, sm_shiftI hn per]
    omega
  · have key : L.sm (fun i => - L.ct (L.moved l m) ((l.n : Int) - 1 - i + (c - (l.n : Int)))) l.n = L.sm (fun j => - L.ct (L.moved l m) (j + (c - (l.n : Int)))) l.n := sm_rev (f := fun j => - L.ct (L.moved l m) (j + (c - (l.n : Int)))) l.n
    have h1 : L.sm (L.ct (L.norm (L.moved l m))) l.n = L.sm (fun i => - L.ct (L.moved l m) ((l.n : Int) - 1 - i + (c - (l.n : Int)))) l.n := sm_congr (fun i => by
      unfold L.ct
      rw [hc, hc, e, show (l.n : Int) - 1 - i + (c - (l.n : Int)) = c - 1 - i by omega, show c + -1 * i = c - 1 - i + 1 by omega, show c + -1 * (i + 1) = c - 1 - i by omega]
      unfold L.tm
      omega) l.n
    rw [h1, key, sm_neg (f := fun j => L.ct (L.moved l m) (j + (c - (l.n : Int)))), sm_shiftI hn per]
    omega
/-- Moving a moved outline: how it lies. -/
theorem norm2_map {l : L.Sq L.Pt} {m n : L.Motion} (hv : L.validOutline l = true) (hp : L.validPts (L.moved l m) = true) : ∃ c : Int, ∀ a, L.cy (L.norm (L.moved (L.norm (L.moved l m)) n)) a = L.apply n (L.apply m (L.cy l (c + L.sgM m * (L.sgM n * a)))) := by
  obtain ⟨c, hc⟩ := norm_map (m := m) hv
  obtain ⟨d, hd⟩ := norm_map (m := n) (norm_valid hv hp)
  refine ⟨c + L.sgM m * d, fun a => ?_⟩
  rw [hd, cy_moved, hc, cy_moved, Int.mul_add, Int.add_assoc]
theorem valid2 {l : L.Sq L.Pt} {m n : L.Motion} (hv : L.validOutline l = true) (h : ∀ a, L.validPt (L.apply n (L.apply m (L.cy l a))) = true) : L.validPts (L.moved (L.norm (L.moved l m)) n) = true := by
  obtain ⟨c, hc⟩ := norm_map (m := m) hv
  refine allB_iff.2 fun k hk => ?_
  have hk : k < l.n := hk
  have := hc (k : Int)
  rw [cy_nat (l := L.norm (L.moved l m)) hk, cy_moved] at this
  show L.validPt (L.apply n ((L.norm (L.moved l m)).g k)) = true
  rw [this]
  exact h _
theorem validPt_cy {l : L.Sq L.Pt} (hn : 0 < l.n) (h : L.validPts l = true) (a : Int) : L.validPt (L.cy l a) = true := allB_iff.1 h _ (ix_lt (n := l.n) hn)
theorem outline_pts {l : L.Sq L.Pt} (hv : L.validOutline l = true) : L.validPts l = true := allB_iff.2 (outline_all hv).1
theorem back_ok {l : L.Sq L.Pt} {m : L.Motion} (hv : L.validOutline l = true) (hm : L.validM m = true) : L.validPts (L.moved (L.norm (L.moved l m)) (L.ivM m)) = true :=
  valid2 hv fun a => by
    rw [apply_inv hm]
    obtain ⟨n3, _, _, _⟩ := validOutline_of hv
    exact validPt_cy (by omega) ((outline_pts hv)) a
theorem movE0 {l : L.Sq L.Pt} {m : L.Motion} (hv : L.validOutline l = true) (hm : L.validM m = true) (hp : L.validPts (L.moved l m) = true) : L.movE l m = 0 := by
  unfold L.movE; rw [hv, hm, hp]; rfl
theorem back_is {l : L.Sq L.Pt} {m : L.Motion} (hv : L.validOutline l = true) (hm : L.validM m = true) (hp : L.validPts (L.moved l m) = true) : (∀ a, L.cy (L.norm (L.moved (L.norm (L.moved l m)) (L.ivM m))) a = L.cy l a) ∧ ∀ k, k < l.n → (L.norm (L.moved (L.norm (L.moved l m)) (L.ivM m))).g k = l.g k := by
  obtain ⟨c, hc⟩ := norm2_map (n := L.ivM m) hv hp
  have hs : ∀ a, L.sgM m * (L.sgM (L.ivM m) * a) = a := fun a => sg_sg m a
  exact uniq_g rfl (norm_valid (norm_valid hv hp) (back_ok hv hm)) hv (C := c) fun a => by rw [hc, apply_inv hm, hs]
theorem two_is {l : L.Sq L.Pt} {m n : L.Motion} (hv : L.validOutline l = true) (hm : L.validM m = true) (hn : L.validM n = true) (hp : L.validPts (L.moved l m) = true) (hq : L.validPts (L.moved (L.norm (L.moved l m)) n) = true) : L.validPts (L.moved l (L.cmM m n)) = true ∧ ∀ k, k < l.n → (L.norm (L.moved (L.norm (L.moved l m)) n)).g k = (L.norm (L.moved l (L.cmM m n))).g k := by
  obtain ⟨n3, _, _, _⟩ := validOutline_of hv
  have h0 : 0 < l.n := by omega
  obtain ⟨c, hc⟩ := norm2_map (n := n) hv hp
  obtain ⟨d, hd⟩ := norm_map (m := m) hv
  have hpts : L.validPts (L.moved l (L.cmM m n)) = true := by
    refine allB_iff.2 fun k hk => ?_
    have hk : k < l.n := hk
    show L.validPt (L.apply (L.cmM m n) (l.g k)) = true
    rw [apply_comp hm hn]
    have := validPt_cy (l := L.moved (L.norm (L.moved l m)) n) h0 hq (L.sgM m * ((k : Int) - d))
    rw [cy_moved, hd, sg_sg, cy_moved, show d + ((k : Int) - d) = (k : Int) by omega, cy_nat hk] at this
    exact this
  refine ⟨hpts, ?_⟩
  obtain ⟨f, hf⟩ := norm_map (m := L.cmM m n) hv
  have hs : ∀ a, L.sgM (L.cmM m n) * a = L.sgM m * (L.sgM n * a) := fun a => by
    have : (L.cmM m n).mirror = !(m.mirror == n.mirror) := rfl
    unfold L.sgM
    rw [this]
    cases m.mirror <;> cases n.mirror <;> simp
  have ss : ∀ a, L.sgM (L.cmM m n) * (L.sgM (L.cmM m n) * a) = a := sg_sg (L.cmM m n)
  exact (uniq_g (r := L.norm (L.moved (L.norm (L.moved l m)) n)) (l := L.norm (L.moved l (L.cmM m n))) rfl (norm_valid (norm_valid hv hp) hq) (norm_valid hv hpts) (C := L.sgM (L.cmM m n) * (c - f)) fun a => by
    rw [hc, hf, cy_moved, apply_comp hm hn, Int.mul_add, ss, ← hs]
    congr 3; omega).2
theorem back_set {l : L.Sq L.Pt} {m : L.Motion} (hv : L.validOutline l = true) (hm : L.validM m = true) (hp : L.validPts (L.moved l m) = true) : L.comp (L.movS l m) (L.movS (L.norm (L.moved l m)) (L.ivM m)) l.n = L.one := by
  obtain ⟨n3, _, _, _⟩ := validOutline_of hv
  have he := movE0 hv hm hp
  have hq := norm_valid hv hp
  have he2 := movE0 hq (ivM_valid hm) (back_ok hv hm)
  have v1 := movS_valid hv he
  have v2 : L.validSet (L.movS (L.norm (L.moved l m)) (L.ivM m)) l.n = true := movS_valid hq he2
  have b1 := (movS_of hv he).2.2.1
  have b2 := (movS_of hq he2).2.2.1
  have b2 : (L.movS (L.norm (L.moved l m)) (L.ivM m)).back = m.mirror := b2
  have E : ∀ a, (L.es (L.movS (L.norm (L.moved l m)) (L.ivM m)) (L.es (L.movS l m) a)) % (l.n : Int) = a % (l.n : Int) := fun a => by
    have h1 := movS_es hq he2 (L.es (L.movS l m) a)
    rw [movS_es hv he, apply_inv hm, (back_is hv hm hp).1] at h1
    exact cy_inj hv h1
  have h0 := E 0
  rw [es_comp v1 v2] at h0
  obtain ⟨_, e1, v3⟩ := comp_ok v1 v2
  have w := validSet_iff.1 v3
  have hb : (L.comp (L.movS l m) (L.movS (L.norm (L.moved l m)) (L.ivM m)) l.n).back = false := by
    rw [e1]
    show (!((L.movS l m).back == (L.movS (L.norm (L.moved l m)) (L.ivM m)).back)) = false
    rw [b1, b2]; cases m.mirror <;> rfl
  refine set_ext ?_ hb
  unfold L.es at h0
  rw [hb, cond_false, Int.add_zero, Int.emod_eq_of_lt w.2.1 w.2.2, Int.zero_emod] at h0
  exact h0
theorem iso_one (l : L.Sq L.Pt) : L.isoS l l L.one := by
  have e : ∀ a, L.es L.one a = a := fun a => by show (0 : Int) + a = a; omega
  exact ⟨fun a b => by rw [e, e], fun a => by rw [e]⟩
theorem con_one {l : L.Sq L.Pt} (hv : L.validOutline l = true) : L.among ⟨L.conN l l, fun i => L.conG l l i⟩ L.one = true := by
  obtain ⟨n3, n24, _, _⟩ := validOutline_of hv
  exact con_of hv hv rfl (validSet_iff.2 ⟨⟨by omega, by omega⟩, Int.le_refl _, by show (0 : Int) < l.n; omega⟩) ((congr_iff hv rfl (by omega) (Int.le_refl _)).2 (iso_one l))
theorem con_mov {l : L.Sq L.Pt} {m : L.Motion} (hv : L.validOutline l = true) (hm : L.validM m = true) (hp : L.validPts (L.moved l m) = true) : L.among ⟨L.conN l (L.norm (L.moved l m)), fun i => L.conG l (L.norm (L.moved l m)) i⟩ (L.movS l m) = true := by
  obtain ⟨n3, n24, _, _⟩ := validOutline_of hv
  have he := movE0 hv hm hp
  have v := movS_valid hv he
  have w := norm_valid hv hp
  have iso := rig_iso hv he
  have hn : l.n = (L.norm (L.moved l m)).n := rfl
  generalize L.movS l m = S at v iso ⊢
  generalize L.norm (L.moved l m) = q at w iso hn ⊢
  exact con_of hv w hn v ((congr_iff w hn (by omega) (validSet_iff.1 v).2.1).2 iso)
def w_PRigid_p (l : (L.Sq L.Pt)) (m : L.Motion) (n : L.Motion) : Prop := l.n ≤ 9223372036854775807
def w_PRigid_r (l : (L.Sq L.Pt)) (m : L.Motion) (n : L.Motion) : SV := .bool true
def w_PRigid_s : List EV → Option (Prop × SV)
  | [.p (.sl 2 l_n l_g), .p (.agg [.int .i64 m_turn, .bool m_mirror, .int .i64 m_by__x, .int .i64 m_by__y]), .p (.agg [.int .i64 n_turn, .bool n_mirror, .int .i64 n_by__x, .int .i64 n_by__y])] => some ((∀ i, i < l_n → l_g i = [.int .i64 ((ofPt (l_g i)).x), .int .i64 ((ofPt (l_g i)).y)]) ∧ w_PRigid_p (⟨l_n, fun i => ofPt (l_g i)⟩ : (L.Sq L.Pt)) (⟨m_turn, m_mirror, (⟨m_by__x, m_by__y⟩ : L.Pt)⟩ : L.Motion) (⟨n_turn, n_mirror, (⟨n_by__x, n_by__y⟩ : L.Pt)⟩ : L.Motion), w_PRigid_r (⟨l_n, fun i => ofPt (l_g i)⟩ : (L.Sq L.Pt)) (⟨m_turn, m_mirror, (⟨m_by__x, m_by__y⟩ : L.Pt)⟩ : L.Motion) (⟨n_turn, n_mirror, (⟨n_by__x, n_by__y⟩ : L.Pt)⟩ : L.Motion))
  | _ => none
abbrev w_PRigid_S : SE.Spec := (specO w_PRigid_s)
def w_PRigid_C : Cfg := { muts := [9, 19, 22, 24, 26, 30, 33, 36], frz := lookN [], specs := lookS [(20, w_awake_S), (33, r1_ValidOutline_S), (25, r1_ValidMotion_S), (21, p_Move_S), (34, p_Area_S), (54, p_Settings_S), (28, p_InvertM_S), (46, p_Inverse_S), (23, r1_SamePoints_S), (45, p_Compose_S), (55, w_among1_S), (26, p_ComposeM_S)], loops := fun _ => none, iters := lookI [], rfs := lookR [], nils := lookM [] }
theorem w_PRigid_vc (l : (L.Sq L.Pt)) (m : L.Motion) (n : L.Motion) (hp : w_PRigid_p l m n) : vc Tryz.prog ({ w_PRigid_C with loops := lookL [(12, { T := Nat, keep := [0, 4, 5, 7, 8, 9, 10, 11, 12, 13, 14, 15, 16], keepO := [9], chg := fun i => [(17, .p (.bool (L.anyB i (fun j => L.sameS (L.conG l ⟨L.movN l m, fun k => (L.norm (L.moved l m)).g k⟩ j) (L.movS l m))))), (18, .p (.int .i64 (i : Int)))], own := fun _ => [], inv := fun i => i ≤ L.conN l ⟨L.movN l m, fun k => (L.norm (L.moved l m)).g k⟩, mu := fun i => L.conN l ⟨L.movN l m, fun k => (L.norm (L.moved l m)).g k⟩ - i })], rfs := lookR [] }) (bodyOf Tryz.f8) (st0 Tryz.f8 [.p (.sl 2 l.n (fun i => [.int .i64 ((l.g i).x), .int .i64 ((l.g i).y)])), .p (.agg [.int .i64 m.turn, .bool m.mirror, .int .i64 m.by_.x, .int .i64 m.by_.y]), .p (.agg [.int .i64 n.turn, .bool n.mirror, .int .i64 n.by_.x, .int .i64 n.by_.y])]) (retFn Tryz.prog Tryz.f8 (w_PRigid_r l m n)) :=
  @Eq.mpr _ (True ∧ ((!Decidable.decide ((40 : Int) < (↑l.n : Int))) = Bool.true → (∀ (i : Nat), i < l.n → [Go.SE.SV.int Go.IntKind.i64 (l.g i).x, Go.SE.SV.int Go.IntKind.i64 (l.g i).y] = [Go.SE.SV.int Go.IntKind.i64 (l.g i).x, Go.SE.SV.int Go.IntKind.i64 (l.g i).y]) ∧ True) ∧ ((!bif Decidable.decide ((40 : Int) < (↑l.n : Int)) then Bool.true else !L.validOutline (L.Sq.mk l.n fun (i : Nat) ↦ l.g i)) =
 Bool.true → True) ∧ ((!bif bif Decidable.decide ((40 : Int) < (↑l.n : Int)) then Bool.true else !L.validOutline (L.Sq.mk l.n fun (i : Nat) ↦ l.g i) then Bool.true else !L.validM m) = Bool.true → True) ∧ ((bif bif bif Decidable.decide ((40 : Int) < (↑l.n : Int)) then Bool.true else !L.validOutline (L.Sq.mk l.n fun (i : Nat) ↦ l.g i) then Bool.true else !L.validM m then Bool.true else !L.validM n) =
 Bool.true → Bool.true = Bool.true) ∧ ((bif bif bif Decidable.decide ((40 : Int) < (↑l.n : Int)) then Bool.true else !L.validOutline (L.Sq.mk l.n fun (i : Nat) ↦ l.g i) then Bool.true else !L.validM m then Bool.true else !L.validM n) = Bool.false → ((∀ (i : Nat), i < l.n → [Go.SE.SV.int Go.IntKind.i64 (l.g i).x, Go.SE.SV.int Go.IntKind.i64 (l.g i).y] = [Go.SE.SV.int Go.IntKind.i64 (l.g i).x,
 Go.SE.SV.int Go.IntKind.i64 (l.g i).y]) ∧ l.n ≤ (1000000 : Nat)) ∧ ((!Decidable.decide (L.movE (L.Sq.mk l.n fun (i : Nat) ↦ l.g i) m = (0 : Int))) = Bool.true → (bif Bool.true then Decidable.decide (L.movE (L.Sq.mk l.n fun (i : Nat) ↦ l.g i) m = (2 : Int)) else Bool.false) = Bool.true) ∧ ((!Decidable.decide (L.movE (L.Sq.mk l.n fun (i : Nat) ↦ l.g i) m = (0 : Int))) = Bool.false → ((∀ (i : Nat), i
 < l.n → [Go.SE.SV.int Go.IntKind.i64 (l.g i).x, Go.SE.SV.int Go.IntKind.i64 (l.g i).y] = [Go.SE.SV.int Go.IntKind.i64 (l.g i).x, Go.SE.SV.int Go.IntKind.i64 (l.g i).y]) ∧ l.n ≤ (1000000 : Nat)) ∧ ((∀ (i : Nat), i < L.movN (L.Sq.mk l.n fun (i : Nat) ↦ l.g i) m → [Go.SE.SV.int Go.IntKind.i64 ((L.norm (L.moved (L.Sq.mk l.n fun (i : Nat) ↦ l.g i) m)).g i).x, Go.SE.SV.int Go.IntKind.i64 ((L.norm
 (L.moved (L.Sq.mk l.n fun (i : Nat) ↦ l.g i) m)).g i).y] = [Go.SE.SV.int Go.IntKind.i64 ((L.norm (L.moved (L.Sq.mk l.n fun (i : Nat) ↦ l.g i) m)).g i).x, Go.SE.SV.int Go.IntKind.i64 ((L.norm (L.moved (L.Sq.mk l.n fun (i : Nat) ↦ l.g i) m)).g i).y]) ∧ L.movN (L.Sq.mk l.n fun (i : Nat) ↦ l.g i) m ≤ (1000000 : Nat)) ∧ ((∀ (i : Nat), i < l.n → [Go.SE.SV.int Go.IntKind.i64 (l.g i).x, Go.SE.SV.int
 Go.IntKind.i64 (l.g i).y] = [Go.SE.SV.int Go.IntKind.i64 (l.g i).x, Go.SE.SV.int Go.IntKind.i64 (l.g i).y]) ∧ (∀ (i : Nat), i < L.movN (L.Sq.mk l.n fun (i : Nat) ↦ l.g i) m → [Go.SE.SV.int Go.IntKind.i64 ((L.norm (L.moved (L.Sq.mk l.n fun (i : Nat) ↦ l.g i) m)).g i).x, Go.SE.SV.int Go.IntKind.i64 ((L.norm (L.moved (L.Sq.mk l.n fun (i : Nat) ↦ l.g i) m)).g i).y] = [Go.SE.SV.int Go.IntKind.i64
 ((L.norm (L.moved (L.Sq.mk l.n fun (i : Nat) ↦ l.g i) m)).g i).x, Go.SE.SV.int Go.IntKind.i64 ((L.norm (L.moved (L.Sq.mk l.n fun (i : Nat) ↦ l.g i) m)).g i).y]) ∧ l.n ≤ (1000000 : Nat) ∧ L.movN (L.Sq.mk l.n fun (i : Nat) ↦ l.g i) m ≤ (1000000 : Nat)) ∧ (∃ (g : Nat), (Bool.false = L.anyB g fun (j : Nat) ↦ L.sameS (L.conG l (L.Sq.mk (L.movN l m) fun (k : Nat) ↦ (L.norm (L.moved l m)).g k) j) (L.movS
 l m)) ∧ (0 : Int) = (↑g : Int) ∧ g ≤ L.conN l (L.Sq.mk (L.movN l m) fun (k : Nat) ↦ (L.norm (L.moved l m)).g k)) ∧ ∀ (g : Nat), g ≤ L.conN l (L.Sq.mk (L.movN l m) fun (k : Nat) ↦ (L.norm (L.moved l m)).g k) → (Decidable.decide ((↑g : Int) < (↑(L.conN (L.Sq.mk l.n fun (i : Nat) ↦ l.g i) (L.Sq.mk (L.movN (L.Sq.mk l.n fun (i : Nat) ↦ l.g i) m) fun (i : Nat) ↦ (L.norm (L.moved (L.Sq.mk l.n fun (i :
 Nat) ↦ l.g i) m)).g i)) : Int)) = Bool.true → ((!L.anyB g fun (j : Nat) ↦ L.sameS (L.conG l (L.Sq.mk (L.movN l m) fun (k : Nat) ↦ (L.norm (L.moved l m)).g k) j) (L.movS l m)) = Bool.true → (0 : Int) ≤ (↑g : Int) ∧ (↑g : Int) < (↑(L.conN (L.Sq.mk l.n fun (i : Nat) ↦ l.g i) (L.Sq.mk (L.movN (L.Sq.mk l.n fun (i : Nat) ↦ l.g i) m) fun (i : Nat) ↦ (L.norm (L.moved (L.Sq.mk l.n fun (i : Nat) ↦ l.g i)
 m)).g i)) : Int)) ∧ Go.SE.InK Go.IntKind.i64 ((↑g : Int) + (1 : Int)) ∧ ∃ (g' : Nat), ((bif L.anyB g fun (j : Nat) ↦ L.sameS (L.conG l (L.Sq.mk (L.movN l m) fun (k : Nat) ↦ (L.norm (L.moved l m)).g k) j) (L.movS l m) then Bool.true else Decidable.decide ((L.conG (L.Sq.mk l.n fun (i : Nat) ↦ l.g i) (L.Sq.mk (L.movN (L.Sq.mk l.n fun (i : Nat) ↦ l.g i) m) fun (i : Nat) ↦ (L.norm (L.moved (L.Sq.mk l.n
 fun (i : Nat) ↦ l.g i) m)).g i) (Int.toNat (↑g : Int))).shift = (L.movS (L.Sq.mk l.n fun (i : Nat) ↦ l.g i) m).shift) && (L.conG (L.Sq.mk l.n fun (i : Nat) ↦ l.g i) (L.Sq.mk (L.movN (L.Sq.mk l.n fun (i : Nat) ↦ l.g i) m) fun (i : Nat) ↦ (L.norm (L.moved (L.Sq.mk l.n fun (i : Nat) ↦ l.g i) m)).g i) (Int.toNat (↑g : Int))).back == (L.movS (L.Sq.mk l.n fun (i : Nat) ↦ l.g i) m).back) = L.anyB g' fun
 (j : Nat) ↦ L.sameS (L.conG l (L.Sq.mk (L.movN l m) fun (k : Nat) ↦ (L.norm (L.moved l m)).g k) j) (L.movS l m)) ∧ (↑g : Int) + (1 : Int) = (↑g' : Int) ∧ L.conE (L.Sq.mk l.n fun (i : Nat) ↦ l.g i) (L.Sq.mk (L.movN (L.Sq.mk l.n fun (i : Nat) ↦ l.g i) m) fun (i : Nat) ↦ (L.norm (L.moved (L.Sq.mk l.n fun (i : Nat) ↦ l.g i) m)).g i) = L.conE (L.Sq.mk l.n fun (i : Nat) ↦ l.g i) (L.Sq.mk (L.movN
 (L.Sq.mk l.n fun (i : Nat) ↦ l.g i) m) fun (i : Nat) ↦ (L.norm (L.moved (L.Sq.mk l.n fun (i : Nat) ↦ l.g i) m)).g i) ∧ (L.conN (L.Sq.mk l.n fun (i : Nat) ↦ l.g i) (L.Sq.mk (L.movN (L.Sq.mk l.n fun (i : Nat) ↦ l.g i) m) fun (i : Nat) ↦ (L.norm (L.moved (L.Sq.mk l.n fun (i : Nat) ↦ l.g i) m)).g i) = L.conN (L.Sq.mk l.n fun (i : Nat) ↦ l.g i) (L.Sq.mk (L.movN (L.Sq.mk l.n fun (i : Nat) ↦ l.g i) m)
 fun (i : Nat) ↦ (L.norm (L.moved (L.Sq.mk l.n fun (i : Nat) ↦ l.g i) m)).g i) ∧ ∀ (i : Nat), i < L.conN (L.Sq.mk l.n fun (i : Nat) ↦ l.g i) (L.Sq.mk (L.movN (L.Sq.mk l.n fun (i : Nat) ↦ l.g i) m) fun (i : Nat) ↦ (L.norm (L.moved (L.Sq.mk l.n fun (i : Nat) ↦ l.g i) m)).g i) → [Go.SE.SV.int Go.IntKind.i64 (L.conG (L.Sq.mk l.n fun (i : Nat) ↦ l.g i) (L.Sq.mk (L.movN (L.Sq.mk l.n fun (i : Nat) ↦ l.g
 i) m) fun (i : Nat) ↦ (L.norm (L.moved (L.Sq.mk l.n fun (i : Nat) ↦ l.g i) m)).g i) i).shift, Go.SE.SV.bool (L.conG (L.Sq.mk l.n fun (i : Nat) ↦ l.g i) (L.Sq.mk (L.movN (L.Sq.mk l.n fun (i : Nat) ↦ l.g i) m) fun (i : Nat) ↦ (L.norm (L.moved (L.Sq.mk l.n fun (i : Nat) ↦ l.g i) m)).g i) i).back] = [Go.SE.SV.int Go.IntKind.i64 (L.conG (L.Sq.mk l.n fun (i : Nat) ↦ l.g i) (L.Sq.mk (L.movN (L.Sq.mk l.n
 fun (i : Nat) ↦ l.g i) m) fun (i : Nat) ↦ (L.norm (L.moved (L.Sq.mk l.n fun (i : Nat) ↦ l.g i) m)).g i) i).shift, Go.SE.SV.bool (L.conG (L.Sq.mk l.n fun (i : Nat) ↦ l.g i) (L.Sq.mk (L.movN (L.Sq.mk l.n fun (i : Nat) ↦ l.g i) m) fun (i : Nat) ↦ (L.norm (L.moved (L.Sq.mk l.n fun (i : Nat) ↦ l.g i) m)).g i) i).back]) ∧ ((bif L.validOutline (L.Sq.mk (L.movN (L.Sq.mk l.n fun (i : Nat) ↦ l.g i) m) fun
 (i : Nat) ↦ (L.norm (L.moved (L.Sq.mk l.n fun (i : Nat) ↦ l.g i) m)).g i) then (0 : Int) else (1 : Int)) = bif L.validOutline (L.Sq.mk (L.movN (L.Sq.mk l.n fun (i : Nat) ↦ l.g i) m) fun (i : Nat) ↦ (L.norm (L.moved (L.Sq.mk l.n fun (i : Nat) ↦ l.g i) m)).g i) then (0 : Int) else (1 : Int)) ∧ ((bif L.validOutline (L.Sq.mk (L.movN (L.Sq.mk l.n fun (i : Nat) ↦ l.g i) m) fun (i : Nat) ↦ (L.norm
 (L.moved (L.Sq.mk l.n fun (i : Nat) ↦ l.g i) m)).g i) then L.areaTo (L.Sq.mk (L.movN (L.Sq.mk l.n fun (i : Nat) ↦ l.g i) m) fun (i : Nat) ↦ (L.norm (L.moved (L.Sq.mk l.n fun (i : Nat) ↦ l.g i) m)).g i) (L.movN (L.Sq.mk l.n fun (i : Nat) ↦ l.g i) m) else (0 : Int)) = bif L.validOutline (L.Sq.mk (L.movN (L.Sq.mk l.n fun (i : Nat) ↦ l.g i) m) fun (i : Nat) ↦ (L.norm (L.moved (L.Sq.mk l.n fun (i :
 Nat) ↦ l.g i) m)).g i) then L.areaTo (L.Sq.mk (L.movN (L.Sq.mk l.n fun (i : Nat) ↦ l.g i) m) fun (i : Nat) ↦ (L.norm (L.moved (L.Sq.mk l.n fun (i : Nat) ↦ l.g i) m)).g i) (L.movN (L.Sq.mk l.n fun (i : Nat) ↦ l.g i) m) else (0 : Int)) ∧ ((bif L.validOutline (L.Sq.mk l.n fun (i : Nat) ↦ l.g i) then (0 : Int) else (1 : Int)) = bif L.validOutline (L.Sq.mk l.n fun (i : Nat) ↦ l.g i) then (0 : Int) else
 (1 : Int)) ∧ ((bif L.validOutline (L.Sq.mk l.n fun (i : Nat) ↦ l.g i) then L.areaTo (L.Sq.mk l.n fun (i : Nat) ↦ l.g i) l.n else (0 : Int)) = bif L.validOutline (L.Sq.mk l.n fun (i : Nat) ↦ l.g i) then L.areaTo (L.Sq.mk l.n fun (i : Nat) ↦ l.g i) l.n else (0 : Int)) ∧ L.movE (L.Sq.mk l.n fun (i : Nat) ↦ l.g i) m = L.movE (L.Sq.mk l.n fun (i : Nat) ↦ l.g i) m ∧ (L.movN (L.Sq.mk l.n fun (i : Nat) ↦
 l.g i) m = L.movN (L.Sq.mk l.n fun (i : Nat) ↦ l.g i) m ∧ ∀ (i : Nat), i < L.movN (L.Sq.mk l.n fun (i : Nat) ↦ l.g i) m → [Go.SE.SV.int Go.IntKind.i64 ((L.norm (L.moved (L.Sq.mk l.n fun (i : Nat) ↦ l.g i) m)).g i).x, Go.SE.SV.int Go.IntKind.i64 ((L.norm (L.moved (L.Sq.mk l.n fun (i : Nat) ↦ l.g i) m)).g i).y] = [Go.SE.SV.int Go.IntKind.i64 ((L.norm (L.moved (L.Sq.mk l.n fun (i : Nat) ↦ l.g i)
 m)).g i).x, Go.SE.SV.int Go.IntKind.i64 ((L.norm (L.moved (L.Sq.mk l.n fun (i : Nat) ↦ l.g i) m)).g i).y]) ∧ nat_lit 0 = nat_lit 0 ∧ Bool.true = Bool.true ∧ Go.SE.SV.ref [Go.SE.SV.int Go.IntKind.i64 n.turn, Go.SE.SV.bool n.mirror, Go.SE.SV.int Go.IntKind.i64 n.by_.x, Go.SE.SV.int Go.IntKind.i64 n.by_.y] (nat_lit 0) = Go.SE.SV.ref [Go.SE.SV.int Go.IntKind.i64 n.turn, Go.SE.SV.bool n.mirror,
 Go.SE.SV.int Go.IntKind.i64 n.by_.x, Go.SE.SV.int Go.IntKind.i64 n.by_.y] (nat_lit 0) ∧ Go.SE.SV.ref [Go.SE.SV.int Go.IntKind.i64 m.turn, Go.SE.SV.bool m.mirror, Go.SE.SV.int Go.IntKind.i64 m.by_.x, Go.SE.SV.int Go.IntKind.i64 m.by_.y] (nat_lit 0) = Go.SE.SV.ref [Go.SE.SV.int Go.IntKind.i64 m.turn, Go.SE.SV.bool m.mirror, Go.SE.SV.int Go.IntKind.i64 m.by_.x, Go.SE.SV.int Go.IntKind.i64 m.by_.y]
 (nat_lit 0) ∧ (l.n = l.n ∧ ∀ (i : Nat), i < l.n → [Go.SE.SV.int Go.IntKind.i64 (l.g i).x, Go.SE.SV.int Go.IntKind.i64 (l.g i).y] = [Go.SE.SV.int Go.IntKind.i64 (l.g i).x, Go.SE.SV.int Go.IntKind.i64 (l.g i).y]) ∧ (L.movS (L.Sq.mk l.n fun (i : Nat) ↦ l.g i) m).shift = (L.movS (L.Sq.mk l.n fun (i : Nat) ↦ l.g i) m).shift ∧ (L.movS (L.Sq.mk l.n fun (i : Nat) ↦ l.g i) m).back = (L.movS (L.Sq.mk l.n
 fun (i : Nat) ↦ l.g i) m).back ∧ g' ≤ L.conN l (L.Sq.mk (L.movN l m) fun (k : Nat) ↦ (L.norm (L.moved l m)).g k) ∧ L.conN l (L.Sq.mk (L.movN l m) fun (k : Nat) ↦ (L.norm (L.moved l m)).g k) - g' < L.conN l (L.Sq.mk (L.movN l m) fun (k : Nat) ↦ (L.norm (L.moved l m)).g k) - g) ∧ (Decidable.decide ((↑g : Int) < (↑(L.conN (L.Sq.mk l.n fun (i : Nat) ↦ l.g i) (L.Sq.mk (L.movN (L.Sq.mk l.n fun (i : Nat)
 ↦ l.g i) m) fun (i : Nat) ↦ (L.norm (L.moved (L.Sq.mk l.n fun (i : Nat) ↦ l.g i) m)).g i)) : Int)) = Bool.false → ((bif bif bif bif bif !Decidable.decide ((bif L.validOutline (L.Sq.mk l.n fun (i : Nat) ↦ l.g i) then (0 : Int) else (1 : Int)) = (0 : Int)) then Bool.true else !Decidable.decide ((bif L.validOutline (L.Sq.mk (L.movN (L.Sq.mk l.n fun (i : Nat) ↦ l.g i) m) fun (i : Nat) ↦ (L.norm
 (L.moved (L.Sq.mk l.n fun (i : Nat) ↦ l.g i) m)).g i) then (0 : Int) else (1 : Int)) = (0 : Int)) then Bool.true else !Decidable.decide ((bif L.validOutline (L.Sq.mk l.n fun (i : Nat) ↦ l.g i) then L.areaTo (L.Sq.mk l.n fun (i : Nat) ↦ l.g i) l.n else (0 : Int)) = bif L.validOutline (L.Sq.mk (L.movN (L.Sq.mk l.n fun (i : Nat) ↦ l.g i) m) fun (i : Nat) ↦ (L.norm (L.moved (L.Sq.mk l.n fun (i : Nat)
 ↦ l.g i) m)).g i) then L.areaTo (L.Sq.mk (L.movN (L.Sq.mk l.n fun (i : Nat) ↦ l.g i) m) fun (i : Nat) ↦ (L.norm (L.moved (L.Sq.mk l.n fun (i : Nat) ↦ l.g i) m)).g i) (L.movN (L.Sq.mk l.n fun (i : Nat) ↦ l.g i) m) else (0 : Int)) then Bool.true else !Decidable.decide (L.conE (L.Sq.mk l.n fun (i : Nat) ↦ l.g i) (L.Sq.mk (L.movN (L.Sq.mk l.n fun (i : Nat) ↦ l.g i) m) fun (i : Nat) ↦ (L.norm (L.moved
 (L.Sq.mk l.n fun (i : Nat) ↦ l.g i) m)).g i) = (0 : Int)) then Bool.true else !L.anyB g fun (j : Nat) ↦ L.sameS (L.conG l (L.Sq.mk (L.movN l m) fun (k : Nat) ↦ (L.norm (L.moved l m)).g k) j) (L.movS l m) then Bool.true else !(L.movS (L.Sq.mk l.n fun (i : Nat) ↦ l.g i) m).back == m.mirror) = Bool.true → Bool.false = Bool.true) ∧ ((bif bif bif bif bif !Decidable.decide ((bif L.validOutline (L.Sq.mk
 l.n fun (i : Nat) ↦ l.g i) then (0 : Int) else (1 : Int)) = (0 : Int)) then Bool.true else !Decidable.decide ((bif L.validOutline (L.Sq.mk (L.movN (L.Sq.mk l.n fun (i : Nat) ↦ l.g i) m) fun (i : Nat) ↦ (L.norm (L.moved (L.Sq.mk l.n fun (i : Nat) ↦ l.g i) m)).g i) then (0 : Int) else (1 : Int)) = (0 : Int)) then Bool.true else !Decidable.decide ((bif L.validOutline (L.Sq.mk l.n fun (i : Nat) ↦ l.g
 i) then L.areaTo (L.Sq.mk l.n fun (i : Nat) ↦ l.g i) l.n else (0 : Int)) = bif L.validOutline (L.Sq.mk (L.movN (L.Sq.mk l.n fun (i : Nat) ↦ l.g i) m) fun (i : Nat) ↦ (L.norm (L.moved (L.Sq.mk l.n fun (i : Nat) ↦ l.g i) m)).g i) then L.areaTo (L.Sq.mk (L.movN (L.Sq.mk l.n fun (i : Nat) ↦ l.g i) m) fun (i : Nat) ↦ (L.norm (L.moved (L.Sq.mk l.n fun (i : Nat) ↦ l.g i) m)).g i) (L.movN (L.Sq.mk l.n fun
 (i : Nat) ↦ l.g i) m) else (0 : Int)) then Bool.true else !Decidable.decide (L.conE (L.Sq.mk l.n fun (i : Nat) ↦ l.g i) (L.Sq.mk (L.movN (L.Sq.mk l.n fun (i : Nat) ↦ l.g i) m) fun (i : Nat) ↦ (L.norm (L.moved (L.Sq.mk l.n fun (i : Nat) ↦ l.g i) m)).g i) = (0 : Int)) then Bool.true else !L.anyB g fun (j : Nat) ↦ L.sameS (L.conG l (L.Sq.mk (L.movN l m) fun (k : Nat) ↦ (L.norm (L.moved l m)).g k) j)
 (L.movS l m) then Bool.true else !(L.movS (L.Sq.mk l.n fun (i : Nat) ↦ l.g i) m).back == m.mirror) = Bool.false → True ∧ ((∀ (i : Nat), i < L.movN (L.Sq.mk l.n fun (i : Nat) ↦ l.g i) m → [Go.SE.SV.int Go.IntKind.i64 ((L.norm (L.moved (L.Sq.mk l.n fun (i : Nat) ↦ l.g i) m)).g i).x, Go.SE.SV.int Go.IntKind.i64 ((L.norm (L.moved (L.Sq.mk l.n fun (i : Nat) ↦ l.g i) m)).g i).y] = [Go.SE.SV.int
 Go.IntKind.i64 ((L.norm (L.moved (L.Sq.mk l.n fun (i : Nat) ↦ l.g i) m)).g i).x, Go.SE.SV.int Go.IntKind.i64 ((L.norm (L.moved (L.Sq.mk l.n fun (i : Nat) ↦ l.g i) m)).g i).y]) ∧ L.movN (L.Sq.mk l.n fun (i : Nat) ↦ l.g i) m ≤ (1000000 : Nat)) ∧ True ∧ ((!bif bif !Decidable.decide (L.ivE m = (0 : Int)) then Bool.true else !Decidable.decide (L.movE (L.Sq.mk (L.movN (L.Sq.mk l.n fun (i : Nat) ↦ l.g i)
 m) fun (i : Nat) ↦ (L.norm (L.moved (L.Sq.mk l.n fun (i : Nat) ↦ l.g i) m)).g i) (L.ivV m) = (0 : Int)) then Bool.true else !Decidable.decide (L.invE (L.movS (L.Sq.mk l.n fun (i : Nat) ↦ l.g i) m) (↑l.n : Int) = (0 : Int))) = Bool.true → (∀ (i : Nat), i < L.movN (L.Sq.mk (L.movN (L.Sq.mk l.n fun (i : Nat) ↦ l.g i) m) fun (i : Nat) ↦ (L.norm (L.moved (L.Sq.mk l.n fun (i : Nat) ↦ l.g i) m)).g i)
 (L.ivV m) → [Go.SE.SV.int Go.IntKind.i64 ((L.norm (L.moved (L.Sq.mk (L.movN (L.Sq.mk l.n fun (i : Nat) ↦ l.g i) m) fun (i : Nat) ↦ (L.norm (L.moved (L.Sq.mk l.n fun (i : Nat) ↦ l.g i) m)).g i) (L.ivV m))).g i).x, Go.SE.SV.int Go.IntKind.i64 ((L.norm (L.moved (L.Sq.mk (L.movN (L.Sq.mk l.n fun (i : Nat) ↦ l.g i) m) fun (i : Nat) ↦ (L.norm (L.moved (L.Sq.mk l.n fun (i : Nat) ↦ l.g i) m)).g i) (L.ivV
 m))).g i).y] = [Go.SE.SV.int Go.IntKind.i64 ((L.norm (L.moved (L.Sq.mk (L.movN (L.Sq.mk l.n fun (i : Nat) ↦ l.g i) m) fun (i : Nat) ↦ (L.norm (L.moved (L.Sq.mk l.n fun (i : Nat) ↦ l.g i) m)).g i) (L.ivV m))).g i).x, Go.SE.SV.int Go.IntKind.i64 ((L.norm (L.moved (L.Sq.mk (L.movN (L.Sq.mk l.n fun (i : Nat) ↦ l.g i) m) fun (i : Nat) ↦ (L.norm (L.moved (L.Sq.mk l.n fun (i : Nat) ↦ l.g i) m)).g i)
 (L.ivV m))).g i).y]) ∧ (∀ (i : Nat), i < l.n → [Go.SE.SV.int Go.IntKind.i64 (l.g i).x, Go.SE.SV.int Go.IntKind.i64 (l.g i).y] = [Go.SE.SV.int Go.IntKind.i64 (l.g i).x, Go.SE.SV.int Go.IntKind.i64 (l.g i).y]) ∧ L.movN (L.Sq.mk (L.movN (L.Sq.mk l.n fun (i : Nat) ↦ l.g i) m) fun (i : Nat) ↦ (L.norm (L.moved (L.Sq.mk l.n fun (i : Nat) ↦ l.g i) m)).g i) (L.ivV m) ≤ (1000000 : Nat)) ∧ ((bif bif bif
 !Decidable.decide (L.ivE m = (0 : Int)) then Bool.true else !Decidable.decide (L.movE (L.Sq.mk (L.movN (L.Sq.mk l.n fun (i : Nat) ↦ l.g i) m) fun (i : Nat) ↦ (L.norm (L.moved (L.Sq.mk l.n fun (i : Nat) ↦ l.g i) m)).g i) (L.ivV m) = (0 : Int)) then Bool.true else !Decidable.decide (L.invE (L.movS (L.Sq.mk l.n fun (i : Nat) ↦ l.g i) m) (↑l.n : Int) = (0 : Int)) then Bool.true else !L.sameP (L.Sq.mk
 (L.movN (L.Sq.mk (L.movN (L.Sq.mk l.n fun (i : Nat) ↦ l.g i) m) fun (i : Nat) ↦ (L.norm (L.moved (L.Sq.mk l.n fun (i : Nat) ↦ l.g i) m)).g i) (L.ivV m)) fun (i : Nat) ↦ (L.norm (L.moved (L.Sq.mk (L.movN (L.Sq.mk l.n fun (i : Nat) ↦ l.g i) m) fun (i : Nat) ↦ (L.norm (L.moved (L.Sq.mk l.n fun (i : Nat) ↦ l.g i) m)).g i) (L.ivV m))).g i) (L.Sq.mk l.n fun (i : Nat) ↦ l.g i)) = Bool.true → Bool.false =
 Bool.true) ∧ ((bif bif bif !Decidable.decide (L.ivE m = (0 : Int)) then Bool.true else !Decidable.decide (L.movE (L.Sq.mk (L.movN (L.Sq.mk l.n fun (i : Nat) ↦ l.g i) m) fun (i : Nat) ↦ (L.norm (L.moved (L.Sq.mk l.n fun (i : Nat) ↦ l.g i) m)).g i) (L.ivV m) = (0 : Int)) then Bool.true else !Decidable.decide (L.invE (L.movS (L.Sq.mk l.n fun (i : Nat) ↦ l.g i) m) (↑l.n : Int) = (0 : Int)) then
 Bool.true else !L.sameP (L.Sq.mk (L.movN (L.Sq.mk (L.movN (L.Sq.mk l.n fun (i : Nat) ↦ l.g i) m) fun (i : Nat) ↦ (L.norm (L.moved (L.Sq.mk l.n fun (i : Nat) ↦ l.g i) m)).g i) (L.ivV m)) fun (i : Nat) ↦ (L.norm (L.moved (L.Sq.mk (L.movN (L.Sq.mk l.n fun (i : Nat) ↦ l.g i) m) fun (i : Nat) ↦ (L.norm (L.moved (L.Sq.mk l.n fun (i : Nat) ↦ l.g i) m)).g i) (L.ivV m))).g i) (L.Sq.mk l.n fun (i : Nat) ↦
 l.g i)) = Bool.false → True ∧ ((∀ (i : Nat), i < l.n → [Go.SE.SV.int Go.IntKind.i64 (l.g i).x, Go.SE.SV.int Go.IntKind.i64 (l.g i).y] = [Go.SE.SV.int Go.IntKind.i64 (l.g i).x, Go.SE.SV.int Go.IntKind.i64 (l.g i).y]) ∧ (∀ (i : Nat), i < l.n → [Go.SE.SV.int Go.IntKind.i64 (l.g i).x, Go.SE.SV.int Go.IntKind.i64 (l.g i).y] = [Go.SE.SV.int Go.IntKind.i64 (l.g i).x, Go.SE.SV.int Go.IntKind.i64 (l.g
 i).y]) ∧ l.n ≤ (1000000 : Nat) ∧ l.n ≤ (1000000 : Nat)) ∧ ((!bif bif !Decidable.decide (L.compE (L.movS (L.Sq.mk l.n fun (i : Nat) ↦ l.g i) m) (L.movS (L.Sq.mk (L.movN (L.Sq.mk l.n fun (i : Nat) ↦ l.g i) m) fun (i : Nat) ↦ (L.norm (L.moved (L.Sq.mk l.n fun (i : Nat) ↦ l.g i) m)).g i) (L.ivV m)) (↑l.n : Int) = (0 : Int)) then Bool.true else !Decidable.decide (L.conE (L.Sq.mk l.n fun (i : Nat) ↦ l.g
 i) (L.Sq.mk l.n fun (i : Nat) ↦ l.g i) = (0 : Int)) then Bool.true else !(Decidable.decide ((L.comp (L.movS (L.Sq.mk l.n fun (i : Nat) ↦ l.g i) m) (L.movS (L.Sq.mk (L.movN (L.Sq.mk l.n fun (i : Nat) ↦ l.g i) m) fun (i : Nat) ↦ (L.norm (L.moved (L.Sq.mk l.n fun (i : Nat) ↦ l.g i) m)).g i) (L.ivV m)) (↑l.n : Int)).shift = (0 : Int)) && (L.comp (L.movS (L.Sq.mk l.n fun (i : Nat) ↦ l.g i) m) (L.movS
 (L.Sq.mk (L.movN (L.Sq.mk l.n fun (i : Nat) ↦ l.g i) m) fun (i : Nat) ↦ (L.norm (L.moved (L.Sq.mk l.n fun (i : Nat) ↦ l.g i) m)).g i) (L.ivV m)) (↑l.n : Int)).back == Bool.false)) = Bool.true → (∀ (i : Nat), i < L.conN (L.Sq.mk l.n fun (i : Nat) ↦ l.g i) (L.Sq.mk l.n fun (i : Nat) ↦ l.g i) → [Go.SE.SV.int Go.IntKind.i64 (L.conG (L.Sq.mk l.n fun (i : Nat) ↦ l.g i) (L.Sq.mk l.n fun (i : Nat) ↦ l.g
 i) i).shift, Go.SE.SV.bool (L.conG (L.Sq.mk l.n fun (i : Nat) ↦ l.g i) (L.Sq.mk l.n fun (i : Nat) ↦ l.g i) i).back] = [Go.SE.SV.int Go.IntKind.i64 (L.conG (L.Sq.mk l.n fun (i : Nat) ↦ l.g i) (L.Sq.mk l.n fun (i : Nat) ↦ l.g i) i).shift, Go.SE.SV.bool (L.conG (L.Sq.mk l.n fun (i : Nat) ↦ l.g i) (L.Sq.mk l.n fun (i : Nat) ↦ l.g i) i).back]) ∧ L.conN (L.Sq.mk l.n fun (i : Nat) ↦ l.g i) (L.Sq.mk l.n
 fun (i : Nat) ↦ l.g i) ≤ (1000000 : Nat)) ∧ ((bif bif bif bif !Decidable.decide (L.compE (L.movS (L.Sq.mk l.n fun (i : Nat) ↦ l.g i) m) (L.movS (L.Sq.mk (L.movN (L.Sq.mk l.n fun (i : Nat) ↦ l.g i) m) fun (i : Nat) ↦ (L.norm (L.moved (L.Sq.mk l.n fun (i : Nat) ↦ l.g i) m)).g i) (L.ivV m)) (↑l.n : Int) = (0 : Int)) then Bool.true else !Decidable.decide (L.conE (L.Sq.mk l.n fun (i : Nat) ↦ l.g i)
 (L.Sq.mk l.n fun (i : Nat) ↦ l.g i) = (0 : Int)) then Bool.true else !(Decidable.decide ((L.comp (L.movS (L.Sq.mk l.n fun (i : Nat) ↦ l.g i) m) (L.movS (L.Sq.mk (L.movN (L.Sq.mk l.n fun (i : Nat) ↦ l.g i) m) fun (i : Nat) ↦ (L.norm (L.moved (L.Sq.mk l.n fun (i : Nat) ↦ l.g i) m)).g i) (L.ivV m)) (↑l.n : Int)).shift = (0 : Int)) && (L.comp (L.movS (L.Sq.mk l.n fun (i : Nat) ↦ l.g i) m) (L.movS
 (L.Sq.mk (L.movN (L.Sq.mk l.n fun (i : Nat) ↦ l.g i) m) fun (i : Nat) ↦ (L.norm (L.moved (L.Sq.mk l.n fun (i : Nat) ↦ l.g i) m)).g i) (L.ivV m)) (↑l.n : Int)).back == Bool.false) then Bool.true else !L.among (L.Sq.mk (L.conN (L.Sq.mk l.n fun (i : Nat) ↦ l.g i) (L.Sq.mk l.n fun (i : Nat) ↦ l.g i)) fun (i : Nat) ↦ L.conG (L.Sq.mk l.n fun (i : Nat) ↦ l.g i) (L.Sq.mk l.n fun (i : Nat) ↦ l.g i) i)
 (L.comp (L.movS (L.Sq.mk l.n fun (i : Nat) ↦ l.g i) m) (L.movS (L.Sq.mk (L.movN (L.Sq.mk l.n fun (i : Nat) ↦ l.g i) m) fun (i : Nat) ↦ (L.norm (L.moved (L.Sq.mk l.n fun (i : Nat) ↦ l.g i) m)).g i) (L.ivV m)) (↑l.n : Int)) then Bool.true else !(Decidable.decide ((L.inv (L.movS (L.Sq.mk l.n fun (i : Nat) ↦ l.g i) m) (↑l.n : Int)).shift = (L.movS (L.Sq.mk (L.movN (L.Sq.mk l.n fun (i : Nat) ↦ l.g i)
 m) fun (i : Nat) ↦ (L.norm (L.moved (L.Sq.mk l.n fun (i : Nat) ↦ l.g i) m)).g i) (L.ivV m)).shift) && (L.inv (L.movS (L.Sq.mk l.n fun (i : Nat) ↦ l.g i) m) (↑l.n : Int)).back == (L.movS (L.Sq.mk (L.movN (L.Sq.mk l.n fun (i : Nat) ↦ l.g i) m) fun (i : Nat) ↦ (L.norm (L.moved (L.Sq.mk l.n fun (i : Nat) ↦ l.g i) m)).g i) (L.ivV m)).back)) = Bool.true → Bool.false = Bool.true) ∧ ((bif bif bif bif
 !Decidable.decide (L.compE (L.movS (L.Sq.mk l.n fun (i : Nat) ↦ l.g i) m) (L.movS (L.Sq.mk (L.movN (L.Sq.mk l.n fun (i : Nat) ↦ l.g i) m) fun (i : Nat) ↦ (L.norm (L.moved (L.Sq.mk l.n fun (i : Nat) ↦ l.g i) m)).g i) (L.ivV m)) (↑l.n : Int) = (0 : Int)) then Bool.true else !Decidable.decide (L.conE (L.Sq.mk l.n fun (i : Nat) ↦ l.g i) (L.Sq.mk l.n fun (i : Nat) ↦ l.g i) = (0 : Int)) then Bool.true
 else !(Decidable.decide ((L.comp (L.movS (L.Sq.mk l.n fun (i : Nat) ↦ l.g i) m) (L.movS (L.Sq.mk (L.movN (L.Sq.mk l.n fun (i : Nat) ↦ l.g i) m) fun (i : Nat) ↦ (L.norm (L.moved (L.Sq.mk l.n fun (i : Nat) ↦ l.g i) m)).g i) (L.ivV m)) (↑l.n : Int)).shift = (0 : Int)) && (L.comp (L.movS (L.Sq.mk l.n fun (i : Nat) ↦ l.g i) m) (L.movS (L.Sq.mk (L.movN (L.Sq.mk l.n fun (i : Nat) ↦ l.g i) m) fun (i :
 Nat) ↦ (L.norm (L.moved (L.Sq.mk l.n fun (i : Nat) ↦ l.g i) m)).g i) (L.ivV m)) (↑l.n : Int)).back == Bool.false) then Bool.true else !L.among (L.Sq.mk (L.conN (L.Sq.mk l.n fun (i : Nat) ↦ l.g i) (L.Sq.mk l.n fun (i : Nat) ↦ l.g i)) fun (i : Nat) ↦ L.conG (L.Sq.mk l.n fun (i : Nat) ↦ l.g i) (L.Sq.mk l.n fun (i : Nat) ↦ l.g i) i) (L.comp (L.movS (L.Sq.mk l.n fun (i : Nat) ↦ l.g i) m) (L.movS
 (L.Sq.mk (L.movN (L.Sq.mk l.n fun (i : Nat) ↦ l.g i) m) fun (i : Nat) ↦ (L.norm (L.moved (L.Sq.mk l.n fun (i : Nat) ↦ l.g i) m)).g i) (L.ivV m)) (↑l.n : Int)) then Bool.true else !(Decidable.decide ((L.inv (L.movS (L.Sq.mk l.n fun (i : Nat) ↦ l.g i) m) (↑l.n : Int)).shift = (L.movS (L.Sq.mk (L.movN (L.Sq.mk l.n fun (i : Nat) ↦ l.g i) m) fun (i : Nat) ↦ (L.norm (L.moved (L.Sq.mk l.n fun (i : Nat) ↦
 l.g i) m)).g i) (L.ivV m)).shift) && (L.inv (L.movS (L.Sq.mk l.n fun (i : Nat) ↦ l.g i) m) (↑l.n : Int)).back == (L.movS (L.Sq.mk (L.movN (L.Sq.mk l.n fun (i : Nat) ↦ l.g i) m) fun (i : Nat) ↦ (L.norm (L.moved (L.Sq.mk l.n fun (i : Nat) ↦ l.g i) m)).g i) (L.ivV m)).back)) = Bool.false → True ∧ ((∀ (i : Nat), i < L.movN (L.Sq.mk l.n fun (i : Nat) ↦ l.g i) m → [Go.SE.SV.int Go.IntKind.i64 ((L.norm
 (L.moved (L.Sq.mk l.n fun (i : Nat) ↦ l.g i) m)).g i).x, Go.SE.SV.int Go.IntKind.i64 ((L.norm (L.moved (L.Sq.mk l.n fun (i : Nat) ↦ l.g i) m)).g i).y] = [Go.SE.SV.int Go.IntKind.i64 ((L.norm (L.moved (L.Sq.mk l.n fun (i : Nat) ↦ l.g i) m)).g i).x, Go.SE.SV.int Go.IntKind.i64 ((L.norm (L.moved (L.Sq.mk l.n fun (i : Nat) ↦ l.g i) m)).g i).y]) ∧ L.movN (L.Sq.mk l.n fun (i : Nat) ↦ l.g i) m ≤ (1000000
 : Nat)) ∧ ((bif !Decidable.decide (L.cmE m n = (0 : Int)) then Bool.true else !Decidable.decide (L.movE (L.Sq.mk (L.movN (L.Sq.mk l.n fun (i : Nat) ↦ l.g i) m) fun (i : Nat) ↦ (L.norm (L.moved (L.Sq.mk l.n fun (i : Nat) ↦ l.g i) m)).g i) n = (0 : Int))) = Bool.true → (bif Bool.true then bif Decidable.decide (L.cmE m n = (0 : Int)) then Bool.true else Decidable.decide (L.cmE m n = (2 : Int)) else
 Bool.false) = Bool.true) ∧ ((bif !Decidable.decide (L.cmE m n = (0 : Int)) then Bool.true else !Decidable.decide (L.movE (L.Sq.mk (L.movN (L.Sq.mk l.n fun (i : Nat) ↦ l.g i) m) fun (i : Nat) ↦ (L.norm (L.moved (L.Sq.mk l.n fun (i : Nat) ↦ l.g i) m)).g i) n = (0 : Int))) = Bool.false → ((∀ (i : Nat), i < l.n → [Go.SE.SV.int Go.IntKind.i64 (l.g i).x, Go.SE.SV.int Go.IntKind.i64 (l.g i).y] =
 [Go.SE.SV.int Go.IntKind.i64 (l.g i).x, Go.SE.SV.int Go.IntKind.i64 (l.g i).y]) ∧ l.n ≤ (1000000 : Nat)) ∧ ((bif Bool.true then Decidable.decide (L.movE (L.Sq.mk l.n fun (i : Nat) ↦ l.g i) (L.cmV m n) = (0 : Int)) else Bool.false) = Bool.true → (∀ (i : Nat), i < L.movN (L.Sq.mk (L.movN (L.Sq.mk l.n fun (i : Nat) ↦ l.g i) m) fun (i : Nat) ↦ (L.norm (L.moved (L.Sq.mk l.n fun (i : Nat) ↦ l.g i) m)).g
 i) n → [Go.SE.SV.int Go.IntKind.i64 ((L.norm (L.moved (L.Sq.mk (L.movN (L.Sq.mk l.n fun (i : Nat) ↦ l.g i) m) fun (i : Nat) ↦ (L.norm (L.moved (L.Sq.mk l.n fun (i : Nat) ↦ l.g i) m)).g i) n)).g i).x, Go.SE.SV.int Go.IntKind.i64 ((L.norm (L.moved (L.Sq.mk (L.movN (L.Sq.mk l.n fun (i : Nat) ↦ l.g i) m) fun (i : Nat) ↦ (L.norm (L.moved (L.Sq.mk l.n fun (i : Nat) ↦ l.g i) m)).g i) n)).g i).y] =
 [Go.SE.SV.int Go.IntKind.i64 ((L.norm (L.moved (L.Sq.mk (L.movN (L.Sq.mk l.n fun (i : Nat) ↦ l.g i) m) fun (i : Nat) ↦ (L.norm (L.moved (L.Sq.mk l.n fun (i : Nat) ↦ l.g i) m)).g i) n)).g i).x, Go.SE.SV.int Go.IntKind.i64 ((L.norm (L.moved (L.Sq.mk (L.movN (L.Sq.mk l.n fun (i : Nat) ↦ l.g i) m) fun (i : Nat) ↦ (L.norm (L.moved (L.Sq.mk l.n fun (i : Nat) ↦ l.g i) m)).g i) n)).g i).y]) ∧ (∀ (i :
 Nat), i < L.movN (L.Sq.mk l.n fun (i : Nat) ↦ l.g i) (L.cmV m n) → [Go.SE.SV.int Go.IntKind.i64 ((L.norm (L.moved (L.Sq.mk l.n fun (i : Nat) ↦ l.g i) (L.cmV m n))).g i).x, Go.SE.SV.int Go.IntKind.i64 ((L.norm (L.moved (L.Sq.mk l.n fun (i : Nat) ↦ l.g i) (L.cmV m n))).g i).y] = [Go.SE.SV.int Go.IntKind.i64 ((L.norm (L.moved (L.Sq.mk l.n fun (i : Nat) ↦ l.g i) (L.cmV m n))).g i).x, Go.SE.SV.int
 Go.IntKind.i64 ((L.norm (L.moved (L.Sq.mk l.n fun (i : Nat) ↦ l.g i) (L.cmV m n))).g i).y]) ∧ L.movN (L.Sq.mk (L.movN (L.Sq.mk l.n fun (i : Nat) ↦ l.g i) m) fun (i : Nat) ↦ (L.norm (L.moved (L.Sq.mk l.n fun (i : Nat) ↦ l.g i) m)).g i) n ≤ (1000000 : Nat)) ∧ (bif bif Bool.true then Decidable.decide (L.movE (L.Sq.mk l.n fun (i : Nat) ↦ l.g i) (L.cmV m n) = (0 : Int)) else Bool.false then L.sameP
 (L.Sq.mk (L.movN (L.Sq.mk (L.movN (L.Sq.mk l.n fun (i : Nat) ↦ l.g i) m) fun (i : Nat) ↦ (L.norm (L.moved (L.Sq.mk l.n fun (i : Nat) ↦ l.g i) m)).g i) n) fun (i : Nat) ↦ (L.norm (L.moved (L.Sq.mk (L.movN (L.Sq.mk l.n fun (i : Nat) ↦ l.g i) m) fun (i : Nat) ↦ (L.norm (L.moved (L.Sq.mk l.n fun (i : Nat) ↦ l.g i) m)).g i) n)).g i) (L.Sq.mk (L.movN (L.Sq.mk l.n fun (i : Nat) ↦ l.g i) (L.cmV m n)) fun
 (i : Nat) ↦ (L.norm (L.moved (L.Sq.mk l.n fun (i : Nat) ↦ l.g i) (L.cmV m n))).g i) else Bool.false) = Bool.true)))))))) (by kernel_rfl) (by
    have hn0 := hp
    refine ⟨trivial, fun _ => ⟨fun _ _ => rfl, trivial⟩, fun _ => trivial, fun _ => trivial, fun _ => rfl, fun h => ?_⟩
    simp only [bor, Bool.or_eq_false_iff, decide_eq_false_iff_not] at h
    obtain ⟨⟨⟨h1, h2⟩, h3⟩, h4⟩ := h
    have hv : L.validOutline l = true := notF h2
    have hm := notF h3
    have hn := notF h4
    obtain ⟨n3, n24, _, _⟩ := validOutline_of hv
    refine ⟨⟨fun _ _ => rfl, by omega⟩, fun he => ?_, fun he => ?_⟩
    · rcases movE_of hv hm with ⟨e, _⟩ | e
      · rw [e] at he; cases he
      · rw [e]; rfl
    have he : L.movE l m = 0 := of_decide_eq_true (notF he)
    have hpts : L.validPts (L.moved l m) = true := by
      rcases movE_of hv hm with ⟨_, e⟩ | e
      · exact e
      · omega
    have eM : L.movN l m = l.n := by unfold L.movN; rw [he]; rfl
    have eQ : (⟨L.movN l m, fun i => (L.norm (L.moved l m)).g i⟩ : L.Sq L.Pt) = L.norm (L.moved l m) := by rw [eM]; rfl
    have hqv := norm_valid hv hpts
    have hA := rig_area (m := m) hv
    have hcon := con_mov hv hm hpts
    have hSv := movS_valid hv he
    have hSb := (movS_of hv he).2.2.1
    have hbk := back_ok hv hm
    have hri := (back_is hv hm hpts).2
    have hcs := back_set hv hm hpts
    have hiM := ivM_valid hm
    have hTe := movE0 hqv hiM hbk
    have hTv : L.validSet (L.movS (L.norm (L.moved l m)) (L.ivM m)) l.n = true := movS_valid hqv hTe
    have h2 := fun hq => two_is hv hm hn hpts hq
    have hqn : (L.norm (L.moved l m)).n = l.n := rfl
    have hqE := movE_of hqv hn
    have hie : L.ivE m = 0 := by unfold L.ivE; rw [hm]; rfl
    have hiv : L.ivV m = L.ivM m := by unfold L.ivV; rw [hm]; rfl
    rw [eQ, eM, hiv]
    clear eQ
    generalize L.norm (L.moved l m) = q at *
    generalize L.movS l m = S at *
    have eM2 : L.movN q (L.ivM m) = l.n := by unfold L.movN; rw [hTe]; exact hqn
    have cE := conE_zero hv hqv
    have cE' := conE_zero hv hv
    have hAny : L.anyB (L.conN l q) (fun j => L.sameS (L.conG l q j) S) = true := hcon
    have hsame : L.sameP ⟨L.movN q (L.ivM m), fun i => (L.norm (L.moved q (L.ivM m))).g i⟩ l = true := by rw [eM2]; exact sameP_of rfl hri
    have hinv := inv_of hSv hTv hcs
    have hinvE := (inv_ok hSv).1
    have hcE := (comp_ok hSv hTv).1
    have hone := con_one hv
    have o1 : L.one.shift = 0 := rfl
    have o2 : L.one.back = false := rfl
    have bN := con_le2 l q
    have bN' := con_le2 l l
    refine ⟨⟨fun _ _ => rfl, by omega⟩, ⟨fun _ _ => rfl, by omega⟩, ⟨fun _ _ => rfl, fun _ _ => rfl, by omega, by omega⟩, ⟨(0 : Nat), rfl, rfl, Nat.zero_le _⟩, fun g hg => ⟨fun hlt => ?_, fun hge => ?_⟩⟩
    · have hb : (g : Int) < (L.conN l q : Int) := of_decide_eq_true hlt
      refine ⟨fun _ => ⟨by omega, hb⟩, InK.of (by omega) (by omega), g + 1, ?_, by omega, rfl, ⟨rfl, fun _ _ => rfl⟩, rfl, rfl, rfl, rfl, rfl, ⟨rfl, fun _ _ => rfl⟩, rfl, rfl, rfl, rfl, ⟨rfl, fun _ _ => rfl⟩, rfl, rfl, by omega, by omega⟩
      rw [Int.toNat_natCast, bor]; rfl
    have hb : ¬ (g : Int) < (L.conN l q : Int) := of_decide_eq_false hge
    obtain rfl : g = L.conN l q := by omega
    refine ⟨fun h => ?_, fun _ => ⟨trivial, ⟨fun _ _ => rfl, by omega⟩, trivial, fun _ => ⟨fun _ _ => rfl, fun _ _ => rfl, show L.movN q (L.ivM m) ≤ 1000000 by omega⟩, fun h => ?_, fun _ => ⟨trivial, ⟨fun _ _ => rfl, fun _ _ => rfl, by omega, by omega⟩, fun _ => ⟨fun _ _ => rfl, show L.conN l l ≤ 1000000 by omega⟩, fun h => ?_, fun _ => ⟨trivial, ⟨fun _ _ => rfl, by omega⟩, fun h => ?_, fun h => ?_⟩⟩⟩⟩
    · exfalso
      simp [hv, hqv, hA, cE, hAny, hSb] at h
    · exfalso
      simp [hie, hTe, hinvE, hsame] at h
    · exfalso
      rw [hcs, hinv] at h
      simp [hcE, cE', hone, o1, o2] at h
    · have hcm : L.cmE m n = 0 ∨ L.cmE m n = 2 := by
        unfold L.cmE
        rw [hm, hn]
        cases L.validM (L.cmM m n)
        · exact .inr rfl
        · exact .inl rfl
      rcases hcm with e | e <;> rw [e] <;> rfl
    · rw [bor, Bool.or_eq_false_iff] at h
      have hc := of_decide_eq_true (notF h.1)
      have hz := of_decide_eq_true (notF h.2)
      have hq2 : L.validPts (L.moved q n) = true := by
        rcases hqE with ⟨_, e⟩ | e
        · exact e
        · omega
      obtain ⟨t1, t2⟩ := h2 hq2
      have hcv : L.validM (L.cmM m n) = true := by
        unfold L.cmE at hc
        rw [hm, hn] at hc
        cases hx : L.validM (L.cmM m n) with
        | true => rfl
        | false => rw [hx] at hc; cases hc
      have hV : L.cmV m n = L.cmM m n := by unfold L.cmV; rw [hc]; rfl
      have hz2 := movE0 hv hcv t1
      have m1 : L.movN q n = l.n := by unfold L.movN; rw [hz]; exact hqn
      have m2 : L.movN l (L.cmM m n) = l.n := by unfold L.movN; rw [hz2]; rfl
      rw [hV, hz2, m1, m2]
      refine ⟨⟨fun _ _ => rfl, by omega⟩, fun _ => ⟨fun _ _ => rfl, fun _ _ => rfl, show l.n ≤ 1000000 by omega⟩, ?_⟩
      exact sameP_of rfl t2)
theorem w_PRigid_ok : SpecOk Tryz.prog 8 w_PRigid_S := fnX Tryz.func8 (c := bodyOf Tryz.f8) (by kernel_rfl) mixed (fun args p r hs hp => by
  unfold w_PRigid_s at hs
  split at hs
  · cases hs; exact ⟨_, _, w_PRigid_vc _ _ _ hp.2, (.p (.sl hp.1) (.same _ (.same _ .nil))), ⟨show SpecsL Tryz.prog _ from (SpecsL.cons w_awake_ok w_awake_en (SpecsL.cons r1_ValidOutline_ok r1_ValidOutline_en (SpecsL.cons r1_ValidMotion_ok r1_ValidMotion_en (SpecsL.cons p_Move_ok p_Move_en (SpecsL.cons p_Area_ok p_Area_en (SpecsL.cons p_Settings_ok p_Settings_en (SpecsL.cons p_InvertM_ok p_InvertM_en (SpecsL.cons p_Inverse_ok p_Inverse_en (SpecsL.cons r1_SamePoints_ok r1_SamePoints_en (SpecsL.cons p_Compose_ok p_Compose_en (SpecsL.cons w_among1_ok w_among1_en (SpecsL.cons p_ComposeM_ok p_ComposeM_en SpecsL.nil)))))))))))), rfl, ⟨show ItersL Tryz.prog _ from ItersL.nil, (TrsOk.none (fun _ => rfl))⟩⟩⟩
  · cases hs)
theorem w_PRigid_en : Enters Tryz.prog 8 := fun args w => by kernel_rfl
theorem w_PRigid_B : ∀ args p r, w_PRigid_s args = some (p, r) → ∃ b, r = .bool b := by
  intro args p r h
  unfold w_PRigid_s at h
  split at h
  · cases h; exact ⟨_, rfl⟩
  · cases h
end Go.Proofs.YtooapgllahonaaaGreat
