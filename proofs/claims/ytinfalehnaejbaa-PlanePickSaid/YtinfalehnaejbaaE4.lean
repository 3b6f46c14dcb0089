/- A symbolic walk over the model, and what it shows of functions of the program: parts of the proof that the text of the row joins. -/
import Derived.Test.YtinfalehnaejbaaE3
import Derived.ProofKit
import Derived.Shelf.SlSortCmp.NoneTotal
import Derived.ScopeJumps
import Derived.Laws.IdiomCopy
import Derived.Lib.SliceRun
import Derived.WalkKit
import Derived.Deep.RegionLaw
import Derived.Lib.Walk
import Derived.Shelf.RegionOpenPlain

/- The engine, part Zc: arguments of plain data that are read as they are typed stand for symbols; what a law's call leaves. -/
namespace Go.SE
open Go.RowKit Go.ChangeShapes Go.WideShapes

/-- The shapes of plain data: numbers, bools, structs and slices of these. -/
inductive Sh where
  | int
  | bool
  | st (l : List Sh)
  | sl (e : Sh)

def Sh.size : Sh → Nat
  | .int => 1
  | .bool => 1
  | .sl _ => 1
  | .st l => sizes l
where sizes : List Sh → Nat
  | [] => 0
  | s :: l => s.size + sizes l

/-- A value's cells as symbols. -/
def Fit : Sh → List SV → Prop
  | .int, l => ∃ n, l = [.int .i64 n] ∧ InK .i64 n
  | .bool, l => ∃ b, l = [.bool b]
  | .sl e, l => ∃ n g, l = [.sl e.size n g] ∧ n ≤ maxLen ∧ ∀ i, i < n → Fit e (g i)
  | .st ss, l => fits ss l
where fits : List Sh → List SV → Prop
  | [], l => l = []
  | s :: ss, l => ∃ a b, l = a ++ b ∧ Fit s a ∧ fits ss b

/-- Is the type of that shape? -/
def ShOk (P : Program) : Sh → TypeId → Bool
  | .int, t => match P.underlying t with | some (.int .i64) => true | _ => false
  | .bool, t => match P.underlying t with | some .bool => true | _ => false
  | .sl e, t => match P.underlying t with | some (.slice et) => P.cellsOf et == e.size && decide (0 < e.size) && ShOk P e et | _ => false
  | .st ss, t => match P.underlying t with | some (.struct fs) => P.cellsOf t == Sh.size.sizes ss && fields P ss fs.toList 0 | _ => false
where fields (P : Program) : List Sh → List Field → Nat → Bool
  | [], [], _ => true
  | s :: ss, f :: fs, off => f.offset == off && P.cellsOf f.type == s.size && ShOk P s f.type && fields P ss fs (off + s.size)
  | _, _, _ => false

variable {H : Type} {enc : TypeId × Value → H} {P : Program} {w : World} {base : Nat} {spare : Nat → Bool} {held : Bool}

/-- What the cells stand for, whole. -/
def Reads (w : World) (sh : Sh) (cs : List Value) : Prop := ∃ ss, Fit sh ss ∧ ss.length = sh.size ∧ DenL (fun b => b < w.heap.size) w ss cs ∧ ∀ v, v ∈ cs → v.oneCell' = true

theorem denL_app {M : Nat → Prop} {xs0 bs : List SV} {us vs : List Value} (h1 : DenL M w xs0 us) (h2 : DenL M w bs vs) : DenL M w (xs0 ++ bs) (us ++ vs) := by
  refine ⟨by simp [h1.1, h2.1], fun i hi => ?_⟩
  simp only [SV.at, List.getD_eq_getElem?_getD]
  by_cases hlt : i < xs0.length
  · rw [List.getElem?_append_left hlt, List.getElem?_append_left (by have := h1.1; omega)]
    have := h1.2 i hlt
    simpa [SV.at, List.getD_eq_getElem?_getD] using this
  · have e := h1.1
    rw [List.getElem?_append_right (by omega), List.getElem?_append_right (by omega), e]
    have := h2.2 (i - xs0.length) (by simp at hi; omega)
    simpa [SV.at, List.getD_eq_getElem?_getD] using this

theorem block_lt' {a : Addr} {v : Value} (h : w.cell? a = some v) : a.block < w.heap.size := by
  rcases Nat.lt_or_ge a.block w.heap.size with h' | h'
  · exact h'
  · simp [World.cell?, Array.getElem?_eq_none h'] at h

theorem int_wf {n : Int} (h : (Lit.int .i64 n).wf = true) : InK .i64 n := by
  simp [Lit.wf] at h
  have e1 : IntKind.i64.min = -9223372036854775808 := rfl
  have e2 : IntKind.i64.max = 9223372036854775807 := rfl
  exact ⟨by omega, by omega⟩
mutual
theorem reads_of_trod : ∀ (sh : Sh) {t : TypeId} {fuel : Nat} {cs : List Value} {x : DataW H × List MemPlace}, ShOk P sh t = true → DataW.trod enc P w base spare held fuel t cs = some x → Reads w sh cs
  | .int, t, fuel, cs, x, hs, h => by
    unfold ShOk at hs
    split at hs
    · rename_i ht
      obtain ⟨n, rfl, _, hw⟩ := DataW.trod_int ht h
      exact ⟨[.int .i64 n], ⟨n, rfl, int_wf hw⟩, rfl, ⟨rfl, fun i hi => by
        obtain rfl : i = 0 := by simpa using hi
        exact .int _ _⟩, fun v hv => by simp at hv; subst hv; rfl⟩
    · cases hs
  | .bool, t, fuel, cs, x, hs, h => by
    unfold ShOk at hs
    split at hs
    · rename_i ht
      obtain ⟨b, rfl, _⟩ := DataW.trod_bool ht h
      exact ⟨[.bool b], ⟨b, rfl⟩, rfl, ⟨rfl, fun i hi => by
        obtain rfl : i = 0 := by simpa using hi
        exact .bool _⟩, fun v hv => by simp at hv; subst hv; rfl⟩
    · cases hs
  | .sl e, t, fuel, cs, x, hs, h => by
    unfold ShOk at hs
    split at hs
    rotate_left
    · cases hs
    rename_i et ht
    simp only [Bool.and_eq_true, beq_iff_eq, decide_eq_true_eq] at hs
    obtain ⟨⟨hc, hpos⟩, hs⟩ := hs
    rcases DataW.trod_slice ht h with ⟨rfl, _⟩ | ⟨a, len, cap, elems, rest, n, _, rfl, _, hb, hl, hm, hlen, hel, _, _⟩
    · refine ⟨[.sl e.size 0 (fun _ => [])], ⟨0, _, rfl, Nat.zero_le _, fun i hi => absurd hi (Nat.not_lt_zero _)⟩, rfl, ⟨rfl, fun i hi => ?_⟩, fun v hv => by simp at hv; subst hv; rfl⟩
      obtain rfl : i = 0 := by simpa using hi
      exact .sl _ _ _ _ _ (fun _ _ => undef) (Nat.le_refl _) (Nat.zero_le _) (fun h => absurd h (Nat.lt_irrefl _)) (fun i hi => absurd hi (Nat.not_lt_zero _)) (fun i hi => absurd hi (Nat.not_lt_zero _)) (fun i hi => absurd hi (Nat.not_lt_zero _))
    · have each : ∀ i, i < len → ∃ ci, w.cells? base (a.add (i * e.size)) e.size = some ci ∧ Reads w e ci := fun i hi => by
        have h1 := hel i hi
        rw [List.getElem?_eq_getElem (by omega), hc, Option.bind_eq_some_iff] at h1
        obtain ⟨ci, h2, h3⟩ := h1
        exact ⟨ci, h2, reads_of_trod e hs h3⟩
      let ci : Nat → List Value := fun i => if h : i < len then Classical.choose (each i h) else []
      have hci : ∀ i, i < len → w.cells? base (a.add (i * e.size)) e.size = some (ci i) ∧ Reads w e (ci i) := fun i hi => by
        simp only [ci, hi, dif_pos]; exact Classical.choose_spec (each i hi)
      let si : Nat → List SV := fun i => if h : i < len then Classical.choose (hci i h).2 else []
      have hsi : ∀ i, i < len → Fit e (si i) ∧ (si i).length = e.size ∧ DenL (fun b => b < w.heap.size) w (si i) (ci i) ∧ ∀ v, v ∈ ci i → v.oneCell' = true := fun i hi => by
        simp only [si, hi, dif_pos]; exact Classical.choose_spec (hci i hi).2
      refine ⟨[.sl e.size len si], ⟨len, si, rfl, by omega, fun i hi => (hsi i hi).1⟩, rfl, ⟨rfl, fun i hi => ?_⟩, fun v hv => by simp at hv; subst hv; rfl⟩
      obtain rfl : i = 0 := by simpa using hi
      refine .sl _ _ _ _ _ (fun i j => (ci i).getD j undef) hl (by omega) (fun hn => ⟨a, rfl, ?_, fun i hi j hj => ?_⟩) (fun i hi => (hsi i hi).2.1) (fun i hi j hj => ?_) (fun i hi j hj => ?_)
      · obtain ⟨_, h2, h3⟩ := World.cells?_some (hci 0 hn).1
        have h4 := h3 0 hpos
        rw [List.getElem?_eq_getElem (by omega)] at h4
        have := block_lt' h4
        rw [block_add, block_add] at this; exact this
      · obtain ⟨_, h2, h3⟩ := World.cells?_some (hci i hi).1
        have h4 := h3 j hj
        rw [add_add] at h4
        rw [h4, List.getD_eq_getElem?_getD, List.getElem?_eq_getElem (by omega)]; rfl
      · obtain ⟨_, h2, _⟩ := World.cells?_some (hci i hi).1
        rw [List.getD_eq_getElem?_getD, List.getElem?_eq_getElem (by omega)]
        exact (hsi i hi).2.2.2 _ (List.getElem_mem _)
      · exact (hsi i hi).2.2.1.2 j (by rw [(hsi i hi).2.1]; exact hj)
  | .st ss, t, fuel, cs, x, hs, h => by
    unfold ShOk at hs
    split at hs
    rotate_left
    · cases hs
    rename_i fs ht
    simp only [Bool.and_eq_true, beq_iff_eq] at hs
    obtain ⟨hc, hs⟩ := hs
    obtain ⟨xs, n, _, _, hlen, hxl, hf⟩ := DataW.trod_struct ht h
    have := reads_of_fields ss hs (cs := cs) (by rw [hlen, hc, Nat.zero_add]) (fun i f hi => by
      have h1 := hf i f (by simpa using hi)
      have hlt : i < fs.size := by
        have := (List.getElem?_eq_some_iff.1 hi).1
        simpa using this
      rw [List.getElem?_eq_getElem (by omega)] at h1
      exact ⟨n, _, h1⟩)
    obtain ⟨l, h1, h2, h3, h4⟩ := this
    exact ⟨l, by unfold Fit; exact h1, by unfold Sh.size; exact h2, by simpa using h3, by simpa using h4⟩
theorem reads_of_fields : ∀ (ss : List Sh) {fs : List Field} {off : Nat} {cs : List Value}, ShOk.fields P ss fs off = true → cs.length = off + Sh.size.sizes ss →
    (∀ (i : Nat) (f : Field), fs[i]? = some f → ∃ n x, DataW.trod enc P w base spare held n f.type ((cs.drop f.offset).take (P.cellsOf f.type)) = some x) →
    ∃ l, Fit.fits ss l ∧ l.length = Sh.size.sizes ss ∧ DenL (fun b => b < w.heap.size) w l (cs.drop off) ∧ ∀ v, v ∈ cs.drop off → v.oneCell' = true
  | [], fs, off, cs, hs, hl, hf => by
    cases fs with
    | cons f fs => simp [ShOk.fields] at hs
    | nil =>
      have e : cs.drop off = [] := List.drop_eq_nil_of_le (by simp [Sh.size.sizes] at hl; omega)
      exact ⟨[], by simp [Fit.fits], rfl, by rw [e]; exact ⟨rfl, fun i hi => by simp at hi⟩, by rw [e]; intro v hv; cases hv⟩
  | s :: ss, fs, off, cs, hs, hl, hf => by
    cases fs with
    | nil => simp [ShOk.fields] at hs
    | cons f fs =>
      simp only [ShOk.fields, Bool.and_eq_true, beq_iff_eq] at hs
      obtain ⟨⟨⟨h1, h2⟩, h3⟩, h4⟩ := hs
      obtain ⟨n, x, hx⟩ := hf 0 f rfl
      rw [h1, h2] at hx
      obtain ⟨a, ra, rl, rd, r1⟩ := reads_of_trod s h3 hx
      simp only [Sh.size.sizes] at hl
      obtain ⟨b, qa, ql, qd, q1⟩ := reads_of_fields ss h4 (cs := cs) (by omega) (fun i g hi => hf (i + 1) g (by simpa using hi))
      have e : cs.drop off = (cs.drop off).take s.size ++ cs.drop (off + s.size) := by
        rw [← List.drop_drop]; exact (List.take_append_drop s.size (cs.drop off)).symm
      refine ⟨a ++ b, by simp only [Fit.fits]; exact ⟨a, b, rfl, ra, qa⟩, by simp [rl, ql, Sh.size.sizes], ?_, fun v hv => ?_⟩
      · rw [e]; exact denL_app rd qd
      · rw [e] at hv
        rcases List.mem_append.1 hv with hv | hv
        · exact r1 v hv
        · exact q1 v hv
end

/-- An argument. -/
def shArg : Sh → List SV → EV
  | .st _, ss => .p (.agg ss)
  | _, ss => .p (SV.at ss 0)

theorem arg_of {sh : Sh} {r : Reach} {b0 : Nat} {t : TypeId} {v : Value} {d : DataW H} {ps : List MemPlace} (hs : ShOk P sh t = true) (hval : Value.okWide P w r b0 t v) (hd : DataW.Trod enc P w base spare held t v d ps) :
    ∃ ss, Fit sh ss ∧ argOk (shArg sh ss) = true ∧ DenE P (fun b => b < w.heap.size) w env0 (shArg sh ss) v := by
  obtain ⟨fuel, hf⟩ := hd
  obtain ⟨ss, h1, h2, h3, _⟩ := reads_of_trod sh hs hf
  refine ⟨ss, h1, ?_, ?_⟩
  · cases sh <;> rfl
  · have scalar : v.cells.toList = [v] → sh.size = 1 → DenE P (fun b => b < w.heap.size) w env0 (.p (SV.at ss 0)) v := fun e hsz => by
      rw [e] at h3
      have := h3.2 0 (by omega)
      exact .p this
    cases sh with
    | int =>
      unfold ShOk at hs
      split at hs
      · rename_i ht
        obtain ⟨n, rfl⟩ := okWide_int ht hval
        exact scalar rfl rfl
      · cases hs
    | bool =>
      unfold ShOk at hs
      split at hs
      · rename_i ht
        obtain ⟨n, rfl⟩ := okWide_bool ht hval
        exact scalar rfl rfl
      · cases hs
    | sl e =>
      unfold ShOk at hs
      split at hs
      · rename_i et ht
        obtain ⟨a, n, c, rfl⟩ := okWide_slice ht hval
        exact scalar rfl rfl
      · cases hs
    | st l =>
      unfold ShOk at hs
      split at hs
      · rename_i fs ht
        obtain ⟨cs, rfl, _⟩ := okWide_struct ht hval
        have e : (Value.agg cs).cells.toList = cs.toList := rfl
        rw [e] at h3
        exact .p (.agg _ _ h3.1 h3.2)
      · cases hs

/-- All arguments. -/
def AllFit : List Sh → List EV → Prop
  | [], es => es = []
  | s :: l, es => ∃ ss es', es = shArg s ss :: es' ∧ Fit s ss ∧ AllFit l es'
def shAll (P : Program) : List Sh → List TypeId → Bool
  | [], [] => true
  | s :: l, t :: ts => ShOk P s t && shAll P l ts
  | _, _ => false
theorem args_of : ∀ (shs : List Sh) {ts : List TypeId} {vs : List Value} {ds : List (DataW H)} {ps : List MemPlace} {r : Reach} {b0 : Nat}, shAll P shs ts = true → (∀ (j : Nat) t v, ts[j]? = some t → vs[j]? = some v → Value.okWide P w r b0 t v) →
    DataW.TrodAll enc P w base spare held ts vs ds ps → ∃ es, AllFit shs es ∧ ArgsOk P (fun b => b < w.heap.size) w es vs
  | [], ts, vs, ds, ps, r, b0, hs, hval, h => by
    cases ts with
    | cons t ts => simp [shAll] at hs
    | nil =>
      cases vs <;> cases ds <;> simp [DataW.TrodAll] at h
      exact ⟨[], rfl, rfl, fun i hi => by simp at hi⟩
  | s :: shs, ts, vs, ds, ps, r, b0, hs, hval, h => by
    cases ts with
    | nil => simp [shAll] at hs
    | cons t ts =>
      simp only [shAll, Bool.and_eq_true] at hs
      obtain ⟨v, vs', d, ds', p, q, rfl, rfl, _, h1, h2⟩ := trodAll_cons h
      obtain ⟨ss, a1, a2, a3⟩ := arg_of hs.1 (hval 0 t v rfl rfl) h1
      obtain ⟨es, b1, b2⟩ := args_of shs hs.2 (fun j t v ht hv => hval (j + 1) t v (by simpa using ht) (by simpa using hv)) h2
      refine ⟨shArg s ss :: es, ⟨ss, es, rfl, a1, b1⟩, by simp [b2.1], fun i hi => ?_⟩
      cases i with
      | zero => exact ⟨a2, a3⟩
      | succ i => exact b2.2 i (by simpa using hi)

/-- Below the heap's old size nothing has turned: all arguments read as they did. -/
theorem trodAll_below (hl : laidOutB P = true) {W W' : World} (hb : Below W.heap.size W W') : ∀ {ts : List TypeId} {vs : List Value} {ds : List (DataW H)} {ps : List MemPlace}, (ts.all fun t => P.readableRec t && decide (t < P.types.size)) = true →
    DataW.TrodAll enc P W 0 (fun _ => true) true ts vs ds ps → (∀ p ∈ ps, p.block < W.heap.size) → DataW.TrodAll enc P W' 0 (fun b => decide (b < W.heap.size)) true ts vs ds ps
  | [], vs, ds, ps, _, h, _ => by
    cases vs <;> cases ds <;> simp [DataW.TrodAll] at h ⊢
    exact h
  | t :: ts, vs, ds, ps, ht, h, hlt => by
    simp only [List.all_cons, Bool.and_eq_true, decide_eq_true_eq] at ht
    obtain ⟨v, vs', d, ds', p, q, rfl, rfl, rfl, h1, h2⟩ := trodAll_cons h
    exact ⟨p, q, Below.trod hl ht.1.1 ht.1.2 h1 hb (fun x hx => hlt x (by simp [hx])), trodAll_below hl hb (by simpa using ht.2) h2 (fun x hx => hlt x (by simp [hx])), rfl⟩

/-- What a law's call leaves, out of its contract. -/
theorem law_calls {C : Checked} {f : Nat} {fn : Func} {s : ChangeSpec} {apart : Bool} {shs : List Sh} {sp : List EV → Option (Prop × SV)} (hspec : SpecOk C.prog f (specO sp)) (hfit : ∀ es, AllFit shs es → preO sp es ∧ resO sp es = .bool true)
    (hl : laidOutB C.prog = true) (hvars : s.vars = []) (hsh : shAll C.prog shs fn.params.toList = true) (hrd : (fn.params.toList.all fun t => C.prog.readableRec t && decide (t < C.prog.types.size)) = true)
    {bt : TypeId} (hres : fn.resultTypes = #[bt]) (hbt : C.prog.underlying bt = some .bool) (hsay : ∀ ds : List (DataW H), ds.length = fn.params.size → s.fn H (ds ++ []) = { results := [.lit (.bool true)], args := ds, vars := [] })
    {W : World} {b0 : Nat} {r : Reach} {args : Array Value} {ds gs : List (DataW H)} {before : List MemPlace} (hval : ∀ (j : Nat) t v, fn.params[j]? = some t → args[j]? = some v → Value.okWide C.prog W r b0 t v)
    (hW : DataW.Whole enc C.prog fn.params.toList s.vars apart W args.toList ds gs before) :
    Calls C.prog f args W fun e W' => ∃ v, e = .returned v ∧ s.post enc C.prog fn apart true false false W args v W' := by
  have hW' := hW
  obtain ⟨p, q, hA, hV, hpq, hfz, hnd⟩ := hW
  rw [hvars] at hV
  obtain ⟨rfl, rfl⟩ := trodVars_none hV
  obtain ⟨es, h1, h2⟩ := args_of (enc := enc) (base := 0) (spare := fun _ => true) (held := true) shs hsh (fun j t v ht hv => hval j t v (by simpa using ht) (by simpa using hv)) hA
  obtain ⟨k1, k2⟩ := hfit es h1
  have hc := hspec (fun b => b < W.heap.size) W es args.toList (fun b h => h) h2 k1
  have := callsIn_wide.1 hc
  refine Calls.mono (by simpa using this) (fun e W' hg => ?_)
  obtain ⟨v, M', rfl, hb, _, _, _, hd⟩ := hg
  rw [k2] at hd
  cases hd
  have hdl : ds.length = fn.params.size := by
    have : ∀ {ts : List TypeId} {vs : List Value} {ds : List (DataW H)} {ps : List MemPlace}, DataW.TrodAll enc C.prog W 0 (fun _ => true) true ts vs ds ps → ds.length = ts.length := by
      intro ts
      induction ts with
      | nil => intro vs ds ps h; cases vs <;> cases ds <;> simp [DataW.TrodAll] at h <;> rfl
      | cons t ts ih =>
        intro vs ds ps h
        obtain ⟨v, vs', d, ds', p, q, rfl, rfl, _, _, h2⟩ := trodAll_cons h
        simp [ih h2]
    have := this hA
    simpa using this
  have hlt : ∀ x ∈ p, x.block < W.heap.size := fun x hx => hW'.lt x (by rw [hpq]; simp [hx])
  refine ⟨_, rfl, ds, [], p ++ [], [], p, [], ?_, ?_, ?_, ?_, hb.bel.frame _, fun h => by cases h⟩
  · rw [hpq] at hW'; exact hW'
  · rw [hsay ds hdl, hres]
    exact trodAll_mk1 (shut_bool hbt true)
  · rw [hsay ds hdl]
    exact trodAll_below hl hb.bel hrd hA hlt
  · rw [hsay ds hdl, hvars]; rfl
end Go.SE

/- Sorting by the library's own contract: a row of structs of integers, lent to slices.SortFunc, comes back as a sorted permutation. -/
set_option linter.unusedSectionVars false
namespace Go.SE
open Go.Proofs Go.Shelf Go.RowKit Go.Lib Go.Sort
variable {P : Program} {A : Type} [Inhabited A]

def encV (enc : A → List Int) (a : A) : List Value := (enc a).map (Value.int .i64)
def encS (enc : A → List Int) (a : A) : List SV := (enc a).map (SV.int .i64)
theorem den_enc {M : Nat → Prop} {w : World} (enc : A → List Int) (a : A) : DenL M w (encS enc a) (encV enc a) := by
  refine ⟨by simp [encS, encV], fun i hi => ?_⟩
  simp only [encS, List.length_map] at hi
  simp only [encS, encV, SV.at, List.getD_eq_getElem?_getD, List.getElem?_map, List.getElem?_eq_getElem hi, Option.map_some, Option.getD_some]
  exact .int _ _
theorem encV_one (enc : A → List Int) (a : A) : ∀ v, v ∈ encV enc a → v.oneCell' = true := fun v hv => by
  simp only [encV, List.mem_map] at hv
  obtain ⟨n, _, rfl⟩ := hv
  rfl
theorem grow_of {W w' : World} (h : Bl W.heap.size W w') : ∃ q os, w' = grow (W.drewN q) os := by
  refine ⟨w'.drawn - W.drawn, w'.heap.extract W.heap.size w'.heap.size, ?_⟩
  obtain ⟨heap, tape, drawn, os, output⟩ := w'
  obtain ⟨h1, h2, h3, h4, h5, h6⟩ := h
  simp only at h1 h2 h3 h4 h5 h6
  subst h1 h2 h3
  have e1 : W.drawn + (drawn - W.drawn) = drawn := by omega
  have e2 : W.heap ++ heap.extract W.heap.size heap.size = heap := by
    apply Array.ext_getElem?
    intro i
    by_cases hi : i < W.heap.size
    · rw [Array.getElem?_append_left hi, h6 i hi]
    · rw [Array.getElem?_append_right (by omega), Array.getElem?_extract]
      by_cases h7 : i < heap.size
      · rw [if_pos (by omega), show W.heap.size + (i - W.heap.size) = i by omega]
      · rw [if_neg (by omega), Array.getElem?_eq_none (by omega)]
  show World.mk _ _ _ _ _ = World.mk (W.heap ++ heap.extract W.heap.size heap.size) W.tape (W.drawn + (drawn - W.drawn)) W.os W.output
  rw [e1, e2]

/-- A comparison with a contract, as the sort asks it. -/
theorem cmpLays_of {g : Nat} {enc : A → List Int} {k : Nat} {cf : A → A → Int} {pre : List EV → Prop} {res : List EV → SV} (hs : SpecOk P g (.fn pre res))
    (hp : ∀ x y, pre [.p (.agg (encS enc x)), .p (.agg (encS enc y))]) (hr : ∀ x y, res [.p (.agg (encS enc x)), .p (.agg (encS enc y))] = .int .i64 (cf x y)) (blk off size : Nat) (w : World) :
    CmpLays P g #[] (encV enc) k cf blk off size w := by
  intro m os dk _ x y
  have hx : ∀ a : A, DenP (fun _ => False) (sortWorldK (encV enc) k w blk off m dk os) (.agg (encS enc a)) (.agg (encV enc a).toArray) := fun a => by
    have h := den_enc (M := fun _ => False) (w := sortWorldK (encV enc) k w blk off m dk os) enc a
    exact .agg _ _ h.1 h.2
  have := hs (fun _ => False) (sortWorldK (encV enc) k w blk off m dk os) [.p (.agg (encS enc x)), .p (.agg (encS enc y))] [.agg (encV enc x).toArray, .agg (encV enc y).toArray] (fun b h => h.elim)
    ⟨rfl, fun i hi => by
      match i, hi with
      | 0, _ => exact ⟨rfl, .p (hx x)⟩
      | 1, _ => exact ⟨rfl, .p (hx y)⟩⟩ (hp x y)
  refine (callsIn_wide (n := 0)).1 (callsIn_mono this fun e w' hg => ?_)
  obtain ⟨v, M', rfl, hb, _, _, _, hd⟩ := hg
  rw [hr] at hd
  cases hd
  exact ⟨rfl, grow_of hb⟩

def arrOf (n : Nat) (f : Nat → A) : Array A := ((List.range n).map f).toArray
theorem arrOf_size (n : Nat) (f : Nat → A) : (arrOf n f).size = n := by simp [arrOf]
theorem arrOf_get {n : Nat} {f : Nat → A} {i : Nat} (h : i < n) : (arrOf n f)[i]! = f i := by
  rw [getElem!_pos _ i (by rw [arrOf_size]; exact h)]
  simp [arrOf]

/-- What a sorted row is: a permutation, and no later one before an earlier one. -/
structure SortedBy (cf : A → A → Int) (n : Nat) (f u : Nat → A) : Prop where
  perm : ((List.range n).map u).Perm ((List.range n).map f)
  asc : ∀ i j, i < j → j < n → ¬ cf (u j) (u i) < 0

theorem int_of_den {M : Nat → Prop} {w : World} {enc : A → List Int} {a : A} {j : Nat} (hj : j < (enc a).length) {v : Value} (h : DenP M w (SV.at (encS enc a) j) v) : v = (encV enc a)[j]! := by
  have e1 : SV.at (encS enc a) j = .int .i64 ((enc a)[j]'hj) := by
    simp [encS, SV.at, List.getD_eq_getElem?_getD, List.getElem?_map, List.getElem?_eq_getElem hj]
  have e2 : (encV enc a)[j]! = .int .i64 ((enc a)[j]'hj) := by
    simp [encV, List.getElem!_eq_getElem?_getD, List.getElem?_map, List.getElem?_eq_getElem hj]
  rw [e1] at h
  cases h
  exact e2.symm
theorem getD_get! {c : Array Value} {i : Nat} (h : i < c.size) : c.getD i undef = c[i]'h := by
  rw [Array.getD_eq_getD_getElem?, Array.getElem?_eq_getElem h]; rfl

theorem sort_core {ρ : Ren} (L : SlLaysF0.n6 P ρ) {k : Nat} (hk0 : 0 < k) (aE : ∀ w, (isAgg (ρ.t 24)).run P w = .ok true w) (zE : ∀ w, (Go.sizeOf (ρ.t 24)).run P w = .ok k w) {enc : A → List Int} (hk : ∀ x, (enc x).length = k)
    {cf : A → A → Int} (hO : SWO (ltOf cf)) {g : Nat} {pre : List EV → Prop} {res : List EV → SV} (hs : SpecOk P g (.fn pre res)) (he : Enters P g)
    (hp : ∀ x y, pre [.p (.agg (encS enc x)), .p (.agg (encS enc y))]) (hr : ∀ x y, res [.p (.agg (encS enc x)), .p (.agg (encS enc y))] = .int .i64 (cf x y))
    {M : Nat → Prop} {w : World} {env : Env} {key : Nat} {e : TypeId} {n : Nat} {f : Nat → A} (hn : n < 4611686018427387904) (hown : OwnOk P M w env key (.row e k n (fun i => encS enc (f i))))
    (hat : ∀ b, env.at_ key = some b → ¬ M b ∧ b < w.heap.size) :
    Calls P (ρ.f 6) #[env.rv key, .func (.func g) #[] #[]] w (fun en w' => ∃ u : Nat → A, SortedBy cf n f u ∧ en = .returned (.tuple #[]) ∧ Same (fun b => env.at_ key = some b) w w' ∧ OwnOk P M w' env key (.row e k n (fun i => encS enc (u i)))) := by
  obtain ⟨hm, hgl, hcase⟩ := hown
  rcases hcase with ⟨h1, h2, h3⟩ | ⟨b, cap, cur, hb, hrv, hh, hnc, hcm, hcs, hd⟩
  · subst h3
    rw [h2]
    refine (AnyF.slices_SortFunc_none L none 0 _ w).mono ?_
    rintro en w' ⟨rfl, rfl⟩
    exact ⟨f, ⟨List.Perm.refl _, fun i j _ hj => absurd hj (Nat.not_lt_zero _)⟩, rfl, ⟨rfl, rfl, rfl, Nat.le_refl _, Nat.le_refl _, fun _ _ _ => rfl⟩, hm, hgl, .inl ⟨h1, h2, rfl⟩⟩
  · rw [hrv]
    have hds := arrOf_size n f
    have hkV : ∀ x, (encV enc x).length = k := fun x => by simp [encV, hk]
    have hnk : n * k ≤ cur.size := by rw [hcs]; exact Nat.mul_le_mul_right _ hnc
    have hH : HoldsK (encV enc) k w b 0 (arrOf n f) := by
      intro j hj
      rw [size_flatK, hds] at hj
      have hjc : j < cur.size := by omega
      have hi : j / k < n := Nat.div_lt_of_lt_mul (by rw [Nat.mul_comm]; exact hj)
      have hr2 : j % k < k := Nat.mod_lt _ hk0
      have h1 := (hd (j / k) hi (j % k) hr2).2
      have e0 : j / k * k + j % k = j := by rw [Nat.mul_comm]; exact Nat.div_add_mod j k
      rw [e0, getD_get! hjc] at h1
      have h2 := int_of_den (by rw [hk]; exact hr2) h1
      constructor
      · rw [get_flatK _ _ _ _ (by rw [hds]; exact hj), arrOf_get hi, ← h2]
        simp only [World.cell?, hh, Nat.zero_add, id]
        rw [Array.getElem?_eq_getElem hjc]; rfl
      · simp [World.frozen?, hh]
    have hc := AnyQ.slices_SortFunc L k aE zE (encV enc) hkV (encV_one enc) cf hO g #[] b 0 cap (arrOf n f) w he (cmpLays_of hs hp hr b 0 _ w) hH (hat b hb).2 (by rw [hds]; exact hn)
    rw [hds] at hc
    refine hc.mono ?_
    rintro en w' ⟨rfl, d', m, os, ⟨hsz, _, hperm⟩, hasc, rfl⟩
    rw [hds] at hsz
    have hheap : (sortWorldK (encV enc) k w b 0 m d' os).heap = w.heap.modify b (onCells (putCells id 0 (flatK (encV enc) k d'))) ++ os := rfl
    have hbl := (hat b hb).2
    have hd'l : ∀ d0 : Array A, d0.size = n → (List.range n).map (fun i => d0[i]!) = (d0.extract 0 n).toList := fun d0 h0 => by
      apply List.ext_getElem?
      intro i
      by_cases hi : i < n
      · rw [List.getElem?_map, List.getElem?_range hi]
        simp only [Option.map_some, Array.getElem?_toList, Array.getElem?_extract]
        rw [if_pos (by omega), Nat.zero_add, Array.getElem?_eq_getElem (by omega), getElem!_pos d0 i (by omega)]
      · rw [List.getElem?_eq_none (by simp; omega), List.getElem?_eq_none (by simp; omega)]
    refine ⟨fun i => d'[i]!, ⟨?_, fun i j hij hj => ?_⟩, rfl, ⟨rfl, rfl, rfl, ?_, ?_, fun c hc hne => ?_⟩, hm, fun i _ => by simp [encS, hk], .inr ⟨b, cap, putCells id 0 (flatK (encV enc) k d') cur, hb, hrv, ?_, hnc, hcm, by simp [putCells, hcs], fun i hi j hj => ?_⟩⟩
    · rw [hd'l d' hsz]
      refine hperm.trans ?_
      rw [← hd'l (arrOf n f) hds]
      have : (List.range n).map (fun i => (arrOf n f)[i]!) = (List.range n).map f := List.map_congr_left (fun i hi => arrOf_get (List.mem_range.1 hi))
      rw [this]
    · have := hasc i j (Nat.zero_le _) hij (by omega)
      exact of_decide_eq_false this
    · show w.drawn ≤ w.drawn + m
      omega
    · rw [hheap]; simp
    · have hne : ¬ b = c := fun e => hne (e ▸ hb)
      rw [hheap, Array.getElem?_append_left (by simpa using hc), Array.getElem?_modify, if_neg hne]
    · rw [hheap, Array.getElem?_append_left (by simpa using hbl), Array.getElem?_modify, if_pos rfl, hh]; rfl
    · have hlt : i * k + j < n * k := idx_lt hi hj
      have hlc : i * k + j < cur.size := by omega
      have e1 : (putCells id 0 (flatK (encV enc) k d') cur).getD (i * k + j) undef = (encV enc d'[i]!)[j]! := by
        rw [Array.getD_eq_getD_getElem?]
        simp only [putCells, Array.getElem?_mapIdx, Array.getElem?_eq_getElem hlc, Option.map_some, Option.getD_some]
        rw [if_pos ⟨Nat.zero_le _, by rw [size_flatK, hsz]; omega⟩, Nat.sub_zero, get_flatK _ _ _ _ (by rw [hsz]; exact hlt)]
        have h1 : (i * k + j) / k = i := by rw [Nat.mul_comm, Nat.mul_add_div hk0, Nat.div_eq_of_lt hj, Nat.add_zero]
        have h2 : (i * k + j) % k = j := by rw [Nat.mul_comm, Nat.mul_add_mod, Nat.mod_eq_of_lt hj]
        rw [h1, h2]; rfl
      rw [e1]
      have hj2 : j < (enc d'[i]!).length := by rw [hk]; exact hj
      have e2 : (encV enc d'[i]!)[j]! = .int .i64 ((enc d'[i]!)[j]'hj2) := by
        simp [encV, List.getElem!_eq_getElem?_getD, List.getElem?_map, List.getElem?_eq_getElem hj2]
      have e3 : SV.at (encS enc d'[i]!) j = .int .i64 ((enc d'[i]!)[j]'hj2) := by
        simp [encS, SV.at, List.getD_eq_getElem?_getD, List.getElem?_map, List.getElem?_eq_getElem hj2]
      show ((encV enc d'[i]!)[j]!).oneCell' = true ∧ DenP M _ (SV.at (encS enc d'[i]!) j) ((encV enc d'[i]!)[j]!)
      rw [e2, e3]
      exact ⟨rfl, .int _ _⟩

/-- slices.SortFunc at a struct of integers, by a comparison that has a contract: it writes the row that is lent. -/
def sortTr (e : TypeId) (k g key : Nat) (enc : A → List Int) (cf : A → A → Int) : Tr where
  T := Nat × (Nat → A)
  U := Nat → A
  args := fun _ => [.row key, .p (.clo g [])]
  own := fun t => [(key, .row e k t.1 (fun i => encS enc (t.2 i)))]
  pre := fun t => t.1 ≤ 1000000
  post := fun t u => SortedBy cf t.1 t.2 u
  own' := fun t u => [(key, .row e k t.1 (fun i => encS enc (u i)))]
  res := fun _ _ => .p (.tup [])
theorem sortTr_ok {ρ : Ren} (L : SlLaysF0.n6 P ρ) {k : Nat} (hk0 : 0 < k) (aE : ∀ w, (isAgg (ρ.t 24)).run P w = .ok true w) (zE : ∀ w, (Go.sizeOf (ρ.t 24)).run P w = .ok k w) {enc : A → List Int} (hk : ∀ x, (enc x).length = k)
    {cf : A → A → Int} (hO : SWO (ltOf cf)) {g : Nat} {pre : List EV → Prop} {res : List EV → SV} (hs : SpecOk P g (.fn pre res)) (he : Enters P g)
    (hp : ∀ x y, pre [.p (.agg (encS enc x)), .p (.agg (encS enc y))]) (hr : ∀ x y, res [.p (.agg (encS enc x)), .p (.agg (encS enc y))] = .int .i64 (cf x y)) (e : TypeId) (key : Nat) : TrOk P (ρ.f 6) (sortTr e k g key enc cf) := by
  refine ⟨fun _ _ => rfl, fun t hpre M w env vals hM hown hat _ hl hv => ?_⟩
  obtain ⟨n, f⟩ := t
  have hpre : n ≤ 1000000 := hpre
  have ho := hown key _ (List.mem_singleton.2 rfl)
  have ha := hat key _ (List.mem_singleton.2 rfl)
  have hl : vals.length = 2 := hl
  match vals, hl with
  | [v0, v1], _ =>
    have h0 : DenE P M w env (.row key) v0 := hv 0 (by show 0 < 2; omega)
    have h1 : DenE P M w env (.p (.clo g [])) v1 := hv 1 (by show 1 < 2; omega)
    rcases h1 with ⟨h1⟩
    cases h1 with
    | clo _ _ vs hvl _ =>
    have hvs : vs = [] := List.eq_nil_of_length_eq_zero hvl
    subst hvs
    have e0 : v0 = env.rv key := by cases h0 with | row h => exact h.symm
    subst e0
    refine callsIn_wide.2 ((sort_core L hk0 aE zE hk hO hs he hp hr (by omega) ho ha).mono ?_)
    rintro en w' ⟨u, hu, rfl, hsame, hown'⟩
    refine ⟨u, .tuple #[], M, hu, rfl, ?_, fun _ h => h, fun _ h => .inl h, fun b hb => Nat.lt_of_lt_of_le (hM b hb) hsame.size, fun k' o' h' => ?_, .p (.tup [] [] rfl (fun i hi => absurd hi (Nat.not_lt_zero _)))⟩
    · exact ⟨hsame.os, hsame.tape, hsame.output, hsame.drawn, hsame.size, fun c hc hne => hsame.block c hc (fun e => hne ⟨key, _, List.mem_singleton.2 rfl, e⟩)⟩
    · obtain ⟨rfl, rfl⟩ := Prod.mk.inj (List.mem_singleton.1 h')
      exact hown'

end Go.SE

/- The engine, part Ze: a body with a label to which the run jumps back. -/
namespace Go.SE
open Go.RowKit

variable {P : Program}

/-- A whole own row, as a part of itself. -/
def subCell (own : List (Nat × Own)) : EV → EV
  | .row r => match lookupO own r with
    | some (.row _ sz n _) => .rsub r sz 0 n
    | _ => .row r
  | e => e
def subOwn1 (own : List (Nat × Own)) : Own → Own
  | .blk t cs => .blk t (cs.map (subCell own))
  | o => o
def St.subR (st : St) : St := { st with own := st.own.map fun x => (x.1, subOwn1 st.own x.2) }
section
variable {G : Ctx}
theorem fitYnt {I : LoopInv} {st st' : St} {g : I.T} (h : all (I.fitY st st' g)) : (I.head st g).yk = st'.yk ∧ st'.nt = st.nt ∧ st'.stop = st.stop := by
  obtain ⟨ha, hb⟩ := all_append h
  have hnt : st'.nt = st.nt := by
    split at ha
    · rename_i he; simpa using he
    · exact (all_one ha).elim
  unfold LoopInv.head
  cases hy : I.yk with
  | none =>
    simp only [hy] at hb
    split at hb
    · rename_i he; simp at he; exact ⟨he.1.symm, hnt, he.2⟩
    · exact (all_one hb).elim
  | some f =>
    simp only [hy] at hb
    obtain ⟨h1, h2⟩ := all_cons hb
    exact ⟨h1.symm, hnt, all_one h2⟩

end

end Go.SE

/- The engine, part Zg: a loop over a function whose body may write what the items are read from, if it then jumps away. -/
namespace Go.SE
open Go.RowKit

variable {P : Program}

/-- Behind the loop. -/
theorem RF.fin {R : RF} (hR : R.Ok) {fn : Nat} {ps : Array Nat} {a b : Code} (hrc : R.rc = fun s p => { state := s, pending := p, fn := fn, tmps := R.a0.tmps, params := ps, assign := a, body := b, defers := R.n0 })
    {stX : St} {s : LoopState} {p : Option Code} {Xit : Nat → Prop} {w2 : World} (hc : R.Core P stX s p Xit w2) (hsb : s ≠ .busy) : ∃ w3, (Instr.endLoop (R.n0 + 1)).run P w2 = .ok p w3 ∧
      Sat P R.G stX { R.a0 with defers := [{ target := .collected R.n0, args := #[] }] ++ R.a0.defers } w3 := by
  obtain ⟨env2, M2, S2, ⟨r1, r2⟩, hx, hMd, hMl, ho⟩ := hc
  have hend := run_endLoop (P := P) r1 (by rw [hrc]; exact hsb)
  have hpend : (R.rc s p).pending = p := by rw [hrc]
  rw [hpend] at hend
  obtain ⟨o2, hend⟩ : ∃ o2, (Instr.endLoop (R.n0 + 1)).run P w2 = .ok p (w2.putObj (R.n0 + 1) o2) := ⟨_, hend⟩
  refine ⟨_, hend, ?_⟩
  have hblk : ∀ b, b ≠ R.n0 + 1 → (w2.putObj (R.n0 + 1) o2).heap[b]? = w2.heap[b]? := fun b h => World.putObj_heap_other h
  have hsz : (w2.putObj (R.n0 + 1) o2).heap.size = w2.heap.size := by simp
  have hn1 := lt_of_some r1
  have hxL : R.xp w2 (R.n0 + 1) := .inr ⟨by omega, hn1⟩
  have hxD : R.xp w2 R.n0 := .inr ⟨by omega, by omega⟩
  have S3 : SatC P R.G stX R.a0 (w2.putObj (R.n0 + 1) o2) env2 M2 (R.xp w2) := by
    refine S2.recast (Y := fun b => b = R.n0 + 1) ⟨hR.st _ _ w2 _ _ S2.gam.1 ⟨rfl, rfl, rfl, Nat.le_refl _, by omega, fun b hb hx' => hblk b (fun e => hx' (e ▸ hxL))⟩ (fun b h => h) (fun b h => .inl h), S2.gam.2⟩ (fun b h => .inl h) (by omega) (fun b _ h => hblk b h) (fun b e hm => hMl (e ▸ hm))
      (fun k o hk' g' hg' e => (ho k o g' hk' hg').2.2.2 e) (fun D hD e => ?_) (fun b h => h) (fun b h => by rw [hsz]; exact S2.xlt b h)
    have := hR.dlt D hD
    omega
  refine ⟨env2, M2, R.xp w2, S3.gam, S3.mx, S3.own, S3.oat, S3.inj, S3.nod, S3.mlt, S3.xlt, S3.siz, fun s' e h => S3.tmp s' e h, fun s' e h => S3.grd s' e h, fun d hd => ?_, ?_⟩
  · rcases List.mem_append.1 hd with hd | hd
    · simp only [List.mem_singleton] at hd
      exact ⟨R.n0, hd, (hblk _ (by omega)).trans r2, hxD, hMd, fun k o hk' e => (ho k o _ hk' e).2.2.1 rfl⟩
    · exact S3.dfr d hd
  · refine List.nodup_cons.2 ⟨fun hm => ?_, S3.dno⟩
    have := hR.dlt _ hm
    omega
/-- What is lent while the items are read: the own block k, whose address slot s holds and which holds a part of the own row r; of the rest what reads no memory is known. -/
structure Lend where
  s : Nat
  k : Nat
  r : Nat
  tS : TypeId
  e : TypeId
  sz : Nat
  n : Nat
  m : Nat
  get : Nat → List SV
  TR : List (Nat × Ent)
  OR : List (Nat × Own)
def Lend.thawed (L : Lend) (st : St) : St := { st with T := (L.s, ⟨none, .loc L.k 0⟩) :: L.TR, own := (L.k, .blk L.tS [.rsub L.r L.sz 0 L.m]) :: (L.r, .row L.e L.sz L.n L.get) :: L.OR }
def Lend.frozen (L : Lend) (st : St) (v : Value) : St := { st with T := (L.s, ⟨none, .p (.ref [.sl L.sz L.m L.get] 0)⟩) :: (L.s, ⟨none, .p (.raw v)⟩) :: L.TR, own := L.OR }
def Lend.plain (L : Lend) : Prop := ∀ i, i < L.n → noMem.noMems (L.get i) = true

/-- A body in a scope that ranges over a function, deletes, and begins anew. -/
structure ThInv where
  T : Type
  ld : T → Lend
  inv : T → Prop
  mu : T → Nat
  th : T → Nat → Bool
  I : T → RfInv
  IT : T → RfInv
def ThInv.enter (H : ThInv) (st st' : St) (p : H.T → Prop) : Prop := ∃ g : H.T, conj (fitSt st st'.subR ++ fitT st'.subR.T ((H.ld g).thawed st).T ++ fitO st'.subR.own ((H.ld g).thawed st).own) (H.inv g ∧ p g)
end Go.SE

/- The engine, part Zh: what slices.Delete does to an own row of two-cell elements, as a contract. -/
namespace Go.SE
open Go.RowKit
variable {P : Program}

end Go.SE
