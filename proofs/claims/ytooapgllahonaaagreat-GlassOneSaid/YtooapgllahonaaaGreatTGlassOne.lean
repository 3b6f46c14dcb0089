/- The law leadlightlaw03.GlassOne answers true whatever the input, and its arguments read behind the call as they did before. Conditions: none. -/
import Derived.Test.YtooapgllahonaaaGreatRows
import Derived.Test.YtooapgllahonaaaGreatW4
import Derived.Test.YtooapgllahonaaaGreatE4
import Derived.ProofKit
namespace Go.Proofs.YtooapgllahonaaaGreat
open Go.ChangeShapes Go.WideShapes Go.ChangeAt Go.RowKit
open Go.SE (Sh Fit AllFit shArg law_calls preO resO)

theorem fit_GlassOne : ∀ es, AllFit [.st [.int, .int, .int, .int, .int, .sl (.st [.st [.int, .int], .st [.int, .int], .int]), .sl (.st [.int, .int, .int])], .st [.int, .int, .int, .int, .int, .sl (.st [.st [.int, .int], .st [.int, .int], .int]), .sl (.st [.int, .int, .int])], .sl (.st [.int, .int])] es → preO w_One_s es ∧ resO w_One_s es = .bool true := by
  intro es h
  obtain ⟨_, _, rfl, a0, _, _, rfl, a1, _, _, rfl, a2, rfl⟩ := h
  obtain ⟨_, _, rfl, ⟨v1, rfl⟩, _, _, rfl, ⟨v2, rfl⟩, _, _, rfl, ⟨v3, rfl⟩, _, _, rfl, ⟨v4, rfl⟩, _, _, rfl, ⟨v5, rfl⟩, _, _, rfl, ⟨n0, g0, rfl, l0, h0⟩, _, _, rfl, ⟨n1, g1, rfl, l1, h1⟩, rfl⟩ := a0
  obtain ⟨_, _, rfl, ⟨v6, rfl⟩, _, _, rfl, ⟨v7, rfl⟩, _, _, rfl, ⟨v8, rfl⟩, _, _, rfl, ⟨v9, rfl⟩, _, _, rfl, ⟨v10, rfl⟩, _, _, rfl, ⟨n2, g2, rfl, l2, h2⟩, _, _, rfl, ⟨n3, g3, rfl, l3, h3⟩, rfl⟩ := a1
  obtain ⟨n4, g4, rfl, l4, h4⟩ := a2
  refine ⟨⟨fun i hi => ?_, fun i hi => ?_, fun i hi => ?_, fun i hi => ?_, fun i hi => ?_, ⟨l0, l1, l2, l3, l4⟩⟩, rfl⟩
  · obtain ⟨_, _, e1, ⟨_, _, rfl, ⟨v11, rfl⟩, _, _, rfl, ⟨v12, rfl⟩, rfl⟩, _, _, rfl, ⟨_, _, rfl, ⟨v13, rfl⟩, _, _, rfl, ⟨v14, rfl⟩, rfl⟩, _, _, rfl, ⟨v15, rfl⟩, rfl⟩ := h0 i hi
    rw [e1]; rfl
  · obtain ⟨_, _, e1, ⟨v16, rfl⟩, _, _, rfl, ⟨v17, rfl⟩, _, _, rfl, ⟨v18, rfl⟩, rfl⟩ := h1 i hi
    rw [e1]; rfl
  · obtain ⟨_, _, e1, ⟨_, _, rfl, ⟨v19, rfl⟩, _, _, rfl, ⟨v20, rfl⟩, rfl⟩, _, _, rfl, ⟨_, _, rfl, ⟨v21, rfl⟩, _, _, rfl, ⟨v22, rfl⟩, rfl⟩, _, _, rfl, ⟨v23, rfl⟩, rfl⟩ := h2 i hi
    rw [e1]; rfl
  · obtain ⟨_, _, e1, ⟨v24, rfl⟩, _, _, rfl, ⟨v25, rfl⟩, _, _, rfl, ⟨v26, rfl⟩, rfl⟩ := h3 i hi
    rw [e1]; rfl
  · obtain ⟨_, _, e1, ⟨v27, rfl⟩, _, _, rfl, ⟨v28, rfl⟩, rfl⟩ := h4 i hi
    rw [e1]; rfl

set_option maxRecDepth 100000 in
theorem lifted_GlassOne (os : Os) (started : os.Started) (H : Type) (enc : TypeId × Value → H) :
    ReturnsInHanded {} Tryz.checked os 9 .any (Rows.glassOneSpec.pre6 enc Tryz.prog Tryz.f9 Rows.glassOneRow.domain false) (Rows.glassOneSpec.post enc Tryz.prog Tryz.f9 false true false false) := by
  refine returnsInHanded_of_change (C := Tryz.checked) (by kernel_rfl) started (by kernel_rfl) Tryz.func9
    (ChangeSpec.witness6 (enc := enc) (C := Tryz.checked) false ⟨#[], #[.agg #[.int .i64 0, .int .i64 0, .int .i64 0, .int .i64 0, .int .i64 0, .slice none 0 0, .slice none 0 0], .agg #[.int .i64 0, .int .i64 0, .int .i64 0, .int .i64 0, .int .i64 0, .slice none 0 0, .slice none 0 0], .slice none 0 0], []⟩ 8 (by kernel_rfl) (by kernel_rfl) (by kernel_rfl) (by kernel_rfl)) ?_
  intro W base args ds gs before hval hW _ _
  exact law_calls (C := Tryz.checked) (b0 := base) w_One_ok fit_GlassOne (by kernel_rfl) rfl (by kernel_rfl) (by kernel_rfl) (bt := 4) (by kernel_rfl) (by kernel_rfl)
    (fun ds h => match ds, h with | [_, _, _], _ => rfl) hval hW

theorem GlassOne_holds : Rows.GlassOneSaid :=
  OpenClaim.holds_of_wide 9 Tryz.f9 rfl rfl rfl rfl rfl rfl rfl ⟨rfl, rfl, rfl, rfl, rfl⟩ rfl rfl rfl rfl rfl (by kernel_rfl) Tryz.func9 (by kernel_rfl)
    (of_decide_eq_true (by kernel_rfl)) (by unfold Func.isWrapper; first | (rw [if_pos (by decide +kernel)]; kernel_rfl) | (rw [if_neg (by decide +kernel)]; exact ⟨rfl, rfl⟩))
    (fun os started H enc _ => lifted_GlassOne os started H enc)

end Go.Proofs.YtooapgllahonaaaGreat
