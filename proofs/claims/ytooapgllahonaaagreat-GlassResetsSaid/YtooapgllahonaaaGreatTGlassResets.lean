/- The law leadlightlaw03.GlassResets answers true whatever the input, and its arguments read behind the call as they did before. Conditions: none. -/
import Derived.Test.YtooapgllahonaaaGreatRows
import Derived.Test.YtooapgllahonaaaGreatW4
import Derived.Test.YtooapgllahonaaaGreatE3
import Derived.ProofKit
namespace Go.Proofs.YtooapgllahonaaaGreat
open Go.ChangeShapes Go.WideShapes Go.ChangeAt Go.RowKit
open Go.SE (Sh Fit AllFit shArg law_calls preO resO)

theorem fit_GlassResets : ∀ es, AllFit [.st [.int, .int, .int, .int, .int, .sl (.st [.st [.int, .int], .st [.int, .int], .int]), .sl (.st [.int, .int, .int])], .st [.int, .bool]] es → preO w_Resets_s es ∧ resO w_Resets_s es = .bool true := by
  intro es h
  obtain ⟨_, _, rfl, a0, _, _, rfl, a1, rfl⟩ := h
  obtain ⟨_, _, rfl, ⟨v1, rfl⟩, _, _, rfl, ⟨v2, rfl⟩, _, _, rfl, ⟨v3, rfl⟩, _, _, rfl, ⟨v4, rfl⟩, _, _, rfl, ⟨v5, rfl⟩, _, _, rfl, ⟨n0, g0, rfl, l0, h0⟩, _, _, rfl, ⟨n1, g1, rfl, l1, h1⟩, rfl⟩ := a0
  obtain ⟨_, _, rfl, ⟨v6, rfl⟩, _, _, rfl, ⟨v7, rfl⟩, rfl⟩ := a1
  refine ⟨⟨fun i hi => ?_, fun i hi => ?_, ⟨l0, l1⟩⟩, rfl⟩
  · obtain ⟨_, _, e1, ⟨_, _, rfl, ⟨v8, rfl⟩, _, _, rfl, ⟨v9, rfl⟩, rfl⟩, _, _, rfl, ⟨_, _, rfl, ⟨v10, rfl⟩, _, _, rfl, ⟨v11, rfl⟩, rfl⟩, _, _, rfl, ⟨v12, rfl⟩, rfl⟩ := h0 i hi
    rw [e1]; rfl
  · obtain ⟨_, _, e1, ⟨v13, rfl⟩, _, _, rfl, ⟨v14, rfl⟩, _, _, rfl, ⟨v15, rfl⟩, rfl⟩ := h1 i hi
    rw [e1]; rfl

set_option maxRecDepth 100000 in
theorem lifted_GlassResets (os : Os) (started : os.Started) (H : Type) (enc : TypeId × Value → H) :
    ReturnsInHanded {} Tryz.checked os 3 .any (Rows.glassResetsSpec.pre6 enc Tryz.prog Tryz.f3 Rows.glassResetsRow.domain false) (Rows.glassResetsSpec.post enc Tryz.prog Tryz.f3 false true false false) := by
  refine returnsInHanded_of_change (C := Tryz.checked) (by kernel_rfl) started (by kernel_rfl) Tryz.func3
    (ChangeSpec.witness6 (enc := enc) (C := Tryz.checked) false ⟨#[], #[.agg #[.int .i64 0, .int .i64 0, .int .i64 0, .int .i64 0, .int .i64 0, .slice none 0 0, .slice none 0 0], .agg #[.int .i64 0, .bool false]], []⟩ 8 (by kernel_rfl) (by kernel_rfl) (by kernel_rfl) (by kernel_rfl)) ?_
  intro W base args ds gs before hval hW _ _
  exact law_calls (C := Tryz.checked) (b0 := base) w_Resets_ok fit_GlassResets (by kernel_rfl) rfl (by kernel_rfl) (by kernel_rfl) (bt := 4) (by kernel_rfl) (by kernel_rfl)
    (fun ds h => match ds, h with | [_, _], _ => rfl) hval hW

theorem GlassResets_holds : Rows.GlassResetsSaid :=
  OpenClaim.holds_of_wide 3 Tryz.f3 rfl rfl rfl rfl rfl rfl rfl ⟨rfl, rfl, rfl, rfl, rfl⟩ rfl rfl rfl rfl rfl (by kernel_rfl) Tryz.func3 (by kernel_rfl)
    (of_decide_eq_true (by kernel_rfl)) (by unfold Func.isWrapper; first | (rw [if_pos (by decide +kernel)]; kernel_rfl) | (rw [if_neg (by decide +kernel)]; exact ⟨rfl, rfl⟩))
    (fun os started H enc _ => lifted_GlassResets os started H enc)

end Go.Proofs.YtooapgllahonaaaGreat
