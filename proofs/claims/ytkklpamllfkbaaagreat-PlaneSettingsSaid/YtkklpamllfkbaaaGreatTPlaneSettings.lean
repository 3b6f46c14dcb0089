/- The law leadlightlaw01.PlaneSettings answers true whatever the input, and its arguments read behind the call as they did before. Conditions: none. -/
import Derived.Test.YtkklpamllfkbaaaGreatRows
import Derived.Test.YtkklpamllfkbaaaGreatW3
import Derived.Test.YtkklpamllfkbaaaGreatE3
import Derived.ProofKit
namespace Go.Proofs.YtkklpamllfkbaaaGreat
open Go.ChangeShapes Go.WideShapes Go.ChangeAt Go.RowKit
open Go.SE (Sh Fit AllFit shArg law_calls preO resO)

theorem fit_PlaneSettings : ∀ es, AllFit [.sl (.st [.int, .int]), .sl (.st [.int, .int]), .st [.int, .bool], .st [.int, .bool], .int, .int] es → preO w_Settings_s es ∧ resO w_Settings_s es = .bool true := by
  intro es h
  obtain ⟨_, _, rfl, a0, _, _, rfl, a1, _, _, rfl, a2, _, _, rfl, a3, _, _, rfl, a4, _, _, rfl, a5, rfl⟩ := h
  obtain ⟨n0, g0, rfl, l0, h0⟩ := a0
  obtain ⟨n1, g1, rfl, l1, h1⟩ := a1
  obtain ⟨_, _, rfl, ⟨v1, rfl⟩, _, _, rfl, ⟨v2, rfl⟩, rfl⟩ := a2
  obtain ⟨_, _, rfl, ⟨v3, rfl⟩, _, _, rfl, ⟨v4, rfl⟩, rfl⟩ := a3
  obtain ⟨v5, rfl⟩ := a4
  obtain ⟨v6, rfl⟩ := a5
  refine ⟨⟨fun i hi => ?_, fun i hi => ?_, ⟨l0, l1⟩⟩, rfl⟩
  · obtain ⟨_, _, e1, ⟨v7, rfl⟩, _, _, rfl, ⟨v8, rfl⟩, rfl⟩ := h0 i hi
    rw [e1]; rfl
  · obtain ⟨_, _, e1, ⟨v9, rfl⟩, _, _, rfl, ⟨v10, rfl⟩, rfl⟩ := h1 i hi
    rw [e1]; rfl

set_option maxRecDepth 100000 in
theorem lifted_PlaneSettings (os : Os) (started : os.Started) (H : Type) (enc : TypeId × Value → H) :
    ReturnsInHanded {} Tryz.checked os 7 .any (Rows.planeSettingsSpec.pre6 enc Tryz.prog Tryz.f7 Rows.planeSettingsRow.domain false) (Rows.planeSettingsSpec.post enc Tryz.prog Tryz.f7 false true false false) := by
  refine returnsInHanded_of_change (C := Tryz.checked) (by kernel_rfl) started (by kernel_rfl) Tryz.func7
    (ChangeSpec.witness6 (enc := enc) (C := Tryz.checked) false ⟨#[], #[.slice none 0 0, .slice none 0 0, .agg #[.int .i64 0, .bool false], .agg #[.int .i64 0, .bool false], .int .i64 0, .int .i64 0], []⟩ 8 (by kernel_rfl) (by kernel_rfl) (by kernel_rfl) (by kernel_rfl)) ?_
  intro W base args ds gs before hval hW _ _
  exact law_calls (C := Tryz.checked) (b0 := base) w_Settings_ok fit_PlaneSettings (by kernel_rfl) rfl (by kernel_rfl) (by kernel_rfl) (bt := 4) (by kernel_rfl) (by kernel_rfl)
    (fun ds h => match ds, h with | [_, _, _, _, _, _], _ => rfl) hval hW

theorem PlaneSettings_holds : Rows.PlaneSettingsSaid :=
  OpenClaim.holds_of_wide 7 Tryz.f7 rfl rfl rfl rfl rfl rfl rfl ⟨rfl, rfl, rfl, rfl, rfl⟩ rfl rfl rfl rfl rfl (by kernel_rfl) Tryz.func7 (by kernel_rfl)
    (of_decide_eq_true (by kernel_rfl)) (by unfold Func.isWrapper; first | (rw [if_pos (by decide +kernel)]; kernel_rfl) | (rw [if_neg (by decide +kernel)]; exact ⟨rfl, rfl⟩))
    (fun os started H enc _ => lifted_PlaneSettings os started H enc)

end Go.Proofs.YtkklpamllfkbaaaGreat
