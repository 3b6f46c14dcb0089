/- The law leadlightlaw01.PlaneOutlines answers true whatever the input, and its arguments read behind the call as they did before. Conditions: none. -/
import Derived.Test.YtdlhpdidgfgomaaGreatRows
import Derived.Test.YtdlhpdidgfgomaaGreatW3
import Derived.Test.YtdlhpdidgfgomaaGreatE4
import Derived.ProofKit
namespace Go.Proofs.YtdlhpdidgfgomaaGreat
open Go.ChangeShapes Go.WideShapes Go.ChangeAt Go.RowKit
open Go.SE (Sh Fit AllFit shArg law_calls preO resO)

theorem fit_PlaneOutlines : ∀ es, AllFit [.sl (.st [.int, .int])] es → preO w_Outlines_s es ∧ resO w_Outlines_s es = .bool true := by
  intro es h
  obtain ⟨_, _, rfl, a0, rfl⟩ := h
  obtain ⟨n0, g0, rfl, l0, h0⟩ := a0
  refine ⟨⟨fun i hi => ?_, l0⟩, rfl⟩
  · obtain ⟨_, _, e1, ⟨v1, rfl, kv1⟩, _, _, rfl, ⟨v2, rfl, kv2⟩, rfl⟩ := h0 i hi
    rw [e1]; rfl

set_option maxRecDepth 100000 in
theorem lifted_PlaneOutlines (os : Os) (started : os.Started) (H : Type) (enc : TypeId × Value → H) :
    ReturnsInHanded {} Tryz.checked os 3 .any (Rows.planeOutlinesSpec.pre6 enc Tryz.prog Tryz.f3 Rows.planeOutlinesRow.domain false) (Rows.planeOutlinesSpec.post enc Tryz.prog Tryz.f3 false true false false) := by
  refine returnsInHanded_of_change (C := Tryz.checked) (by kernel_rfl) started (by kernel_rfl) Tryz.func3
    (ChangeSpec.witness6 (enc := enc) (C := Tryz.checked) false ⟨#[], #[.slice none 0 0], []⟩ 8 (by kernel_rfl) (by kernel_rfl) (by kernel_rfl) (by kernel_rfl)) ?_
  intro W base args ds gs before hval hW _ _
  exact law_calls (C := Tryz.checked) (b0 := base) w_Outlines_ok fit_PlaneOutlines (by kernel_rfl) rfl (by kernel_rfl) (by kernel_rfl) (bt := 4) (by kernel_rfl) (by kernel_rfl)
    (fun ds h => match ds, h with | [_], _ => rfl) hval hW

theorem PlaneOutlines_holds : Rows.PlaneOutlinesSaid :=
  OpenClaim.holds_of_wide 3 Tryz.f3 rfl rfl rfl rfl rfl rfl rfl ⟨rfl, rfl, rfl, rfl, rfl⟩ rfl rfl rfl rfl rfl (by kernel_rfl) Tryz.func3 (by kernel_rfl)
    (of_decide_eq_true (by kernel_rfl)) (by unfold Func.isWrapper; first | (rw [if_pos (by decide +kernel)]; kernel_rfl) | (rw [if_neg (by decide +kernel)]; exact ⟨rfl, rfl⟩))
    (fun os started H enc _ => lifted_PlaneOutlines os started H enc)

end Go.Proofs.YtdlhpdidgfgomaaGreat
