/- The law leadlightlaw01.PlanePick answers true whatever the input, and its arguments read behind the call as they did before. Conditions: none. -/
import Derived.Test.YtinfalehnaejbaaRows
import Derived.Test.YtinfalehnaejbaaW4
import Derived.Test.YtinfalehnaejbaaE4
import Derived.ProofKit
namespace Go.Proofs.Ytinfalehnaejbaa
open Go.ChangeShapes Go.WideShapes Go.ChangeAt Go.RowKit
open Go.SE (Sh Fit AllFit shArg law_calls preO resO)

theorem fit_PlanePick : ∀ es, AllFit [.sl (.st [.int, .int])] es → preO w_Pick_s es ∧ resO w_Pick_s es = .bool true := by
  intro es h
  obtain ⟨_, _, rfl, a0, rfl⟩ := h
  obtain ⟨n0, g0, rfl, l0, h0⟩ := a0
  refine ⟨⟨fun i hi => ?_, l0⟩, rfl⟩
  · obtain ⟨_, _, e1, ⟨v1, rfl, kv1⟩, _, _, rfl, ⟨v2, rfl, kv2⟩, rfl⟩ := h0 i hi
    rw [e1]; rfl

set_option maxRecDepth 100000 in
theorem lifted_PlanePick (os : Os) (started : os.Started) (H : Type) (enc : TypeId × Value → H) :
    ReturnsInHanded {} Try.checked os 3 .any (Rows.planePickSpec.pre6 enc Try.prog Try.f3 Rows.planePickRow.domain false) (Rows.planePickSpec.post enc Try.prog Try.f3 false true false false) := by
  refine returnsInHanded_of_change (C := Try.checked) (by kernel_rfl) started (by kernel_rfl) Try.func3
    (ChangeSpec.witness6 (enc := enc) (C := Try.checked) false ⟨#[], #[.slice none 0 0], []⟩ 8 (by kernel_rfl) (by kernel_rfl) (by kernel_rfl) (by kernel_rfl)) ?_
  intro W base args ds gs before hval hW _ _
  exact law_calls (C := Try.checked) (b0 := base) w_Pick_ok fit_PlanePick (by kernel_rfl) rfl (by kernel_rfl) (by kernel_rfl) (bt := 4) (by kernel_rfl) (by kernel_rfl)
    (fun ds h => match ds, h with | [_], _ => rfl) hval hW

theorem PlanePick_holds : Rows.PlanePickSaid :=
  OpenClaim.holds_of_wide 3 Try.f3 rfl rfl rfl rfl rfl rfl rfl ⟨rfl, rfl, rfl, rfl, rfl⟩ rfl rfl rfl rfl rfl (by kernel_rfl) Try.func3 (by kernel_rfl)
    (of_decide_eq_true (by kernel_rfl)) (by unfold Func.isWrapper; first | (rw [if_pos (by decide +kernel)]; kernel_rfl) | (rw [if_neg (by decide +kernel)]; exact ⟨rfl, rfl⟩))
    (fun os started H enc _ => lifted_PlanePick os started H enc)

end Go.Proofs.Ytinfalehnaejbaa
