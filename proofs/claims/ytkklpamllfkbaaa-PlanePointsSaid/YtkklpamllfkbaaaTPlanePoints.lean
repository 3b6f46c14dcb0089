/- The law leadlightlaw01.PlanePoints answers true whatever the input, and its arguments read behind the call as they did before. Conditions: none. -/
import Derived.Test.YtkklpamllfkbaaaRows
import Derived.Test.YtkklpamllfkbaaaW2
import Derived.Test.YtkklpamllfkbaaaE3
import Derived.ProofKit
namespace Go.Proofs.Ytkklpamllfkbaaa
open Go.ChangeShapes Go.WideShapes Go.ChangeAt Go.RowKit
open Go.SE (Sh Fit AllFit shArg law_calls preO resO)

theorem fit_PlanePoints : ∀ es, AllFit [.st [.int, .int], .st [.int, .int], .st [.int, .int], .st [.int, .int]] es → preO w_Points_s es ∧ resO w_Points_s es = .bool true := by
  intro es h
  obtain ⟨_, _, rfl, a0, _, _, rfl, a1, _, _, rfl, a2, _, _, rfl, a3, rfl⟩ := h
  obtain ⟨_, _, rfl, ⟨v1, rfl⟩, _, _, rfl, ⟨v2, rfl⟩, rfl⟩ := a0
  obtain ⟨_, _, rfl, ⟨v3, rfl⟩, _, _, rfl, ⟨v4, rfl⟩, rfl⟩ := a1
  obtain ⟨_, _, rfl, ⟨v5, rfl⟩, _, _, rfl, ⟨v6, rfl⟩, rfl⟩ := a2
  obtain ⟨_, _, rfl, ⟨v7, rfl⟩, _, _, rfl, ⟨v8, rfl⟩, rfl⟩ := a3
  exact ⟨trivial, rfl⟩

set_option maxRecDepth 100000 in
theorem lifted_PlanePoints (os : Os) (started : os.Started) (H : Type) (enc : TypeId × Value → H) :
    ReturnsInHanded {} Try.checked os 4 .any (Rows.planePointsSpec.pre6 enc Try.prog Try.f4 Rows.planePointsRow.domain false) (Rows.planePointsSpec.post enc Try.prog Try.f4 false true false false) := by
  refine returnsInHanded_of_change (C := Try.checked) (by kernel_rfl) started (by kernel_rfl) Try.func4
    (ChangeSpec.witness6 (enc := enc) (C := Try.checked) false ⟨#[], #[.agg #[.int .i64 0, .int .i64 0], .agg #[.int .i64 0, .int .i64 0], .agg #[.int .i64 0, .int .i64 0], .agg #[.int .i64 0, .int .i64 0]], []⟩ 8 (by kernel_rfl) (by kernel_rfl) (by kernel_rfl) (by kernel_rfl)) ?_
  intro W base args ds gs before hval hW _ _
  exact law_calls (C := Try.checked) (b0 := base) w_Points_ok fit_PlanePoints (by kernel_rfl) rfl (by kernel_rfl) (by kernel_rfl) (bt := 4) (by kernel_rfl) (by kernel_rfl)
    (fun ds h => match ds, h with | [_, _, _, _], _ => rfl) hval hW

theorem PlanePoints_holds : Rows.PlanePointsSaid :=
  OpenClaim.holds_of_wide 4 Try.f4 rfl rfl rfl rfl rfl rfl rfl ⟨rfl, rfl, rfl, rfl, rfl⟩ rfl rfl rfl rfl rfl (by kernel_rfl) Try.func4 (by kernel_rfl)
    (of_decide_eq_true (by kernel_rfl)) (by unfold Func.isWrapper; first | (rw [if_pos (by decide +kernel)]; kernel_rfl) | (rw [if_neg (by decide +kernel)]; exact ⟨rfl, rfl⟩))
    (fun os started H enc _ => lifted_PlanePoints os started H enc)

end Go.Proofs.Ytkklpamllfkbaaa
