/- The law leadlightlaw01.PlaneRigid answers true whatever the input, and its arguments read behind the call as they did before. Conditions: none. -/
import Derived.Test.YtooapgllahonaaaGreatRows
import Derived.Test.YtooapgllahonaaaGreatW5
import Derived.Test.YtooapgllahonaaaGreatE3
import Derived.ProofKit
namespace Go.Proofs.YtooapgllahonaaaGreat
open Go.ChangeShapes Go.WideShapes Go.ChangeAt Go.RowKit
open Go.SE (Sh Fit AllFit shArg law_calls preO resO)

theorem fit_PlaneRigid : ∀ es, AllFit [.sl (.st [.int, .int]), .st [.int, .bool, .st [.int, .int]], .st [.int, .bool, .st [.int, .int]]] es → preO w_PRigid_s es ∧ resO w_PRigid_s es = .bool true := by
  intro es h
  obtain ⟨_, _, rfl, a0, _, _, rfl, a1, _, _, rfl, a2, rfl⟩ := h
  obtain ⟨n0, g0, rfl, l0, h0⟩ := a0
  obtain ⟨_, _, rfl, ⟨v1, rfl⟩, _, _, rfl, ⟨v2, rfl⟩, _, _, rfl, ⟨_, _, rfl, ⟨v3, rfl⟩, _, _, rfl, ⟨v4, rfl⟩, rfl⟩, rfl⟩ := a1
  obtain ⟨_, _, rfl, ⟨v5, rfl⟩, _, _, rfl, ⟨v6, rfl⟩, _, _, rfl, ⟨_, _, rfl, ⟨v7, rfl⟩, _, _, rfl, ⟨v8, rfl⟩, rfl⟩, rfl⟩ := a2
  refine ⟨⟨fun i hi => ?_, l0⟩, rfl⟩
  · obtain ⟨_, _, e1, ⟨v9, rfl⟩, _, _, rfl, ⟨v10, rfl⟩, rfl⟩ := h0 i hi
    rw [e1]; rfl

set_option maxRecDepth 100000 in
theorem lifted_PlaneRigid (os : Os) (started : os.Started) (H : Type) (enc : TypeId × Value → H) :
    ReturnsInHanded {} Tryz.checked os 8 .any (Rows.planeRigidSpec.pre6 enc Tryz.prog Tryz.f8 Rows.planeRigidRow.domain false) (Rows.planeRigidSpec.post enc Tryz.prog Tryz.f8 false true false false) := by
  refine returnsInHanded_of_change (C := Tryz.checked) (by kernel_rfl) started (by kernel_rfl) Tryz.func8
    (ChangeSpec.witness6 (enc := enc) (C := Tryz.checked) false ⟨#[], #[.slice none 0 0, .agg #[.int .i64 0, .bool false, .int .i64 0, .int .i64 0], .agg #[.int .i64 0, .bool false, .int .i64 0, .int .i64 0]], []⟩ 8 (by kernel_rfl) (by kernel_rfl) (by kernel_rfl) (by kernel_rfl)) ?_
  intro W base args ds gs before hval hW _ _
  exact law_calls (C := Tryz.checked) (b0 := base) w_PRigid_ok fit_PlaneRigid (by kernel_rfl) rfl (by kernel_rfl) (by kernel_rfl) (bt := 4) (by kernel_rfl) (by kernel_rfl)
    (fun ds h => match ds, h with | [_, _, _], _ => rfl) hval hW

theorem PlaneRigid_holds : Rows.PlaneRigidSaid :=
  OpenClaim.holds_of_wide 8 Tryz.f8 rfl rfl rfl rfl rfl rfl rfl ⟨rfl, rfl, rfl, rfl, rfl⟩ rfl rfl rfl rfl rfl (by kernel_rfl) Tryz.func8 (by kernel_rfl)
    (of_decide_eq_true (by kernel_rfl)) (by unfold Func.isWrapper; first | (rw [if_pos (by decide +kernel)]; kernel_rfl) | (rw [if_neg (by decide +kernel)]; exact ⟨rfl, rfl⟩))
    (fun os started H enc _ => lifted_PlaneRigid os started H enc)

end Go.Proofs.YtooapgllahonaaaGreat
