/- The law leadlightlaw01.PlaneNormal answers true whatever the input, and its arguments read behind the call as they did before. Conditions: none. -/
import Derived.Test.YtdlhpdidgfgomaaRows
import Derived.Test.YtdlhpdidgfgomaaW3
import Derived.Test.YtdlhpdidgfgomaaE4
import Derived.ProofKit
namespace Go.Proofs.Ytdlhpdidgfgomaa
open Go.ChangeShapes Go.WideShapes Go.ChangeAt Go.RowKit
open Go.SE (Sh Fit AllFit shArg law_calls preO resO)

theorem fit_PlaneNormal : ∀ es, AllFit [.sl (.st [.int, .int]), .int, .bool] es → preO w_Normal_s es ∧ resO w_Normal_s es = .bool true := by
  intro es h
  obtain ⟨_, _, rfl, a0, _, _, rfl, a1, _, _, rfl, a2, rfl⟩ := h
  obtain ⟨n0, g0, rfl, l0, h0⟩ := a0
  obtain ⟨v1, rfl, kv1⟩ := a1
  obtain ⟨v2, rfl⟩ := a2
  refine ⟨⟨fun i hi => ?_, ⟨l0, kv1⟩⟩, rfl⟩
  · obtain ⟨_, _, e1, ⟨v3, rfl, kv3⟩, _, _, rfl, ⟨v4, rfl, kv4⟩, rfl⟩ := h0 i hi
    rw [e1]; rfl

set_option maxRecDepth 100000 in
theorem lifted_PlaneNormal (os : Os) (started : os.Started) (H : Type) (enc : TypeId × Value → H) :
    ReturnsInHanded {} Try.checked os 5 .any (Rows.planeNormalSpec.pre6 enc Try.prog Try.f5 Rows.planeNormalRow.domain false) (Rows.planeNormalSpec.post enc Try.prog Try.f5 false true false false) := by
  refine returnsInHanded_of_change (C := Try.checked) (by kernel_rfl) started (by kernel_rfl) Try.func5
    (ChangeSpec.witness6 (enc := enc) (C := Try.checked) false ⟨#[], #[.slice none 0 0, .int .i64 0, .bool false], []⟩ 8 (by kernel_rfl) (by kernel_rfl) (by kernel_rfl) (by kernel_rfl)) ?_
  intro W base args ds gs before hval hW _ _
  exact law_calls (C := Try.checked) (b0 := base) w_Normal_ok fit_PlaneNormal (by kernel_rfl) rfl (by kernel_rfl) (by kernel_rfl) (bt := 4) (by kernel_rfl) (by kernel_rfl)
    (fun ds h => match ds, h with | [_, _, _], _ => rfl) hval hW

theorem PlaneNormal_holds : Rows.PlaneNormalSaid :=
  OpenClaim.holds_of_wide 5 Try.f5 rfl rfl rfl rfl rfl rfl rfl ⟨rfl, rfl, rfl, rfl, rfl⟩ rfl rfl rfl rfl rfl (by kernel_rfl) Try.func5 (by kernel_rfl)
    (of_decide_eq_true (by kernel_rfl)) (by unfold Func.isWrapper; first | (rw [if_pos (by decide +kernel)]; kernel_rfl) | (rw [if_neg (by decide +kernel)]; exact ⟨rfl, rfl⟩))
    (fun os started H enc _ => lifted_PlaneNormal os started H enc)

end Go.Proofs.Ytdlhpdidgfgomaa
