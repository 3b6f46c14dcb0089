/- The law leadlightlaw01.PlaneAreas answers true whatever the input, and its arguments read behind the call as they did before. Conditions: none. -/
import Derived.Test.YtinfalehnaejbaaGreatRows
import Derived.Test.YtinfalehnaejbaaGreatW5
import Derived.Test.YtinfalehnaejbaaGreatE4
import Derived.ProofKit
namespace Go.Proofs.YtinfalehnaejbaaGreat
open Go.ChangeShapes Go.WideShapes Go.ChangeAt Go.RowKit
open Go.SE (Sh Fit AllFit shArg law_calls preO resO)

theorem fit_PlaneAreas : ∀ es, AllFit [.sl (.st [.int, .int]), .int, .int] es → preO w_Areas_s es ∧ resO w_Areas_s es = .bool true := by
  intro es h
  obtain ⟨_, _, rfl, a0, _, _, rfl, a1, _, _, rfl, a2, rfl⟩ := h
  obtain ⟨n0, g0, rfl, l0, h0⟩ := a0
  obtain ⟨v1, rfl, kv1⟩ := a1
  obtain ⟨v2, rfl, kv2⟩ := a2
  refine ⟨⟨fun i hi => ?_, l0⟩, rfl⟩
  · obtain ⟨_, _, e1, ⟨v3, rfl, kv3⟩, _, _, rfl, ⟨v4, rfl, kv4⟩, rfl⟩ := h0 i hi
    rw [e1]; rfl

set_option maxRecDepth 100000 in
theorem lifted_PlaneAreas (os : Os) (started : os.Started) (H : Type) (enc : TypeId × Value → H) :
    ReturnsInHanded {} Tryz.checked os 3 .any (Rows.planeAreasSpec.pre6 enc Tryz.prog Tryz.f3 Rows.planeAreasRow.domain false) (Rows.planeAreasSpec.post enc Tryz.prog Tryz.f3 false true false false) := by
  refine returnsInHanded_of_change (C := Tryz.checked) (by kernel_rfl) started (by kernel_rfl) Tryz.func3
    (ChangeSpec.witness6 (enc := enc) (C := Tryz.checked) false ⟨#[], #[.slice none 0 0, .int .i64 0, .int .i64 0], []⟩ 8 (by kernel_rfl) (by kernel_rfl) (by kernel_rfl) (by kernel_rfl)) ?_
  intro W base args ds gs before hval hW _ _
  exact law_calls (C := Tryz.checked) (b0 := base) w_Areas_ok fit_PlaneAreas (by kernel_rfl) rfl (by kernel_rfl) (by kernel_rfl) (bt := 4) (by kernel_rfl) (by kernel_rfl)
    (fun ds h => match ds, h with | [_, _, _], _ => rfl) hval hW

theorem PlaneAreas_holds : Rows.PlaneAreasSaid :=
  OpenClaim.holds_of_wide 3 Tryz.f3 rfl rfl rfl rfl rfl rfl rfl ⟨rfl, rfl, rfl, rfl, rfl⟩ rfl rfl rfl rfl rfl (by kernel_rfl) Tryz.func3 (by kernel_rfl)
    (of_decide_eq_true (by kernel_rfl)) (by unfold Func.isWrapper; first | (rw [if_pos (by decide +kernel)]; kernel_rfl) | (rw [if_neg (by decide +kernel)]; exact ⟨rfl, rfl⟩))
    (fun os started H enc _ => lifted_PlaneAreas os started H enc)

end Go.Proofs.YtinfalehnaejbaaGreat
