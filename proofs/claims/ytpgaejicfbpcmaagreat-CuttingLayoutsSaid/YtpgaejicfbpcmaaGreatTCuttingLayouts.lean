/- The law leadlightlaw05.CuttingLayouts answers true whatever the input, and its arguments read behind the call as they did before. Conditions: none. -/
import Derived.Test.YtpgaejicfbpcmaaGreatRows
import Derived.Test.YtpgaejicfbpcmaaGreatW4
import Derived.Test.YtpgaejicfbpcmaaGreatE4
import Derived.ProofKit
namespace Go.Proofs.YtpgaejicfbpcmaaGreat
open Go.ChangeShapes Go.WideShapes Go.ChangeAt Go.RowKit
open Go.SE (Sh Fit AllFit shArg law_calls preO resO)

theorem fit_CuttingLayouts : ∀ es, AllFit [.sl (.st [.int, .int, .int, .sl (.st [.int, .int])]), .st [.int, .int, .int, .int, .int]] es → preO w_Layouts_s es ∧ resO w_Layouts_s es = .bool true := by
  intro es h
  obtain ⟨_, _, rfl, a0, _, _, rfl, a1, rfl⟩ := h
  obtain ⟨n0, g0, rfl, l0, h0⟩ := a0
  obtain ⟨_, _, rfl, ⟨v1, rfl, kv1⟩, _, _, rfl, ⟨v2, rfl, kv2⟩, _, _, rfl, ⟨v3, rfl, kv3⟩, _, _, rfl, ⟨v4, rfl, kv4⟩, _, _, rfl, ⟨v5, rfl, kv5⟩, rfl⟩ := a1
  refine ⟨⟨fun i hi => ?_, trivial⟩, rfl⟩
  · obtain ⟨_, _, e1, ⟨v6, rfl, kv6⟩, _, _, rfl, ⟨v7, rfl, kv7⟩, _, _, rfl, ⟨v8, rfl, kv8⟩, _, _, rfl, ⟨n1, g1, rfl, l1, h1⟩, rfl⟩ := h0 i hi
    rw [e1]
    intro j hj
    obtain ⟨_, _, e2, ⟨v9, rfl, kv9⟩, _, _, rfl, ⟨v10, rfl, kv10⟩, rfl⟩ := h1 j hj
    rw [e2]; rfl

set_option maxRecDepth 100000 in
theorem lifted_CuttingLayouts (os : Os) (started : os.Started) (H : Type) (enc : TypeId × Value → H) :
    ReturnsInHanded {} Tryz.checked os 5 .any (Rows.cuttingLayoutsSpec.pre6 enc Tryz.prog Tryz.f5 Rows.cuttingLayoutsRow.domain false) (Rows.cuttingLayoutsSpec.post enc Tryz.prog Tryz.f5 false true false false) := by
  refine returnsInHanded_of_change (C := Tryz.checked) (by kernel_rfl) started (by kernel_rfl) Tryz.func5
    (ChangeSpec.witness6 (enc := enc) (C := Tryz.checked) false ⟨#[], #[.slice none 0 0, .agg #[.int .i64 0, .int .i64 0, .int .i64 0, .int .i64 0, .int .i64 0]], []⟩ 8 (by kernel_rfl) (by kernel_rfl) (by kernel_rfl) (by kernel_rfl)) ?_
  intro W base args ds gs before hval hW _ _
  exact law_calls (C := Tryz.checked) (b0 := base) w_Layouts_ok fit_CuttingLayouts (by kernel_rfl) rfl (by kernel_rfl) (by kernel_rfl) (bt := 4) (by kernel_rfl) (by kernel_rfl)
    (fun ds h => match ds, h with | [_, _], _ => rfl) hval hW

theorem CuttingLayouts_holds : Rows.CuttingLayoutsSaid :=
  OpenClaim.holds_of_wide 5 Tryz.f5 rfl rfl rfl rfl rfl rfl rfl ⟨rfl, rfl, rfl, rfl, rfl⟩ rfl rfl rfl rfl rfl (by kernel_rfl) Tryz.func5 (by kernel_rfl)
    (of_decide_eq_true (by kernel_rfl)) (by unfold Func.isWrapper; first | (rw [if_pos (by decide +kernel)]; kernel_rfl) | (rw [if_neg (by decide +kernel)]; exact ⟨rfl, rfl⟩))
    (fun os started H enc _ => lifted_CuttingLayouts os started H enc)

end Go.Proofs.YtpgaejicfbpcmaaGreat
