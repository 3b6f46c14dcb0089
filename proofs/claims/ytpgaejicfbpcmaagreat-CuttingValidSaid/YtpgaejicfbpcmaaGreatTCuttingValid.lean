/- The law leadlightlaw05.CuttingValid answers true whatever the input, and its arguments read behind the call as they did before. Conditions: none. -/
import Derived.Test.YtpgaejicfbpcmaaGreatRows
import Derived.Test.YtpgaejicfbpcmaaGreatW4
import Derived.Test.YtpgaejicfbpcmaaGreatE4
import Derived.ProofKit
namespace Go.Proofs.YtpgaejicfbpcmaaGreat
open Go.ChangeShapes Go.WideShapes Go.ChangeAt Go.RowKit
open Go.SE (Sh Fit AllFit shArg law_calls preO resO)

theorem fit_CuttingValid : ∀ es, AllFit [.st [.int, .int, .int, .sl (.st [.int, .int])], .st [.int, .int, .int, .int, .int], .int, .int, .st [.int, .int]] es → preO w_Valid_s es ∧ resO w_Valid_s es = .bool true := by
  intro es h
  obtain ⟨_, _, rfl, a0, _, _, rfl, a1, _, _, rfl, a2, _, _, rfl, a3, _, _, rfl, a4, rfl⟩ := h
  obtain ⟨_, _, rfl, ⟨v1, rfl, kv1⟩, _, _, rfl, ⟨v2, rfl, kv2⟩, _, _, rfl, ⟨v3, rfl, kv3⟩, _, _, rfl, ⟨n0, g0, rfl, l0, h0⟩, rfl⟩ := a0
  obtain ⟨_, _, rfl, ⟨v4, rfl, kv4⟩, _, _, rfl, ⟨v5, rfl, kv5⟩, _, _, rfl, ⟨v6, rfl, kv6⟩, _, _, rfl, ⟨v7, rfl, kv7⟩, _, _, rfl, ⟨v8, rfl, kv8⟩, rfl⟩ := a1
  obtain ⟨v9, rfl, kv9⟩ := a2
  obtain ⟨v10, rfl, kv10⟩ := a3
  obtain ⟨_, _, rfl, ⟨v11, rfl, kv11⟩, _, _, rfl, ⟨v12, rfl, kv12⟩, rfl⟩ := a4
  refine ⟨⟨fun i hi => ?_, l0⟩, rfl⟩
  · obtain ⟨_, _, e1, ⟨v13, rfl, kv13⟩, _, _, rfl, ⟨v14, rfl, kv14⟩, rfl⟩ := h0 i hi
    rw [e1]; rfl

set_option maxRecDepth 100000 in
theorem lifted_CuttingValid (os : Os) (started : os.Started) (H : Type) (enc : TypeId × Value → H) :
    ReturnsInHanded {} Tryz.checked os 8 .any (Rows.cuttingValidSpec.pre6 enc Tryz.prog Tryz.f8 Rows.cuttingValidRow.domain false) (Rows.cuttingValidSpec.post enc Tryz.prog Tryz.f8 false true false false) := by
  refine returnsInHanded_of_change (C := Tryz.checked) (by kernel_rfl) started (by kernel_rfl) Tryz.func8
    (ChangeSpec.witness6 (enc := enc) (C := Tryz.checked) false ⟨#[], #[.agg #[.int .i64 0, .int .i64 0, .int .i64 0, .slice none 0 0], .agg #[.int .i64 0, .int .i64 0, .int .i64 0, .int .i64 0, .int .i64 0], .int .i64 0, .int .i64 0, .agg #[.int .i64 0, .int .i64 0]], []⟩ 8 (by kernel_rfl) (by kernel_rfl) (by kernel_rfl) (by kernel_rfl)) ?_
  intro W base args ds gs before hval hW _ _
  exact law_calls (C := Tryz.checked) (b0 := base) w_Valid_ok fit_CuttingValid (by kernel_rfl) rfl (by kernel_rfl) (by kernel_rfl) (bt := 4) (by kernel_rfl) (by kernel_rfl)
    (fun ds h => match ds, h with | [_, _, _, _, _], _ => rfl) hval hW

theorem CuttingValid_holds : Rows.CuttingValidSaid :=
  OpenClaim.holds_of_wide 8 Tryz.f8 rfl rfl rfl rfl rfl rfl rfl ⟨rfl, rfl, rfl, rfl, rfl⟩ rfl rfl rfl rfl rfl (by kernel_rfl) Tryz.func8 (by kernel_rfl)
    (of_decide_eq_true (by kernel_rfl)) (by unfold Func.isWrapper; first | (rw [if_pos (by decide +kernel)]; kernel_rfl) | (rw [if_neg (by decide +kernel)]; exact ⟨rfl, rfl⟩))
    (fun os started H enc _ => lifted_CuttingValid os started H enc)

end Go.Proofs.YtpgaejicfbpcmaaGreat
