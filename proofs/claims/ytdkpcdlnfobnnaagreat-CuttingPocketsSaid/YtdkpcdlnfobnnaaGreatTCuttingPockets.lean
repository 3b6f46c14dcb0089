/- The law leadlightlaw05.CuttingPockets answers true whatever the input, and its arguments read behind the call as they did before. Conditions: none. -/
import Derived.Test.YtdkpcdlnfobnnaaGreatRows
import Derived.Test.YtdkpcdlnfobnnaaGreatW6
import Derived.Test.YtdkpcdlnfobnnaaGreatE5
import Derived.ProofKit
namespace Go.Proofs.YtdkpcdlnfobnnaaGreat
open Go.ChangeShapes Go.WideShapes Go.ChangeAt Go.RowKit
open Go.SE (Sh GU Mn Mm UA DA En)

theorem Ahx : ∀ es, Mn [.sl (.st [.int, .int]), .st [.int, .int, .int], .st [.int, .int], .st [.int, .int], .st [.int, .int], .int] es → DA OL es ∧ En OL es = .bool true := by
  intro es h
  obtain ⟨_, _, rfl, a0, _, _, rfl, a1, _, _, rfl, a2, _, _, rfl, a3, _, _, rfl, a4, _, _, rfl, a5, rfl⟩ := h
  obtain ⟨n0, g0, rfl, l0, h0⟩ := a0
  obtain ⟨_, _, rfl, ⟨v1, rfl, kv1⟩, _, _, rfl, ⟨v2, rfl, kv2⟩, _, _, rfl, ⟨v3, rfl, kv3⟩, rfl⟩ := a1
  obtain ⟨_, _, rfl, ⟨v4, rfl, kv4⟩, _, _, rfl, ⟨v5, rfl, kv5⟩, rfl⟩ := a2
  obtain ⟨_, _, rfl, ⟨v6, rfl, kv6⟩, _, _, rfl, ⟨v7, rfl, kv7⟩, rfl⟩ := a3
  obtain ⟨_, _, rfl, ⟨v8, rfl, kv8⟩, _, _, rfl, ⟨v9, rfl, kv9⟩, rfl⟩ := a4
  obtain ⟨v10, rfl, kv10⟩ := a5
  refine ⟨⟨fun i hi => ?_, l0⟩, rfl⟩
  · obtain ⟨_, _, e1, ⟨v11, rfl, kv11⟩, _, _, rfl, ⟨v12, rfl, kv12⟩, rfl⟩ := h0 i hi
    rw [e1]; rfl

set_option maxRecDepth 100000 in
theorem Ahy (os : Os) (started : os.Started) (H : Type) (enc : TypeId × Value → H) :
    ReturnsInHanded {} Tryz.checked os 4 .any (Rows.cuttingPocketsSpec.pre6 enc Tryz.prog Tryz.f4 Rows.cuttingPocketsRow.domain false) (Rows.cuttingPocketsSpec.post enc Tryz.prog Tryz.f4 false true false false) := by
  refine returnsInHanded_of_change (C := Tryz.checked) (by kernel_rfl) started (by kernel_rfl) Tryz.func4
    (ChangeSpec.witness6 (enc := enc) (C := Tryz.checked) false ⟨#[], #[.slice none 0 0, .agg #[.int .i64 0, .int .i64 0, .int .i64 0], .agg #[.int .i64 0, .int .i64 0], .agg #[.int .i64 0, .int .i64 0], .agg #[.int .i64 0, .int .i64 0], .int .i64 0], []⟩ 8 (by kernel_rfl) (by kernel_rfl) (by kernel_rfl) (by kernel_rfl)) ?_
  intro W base args ds gs before hval hW _ _
  exact UA (C := Tryz.checked) (b0 := base) Ahw Ahx (by kernel_rfl) rfl (by kernel_rfl) (by kernel_rfl) (bt := 4) (by kernel_rfl) (by kernel_rfl)
    (fun ds h => match ds, h with | [_, _, _, _, _, _], _ => rfl) hval hW

theorem CuttingPockets_holds : Rows.CuttingPocketsSaid :=
  OpenClaim.holds_of_wide 4 Tryz.f4 rfl rfl rfl rfl rfl rfl rfl ⟨rfl, rfl, rfl, rfl, rfl⟩ rfl rfl rfl rfl rfl (by kernel_rfl) Tryz.func4 (by kernel_rfl)
    (of_decide_eq_true (by kernel_rfl)) (by unfold Func.isWrapper; first | (rw [if_pos (by decide +kernel)]; kernel_rfl) | (rw [if_neg (by decide +kernel)]; exact ⟨rfl, rfl⟩))
    (fun os started H enc _ => Ahy os started H enc)

end Go.Proofs.YtdkpcdlnfobnnaaGreat
