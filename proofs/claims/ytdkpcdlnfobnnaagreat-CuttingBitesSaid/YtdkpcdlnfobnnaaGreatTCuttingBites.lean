/- The law leadlightlaw05.CuttingBites answers true whatever the input, and its arguments read behind the call as they did before. Conditions: none. -/
import Derived.Test.YtdkpcdlnfobnnaaGreatRows
import Derived.Test.YtdkpcdlnfobnnaaGreatW5
import Derived.Test.YtdkpcdlnfobnnaaGreatE5
import Derived.ProofKit
namespace Go.Proofs.YtdkpcdlnfobnnaaGreat
open Go.ChangeShapes Go.WideShapes Go.ChangeAt Go.RowKit
open Go.SE (Sh G2 Lv Lu T1 De DF)

theorem Adl : ∀ es, Lv [.sl (.st [.int, .int]), .int, .int] es → De NN es ∧ DF NN es = .bool true := by
  intro es h
  obtain ⟨_, _, rfl, a0, _, _, rfl, a1, _, _, rfl, a2, rfl⟩ := h
  obtain ⟨n0, g0, rfl, l0, h0⟩ := a0
  obtain ⟨v1, rfl, kv1⟩ := a1
  obtain ⟨v2, rfl, kv2⟩ := a2
  refine ⟨⟨fun i hi => ?_, l0⟩, rfl⟩
  · obtain ⟨_, _, e1, ⟨v3, rfl, kv3⟩, _, _, rfl, ⟨v4, rfl, kv4⟩, rfl⟩ := h0 i hi
    rw [e1]; rfl

set_option maxRecDepth 100000 in
theorem Adm (os : Os) (started : os.Started) (H : Type) (enc : TypeId × Value → H) :
    ReturnsInHanded {} Tryz.checked os 3 .any (Rows.cuttingBitesSpec.pre6 enc Tryz.prog Tryz.f3 Rows.cuttingBitesRow.domain false) (Rows.cuttingBitesSpec.post enc Tryz.prog Tryz.f3 false true false false) := by
  refine returnsInHanded_of_change (C := Tryz.checked) (by kernel_rfl) started (by kernel_rfl) Tryz.func3
    (ChangeSpec.witness6 (enc := enc) (C := Tryz.checked) false ⟨#[], #[.slice none 0 0, .int .i64 0, .int .i64 0], []⟩ 8 (by kernel_rfl) (by kernel_rfl) (by kernel_rfl) (by kernel_rfl)) ?_
  intro W base args ds gs before hval hW _ _
  exact T1 (C := Tryz.checked) (b0 := base) Adk Adl (by kernel_rfl) rfl (by kernel_rfl) (by kernel_rfl) (bt := 4) (by kernel_rfl) (by kernel_rfl)
    (fun ds h => match ds, h with | [_, _, _], _ => rfl) hval hW

theorem CuttingBites_holds : Rows.CuttingBitesSaid :=
  OpenClaim.holds_of_wide 3 Tryz.f3 rfl rfl rfl rfl rfl rfl rfl ⟨rfl, rfl, rfl, rfl, rfl⟩ rfl rfl rfl rfl rfl (by kernel_rfl) Tryz.func3 (by kernel_rfl)
    (of_decide_eq_true (by kernel_rfl)) (by unfold Func.isWrapper; first | (rw [if_pos (by decide +kernel)]; kernel_rfl) | (rw [if_neg (by decide +kernel)]; exact ⟨rfl, rfl⟩))
    (fun os started H enc _ => Adm os started H enc)

end Go.Proofs.YtdkpcdlnfobnnaaGreat
