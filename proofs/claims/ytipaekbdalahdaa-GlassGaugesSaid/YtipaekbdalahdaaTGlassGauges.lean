/- The law leadlightlaw03.GlassGauges answers true whatever the input, and its arguments read behind the call as they did before. Conditions: none. -/
import Derived.Test.YtipaekbdalahdaaRows
import Derived.Test.YtipaekbdalahdaaW3
import Derived.Test.YtipaekbdalahdaaE3
import Derived.ProofKit
namespace Go.Proofs.Ytipaekbdalahdaa
open Go.ChangeShapes Go.WideShapes Go.ChangeAt Go.RowKit
open Go.SE (Sh Fit AllFit shArg law_calls preO resO)

theorem fit_GlassGauges : ∀ es, AllFit [.sl (.st [.int, .int]), .sl (.st [.st [.int, .int], .st [.int, .int], .int]), .int] es → preO w_GlassGauges_s es ∧ resO w_GlassGauges_s es = .bool true := by
  intro es h
  obtain ⟨_, _, rfl, ⟨n1, g1, rfl, h1⟩, _, _, rfl, ⟨n2, g2, rfl, h2⟩, _, _, rfl, ⟨x, rfl⟩, rfl⟩ := h
  refine ⟨⟨fun i hi => ?_, fun i hi => ?_, trivial⟩, rfl⟩
  · obtain ⟨_, _, e1, ⟨a, rfl⟩, _, _, rfl, ⟨b, rfl⟩, rfl⟩ := h1 i hi
    rw [e1]; rfl
  · obtain ⟨_, _, e1, ⟨_, _, rfl, ⟨a, rfl⟩, _, _, rfl, ⟨b, rfl⟩, rfl⟩, _, _, rfl, ⟨_, _, rfl, ⟨c, rfl⟩, _, _, rfl, ⟨d, rfl⟩, rfl⟩, _, _, rfl, ⟨e, rfl⟩, rfl⟩ := h2 i hi
    rw [e1]; rfl

set_option maxRecDepth 100000 in
theorem lifted_GlassGauges (os : Os) (started : os.Started) (H : Type) (enc : TypeId × Value → H) :
    ReturnsInHanded {} Try.checked os 5 .any (Rows.glassGaugesSpec.pre6 enc Try.prog Try.f5 Rows.glassGaugesRow.domain false) (Rows.glassGaugesSpec.post enc Try.prog Try.f5 false true false false) := by
  refine returnsInHanded_of_change (C := Try.checked) (by kernel_rfl) started (by kernel_rfl) Try.func5
    (ChangeSpec.witness6 (enc := enc) (C := Try.checked) false ⟨#[], #[.slice none 0 0, .slice none 0 0, .int .i64 0], []⟩ 8 (by kernel_rfl) (by kernel_rfl) (by kernel_rfl) (by kernel_rfl)) ?_
  intro W base args ds gs before hval hW _ _
  exact law_calls (C := Try.checked) (b0 := base) w_GlassGauges_ok fit_GlassGauges (by kernel_rfl) rfl (by kernel_rfl) (by kernel_rfl) (bt := 4) (by kernel_rfl) (by kernel_rfl)
    (fun ds h => match ds, h with | [_, _, _], _ => rfl) hval hW

theorem GlassGauges_holds : Rows.GlassGaugesSaid :=
  OpenClaim.holds_of_wide 5 Try.f5 rfl rfl rfl rfl rfl rfl rfl ⟨rfl, rfl, rfl, rfl, rfl⟩ rfl rfl rfl rfl rfl (by kernel_rfl) Try.func5 (by kernel_rfl)
    (of_decide_eq_true (by kernel_rfl)) (by unfold Func.isWrapper; first | (rw [if_pos (by decide +kernel)]; kernel_rfl) | (rw [if_neg (by decide +kernel)]; exact ⟨rfl, rfl⟩))
    (fun os started H enc _ => lifted_GlassGauges os started H enc)

end Go.Proofs.Ytipaekbdalahdaa
