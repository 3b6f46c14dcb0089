/- The law leadlightlaw03.GlassMarks answers true whatever the input, and its arguments read behind the call as they did before. Conditions: none. -/
import Derived.Test.YtipaekbdalahdaaRows
import Derived.Test.YtipaekbdalahdaaW4
import Derived.Test.YtipaekbdalahdaaE3
import Derived.ProofKit
namespace Go.Proofs.Ytipaekbdalahdaa
open Go.ChangeShapes Go.WideShapes Go.ChangeAt Go.RowKit
open Go.SE (Sh Fit AllFit shArg law_calls preO resO)

theorem fit_GlassMarks : ∀ es, AllFit [.sl (.st [.int, .int, .int]), .sl (.st [.int, .int, .int]), .int, .st [.int, .int], .int] es → preO w_GlassMarks_s es ∧ resO w_GlassMarks_s es = .bool true := by
  intro es h
  obtain ⟨_, _, rfl, ⟨n1, g1, rfl, h1⟩, _, _, rfl, ⟨n2, g2, rfl, h2⟩, _, _, rfl, ⟨x, rfl⟩, _, _, rfl, hs, _, _, rfl, ⟨y, rfl⟩, rfl⟩ := h
  obtain ⟨_, _, rfl, ⟨p, rfl⟩, _, _, rfl, ⟨q, rfl⟩, rfl⟩ := hs
  refine ⟨⟨fun i hi => ?_, fun i hi => ?_, trivial⟩, rfl⟩
  · obtain ⟨_, _, e1, ⟨a, rfl⟩, _, _, rfl, ⟨b, rfl⟩, _, _, rfl, ⟨c, rfl⟩, rfl⟩ := h1 i hi
    rw [e1]; rfl
  · obtain ⟨_, _, e1, ⟨a, rfl⟩, _, _, rfl, ⟨b, rfl⟩, _, _, rfl, ⟨c, rfl⟩, rfl⟩ := h2 i hi
    rw [e1]; rfl

set_option maxRecDepth 100000 in
theorem lifted_GlassMarks (os : Os) (started : os.Started) (H : Type) (enc : TypeId × Value → H) :
    ReturnsInHanded {} Try.checked os 6 .any (Rows.glassMarksSpec.pre6 enc Try.prog Try.f6 Rows.glassMarksRow.domain false) (Rows.glassMarksSpec.post enc Try.prog Try.f6 false true false false) := by
  refine returnsInHanded_of_change (C := Try.checked) (by kernel_rfl) started (by kernel_rfl) Try.func6
    (ChangeSpec.witness6 (enc := enc) (C := Try.checked) false ⟨#[], #[.slice none 0 0, .slice none 0 0, .int .i64 0, .agg #[.int .i64 0, .int .i64 0], .int .i64 0], []⟩ 8 (by kernel_rfl) (by kernel_rfl) (by kernel_rfl) (by kernel_rfl)) ?_
  intro W base args ds gs before hval hW _ _
  exact law_calls (C := Try.checked) (b0 := base) w_GlassMarks_ok fit_GlassMarks (by kernel_rfl) rfl (by kernel_rfl) (by kernel_rfl) (bt := 4) (by kernel_rfl) (by kernel_rfl)
    (fun ds h => match ds, h with | [_, _, _, _, _], _ => rfl) hval hW

theorem GlassMarks_holds : Rows.GlassMarksSaid :=
  OpenClaim.holds_of_wide 6 Try.f6 rfl rfl rfl rfl rfl rfl rfl ⟨rfl, rfl, rfl, rfl, rfl⟩ rfl rfl rfl rfl rfl (by kernel_rfl) Try.func6 (by kernel_rfl)
    (of_decide_eq_true (by kernel_rfl)) (by unfold Func.isWrapper; first | (rw [if_pos (by decide +kernel)]; kernel_rfl) | (rw [if_neg (by decide +kernel)]; exact ⟨rfl, rfl⟩))
    (fun os started H enc _ => lifted_GlassMarks os started H enc)

end Go.Proofs.Ytipaekbdalahdaa
