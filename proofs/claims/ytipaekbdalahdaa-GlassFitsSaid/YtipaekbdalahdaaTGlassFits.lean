/- The law leadlightlaw03.GlassFits answers true whatever the input, and its arguments read behind the call as they did before. Conditions: none. -/
import Derived.Test.YtipaekbdalahdaaRows
import Derived.Test.YtipaekbdalahdaaW4
import Derived.Test.YtipaekbdalahdaaE3
import Derived.ProofKit
namespace Go.Proofs.Ytipaekbdalahdaa
open Go.ChangeShapes Go.WideShapes Go.ChangeAt Go.RowKit
open Go.SE (Sh Fit AllFit shArg law_calls preO resO)

theorem fit_GlassFits : ∀ es, AllFit [.st [.int, .int, .int, .int, .int, .sl (.st [.st [.int, .int], .st [.int, .int], .int]), .sl (.st [.int, .int, .int])], .sl (.st [.int, .int]), .st [.int, .bool]] es → preO w_GlassFits_s es ∧ resO w_GlassFits_s es = .bool true := by
  intro es h
  obtain ⟨_, _, rfl, h1, _, _, rfl, ⟨n1, g1, rfl, hl⟩, _, _, rfl, h3, rfl⟩ := h
  obtain ⟨_, _, rfl, ⟨p1, rfl⟩, _, _, rfl, ⟨p2, rfl⟩, _, _, rfl, ⟨p3, rfl⟩, _, _, rfl, ⟨p4, rfl⟩, _, _, rfl, ⟨p5, rfl⟩, _, _, rfl, ⟨gn, gg, rfl, hg⟩, _, _, rfl, ⟨mn, mg, rfl, hm⟩, rfl⟩ := h1
  obtain ⟨_, _, rfl, ⟨a, rfl⟩, _, _, rfl, ⟨b, rfl⟩, rfl⟩ := h3
  refine ⟨⟨fun i hi => ?_, fun i hi => ?_, fun i hi => ?_, trivial⟩, rfl⟩
  · obtain ⟨_, _, e1, ⟨_, _, rfl, ⟨a, rfl⟩, _, _, rfl, ⟨b, rfl⟩, rfl⟩, _, _, rfl, ⟨_, _, rfl, ⟨c, rfl⟩, _, _, rfl, ⟨d, rfl⟩, rfl⟩, _, _, rfl, ⟨e, rfl⟩, rfl⟩ := hg i hi
    rw [e1]; rfl
  · obtain ⟨_, _, e1, ⟨a, rfl⟩, _, _, rfl, ⟨b, rfl⟩, _, _, rfl, ⟨c, rfl⟩, rfl⟩ := hm i hi
    rw [e1]; rfl
  · obtain ⟨_, _, e1, ⟨a, rfl⟩, _, _, rfl, ⟨b, rfl⟩, rfl⟩ := hl i hi
    rw [e1]; rfl

set_option maxRecDepth 100000 in
theorem lifted_GlassFits (os : Os) (started : os.Started) (H : Type) (enc : TypeId × Value → H) :
    ReturnsInHanded {} Try.checked os 9 .any (Rows.glassFitsSpec.pre6 enc Try.prog Try.f9 Rows.glassFitsRow.domain false) (Rows.glassFitsSpec.post enc Try.prog Try.f9 false true false false) := by
  refine returnsInHanded_of_change (C := Try.checked) (by kernel_rfl) started (by kernel_rfl) Try.func9
    (ChangeSpec.witness6 (enc := enc) (C := Try.checked) false ⟨#[], #[.agg #[.int .i64 0, .int .i64 0, .int .i64 0, .int .i64 0, .int .i64 0, .slice none 0 0, .slice none 0 0], .slice none 0 0, .agg #[.int .i64 0, .bool false]], []⟩ 8 (by kernel_rfl) (by kernel_rfl) (by kernel_rfl) (by kernel_rfl)) ?_
  intro W base args ds gs before hval hW _ _
  exact law_calls (C := Try.checked) (b0 := base) w_GlassFits_ok fit_GlassFits (by kernel_rfl) rfl (by kernel_rfl) (by kernel_rfl) (bt := 4) (by kernel_rfl) (by kernel_rfl)
    (fun ds h => match ds, h with | [_, _, _], _ => rfl) hval hW

theorem GlassFits_holds : Rows.GlassFitsSaid :=
  OpenClaim.holds_of_wide 9 Try.f9 rfl rfl rfl rfl rfl rfl rfl ⟨rfl, rfl, rfl, rfl, rfl⟩ rfl rfl rfl rfl rfl (by kernel_rfl) Try.func9 (by kernel_rfl)
    (of_decide_eq_true (by kernel_rfl)) (by unfold Func.isWrapper; first | (rw [if_pos (by decide +kernel)]; kernel_rfl) | (rw [if_neg (by decide +kernel)]; exact ⟨rfl, rfl⟩))
    (fun os started H enc _ => lifted_GlassFits os started H enc)

end Go.Proofs.Ytipaekbdalahdaa
