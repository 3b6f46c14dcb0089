/- The law leadlightlaw03.GlassExact answers true whatever the input, and its arguments read behind the call as they did before. Conditions: none. -/
import Derived.Test.YtipaekbdalahdaaRows
import Derived.Test.YtipaekbdalahdaaW4
import Derived.Test.YtipaekbdalahdaaE3
import Derived.ProofKit
namespace Go.Proofs.Ytipaekbdalahdaa
open Go.ChangeShapes Go.WideShapes Go.ChangeAt Go.RowKit
open Go.SE (Sh Fit AllFit shArg law_calls preO resO)

theorem fit_GlassExact : ∀ es, AllFit [.sl (.st [.int, .int]), .sl (.st [.int, .int]), .int, .int] es → preO w_GlassExact_s es ∧ resO w_GlassExact_s es = .bool true := by
  intro es h
  obtain ⟨_, _, rfl, ⟨n1, g1, rfl, hl⟩, _, _, rfl, ⟨n2, g2, rfl, hm⟩, _, _, rfl, ⟨p1, rfl⟩, _, _, rfl, ⟨p2, rfl⟩, rfl⟩ := h
  refine ⟨⟨fun i hi => ?_, fun i hi => ?_, trivial⟩, rfl⟩
  · obtain ⟨_, _, e1, ⟨a, rfl⟩, _, _, rfl, ⟨b, rfl⟩, rfl⟩ := hl i hi
    rw [e1]; rfl
  · obtain ⟨_, _, e1, ⟨a, rfl⟩, _, _, rfl, ⟨b, rfl⟩, rfl⟩ := hm i hi
    rw [e1]; rfl

set_option maxRecDepth 100000 in
theorem lifted_GlassExact (os : Os) (started : os.Started) (H : Type) (enc : TypeId × Value → H) :
    ReturnsInHanded {} Try.checked os 10 .any (Rows.glassExactSpec.pre6 enc Try.prog Try.f10 Rows.glassExactRow.domain false) (Rows.glassExactSpec.post enc Try.prog Try.f10 false true false false) := by
  refine returnsInHanded_of_change (C := Try.checked) (by kernel_rfl) started (by kernel_rfl) Try.func10
    (ChangeSpec.witness6 (enc := enc) (C := Try.checked) false ⟨#[], #[.slice none 0 0, .slice none 0 0, .int .i64 0, .int .i64 0], []⟩ 8 (by kernel_rfl) (by kernel_rfl) (by kernel_rfl) (by kernel_rfl)) ?_
  intro W base args ds gs before hval hW _ _
  exact law_calls (C := Try.checked) (b0 := base) w_GlassExact_ok fit_GlassExact (by kernel_rfl) rfl (by kernel_rfl) (by kernel_rfl) (bt := 4) (by kernel_rfl) (by kernel_rfl)
    (fun ds h => match ds, h with | [_, _, _, _], _ => rfl) hval hW

theorem GlassExact_holds : Rows.GlassExactSaid :=
  OpenClaim.holds_of_wide 10 Try.f10 rfl rfl rfl rfl rfl rfl rfl ⟨rfl, rfl, rfl, rfl, rfl⟩ rfl rfl rfl rfl rfl (by kernel_rfl) Try.func10 (by kernel_rfl)
    (of_decide_eq_true (by kernel_rfl)) (by unfold Func.isWrapper; first | (rw [if_pos (by decide +kernel)]; kernel_rfl) | (rw [if_neg (by decide +kernel)]; exact ⟨rfl, rfl⟩))
    (fun os started H enc _ => lifted_GlassExact os started H enc)

end Go.Proofs.Ytipaekbdalahdaa
