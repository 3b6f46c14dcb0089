/- The law leadlightlaw03.GlassMoves answers true whatever the input, and its arguments read behind the call as they did before. Conditions: none. -/
import Derived.Test.YtipaekbdalahdaaRows
import Derived.Test.YtipaekbdalahdaaW5
import Derived.Test.YtipaekbdalahdaaE3
import Derived.ProofKit
namespace Go.Proofs.Ytipaekbdalahdaa
open Go.ChangeShapes Go.WideShapes Go.ChangeAt Go.RowKit
open Go.SE (Sh Fit AllFit shArg law_calls preO resO)

theorem fit_GlassMoves : ∀ es, AllFit [.st [.int, .int, .int, .int, .int, .sl (.st [.st [.int, .int], .st [.int, .int], .int]), .sl (.st [.int, .int, .int])], .sl (.st [.int, .int]), .st [.int, .bool], .st [.int, .bool, .st [.int, .int]]] es → preO w_GlassMoves_s es ∧ resO w_GlassMoves_s es = .bool true := by
  intro es h
  obtain ⟨_, _, rfl, h1, _, _, rfl, ⟨n1, g1, rfl, _, hl⟩, _, _, rfl, h3, _, _, rfl, h4, rfl⟩ := h
  obtain ⟨_, _, rfl, ⟨p1, rfl⟩, _, _, rfl, ⟨p2, rfl⟩, _, _, rfl, ⟨p3, rfl⟩, _, _, rfl, ⟨p4, rfl⟩, _, _, rfl, ⟨p5, rfl⟩, _, _, rfl, ⟨gn, gg, rfl, hgn, hg⟩, _, _, rfl, ⟨mn, mg, rfl, hmn, hm⟩, rfl⟩ := h1
  obtain ⟨_, _, rfl, ⟨a, rfl⟩, _, _, rfl, ⟨b, rfl⟩, rfl⟩ := h3
  obtain ⟨_, _, rfl, ⟨a4, rfl⟩, _, _, rfl, ⟨b4, rfl⟩, _, _, rfl, ⟨_, _, rfl, ⟨c4, rfl⟩, _, _, rfl, ⟨d4, rfl⟩, rfl⟩, rfl⟩ := h4
  refine ⟨⟨fun i hi => ?_, fun i hi => ?_, fun i hi => ?_, hgn, hmn⟩, rfl⟩
  · obtain ⟨_, _, e1, ⟨_, _, rfl, ⟨a, rfl⟩, _, _, rfl, ⟨b, rfl⟩, rfl⟩, _, _, rfl, ⟨_, _, rfl, ⟨c, rfl⟩, _, _, rfl, ⟨d, rfl⟩, rfl⟩, _, _, rfl, ⟨e, rfl⟩, rfl⟩ := hg i hi
    rw [e1]; rfl
  · obtain ⟨_, _, e1, ⟨a, rfl⟩, _, _, rfl, ⟨b, rfl⟩, _, _, rfl, ⟨c, rfl⟩, rfl⟩ := hm i hi
    rw [e1]; rfl
  · obtain ⟨_, _, e1, ⟨a, rfl⟩, _, _, rfl, ⟨b, rfl⟩, rfl⟩ := hl i hi
    rw [e1]; rfl

set_option maxRecDepth 100000 in
theorem lifted_GlassMoves (os : Os) (started : os.Started) (H : Type) (enc : TypeId × Value → H) :
    ReturnsInHanded {} Try.checked os 11 .any (Rows.glassMovesSpec.pre6 enc Try.prog Try.f11 Rows.glassMovesRow.domain false) (Rows.glassMovesSpec.post enc Try.prog Try.f11 false true false false) := by
  refine returnsInHanded_of_change (C := Try.checked) (by kernel_rfl) started (by kernel_rfl) Try.func11
    (ChangeSpec.witness6 (enc := enc) (C := Try.checked) false ⟨#[], #[.agg #[.int .i64 0, .int .i64 0, .int .i64 0, .int .i64 0, .int .i64 0, .slice none 0 0, .slice none 0 0], .slice none 0 0, .agg #[.int .i64 0, .bool false], .agg #[.int .i64 0, .bool false, .int .i64 0, .int .i64 0]], []⟩ 8 (by kernel_rfl) (by kernel_rfl) (by kernel_rfl) (by kernel_rfl)) ?_
  intro W base args ds gs before hval hW _ _
  exact law_calls (C := Try.checked) (b0 := base) w_GlassMoves_ok fit_GlassMoves (by kernel_rfl) rfl (by kernel_rfl) (by kernel_rfl) (bt := 4) (by kernel_rfl) (by kernel_rfl)
    (fun ds h => match ds, h with | [_, _, _, _], _ => rfl) hval hW

theorem GlassMoves_holds : Rows.GlassMovesSaid :=
  OpenClaim.holds_of_wide 11 Try.f11 rfl rfl rfl rfl rfl rfl rfl ⟨rfl, rfl, rfl, rfl, rfl⟩ rfl rfl rfl rfl rfl (by kernel_rfl) Try.func11 (by kernel_rfl)
    (of_decide_eq_true (by kernel_rfl)) (by unfold Func.isWrapper; first | (rw [if_pos (by decide +kernel)]; kernel_rfl) | (rw [if_neg (by decide +kernel)]; exact ⟨rfl, rfl⟩))
    (fun os started H enc _ => lifted_GlassMoves os started H enc)

end Go.Proofs.Ytipaekbdalahdaa
