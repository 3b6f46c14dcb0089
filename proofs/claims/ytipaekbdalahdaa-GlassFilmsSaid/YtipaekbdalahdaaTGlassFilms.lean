/- The law leadlightlaw03.GlassFilms answers true whatever the input, and its arguments read behind the call as they did before. Conditions: none. -/
import Derived.Test.YtipaekbdalahdaaRows
import Derived.Test.YtipaekbdalahdaaW4
import Derived.Test.YtipaekbdalahdaaE3
import Derived.ProofKit
namespace Go.Proofs.Ytipaekbdalahdaa
open Go.ChangeShapes Go.WideShapes Go.ChangeAt Go.RowKit
open Go.SE (Sh Fit AllFit shArg law_calls preO resO)

theorem fit_GlassFilms : ∀ es, AllFit [.st [.int, .sl .int], .int, .st [.int, .int], .sl .int, .int, .sl .int] es → preO w_GlassFilms_s es ∧ resO w_GlassFilms_s es = .bool true := by
  intro es h
  obtain ⟨_, _, rfl, h1, _, _, rfl, ⟨c, rfl⟩, _, _, rfl, h2, _, _, rfl, ⟨cn, cg, rfl, hc⟩, _, _, rfl, ⟨sw, rfl⟩, _, _, rfl, ⟨ln, lg, rfl, hl⟩, rfl⟩ := h
  obtain ⟨_, _, rfl, ⟨f1, rfl⟩, _, _, rfl, ⟨fn, fg, rfl, hf⟩, rfl⟩ := h1
  obtain ⟨_, _, rfl, ⟨a, rfl⟩, _, _, rfl, ⟨b, rfl⟩, rfl⟩ := h2
  refine ⟨⟨fun i hi => ?_, fun i hi => ?_, fun i hi => ?_, trivial⟩, rfl⟩
  · obtain ⟨a, e1⟩ := hf i hi
    rw [e1]; rfl
  · obtain ⟨a, e1⟩ := hc i hi
    rw [e1]; rfl
  · obtain ⟨a, e1⟩ := hl i hi
    rw [e1]; rfl

set_option maxRecDepth 100000 in
theorem lifted_GlassFilms (os : Os) (started : os.Started) (H : Type) (enc : TypeId × Value → H) :
    ReturnsInHanded {} Try.checked os 8 .any (Rows.glassFilmsSpec.pre6 enc Try.prog Try.f8 Rows.glassFilmsRow.domain false) (Rows.glassFilmsSpec.post enc Try.prog Try.f8 false true false false) := by
  refine returnsInHanded_of_change (C := Try.checked) (by kernel_rfl) started (by kernel_rfl) Try.func8
    (ChangeSpec.witness6 (enc := enc) (C := Try.checked) false ⟨#[], #[.agg #[.int .i64 0, .slice none 0 0], .int .i64 0, .agg #[.int .i64 0, .int .i64 0], .slice none 0 0, .int .i64 0, .slice none 0 0], []⟩ 8 (by kernel_rfl) (by kernel_rfl) (by kernel_rfl) (by kernel_rfl)) ?_
  intro W base args ds gs before hval hW _ _
  exact law_calls (C := Try.checked) (b0 := base) w_GlassFilms_ok fit_GlassFilms (by kernel_rfl) rfl (by kernel_rfl) (by kernel_rfl) (bt := 4) (by kernel_rfl) (by kernel_rfl)
    (fun ds h => match ds, h with | [_, _, _, _, _, _], _ => rfl) hval hW

theorem GlassFilms_holds : Rows.GlassFilmsSaid :=
  OpenClaim.holds_of_wide 8 Try.f8 rfl rfl rfl rfl rfl rfl rfl ⟨rfl, rfl, rfl, rfl, rfl⟩ rfl rfl rfl rfl rfl (by kernel_rfl) Try.func8 (by kernel_rfl)
    (of_decide_eq_true (by kernel_rfl)) (by unfold Func.isWrapper; first | (rw [if_pos (by decide +kernel)]; kernel_rfl) | (rw [if_neg (by decide +kernel)]; exact ⟨rfl, rfl⟩))
    (fun os started H enc _ => lifted_GlassFilms os started H enc)

end Go.Proofs.Ytipaekbdalahdaa
