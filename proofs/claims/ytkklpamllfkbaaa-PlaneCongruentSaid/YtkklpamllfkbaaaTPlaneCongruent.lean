/- The law leadlightlaw01.PlaneCongruent answers true whatever the input, and its arguments read behind the call as they did before. Conditions: none. -/
import Derived.Test.YtkklpamllfkbaaaRows
import Derived.Test.YtkklpamllfkbaaaW3
import Derived.Test.YtkklpamllfkbaaaE3
import Derived.ProofKit
namespace Go.Proofs.Ytkklpamllfkbaaa
open Go.ChangeShapes Go.WideShapes Go.ChangeAt Go.RowKit
open Go.SE (Sh Fit AllFit shArg law_calls preO resO)

theorem fit_PlaneCongruent : ∀ es, AllFit [.sl (.st [.int, .int]), .sl (.st [.int, .int]), .sl (.st [.int, .int])] es → preO w_Congruent_s es ∧ resO w_Congruent_s es = .bool true := by
  intro es h
  obtain ⟨_, _, rfl, a0, _, _, rfl, a1, _, _, rfl, a2, rfl⟩ := h
  obtain ⟨n0, g0, rfl, l0, h0⟩ := a0
  obtain ⟨n1, g1, rfl, l1, h1⟩ := a1
  obtain ⟨n2, g2, rfl, l2, h2⟩ := a2
  refine ⟨⟨fun i hi => ?_, fun i hi => ?_, fun i hi => ?_, ⟨l0, l1, l2⟩⟩, rfl⟩
  · obtain ⟨_, _, e1, ⟨v1, rfl⟩, _, _, rfl, ⟨v2, rfl⟩, rfl⟩ := h0 i hi
    rw [e1]; rfl
  · obtain ⟨_, _, e1, ⟨v3, rfl⟩, _, _, rfl, ⟨v4, rfl⟩, rfl⟩ := h1 i hi
    rw [e1]; rfl
  · obtain ⟨_, _, e1, ⟨v5, rfl⟩, _, _, rfl, ⟨v6, rfl⟩, rfl⟩ := h2 i hi
    rw [e1]; rfl

set_option maxRecDepth 100000 in
theorem lifted_PlaneCongruent (os : Os) (started : os.Started) (H : Type) (enc : TypeId × Value → H) :
    ReturnsInHanded {} Try.checked os 6 .any (Rows.planeCongruentSpec.pre6 enc Try.prog Try.f6 Rows.planeCongruentRow.domain false) (Rows.planeCongruentSpec.post enc Try.prog Try.f6 false true false false) := by
  refine returnsInHanded_of_change (C := Try.checked) (by kernel_rfl) started (by kernel_rfl) Try.func6
    (ChangeSpec.witness6 (enc := enc) (C := Try.checked) false ⟨#[], #[.slice none 0 0, .slice none 0 0, .slice none 0 0], []⟩ 8 (by kernel_rfl) (by kernel_rfl) (by kernel_rfl) (by kernel_rfl)) ?_
  intro W base args ds gs before hval hW _ _
  exact law_calls (C := Try.checked) (b0 := base) w_Congruent_ok fit_PlaneCongruent (by kernel_rfl) rfl (by kernel_rfl) (by kernel_rfl) (bt := 4) (by kernel_rfl) (by kernel_rfl)
    (fun ds h => match ds, h with | [_, _, _], _ => rfl) hval hW

theorem PlaneCongruent_holds : Rows.PlaneCongruentSaid :=
  OpenClaim.holds_of_wide 6 Try.f6 rfl rfl rfl rfl rfl rfl rfl ⟨rfl, rfl, rfl, rfl, rfl⟩ rfl rfl rfl rfl rfl (by kernel_rfl) Try.func6 (by kernel_rfl)
    (of_decide_eq_true (by kernel_rfl)) (by unfold Func.isWrapper; first | (rw [if_pos (by decide +kernel)]; kernel_rfl) | (rw [if_neg (by decide +kernel)]; exact ⟨rfl, rfl⟩))
    (fun os started H enc _ => lifted_PlaneCongruent os started H enc)

end Go.Proofs.Ytkklpamllfkbaaa
