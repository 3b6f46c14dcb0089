/- The law leadlightlaw05.CuttingAssigns answers true whatever the input, and its arguments read behind the call as they did before. Conditions: none. -/
import Derived.Test.YtijidjjfkahojaaGreatRows
import Derived.Test.YtijidjjfkahojaaGreatW5
import Derived.Test.YtijidjjfkahojaaGreatE5
import Derived.ProofKit
namespace Go.Proofs.YtijidjjfkahojaaGreat
open Go.ChangeShapes Go.WideShapes Go.ChangeAt Go.RowKit
open Go.SE (Sh G4 KV KU SM EX G1)

theorem AdF : ∀ es, KV [.sl (.st [.int, .int, .int, .sl (.st [.int, .int])]), .sl (.st [.int, .int, .int, .int, .int]), .int] es → EX Nu es ∧ G1 Nu es = .bool true := by
  intro es h
  obtain ⟨_, _, rfl, a0, _, _, rfl, a1, _, _, rfl, a2, rfl⟩ := h
  obtain ⟨n0, g0, rfl, l0, h0⟩ := a0
  obtain ⟨n1, g1, rfl, l1, h1⟩ := a1
  obtain ⟨v1, rfl, kv1⟩ := a2
  refine ⟨⟨fun i hi => ?_, fun i hi => ?_, kv1⟩, rfl⟩
  · obtain ⟨_, _, e1, ⟨v2, rfl, kv2⟩, _, _, rfl, ⟨v3, rfl, kv3⟩, _, _, rfl, ⟨v4, rfl, kv4⟩, _, _, rfl, ⟨n2, g2, rfl, l2, h2⟩, rfl⟩ := h0 i hi
    rw [e1]
    intro j hj
    obtain ⟨_, _, e2, ⟨v5, rfl, kv5⟩, _, _, rfl, ⟨v6, rfl, kv6⟩, rfl⟩ := h2 j hj
    rw [e2]; rfl
  · obtain ⟨_, _, e1, ⟨v7, rfl, kv7⟩, _, _, rfl, ⟨v8, rfl, kv8⟩, _, _, rfl, ⟨v9, rfl, kv9⟩, _, _, rfl, ⟨v10, rfl, kv10⟩, _, _, rfl, ⟨v11, rfl, kv11⟩, rfl⟩ := h1 i hi
    rw [e1]; rfl

set_option maxRecDepth 100000 in
theorem AdG (os : Os) (started : os.Started) (H : Type) (enc : TypeId × Value → H) :
    ReturnsInHanded {} Tryz.checked os 4 .any (Rows.cuttingAssignsSpec.pre6 enc Tryz.prog Tryz.f4 Rows.cuttingAssignsRow.domain false) (Rows.cuttingAssignsSpec.post enc Tryz.prog Tryz.f4 false true false false) := by
  refine returnsInHanded_of_change (C := Tryz.checked) (by kernel_rfl) started (by kernel_rfl) Tryz.func4
    (ChangeSpec.witness6 (enc := enc) (C := Tryz.checked) false ⟨#[], #[.slice none 0 0, .slice none 0 0, .int .i64 0], []⟩ 8 (by kernel_rfl) (by kernel_rfl) (by kernel_rfl) (by kernel_rfl)) ?_
  intro W base args ds gs before hval hW _ _
  exact SM (C := Tryz.checked) (b0 := base) AdE AdF (by kernel_rfl) rfl (by kernel_rfl) (by kernel_rfl) (bt := 4) (by kernel_rfl) (by kernel_rfl)
    (fun ds h => match ds, h with | [_, _, _], _ => rfl) hval hW

theorem CuttingAssigns_holds : Rows.CuttingAssignsSaid :=
  OpenClaim.holds_of_wide 4 Tryz.f4 rfl rfl rfl rfl rfl rfl rfl ⟨rfl, rfl, rfl, rfl, rfl⟩ rfl rfl rfl rfl rfl (by kernel_rfl) Tryz.func4 (by kernel_rfl)
    (of_decide_eq_true (by kernel_rfl)) (by unfold Func.isWrapper; first | (rw [if_pos (by decide +kernel)]; kernel_rfl) | (rw [if_neg (by decide +kernel)]; exact ⟨rfl, rfl⟩))
    (fun os started H enc _ => AdG os started H enc)

end Go.Proofs.YtijidjjfkahojaaGreat
