/-
  No cell of these rows narrows 'for every input' (looked for: loops, veiled, ifaces, maps, wideKeys, modest, calm, conditions, laid).
  DERIVED. THE GIVEN ROWS OF THIS SEAT. 7 by the template 'for every input the law returns true; each argument reads behind the call as it read before'; 0 by the template 'total and deterministic' (their statements: YtooapgllahonaaaGreatTotals.lean).
  GIVEN WITH THE SEED: the statements are not yours to turn. If you find one false, say at which input.
  Laid BY PROGRAM, IN A SANDBOX (cutbox-rows.mjs): the forced cells as the released guide's own fill.sh prints them over the translation 7dd1e5de7fa1680b… (all of the seat's roots in one cut). By AI agents, Wed Nov 11 2026. No macro, syntax, notation, axiom, sorry.
-/
import Derived.Test.YtooapgllahonaaaGreatChecked
import GoSem.Claim
import GoSem.ClaimJoined
import GoSem.ClaimMapViews
import Derived.JoinedTies
import Derived.KernelRfl
namespace Go.Proofs.YtooapgllahonaaaGreat
/- THE CELL 'sum', in the pinned program and in every row, IS THE sha256 OF THE DUMP (.gsa) THAT YtooapgllahonaaaGreatProg.lean LOADS. Nothing in Lean hashes anything: it is a label: what it is worth is what the hold of that sum in a sandbox is worth. -/
noncomputable def Tryz.pinned : Pinned := { name := "ytooapgllahonaaagreat", sum := "7dd1e5de7fa1680b5687157111c8843599e1a9cda05875eee14ff021ca4cb9c9", checked := Tryz.checked }
namespace Rows
def none {H : Type} : Left H := { results := [], args := [] }

/-- 'leadlightlaw03.GlassResets': WHATEVER THE INPUT: true; the input reads as it did. -/
def glassResetsSpec : ChangeSpec := { name := "glassResets", fn := fun _ => fun
  | [d1, d2] => { results := [.lit (.bool true)], args := [d1, d2] }
  | _ => none }
def glassResetsRow : OpenClaim := { program := "ytooapgllahonaaagreat", sum := "7dd1e5de7fa1680b5687157111c8843599e1a9cda05875eee14ff021ca4cb9c9", func := "leadlight/leadlightlaw03.GlassResets", spec := "glassResets", unfollowed := true, recurses := true, plainKeys := false, apart := false }
def GlassResetsSaid : Prop := glassResetsRow.holds Tryz.pinned (OpenSpec.ofChange glassResetsSpec)

/-- ITS FALSE NEIGHBOUR: 'it returns false'. Refute it at one input. -/
def glassResetsWrong : ChangeSpec := { name := "glassResets", fn := fun _ => fun
  | [d1, d2] => { results := [.lit (.bool false)], args := [d1, d2] }
  | _ => none }
def GlassResetsWrongFalsely : Prop := glassResetsRow.holds Tryz.pinned (OpenSpec.ofChange glassResetsWrong)

/-- 'leadlightlaw01.PlaneMoves': WHATEVER THE INPUT: true; the input reads as it did. -/
def planeMovesSpec : ChangeSpec := { name := "planeMoves", fn := fun _ => fun
  | [d1, d2, d3] => { results := [.lit (.bool true)], args := [d1, d2, d3] }
  | _ => none }
def planeMovesRow : OpenClaim := { program := "ytooapgllahonaaagreat", sum := "7dd1e5de7fa1680b5687157111c8843599e1a9cda05875eee14ff021ca4cb9c9", func := "leadlight/leadlightlaw01.PlaneMoves", spec := "planeMoves", unfollowed := true, recurses := true, plainKeys := false, apart := false }
def PlaneMovesSaid : Prop := planeMovesRow.holds Tryz.pinned (OpenSpec.ofChange planeMovesSpec)

/-- ITS FALSE NEIGHBOUR: 'it returns false'. Refute it at one input. -/
def planeMovesWrong : ChangeSpec := { name := "planeMoves", fn := fun _ => fun
  | [d1, d2, d3] => { results := [.lit (.bool false)], args := [d1, d2, d3] }
  | _ => none }
def PlaneMovesWrongFalsely : Prop := planeMovesRow.holds Tryz.pinned (OpenSpec.ofChange planeMovesWrong)

/-- 'leadlightlaw01.PlaneOutlines': WHATEVER THE INPUT: true; the input reads as it did. -/
def planeOutlinesSpec : ChangeSpec := { name := "planeOutlines", fn := fun _ => fun
  | [d] => { results := [.lit (.bool true)], args := [d] }
  | _ => none }
def planeOutlinesRow : OpenClaim := { program := "ytooapgllahonaaagreat", sum := "7dd1e5de7fa1680b5687157111c8843599e1a9cda05875eee14ff021ca4cb9c9", func := "leadlight/leadlightlaw01.PlaneOutlines", spec := "planeOutlines", unfollowed := true, recurses := true, plainKeys := false, apart := false }
def PlaneOutlinesSaid : Prop := planeOutlinesRow.holds Tryz.pinned (OpenSpec.ofChange planeOutlinesSpec)

/-- ITS FALSE NEIGHBOUR: 'it returns false'. Refute it at one input. -/
def planeOutlinesWrong : ChangeSpec := { name := "planeOutlines", fn := fun _ => fun
  | [d] => { results := [.lit (.bool false)], args := [d] }
  | _ => none }
def PlaneOutlinesWrongFalsely : Prop := planeOutlinesRow.holds Tryz.pinned (OpenSpec.ofChange planeOutlinesWrong)

/-- 'leadlightlaw03.GlassComposes': WHATEVER THE INPUT: true; the input reads as it did. -/
def glassComposesSpec : ChangeSpec := { name := "glassComposes", fn := fun _ => fun
  | [d1, d2, d3, d4] => { results := [.lit (.bool true)], args := [d1, d2, d3, d4] }
  | _ => none }
def glassComposesRow : OpenClaim := { program := "ytooapgllahonaaagreat", sum := "7dd1e5de7fa1680b5687157111c8843599e1a9cda05875eee14ff021ca4cb9c9", func := "leadlight/leadlightlaw03.GlassComposes", spec := "glassComposes", unfollowed := true, recurses := true, plainKeys := false, apart := false }
def GlassComposesSaid : Prop := glassComposesRow.holds Tryz.pinned (OpenSpec.ofChange glassComposesSpec)

/-- ITS FALSE NEIGHBOUR: 'it returns false'. Refute it at one input. -/
def glassComposesWrong : ChangeSpec := { name := "glassComposes", fn := fun _ => fun
  | [d1, d2, d3, d4] => { results := [.lit (.bool false)], args := [d1, d2, d3, d4] }
  | _ => none }
def GlassComposesWrongFalsely : Prop := glassComposesRow.holds Tryz.pinned (OpenSpec.ofChange glassComposesWrong)

/-- 'leadlightlaw03.GlassMerges': WHATEVER THE INPUT: true; the input reads as it did. -/
def glassMergesSpec : ChangeSpec := { name := "glassMerges", fn := fun _ => fun
  | [d1, d2, d3] => { results := [.lit (.bool true)], args := [d1, d2, d3] }
  | _ => none }
def glassMergesRow : OpenClaim := { program := "ytooapgllahonaaagreat", sum := "7dd1e5de7fa1680b5687157111c8843599e1a9cda05875eee14ff021ca4cb9c9", func := "leadlight/leadlightlaw03.GlassMerges", spec := "glassMerges", unfollowed := true, recurses := true, plainKeys := false, apart := false }
def GlassMergesSaid : Prop := glassMergesRow.holds Tryz.pinned (OpenSpec.ofChange glassMergesSpec)

/-- ITS FALSE NEIGHBOUR: 'it returns false'. Refute it at one input. -/
def glassMergesWrong : ChangeSpec := { name := "glassMerges", fn := fun _ => fun
  | [d1, d2, d3] => { results := [.lit (.bool false)], args := [d1, d2, d3] }
  | _ => none }
def GlassMergesWrongFalsely : Prop := glassMergesRow.holds Tryz.pinned (OpenSpec.ofChange glassMergesWrong)

/-- 'leadlightlaw01.PlaneRigid': WHATEVER THE INPUT: true; the input reads as it did. -/
def planeRigidSpec : ChangeSpec := { name := "planeRigid", fn := fun _ => fun
  | [d1, d2, d3] => { results := [.lit (.bool true)], args := [d1, d2, d3] }
  | _ => none }
def planeRigidRow : OpenClaim := { program := "ytooapgllahonaaagreat", sum := "7dd1e5de7fa1680b5687157111c8843599e1a9cda05875eee14ff021ca4cb9c9", func := "leadlight/leadlightlaw01.PlaneRigid", spec := "planeRigid", unfollowed := true, recurses := true, plainKeys := false, apart := false }
def PlaneRigidSaid : Prop := planeRigidRow.holds Tryz.pinned (OpenSpec.ofChange planeRigidSpec)

/-- ITS FALSE NEIGHBOUR: 'it returns false'. Refute it at one input. -/
def planeRigidWrong : ChangeSpec := { name := "planeRigid", fn := fun _ => fun
  | [d1, d2, d3] => { results := [.lit (.bool false)], args := [d1, d2, d3] }
  | _ => none }
def PlaneRigidWrongFalsely : Prop := planeRigidRow.holds Tryz.pinned (OpenSpec.ofChange planeRigidWrong)

/-- 'leadlightlaw03.GlassOne': WHATEVER THE INPUT: true; the input reads as it did. -/
def glassOneSpec : ChangeSpec := { name := "glassOne", fn := fun _ => fun
  | [d1, d2, d3] => { results := [.lit (.bool true)], args := [d1, d2, d3] }
  | _ => none }
def glassOneRow : OpenClaim := { program := "ytooapgllahonaaagreat", sum := "7dd1e5de7fa1680b5687157111c8843599e1a9cda05875eee14ff021ca4cb9c9", func := "leadlight/leadlightlaw03.GlassOne", spec := "glassOne", unfollowed := true, recurses := true, plainKeys := false, apart := false }
def GlassOneSaid : Prop := glassOneRow.holds Tryz.pinned (OpenSpec.ofChange glassOneSpec)

/-- ITS FALSE NEIGHBOUR: 'it returns false'. Refute it at one input. -/
def glassOneWrong : ChangeSpec := { name := "glassOne", fn := fun _ => fun
  | [d1, d2, d3] => { results := [.lit (.bool false)], args := [d1, d2, d3] }
  | _ => none }
def GlassOneWrongFalsely : Prop := glassOneRow.holds Tryz.pinned (OpenSpec.ofChange glassOneWrong)

/- THE SECOND FORM. 'bulk': how many values and letters a reading holds, each counted each time it is reached (what is shared counts as often as it is met; a slice's spare places count too). A statement '..UptoSaid' is the law's where the arguments, and the package variables that the reading takes, are together of bulk at most 1048576: NARROWER than '..Said'. Prove '..Said' where nothing that the law and all that it calls make is longer than what came in: it says more and counts as full. Else prove '..UptoSaid'. A law counts once. -/
mutual
def uptoBulk {H : Type} : DataW H → Nat
  | .lit (.string bytes) => bytes.length + 1
  | .lit _ => 1
  | .nil => 1
  | .ptr d => uptoBulk d + 1
  | .slice elems spare => uptoBulkAll elems + uptoBulkAll spare + 1
  | .agg parts => uptoBulkAll parts + 1
  | .iface _ d => uptoBulk d + 1
  | .map entries => uptoBulkEntries entries + 1
  | .held _ => 1
def uptoBulkAll {H : Type} : List (DataW H) → Nat
  | [] => 0
  | d :: r => uptoBulk d + uptoBulkAll r
def uptoBulkEntries {H : Type} : List (Lit × DataW H) → Nat
  | [] => 0
  | x :: r => uptoBulkEntry x + uptoBulkEntries r
def uptoBulkEntry {H : Type} : Lit × DataW H → Nat
  | (.string bytes, d) => bytes.length + uptoBulk d + 1
  | (_, d) => uptoBulk d + 1
 end
def uptoSmall : (H : Type) → List (DataW H) → Bool := fun _ ds => decide (uptoBulkAll ds ≤ 1048576)
def OpenSpec.upto (s : _root_.Go.ChangeSpec) : _root_.Go.OpenSpec := { _root_.Go.OpenSpec.ofChange s with cond := some uptoSmall }

/-- 'leadlightlaw03.GlassResets', WHERE WHAT IT READS IS OF BULK AT MOST 1048576: true; the input reads as it did. -/
def glassResetsUptoRow : OpenClaim := { program := "ytooapgllahonaaagreat", sum := "7dd1e5de7fa1680b5687157111c8843599e1a9cda05875eee14ff021ca4cb9c9", func := "leadlight/leadlightlaw03.GlassResets", spec := "glassResets", unfollowed := true, recurses := true, plainKeys := false, apart := false, narrowed := true }
def GlassResetsUptoSaid : Prop := glassResetsUptoRow.holds Tryz.pinned (OpenSpec.upto glassResetsSpec)

/-- 'leadlightlaw01.PlaneMoves', WHERE WHAT IT READS IS OF BULK AT MOST 1048576: true; the input reads as it did. -/
def planeMovesUptoRow : OpenClaim := { program := "ytooapgllahonaaagreat", sum := "7dd1e5de7fa1680b5687157111c8843599e1a9cda05875eee14ff021ca4cb9c9", func := "leadlight/leadlightlaw01.PlaneMoves", spec := "planeMoves", unfollowed := true, recurses := true, plainKeys := false, apart := false, narrowed := true }
def PlaneMovesUptoSaid : Prop := planeMovesUptoRow.holds Tryz.pinned (OpenSpec.upto planeMovesSpec)

/-- 'leadlightlaw01.PlaneOutlines', WHERE WHAT IT READS IS OF BULK AT MOST 1048576: true; the input reads as it did. -/
def planeOutlinesUptoRow : OpenClaim := { program := "ytooapgllahonaaagreat", sum := "7dd1e5de7fa1680b5687157111c8843599e1a9cda05875eee14ff021ca4cb9c9", func := "leadlight/leadlightlaw01.PlaneOutlines", spec := "planeOutlines", unfollowed := true, recurses := true, plainKeys := false, apart := false, narrowed := true }
def PlaneOutlinesUptoSaid : Prop := planeOutlinesUptoRow.holds Tryz.pinned (OpenSpec.upto planeOutlinesSpec)

/-- 'leadlightlaw03.GlassComposes', WHERE WHAT IT READS IS OF BULK AT MOST 1048576: true; the input reads as it did. -/
def glassComposesUptoRow : OpenClaim := { program := "ytooapgllahonaaagreat", sum := "7dd1e5de7fa1680b5687157111c8843599e1a9cda05875eee14ff021ca4cb9c9", func := "leadlight/leadlightlaw03.GlassComposes", spec := "glassComposes", unfollowed := true, recurses := true, plainKeys := false, apart := false, narrowed := true }
def GlassComposesUptoSaid : Prop := glassComposesUptoRow.holds Tryz.pinned (OpenSpec.upto glassComposesSpec)

/-- 'leadlightlaw03.GlassMerges', WHERE WHAT IT READS IS OF BULK AT MOST 1048576: true; the input reads as it did. -/
def glassMergesUptoRow : OpenClaim := { program := "ytooapgllahonaaagreat", sum := "7dd1e5de7fa1680b5687157111c8843599e1a9cda05875eee14ff021ca4cb9c9", func := "leadlight/leadlightlaw03.GlassMerges", spec := "glassMerges", unfollowed := true, recurses := true, plainKeys := false, apart := false, narrowed := true }
def GlassMergesUptoSaid : Prop := glassMergesUptoRow.holds Tryz.pinned (OpenSpec.upto glassMergesSpec)

/-- 'leadlightlaw01.PlaneRigid', WHERE WHAT IT READS IS OF BULK AT MOST 1048576: true; the input reads as it did. -/
def planeRigidUptoRow : OpenClaim := { program := "ytooapgllahonaaagreat", sum := "7dd1e5de7fa1680b5687157111c8843599e1a9cda05875eee14ff021ca4cb9c9", func := "leadlight/leadlightlaw01.PlaneRigid", spec := "planeRigid", unfollowed := true, recurses := true, plainKeys := false, apart := false, narrowed := true }
def PlaneRigidUptoSaid : Prop := planeRigidUptoRow.holds Tryz.pinned (OpenSpec.upto planeRigidSpec)

/-- 'leadlightlaw03.GlassOne', WHERE WHAT IT READS IS OF BULK AT MOST 1048576: true; the input reads as it did. -/
def glassOneUptoRow : OpenClaim := { program := "ytooapgllahonaaagreat", sum := "7dd1e5de7fa1680b5687157111c8843599e1a9cda05875eee14ff021ca4cb9c9", func := "leadlight/leadlightlaw03.GlassOne", spec := "glassOne", unfollowed := true, recurses := true, plainKeys := false, apart := false, narrowed := true }
def GlassOneUptoSaid : Prop := glassOneUptoRow.holds Tryz.pinned (OpenSpec.upto glassOneSpec)

end Rows
end Go.Proofs.YtooapgllahonaaaGreat
