/-
  No cell of these rows narrows 'for every input' (looked for: loops, veiled, ifaces, maps, wideKeys, modest, calm, conditions, laid).
  DERIVED. THE GIVEN ROWS OF THIS SEAT. 6 by the template 'for every input the law returns true; each argument reads behind the call as it read before'; 0 by the template 'total and deterministic' (their statements: YtkklpamllfkbaaaGreatTotals.lean).
  GIVEN WITH THE SEED: the statements are not yours to turn. If you find one false, say at which input.
  Laid BY PROGRAM, IN A SANDBOX (cutbox-rows.mjs): the forced cells as the released guide's own fill.sh prints them over the translation abb9dc9e9bbb1c50… (all of the seat's roots in one cut). By AI agents, Wed Nov 11 2026. No macro, syntax, notation, axiom, sorry.
-/
import Derived.Test.YtkklpamllfkbaaaGreatChecked
import GoSem.Claim
import GoSem.ClaimJoined
import GoSem.ClaimMapViews
import Derived.JoinedTies
import Derived.KernelRfl
namespace Go.Proofs.YtkklpamllfkbaaaGreat
/- THE CELL 'sum', in the pinned program and in every row, IS THE sha256 OF THE DUMP (.gsa) THAT YtkklpamllfkbaaaGreatProg.lean LOADS. Nothing in Lean hashes anything: it is a label: what it is worth is what the hold of that sum in a sandbox is worth. -/
noncomputable def Tryz.pinned : Pinned := { name := "ytkklpamllfkbaaagreat", sum := "abb9dc9e9bbb1c500eb914f0060ac13460b65d2b0cbe58900b9d99b8ff58cce8", checked := Tryz.checked }
namespace Rows
def none {H : Type} : Left H := { results := [], args := [] }

/-- 'leadlightlaw03.GlassResets': WHATEVER THE INPUT: true; the input reads as it did. -/
def glassResetsSpec : ChangeSpec := { name := "glassResets", fn := fun _ => fun
  | [d1, d2] => { results := [.lit (.bool true)], args := [d1, d2] }
  | _ => none }
def glassResetsRow : OpenClaim := { program := "ytkklpamllfkbaaagreat", sum := "abb9dc9e9bbb1c500eb914f0060ac13460b65d2b0cbe58900b9d99b8ff58cce8", func := "leadlight/leadlightlaw03.GlassResets", spec := "glassResets", unfollowed := true, recurses := true, plainKeys := false, apart := false }
def GlassResetsSaid : Prop := glassResetsRow.holds Tryz.pinned (OpenSpec.ofChange glassResetsSpec)

/-- ITS FALSE NEIGHBOUR: 'it returns false'. Refute it at one input. -/
def glassResetsWrong : ChangeSpec := { name := "glassResets", fn := fun _ => fun
  | [d1, d2] => { results := [.lit (.bool false)], args := [d1, d2] }
  | _ => none }
def GlassResetsWrongFalsely : Prop := glassResetsRow.holds Tryz.pinned (OpenSpec.ofChange glassResetsWrong)

/-- 'leadlightlaw03.GlassComposes': WHATEVER THE INPUT: true; the input reads as it did. -/
def glassComposesSpec : ChangeSpec := { name := "glassComposes", fn := fun _ => fun
  | [d1, d2, d3, d4] => { results := [.lit (.bool true)], args := [d1, d2, d3, d4] }
  | _ => none }
def glassComposesRow : OpenClaim := { program := "ytkklpamllfkbaaagreat", sum := "abb9dc9e9bbb1c500eb914f0060ac13460b65d2b0cbe58900b9d99b8ff58cce8", func := "leadlight/leadlightlaw03.GlassComposes", spec := "glassComposes", unfollowed := true, recurses := true, plainKeys := false, apart := false }
def GlassComposesSaid : Prop := glassComposesRow.holds Tryz.pinned (OpenSpec.ofChange glassComposesSpec)

/-- ITS FALSE NEIGHBOUR: 'it returns false'. Refute it at one input. -/
def glassComposesWrong : ChangeSpec := { name := "glassComposes", fn := fun _ => fun
  | [d1, d2, d3, d4] => { results := [.lit (.bool false)], args := [d1, d2, d3, d4] }
  | _ => none }
def GlassComposesWrongFalsely : Prop := glassComposesRow.holds Tryz.pinned (OpenSpec.ofChange glassComposesWrong)

/-- 'leadlightlaw03.GlassMerges': WHATEVER THE INPUT: true; the input reads as it did. -/
def glassMergesSpec : ChangeSpec := { name := "glassMerges", fn := fun _ => fun
  | [d1, d2, d3] => { results := [.lit (.bool true)], args := [d1, d2, d3] }
  | _ => none }
def glassMergesRow : OpenClaim := { program := "ytkklpamllfkbaaagreat", sum := "abb9dc9e9bbb1c500eb914f0060ac13460b65d2b0cbe58900b9d99b8ff58cce8", func := "leadlight/leadlightlaw03.GlassMerges", spec := "glassMerges", unfollowed := true, recurses := true, plainKeys := false, apart := false }
def GlassMergesSaid : Prop := glassMergesRow.holds Tryz.pinned (OpenSpec.ofChange glassMergesSpec)

/-- ITS FALSE NEIGHBOUR: 'it returns false'. Refute it at one input. -/
def glassMergesWrong : ChangeSpec := { name := "glassMerges", fn := fun _ => fun
  | [d1, d2, d3] => { results := [.lit (.bool false)], args := [d1, d2, d3] }
  | _ => none }
def GlassMergesWrongFalsely : Prop := glassMergesRow.holds Tryz.pinned (OpenSpec.ofChange glassMergesWrong)

/-- 'leadlightlaw03.GlassOne': WHATEVER THE INPUT: true; the input reads as it did. -/
def glassOneSpec : ChangeSpec := { name := "glassOne", fn := fun _ => fun
  | [d1, d2, d3] => { results := [.lit (.bool true)], args := [d1, d2, d3] }
  | _ => none }
def glassOneRow : OpenClaim := { program := "ytkklpamllfkbaaagreat", sum := "abb9dc9e9bbb1c500eb914f0060ac13460b65d2b0cbe58900b9d99b8ff58cce8", func := "leadlight/leadlightlaw03.GlassOne", spec := "glassOne", unfollowed := true, recurses := true, plainKeys := false, apart := false }
def GlassOneSaid : Prop := glassOneRow.holds Tryz.pinned (OpenSpec.ofChange glassOneSpec)

/-- ITS FALSE NEIGHBOUR: 'it returns false'. Refute it at one input. -/
def glassOneWrong : ChangeSpec := { name := "glassOne", fn := fun _ => fun
  | [d1, d2, d3] => { results := [.lit (.bool false)], args := [d1, d2, d3] }
  | _ => none }
def GlassOneWrongFalsely : Prop := glassOneRow.holds Tryz.pinned (OpenSpec.ofChange glassOneWrong)

/-- 'leadlightlaw01.PlaneSettings': WHATEVER THE INPUT: true; the input reads as it did. -/
def planeSettingsSpec : ChangeSpec := { name := "planeSettings", fn := fun _ => fun
  | [d1, d2, d3, d4, d5, d6] => { results := [.lit (.bool true)], args := [d1, d2, d3, d4, d5, d6] }
  | _ => none }
def planeSettingsRow : OpenClaim := { program := "ytkklpamllfkbaaagreat", sum := "abb9dc9e9bbb1c500eb914f0060ac13460b65d2b0cbe58900b9d99b8ff58cce8", func := "leadlight/leadlightlaw01.PlaneSettings", spec := "planeSettings", unfollowed := true, recurses := true, plainKeys := false, apart := false }
def PlaneSettingsSaid : Prop := planeSettingsRow.holds Tryz.pinned (OpenSpec.ofChange planeSettingsSpec)

/-- ITS FALSE NEIGHBOUR: 'it returns false'. Refute it at one input. -/
def planeSettingsWrong : ChangeSpec := { name := "planeSettings", fn := fun _ => fun
  | [d1, d2, d3, d4, d5, d6] => { results := [.lit (.bool false)], args := [d1, d2, d3, d4, d5, d6] }
  | _ => none }
def PlaneSettingsWrongFalsely : Prop := planeSettingsRow.holds Tryz.pinned (OpenSpec.ofChange planeSettingsWrong)

/-- 'leadlightlaw01.PlaneMoves': WHATEVER THE INPUT: true; the input reads as it did. -/
def planeMovesSpec : ChangeSpec := { name := "planeMoves", fn := fun _ => fun
  | [d1, d2, d3] => { results := [.lit (.bool true)], args := [d1, d2, d3] }
  | _ => none }
def planeMovesRow : OpenClaim := { program := "ytkklpamllfkbaaagreat", sum := "abb9dc9e9bbb1c500eb914f0060ac13460b65d2b0cbe58900b9d99b8ff58cce8", func := "leadlight/leadlightlaw01.PlaneMoves", spec := "planeMoves", unfollowed := true, recurses := true, plainKeys := false, apart := false }
def PlaneMovesSaid : Prop := planeMovesRow.holds Tryz.pinned (OpenSpec.ofChange planeMovesSpec)

/-- ITS FALSE NEIGHBOUR: 'it returns false'. Refute it at one input. -/
def planeMovesWrong : ChangeSpec := { name := "planeMoves", fn := fun _ => fun
  | [d1, d2, d3] => { results := [.lit (.bool false)], args := [d1, d2, d3] }
  | _ => none }
def PlaneMovesWrongFalsely : Prop := planeMovesRow.holds Tryz.pinned (OpenSpec.ofChange planeMovesWrong)

/- THE SECOND FORM. 'bulk': how many values and letters a reading holds, each counted each time it is reached (what is shared counts as often as it is met; a slice's spare places count too). A statement '..UptoSaid' is the law's where the arguments, and the package variables that the reading takes, are together of bulk at most 1048576: NARROWER than '..Said'. Prove '..Said' where nothing that the law and all that it calls make is longer than what came in: it says more and counts as full. Else prove '..UptoSaid'. A law counts once. -/
mutual
def uptoBulk {H : Type} : DataW H → Nat
  | .lit (.string bytes) => bytes.length + 1
  | .lit _ => 1
  | .nil => 1
  | .ptr d => uptoBulk d + 1
  | .slice elems spare => uptoBulkAll elems + uptoBulkAll spare + 1
  | .agg parts => uptoBulkAll parts + 1
  | .iface _ d => uptoBulk d + 1
  | .map entries => uptoBulkEntries entries + 1
  | .held _ => 1
def uptoBulkAll {H : Type} : List (DataW H) → Nat
  | [] => 0
  | d :: r => uptoBulk d + uptoBulkAll r
def uptoBulkEntries {H : Type} : List (Lit × DataW H) → Nat
  | [] => 0
  | x :: r => uptoBulkEntry x + uptoBulkEntries r
def uptoBulkEntry {H : Type} : Lit × DataW H → Nat
  | (.string bytes, d) => bytes.length + uptoBulk d + 1
  | (_, d) => uptoBulk d + 1
 end
def uptoSmall : (H : Type) → List (DataW H) → Bool := fun _ ds => decide (uptoBulkAll ds ≤ 1048576)
def OpenSpec.upto (s : _root_.Go.ChangeSpec) : _root_.Go.OpenSpec := { _root_.Go.OpenSpec.ofChange s with cond := some uptoSmall }

/-- 'leadlightlaw03.GlassResets', WHERE WHAT IT READS IS OF BULK AT MOST 1048576: true; the input reads as it did. -/
def glassResetsUptoRow : OpenClaim := { program := "ytkklpamllfkbaaagreat", sum := "abb9dc9e9bbb1c500eb914f0060ac13460b65d2b0cbe58900b9d99b8ff58cce8", func := "leadlight/leadlightlaw03.GlassResets", spec := "glassResets", unfollowed := true, recurses := true, plainKeys := false, apart := false, narrowed := true }
def GlassResetsUptoSaid : Prop := glassResetsUptoRow.holds Tryz.pinned (OpenSpec.upto glassResetsSpec)

/-- 'leadlightlaw03.GlassComposes', WHERE WHAT IT READS IS OF BULK AT MOST 1048576: true; the input reads as it did. -/
def glassComposesUptoRow : OpenClaim := { program := "ytkklpamllfkbaaagreat", sum := "abb9dc9e9bbb1c500eb914f0060ac13460b65d2b0cbe58900b9d99b8ff58cce8", func := "leadlight/leadlightlaw03.GlassComposes", spec := "glassComposes", unfollowed := true, recurses := true, plainKeys := false, apart := false, narrowed := true }
def GlassComposesUptoSaid : Prop := glassComposesUptoRow.holds Tryz.pinned (OpenSpec.upto glassComposesSpec)

/-- 'leadlightlaw03.GlassMerges', WHERE WHAT IT READS IS OF BULK AT MOST 1048576: true; the input reads as it did. -/
def glassMergesUptoRow : OpenClaim := { program := "ytkklpamllfkbaaagreat", sum := "abb9dc9e9bbb1c500eb914f0060ac13460b65d2b0cbe58900b9d99b8ff58cce8", func := "leadlight/leadlightlaw03.GlassMerges", spec := "glassMerges", unfollowed := true, recurses := true, plainKeys := false, apart := false, narrowed := true }
def GlassMergesUptoSaid : Prop := glassMergesUptoRow.holds Tryz.pinned (OpenSpec.upto glassMergesSpec)

/-- 'leadlightlaw03.GlassOne', WHERE WHAT IT READS IS OF BULK AT MOST 1048576: true; the input reads as it did. -/
def glassOneUptoRow : OpenClaim := { program := "ytkklpamllfkbaaagreat", sum := "abb9dc9e9bbb1c500eb914f0060ac13460b65d2b0cbe58900b9d99b8ff58cce8", func := "leadlight/leadlightlaw03.GlassOne", spec := "glassOne", unfollowed := true, recurses := true, plainKeys := false, apart := false, narrowed := true }
def GlassOneUptoSaid : Prop := glassOneUptoRow.holds Tryz.pinned (OpenSpec.upto glassOneSpec)

/-- 'leadlightlaw01.PlaneSettings', WHERE WHAT IT READS IS OF BULK AT MOST 1048576: true; the input reads as it did. -/
def planeSettingsUptoRow : OpenClaim := { program := "ytkklpamllfkbaaagreat", sum := "abb9dc9e9bbb1c500eb914f0060ac13460b65d2b0cbe58900b9d99b8ff58cce8", func := "leadlight/leadlightlaw01.PlaneSettings", spec := "planeSettings", unfollowed := true, recurses := true, plainKeys := false, apart := false, narrowed := true }
def PlaneSettingsUptoSaid : Prop := planeSettingsUptoRow.holds Tryz.pinned (OpenSpec.upto planeSettingsSpec)

/-- 'leadlightlaw01.PlaneMoves', WHERE WHAT IT READS IS OF BULK AT MOST 1048576: true; the input reads as it did. -/
def planeMovesUptoRow : OpenClaim := { program := "ytkklpamllfkbaaagreat", sum := "abb9dc9e9bbb1c500eb914f0060ac13460b65d2b0cbe58900b9d99b8ff58cce8", func := "leadlight/leadlightlaw01.PlaneMoves", spec := "planeMoves", unfollowed := true, recurses := true, plainKeys := false, apart := false, narrowed := true }
def PlaneMovesUptoSaid : Prop := planeMovesUptoRow.holds Tryz.pinned (OpenSpec.upto planeMovesSpec)

end Rows
end Go.Proofs.YtkklpamllfkbaaaGreat
