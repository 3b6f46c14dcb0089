/-
  No cell of these rows narrows 'for every input' (looked for: loops, veiled, ifaces, maps, wideKeys, modest, calm, conditions, laid).
  DERIVED. THE GIVEN ROWS OF THIS SEAT. 9 by the template 'for every input the law returns true; each argument reads behind the call as it read before'; 0 by the template 'total and deterministic' (their statements: YtpgaejicfbpcmaaGreatTotals.lean).
  GIVEN WITH THE SEED: the statements are not yours to turn. If you find one false, say at which input.
  Laid BY PROGRAM, IN A SANDBOX (cutbox-rows.mjs): the forced cells as the released guide's own fill.sh prints them over the translation 8c1a234e7d4450cd… (all of the seat's roots in one cut). By AI agents, Wed Nov 11 2026. No macro, syntax, notation, axiom, sorry.
-/
import Derived.Test.YtpgaejicfbpcmaaGreatChecked
import GoSem.Claim
import GoSem.ClaimJoined
import GoSem.ClaimMapViews
import Derived.JoinedTies
import Derived.KernelRfl
namespace Go.Proofs.YtpgaejicfbpcmaaGreat
/- THE CELL 'sum', in the pinned program and in every row, IS THE sha256 OF THE DUMP (.gsa) THAT YtpgaejicfbpcmaaGreatProg.lean LOADS. Nothing in Lean hashes anything: it is a label: what it is worth is what the hold of that sum in a sandbox is worth. -/
noncomputable def Tryz.pinned : Pinned := { name := "ytpgaejicfbpcmaagreat", sum := "8c1a234e7d4450cddc8ada5eb546535182a8ac93e8cad36d4ef7d18a15cd004f", checked := Tryz.checked }
namespace Rows
def none {H : Type} : Left H := { results := [], args := [] }

/-- 'leadlightlaw05.CuttingLays': WHATEVER THE INPUT: true; the input reads as it did. -/
def cuttingLaysSpec : ChangeSpec := { name := "cuttingLays", fn := fun _ => fun
  | [d1, d2, d3] => { results := [.lit (.bool true)], args := [d1, d2, d3] }
  | _ => none }
def cuttingLaysRow : OpenClaim := { program := "ytpgaejicfbpcmaagreat", sum := "8c1a234e7d4450cddc8ada5eb546535182a8ac93e8cad36d4ef7d18a15cd004f", func := "leadlight/leadlightlaw05.CuttingLays", spec := "cuttingLays", unfollowed := true, recurses := true, plainKeys := false, apart := false }
def CuttingLaysSaid : Prop := cuttingLaysRow.holds Tryz.pinned (OpenSpec.ofChange cuttingLaysSpec)

/-- ITS FALSE NEIGHBOUR: 'it returns false'. Refute it at one input. -/
def cuttingLaysWrong : ChangeSpec := { name := "cuttingLays", fn := fun _ => fun
  | [d1, d2, d3] => { results := [.lit (.bool false)], args := [d1, d2, d3] }
  | _ => none }
def CuttingLaysWrongFalsely : Prop := cuttingLaysRow.holds Tryz.pinned (OpenSpec.ofChange cuttingLaysWrong)

/-- 'leadlightlaw05.CuttingSizes': WHATEVER THE INPUT: true; the input reads as it did. -/
def cuttingSizesSpec : ChangeSpec := { name := "cuttingSizes", fn := fun _ => fun
  | [d1, d2, d3] => { results := [.lit (.bool true)], args := [d1, d2, d3] }
  | _ => none }
def cuttingSizesRow : OpenClaim := { program := "ytpgaejicfbpcmaagreat", sum := "8c1a234e7d4450cddc8ada5eb546535182a8ac93e8cad36d4ef7d18a15cd004f", func := "leadlight/leadlightlaw05.CuttingSizes", spec := "cuttingSizes", unfollowed := true, recurses := true, plainKeys := false, apart := false }
def CuttingSizesSaid : Prop := cuttingSizesRow.holds Tryz.pinned (OpenSpec.ofChange cuttingSizesSpec)

/-- ITS FALSE NEIGHBOUR: 'it returns false'. Refute it at one input. -/
def cuttingSizesWrong : ChangeSpec := { name := "cuttingSizes", fn := fun _ => fun
  | [d1, d2, d3] => { results := [.lit (.bool false)], args := [d1, d2, d3] }
  | _ => none }
def CuttingSizesWrongFalsely : Prop := cuttingSizesRow.holds Tryz.pinned (OpenSpec.ofChange cuttingSizesWrong)

/-- 'leadlightlaw05.CuttingLayouts': WHATEVER THE INPUT: true; the input reads as it did. -/
def cuttingLayoutsSpec : ChangeSpec := { name := "cuttingLayouts", fn := fun _ => fun
  | [d1, d2] => { results := [.lit (.bool true)], args := [d1, d2] }
  | _ => none }
def cuttingLayoutsRow : OpenClaim := { program := "ytpgaejicfbpcmaagreat", sum := "8c1a234e7d4450cddc8ada5eb546535182a8ac93e8cad36d4ef7d18a15cd004f", func := "leadlight/leadlightlaw05.CuttingLayouts", spec := "cuttingLayouts", unfollowed := true, recurses := true, plainKeys := false, apart := false }
def CuttingLayoutsSaid : Prop := cuttingLayoutsRow.holds Tryz.pinned (OpenSpec.ofChange cuttingLayoutsSpec)

/-- ITS FALSE NEIGHBOUR: 'it returns false'. Refute it at one input. -/
def cuttingLayoutsWrong : ChangeSpec := { name := "cuttingLayouts", fn := fun _ => fun
  | [d1, d2] => { results := [.lit (.bool false)], args := [d1, d2] }
  | _ => none }
def CuttingLayoutsWrongFalsely : Prop := cuttingLayoutsRow.holds Tryz.pinned (OpenSpec.ofChange cuttingLayoutsWrong)

/-- 'leadlightlaw05.CuttingAssigns': WHATEVER THE INPUT: true; the input reads as it did. -/
def cuttingAssignsSpec : ChangeSpec := { name := "cuttingAssigns", fn := fun _ => fun
  | [d1, d2, d3] => { results := [.lit (.bool true)], args := [d1, d2, d3] }
  | _ => none }
def cuttingAssignsRow : OpenClaim := { program := "ytpgaejicfbpcmaagreat", sum := "8c1a234e7d4450cddc8ada5eb546535182a8ac93e8cad36d4ef7d18a15cd004f", func := "leadlight/leadlightlaw05.CuttingAssigns", spec := "cuttingAssigns", unfollowed := true, recurses := true, plainKeys := false, apart := false }
def CuttingAssignsSaid : Prop := cuttingAssignsRow.holds Tryz.pinned (OpenSpec.ofChange cuttingAssignsSpec)

/-- ITS FALSE NEIGHBOUR: 'it returns false'. Refute it at one input. -/
def cuttingAssignsWrong : ChangeSpec := { name := "cuttingAssigns", fn := fun _ => fun
  | [d1, d2, d3] => { results := [.lit (.bool false)], args := [d1, d2, d3] }
  | _ => none }
def CuttingAssignsWrongFalsely : Prop := cuttingAssignsRow.holds Tryz.pinned (OpenSpec.ofChange cuttingAssignsWrong)

/-- 'leadlightlaw05.CuttingTurns': WHATEVER THE INPUT: true; the input reads as it did. -/
def cuttingTurnsSpec : ChangeSpec := { name := "cuttingTurns", fn := fun _ => fun
  | [d1, d2, d3] => { results := [.lit (.bool true)], args := [d1, d2, d3] }
  | _ => none }
def cuttingTurnsRow : OpenClaim := { program := "ytpgaejicfbpcmaagreat", sum := "8c1a234e7d4450cddc8ada5eb546535182a8ac93e8cad36d4ef7d18a15cd004f", func := "leadlight/leadlightlaw05.CuttingTurns", spec := "cuttingTurns", unfollowed := true, recurses := true, plainKeys := false, apart := false }
def CuttingTurnsSaid : Prop := cuttingTurnsRow.holds Tryz.pinned (OpenSpec.ofChange cuttingTurnsSpec)

/-- ITS FALSE NEIGHBOUR: 'it returns false'. Refute it at one input. -/
def cuttingTurnsWrong : ChangeSpec := { name := "cuttingTurns", fn := fun _ => fun
  | [d1, d2, d3] => { results := [.lit (.bool false)], args := [d1, d2, d3] }
  | _ => none }
def CuttingTurnsWrongFalsely : Prop := cuttingTurnsRow.holds Tryz.pinned (OpenSpec.ofChange cuttingTurnsWrong)

/-- 'leadlightlaw05.CuttingValid': WHATEVER THE INPUT: true; the input reads as it did. -/
def cuttingValidSpec : ChangeSpec := { name := "cuttingValid", fn := fun _ => fun
  | [d1, d2, d3, d4, d5] => { results := [.lit (.bool true)], args := [d1, d2, d3, d4, d5] }
  | _ => none }
def cuttingValidRow : OpenClaim := { program := "ytpgaejicfbpcmaagreat", sum := "8c1a234e7d4450cddc8ada5eb546535182a8ac93e8cad36d4ef7d18a15cd004f", func := "leadlight/leadlightlaw05.CuttingValid", spec := "cuttingValid", unfollowed := true, recurses := true, plainKeys := false, apart := false }
def CuttingValidSaid : Prop := cuttingValidRow.holds Tryz.pinned (OpenSpec.ofChange cuttingValidSpec)

/-- ITS FALSE NEIGHBOUR: 'it returns false'. Refute it at one input. -/
def cuttingValidWrong : ChangeSpec := { name := "cuttingValid", fn := fun _ => fun
  | [d1, d2, d3, d4, d5] => { results := [.lit (.bool false)], args := [d1, d2, d3, d4, d5] }
  | _ => none }
def CuttingValidWrongFalsely : Prop := cuttingValidRow.holds Tryz.pinned (OpenSpec.ofChange cuttingValidWrong)

/-- 'leadlightlaw05.CuttingBites': WHATEVER THE INPUT: true; the input reads as it did. -/
def cuttingBitesSpec : ChangeSpec := { name := "cuttingBites", fn := fun _ => fun
  | [d1, d2, d3] => { results := [.lit (.bool true)], args := [d1, d2, d3] }
  | _ => none }
def cuttingBitesRow : OpenClaim := { program := "ytpgaejicfbpcmaagreat", sum := "8c1a234e7d4450cddc8ada5eb546535182a8ac93e8cad36d4ef7d18a15cd004f", func := "leadlight/leadlightlaw05.CuttingBites", spec := "cuttingBites", unfollowed := true, recurses := true, plainKeys := false, apart := false }
def CuttingBitesSaid : Prop := cuttingBitesRow.holds Tryz.pinned (OpenSpec.ofChange cuttingBitesSpec)

/-- ITS FALSE NEIGHBOUR: 'it returns false'. Refute it at one input. -/
def cuttingBitesWrong : ChangeSpec := { name := "cuttingBites", fn := fun _ => fun
  | [d1, d2, d3] => { results := [.lit (.bool false)], args := [d1, d2, d3] }
  | _ => none }
def CuttingBitesWrongFalsely : Prop := cuttingBitesRow.holds Tryz.pinned (OpenSpec.ofChange cuttingBitesWrong)

/-- 'leadlightlaw05.CuttingPockets': WHATEVER THE INPUT: true; the input reads as it did. -/
def cuttingPocketsSpec : ChangeSpec := { name := "cuttingPockets", fn := fun _ => fun
  | [d1, d2, d3, d4, d5, d6] => { results := [.lit (.bool true)], args := [d1, d2, d3, d4, d5, d6] }
  | _ => none }
def cuttingPocketsRow : OpenClaim := { program := "ytpgaejicfbpcmaagreat", sum := "8c1a234e7d4450cddc8ada5eb546535182a8ac93e8cad36d4ef7d18a15cd004f", func := "leadlight/leadlightlaw05.CuttingPockets", spec := "cuttingPockets", unfollowed := true, recurses := true, plainKeys := false, apart := false }
def CuttingPocketsSaid : Prop := cuttingPocketsRow.holds Tryz.pinned (OpenSpec.ofChange cuttingPocketsSpec)

/-- ITS FALSE NEIGHBOUR: 'it returns false'. Refute it at one input. -/
def cuttingPocketsWrong : ChangeSpec := { name := "cuttingPockets", fn := fun _ => fun
  | [d1, d2, d3, d4, d5, d6] => { results := [.lit (.bool false)], args := [d1, d2, d3, d4, d5, d6] }
  | _ => none }
def CuttingPocketsWrongFalsely : Prop := cuttingPocketsRow.holds Tryz.pinned (OpenSpec.ofChange cuttingPocketsWrong)

/-- 'leadlightlaw05.CuttingCuts': WHATEVER THE INPUT: true; the input reads as it did. -/
def cuttingCutsSpec : ChangeSpec := { name := "cuttingCuts", fn := fun _ => fun
  | [d1, d2, d3] => { results := [.lit (.bool true)], args := [d1, d2, d3] }
  | _ => none }
def cuttingCutsRow : OpenClaim := { program := "ytpgaejicfbpcmaagreat", sum := "8c1a234e7d4450cddc8ada5eb546535182a8ac93e8cad36d4ef7d18a15cd004f", func := "leadlight/leadlightlaw05.CuttingCuts", spec := "cuttingCuts", unfollowed := true, recurses := true, plainKeys := false, apart := false }
def CuttingCutsSaid : Prop := cuttingCutsRow.holds Tryz.pinned (OpenSpec.ofChange cuttingCutsSpec)

/-- ITS FALSE NEIGHBOUR: 'it returns false'. Refute it at one input. -/
def cuttingCutsWrong : ChangeSpec := { name := "cuttingCuts", fn := fun _ => fun
  | [d1, d2, d3] => { results := [.lit (.bool false)], args := [d1, d2, d3] }
  | _ => none }
def CuttingCutsWrongFalsely : Prop := cuttingCutsRow.holds Tryz.pinned (OpenSpec.ofChange cuttingCutsWrong)

/- THE SECOND FORM. 'bulk': how many values and letters a reading holds, each counted each time it is reached (what is shared counts as often as it is met; a slice's spare places count too). A statement '..UptoSaid' is the law's where the arguments, and the package variables that the reading takes, are together of bulk at most 1048576: NARROWER than '..Said'. Prove '..Said' where nothing that the law and all that it calls make is longer than what came in: it says more and counts as full. Else prove '..UptoSaid'. A law counts once. -/
mutual
def uptoBulk {H : Type} : DataW H → Nat
  | .lit (.string bytes) => bytes.length + 1
  | .lit _ => 1
  | .nil => 1
  | .ptr d => uptoBulk d + 1
  | .slice elems spare => uptoBulkAll elems + uptoBulkAll spare + 1
  | .agg parts => uptoBulkAll parts + 1
  | .iface _ d => uptoBulk d + 1
  | .map entries => uptoBulkEntries entries + 1
  | .held _ => 1
def uptoBulkAll {H : Type} : List (DataW H) → Nat
  | [] => 0
  | d :: r => uptoBulk d + uptoBulkAll r
def uptoBulkEntries {H : Type} : List (Lit × DataW H) → Nat
  | [] => 0
  | x :: r => uptoBulkEntry x + uptoBulkEntries r
def uptoBulkEntry {H : Type} : Lit × DataW H → Nat
  | (.string bytes, d) => bytes.length + uptoBulk d + 1
  | (_, d) => uptoBulk d + 1
 end
def uptoSmall : (H : Type) → List (DataW H) → Bool := fun _ ds => decide (uptoBulkAll ds ≤ 1048576)
def OpenSpec.upto (s : _root_.Go.ChangeSpec) : _root_.Go.OpenSpec := { _root_.Go.OpenSpec.ofChange s with cond := some uptoSmall }

/-- 'leadlightlaw05.CuttingLays', WHERE WHAT IT READS IS OF BULK AT MOST 1048576: true; the input reads as it did. -/
def cuttingLaysUptoRow : OpenClaim := { program := "ytpgaejicfbpcmaagreat", sum := "8c1a234e7d4450cddc8ada5eb546535182a8ac93e8cad36d4ef7d18a15cd004f", func := "leadlight/leadlightlaw05.CuttingLays", spec := "cuttingLays", unfollowed := true, recurses := true, plainKeys := false, apart := false, narrowed := true }
def CuttingLaysUptoSaid : Prop := cuttingLaysUptoRow.holds Tryz.pinned (OpenSpec.upto cuttingLaysSpec)

/-- 'leadlightlaw05.CuttingSizes', WHERE WHAT IT READS IS OF BULK AT MOST 1048576: true; the input reads as it did. -/
def cuttingSizesUptoRow : OpenClaim := { program := "ytpgaejicfbpcmaagreat", sum := "8c1a234e7d4450cddc8ada5eb546535182a8ac93e8cad36d4ef7d18a15cd004f", func := "leadlight/leadlightlaw05.CuttingSizes", spec := "cuttingSizes", unfollowed := true, recurses := true, plainKeys := false, apart := false, narrowed := true }
def CuttingSizesUptoSaid : Prop := cuttingSizesUptoRow.holds Tryz.pinned (OpenSpec.upto cuttingSizesSpec)

/-- 'leadlightlaw05.CuttingLayouts', WHERE WHAT IT READS IS OF BULK AT MOST 1048576: true; the input reads as it did. -/
def cuttingLayoutsUptoRow : OpenClaim := { program := "ytpgaejicfbpcmaagreat", sum := "8c1a234e7d4450cddc8ada5eb546535182a8ac93e8cad36d4ef7d18a15cd004f", func := "leadlight/leadlightlaw05.CuttingLayouts", spec := "cuttingLayouts", unfollowed := true, recurses := true, plainKeys := false, apart := false, narrowed := true }
def CuttingLayoutsUptoSaid : Prop := cuttingLayoutsUptoRow.holds Tryz.pinned (OpenSpec.upto cuttingLayoutsSpec)

/-- 'leadlightlaw05.CuttingAssigns', WHERE WHAT IT READS IS OF BULK AT MOST 1048576: true; the input reads as it did. -/
def cuttingAssignsUptoRow : OpenClaim := { program := "ytpgaejicfbpcmaagreat", sum := "8c1a234e7d4450cddc8ada5eb546535182a8ac93e8cad36d4ef7d18a15cd004f", func := "leadlight/leadlightlaw05.CuttingAssigns", spec := "cuttingAssigns", unfollowed := true, recurses := true, plainKeys := false, apart := false, narrowed := true }
def CuttingAssignsUptoSaid : Prop := cuttingAssignsUptoRow.holds Tryz.pinned (OpenSpec.upto cuttingAssignsSpec)

/-- 'leadlightlaw05.CuttingTurns', WHERE WHAT IT READS IS OF BULK AT MOST 1048576: true; the input reads as it did. -/
def cuttingTurnsUptoRow : OpenClaim := { program := "ytpgaejicfbpcmaagreat", sum := "8c1a234e7d4450cddc8ada5eb546535182a8ac93e8cad36d4ef7d18a15cd004f", func := "leadlight/leadlightlaw05.CuttingTurns", spec := "cuttingTurns", unfollowed := true, recurses := true, plainKeys := false, apart := false, narrowed := true }
def CuttingTurnsUptoSaid : Prop := cuttingTurnsUptoRow.holds Tryz.pinned (OpenSpec.upto cuttingTurnsSpec)

/-- 'leadlightlaw05.CuttingValid', WHERE WHAT IT READS IS OF BULK AT MOST 1048576: true; the input reads as it did. -/
def cuttingValidUptoRow : OpenClaim := { program := "ytpgaejicfbpcmaagreat", sum := "8c1a234e7d4450cddc8ada5eb546535182a8ac93e8cad36d4ef7d18a15cd004f", func := "leadlight/leadlightlaw05.CuttingValid", spec := "cuttingValid", unfollowed := true, recurses := true, plainKeys := false, apart := false, narrowed := true }
def CuttingValidUptoSaid : Prop := cuttingValidUptoRow.holds Tryz.pinned (OpenSpec.upto cuttingValidSpec)

/-- 'leadlightlaw05.CuttingBites', WHERE WHAT IT READS IS OF BULK AT MOST 1048576: true; the input reads as it did. -/
def cuttingBitesUptoRow : OpenClaim := { program := "ytpgaejicfbpcmaagreat", sum := "8c1a234e7d4450cddc8ada5eb546535182a8ac93e8cad36d4ef7d18a15cd004f", func := "leadlight/leadlightlaw05.CuttingBites", spec := "cuttingBites", unfollowed := true, recurses := true, plainKeys := false, apart := false, narrowed := true }
def CuttingBitesUptoSaid : Prop := cuttingBitesUptoRow.holds Tryz.pinned (OpenSpec.upto cuttingBitesSpec)

/-- 'leadlightlaw05.CuttingPockets', WHERE WHAT IT READS IS OF BULK AT MOST 1048576: true; the input reads as it did. -/
def cuttingPocketsUptoRow : OpenClaim := { program := "ytpgaejicfbpcmaagreat", sum := "8c1a234e7d4450cddc8ada5eb546535182a8ac93e8cad36d4ef7d18a15cd004f", func := "leadlight/leadlightlaw05.CuttingPockets", spec := "cuttingPockets", unfollowed := true, recurses := true, plainKeys := false, apart := false, narrowed := true }
def CuttingPocketsUptoSaid : Prop := cuttingPocketsUptoRow.holds Tryz.pinned (OpenSpec.upto cuttingPocketsSpec)

/-- 'leadlightlaw05.CuttingCuts', WHERE WHAT IT READS IS OF BULK AT MOST 1048576: true; the input reads as it did. -/
def cuttingCutsUptoRow : OpenClaim := { program := "ytpgaejicfbpcmaagreat", sum := "8c1a234e7d4450cddc8ada5eb546535182a8ac93e8cad36d4ef7d18a15cd004f", func := "leadlight/leadlightlaw05.CuttingCuts", spec := "cuttingCuts", unfollowed := true, recurses := true, plainKeys := false, apart := false, narrowed := true }
def CuttingCutsUptoSaid : Prop := cuttingCutsUptoRow.holds Tryz.pinned (OpenSpec.upto cuttingCutsSpec)

end Rows
end Go.Proofs.YtpgaejicfbpcmaaGreat
