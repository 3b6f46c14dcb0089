/-
  No cell of these rows narrows 'for every input' (looked for: loops, veiled, ifaces, maps, wideKeys, modest, calm, conditions, laid).
  DERIVED. THE GIVEN ROWS OF THIS SEAT. 3 by the template 'for every input the law returns true; each argument reads behind the call as it read before'; 0 by the template 'total and deterministic' (their statements: YtdkpcdlnfobnnaaGreatTotals.lean).
  GIVEN WITH THE SEED: the statements are not yours to turn. If you find one false, say at which input.
  Laid BY PROGRAM, IN A SANDBOX (cutbox-rows.mjs): the forced cells as the released guide's own fill.sh prints them over the translation 63b5aec9435cdff1… (all of the seat's roots in one cut). By AI agents, Wed Nov 11 2026. No macro, syntax, notation, axiom, sorry.
-/
import Derived.Test.YtdkpcdlnfobnnaaGreatChecked
import GoSem.Claim
import GoSem.ClaimJoined
import GoSem.ClaimMapViews
import Derived.JoinedTies
import Derived.KernelRfl
namespace Go.Proofs.YtdkpcdlnfobnnaaGreat
/- THE CELL 'sum', in the pinned program and in every row, IS THE sha256 OF THE DUMP (.gsa) THAT YtdkpcdlnfobnnaaGreatProg.lean LOADS. Nothing in Lean hashes anything: it is a label: what it is worth is what the hold of that sum in a sandbox is worth. -/
noncomputable def Tryz.pinned : Pinned := { name := "ytdkpcdlnfobnnaagreat", sum := "63b5aec9435cdff1b9c2559c81778055b52836437f273dfd09698bee382b2373", checked := Tryz.checked }
namespace Rows
def none {H : Type} : Left H := { results := [], args := [] }

/-- 'leadlightlaw05.CuttingBites': WHATEVER THE INPUT: true; the input reads as it did. -/
def cuttingBitesSpec : ChangeSpec := { name := "cuttingBites", fn := fun _ => fun
  | [d1, d2, d3] => { results := [.lit (.bool true)], args := [d1, d2, d3] }
  | _ => none }
def cuttingBitesRow : OpenClaim := { program := "ytdkpcdlnfobnnaagreat", sum := "63b5aec9435cdff1b9c2559c81778055b52836437f273dfd09698bee382b2373", func := "leadlight/leadlightlaw05.CuttingBites", spec := "cuttingBites", unfollowed := true, recurses := true, plainKeys := false, apart := false }
def CuttingBitesSaid : Prop := cuttingBitesRow.holds Tryz.pinned (OpenSpec.ofChange cuttingBitesSpec)

/-- ITS FALSE NEIGHBOUR: 'it returns false'. Refute it at one input. -/
def cuttingBitesWrong : ChangeSpec := { name := "cuttingBites", fn := fun _ => fun
  | [d1, d2, d3] => { results := [.lit (.bool false)], args := [d1, d2, d3] }
  | _ => none }
def CuttingBitesWrongFalsely : Prop := cuttingBitesRow.holds Tryz.pinned (OpenSpec.ofChange cuttingBitesWrong)

/-- 'leadlightlaw05.CuttingPockets': WHATEVER THE INPUT: true; the input reads as it did. -/
def cuttingPocketsSpec : ChangeSpec := { name := "cuttingPockets", fn := fun _ => fun
  | [d1, d2, d3, d4, d5, d6] => { results := [.lit (.bool true)], args := [d1, d2, d3, d4, d5, d6] }
  | _ => none }
def cuttingPocketsRow : OpenClaim := { program := "ytdkpcdlnfobnnaagreat", sum := "63b5aec9435cdff1b9c2559c81778055b52836437f273dfd09698bee382b2373", func := "leadlight/leadlightlaw05.CuttingPockets", spec := "cuttingPockets", unfollowed := true, recurses := true, plainKeys := false, apart := false }
def CuttingPocketsSaid : Prop := cuttingPocketsRow.holds Tryz.pinned (OpenSpec.ofChange cuttingPocketsSpec)

/-- ITS FALSE NEIGHBOUR: 'it returns false'. Refute it at one input. -/
def cuttingPocketsWrong : ChangeSpec := { name := "cuttingPockets", fn := fun _ => fun
  | [d1, d2, d3, d4, d5, d6] => { results := [.lit (.bool false)], args := [d1, d2, d3, d4, d5, d6] }
  | _ => none }
def CuttingPocketsWrongFalsely : Prop := cuttingPocketsRow.holds Tryz.pinned (OpenSpec.ofChange cuttingPocketsWrong)

/-- 'leadlightlaw05.CuttingCuts': WHATEVER THE INPUT: true; the input reads as it did. -/
def cuttingCutsSpec : ChangeSpec := { name := "cuttingCuts", fn := fun _ => fun
  | [d1, d2, d3] => { results := [.lit (.bool true)], args := [d1, d2, d3] }
  | _ => none }
def cuttingCutsRow : OpenClaim := { program := "ytdkpcdlnfobnnaagreat", sum := "63b5aec9435cdff1b9c2559c81778055b52836437f273dfd09698bee382b2373", func := "leadlight/leadlightlaw05.CuttingCuts", spec := "cuttingCuts", unfollowed := true, recurses := true, plainKeys := false, apart := false }
def CuttingCutsSaid : Prop := cuttingCutsRow.holds Tryz.pinned (OpenSpec.ofChange cuttingCutsSpec)

/-- ITS FALSE NEIGHBOUR: 'it returns false'. Refute it at one input. -/
def cuttingCutsWrong : ChangeSpec := { name := "cuttingCuts", fn := fun _ => fun
  | [d1, d2, d3] => { results := [.lit (.bool false)], args := [d1, d2, d3] }
  | _ => none }
def CuttingCutsWrongFalsely : Prop := cuttingCutsRow.holds Tryz.pinned (OpenSpec.ofChange cuttingCutsWrong)

/- THE SECOND FORM. 'bulk': how many values and letters a reading holds, each counted each time it is reached (what is shared counts as often as it is met; a slice's spare places count too). A statement '..UptoSaid' is the law's where the arguments, and the package variables that the reading takes, are together of bulk at most 1048576: NARROWER than '..Said'. Prove '..Said' where nothing that the law and all that it calls make is longer than what came in: it says more and counts as full. Else prove '..UptoSaid'. A law counts once. -/
mutual
def uptoBulk {H : Type} : DataW H → Nat
  | .lit (.string bytes) => bytes.length + 1
  | .lit _ => 1
  | .nil => 1
  | .ptr d => uptoBulk d + 1
  | .slice elems spare => uptoBulkAll elems + uptoBulkAll spare + 1
  | .agg parts => uptoBulkAll parts + 1
  | .iface _ d => uptoBulk d + 1
  | .map entries => uptoBulkEntries entries + 1
  | .held _ => 1
def uptoBulkAll {H : Type} : List (DataW H) → Nat
  | [] => 0
  | d :: r => uptoBulk d + uptoBulkAll r
def uptoBulkEntries {H : Type} : List (Lit × DataW H) → Nat
  | [] => 0
  | x :: r => uptoBulkEntry x + uptoBulkEntries r
def uptoBulkEntry {H : Type} : Lit × DataW H → Nat
  | (.string bytes, d) => bytes.length + uptoBulk d + 1
  | (_, d) => uptoBulk d + 1
 end
def uptoSmall : (H : Type) → List (DataW H) → Bool := fun _ ds => decide (uptoBulkAll ds ≤ 1048576)
def OpenSpec.upto (s : _root_.Go.ChangeSpec) : _root_.Go.OpenSpec := { _root_.Go.OpenSpec.ofChange s with cond := some uptoSmall }

/-- 'leadlightlaw05.CuttingBites', WHERE WHAT IT READS IS OF BULK AT MOST 1048576: true; the input reads as it did. -/
def cuttingBitesUptoRow : OpenClaim := { program := "ytdkpcdlnfobnnaagreat", sum := "63b5aec9435cdff1b9c2559c81778055b52836437f273dfd09698bee382b2373", func := "leadlight/leadlightlaw05.CuttingBites", spec := "cuttingBites", unfollowed := true, recurses := true, plainKeys := false, apart := false, narrowed := true }
def CuttingBitesUptoSaid : Prop := cuttingBitesUptoRow.holds Tryz.pinned (OpenSpec.upto cuttingBitesSpec)

/-- 'leadlightlaw05.CuttingPockets', WHERE WHAT IT READS IS OF BULK AT MOST 1048576: true; the input reads as it did. -/
def cuttingPocketsUptoRow : OpenClaim := { program := "ytdkpcdlnfobnnaagreat", sum := "63b5aec9435cdff1b9c2559c81778055b52836437f273dfd09698bee382b2373", func := "leadlight/leadlightlaw05.CuttingPockets", spec := "cuttingPockets", unfollowed := true, recurses := true, plainKeys := false, apart := false, narrowed := true }
def CuttingPocketsUptoSaid : Prop := cuttingPocketsUptoRow.holds Tryz.pinned (OpenSpec.upto cuttingPocketsSpec)

/-- 'leadlightlaw05.CuttingCuts', WHERE WHAT IT READS IS OF BULK AT MOST 1048576: true; the input reads as it did. -/
def cuttingCutsUptoRow : OpenClaim := { program := "ytdkpcdlnfobnnaagreat", sum := "63b5aec9435cdff1b9c2559c81778055b52836437f273dfd09698bee382b2373", func := "leadlight/leadlightlaw05.CuttingCuts", spec := "cuttingCuts", unfollowed := true, recurses := true, plainKeys := false, apart := false, narrowed := true }
def CuttingCutsUptoSaid : Prop := cuttingCutsUptoRow.holds Tryz.pinned (OpenSpec.upto cuttingCutsSpec)

end Rows
end Go.Proofs.YtdkpcdlnfobnnaaGreat
