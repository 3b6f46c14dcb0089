/-
  No cell of these rows narrows 'for every input' (looked for: loops, veiled, ifaces, maps, wideKeys, modest, calm, conditions, laid).
  DERIVED. THE GIVEN ROWS OF THIS SEAT. 6 by the template 'for every input the law returns true; each argument reads behind the call as it read before'; 0 by the template 'total and deterministic' (their statements: YtkklpamllfkbaaaTotals.lean).
  GIVEN WITH THE SEED: the statements are not yours to turn. If you find one false, say at which input.
  Laid BY PROGRAM, IN A SANDBOX (cutbox-rows.mjs): the forced cells as the released guide's own fill.sh prints them over the translation 0690aad6c0e299fc… (all of the seat's roots in one cut). By AI agents, Wed Nov 11 2026. No macro, syntax, notation, axiom, sorry.
-/
import Derived.Test.YtkklpamllfkbaaaChecked
import GoSem.Claim
import GoSem.ClaimJoined
import GoSem.ClaimMapViews
import Derived.JoinedTies
import Derived.KernelRfl
namespace Go.Proofs.Ytkklpamllfkbaaa
/- THE CELL 'sum', in the pinned program and in every row, IS THE sha256 OF THE DUMP (.gsa) THAT YtkklpamllfkbaaaProg.lean LOADS. Nothing in Lean hashes anything: it is a label: what it is worth is what the hold of that sum in a sandbox is worth. -/
noncomputable def Try.pinned : Pinned := { name := "ytkklpamllfkbaaa", sum := "0690aad6c0e299fc7b5a11c1c3184c5ce7f565478474fa0df07cd7437d26a878", checked := Try.checked }
namespace Rows
def none {H : Type} : Left H := { results := [], args := [] }

/-- 'leadlightlaw01.PlaneMeets': WHATEVER THE INPUT: true; the input reads as it did. -/
def planeMeetsSpec : ChangeSpec := { name := "planeMeets", fn := fun _ => fun
  | [d1, d2, d3, d4] => { results := [.lit (.bool true)], args := [d1, d2, d3, d4] }
  | _ => none }
def planeMeetsRow : OpenClaim := { program := "ytkklpamllfkbaaa", sum := "0690aad6c0e299fc7b5a11c1c3184c5ce7f565478474fa0df07cd7437d26a878", func := "leadlight/leadlightlaw01.PlaneMeets", spec := "planeMeets", unfollowed := true, recurses := true, plainKeys := false, apart := false }
def PlaneMeetsSaid : Prop := planeMeetsRow.holds Try.pinned (OpenSpec.ofChange planeMeetsSpec)

/-- ITS FALSE NEIGHBOUR: 'it returns false'. Refute it at one input. -/
def planeMeetsWrong : ChangeSpec := { name := "planeMeets", fn := fun _ => fun
  | [d1, d2, d3, d4] => { results := [.lit (.bool false)], args := [d1, d2, d3, d4] }
  | _ => none }
def PlaneMeetsWrongFalsely : Prop := planeMeetsRow.holds Try.pinned (OpenSpec.ofChange planeMeetsWrong)

/-- 'leadlightlaw01.PlanePoints': WHATEVER THE INPUT: true; the input reads as it did. -/
def planePointsSpec : ChangeSpec := { name := "planePoints", fn := fun _ => fun
  | [d1, d2, d3, d4] => { results := [.lit (.bool true)], args := [d1, d2, d3, d4] }
  | _ => none }
def planePointsRow : OpenClaim := { program := "ytkklpamllfkbaaa", sum := "0690aad6c0e299fc7b5a11c1c3184c5ce7f565478474fa0df07cd7437d26a878", func := "leadlight/leadlightlaw01.PlanePoints", spec := "planePoints", unfollowed := true, recurses := true, plainKeys := false, apart := false }
def PlanePointsSaid : Prop := planePointsRow.holds Try.pinned (OpenSpec.ofChange planePointsSpec)

/-- ITS FALSE NEIGHBOUR: 'it returns false'. Refute it at one input. -/
def planePointsWrong : ChangeSpec := { name := "planePoints", fn := fun _ => fun
  | [d1, d2, d3, d4] => { results := [.lit (.bool false)], args := [d1, d2, d3, d4] }
  | _ => none }
def PlanePointsWrongFalsely : Prop := planePointsRow.holds Try.pinned (OpenSpec.ofChange planePointsWrong)

/-- 'leadlightlaw01.PlaneGroup': WHATEVER THE INPUT: true; the input reads as it did. -/
def planeGroupSpec : ChangeSpec := { name := "planeGroup", fn := fun _ => fun
  | [d1, d2, d3, d4, d5] => { results := [.lit (.bool true)], args := [d1, d2, d3, d4, d5] }
  | _ => none }
def planeGroupRow : OpenClaim := { program := "ytkklpamllfkbaaa", sum := "0690aad6c0e299fc7b5a11c1c3184c5ce7f565478474fa0df07cd7437d26a878", func := "leadlight/leadlightlaw01.PlaneGroup", spec := "planeGroup", unfollowed := true, recurses := true, plainKeys := false, apart := false }
def PlaneGroupSaid : Prop := planeGroupRow.holds Try.pinned (OpenSpec.ofChange planeGroupSpec)

/-- ITS FALSE NEIGHBOUR: 'it returns false'. Refute it at one input. -/
def planeGroupWrong : ChangeSpec := { name := "planeGroup", fn := fun _ => fun
  | [d1, d2, d3, d4, d5] => { results := [.lit (.bool false)], args := [d1, d2, d3, d4, d5] }
  | _ => none }
def PlaneGroupWrongFalsely : Prop := planeGroupRow.holds Try.pinned (OpenSpec.ofChange planeGroupWrong)

/-- 'leadlightlaw01.PlaneCongruent': WHATEVER THE INPUT: true; the input reads as it did. -/
def planeCongruentSpec : ChangeSpec := { name := "planeCongruent", fn := fun _ => fun
  | [d1, d2, d3] => { results := [.lit (.bool true)], args := [d1, d2, d3] }
  | _ => none }
def planeCongruentRow : OpenClaim := { program := "ytkklpamllfkbaaa", sum := "0690aad6c0e299fc7b5a11c1c3184c5ce7f565478474fa0df07cd7437d26a878", func := "leadlight/leadlightlaw01.PlaneCongruent", spec := "planeCongruent", unfollowed := true, recurses := true, plainKeys := false, apart := false }
def PlaneCongruentSaid : Prop := planeCongruentRow.holds Try.pinned (OpenSpec.ofChange planeCongruentSpec)

/-- ITS FALSE NEIGHBOUR: 'it returns false'. Refute it at one input. -/
def planeCongruentWrong : ChangeSpec := { name := "planeCongruent", fn := fun _ => fun
  | [d1, d2, d3] => { results := [.lit (.bool false)], args := [d1, d2, d3] }
  | _ => none }
def PlaneCongruentWrongFalsely : Prop := planeCongruentRow.holds Try.pinned (OpenSpec.ofChange planeCongruentWrong)

/-- 'leadlightlaw01.PlanePlaces': WHATEVER THE INPUT: true; the input reads as it did. -/
def planePlacesSpec : ChangeSpec := { name := "planePlaces", fn := fun _ => fun
  | [d1, d2] => { results := [.lit (.bool true)], args := [d1, d2] }
  | _ => none }
def planePlacesRow : OpenClaim := { program := "ytkklpamllfkbaaa", sum := "0690aad6c0e299fc7b5a11c1c3184c5ce7f565478474fa0df07cd7437d26a878", func := "leadlight/leadlightlaw01.PlanePlaces", spec := "planePlaces", unfollowed := true, recurses := true, plainKeys := false, apart := false }
def PlanePlacesSaid : Prop := planePlacesRow.holds Try.pinned (OpenSpec.ofChange planePlacesSpec)

/-- ITS FALSE NEIGHBOUR: 'it returns false'. Refute it at one input. -/
def planePlacesWrong : ChangeSpec := { name := "planePlaces", fn := fun _ => fun
  | [d1, d2] => { results := [.lit (.bool false)], args := [d1, d2] }
  | _ => none }
def PlanePlacesWrongFalsely : Prop := planePlacesRow.holds Try.pinned (OpenSpec.ofChange planePlacesWrong)

/-- 'leadlightlaw01.PlaneExits': WHATEVER THE INPUT: true; the input reads as it did. -/
def planeExitsSpec : ChangeSpec := { name := "planeExits", fn := fun _ => fun
  | [d] => { results := [.lit (.bool true)], args := [d] }
  | _ => none }
def planeExitsRow : OpenClaim := { program := "ytkklpamllfkbaaa", sum := "0690aad6c0e299fc7b5a11c1c3184c5ce7f565478474fa0df07cd7437d26a878", func := "leadlight/leadlightlaw01.PlaneExits", spec := "planeExits", unfollowed := true, recurses := true, plainKeys := false, apart := false }
def PlaneExitsSaid : Prop := planeExitsRow.holds Try.pinned (OpenSpec.ofChange planeExitsSpec)

/-- ITS FALSE NEIGHBOUR: 'it returns false'. Refute it at one input. -/
def planeExitsWrong : ChangeSpec := { name := "planeExits", fn := fun _ => fun
  | [d] => { results := [.lit (.bool false)], args := [d] }
  | _ => none }
def PlaneExitsWrongFalsely : Prop := planeExitsRow.holds Try.pinned (OpenSpec.ofChange planeExitsWrong)

/- THE SECOND FORM. 'bulk': how many values and letters a reading holds, each counted each time it is reached (what is shared counts as often as it is met; a slice's spare places count too). A statement '..UptoSaid' is the law's where the arguments, and the package variables that the reading takes, are together of bulk at most 1048576: NARROWER than '..Said'. Prove '..Said' where nothing that the law and all that it calls make is longer than what came in: it says more and counts as full. Else prove '..UptoSaid'. A law counts once. -/
mutual
def uptoBulk {H : Type} : DataW H → Nat
  | .lit (.string bytes) => bytes.length + 1
  | .lit _ => 1
  | .nil => 1
  | .ptr d => uptoBulk d + 1
  | .slice elems spare => uptoBulkAll elems + uptoBulkAll spare + 1
  | .agg parts => uptoBulkAll parts + 1
  | .iface _ d => uptoBulk d + 1
  | .map entries => uptoBulkEntries entries + 1
  | .held _ => 1
def uptoBulkAll {H : Type} : List (DataW H) → Nat
  | [] => 0
  | d :: r => uptoBulk d + uptoBulkAll r
def uptoBulkEntries {H : Type} : List (Lit × DataW H) → Nat
  | [] => 0
  | x :: r => uptoBulkEntry x + uptoBulkEntries r
def uptoBulkEntry {H : Type} : Lit × DataW H → Nat
  | (.string bytes, d) => bytes.length + uptoBulk d + 1
  | (_, d) => uptoBulk d + 1
 end
def uptoSmall : (H : Type) → List (DataW H) → Bool := fun _ ds => decide (uptoBulkAll ds ≤ 1048576)
def OpenSpec.upto (s : _root_.Go.ChangeSpec) : _root_.Go.OpenSpec := { _root_.Go.OpenSpec.ofChange s with cond := some uptoSmall }

/-- 'leadlightlaw01.PlaneMeets', WHERE WHAT IT READS IS OF BULK AT MOST 1048576: true; the input reads as it did. -/
def planeMeetsUptoRow : OpenClaim := { program := "ytkklpamllfkbaaa", sum := "0690aad6c0e299fc7b5a11c1c3184c5ce7f565478474fa0df07cd7437d26a878", func := "leadlight/leadlightlaw01.PlaneMeets", spec := "planeMeets", unfollowed := true, recurses := true, plainKeys := false, apart := false, narrowed := true }
def PlaneMeetsUptoSaid : Prop := planeMeetsUptoRow.holds Try.pinned (OpenSpec.upto planeMeetsSpec)

/-- 'leadlightlaw01.PlanePoints', WHERE WHAT IT READS IS OF BULK AT MOST 1048576: true; the input reads as it did. -/
def planePointsUptoRow : OpenClaim := { program := "ytkklpamllfkbaaa", sum := "0690aad6c0e299fc7b5a11c1c3184c5ce7f565478474fa0df07cd7437d26a878", func := "leadlight/leadlightlaw01.PlanePoints", spec := "planePoints", unfollowed := true, recurses := true, plainKeys := false, apart := false, narrowed := true }
def PlanePointsUptoSaid : Prop := planePointsUptoRow.holds Try.pinned (OpenSpec.upto planePointsSpec)

/-- 'leadlightlaw01.PlaneGroup', WHERE WHAT IT READS IS OF BULK AT MOST 1048576: true; the input reads as it did. -/
def planeGroupUptoRow : OpenClaim := { program := "ytkklpamllfkbaaa", sum := "0690aad6c0e299fc7b5a11c1c3184c5ce7f565478474fa0df07cd7437d26a878", func := "leadlight/leadlightlaw01.PlaneGroup", spec := "planeGroup", unfollowed := true, recurses := true, plainKeys := false, apart := false, narrowed := true }
def PlaneGroupUptoSaid : Prop := planeGroupUptoRow.holds Try.pinned (OpenSpec.upto planeGroupSpec)

/-- 'leadlightlaw01.PlaneCongruent', WHERE WHAT IT READS IS OF BULK AT MOST 1048576: true; the input reads as it did. -/
def planeCongruentUptoRow : OpenClaim := { program := "ytkklpamllfkbaaa", sum := "0690aad6c0e299fc7b5a11c1c3184c5ce7f565478474fa0df07cd7437d26a878", func := "leadlight/leadlightlaw01.PlaneCongruent", spec := "planeCongruent", unfollowed := true, recurses := true, plainKeys := false, apart := false, narrowed := true }
def PlaneCongruentUptoSaid : Prop := planeCongruentUptoRow.holds Try.pinned (OpenSpec.upto planeCongruentSpec)

/-- 'leadlightlaw01.PlanePlaces', WHERE WHAT IT READS IS OF BULK AT MOST 1048576: true; the input reads as it did. -/
def planePlacesUptoRow : OpenClaim := { program := "ytkklpamllfkbaaa", sum := "0690aad6c0e299fc7b5a11c1c3184c5ce7f565478474fa0df07cd7437d26a878", func := "leadlight/leadlightlaw01.PlanePlaces", spec := "planePlaces", unfollowed := true, recurses := true, plainKeys := false, apart := false, narrowed := true }
def PlanePlacesUptoSaid : Prop := planePlacesUptoRow.holds Try.pinned (OpenSpec.upto planePlacesSpec)

/-- 'leadlightlaw01.PlaneExits', WHERE WHAT IT READS IS OF BULK AT MOST 1048576: true; the input reads as it did. -/
def planeExitsUptoRow : OpenClaim := { program := "ytkklpamllfkbaaa", sum := "0690aad6c0e299fc7b5a11c1c3184c5ce7f565478474fa0df07cd7437d26a878", func := "leadlight/leadlightlaw01.PlaneExits", spec := "planeExits", unfollowed := true, recurses := true, plainKeys := false, apart := false, narrowed := true }
def PlaneExitsUptoSaid : Prop := planeExitsUptoRow.holds Try.pinned (OpenSpec.upto planeExitsSpec)

end Rows
end Go.Proofs.Ytkklpamllfkbaaa
