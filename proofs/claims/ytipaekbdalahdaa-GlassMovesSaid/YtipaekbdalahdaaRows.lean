/-
  No cell of these rows narrows 'for every input' (looked for: loops, veiled, ifaces, maps, wideKeys, modest, calm, conditions, laid).
  DERIVED. THE GIVEN ROWS OF THIS SEAT. 9 by the template 'for every input the law returns true; each argument reads behind the call as it read before'; 0 by the template 'total and deterministic' (their statements: YtipaekbdalahdaaTotals.lean).
  GIVEN WITH THE SEED: the statements are not yours to turn. If you find one false, say at which input.
  Laid BY PROGRAM, IN A SANDBOX (cutbox-rows.mjs): the forced cells as the released guide's own fill.sh prints them over the translation cc7d794ddbc11907… (all of the seat's roots in one cut). By AI agents, Wed Nov 11 2026. No macro, syntax, notation, axiom, sorry.
-/
import Derived.Test.YtipaekbdalahdaaChecked
import GoSem.Claim
import GoSem.ClaimJoined
import GoSem.ClaimMapViews
import Derived.JoinedTies
import Derived.KernelRfl
namespace Go.Proofs.Ytipaekbdalahdaa
/- THE CELL 'sum', in the pinned program and in every row, IS THE sha256 OF THE DUMP (.gsa) THAT YtipaekbdalahdaaProg.lean LOADS. Nothing in Lean hashes anything: it is a label: what it is worth is what the hold of that sum in a sandbox is worth. -/
noncomputable def Try.pinned : Pinned := { name := "ytipaekbdalahdaa", sum := "cc7d794ddbc119073b26f2d1a25a74477e3a39c0d80a69d698e2afa8a487d847", checked := Try.checked }
namespace Rows
def none {H : Type} : Left H := { results := [], args := [] }

/-- 'leadlightlaw03.GlassPairs': WHATEVER THE INPUT: true; the input reads as it did. -/
def glassPairsSpec : ChangeSpec := { name := "glassPairs", fn := fun _ => fun
  | [d1, d2, d3, d4] => { results := [.lit (.bool true)], args := [d1, d2, d3, d4] }
  | _ => none }
def glassPairsRow : OpenClaim := { program := "ytipaekbdalahdaa", sum := "cc7d794ddbc119073b26f2d1a25a74477e3a39c0d80a69d698e2afa8a487d847", func := "leadlight/leadlightlaw03.GlassPairs", spec := "glassPairs", unfollowed := true, recurses := true, plainKeys := false, apart := false }
def GlassPairsSaid : Prop := glassPairsRow.holds Try.pinned (OpenSpec.ofChange glassPairsSpec)

/-- ITS FALSE NEIGHBOUR: 'it returns false'. Refute it at one input. -/
def glassPairsWrong : ChangeSpec := { name := "glassPairs", fn := fun _ => fun
  | [d1, d2, d3, d4] => { results := [.lit (.bool false)], args := [d1, d2, d3, d4] }
  | _ => none }
def GlassPairsWrongFalsely : Prop := glassPairsRow.holds Try.pinned (OpenSpec.ofChange glassPairsWrong)

/-- 'leadlightlaw03.GlassValid': WHATEVER THE INPUT: true; the input reads as it did. -/
def glassValidSpec : ChangeSpec := { name := "glassValid", fn := fun _ => fun
  | [d1, d2] => { results := [.lit (.bool true)], args := [d1, d2] }
  | _ => none }
def glassValidRow : OpenClaim := { program := "ytipaekbdalahdaa", sum := "cc7d794ddbc119073b26f2d1a25a74477e3a39c0d80a69d698e2afa8a487d847", func := "leadlight/leadlightlaw03.GlassValid", spec := "glassValid", unfollowed := true, recurses := true, plainKeys := false, apart := false }
def GlassValidSaid : Prop := glassValidRow.holds Try.pinned (OpenSpec.ofChange glassValidSpec)

/-- ITS FALSE NEIGHBOUR: 'it returns false'. Refute it at one input. -/
def glassValidWrong : ChangeSpec := { name := "glassValid", fn := fun _ => fun
  | [d1, d2] => { results := [.lit (.bool false)], args := [d1, d2] }
  | _ => none }
def GlassValidWrongFalsely : Prop := glassValidRow.holds Try.pinned (OpenSpec.ofChange glassValidWrong)

/-- 'leadlightlaw03.GlassGauges': WHATEVER THE INPUT: true; the input reads as it did. -/
def glassGaugesSpec : ChangeSpec := { name := "glassGauges", fn := fun _ => fun
  | [d1, d2, d3] => { results := [.lit (.bool true)], args := [d1, d2, d3] }
  | _ => none }
def glassGaugesRow : OpenClaim := { program := "ytipaekbdalahdaa", sum := "cc7d794ddbc119073b26f2d1a25a74477e3a39c0d80a69d698e2afa8a487d847", func := "leadlight/leadlightlaw03.GlassGauges", spec := "glassGauges", unfollowed := true, recurses := true, plainKeys := false, apart := false }
def GlassGaugesSaid : Prop := glassGaugesRow.holds Try.pinned (OpenSpec.ofChange glassGaugesSpec)

/-- ITS FALSE NEIGHBOUR: 'it returns false'. Refute it at one input. -/
def glassGaugesWrong : ChangeSpec := { name := "glassGauges", fn := fun _ => fun
  | [d1, d2, d3] => { results := [.lit (.bool false)], args := [d1, d2, d3] }
  | _ => none }
def GlassGaugesWrongFalsely : Prop := glassGaugesRow.holds Try.pinned (OpenSpec.ofChange glassGaugesWrong)

/-- 'leadlightlaw03.GlassMarks': WHATEVER THE INPUT: true; the input reads as it did. -/
def glassMarksSpec : ChangeSpec := { name := "glassMarks", fn := fun _ => fun
  | [d1, d2, d3, d4, d5] => { results := [.lit (.bool true)], args := [d1, d2, d3, d4, d5] }
  | _ => none }
def glassMarksRow : OpenClaim := { program := "ytipaekbdalahdaa", sum := "cc7d794ddbc119073b26f2d1a25a74477e3a39c0d80a69d698e2afa8a487d847", func := "leadlight/leadlightlaw03.GlassMarks", spec := "glassMarks", unfollowed := true, recurses := true, plainKeys := false, apart := false }
def GlassMarksSaid : Prop := glassMarksRow.holds Try.pinned (OpenSpec.ofChange glassMarksSpec)

/-- ITS FALSE NEIGHBOUR: 'it returns false'. Refute it at one input. -/
def glassMarksWrong : ChangeSpec := { name := "glassMarks", fn := fun _ => fun
  | [d1, d2, d3, d4, d5] => { results := [.lit (.bool false)], args := [d1, d2, d3, d4, d5] }
  | _ => none }
def GlassMarksWrongFalsely : Prop := glassMarksRow.holds Try.pinned (OpenSpec.ofChange glassMarksWrong)

/-- 'leadlightlaw03.GlassAdjoint': WHATEVER THE INPUT: true; the input reads as it did. -/
def glassAdjointSpec : ChangeSpec := { name := "glassAdjoint", fn := fun _ => fun
  | [d1, d2, d3] => { results := [.lit (.bool true)], args := [d1, d2, d3] }
  | _ => none }
def glassAdjointRow : OpenClaim := { program := "ytipaekbdalahdaa", sum := "cc7d794ddbc119073b26f2d1a25a74477e3a39c0d80a69d698e2afa8a487d847", func := "leadlight/leadlightlaw03.GlassAdjoint", spec := "glassAdjoint", unfollowed := true, recurses := true, plainKeys := false, apart := false }
def GlassAdjointSaid : Prop := glassAdjointRow.holds Try.pinned (OpenSpec.ofChange glassAdjointSpec)

/-- ITS FALSE NEIGHBOUR: 'it returns false'. Refute it at one input. -/
def glassAdjointWrong : ChangeSpec := { name := "glassAdjoint", fn := fun _ => fun
  | [d1, d2, d3] => { results := [.lit (.bool false)], args := [d1, d2, d3] }
  | _ => none }
def GlassAdjointWrongFalsely : Prop := glassAdjointRow.holds Try.pinned (OpenSpec.ofChange glassAdjointWrong)

/-- 'leadlightlaw03.GlassFilms': WHATEVER THE INPUT: true; the input reads as it did. -/
def glassFilmsSpec : ChangeSpec := { name := "glassFilms", fn := fun _ => fun
  | [d1, d2, d3, d4, d5, d6] => { results := [.lit (.bool true)], args := [d1, d2, d3, d4, d5, d6] }
  | _ => none }
def glassFilmsRow : OpenClaim := { program := "ytipaekbdalahdaa", sum := "cc7d794ddbc119073b26f2d1a25a74477e3a39c0d80a69d698e2afa8a487d847", func := "leadlight/leadlightlaw03.GlassFilms", spec := "glassFilms", unfollowed := true, recurses := true, plainKeys := false, apart := false }
def GlassFilmsSaid : Prop := glassFilmsRow.holds Try.pinned (OpenSpec.ofChange glassFilmsSpec)

/-- ITS FALSE NEIGHBOUR: 'it returns false'. Refute it at one input. -/
def glassFilmsWrong : ChangeSpec := { name := "glassFilms", fn := fun _ => fun
  | [d1, d2, d3, d4, d5, d6] => { results := [.lit (.bool false)], args := [d1, d2, d3, d4, d5, d6] }
  | _ => none }
def GlassFilmsWrongFalsely : Prop := glassFilmsRow.holds Try.pinned (OpenSpec.ofChange glassFilmsWrong)

/-- 'leadlightlaw03.GlassFits': WHATEVER THE INPUT: true; the input reads as it did. -/
def glassFitsSpec : ChangeSpec := { name := "glassFits", fn := fun _ => fun
  | [d1, d2, d3] => { results := [.lit (.bool true)], args := [d1, d2, d3] }
  | _ => none }
def glassFitsRow : OpenClaim := { program := "ytipaekbdalahdaa", sum := "cc7d794ddbc119073b26f2d1a25a74477e3a39c0d80a69d698e2afa8a487d847", func := "leadlight/leadlightlaw03.GlassFits", spec := "glassFits", unfollowed := true, recurses := true, plainKeys := false, apart := false }
def GlassFitsSaid : Prop := glassFitsRow.holds Try.pinned (OpenSpec.ofChange glassFitsSpec)

/-- ITS FALSE NEIGHBOUR: 'it returns false'. Refute it at one input. -/
def glassFitsWrong : ChangeSpec := { name := "glassFits", fn := fun _ => fun
  | [d1, d2, d3] => { results := [.lit (.bool false)], args := [d1, d2, d3] }
  | _ => none }
def GlassFitsWrongFalsely : Prop := glassFitsRow.holds Try.pinned (OpenSpec.ofChange glassFitsWrong)

/-- 'leadlightlaw03.GlassExact': WHATEVER THE INPUT: true; the input reads as it did. -/
def glassExactSpec : ChangeSpec := { name := "glassExact", fn := fun _ => fun
  | [d1, d2, d3, d4] => { results := [.lit (.bool true)], args := [d1, d2, d3, d4] }
  | _ => none }
def glassExactRow : OpenClaim := { program := "ytipaekbdalahdaa", sum := "cc7d794ddbc119073b26f2d1a25a74477e3a39c0d80a69d698e2afa8a487d847", func := "leadlight/leadlightlaw03.GlassExact", spec := "glassExact", unfollowed := true, recurses := true, plainKeys := false, apart := false }
def GlassExactSaid : Prop := glassExactRow.holds Try.pinned (OpenSpec.ofChange glassExactSpec)

/-- ITS FALSE NEIGHBOUR: 'it returns false'. Refute it at one input. -/
def glassExactWrong : ChangeSpec := { name := "glassExact", fn := fun _ => fun
  | [d1, d2, d3, d4] => { results := [.lit (.bool false)], args := [d1, d2, d3, d4] }
  | _ => none }
def GlassExactWrongFalsely : Prop := glassExactRow.holds Try.pinned (OpenSpec.ofChange glassExactWrong)

/-- 'leadlightlaw03.GlassMoves': WHATEVER THE INPUT: true; the input reads as it did. -/
def glassMovesSpec : ChangeSpec := { name := "glassMoves", fn := fun _ => fun
  | [d1, d2, d3, d4] => { results := [.lit (.bool true)], args := [d1, d2, d3, d4] }
  | _ => none }
def glassMovesRow : OpenClaim := { program := "ytipaekbdalahdaa", sum := "cc7d794ddbc119073b26f2d1a25a74477e3a39c0d80a69d698e2afa8a487d847", func := "leadlight/leadlightlaw03.GlassMoves", spec := "glassMoves", unfollowed := true, recurses := true, plainKeys := false, apart := false }
def GlassMovesSaid : Prop := glassMovesRow.holds Try.pinned (OpenSpec.ofChange glassMovesSpec)

/-- ITS FALSE NEIGHBOUR: 'it returns false'. Refute it at one input. -/
def glassMovesWrong : ChangeSpec := { name := "glassMoves", fn := fun _ => fun
  | [d1, d2, d3, d4] => { results := [.lit (.bool false)], args := [d1, d2, d3, d4] }
  | _ => none }
def GlassMovesWrongFalsely : Prop := glassMovesRow.holds Try.pinned (OpenSpec.ofChange glassMovesWrong)

/- THE SECOND FORM. 'bulk': how many values and letters a reading holds, each counted each time it is reached (what is shared counts as often as it is met; a slice's spare places count too). A statement '..UptoSaid' is the law's where the arguments, and the package variables that the reading takes, are together of bulk at most 1048576: NARROWER than '..Said'. Prove '..Said' where nothing that the law and all that it calls make is longer than what came in: it says more and counts as full. Else prove '..UptoSaid'. A law counts once. -/
mutual
def uptoBulk {H : Type} : DataW H → Nat
  | .lit (.string bytes) => bytes.length + 1
  | .lit _ => 1
  | .nil => 1
  | .ptr d => uptoBulk d + 1
  | .slice elems spare => uptoBulkAll elems + uptoBulkAll spare + 1
  | .agg parts => uptoBulkAll parts + 1
  | .iface _ d => uptoBulk d + 1
  | .map entries => uptoBulkEntries entries + 1
  | .held _ => 1
def uptoBulkAll {H : Type} : List (DataW H) → Nat
  | [] => 0
  | d :: r => uptoBulk d + uptoBulkAll r
def uptoBulkEntries {H : Type} : List (Lit × DataW H) → Nat
  | [] => 0
  | x :: r => uptoBulkEntry x + uptoBulkEntries r
def uptoBulkEntry {H : Type} : Lit × DataW H → Nat
  | (.string bytes, d) => bytes.length + uptoBulk d + 1
  | (_, d) => uptoBulk d + 1
 end
def uptoSmall : (H : Type) → List (DataW H) → Bool := fun _ ds => decide (uptoBulkAll ds ≤ 1048576)
def OpenSpec.upto (s : _root_.Go.ChangeSpec) : _root_.Go.OpenSpec := { _root_.Go.OpenSpec.ofChange s with cond := some uptoSmall }

/-- 'leadlightlaw03.GlassPairs', WHERE WHAT IT READS IS OF BULK AT MOST 1048576: true; the input reads as it did. -/
def glassPairsUptoRow : OpenClaim := { program := "ytipaekbdalahdaa", sum := "cc7d794ddbc119073b26f2d1a25a74477e3a39c0d80a69d698e2afa8a487d847", func := "leadlight/leadlightlaw03.GlassPairs", spec := "glassPairs", unfollowed := true, recurses := true, plainKeys := false, apart := false, narrowed := true }
def GlassPairsUptoSaid : Prop := glassPairsUptoRow.holds Try.pinned (OpenSpec.upto glassPairsSpec)

/-- 'leadlightlaw03.GlassValid', WHERE WHAT IT READS IS OF BULK AT MOST 1048576: true; the input reads as it did. -/
def glassValidUptoRow : OpenClaim := { program := "ytipaekbdalahdaa", sum := "cc7d794ddbc119073b26f2d1a25a74477e3a39c0d80a69d698e2afa8a487d847", func := "leadlight/leadlightlaw03.GlassValid", spec := "glassValid", unfollowed := true, recurses := true, plainKeys := false, apart := false, narrowed := true }
def GlassValidUptoSaid : Prop := glassValidUptoRow.holds Try.pinned (OpenSpec.upto glassValidSpec)

/-- 'leadlightlaw03.GlassGauges', WHERE WHAT IT READS IS OF BULK AT MOST 1048576: true; the input reads as it did. -/
def glassGaugesUptoRow : OpenClaim := { program := "ytipaekbdalahdaa", sum := "cc7d794ddbc119073b26f2d1a25a74477e3a39c0d80a69d698e2afa8a487d847", func := "leadlight/leadlightlaw03.GlassGauges", spec := "glassGauges", unfollowed := true, recurses := true, plainKeys := false, apart := false, narrowed := true }
def GlassGaugesUptoSaid : Prop := glassGaugesUptoRow.holds Try.pinned (OpenSpec.upto glassGaugesSpec)

/-- 'leadlightlaw03.GlassMarks', WHERE WHAT IT READS IS OF BULK AT MOST 1048576: true; the input reads as it did. -/
def glassMarksUptoRow : OpenClaim := { program := "ytipaekbdalahdaa", sum := "cc7d794ddbc119073b26f2d1a25a74477e3a39c0d80a69d698e2afa8a487d847", func := "leadlight/leadlightlaw03.GlassMarks", spec := "glassMarks", unfollowed := true, recurses := true, plainKeys := false, apart := false, narrowed := true }
def GlassMarksUptoSaid : Prop := glassMarksUptoRow.holds Try.pinned (OpenSpec.upto glassMarksSpec)

/-- 'leadlightlaw03.GlassAdjoint', WHERE WHAT IT READS IS OF BULK AT MOST 1048576: true; the input reads as it did. -/
def glassAdjointUptoRow : OpenClaim := { program := "ytipaekbdalahdaa", sum := "cc7d794ddbc119073b26f2d1a25a74477e3a39c0d80a69d698e2afa8a487d847", func := "leadlight/leadlightlaw03.GlassAdjoint", spec := "glassAdjoint", unfollowed := true, recurses := true, plainKeys := false, apart := false, narrowed := true }
def GlassAdjointUptoSaid : Prop := glassAdjointUptoRow.holds Try.pinned (OpenSpec.upto glassAdjointSpec)

/-- 'leadlightlaw03.GlassFilms', WHERE WHAT IT READS IS OF BULK AT MOST 1048576: true; the input reads as it did. -/
def glassFilmsUptoRow : OpenClaim := { program := "ytipaekbdalahdaa", sum := "cc7d794ddbc119073b26f2d1a25a74477e3a39c0d80a69d698e2afa8a487d847", func := "leadlight/leadlightlaw03.GlassFilms", spec := "glassFilms", unfollowed := true, recurses := true, plainKeys := false, apart := false, narrowed := true }
def GlassFilmsUptoSaid : Prop := glassFilmsUptoRow.holds Try.pinned (OpenSpec.upto glassFilmsSpec)

/-- 'leadlightlaw03.GlassFits', WHERE WHAT IT READS IS OF BULK AT MOST 1048576: true; the input reads as it did. -/
def glassFitsUptoRow : OpenClaim := { program := "ytipaekbdalahdaa", sum := "cc7d794ddbc119073b26f2d1a25a74477e3a39c0d80a69d698e2afa8a487d847", func := "leadlight/leadlightlaw03.GlassFits", spec := "glassFits", unfollowed := true, recurses := true, plainKeys := false, apart := false, narrowed := true }
def GlassFitsUptoSaid : Prop := glassFitsUptoRow.holds Try.pinned (OpenSpec.upto glassFitsSpec)

/-- 'leadlightlaw03.GlassExact', WHERE WHAT IT READS IS OF BULK AT MOST 1048576: true; the input reads as it did. -/
def glassExactUptoRow : OpenClaim := { program := "ytipaekbdalahdaa", sum := "cc7d794ddbc119073b26f2d1a25a74477e3a39c0d80a69d698e2afa8a487d847", func := "leadlight/leadlightlaw03.GlassExact", spec := "glassExact", unfollowed := true, recurses := true, plainKeys := false, apart := false, narrowed := true }
def GlassExactUptoSaid : Prop := glassExactUptoRow.holds Try.pinned (OpenSpec.upto glassExactSpec)

/-- 'leadlightlaw03.GlassMoves', WHERE WHAT IT READS IS OF BULK AT MOST 1048576: true; the input reads as it did. -/
def glassMovesUptoRow : OpenClaim := { program := "ytipaekbdalahdaa", sum := "cc7d794ddbc119073b26f2d1a25a74477e3a39c0d80a69d698e2afa8a487d847", func := "leadlight/leadlightlaw03.GlassMoves", spec := "glassMoves", unfollowed := true, recurses := true, plainKeys := false, apart := false, narrowed := true }
def GlassMovesUptoSaid : Prop := glassMovesUptoRow.holds Try.pinned (OpenSpec.upto glassMovesSpec)

end Rows
end Go.Proofs.Ytipaekbdalahdaa
