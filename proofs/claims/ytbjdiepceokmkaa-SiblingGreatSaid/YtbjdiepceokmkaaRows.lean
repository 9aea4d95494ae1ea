/-
  No cell of these rows narrows 'for every input' (looked for: loops, veiled, ifaces, maps, wideKeys, modest, calm, conditions, laid).
  DERIVED. THE GIVEN ROWS OF THIS SEAT. 5 by the template 'for every input the law returns true; each argument reads behind the call as it read before'; 0 by the template 'total and deterministic' (their statements: YtbjdiepceokmkaaTotals.lean).
  GIVEN WITH THE SEED: the statements are not yours to turn. If you find one false, say at which input.
  Laid BY PROGRAM, IN A SANDBOX (cutbox-rows.mjs): the forced cells as the released guide's own fill.sh prints them over the translation 1ad37a0e86dfb16a… (all of the seat's roots in one cut). By AI agents, Wed Nov 11 2026. No macro, syntax, notation, axiom, sorry.
-/
import Derived.Test.YtbjdiepceokmkaaChecked
import GoSem.Claim
import GoSem.ClaimJoined
import GoSem.ClaimMapViews
import Derived.JoinedTies
import Derived.KernelRfl
namespace Go.Proofs.Ytbjdiepceokmkaa
/- THE CELL 'sum', in the pinned program and in every row, IS THE sha256 OF THE DUMP (.gsa) THAT YtbjdiepceokmkaaProg.lean LOADS. Nothing in Lean hashes anything: it is a label: what it is worth is what the hold of that sum in a sandbox is worth. -/
noncomputable def Try.pinned : Pinned := { name := "ytbjdiepceokmkaa", sum := "1ad37a0e86dfb16a68956db96dcbc682b76deee4d8fd1363d85c8143c31983aa", checked := Try.checked }
namespace Rows
def none {H : Type} : Left H := { results := [], args := [] }

/-- 'spencelaw17.LegacyTurns': WHATEVER THE INPUT: true; the input reads as it did. -/
def legacyTurnsSpec : ChangeSpec := { name := "legacyTurns", fn := fun _ => fun
  | [d1, d2] => { results := [.lit (.bool true)], args := [d1, d2] }
  | _ => none }
def legacyTurnsRow : OpenClaim := { program := "ytbjdiepceokmkaa", sum := "1ad37a0e86dfb16a68956db96dcbc682b76deee4d8fd1363d85c8143c31983aa", func := "spence/spencelaw17.LegacyTurns", spec := "legacyTurns", unfollowed := true, recurses := true, apart := false }
def LegacyTurnsSaid : Prop := legacyTurnsRow.holds Try.pinned (OpenSpec.ofChange legacyTurnsSpec)

/-- ITS FALSE NEIGHBOUR: 'it returns false'. Refute it at one input. -/
def legacyTurnsWrong : ChangeSpec := { name := "legacyTurns", fn := fun _ => fun
  | [d1, d2] => { results := [.lit (.bool false)], args := [d1, d2] }
  | _ => none }
def LegacyTurnsWrongFalsely : Prop := legacyTurnsRow.holds Try.pinned (OpenSpec.ofChange legacyTurnsWrong)

/-- 'spencelaw15.SiblingGreat': WHATEVER THE INPUT: true; the input reads as it did. -/
def siblingGreatSpec : ChangeSpec := { name := "siblingGreat", fn := fun _ => fun
  | [d1, d2, d3] => { results := [.lit (.bool true)], args := [d1, d2, d3] }
  | _ => none }
def siblingGreatRow : OpenClaim := { program := "ytbjdiepceokmkaa", sum := "1ad37a0e86dfb16a68956db96dcbc682b76deee4d8fd1363d85c8143c31983aa", func := "spence/spencelaw15.SiblingGreat", spec := "siblingGreat", unfollowed := true, recurses := true, apart := false }
def SiblingGreatSaid : Prop := siblingGreatRow.holds Try.pinned (OpenSpec.ofChange siblingGreatSpec)

/-- ITS FALSE NEIGHBOUR: 'it returns false'. Refute it at one input. -/
def siblingGreatWrong : ChangeSpec := { name := "siblingGreat", fn := fun _ => fun
  | [d1, d2, d3] => { results := [.lit (.bool false)], args := [d1, d2, d3] }
  | _ => none }
def SiblingGreatWrongFalsely : Prop := siblingGreatRow.holds Try.pinned (OpenSpec.ofChange siblingGreatWrong)

/-- 'spencelaw15.SiblingEncodes': WHATEVER THE INPUT: true; the input reads as it did. -/
def siblingEncodesSpec : ChangeSpec := { name := "siblingEncodes", fn := fun _ => fun
  | [d1, d2] => { results := [.lit (.bool true)], args := [d1, d2] }
  | _ => none }
def siblingEncodesRow : OpenClaim := { program := "ytbjdiepceokmkaa", sum := "1ad37a0e86dfb16a68956db96dcbc682b76deee4d8fd1363d85c8143c31983aa", func := "spence/spencelaw15.SiblingEncodes", spec := "siblingEncodes", unfollowed := true, recurses := true, apart := false }
def SiblingEncodesSaid : Prop := siblingEncodesRow.holds Try.pinned (OpenSpec.ofChange siblingEncodesSpec)

/-- ITS FALSE NEIGHBOUR: 'it returns false'. Refute it at one input. -/
def siblingEncodesWrong : ChangeSpec := { name := "siblingEncodes", fn := fun _ => fun
  | [d1, d2] => { results := [.lit (.bool false)], args := [d1, d2] }
  | _ => none }
def SiblingEncodesWrongFalsely : Prop := siblingEncodesRow.holds Try.pinned (OpenSpec.ofChange siblingEncodesWrong)

/-- 'spencelaw16.ObjectSorts': WHATEVER THE INPUT: true; the input reads as it did. -/
def objectSortsSpec : ChangeSpec := { name := "objectSorts", fn := fun _ => fun
  | [d1, d2, d3, d4] => { results := [.lit (.bool true)], args := [d1, d2, d3, d4] }
  | _ => none }
def objectSortsRow : OpenClaim := { program := "ytbjdiepceokmkaa", sum := "1ad37a0e86dfb16a68956db96dcbc682b76deee4d8fd1363d85c8143c31983aa", func := "spence/spencelaw16.ObjectSorts", spec := "objectSorts", inPlace := ["internal/bytealg.abigen_runtime_cmpstring"], unfollowed := true, recurses := true, apart := false }
def ObjectSortsSaid : Prop := objectSortsRow.holds Try.pinned (OpenSpec.ofChange objectSortsSpec)

/-- ITS FALSE NEIGHBOUR: 'it returns false'. Refute it at one input. -/
def objectSortsWrong : ChangeSpec := { name := "objectSorts", fn := fun _ => fun
  | [d1, d2, d3, d4] => { results := [.lit (.bool false)], args := [d1, d2, d3, d4] }
  | _ => none }
def ObjectSortsWrongFalsely : Prop := objectSortsRow.holds Try.pinned (OpenSpec.ofChange objectSortsWrong)

/-- 'spencelaw16.ObjectEncodes': WHATEVER THE INPUT: true; the input reads as it did. -/
def objectEncodesSpec : ChangeSpec := { name := "objectEncodes", fn := fun _ => fun
  | [d1, d2] => { results := [.lit (.bool true)], args := [d1, d2] }
  | _ => none }
def objectEncodesRow : OpenClaim := { program := "ytbjdiepceokmkaa", sum := "1ad37a0e86dfb16a68956db96dcbc682b76deee4d8fd1363d85c8143c31983aa", func := "spence/spencelaw16.ObjectEncodes", spec := "objectEncodes", unfollowed := true, recurses := true, apart := false }
def ObjectEncodesSaid : Prop := objectEncodesRow.holds Try.pinned (OpenSpec.ofChange objectEncodesSpec)

/-- ITS FALSE NEIGHBOUR: 'it returns false'. Refute it at one input. -/
def objectEncodesWrong : ChangeSpec := { name := "objectEncodes", fn := fun _ => fun
  | [d1, d2] => { results := [.lit (.bool false)], args := [d1, d2] }
  | _ => none }
def ObjectEncodesWrongFalsely : Prop := objectEncodesRow.holds Try.pinned (OpenSpec.ofChange objectEncodesWrong)

/- THE SECOND FORM. 'bulk': how many values and letters a reading holds, each counted each time it is reached (what is shared counts as often as it is met; a slice's spare places count too). A statement '..UptoSaid' is the law's where the arguments, and the package variables that the reading takes, are together of bulk at most 1048576: NARROWER than '..Said'. Prove '..Said' where nothing that the law and all that it calls make is longer than what came in: it says more and counts as full. Else prove '..UptoSaid'. A law counts once. -/
mutual
def uptoBulk {H : Type} : DataW H → Nat
  | .lit (.string bytes) => bytes.length + 1
  | .lit _ => 1
  | .nil => 1
  | .ptr d => uptoBulk d + 1
  | .slice elems spare => uptoBulkAll elems + uptoBulkAll spare + 1
  | .agg parts => uptoBulkAll parts + 1
  | .iface _ d => uptoBulk d + 1
  | .map entries => uptoBulkEntries entries + 1
  | .held _ => 1
def uptoBulkAll {H : Type} : List (DataW H) → Nat
  | [] => 0
  | d :: r => uptoBulk d + uptoBulkAll r
def uptoBulkEntries {H : Type} : List (Lit × DataW H) → Nat
  | [] => 0
  | x :: r => uptoBulkEntry x + uptoBulkEntries r
def uptoBulkEntry {H : Type} : Lit × DataW H → Nat
  | (.string bytes, d) => bytes.length + uptoBulk d + 1
  | (_, d) => uptoBulk d + 1
 end
def uptoSmall : (H : Type) → List (DataW H) → Bool := fun _ ds => decide (uptoBulkAll ds ≤ 1048576)
def OpenSpec.upto (s : _root_.Go.ChangeSpec) : _root_.Go.OpenSpec := { _root_.Go.OpenSpec.ofChange s with cond := some uptoSmall }

/-- 'spencelaw17.LegacyTurns', WHERE WHAT IT READS IS OF BULK AT MOST 1048576: true; the input reads as it did. -/
def legacyTurnsUptoRow : OpenClaim := { program := "ytbjdiepceokmkaa", sum := "1ad37a0e86dfb16a68956db96dcbc682b76deee4d8fd1363d85c8143c31983aa", func := "spence/spencelaw17.LegacyTurns", spec := "legacyTurns", unfollowed := true, recurses := true, apart := false, narrowed := true }
def LegacyTurnsUptoSaid : Prop := legacyTurnsUptoRow.holds Try.pinned (OpenSpec.upto legacyTurnsSpec)

/-- 'spencelaw15.SiblingGreat', WHERE WHAT IT READS IS OF BULK AT MOST 1048576: true; the input reads as it did. -/
def siblingGreatUptoRow : OpenClaim := { program := "ytbjdiepceokmkaa", sum := "1ad37a0e86dfb16a68956db96dcbc682b76deee4d8fd1363d85c8143c31983aa", func := "spence/spencelaw15.SiblingGreat", spec := "siblingGreat", unfollowed := true, recurses := true, apart := false, narrowed := true }
def SiblingGreatUptoSaid : Prop := siblingGreatUptoRow.holds Try.pinned (OpenSpec.upto siblingGreatSpec)

/-- 'spencelaw15.SiblingEncodes', WHERE WHAT IT READS IS OF BULK AT MOST 1048576: true; the input reads as it did. -/
def siblingEncodesUptoRow : OpenClaim := { program := "ytbjdiepceokmkaa", sum := "1ad37a0e86dfb16a68956db96dcbc682b76deee4d8fd1363d85c8143c31983aa", func := "spence/spencelaw15.SiblingEncodes", spec := "siblingEncodes", unfollowed := true, recurses := true, apart := false, narrowed := true }
def SiblingEncodesUptoSaid : Prop := siblingEncodesUptoRow.holds Try.pinned (OpenSpec.upto siblingEncodesSpec)

/-- 'spencelaw16.ObjectSorts', WHERE WHAT IT READS IS OF BULK AT MOST 1048576: true; the input reads as it did. -/
def objectSortsUptoRow : OpenClaim := { program := "ytbjdiepceokmkaa", sum := "1ad37a0e86dfb16a68956db96dcbc682b76deee4d8fd1363d85c8143c31983aa", func := "spence/spencelaw16.ObjectSorts", spec := "objectSorts", inPlace := ["internal/bytealg.abigen_runtime_cmpstring"], unfollowed := true, recurses := true, apart := false, narrowed := true }
def ObjectSortsUptoSaid : Prop := objectSortsUptoRow.holds Try.pinned (OpenSpec.upto objectSortsSpec)

/-- 'spencelaw16.ObjectEncodes', WHERE WHAT IT READS IS OF BULK AT MOST 1048576: true; the input reads as it did. -/
def objectEncodesUptoRow : OpenClaim := { program := "ytbjdiepceokmkaa", sum := "1ad37a0e86dfb16a68956db96dcbc682b76deee4d8fd1363d85c8143c31983aa", func := "spence/spencelaw16.ObjectEncodes", spec := "objectEncodes", unfollowed := true, recurses := true, apart := false, narrowed := true }
def ObjectEncodesUptoSaid : Prop := objectEncodesUptoRow.holds Try.pinned (OpenSpec.upto objectEncodesSpec)

end Rows
end Go.Proofs.Ytbjdiepceokmkaa
