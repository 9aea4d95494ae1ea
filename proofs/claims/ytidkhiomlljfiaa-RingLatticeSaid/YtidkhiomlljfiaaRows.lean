/-
  No cell of these rows narrows 'for every input' (looked for: loops, veiled, ifaces, maps, wideKeys, modest, calm, conditions, laid).
  DERIVED. THE GIVEN ROWS OF THIS SEAT. 6 by the template 'for every input the law returns true; each argument reads behind the call as it read before'; 0 by the template 'total and deterministic' (their statements: YtidkhiomlljfiaaTotals.lean).
  GIVEN WITH THE SEED: the statements are not yours to turn. If you find one false, say at which input.
  Laid BY PROGRAM, IN A SANDBOX (cutbox-rows.mjs): the forced cells as the released guide's own fill.sh prints them over the translation 44afc9b4b5ab6794… (all of the seat's roots in one cut). By AI agents, Wed Nov 11 2026. No macro, syntax, notation, axiom, sorry.
-/
import Derived.Test.YtidkhiomlljfiaaChecked
import GoSem.Claim
import GoSem.ClaimJoined
import GoSem.ClaimMapViews
import Derived.JoinedTies
import Derived.KernelRfl
namespace Go.Proofs.Ytidkhiomlljfiaa
/- THE CELL 'sum', in the pinned program and in every row, IS THE sha256 OF THE DUMP (.gsa) THAT YtidkhiomlljfiaaProg.lean LOADS. Nothing in Lean hashes anything: it is a label: what it is worth is what the hold of that sum in a sandbox is worth. -/
noncomputable def Try.pinned : Pinned := { name := "ytidkhiomlljfiaa", sum := "44afc9b4b5ab6794c7ab9a87c56f3f6f6edb3ee6ffe541cafe74c1f18a8a7fa4", checked := Try.checked }
namespace Rows
def none {H : Type} : Left H := { results := [], args := [] }

/-- 'spencelaw22.RingLattice': WHATEVER THE INPUT: true; the input reads as it did. -/
def ringLatticeSpec : ChangeSpec := { name := "ringLattice", fn := fun _ => fun
  | [d1, d2, d3] => { results := [.lit (.bool true)], args := [d1, d2, d3] }
  | _ => none }
def ringLatticeRow : OpenClaim := { program := "ytidkhiomlljfiaa", sum := "44afc9b4b5ab6794c7ab9a87c56f3f6f6edb3ee6ffe541cafe74c1f18a8a7fa4", func := "spence/spencelaw22.RingLattice", spec := "ringLattice", unfollowed := true, recurses := true, apart := false }
def RingLatticeSaid : Prop := ringLatticeRow.holds Try.pinned (OpenSpec.ofChange ringLatticeSpec)

/-- ITS FALSE NEIGHBOUR: 'it returns false'. Refute it at one input. -/
def ringLatticeWrong : ChangeSpec := { name := "ringLattice", fn := fun _ => fun
  | [d1, d2, d3] => { results := [.lit (.bool false)], args := [d1, d2, d3] }
  | _ => none }
def RingLatticeWrongFalsely : Prop := ringLatticeRow.holds Try.pinned (OpenSpec.ofChange ringLatticeWrong)

/-- 'spencelaw22.RingCuts': WHATEVER THE INPUT: true; the input reads as it did. -/
def ringCutsSpec : ChangeSpec := { name := "ringCuts", fn := fun _ => fun
  | [d1, d2] => { results := [.lit (.bool true)], args := [d1, d2] }
  | _ => none }
def ringCutsRow : OpenClaim := { program := "ytidkhiomlljfiaa", sum := "44afc9b4b5ab6794c7ab9a87c56f3f6f6edb3ee6ffe541cafe74c1f18a8a7fa4", func := "spence/spencelaw22.RingCuts", spec := "ringCuts", unfollowed := true, recurses := true, apart := false }
def RingCutsSaid : Prop := ringCutsRow.holds Try.pinned (OpenSpec.ofChange ringCutsSpec)

/-- ITS FALSE NEIGHBOUR: 'it returns false'. Refute it at one input. -/
def ringCutsWrong : ChangeSpec := { name := "ringCuts", fn := fun _ => fun
  | [d1, d2] => { results := [.lit (.bool false)], args := [d1, d2] }
  | _ => none }
def RingCutsWrongFalsely : Prop := ringCutsRow.holds Try.pinned (OpenSpec.ofChange ringCutsWrong)

/-- 'spencelaw22.RingDecodes': WHATEVER THE INPUT: true; the input reads as it did. -/
def ringDecodesSpec : ChangeSpec := { name := "ringDecodes", fn := fun _ => fun
  | [d] => { results := [.lit (.bool true)], args := [d] }
  | _ => none }
def ringDecodesRow : OpenClaim := { program := "ytidkhiomlljfiaa", sum := "44afc9b4b5ab6794c7ab9a87c56f3f6f6edb3ee6ffe541cafe74c1f18a8a7fa4", func := "spence/spencelaw22.RingDecodes", spec := "ringDecodes", unfollowed := true, recurses := true, apart := false }
def RingDecodesSaid : Prop := ringDecodesRow.holds Try.pinned (OpenSpec.ofChange ringDecodesSpec)

/-- ITS FALSE NEIGHBOUR: 'it returns false'. Refute it at one input. -/
def ringDecodesWrong : ChangeSpec := { name := "ringDecodes", fn := fun _ => fun
  | [d] => { results := [.lit (.bool false)], args := [d] }
  | _ => none }
def RingDecodesWrongFalsely : Prop := ringDecodesRow.holds Try.pinned (OpenSpec.ofChange ringDecodesWrong)

/-- 'spencelaw22.RingEncodes': WHATEVER THE INPUT: true; the input reads as it did. -/
def ringEncodesSpec : ChangeSpec := { name := "ringEncodes", fn := fun _ => fun
  | [d1, d2] => { results := [.lit (.bool true)], args := [d1, d2] }
  | _ => none }
def ringEncodesRow : OpenClaim := { program := "ytidkhiomlljfiaa", sum := "44afc9b4b5ab6794c7ab9a87c56f3f6f6edb3ee6ffe541cafe74c1f18a8a7fa4", func := "spence/spencelaw22.RingEncodes", spec := "ringEncodes", unfollowed := true, recurses := true, apart := false }
def RingEncodesSaid : Prop := ringEncodesRow.holds Try.pinned (OpenSpec.ofChange ringEncodesSpec)

/-- ITS FALSE NEIGHBOUR: 'it returns false'. Refute it at one input. -/
def ringEncodesWrong : ChangeSpec := { name := "ringEncodes", fn := fun _ => fun
  | [d1, d2] => { results := [.lit (.bool false)], args := [d1, d2] }
  | _ => none }
def RingEncodesWrongFalsely : Prop := ringEncodesRow.holds Try.pinned (OpenSpec.ofChange ringEncodesWrong)

/-- 'spencelaw22.RingOwners': WHATEVER THE INPUT: true; the input reads as it did. -/
def ringOwnersSpec : ChangeSpec := { name := "ringOwners", fn := fun _ => fun
  | [d1, d2, d3] => { results := [.lit (.bool true)], args := [d1, d2, d3] }
  | _ => none }
def ringOwnersRow : OpenClaim := { program := "ytidkhiomlljfiaa", sum := "44afc9b4b5ab6794c7ab9a87c56f3f6f6edb3ee6ffe541cafe74c1f18a8a7fa4", func := "spence/spencelaw22.RingOwners", spec := "ringOwners", unfollowed := true, recurses := true, apart := false }
def RingOwnersSaid : Prop := ringOwnersRow.holds Try.pinned (OpenSpec.ofChange ringOwnersSpec)

/-- ITS FALSE NEIGHBOUR: 'it returns false'. Refute it at one input. -/
def ringOwnersWrong : ChangeSpec := { name := "ringOwners", fn := fun _ => fun
  | [d1, d2, d3] => { results := [.lit (.bool false)], args := [d1, d2, d3] }
  | _ => none }
def RingOwnersWrongFalsely : Prop := ringOwnersRow.holds Try.pinned (OpenSpec.ofChange ringOwnersWrong)

/-- 'spencelaw22.RingJoins': WHATEVER THE INPUT: true; the input reads as it did. -/
def ringJoinsSpec : ChangeSpec := { name := "ringJoins", fn := fun _ => fun
  | [d1, d2, d3, d4] => { results := [.lit (.bool true)], args := [d1, d2, d3, d4] }
  | _ => none }
def ringJoinsRow : OpenClaim := { program := "ytidkhiomlljfiaa", sum := "44afc9b4b5ab6794c7ab9a87c56f3f6f6edb3ee6ffe541cafe74c1f18a8a7fa4", func := "spence/spencelaw22.RingJoins", spec := "ringJoins", unfollowed := true, recurses := true, apart := false }
def RingJoinsSaid : Prop := ringJoinsRow.holds Try.pinned (OpenSpec.ofChange ringJoinsSpec)

/-- ITS FALSE NEIGHBOUR: 'it returns false'. Refute it at one input. -/
def ringJoinsWrong : ChangeSpec := { name := "ringJoins", fn := fun _ => fun
  | [d1, d2, d3, d4] => { results := [.lit (.bool false)], args := [d1, d2, d3, d4] }
  | _ => none }
def RingJoinsWrongFalsely : Prop := ringJoinsRow.holds Try.pinned (OpenSpec.ofChange ringJoinsWrong)

/- THE SECOND FORM. 'bulk': how many values and letters a reading holds, each counted each time it is reached (what is shared counts as often as it is met; a slice's spare places count too). A statement '..UptoSaid' is the law's where the arguments, and the package variables that the reading takes, are together of bulk at most 1048576: NARROWER than '..Said'. Prove '..Said' where nothing that the law and all that it calls make is longer than what came in: it says more and counts as full. Else prove '..UptoSaid'. A law counts once. -/
mutual
def uptoBulk {H : Type} : DataW H → Nat
  | .lit (.string bytes) => bytes.length + 1
  | .lit _ => 1
  | .nil => 1
  | .ptr d => uptoBulk d + 1
  | .slice elems spare => uptoBulkAll elems + uptoBulkAll spare + 1
  | .agg parts => uptoBulkAll parts + 1
  | .iface _ d => uptoBulk d + 1
  | .map entries => uptoBulkEntries entries + 1
  | .held _ => 1
def uptoBulkAll {H : Type} : List (DataW H) → Nat
  | [] => 0
  | d :: r => uptoBulk d + uptoBulkAll r
def uptoBulkEntries {H : Type} : List (Lit × DataW H) → Nat
  | [] => 0
  | x :: r => uptoBulkEntry x + uptoBulkEntries r
def uptoBulkEntry {H : Type} : Lit × DataW H → Nat
  | (.string bytes, d) => bytes.length + uptoBulk d + 1
  | (_, d) => uptoBulk d + 1
 end
def uptoSmall : (H : Type) → List (DataW H) → Bool := fun _ ds => decide (uptoBulkAll ds ≤ 1048576)
def OpenSpec.upto (s : _root_.Go.ChangeSpec) : _root_.Go.OpenSpec := { _root_.Go.OpenSpec.ofChange s with cond := some uptoSmall }

/-- 'spencelaw22.RingLattice', WHERE WHAT IT READS IS OF BULK AT MOST 1048576: true; the input reads as it did. -/
def ringLatticeUptoRow : OpenClaim := { program := "ytidkhiomlljfiaa", sum := "44afc9b4b5ab6794c7ab9a87c56f3f6f6edb3ee6ffe541cafe74c1f18a8a7fa4", func := "spence/spencelaw22.RingLattice", spec := "ringLattice", unfollowed := true, recurses := true, apart := false, narrowed := true }
def RingLatticeUptoSaid : Prop := ringLatticeUptoRow.holds Try.pinned (OpenSpec.upto ringLatticeSpec)

/-- 'spencelaw22.RingCuts', WHERE WHAT IT READS IS OF BULK AT MOST 1048576: true; the input reads as it did. -/
def ringCutsUptoRow : OpenClaim := { program := "ytidkhiomlljfiaa", sum := "44afc9b4b5ab6794c7ab9a87c56f3f6f6edb3ee6ffe541cafe74c1f18a8a7fa4", func := "spence/spencelaw22.RingCuts", spec := "ringCuts", unfollowed := true, recurses := true, apart := false, narrowed := true }
def RingCutsUptoSaid : Prop := ringCutsUptoRow.holds Try.pinned (OpenSpec.upto ringCutsSpec)

/-- 'spencelaw22.RingDecodes', WHERE WHAT IT READS IS OF BULK AT MOST 1048576: true; the input reads as it did. -/
def ringDecodesUptoRow : OpenClaim := { program := "ytidkhiomlljfiaa", sum := "44afc9b4b5ab6794c7ab9a87c56f3f6f6edb3ee6ffe541cafe74c1f18a8a7fa4", func := "spence/spencelaw22.RingDecodes", spec := "ringDecodes", unfollowed := true, recurses := true, apart := false, narrowed := true }
def RingDecodesUptoSaid : Prop := ringDecodesUptoRow.holds Try.pinned (OpenSpec.upto ringDecodesSpec)

/-- 'spencelaw22.RingEncodes', WHERE WHAT IT READS IS OF BULK AT MOST 1048576: true; the input reads as it did. -/
def ringEncodesUptoRow : OpenClaim := { program := "ytidkhiomlljfiaa", sum := "44afc9b4b5ab6794c7ab9a87c56f3f6f6edb3ee6ffe541cafe74c1f18a8a7fa4", func := "spence/spencelaw22.RingEncodes", spec := "ringEncodes", unfollowed := true, recurses := true, apart := false, narrowed := true }
def RingEncodesUptoSaid : Prop := ringEncodesUptoRow.holds Try.pinned (OpenSpec.upto ringEncodesSpec)

/-- 'spencelaw22.RingOwners', WHERE WHAT IT READS IS OF BULK AT MOST 1048576: true; the input reads as it did. -/
def ringOwnersUptoRow : OpenClaim := { program := "ytidkhiomlljfiaa", sum := "44afc9b4b5ab6794c7ab9a87c56f3f6f6edb3ee6ffe541cafe74c1f18a8a7fa4", func := "spence/spencelaw22.RingOwners", spec := "ringOwners", unfollowed := true, recurses := true, apart := false, narrowed := true }
def RingOwnersUptoSaid : Prop := ringOwnersUptoRow.holds Try.pinned (OpenSpec.upto ringOwnersSpec)

/-- 'spencelaw22.RingJoins', WHERE WHAT IT READS IS OF BULK AT MOST 1048576: true; the input reads as it did. -/
def ringJoinsUptoRow : OpenClaim := { program := "ytidkhiomlljfiaa", sum := "44afc9b4b5ab6794c7ab9a87c56f3f6f6edb3ee6ffe541cafe74c1f18a8a7fa4", func := "spence/spencelaw22.RingJoins", spec := "ringJoins", unfollowed := true, recurses := true, apart := false, narrowed := true }
def RingJoinsUptoSaid : Prop := ringJoinsUptoRow.holds Try.pinned (OpenSpec.upto ringJoinsSpec)

end Rows
end Go.Proofs.Ytidkhiomlljfiaa
