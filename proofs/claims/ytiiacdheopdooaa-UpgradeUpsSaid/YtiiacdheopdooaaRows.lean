/-
  No cell of these rows narrows 'for every input' (looked for: loops, veiled, ifaces, maps, wideKeys, modest, calm, conditions, laid).
  DERIVED. THE GIVEN ROWS OF THIS SEAT. 31 by the template 'for every input the law returns true; each argument reads behind the call as it read before'; 0 by the template 'total and deterministic' (their statements: YtiiacdheopdooaaTotals.lean).
  GIVEN WITH THE SEED: the statements are not yours to turn. If you find one false, say at which input.
  Laid BY PROGRAM, IN A SANDBOX (cutbox-rows.mjs): the forced cells as the released guide's own fill.sh prints them over the translation 554f60367616e897… (all of the seat's roots in one cut). By AI agents, Wed Nov 11 2026. No macro, syntax, notation, axiom, sorry.
-/
import Derived.Test.YtiiacdheopdooaaChecked
import GoSem.Claim
import GoSem.ClaimJoined
import GoSem.ClaimMapViews
import Derived.JoinedTies
import Derived.KernelRfl
namespace Go.Proofs.Ytiiacdheopdooaa
/- THE CELL 'sum', in the pinned program and in every row, IS THE sha256 OF THE DUMP (.gsa) THAT YtiiacdheopdooaaProg.lean LOADS. Nothing in Lean hashes anything: it is a label: what it is worth is what the hold of that sum in a sandbox is worth. -/
noncomputable def Try.pinned : Pinned := { name := "ytiiacdheopdooaa", sum := "554f60367616e8974c5f1477c48a3d23b2c6c6e5ab3e534b1276c1eb6e8018b9", checked := Try.checked }
namespace Rows
def none {H : Type} : Left H := { results := [], args := [] }

/-- 'spencelaw06.BlobRises': WHATEVER THE INPUT: true; the input reads as it did. -/
def blobRisesSpec : ChangeSpec := { name := "blobRises", fn := fun _ => fun
  | [d1, d2] => { results := [.lit (.bool true)], args := [d1, d2] }
  | _ => none }
def blobRisesRow : OpenClaim := { program := "ytiiacdheopdooaa", sum := "554f60367616e8974c5f1477c48a3d23b2c6c6e5ab3e534b1276c1eb6e8018b9", func := "spence/spencelaw06.BlobRises", spec := "blobRises", apart := false }
def BlobRisesSaid : Prop := blobRisesRow.holds Try.pinned (OpenSpec.ofChange blobRisesSpec)

/-- ITS FALSE NEIGHBOUR: 'it returns false'. Refute it at one input. -/
def blobRisesWrong : ChangeSpec := { name := "blobRises", fn := fun _ => fun
  | [d1, d2] => { results := [.lit (.bool false)], args := [d1, d2] }
  | _ => none }
def BlobRisesWrongFalsely : Prop := blobRisesRow.holds Try.pinned (OpenSpec.ofChange blobRisesWrong)

/-- 'spencelaw06.BlobTakes': WHATEVER THE INPUT: true; the input reads as it did. -/
def blobTakesSpec : ChangeSpec := { name := "blobTakes", fn := fun _ => fun
  | [d1, d2] => { results := [.lit (.bool true)], args := [d1, d2] }
  | _ => none }
def blobTakesRow : OpenClaim := { program := "ytiiacdheopdooaa", sum := "554f60367616e8974c5f1477c48a3d23b2c6c6e5ab3e534b1276c1eb6e8018b9", func := "spence/spencelaw06.BlobTakes", spec := "blobTakes", unfollowed := true, recurses := true, apart := false }
def BlobTakesSaid : Prop := blobTakesRow.holds Try.pinned (OpenSpec.ofChange blobTakesSpec)

/-- ITS FALSE NEIGHBOUR: 'it returns false'. Refute it at one input. -/
def blobTakesWrong : ChangeSpec := { name := "blobTakes", fn := fun _ => fun
  | [d1, d2] => { results := [.lit (.bool false)], args := [d1, d2] }
  | _ => none }
def BlobTakesWrongFalsely : Prop := blobTakesRow.holds Try.pinned (OpenSpec.ofChange blobTakesWrong)

/-- 'spencelaw06.BlobPuts': WHATEVER THE INPUT: true; the input reads as it did. -/
def blobPutsSpec : ChangeSpec := { name := "blobPuts", fn := fun _ => fun
  | [d1, d2] => { results := [.lit (.bool true)], args := [d1, d2] }
  | _ => none }
def blobPutsRow : OpenClaim := { program := "ytiiacdheopdooaa", sum := "554f60367616e8974c5f1477c48a3d23b2c6c6e5ab3e534b1276c1eb6e8018b9", func := "spence/spencelaw06.BlobPuts", spec := "blobPuts", unfollowed := true, recurses := true, apart := false }
def BlobPutsSaid : Prop := blobPutsRow.holds Try.pinned (OpenSpec.ofChange blobPutsSpec)

/-- ITS FALSE NEIGHBOUR: 'it returns false'. Refute it at one input. -/
def blobPutsWrong : ChangeSpec := { name := "blobPuts", fn := fun _ => fun
  | [d1, d2] => { results := [.lit (.bool false)], args := [d1, d2] }
  | _ => none }
def BlobPutsWrongFalsely : Prop := blobPutsRow.holds Try.pinned (OpenSpec.ofChange blobPutsWrong)

/-- 'spencelaw17.LegacyTurns': WHATEVER THE INPUT: true; the input reads as it did. -/
def legacyTurnsSpec : ChangeSpec := { name := "legacyTurns", fn := fun _ => fun
  | [d1, d2] => { results := [.lit (.bool true)], args := [d1, d2] }
  | _ => none }
def legacyTurnsRow : OpenClaim := { program := "ytiiacdheopdooaa", sum := "554f60367616e8974c5f1477c48a3d23b2c6c6e5ab3e534b1276c1eb6e8018b9", func := "spence/spencelaw17.LegacyTurns", spec := "legacyTurns", unfollowed := true, recurses := true, apart := false }
def LegacyTurnsSaid : Prop := legacyTurnsRow.holds Try.pinned (OpenSpec.ofChange legacyTurnsSpec)

/-- ITS FALSE NEIGHBOUR: 'it returns false'. Refute it at one input. -/
def legacyTurnsWrong : ChangeSpec := { name := "legacyTurns", fn := fun _ => fun
  | [d1, d2] => { results := [.lit (.bool false)], args := [d1, d2] }
  | _ => none }
def LegacyTurnsWrongFalsely : Prop := legacyTurnsRow.holds Try.pinned (OpenSpec.ofChange legacyTurnsWrong)

/-- 'spencelaw11.VcodeTakes': WHATEVER THE INPUT: true; the input reads as it did. -/
def vcodeTakesSpec : ChangeSpec := { name := "vcodeTakes", fn := fun _ => fun
  | [d1, d2, d3] => { results := [.lit (.bool true)], args := [d1, d2, d3] }
  | _ => none }
def vcodeTakesRow : OpenClaim := { program := "ytiiacdheopdooaa", sum := "554f60367616e8974c5f1477c48a3d23b2c6c6e5ab3e534b1276c1eb6e8018b9", func := "spence/spencelaw11.VcodeTakes", spec := "vcodeTakes", unfollowed := true, recurses := true, apart := false }
def VcodeTakesSaid : Prop := vcodeTakesRow.holds Try.pinned (OpenSpec.ofChange vcodeTakesSpec)

/-- ITS FALSE NEIGHBOUR: 'it returns false'. Refute it at one input. -/
def vcodeTakesWrong : ChangeSpec := { name := "vcodeTakes", fn := fun _ => fun
  | [d1, d2, d3] => { results := [.lit (.bool false)], args := [d1, d2, d3] }
  | _ => none }
def VcodeTakesWrongFalsely : Prop := vcodeTakesRow.holds Try.pinned (OpenSpec.ofChange vcodeTakesWrong)

/-- 'spencelaw11.VcodeEncodes': WHATEVER THE INPUT: true; the input reads as it did. -/
def vcodeEncodesSpec : ChangeSpec := { name := "vcodeEncodes", fn := fun _ => fun
  | [d] => { results := [.lit (.bool true)], args := [d] }
  | _ => none }
def vcodeEncodesRow : OpenClaim := { program := "ytiiacdheopdooaa", sum := "554f60367616e8974c5f1477c48a3d23b2c6c6e5ab3e534b1276c1eb6e8018b9", func := "spence/spencelaw11.VcodeEncodes", spec := "vcodeEncodes", unfollowed := true, recurses := true, apart := false }
def VcodeEncodesSaid : Prop := vcodeEncodesRow.holds Try.pinned (OpenSpec.ofChange vcodeEncodesSpec)

/-- ITS FALSE NEIGHBOUR: 'it returns false'. Refute it at one input. -/
def vcodeEncodesWrong : ChangeSpec := { name := "vcodeEncodes", fn := fun _ => fun
  | [d] => { results := [.lit (.bool false)], args := [d] }
  | _ => none }
def VcodeEncodesWrongFalsely : Prop := vcodeEncodesRow.holds Try.pinned (OpenSpec.ofChange vcodeEncodesWrong)

/-- 'spencelaw11.VcodeDecodes': WHATEVER THE INPUT: true; the input reads as it did. -/
def vcodeDecodesSpec : ChangeSpec := { name := "vcodeDecodes", fn := fun _ => fun
  | [d] => { results := [.lit (.bool true)], args := [d] }
  | _ => none }
def vcodeDecodesRow : OpenClaim := { program := "ytiiacdheopdooaa", sum := "554f60367616e8974c5f1477c48a3d23b2c6c6e5ab3e534b1276c1eb6e8018b9", func := "spence/spencelaw11.VcodeDecodes", spec := "vcodeDecodes", unfollowed := true, recurses := true, apart := false }
def VcodeDecodesSaid : Prop := vcodeDecodesRow.holds Try.pinned (OpenSpec.ofChange vcodeDecodesSpec)

/-- ITS FALSE NEIGHBOUR: 'it returns false'. Refute it at one input. -/
def vcodeDecodesWrong : ChangeSpec := { name := "vcodeDecodes", fn := fun _ => fun
  | [d] => { results := [.lit (.bool false)], args := [d] }
  | _ => none }
def VcodeDecodesWrongFalsely : Prop := vcodeDecodesRow.holds Try.pinned (OpenSpec.ofChange vcodeDecodesWrong)

/-- 'spencelaw11.VcodeCuts': WHATEVER THE INPUT: true; the input reads as it did. -/
def vcodeCutsSpec : ChangeSpec := { name := "vcodeCuts", fn := fun _ => fun
  | [d1, d2] => { results := [.lit (.bool true)], args := [d1, d2] }
  | _ => none }
def vcodeCutsRow : OpenClaim := { program := "ytiiacdheopdooaa", sum := "554f60367616e8974c5f1477c48a3d23b2c6c6e5ab3e534b1276c1eb6e8018b9", func := "spence/spencelaw11.VcodeCuts", spec := "vcodeCuts", unfollowed := true, recurses := true, apart := false }
def VcodeCutsSaid : Prop := vcodeCutsRow.holds Try.pinned (OpenSpec.ofChange vcodeCutsSpec)

/-- ITS FALSE NEIGHBOUR: 'it returns false'. Refute it at one input. -/
def vcodeCutsWrong : ChangeSpec := { name := "vcodeCuts", fn := fun _ => fun
  | [d1, d2] => { results := [.lit (.bool false)], args := [d1, d2] }
  | _ => none }
def VcodeCutsWrongFalsely : Prop := vcodeCutsRow.holds Try.pinned (OpenSpec.ofChange vcodeCutsWrong)

/-- 'spencelaw22.RingLattice': WHATEVER THE INPUT: true; the input reads as it did. -/
def ringLatticeSpec : ChangeSpec := { name := "ringLattice", fn := fun _ => fun
  | [d1, d2, d3] => { results := [.lit (.bool true)], args := [d1, d2, d3] }
  | _ => none }
def ringLatticeRow : OpenClaim := { program := "ytiiacdheopdooaa", sum := "554f60367616e8974c5f1477c48a3d23b2c6c6e5ab3e534b1276c1eb6e8018b9", func := "spence/spencelaw22.RingLattice", spec := "ringLattice", unfollowed := true, recurses := true, apart := false }
def RingLatticeSaid : Prop := ringLatticeRow.holds Try.pinned (OpenSpec.ofChange ringLatticeSpec)

/-- ITS FALSE NEIGHBOUR: 'it returns false'. Refute it at one input. -/
def ringLatticeWrong : ChangeSpec := { name := "ringLattice", fn := fun _ => fun
  | [d1, d2, d3] => { results := [.lit (.bool false)], args := [d1, d2, d3] }
  | _ => none }
def RingLatticeWrongFalsely : Prop := ringLatticeRow.holds Try.pinned (OpenSpec.ofChange ringLatticeWrong)

/-- 'spencelaw22.RingCuts': WHATEVER THE INPUT: true; the input reads as it did. -/
def ringCutsSpec : ChangeSpec := { name := "ringCuts", fn := fun _ => fun
  | [d1, d2] => { results := [.lit (.bool true)], args := [d1, d2] }
  | _ => none }
def ringCutsRow : OpenClaim := { program := "ytiiacdheopdooaa", sum := "554f60367616e8974c5f1477c48a3d23b2c6c6e5ab3e534b1276c1eb6e8018b9", func := "spence/spencelaw22.RingCuts", spec := "ringCuts", unfollowed := true, recurses := true, apart := false }
def RingCutsSaid : Prop := ringCutsRow.holds Try.pinned (OpenSpec.ofChange ringCutsSpec)

/-- ITS FALSE NEIGHBOUR: 'it returns false'. Refute it at one input. -/
def ringCutsWrong : ChangeSpec := { name := "ringCuts", fn := fun _ => fun
  | [d1, d2] => { results := [.lit (.bool false)], args := [d1, d2] }
  | _ => none }
def RingCutsWrongFalsely : Prop := ringCutsRow.holds Try.pinned (OpenSpec.ofChange ringCutsWrong)

/-- 'spencelaw22.RingDecodes': WHATEVER THE INPUT: true; the input reads as it did. -/
def ringDecodesSpec : ChangeSpec := { name := "ringDecodes", fn := fun _ => fun
  | [d] => { results := [.lit (.bool true)], args := [d] }
  | _ => none }
def ringDecodesRow : OpenClaim := { program := "ytiiacdheopdooaa", sum := "554f60367616e8974c5f1477c48a3d23b2c6c6e5ab3e534b1276c1eb6e8018b9", func := "spence/spencelaw22.RingDecodes", spec := "ringDecodes", unfollowed := true, recurses := true, apart := false }
def RingDecodesSaid : Prop := ringDecodesRow.holds Try.pinned (OpenSpec.ofChange ringDecodesSpec)

/-- ITS FALSE NEIGHBOUR: 'it returns false'. Refute it at one input. -/
def ringDecodesWrong : ChangeSpec := { name := "ringDecodes", fn := fun _ => fun
  | [d] => { results := [.lit (.bool false)], args := [d] }
  | _ => none }
def RingDecodesWrongFalsely : Prop := ringDecodesRow.holds Try.pinned (OpenSpec.ofChange ringDecodesWrong)

/-- 'spencelaw13.DcodeTakes': WHATEVER THE INPUT: true; the input reads as it did. -/
def dcodeTakesSpec : ChangeSpec := { name := "dcodeTakes", fn := fun _ => fun
  | [d1, d2, d3] => { results := [.lit (.bool true)], args := [d1, d2, d3] }
  | _ => none }
def dcodeTakesRow : OpenClaim := { program := "ytiiacdheopdooaa", sum := "554f60367616e8974c5f1477c48a3d23b2c6c6e5ab3e534b1276c1eb6e8018b9", func := "spence/spencelaw13.DcodeTakes", spec := "dcodeTakes", unfollowed := true, recurses := true, apart := false }
def DcodeTakesSaid : Prop := dcodeTakesRow.holds Try.pinned (OpenSpec.ofChange dcodeTakesSpec)

/-- ITS FALSE NEIGHBOUR: 'it returns false'. Refute it at one input. -/
def dcodeTakesWrong : ChangeSpec := { name := "dcodeTakes", fn := fun _ => fun
  | [d1, d2, d3] => { results := [.lit (.bool false)], args := [d1, d2, d3] }
  | _ => none }
def DcodeTakesWrongFalsely : Prop := dcodeTakesRow.holds Try.pinned (OpenSpec.ofChange dcodeTakesWrong)

/-- 'spencelaw13.DcodeDecodes': WHATEVER THE INPUT: true; the input reads as it did. -/
def dcodeDecodesSpec : ChangeSpec := { name := "dcodeDecodes", fn := fun _ => fun
  | [d] => { results := [.lit (.bool true)], args := [d] }
  | _ => none }
def dcodeDecodesRow : OpenClaim := { program := "ytiiacdheopdooaa", sum := "554f60367616e8974c5f1477c48a3d23b2c6c6e5ab3e534b1276c1eb6e8018b9", func := "spence/spencelaw13.DcodeDecodes", spec := "dcodeDecodes", unfollowed := true, recurses := true, apart := false }
def DcodeDecodesSaid : Prop := dcodeDecodesRow.holds Try.pinned (OpenSpec.ofChange dcodeDecodesSpec)

/-- ITS FALSE NEIGHBOUR: 'it returns false'. Refute it at one input. -/
def dcodeDecodesWrong : ChangeSpec := { name := "dcodeDecodes", fn := fun _ => fun
  | [d] => { results := [.lit (.bool false)], args := [d] }
  | _ => none }
def DcodeDecodesWrongFalsely : Prop := dcodeDecodesRow.holds Try.pinned (OpenSpec.ofChange dcodeDecodesWrong)

/-- 'spencelaw13.DcodeCuts': WHATEVER THE INPUT: true; the input reads as it did. -/
def dcodeCutsSpec : ChangeSpec := { name := "dcodeCuts", fn := fun _ => fun
  | [d1, d2] => { results := [.lit (.bool true)], args := [d1, d2] }
  | _ => none }
def dcodeCutsRow : OpenClaim := { program := "ytiiacdheopdooaa", sum := "554f60367616e8974c5f1477c48a3d23b2c6c6e5ab3e534b1276c1eb6e8018b9", func := "spence/spencelaw13.DcodeCuts", spec := "dcodeCuts", unfollowed := true, recurses := true, apart := false }
def DcodeCutsSaid : Prop := dcodeCutsRow.holds Try.pinned (OpenSpec.ofChange dcodeCutsSpec)

/-- ITS FALSE NEIGHBOUR: 'it returns false'. Refute it at one input. -/
def dcodeCutsWrong : ChangeSpec := { name := "dcodeCuts", fn := fun _ => fun
  | [d1, d2] => { results := [.lit (.bool false)], args := [d1, d2] }
  | _ => none }
def DcodeCutsWrongFalsely : Prop := dcodeCutsRow.holds Try.pinned (OpenSpec.ofChange dcodeCutsWrong)

/-- 'spencelaw17.LegacyDecodes': WHATEVER THE INPUT: true; the input reads as it did. -/
def legacyDecodesSpec : ChangeSpec := { name := "legacyDecodes", fn := fun _ => fun
  | [d] => { results := [.lit (.bool true)], args := [d] }
  | _ => none }
def legacyDecodesRow : OpenClaim := { program := "ytiiacdheopdooaa", sum := "554f60367616e8974c5f1477c48a3d23b2c6c6e5ab3e534b1276c1eb6e8018b9", func := "spence/spencelaw17.LegacyDecodes", spec := "legacyDecodes", unfollowed := true, recurses := true, apart := false }
def LegacyDecodesSaid : Prop := legacyDecodesRow.holds Try.pinned (OpenSpec.ofChange legacyDecodesSpec)

/-- ITS FALSE NEIGHBOUR: 'it returns false'. Refute it at one input. -/
def legacyDecodesWrong : ChangeSpec := { name := "legacyDecodes", fn := fun _ => fun
  | [d] => { results := [.lit (.bool false)], args := [d] }
  | _ => none }
def LegacyDecodesWrongFalsely : Prop := legacyDecodesRow.holds Try.pinned (OpenSpec.ofChange legacyDecodesWrong)

/-- 'spencelaw17.LegacyCuts': WHATEVER THE INPUT: true; the input reads as it did. -/
def legacyCutsSpec : ChangeSpec := { name := "legacyCuts", fn := fun _ => fun
  | [d1, d2] => { results := [.lit (.bool true)], args := [d1, d2] }
  | _ => none }
def legacyCutsRow : OpenClaim := { program := "ytiiacdheopdooaa", sum := "554f60367616e8974c5f1477c48a3d23b2c6c6e5ab3e534b1276c1eb6e8018b9", func := "spence/spencelaw17.LegacyCuts", spec := "legacyCuts", unfollowed := true, recurses := true, apart := false }
def LegacyCutsSaid : Prop := legacyCutsRow.holds Try.pinned (OpenSpec.ofChange legacyCutsSpec)

/-- ITS FALSE NEIGHBOUR: 'it returns false'. Refute it at one input. -/
def legacyCutsWrong : ChangeSpec := { name := "legacyCuts", fn := fun _ => fun
  | [d1, d2] => { results := [.lit (.bool false)], args := [d1, d2] }
  | _ => none }
def LegacyCutsWrongFalsely : Prop := legacyCutsRow.holds Try.pinned (OpenSpec.ofChange legacyCutsWrong)

/-- 'spencelaw13.DcodeEncodes': WHATEVER THE INPUT: true; the input reads as it did. -/
def dcodeEncodesSpec : ChangeSpec := { name := "dcodeEncodes", fn := fun _ => fun
  | [d1, d2] => { results := [.lit (.bool true)], args := [d1, d2] }
  | _ => none }
def dcodeEncodesRow : OpenClaim := { program := "ytiiacdheopdooaa", sum := "554f60367616e8974c5f1477c48a3d23b2c6c6e5ab3e534b1276c1eb6e8018b9", func := "spence/spencelaw13.DcodeEncodes", spec := "dcodeEncodes", unfollowed := true, recurses := true, apart := false }
def DcodeEncodesSaid : Prop := dcodeEncodesRow.holds Try.pinned (OpenSpec.ofChange dcodeEncodesSpec)

/-- ITS FALSE NEIGHBOUR: 'it returns false'. Refute it at one input. -/
def dcodeEncodesWrong : ChangeSpec := { name := "dcodeEncodes", fn := fun _ => fun
  | [d1, d2] => { results := [.lit (.bool false)], args := [d1, d2] }
  | _ => none }
def DcodeEncodesWrongFalsely : Prop := dcodeEncodesRow.holds Try.pinned (OpenSpec.ofChange dcodeEncodesWrong)

/-- 'spencelaw22.RingEncodes': WHATEVER THE INPUT: true; the input reads as it did. -/
def ringEncodesSpec : ChangeSpec := { name := "ringEncodes", fn := fun _ => fun
  | [d1, d2] => { results := [.lit (.bool true)], args := [d1, d2] }
  | _ => none }
def ringEncodesRow : OpenClaim := { program := "ytiiacdheopdooaa", sum := "554f60367616e8974c5f1477c48a3d23b2c6c6e5ab3e534b1276c1eb6e8018b9", func := "spence/spencelaw22.RingEncodes", spec := "ringEncodes", unfollowed := true, recurses := true, apart := false }
def RingEncodesSaid : Prop := ringEncodesRow.holds Try.pinned (OpenSpec.ofChange ringEncodesSpec)

/-- ITS FALSE NEIGHBOUR: 'it returns false'. Refute it at one input. -/
def ringEncodesWrong : ChangeSpec := { name := "ringEncodes", fn := fun _ => fun
  | [d1, d2] => { results := [.lit (.bool false)], args := [d1, d2] }
  | _ => none }
def RingEncodesWrongFalsely : Prop := ringEncodesRow.holds Try.pinned (OpenSpec.ofChange ringEncodesWrong)

/-- 'spencelaw17.LegacyEncodes': WHATEVER THE INPUT: true; the input reads as it did. -/
def legacyEncodesSpec : ChangeSpec := { name := "legacyEncodes", fn := fun _ => fun
  | [d1, d2] => { results := [.lit (.bool true)], args := [d1, d2] }
  | _ => none }
def legacyEncodesRow : OpenClaim := { program := "ytiiacdheopdooaa", sum := "554f60367616e8974c5f1477c48a3d23b2c6c6e5ab3e534b1276c1eb6e8018b9", func := "spence/spencelaw17.LegacyEncodes", spec := "legacyEncodes", unfollowed := true, recurses := true, apart := false }
def LegacyEncodesSaid : Prop := legacyEncodesRow.holds Try.pinned (OpenSpec.ofChange legacyEncodesSpec)

/-- ITS FALSE NEIGHBOUR: 'it returns false'. Refute it at one input. -/
def legacyEncodesWrong : ChangeSpec := { name := "legacyEncodes", fn := fun _ => fun
  | [d1, d2] => { results := [.lit (.bool false)], args := [d1, d2] }
  | _ => none }
def LegacyEncodesWrongFalsely : Prop := legacyEncodesRow.holds Try.pinned (OpenSpec.ofChange legacyEncodesWrong)

/-- 'spencelaw22.RingOwners': WHATEVER THE INPUT: true; the input reads as it did. -/
def ringOwnersSpec : ChangeSpec := { name := "ringOwners", fn := fun _ => fun
  | [d1, d2, d3] => { results := [.lit (.bool true)], args := [d1, d2, d3] }
  | _ => none }
def ringOwnersRow : OpenClaim := { program := "ytiiacdheopdooaa", sum := "554f60367616e8974c5f1477c48a3d23b2c6c6e5ab3e534b1276c1eb6e8018b9", func := "spence/spencelaw22.RingOwners", spec := "ringOwners", unfollowed := true, recurses := true, apart := false }
def RingOwnersSaid : Prop := ringOwnersRow.holds Try.pinned (OpenSpec.ofChange ringOwnersSpec)

/-- ITS FALSE NEIGHBOUR: 'it returns false'. Refute it at one input. -/
def ringOwnersWrong : ChangeSpec := { name := "ringOwners", fn := fun _ => fun
  | [d1, d2, d3] => { results := [.lit (.bool false)], args := [d1, d2, d3] }
  | _ => none }
def RingOwnersWrongFalsely : Prop := ringOwnersRow.holds Try.pinned (OpenSpec.ofChange ringOwnersWrong)

/-- 'spencelaw15.SiblingTakes': WHATEVER THE INPUT: true; the input reads as it did. -/
def siblingTakesSpec : ChangeSpec := { name := "siblingTakes", fn := fun _ => fun
  | [d1, d2, d3] => { results := [.lit (.bool true)], args := [d1, d2, d3] }
  | _ => none }
def siblingTakesRow : OpenClaim := { program := "ytiiacdheopdooaa", sum := "554f60367616e8974c5f1477c48a3d23b2c6c6e5ab3e534b1276c1eb6e8018b9", func := "spence/spencelaw15.SiblingTakes", spec := "siblingTakes", unfollowed := true, recurses := true, apart := false }
def SiblingTakesSaid : Prop := siblingTakesRow.holds Try.pinned (OpenSpec.ofChange siblingTakesSpec)

/-- ITS FALSE NEIGHBOUR: 'it returns false'. Refute it at one input. -/
def siblingTakesWrong : ChangeSpec := { name := "siblingTakes", fn := fun _ => fun
  | [d1, d2, d3] => { results := [.lit (.bool false)], args := [d1, d2, d3] }
  | _ => none }
def SiblingTakesWrongFalsely : Prop := siblingTakesRow.holds Try.pinned (OpenSpec.ofChange siblingTakesWrong)

/-- 'spencelaw15.SiblingDecodes': WHATEVER THE INPUT: true; the input reads as it did. -/
def siblingDecodesSpec : ChangeSpec := { name := "siblingDecodes", fn := fun _ => fun
  | [d] => { results := [.lit (.bool true)], args := [d] }
  | _ => none }
def siblingDecodesRow : OpenClaim := { program := "ytiiacdheopdooaa", sum := "554f60367616e8974c5f1477c48a3d23b2c6c6e5ab3e534b1276c1eb6e8018b9", func := "spence/spencelaw15.SiblingDecodes", spec := "siblingDecodes", unfollowed := true, recurses := true, apart := false }
def SiblingDecodesSaid : Prop := siblingDecodesRow.holds Try.pinned (OpenSpec.ofChange siblingDecodesSpec)

/-- ITS FALSE NEIGHBOUR: 'it returns false'. Refute it at one input. -/
def siblingDecodesWrong : ChangeSpec := { name := "siblingDecodes", fn := fun _ => fun
  | [d] => { results := [.lit (.bool false)], args := [d] }
  | _ => none }
def SiblingDecodesWrongFalsely : Prop := siblingDecodesRow.holds Try.pinned (OpenSpec.ofChange siblingDecodesWrong)

/-- 'spencelaw15.SiblingGreat': WHATEVER THE INPUT: true; the input reads as it did. -/
def siblingGreatSpec : ChangeSpec := { name := "siblingGreat", fn := fun _ => fun
  | [d1, d2, d3] => { results := [.lit (.bool true)], args := [d1, d2, d3] }
  | _ => none }
def siblingGreatRow : OpenClaim := { program := "ytiiacdheopdooaa", sum := "554f60367616e8974c5f1477c48a3d23b2c6c6e5ab3e534b1276c1eb6e8018b9", func := "spence/spencelaw15.SiblingGreat", spec := "siblingGreat", unfollowed := true, recurses := true, apart := false }
def SiblingGreatSaid : Prop := siblingGreatRow.holds Try.pinned (OpenSpec.ofChange siblingGreatSpec)

/-- ITS FALSE NEIGHBOUR: 'it returns false'. Refute it at one input. -/
def siblingGreatWrong : ChangeSpec := { name := "siblingGreat", fn := fun _ => fun
  | [d1, d2, d3] => { results := [.lit (.bool false)], args := [d1, d2, d3] }
  | _ => none }
def SiblingGreatWrongFalsely : Prop := siblingGreatRow.holds Try.pinned (OpenSpec.ofChange siblingGreatWrong)

/-- 'spencelaw15.SiblingCuts': WHATEVER THE INPUT: true; the input reads as it did. -/
def siblingCutsSpec : ChangeSpec := { name := "siblingCuts", fn := fun _ => fun
  | [d1, d2] => { results := [.lit (.bool true)], args := [d1, d2] }
  | _ => none }
def siblingCutsRow : OpenClaim := { program := "ytiiacdheopdooaa", sum := "554f60367616e8974c5f1477c48a3d23b2c6c6e5ab3e534b1276c1eb6e8018b9", func := "spence/spencelaw15.SiblingCuts", spec := "siblingCuts", unfollowed := true, recurses := true, apart := false }
def SiblingCutsSaid : Prop := siblingCutsRow.holds Try.pinned (OpenSpec.ofChange siblingCutsSpec)

/-- ITS FALSE NEIGHBOUR: 'it returns false'. Refute it at one input. -/
def siblingCutsWrong : ChangeSpec := { name := "siblingCuts", fn := fun _ => fun
  | [d1, d2] => { results := [.lit (.bool false)], args := [d1, d2] }
  | _ => none }
def SiblingCutsWrongFalsely : Prop := siblingCutsRow.holds Try.pinned (OpenSpec.ofChange siblingCutsWrong)

/-- 'spencelaw22.RingJoins': WHATEVER THE INPUT: true; the input reads as it did. -/
def ringJoinsSpec : ChangeSpec := { name := "ringJoins", fn := fun _ => fun
  | [d1, d2, d3, d4] => { results := [.lit (.bool true)], args := [d1, d2, d3, d4] }
  | _ => none }
def ringJoinsRow : OpenClaim := { program := "ytiiacdheopdooaa", sum := "554f60367616e8974c5f1477c48a3d23b2c6c6e5ab3e534b1276c1eb6e8018b9", func := "spence/spencelaw22.RingJoins", spec := "ringJoins", unfollowed := true, recurses := true, apart := false }
def RingJoinsSaid : Prop := ringJoinsRow.holds Try.pinned (OpenSpec.ofChange ringJoinsSpec)

/-- ITS FALSE NEIGHBOUR: 'it returns false'. Refute it at one input. -/
def ringJoinsWrong : ChangeSpec := { name := "ringJoins", fn := fun _ => fun
  | [d1, d2, d3, d4] => { results := [.lit (.bool false)], args := [d1, d2, d3, d4] }
  | _ => none }
def RingJoinsWrongFalsely : Prop := ringJoinsRow.holds Try.pinned (OpenSpec.ofChange ringJoinsWrong)

/-- 'spencelaw15.SiblingEncodes': WHATEVER THE INPUT: true; the input reads as it did. -/
def siblingEncodesSpec : ChangeSpec := { name := "siblingEncodes", fn := fun _ => fun
  | [d1, d2] => { results := [.lit (.bool true)], args := [d1, d2] }
  | _ => none }
def siblingEncodesRow : OpenClaim := { program := "ytiiacdheopdooaa", sum := "554f60367616e8974c5f1477c48a3d23b2c6c6e5ab3e534b1276c1eb6e8018b9", func := "spence/spencelaw15.SiblingEncodes", spec := "siblingEncodes", unfollowed := true, recurses := true, apart := false }
def SiblingEncodesSaid : Prop := siblingEncodesRow.holds Try.pinned (OpenSpec.ofChange siblingEncodesSpec)

/-- ITS FALSE NEIGHBOUR: 'it returns false'. Refute it at one input. -/
def siblingEncodesWrong : ChangeSpec := { name := "siblingEncodes", fn := fun _ => fun
  | [d1, d2] => { results := [.lit (.bool false)], args := [d1, d2] }
  | _ => none }
def SiblingEncodesWrongFalsely : Prop := siblingEncodesRow.holds Try.pinned (OpenSpec.ofChange siblingEncodesWrong)

/-- 'spencelaw16.ObjectSorts': WHATEVER THE INPUT: true; the input reads as it did. -/
def objectSortsSpec : ChangeSpec := { name := "objectSorts", fn := fun _ => fun
  | [d1, d2, d3, d4] => { results := [.lit (.bool true)], args := [d1, d2, d3, d4] }
  | _ => none }
def objectSortsRow : OpenClaim := { program := "ytiiacdheopdooaa", sum := "554f60367616e8974c5f1477c48a3d23b2c6c6e5ab3e534b1276c1eb6e8018b9", func := "spence/spencelaw16.ObjectSorts", spec := "objectSorts", inPlace := ["internal/bytealg.abigen_runtime_cmpstring"], unfollowed := true, recurses := true, apart := false }
def ObjectSortsSaid : Prop := objectSortsRow.holds Try.pinned (OpenSpec.ofChange objectSortsSpec)

/-- ITS FALSE NEIGHBOUR: 'it returns false'. Refute it at one input. -/
def objectSortsWrong : ChangeSpec := { name := "objectSorts", fn := fun _ => fun
  | [d1, d2, d3, d4] => { results := [.lit (.bool false)], args := [d1, d2, d3, d4] }
  | _ => none }
def ObjectSortsWrongFalsely : Prop := objectSortsRow.holds Try.pinned (OpenSpec.ofChange objectSortsWrong)

/-- 'spencelaw16.ObjectCuts': WHATEVER THE INPUT: true; the input reads as it did. -/
def objectCutsSpec : ChangeSpec := { name := "objectCuts", fn := fun _ => fun
  | [d1, d2] => { results := [.lit (.bool true)], args := [d1, d2] }
  | _ => none }
def objectCutsRow : OpenClaim := { program := "ytiiacdheopdooaa", sum := "554f60367616e8974c5f1477c48a3d23b2c6c6e5ab3e534b1276c1eb6e8018b9", func := "spence/spencelaw16.ObjectCuts", spec := "objectCuts", unfollowed := true, recurses := true, apart := false }
def ObjectCutsSaid : Prop := objectCutsRow.holds Try.pinned (OpenSpec.ofChange objectCutsSpec)

/-- ITS FALSE NEIGHBOUR: 'it returns false'. Refute it at one input. -/
def objectCutsWrong : ChangeSpec := { name := "objectCuts", fn := fun _ => fun
  | [d1, d2] => { results := [.lit (.bool false)], args := [d1, d2] }
  | _ => none }
def ObjectCutsWrongFalsely : Prop := objectCutsRow.holds Try.pinned (OpenSpec.ofChange objectCutsWrong)

/-- 'spencelaw18.UpgradeUps': WHATEVER THE INPUT: true; the input reads as it did. -/
def upgradeUpsSpec : ChangeSpec := { name := "upgradeUps", fn := fun _ => fun
  | [d1, d2] => { results := [.lit (.bool true)], args := [d1, d2] }
  | _ => none }
def upgradeUpsRow : OpenClaim := { program := "ytiiacdheopdooaa", sum := "554f60367616e8974c5f1477c48a3d23b2c6c6e5ab3e534b1276c1eb6e8018b9", func := "spence/spencelaw18.UpgradeUps", spec := "upgradeUps", inPlace := ["internal/bytealg.abigen_runtime_cmpstring"], unfollowed := true, recurses := true, apart := false }
def UpgradeUpsSaid : Prop := upgradeUpsRow.holds Try.pinned (OpenSpec.ofChange upgradeUpsSpec)

/-- ITS FALSE NEIGHBOUR: 'it returns false'. Refute it at one input. -/
def upgradeUpsWrong : ChangeSpec := { name := "upgradeUps", fn := fun _ => fun
  | [d1, d2] => { results := [.lit (.bool false)], args := [d1, d2] }
  | _ => none }
def UpgradeUpsWrongFalsely : Prop := upgradeUpsRow.holds Try.pinned (OpenSpec.ofChange upgradeUpsWrong)

/-- 'spencelaw16.ObjectDecodes': WHATEVER THE INPUT: true; the input reads as it did. -/
def objectDecodesSpec : ChangeSpec := { name := "objectDecodes", fn := fun _ => fun
  | [d] => { results := [.lit (.bool true)], args := [d] }
  | _ => none }
def objectDecodesRow : OpenClaim := { program := "ytiiacdheopdooaa", sum := "554f60367616e8974c5f1477c48a3d23b2c6c6e5ab3e534b1276c1eb6e8018b9", func := "spence/spencelaw16.ObjectDecodes", spec := "objectDecodes", unfollowed := true, recurses := true, apart := false }
def ObjectDecodesSaid : Prop := objectDecodesRow.holds Try.pinned (OpenSpec.ofChange objectDecodesSpec)

/-- ITS FALSE NEIGHBOUR: 'it returns false'. Refute it at one input. -/
def objectDecodesWrong : ChangeSpec := { name := "objectDecodes", fn := fun _ => fun
  | [d] => { results := [.lit (.bool false)], args := [d] }
  | _ => none }
def ObjectDecodesWrongFalsely : Prop := objectDecodesRow.holds Try.pinned (OpenSpec.ofChange objectDecodesWrong)

/-- 'spencelaw16.ObjectEncodes': WHATEVER THE INPUT: true; the input reads as it did. -/
def objectEncodesSpec : ChangeSpec := { name := "objectEncodes", fn := fun _ => fun
  | [d1, d2] => { results := [.lit (.bool true)], args := [d1, d2] }
  | _ => none }
def objectEncodesRow : OpenClaim := { program := "ytiiacdheopdooaa", sum := "554f60367616e8974c5f1477c48a3d23b2c6c6e5ab3e534b1276c1eb6e8018b9", func := "spence/spencelaw16.ObjectEncodes", spec := "objectEncodes", unfollowed := true, recurses := true, apart := false }
def ObjectEncodesSaid : Prop := objectEncodesRow.holds Try.pinned (OpenSpec.ofChange objectEncodesSpec)

/-- ITS FALSE NEIGHBOUR: 'it returns false'. Refute it at one input. -/
def objectEncodesWrong : ChangeSpec := { name := "objectEncodes", fn := fun _ => fun
  | [d1, d2] => { results := [.lit (.bool false)], args := [d1, d2] }
  | _ => none }
def ObjectEncodesWrongFalsely : Prop := objectEncodesRow.holds Try.pinned (OpenSpec.ofChange objectEncodesWrong)

/- THE SECOND FORM. 'bulk': how many values and letters a reading holds, each counted each time it is reached (what is shared counts as often as it is met; a slice's spare places count too). A statement '..UptoSaid' is the law's where the arguments, and the package variables that the reading takes, are together of bulk at most 1048576: NARROWER than '..Said'. Prove '..Said' where nothing that the law and all that it calls make is longer than what came in: it says more and counts as full. Else prove '..UptoSaid'. A law counts once. -/
mutual
def uptoBulk {H : Type} : DataW H → Nat
  | .lit (.string bytes) => bytes.length + 1
  | .lit _ => 1
  | .nil => 1
  | .ptr d => uptoBulk d + 1
  | .slice elems spare => uptoBulkAll elems + uptoBulkAll spare + 1
  | .agg parts => uptoBulkAll parts + 1
  | .iface _ d => uptoBulk d + 1
  | .map entries => uptoBulkEntries entries + 1
  | .held _ => 1
def uptoBulkAll {H : Type} : List (DataW H) → Nat
  | [] => 0
  | d :: r => uptoBulk d + uptoBulkAll r
def uptoBulkEntries {H : Type} : List (Lit × DataW H) → Nat
  | [] => 0
  | x :: r => uptoBulkEntry x + uptoBulkEntries r
def uptoBulkEntry {H : Type} : Lit × DataW H → Nat
  | (.string bytes, d) => bytes.length + uptoBulk d + 1
  | (_, d) => uptoBulk d + 1
 end
def uptoSmall : (H : Type) → List (DataW H) → Bool := fun _ ds => decide (uptoBulkAll ds ≤ 1048576)
def OpenSpec.upto (s : _root_.Go.ChangeSpec) : _root_.Go.OpenSpec := { _root_.Go.OpenSpec.ofChange s with cond := some uptoSmall }

/-- 'spencelaw06.BlobRises', WHERE WHAT IT READS IS OF BULK AT MOST 1048576: true; the input reads as it did. -/
def blobRisesUptoRow : OpenClaim := { program := "ytiiacdheopdooaa", sum := "554f60367616e8974c5f1477c48a3d23b2c6c6e5ab3e534b1276c1eb6e8018b9", func := "spence/spencelaw06.BlobRises", spec := "blobRises", apart := false, narrowed := true }
def BlobRisesUptoSaid : Prop := blobRisesUptoRow.holds Try.pinned (OpenSpec.upto blobRisesSpec)

/-- 'spencelaw06.BlobTakes', WHERE WHAT IT READS IS OF BULK AT MOST 1048576: true; the input reads as it did. -/
def blobTakesUptoRow : OpenClaim := { program := "ytiiacdheopdooaa", sum := "554f60367616e8974c5f1477c48a3d23b2c6c6e5ab3e534b1276c1eb6e8018b9", func := "spence/spencelaw06.BlobTakes", spec := "blobTakes", unfollowed := true, recurses := true, apart := false, narrowed := true }
def BlobTakesUptoSaid : Prop := blobTakesUptoRow.holds Try.pinned (OpenSpec.upto blobTakesSpec)

/-- 'spencelaw06.BlobPuts', WHERE WHAT IT READS IS OF BULK AT MOST 1048576: true; the input reads as it did. -/
def blobPutsUptoRow : OpenClaim := { program := "ytiiacdheopdooaa", sum := "554f60367616e8974c5f1477c48a3d23b2c6c6e5ab3e534b1276c1eb6e8018b9", func := "spence/spencelaw06.BlobPuts", spec := "blobPuts", unfollowed := true, recurses := true, apart := false, narrowed := true }
def BlobPutsUptoSaid : Prop := blobPutsUptoRow.holds Try.pinned (OpenSpec.upto blobPutsSpec)

/-- 'spencelaw17.LegacyTurns', WHERE WHAT IT READS IS OF BULK AT MOST 1048576: true; the input reads as it did. -/
def legacyTurnsUptoRow : OpenClaim := { program := "ytiiacdheopdooaa", sum := "554f60367616e8974c5f1477c48a3d23b2c6c6e5ab3e534b1276c1eb6e8018b9", func := "spence/spencelaw17.LegacyTurns", spec := "legacyTurns", unfollowed := true, recurses := true, apart := false, narrowed := true }
def LegacyTurnsUptoSaid : Prop := legacyTurnsUptoRow.holds Try.pinned (OpenSpec.upto legacyTurnsSpec)

/-- 'spencelaw11.VcodeTakes', WHERE WHAT IT READS IS OF BULK AT MOST 1048576: true; the input reads as it did. -/
def vcodeTakesUptoRow : OpenClaim := { program := "ytiiacdheopdooaa", sum := "554f60367616e8974c5f1477c48a3d23b2c6c6e5ab3e534b1276c1eb6e8018b9", func := "spence/spencelaw11.VcodeTakes", spec := "vcodeTakes", unfollowed := true, recurses := true, apart := false, narrowed := true }
def VcodeTakesUptoSaid : Prop := vcodeTakesUptoRow.holds Try.pinned (OpenSpec.upto vcodeTakesSpec)

/-- 'spencelaw11.VcodeEncodes', WHERE WHAT IT READS IS OF BULK AT MOST 1048576: true; the input reads as it did. -/
def vcodeEncodesUptoRow : OpenClaim := { program := "ytiiacdheopdooaa", sum := "554f60367616e8974c5f1477c48a3d23b2c6c6e5ab3e534b1276c1eb6e8018b9", func := "spence/spencelaw11.VcodeEncodes", spec := "vcodeEncodes", unfollowed := true, recurses := true, apart := false, narrowed := true }
def VcodeEncodesUptoSaid : Prop := vcodeEncodesUptoRow.holds Try.pinned (OpenSpec.upto vcodeEncodesSpec)

/-- 'spencelaw11.VcodeDecodes', WHERE WHAT IT READS IS OF BULK AT MOST 1048576: true; the input reads as it did. -/
def vcodeDecodesUptoRow : OpenClaim := { program := "ytiiacdheopdooaa", sum := "554f60367616e8974c5f1477c48a3d23b2c6c6e5ab3e534b1276c1eb6e8018b9", func := "spence/spencelaw11.VcodeDecodes", spec := "vcodeDecodes", unfollowed := true, recurses := true, apart := false, narrowed := true }
def VcodeDecodesUptoSaid : Prop := vcodeDecodesUptoRow.holds Try.pinned (OpenSpec.upto vcodeDecodesSpec)

/-- 'spencelaw11.VcodeCuts', WHERE WHAT IT READS IS OF BULK AT MOST 1048576: true; the input reads as it did. -/
def vcodeCutsUptoRow : OpenClaim := { program := "ytiiacdheopdooaa", sum := "554f60367616e8974c5f1477c48a3d23b2c6c6e5ab3e534b1276c1eb6e8018b9", func := "spence/spencelaw11.VcodeCuts", spec := "vcodeCuts", unfollowed := true, recurses := true, apart := false, narrowed := true }
def VcodeCutsUptoSaid : Prop := vcodeCutsUptoRow.holds Try.pinned (OpenSpec.upto vcodeCutsSpec)

/-- 'spencelaw22.RingLattice', WHERE WHAT IT READS IS OF BULK AT MOST 1048576: true; the input reads as it did. -/
def ringLatticeUptoRow : OpenClaim := { program := "ytiiacdheopdooaa", sum := "554f60367616e8974c5f1477c48a3d23b2c6c6e5ab3e534b1276c1eb6e8018b9", func := "spence/spencelaw22.RingLattice", spec := "ringLattice", unfollowed := true, recurses := true, apart := false, narrowed := true }
def RingLatticeUptoSaid : Prop := ringLatticeUptoRow.holds Try.pinned (OpenSpec.upto ringLatticeSpec)

/-- 'spencelaw22.RingCuts', WHERE WHAT IT READS IS OF BULK AT MOST 1048576: true; the input reads as it did. -/
def ringCutsUptoRow : OpenClaim := { program := "ytiiacdheopdooaa", sum := "554f60367616e8974c5f1477c48a3d23b2c6c6e5ab3e534b1276c1eb6e8018b9", func := "spence/spencelaw22.RingCuts", spec := "ringCuts", unfollowed := true, recurses := true, apart := false, narrowed := true }
def RingCutsUptoSaid : Prop := ringCutsUptoRow.holds Try.pinned (OpenSpec.upto ringCutsSpec)

/-- 'spencelaw22.RingDecodes', WHERE WHAT IT READS IS OF BULK AT MOST 1048576: true; the input reads as it did. -/
def ringDecodesUptoRow : OpenClaim := { program := "ytiiacdheopdooaa", sum := "554f60367616e8974c5f1477c48a3d23b2c6c6e5ab3e534b1276c1eb6e8018b9", func := "spence/spencelaw22.RingDecodes", spec := "ringDecodes", unfollowed := true, recurses := true, apart := false, narrowed := true }
def RingDecodesUptoSaid : Prop := ringDecodesUptoRow.holds Try.pinned (OpenSpec.upto ringDecodesSpec)

/-- 'spencelaw13.DcodeTakes', WHERE WHAT IT READS IS OF BULK AT MOST 1048576: true; the input reads as it did. -/
def dcodeTakesUptoRow : OpenClaim := { program := "ytiiacdheopdooaa", sum := "554f60367616e8974c5f1477c48a3d23b2c6c6e5ab3e534b1276c1eb6e8018b9", func := "spence/spencelaw13.DcodeTakes", spec := "dcodeTakes", unfollowed := true, recurses := true, apart := false, narrowed := true }
def DcodeTakesUptoSaid : Prop := dcodeTakesUptoRow.holds Try.pinned (OpenSpec.upto dcodeTakesSpec)

/-- 'spencelaw13.DcodeDecodes', WHERE WHAT IT READS IS OF BULK AT MOST 1048576: true; the input reads as it did. -/
def dcodeDecodesUptoRow : OpenClaim := { program := "ytiiacdheopdooaa", sum := "554f60367616e8974c5f1477c48a3d23b2c6c6e5ab3e534b1276c1eb6e8018b9", func := "spence/spencelaw13.DcodeDecodes", spec := "dcodeDecodes", unfollowed := true, recurses := true, apart := false, narrowed := true }
def DcodeDecodesUptoSaid : Prop := dcodeDecodesUptoRow.holds Try.pinned (OpenSpec.upto dcodeDecodesSpec)

/-- 'spencelaw13.DcodeCuts', WHERE WHAT IT READS IS OF BULK AT MOST 1048576: true; the input reads as it did. -/
def dcodeCutsUptoRow : OpenClaim := { program := "ytiiacdheopdooaa", sum := "554f60367616e8974c5f1477c48a3d23b2c6c6e5ab3e534b1276c1eb6e8018b9", func := "spence/spencelaw13.DcodeCuts", spec := "dcodeCuts", unfollowed := true, recurses := true, apart := false, narrowed := true }
def DcodeCutsUptoSaid : Prop := dcodeCutsUptoRow.holds Try.pinned (OpenSpec.upto dcodeCutsSpec)

/-- 'spencelaw17.LegacyDecodes', WHERE WHAT IT READS IS OF BULK AT MOST 1048576: true; the input reads as it did. -/
def legacyDecodesUptoRow : OpenClaim := { program := "ytiiacdheopdooaa", sum := "554f60367616e8974c5f1477c48a3d23b2c6c6e5ab3e534b1276c1eb6e8018b9", func := "spence/spencelaw17.LegacyDecodes", spec := "legacyDecodes", unfollowed := true, recurses := true, apart := false, narrowed := true }
def LegacyDecodesUptoSaid : Prop := legacyDecodesUptoRow.holds Try.pinned (OpenSpec.upto legacyDecodesSpec)

/-- 'spencelaw17.LegacyCuts', WHERE WHAT IT READS IS OF BULK AT MOST 1048576: true; the input reads as it did. -/
def legacyCutsUptoRow : OpenClaim := { program := "ytiiacdheopdooaa", sum := "554f60367616e8974c5f1477c48a3d23b2c6c6e5ab3e534b1276c1eb6e8018b9", func := "spence/spencelaw17.LegacyCuts", spec := "legacyCuts", unfollowed := true, recurses := true, apart := false, narrowed := true }
def LegacyCutsUptoSaid : Prop := legacyCutsUptoRow.holds Try.pinned (OpenSpec.upto legacyCutsSpec)

/-- 'spencelaw13.DcodeEncodes', WHERE WHAT IT READS IS OF BULK AT MOST 1048576: true; the input reads as it did. -/
def dcodeEncodesUptoRow : OpenClaim := { program := "ytiiacdheopdooaa", sum := "554f60367616e8974c5f1477c48a3d23b2c6c6e5ab3e534b1276c1eb6e8018b9", func := "spence/spencelaw13.DcodeEncodes", spec := "dcodeEncodes", unfollowed := true, recurses := true, apart := false, narrowed := true }
def DcodeEncodesUptoSaid : Prop := dcodeEncodesUptoRow.holds Try.pinned (OpenSpec.upto dcodeEncodesSpec)

/-- 'spencelaw22.RingEncodes', WHERE WHAT IT READS IS OF BULK AT MOST 1048576: true; the input reads as it did. -/
def ringEncodesUptoRow : OpenClaim := { program := "ytiiacdheopdooaa", sum := "554f60367616e8974c5f1477c48a3d23b2c6c6e5ab3e534b1276c1eb6e8018b9", func := "spence/spencelaw22.RingEncodes", spec := "ringEncodes", unfollowed := true, recurses := true, apart := false, narrowed := true }
def RingEncodesUptoSaid : Prop := ringEncodesUptoRow.holds Try.pinned (OpenSpec.upto ringEncodesSpec)

/-- 'spencelaw17.LegacyEncodes', WHERE WHAT IT READS IS OF BULK AT MOST 1048576: true; the input reads as it did. -/
def legacyEncodesUptoRow : OpenClaim := { program := "ytiiacdheopdooaa", sum := "554f60367616e8974c5f1477c48a3d23b2c6c6e5ab3e534b1276c1eb6e8018b9", func := "spence/spencelaw17.LegacyEncodes", spec := "legacyEncodes", unfollowed := true, recurses := true, apart := false, narrowed := true }
def LegacyEncodesUptoSaid : Prop := legacyEncodesUptoRow.holds Try.pinned (OpenSpec.upto legacyEncodesSpec)

/-- 'spencelaw22.RingOwners', WHERE WHAT IT READS IS OF BULK AT MOST 1048576: true; the input reads as it did. -/
def ringOwnersUptoRow : OpenClaim := { program := "ytiiacdheopdooaa", sum := "554f60367616e8974c5f1477c48a3d23b2c6c6e5ab3e534b1276c1eb6e8018b9", func := "spence/spencelaw22.RingOwners", spec := "ringOwners", unfollowed := true, recurses := true, apart := false, narrowed := true }
def RingOwnersUptoSaid : Prop := ringOwnersUptoRow.holds Try.pinned (OpenSpec.upto ringOwnersSpec)

/-- 'spencelaw15.SiblingTakes', WHERE WHAT IT READS IS OF BULK AT MOST 1048576: true; the input reads as it did. -/
def siblingTakesUptoRow : OpenClaim := { program := "ytiiacdheopdooaa", sum := "554f60367616e8974c5f1477c48a3d23b2c6c6e5ab3e534b1276c1eb6e8018b9", func := "spence/spencelaw15.SiblingTakes", spec := "siblingTakes", unfollowed := true, recurses := true, apart := false, narrowed := true }
def SiblingTakesUptoSaid : Prop := siblingTakesUptoRow.holds Try.pinned (OpenSpec.upto siblingTakesSpec)

/-- 'spencelaw15.SiblingDecodes', WHERE WHAT IT READS IS OF BULK AT MOST 1048576: true; the input reads as it did. -/
def siblingDecodesUptoRow : OpenClaim := { program := "ytiiacdheopdooaa", sum := "554f60367616e8974c5f1477c48a3d23b2c6c6e5ab3e534b1276c1eb6e8018b9", func := "spence/spencelaw15.SiblingDecodes", spec := "siblingDecodes", unfollowed := true, recurses := true, apart := false, narrowed := true }
def SiblingDecodesUptoSaid : Prop := siblingDecodesUptoRow.holds Try.pinned (OpenSpec.upto siblingDecodesSpec)

/-- 'spencelaw15.SiblingGreat', WHERE WHAT IT READS IS OF BULK AT MOST 1048576: true; the input reads as it did. -/
def siblingGreatUptoRow : OpenClaim := { program := "ytiiacdheopdooaa", sum := "554f60367616e8974c5f1477c48a3d23b2c6c6e5ab3e534b1276c1eb6e8018b9", func := "spence/spencelaw15.SiblingGreat", spec := "siblingGreat", unfollowed := true, recurses := true, apart := false, narrowed := true }
def SiblingGreatUptoSaid : Prop := siblingGreatUptoRow.holds Try.pinned (OpenSpec.upto siblingGreatSpec)

/-- 'spencelaw15.SiblingCuts', WHERE WHAT IT READS IS OF BULK AT MOST 1048576: true; the input reads as it did. -/
def siblingCutsUptoRow : OpenClaim := { program := "ytiiacdheopdooaa", sum := "554f60367616e8974c5f1477c48a3d23b2c6c6e5ab3e534b1276c1eb6e8018b9", func := "spence/spencelaw15.SiblingCuts", spec := "siblingCuts", unfollowed := true, recurses := true, apart := false, narrowed := true }
def SiblingCutsUptoSaid : Prop := siblingCutsUptoRow.holds Try.pinned (OpenSpec.upto siblingCutsSpec)

/-- 'spencelaw22.RingJoins', WHERE WHAT IT READS IS OF BULK AT MOST 1048576: true; the input reads as it did. -/
def ringJoinsUptoRow : OpenClaim := { program := "ytiiacdheopdooaa", sum := "554f60367616e8974c5f1477c48a3d23b2c6c6e5ab3e534b1276c1eb6e8018b9", func := "spence/spencelaw22.RingJoins", spec := "ringJoins", unfollowed := true, recurses := true, apart := false, narrowed := true }
def RingJoinsUptoSaid : Prop := ringJoinsUptoRow.holds Try.pinned (OpenSpec.upto ringJoinsSpec)

/-- 'spencelaw15.SiblingEncodes', WHERE WHAT IT READS IS OF BULK AT MOST 1048576: true; the input reads as it did. -/
def siblingEncodesUptoRow : OpenClaim := { program := "ytiiacdheopdooaa", sum := "554f60367616e8974c5f1477c48a3d23b2c6c6e5ab3e534b1276c1eb6e8018b9", func := "spence/spencelaw15.SiblingEncodes", spec := "siblingEncodes", unfollowed := true, recurses := true, apart := false, narrowed := true }
def SiblingEncodesUptoSaid : Prop := siblingEncodesUptoRow.holds Try.pinned (OpenSpec.upto siblingEncodesSpec)

/-- 'spencelaw16.ObjectSorts', WHERE WHAT IT READS IS OF BULK AT MOST 1048576: true; the input reads as it did. -/
def objectSortsUptoRow : OpenClaim := { program := "ytiiacdheopdooaa", sum := "554f60367616e8974c5f1477c48a3d23b2c6c6e5ab3e534b1276c1eb6e8018b9", func := "spence/spencelaw16.ObjectSorts", spec := "objectSorts", inPlace := ["internal/bytealg.abigen_runtime_cmpstring"], unfollowed := true, recurses := true, apart := false, narrowed := true }
def ObjectSortsUptoSaid : Prop := objectSortsUptoRow.holds Try.pinned (OpenSpec.upto objectSortsSpec)

/-- 'spencelaw16.ObjectCuts', WHERE WHAT IT READS IS OF BULK AT MOST 1048576: true; the input reads as it did. -/
def objectCutsUptoRow : OpenClaim := { program := "ytiiacdheopdooaa", sum := "554f60367616e8974c5f1477c48a3d23b2c6c6e5ab3e534b1276c1eb6e8018b9", func := "spence/spencelaw16.ObjectCuts", spec := "objectCuts", unfollowed := true, recurses := true, apart := false, narrowed := true }
def ObjectCutsUptoSaid : Prop := objectCutsUptoRow.holds Try.pinned (OpenSpec.upto objectCutsSpec)

/-- 'spencelaw18.UpgradeUps', WHERE WHAT IT READS IS OF BULK AT MOST 1048576: true; the input reads as it did. -/
def upgradeUpsUptoRow : OpenClaim := { program := "ytiiacdheopdooaa", sum := "554f60367616e8974c5f1477c48a3d23b2c6c6e5ab3e534b1276c1eb6e8018b9", func := "spence/spencelaw18.UpgradeUps", spec := "upgradeUps", inPlace := ["internal/bytealg.abigen_runtime_cmpstring"], unfollowed := true, recurses := true, apart := false, narrowed := true }
def UpgradeUpsUptoSaid : Prop := upgradeUpsUptoRow.holds Try.pinned (OpenSpec.upto upgradeUpsSpec)

/-- 'spencelaw16.ObjectDecodes', WHERE WHAT IT READS IS OF BULK AT MOST 1048576: true; the input reads as it did. -/
def objectDecodesUptoRow : OpenClaim := { program := "ytiiacdheopdooaa", sum := "554f60367616e8974c5f1477c48a3d23b2c6c6e5ab3e534b1276c1eb6e8018b9", func := "spence/spencelaw16.ObjectDecodes", spec := "objectDecodes", unfollowed := true, recurses := true, apart := false, narrowed := true }
def ObjectDecodesUptoSaid : Prop := objectDecodesUptoRow.holds Try.pinned (OpenSpec.upto objectDecodesSpec)

/-- 'spencelaw16.ObjectEncodes', WHERE WHAT IT READS IS OF BULK AT MOST 1048576: true; the input reads as it did. -/
def objectEncodesUptoRow : OpenClaim := { program := "ytiiacdheopdooaa", sum := "554f60367616e8974c5f1477c48a3d23b2c6c6e5ab3e534b1276c1eb6e8018b9", func := "spence/spencelaw16.ObjectEncodes", spec := "objectEncodes", unfollowed := true, recurses := true, apart := false, narrowed := true }
def ObjectEncodesUptoSaid : Prop := objectEncodesUptoRow.holds Try.pinned (OpenSpec.upto objectEncodesSpec)

end Rows
end Go.Proofs.Ytiiacdheopdooaa
