/-
  No cell of these rows narrows 'for every input' (looked for: loops, veiled, ifaces, maps, wideKeys, modest, calm, conditions, laid).
  DERIVED. THE GIVEN ROWS OF THIS SEAT. 5 by the template 'for every input the law returns true; each argument reads behind the call as it read before'; 0 by the template 'total and deterministic' (their statements: YtdnfcckkdnkaiaaGreatTotals.lean).
  GIVEN WITH THE SEED: the statements are not yours to turn. If you find one false, say at which input.
  Laid BY PROGRAM, IN A SANDBOX (cutbox-rows.mjs): the forced cells as the released guide's own fill.sh prints them over the translation a8f08d1a45f578c8… (all of the seat's roots in one cut). By AI agents, Wed Nov 11 2026. No macro, syntax, notation, axiom, sorry.
-/
import Derived.Test.YtdnfcckkdnkaiaaGreatChecked
import GoSem.Claim
import GoSem.ClaimJoined
import GoSem.ClaimMapViews
import Derived.JoinedTies
import Derived.KernelRfl
namespace Go.Proofs.YtdnfcckkdnkaiaaGreat
/- THE CELL 'sum', in the pinned program and in every row, IS THE sha256 OF THE DUMP (.gsa) THAT YtdnfcckkdnkaiaaGreatProg.lean LOADS. Nothing in Lean hashes anything: it is a label: what it is worth is what the hold of that sum in a sandbox is worth. -/
noncomputable def Tryz.pinned : Pinned := { name := "ytdnfcckkdnkaiaagreat", sum := "a8f08d1a45f578c86995ea88c864256dfb5332c558148ae692737ac8c94127e2", checked := Tryz.checked }
namespace Rows
def none {H : Type} : Left H := { results := [], args := [] }

/-- 'spencelaw23.MsgDecodes': WHATEVER THE INPUT: true; the input reads as it did. -/
def msgDecodesSpec : ChangeSpec := { name := "msgDecodes", fn := fun _ => fun
  | [d1, d2, d3] => { results := [.lit (.bool true)], args := [d1, d2, d3] }
  | _ => none }
def msgDecodesRow : OpenClaim := { program := "ytdnfcckkdnkaiaagreat", sum := "a8f08d1a45f578c86995ea88c864256dfb5332c558148ae692737ac8c94127e2", func := "spence/spencelaw23.MsgDecodes", spec := "msgDecodes", unfollowed := true, recurses := true, apart := false }
def MsgDecodesSaid : Prop := msgDecodesRow.holds Tryz.pinned (OpenSpec.ofChange msgDecodesSpec)

/-- ITS FALSE NEIGHBOUR: 'it returns false'. Refute it at one input. -/
def msgDecodesWrong : ChangeSpec := { name := "msgDecodes", fn := fun _ => fun
  | [d1, d2, d3] => { results := [.lit (.bool false)], args := [d1, d2, d3] }
  | _ => none }
def MsgDecodesWrongFalsely : Prop := msgDecodesRow.holds Tryz.pinned (OpenSpec.ofChange msgDecodesWrong)

/-- 'spencelaw24.RpcSeals': WHATEVER THE INPUT: true; the input reads as it did. -/
def rpcSealsSpec : ChangeSpec := { name := "rpcSeals", fn := fun _ => fun
  | [d1, d2, d3, d4] => { results := [.lit (.bool true)], args := [d1, d2, d3, d4] }
  | _ => none }
def rpcSealsRow : OpenClaim := { program := "ytdnfcckkdnkaiaagreat", sum := "a8f08d1a45f578c86995ea88c864256dfb5332c558148ae692737ac8c94127e2", func := "spence/spencelaw24.RpcSeals", spec := "rpcSeals", unfollowed := true, recurses := true, apart := false }
def RpcSealsSaid : Prop := rpcSealsRow.holds Tryz.pinned (OpenSpec.ofChange rpcSealsSpec)

/-- ITS FALSE NEIGHBOUR: 'it returns false'. Refute it at one input. -/
def rpcSealsWrong : ChangeSpec := { name := "rpcSeals", fn := fun _ => fun
  | [d1, d2, d3, d4] => { results := [.lit (.bool false)], args := [d1, d2, d3, d4] }
  | _ => none }
def RpcSealsWrongFalsely : Prop := rpcSealsRow.holds Tryz.pinned (OpenSpec.ofChange rpcSealsWrong)

/-- 'spencelaw23.MsgEncodes': WHATEVER THE INPUT: true; the input reads as it did. -/
def msgEncodesSpec : ChangeSpec := { name := "msgEncodes", fn := fun _ => fun
  | [d1, d2, d3] => { results := [.lit (.bool true)], args := [d1, d2, d3] }
  | _ => none }
def msgEncodesRow : OpenClaim := { program := "ytdnfcckkdnkaiaagreat", sum := "a8f08d1a45f578c86995ea88c864256dfb5332c558148ae692737ac8c94127e2", func := "spence/spencelaw23.MsgEncodes", spec := "msgEncodes", unfollowed := true, recurses := true, apart := false }
def MsgEncodesSaid : Prop := msgEncodesRow.holds Tryz.pinned (OpenSpec.ofChange msgEncodesSpec)

/-- ITS FALSE NEIGHBOUR: 'it returns false'. Refute it at one input. -/
def msgEncodesWrong : ChangeSpec := { name := "msgEncodes", fn := fun _ => fun
  | [d1, d2, d3] => { results := [.lit (.bool false)], args := [d1, d2, d3] }
  | _ => none }
def MsgEncodesWrongFalsely : Prop := msgEncodesRow.holds Tryz.pinned (OpenSpec.ofChange msgEncodesWrong)

/-- 'spencelaw31.PartsCut': WHATEVER THE INPUT: true; the input reads as it did. -/
def partsCutSpec : ChangeSpec := { name := "partsCut", fn := fun _ => fun
  | [d1, d2, d3] => { results := [.lit (.bool true)], args := [d1, d2, d3] }
  | _ => none }
def partsCutRow : OpenClaim := { program := "ytdnfcckkdnkaiaagreat", sum := "a8f08d1a45f578c86995ea88c864256dfb5332c558148ae692737ac8c94127e2", func := "spence/spencelaw31.PartsCut", spec := "partsCut", unfollowed := true, recurses := true, apart := false }
def PartsCutSaid : Prop := partsCutRow.holds Tryz.pinned (OpenSpec.ofChange partsCutSpec)

/-- ITS FALSE NEIGHBOUR: 'it returns false'. Refute it at one input. -/
def partsCutWrong : ChangeSpec := { name := "partsCut", fn := fun _ => fun
  | [d1, d2, d3] => { results := [.lit (.bool false)], args := [d1, d2, d3] }
  | _ => none }
def PartsCutWrongFalsely : Prop := partsCutRow.holds Tryz.pinned (OpenSpec.ofChange partsCutWrong)

/-- 'spencelaw31.PartsTell': WHATEVER THE INPUT: true; the input reads as it did. -/
def partsTellSpec : ChangeSpec := { name := "partsTell", fn := fun _ => fun
  | [d1, d2, d3] => { results := [.lit (.bool true)], args := [d1, d2, d3] }
  | _ => none }
def partsTellRow : OpenClaim := { program := "ytdnfcckkdnkaiaagreat", sum := "a8f08d1a45f578c86995ea88c864256dfb5332c558148ae692737ac8c94127e2", func := "spence/spencelaw31.PartsTell", spec := "partsTell", unfollowed := true, recurses := true, apart := false }
def PartsTellSaid : Prop := partsTellRow.holds Tryz.pinned (OpenSpec.ofChange partsTellSpec)

/-- ITS FALSE NEIGHBOUR: 'it returns false'. Refute it at one input. -/
def partsTellWrong : ChangeSpec := { name := "partsTell", fn := fun _ => fun
  | [d1, d2, d3] => { results := [.lit (.bool false)], args := [d1, d2, d3] }
  | _ => none }
def PartsTellWrongFalsely : Prop := partsTellRow.holds Tryz.pinned (OpenSpec.ofChange partsTellWrong)

/- THE SECOND FORM. 'bulk': how many values and letters a reading holds, each counted each time it is reached (what is shared counts as often as it is met; a slice's spare places count too). A statement '..UptoSaid' is the law's where the arguments, and the package variables that the reading takes, are together of bulk at most 1048576: NARROWER than '..Said'. Prove '..Said' where nothing that the law and all that it calls make is longer than what came in: it says more and counts as full. Else prove '..UptoSaid'. A law counts once. -/
mutual
def uptoBulk {H : Type} : DataW H → Nat
  | .lit (.string bytes) => bytes.length + 1
  | .lit _ => 1
  | .nil => 1
  | .ptr d => uptoBulk d + 1
  | .slice elems spare => uptoBulkAll elems + uptoBulkAll spare + 1
  | .agg parts => uptoBulkAll parts + 1
  | .iface _ d => uptoBulk d + 1
  | .map entries => uptoBulkEntries entries + 1
  | .held _ => 1
def uptoBulkAll {H : Type} : List (DataW H) → Nat
  | [] => 0
  | d :: r => uptoBulk d + uptoBulkAll r
def uptoBulkEntries {H : Type} : List (Lit × DataW H) → Nat
  | [] => 0
  | x :: r => uptoBulkEntry x + uptoBulkEntries r
def uptoBulkEntry {H : Type} : Lit × DataW H → Nat
  | (.string bytes, d) => bytes.length + uptoBulk d + 1
  | (_, d) => uptoBulk d + 1
 end
def uptoSmall : (H : Type) → List (DataW H) → Bool := fun _ ds => decide (uptoBulkAll ds ≤ 1048576)
def OpenSpec.upto (s : _root_.Go.ChangeSpec) : _root_.Go.OpenSpec := { _root_.Go.OpenSpec.ofChange s with cond := some uptoSmall }

/-- 'spencelaw23.MsgDecodes', WHERE WHAT IT READS IS OF BULK AT MOST 1048576: true; the input reads as it did. -/
def msgDecodesUptoRow : OpenClaim := { program := "ytdnfcckkdnkaiaagreat", sum := "a8f08d1a45f578c86995ea88c864256dfb5332c558148ae692737ac8c94127e2", func := "spence/spencelaw23.MsgDecodes", spec := "msgDecodes", unfollowed := true, recurses := true, apart := false, narrowed := true }
def MsgDecodesUptoSaid : Prop := msgDecodesUptoRow.holds Tryz.pinned (OpenSpec.upto msgDecodesSpec)

/-- 'spencelaw24.RpcSeals', WHERE WHAT IT READS IS OF BULK AT MOST 1048576: true; the input reads as it did. -/
def rpcSealsUptoRow : OpenClaim := { program := "ytdnfcckkdnkaiaagreat", sum := "a8f08d1a45f578c86995ea88c864256dfb5332c558148ae692737ac8c94127e2", func := "spence/spencelaw24.RpcSeals", spec := "rpcSeals", unfollowed := true, recurses := true, apart := false, narrowed := true }
def RpcSealsUptoSaid : Prop := rpcSealsUptoRow.holds Tryz.pinned (OpenSpec.upto rpcSealsSpec)

/-- 'spencelaw23.MsgEncodes', WHERE WHAT IT READS IS OF BULK AT MOST 1048576: true; the input reads as it did. -/
def msgEncodesUptoRow : OpenClaim := { program := "ytdnfcckkdnkaiaagreat", sum := "a8f08d1a45f578c86995ea88c864256dfb5332c558148ae692737ac8c94127e2", func := "spence/spencelaw23.MsgEncodes", spec := "msgEncodes", unfollowed := true, recurses := true, apart := false, narrowed := true }
def MsgEncodesUptoSaid : Prop := msgEncodesUptoRow.holds Tryz.pinned (OpenSpec.upto msgEncodesSpec)

/-- 'spencelaw31.PartsCut', WHERE WHAT IT READS IS OF BULK AT MOST 1048576: true; the input reads as it did. -/
def partsCutUptoRow : OpenClaim := { program := "ytdnfcckkdnkaiaagreat", sum := "a8f08d1a45f578c86995ea88c864256dfb5332c558148ae692737ac8c94127e2", func := "spence/spencelaw31.PartsCut", spec := "partsCut", unfollowed := true, recurses := true, apart := false, narrowed := true }
def PartsCutUptoSaid : Prop := partsCutUptoRow.holds Tryz.pinned (OpenSpec.upto partsCutSpec)

/-- 'spencelaw31.PartsTell', WHERE WHAT IT READS IS OF BULK AT MOST 1048576: true; the input reads as it did. -/
def partsTellUptoRow : OpenClaim := { program := "ytdnfcckkdnkaiaagreat", sum := "a8f08d1a45f578c86995ea88c864256dfb5332c558148ae692737ac8c94127e2", func := "spence/spencelaw31.PartsTell", spec := "partsTell", unfollowed := true, recurses := true, apart := false, narrowed := true }
def PartsTellUptoSaid : Prop := partsTellUptoRow.holds Tryz.pinned (OpenSpec.upto partsTellSpec)

end Rows
end Go.Proofs.YtdnfcckkdnkaiaaGreat
