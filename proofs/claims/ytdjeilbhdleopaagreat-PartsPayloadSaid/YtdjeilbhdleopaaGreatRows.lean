/-
  No cell of these rows narrows 'for every input' (looked for: loops, veiled, ifaces, maps, wideKeys, modest, calm, conditions, laid).
  DERIVED. THE GIVEN ROWS OF THIS SEAT. 8 by the template 'for every input the law returns true; each argument reads behind the call as it read before'; 0 by the template 'total and deterministic' (their statements: YtdjeilbhdleopaaGreatTotals.lean).
  GIVEN WITH THE SEED: the statements are not yours to turn. If you find one false, say at which input.
  Laid BY PROGRAM, IN A SANDBOX (cutbox-rows.mjs): the forced cells as the released guide's own fill.sh prints them over the translation e9917633c727c6a7… (all of the seat's roots in one cut). By AI agents, Wed Nov 11 2026. No macro, syntax, notation, axiom, sorry.
-/
import Derived.Test.YtdjeilbhdleopaaGreatChecked
import GoSem.Claim
import GoSem.ClaimJoined
import GoSem.ClaimMapViews
import Derived.JoinedTies
import Derived.KernelRfl
namespace Go.Proofs.YtdjeilbhdleopaaGreat
/- THE CELL 'sum', in the pinned program and in every row, IS THE sha256 OF THE DUMP (.gsa) THAT YtdjeilbhdleopaaGreatProg.lean LOADS. Nothing in Lean hashes anything: it is a label: what it is worth is what the hold of that sum in a sandbox is worth. -/
noncomputable def Tryz.pinned : Pinned := { name := "ytdjeilbhdleopaagreat", sum := "e9917633c727c6a7556fe2625cce69fadd774c7c6d16859434f06cf0000d3883", checked := Tryz.checked }
namespace Rows
def none {H : Type} : Left H := { results := [], args := [] }

/-- 'spencelaw25.StoreSeen': WHATEVER THE INPUT: true; the input reads as it did. -/
def storeSeenSpec : ChangeSpec := { name := "storeSeen", fn := fun _ => fun
  | [d1, d2] => { results := [.lit (.bool true)], args := [d1, d2] }
  | _ => none }
def storeSeenRow : OpenClaim := { program := "ytdjeilbhdleopaagreat", sum := "e9917633c727c6a7556fe2625cce69fadd774c7c6d16859434f06cf0000d3883", func := "spence/spencelaw25.StoreSeen", spec := "storeSeen", inPlace := ["internal/bytealg.abigen_runtime_cmpstring", "slices.overlaps[spence/api.Object]", "sync/atomic.AddInt64"], unfollowed := true, recurses := true, apart := false }
def StoreSeenSaid : Prop := storeSeenRow.holds Tryz.pinned (OpenSpec.ofChange storeSeenSpec)

/-- ITS FALSE NEIGHBOUR: 'it returns false'. Refute it at one input. -/
def storeSeenWrong : ChangeSpec := { name := "storeSeen", fn := fun _ => fun
  | [d1, d2] => { results := [.lit (.bool false)], args := [d1, d2] }
  | _ => none }
def StoreSeenWrongFalsely : Prop := storeSeenRow.holds Tryz.pinned (OpenSpec.ofChange storeSeenWrong)

/-- 'spencelaw25.StoreMerges': WHATEVER THE INPUT: true; the input reads as it did. -/
def storeMergesSpec : ChangeSpec := { name := "storeMerges", fn := fun _ => fun
  | [d1, d2, d3] => { results := [.lit (.bool true)], args := [d1, d2, d3] }
  | _ => none }
def storeMergesRow : OpenClaim := { program := "ytdjeilbhdleopaagreat", sum := "e9917633c727c6a7556fe2625cce69fadd774c7c6d16859434f06cf0000d3883", func := "spence/spencelaw25.StoreMerges", spec := "storeMerges", inPlace := ["internal/bytealg.abigen_runtime_cmpstring", "slices.overlaps[spence/api.Object]", "sync/atomic.AddInt64", "sync/atomic.StoreInt64"], unfollowed := true, recurses := true, apart := false }
def StoreMergesSaid : Prop := storeMergesRow.holds Tryz.pinned (OpenSpec.ofChange storeMergesSpec)

/-- ITS FALSE NEIGHBOUR: 'it returns false'. Refute it at one input. -/
def storeMergesWrong : ChangeSpec := { name := "storeMerges", fn := fun _ => fun
  | [d1, d2, d3] => { results := [.lit (.bool false)], args := [d1, d2, d3] }
  | _ => none }
def StoreMergesWrongFalsely : Prop := storeMergesRow.holds Tryz.pinned (OpenSpec.ofChange storeMergesWrong)

/-- 'spencelaw25.StorePlays': WHATEVER THE INPUT: true; the input reads as it did. -/
def storePlaysSpec : ChangeSpec := { name := "storePlays", fn := fun _ => fun
  | [d] => { results := [.lit (.bool true)], args := [d] }
  | _ => none }
def storePlaysRow : OpenClaim := { program := "ytdjeilbhdleopaagreat", sum := "e9917633c727c6a7556fe2625cce69fadd774c7c6d16859434f06cf0000d3883", func := "spence/spencelaw25.StorePlays", spec := "storePlays", inPlace := ["internal/bytealg.abigen_runtime_cmpstring", "slices.overlaps[spence/api.Object]", "sync/atomic.AddInt64", "sync/atomic.LoadInt64"], unfollowed := true, recurses := true, apart := false }
def StorePlaysSaid : Prop := storePlaysRow.holds Tryz.pinned (OpenSpec.ofChange storePlaysSpec)

/-- ITS FALSE NEIGHBOUR: 'it returns false'. Refute it at one input. -/
def storePlaysWrong : ChangeSpec := { name := "storePlays", fn := fun _ => fun
  | [d] => { results := [.lit (.bool false)], args := [d] }
  | _ => none }
def StorePlaysWrongFalsely : Prop := storePlaysRow.holds Tryz.pinned (OpenSpec.ofChange storePlaysWrong)

/-- 'spencelaw24.RpcReads': WHATEVER THE INPUT: true; the input reads as it did. -/
def rpcReadsSpec : ChangeSpec := { name := "rpcReads", fn := fun _ => fun
  | [d] => { results := [.lit (.bool true)], args := [d] }
  | _ => none }
def rpcReadsRow : OpenClaim := { program := "ytdjeilbhdleopaagreat", sum := "e9917633c727c6a7556fe2625cce69fadd774c7c6d16859434f06cf0000d3883", func := "spence/spencelaw24.RpcReads", spec := "rpcReads", inPlace := ["sync/atomic.StoreUint32", "sync/atomic.LoadUint32", "(*internal/sync.Mutex).Lock", "internal/race.Disable", "sync/atomic.CompareAndSwapInt32", "internal/race.Enable", "internal/race.Acquire", "(*internal/sync.Mutex).lockSlow", "internal/sync.runtime_canSpin", "internal/sync.runtime_doSpin", "internal/sync.throw", "internal/sync.runtime_nanotime", "internal/sync.runtime_SemacquireMutex", "sync/atomic.AddInt32", "(*internal/sync.Mutex).Unlock", "internal/race.ReleaseMerge", "(*internal/sync.Mutex).unlockSlow", "internal/sync.fatal", "internal/sync.runtime_Semrelease"], unfollowed := true, recurses := true, apart := false }
def RpcReadsSaid : Prop := rpcReadsRow.holds Tryz.pinned (OpenSpec.ofChange rpcReadsSpec)

/-- ITS FALSE NEIGHBOUR: 'it returns false'. Refute it at one input. -/
def rpcReadsWrong : ChangeSpec := { name := "rpcReads", fn := fun _ => fun
  | [d] => { results := [.lit (.bool false)], args := [d] }
  | _ => none }
def RpcReadsWrongFalsely : Prop := rpcReadsRow.holds Tryz.pinned (OpenSpec.ofChange rpcReadsWrong)

/-- 'spencelaw25.StoreRight': WHATEVER THE INPUT: true; the input reads as it did. -/
def storeRightSpec : ChangeSpec := { name := "storeRight", fn := fun _ => fun
  | [d] => { results := [.lit (.bool true)], args := [d] }
  | _ => none }
def storeRightRow : OpenClaim := { program := "ytdjeilbhdleopaagreat", sum := "e9917633c727c6a7556fe2625cce69fadd774c7c6d16859434f06cf0000d3883", func := "spence/spencelaw25.StoreRight", spec := "storeRight", inPlace := ["internal/bytealg.abigen_runtime_cmpstring", "slices.overlaps[spence/api.Object]", "sync/atomic.AddInt64", "sync/atomic.LoadInt64", "sync/atomic.StoreInt64"], unfollowed := true, recurses := true, apart := false }
def StoreRightSaid : Prop := storeRightRow.holds Tryz.pinned (OpenSpec.ofChange storeRightSpec)

/-- ITS FALSE NEIGHBOUR: 'it returns false'. Refute it at one input. -/
def storeRightWrong : ChangeSpec := { name := "storeRight", fn := fun _ => fun
  | [d] => { results := [.lit (.bool false)], args := [d] }
  | _ => none }
def StoreRightWrongFalsely : Prop := storeRightRow.holds Tryz.pinned (OpenSpec.ofChange storeRightWrong)

/-- 'spencelaw31.PartsPayload': WHATEVER THE INPUT: true; the input reads as it did. -/
def partsPayloadSpec : ChangeSpec := { name := "partsPayload", fn := fun _ => fun
  | [d1, d2, d3] => { results := [.lit (.bool true)], args := [d1, d2, d3] }
  | _ => none }
def partsPayloadRow : OpenClaim := { program := "ytdjeilbhdleopaagreat", sum := "e9917633c727c6a7556fe2625cce69fadd774c7c6d16859434f06cf0000d3883", func := "spence/spencelaw31.PartsPayload", spec := "partsPayload", inPlace := ["sync/atomic.StoreUint32", "sync/atomic.LoadUint32", "(*internal/sync.Mutex).Lock", "internal/race.Disable", "sync/atomic.CompareAndSwapInt32", "internal/race.Enable", "internal/race.Acquire", "(*internal/sync.Mutex).lockSlow", "internal/sync.runtime_canSpin", "internal/sync.runtime_doSpin", "internal/sync.throw", "internal/sync.runtime_nanotime", "internal/sync.runtime_SemacquireMutex", "sync/atomic.AddInt32", "(*internal/sync.Mutex).Unlock", "internal/race.ReleaseMerge", "(*internal/sync.Mutex).unlockSlow", "internal/sync.fatal", "internal/sync.runtime_Semrelease"], unfollowed := true, recurses := true, apart := false }
def PartsPayloadSaid : Prop := partsPayloadRow.holds Tryz.pinned (OpenSpec.ofChange partsPayloadSpec)

/-- ITS FALSE NEIGHBOUR: 'it returns false'. Refute it at one input. -/
def partsPayloadWrong : ChangeSpec := { name := "partsPayload", fn := fun _ => fun
  | [d1, d2, d3] => { results := [.lit (.bool false)], args := [d1, d2, d3] }
  | _ => none }
def PartsPayloadWrongFalsely : Prop := partsPayloadRow.holds Tryz.pinned (OpenSpec.ofChange partsPayloadWrong)

/-- 'spencelaw31.PartsCover': WHATEVER THE INPUT: true; the input reads as it did. -/
def partsCoverSpec : ChangeSpec := { name := "partsCover", fn := fun _ => fun
  | [d1, d2] => { results := [.lit (.bool true)], args := [d1, d2] }
  | _ => none }
def partsCoverRow : OpenClaim := { program := "ytdjeilbhdleopaagreat", sum := "e9917633c727c6a7556fe2625cce69fadd774c7c6d16859434f06cf0000d3883", func := "spence/spencelaw31.PartsCover", spec := "partsCover", inPlace := ["sync/atomic.StoreUint32", "sync/atomic.LoadUint32", "(*internal/sync.Mutex).Lock", "internal/race.Disable", "sync/atomic.CompareAndSwapInt32", "internal/race.Enable", "internal/race.Acquire", "(*internal/sync.Mutex).lockSlow", "internal/sync.runtime_canSpin", "internal/sync.runtime_doSpin", "internal/sync.throw", "internal/sync.runtime_nanotime", "internal/sync.runtime_SemacquireMutex", "sync/atomic.AddInt32", "(*internal/sync.Mutex).Unlock", "internal/race.ReleaseMerge", "(*internal/sync.Mutex).unlockSlow", "internal/sync.fatal", "internal/sync.runtime_Semrelease"], unfollowed := true, recurses := true, apart := false }
def PartsCoverSaid : Prop := partsCoverRow.holds Tryz.pinned (OpenSpec.ofChange partsCoverSpec)

/-- ITS FALSE NEIGHBOUR: 'it returns false'. Refute it at one input. -/
def partsCoverWrong : ChangeSpec := { name := "partsCover", fn := fun _ => fun
  | [d1, d2] => { results := [.lit (.bool false)], args := [d1, d2] }
  | _ => none }
def PartsCoverWrongFalsely : Prop := partsCoverRow.holds Tryz.pinned (OpenSpec.ofChange partsCoverWrong)

/-- 'spencelaw24.RpcWrites': WHATEVER THE INPUT: true; the input reads as it did. -/
def rpcWritesSpec : ChangeSpec := { name := "rpcWrites", fn := fun _ => fun
  | [d1, d2] => { results := [.lit (.bool true)], args := [d1, d2] }
  | _ => none }
def rpcWritesRow : OpenClaim := { program := "ytdjeilbhdleopaagreat", sum := "e9917633c727c6a7556fe2625cce69fadd774c7c6d16859434f06cf0000d3883", func := "spence/spencelaw24.RpcWrites", spec := "rpcWrites", inPlace := ["sync/atomic.StoreUint32", "sync/atomic.LoadUint32", "(*internal/sync.Mutex).Lock", "internal/race.Disable", "sync/atomic.CompareAndSwapInt32", "internal/race.Enable", "internal/race.Acquire", "(*internal/sync.Mutex).lockSlow", "internal/sync.runtime_canSpin", "internal/sync.runtime_doSpin", "internal/sync.throw", "internal/sync.runtime_nanotime", "internal/sync.runtime_SemacquireMutex", "sync/atomic.AddInt32", "(*internal/sync.Mutex).Unlock", "internal/race.ReleaseMerge", "(*internal/sync.Mutex).unlockSlow", "internal/sync.fatal", "internal/sync.runtime_Semrelease", "internal/abi.NoEscape"], unfollowed := true, recurses := true, apart := false }
def RpcWritesSaid : Prop := rpcWritesRow.holds Tryz.pinned (OpenSpec.ofChange rpcWritesSpec)

/-- ITS FALSE NEIGHBOUR: 'it returns false'. Refute it at one input. -/
def rpcWritesWrong : ChangeSpec := { name := "rpcWrites", fn := fun _ => fun
  | [d1, d2] => { results := [.lit (.bool false)], args := [d1, d2] }
  | _ => none }
def RpcWritesWrongFalsely : Prop := rpcWritesRow.holds Tryz.pinned (OpenSpec.ofChange rpcWritesWrong)

/- THE SECOND FORM. 'bulk': how many values and letters a reading holds, each counted each time it is reached (what is shared counts as often as it is met; a slice's spare places count too). A statement '..UptoSaid' is the law's where the arguments, and the package variables that the reading takes, are together of bulk at most 1048576: NARROWER than '..Said'. Prove '..Said' where nothing that the law and all that it calls make is longer than what came in: it says more and counts as full. Else prove '..UptoSaid'. A law counts once. -/
mutual
def uptoBulk {H : Type} : DataW H → Nat
  | .lit (.string bytes) => bytes.length + 1
  | .lit _ => 1
  | .nil => 1
  | .ptr d => uptoBulk d + 1
  | .slice elems spare => uptoBulkAll elems + uptoBulkAll spare + 1
  | .agg parts => uptoBulkAll parts + 1
  | .iface _ d => uptoBulk d + 1
  | .map entries => uptoBulkEntries entries + 1
  | .held _ => 1
def uptoBulkAll {H : Type} : List (DataW H) → Nat
  | [] => 0
  | d :: r => uptoBulk d + uptoBulkAll r
def uptoBulkEntries {H : Type} : List (Lit × DataW H) → Nat
  | [] => 0
  | x :: r => uptoBulkEntry x + uptoBulkEntries r
def uptoBulkEntry {H : Type} : Lit × DataW H → Nat
  | (.string bytes, d) => bytes.length + uptoBulk d + 1
  | (_, d) => uptoBulk d + 1
 end
def uptoSmall : (H : Type) → List (DataW H) → Bool := fun _ ds => decide (uptoBulkAll ds ≤ 1048576)
def OpenSpec.upto (s : _root_.Go.ChangeSpec) : _root_.Go.OpenSpec := { _root_.Go.OpenSpec.ofChange s with cond := some uptoSmall }

/-- 'spencelaw25.StoreSeen', WHERE WHAT IT READS IS OF BULK AT MOST 1048576: true; the input reads as it did. -/
def storeSeenUptoRow : OpenClaim := { program := "ytdjeilbhdleopaagreat", sum := "e9917633c727c6a7556fe2625cce69fadd774c7c6d16859434f06cf0000d3883", func := "spence/spencelaw25.StoreSeen", spec := "storeSeen", inPlace := ["internal/bytealg.abigen_runtime_cmpstring", "slices.overlaps[spence/api.Object]", "sync/atomic.AddInt64"], unfollowed := true, recurses := true, apart := false, narrowed := true }
def StoreSeenUptoSaid : Prop := storeSeenUptoRow.holds Tryz.pinned (OpenSpec.upto storeSeenSpec)

/-- 'spencelaw25.StoreMerges', WHERE WHAT IT READS IS OF BULK AT MOST 1048576: true; the input reads as it did. -/
def storeMergesUptoRow : OpenClaim := { program := "ytdjeilbhdleopaagreat", sum := "e9917633c727c6a7556fe2625cce69fadd774c7c6d16859434f06cf0000d3883", func := "spence/spencelaw25.StoreMerges", spec := "storeMerges", inPlace := ["internal/bytealg.abigen_runtime_cmpstring", "slices.overlaps[spence/api.Object]", "sync/atomic.AddInt64", "sync/atomic.StoreInt64"], unfollowed := true, recurses := true, apart := false, narrowed := true }
def StoreMergesUptoSaid : Prop := storeMergesUptoRow.holds Tryz.pinned (OpenSpec.upto storeMergesSpec)

/-- 'spencelaw25.StorePlays', WHERE WHAT IT READS IS OF BULK AT MOST 1048576: true; the input reads as it did. -/
def storePlaysUptoRow : OpenClaim := { program := "ytdjeilbhdleopaagreat", sum := "e9917633c727c6a7556fe2625cce69fadd774c7c6d16859434f06cf0000d3883", func := "spence/spencelaw25.StorePlays", spec := "storePlays", inPlace := ["internal/bytealg.abigen_runtime_cmpstring", "slices.overlaps[spence/api.Object]", "sync/atomic.AddInt64", "sync/atomic.LoadInt64"], unfollowed := true, recurses := true, apart := false, narrowed := true }
def StorePlaysUptoSaid : Prop := storePlaysUptoRow.holds Tryz.pinned (OpenSpec.upto storePlaysSpec)

/-- 'spencelaw24.RpcReads', WHERE WHAT IT READS IS OF BULK AT MOST 1048576: true; the input reads as it did. -/
def rpcReadsUptoRow : OpenClaim := { program := "ytdjeilbhdleopaagreat", sum := "e9917633c727c6a7556fe2625cce69fadd774c7c6d16859434f06cf0000d3883", func := "spence/spencelaw24.RpcReads", spec := "rpcReads", inPlace := ["sync/atomic.StoreUint32", "sync/atomic.LoadUint32", "(*internal/sync.Mutex).Lock", "internal/race.Disable", "sync/atomic.CompareAndSwapInt32", "internal/race.Enable", "internal/race.Acquire", "(*internal/sync.Mutex).lockSlow", "internal/sync.runtime_canSpin", "internal/sync.runtime_doSpin", "internal/sync.throw", "internal/sync.runtime_nanotime", "internal/sync.runtime_SemacquireMutex", "sync/atomic.AddInt32", "(*internal/sync.Mutex).Unlock", "internal/race.ReleaseMerge", "(*internal/sync.Mutex).unlockSlow", "internal/sync.fatal", "internal/sync.runtime_Semrelease"], unfollowed := true, recurses := true, apart := false, narrowed := true }
def RpcReadsUptoSaid : Prop := rpcReadsUptoRow.holds Tryz.pinned (OpenSpec.upto rpcReadsSpec)

/-- 'spencelaw25.StoreRight', WHERE WHAT IT READS IS OF BULK AT MOST 1048576: true; the input reads as it did. -/
def storeRightUptoRow : OpenClaim := { program := "ytdjeilbhdleopaagreat", sum := "e9917633c727c6a7556fe2625cce69fadd774c7c6d16859434f06cf0000d3883", func := "spence/spencelaw25.StoreRight", spec := "storeRight", inPlace := ["internal/bytealg.abigen_runtime_cmpstring", "slices.overlaps[spence/api.Object]", "sync/atomic.AddInt64", "sync/atomic.LoadInt64", "sync/atomic.StoreInt64"], unfollowed := true, recurses := true, apart := false, narrowed := true }
def StoreRightUptoSaid : Prop := storeRightUptoRow.holds Tryz.pinned (OpenSpec.upto storeRightSpec)

/-- 'spencelaw31.PartsPayload', WHERE WHAT IT READS IS OF BULK AT MOST 1048576: true; the input reads as it did. -/
def partsPayloadUptoRow : OpenClaim := { program := "ytdjeilbhdleopaagreat", sum := "e9917633c727c6a7556fe2625cce69fadd774c7c6d16859434f06cf0000d3883", func := "spence/spencelaw31.PartsPayload", spec := "partsPayload", inPlace := ["sync/atomic.StoreUint32", "sync/atomic.LoadUint32", "(*internal/sync.Mutex).Lock", "internal/race.Disable", "sync/atomic.CompareAndSwapInt32", "internal/race.Enable", "internal/race.Acquire", "(*internal/sync.Mutex).lockSlow", "internal/sync.runtime_canSpin", "internal/sync.runtime_doSpin", "internal/sync.throw", "internal/sync.runtime_nanotime", "internal/sync.runtime_SemacquireMutex", "sync/atomic.AddInt32", "(*internal/sync.Mutex).Unlock", "internal/race.ReleaseMerge", "(*internal/sync.Mutex).unlockSlow", "internal/sync.fatal", "internal/sync.runtime_Semrelease"], unfollowed := true, recurses := true, apart := false, narrowed := true }
def PartsPayloadUptoSaid : Prop := partsPayloadUptoRow.holds Tryz.pinned (OpenSpec.upto partsPayloadSpec)

/-- 'spencelaw31.PartsCover', WHERE WHAT IT READS IS OF BULK AT MOST 1048576: true; the input reads as it did. -/
def partsCoverUptoRow : OpenClaim := { program := "ytdjeilbhdleopaagreat", sum := "e9917633c727c6a7556fe2625cce69fadd774c7c6d16859434f06cf0000d3883", func := "spence/spencelaw31.PartsCover", spec := "partsCover", inPlace := ["sync/atomic.StoreUint32", "sync/atomic.LoadUint32", "(*internal/sync.Mutex).Lock", "internal/race.Disable", "sync/atomic.CompareAndSwapInt32", "internal/race.Enable", "internal/race.Acquire", "(*internal/sync.Mutex).lockSlow", "internal/sync.runtime_canSpin", "internal/sync.runtime_doSpin", "internal/sync.throw", "internal/sync.runtime_nanotime", "internal/sync.runtime_SemacquireMutex", "sync/atomic.AddInt32", "(*internal/sync.Mutex).Unlock", "internal/race.ReleaseMerge", "(*internal/sync.Mutex).unlockSlow", "internal/sync.fatal", "internal/sync.runtime_Semrelease"], unfollowed := true, recurses := true, apart := false, narrowed := true }
def PartsCoverUptoSaid : Prop := partsCoverUptoRow.holds Tryz.pinned (OpenSpec.upto partsCoverSpec)

/-- 'spencelaw24.RpcWrites', WHERE WHAT IT READS IS OF BULK AT MOST 1048576: true; the input reads as it did. -/
def rpcWritesUptoRow : OpenClaim := { program := "ytdjeilbhdleopaagreat", sum := "e9917633c727c6a7556fe2625cce69fadd774c7c6d16859434f06cf0000d3883", func := "spence/spencelaw24.RpcWrites", spec := "rpcWrites", inPlace := ["sync/atomic.StoreUint32", "sync/atomic.LoadUint32", "(*internal/sync.Mutex).Lock", "internal/race.Disable", "sync/atomic.CompareAndSwapInt32", "internal/race.Enable", "internal/race.Acquire", "(*internal/sync.Mutex).lockSlow", "internal/sync.runtime_canSpin", "internal/sync.runtime_doSpin", "internal/sync.throw", "internal/sync.runtime_nanotime", "internal/sync.runtime_SemacquireMutex", "sync/atomic.AddInt32", "(*internal/sync.Mutex).Unlock", "internal/race.ReleaseMerge", "(*internal/sync.Mutex).unlockSlow", "internal/sync.fatal", "internal/sync.runtime_Semrelease", "internal/abi.NoEscape"], unfollowed := true, recurses := true, apart := false, narrowed := true }
def RpcWritesUptoSaid : Prop := rpcWritesUptoRow.holds Tryz.pinned (OpenSpec.upto rpcWritesSpec)

end Rows
end Go.Proofs.YtdjeilbhdleopaaGreat
