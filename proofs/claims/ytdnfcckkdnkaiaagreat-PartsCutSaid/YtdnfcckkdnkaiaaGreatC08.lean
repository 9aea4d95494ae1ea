/-
  members that are read: the program's.
-/
import Derived.Test.YtdnfcckkdnkaiaaGreatC07
set_option linter.unusedVariables false
set_option linter.unusedSimpArgs false
set_option maxHeartbeats 4000000
set_option maxRecDepth 10000
namespace Go.AW
open Go Go.Proofs
attribute [local irreducible] thenQ blockQ RetQ AL AW AC AOp
def Cu.tokg:Nat→Option Nat→Cu→List Nat × Cu
 | 0,_,c=>([],c)
 | n+1,p,c=>if c.e≠0 then ([],c) else ((c.tok p).1::(Cu.tokg n (some (c.tok p).1) (c.tok p).2).1,(Cu.tokg n (some (c.tok p).1) (c.tok p).2).2)
def Cu.memg(p:List UInt8)(c:Cu):Mb × Cu:=
 (⟨(c.actor 32 p).1,(c.actor 32 p).2.vnz.1,(c.actor 32 p).2.vnz.2.stt.1,(Cu.tokg ((c.actor 32 p).2.vnz.2.stt.2.count 16).1 none ((c.actor 32 p).2.vnz.2.stt.2.count 16).2).1⟩,
  (Cu.tokg ((c.actor 32 p).2.vnz.2.stt.2.count 16).1 none ((c.actor 32 p).2.vnz.2.stt.2.count 16).2).2)
end Go.AW
