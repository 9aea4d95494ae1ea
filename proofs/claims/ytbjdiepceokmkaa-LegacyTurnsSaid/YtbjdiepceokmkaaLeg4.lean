/-
  old objects that are read: the program's.
-/
import Derived.Test.YtbjdiepceokmkaaLeg3
namespace Go.AW
open Go Go.Proofs
set_option maxHeartbeats 2000000
set_option maxRecDepth 10000
set_option linter.unusedSimpArgs false
set_option linter.unusedVariables false
attribute [local irreducible] thenQ blockQ RetQ AL AW AC AOp

def onext (seen : List Vec) (x : Os1) : List Vec := seen ++ [x.clk]
theorem oss_snoc (l : List Os1) (x : Os1) : ossD l ++ [.l x.clk.length (vecD x.clk), .s (.bool x.dead), .s (.string ⟨x.val.toArray⟩)] = ossD (l ++ [x]) := by
  simp only [ossD, List.map_append, List.flatten_append, List.map_cons, List.map_nil, List.flatten_cons, List.flatten_nil, List.append_nil]; rfl
theorem snoc_len {α : Type} (l : List α) (x : α) : (l ++ [x]).length = l.length + 1 := by simp
theorem old_eq {s key : List UInt8} {c1 q1 c2 q2 : Cu} {n : Nat} (hb : Cu.blob ⟨s, 0, 0⟩ 128 = (key, c1)) (h1 : gd (decide (key ≠ [])) 14 c1 = q1) (hn : q1.count 16 = (n, c2)) (h2 : gd (decide (n ≠ 0)) 7 c2 = q2) :
    Cu.old ⟨s, 0, 0⟩ = (⟨key, (Cu.olds n [] q2).1⟩, (Cu.olds n [] q2).2) := by
  have e1 : Cu.okey ⟨s, 0, 0⟩ = (key, q1) := by unfold Cu.okey; rw [hb, ← h1]
  have e2 : q1.ocnt = (n, q2) := by unfold Cu.ocnt; rw [hn, ← h2]
  unfold Cu.old Cu.old0 rseq
  rw [e1]
  simp only
  unfold Cu.oldl
  rw [e2]
theorem oldw_eq {s key : List UInt8} {c : Cu} {l : List Os1} (h : Cu.old ⟨s, 0, 0⟩ = (⟨key, l⟩, c)) : oldw s = (if c.fin.e ≠ 0 then od0 else ⟨key, l⟩, c.fin.e) := by
  unfold oldw
  rw [h]
theorem os1_eq {c c1 c2 c3 q : Cu} {v : Vec} {f : Bool} {t : List UInt8} {seen : List Vec} (h1 : c.vec = (v, c1)) (h2 : c1.flag = (f, c2)) (h3 : c2.blob 32768 = (t, c3)) (h4 : gd (decide (v ∉ seen)) 6 c3 = q) : Cu.os1 seen c = (⟨v, f, t⟩, q) := by
  unfold Cu.os1 Cu.os0 rseq
  simp only [h1, h2, h3, h4]
theorem any_clk (l : List Os1) (v : Vec) : (l.any fun y => decide (y.clk = v)) = decide (v ∈ l.map Os1.clk) := by
  rw [Bool.eq_iff_iff, List.any_eq_true, decide_eq_true_eq, List.mem_map]
  simp only [decide_eq_true_eq]

end Go.AW
