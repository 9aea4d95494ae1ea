/-
  Plain: old objects, upgraded; plain objects, as old ones.
-/
import Derived.Test.YtbjdiepceokmkaaGreatMc
namespace Go.AW
set_option linter.unusedVariables false

def upO (x : Os1) : Sb := ⟨⟨x.clk, false, ([], 0)⟩, [], x.dead, x.val⟩
def dnO (x : Sb) : Os1 := ⟨x.clk.ctx, x.dead, x.val⟩
def upgr (o : Od) : Oj × Int := if o.check ≠ 0 then (oj0, o.check) else osort o.key (o.sibs.map upO)
def Oj.plain (o : Oj) : Bool := decide (o.check = 0) && !(o.sibs.any fun x => x.clk.dotted || decide (0 < x.meta_.length))
def downg (o : Oj) : Od × Int := if o.plain = true then (⟨o.key, o.sibs.map dnO⟩, 0) else (od0, 1)
theorem dn_up (x : Os1) : dnO (upO x) = x := rfl
theorem osort_mem {key : List UInt8} {l : List Sb} {x : Sb} (h : x ∈ (osort key l).1.sibs) : x ∈ l := by
  by_cases hz : (osort key l).2 = 0
  · obtain ⟨_, _, h3, _⟩ := osort_zero hz
    rw [h3] at h
    exact (mem_isort slt).1 h
  · rw [osort_bad hz] at h
    exact (List.not_mem_nil h).elim
theorem osort_len (key : List UInt8) (l : List Sb) : (osort key l).1.sibs.length ≤ l.length := by
  by_cases hz : (osort key l).2 = 0
  · obtain ⟨_, _, h3, _⟩ := osort_zero hz
    rw [h3]
    simp [isort_len]
  · rw [osort_bad hz]; exact Nat.zero_le _
theorem osort_key (key : List UInt8) (l : List Sb) : (osort key l).1.key.length ≤ key.length := by
  by_cases hz : (osort key l).2 = 0
  · obtain ⟨_, _, h3, _⟩ := osort_zero hz
    rw [h3]; exact Nat.le_refl _
  · rw [osort_bad hz]; exact Nat.zero_le _
end Go.AW
