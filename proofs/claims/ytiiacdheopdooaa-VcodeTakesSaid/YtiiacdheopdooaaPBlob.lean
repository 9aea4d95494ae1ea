/-
  Plain: texts with their lengths ahead, counts, flags.
-/
import Derived.Test.YtiiacdheopdooaaPVarint
import Derived.Test.YtiiacdheopdooaaPPen
namespace Go.AW

def Cu.count (c : Cu) (max : Int) : Nat × Cu :=
  if c.vtake.2.e ≠ 0 then (0, c.vtake.2) else if max.toNat < c.vtake.1 then (0, c.vtake.2.fail 3) else c.vtake
def Cu.blob (c : Cu) (max : Int) : List UInt8 × Cu := (c.count max).2.bytes (c.count max).1
def Cu.flag (c : Cu) : Bool × Cu := (decide (c.byte.1 = 1), if 1 < c.byte.1 then c.byte.2.fail 13 else c.byte.2)
def Pe.blob (p : Pe) (max : Int) (s : List UInt8) : Pe := if max.toNat < s.length then p.fail 3 else (p.text (vput s.length)).text s
def Pe.blobs (p : Pe) (max : Int) (l : List (List UInt8)) : Pe := l.foldl (fun p s => p.blob max s) p
def Pe.count (p : Pe) (max n : Int) : Pe := if n < 0 then p.fail 1 else if max.toNat < n then p.fail 3 else p.text (vput n.toNat)
def Pe.flag (p : Pe) (b : Bool) : Pe := p.text [if b then 1 else 0]

theorem Cu.count_ok {c : Cu} {max : Int} (h : c.Ok) : (c.count max).2.Ok := by
  unfold Cu.count
  split
  · exact Cu.vtake_ok h
  split
  · exact Cu.fail_ok (Cu.vtake_ok h)
  · exact Cu.vtake_ok h
theorem Cu.blob_ok {c : Cu} {max : Int} (h : c.Ok) : (c.blob max).2.Ok := Cu.bytes_ok (Cu.count_ok h)
theorem Cu.flag_ok {c : Cu} (h : c.Ok) : c.flag.2.Ok := by
  unfold Cu.flag
  show (if 1 < c.byte.1 then c.byte.2.fail 13 else c.byte.2).Ok
  split
  · exact Cu.fail_ok (Cu.byte_ok h)
  · exact Cu.byte_ok h
theorem Cu.count_lt (c : Cu) (max : Int) (hm : max ≤ 9223372036854775807) : (c.count max).1 ≤ 9223372036854775807 := by
  unfold Cu.count
  split
  · exact Nat.zero_le _
  split
  · exact Nat.zero_le _
  · omega
theorem Pe.blob_len (p : Pe) (max : Int) (s : List UInt8) (h : s.length < 18446744073709551616) : (p.blob max s).b.length ≤ p.b.length + 10 + s.length := by
  unfold Pe.blob
  split
  · show p.b.length ≤ _; omega
  · have h1 := Pe.text_len (p.text (vput s.length)) s
    have h2 := Pe.text_len p (vput s.length)
    have h3 := vput_len10 h
    omega
theorem Pe.blob_m (p : Pe) (max : Int) (s : List UInt8) : (p.blob max s).m = p.m := by
  unfold Pe.blob
  split
  · rfl
  · rw [Pe.text_m, Pe.text_m]
theorem Pe.blob_ok {p : Pe} {max : Int} {s : List UInt8} (h : p.Ok) (hs : p.m ≤ 140737488355328 ∨ p.b.length + 10 + s.length ≤ 140737488355328) (hv : s.length < 18446744073709551616) : (p.blob max s).Ok := by
  unfold Pe.blob
  split
  · exact h
  · have h1 := Pe.text_len p (vput s.length)
    have h2 := Pe.text_m p (vput s.length)
    have h3 := vput_len10 hv
    exact Pe.text_ok (Pe.text_ok h (by omega)) (by omega)
theorem Pe.text_stuck {p : Pe} (h : p.e ≠ 0) (s : List UInt8) : p.text s = p := by unfold Pe.text; rw [if_pos h]
theorem Pe.fail_stuck {p : Pe} (h : p.e ≠ 0) (f : Int) : p.fail f = p := by unfold Pe.fail; rw [if_neg h]
theorem Pe.blob_stuck {p : Pe} (h : p.e ≠ 0) (max : Int) (s : List UInt8) : p.blob max s = p := by
  unfold Pe.blob
  rw [Pe.fail_stuck h, Pe.text_stuck h, Pe.text_stuck h, ite_self]
theorem Pe.blobs_stuck {p : Pe} (h : p.e ≠ 0) (max : Int) : ∀ l, p.blobs max l = p
  | [] => rfl
  | s :: l => by
    show (p.blob max s).blobs max l = p
    rw [Pe.blob_stuck h]
    exact Pe.blobs_stuck h max l
theorem Pe.blobs_snoc (p : Pe) (max : Int) (l : List (List UInt8)) (s : List UInt8) : p.blobs max (l ++ [s]) = (p.blobs max l).blob max s := by
  simp [Pe.blobs, List.foldl_append]
theorem Pe.blobs_append (p : Pe) (max : Int) (l m : List (List UInt8)) : p.blobs max (l ++ m) = (p.blobs max l).blobs max m := by
  simp [Pe.blobs, List.foldl_append]
theorem Pe.blobs_m (max : Int) : ∀ (l : List (List UInt8)) (p : Pe), (p.blobs max l).m = p.m
  | [], p => rfl
  | s :: l, p => by
    show ((p.blob max s).blobs max l).m = _
    rw [Pe.blobs_m max l, Pe.blob_m]
theorem Pe.blobs_ok {max : Int} : ∀ (l : List (List UInt8)) {p : Pe}, p.Ok → (∀ s ∈ l, s.length < 18446744073709551616) → (p.m ≤ 140737488355328 ∨ p.b.length + 10 * l.length + l.flatten.length ≤ 140737488355328) →
    (p.blobs max l).Ok ∧ (p.blobs max l).b.length ≤ p.b.length + 10 * l.length + l.flatten.length
  | [], p, h, _, _ => ⟨h, by show p.b.length ≤ _; omega⟩
  | s :: l, p, h, hv, hs => by
    simp only [List.flatten_cons, List.length_append, List.length_cons] at hs
    have h1 := hv s List.mem_cons_self
    have h2 := Pe.blob_len p max s h1
    have h3 := Pe.blob_m p max s
    have := Pe.blobs_ok (max := max) l (p := p.blob max s) (Pe.blob_ok h (by omega) h1) (fun x hx => hv x (List.mem_cons_of_mem _ hx)) (by omega)
    refine ⟨this.1, ?_⟩
    have h3 := this.2
    show ((p.blob max s).blobs max l).b.length ≤ _
    simp only [List.flatten_cons, List.length_append, List.length_cons]
    omega
attribute [irreducible] Cu.flag Cu.blob Cu.count
end Go.AW
