/-
  parts: of a payload.
-/
import Derived.Test.YtdjeilbhdleopaaGreatP17
set_option linter.unusedVariables false
set_option linter.unusedSimpArgs false
set_option maxHeartbeats 4000000
set_option maxRecDepth 10000
namespace Go.AW
open Go Go.Proofs
attribute [local irreducible] thenQ blockQ RetQ AL AW AC AOp
theorem parts_ok {l : List Prd} (h : ∀ x ∈ l, ∀ c : Cu, c.Ok → (x.2 c).Ok) (s : List UInt8) (hs : s.length ≤ 140737488351232) : (spansr l ⟨s, 0, 0⟩).2.Ok := spansr_ok l _ h ⟨hs, Nat.zero_le _⟩
theorem pay_1 (v : Nat) (hv : v = 1 ∨ v = 2) (hh : AC Tryz.prog 95 [iv .u8 (v : Nat), iv .u8 1] [] fun y σ => y = bv true ∧ σ = []) (s : List UInt8) (hs : s.length ≤ 140737488351232) : AC Tryz.prog 37 [iv .u8 (v : Nat), iv .u8 1, sv (bs s)] [] fun y σ => y = .t [.d (.l (spansr [(nId, fun c => (Cu.vtake c).2), (nKey, fun c => (Cu.okey c).2)] ⟨s, 0, 0⟩).1.length (spnsD (spansr [(nId, fun c => (Cu.vtake c).2), (nKey, fun c => (Cu.okey c).2)] ⟨s, 0, 0⟩).1)), iv .i64 (spansr [(nId, fun c => (Cu.vtake c).2), (nKey, fun c => (Cu.okey c).2)] ⟨s, 0, 0⟩).2.fin.e] ∧ σ = [] := by
  refine AC.wk Tryz.func37 ?_
  have hok0 : Cu.Ok ⟨s, 0, 0⟩ := ⟨hs, Nat.zero_le _⟩
  have hnew := @cursor_New s
  have hvt := varint_Take s 0 0 hok0
  have ok1 := Cu.vtake_ok hok0
  have hrd := read_1 ⟨s, 0, 0⟩ hok0
  have hRok : (spansr [(nId, fun c => (Cu.vtake c).2), (nKey, fun c => (Cu.okey c).2)] ⟨s, 0, 0⟩).2.Ok := parts_ok (by
    intro x hx c hok
    simp only [List.mem_cons, List.not_mem_nil, or_false] at hx
    rcases hx with rfl | rfl
    · exact Cu.vtake_ok hok
    · exact gd_ok (Cu.blob_ok hok)) s hs
  generalize spansr [(nId, fun c => (Cu.vtake c).2), (nKey, fun c => (Cu.okey c).2)] ⟨s, 0, 0⟩ = R at *
  obtain ⟨sp, c2⟩ := R
  simp only at hrd hRok ⊢
  have hen := cursor_End c2.s c2.a c2.e hRok
  rw [show Cu.fin ⟨c2.s, c2.a, c2.e⟩ = Cu.fin c2 from rfl] at hen
  generalize Cu.fin c2 = d at *
  generalize Cu.vtake ⟨s, 0, 0⟩ = z at *
  obtain ⟨q, c1⟩ := z
  simp only at hvt ok1
  have hfl := blob_Flag c1.s c1.a c1.e ok1
  rw [show Cu.flag ⟨c1.s, c1.a, c1.e⟩ = Cu.flag c1 from rfl] at hfl
  generalize Cu.flag c1 = z at *
  obtain ⟨b, c3⟩ := z
  simp only at hfl
  have hli := list_1 v b
  (have kk1 := uN [] hh; have kk2 := uN [] hnew; have kk3 := uN [0] hvt; have kk4 := uN [0] hfl; have kk5 := uN [] hli; have kk6 := uN [1, 7] hrd; have kk7 := uN [1] hen; exact Wc0)
theorem pay_2n (v : Nat) (hv : v = 1 ∨ v = 2) (hh : AC Tryz.prog 95 [iv .u8 (v : Nat), iv .u8 2] [] fun y σ => y = bv true ∧ σ = []) (s : List UInt8) (hs : s.length ≤ 140737488351232) (hf : (Cu.vtake ⟨s, 0, 0⟩).2.flag.1 = false) : AC Tryz.prog 37 [iv .u8 (v : Nat), iv .u8 2, sv (bs s)] [] fun y σ => y = .t [.d (.l (spansr [(nId, fun c => (Cu.vtake c).2), (nFound, fun c => (Cu.flag c).2)] ⟨s, 0, 0⟩).1.length (spnsD (spansr [(nId, fun c => (Cu.vtake c).2), (nFound, fun c => (Cu.flag c).2)] ⟨s, 0, 0⟩).1)), iv .i64 (spansr [(nId, fun c => (Cu.vtake c).2), (nFound, fun c => (Cu.flag c).2)] ⟨s, 0, 0⟩).2.fin.e] ∧ σ = [] := by
  refine AC.wk Tryz.func37 ?_
  have hok0 : Cu.Ok ⟨s, 0, 0⟩ := ⟨hs, Nat.zero_le _⟩
  have hnew := @cursor_New s
  have hvt := varint_Take s 0 0 hok0
  have ok1 := Cu.vtake_ok hok0
  have hrd := read_2n ⟨s, 0, 0⟩ hok0
  have hRok : (spansr [(nId, fun c => (Cu.vtake c).2), (nFound, fun c => (Cu.flag c).2)] ⟨s, 0, 0⟩).2.Ok := parts_ok (by
    intro x hx c hok
    simp only [List.mem_cons, List.not_mem_nil, or_false] at hx
    rcases hx with rfl | rfl
    · exact Cu.vtake_ok hok
    · exact Cu.flag_ok hok) s hs
  generalize spansr [(nId, fun c => (Cu.vtake c).2), (nFound, fun c => (Cu.flag c).2)] ⟨s, 0, 0⟩ = R at *
  obtain ⟨sp, c2⟩ := R
  simp only at hrd hRok ⊢
  have hen := cursor_End c2.s c2.a c2.e hRok
  rw [show Cu.fin ⟨c2.s, c2.a, c2.e⟩ = Cu.fin c2 from rfl] at hen
  generalize Cu.fin c2 = d at *
  generalize Cu.vtake ⟨s, 0, 0⟩ = z at *
  obtain ⟨q, c1⟩ := z
  simp only at hvt ok1 hf
  have hfl := blob_Flag c1.s c1.a c1.e ok1
  rw [show Cu.flag ⟨c1.s, c1.a, c1.e⟩ = Cu.flag c1 from rfl] at hfl
  rw [hf] at hfl
  generalize Cu.flag c1 = z at *
  obtain ⟨b, c3⟩ := z
  simp only at hfl hf
  clear hf
  have hli := list_2n v
  (have kk1 := uN [] hh; have kk2 := uN [] hnew; have kk3 := uN [0] hvt; have kk4 := uN [0] hfl; have kk5 := uN [] hli; have kk6 := uN [1, 7] hrd; have kk7 := uN [1] hen; exact Wc0)
theorem pay_2f1 (hh : AC Tryz.prog 95 [iv .u8 1, iv .u8 2] [] fun y σ => y = bv true ∧ σ = []) (s : List UInt8) (hs : s.length ≤ 140737488351232) (hf : (Cu.vtake ⟨s, 0, 0⟩).2.flag.1 = true) : AC Tryz.prog 37 [iv .u8 1, iv .u8 2, sv (bs s)] [] fun y σ => y = .t [.d (.l (spansr [(nId, fun c => (Cu.vtake c).2), (nFound, fun c => (Cu.flag c).2), (nOld, fun c => (Cu.blob c 65536).2)] ⟨s, 0, 0⟩).1.length (spnsD (spansr [(nId, fun c => (Cu.vtake c).2), (nFound, fun c => (Cu.flag c).2), (nOld, fun c => (Cu.blob c 65536).2)] ⟨s, 0, 0⟩).1)), iv .i64 (spansr [(nId, fun c => (Cu.vtake c).2), (nFound, fun c => (Cu.flag c).2), (nOld, fun c => (Cu.blob c 65536).2)] ⟨s, 0, 0⟩).2.fin.e] ∧ σ = [] := by
  refine AC.wk Tryz.func37 ?_
  have hok0 : Cu.Ok ⟨s, 0, 0⟩ := ⟨hs, Nat.zero_le _⟩
  have hnew := @cursor_New s
  have hvt := varint_Take s 0 0 hok0
  have ok1 := Cu.vtake_ok hok0
  have hrd := read_2f ⟨s, 0, 0⟩ hok0 nOld
  have hRok : (spansr [(nId, fun c => (Cu.vtake c).2), (nFound, fun c => (Cu.flag c).2), (nOld, fun c => (Cu.blob c 65536).2)] ⟨s, 0, 0⟩).2.Ok := parts_ok (by
    intro x hx c hok
    simp only [List.mem_cons, List.not_mem_nil, or_false] at hx
    rcases hx with rfl | rfl | rfl
    · exact Cu.vtake_ok hok
    · exact Cu.flag_ok hok
    · exact Cu.blob_ok hok) s hs
  generalize spansr [(nId, fun c => (Cu.vtake c).2), (nFound, fun c => (Cu.flag c).2), (nOld, fun c => (Cu.blob c 65536).2)] ⟨s, 0, 0⟩ = R at *
  obtain ⟨sp, c2⟩ := R
  simp only at hrd hRok ⊢
  have hen := cursor_End c2.s c2.a c2.e hRok
  rw [show Cu.fin ⟨c2.s, c2.a, c2.e⟩ = Cu.fin c2 from rfl] at hen
  generalize Cu.fin c2 = d at *
  generalize Cu.vtake ⟨s, 0, 0⟩ = z at *
  obtain ⟨q, c1⟩ := z
  simp only at hvt ok1 hf
  have hfl := blob_Flag c1.s c1.a c1.e ok1
  rw [show Cu.flag ⟨c1.s, c1.a, c1.e⟩ = Cu.flag c1 from rfl] at hfl
  rw [hf] at hfl
  generalize Cu.flag c1 = z at *
  obtain ⟨b, c3⟩ := z
  simp only at hfl hf
  clear hf
  have hli := list_2f1
  (have kk1 := uN [] hh; have kk2 := uN [] hnew; have kk3 := uN [0] hvt; have kk4 := uN [0] hfl; have kk5 := uN [] hli; have kk6 := uN [1, 4, 9] hrd; have kk7 := uN [1] hen; exact Wc0)
theorem pay_2f2 (hh : AC Tryz.prog 95 [iv .u8 2, iv .u8 2] [] fun y σ => y = bv true ∧ σ = []) (s : List UInt8) (hs : s.length ≤ 140737488351232) (hf : (Cu.vtake ⟨s, 0, 0⟩).2.flag.1 = true) : AC Tryz.prog 37 [iv .u8 2, iv .u8 2, sv (bs s)] [] fun y σ => y = .t [.d (.l (spansr [(nId, fun c => (Cu.vtake c).2), (nFound, fun c => (Cu.flag c).2), (nObject, fun c => (Cu.blob c 65536).2)] ⟨s, 0, 0⟩).1.length (spnsD (spansr [(nId, fun c => (Cu.vtake c).2), (nFound, fun c => (Cu.flag c).2), (nObject, fun c => (Cu.blob c 65536).2)] ⟨s, 0, 0⟩).1)), iv .i64 (spansr [(nId, fun c => (Cu.vtake c).2), (nFound, fun c => (Cu.flag c).2), (nObject, fun c => (Cu.blob c 65536).2)] ⟨s, 0, 0⟩).2.fin.e] ∧ σ = [] := by
  refine AC.wk Tryz.func37 ?_
  have hok0 : Cu.Ok ⟨s, 0, 0⟩ := ⟨hs, Nat.zero_le _⟩
  have hnew := @cursor_New s
  have hvt := varint_Take s 0 0 hok0
  have ok1 := Cu.vtake_ok hok0
  have hrd := read_2f ⟨s, 0, 0⟩ hok0 nObject
  have hRok : (spansr [(nId, fun c => (Cu.vtake c).2), (nFound, fun c => (Cu.flag c).2), (nObject, fun c => (Cu.blob c 65536).2)] ⟨s, 0, 0⟩).2.Ok := parts_ok (by
    intro x hx c hok
    simp only [List.mem_cons, List.not_mem_nil, or_false] at hx
    rcases hx with rfl | rfl | rfl
    · exact Cu.vtake_ok hok
    · exact Cu.flag_ok hok
    · exact Cu.blob_ok hok) s hs
  generalize spansr [(nId, fun c => (Cu.vtake c).2), (nFound, fun c => (Cu.flag c).2), (nObject, fun c => (Cu.blob c 65536).2)] ⟨s, 0, 0⟩ = R at *
  obtain ⟨sp, c2⟩ := R
  simp only at hrd hRok ⊢
  have hen := cursor_End c2.s c2.a c2.e hRok
  rw [show Cu.fin ⟨c2.s, c2.a, c2.e⟩ = Cu.fin c2 from rfl] at hen
  generalize Cu.fin c2 = d at *
  generalize Cu.vtake ⟨s, 0, 0⟩ = z at *
  obtain ⟨q, c1⟩ := z
  simp only at hvt ok1 hf
  have hfl := blob_Flag c1.s c1.a c1.e ok1
  rw [show Cu.flag ⟨c1.s, c1.a, c1.e⟩ = Cu.flag c1 from rfl] at hfl
  rw [hf] at hfl
  generalize Cu.flag c1 = z at *
  obtain ⟨b, c3⟩ := z
  simp only at hfl hf
  clear hf
  have hli := list_2f2
  (have kk1 := uN [] hh; have kk2 := uN [] hnew; have kk3 := uN [0] hvt; have kk4 := uN [0] hfl; have kk5 := uN [] hli; have kk6 := uN [1, 4, 9] hrd; have kk7 := uN [1] hen; exact Wc0)
theorem pay_3 (v : Nat) (hv : v = 1 ∨ v = 2) (hh : AC Tryz.prog 95 [iv .u8 (v : Nat), iv .u8 3] [] fun y σ => y = bv true ∧ σ = []) (s : List UInt8) (hs : s.length ≤ 140737488351232) : AC Tryz.prog 37 [iv .u8 (v : Nat), iv .u8 3, sv (bs s)] [] fun y σ => y = .t [.d (.l (spansr [(nId, fun c => (Cu.vtake c).2), (nKey, fun c => (Cu.okey c).2), (nCtx, fun c => (Cu.vec c).2), (nMeta, fun c => (Cu.prs c).2), (nDead, fun c => (Cu.flag c).2), (nValue, fun c => (Cu.blob c 32768).2)] ⟨s, 0, 0⟩).1.length (spnsD (spansr [(nId, fun c => (Cu.vtake c).2), (nKey, fun c => (Cu.okey c).2), (nCtx, fun c => (Cu.vec c).2), (nMeta, fun c => (Cu.prs c).2), (nDead, fun c => (Cu.flag c).2), (nValue, fun c => (Cu.blob c 32768).2)] ⟨s, 0, 0⟩).1)), iv .i64 (spansr [(nId, fun c => (Cu.vtake c).2), (nKey, fun c => (Cu.okey c).2), (nCtx, fun c => (Cu.vec c).2), (nMeta, fun c => (Cu.prs c).2), (nDead, fun c => (Cu.flag c).2), (nValue, fun c => (Cu.blob c 32768).2)] ⟨s, 0, 0⟩).2.fin.e] ∧ σ = [] := by
  refine AC.wk Tryz.func37 ?_
  have hok0 : Cu.Ok ⟨s, 0, 0⟩ := ⟨hs, Nat.zero_le _⟩
  have hnew := @cursor_New s
  have hvt := varint_Take s 0 0 hok0
  have ok1 := Cu.vtake_ok hok0
  have hrd := read_3 ⟨s, 0, 0⟩ hok0
  have hRok : (spansr [(nId, fun c => (Cu.vtake c).2), (nKey, fun c => (Cu.okey c).2), (nCtx, fun c => (Cu.vec c).2), (nMeta, fun c => (Cu.prs c).2), (nDead, fun c => (Cu.flag c).2), (nValue, fun c => (Cu.blob c 32768).2)] ⟨s, 0, 0⟩).2.Ok := parts_ok (by
    intro x hx c hok
    simp only [List.mem_cons, List.not_mem_nil, or_false] at hx
    rcases hx with rfl | rfl | rfl | rfl | rfl | rfl
    · exact Cu.vtake_ok hok
    · exact gd_ok (Cu.blob_ok hok)
    · exact Cu.vec_ok hok
    · exact Cu.prs_ok hok
    · exact Cu.flag_ok hok
    · exact Cu.blob_ok hok) s hs
  generalize spansr [(nId, fun c => (Cu.vtake c).2), (nKey, fun c => (Cu.okey c).2), (nCtx, fun c => (Cu.vec c).2), (nMeta, fun c => (Cu.prs c).2), (nDead, fun c => (Cu.flag c).2), (nValue, fun c => (Cu.blob c 32768).2)] ⟨s, 0, 0⟩ = R at *
  obtain ⟨sp, c2⟩ := R
  simp only at hrd hRok ⊢
  have hen := cursor_End c2.s c2.a c2.e hRok
  rw [show Cu.fin ⟨c2.s, c2.a, c2.e⟩ = Cu.fin c2 from rfl] at hen
  generalize Cu.fin c2 = d at *
  generalize Cu.vtake ⟨s, 0, 0⟩ = z at *
  obtain ⟨q, c1⟩ := z
  simp only at hvt ok1
  have hfl := blob_Flag c1.s c1.a c1.e ok1
  rw [show Cu.flag ⟨c1.s, c1.a, c1.e⟩ = Cu.flag c1 from rfl] at hfl
  generalize Cu.flag c1 = z at *
  obtain ⟨b, c3⟩ := z
  simp only at hfl
  have hli := list_3 v b
  (have kk1 := uN [] hh; have kk2 := uN [] hnew; have kk3 := uN [0] hvt; have kk4 := uN [0] hfl; have kk5 := uN [] hli; have kk6 := uN [1, 6, 8] hrd; have kk7 := uN [1] hen; exact Wc0)
theorem pay_4 (v : Nat) (hv : v = 1 ∨ v = 2) (hh : AC Tryz.prog 95 [iv .u8 (v : Nat), iv .u8 4] [] fun y σ => y = bv true ∧ σ = []) (s : List UInt8) (hs : s.length ≤ 140737488351232) : AC Tryz.prog 37 [iv .u8 (v : Nat), iv .u8 4, sv (bs s)] [] fun y σ => y = .t [.d (.l (spansr [(nId, fun c => (Cu.vtake c).2), (nCtx, fun c => (Cu.vec c).2)] ⟨s, 0, 0⟩).1.length (spnsD (spansr [(nId, fun c => (Cu.vtake c).2), (nCtx, fun c => (Cu.vec c).2)] ⟨s, 0, 0⟩).1)), iv .i64 (spansr [(nId, fun c => (Cu.vtake c).2), (nCtx, fun c => (Cu.vec c).2)] ⟨s, 0, 0⟩).2.fin.e] ∧ σ = [] := by
  refine AC.wk Tryz.func37 ?_
  have hok0 : Cu.Ok ⟨s, 0, 0⟩ := ⟨hs, Nat.zero_le _⟩
  have hnew := @cursor_New s
  have hvt := varint_Take s 0 0 hok0
  have ok1 := Cu.vtake_ok hok0
  have hrd := read_4 ⟨s, 0, 0⟩ hok0
  have hRok : (spansr [(nId, fun c => (Cu.vtake c).2), (nCtx, fun c => (Cu.vec c).2)] ⟨s, 0, 0⟩).2.Ok := parts_ok (by
    intro x hx c hok
    simp only [List.mem_cons, List.not_mem_nil, or_false] at hx
    rcases hx with rfl | rfl
    · exact Cu.vtake_ok hok
    · exact Cu.vec_ok hok) s hs
  generalize spansr [(nId, fun c => (Cu.vtake c).2), (nCtx, fun c => (Cu.vec c).2)] ⟨s, 0, 0⟩ = R at *
  obtain ⟨sp, c2⟩ := R
  simp only at hrd hRok ⊢
  have hen := cursor_End c2.s c2.a c2.e hRok
  rw [show Cu.fin ⟨c2.s, c2.a, c2.e⟩ = Cu.fin c2 from rfl] at hen
  generalize Cu.fin c2 = d at *
  generalize Cu.vtake ⟨s, 0, 0⟩ = z at *
  obtain ⟨q, c1⟩ := z
  simp only at hvt ok1
  have hfl := blob_Flag c1.s c1.a c1.e ok1
  rw [show Cu.flag ⟨c1.s, c1.a, c1.e⟩ = Cu.flag c1 from rfl] at hfl
  generalize Cu.flag c1 = z at *
  obtain ⟨b, c3⟩ := z
  simp only at hfl
  have hli := list_4 v b
  (have kk1 := uN [] hh; have kk2 := uN [] hnew; have kk3 := uN [0] hvt; have kk4 := uN [0] hfl; have kk5 := uN [] hli; have kk6 := uN [1, 7] hrd; have kk7 := uN [1] hen; exact Wc0)
theorem pay_5 (v : Nat) (hv : v = 1 ∨ v = 2) (hh : AC Tryz.prog 95 [iv .u8 (v : Nat), iv .u8 5] [] fun y σ => y = bv true ∧ σ = []) (s : List UInt8) (hs : s.length ≤ 140737488351232) : AC Tryz.prog 37 [iv .u8 (v : Nat), iv .u8 5, sv (bs s)] [] fun y σ => y = .t [.d (.l (spansr [(nId, fun c => (Cu.vtake c).2), (nPrefix, fun c => (Cu.blob c 31).2)] ⟨s, 0, 0⟩).1.length (spnsD (spansr [(nId, fun c => (Cu.vtake c).2), (nPrefix, fun c => (Cu.blob c 31).2)] ⟨s, 0, 0⟩).1)), iv .i64 (spansr [(nId, fun c => (Cu.vtake c).2), (nPrefix, fun c => (Cu.blob c 31).2)] ⟨s, 0, 0⟩).2.fin.e] ∧ σ = [] := by
  refine AC.wk Tryz.func37 ?_
  have hok0 : Cu.Ok ⟨s, 0, 0⟩ := ⟨hs, Nat.zero_le _⟩
  have hnew := @cursor_New s
  have hvt := varint_Take s 0 0 hok0
  have ok1 := Cu.vtake_ok hok0
  have hrd := read_5 ⟨s, 0, 0⟩ hok0
  have hRok : (spansr [(nId, fun c => (Cu.vtake c).2), (nPrefix, fun c => (Cu.blob c 31).2)] ⟨s, 0, 0⟩).2.Ok := parts_ok (by
    intro x hx c hok
    simp only [List.mem_cons, List.not_mem_nil, or_false] at hx
    rcases hx with rfl | rfl
    · exact Cu.vtake_ok hok
    · exact Cu.blob_ok hok) s hs
  generalize spansr [(nId, fun c => (Cu.vtake c).2), (nPrefix, fun c => (Cu.blob c 31).2)] ⟨s, 0, 0⟩ = R at *
  obtain ⟨sp, c2⟩ := R
  simp only at hrd hRok ⊢
  have hen := cursor_End c2.s c2.a c2.e hRok
  rw [show Cu.fin ⟨c2.s, c2.a, c2.e⟩ = Cu.fin c2 from rfl] at hen
  generalize Cu.fin c2 = d at *
  generalize Cu.vtake ⟨s, 0, 0⟩ = z at *
  obtain ⟨q, c1⟩ := z
  simp only at hvt ok1
  have hfl := blob_Flag c1.s c1.a c1.e ok1
  rw [show Cu.flag ⟨c1.s, c1.a, c1.e⟩ = Cu.flag c1 from rfl] at hfl
  generalize Cu.flag c1 = z at *
  obtain ⟨b, c3⟩ := z
  simp only at hfl
  have hli := list_5 v b
  (have kk1 := uN [] hh; have kk2 := uN [] hnew; have kk3 := uN [0] hvt; have kk4 := uN [0] hfl; have kk5 := uN [] hli; have kk6 := uN [1, 6, 8] hrd; have kk7 := uN [1] hen; exact Wc0)
theorem pay_6 (v : Nat) (hv : v = 1 ∨ v = 2) (hh : AC Tryz.prog 95 [iv .u8 (v : Nat), iv .u8 6] [] fun y σ => y = bv true ∧ σ = []) (s : List UInt8) (hs : s.length ≤ 140737488351232) : AC Tryz.prog 37 [iv .u8 (v : Nat), iv .u8 6, sv (bs s)] [] fun y σ => y = .t [.d (.l (spansr [(nId, fun c => (Cu.vtake c).2), (nPage, fun c => (Cu.page c).2)] ⟨s, 0, 0⟩).1.length (spnsD (spansr [(nId, fun c => (Cu.vtake c).2), (nPage, fun c => (Cu.page c).2)] ⟨s, 0, 0⟩).1)), iv .i64 (spansr [(nId, fun c => (Cu.vtake c).2), (nPage, fun c => (Cu.page c).2)] ⟨s, 0, 0⟩).2.fin.e] ∧ σ = [] := by
  refine AC.wk Tryz.func37 ?_
  have hok0 : Cu.Ok ⟨s, 0, 0⟩ := ⟨hs, Nat.zero_le _⟩
  have hnew := @cursor_New s
  have hvt := varint_Take s 0 0 hok0
  have ok1 := Cu.vtake_ok hok0
  have hrd := read_6 ⟨s, 0, 0⟩ hok0
  have hRok : (spansr [(nId, fun c => (Cu.vtake c).2), (nPage, fun c => (Cu.page c).2)] ⟨s, 0, 0⟩).2.Ok := parts_ok (by
    intro x hx c hok
    simp only [List.mem_cons, List.not_mem_nil, or_false] at hx
    rcases hx with rfl | rfl
    · exact Cu.vtake_ok hok
    · exact Cu.page_ok hok) s hs
  generalize spansr [(nId, fun c => (Cu.vtake c).2), (nPage, fun c => (Cu.page c).2)] ⟨s, 0, 0⟩ = R at *
  obtain ⟨sp, c2⟩ := R
  simp only at hrd hRok ⊢
  have hen := cursor_End c2.s c2.a c2.e hRok
  rw [show Cu.fin ⟨c2.s, c2.a, c2.e⟩ = Cu.fin c2 from rfl] at hen
  generalize Cu.fin c2 = d at *
  generalize Cu.vtake ⟨s, 0, 0⟩ = z at *
  obtain ⟨q, c1⟩ := z
  simp only at hvt ok1
  have hfl := blob_Flag c1.s c1.a c1.e ok1
  rw [show Cu.flag ⟨c1.s, c1.a, c1.e⟩ = Cu.flag c1 from rfl] at hfl
  generalize Cu.flag c1 = z at *
  obtain ⟨b, c3⟩ := z
  simp only at hfl
  have hli := list_6 v b
  (have kk1 := uN [] hh; have kk2 := uN [] hnew; have kk3 := uN [0] hvt; have kk4 := uN [0] hfl; have kk5 := uN [] hli; have kk6 := uN [1, 7] hrd; have kk7 := uN [1] hen; exact Wc0)
theorem pay_7 (v : Nat) (hv : v = 1 ∨ v = 2) (hh : AC Tryz.prog 95 [iv .u8 (v : Nat), iv .u8 7] [] fun y σ => y = bv true ∧ σ = []) (s : List UInt8) (hs : s.length ≤ 140737488351232) : AC Tryz.prog 37 [iv .u8 (v : Nat), iv .u8 7, sv (bs s)] [] fun y σ => y = .t [.d (.l (spansr [(nId, fun c => (Cu.vtake c).2), (nRing, fun c => (Cu.ring c).2)] ⟨s, 0, 0⟩).1.length (spnsD (spansr [(nId, fun c => (Cu.vtake c).2), (nRing, fun c => (Cu.ring c).2)] ⟨s, 0, 0⟩).1)), iv .i64 (spansr [(nId, fun c => (Cu.vtake c).2), (nRing, fun c => (Cu.ring c).2)] ⟨s, 0, 0⟩).2.fin.e] ∧ σ = [] := by
  refine AC.wk Tryz.func37 ?_
  have hok0 : Cu.Ok ⟨s, 0, 0⟩ := ⟨hs, Nat.zero_le _⟩
  have hnew := @cursor_New s
  have hvt := varint_Take s 0 0 hok0
  have ok1 := Cu.vtake_ok hok0
  have hrd := read_7 ⟨s, 0, 0⟩ hok0
  have hRok : (spansr [(nId, fun c => (Cu.vtake c).2), (nRing, fun c => (Cu.ring c).2)] ⟨s, 0, 0⟩).2.Ok := parts_ok (by
    intro x hx c hok
    simp only [List.mem_cons, List.not_mem_nil, or_false] at hx
    rcases hx with rfl | rfl
    · exact Cu.vtake_ok hok
    · exact Cu.ring_ok hok) s hs
  generalize spansr [(nId, fun c => (Cu.vtake c).2), (nRing, fun c => (Cu.ring c).2)] ⟨s, 0, 0⟩ = R at *
  obtain ⟨sp, c2⟩ := R
  simp only at hrd hRok ⊢
  have hen := cursor_End c2.s c2.a c2.e hRok
  rw [show Cu.fin ⟨c2.s, c2.a, c2.e⟩ = Cu.fin c2 from rfl] at hen
  generalize Cu.fin c2 = d at *
  generalize Cu.vtake ⟨s, 0, 0⟩ = z at *
  obtain ⟨q, c1⟩ := z
  simp only at hvt ok1
  have hfl := blob_Flag c1.s c1.a c1.e ok1
  rw [show Cu.flag ⟨c1.s, c1.a, c1.e⟩ = Cu.flag c1 from rfl] at hfl
  generalize Cu.flag c1 = z at *
  obtain ⟨b, c3⟩ := z
  simp only at hfl
  have hli := list_7 v b
  (have kk1 := uN [] hh; have kk2 := uN [] hnew; have kk3 := uN [0] hvt; have kk4 := uN [0] hfl; have kk5 := uN [] hli; have kk6 := uN [1, 7] hrd; have kk7 := uN [1] hen; exact Wc0)
theorem pay_8 (v : Nat) (hv : v = 1 ∨ v = 2) (hh : AC Tryz.prog 95 [iv .u8 (v : Nat), iv .u8 8] [] fun y σ => y = bv true ∧ σ = []) (s : List UInt8) (hs : s.length ≤ 140737488351232) : AC Tryz.prog 37 [iv .u8 (v : Nat), iv .u8 8, sv (bs s)] [] fun y σ => y = .t [.d (.l (spansr [(nId, fun c => (Cu.vtake c).2), (nCode, fun c => (Cu.count c 255).2), (nText, fun c => (Cu.blob c 64).2)] ⟨s, 0, 0⟩).1.length (spnsD (spansr [(nId, fun c => (Cu.vtake c).2), (nCode, fun c => (Cu.count c 255).2), (nText, fun c => (Cu.blob c 64).2)] ⟨s, 0, 0⟩).1)), iv .i64 (spansr [(nId, fun c => (Cu.vtake c).2), (nCode, fun c => (Cu.count c 255).2), (nText, fun c => (Cu.blob c 64).2)] ⟨s, 0, 0⟩).2.fin.e] ∧ σ = [] := by
  refine AC.wk Tryz.func37 ?_
  have hok0 : Cu.Ok ⟨s, 0, 0⟩ := ⟨hs, Nat.zero_le _⟩
  have hnew := @cursor_New s
  have hvt := varint_Take s 0 0 hok0
  have ok1 := Cu.vtake_ok hok0
  have hrd := read_8 ⟨s, 0, 0⟩ hok0
  have hRok : (spansr [(nId, fun c => (Cu.vtake c).2), (nCode, fun c => (Cu.count c 255).2), (nText, fun c => (Cu.blob c 64).2)] ⟨s, 0, 0⟩).2.Ok := parts_ok (by
    intro x hx c hok
    simp only [List.mem_cons, List.not_mem_nil, or_false] at hx
    rcases hx with rfl | rfl | rfl
    · exact Cu.vtake_ok hok
    · exact Cu.count_ok hok
    · exact Cu.blob_ok hok) s hs
  generalize spansr [(nId, fun c => (Cu.vtake c).2), (nCode, fun c => (Cu.count c 255).2), (nText, fun c => (Cu.blob c 64).2)] ⟨s, 0, 0⟩ = R at *
  obtain ⟨sp, c2⟩ := R
  simp only at hrd hRok ⊢
  have hen := cursor_End c2.s c2.a c2.e hRok
  rw [show Cu.fin ⟨c2.s, c2.a, c2.e⟩ = Cu.fin c2 from rfl] at hen
  generalize Cu.fin c2 = d at *
  generalize Cu.vtake ⟨s, 0, 0⟩ = z at *
  obtain ⟨q, c1⟩ := z
  simp only at hvt ok1
  have hfl := blob_Flag c1.s c1.a c1.e ok1
  rw [show Cu.flag ⟨c1.s, c1.a, c1.e⟩ = Cu.flag c1 from rfl] at hfl
  generalize Cu.flag c1 = z at *
  obtain ⟨b, c3⟩ := z
  simp only at hfl
  have hli := list_8 v b
  (have kk1 := uN [] hh; have kk2 := uN [] hnew; have kk3 := uN [0] hvt; have kk4 := uN [0] hfl; have kk5 := uN [] hli; have kk6 := uN [1, 6, 8] hrd; have kk7 := uN [1] hen; exact Wc0)
theorem pay_9 (v : Nat) (hv : v = 1 ∨ v = 2) (hh : AC Tryz.prog 95 [iv .u8 (v : Nat), iv .u8 9] [] fun y σ => y = bv true ∧ σ = []) (s : List UInt8) (hs : s.length ≤ 140737488351232) : AC Tryz.prog 37 [iv .u8 (v : Nat), iv .u8 9, sv (bs s)] [] fun y σ => y = .t [.d (.l (spansr [(nId, fun c => (Cu.vtake c).2), (nObject, fun c => (Cu.blob c 65536).2)] ⟨s, 0, 0⟩).1.length (spnsD (spansr [(nId, fun c => (Cu.vtake c).2), (nObject, fun c => (Cu.blob c 65536).2)] ⟨s, 0, 0⟩).1)), iv .i64 (spansr [(nId, fun c => (Cu.vtake c).2), (nObject, fun c => (Cu.blob c 65536).2)] ⟨s, 0, 0⟩).2.fin.e] ∧ σ = [] := by
  refine AC.wk Tryz.func37 ?_
  have hok0 : Cu.Ok ⟨s, 0, 0⟩ := ⟨hs, Nat.zero_le _⟩
  have hnew := @cursor_New s
  have hvt := varint_Take s 0 0 hok0
  have ok1 := Cu.vtake_ok hok0
  have hrd := read_9 ⟨s, 0, 0⟩ hok0
  have hRok : (spansr [(nId, fun c => (Cu.vtake c).2), (nObject, fun c => (Cu.blob c 65536).2)] ⟨s, 0, 0⟩).2.Ok := parts_ok (by
    intro x hx c hok
    simp only [List.mem_cons, List.not_mem_nil, or_false] at hx
    rcases hx with rfl | rfl
    · exact Cu.vtake_ok hok
    · exact Cu.blob_ok hok) s hs
  generalize spansr [(nId, fun c => (Cu.vtake c).2), (nObject, fun c => (Cu.blob c 65536).2)] ⟨s, 0, 0⟩ = R at *
  obtain ⟨sp, c2⟩ := R
  simp only at hrd hRok ⊢
  have hen := cursor_End c2.s c2.a c2.e hRok
  rw [show Cu.fin ⟨c2.s, c2.a, c2.e⟩ = Cu.fin c2 from rfl] at hen
  generalize Cu.fin c2 = d at *
  generalize Cu.vtake ⟨s, 0, 0⟩ = z at *
  obtain ⟨q, c1⟩ := z
  simp only at hvt ok1
  have hfl := blob_Flag c1.s c1.a c1.e ok1
  rw [show Cu.flag ⟨c1.s, c1.a, c1.e⟩ = Cu.flag c1 from rfl] at hfl
  generalize Cu.flag c1 = z at *
  obtain ⟨b, c3⟩ := z
  simp only at hfl
  have hli := list_9 v b
  (have kk1 := uN [] hh; have kk2 := uN [] hnew; have kk3 := uN [0] hvt; have kk4 := uN [0] hfl; have kk5 := uN [] hli; have kk6 := uN [1, 4, 7] hrd; have kk7 := uN [1] hen; exact Wc0)
theorem awk_sp : spansr [(nId, fun c => (Cu.vtake c).2), (nKey, fun c => (Cu.okey c).2)] ⟨[5, 1, 107], 0, 0⟩ = ([(nId, (0, 1)), (nKey, (1, 3))], ⟨[5, 1, 107], 3, 0⟩) := by
  have h5 : vput 5 = [5] := by rw [vput_small (by decide)]; rfl
  have h1 : vput 1 = [1] := by rw [vput_small (by decide)]; rfl
  have g1 : Cu.vtake ⟨[5, 1, 107], 0, 0⟩ = (5, ⟨[5, 1, 107], 1, 0⟩) := by
    have h := trip_v.fore ⟨[5, 1, 107], 0, 0⟩ 5 [1, 107] (by decide) rfl (by decide) (by rw [h5]; rfl)
    rw [h5] at h; exact h
  have g2 : Cu.okey ⟨[5, 1, 107], 1, 0⟩ = ([107], ⟨[5, 1, 107], 3, 0⟩) := by
    have he : eblob [107] = [1, 107] := by show vput 1 ++ [107] = _; rw [h1]; rfl
    have h := trip_okey.fore ⟨[5, 1, 107], 1, 0⟩ [107] [] ⟨⟨by decide, by decide⟩, by decide⟩ rfl (by decide) (by rw [he]; rfl)
    rw [he] at h; exact h
  simp only [spansr_cons, g1, g2]
  rfl
theorem awake31 : AC Tryz.prog 36 [] [] fun x σ => x = bv true ∧ σ = [] := by
  have hp := pay_1 2 (.inr rfl) has_21 [5, 1, 107] (by decide)
  rw [awk_sp] at hp
  have hs := ref31_Same [(nId, (0, 1)), (nKey, (1, 3))] [(nId, (0, 1)), (nKey, (1, 3))] (by decide)
  rw [show decide (([(nId, (0, 1)), (nKey, (1, 3))] : List Sp) = [(nId, (0, 1)), (nKey, (1, 3))]) = true from decide_eq_true rfl] at hs
  refine AC.wk Tryz.func36 ?_
  (have kk1 := uN [] hp; have kk2 := uN [] hs; exact Wc0)
def onext (seen : List Vec) (x : Os1) : List Vec := seen ++ [x.clk]
def Mg.great (m : Mg) : Bool := m.obj.great || m.old.great || Vec.great m.ctx || Prs.great m.meta_ || m.page.great || Ring.great m.ring || decide (200 < m.key.length) || decide (200 < m.val.length) || decide (200 < m.pre.length) || decide (200 < m.txt.length)
theorem msg_Has (v k : Nat) (hv : v < 256) (hk : k < 256) : AC Tryz.prog 95 [iv .u8 (v : Nat), iv .u8 (k : Nat)] [] fun y σ => y = bv (has v k) ∧ σ = [] := by
  cases hh : has v k with
  | false => exact has_none v k hv hk hh
  | true =>
    rcases has_cases hh with ⟨rfl, rfl | rfl | rfl⟩ | ⟨rfl, rfl | rfl | rfl | rfl | rfl | rfl | rfl | rfl | rfl⟩
    · exact has_11
    · exact has_12
    · exact has_18
    · exact has_21
    · exact has_22
    · exact has_23
    · exact has_24
    · exact has_25
    · exact has_26
    · exact has_27
    · exact has_28
    · exact has_29
def mgk : Mg := { mg0 with kind := 1, id := 5, key := [107] }
theorem partw_in {v k : Nat} (h : has v k = true) (s : List UInt8) : partw v k s = ((spansr (pparts v k ⟨s, 0, 0⟩) ⟨s, 0, 0⟩).1, (spansr (pparts v k ⟨s, 0, 0⟩) ⟨s, 0, 0⟩).2.fin.e) := by
  unfold partw
  rcases has_cases h with ⟨rfl, _⟩ | ⟨rfl, _⟩
  · rw [if_neg (by simp), if_neg (by simp [h])]
  · rw [if_neg (by simp), if_neg (by simp [h])]
theorem pp2 (v : Nat) (c : Cu) (b : Bool) (h : (Cu.vtake c).2.flag.1 = b) : pparts v 2 c = (nId, fun c => (Cu.vtake c).2) :: (nFound, fun c => (Cu.flag c).2) :: (if b = true then [(if v = 1 then nOld else nObject, fun c => (Cu.blob c 65536).2)] else []) := by
  rw [← h]; rfl
theorem parts_Payload (v k : Nat) (hv : v < 256) (hk : k < 256) (s : List UInt8) (hs : s.length ≤ 140737488351232) : AC Tryz.prog 37 [iv .u8 (v : Nat), iv .u8 (k : Nat), sv (bs s)] [] fun y σ => y = .t [.d (.l (partw v k s).1.length (spnsD (partw v k s).1)), iv .i64 (partw v k s).2] ∧ σ = [] := by
  have hh := msg_Has v k hv hk
  by_cases hv2 : v ≠ 1 ∧ v ≠ 2
  · have e : partw v k s = ([], 10) := if_pos hv2
    rw [e]
    obtain ⟨g1, g2⟩ := hv2
    refine AC.wk Tryz.func37 ?_
    exact Wc0
  cases h : has v k with
  | false =>
    have e : partw v k s = ([], 11) := by unfold partw; rw [if_neg hv2, if_pos h]
    rw [e]
    rw [h] at hh
    refine AC.wk Tryz.func37 ?_
    (have kk1 := uN [] hh; exact Wc0)
  | true =>
    rw [h] at hh
    rw [partw_in h]
    rcases has_cases h with ⟨rfl, rfl | rfl | rfl⟩ | ⟨rfl, rfl | rfl | rfl | rfl | rfl | rfl | rfl | rfl | rfl⟩
    · exact pay_1 1 (.inl rfl) hh s hs
    · cases hb : (Cu.vtake ⟨s, 0, 0⟩).2.flag.1 with
      | false => rw [pp2 1 _ _ hb]; exact pay_2n 1 (.inl rfl) hh s hs hb
      | true => rw [pp2 1 _ _ hb]; exact pay_2f1 hh s hs hb
    · exact pay_8 1 (.inl rfl) hh s hs
    · exact pay_1 2 (.inr rfl) hh s hs
    · cases hb : (Cu.vtake ⟨s, 0, 0⟩).2.flag.1 with
      | false => rw [pp2 2 _ _ hb]; exact pay_2n 2 (.inr rfl) hh s hs hb
      | true => rw [pp2 2 _ _ hb]; exact pay_2f2 hh s hs hb
    · exact pay_3 2 (.inr rfl) hh s hs
    · exact pay_4 2 (.inr rfl) hh s hs
    · exact pay_5 2 (.inr rfl) hh s hs
    · exact pay_6 2 (.inr rfl) hh s hs
    · exact pay_7 2 (.inr rfl) hh s hs
    · exact pay_8 2 (.inr rfl) hh s hs
    · exact pay_9 2 (.inr rfl) hh s hs
end Go.AW
