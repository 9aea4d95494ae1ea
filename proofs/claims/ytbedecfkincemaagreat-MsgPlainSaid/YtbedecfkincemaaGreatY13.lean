/-
  a message's parts: how they are made, and checked.
-/
import Derived.Test.YtbedecfkincemaaGreatY11
import Derived.Test.YtbedecfkincemaaGreatY12
import Derived.Test.YtbedecfkincemaaGreatY02
namespace Go.AW
open Go Go.Proofs
set_option maxHeartbeats 4000000
set_option maxRecDepth 10000
set_option linter.unusedSimpArgs false
set_option linter.unusedVariables false
attribute [local irreducible] thenQ blockQ RetQ AL AW AC AOp

theorem of_Key (cs : List V) (hcs : lts 1 cs = true) : AC Tryz.prog 150 [.p 0 0] [.box 38 cs] fun y σ => y = .p 0 2 ∧ σ = [.box 38 cs] := by
  refine AC.walk Tryz.func150 rfl (by decide) (of_decide_eq_true rfl) ?_
  focus (have kxs : 987654321 = 987654320 + 1 := rfl; (repeat' (first | refine G ?_ | refine AW.ret ?_ | (refine GC ?_ ?_ <;> intro h <;> (try simp only [hsB] at h) <;> try (exfalso; first | omega | contradiction)) | (refine GL ?_ ?_ <;> intro h <;> (try simp only [Bool.not_true, Bool.not_false] at h) <;> (try simp only [h]) <;> (try simp only [hsB] at h) <;> try (exfalso; first | omega | contradiction)) | fail)); all_goals clear kxs)
  all_goals exact RetQ.fr 1 (h3 := by show (lts 1 cs && true) = true; rw [hcs]; rfl)
theorem of_Text (cs : List V) (hcs : lts 1 cs = true) : AC Tryz.prog 153 [.p 0 0] [.box 38 cs] fun y σ => y = .p 0 19 ∧ σ = [.box 38 cs] := by
  refine AC.walk Tryz.func153 rfl (by decide) (of_decide_eq_true rfl) ?_
  focus (have kxs : 987654321 = 987654320 + 1 := rfl; (repeat' (first | refine G ?_ | refine AW.ret ?_ | (refine GC ?_ ?_ <;> intro h <;> (try simp only [hsB] at h) <;> try (exfalso; first | omega | contradiction)) | (refine GL ?_ ?_ <;> intro h <;> (try simp only [Bool.not_true, Bool.not_false] at h) <;> (try simp only [h]) <;> (try simp only [hsB] at h) <;> try (exfalso; first | omega | contradiction)) | fail)); all_goals clear kxs)
  all_goals exact RetQ.fr 1 (h3 := by show (lts 1 cs && true) = true; rw [hcs]; rfl)
theorem of_Value (cs : List V) (hcs : lts 1 cs = true) : AC Tryz.prog 161 [.p 0 0] [.box 38 cs] fun y σ => y = .p 0 11 ∧ σ = [.box 38 cs] := by
  refine AC.walk Tryz.func161 rfl (by decide) (of_decide_eq_true rfl) ?_
  focus (have kxs : 987654321 = 987654320 + 1 := rfl; (repeat' (first | refine G ?_ | refine AW.ret ?_ | (refine GC ?_ ?_ <;> intro h <;> (try simp only [hsB] at h) <;> try (exfalso; first | omega | contradiction)) | (refine GL ?_ ?_ <;> intro h <;> (try simp only [Bool.not_true, Bool.not_false] at h) <;> (try simp only [h]) <;> (try simp only [hsB] at h) <;> try (exfalso; first | omega | contradiction)) | fail)); all_goals clear kxs)
  all_goals exact RetQ.fr 1 (h3 := by show (lts 1 cs && true) = true; rw [hcs]; rfl)
theorem of_Prefix (cs : List V) (hcs : lts 1 cs = true) : AC Tryz.prog 162 [.p 0 0] [.box 38 cs] fun y σ => y = .p 0 12 ∧ σ = [.box 38 cs] := by
  refine AC.walk Tryz.func162 rfl (by decide) (of_decide_eq_true rfl) ?_
  focus (have kxs : 987654321 = 987654320 + 1 := rfl; (repeat' (first | refine G ?_ | refine AW.ret ?_ | (refine GC ?_ ?_ <;> intro h <;> (try simp only [hsB] at h) <;> try (exfalso; first | omega | contradiction)) | (refine GL ?_ ?_ <;> intro h <;> (try simp only [Bool.not_true, Bool.not_false] at h) <;> (try simp only [h]) <;> (try simp only [hsB] at h) <;> try (exfalso; first | omega | contradiction)) | fail)); all_goals clear kxs)
  all_goals exact RetQ.fr 1 (h3 := by show (lts 1 cs && true) = true; rw [hcs]; rfl)
theorem of_Found (cs : List V) (hcs : lts 1 cs = true) : AC Tryz.prog 152 [.p 0 0] [.box 38 cs] fun y σ => y = .p 0 3 ∧ σ = [.box 38 cs] := by
  refine AC.walk Tryz.func152 rfl (by decide) (of_decide_eq_true rfl) ?_
  focus (have kxs : 987654321 = 987654320 + 1 := rfl; (repeat' (first | refine G ?_ | refine AW.ret ?_ | (refine GC ?_ ?_ <;> intro h <;> (try simp only [hsB] at h) <;> try (exfalso; first | omega | contradiction)) | (refine GL ?_ ?_ <;> intro h <;> (try simp only [Bool.not_true, Bool.not_false] at h) <;> (try simp only [h]) <;> (try simp only [hsB] at h) <;> try (exfalso; first | omega | contradiction)) | fail)); all_goals clear kxs)
  all_goals exact RetQ.fr 1 (h3 := by show (lts 1 cs && true) = true; rw [hcs]; rfl)
theorem of_Dead (cs : List V) (hcs : lts 1 cs = true) : AC Tryz.prog 158 [.p 0 0] [.box 38 cs] fun y σ => y = .p 0 10 ∧ σ = [.box 38 cs] := by
  refine AC.walk Tryz.func158 rfl (by decide) (of_decide_eq_true rfl) ?_
  focus (have kxs : 987654321 = 987654320 + 1 := rfl; (repeat' (first | refine G ?_ | refine AW.ret ?_ | (refine GC ?_ ?_ <;> intro h <;> (try simp only [hsB] at h) <;> try (exfalso; first | omega | contradiction)) | (refine GL ?_ ?_ <;> intro h <;> (try simp only [Bool.not_true, Bool.not_false] at h) <;> (try simp only [h]) <;> (try simp only [hsB] at h) <;> try (exfalso; first | omega | contradiction)) | fail)); all_goals clear kxs)
  all_goals exact RetQ.fr 1 (h3 := by show (lts 1 cs && true) = true; rw [hcs]; rfl)
theorem msg_text (n : Int) (b : Bool) (k : FuncId) : AC Tryz.prog 149 [iv .i64 n, bv b, .f (.func k) [] []] [] fun y σ => y = .a [.f (.func 214) [] [.p 1 0, .p 2 0, .p 0 0], .f (.func 216) [] [.p 0 0, .p 2 0], .f (.func 218) [] [.p 0 0, .p 2 0, .p 1 0], .f (.func 220) [] [.p 2 0]] ∧ σ = [.box 3 [iv .i64 n], .box 4 [bv b], .box 231 [.f (.func k) [] []]] := by
  refine AC.walk Tryz.func149 rfl (by decide) (of_decide_eq_true rfl) ?_
  focus (have kxs : 987654321 = 987654320 + 1 := rfl; (repeat' (first | refine G ?_ | refine AW.ret ?_ | (refine GC ?_ ?_ <;> intro h <;> (try simp only [hsB] at h) <;> try (exfalso; first | omega | contradiction)) | (refine GL ?_ ?_ <;> intro h <;> (try simp only [Bool.not_true, Bool.not_false] at h) <;> (try simp only [h]) <;> (try simp only [hsB] at h) <;> try (exfalso; first | omega | contradiction)) | fail)); all_goals clear kxs)
  all_goals first | (((all_goals first | refine RetQ.r 3 (xs := [.a [.f (.func 214) [] [.p 1 0, .p 2 0, .p 0 0], .f (.func 216) [] [.p 0 0, .p 2 0], .f (.func 218) [] [.p 0 0, .p 2 0, .p 1 0], .f (.func 220) [] [.p 2 0]]]) rfl (Nat.le_of_ble_eq_true rfl) rfl (by first | rfl | (simp only [go_sem, ↓reduceIte, Nat.reduceLT, Nat.lt_irrefl])) ⟨?_, ?_⟩ | refine RetQ.n 3 (xs := [.a [.f (.func 214) [] [.p 1 0, .p 2 0, .p 0 0], .f (.func 216) [] [.p 0 0, .p 2 0], .f (.func 218) [] [.p 0 0, .p 2 0, .p 1 0], .f (.func 220) [] [.p 2 0]]]) rfl (Nat.le_of_ble_eq_true rfl) rfl (by first | rfl | (simp only [go_sem, ↓reduceIte, Nat.reduceLT, Nat.lt_irrefl])) ⟨?_, ?_⟩); (all_goals first | rfl | (simp [*]; done) | ((simp only [go_sem, ↓reduceIte, Nat.reduceLT]; (repeat' split)) <;> first | rfl | (exfalso; omega) | (simp_all; done) | (simp_all; omega)))); done) | (exfalso; omega) | (exfalso; simp_all; done)
theorem msg_flag (k : FuncId) : AC Tryz.prog 151 [.f (.func k) [] []] [] fun y σ => y = .a [.f (.func 221) [] [], .f (.func 222) [] [.p 0 0], .f (.func 224) [] [.p 0 0], .f (.func 225) [] [.p 0 0]] ∧ σ = [.box 234 [.f (.func k) [] []]] := by
  refine AC.walk Tryz.func151 rfl (by decide) (of_decide_eq_true rfl) ?_
  focus (have kxs : 987654321 = 987654320 + 1 := rfl; (repeat' (first | refine G ?_ | refine AW.ret ?_ | (refine GC ?_ ?_ <;> intro h <;> (try simp only [hsB] at h) <;> try (exfalso; first | omega | contradiction)) | (refine GL ?_ ?_ <;> intro h <;> (try simp only [Bool.not_true, Bool.not_false] at h) <;> (try simp only [h]) <;> (try simp only [hsB] at h) <;> try (exfalso; first | omega | contradiction)) | fail)); all_goals clear kxs)
  all_goals first | (((all_goals first | refine RetQ.r 1 (xs := [.a [.f (.func 221) [] [], .f (.func 222) [] [.p 0 0], .f (.func 224) [] [.p 0 0], .f (.func 225) [] [.p 0 0]]]) rfl (Nat.le_of_ble_eq_true rfl) rfl (by first | rfl | (simp only [go_sem, ↓reduceIte, Nat.reduceLT, Nat.lt_irrefl])) ⟨?_, ?_⟩ | refine RetQ.n 1 (xs := [.a [.f (.func 221) [] [], .f (.func 222) [] [.p 0 0], .f (.func 224) [] [.p 0 0], .f (.func 225) [] [.p 0 0]]]) rfl (Nat.le_of_ble_eq_true rfl) rfl (by first | rfl | (simp only [go_sem, ↓reduceIte, Nat.reduceLT, Nat.lt_irrefl])) ⟨?_, ?_⟩); (all_goals first | rfl | (simp [*]; done) | ((simp only [go_sem, ↓reduceIte, Nat.reduceLT]; (repeat' split)) <;> first | rfl | (exfalso; omega) | (simp_all; done) | (simp_all; omega)))); done) | (exfalso; omega) | (exfalso; simp_all; done)
theorem msg_objectPart : AC Tryz.prog 156 [] [] fun y σ => y = .a [.f (.func 239) [] [], .f (.func 241) [] [], .f (.func 243) [] [], .f (.func 245) [] []] ∧ σ = [] := by
  refine AC.walk Tryz.func156 rfl (by decide) (of_decide_eq_true rfl) ?_
  focus (have kxs : 987654321 = 987654320 + 1 := rfl; (repeat' (first | refine G ?_ | refine AW.ret ?_ | (refine GC ?_ ?_ <;> intro h <;> (try simp only [hsB] at h) <;> try (exfalso; first | omega | contradiction)) | (refine GL ?_ ?_ <;> intro h <;> (try simp only [Bool.not_true, Bool.not_false] at h) <;> (try simp only [h]) <;> (try simp only [hsB] at h) <;> try (exfalso; first | omega | contradiction)) | fail)); all_goals clear kxs)
  all_goals first | (((all_goals first | refine RetQ.r 0 (xs := [.a [.f (.func 239) [] [], .f (.func 241) [] [], .f (.func 243) [] [], .f (.func 245) [] []]]) rfl (Nat.le_of_ble_eq_true rfl) rfl (by first | rfl | (simp only [go_sem, ↓reduceIte, Nat.reduceLT, Nat.lt_irrefl])) ⟨?_, ?_⟩ | refine RetQ.n 0 (xs := [.a [.f (.func 239) [] [], .f (.func 241) [] [], .f (.func 243) [] [], .f (.func 245) [] []]]) rfl (Nat.le_of_ble_eq_true rfl) rfl (by first | rfl | (simp only [go_sem, ↓reduceIte, Nat.reduceLT, Nat.lt_irrefl])) ⟨?_, ?_⟩); (all_goals first | rfl | (simp [*]; done) | ((simp only [go_sem, ↓reduceIte, Nat.reduceLT]; (repeat' split)) <;> first | rfl | (exfalso; omega) | (simp_all; done) | (simp_all; omega)))); done) | (exfalso; omega) | (exfalso; simp_all; done)
theorem msg_oldPart : AC Tryz.prog 155 [] [] fun y σ => y = .a [.f (.func 230) [] [], .f (.func 232) [] [], .f (.func 235) [] [], .f (.func 237) [] []] ∧ σ = [] := by
  refine AC.walk Tryz.func155 rfl (by decide) (of_decide_eq_true rfl) ?_
  focus (have kxs : 987654321 = 987654320 + 1 := rfl; (repeat' (first | refine G ?_ | refine AW.ret ?_ | (refine GC ?_ ?_ <;> intro h <;> (try simp only [hsB] at h) <;> try (exfalso; first | omega | contradiction)) | (refine GL ?_ ?_ <;> intro h <;> (try simp only [Bool.not_true, Bool.not_false] at h) <;> (try simp only [h]) <;> (try simp only [hsB] at h) <;> try (exfalso; first | omega | contradiction)) | fail)); all_goals clear kxs)
  all_goals first | (((all_goals first | refine RetQ.r 0 (xs := [.a [.f (.func 230) [] [], .f (.func 232) [] [], .f (.func 235) [] [], .f (.func 237) [] []]]) rfl (Nat.le_of_ble_eq_true rfl) rfl (by first | rfl | (simp only [go_sem, ↓reduceIte, Nat.reduceLT, Nat.lt_irrefl])) ⟨?_, ?_⟩ | refine RetQ.n 0 (xs := [.a [.f (.func 230) [] [], .f (.func 232) [] [], .f (.func 235) [] [], .f (.func 237) [] []]]) rfl (Nat.le_of_ble_eq_true rfl) rfl (by first | rfl | (simp only [go_sem, ↓reduceIte, Nat.reduceLT, Nat.lt_irrefl])) ⟨?_, ?_⟩); (all_goals first | rfl | (simp [*]; done) | ((simp only [go_sem, ↓reduceIte, Nat.reduceLT]; (repeat' split)) <;> first | rfl | (exfalso; omega) | (simp_all; done) | (simp_all; omega)))); done) | (exfalso; omega) | (exfalso; simp_all; done)
theorem msg_ctxPart : AC Tryz.prog 159 [] [] fun y σ => y = .a [.f (.func 252) [] [], .f (.func 254) [] [], .f (.func 256) [] [], .f (.func 257) [] []] ∧ σ = [] := by
  refine AC.walk Tryz.func159 rfl (by decide) (of_decide_eq_true rfl) ?_
  focus (have kxs : 987654321 = 987654320 + 1 := rfl; (repeat' (first | refine G ?_ | refine AW.ret ?_ | (refine GC ?_ ?_ <;> intro h <;> (try simp only [hsB] at h) <;> try (exfalso; first | omega | contradiction)) | (refine GL ?_ ?_ <;> intro h <;> (try simp only [Bool.not_true, Bool.not_false] at h) <;> (try simp only [h]) <;> (try simp only [hsB] at h) <;> try (exfalso; first | omega | contradiction)) | fail)); all_goals clear kxs)
  all_goals first | (((all_goals first | refine RetQ.r 0 (xs := [.a [.f (.func 252) [] [], .f (.func 254) [] [], .f (.func 256) [] [], .f (.func 257) [] []]]) rfl (Nat.le_of_ble_eq_true rfl) rfl (by first | rfl | (simp only [go_sem, ↓reduceIte, Nat.reduceLT, Nat.lt_irrefl])) ⟨?_, ?_⟩ | refine RetQ.n 0 (xs := [.a [.f (.func 252) [] [], .f (.func 254) [] [], .f (.func 256) [] [], .f (.func 257) [] []]]) rfl (Nat.le_of_ble_eq_true rfl) rfl (by first | rfl | (simp only [go_sem, ↓reduceIte, Nat.reduceLT, Nat.lt_irrefl])) ⟨?_, ?_⟩); (all_goals first | rfl | (simp [*]; done) | ((simp only [go_sem, ↓reduceIte, Nat.reduceLT]; (repeat' split)) <;> first | rfl | (exfalso; omega) | (simp_all; done) | (simp_all; omega)))); done) | (exfalso; omega) | (exfalso; simp_all; done)
theorem msg_metaPart : AC Tryz.prog 160 [] [] fun y σ => y = .a [.f (.func 258) [] [], .f (.func 260) [] [], .f (.func 262) [] [], .f (.func 263) [] []] ∧ σ = [] := by
  refine AC.walk Tryz.func160 rfl (by decide) (of_decide_eq_true rfl) ?_
  focus (have kxs : 987654321 = 987654320 + 1 := rfl; (repeat' (first | refine G ?_ | refine AW.ret ?_ | (refine GC ?_ ?_ <;> intro h <;> (try simp only [hsB] at h) <;> try (exfalso; first | omega | contradiction)) | (refine GL ?_ ?_ <;> intro h <;> (try simp only [Bool.not_true, Bool.not_false] at h) <;> (try simp only [h]) <;> (try simp only [hsB] at h) <;> try (exfalso; first | omega | contradiction)) | fail)); all_goals clear kxs)
  all_goals first | (((all_goals first | refine RetQ.r 0 (xs := [.a [.f (.func 258) [] [], .f (.func 260) [] [], .f (.func 262) [] [], .f (.func 263) [] []]]) rfl (Nat.le_of_ble_eq_true rfl) rfl (by first | rfl | (simp only [go_sem, ↓reduceIte, Nat.reduceLT, Nat.lt_irrefl])) ⟨?_, ?_⟩ | refine RetQ.n 0 (xs := [.a [.f (.func 258) [] [], .f (.func 260) [] [], .f (.func 262) [] [], .f (.func 263) [] []]]) rfl (Nat.le_of_ble_eq_true rfl) rfl (by first | rfl | (simp only [go_sem, ↓reduceIte, Nat.reduceLT, Nat.lt_irrefl])) ⟨?_, ?_⟩); (all_goals first | rfl | (simp [*]; done) | ((simp only [go_sem, ↓reduceIte, Nat.reduceLT]; (repeat' split)) <;> first | rfl | (exfalso; omega) | (simp_all; done) | (simp_all; omega)))); done) | (exfalso; omega) | (exfalso; simp_all; done)
theorem msg_pagePart : AC Tryz.prog 163 [] [] fun y σ => y = .a [.f (.func 265) [] [], .f (.func 267) [] [], .f (.func 269) [] [], .f (.func 270) [] []] ∧ σ = [] := by
  refine AC.walk Tryz.func163 rfl (by decide) (of_decide_eq_true rfl) ?_
  focus (have kxs : 987654321 = 987654320 + 1 := rfl; (repeat' (first | refine G ?_ | refine AW.ret ?_ | (refine GC ?_ ?_ <;> intro h <;> (try simp only [hsB] at h) <;> try (exfalso; first | omega | contradiction)) | (refine GL ?_ ?_ <;> intro h <;> (try simp only [Bool.not_true, Bool.not_false] at h) <;> (try simp only [h]) <;> (try simp only [hsB] at h) <;> try (exfalso; first | omega | contradiction)) | fail)); all_goals clear kxs)
  all_goals first | (((all_goals first | refine RetQ.r 0 (xs := [.a [.f (.func 265) [] [], .f (.func 267) [] [], .f (.func 269) [] [], .f (.func 270) [] []]]) rfl (Nat.le_of_ble_eq_true rfl) rfl (by first | rfl | (simp only [go_sem, ↓reduceIte, Nat.reduceLT, Nat.lt_irrefl])) ⟨?_, ?_⟩ | refine RetQ.n 0 (xs := [.a [.f (.func 265) [] [], .f (.func 267) [] [], .f (.func 269) [] [], .f (.func 270) [] []]]) rfl (Nat.le_of_ble_eq_true rfl) rfl (by first | rfl | (simp only [go_sem, ↓reduceIte, Nat.reduceLT, Nat.lt_irrefl])) ⟨?_, ?_⟩); (all_goals first | rfl | (simp [*]; done) | ((simp only [go_sem, ↓reduceIte, Nat.reduceLT]; (repeat' split)) <;> first | rfl | (exfalso; omega) | (simp_all; done) | (simp_all; omega)))); done) | (exfalso; omega) | (exfalso; simp_all; done)
theorem msg_ringPart : AC Tryz.prog 164 [] [] fun y σ => y = .a [.f (.func 273) [] [], .f (.func 275) [] [], .f (.func 278) [] [], .f (.func 279) [] []] ∧ σ = [] := by
  refine AC.walk Tryz.func164 rfl (by decide) (of_decide_eq_true rfl) ?_
  focus (have kxs : 987654321 = 987654320 + 1 := rfl; (repeat' (first | refine G ?_ | refine AW.ret ?_ | (refine GC ?_ ?_ <;> intro h <;> (try simp only [hsB] at h) <;> try (exfalso; first | omega | contradiction)) | (refine GL ?_ ?_ <;> intro h <;> (try simp only [Bool.not_true, Bool.not_false] at h) <;> (try simp only [h]) <;> (try simp only [hsB] at h) <;> try (exfalso; first | omega | contradiction)) | fail)); all_goals clear kxs)
  all_goals first | (((all_goals first | refine RetQ.r 0 (xs := [.a [.f (.func 273) [] [], .f (.func 275) [] [], .f (.func 278) [] [], .f (.func 279) [] []]]) rfl (Nat.le_of_ble_eq_true rfl) rfl (by first | rfl | (simp only [go_sem, ↓reduceIte, Nat.reduceLT, Nat.lt_irrefl])) ⟨?_, ?_⟩ | refine RetQ.n 0 (xs := [.a [.f (.func 273) [] [], .f (.func 275) [] [], .f (.func 278) [] [], .f (.func 279) [] []]]) rfl (Nat.le_of_ble_eq_true rfl) rfl (by first | rfl | (simp only [go_sem, ↓reduceIte, Nat.reduceLT, Nat.lt_irrefl])) ⟨?_, ?_⟩); (all_goals first | rfl | (simp [*]; done) | ((simp only [go_sem, ↓reduceIte, Nat.reduceLT]; (repeat' split)) <;> first | rfl | (exfalso; omega) | (simp_all; done) | (simp_all; omega)))); done) | (exfalso; omega) | (exfalso; simp_all; done)
theorem msg_codePart : AC Tryz.prog 157 [] [] fun y σ => y = .a [.f (.func 247) [] [], .f (.func 248) [] [], .f (.func 250) [] [], .f (.func 251) [] []] ∧ σ = [] := by
  refine AC.walk Tryz.func157 rfl (by decide) (of_decide_eq_true rfl) ?_
  focus (have kxs : 987654321 = 987654320 + 1 := rfl; (repeat' (first | refine G ?_ | refine AW.ret ?_ | (refine GC ?_ ?_ <;> intro h <;> (try simp only [hsB] at h) <;> try (exfalso; first | omega | contradiction)) | (refine GL ?_ ?_ <;> intro h <;> (try simp only [Bool.not_true, Bool.not_false] at h) <;> (try simp only [h]) <;> (try simp only [hsB] at h) <;> try (exfalso; first | omega | contradiction)) | fail)); all_goals clear kxs)
  all_goals first | (((all_goals first | refine RetQ.r 0 (xs := [.a [.f (.func 247) [] [], .f (.func 248) [] [], .f (.func 250) [] [], .f (.func 251) [] []]]) rfl (Nat.le_of_ble_eq_true rfl) rfl (by first | rfl | (simp only [go_sem, ↓reduceIte, Nat.reduceLT, Nat.lt_irrefl])) ⟨?_, ?_⟩ | refine RetQ.n 0 (xs := [.a [.f (.func 247) [] [], .f (.func 248) [] [], .f (.func 250) [] [], .f (.func 251) [] []]]) rfl (Nat.le_of_ble_eq_true rfl) rfl (by first | rfl | (simp only [go_sem, ↓reduceIte, Nat.reduceLT, Nat.lt_irrefl])) ⟨?_, ?_⟩); (all_goals first | rfl | (simp [*]; done) | ((simp only [go_sem, ↓reduceIte, Nat.reduceLT]; (repeat' split)) <;> first | rfl | (exfalso; omega) | (simp_all; done) | (simp_all; omega)))); done) | (exfalso; omega) | (exfalso; simp_all; done)
theorem msg_found_object : AC Tryz.prog 154 [.a [.f (.func 239) [] [], .f (.func 241) [] [], .f (.func 243) [] [], .f (.func 245) [] []]] [] fun y σ => y = .a [.f (.func 226) [] [.p 0 0], .f (.func 227) [] [.p 0 0], .f (.func 228) [] [.p 0 0], .f (.func 229) [] [.p 0 0]] ∧ σ = [.box 111 [.f (.func 239) [] [], .f (.func 241) [] [], .f (.func 243) [] [], .f (.func 245) [] []]] := by
  refine AC.walk Tryz.func154 rfl (by decide) (of_decide_eq_true rfl) ?_
  focus (have kxs : 987654321 = 987654320 + 1 := rfl; (repeat' (first | refine G ?_ | refine AW.ret ?_ | (refine GC ?_ ?_ <;> intro h <;> (try simp only [hsB] at h) <;> try (exfalso; first | omega | contradiction)) | (refine GL ?_ ?_ <;> intro h <;> (try simp only [Bool.not_true, Bool.not_false] at h) <;> (try simp only [h]) <;> (try simp only [hsB] at h) <;> try (exfalso; first | omega | contradiction)) | fail)); all_goals clear kxs)
  all_goals first | (((all_goals first | refine RetQ.r 1 (xs := [.a [.f (.func 226) [] [.p 0 0], .f (.func 227) [] [.p 0 0], .f (.func 228) [] [.p 0 0], .f (.func 229) [] [.p 0 0]]]) rfl (Nat.le_of_ble_eq_true rfl) rfl (by first | rfl | (simp only [go_sem, ↓reduceIte, Nat.reduceLT, Nat.lt_irrefl])) ⟨?_, ?_⟩ | refine RetQ.n 1 (xs := [.a [.f (.func 226) [] [.p 0 0], .f (.func 227) [] [.p 0 0], .f (.func 228) [] [.p 0 0], .f (.func 229) [] [.p 0 0]]]) rfl (Nat.le_of_ble_eq_true rfl) rfl (by first | rfl | (simp only [go_sem, ↓reduceIte, Nat.reduceLT, Nat.lt_irrefl])) ⟨?_, ?_⟩); (all_goals first | rfl | (simp [*]; done) | ((simp only [go_sem, ↓reduceIte, Nat.reduceLT]; (repeat' split)) <;> first | rfl | (exfalso; omega) | (simp_all; done) | (simp_all; omega)))); done) | (exfalso; omega) | (exfalso; simp_all; done)
theorem msg_found_old : AC Tryz.prog 154 [.a [.f (.func 230) [] [], .f (.func 232) [] [], .f (.func 235) [] [], .f (.func 237) [] []]] [] fun y σ => y = .a [.f (.func 226) [] [.p 0 0], .f (.func 227) [] [.p 0 0], .f (.func 228) [] [.p 0 0], .f (.func 229) [] [.p 0 0]] ∧ σ = [.box 111 [.f (.func 230) [] [], .f (.func 232) [] [], .f (.func 235) [] [], .f (.func 237) [] []]] := by
  refine AC.walk Tryz.func154 rfl (by decide) (of_decide_eq_true rfl) ?_
  focus (have kxs : 987654321 = 987654320 + 1 := rfl; (repeat' (first | refine G ?_ | refine AW.ret ?_ | (refine GC ?_ ?_ <;> intro h <;> (try simp only [hsB] at h) <;> try (exfalso; first | omega | contradiction)) | (refine GL ?_ ?_ <;> intro h <;> (try simp only [Bool.not_true, Bool.not_false] at h) <;> (try simp only [h]) <;> (try simp only [hsB] at h) <;> try (exfalso; first | omega | contradiction)) | fail)); all_goals clear kxs)
  all_goals first | (((all_goals first | refine RetQ.r 1 (xs := [.a [.f (.func 226) [] [.p 0 0], .f (.func 227) [] [.p 0 0], .f (.func 228) [] [.p 0 0], .f (.func 229) [] [.p 0 0]]]) rfl (Nat.le_of_ble_eq_true rfl) rfl (by first | rfl | (simp only [go_sem, ↓reduceIte, Nat.reduceLT, Nat.lt_irrefl])) ⟨?_, ?_⟩ | refine RetQ.n 1 (xs := [.a [.f (.func 226) [] [.p 0 0], .f (.func 227) [] [.p 0 0], .f (.func 228) [] [.p 0 0], .f (.func 229) [] [.p 0 0]]]) rfl (Nat.le_of_ble_eq_true rfl) rfl (by first | rfl | (simp only [go_sem, ↓reduceIte, Nat.reduceLT, Nat.lt_irrefl])) ⟨?_, ?_⟩); (all_goals first | rfl | (simp [*]; done) | ((simp only [go_sem, ↓reduceIte, Nat.reduceLT]; (repeat' split)) <;> first | rfl | (exfalso; omega) | (simp_all; done) | (simp_all; omega)))); done) | (exfalso; omega) | (exfalso; simp_all; done)
theorem msg_fits (s : List UInt8) (n : Nat) (hs : s.length ≤ 9223372036854775807) (hn : n ≤ 9223372036854775807) : AC Tryz.prog 215 [sv (bs s), iv .i64 (n : Nat)] [] fun y σ => y = iv .i64 (longchk s n) ∧ σ = [] := by
  refine AC.walk Tryz.func215 rfl (by decide) (of_decide_eq_true rfl) ?_
  unfold longchk
  by_cases h : n < s.length
  · rw [if_pos h]
    focus (have kxs : 987654321 = 987654320 + 1 := rfl; (repeat' (first | refine G ?_ | refine AW.ret ?_ | (refine GC ?_ ?_ <;> intro h <;> (try simp only [hsB] at h) <;> try (exfalso; first | omega | contradiction)) | (refine GL ?_ ?_ <;> intro h <;> (try simp only [Bool.not_true, Bool.not_false] at h) <;> (try simp only [h]) <;> (try simp only [hsB] at h) <;> try (exfalso; first | omega | contradiction)) | fail)); all_goals clear kxs)
    all_goals first | ((all_goals first | exact RetQ.fr 0 | exact RetQ.fn 0 | fail); done) | (exfalso; omega) | (exfalso; simp_all; done)
  · rw [if_neg h]
    focus (have kxs : 987654321 = 987654320 + 1 := rfl; (repeat' (first | refine G ?_ | refine AW.ret ?_ | (refine GC ?_ ?_ <;> intro h <;> (try simp only [hsB] at h) <;> try (exfalso; first | omega | contradiction)) | (refine GL ?_ ?_ <;> intro h <;> (try simp only [Bool.not_true, Bool.not_false] at h) <;> (try simp only [h]) <;> (try simp only [hsB] at h) <;> try (exfalso; first | omega | contradiction)) | fail)); all_goals clear kxs)
    all_goals first | ((all_goals first | exact RetQ.fr 0 | exact RetQ.fn 0 | fail); done) | (exfalso; omega) | (exfalso; simp_all; done)
theorem check_Key (m : Mg) (hf : m.fits) : AC Tryz.prog 214 [mgV m, .p 0 0, .p 1 0, .p 2 0] [.box 4 [bv true], .box 231 [.f (.func 150) [] []], .box 3 [iv .i64 128]] fun y σ => y = iv .i64 (keychk m.key) ∧ σ = [.box 4 [bv true], .box 231 [.f (.func 150) [] []], .box 3 [iv .i64 128]] := by
  refine AC.walk Tryz.func214 rfl (by decide) (of_decide_eq_true rfl) ?_
  have hl : m.key.length ≤ 9223372036854775807 := by obtain ⟨_, _, f1, _, _, _, _, f2, f3, _, _, _, f4⟩ := hf; assumption
  have hof := of_Key (mgC m) rfl
  have hft := msg_fits m.key 128 hl (by decide)
  have hk : keychk m.key = if m.key = [] then 14 else longchk m.key 128 := by
    unfold keychk longchk
    by_cases h : m.key = []
    · rw [h]; rfl
    · rw [if_neg h, if_neg h]
  rw [hk]
  by_cases h0 : m.key = []
  · rw [if_pos h0]
    focus (have kxs := h0; have kk1 := uN [3] (hof); (repeat' (first | (refine ADr.nil ?_; try clear hgv) | refine GO ?_ | refine AW.ret ?_ | (refine GC ?_ ?_ <;> intro h <;> (try simp only [hsB] at h) <;> try (exfalso; first | omega | contradiction)) | (refine GD ?_ ?_ <;> intro h <;> (try intro hgv) <;> (try simp only [Bool.not_true, Bool.not_false] at h) <;> (try simp only [h]) <;> (try simp only [hsB] at h) <;> try (exfalso; first | omega | contradiction)) | (refine GL ?_ ?_ <;> intro h <;> (try simp only [Bool.not_true, Bool.not_false] at h) <;> (try simp only [h]) <;> (try simp only [hsB] at h) <;> try (exfalso; first | omega | contradiction)) | fail)); all_goals clear kxs kk1)
    all_goals first | ((all_goals first | exact RetQ.fr 3 | exact RetQ.fn 3 | fail); done) | (exfalso; omega) | (exfalso; simp_all; done)
  · rw [if_neg h0]
    generalize longchk m.key 128 = r at *
    focus (have kxs : 987654321 = 987654320 + 1 := rfl; have kk1 := uN [3] (hof); have kk2 := uN [] (hft); (repeat' (first | (refine ADr.nil ?_; try clear hgv) | refine GO ?_ | refine AW.ret ?_ | (refine GC ?_ ?_ <;> intro h <;> (try simp only [hsB] at h) <;> try (exfalso; first | omega | contradiction)) | (refine GD ?_ ?_ <;> intro h <;> (try intro hgv) <;> (try simp only [Bool.not_true, Bool.not_false] at h) <;> (try simp only [h]) <;> (try simp only [hsB] at h) <;> try (exfalso; first | omega | contradiction)) | (refine GL ?_ ?_ <;> intro h <;> (try simp only [Bool.not_true, Bool.not_false] at h) <;> (try simp only [h]) <;> (try simp only [hsB] at h) <;> try (exfalso; first | omega | contradiction)) | fail)); all_goals clear kxs kk1 kk2)
    all_goals first | ((all_goals first | exact RetQ.fr 3 | exact RetQ.fn 3 | fail); done) | (exfalso; omega) | (exfalso; simp_all; done)
theorem check_Text (m : Mg) (hf : m.fits) : AC Tryz.prog 214 [mgV m, .p 0 0, .p 1 0, .p 2 0] [.box 4 [bv false], .box 231 [.f (.func 153) [] []], .box 3 [iv .i64 64]] fun y σ => y = iv .i64 (longchk m.txt 64) ∧ σ = [.box 4 [bv false], .box 231 [.f (.func 153) [] []], .box 3 [iv .i64 64]] := by
  refine AC.walk Tryz.func214 rfl (by decide) (of_decide_eq_true rfl) ?_
  have hl : m.txt.length ≤ 9223372036854775807 := by obtain ⟨_, _, f1, _, _, _, _, f2, f3, _, _, _, f4⟩ := hf; assumption
  have hof := of_Text (mgC m) rfl
  have hft := msg_fits m.txt 64 hl (by decide)
  generalize longchk m.txt 64 = r at *
  focus (have kxs : 987654321 = 987654320 + 1 := rfl; have kk1 := uN [3] (hof); have kk2 := uN [] (hft); (repeat' (first | (refine ADr.nil ?_; try clear hgv) | refine GO ?_ | refine AW.ret ?_ | (refine GC ?_ ?_ <;> intro h <;> (try simp only [hsB] at h) <;> try (exfalso; first | omega | contradiction)) | (refine GD ?_ ?_ <;> intro h <;> (try intro hgv) <;> (try simp only [Bool.not_true, Bool.not_false] at h) <;> (try simp only [h]) <;> (try simp only [hsB] at h) <;> try (exfalso; first | omega | contradiction)) | (refine GL ?_ ?_ <;> intro h <;> (try simp only [Bool.not_true, Bool.not_false] at h) <;> (try simp only [h]) <;> (try simp only [hsB] at h) <;> try (exfalso; first | omega | contradiction)) | fail)); all_goals clear kxs kk1 kk2)
  all_goals first | ((all_goals first | exact RetQ.fr 3 | exact RetQ.fn 3 | fail); done) | (exfalso; omega) | (exfalso; simp_all; done)
theorem check_Value (m : Mg) (hf : m.fits) : AC Tryz.prog 214 [mgV m, .p 0 0, .p 1 0, .p 2 0] [.box 4 [bv false], .box 231 [.f (.func 161) [] []], .box 3 [iv .i64 32768]] fun y σ => y = iv .i64 (longchk m.val 32768) ∧ σ = [.box 4 [bv false], .box 231 [.f (.func 161) [] []], .box 3 [iv .i64 32768]] := by
  refine AC.walk Tryz.func214 rfl (by decide) (of_decide_eq_true rfl) ?_
  have hl : m.val.length ≤ 9223372036854775807 := by obtain ⟨_, _, f1, _, _, _, _, f2, f3, _, _, _, f4⟩ := hf; assumption
  have hof := of_Value (mgC m) rfl
  have hft := msg_fits m.val 32768 hl (by decide)
  generalize longchk m.val 32768 = r at *
  focus (have kxs : 987654321 = 987654320 + 1 := rfl; have kk1 := uN [3] (hof); have kk2 := uN [] (hft); (repeat' (first | (refine ADr.nil ?_; try clear hgv) | refine GO ?_ | refine AW.ret ?_ | (refine GC ?_ ?_ <;> intro h <;> (try simp only [hsB] at h) <;> try (exfalso; first | omega | contradiction)) | (refine GD ?_ ?_ <;> intro h <;> (try intro hgv) <;> (try simp only [Bool.not_true, Bool.not_false] at h) <;> (try simp only [h]) <;> (try simp only [hsB] at h) <;> try (exfalso; first | omega | contradiction)) | (refine GL ?_ ?_ <;> intro h <;> (try simp only [Bool.not_true, Bool.not_false] at h) <;> (try simp only [h]) <;> (try simp only [hsB] at h) <;> try (exfalso; first | omega | contradiction)) | fail)); all_goals clear kxs kk1 kk2)
  all_goals first | ((all_goals first | exact RetQ.fr 3 | exact RetQ.fn 3 | fail); done) | (exfalso; omega) | (exfalso; simp_all; done)
theorem check_Prefix (m : Mg) (hf : m.fits) : AC Tryz.prog 214 [mgV m, .p 0 0, .p 1 0, .p 2 0] [.box 4 [bv false], .box 231 [.f (.func 162) [] []], .box 3 [iv .i64 31]] fun y σ => y = iv .i64 (longchk m.pre 31) ∧ σ = [.box 4 [bv false], .box 231 [.f (.func 162) [] []], .box 3 [iv .i64 31]] := by
  refine AC.walk Tryz.func214 rfl (by decide) (of_decide_eq_true rfl) ?_
  have hl : m.pre.length ≤ 9223372036854775807 := by obtain ⟨_, _, f1, _, _, _, _, f2, f3, _, _, _, f4⟩ := hf; assumption
  have hof := of_Prefix (mgC m) rfl
  have hft := msg_fits m.pre 31 hl (by decide)
  generalize longchk m.pre 31 = r at *
  focus (have kxs : 987654321 = 987654320 + 1 := rfl; have kk1 := uN [3] (hof); have kk2 := uN [] (hft); (repeat' (first | (refine ADr.nil ?_; try clear hgv) | refine GO ?_ | refine AW.ret ?_ | (refine GC ?_ ?_ <;> intro h <;> (try simp only [hsB] at h) <;> try (exfalso; first | omega | contradiction)) | (refine GD ?_ ?_ <;> intro h <;> (try intro hgv) <;> (try simp only [Bool.not_true, Bool.not_false] at h) <;> (try simp only [h]) <;> (try simp only [hsB] at h) <;> try (exfalso; first | omega | contradiction)) | (refine GL ?_ ?_ <;> intro h <;> (try simp only [Bool.not_true, Bool.not_false] at h) <;> (try simp only [h]) <;> (try simp only [hsB] at h) <;> try (exfalso; first | omega | contradiction)) | fail)); all_goals clear kxs kk1 kk2)
  all_goals first | ((all_goals first | exact RetQ.fr 3 | exact RetQ.fn 3 | fail); done) | (exfalso; omega) | (exfalso; simp_all; done)
theorem check_flag (m : Mg) : AC Tryz.prog 221 [mgV m] [] fun y σ => y = iv .i64 0 ∧ σ = [] := by
  refine AC.walk Tryz.func221 rfl (by decide) (of_decide_eq_true rfl) ?_
  focus (have kxs : 987654321 = 987654320 + 1 := rfl; (repeat' (first | refine G ?_ | refine AW.ret ?_ | (refine GC ?_ ?_ <;> intro h <;> (try simp only [hsB] at h) <;> try (exfalso; first | omega | contradiction)) | (refine GL ?_ ?_ <;> intro h <;> (try simp only [Bool.not_true, Bool.not_false] at h) <;> (try simp only [h]) <;> (try simp only [hsB] at h) <;> try (exfalso; first | omega | contradiction)) | fail)); all_goals clear kxs)
  all_goals first | ((all_goals first | exact RetQ.fr 0 | exact RetQ.fn 0 | fail); done) | (exfalso; omega) | (exfalso; simp_all; done)
theorem check_object (m : Mg) (hf : m.fits) : AC Tryz.prog 239 [mgV m] [] fun y σ => y = iv .i64 (m.obj.check) ∧ σ = [] := by
  refine AC.walk Tryz.func239 rfl (by decide) (of_decide_eq_true rfl) ?_
  have hc := object_Check m.obj hf.2.2.2.1
  generalize m.obj.check = r at *
  focus (have kxs : 987654321 = 987654320 + 1 := rfl; have kk1 := uN [] (hc); (repeat' (first | refine G ?_ | refine AW.ret ?_ | (refine GC ?_ ?_ <;> intro h <;> (try simp only [hsB] at h) <;> try (exfalso; first | omega | contradiction)) | (refine GL ?_ ?_ <;> intro h <;> (try simp only [Bool.not_true, Bool.not_false] at h) <;> (try simp only [h]) <;> (try simp only [hsB] at h) <;> try (exfalso; first | omega | contradiction)) | fail)); all_goals clear kxs kk1)
  all_goals first | ((all_goals first | exact RetQ.fr 0 | exact RetQ.fn 0 | fail); done) | (exfalso; omega) | (exfalso; simp_all; done)
theorem check_old (m : Mg) (hf : m.fits) : AC Tryz.prog 230 [mgV m] [] fun y σ => y = iv .i64 (m.old.check) ∧ σ = [] := by
  refine AC.walk Tryz.func230 rfl (by decide) (of_decide_eq_true rfl) ?_
  have hc := legacy_Check m.old hf.2.2.2.2.1
  generalize m.old.check = r at *
  focus (have kxs : 987654321 = 987654320 + 1 := rfl; have kk1 := uN [] (hc); (repeat' (first | refine G ?_ | refine AW.ret ?_ | (refine GC ?_ ?_ <;> intro h <;> (try simp only [hsB] at h) <;> try (exfalso; first | omega | contradiction)) | (refine GL ?_ ?_ <;> intro h <;> (try simp only [Bool.not_true, Bool.not_false] at h) <;> (try simp only [h]) <;> (try simp only [hsB] at h) <;> try (exfalso; first | omega | contradiction)) | fail)); all_goals clear kxs kk1)
  all_goals first | ((all_goals first | exact RetQ.fr 0 | exact RetQ.fn 0 | fail); done) | (exfalso; omega) | (exfalso; simp_all; done)
theorem check_ctx (m : Mg) (hf : m.fits) : AC Tryz.prog 252 [mgV m] [] fun y σ => y = iv .i64 (Vec.check m.ctx) ∧ σ = [] := by
  refine AC.walk Tryz.func252 rfl (by decide) (of_decide_eq_true rfl) ?_
  have hc := vector_Check m.ctx hf.2.2.2.2.2.1
  generalize Vec.check m.ctx = r at *
  focus (have kxs : 987654321 = 987654320 + 1 := rfl; have kk1 := uN [] (hc); (repeat' (first | refine G ?_ | refine AW.ret ?_ | (refine GC ?_ ?_ <;> intro h <;> (try simp only [hsB] at h) <;> try (exfalso; first | omega | contradiction)) | (refine GL ?_ ?_ <;> intro h <;> (try simp only [Bool.not_true, Bool.not_false] at h) <;> (try simp only [h]) <;> (try simp only [hsB] at h) <;> try (exfalso; first | omega | contradiction)) | fail)); all_goals clear kxs kk1)
  all_goals first | ((all_goals first | exact RetQ.fr 0 | exact RetQ.fn 0 | fail); done) | (exfalso; omega) | (exfalso; simp_all; done)
theorem check_meta (m : Mg) (hf : m.fits) : AC Tryz.prog 258 [mgV m] [] fun y σ => y = iv .i64 (Prs.check m.meta_) ∧ σ = [] := by
  refine AC.walk Tryz.func258 rfl (by decide) (of_decide_eq_true rfl) ?_
  have hc := pairs_Check m.meta_ hf.2.2.2.2.2.2.1
  generalize Prs.check m.meta_ = r at *
  focus (have kxs : 987654321 = 987654320 + 1 := rfl; have kk1 := uN [] (hc); (repeat' (first | refine G ?_ | refine AW.ret ?_ | (refine GC ?_ ?_ <;> intro h <;> (try simp only [hsB] at h) <;> try (exfalso; first | omega | contradiction)) | (refine GL ?_ ?_ <;> intro h <;> (try simp only [Bool.not_true, Bool.not_false] at h) <;> (try simp only [h]) <;> (try simp only [hsB] at h) <;> try (exfalso; first | omega | contradiction)) | fail)); all_goals clear kxs kk1)
  all_goals first | ((all_goals first | exact RetQ.fr 0 | exact RetQ.fn 0 | fail); done) | (exfalso; omega) | (exfalso; simp_all; done)
theorem check_page (m : Mg) (hf : m.fits) : AC Tryz.prog 265 [mgV m] [] fun y σ => y = iv .i64 (m.page.check) ∧ σ = [] := by
  refine AC.walk Tryz.func265 rfl (by decide) (of_decide_eq_true rfl) ?_
  have hc := page_Check m.page hf.2.2.2.2.2.2.2.2.2.1
  generalize m.page.check = r at *
  focus (have kxs : 987654321 = 987654320 + 1 := rfl; have kk1 := uN [] (hc); (repeat' (first | refine G ?_ | refine AW.ret ?_ | (refine GC ?_ ?_ <;> intro h <;> (try simp only [hsB] at h) <;> try (exfalso; first | omega | contradiction)) | (refine GL ?_ ?_ <;> intro h <;> (try simp only [Bool.not_true, Bool.not_false] at h) <;> (try simp only [h]) <;> (try simp only [hsB] at h) <;> try (exfalso; first | omega | contradiction)) | fail)); all_goals clear kxs kk1)
  all_goals first | ((all_goals first | exact RetQ.fr 0 | exact RetQ.fn 0 | fail); done) | (exfalso; omega) | (exfalso; simp_all; done)
theorem check_ring (m : Mg) (hf : m.fits) : AC Tryz.prog 273 [mgV m] [] fun y σ => y = iv .i64 (Ring.check m.ring) ∧ σ = [] := by
  refine AC.walk Tryz.func273 rfl (by decide) (of_decide_eq_true rfl) ?_
  have hc := ring_Check m.ring hf.2.2.2.2.2.2.2.2.2.2.1
  generalize Ring.check m.ring = r at *
  focus (have kxs : 987654321 = 987654320 + 1 := rfl; have kk1 := uN [] (hc); (repeat' (first | refine G ?_ | refine AW.ret ?_ | (refine GC ?_ ?_ <;> intro h <;> (try simp only [hsB] at h) <;> try (exfalso; first | omega | contradiction)) | (refine GL ?_ ?_ <;> intro h <;> (try simp only [Bool.not_true, Bool.not_false] at h) <;> (try simp only [h]) <;> (try simp only [hsB] at h) <;> try (exfalso; first | omega | contradiction)) | fail)); all_goals clear kxs kk1)
  all_goals first | ((all_goals first | exact RetQ.fr 0 | exact RetQ.fn 0 | fail); done) | (exfalso; omega) | (exfalso; simp_all; done)
theorem check_code (m : Mg) (hf : m.fits) : AC Tryz.prog 247 [mgV m] [] fun y σ => y = iv .i64 (codechk m.code) ∧ σ = [] := by
  refine AC.walk Tryz.func247 rfl (by decide) (of_decide_eq_true rfl) ?_
  obtain ⟨f1, f2⟩ := hf.2.2.2.2.2.2.2.2.2.2.2.1
  unfold codechk
  by_cases h1 : m.code < 0
  · rw [if_pos h1]
    focus (have kxs : 987654321 = 987654320 + 1 := rfl; (repeat' (first | refine G ?_ | refine AW.ret ?_ | (refine GC ?_ ?_ <;> intro h <;> (try simp only [hsB] at h) <;> try (exfalso; first | omega | contradiction)) | (refine GL ?_ ?_ <;> intro h <;> (try simp only [Bool.not_true, Bool.not_false] at h) <;> (try simp only [h]) <;> (try simp only [hsB] at h) <;> try (exfalso; first | omega | contradiction)) | fail)); all_goals clear kxs)
    all_goals first | ((all_goals first | exact RetQ.fr 0 | exact RetQ.fn 0 | fail); done) | (exfalso; omega) | (exfalso; simp_all; done)
  rw [if_neg h1]
  by_cases h2 : 255 < m.code
  · rw [if_pos h2]
    focus (have kxs : 987654321 = 987654320 + 1 := rfl; (repeat' (first | refine G ?_ | refine AW.ret ?_ | (refine GC ?_ ?_ <;> intro h <;> (try simp only [hsB] at h) <;> try (exfalso; first | omega | contradiction)) | (refine GL ?_ ?_ <;> intro h <;> (try simp only [Bool.not_true, Bool.not_false] at h) <;> (try simp only [h]) <;> (try simp only [hsB] at h) <;> try (exfalso; first | omega | contradiction)) | fail)); all_goals clear kxs)
    all_goals first | ((all_goals first | exact RetQ.fr 0 | exact RetQ.fn 0 | fail); done) | (exfalso; omega) | (exfalso; simp_all; done)
  · rw [if_neg h2]
    focus (have kxs : 987654321 = 987654320 + 1 := rfl; (repeat' (first | refine G ?_ | refine AW.ret ?_ | (refine GC ?_ ?_ <;> intro h <;> (try simp only [hsB] at h) <;> try (exfalso; first | omega | contradiction)) | (refine GL ?_ ?_ <;> intro h <;> (try simp only [Bool.not_true, Bool.not_false] at h) <;> (try simp only [h]) <;> (try simp only [hsB] at h) <;> try (exfalso; first | omega | contradiction)) | fail)); all_goals clear kxs)
    all_goals first | ((all_goals first | exact RetQ.fr 0 | exact RetQ.fn 0 | fail); done) | (exfalso; omega) | (exfalso; simp_all; done)
theorem check_found_object (m : Mg) (hf : m.fits) : AC Tryz.prog 226 [mgV m, .p 0 0] [.box 111 [.f (.func 239) [] [], .f (.func 241) [] [], .f (.func 243) [] [], .f (.func 245) [] []]] fun y σ => y = iv .i64 (if m.found = true then m.obj.check else 0) ∧ σ = [.box 111 [.f (.func 239) [] [], .f (.func 241) [] [], .f (.func 243) [] [], .f (.func 245) [] []]] := by
  refine AC.walk Tryz.func226 rfl (by decide) (of_decide_eq_true rfl) ?_
  have hc := check_object m hf
  generalize m.obj.check = r at *
  cases h : m.found with
  | true =>
    rw [if_pos rfl]
    rw [show mgV m = mgV { m with found := true } by rw [← h]] at hc
    focus (have kxs := h; have kk1 := uN [] (hc); (repeat' (first | refine G ?_ | refine AW.ret ?_ | (refine GC ?_ ?_ <;> intro h <;> (try simp only [hsB] at h) <;> try (exfalso; first | omega | contradiction)) | (refine GL ?_ ?_ <;> intro h <;> (try simp only [Bool.not_true, Bool.not_false] at h) <;> (try simp only [h]) <;> (try simp only [hsB] at h) <;> try (exfalso; first | omega | contradiction)) | fail)); all_goals clear kxs kk1)
    all_goals first | ((all_goals first | exact RetQ.fr 1 | exact RetQ.fn 1 | fail); done) | (exfalso; omega) | (exfalso; simp_all; done)
  | false =>
    rw [if_neg (by decide)]
    focus (have kxs := h; (repeat' (first | refine G ?_ | refine AW.ret ?_ | (refine GC ?_ ?_ <;> intro h <;> (try simp only [hsB] at h) <;> try (exfalso; first | omega | contradiction)) | (refine GL ?_ ?_ <;> intro h <;> (try simp only [Bool.not_true, Bool.not_false] at h) <;> (try simp only [h]) <;> (try simp only [hsB] at h) <;> try (exfalso; first | omega | contradiction)) | fail)); all_goals clear kxs)
    all_goals first | ((all_goals first | exact RetQ.fr 1 | exact RetQ.fn 1 | fail); done) | (exfalso; omega) | (exfalso; simp_all; done)
theorem check_found_old (m : Mg) (hf : m.fits) : AC Tryz.prog 226 [mgV m, .p 0 0] [.box 111 [.f (.func 230) [] [], .f (.func 232) [] [], .f (.func 235) [] [], .f (.func 237) [] []]] fun y σ => y = iv .i64 (if m.found = true then m.old.check else 0) ∧ σ = [.box 111 [.f (.func 230) [] [], .f (.func 232) [] [], .f (.func 235) [] [], .f (.func 237) [] []]] := by
  refine AC.walk Tryz.func226 rfl (by decide) (of_decide_eq_true rfl) ?_
  have hc := check_old m hf
  generalize m.old.check = r at *
  cases h : m.found with
  | true =>
    rw [if_pos rfl]
    rw [show mgV m = mgV { m with found := true } by rw [← h]] at hc
    focus (have kxs := h; have kk1 := uN [] (hc); (repeat' (first | refine G ?_ | refine AW.ret ?_ | (refine GC ?_ ?_ <;> intro h <;> (try simp only [hsB] at h) <;> try (exfalso; first | omega | contradiction)) | (refine GL ?_ ?_ <;> intro h <;> (try simp only [Bool.not_true, Bool.not_false] at h) <;> (try simp only [h]) <;> (try simp only [hsB] at h) <;> try (exfalso; first | omega | contradiction)) | fail)); all_goals clear kxs kk1)
    all_goals first | ((all_goals first | exact RetQ.fr 1 | exact RetQ.fn 1 | fail); done) | (exfalso; omega) | (exfalso; simp_all; done)
  | false =>
    rw [if_neg (by decide)]
    focus (have kxs := h; (repeat' (first | refine G ?_ | refine AW.ret ?_ | (refine GC ?_ ?_ <;> intro h <;> (try simp only [hsB] at h) <;> try (exfalso; first | omega | contradiction)) | (refine GL ?_ ?_ <;> intro h <;> (try simp only [Bool.not_true, Bool.not_false] at h) <;> (try simp only [h]) <;> (try simp only [hsB] at h) <;> try (exfalso; first | omega | contradiction)) | fail)); all_goals clear kxs)
    all_goals first | ((all_goals first | exact RetQ.fr 1 | exact RetQ.fn 1 | fail); done) | (exfalso; omega) | (exfalso; simp_all; done)
end Go.AW
