/-
  a message's parts: those of each kind.
-/
import Derived.Test.YtbedecfkincemaaGreatZ07
import Derived.Test.YtbedecfkincemaaGreatZ06
import Derived.Test.YtbedecfkincemaaGreatZ05
import Derived.Test.YtbedecfkincemaaGreatZ04
namespace Go.AW
open Go Go.Proofs
set_option maxHeartbeats 4000000
set_option maxRecDepth 10000
set_option linter.unusedSimpArgs false
set_option linter.unusedVariables false
attribute [local irreducible] thenQ blockQ RetQ AL AW AC AOp

theorem parts_11 : AC Tryz.prog 72 [iv .u8 1, iv .u8 1] [] fun y σ => y = .t [.b 10 0 1, bv true] ∧ σ = [.box 3 [iv .i64 128], .box 4 [bv true], .box 231 [.f (.func 150) [] []], .box 111 [.f (.func 214) [] [.p 1 0, .p 2 0, .p 0 0], .f (.func 216) [] [.p 0 0, .p 2 0], .f (.func 218) [] [.p 0 0, .p 2 0, .p 1 0], .f (.func 220) [] [.p 2 0]], .box 234 [.f (.func 152) [] []], .box 111 [.f (.func 221) [] [], .f (.func 222) [] [.p 4 0], .f (.func 224) [] [.p 4 0], .f (.func 225) [] [.p 4 0]], .box 3 [iv .i64 64], .box 4 [bv false], .box 231 [.f (.func 153) [] []], .box 111 [.f (.func 214) [] [.p 7 0, .p 8 0, .p 6 0], .f (.func 216) [] [.p 6 0, .p 8 0], .f (.func 218) [] [.p 6 0, .p 8 0, .p 7 0], .f (.func 220) [] [.p 8 0]], .box 111 [.f (.func 214) [] [.p 1 0, .p 2 0, .p 0 0], .f (.func 216) [] [.p 0 0, .p 2 0], .f (.func 218) [] [.p 0 0, .p 2 0, .p 1 0], .f (.func 220) [] [.p 2 0]]] := by
  refine AC.walk Tryz.func72 rfl (by decide) (of_decide_eq_true rfl) ?_
  focus (have kxs : 987654321 = 987654320 + 1 := rfl; have kk1 := uN [] (msg_text 128 true 150); have kk2 := uN [] (msg_flag 152); have kk3 := uN [] (msg_text 64 false 153); (repeat' (first | (refine ADr.nil ?_; try clear hgv) | refine GW ?_ | refine AW.ret ?_ | (refine GC ?_ ?_ <;> intro h <;> (try simp only [hsB] at h) <;> try (exfalso; first | omega | contradiction)) | (refine GD ?_ ?_ <;> intro h <;> (try intro hgv) <;> (try simp only [Bool.not_true, Bool.not_false] at h) <;> (try simp only [h]) <;> (try simp only [hsB] at h) <;> try (exfalso; first | omega | contradiction)) | (refine GL ?_ ?_ <;> intro h <;> (try simp only [Bool.not_true, Bool.not_false] at h) <;> (try simp only [h]) <;> (try simp only [hsB] at h) <;> try (exfalso; first | omega | contradiction)) | fail)); all_goals clear kxs kk1 kk2 kk3)
  all_goals first | ((all_goals first | exact RetQ.fr 11 | exact RetQ.fn 11 | fail); done) | (exfalso; omega) | (exfalso; simp_all; done)
theorem has_11 : AC Tryz.prog 31 [iv .u8 1, iv .u8 1] [] fun y σ => y = bv true ∧ σ = [] := by
  refine AC.walk Tryz.func31 rfl (by decide) (of_decide_eq_true rfl) ?_
  have hp := parts_11
  focus (have kxs : 987654321 = 987654320 + 1 := rfl; have kk1 := uN [] (hp); (repeat' (first | refine G ?_ | refine AW.ret ?_ | (refine GC ?_ ?_ <;> intro h <;> (try simp only [hsB] at h) <;> try (exfalso; first | omega | contradiction)) | (refine GL ?_ ?_ <;> intro h <;> (try simp only [Bool.not_true, Bool.not_false] at h) <;> (try simp only [h]) <;> (try simp only [hsB] at h) <;> try (exfalso; first | omega | contradiction)) | fail)); all_goals clear kxs kk1)
  all_goals first | ((all_goals first | exact RetQ.fr 0 | exact RetQ.fn 0 | fail); done) | (exfalso; omega) | (exfalso; simp_all; done)
theorem parts_12 : AC Tryz.prog 72 [iv .u8 1, iv .u8 2] [] fun y σ => y = .t [.b 11 0 2, bv true] ∧ σ = [.box 3 [iv .i64 128], .box 4 [bv true], .box 231 [.f (.func 150) [] []], .box 111 [.f (.func 214) [] [.p 1 0, .p 2 0, .p 0 0], .f (.func 216) [] [.p 0 0, .p 2 0], .f (.func 218) [] [.p 0 0, .p 2 0, .p 1 0], .f (.func 220) [] [.p 2 0]], .box 234 [.f (.func 152) [] []], .box 111 [.f (.func 221) [] [], .f (.func 222) [] [.p 4 0], .f (.func 224) [] [.p 4 0], .f (.func 225) [] [.p 4 0]], .box 3 [iv .i64 64], .box 4 [bv false], .box 231 [.f (.func 153) [] []], .box 111 [.f (.func 214) [] [.p 7 0, .p 8 0, .p 6 0], .f (.func 216) [] [.p 6 0, .p 8 0], .f (.func 218) [] [.p 6 0, .p 8 0, .p 7 0], .f (.func 220) [] [.p 8 0]], .box 111 [.f (.func 230) [] [], .f (.func 232) [] [], .f (.func 235) [] [], .f (.func 237) [] []], .box 111 [.f (.func 221) [] [], .f (.func 222) [] [.p 4 0], .f (.func 224) [] [.p 4 0], .f (.func 225) [] [.p 4 0], .f (.func 226) [] [.p 10 0], .f (.func 227) [] [.p 10 0], .f (.func 228) [] [.p 10 0], .f (.func 229) [] [.p 10 0]]] := by
  refine AC.walk Tryz.func72 rfl (by decide) (of_decide_eq_true rfl) ?_
  focus (have kxs : 987654321 = 987654320 + 1 := rfl; have kk1 := uN [] (msg_text 128 true 150); have kk2 := uN [] (msg_flag 152); have kk3 := uN [] (msg_text 64 false 153); have kk4 := uN [] (msg_oldPart); have kk5 := uN [] (msg_found_old); (repeat' (first | (refine ADr.nil ?_; try clear hgv) | refine GW ?_ | refine AW.ret ?_ | (refine GC ?_ ?_ <;> intro h <;> (try simp only [hsB] at h) <;> try (exfalso; first | omega | contradiction)) | (refine GD ?_ ?_ <;> intro h <;> (try intro hgv) <;> (try simp only [Bool.not_true, Bool.not_false] at h) <;> (try simp only [h]) <;> (try simp only [hsB] at h) <;> try (exfalso; first | omega | contradiction)) | (refine GL ?_ ?_ <;> intro h <;> (try simp only [Bool.not_true, Bool.not_false] at h) <;> (try simp only [h]) <;> (try simp only [hsB] at h) <;> try (exfalso; first | omega | contradiction)) | fail)); all_goals clear kxs kk1 kk2 kk3 kk4 kk5)
  all_goals first | ((all_goals first | exact RetQ.fr 12 | exact RetQ.fn 12 | fail); done) | (exfalso; omega) | (exfalso; simp_all; done)
theorem has_12 : AC Tryz.prog 31 [iv .u8 1, iv .u8 2] [] fun y σ => y = bv true ∧ σ = [] := by
  refine AC.walk Tryz.func31 rfl (by decide) (of_decide_eq_true rfl) ?_
  have hp := parts_12
  focus (have kxs : 987654321 = 987654320 + 1 := rfl; have kk1 := uN [] (hp); (repeat' (first | refine G ?_ | refine AW.ret ?_ | (refine GC ?_ ?_ <;> intro h <;> (try simp only [hsB] at h) <;> try (exfalso; first | omega | contradiction)) | (refine GL ?_ ?_ <;> intro h <;> (try simp only [Bool.not_true, Bool.not_false] at h) <;> (try simp only [h]) <;> (try simp only [hsB] at h) <;> try (exfalso; first | omega | contradiction)) | fail)); all_goals clear kxs kk1)
  all_goals first | ((all_goals first | exact RetQ.fr 0 | exact RetQ.fn 0 | fail); done) | (exfalso; omega) | (exfalso; simp_all; done)
theorem parts_18 : AC Tryz.prog 72 [iv .u8 1, iv .u8 8] [] fun y σ => y = .t [.b 10 0 2, bv true] ∧ σ = [.box 3 [iv .i64 128], .box 4 [bv true], .box 231 [.f (.func 150) [] []], .box 111 [.f (.func 214) [] [.p 1 0, .p 2 0, .p 0 0], .f (.func 216) [] [.p 0 0, .p 2 0], .f (.func 218) [] [.p 0 0, .p 2 0, .p 1 0], .f (.func 220) [] [.p 2 0]], .box 234 [.f (.func 152) [] []], .box 111 [.f (.func 221) [] [], .f (.func 222) [] [.p 4 0], .f (.func 224) [] [.p 4 0], .f (.func 225) [] [.p 4 0]], .box 3 [iv .i64 64], .box 4 [bv false], .box 231 [.f (.func 153) [] []], .box 111 [.f (.func 214) [] [.p 7 0, .p 8 0, .p 6 0], .f (.func 216) [] [.p 6 0, .p 8 0], .f (.func 218) [] [.p 6 0, .p 8 0, .p 7 0], .f (.func 220) [] [.p 8 0]], .box 111 [.f (.func 247) [] [], .f (.func 248) [] [], .f (.func 250) [] [], .f (.func 251) [] [], .f (.func 214) [] [.p 7 0, .p 8 0, .p 6 0], .f (.func 216) [] [.p 6 0, .p 8 0], .f (.func 218) [] [.p 6 0, .p 8 0, .p 7 0], .f (.func 220) [] [.p 8 0]]] := by
  refine AC.walk Tryz.func72 rfl (by decide) (of_decide_eq_true rfl) ?_
  focus (have kxs : 987654321 = 987654320 + 1 := rfl; have kk1 := uN [] (msg_text 128 true 150); have kk2 := uN [] (msg_flag 152); have kk3 := uN [] (msg_text 64 false 153); have kk4 := uN [] (msg_codePart); (repeat' (first | (refine ADr.nil ?_; try clear hgv) | refine GW ?_ | refine AW.ret ?_ | (refine GC ?_ ?_ <;> intro h <;> (try simp only [hsB] at h) <;> try (exfalso; first | omega | contradiction)) | (refine GD ?_ ?_ <;> intro h <;> (try intro hgv) <;> (try simp only [Bool.not_true, Bool.not_false] at h) <;> (try simp only [h]) <;> (try simp only [hsB] at h) <;> try (exfalso; first | omega | contradiction)) | (refine GL ?_ ?_ <;> intro h <;> (try simp only [Bool.not_true, Bool.not_false] at h) <;> (try simp only [h]) <;> (try simp only [hsB] at h) <;> try (exfalso; first | omega | contradiction)) | fail)); all_goals clear kxs kk1 kk2 kk3 kk4)
  all_goals first | ((all_goals first | exact RetQ.fr 11 | exact RetQ.fn 11 | fail); done) | (exfalso; omega) | (exfalso; simp_all; done)
theorem has_18 : AC Tryz.prog 31 [iv .u8 1, iv .u8 8] [] fun y σ => y = bv true ∧ σ = [] := by
  refine AC.walk Tryz.func31 rfl (by decide) (of_decide_eq_true rfl) ?_
  have hp := parts_18
  focus (have kxs : 987654321 = 987654320 + 1 := rfl; have kk1 := uN [] (hp); (repeat' (first | refine G ?_ | refine AW.ret ?_ | (refine GC ?_ ?_ <;> intro h <;> (try simp only [hsB] at h) <;> try (exfalso; first | omega | contradiction)) | (refine GL ?_ ?_ <;> intro h <;> (try simp only [Bool.not_true, Bool.not_false] at h) <;> (try simp only [h]) <;> (try simp only [hsB] at h) <;> try (exfalso; first | omega | contradiction)) | fail)); all_goals clear kxs kk1)
  all_goals first | ((all_goals first | exact RetQ.fr 0 | exact RetQ.fn 0 | fail); done) | (exfalso; omega) | (exfalso; simp_all; done)
theorem parts_21 : AC Tryz.prog 72 [iv .u8 2, iv .u8 1] [] fun y σ => y = .t [.b 10 0 1, bv true] ∧ σ = [.box 3 [iv .i64 128], .box 4 [bv true], .box 231 [.f (.func 150) [] []], .box 111 [.f (.func 214) [] [.p 1 0, .p 2 0, .p 0 0], .f (.func 216) [] [.p 0 0, .p 2 0], .f (.func 218) [] [.p 0 0, .p 2 0, .p 1 0], .f (.func 220) [] [.p 2 0]], .box 234 [.f (.func 152) [] []], .box 111 [.f (.func 221) [] [], .f (.func 222) [] [.p 4 0], .f (.func 224) [] [.p 4 0], .f (.func 225) [] [.p 4 0]], .box 3 [iv .i64 64], .box 4 [bv false], .box 231 [.f (.func 153) [] []], .box 111 [.f (.func 214) [] [.p 7 0, .p 8 0, .p 6 0], .f (.func 216) [] [.p 6 0, .p 8 0], .f (.func 218) [] [.p 6 0, .p 8 0, .p 7 0], .f (.func 220) [] [.p 8 0]], .box 111 [.f (.func 214) [] [.p 1 0, .p 2 0, .p 0 0], .f (.func 216) [] [.p 0 0, .p 2 0], .f (.func 218) [] [.p 0 0, .p 2 0, .p 1 0], .f (.func 220) [] [.p 2 0]]] := by
  refine AC.walk Tryz.func72 rfl (by decide) (of_decide_eq_true rfl) ?_
  focus (have kxs : 987654321 = 987654320 + 1 := rfl; have kk1 := uN [] (msg_text 128 true 150); have kk2 := uN [] (msg_flag 152); have kk3 := uN [] (msg_text 64 false 153); (repeat' (first | (refine ADr.nil ?_; try clear hgv) | refine GW ?_ | refine AW.ret ?_ | (refine GC ?_ ?_ <;> intro h <;> (try simp only [hsB] at h) <;> try (exfalso; first | omega | contradiction)) | (refine GD ?_ ?_ <;> intro h <;> (try intro hgv) <;> (try simp only [Bool.not_true, Bool.not_false] at h) <;> (try simp only [h]) <;> (try simp only [hsB] at h) <;> try (exfalso; first | omega | contradiction)) | (refine GL ?_ ?_ <;> intro h <;> (try simp only [Bool.not_true, Bool.not_false] at h) <;> (try simp only [h]) <;> (try simp only [hsB] at h) <;> try (exfalso; first | omega | contradiction)) | fail)); all_goals clear kxs kk1 kk2 kk3)
  all_goals first | ((all_goals first | exact RetQ.fr 11 | exact RetQ.fn 11 | fail); done) | (exfalso; omega) | (exfalso; simp_all; done)
theorem which_21 : AC Tryz.prog 51 [iv .u8 2, iv .u8 1] [] fun y σ => y = .t [.b 10 0 1, iv .i64 0] ∧ σ = [.box 3 [iv .i64 128], .box 4 [bv true], .box 231 [.f (.func 150) [] []], .box 111 [.f (.func 214) [] [.p 1 0, .p 2 0, .p 0 0], .f (.func 216) [] [.p 0 0, .p 2 0], .f (.func 218) [] [.p 0 0, .p 2 0, .p 1 0], .f (.func 220) [] [.p 2 0]], .box 234 [.f (.func 152) [] []], .box 111 [.f (.func 221) [] [], .f (.func 222) [] [.p 4 0], .f (.func 224) [] [.p 4 0], .f (.func 225) [] [.p 4 0]], .box 3 [iv .i64 64], .box 4 [bv false], .box 231 [.f (.func 153) [] []], .box 111 [.f (.func 214) [] [.p 7 0, .p 8 0, .p 6 0], .f (.func 216) [] [.p 6 0, .p 8 0], .f (.func 218) [] [.p 6 0, .p 8 0, .p 7 0], .f (.func 220) [] [.p 8 0]], .box 111 [.f (.func 214) [] [.p 1 0, .p 2 0, .p 0 0], .f (.func 216) [] [.p 0 0, .p 2 0], .f (.func 218) [] [.p 0 0, .p 2 0, .p 1 0], .f (.func 220) [] [.p 2 0]]] := by
  refine AC.walk Tryz.func51 rfl (by decide) (of_decide_eq_true rfl) ?_
  have hp := parts_21
  focus (have kxs : 987654321 = 987654320 + 1 := rfl; have kk1 := uN [] (hp); (repeat' (first | refine G ?_ | refine AW.ret ?_ | (refine GC ?_ ?_ <;> intro h <;> (try simp only [hsB] at h) <;> try (exfalso; first | omega | contradiction)) | (refine GL ?_ ?_ <;> intro h <;> (try simp only [Bool.not_true, Bool.not_false] at h) <;> (try simp only [h]) <;> (try simp only [hsB] at h) <;> try (exfalso; first | omega | contradiction)) | fail)); all_goals clear kxs kk1)
  all_goals first | ((all_goals first | exact RetQ.fr 11 | exact RetQ.fn 11 | fail); done) | (exfalso; omega) | (exfalso; simp_all; done)
theorem has_21 : AC Tryz.prog 31 [iv .u8 2, iv .u8 1] [] fun y σ => y = bv true ∧ σ = [] := by
  refine AC.walk Tryz.func31 rfl (by decide) (of_decide_eq_true rfl) ?_
  have hp := parts_21
  focus (have kxs : 987654321 = 987654320 + 1 := rfl; have kk1 := uN [] (hp); (repeat' (first | refine G ?_ | refine AW.ret ?_ | (refine GC ?_ ?_ <;> intro h <;> (try simp only [hsB] at h) <;> try (exfalso; first | omega | contradiction)) | (refine GL ?_ ?_ <;> intro h <;> (try simp only [Bool.not_true, Bool.not_false] at h) <;> (try simp only [h]) <;> (try simp only [hsB] at h) <;> try (exfalso; first | omega | contradiction)) | fail)); all_goals clear kxs kk1)
  all_goals first | ((all_goals first | exact RetQ.fr 0 | exact RetQ.fn 0 | fail); done) | (exfalso; omega) | (exfalso; simp_all; done)
theorem parts_22 : AC Tryz.prog 72 [iv .u8 2, iv .u8 2] [] fun y σ => y = .t [.b 11 0 2, bv true] ∧ σ = [.box 3 [iv .i64 128], .box 4 [bv true], .box 231 [.f (.func 150) [] []], .box 111 [.f (.func 214) [] [.p 1 0, .p 2 0, .p 0 0], .f (.func 216) [] [.p 0 0, .p 2 0], .f (.func 218) [] [.p 0 0, .p 2 0, .p 1 0], .f (.func 220) [] [.p 2 0]], .box 234 [.f (.func 152) [] []], .box 111 [.f (.func 221) [] [], .f (.func 222) [] [.p 4 0], .f (.func 224) [] [.p 4 0], .f (.func 225) [] [.p 4 0]], .box 3 [iv .i64 64], .box 4 [bv false], .box 231 [.f (.func 153) [] []], .box 111 [.f (.func 214) [] [.p 7 0, .p 8 0, .p 6 0], .f (.func 216) [] [.p 6 0, .p 8 0], .f (.func 218) [] [.p 6 0, .p 8 0, .p 7 0], .f (.func 220) [] [.p 8 0]], .box 111 [.f (.func 239) [] [], .f (.func 241) [] [], .f (.func 243) [] [], .f (.func 245) [] []], .box 111 [.f (.func 221) [] [], .f (.func 222) [] [.p 4 0], .f (.func 224) [] [.p 4 0], .f (.func 225) [] [.p 4 0], .f (.func 226) [] [.p 10 0], .f (.func 227) [] [.p 10 0], .f (.func 228) [] [.p 10 0], .f (.func 229) [] [.p 10 0]]] := by
  refine AC.walk Tryz.func72 rfl (by decide) (of_decide_eq_true rfl) ?_
  focus (have kxs : 987654321 = 987654320 + 1 := rfl; have kk1 := uN [] (msg_text 128 true 150); have kk2 := uN [] (msg_flag 152); have kk3 := uN [] (msg_text 64 false 153); have kk4 := uN [] (msg_objectPart); have kk5 := uN [] (msg_found_object); (repeat' (first | (refine ADr.nil ?_; try clear hgv) | refine GW ?_ | refine AW.ret ?_ | (refine GC ?_ ?_ <;> intro h <;> (try simp only [hsB] at h) <;> try (exfalso; first | omega | contradiction)) | (refine GD ?_ ?_ <;> intro h <;> (try intro hgv) <;> (try simp only [Bool.not_true, Bool.not_false] at h) <;> (try simp only [h]) <;> (try simp only [hsB] at h) <;> try (exfalso; first | omega | contradiction)) | (refine GL ?_ ?_ <;> intro h <;> (try simp only [Bool.not_true, Bool.not_false] at h) <;> (try simp only [h]) <;> (try simp only [hsB] at h) <;> try (exfalso; first | omega | contradiction)) | fail)); all_goals clear kxs kk1 kk2 kk3 kk4 kk5)
  all_goals first | ((all_goals first | exact RetQ.fr 12 | exact RetQ.fn 12 | fail); done) | (exfalso; omega) | (exfalso; simp_all; done)
theorem has_22 : AC Tryz.prog 31 [iv .u8 2, iv .u8 2] [] fun y σ => y = bv true ∧ σ = [] := by
  refine AC.walk Tryz.func31 rfl (by decide) (of_decide_eq_true rfl) ?_
  have hp := parts_22
  focus (have kxs : 987654321 = 987654320 + 1 := rfl; have kk1 := uN [] (hp); (repeat' (first | refine G ?_ | refine AW.ret ?_ | (refine GC ?_ ?_ <;> intro h <;> (try simp only [hsB] at h) <;> try (exfalso; first | omega | contradiction)) | (refine GL ?_ ?_ <;> intro h <;> (try simp only [Bool.not_true, Bool.not_false] at h) <;> (try simp only [h]) <;> (try simp only [hsB] at h) <;> try (exfalso; first | omega | contradiction)) | fail)); all_goals clear kxs kk1)
  all_goals first | ((all_goals first | exact RetQ.fr 0 | exact RetQ.fn 0 | fail); done) | (exfalso; omega) | (exfalso; simp_all; done)
theorem parts_23 : AC Tryz.prog 72 [iv .u8 2, iv .u8 3] [] fun y σ => y = .t [.b 15 0 5, bv true] ∧ σ = [.box 3 [iv .i64 128], .box 4 [bv true], .box 231 [.f (.func 150) [] []], .box 111 [.f (.func 214) [] [.p 1 0, .p 2 0, .p 0 0], .f (.func 216) [] [.p 0 0, .p 2 0], .f (.func 218) [] [.p 0 0, .p 2 0, .p 1 0], .f (.func 220) [] [.p 2 0]], .box 234 [.f (.func 152) [] []], .box 111 [.f (.func 221) [] [], .f (.func 222) [] [.p 4 0], .f (.func 224) [] [.p 4 0], .f (.func 225) [] [.p 4 0]], .box 3 [iv .i64 64], .box 4 [bv false], .box 231 [.f (.func 153) [] []], .box 111 [.f (.func 214) [] [.p 7 0, .p 8 0, .p 6 0], .f (.func 216) [] [.p 6 0, .p 8 0], .f (.func 218) [] [.p 6 0, .p 8 0, .p 7 0], .f (.func 220) [] [.p 8 0]], .box 234 [.f (.func 158) [] []], .box 111 [.f (.func 221) [] [], .f (.func 222) [] [.p 10 0], .f (.func 224) [] [.p 10 0], .f (.func 225) [] [.p 10 0]], .box 3 [iv .i64 32768], .box 4 [bv false], .box 231 [.f (.func 161) [] []], .box 111 [.f (.func 214) [] [.p 1 0, .p 2 0, .p 0 0], .f (.func 216) [] [.p 0 0, .p 2 0], .f (.func 218) [] [.p 0 0, .p 2 0, .p 1 0], .f (.func 220) [] [.p 2 0], .f (.func 252) [] [], .f (.func 254) [] [], .f (.func 256) [] [], .f (.func 257) [] [], .f (.func 258) [] [], .f (.func 260) [] [], .f (.func 262) [] [], .f (.func 263) [] [], .f (.func 221) [] [], .f (.func 222) [] [.p 10 0], .f (.func 224) [] [.p 10 0], .f (.func 225) [] [.p 10 0], .f (.func 214) [] [.p 13 0, .p 14 0, .p 12 0], .f (.func 216) [] [.p 12 0, .p 14 0], .f (.func 218) [] [.p 12 0, .p 14 0, .p 13 0], .f (.func 220) [] [.p 14 0]]] := by
  refine AC.walk Tryz.func72 rfl (by decide) (of_decide_eq_true rfl) ?_
  focus (have kxs : 987654321 = 987654320 + 1 := rfl; have kk1 := uN [] (msg_text 128 true 150); have kk2 := uN [] (msg_flag 152); have kk3 := uN [] (msg_text 64 false 153); have kk4 := uN [] (msg_flag 158); have kk5 := uN [] (msg_text 32768 false 161); have kk6 := uN [] (msg_ctxPart); have kk7 := uN [] (msg_metaPart); (repeat' (first | (refine ADr.nil ?_; try clear hgv) | refine GW ?_ | refine AW.ret ?_ | (refine GC ?_ ?_ <;> intro h <;> (try simp only [hsB] at h) <;> try (exfalso; first | omega | contradiction)) | (refine GD ?_ ?_ <;> intro h <;> (try intro hgv) <;> (try simp only [Bool.not_true, Bool.not_false] at h) <;> (try simp only [h]) <;> (try simp only [hsB] at h) <;> try (exfalso; first | omega | contradiction)) | (refine GL ?_ ?_ <;> intro h <;> (try simp only [Bool.not_true, Bool.not_false] at h) <;> (try simp only [h]) <;> (try simp only [hsB] at h) <;> try (exfalso; first | omega | contradiction)) | fail)); all_goals clear kxs kk1 kk2 kk3 kk4 kk5 kk6 kk7)
  all_goals first | ((all_goals first | exact RetQ.fr 16 | exact RetQ.fn 16 | fail); done) | (exfalso; omega) | (exfalso; simp_all; done)
theorem has_23 : AC Tryz.prog 31 [iv .u8 2, iv .u8 3] [] fun y σ => y = bv true ∧ σ = [] := by
  refine AC.walk Tryz.func31 rfl (by decide) (of_decide_eq_true rfl) ?_
  have hp := parts_23
  focus (have kxs : 987654321 = 987654320 + 1 := rfl; have kk1 := uN [] (hp); (repeat' (first | refine G ?_ | refine AW.ret ?_ | (refine GC ?_ ?_ <;> intro h <;> (try simp only [hsB] at h) <;> try (exfalso; first | omega | contradiction)) | (refine GL ?_ ?_ <;> intro h <;> (try simp only [Bool.not_true, Bool.not_false] at h) <;> (try simp only [h]) <;> (try simp only [hsB] at h) <;> try (exfalso; first | omega | contradiction)) | fail)); all_goals clear kxs kk1)
  all_goals first | ((all_goals first | exact RetQ.fr 0 | exact RetQ.fn 0 | fail); done) | (exfalso; omega) | (exfalso; simp_all; done)
theorem parts_24 : AC Tryz.prog 72 [iv .u8 2, iv .u8 4] [] fun y σ => y = .t [.b 10 0 1, bv true] ∧ σ = [.box 3 [iv .i64 128], .box 4 [bv true], .box 231 [.f (.func 150) [] []], .box 111 [.f (.func 214) [] [.p 1 0, .p 2 0, .p 0 0], .f (.func 216) [] [.p 0 0, .p 2 0], .f (.func 218) [] [.p 0 0, .p 2 0, .p 1 0], .f (.func 220) [] [.p 2 0]], .box 234 [.f (.func 152) [] []], .box 111 [.f (.func 221) [] [], .f (.func 222) [] [.p 4 0], .f (.func 224) [] [.p 4 0], .f (.func 225) [] [.p 4 0]], .box 3 [iv .i64 64], .box 4 [bv false], .box 231 [.f (.func 153) [] []], .box 111 [.f (.func 214) [] [.p 7 0, .p 8 0, .p 6 0], .f (.func 216) [] [.p 6 0, .p 8 0], .f (.func 218) [] [.p 6 0, .p 8 0, .p 7 0], .f (.func 220) [] [.p 8 0]], .box 111 [.f (.func 252) [] [], .f (.func 254) [] [], .f (.func 256) [] [], .f (.func 257) [] []]] := by
  refine AC.walk Tryz.func72 rfl (by decide) (of_decide_eq_true rfl) ?_
  focus (have kxs : 987654321 = 987654320 + 1 := rfl; have kk1 := uN [] (msg_text 128 true 150); have kk2 := uN [] (msg_flag 152); have kk3 := uN [] (msg_text 64 false 153); have kk4 := uN [] (msg_ctxPart); (repeat' (first | (refine ADr.nil ?_; try clear hgv) | refine GW ?_ | refine AW.ret ?_ | (refine GC ?_ ?_ <;> intro h <;> (try simp only [hsB] at h) <;> try (exfalso; first | omega | contradiction)) | (refine GD ?_ ?_ <;> intro h <;> (try intro hgv) <;> (try simp only [Bool.not_true, Bool.not_false] at h) <;> (try simp only [h]) <;> (try simp only [hsB] at h) <;> try (exfalso; first | omega | contradiction)) | (refine GL ?_ ?_ <;> intro h <;> (try simp only [Bool.not_true, Bool.not_false] at h) <;> (try simp only [h]) <;> (try simp only [hsB] at h) <;> try (exfalso; first | omega | contradiction)) | fail)); all_goals clear kxs kk1 kk2 kk3 kk4)
  all_goals first | ((all_goals first | exact RetQ.fr 11 | exact RetQ.fn 11 | fail); done) | (exfalso; omega) | (exfalso; simp_all; done)
theorem has_24 : AC Tryz.prog 31 [iv .u8 2, iv .u8 4] [] fun y σ => y = bv true ∧ σ = [] := by
  refine AC.walk Tryz.func31 rfl (by decide) (of_decide_eq_true rfl) ?_
  have hp := parts_24
  focus (have kxs : 987654321 = 987654320 + 1 := rfl; have kk1 := uN [] (hp); (repeat' (first | refine G ?_ | refine AW.ret ?_ | (refine GC ?_ ?_ <;> intro h <;> (try simp only [hsB] at h) <;> try (exfalso; first | omega | contradiction)) | (refine GL ?_ ?_ <;> intro h <;> (try simp only [Bool.not_true, Bool.not_false] at h) <;> (try simp only [h]) <;> (try simp only [hsB] at h) <;> try (exfalso; first | omega | contradiction)) | fail)); all_goals clear kxs kk1)
  all_goals first | ((all_goals first | exact RetQ.fr 0 | exact RetQ.fn 0 | fail); done) | (exfalso; omega) | (exfalso; simp_all; done)
theorem parts_25 : AC Tryz.prog 72 [iv .u8 2, iv .u8 5] [] fun y σ => y = .t [.b 13 0 1, bv true] ∧ σ = [.box 3 [iv .i64 128], .box 4 [bv true], .box 231 [.f (.func 150) [] []], .box 111 [.f (.func 214) [] [.p 1 0, .p 2 0, .p 0 0], .f (.func 216) [] [.p 0 0, .p 2 0], .f (.func 218) [] [.p 0 0, .p 2 0, .p 1 0], .f (.func 220) [] [.p 2 0]], .box 234 [.f (.func 152) [] []], .box 111 [.f (.func 221) [] [], .f (.func 222) [] [.p 4 0], .f (.func 224) [] [.p 4 0], .f (.func 225) [] [.p 4 0]], .box 3 [iv .i64 64], .box 4 [bv false], .box 231 [.f (.func 153) [] []], .box 111 [.f (.func 214) [] [.p 7 0, .p 8 0, .p 6 0], .f (.func 216) [] [.p 6 0, .p 8 0], .f (.func 218) [] [.p 6 0, .p 8 0, .p 7 0], .f (.func 220) [] [.p 8 0]], .box 3 [iv .i64 31], .box 4 [bv false], .box 231 [.f (.func 162) [] []], .box 111 [.f (.func 214) [] [.p 11 0, .p 12 0, .p 10 0], .f (.func 216) [] [.p 10 0, .p 12 0], .f (.func 218) [] [.p 10 0, .p 12 0, .p 11 0], .f (.func 220) [] [.p 12 0]]] := by
  refine AC.walk Tryz.func72 rfl (by decide) (of_decide_eq_true rfl) ?_
  focus (have kxs : 987654321 = 987654320 + 1 := rfl; have kk1 := uN [] (msg_text 128 true 150); have kk2 := uN [] (msg_flag 152); have kk3 := uN [] (msg_text 64 false 153); have kk4 := uN [] (msg_text 31 false 162); (repeat' (first | (refine ADr.nil ?_; try clear hgv) | refine GW ?_ | refine AW.ret ?_ | (refine GC ?_ ?_ <;> intro h <;> (try simp only [hsB] at h) <;> try (exfalso; first | omega | contradiction)) | (refine GD ?_ ?_ <;> intro h <;> (try intro hgv) <;> (try simp only [Bool.not_true, Bool.not_false] at h) <;> (try simp only [h]) <;> (try simp only [hsB] at h) <;> try (exfalso; first | omega | contradiction)) | (refine GL ?_ ?_ <;> intro h <;> (try simp only [Bool.not_true, Bool.not_false] at h) <;> (try simp only [h]) <;> (try simp only [hsB] at h) <;> try (exfalso; first | omega | contradiction)) | fail)); all_goals clear kxs kk1 kk2 kk3 kk4)
  all_goals first | ((all_goals first | exact RetQ.fr 14 | exact RetQ.fn 14 | fail); done) | (exfalso; omega) | (exfalso; simp_all; done)
theorem has_25 : AC Tryz.prog 31 [iv .u8 2, iv .u8 5] [] fun y σ => y = bv true ∧ σ = [] := by
  refine AC.walk Tryz.func31 rfl (by decide) (of_decide_eq_true rfl) ?_
  have hp := parts_25
  focus (have kxs : 987654321 = 987654320 + 1 := rfl; have kk1 := uN [] (hp); (repeat' (first | refine G ?_ | refine AW.ret ?_ | (refine GC ?_ ?_ <;> intro h <;> (try simp only [hsB] at h) <;> try (exfalso; first | omega | contradiction)) | (refine GL ?_ ?_ <;> intro h <;> (try simp only [Bool.not_true, Bool.not_false] at h) <;> (try simp only [h]) <;> (try simp only [hsB] at h) <;> try (exfalso; first | omega | contradiction)) | fail)); all_goals clear kxs kk1)
  all_goals first | ((all_goals first | exact RetQ.fr 0 | exact RetQ.fn 0 | fail); done) | (exfalso; omega) | (exfalso; simp_all; done)
theorem parts_26 : AC Tryz.prog 72 [iv .u8 2, iv .u8 6] [] fun y σ => y = .t [.b 10 0 1, bv true] ∧ σ = [.box 3 [iv .i64 128], .box 4 [bv true], .box 231 [.f (.func 150) [] []], .box 111 [.f (.func 214) [] [.p 1 0, .p 2 0, .p 0 0], .f (.func 216) [] [.p 0 0, .p 2 0], .f (.func 218) [] [.p 0 0, .p 2 0, .p 1 0], .f (.func 220) [] [.p 2 0]], .box 234 [.f (.func 152) [] []], .box 111 [.f (.func 221) [] [], .f (.func 222) [] [.p 4 0], .f (.func 224) [] [.p 4 0], .f (.func 225) [] [.p 4 0]], .box 3 [iv .i64 64], .box 4 [bv false], .box 231 [.f (.func 153) [] []], .box 111 [.f (.func 214) [] [.p 7 0, .p 8 0, .p 6 0], .f (.func 216) [] [.p 6 0, .p 8 0], .f (.func 218) [] [.p 6 0, .p 8 0, .p 7 0], .f (.func 220) [] [.p 8 0]], .box 111 [.f (.func 265) [] [], .f (.func 267) [] [], .f (.func 269) [] [], .f (.func 270) [] []]] := by
  refine AC.walk Tryz.func72 rfl (by decide) (of_decide_eq_true rfl) ?_
  focus (have kxs : 987654321 = 987654320 + 1 := rfl; have kk1 := uN [] (msg_text 128 true 150); have kk2 := uN [] (msg_flag 152); have kk3 := uN [] (msg_text 64 false 153); have kk4 := uN [] (msg_pagePart); (repeat' (first | (refine ADr.nil ?_; try clear hgv) | refine GW ?_ | refine AW.ret ?_ | (refine GC ?_ ?_ <;> intro h <;> (try simp only [hsB] at h) <;> try (exfalso; first | omega | contradiction)) | (refine GD ?_ ?_ <;> intro h <;> (try intro hgv) <;> (try simp only [Bool.not_true, Bool.not_false] at h) <;> (try simp only [h]) <;> (try simp only [hsB] at h) <;> try (exfalso; first | omega | contradiction)) | (refine GL ?_ ?_ <;> intro h <;> (try simp only [Bool.not_true, Bool.not_false] at h) <;> (try simp only [h]) <;> (try simp only [hsB] at h) <;> try (exfalso; first | omega | contradiction)) | fail)); all_goals clear kxs kk1 kk2 kk3 kk4)
  all_goals first | ((all_goals first | exact RetQ.fr 11 | exact RetQ.fn 11 | fail); done) | (exfalso; omega) | (exfalso; simp_all; done)
theorem has_26 : AC Tryz.prog 31 [iv .u8 2, iv .u8 6] [] fun y σ => y = bv true ∧ σ = [] := by
  refine AC.walk Tryz.func31 rfl (by decide) (of_decide_eq_true rfl) ?_
  have hp := parts_26
  focus (have kxs : 987654321 = 987654320 + 1 := rfl; have kk1 := uN [] (hp); (repeat' (first | refine G ?_ | refine AW.ret ?_ | (refine GC ?_ ?_ <;> intro h <;> (try simp only [hsB] at h) <;> try (exfalso; first | omega | contradiction)) | (refine GL ?_ ?_ <;> intro h <;> (try simp only [Bool.not_true, Bool.not_false] at h) <;> (try simp only [h]) <;> (try simp only [hsB] at h) <;> try (exfalso; first | omega | contradiction)) | fail)); all_goals clear kxs kk1)
  all_goals first | ((all_goals first | exact RetQ.fr 0 | exact RetQ.fn 0 | fail); done) | (exfalso; omega) | (exfalso; simp_all; done)
theorem parts_27 : AC Tryz.prog 72 [iv .u8 2, iv .u8 7] [] fun y σ => y = .t [.b 10 0 1, bv true] ∧ σ = [.box 3 [iv .i64 128], .box 4 [bv true], .box 231 [.f (.func 150) [] []], .box 111 [.f (.func 214) [] [.p 1 0, .p 2 0, .p 0 0], .f (.func 216) [] [.p 0 0, .p 2 0], .f (.func 218) [] [.p 0 0, .p 2 0, .p 1 0], .f (.func 220) [] [.p 2 0]], .box 234 [.f (.func 152) [] []], .box 111 [.f (.func 221) [] [], .f (.func 222) [] [.p 4 0], .f (.func 224) [] [.p 4 0], .f (.func 225) [] [.p 4 0]], .box 3 [iv .i64 64], .box 4 [bv false], .box 231 [.f (.func 153) [] []], .box 111 [.f (.func 214) [] [.p 7 0, .p 8 0, .p 6 0], .f (.func 216) [] [.p 6 0, .p 8 0], .f (.func 218) [] [.p 6 0, .p 8 0, .p 7 0], .f (.func 220) [] [.p 8 0]], .box 111 [.f (.func 273) [] [], .f (.func 275) [] [], .f (.func 278) [] [], .f (.func 279) [] []]] := by
  refine AC.walk Tryz.func72 rfl (by decide) (of_decide_eq_true rfl) ?_
  focus (have kxs : 987654321 = 987654320 + 1 := rfl; have kk1 := uN [] (msg_text 128 true 150); have kk2 := uN [] (msg_flag 152); have kk3 := uN [] (msg_text 64 false 153); have kk4 := uN [] (msg_ringPart); (repeat' (first | (refine ADr.nil ?_; try clear hgv) | refine GW ?_ | refine AW.ret ?_ | (refine GC ?_ ?_ <;> intro h <;> (try simp only [hsB] at h) <;> try (exfalso; first | omega | contradiction)) | (refine GD ?_ ?_ <;> intro h <;> (try intro hgv) <;> (try simp only [Bool.not_true, Bool.not_false] at h) <;> (try simp only [h]) <;> (try simp only [hsB] at h) <;> try (exfalso; first | omega | contradiction)) | (refine GL ?_ ?_ <;> intro h <;> (try simp only [Bool.not_true, Bool.not_false] at h) <;> (try simp only [h]) <;> (try simp only [hsB] at h) <;> try (exfalso; first | omega | contradiction)) | fail)); all_goals clear kxs kk1 kk2 kk3 kk4)
  all_goals first | ((all_goals first | exact RetQ.fr 11 | exact RetQ.fn 11 | fail); done) | (exfalso; omega) | (exfalso; simp_all; done)
theorem has_27 : AC Tryz.prog 31 [iv .u8 2, iv .u8 7] [] fun y σ => y = bv true ∧ σ = [] := by
  refine AC.walk Tryz.func31 rfl (by decide) (of_decide_eq_true rfl) ?_
  have hp := parts_27
  focus (have kxs : 987654321 = 987654320 + 1 := rfl; have kk1 := uN [] (hp); (repeat' (first | refine G ?_ | refine AW.ret ?_ | (refine GC ?_ ?_ <;> intro h <;> (try simp only [hsB] at h) <;> try (exfalso; first | omega | contradiction)) | (refine GL ?_ ?_ <;> intro h <;> (try simp only [Bool.not_true, Bool.not_false] at h) <;> (try simp only [h]) <;> (try simp only [hsB] at h) <;> try (exfalso; first | omega | contradiction)) | fail)); all_goals clear kxs kk1)
  all_goals first | ((all_goals first | exact RetQ.fr 0 | exact RetQ.fn 0 | fail); done) | (exfalso; omega) | (exfalso; simp_all; done)
theorem parts_28 : AC Tryz.prog 72 [iv .u8 2, iv .u8 8] [] fun y σ => y = .t [.b 10 0 2, bv true] ∧ σ = [.box 3 [iv .i64 128], .box 4 [bv true], .box 231 [.f (.func 150) [] []], .box 111 [.f (.func 214) [] [.p 1 0, .p 2 0, .p 0 0], .f (.func 216) [] [.p 0 0, .p 2 0], .f (.func 218) [] [.p 0 0, .p 2 0, .p 1 0], .f (.func 220) [] [.p 2 0]], .box 234 [.f (.func 152) [] []], .box 111 [.f (.func 221) [] [], .f (.func 222) [] [.p 4 0], .f (.func 224) [] [.p 4 0], .f (.func 225) [] [.p 4 0]], .box 3 [iv .i64 64], .box 4 [bv false], .box 231 [.f (.func 153) [] []], .box 111 [.f (.func 214) [] [.p 7 0, .p 8 0, .p 6 0], .f (.func 216) [] [.p 6 0, .p 8 0], .f (.func 218) [] [.p 6 0, .p 8 0, .p 7 0], .f (.func 220) [] [.p 8 0]], .box 111 [.f (.func 247) [] [], .f (.func 248) [] [], .f (.func 250) [] [], .f (.func 251) [] [], .f (.func 214) [] [.p 7 0, .p 8 0, .p 6 0], .f (.func 216) [] [.p 6 0, .p 8 0], .f (.func 218) [] [.p 6 0, .p 8 0, .p 7 0], .f (.func 220) [] [.p 8 0]]] := by
  refine AC.walk Tryz.func72 rfl (by decide) (of_decide_eq_true rfl) ?_
  focus (have kxs : 987654321 = 987654320 + 1 := rfl; have kk1 := uN [] (msg_text 128 true 150); have kk2 := uN [] (msg_flag 152); have kk3 := uN [] (msg_text 64 false 153); have kk4 := uN [] (msg_codePart); (repeat' (first | (refine ADr.nil ?_; try clear hgv) | refine GW ?_ | refine AW.ret ?_ | (refine GC ?_ ?_ <;> intro h <;> (try simp only [hsB] at h) <;> try (exfalso; first | omega | contradiction)) | (refine GD ?_ ?_ <;> intro h <;> (try intro hgv) <;> (try simp only [Bool.not_true, Bool.not_false] at h) <;> (try simp only [h]) <;> (try simp only [hsB] at h) <;> try (exfalso; first | omega | contradiction)) | (refine GL ?_ ?_ <;> intro h <;> (try simp only [Bool.not_true, Bool.not_false] at h) <;> (try simp only [h]) <;> (try simp only [hsB] at h) <;> try (exfalso; first | omega | contradiction)) | fail)); all_goals clear kxs kk1 kk2 kk3 kk4)
  all_goals first | ((all_goals first | exact RetQ.fr 11 | exact RetQ.fn 11 | fail); done) | (exfalso; omega) | (exfalso; simp_all; done)
theorem has_28 : AC Tryz.prog 31 [iv .u8 2, iv .u8 8] [] fun y σ => y = bv true ∧ σ = [] := by
  refine AC.walk Tryz.func31 rfl (by decide) (of_decide_eq_true rfl) ?_
  have hp := parts_28
  focus (have kxs : 987654321 = 987654320 + 1 := rfl; have kk1 := uN [] (hp); (repeat' (first | refine G ?_ | refine AW.ret ?_ | (refine GC ?_ ?_ <;> intro h <;> (try simp only [hsB] at h) <;> try (exfalso; first | omega | contradiction)) | (refine GL ?_ ?_ <;> intro h <;> (try simp only [Bool.not_true, Bool.not_false] at h) <;> (try simp only [h]) <;> (try simp only [hsB] at h) <;> try (exfalso; first | omega | contradiction)) | fail)); all_goals clear kxs kk1)
  all_goals first | ((all_goals first | exact RetQ.fr 0 | exact RetQ.fn 0 | fail); done) | (exfalso; omega) | (exfalso; simp_all; done)
theorem parts_29 : AC Tryz.prog 72 [iv .u8 2, iv .u8 9] [] fun y σ => y = .t [.b 10 0 1, bv true] ∧ σ = [.box 3 [iv .i64 128], .box 4 [bv true], .box 231 [.f (.func 150) [] []], .box 111 [.f (.func 214) [] [.p 1 0, .p 2 0, .p 0 0], .f (.func 216) [] [.p 0 0, .p 2 0], .f (.func 218) [] [.p 0 0, .p 2 0, .p 1 0], .f (.func 220) [] [.p 2 0]], .box 234 [.f (.func 152) [] []], .box 111 [.f (.func 221) [] [], .f (.func 222) [] [.p 4 0], .f (.func 224) [] [.p 4 0], .f (.func 225) [] [.p 4 0]], .box 3 [iv .i64 64], .box 4 [bv false], .box 231 [.f (.func 153) [] []], .box 111 [.f (.func 214) [] [.p 7 0, .p 8 0, .p 6 0], .f (.func 216) [] [.p 6 0, .p 8 0], .f (.func 218) [] [.p 6 0, .p 8 0, .p 7 0], .f (.func 220) [] [.p 8 0]], .box 111 [.f (.func 239) [] [], .f (.func 241) [] [], .f (.func 243) [] [], .f (.func 245) [] []]] := by
  refine AC.walk Tryz.func72 rfl (by decide) (of_decide_eq_true rfl) ?_
  focus (have kxs : 987654321 = 987654320 + 1 := rfl; have kk1 := uN [] (msg_text 128 true 150); have kk2 := uN [] (msg_flag 152); have kk3 := uN [] (msg_text 64 false 153); have kk4 := uN [] (msg_objectPart); (repeat' (first | (refine ADr.nil ?_; try clear hgv) | refine GW ?_ | refine AW.ret ?_ | (refine GC ?_ ?_ <;> intro h <;> (try simp only [hsB] at h) <;> try (exfalso; first | omega | contradiction)) | (refine GD ?_ ?_ <;> intro h <;> (try intro hgv) <;> (try simp only [Bool.not_true, Bool.not_false] at h) <;> (try simp only [h]) <;> (try simp only [hsB] at h) <;> try (exfalso; first | omega | contradiction)) | (refine GL ?_ ?_ <;> intro h <;> (try simp only [Bool.not_true, Bool.not_false] at h) <;> (try simp only [h]) <;> (try simp only [hsB] at h) <;> try (exfalso; first | omega | contradiction)) | fail)); all_goals clear kxs kk1 kk2 kk3 kk4)
  all_goals first | ((all_goals first | exact RetQ.fr 11 | exact RetQ.fn 11 | fail); done) | (exfalso; omega) | (exfalso; simp_all; done)
theorem has_29 : AC Tryz.prog 31 [iv .u8 2, iv .u8 9] [] fun y σ => y = bv true ∧ σ = [] := by
  refine AC.walk Tryz.func31 rfl (by decide) (of_decide_eq_true rfl) ?_
  have hp := parts_29
  focus (have kxs : 987654321 = 987654320 + 1 := rfl; have kk1 := uN [] (hp); (repeat' (first | refine G ?_ | refine AW.ret ?_ | (refine GC ?_ ?_ <;> intro h <;> (try simp only [hsB] at h) <;> try (exfalso; first | omega | contradiction)) | (refine GL ?_ ?_ <;> intro h <;> (try simp only [Bool.not_true, Bool.not_false] at h) <;> (try simp only [h]) <;> (try simp only [hsB] at h) <;> try (exfalso; first | omega | contradiction)) | fail)); all_goals clear kxs kk1)
  all_goals first | ((all_goals first | exact RetQ.fr 0 | exact RetQ.fn 0 | fail); done) | (exfalso; omega) | (exfalso; simp_all; done)
end Go.AW
/-
  a message's parts: the check of a whole message.
-/
namespace Go.AW
open Go Go.Proofs
set_option maxHeartbeats 4000000
set_option maxRecDepth 10000
set_option linter.unusedSimpArgs false
set_option linter.unusedVariables false
attribute [local irreducible] thenQ blockQ RetQ AL AW AC AOp

theorem parts_none (v k : Nat) (hv : v < 256) (hk : k < 256) (h : has v k = false) : AC Tryz.prog 72 [iv .u8 (v : Nat), iv .u8 (k : Nat)] [] fun y σ => y = .t [.d (.l 0 []), bv false] ∧ σ = [] := by
  refine AC.walk Tryz.func72 rfl (by decide) (of_decide_eq_true rfl) ?_
  have hh : ¬ ((v = 1 ∧ (k = 1 ∨ k = 2 ∨ k = 8)) ∨ (v = 2 ∧ 1 ≤ k ∧ k ≤ 9)) := fun hc => by
    unfold has at h
    split at h
    · simp only [decide_eq_false_iff_not] at h; omega
    · simp only [decide_eq_false_iff_not] at h; omega
  focus (have kxs : 987654321 = 987654320 + 1 := rfl; have kk1 := uN [] (msg_text 128 true 150); have kk2 := uN [] (msg_flag 152); have kk3 := uN [] (msg_text 64 false 153); (repeat' (first | (refine ADr.nil ?_; try clear hgv) | refine GO ?_ | refine AW.ret ?_ | (refine GC ?_ ?_ <;> intro h <;> (try simp only [hsB] at h) <;> try (exfalso; first | omega | contradiction)) | (refine GD ?_ ?_ <;> intro h <;> (try intro hgv) <;> (try simp only [Bool.not_true, Bool.not_false] at h) <;> (try simp only [h]) <;> (try simp only [hsB] at h) <;> try (exfalso; first | omega | contradiction)) | (refine GL ?_ ?_ <;> intro h <;> (try simp only [Bool.not_true, Bool.not_false] at h) <;> (try simp only [h]) <;> (try simp only [hsB] at h) <;> try (exfalso; first | omega | contradiction)) | fail)); all_goals clear kxs kk1 kk2 kk3)
  all_goals first | ((all_goals first | exact RetQ.fr 0 | exact RetQ.fn 0 | fail); done) | (exfalso; omega) | (exfalso; simp_all; done)
theorem which_none (v k : Nat) (hv : v < 256) (hk : k < 256) (h : has v k = false) : AC Tryz.prog 51 [iv .u8 (v : Nat), iv .u8 (k : Nat)] [] fun y σ => y = .t [.d (.l 0 []), iv .i64 (if v ≠ 1 ∧ v ≠ 2 then 10 else 11)] ∧ σ = [] := by
  refine AC.walk Tryz.func51 rfl (by decide) (of_decide_eq_true rfl) ?_
  have hp := parts_none v k hv hk h
  by_cases h0 : v ≠ 1 ∧ v ≠ 2
  · rw [if_pos h0]
    obtain ⟨h1, h2⟩ := h0
    focus (have kxs : 987654321 = 987654320 + 1 := rfl; have kk1 := uN [] (hp); (repeat' (first | refine G ?_ | refine AW.ret ?_ | (refine GC ?_ ?_ <;> intro h <;> (try simp only [hsB] at h) <;> try (exfalso; first | omega | contradiction)) | (refine GL ?_ ?_ <;> intro h <;> (try simp only [Bool.not_true, Bool.not_false] at h) <;> (try simp only [h]) <;> (try simp only [hsB] at h) <;> try (exfalso; first | omega | contradiction)) | fail)); all_goals clear kxs kk1)
    all_goals first | ((all_goals first | exact RetQ.fr 0 | exact RetQ.fn 0 | fail); done) | (exfalso; omega) | (exfalso; simp_all; done)
  · rw [if_neg h0]
    focus (have kxs : 987654321 = 987654320 + 1 := rfl; have kk1 := uN [] (hp); (repeat' (first | refine G ?_ | refine AW.ret ?_ | (refine GC ?_ ?_ <;> intro h <;> (try simp only [hsB] at h) <;> try (exfalso; first | omega | contradiction)) | (refine GL ?_ ?_ <;> intro h <;> (try simp only [Bool.not_true, Bool.not_false] at h) <;> (try simp only [h]) <;> (try simp only [hsB] at h) <;> try (exfalso; first | omega | contradiction)) | fail)); all_goals clear kxs kk1)
    all_goals first | ((all_goals first | exact RetQ.fr 0 | exact RetQ.fn 0 | fail); done) | (exfalso; omega) | (exfalso; simp_all; done)
theorem has_none (v k : Nat) (hv : v < 256) (hk : k < 256) (h : has v k = false) : AC Tryz.prog 31 [iv .u8 (v : Nat), iv .u8 (k : Nat)] [] fun y σ => y = bv false ∧ σ = [] := by
  refine AC.walk Tryz.func31 rfl (by decide) (of_decide_eq_true rfl) ?_
  have hp := parts_none v k hv hk h
  focus (have kxs : 987654321 = 987654320 + 1 := rfl; have kk1 := uN [] (hp); (repeat' (first | refine G ?_ | refine AW.ret ?_ | (refine GC ?_ ?_ <;> intro h <;> (try simp only [hsB] at h) <;> try (exfalso; first | omega | contradiction)) | (refine GL ?_ ?_ <;> intro h <;> (try simp only [Bool.not_true, Bool.not_false] at h) <;> (try simp only [h]) <;> (try simp only [hsB] at h) <;> try (exfalso; first | omega | contradiction)) | fail)); all_goals clear kxs kk1)
  all_goals first | ((all_goals first | exact RetQ.fr 0 | exact RetQ.fn 0 | fail); done) | (exfalso; omega) | (exfalso; simp_all; done)
theorem check_none (v : Nat) (m : Mg) (hv : v < 256) (hk : m.kind < 256) (h : has v m.kind = false) : AC Tryz.prog 20 [iv .u8 (v : Nat), mgV m] [] fun y σ => y = iv .i64 (m.check v) ∧ σ = [] := by
  refine AC.walk Tryz.func20 rfl (by decide) (of_decide_eq_true rfl) ?_
  have hw := which_none v m.kind hv hk h
  have hr : m.check v = if v ≠ 1 ∧ v ≠ 2 then 10 else 11 := by unfold Mg.check; rw [if_pos h]
  have hr0 : m.check v ≠ 0 := by rw [hr]; split <;> decide
  rw [← hr] at hw
  generalize m.check v = r at *
  focus (have kxs : 987654321 = 987654320 + 1 := rfl; have kk1 := uN [] (hw); (repeat' (first | refine G ?_ | refine AW.ret ?_ | (refine GC ?_ ?_ <;> intro h <;> (try simp only [hsB] at h) <;> try (exfalso; first | omega | contradiction)) | (refine GL ?_ ?_ <;> intro h <;> (try simp only [Bool.not_true, Bool.not_false] at h) <;> (try simp only [h]) <;> (try simp only [hsB] at h) <;> try (exfalso; first | omega | contradiction)) | fail)); all_goals clear kxs kk1)
  all_goals first | ((all_goals first | exact RetQ.fr 0 | exact RetQ.fn 0 | fail); done) | (exfalso; omega) | (exfalso; simp_all; done)
theorem check_21 (m : Mg) (hf : m.fits) (hk : m.kind = 1) : AC Tryz.prog 20 [iv .u8 2, mgV m] [] fun y σ => y = iv .i64 (m.check 2) ∧ σ = [] := by
  refine AC.walk Tryz.func20 rfl (by decide) (of_decide_eq_true rfl) ?_
  obtain ⟨knd, id, key, fnd, obj, old, ctx, mt, dd, vl, px, pg, rg, cd, tx⟩ := m
  simp only at hk
  subst hk
  have hw := which_21
  have c0 := check_Key ⟨1, id, key, fnd, obj, old, ctx, mt, dd, vl, px, pg, rg, cd, tx⟩ hf
  have hr : Mg.check 2 ⟨1, id, key, fnd, obj, old, ctx, mt, dd, vl, px, pg, rg, cd, tx⟩ = keychk key := rfl
  rw [hr]
  clear hr
  simp only at c0
  generalize (keychk key) = r0 at *
  focus (have kxs : 987654321 = 987654320 + 1 := rfl; have kk1 := uN [] (hw); (repeat' (first | refine G ?_ | refine AW.ret ?_ | (refine GC ?_ ?_ <;> intro h <;> (try simp only [hsB] at h) <;> try (exfalso; first | omega | contradiction)) | (refine GL ?_ ?_ <;> intro h <;> (try simp only [Bool.not_true, Bool.not_false] at h) <;> (try simp only [h]) <;> (try simp only [hsB] at h) <;> try (exfalso; first | omega | contradiction)) | fail)); all_goals clear kxs kk1)
  all_goals first | (exfalso; omega) | (exfalso; simp_all; done) | skip
  refine AW.rounds [3, 4, 20, 21, 22] (fun i : Nat => [(3, .p 0 0), (4, iv .i64 0), (20, .b 11 0 1), (21, iv .i64 1), (22, iv .i64 (i : Nat))]) (fun _ => [.box 38 (mgC ⟨1, id, key, fnd, obj, old, ctx, mt, dd, vl, px, pg, rg, cd, tx⟩), .box 3 [iv .i64 128], .box 4 [bv true], .box 231 [.f (.func 150) [] []], .box 111 [.f (.func 214) [] [.p 2 0, .p 3 0, .p 1 0], .f (.func 216) [] [.p 1 0, .p 3 0], .f (.func 218) [] [.p 1 0, .p 3 0, .p 2 0], .f (.func 220) [] [.p 3 0]], .box 234 [.f (.func 152) [] []], .box 111 [.f (.func 221) [] [], .f (.func 222) [] [.p 5 0], .f (.func 224) [] [.p 5 0], .f (.func 225) [] [.p 5 0]], .box 3 [iv .i64 64], .box 4 [bv false], .box 231 [.f (.func 153) [] []], .box 111 [.f (.func 214) [] [.p 8 0, .p 9 0, .p 7 0], .f (.func 216) [] [.p 7 0, .p 9 0], .f (.func 218) [] [.p 7 0, .p 9 0, .p 8 0], .f (.func 220) [] [.p 9 0]], .box 111 [.f (.func 214) [] [.p 2 0, .p 3 0, .p 1 0], .f (.func 216) [] [.p 1 0, .p 3 0], .f (.func 218) [] [.p 1 0, .p 3 0, .p 2 0], .f (.func 220) [] [.p 3 0]]])
    (fun i => i ≤ 1 ∧ (1 ≤ i → r0 = 0)) (fun i => 1 - i) 0 ⟨Nat.zero_le _, fun h => absurd h (by decide)⟩ rfl rfl (fun _ _ => Nat.zero_le _) (fun _ _ => rfl) (fun _ _ => rfl) ?_
  rintro i ⟨hi, g0⟩ J hJ
  have hc : i = 0 ∨ i = 1 := by omega
  rcases hc with rfl | rfl
  · clear hw
    by_cases hz : r0 = 0
    · focus (have kxs : 987654321 = 987654320 + 1 := rfl; have kk1 := uN [2, 3, 1] (c0); (repeat' (first | refine G ?_ | refine AW.ret ?_ | (refine GC ?_ ?_ <;> intro h <;> (try simp only [hsB] at h) <;> try (exfalso; first | omega | contradiction)) | (refine GL ?_ ?_ <;> intro h <;> (try simp only [Bool.not_true, Bool.not_false] at h) <;> (try simp only [h]) <;> (try simp only [hsB] at h) <;> try (exfalso; first | omega | contradiction)) | fail)); all_goals clear kxs kk1)
      all_goals first | (refine hJ 1 _ _ (by decide) ⟨by decide, fun h => hz⟩ rfl rfl; done) | (exfalso; omega) | (exfalso; simp_all; done)
    · have hv : (r0) = r0 := by rfl
      rw [hv]
      focus (have kxs : 987654321 = 987654320 + 1 := rfl; have kk1 := uN [2, 3, 1] (c0); (repeat' (first | refine G ?_ | refine AW.ret ?_ | (refine GC ?_ ?_ <;> intro h <;> (try simp only [hsB] at h) <;> try (exfalso; first | omega | contradiction)) | (refine GL ?_ ?_ <;> intro h <;> (try simp only [Bool.not_true, Bool.not_false] at h) <;> (try simp only [h]) <;> (try simp only [hsB] at h) <;> try (exfalso; first | omega | contradiction)) | fail)); all_goals clear kxs kk1)
      all_goals first | ((all_goals first | exact RetQ.fr 0 | exact RetQ.fn 0 | fail); done) | (exfalso; omega) | (exfalso; simp_all; done)
  · clear hw
    have hv : (r0) = 0 := by exact g0 (by decide)
    rw [hv]
    focus (have kxs : 987654321 = 987654320 + 1 := rfl; (repeat' (first | refine G ?_ | refine AW.ret ?_ | (refine GC ?_ ?_ <;> intro h <;> (try simp only [hsB] at h) <;> try (exfalso; first | omega | contradiction)) | (refine GL ?_ ?_ <;> intro h <;> (try simp only [Bool.not_true, Bool.not_false] at h) <;> (try simp only [h]) <;> (try simp only [hsB] at h) <;> try (exfalso; first | omega | contradiction)) | fail)); all_goals clear kxs)
    all_goals first | ((all_goals first | exact RetQ.fr 0 | exact RetQ.fn 0 | fail); done) | (exfalso; omega) | (exfalso; simp_all; done)
end Go.AW
/-
  pages that are read: the program's.
-/
namespace Go.AW
open Go Go.Proofs
set_option maxHeartbeats 4000000
set_option maxRecDepth 10000
set_option linter.unusedSimpArgs false
set_option linter.unusedVariables false
attribute [local irreducible] thenQ blockQ RetQ AL AW AC AOp

/-! ### What is read as far as it is read -/
section
variable {α κ : Type} {R : κ → Cu → α × Cu} {next : κ → α → κ}
def Cu.manyg {α κ : Type} (R : κ → Cu → α × Cu) (next : κ → α → κ) : Nat → κ → Cu → List α × Cu
  | 0, _, c => ([], c)
  | n + 1, k, c => if c.e ≠ 0 then ([], c) else ((R k c).1 :: (Cu.manyg R next n (next k (R k c).1) (R k c).2).1, (Cu.manyg R next n (next k (R k c).1) (R k c).2).2)
end
def lastK (l : List It) : Option (List UInt8) := l.getLast?.map Prod.fst
def lastS (l : List Sl) : Option Nat := l.getLast?.map Prod.fst
/-- A leaf's items, as far as they are read. -/
def Cu.itemsg (pre : List UInt8) (c : Cu) : List It × Cu := Cu.manyg (Cu.item pre) (fun _ x => some x.1) (c.count 8).1 none (c.count 8).2
def Cu.slotsg (c : Cu) : List Sl × Cu := Cu.manyg Cu.slot (fun _ x => some x.1) c.count7.1 none c.count7.2
end Go.AW
/-
  members that are read: the program's.
-/
namespace Go.AW
open Go Go.Proofs
set_option maxHeartbeats 4000000
set_option maxRecDepth 10000
set_option linter.unusedSimpArgs false
set_option linter.unusedVariables false
attribute [local irreducible] thenQ blockQ RetQ AL AW AC AOp

/-- Tokens as far as they are read. -/
def Cu.tokg : Nat → Option Nat → Cu → List Nat × Cu
  | 0, _, c => ([], c)
  | n + 1, p, c => if c.e ≠ 0 then ([], c) else ((c.tok p).1 :: (Cu.tokg n (some (c.tok p).1) (c.tok p).2).1, (Cu.tokg n (some (c.tok p).1) (c.tok p).2).2)
/-- A member as far as it is read. -/
def Cu.memg (p : List UInt8) (c : Cu) : Mb × Cu :=
  (⟨(c.actor 32 p).1, (c.actor 32 p).2.vnz.1, (c.actor 32 p).2.vnz.2.stt.1, (Cu.tokg ((c.actor 32 p).2.vnz.2.stt.2.count 16).1 none ((c.actor 32 p).2.vnz.2.stt.2.count 16).2).1⟩,
   (Cu.tokg ((c.actor 32 p).2.vnz.2.stt.2.count 16).1 none ((c.actor 32 p).2.vnz.2.stt.2.count 16).2).2)
end Go.AW
/-
  rings that are read: the program's; whole texts.
-/
namespace Go.AW
open Go Go.Proofs
set_option maxHeartbeats 2000000
set_option maxRecDepth 10000
set_option linter.unusedSimpArgs false
set_option linter.unusedVariables false
attribute [local irreducible] thenQ blockQ RetQ AL AW AC AOp

abbrev Mfam := Fam Cu.mem (fun (_ : List UInt8) (x : Mb) => x.name)
end Go.AW
/-
  old objects that are read: the program's.
-/
namespace Go.AW
open Go Go.Proofs
set_option maxHeartbeats 2000000
set_option maxRecDepth 10000
set_option linter.unusedSimpArgs false
set_option linter.unusedVariables false
attribute [local irreducible] thenQ blockQ RetQ AL AW AC AOp

def onext (seen : List Vec) (x : Os1) : List Vec := seen ++ [x.clk]
end Go.AW
/-
  objects that are read: the document's; objects that are written; whole texts.
-/
namespace Go.AW
open Go Go.Proofs
set_option maxHeartbeats 2000000
set_option maxRecDepth 10000
set_option linter.unusedSimpArgs false
set_option linter.unusedVariables false
attribute [local irreducible] thenQ blockQ RetQ AL AW AC AOp

end Go.AW
/-
  objects that are written: the program's and the document's; whole texts.
-/
namespace Go.AW
open Go Go.Proofs
set_option maxHeartbeats 2000000
set_option maxRecDepth 10000
set_option linter.unusedSimpArgs false
set_option linter.unusedVariables false
attribute [local irreducible] thenQ blockQ RetQ AL AW AC AOp

section
variable (b : List UInt8) (m e : Int)
end

end Go.AW
/-
  a message's parts: how they are read.
-/
namespace Go.AW
open Go Go.Proofs
set_option maxHeartbeats 4000000
set_option maxRecDepth 10000
set_option linter.unusedSimpArgs false
set_option linter.unusedVariables false
attribute [local irreducible] thenQ blockQ RetQ AL AW AC AOp

end Go.AW
/-
  a message's parts: a whole message is read.
-/
namespace Go.AW
open Go Go.Proofs
set_option maxHeartbeats 4000000
set_option maxRecDepth 10000
set_option linter.unusedSimpArgs false
set_option linter.unusedVariables false
attribute [local irreducible] thenQ blockQ RetQ AL AW AC AOp

theorem decode_none (v k : Nat) (s : List UInt8) (hv : v < 256) (hk : k < 256) (h : has v k = false) : AC Tryz.prog 16 [iv .u8 (v : Nat), iv .u8 (k : Nat), sv (bs s)] [] fun y σ => y = .t [mgV (msgw v k s).1, iv .i64 (msgw v k s).2] ∧ σ = [] := by
  refine AC.walk Tryz.func16 rfl (by decide) (of_decide_eq_true rfl) ?_
  have hw := which_none v k hv hk h
  have hr : msgw v k s = (mg0, if v ≠ 1 ∧ v ≠ 2 then 10 else 11) := by
    unfold msgw
    by_cases h0 : v ≠ 1 ∧ v ≠ 2
    · rw [if_pos h0, if_pos h0]
    · rw [if_neg h0, if_pos h, if_neg h0]
  have hr0 : (if v ≠ 1 ∧ v ≠ 2 then (10 : Int) else 11) ≠ 0 := by split <;> decide
  rw [hr]
  generalize (if v ≠ 1 ∧ v ≠ 2 then (10 : Int) else 11) = r at *
  focus (have kxs : 987654321 = 987654320 + 1 := rfl; have kk1 := uN [] (hw); (repeat' (first | refine G ?_ | refine AW.ret ?_ | (refine GC ?_ ?_ <;> intro h <;> (try simp only [hsB] at h) <;> try (exfalso; first | omega | contradiction)) | (refine GL ?_ ?_ <;> intro h <;> (try simp only [Bool.not_true, Bool.not_false] at h) <;> (try simp only [h]) <;> (try simp only [hsB] at h) <;> try (exfalso; first | omega | contradiction)) | fail)); all_goals clear kxs kk1)
  all_goals first | ((all_goals first | exact RetQ.fr 0 | exact RetQ.fn 0 | fail); done) | (exfalso; omega) | (exfalso; simp_all; done)
end Go.AW
/-
  pages that are written: the program's and the document's.
-/
namespace Go.AW
open Go Go.Proofs
set_option maxHeartbeats 4000000
set_option maxRecDepth 10000
set_option linter.unusedSimpArgs false
set_option linter.unusedVariables false
attribute [local irreducible] thenQ blockQ RetQ AL AW AC AOp

theorem pk_text {b s : List UInt8} (hm : b.length + s.length ≤ 65536) : Pe.text ⟨b, 65536, 0⟩ s = ⟨b ++ s, 65536, 0⟩ :=
  pens_text.fit ⟨b, 65536, 0⟩ s rfl trivial (by show ((b.length + s.length : Nat) : Int) ≤ (65536 : Int); omega)
theorem pk_ok {b : List UInt8} (h : b.length ≤ 65536) : Pe.Ok ⟨b, 65536, 0⟩ := ⟨by show (0 : Int) ≤ 65536; decide, by show (65536 : Int) ≤ _; decide, by show b.length ≤ _; omega⟩
/-- A page's bytes up to a place among its items, among its slots. -/
def ptexti (q : List UInt8) (g : Pg) (i : Nat) : List UInt8 := ((q ++ eblob g.pre) ++ eflag true) ++ vput g.items.length ++ ((g.items.take i).map eit).flatten
def ptexts (q : List UInt8) (g : Pg) (i : Nat) : List UInt8 := ((q ++ eblob g.pre) ++ eflag false) ++ vput g.slots.length ++ ((g.slots.take i).map esl).flatten
end Go.AW
/-
  numbers of eight bytes that are written; rings that are written.
-/
namespace Go.AW
open Go Go.Proofs
set_option maxHeartbeats 2000000
set_option maxRecDepth 10000
set_option linter.unusedSimpArgs false
set_option linter.unusedVariables false
attribute [local irreducible] thenQ blockQ RetQ AL AW AC AOp

def wipD (l : List UInt8) (j : Nat) : List V := (bsD (l.take j ++ List.replicate (8 - j) 0)).map V.d
end Go.AW
/-
  rings that are written: the program's and the document's.
-/
namespace Go.AW
open Go Go.Proofs
set_option maxHeartbeats 4000000
set_option maxRecDepth 10000
set_option linter.unusedSimpArgs false
set_option linter.unusedVariables false
attribute [local irreducible] thenQ blockQ RetQ AL AW AC AOp

/-- A right ring's text, as far as place i. -/
def rtext (l : Ring) (i : Nat) : List UInt8 := vput l.length ++ ((l.take i).map emem).flatten
end Go.AW
/-
  a message's parts: how they are written.
-/
namespace Go.AW
open Go Go.Proofs
set_option maxHeartbeats 4000000
set_option maxRecDepth 10000
set_option linter.unusedSimpArgs false
set_option linter.unusedVariables false
attribute [local irreducible] thenQ blockQ RetQ AL AW AC AOp

theorem m_len (m : Mg) (hf : m.fits) : m.key.length ≤ 9223372036854775807 ∧ m.val.length ≤ 9223372036854775807 ∧ m.pre.length ≤ 9223372036854775807 ∧ m.txt.length ≤ 9223372036854775807 := by
  obtain ⟨_, _, f1, _, _, _, _, f2, f3, _, _, _, f4⟩ := hf
  exact ⟨f1, f2, f3, f4⟩
theorem put_Key (m : Mg) (hf : m.fits) (b : List UInt8) (e : Int) (ok : Pe.Ok ⟨b, 65536, e⟩) : AC Tryz.prog 216 [.p 0 0, mgV m, .p 2 0, .p 3 0] (Pe.obs ⟨b, 65536, e⟩ ++ [.box 3 [iv .i64 128], .box 231 [.f (.func 150) [] []]]) fun y σ => y = .t [] ∧ σ = Pe.obs (Pe.blob ⟨b, 65536, e⟩ 128 m.key) ++ [.box 3 [iv .i64 128], .box 231 [.f (.func 150) [] []]] := by
  refine AC.walk Tryz.func216 rfl (by decide) (of_decide_eq_true rfl) ?_
  have hof := of_Key (mgC m) rfl
  have hb := blob_Put1 b m.key 65536 e 128 ok (m_len m hf).1 (.inl (by decide))
  generalize Pe.blob ⟨b, 65536, e⟩ 128 m.key = r at *
  focus (have kxs : 987654321 = 987654320 + 1 := rfl; have kk1 := uN [4] (hof); have kk2 := uN [0, 1] (hb); (repeat' (first | (refine ADr.nil ?_; try clear hgv) | refine GW ?_ | refine AW.ret ?_ | (refine GC ?_ ?_ <;> intro h <;> (try simp only [hsB] at h) <;> try (exfalso; first | omega | contradiction)) | (refine GD ?_ ?_ <;> intro h <;> (try intro hgv) <;> (try simp only [Bool.not_true, Bool.not_false] at h) <;> (try simp only [h]) <;> (try simp only [hsB] at h) <;> try (exfalso; first | omega | contradiction)) | (refine GL ?_ ?_ <;> intro h <;> (try simp only [Bool.not_true, Bool.not_false] at h) <;> (try simp only [h]) <;> (try simp only [hsB] at h) <;> try (exfalso; first | omega | contradiction)) | fail)); all_goals clear kxs kk1 kk2)
  all_goals first | ((all_goals first | exact RetQ.fr 4 | exact RetQ.fn 4 | fail); done) | (exfalso; omega) | (exfalso; simp_all; done)
end Go.AW
