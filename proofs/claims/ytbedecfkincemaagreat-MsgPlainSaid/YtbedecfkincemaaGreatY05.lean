/-
  cursor: each function does what its plain form says.
-/
import Derived.Test.YtbedecfkincemaaGreatY03
import Derived.Test.YtbedecfkincemaaGreatY04
namespace Go.AW
open Go Go.Proofs
set_option maxHeartbeats 1000000
set_option maxRecDepth 10000
set_option linter.unusedSimpArgs false
set_option linter.unusedVariables false
attribute [local irreducible] thenQ blockQ RetQ AL AW AC AOp

abbrev Cu.ob (c : Cu) : Ob := .box 212 [sv (bs c.s), iv .i64 c.a, iv .i64 c.e]
attribute [go_sem] Cu.ob

section
variable (s : List UInt8) (a : Nat) (e f n : Int)

end
end Go.AW
/-
  The document's cursor: each function does what its plain form says.
-/
namespace Go.AW
open Go Go.Proofs
set_option maxHeartbeats 1000000
set_option maxRecDepth 10000
set_option linter.unusedSimpArgs false
set_option linter.unusedVariables false
attribute [local irreducible] thenQ blockQ RetQ AL AW AC AOp

abbrev Cu.ro (c : Cu) : Ob := .box 116 [sv (bs c.s), iv .i64 c.a, iv .i64 c.e]
attribute [go_sem] Cu.ro

section
variable (s : List UInt8) (a : Nat) (e f n : Int)

end
end Go.AW
/-
  pen: each function does what its plain form says.
-/
namespace Go.AW
open Go Go.Proofs
set_option maxHeartbeats 1000000
set_option maxRecDepth 10000
set_option linter.unusedSimpArgs false
set_option linter.unusedVariables false
attribute [local irreducible] thenQ blockQ RetQ AL AW AC AOp

abbrev Pe.obs (p : Pe) : List Ob := [.box 238 [.o 1 p.b.length, iv .i64 p.m, iv .i64 p.e], .row 5 1 p.b.length (bsD p.b)]
attribute [go_sem] Pe.obs

section
variable (b s : List UInt8) (m e f n : Int)

theorem pen_New (hm : m ≤ 9223372036854775807) : AC Tryz.prog 73 [iv .i64 m] [] fun x σ => x = .p 0 0 ∧ σ = Pe.obs ⟨[], if m < 0 then 0 else m, 0⟩ := by
  refine AC.walk Tryz.func73 rfl (by decide) (of_decide_eq_true rfl) ?_
  focus (have kxs : 987654321 = 987654320 + 1 := rfl; (repeat' (first | refine GF ?_ | (refine GC ?_ ?_ <;> intro h <;> (try simp only [hsB] at h) <;> try (exfalso; first | omega | contradiction)) | (refine GL ?_ ?_ <;> intro h <;> (try simp only [Bool.not_true, Bool.not_false] at h) <;> (try simp only [h]) <;> (try simp only [hsB] at h) <;> try (exfalso; first | omega | contradiction)) | fail)); all_goals clear kxs)
  all_goals refine AW.birth 5 1 [] [(0, 0)] ?_
  all_goals refine AW.ret ?_
  (all_goals first | exact RetQ.fr 2 | exact RetQ.fn 2 | fail)
theorem pen_Err : AC Tryz.prog 167 [.p 0 0] (Pe.obs ⟨b, m, e⟩) fun x σ => x = iv .i64 e ∧ σ = Pe.obs ⟨b, m, e⟩ := by
  refine AC.walk Tryz.func167 rfl (by decide) (of_decide_eq_true rfl) ?_
  focus (have kxs : 987654321 = 987654320 + 1 := rfl; (repeat' (first | refine GF ?_ | refine AW.ret ?_ | (refine GC ?_ ?_ <;> intro h <;> (try simp only [hsB] at h) <;> try (exfalso; first | omega | contradiction)) | (refine GL ?_ ?_ <;> intro h <;> (try simp only [Bool.not_true, Bool.not_false] at h) <;> (try simp only [h]) <;> (try simp only [hsB] at h) <;> try (exfalso; first | omega | contradiction)) | fail)); all_goals clear kxs)
  (all_goals first | exact RetQ.fr 2 | exact RetQ.fn 2 | fail)
theorem pen_Fail : AC Tryz.prog 277 [.p 0 0, iv .i64 f] (Pe.obs ⟨b, m, e⟩) fun x σ => x = .t [] ∧ σ = Pe.obs (Pe.fail ⟨b, m, e⟩ f) := by
  refine AC.walk Tryz.func277 rfl (by decide) (of_decide_eq_true rfl) ?_
  focus (have kxs : 987654321 = 987654320 + 1 := rfl; (repeat' (first | refine GF ?_ | refine AW.ret ?_ | (refine GC ?_ ?_ <;> intro h <;> (try simp only [hsB] at h) <;> try (exfalso; first | omega | contradiction)) | (refine GL ?_ ?_ <;> intro h <;> (try simp only [Bool.not_true, Bool.not_false] at h) <;> (try simp only [h]) <;> (try simp only [hsB] at h) <;> try (exfalso; first | omega | contradiction)) | fail)); all_goals clear kxs)
  ((all_goals first | refine RetQ.r 2 rfl (Nat.le_of_ble_eq_true rfl) rfl (by first | rfl | (simp only [go_sem, ↓reduceIte, Nat.reduceLT, Nat.lt_irrefl])) ⟨?_, ?_⟩ | refine RetQ.n 2 rfl (Nat.le_of_ble_eq_true rfl) rfl (by first | rfl | (simp only [go_sem, ↓reduceIte, Nat.reduceLT, Nat.lt_irrefl])) ⟨?_, ?_⟩); (all_goals first | rfl | (simp [Pe.fail, *]; done) | ((simp only [go_sem, ↓reduceIte, Nat.reduceLT, Pe.fail]; (repeat' split)) <;> first | rfl | (exfalso; omega) | (simp_all; done) | (simp_all; omega))))
theorem pen_room (h : Pe.Ok ⟨b, m, e⟩) : AC Tryz.prog 281 [.p 0 0, iv .i64 n] (Pe.obs ⟨b, m, e⟩) fun x σ => x = bv (Pe.room ⟨b, m, e⟩ n) ∧ σ = Pe.obs (Pe.roomed ⟨b, m, e⟩ n) := by
  have hh := h
  obtain ⟨h1, h2, h3⟩ := h
  simp only at h1 h2 h3
  refine AC.walk Tryz.func281 rfl (by decide) (of_decide_eq_true rfl) ?_
  focus (have kxs : 987654321 = 987654320 + 1 := rfl; have kuc1 := fun za zb zc => uN [0, 1] (pen_Err za zb zc); (repeat' (first | (refine ADr.nil ?_; try clear hgv) | refine GOF ?_ | refine AW.ret ?_ | (refine GC ?_ ?_ <;> intro h <;> (try simp only [hsB] at h) <;> try (exfalso; first | omega | contradiction)) | (refine GD ?_ ?_ <;> intro h <;> (try intro hgv) <;> (try simp only [Bool.not_true, Bool.not_false] at h) <;> (try simp only [h]) <;> (try simp only [hsB] at h) <;> try (exfalso; first | omega | contradiction)) | (refine GL ?_ ?_ <;> intro h <;> (try simp only [Bool.not_true, Bool.not_false] at h) <;> (try simp only [h]) <;> (try simp only [hsB] at h) <;> try (exfalso; first | omega | contradiction)) | fail)); all_goals clear kxs kuc1)
  ((all_goals first | refine RetQ.r 2 rfl (Nat.le_of_ble_eq_true rfl) rfl (by first | rfl | (simp only [go_sem, ↓reduceIte, Nat.reduceLT, Nat.lt_irrefl])) ⟨?_, ?_⟩ | refine RetQ.n 2 rfl (Nat.le_of_ble_eq_true rfl) rfl (by first | rfl | (simp only [go_sem, ↓reduceIte, Nat.reduceLT, Nat.lt_irrefl])) ⟨?_, ?_⟩); (all_goals first | rfl | (simp [Pe.room, Pe.roomed, *]; done) | ((simp only [go_sem, ↓reduceIte, Nat.reduceLT, Pe.room, Pe.roomed]; (repeat' split)) <;> first | rfl | (exfalso; omega) | (simp_all; done) | (simp_all; omega))))
theorem pen_End (h : Pe.Ok ⟨b, m, e⟩) : AC Tryz.prog 75 [.p 0 0] (Pe.obs ⟨b, m, e⟩) fun x σ => x = .t [sv (bs (Pe.fin ⟨b, m, e⟩).1), iv .i64 (Pe.fin ⟨b, m, e⟩).2] ∧ σ = Pe.obs ⟨b, m, e⟩ := by
  refine AC.walk Tryz.func75 rfl (by decide) (of_decide_eq_true rfl) ?_
  focus (have kxs : 987654321 = 987654320 + 1 := rfl; have kuc1 := fun za zb zc => uN [0, 1] (pen_Err za zb zc); (repeat' (first | refine GF ?_ | refine AW.ret ?_ | (refine GC ?_ ?_ <;> intro h <;> (try simp only [hsB] at h) <;> try (exfalso; first | omega | contradiction)) | (refine GL ?_ ?_ <;> intro h <;> (try simp only [Bool.not_true, Bool.not_false] at h) <;> (try simp only [h]) <;> (try simp only [hsB] at h) <;> try (exfalso; first | omega | contradiction)) | fail)); all_goals clear kxs kuc1)
  ((all_goals first | refine RetQ.r 2 rfl (Nat.le_of_ble_eq_true rfl) rfl (by first | rfl | (simp only [go_sem, ↓reduceIte, Nat.reduceLT, Nat.lt_irrefl])) ⟨?_, ?_⟩ | refine RetQ.n 2 rfl (Nat.le_of_ble_eq_true rfl) rfl (by first | rfl | (simp only [go_sem, ↓reduceIte, Nat.reduceLT, Nat.lt_irrefl])) ⟨?_, ?_⟩); (all_goals first | rfl | (simp [Pe.fin, *]; done) | ((simp only [go_sem, ↓reduceIte, Nat.reduceLT, Pe.fin]; (repeat' split)) <;> first | rfl | (exfalso; omega) | (simp_all; done) | (simp_all; omega))))
theorem pen_Text (h : Pe.Ok ⟨b, m, e⟩) (l : List (List UInt8)) (hl : m ≤ 140737488355328 ∨ b.length + l.flatten.length ≤ 140737488355328) (hn : l.length ≤ 140737488355328) :
    AC Tryz.prog 165 [.p 0 0, .d (.l l.length (l.map fun s => .s (.string ⟨s.toArray⟩)))] (Pe.obs ⟨b, m, e⟩) fun x σ => x = .t [] ∧ σ = Pe.obs (Pe.texts ⟨b, m, e⟩ l) := by
  refine AC.walk Tryz.func165 rfl (by decide) (of_decide_eq_true rfl) ?_
  focus (have kxs : 987654321 = 987654320 + 1 := rfl; (repeat' (first | refine GF ?_ | refine AW.ret ?_ | (refine GC ?_ ?_ <;> intro h <;> (try simp only [hsB] at h) <;> try (exfalso; first | omega | contradiction)) | (refine GL ?_ ?_ <;> intro h <;> (try simp only [Bool.not_true, Bool.not_false] at h) <;> (try simp only [h]) <;> (try simp only [hsB] at h) <;> try (exfalso; first | omega | contradiction)) | fail)); all_goals clear kxs)
  refine AW.rounds [0, 6, 7, 8] (fun i => [(0, .p 0 0), (6, .d (.l l.length (l.map fun s => .s (.string ⟨s.toArray⟩)))), (7, iv .i64 l.length), (8, iv .i64 (i : Nat))]) (fun i => Pe.obs (Pe.texts ⟨b, m, e⟩ (l.take i))) (fun i => i ≤ l.length) (fun i => l.length - i) 0 (Nat.zero_le _) rfl rfl
    (fun _ _ => Nat.le_of_ble_eq_true rfl) (fun _ _ => rfl) (fun _ _ => rfl) ?_
  intro i hi J hJ
  generalize hq : Pe.texts ⟨b, m, e⟩ (l.take i) = q
  have hf : (l.take i).flatten.length + (l.drop i).flatten.length = l.flatten.length := by rw [← List.length_append, ← List.flatten_append, List.take_append_drop]
  have hok : q.Ok := by rw [← hq]; exact Pe.texts_ok h (by simp only; omega)
  have hqm : q.m = m := by rw [← hq, Pe.texts_m]
  have hql : q.m ≤ 140737488355328 ∨ q.b.length + (l.drop i).flatten.length ≤ 140737488355328 := by
    have := Pe.texts_len (l.take i) ⟨b, m, e⟩
    rw [hq] at this
    simp only at this
    omega
  by_cases hil : i < l.length
  · obtain ⟨s, r, hs⟩ : ∃ s r, l.drop i = s :: r := ⟨_, _, List.drop_eq_getElem_cons hil⟩
    have hd : (l.map fun s => D.s (Value.string ⟨s.toArray⟩)).drop i = .s (.string ⟨s.toArray⟩) :: r.map fun s => .s (.string ⟨s.toArray⟩) := by rw [← List.map_drop, hs]; rfl
    rw [hs] at hql
    simp only [List.flatten_cons, List.length_append] at hql
    have hnx : l.take (i + 1) = l.take i ++ [s] := by
      have h1 : l[i]? = some s := by
        have := congrArg List.head? hs
        simpa [List.head?_drop] using this
      rw [List.take_add_one, h1]; rfl
    have hqn : Pe.texts ⟨b, m, e⟩ (l.take (i + 1)) = q.text s := by rw [hnx, Pe.texts_snoc, hq]
    cases hrm : Pe.room ⟨q.b, q.m, q.e⟩ s.length with
    | false =>
      focus (have kxs := And.intro hd (And.intro @Pe.roomed_b (And.intro @Pe.roomed_m hrm)); have kua1 := fun za => uN [0, 1] (pen_room _ _ _ za hok); (repeat' (first | refine GF ?_ | refine AW.ret ?_ | (refine GC ?_ ?_ <;> intro h <;> (try simp only [hsB] at h) <;> try (exfalso; first | omega | contradiction)) | (refine GL ?_ ?_ <;> intro h <;> (try simp only [Bool.not_true, Bool.not_false] at h) <;> (try simp only [h]) <;> (try simp only [hsB] at h) <;> try (exfalso; first | omega | contradiction)) | fail)); all_goals clear kxs kua1)
      have hno := Pe.room_no hrm
      have hall : Pe.texts ⟨b, m, e⟩ l = q.roomed s.length := by
        rw [hno.1, ← hqn]
        conv => lhs; rw [← List.take_append_drop (i + 1) l]
        rw [Pe.texts_append, hqn]
        exact Pe.texts_stuck hno.2 _
      rw [hall]
      (all_goals first | exact RetQ.fr 2 | exact RetQ.fn 2 | fail)
    | true =>
      have hfit := Pe.room_fit hrm
      simp only at hfit
      focus (have kxs := And.intro hd (And.intro @Pe.roomed_b (And.intro @Pe.roomed_m hrm)); have kua1 := fun za => uN [0, 1] (pen_room _ _ _ za hok); (repeat' (first | refine GF ?_ | refine AW.ret ?_ | (refine GC ?_ ?_ <;> intro h <;> (try simp only [hsB] at h) <;> try (exfalso; first | omega | contradiction)) | (refine GL ?_ ?_ <;> intro h <;> (try simp only [Bool.not_true, Bool.not_false] at h) <;> (try simp only [h]) <;> (try simp only [hsB] at h) <;> try (exfalso; first | omega | contradiction)) | fail)); all_goals clear kxs kua1)
      have hyes := Pe.room_yes hrm
      have hqe : q.text s = ⟨q.b ++ s, q.m, (q.roomed s.length).e⟩ := by rw [hyes.1, hyes.2]
      refine hJ (i + 1) _ _ (by omega) (by omega) rfl ?_
      rw [hqn, hqe]
      simp [Pe.obs]
  · focus (have kxs : 987654321 = 987654320 + 1 := rfl; (repeat' (first | refine GF ?_ | refine AW.ret ?_ | (refine GC ?_ ?_ <;> intro h <;> (try simp only [hsB] at h) <;> try (exfalso; first | omega | contradiction)) | (refine GL ?_ ?_ <;> intro h <;> (try simp only [Bool.not_true, Bool.not_false] at h) <;> (try simp only [h]) <;> (try simp only [hsB] at h) <;> try (exfalso; first | omega | contradiction)) | fail)); all_goals clear kxs)
    have hi2 : i = l.length := by omega
    rw [hi2, List.take_length] at hq
    subst hq
    (all_goals first | exact RetQ.fr 2 | exact RetQ.fn 2 | fail)
theorem pen_Text1 (h : Pe.Ok ⟨b, m, e⟩) (hl : m ≤ 140737488355328 ∨ b.length + s.length ≤ 140737488355328) :
    AC Tryz.prog 165 [.p 0 0, .d (.l 1 [.s (.string ⟨s.toArray⟩)])] (Pe.obs ⟨b, m, e⟩) fun x σ => x = .t [] ∧ σ = Pe.obs (Pe.text ⟨b, m, e⟩ s) :=
  pen_Text b m e h [s] (by simpa using hl) (Nat.le_of_ble_eq_true rfl)
theorem pen_Byte (h : Pe.Ok ⟨b, m, e⟩) (l : List UInt8) (hl : m ≤ 140737488355328 ∨ b.length + l.length ≤ 140737488355328) (hn : l.length ≤ 140737488355328) :
    AC Tryz.prog 297 [.p 0 0, .d (.l l.length (bsD l))] (Pe.obs ⟨b, m, e⟩) fun x σ => x = .t [] ∧ σ = Pe.obs (Pe.texts ⟨b, m, e⟩ (l.map fun b => [b])) := by
  have hfl : ∀ l : List UInt8, (l.map fun b => [b]).flatten = l := fun l => by induction l with | nil => rfl | cons a l ih => simp [ih]
  refine AC.walk Tryz.func297 rfl (by decide) (of_decide_eq_true rfl) ?_
  focus (have kxs : 987654321 = 987654320 + 1 := rfl; (repeat' (first | refine GF ?_ | refine AW.ret ?_ | (refine GC ?_ ?_ <;> intro h <;> (try simp only [hsB] at h) <;> try (exfalso; first | omega | contradiction)) | (refine GL ?_ ?_ <;> intro h <;> (try simp only [Bool.not_true, Bool.not_false] at h) <;> (try simp only [h]) <;> (try simp only [hsB] at h) <;> try (exfalso; first | omega | contradiction)) | fail)); all_goals clear kxs)
  refine AW.rounds [0, 6, 7, 8] (fun i => [(0, .p 0 0), (6, .d (.l l.length (bsD l))), (7, iv .i64 l.length), (8, iv .i64 (i : Nat))]) (fun i => Pe.obs (Pe.texts ⟨b, m, e⟩ ((l.take i).map fun b => [b]))) (fun i => i ≤ l.length) (fun i => l.length - i) 0 (Nat.zero_le _) rfl rfl
    (fun _ _ => Nat.le_of_ble_eq_true rfl) (fun _ _ => rfl) (fun _ _ => rfl) ?_
  intro i hi J hJ
  generalize hq : Pe.texts ⟨b, m, e⟩ ((l.take i).map fun b => [b]) = q
  have hok : q.Ok := by rw [← hq]; exact Pe.texts_ok h (by rw [hfl]; simp only [List.length_take]; omega)
  have hqm : q.m = m := by rw [← hq, Pe.texts_m]
  have hql : q.b.length ≤ b.length + i := by
    have := Pe.texts_len ((l.take i).map fun b => [b]) ⟨b, m, e⟩
    rw [hq, hfl] at this
    simp only [List.length_take] at this
    omega
  by_cases hil : i < l.length
  · obtain ⟨s, r, hs⟩ : ∃ s r, l.drop i = s :: r := ⟨_, _, List.drop_eq_getElem_cons hil⟩
    have hd : (bsD l).drop i = .s (.int .u8 s.toNat) :: bsD r := by rw [bsD, ← List.map_drop, hs]; rfl
    have hnx : l.take (i + 1) = l.take i ++ [s] := by
      have h1 : l[i]? = some s := by
        have := congrArg List.head? hs
        simpa [List.head?_drop] using this
      rw [List.take_add_one, h1]; rfl
    have hqn : Pe.texts ⟨b, m, e⟩ ((l.take (i + 1)).map fun b => [b]) = q.text [s] := by rw [hnx, List.map_append, List.map_cons, List.map_nil, Pe.texts_snoc, hq]
    have hc : bsD q.b ++ [D.s (.int .u8 s.toNat)] = bsD (q.b ++ [s]) := by simp [bsD]
    cases hrm : Pe.room ⟨q.b, q.m, q.e⟩ 1 with
    | false =>
      focus (have kxs := And.intro hd (And.intro @Pe.roomed_b (And.intro @Pe.roomed_m hrm)); have kua1 := fun za => uN [0, 1] (pen_room _ _ _ za hok); (repeat' (first | refine GF ?_ | refine AW.ret ?_ | (refine GC ?_ ?_ <;> intro h <;> (try simp only [hsB] at h) <;> try (exfalso; first | omega | contradiction)) | (refine GL ?_ ?_ <;> intro h <;> (try simp only [Bool.not_true, Bool.not_false] at h) <;> (try simp only [h]) <;> (try simp only [hsB] at h) <;> try (exfalso; first | omega | contradiction)) | fail)); all_goals clear kxs kua1)
      have hno := Pe.room_no (s := [s]) hrm
      have hall : Pe.texts ⟨b, m, e⟩ (l.map fun b => [b]) = q.roomed 1 := by
        rw [show (1 : Int) = ([s].length : Nat) from rfl, hno.1, ← hqn]
        conv => lhs; rw [← List.take_append_drop (i + 1) l, List.map_append]
        rw [Pe.texts_append, hqn]
        exact Pe.texts_stuck hno.2 _
      rw [hall]
      (all_goals first | exact RetQ.fr 2 | exact RetQ.fn 2 | fail)
    | true =>
      have hfit := Pe.room_fit hrm
      simp only at hfit
      focus (have kxs := And.intro hd (And.intro @Pe.roomed_b (And.intro @Pe.roomed_m hrm)); have kua1 := fun za => uN [0, 1] (pen_room _ _ _ za hok); (repeat' (first | refine GF ?_ | refine AW.ret ?_ | (refine GC ?_ ?_ <;> intro h <;> (try simp only [hsB] at h) <;> try (exfalso; first | omega | contradiction)) | (refine GL ?_ ?_ <;> intro h <;> (try simp only [Bool.not_true, Bool.not_false] at h) <;> (try simp only [h]) <;> (try simp only [hsB] at h) <;> try (exfalso; first | omega | contradiction)) | fail)); all_goals clear kxs kua1)
      have hyes := Pe.room_yes (s := [s]) hrm
      have hqe : q.text [s] = ⟨q.b ++ [s], q.m, (q.roomed 1).e⟩ := by rw [show (1 : Int) = ([s].length : Nat) from rfl, hyes.1, hyes.2]
      refine hJ (i + 1) _ _ (by omega) (by omega) rfl ?_
      rw [hqn, hqe]
      simp [Pe.obs, ← hc]
  · focus (have kxs : 987654321 = 987654320 + 1 := rfl; (repeat' (first | refine GF ?_ | refine AW.ret ?_ | (refine GC ?_ ?_ <;> intro h <;> (try simp only [hsB] at h) <;> try (exfalso; first | omega | contradiction)) | (refine GL ?_ ?_ <;> intro h <;> (try simp only [Bool.not_true, Bool.not_false] at h) <;> (try simp only [h]) <;> (try simp only [hsB] at h) <;> try (exfalso; first | omega | contradiction)) | fail)); all_goals clear kxs)
    have hi2 : i = l.length := by omega
    rw [hi2, List.take_length] at hq
    subst hq
    (all_goals first | exact RetQ.fr 2 | exact RetQ.fn 2 | fail)
theorem pen_Byte1 (h : Pe.Ok ⟨b, m, e⟩) (hl : m ≤ 140737488355328 ∨ b.length + 1 ≤ 140737488355328) (x : UInt8) :
    AC Tryz.prog 297 [.p 0 0, .d (.l 1 [.s (.int .u8 x.toNat)])] (Pe.obs ⟨b, m, e⟩) fun y σ => y = .t [] ∧ σ = Pe.obs (Pe.text ⟨b, m, e⟩ [x]) :=
  pen_Byte b m e h [x] (by simpa using hl) (Nat.le_of_ble_eq_true rfl)
end
end Go.AW
/-
  The document's pen: each function does what its plain form says.
-/
namespace Go.AW
open Go Go.Proofs
set_option maxHeartbeats 1000000
set_option maxRecDepth 10000
set_option linter.unusedSimpArgs false
set_option linter.unusedVariables false
attribute [local irreducible] thenQ blockQ RetQ AL AW AC AOp

abbrev Pe.ro (p : Pe) : Ob := .box 209 [sv (bs p.b), iv .i64 p.m, iv .i64 p.e]
attribute [go_sem] Pe.ro

section
variable (b s : List UInt8) (m e f n : Int)

end
end Go.AW
/-
  Bits of numbers, as sums.
-/
namespace Go.AW
open Go

theorem or_u8 {x y : Nat} (hx : x < 256) (hy : y < 256) : bitI .or .u8 x y = ((x ||| y : Nat) : Int) := by
  show IntKind.wrap .u8 ((BitVec.ofInt 8 x ||| BitVec.ofInt 8 y).toNat : Int) = _
  rw [BitVec.ofInt_natCast, BitVec.ofInt_natCast, BitVec.toNat_or, BitVec.toNat_ofNat, BitVec.toNat_ofNat, Nat.mod_eq_of_lt (by omega), Nat.mod_eq_of_lt (by omega)]
  have : x ||| y < 2 ^ 8 := Nat.or_lt_two_pow (by omega) (by omega)
  exact wrap_u8 (by omega) (by omega)
end Go.AW
/-
  varint, the program's and the document's: what is read.
-/
namespace Go.AW
open Go Go.Proofs
set_option maxHeartbeats 2000000
set_option maxRecDepth 10000
set_option linter.unusedSimpArgs false
set_option linter.unusedVariables false
attribute [local irreducible] thenQ blockQ RetQ AL AW AC AOp

section
variable (s : List UInt8) (a : Nat) (e : Int)

end
end Go.AW
/-
  varint, the program's and the document's: what is written.
-/
namespace Go.AW
open Go Go.Proofs
set_option maxHeartbeats 2000000
set_option maxRecDepth 10000
set_option linter.unusedSimpArgs false
set_option linter.unusedVariables false
attribute [local irreducible] thenQ blockQ RetQ AL AW AC AOp

theorem or128 (m : Nat) : bitI .or .u8 (IntKind.wrap .u8 (m : Int)) 128 = ((UInt8.ofNat (m % 128 + 128)).toNat : Int) := by
  have h1 : IntKind.wrap .u8 (m : Int) = ((m % 256 : Nat) : Int) := by
    simp only [IntKind.wrap, IntKind.bits, IntKind.signed]
    simp
  have h2 : ∀ x : Nat, x < 256 → x ||| 128 = x % 128 + 128 := by decide
  have h3 := or_u8 (x := m % 256) (y := 128) (Nat.mod_lt _ (by omega)) (by omega)
  rw [show ((128 : Nat) : Int) = 128 from rfl] at h3
  rw [h1, h3, h2 _ (Nat.mod_lt _ (by omega))]
  simp
  omega

theorem varint_bytes (n : Nat) (hn : n < 18446744073709551616) : AC Tryz.prog 166 [iv .u64 n] [] fun x σ => x = .d (.l (vput n).length (bsD (vput n))) ∧ σ = [] := by
  refine AC.walk Tryz.func166 rfl (by decide) (of_decide_eq_true rfl) ?_
  focus (have kxs : 987654321 = 987654320 + 1 := rfl; (repeat' (first | refine GF ?_ | refine AW.ret ?_ | (refine GC ?_ ?_ <;> intro h <;> (try simp only [hsB] at h) <;> try (exfalso; first | omega | contradiction)) | (refine GL ?_ ?_ <;> intro h <;> (try simp only [Bool.not_true, Bool.not_false] at h) <;> (try simp only [h]) <;> (try simp only [hsB] at h) <;> try (exfalso; first | omega | contradiction)) | fail)); all_goals clear kxs)
  refine AW.birth 5 1 [3] [] ?_
  refine AW.rounds [0, 2, 3] (fun x : Nat × List UInt8 => [(0, iv .u64 x.1), (2, .d (.s (.slice none 0 0))), (3, .o 0 x.2.length)]) (fun x => [.row 5 1 x.2.length (bsD x.2)]) (fun x => x.2 ++ vput x.1 = vput n ∧ x.1 < 18446744073709551616) (fun x => x.1) (n, []) ⟨rfl, hn⟩ rfl rfl
    (fun _ _ => Nat.zero_le _) (fun _ _ => rfl) (fun _ _ => rfl) ?_
  rintro ⟨m, acc⟩ ⟨hv, hm⟩ J hJ
  simp only at hv hm hJ ⊢
  have hl : acc.length ≤ 10 := by
    have h1 := congrArg List.length hv
    have h2 := vput_len10 hn
    simp at h1; omega
  focus (have kxs : 987654321 = 987654320 + 1 := rfl; (repeat' (first | refine GF ?_ | refine AW.ret ?_ | (refine GC ?_ ?_ <;> intro h <;> (try simp only [hsB] at h) <;> try (exfalso; first | omega | contradiction)) | (refine GL ?_ ?_ <;> intro h <;> (try simp only [Bool.not_true, Bool.not_false] at h) <;> (try simp only [h]) <;> (try simp only [hsB] at h) <;> try (exfalso; first | omega | contradiction)) | fail)); all_goals clear kxs)
  · have e1 := or128 m
    have e2 : (m : Int).fdiv (2 ^ min 7 64) = ((m / 128 : Nat) : Int) := by
      rw [show (2 : Int) ^ min 7 64 = ((128 : Nat) : Int) by decide]
      exact Int.fdiv_eq_ediv_of_nonneg _ (by omega)
    have e3 : bsD acc ++ [D.s (Value.int .u8 (UInt8.ofNat (m % 128 + 128)).toNat)] = bsD (acc ++ [UInt8.ofNat (m % 128 + 128)]) := by simp [bsD]
    have hvm : vput m = UInt8.ofNat (m % 128 + 128) :: vput (m / 128) := by conv => lhs; unfold vput; rw [if_neg (by omega)]
    rw [e1, e2, e3]
    refine hJ (m / 128, acc ++ [UInt8.ofNat (m % 128 + 128)]) _ _ (by simp only; omega) ⟨by rw [← hv, hvm]; simp, by simp only; omega⟩ ?_ ?_
    · simp [keepT, look]
    · simp
  · have hvm : vput m = [UInt8.ofNat m] := by unfold vput; rw [if_pos (by omega)]
    have e1 : (m : Int) = ((UInt8.ofNat m).toNat : Int) := by simp; omega
    have e3 : bsD acc ++ [D.s (Value.int .u8 ((UInt8.ofNat m).toNat : Int))] = bsD (vput n) := by rw [← hv, hvm]; simp [bsD]
    have e4 : (vput n).length = acc.length + 1 := by rw [← hv, hvm]; simp
    rw [e1, e3, e4]
    clear e1
    (all_goals first | exact RetQ.fr 0 | exact RetQ.fn 0 | fail)

section
variable (b s : List UInt8) (m e : Int)
theorem vputs_len : ∀ (l : List Nat), (∀ n ∈ l, n < 18446744073709551616) → (l.map vput).flatten.length ≤ 10 * l.length
  | [], _ => by simp
  | n :: l, h => by
    have h1 := vput_len10 (h n List.mem_cons_self)
    have h2 := vputs_len l fun x hx => h x (List.mem_cons_of_mem _ hx)
    simp only [List.map_cons, List.flatten_cons, List.length_append, List.length_cons]
    omega

theorem varint_Put (h : Pe.Ok ⟨b, m, e⟩) (l : List Nat) (hl : ∀ n ∈ l, n < 18446744073709551616) (hn : m ≤ 140737488355328 ∨ b.length + 10 * l.length ≤ 140737488355328) (hll : l.length ≤ 140737488355328) :
    AC Tryz.prog 74 [.p 0 0, .d (.l l.length (l.map fun n => .s (.int .u64 (n : Nat))))] (Pe.obs ⟨b, m, e⟩) fun x σ => x = .t [] ∧ σ = Pe.obs (Pe.texts ⟨b, m, e⟩ (l.map vput)) := by
  refine AC.walk Tryz.func74 rfl (by decide) (of_decide_eq_true rfl) ?_
  focus (have kxs : 987654321 = 987654320 + 1 := rfl; (repeat' (first | refine GF ?_ | refine AW.ret ?_ | (refine GC ?_ ?_ <;> intro h <;> (try simp only [hsB] at h) <;> try (exfalso; first | omega | contradiction)) | (refine GL ?_ ?_ <;> intro h <;> (try simp only [Bool.not_true, Bool.not_false] at h) <;> (try simp only [h]) <;> (try simp only [hsB] at h) <;> try (exfalso; first | omega | contradiction)) | fail)); all_goals clear kxs)
  refine AW.rounds [0, 6, 7, 8] (fun i => [(0, .p 0 0), (6, .d (.l l.length (l.map fun n => .s (.int .u64 (n : Nat))))), (7, iv .i64 l.length), (8, iv .i64 (i : Nat))]) (fun i => Pe.obs (Pe.texts ⟨b, m, e⟩ ((l.take i).map vput))) (fun i => i ≤ l.length) (fun i => l.length - i) 0 (Nat.zero_le _) rfl rfl
    (fun _ _ => Nat.le_of_ble_eq_true rfl) (fun _ _ => rfl) (fun _ _ => rfl) ?_
  intro i hi J hJ
  generalize hq : Pe.texts ⟨b, m, e⟩ ((l.take i).map vput) = q
  have hf : ((l.take i).map vput).flatten.length ≤ 10 * i := by
    have := vputs_len (l.take i) fun n hn => hl n (List.mem_of_mem_take hn)
    rw [List.length_take] at this
    omega
  have hok : q.Ok := by rw [← hq]; exact Pe.texts_ok h (by simp only; omega)
  have hqm : q.m = m := by rw [← hq, Pe.texts_m]
  have hql : q.b.length ≤ b.length + 10 * i := by
    have := Pe.texts_len ((l.take i).map vput) ⟨b, m, e⟩
    rw [hq] at this
    simp only at this
    omega
  by_cases hil : i < l.length
  · obtain ⟨x, r, hs⟩ : ∃ s r, l.drop i = s :: r := ⟨_, _, List.drop_eq_getElem_cons hil⟩
    have hx : x < 18446744073709551616 := hl x (List.mem_of_mem_drop (i := i) (by rw [hs]; exact List.mem_cons_self))
    have hd : (l.map fun n => D.s (Value.int .u64 (n : Nat))).drop i = .s (.int .u64 (x : Nat)) :: r.map fun n => .s (.int .u64 (n : Nat)) := by rw [← List.map_drop, hs]; rfl
    have hnx : l.take (i + 1) = l.take i ++ [x] := by
      have h1 : l[i]? = some x := by
        have := congrArg List.head? hs
        simpa [List.head?_drop] using this
      rw [List.take_add_one, h1]; rfl
    have hqn : Pe.texts ⟨b, m, e⟩ ((l.take (i + 1)).map vput) = q.text (vput x) := by rw [hnx, List.map_append, List.map_cons, List.map_nil, Pe.texts_snoc, hq]
    have hvl := vput_len10 hx
    focus (have kxs := hd; have kk1 := uN [] (varint_bytes x hx); have kk2 := uN [0, 1] (pen_Text1 q.b (vput x) q.m q.e hok (by omega)); (repeat' (first | refine GF ?_ | refine AW.ret ?_ | (refine GC ?_ ?_ <;> intro h <;> (try simp only [hsB] at h) <;> try (exfalso; first | omega | contradiction)) | (refine GL ?_ ?_ <;> intro h <;> (try simp only [Bool.not_true, Bool.not_false] at h) <;> (try simp only [h]) <;> (try simp only [hsB] at h) <;> try (exfalso; first | omega | contradiction)) | fail)); all_goals clear kxs kk1 kk2)
    refine hJ (i + 1) _ _ (by omega) (by omega) rfl ?_
    rw [hqn]
    rfl
  · focus (have kxs : 987654321 = 987654320 + 1 := rfl; (repeat' (first | refine GF ?_ | refine AW.ret ?_ | (refine GC ?_ ?_ <;> intro h <;> (try simp only [hsB] at h) <;> try (exfalso; first | omega | contradiction)) | (refine GL ?_ ?_ <;> intro h <;> (try simp only [Bool.not_true, Bool.not_false] at h) <;> (try simp only [h]) <;> (try simp only [hsB] at h) <;> try (exfalso; first | omega | contradiction)) | fail)); all_goals clear kxs)
    have hi2 : i = l.length := by omega
    rw [hi2, List.take_length] at hq
    subst hq
    (all_goals first | exact RetQ.fr 2 | exact RetQ.fn 2 | fail)
theorem varint_Put1 (h : Pe.Ok ⟨b, m, e⟩) (n : Nat) (hl : n < 18446744073709551616) (hn : m ≤ 140737488355328 ∨ b.length + 10 ≤ 140737488355328) :
    AC Tryz.prog 74 [.p 0 0, .d (.l 1 [.s (.int .u64 (n : Nat))])] (Pe.obs ⟨b, m, e⟩) fun x σ => x = .t [] ∧ σ = Pe.obs (Pe.text ⟨b, m, e⟩ (vput n)) :=
  varint_Put b m e h [n] (by simpa using hl) (by simpa using hn) (Nat.le_of_ble_eq_true rfl)
end
end Go.AW
/-
  blob, the program's and the document's: what is read.
-/
namespace Go.AW
open Go Go.Proofs
set_option maxHeartbeats 2000000
set_option maxRecDepth 10000
set_option linter.unusedSimpArgs false
set_option linter.unusedVariables false
attribute [local irreducible] thenQ blockQ RetQ AL AW AC AOp

section
variable (s : List UInt8) (a : Nat) (e max : Int)

end
end Go.AW
/-
  blob, the program's and the document's: what is written.
-/
namespace Go.AW
open Go Go.Proofs
set_option maxHeartbeats 2000000
set_option maxRecDepth 10000
set_option linter.unusedSimpArgs false
set_option linter.unusedVariables false
attribute [local irreducible] thenQ blockQ RetQ AL AW AC AOp

section
variable (b s : List UInt8) (m e max : Int)

theorem blob_Put (h : Pe.Ok ⟨b, m, e⟩) (l : List (List UInt8)) (hv : ∀ s ∈ l, s.length ≤ 9223372036854775807) (hl : m ≤ 140737488355328 ∨ b.length + 10 * l.length + l.flatten.length ≤ 140737488355328) (hn : l.length ≤ 140737488355328) :
    AC Tryz.prog 217 [.p 0 0, iv .i64 max, .d (.l l.length (l.map fun s => .s (.string ⟨s.toArray⟩)))] (Pe.obs ⟨b, m, e⟩) fun x σ => x = .t [] ∧ σ = Pe.obs (Pe.blobs ⟨b, m, e⟩ max l) := by
  refine AC.walk Tryz.func217 rfl (by decide) (of_decide_eq_true rfl) ?_
  focus (have kxs : 987654321 = 987654320 + 1 := rfl; (repeat' (first | refine G ?_ | refine AW.ret ?_ | (refine GC ?_ ?_ <;> intro h <;> (try simp only [hsB] at h) <;> try (exfalso; first | omega | contradiction)) | (refine GL ?_ ?_ <;> intro h <;> (try simp only [Bool.not_true, Bool.not_false] at h) <;> (try simp only [h]) <;> (try simp only [hsB] at h) <;> try (exfalso; first | omega | contradiction)) | fail)); all_goals clear kxs)
  refine AW.rounds [0, 1, 8, 9, 10] (fun i => [(0, .p 0 0), (1, iv .i64 max), (8, .d (.l l.length (l.map fun s => .s (.string ⟨s.toArray⟩)))), (9, iv .i64 l.length), (10, iv .i64 (i : Nat))]) (fun i => Pe.obs (Pe.blobs ⟨b, m, e⟩ max (l.take i))) (fun i => i ≤ l.length) (fun i => l.length - i) 0 (Nat.zero_le _) rfl rfl
    (fun _ _ => Nat.le_of_ble_eq_true rfl) (fun _ _ => rfl) (fun _ _ => rfl) ?_
  intro i hi J hJ
  generalize hq : Pe.blobs ⟨b, m, e⟩ max (l.take i) = q
  have hf : (l.take i).flatten.length + (l.drop i).flatten.length = l.flatten.length := by rw [← List.length_append, ← List.flatten_append, List.take_append_drop]
  have hqo : q.Ok ∧ q.b.length ≤ b.length + 10 * i + (l.take i).flatten.length := by
    have := Pe.blobs_ok (max := max) (l.take i) h (fun s hs => Nat.lt_of_le_of_lt (hv s (List.mem_of_mem_take hs)) (by decide)) (by rw [List.length_take]; simp only; omega)
    rw [hq, List.length_take] at this
    simp only at this
    exact ⟨this.1, by omega⟩
  obtain ⟨hok, hql⟩ := hqo
  have hqm : q.m = m := by rw [← hq, Pe.blobs_m]
  by_cases hil : i < l.length
  · obtain ⟨s, r, hs⟩ : ∃ s r, l.drop i = s :: r := ⟨_, _, List.drop_eq_getElem_cons hil⟩
    have hd : (l.map fun s => D.s (Value.string ⟨s.toArray⟩)).drop i = .s (.string ⟨s.toArray⟩) :: r.map fun s => .s (.string ⟨s.toArray⟩) := by rw [← List.map_drop, hs]; rfl
    rw [hs] at hf
    simp only [List.flatten_cons, List.length_append] at hf
    have hnx : l.take (i + 1) = l.take i ++ [s] := by
      have h1 : l[i]? = some s := by
        have := congrArg List.head? hs
        simpa [List.head?_drop] using this
      rw [List.take_add_one, h1]; rfl
    have hqn : Pe.blobs ⟨b, m, e⟩ max (l.take (i + 1)) = q.blob max s := by rw [hnx, Pe.blobs_snoc, hq]
    have hsl := hv s (List.mem_of_mem_drop (i := i) (by rw [hs]; exact List.mem_cons_self))
    have hvl := vput_len10 (n := s.length) (by omega)
    have htm := Pe.text_m q (vput s.length)
    have htl := Pe.text_len q (vput s.length)
    have hto := Pe.text_ok (s := vput s.length) hok (by omega)
    focus (have kxs := hd; have kud1 := fun za zb zc zd => uN [0, 1] (pen_Fail za zb zc zd); have kk1 := uN [0, 1] (varint_Put1 q.b q.m q.e hok s.length (by omega) (by omega)); have kk2 := uN [0, 1] (pen_Text1 (Pe.text q (vput s.length)).b s (Pe.text q (vput s.length)).m (Pe.text q (vput s.length)).e hto (by omega)); (repeat' (first | refine G ?_ | refine AW.ret ?_ | (refine GC ?_ ?_ <;> intro h <;> (try simp only [hsB] at h) <;> try (exfalso; first | omega | contradiction)) | (refine GL ?_ ?_ <;> intro h <;> (try simp only [Bool.not_true, Bool.not_false] at h) <;> (try simp only [h]) <;> (try simp only [hsB] at h) <;> try (exfalso; first | omega | contradiction)) | fail)); all_goals clear kxs kud1 kk1 kk2)
    · have hb : q.blob max s = q.fail 3 := by unfold Pe.blob; rw [if_pos (by omega)]
      have hne : (q.fail 3).e ≠ 0 := by
        show (if q.e = 0 then (3 : Int) else q.e) ≠ 0
        split
        · decide
        · assumption
      have hall : Pe.blobs ⟨b, m, e⟩ max l = q.fail 3 := by
        conv => lhs; rw [← List.take_append_drop (i + 1) l]
        rw [Pe.blobs_append, hqn, hb]
        exact Pe.blobs_stuck hne max _
      rw [hall]
      (all_goals first | exact RetQ.fr 2 | exact RetQ.fn 2 | fail)
    all_goals
      have hb : q.blob max s = (q.text (vput s.length)).text s := by unfold Pe.blob; rw [if_neg (by omega)]
      refine hJ (i + 1) _ _ (by omega) (by omega) rfl ?_
      rw [hqn, hb]
      rfl
  · focus (have kxs : 987654321 = 987654320 + 1 := rfl; (repeat' (first | refine G ?_ | refine AW.ret ?_ | (refine GC ?_ ?_ <;> intro h <;> (try simp only [hsB] at h) <;> try (exfalso; first | omega | contradiction)) | (refine GL ?_ ?_ <;> intro h <;> (try simp only [Bool.not_true, Bool.not_false] at h) <;> (try simp only [h]) <;> (try simp only [hsB] at h) <;> try (exfalso; first | omega | contradiction)) | fail)); all_goals clear kxs)
    have hi2 : i = l.length := by omega
    rw [hi2, List.take_length] at hq
    subst hq
    (all_goals first | exact RetQ.fr 2 | exact RetQ.fn 2 | fail)
theorem blob_Put1 (ok : Pe.Ok ⟨b, m, e⟩) (hv : s.length ≤ 9223372036854775807) (hl : m ≤ 140737488355328 ∨ b.length + 10 + s.length ≤ 140737488355328) :
    AC Tryz.prog 217 [.p 0 0, iv .i64 max, .d (.l 1 [.s (.string ⟨s.toArray⟩)])] (Pe.obs ⟨b, m, e⟩) fun x σ => x = .t [] ∧ σ = Pe.obs (Pe.blob ⟨b, m, e⟩ max s) :=
  blob_Put b m e max ok [s] (by simpa using hv) (by simpa using hl) (Nat.le_of_ble_eq_true rfl)
theorem blob_PutCount (ok : Pe.Ok ⟨b, m, e⟩) (n : Int) (hn : n ≤ 9223372036854775807) (hl : m ≤ 140737488355328 ∨ b.length + 10 ≤ 140737488355328) :
    AC Tryz.prog 249 [.p 0 0, iv .i64 max, iv .i64 n] (Pe.obs ⟨b, m, e⟩) fun x σ => x = .t [] ∧ σ = Pe.obs (Pe.count ⟨b, m, e⟩ max n) := by
  refine AC.walk Tryz.func249 rfl (by decide) (of_decide_eq_true rfl) ?_
  by_cases h0 : n < 0
  · have hb : Pe.count ⟨b, m, e⟩ max n = Pe.fail ⟨b, m, e⟩ 1 := by unfold Pe.count; rw [if_pos h0]
    focus (have kxs : 987654321 = 987654320 + 1 := rfl; have kud1 := fun za zb zc zd => uN [0, 1] (pen_Fail za zb zc zd); (repeat' (first | refine G ?_ | refine AW.ret ?_ | (refine GC ?_ ?_ <;> intro h <;> (try simp only [hsB] at h) <;> try (exfalso; first | omega | contradiction)) | (refine GL ?_ ?_ <;> intro h <;> (try simp only [Bool.not_true, Bool.not_false] at h) <;> (try simp only [h]) <;> (try simp only [hsB] at h) <;> try (exfalso; first | omega | contradiction)) | fail)); all_goals clear kxs kud1)
    all_goals first | (exfalso; omega) | (rw [hb]; (all_goals first | exact RetQ.fr 2 | exact RetQ.fn 2 | fail); done)
  obtain ⟨k, rfl⟩ : ∃ k : Nat, n = k := ⟨n.toNat, by omega⟩
  by_cases hc : max.toNat < (k : Int)
  · have hb : Pe.count ⟨b, m, e⟩ max k = Pe.fail ⟨b, m, e⟩ 3 := by unfold Pe.count; rw [if_neg h0, if_pos hc]
    focus (have kxs : 987654321 = 987654320 + 1 := rfl; have kud1 := fun za zb zc zd => uN [0, 1] (pen_Fail za zb zc zd); (repeat' (first | refine G ?_ | refine AW.ret ?_ | (refine GC ?_ ?_ <;> intro h <;> (try simp only [hsB] at h) <;> try (exfalso; first | omega | contradiction)) | (refine GL ?_ ?_ <;> intro h <;> (try simp only [Bool.not_true, Bool.not_false] at h) <;> (try simp only [h]) <;> (try simp only [hsB] at h) <;> try (exfalso; first | omega | contradiction)) | fail)); all_goals clear kxs kud1)
    all_goals first | (exfalso; omega) | (rw [hb]; (all_goals first | exact RetQ.fr 2 | exact RetQ.fn 2 | fail); done)
  · have hb : Pe.count ⟨b, m, e⟩ max k = Pe.text ⟨b, m, e⟩ (vput k) := by unfold Pe.count; rw [if_neg h0, if_neg hc]; rfl
    focus (have kxs : 987654321 = 987654320 + 1 := rfl; have kk1 := uN [0, 1] (varint_Put1 b m e ok k (by omega) (by omega)); (repeat' (first | refine G ?_ | refine AW.ret ?_ | (refine GC ?_ ?_ <;> intro h <;> (try simp only [hsB] at h) <;> try (exfalso; first | omega | contradiction)) | (refine GL ?_ ?_ <;> intro h <;> (try simp only [Bool.not_true, Bool.not_false] at h) <;> (try simp only [h]) <;> (try simp only [hsB] at h) <;> try (exfalso; first | omega | contradiction)) | fail)); all_goals clear kxs kk1)
    all_goals first | (exfalso; omega) | (rw [hb]; (all_goals first | exact RetQ.fr 2 | exact RetQ.fn 2 | fail); done)
theorem blob_PutFlag (ok : Pe.Ok ⟨b, m, e⟩) (t : Bool) (hl : m ≤ 140737488355328 ∨ b.length + 1 ≤ 140737488355328) :
    AC Tryz.prog 223 [.p 0 0, bv t] (Pe.obs ⟨b, m, e⟩) fun x σ => x = .t [] ∧ σ = Pe.obs (Pe.flag ⟨b, m, e⟩ t) := by
  refine AC.walk Tryz.func223 rfl (by decide) (of_decide_eq_true rfl) ?_
  cases t with
  | true =>
    focus (have kxs : 987654321 = 987654320 + 1 := rfl; have kk1 := uN [0, 1] (pen_Byte1 b m e ok hl 1); (repeat' (first | refine G ?_ | refine AW.ret ?_ | (refine GC ?_ ?_ <;> intro h <;> (try simp only [hsB] at h) <;> try (exfalso; first | omega | contradiction)) | (refine GL ?_ ?_ <;> intro h <;> (try simp only [Bool.not_true, Bool.not_false] at h) <;> (try simp only [h]) <;> (try simp only [hsB] at h) <;> try (exfalso; first | omega | contradiction)) | fail)); all_goals clear kxs kk1)
    all_goals first | (exfalso; omega) | ((all_goals first | exact RetQ.fr 2 | exact RetQ.fn 2 | fail); done)
  | false =>
    focus (have kxs : 987654321 = 987654320 + 1 := rfl; have kk1 := uN [0, 1] (pen_Byte1 b m e ok hl 0); (repeat' (first | refine G ?_ | refine AW.ret ?_ | (refine GC ?_ ?_ <;> intro h <;> (try simp only [hsB] at h) <;> try (exfalso; first | omega | contradiction)) | (refine GL ?_ ?_ <;> intro h <;> (try simp only [Bool.not_true, Bool.not_false] at h) <;> (try simp only [h]) <;> (try simp only [hsB] at h) <;> try (exfalso; first | omega | contradiction)) | fail)); all_goals clear kxs kk1)
    all_goals first | (exfalso; omega) | ((all_goals first | exact RetQ.fr 2 | exact RetQ.fn 2 | fail); done)
end
end Go.AW
/-
  blob.Rising and the document's.
-/
namespace Go.AW
open Go Go.Proofs
set_option maxHeartbeats 2000000
set_option maxRecDepth 10000
set_option linter.unusedSimpArgs false
set_option linter.unusedVariables false
attribute [local irreducible] thenQ blockQ RetQ AL AW AC AOp

abbrev strs (l : List (List UInt8)) : List D := l.map fun s => .s (.string ⟨s.toArray⟩)

end Go.AW
