/-
  cursor: each function does what its plain form says.
-/
import Derived.Test.YtbedecfkincemaaGreatZ03
import Derived.Test.YtbedecfkincemaaGreatZ04
import Derived.Test.YtbedecfkincemaaGreatZ02
namespace Go.AW
open Go Go.Proofs
set_option maxHeartbeats 1000000
set_option maxRecDepth 10000
set_option linter.unusedSimpArgs false
set_option linter.unusedVariables false
attribute [local irreducible] thenQ blockQ RetQ AL AW AC AOp

abbrev Cu.ob (c : Cu) : Ob := .box 212 [sv (bs c.s), iv .i64 c.a, iv .i64 c.e]
attribute [go_sem] Cu.ob

section
variable (s : List UInt8) (a : Nat) (e f n : Int)

end
end Go.AW
/-
  The document's cursor: each function does what its plain form says.
-/
namespace Go.AW
open Go Go.Proofs
set_option maxHeartbeats 1000000
set_option maxRecDepth 10000
set_option linter.unusedSimpArgs false
set_option linter.unusedVariables false
attribute [local irreducible] thenQ blockQ RetQ AL AW AC AOp

abbrev Cu.ro (c : Cu) : Ob := .box 116 [sv (bs c.s), iv .i64 c.a, iv .i64 c.e]
attribute [go_sem] Cu.ro

section
variable (s : List UInt8) (a : Nat) (e f n : Int)

end
end Go.AW
/-
  pen: each function does what its plain form says.
-/
namespace Go.AW
open Go Go.Proofs
set_option maxHeartbeats 1000000
set_option maxRecDepth 10000
set_option linter.unusedSimpArgs false
set_option linter.unusedVariables false
attribute [local irreducible] thenQ blockQ RetQ AL AW AC AOp

abbrev Pe.obs (p : Pe) : List Ob := [.box 238 [.o 1 p.b.length, iv .i64 p.m, iv .i64 p.e], .row 5 1 p.b.length (bsD p.b)]
attribute [go_sem] Pe.obs

section
variable (b s : List UInt8) (m e f n : Int)

theorem pen_New (hm : m ≤ 9223372036854775807) : AC Tryz.prog 73 [iv .i64 m] [] fun x σ => x = .p 0 0 ∧ σ = Pe.obs ⟨[], if m < 0 then 0 else m, 0⟩ := by
  refine AC.walk Tryz.func73 rfl (by decide) (of_decide_eq_true rfl) ?_
  focus (have kxs : 987654321 = 987654320 + 1 := rfl; (repeat' (first | refine GF ?_ | (refine GC ?_ ?_ <;> intro h <;> (try simp only [hsB] at h) <;> try (exfalso; first | omega | contradiction)) | (refine GL ?_ ?_ <;> intro h <;> (try simp only [Bool.not_true, Bool.not_false] at h) <;> (try simp only [h]) <;> (try simp only [hsB] at h) <;> try (exfalso; first | omega | contradiction)) | fail)); all_goals clear kxs)
  all_goals refine AW.birth 5 1 [] [(0, 0)] ?_
  all_goals refine AW.ret ?_
  (all_goals first | exact RetQ.fr 2 | exact RetQ.fn 2 | fail)
theorem pen_Err : AC Tryz.prog 167 [.p 0 0] (Pe.obs ⟨b, m, e⟩) fun x σ => x = iv .i64 e ∧ σ = Pe.obs ⟨b, m, e⟩ := by
  refine AC.walk Tryz.func167 rfl (by decide) (of_decide_eq_true rfl) ?_
  focus (have kxs : 987654321 = 987654320 + 1 := rfl; (repeat' (first | refine GF ?_ | refine AW.ret ?_ | (refine GC ?_ ?_ <;> intro h <;> (try simp only [hsB] at h) <;> try (exfalso; first | omega | contradiction)) | (refine GL ?_ ?_ <;> intro h <;> (try simp only [Bool.not_true, Bool.not_false] at h) <;> (try simp only [h]) <;> (try simp only [hsB] at h) <;> try (exfalso; first | omega | contradiction)) | fail)); all_goals clear kxs)
  (all_goals first | exact RetQ.fr 2 | exact RetQ.fn 2 | fail)
theorem pen_Fail : AC Tryz.prog 277 [.p 0 0, iv .i64 f] (Pe.obs ⟨b, m, e⟩) fun x σ => x = .t [] ∧ σ = Pe.obs (Pe.fail ⟨b, m, e⟩ f) := by
  refine AC.walk Tryz.func277 rfl (by decide) (of_decide_eq_true rfl) ?_
  focus (have kxs : 987654321 = 987654320 + 1 := rfl; (repeat' (first | refine GF ?_ | refine AW.ret ?_ | (refine GC ?_ ?_ <;> intro h <;> (try simp only [hsB] at h) <;> try (exfalso; first | omega | contradiction)) | (refine GL ?_ ?_ <;> intro h <;> (try simp only [Bool.not_true, Bool.not_false] at h) <;> (try simp only [h]) <;> (try simp only [hsB] at h) <;> try (exfalso; first | omega | contradiction)) | fail)); all_goals clear kxs)
  ((all_goals first | refine RetQ.r 2 rfl (Nat.le_of_ble_eq_true rfl) rfl (by first | rfl | (simp only [go_sem, ↓reduceIte, Nat.reduceLT, Nat.lt_irrefl])) ⟨?_, ?_⟩ | refine RetQ.n 2 rfl (Nat.le_of_ble_eq_true rfl) rfl (by first | rfl | (simp only [go_sem, ↓reduceIte, Nat.reduceLT, Nat.lt_irrefl])) ⟨?_, ?_⟩); (all_goals first | rfl | (simp [Pe.fail, *]; done) | ((simp only [go_sem, ↓reduceIte, Nat.reduceLT, Pe.fail]; (repeat' split)) <;> first | rfl | (exfalso; omega) | (simp_all; done) | (simp_all; omega))))
theorem pen_room (h : Pe.Ok ⟨b, m, e⟩) : AC Tryz.prog 281 [.p 0 0, iv .i64 n] (Pe.obs ⟨b, m, e⟩) fun x σ => x = bv (Pe.room ⟨b, m, e⟩ n) ∧ σ = Pe.obs (Pe.roomed ⟨b, m, e⟩ n) := by
  have hh := h
  obtain ⟨h1, h2, h3⟩ := h
  simp only at h1 h2 h3
  refine AC.walk Tryz.func281 rfl (by decide) (of_decide_eq_true rfl) ?_
  focus (have kxs : 987654321 = 987654320 + 1 := rfl; have kuc1 := fun za zb zc => uN [0, 1] (pen_Err za zb zc); (repeat' (first | (refine ADr.nil ?_; try clear hgv) | refine GOF ?_ | refine AW.ret ?_ | (refine GC ?_ ?_ <;> intro h <;> (try simp only [hsB] at h) <;> try (exfalso; first | omega | contradiction)) | (refine GD ?_ ?_ <;> intro h <;> (try intro hgv) <;> (try simp only [Bool.not_true, Bool.not_false] at h) <;> (try simp only [h]) <;> (try simp only [hsB] at h) <;> try (exfalso; first | omega | contradiction)) | (refine GL ?_ ?_ <;> intro h <;> (try simp only [Bool.not_true, Bool.not_false] at h) <;> (try simp only [h]) <;> (try simp only [hsB] at h) <;> try (exfalso; first | omega | contradiction)) | fail)); all_goals clear kxs kuc1)
  ((all_goals first | refine RetQ.r 2 rfl (Nat.le_of_ble_eq_true rfl) rfl (by first | rfl | (simp only [go_sem, ↓reduceIte, Nat.reduceLT, Nat.lt_irrefl])) ⟨?_, ?_⟩ | refine RetQ.n 2 rfl (Nat.le_of_ble_eq_true rfl) rfl (by first | rfl | (simp only [go_sem, ↓reduceIte, Nat.reduceLT, Nat.lt_irrefl])) ⟨?_, ?_⟩); (all_goals first | rfl | (simp [Pe.room, Pe.roomed, *]; done) | ((simp only [go_sem, ↓reduceIte, Nat.reduceLT, Pe.room, Pe.roomed]; (repeat' split)) <;> first | rfl | (exfalso; omega) | (simp_all; done) | (simp_all; omega))))
theorem pen_End (h : Pe.Ok ⟨b, m, e⟩) : AC Tryz.prog 75 [.p 0 0] (Pe.obs ⟨b, m, e⟩) fun x σ => x = .t [sv (bs (Pe.fin ⟨b, m, e⟩).1), iv .i64 (Pe.fin ⟨b, m, e⟩).2] ∧ σ = Pe.obs ⟨b, m, e⟩ := by
  refine AC.walk Tryz.func75 rfl (by decide) (of_decide_eq_true rfl) ?_
  focus (have kxs : 987654321 = 987654320 + 1 := rfl; have kuc1 := fun za zb zc => uN [0, 1] (pen_Err za zb zc); (repeat' (first | refine GF ?_ | refine AW.ret ?_ | (refine GC ?_ ?_ <;> intro h <;> (try simp only [hsB] at h) <;> try (exfalso; first | omega | contradiction)) | (refine GL ?_ ?_ <;> intro h <;> (try simp only [Bool.not_true, Bool.not_false] at h) <;> (try simp only [h]) <;> (try simp only [hsB] at h) <;> try (exfalso; first | omega | contradiction)) | fail)); all_goals clear kxs kuc1)
  ((all_goals first | refine RetQ.r 2 rfl (Nat.le_of_ble_eq_true rfl) rfl (by first | rfl | (simp only [go_sem, ↓reduceIte, Nat.reduceLT, Nat.lt_irrefl])) ⟨?_, ?_⟩ | refine RetQ.n 2 rfl (Nat.le_of_ble_eq_true rfl) rfl (by first | rfl | (simp only [go_sem, ↓reduceIte, Nat.reduceLT, Nat.lt_irrefl])) ⟨?_, ?_⟩); (all_goals first | rfl | (simp [Pe.fin, *]; done) | ((simp only [go_sem, ↓reduceIte, Nat.reduceLT, Pe.fin]; (repeat' split)) <;> first | rfl | (exfalso; omega) | (simp_all; done) | (simp_all; omega))))
theorem pen_Text (h : Pe.Ok ⟨b, m, e⟩) (l : List (List UInt8)) (hl : m ≤ 140737488355328 ∨ b.length + l.flatten.length ≤ 140737488355328) (hn : l.length ≤ 140737488355328) :
    AC Tryz.prog 165 [.p 0 0, .d (.l l.length (l.map fun s => .s (.string ⟨s.toArray⟩)))] (Pe.obs ⟨b, m, e⟩) fun x σ => x = .t [] ∧ σ = Pe.obs (Pe.texts ⟨b, m, e⟩ l) := by
  refine AC.walk Tryz.func165 rfl (by decide) (of_decide_eq_true rfl) ?_
  focus (have kxs : 987654321 = 987654320 + 1 := rfl; (repeat' (first | refine GF ?_ | refine AW.ret ?_ | (refine GC ?_ ?_ <;> intro h <;> (try simp only [hsB] at h) <;> try (exfalso; first | omega | contradiction)) | (refine GL ?_ ?_ <;> intro h <;> (try simp only [Bool.not_true, Bool.not_false] at h) <;> (try simp only [h]) <;> (try simp only [hsB] at h) <;> try (exfalso; first | omega | contradiction)) | fail)); all_goals clear kxs)
  refine AW.rounds [0, 6, 7, 8] (fun i => [(0, .p 0 0), (6, .d (.l l.length (l.map fun s => .s (.string ⟨s.toArray⟩)))), (7, iv .i64 l.length), (8, iv .i64 (i : Nat))]) (fun i => Pe.obs (Pe.texts ⟨b, m, e⟩ (l.take i))) (fun i => i ≤ l.length) (fun i => l.length - i) 0 (Nat.zero_le _) rfl rfl
    (fun _ _ => Nat.le_of_ble_eq_true rfl) (fun _ _ => rfl) (fun _ _ => rfl) ?_
  intro i hi J hJ
  generalize hq : Pe.texts ⟨b, m, e⟩ (l.take i) = q
  have hf : (l.take i).flatten.length + (l.drop i).flatten.length = l.flatten.length := by rw [← List.length_append, ← List.flatten_append, List.take_append_drop]
  have hok : q.Ok := by rw [← hq]; exact Pe.texts_ok h (by simp only; omega)
  have hqm : q.m = m := by rw [← hq, Pe.texts_m]
  have hql : q.m ≤ 140737488355328 ∨ q.b.length + (l.drop i).flatten.length ≤ 140737488355328 := by
    have := Pe.texts_len (l.take i) ⟨b, m, e⟩
    rw [hq] at this
    simp only at this
    omega
  by_cases hil : i < l.length
  · obtain ⟨s, r, hs⟩ : ∃ s r, l.drop i = s :: r := ⟨_, _, List.drop_eq_getElem_cons hil⟩
    have hd : (l.map fun s => D.s (Value.string ⟨s.toArray⟩)).drop i = .s (.string ⟨s.toArray⟩) :: r.map fun s => .s (.string ⟨s.toArray⟩) := by rw [← List.map_drop, hs]; rfl
    rw [hs] at hql
    simp only [List.flatten_cons, List.length_append] at hql
    have hnx : l.take (i + 1) = l.take i ++ [s] := by
      have h1 : l[i]? = some s := by
        have := congrArg List.head? hs
        simpa [List.head?_drop] using this
      rw [List.take_add_one, h1]; rfl
    have hqn : Pe.texts ⟨b, m, e⟩ (l.take (i + 1)) = q.text s := by rw [hnx, Pe.texts_snoc, hq]
    cases hrm : Pe.room ⟨q.b, q.m, q.e⟩ s.length with
    | false =>
      focus (have kxs := And.intro hd (And.intro @Pe.roomed_b (And.intro @Pe.roomed_m hrm)); have kua1 := fun za => uN [0, 1] (pen_room _ _ _ za hok); (repeat' (first | refine GF ?_ | refine AW.ret ?_ | (refine GC ?_ ?_ <;> intro h <;> (try simp only [hsB] at h) <;> try (exfalso; first | omega | contradiction)) | (refine GL ?_ ?_ <;> intro h <;> (try simp only [Bool.not_true, Bool.not_false] at h) <;> (try simp only [h]) <;> (try simp only [hsB] at h) <;> try (exfalso; first | omega | contradiction)) | fail)); all_goals clear kxs kua1)
      have hno := Pe.room_no hrm
      have hall : Pe.texts ⟨b, m, e⟩ l = q.roomed s.length := by
        rw [hno.1, ← hqn]
        conv => lhs; rw [← List.take_append_drop (i + 1) l]
        rw [Pe.texts_append, hqn]
        exact Pe.texts_stuck hno.2 _
      rw [hall]
      (all_goals first | exact RetQ.fr 2 | exact RetQ.fn 2 | fail)
    | true =>
      have hfit := Pe.room_fit hrm
      simp only at hfit
      focus (have kxs := And.intro hd (And.intro @Pe.roomed_b (And.intro @Pe.roomed_m hrm)); have kua1 := fun za => uN [0, 1] (pen_room _ _ _ za hok); (repeat' (first | refine GF ?_ | refine AW.ret ?_ | (refine GC ?_ ?_ <;> intro h <;> (try simp only [hsB] at h) <;> try (exfalso; first | omega | contradiction)) | (refine GL ?_ ?_ <;> intro h <;> (try simp only [Bool.not_true, Bool.not_false] at h) <;> (try simp only [h]) <;> (try simp only [hsB] at h) <;> try (exfalso; first | omega | contradiction)) | fail)); all_goals clear kxs kua1)
      have hyes := Pe.room_yes hrm
      have hqe : q.text s = ⟨q.b ++ s, q.m, (q.roomed s.length).e⟩ := by rw [hyes.1, hyes.2]
      refine hJ (i + 1) _ _ (by omega) (by omega) rfl ?_
      rw [hqn, hqe]
      simp [Pe.obs]
  · focus (have kxs : 987654321 = 987654320 + 1 := rfl; (repeat' (first | refine GF ?_ | refine AW.ret ?_ | (refine GC ?_ ?_ <;> intro h <;> (try simp only [hsB] at h) <;> try (exfalso; first | omega | contradiction)) | (refine GL ?_ ?_ <;> intro h <;> (try simp only [Bool.not_true, Bool.not_false] at h) <;> (try simp only [h]) <;> (try simp only [hsB] at h) <;> try (exfalso; first | omega | contradiction)) | fail)); all_goals clear kxs)
    have hi2 : i = l.length := by omega
    rw [hi2, List.take_length] at hq
    subst hq
    (all_goals first | exact RetQ.fr 2 | exact RetQ.fn 2 | fail)
theorem pen_Text1 (h : Pe.Ok ⟨b, m, e⟩) (hl : m ≤ 140737488355328 ∨ b.length + s.length ≤ 140737488355328) :
    AC Tryz.prog 165 [.p 0 0, .d (.l 1 [.s (.string ⟨s.toArray⟩)])] (Pe.obs ⟨b, m, e⟩) fun x σ => x = .t [] ∧ σ = Pe.obs (Pe.text ⟨b, m, e⟩ s) :=
  pen_Text b m e h [s] (by simpa using hl) (Nat.le_of_ble_eq_true rfl)
end
end Go.AW
/-
  The document's pen: each function does what its plain form says.
-/
namespace Go.AW
open Go Go.Proofs
set_option maxHeartbeats 1000000
set_option maxRecDepth 10000
set_option linter.unusedSimpArgs false
set_option linter.unusedVariables false
attribute [local irreducible] thenQ blockQ RetQ AL AW AC AOp

abbrev Pe.ro (p : Pe) : Ob := .box 209 [sv (bs p.b), iv .i64 p.m, iv .i64 p.e]
attribute [go_sem] Pe.ro

section
variable (b s : List UInt8) (m e f n : Int)

end
end Go.AW
/-
  Bits of numbers, as sums.
-/
namespace Go.AW
open Go

theorem or_u8 {x y : Nat} (hx : x < 256) (hy : y < 256) : bitI .or .u8 x y = ((x ||| y : Nat) : Int) := by
  show IntKind.wrap .u8 ((BitVec.ofInt 8 x ||| BitVec.ofInt 8 y).toNat : Int) = _
  rw [BitVec.ofInt_natCast, BitVec.ofInt_natCast, BitVec.toNat_or, BitVec.toNat_ofNat, BitVec.toNat_ofNat, Nat.mod_eq_of_lt (by omega), Nat.mod_eq_of_lt (by omega)]
  have : x ||| y < 2 ^ 8 := Nat.or_lt_two_pow (by omega) (by omega)
  exact wrap_u8 (by omega) (by omega)
end Go.AW
/-
  varint, the program's and the document's: what is read.
-/
namespace Go.AW
open Go Go.Proofs
set_option maxHeartbeats 2000000
set_option maxRecDepth 10000
set_option linter.unusedSimpArgs false
set_option linter.unusedVariables false
attribute [local irreducible] thenQ blockQ RetQ AL AW AC AOp

section
variable (s : List UInt8) (a : Nat) (e : Int)

end
end Go.AW
/-
  varint, the program's and the document's: what is written.
-/
namespace Go.AW
open Go Go.Proofs
set_option maxHeartbeats 2000000
set_option maxRecDepth 10000
set_option linter.unusedSimpArgs false
set_option linter.unusedVariables false
attribute [local irreducible] thenQ blockQ RetQ AL AW AC AOp

theorem or128 (m : Nat) : bitI .or .u8 (IntKind.wrap .u8 (m : Int)) 128 = ((UInt8.ofNat (m % 128 + 128)).toNat : Int) := by
  have h1 : IntKind.wrap .u8 (m : Int) = ((m % 256 : Nat) : Int) := by
    simp only [IntKind.wrap, IntKind.bits, IntKind.signed]
    simp
  have h2 : ∀ x : Nat, x < 256 → x ||| 128 = x % 128 + 128 := by decide
  have h3 := or_u8 (x := m % 256) (y := 128) (Nat.mod_lt _ (by omega)) (by omega)
  rw [show ((128 : Nat) : Int) = 128 from rfl] at h3
  rw [h1, h3, h2 _ (Nat.mod_lt _ (by omega))]
  simp
  omega

theorem varint_bytes (n : Nat) (hn : n < 18446744073709551616) : AC Tryz.prog 166 [iv .u64 n] [] fun x σ => x = .d (.l (vput n).length (bsD (vput n))) ∧ σ = [] := by
  refine AC.walk Tryz.func166 rfl (by decide) (of_decide_eq_true rfl) ?_
  focus (have kxs : 987654321 = 987654320 + 1 := rfl; (repeat' (first | refine GF ?_ | refine AW.ret ?_ | (refine GC ?_ ?_ <;> intro h <;> (try simp only [hsB] at h) <;> try (exfalso; first | omega | contradiction)) | (refine GL ?_ ?_ <;> intro h <;> (try simp only [Bool.not_true, Bool.not_false] at h) <;> (try simp only [h]) <;> (try simp only [hsB] at h) <;> try (exfalso; first | omega | contradiction)) | fail)); all_goals clear kxs)
  refine AW.birth 5 1 [3] [] ?_
  refine AW.rounds [0, 2, 3] (fun x : Nat × List UInt8 => [(0, iv .u64 x.1), (2, .d (.s (.slice none 0 0))), (3, .o 0 x.2.length)]) (fun x => [.row 5 1 x.2.length (bsD x.2)]) (fun x => x.2 ++ vput x.1 = vput n ∧ x.1 < 18446744073709551616) (fun x => x.1) (n, []) ⟨rfl, hn⟩ rfl rfl
    (fun _ _ => Nat.zero_le _) (fun _ _ => rfl) (fun _ _ => rfl) ?_
  rintro ⟨m, acc⟩ ⟨hv, hm⟩ J hJ
  simp only at hv hm hJ ⊢
  have hl : acc.length ≤ 10 := by
    have h1 := congrArg List.length hv
    have h2 := vput_len10 hn
    simp at h1; omega
  focus (have kxs : 987654321 = 987654320 + 1 := rfl; (repeat' (first | refine GF ?_ | refine AW.ret ?_ | (refine GC ?_ ?_ <;> intro h <;> (try simp only [hsB] at h) <;> try (exfalso; first | omega | contradiction)) | (refine GL ?_ ?_ <;> intro h <;> (try simp only [Bool.not_true, Bool.not_false] at h) <;> (try simp only [h]) <;> (try simp only [hsB] at h) <;> try (exfalso; first | omega | contradiction)) | fail)); all_goals clear kxs)
  · have e1 := or128 m
    have e2 : (m : Int).fdiv (2 ^ min 7 64) = ((m / 128 : Nat) : Int) := by
      rw [show (2 : Int) ^ min 7 64 = ((128 : Nat) : Int) by decide]
      exact Int.fdiv_eq_ediv_of_nonneg _ (by omega)
    have e3 : bsD acc ++ [D.s (Value.int .u8 (UInt8.ofNat (m % 128 + 128)).toNat)] = bsD (acc ++ [UInt8.ofNat (m % 128 + 128)]) := by simp [bsD]
    have hvm : vput m = UInt8.ofNat (m % 128 + 128) :: vput (m / 128) := by conv => lhs; unfold vput; rw [if_neg (by omega)]
    rw [e1, e2, e3]
    refine hJ (m / 128, acc ++ [UInt8.ofNat (m % 128 + 128)]) _ _ (by simp only; omega) ⟨by rw [← hv, hvm]; simp, by simp only; omega⟩ ?_ ?_
    · simp [keepT, look]
    · simp
  · have hvm : vput m = [UInt8.ofNat m] := by unfold vput; rw [if_pos (by omega)]
    have e1 : (m : Int) = ((UInt8.ofNat m).toNat : Int) := by simp; omega
    have e3 : bsD acc ++ [D.s (Value.int .u8 ((UInt8.ofNat m).toNat : Int))] = bsD (vput n) := by rw [← hv, hvm]; simp [bsD]
    have e4 : (vput n).length = acc.length + 1 := by rw [← hv, hvm]; simp
    rw [e1, e3, e4]
    clear e1
    (all_goals first | exact RetQ.fr 0 | exact RetQ.fn 0 | fail)

section
variable (b s : List UInt8) (m e : Int)
theorem vputs_len : ∀ (l : List Nat), (∀ n ∈ l, n < 18446744073709551616) → (l.map vput).flatten.length ≤ 10 * l.length
  | [], _ => by simp
  | n :: l, h => by
    have h1 := vput_len10 (h n List.mem_cons_self)
    have h2 := vputs_len l fun x hx => h x (List.mem_cons_of_mem _ hx)
    simp only [List.map_cons, List.flatten_cons, List.length_append, List.length_cons]
    omega

theorem varint_Put (h : Pe.Ok ⟨b, m, e⟩) (l : List Nat) (hl : ∀ n ∈ l, n < 18446744073709551616) (hn : m ≤ 140737488355328 ∨ b.length + 10 * l.length ≤ 140737488355328) (hll : l.length ≤ 140737488355328) :
    AC Tryz.prog 74 [.p 0 0, .d (.l l.length (l.map fun n => .s (.int .u64 (n : Nat))))] (Pe.obs ⟨b, m, e⟩) fun x σ => x = .t [] ∧ σ = Pe.obs (Pe.texts ⟨b, m, e⟩ (l.map vput)) := by
  refine AC.walk Tryz.func74 rfl (by decide) (of_decide_eq_true rfl) ?_
  focus (have kxs : 987654321 = 987654320 + 1 := rfl; (repeat' (first | refine GF ?_ | refine AW.ret ?_ | (refine GC ?_ ?_ <;> intro h <;> (try simp only [hsB] at h) <;> try (exfalso; first | omega | contradiction)) | (refine GL ?_ ?_ <;> intro h <;> (try simp only [Bool.not_true, Bool.not_false] at h) <;> (try simp only [h]) <;> (try simp only [hsB] at h) <;> try (exfalso; first | omega | contradiction)) | fail)); all_goals clear kxs)
  refine AW.rounds [0, 6, 7, 8] (fun i => [(0, .p 0 0), (6, .d (.l l.length (l.map fun n => .s (.int .u64 (n : Nat))))), (7, iv .i64 l.length), (8, iv .i64 (i : Nat))]) (fun i => Pe.obs (Pe.texts ⟨b, m, e⟩ ((l.take i).map vput))) (fun i => i ≤ l.length) (fun i => l.length - i) 0 (Nat.zero_le _) rfl rfl
    (fun _ _ => Nat.le_of_ble_eq_true rfl) (fun _ _ => rfl) (fun _ _ => rfl) ?_
  intro i hi J hJ
  generalize hq : Pe.texts ⟨b, m, e⟩ ((l.take i).map vput) = q
  have hf : ((l.take i).map vput).flatten.length ≤ 10 * i := by
    have := vputs_len (l.take i) fun n hn => hl n (List.mem_of_mem_take hn)
    rw [List.length_take] at this
    omega
  have hok : q.Ok := by rw [← hq]; exact Pe.texts_ok h (by simp only; omega)
  have hqm : q.m = m := by rw [← hq, Pe.texts_m]
  have hql : q.b.length ≤ b.length + 10 * i := by
    have := Pe.texts_len ((l.take i).map vput) ⟨b, m, e⟩
    rw [hq] at this
    simp only at this
    omega
  by_cases hil : i < l.length
  · obtain ⟨x, r, hs⟩ : ∃ s r, l.drop i = s :: r := ⟨_, _, List.drop_eq_getElem_cons hil⟩
    have hx : x < 18446744073709551616 := hl x (List.mem_of_mem_drop (i := i) (by rw [hs]; exact List.mem_cons_self))
    have hd : (l.map fun n => D.s (Value.int .u64 (n : Nat))).drop i = .s (.int .u64 (x : Nat)) :: r.map fun n => .s (.int .u64 (n : Nat)) := by rw [← List.map_drop, hs]; rfl
    have hnx : l.take (i + 1) = l.take i ++ [x] := by
      have h1 : l[i]? = some x := by
        have := congrArg List.head? hs
        simpa [List.head?_drop] using this
      rw [List.take_add_one, h1]; rfl
    have hqn : Pe.texts ⟨b, m, e⟩ ((l.take (i + 1)).map vput) = q.text (vput x) := by rw [hnx, List.map_append, List.map_cons, List.map_nil, Pe.texts_snoc, hq]
    have hvl := vput_len10 hx
    focus (have kxs := hd; have kk1 := uN [] (varint_bytes x hx); have kk2 := uN [0, 1] (pen_Text1 q.b (vput x) q.m q.e hok (by omega)); (repeat' (first | refine GF ?_ | refine AW.ret ?_ | (refine GC ?_ ?_ <;> intro h <;> (try simp only [hsB] at h) <;> try (exfalso; first | omega | contradiction)) | (refine GL ?_ ?_ <;> intro h <;> (try simp only [Bool.not_true, Bool.not_false] at h) <;> (try simp only [h]) <;> (try simp only [hsB] at h) <;> try (exfalso; first | omega | contradiction)) | fail)); all_goals clear kxs kk1 kk2)
    refine hJ (i + 1) _ _ (by omega) (by omega) rfl ?_
    rw [hqn]
    rfl
  · focus (have kxs : 987654321 = 987654320 + 1 := rfl; (repeat' (first | refine GF ?_ | refine AW.ret ?_ | (refine GC ?_ ?_ <;> intro h <;> (try simp only [hsB] at h) <;> try (exfalso; first | omega | contradiction)) | (refine GL ?_ ?_ <;> intro h <;> (try simp only [Bool.not_true, Bool.not_false] at h) <;> (try simp only [h]) <;> (try simp only [hsB] at h) <;> try (exfalso; first | omega | contradiction)) | fail)); all_goals clear kxs)
    have hi2 : i = l.length := by omega
    rw [hi2, List.take_length] at hq
    subst hq
    (all_goals first | exact RetQ.fr 2 | exact RetQ.fn 2 | fail)
theorem varint_Put1 (h : Pe.Ok ⟨b, m, e⟩) (n : Nat) (hl : n < 18446744073709551616) (hn : m ≤ 140737488355328 ∨ b.length + 10 ≤ 140737488355328) :
    AC Tryz.prog 74 [.p 0 0, .d (.l 1 [.s (.int .u64 (n : Nat))])] (Pe.obs ⟨b, m, e⟩) fun x σ => x = .t [] ∧ σ = Pe.obs (Pe.text ⟨b, m, e⟩ (vput n)) :=
  varint_Put b m e h [n] (by simpa using hl) (by simpa using hn) (Nat.le_of_ble_eq_true rfl)
end
end Go.AW
/-
  blob, the program's and the document's: what is read.
-/
namespace Go.AW
open Go Go.Proofs
set_option maxHeartbeats 2000000
set_option maxRecDepth 10000
set_option linter.unusedSimpArgs false
set_option linter.unusedVariables false
attribute [local irreducible] thenQ blockQ RetQ AL AW AC AOp

section
variable (s : List UInt8) (a : Nat) (e max : Int)

end
end Go.AW
/-
  blob, the program's and the document's: what is written.
-/
namespace Go.AW
open Go Go.Proofs
set_option maxHeartbeats 2000000
set_option maxRecDepth 10000
set_option linter.unusedSimpArgs false
set_option linter.unusedVariables false
attribute [local irreducible] thenQ blockQ RetQ AL AW AC AOp

section
variable (b s : List UInt8) (m e max : Int)

theorem blob_Put (h : Pe.Ok ⟨b, m, e⟩) (l : List (List UInt8)) (hv : ∀ s ∈ l, s.length ≤ 9223372036854775807) (hl : m ≤ 140737488355328 ∨ b.length + 10 * l.length + l.flatten.length ≤ 140737488355328) (hn : l.length ≤ 140737488355328) :
    AC Tryz.prog 217 [.p 0 0, iv .i64 max, .d (.l l.length (l.map fun s => .s (.string ⟨s.toArray⟩)))] (Pe.obs ⟨b, m, e⟩) fun x σ => x = .t [] ∧ σ = Pe.obs (Pe.blobs ⟨b, m, e⟩ max l) := by
  refine AC.walk Tryz.func217 rfl (by decide) (of_decide_eq_true rfl) ?_
  focus (have kxs : 987654321 = 987654320 + 1 := rfl; (repeat' (first | refine G ?_ | refine AW.ret ?_ | (refine GC ?_ ?_ <;> intro h <;> (try simp only [hsB] at h) <;> try (exfalso; first | omega | contradiction)) | (refine GL ?_ ?_ <;> intro h <;> (try simp only [Bool.not_true, Bool.not_false] at h) <;> (try simp only [h]) <;> (try simp only [hsB] at h) <;> try (exfalso; first | omega | contradiction)) | fail)); all_goals clear kxs)
  refine AW.rounds [0, 1, 8, 9, 10] (fun i => [(0, .p 0 0), (1, iv .i64 max), (8, .d (.l l.length (l.map fun s => .s (.string ⟨s.toArray⟩)))), (9, iv .i64 l.length), (10, iv .i64 (i : Nat))]) (fun i => Pe.obs (Pe.blobs ⟨b, m, e⟩ max (l.take i))) (fun i => i ≤ l.length) (fun i => l.length - i) 0 (Nat.zero_le _) rfl rfl
    (fun _ _ => Nat.le_of_ble_eq_true rfl) (fun _ _ => rfl) (fun _ _ => rfl) ?_
  intro i hi J hJ
  generalize hq : Pe.blobs ⟨b, m, e⟩ max (l.take i) = q
  have hf : (l.take i).flatten.length + (l.drop i).flatten.length = l.flatten.length := by rw [← List.length_append, ← List.flatten_append, List.take_append_drop]
  have hqo : q.Ok ∧ q.b.length ≤ b.length + 10 * i + (l.take i).flatten.length := by
    have := Pe.blobs_ok (max := max) (l.take i) h (fun s hs => Nat.lt_of_le_of_lt (hv s (List.mem_of_mem_take hs)) (by decide)) (by rw [List.length_take]; simp only; omega)
    rw [hq, List.length_take] at this
    simp only at this
    exact ⟨this.1, by omega⟩
  obtain ⟨hok, hql⟩ := hqo
  have hqm : q.m = m := by rw [← hq, Pe.blobs_m]
  by_cases hil : i < l.length
  · obtain ⟨s, r, hs⟩ : ∃ s r, l.drop i = s :: r := ⟨_, _, List.drop_eq_getElem_cons hil⟩
    have hd : (l.map fun s => D.s (Value.string ⟨s.toArray⟩)).drop i = .s (.string ⟨s.toArray⟩) :: r.map fun s => .s (.string ⟨s.toArray⟩) := by rw [← List.map_drop, hs]; rfl
    rw [hs] at hf
    simp only [List.flatten_cons, List.length_append] at hf
    have hnx : l.take (i + 1) = l.take i ++ [s] := by
      have h1 : l[i]? = some s := by
        have := congrArg List.head? hs
        simpa [List.head?_drop] using this
      rw [List.take_add_one, h1]; rfl
    have hqn : Pe.blobs ⟨b, m, e⟩ max (l.take (i + 1)) = q.blob max s := by rw [hnx, Pe.blobs_snoc, hq]
    have hsl := hv s (List.mem_of_mem_drop (i := i) (by rw [hs]; exact List.mem_cons_self))
    have hvl := vput_len10 (n := s.length) (by omega)
    have htm := Pe.text_m q (vput s.length)
    have htl := Pe.text_len q (vput s.length)
    have hto := Pe.text_ok (s := vput s.length) hok (by omega)
    focus (have kxs := hd; have kud1 := fun za zb zc zd => uN [0, 1] (pen_Fail za zb zc zd); have kk1 := uN [0, 1] (varint_Put1 q.b q.m q.e hok s.length (by omega) (by omega)); have kk2 := uN [0, 1] (pen_Text1 (Pe.text q (vput s.length)).b s (Pe.text q (vput s.length)).m (Pe.text q (vput s.length)).e hto (by omega)); (repeat' (first | refine G ?_ | refine AW.ret ?_ | (refine GC ?_ ?_ <;> intro h <;> (try simp only [hsB] at h) <;> try (exfalso; first | omega | contradiction)) | (refine GL ?_ ?_ <;> intro h <;> (try simp only [Bool.not_true, Bool.not_false] at h) <;> (try simp only [h]) <;> (try simp only [hsB] at h) <;> try (exfalso; first | omega | contradiction)) | fail)); all_goals clear kxs kud1 kk1 kk2)
    · have hb : q.blob max s = q.fail 3 := by unfold Pe.blob; rw [if_pos (by omega)]
      have hne : (q.fail 3).e ≠ 0 := by
        show (if q.e = 0 then (3 : Int) else q.e) ≠ 0
        split
        · decide
        · assumption
      have hall : Pe.blobs ⟨b, m, e⟩ max l = q.fail 3 := by
        conv => lhs; rw [← List.take_append_drop (i + 1) l]
        rw [Pe.blobs_append, hqn, hb]
        exact Pe.blobs_stuck hne max _
      rw [hall]
      (all_goals first | exact RetQ.fr 2 | exact RetQ.fn 2 | fail)
    all_goals
      have hb : q.blob max s = (q.text (vput s.length)).text s := by unfold Pe.blob; rw [if_neg (by omega)]
      refine hJ (i + 1) _ _ (by omega) (by omega) rfl ?_
      rw [hqn, hb]
      rfl
  · focus (have kxs : 987654321 = 987654320 + 1 := rfl; (repeat' (first | refine G ?_ | refine AW.ret ?_ | (refine GC ?_ ?_ <;> intro h <;> (try simp only [hsB] at h) <;> try (exfalso; first | omega | contradiction)) | (refine GL ?_ ?_ <;> intro h <;> (try simp only [Bool.not_true, Bool.not_false] at h) <;> (try simp only [h]) <;> (try simp only [hsB] at h) <;> try (exfalso; first | omega | contradiction)) | fail)); all_goals clear kxs)
    have hi2 : i = l.length := by omega
    rw [hi2, List.take_length] at hq
    subst hq
    (all_goals first | exact RetQ.fr 2 | exact RetQ.fn 2 | fail)
theorem blob_Put1 (ok : Pe.Ok ⟨b, m, e⟩) (hv : s.length ≤ 9223372036854775807) (hl : m ≤ 140737488355328 ∨ b.length + 10 + s.length ≤ 140737488355328) :
    AC Tryz.prog 217 [.p 0 0, iv .i64 max, .d (.l 1 [.s (.string ⟨s.toArray⟩)])] (Pe.obs ⟨b, m, e⟩) fun x σ => x = .t [] ∧ σ = Pe.obs (Pe.blob ⟨b, m, e⟩ max s) :=
  blob_Put b m e max ok [s] (by simpa using hv) (by simpa using hl) (Nat.le_of_ble_eq_true rfl)
end
end Go.AW
/-
  blob.Rising and the document's.
-/
namespace Go.AW
open Go Go.Proofs
set_option maxHeartbeats 2000000
set_option maxRecDepth 10000
set_option linter.unusedSimpArgs false
set_option linter.unusedVariables false
attribute [local irreducible] thenQ blockQ RetQ AL AW AC AOp

abbrev strs (l : List (List UInt8)) : List D := l.map fun s => .s (.string ⟨s.toArray⟩)

end Go.AW
/-
  vectors: what is right, what is the same, what is too great: the program's and the document's.
-/
namespace Go.AW
open Go Go.Proofs
set_option maxHeartbeats 2000000
set_option maxRecDepth 10000
set_option linter.unusedSimpArgs false
set_option linter.unusedVariables false
attribute [local irreducible] thenQ blockQ RetQ AL AW AC AOp

def enD (x : En) : List D := [.s (.string ⟨x.1.toArray⟩), .s (.int .u64 x.2)]
abbrev vecD (v : Vec) : List D := (v.map enD).flatten
theorem vec_drop {v r : Vec} {x : En} {i : Nat} (h : v.drop i = x :: r) : (vecD v).drop (i * 2) = .s (.string ⟨x.1.toArray⟩) :: .s (.int .u64 x.2) :: vecD r := by
  rw [vecD, flat_drop (f := enD) (sz := 2) (fun _ => rfl), h]; rfl
/-- What is known of any vector: its names, its length. -/
def Vec.fits (v : Vec) : Prop := v.length ≤ 9223372036854775807 ∧ (∀ x ∈ v, x.1.length ≤ 9223372036854775807) ∧ ∀ x ∈ v, x.2 < 18446744073709551616

/-- The name ahead of place i. -/
def Vec.ahead (v : Vec) (i : Nat) (p : List UInt8) : Prop := (i = 0 ∧ p = []) ∨ (0 < i ∧ p.length ≤ 32 ∧ ∃ n r, v.drop (i - 1) = (p, n) :: r)
theorem ref10_Same (v w : Vec) (hv : v.length ≤ 9223372036854775807) : AC Tryz.prog 68 [.d (.l v.length (vecD v)), .d (.l w.length (vecD w))] [] fun x σ => x = bv (decide (v = w)) ∧ σ = [] := by
  refine AC.walk Tryz.func68 rfl (by decide) (of_decide_eq_true rfl) ?_
  by_cases hl : v.length = w.length
  case neg =>
    have hc : decide (v = w) = false := by simp; rintro rfl; exact hl rfl
    focus (have kxs := hc; (repeat' (first | (refine ADr.nil ?_; try clear hgv) | refine GO ?_ | refine AW.ret ?_ | (refine GC ?_ ?_ <;> intro h <;> (try simp only [hsB] at h) <;> try (exfalso; first | omega | contradiction)) | (refine GD ?_ ?_ <;> intro h <;> (try intro hgv) <;> (try simp only [Bool.not_true, Bool.not_false] at h) <;> (try simp only [h]) <;> (try simp only [hsB] at h) <;> try (exfalso; first | omega | contradiction)) | (refine GL ?_ ?_ <;> intro h <;> (try simp only [Bool.not_true, Bool.not_false] at h) <;> (try simp only [h]) <;> (try simp only [hsB] at h) <;> try (exfalso; first | omega | contradiction)) | fail)); all_goals clear kxs)
    all_goals first | (exfalso; omega) | ((all_goals have kxf := hc; first | exact RetQ.xr 0 | exact RetQ.xn 0 | fail); done)
  focus (have kxs : 987654321 = 987654320 + 1 := rfl; (repeat' (first | (refine ADr.nil ?_; try clear hgv) | refine GO ?_ | refine AW.ret ?_ | (refine GC ?_ ?_ <;> intro h <;> (try simp only [hsB] at h) <;> try (exfalso; first | omega | contradiction)) | (refine GD ?_ ?_ <;> intro h <;> (try intro hgv) <;> (try simp only [Bool.not_true, Bool.not_false] at h) <;> (try simp only [h]) <;> (try simp only [hsB] at h) <;> try (exfalso; first | omega | contradiction)) | (refine GL ?_ ?_ <;> intro h <;> (try simp only [Bool.not_true, Bool.not_false] at h) <;> (try simp only [h]) <;> (try simp only [hsB] at h) <;> try (exfalso; first | omega | contradiction)) | fail)); all_goals clear kxs)
  refine AW.rounds [0, 1, 4, 5] (fun i : Nat => [(0, .d (.l v.length (vecD v))), (1, .d (.l w.length (vecD w))), (4, bv false), (5, iv .i64 i)]) (fun _ => [])
    (fun i => i ≤ v.length ∧ (v = w ↔ v.drop i = w.drop i)) (fun i => v.length - i) 0 ⟨Nat.zero_le _, by simp⟩ rfl rfl (fun _ _ => Nat.zero_le _) (fun _ _ => rfl) (fun _ _ => rfl) ?_
  rintro i ⟨hi, hr⟩ J hJ
  by_cases hil : i < v.length
  · obtain ⟨x, r, hd⟩ := next_at hil
    obtain ⟨y, s, he⟩ := next_at (l := w) (i := i) (by omega)
    have hcd := vec_drop hd
    have hce := vec_drop he
    focus (have kxs := And.intro hcd hce; (repeat' (first | (refine ADr.nil ?_; try clear hgv) | refine GO ?_ | refine AW.ret ?_ | (refine GC ?_ ?_ <;> intro h <;> (try simp only [hsB] at h) <;> try (exfalso; first | omega | contradiction)) | (refine GD ?_ ?_ <;> intro h <;> (try intro hgv) <;> (try simp only [Bool.not_true, Bool.not_false] at h) <;> (try simp only [h]) <;> (try simp only [hsB] at h) <;> try (exfalso; first | omega | contradiction)) | (refine GL ?_ ?_ <;> intro h <;> (try simp only [Bool.not_true, Bool.not_false] at h) <;> (try simp only [h]) <;> (try simp only [hsB] at h) <;> try (exfalso; first | omega | contradiction)) | fail)); all_goals clear kxs)
    · have hn : ¬ v = w := by
        rw [hr, hd, he]
        intro e
        obtain ⟨rfl, _⟩ := List.cons.inj e
        simp at h
      have hc : decide (v = w) = false := by simp [hn]
      rw [hc]
      (all_goals first | exact RetQ.fr 0 | exact RetQ.fn 0 | fail)
    · refine hJ (i + 1) _ _ (by omega) ⟨hil, ?_⟩ rfl rfl
      have hxy : x = y := Prod.ext h.1 (by omega)
      rw [hr, next_drop hd, next_drop he, hd, he, hxy]
      simp
  · focus (have kxs : 987654321 = 987654320 + 1 := rfl; (repeat' (first | (refine ADr.nil ?_; try clear hgv) | refine GO ?_ | refine AW.ret ?_ | (refine GC ?_ ?_ <;> intro h <;> (try simp only [hsB] at h) <;> try (exfalso; first | omega | contradiction)) | (refine GD ?_ ?_ <;> intro h <;> (try intro hgv) <;> (try simp only [Bool.not_true, Bool.not_false] at h) <;> (try simp only [h]) <;> (try simp only [hsB] at h) <;> try (exfalso; first | omega | contradiction)) | (refine GL ?_ ?_ <;> intro h <;> (try simp only [Bool.not_true, Bool.not_false] at h) <;> (try simp only [h]) <;> (try simp only [hsB] at h) <;> try (exfalso; first | omega | contradiction)) | fail)); all_goals clear kxs)
    have hc : decide (v = w) = true := by
      simp only [decide_eq_true_eq]
      rw [hr, List.drop_eq_nil_of_le (by omega), List.drop_eq_nil_of_le (by omega)]
    rw [hc]
    (all_goals first | exact RetQ.fr 0 | exact RetQ.fn 0 | fail)
end Go.AW
/-
  vectors that are read: the program's and the document's.
-/
namespace Go.AW
open Go Go.Proofs
set_option maxHeartbeats 2000000
set_option maxRecDepth 10000
set_option linter.unusedSimpArgs false
set_option linter.unusedVariables false
attribute [local irreducible] thenQ blockQ RetQ AL AW AC AOp

abbrev Vfam := Fam Cu.ent (fun (_ : List UInt8) (x : En) => x.1)
/-- The name ahead, of a list that is being read. -/
def Vec.last (v : Vec) (p : List UInt8) : Prop := (v = [] ∧ p = []) ∨ (0 < v.length ∧ p.length ≤ 32 ∧ ∃ n r, v.drop (v.length - 1) = (p, n) :: r)
end Go.AW
/-
  vectors that are read: the document's.
-/
namespace Go.AW
open Go Go.Proofs
set_option maxHeartbeats 2000000
set_option maxRecDepth 10000
set_option linter.unusedSimpArgs false
set_option linter.unusedVariables false
attribute [local irreducible] thenQ blockQ RetQ AL AW AC AOp

end Go.AW
/-
  vectors that are written: the program's and the document's; whole texts.
-/
namespace Go.AW
open Go Go.Proofs
set_option maxHeartbeats 2000000
set_option maxRecDepth 10000
set_option linter.unusedSimpArgs false
set_option linter.unusedVariables false
attribute [local irreducible] thenQ blockQ RetQ AL AW AC AOp

abbrev vecsD (l : List Vec) : List D := l.map fun v => D.l v.length (vecD v)
section
variable (b : List UInt8) (m e : Int)

end
end Go.AW
/-
  vectors that are written: the document's; whole texts.
-/
namespace Go.AW
open Go Go.Proofs
set_option maxHeartbeats 2000000
set_option maxRecDepth 10000
set_option linter.unusedSimpArgs false
set_option linter.unusedVariables false
attribute [local irreducible] thenQ blockQ RetQ AL AW AC AOp

section
variable (b : List UInt8) (m e : Int)
end

end Go.AW
/-
  slices.IndexFunc, slices.ContainsFunc: with whatever closure that only looks.
-/
namespace Go.AW
open Go Go.Proofs
set_option maxHeartbeats 2000000
set_option maxRecDepth 10000
set_option linter.unusedSimpArgs false
set_option linter.unusedVariables false
attribute [local irreducible] thenQ blockQ RetQ AL AW AC AOp

/-- The first place of a thing that is so, or -1. -/
def idx {α : Type} (p : α → Bool) : List α → Int → Int
  | [], _ => -1
  | x :: l, i => if p x = true then i else idx p l (i + 1)
end Go.AW
/-
  old objects: what is right: the program's and the document's.
-/
namespace Go.AW
open Go Go.Proofs
set_option maxHeartbeats 2000000
set_option maxRecDepth 10000
set_option linter.unusedSimpArgs false
set_option linter.unusedVariables false
attribute [local irreducible] thenQ blockQ RetQ AL AW AC AOp

def osD (x : Os1) : List D := [.l x.clk.length (vecD x.clk), .s (.bool x.dead), .s (.string ⟨x.val.toArray⟩)]
abbrev ossD (l : List Os1) : List D := (l.map osD).flatten
abbrev osV (x : Os1) : V := .a [.d (.l x.clk.length (vecD x.clk)), bv x.dead, sv (bs x.val)]
abbrev odV (o : Od) : V := .a [sv (bs o.key), .d (.l o.sibs.length (ossD o.sibs))]
def Os1.fits (x : Os1) : Prop := x.clk.fits ∧ x.val.length ≤ 9223372036854775807
def Od.fits (o : Od) : Prop := o.key.length ≤ 9223372036854775807 ∧ o.sibs.length ≤ 9223372036854775807 ∧ ∀ x ∈ o.sibs, x.fits
theorem oss_drop {l r : List Os1} {x : Os1} {i : Nat} (h : l.drop i = x :: r) : (ossD l).drop (i * 3) = .l x.clk.length (vecD x.clk) :: .s (.bool x.dead) :: .s (.string ⟨x.val.toArray⟩) :: ossD r := by
  rw [ossD, flat_drop (f := osD) (sz := 3) (fun _ => rfl), h]; rfl

end Go.AW
/-
  clocks: what is right, the same, too great: the program's and the document's.
-/
namespace Go.AW
open Go Go.Proofs
set_option maxHeartbeats 2000000
set_option maxRecDepth 10000
set_option linter.unusedSimpArgs false
set_option linter.unusedVariables false
attribute [local irreducible] thenQ blockQ RetQ AL AW AC AOp

abbrev ckV (k : Ck) : V := .a [.d (.l k.ctx.length (vecD k.ctx)), bv k.dotted, sv (bs k.dot.1), iv .u64 k.dot.2]
def Ck.fits (k : Ck) : Prop := k.ctx.fits ∧ k.dot.1.length ≤ 9223372036854775807 ∧ k.dot.2 < 18446744073709551616

theorem ck_eq (k o : Ck) : (decide (k.ctx = o.ctx) && (decide (k.dotted = o.dotted) && (decide (k.dot.1 = o.dot.1) && (decide ((k.dot.2 : Int) = o.dot.2) && true)))) = true ↔ k = o := by
  obtain ⟨a, b, c, d⟩ := k
  obtain ⟨a', b', c', d'⟩ := o
  simp only [Bool.and_eq_true, decide_eq_true_eq, and_true, Int.natCast_inj, Ck.mk.injEq, Prod.mk.injEq]
instance : DecidableEq Ck := fun k o => decidable_of_iff _ (ck_eq k o)
theorem ref12_Same (k o : Ck) (hk : k.ctx.length ≤ 9223372036854775807) : AC Tryz.prog 213 [ckV k, ckV o] [] fun x σ => x = bv (decide (k = o)) ∧ σ = [] := by
  refine AC.walk Tryz.func213 rfl (by decide) (of_decide_eq_true rfl) ?_
  have hR : decide (k = o) = (decide (k.ctx = o.ctx) && (decide (k.dotted = o.dotted) && (decide (k.dot.1 = o.dot.1) && (decide ((k.dot.2 : Int) = o.dot.2) && true)))) := by
    rw [Bool.eq_iff_iff, decide_eq_true_eq]; exact (ck_eq k o).symm
  rw [hR]
  clear hR
  rcases Bool.eq_false_or_eq_true (decide (k.ctx = o.ctx)) with e1 | e1 <;> rcases Bool.eq_false_or_eq_true (decide (k.dotted = o.dotted)) with e2 | e2
  all_goals
    rw [e1, e2]
    focus (have kxs := And.intro e1 e2; have kk1 := uN [] (ref10_Same k.ctx o.ctx hk); (repeat' (first | refine G ?_ | refine AW.ret ?_ | (refine GC ?_ ?_ <;> intro h <;> (try simp only [hsB] at h) <;> try (exfalso; first | omega | contradiction)) | (refine GL ?_ ?_ <;> intro h <;> (try simp only [Bool.not_true, Bool.not_false] at h) <;> (try simp only [h]) <;> (try simp only [hsB] at h) <;> try (exfalso; first | omega | contradiction)) | fail)); all_goals clear kxs kk1)
    all_goals first | ((all_goals first | exact RetQ.fr 0 | exact RetQ.fn 0 | fail); done) | (exfalso; simp_all; done)
end Go.AW
/-
  clocks that are read: the program's and the document's.
-/
namespace Go.AW
open Go Go.Proofs
set_option maxHeartbeats 2000000
set_option maxRecDepth 10000
set_option linter.unusedSimpArgs false
set_option linter.unusedVariables false
attribute [local irreducible] thenQ blockQ RetQ AL AW AC AOp

end Go.AW
/-
  clocks that are read: the document's.
-/
namespace Go.AW
open Go Go.Proofs
set_option maxHeartbeats 2000000
set_option maxRecDepth 10000
set_option linter.unusedSimpArgs false
set_option linter.unusedVariables false
attribute [local irreducible] thenQ blockQ RetQ AL AW AC AOp

end Go.AW
/-
  clocks that are written, whole texts: the program's and the document's.
-/
namespace Go.AW
open Go Go.Proofs
set_option maxHeartbeats 2000000
set_option maxRecDepth 10000
set_option linter.unusedSimpArgs false
set_option linter.unusedVariables false
attribute [local irreducible] thenQ blockQ RetQ AL AW AC AOp

def ckD (k : Ck) : List D := [.l k.ctx.length (vecD k.ctx), .s (.bool k.dotted), .s (.string ⟨k.dot.1.toArray⟩), .s (.int .u64 k.dot.2)]
abbrev cksD (l : List Ck) : List D := (l.map ckD).flatten
section
variable (b : List UInt8) (m e : Int)

end
end Go.AW
/-
  clocks: the document's writer; whole texts.
-/
namespace Go.AW
open Go Go.Proofs
set_option maxHeartbeats 2000000
set_option maxRecDepth 10000
set_option linter.unusedSimpArgs false
set_option linter.unusedVariables false
attribute [local irreducible] thenQ blockQ RetQ AL AW AC AOp

section
variable (b : List UInt8) (m e : Int)
end

end Go.AW
/-
  metadata: what is right, the same, too great: the program's and the document's.
-/
namespace Go.AW
open Go Go.Proofs
set_option maxHeartbeats 2000000
set_option maxRecDepth 10000
set_option linter.unusedSimpArgs false
set_option linter.unusedVariables false
attribute [local irreducible] thenQ blockQ RetQ AL AW AC AOp

def prD (x : Pr) : List D := [.s (.string ⟨x.1.toArray⟩), .s (.string ⟨x.2.toArray⟩)]
abbrev prsD (v : Prs) : List D := (v.map prD).flatten
theorem prs_drop {v r : Prs} {x : Pr} {i : Nat} (h : v.drop i = x :: r) : (prsD v).drop (i * 2) = .s (.string ⟨x.1.toArray⟩) :: .s (.string ⟨x.2.toArray⟩) :: prsD r := by
  rw [prsD, flat_drop (f := prD) (sz := 2) (fun _ => rfl), h]; rfl
/-- What is known of any vector: its names, its length. -/
def Prs.fits (v : Prs) : Prop := v.length ≤ 9223372036854775807 ∧ (∀ x ∈ v, x.1.length ≤ 9223372036854775807) ∧ ∀ x ∈ v, x.2.length ≤ 9223372036854775807

/-- The name ahead of place i. -/
def Prs.ahead (v : Prs) (i : Nat) (p : List UInt8) : Prop := (i = 0 ∧ p = []) ∨ (0 < i ∧ p.length ≤ 32 ∧ ∃ n r, v.drop (i - 1) = (p, n) :: r)
theorem ref14_Same (v w : Prs) (hv : v.length ≤ 9223372036854775807) : AC Tryz.prog 69 [.d (.l v.length (prsD v)), .d (.l w.length (prsD w))] [] fun x σ => x = bv (decide (v = w)) ∧ σ = [] := by
  refine AC.walk Tryz.func69 rfl (by decide) (of_decide_eq_true rfl) ?_
  by_cases hl : v.length = w.length
  case neg =>
    have hc : decide (v = w) = false := by simp; rintro rfl; exact hl rfl
    focus (have kxs := hc; (repeat' (first | (refine ADr.nil ?_; try clear hgv) | refine GO ?_ | refine AW.ret ?_ | (refine GC ?_ ?_ <;> intro h <;> (try simp only [hsB] at h) <;> try (exfalso; first | omega | contradiction)) | (refine GD ?_ ?_ <;> intro h <;> (try intro hgv) <;> (try simp only [Bool.not_true, Bool.not_false] at h) <;> (try simp only [h]) <;> (try simp only [hsB] at h) <;> try (exfalso; first | omega | contradiction)) | (refine GL ?_ ?_ <;> intro h <;> (try simp only [Bool.not_true, Bool.not_false] at h) <;> (try simp only [h]) <;> (try simp only [hsB] at h) <;> try (exfalso; first | omega | contradiction)) | fail)); all_goals clear kxs)
    all_goals first | (exfalso; omega) | ((all_goals have kxf := hc; first | exact RetQ.xr 0 | exact RetQ.xn 0 | fail); done)
  focus (have kxs : 987654321 = 987654320 + 1 := rfl; (repeat' (first | (refine ADr.nil ?_; try clear hgv) | refine GO ?_ | refine AW.ret ?_ | (refine GC ?_ ?_ <;> intro h <;> (try simp only [hsB] at h) <;> try (exfalso; first | omega | contradiction)) | (refine GD ?_ ?_ <;> intro h <;> (try intro hgv) <;> (try simp only [Bool.not_true, Bool.not_false] at h) <;> (try simp only [h]) <;> (try simp only [hsB] at h) <;> try (exfalso; first | omega | contradiction)) | (refine GL ?_ ?_ <;> intro h <;> (try simp only [Bool.not_true, Bool.not_false] at h) <;> (try simp only [h]) <;> (try simp only [hsB] at h) <;> try (exfalso; first | omega | contradiction)) | fail)); all_goals clear kxs)
  refine AW.rounds [0, 1, 4, 5] (fun i : Nat => [(0, .d (.l v.length (prsD v))), (1, .d (.l w.length (prsD w))), (4, bv false), (5, iv .i64 i)]) (fun _ => [])
    (fun i => i ≤ v.length ∧ (v = w ↔ v.drop i = w.drop i)) (fun i => v.length - i) 0 ⟨Nat.zero_le _, by simp⟩ rfl rfl (fun _ _ => Nat.zero_le _) (fun _ _ => rfl) (fun _ _ => rfl) ?_
  rintro i ⟨hi, hr⟩ J hJ
  by_cases hil : i < v.length
  · obtain ⟨x, r, hd⟩ := next_at hil
    obtain ⟨y, s, he⟩ := next_at (l := w) (i := i) (by omega)
    have hcd := prs_drop hd
    have hce := prs_drop he
    focus (have kxs := And.intro hcd hce; (repeat' (first | (refine ADr.nil ?_; try clear hgv) | refine GO ?_ | refine AW.ret ?_ | (refine GC ?_ ?_ <;> intro h <;> (try simp only [hsB] at h) <;> try (exfalso; first | omega | contradiction)) | (refine GD ?_ ?_ <;> intro h <;> (try intro hgv) <;> (try simp only [Bool.not_true, Bool.not_false] at h) <;> (try simp only [h]) <;> (try simp only [hsB] at h) <;> try (exfalso; first | omega | contradiction)) | (refine GL ?_ ?_ <;> intro h <;> (try simp only [Bool.not_true, Bool.not_false] at h) <;> (try simp only [h]) <;> (try simp only [hsB] at h) <;> try (exfalso; first | omega | contradiction)) | fail)); all_goals clear kxs)
    · have hn : ¬ v = w := by
        rw [hr, hd, he]
        intro e
        obtain ⟨rfl, _⟩ := List.cons.inj e
        simp at h
      have hc : decide (v = w) = false := by simp [hn]
      rw [hc]
      (all_goals first | exact RetQ.fr 0 | exact RetQ.fn 0 | fail)
    · refine hJ (i + 1) _ _ (by omega) ⟨hil, ?_⟩ rfl rfl
      have hxy : x = y := Prod.ext h.1 h.2
      rw [hr, next_drop hd, next_drop he, hd, he, hxy]
      simp
  · focus (have kxs : 987654321 = 987654320 + 1 := rfl; (repeat' (first | (refine ADr.nil ?_; try clear hgv) | refine GO ?_ | refine AW.ret ?_ | (refine GC ?_ ?_ <;> intro h <;> (try simp only [hsB] at h) <;> try (exfalso; first | omega | contradiction)) | (refine GD ?_ ?_ <;> intro h <;> (try intro hgv) <;> (try simp only [Bool.not_true, Bool.not_false] at h) <;> (try simp only [h]) <;> (try simp only [hsB] at h) <;> try (exfalso; first | omega | contradiction)) | (refine GL ?_ ?_ <;> intro h <;> (try simp only [Bool.not_true, Bool.not_false] at h) <;> (try simp only [h]) <;> (try simp only [hsB] at h) <;> try (exfalso; first | omega | contradiction)) | fail)); all_goals clear kxs)
    have hc : decide (v = w) = true := by
      simp only [decide_eq_true_eq]
      rw [hr, List.drop_eq_nil_of_le (by omega), List.drop_eq_nil_of_le (by omega)]
    rw [hc]
    (all_goals first | exact RetQ.fr 0 | exact RetQ.fn 0 | fail)
end Go.AW
/-
  metadata that is read: the program's and the document's.
-/
namespace Go.AW
open Go Go.Proofs
set_option maxHeartbeats 2000000
set_option maxRecDepth 10000
set_option linter.unusedSimpArgs false
set_option linter.unusedVariables false
attribute [local irreducible] thenQ blockQ RetQ AL AW AC AOp

abbrev Pfam := Fam Cu.pair (fun (_ : List UInt8) (x : Pr) => x.1)
/-- The name ahead, of a list that is being read. -/
def Prs.last (v : Prs) (p : List UInt8) : Prop := (v = [] ∧ p = []) ∨ (0 < v.length ∧ p.length ≤ 32 ∧ ∃ n r, v.drop (v.length - 1) = (p, n) :: r)
end Go.AW
/-
  metadata that is written: the program's and the document's.
-/
namespace Go.AW
open Go Go.Proofs
set_option maxHeartbeats 2000000
set_option maxRecDepth 10000
set_option linter.unusedSimpArgs false
set_option linter.unusedVariables false
attribute [local irreducible] thenQ blockQ RetQ AL AW AC AOp

section
variable (b : List UInt8) (m e : Int)
end
end Go.AW
/-
  siblings: what is right, the same, too great, what is read: the program's and the document's.
-/
namespace Go.AW
open Go Go.Proofs
set_option maxHeartbeats 2000000
set_option maxRecDepth 10000
set_option linter.unusedSimpArgs false
set_option linter.unusedVariables false
attribute [local irreducible] thenQ blockQ RetQ AL AW AC AOp

abbrev sbV (x : Sb) : V := .a [.d (.l x.clk.ctx.length (vecD x.clk.ctx)), bv x.clk.dotted, sv (bs x.clk.dot.1), iv .u64 x.clk.dot.2, .d (.l x.meta_.length (prsD x.meta_)), bv x.dead, sv (bs x.val)]
def sbD (x : Sb) : List D := [.l x.clk.ctx.length (vecD x.clk.ctx), .s (.bool x.clk.dotted), .s (.string ⟨x.clk.dot.1.toArray⟩), .s (.int .u64 x.clk.dot.2), .l x.meta_.length (prsD x.meta_), .s (.bool x.dead), .s (.string ⟨x.val.toArray⟩)]
abbrev sbsD (l : List Sb) : List D := (l.map sbD).flatten
def Sb.fits (x : Sb) : Prop := x.clk.fits ∧ x.meta_.fits ∧ x.val.length ≤ 9223372036854775807
theorem sbs_drop {l r : List Sb} {x : Sb} {i : Nat} (h : l.drop i = x :: r) : (sbsD l).drop (i * 7) = .l x.clk.ctx.length (vecD x.clk.ctx) :: .s (.bool x.clk.dotted) :: .s (.string ⟨x.clk.dot.1.toArray⟩) :: .s (.int .u64 x.clk.dot.2) :: .l x.meta_.length (prsD x.meta_) :: .s (.bool x.dead) :: .s (.string ⟨x.val.toArray⟩) :: sbsD r := by
  rw [sbsD, flat_drop (f := sbD) (sz := 7) (fun _ => rfl), h]; rfl

theorem sb_eq (k o : Sb) : (decide (k.clk = o.clk) && (decide (k.meta_ = o.meta_) && (decide (k.dead = o.dead) && decide (k.val = o.val)))) = true ↔ k = o := by
  obtain ⟨a, b, c, d⟩ := k
  obtain ⟨e, f, g, h⟩ := o
  simp
instance : DecidableEq Sb := fun k o => decidable_of_iff _ (sb_eq k o)
theorem sb_dec (k o : Sb) : decide (k = o) = (decide (k.clk = o.clk) && (decide (k.meta_ = o.meta_) && (decide (k.dead = o.dead) && decide (k.val = o.val)))) := by
  rw [Bool.eq_iff_iff, decide_eq_true_eq]; exact (sb_eq k o).symm
theorem ref15_Same (k o : Sb) (hk : k.clk.ctx.length ≤ 9223372036854775807) (hm : k.meta_.length ≤ 9223372036854775807) : AC Tryz.prog 147 [sbV k, sbV o] [] fun x σ => x = bv (decide (k = o)) ∧ σ = [] := by
  refine AC.walk Tryz.func147 rfl (by decide) (of_decide_eq_true rfl) ?_
  rw [sb_dec]
  rcases Bool.eq_false_or_eq_true (decide (k.clk = o.clk)) with e1 | e1 <;> rcases Bool.eq_false_or_eq_true (decide (k.meta_ = o.meta_)) with e2 | e2 <;> rcases Bool.eq_false_or_eq_true (decide (k.dead = o.dead)) with e3 | e3
  all_goals
    rw [e1, e2, e3]
    focus (have kxs := And.intro e1 (And.intro e2 e3); have kk1 := uN [] (ref12_Same k.clk o.clk hk); have kk2 := uN [] (ref14_Same k.meta_ o.meta_ hm); (repeat' (first | refine G ?_ | refine AW.ret ?_ | (refine GC ?_ ?_ <;> intro h <;> (try simp only [hsB] at h) <;> try (exfalso; first | omega | contradiction)) | (refine GL ?_ ?_ <;> intro h <;> (try simp only [Bool.not_true, Bool.not_false] at h) <;> (try simp only [h]) <;> (try simp only [hsB] at h) <;> try (exfalso; first | omega | contradiction)) | fail)); all_goals clear kxs kk1 kk2)
    all_goals first | ((all_goals first | exact RetQ.fr 0 | exact RetQ.fn 0 | fail); done) | (exfalso; simp_all; done)
end Go.AW
/-
  siblings that are written: the program's and the document's; whole texts.
-/
namespace Go.AW
open Go Go.Proofs
set_option maxHeartbeats 2000000
set_option maxRecDepth 10000
set_option linter.unusedSimpArgs false
set_option linter.unusedVariables false
attribute [local irreducible] thenQ blockQ RetQ AL AW AC AOp

section
variable (b : List UInt8) (m e : Int)
end

end Go.AW
