/-
  vectors that are written: the program's and the document's; whole texts.
-/
import Derived.Test.YtbjdiepceokmkaaMe
import Derived.Test.YtbjdiepceokmkaaVec3
import Derived.Test.YtbjdiepceokmkaaMc
namespace Go.AW
open Go Go.Proofs
set_option maxHeartbeats 2000000
set_option maxRecDepth 10000
set_option linter.unusedSimpArgs false
set_option linter.unusedVariables false
attribute [local irreducible] thenQ blockQ RetQ AL AW AC AOp

abbrev vecsD (l : List Vec) : List D := l.map fun v => D.l v.length (vecD v)
theorem vecs_drop {l r : List Vec} {v : Vec} {i : Nat} (h : l.drop i = v :: r) : (vecsD l).drop i = .l v.length (vecD v) :: vecsD r := by
  rw [vecsD, ← List.map_drop, h]; rfl
theorem Pe.ents_snoc (p : Pe) (v : Vec) (x : En) : p.ents (v ++ [x]) = (p.ents v).ent x := by simp [Pe.ents, List.foldl_append]
theorem Pe.vecs_snoc (p : Pe) (l : List Vec) (v : Vec) : p.vecs (l ++ [v]) = (p.vecs l).vec v := by simp [Pe.vecs, List.foldl_append]
theorem Pe.vecs_append (p : Pe) (l r : List Vec) : p.vecs (l ++ r) = (p.vecs l).vecs r := List.foldl_append ..
theorem take_flat {α : Type} (f : α → List UInt8) (l : List α) (i : Nat) : ((l.take i).map f).flatten.length + ((l.drop i).map f).flatten.length = (l.map f).flatten.length := by
  rw [← List.length_append, ← List.flatten_append, ← List.map_append, List.take_append_drop]
theorem Pe.count_ok' {p : Pe} {n : Nat} (hn : n ≤ 64) : p.count 64 n = p.text (vput n) := by
  unfold Pe.count
  rw [if_neg (by omega), if_neg (by omega)]
  rfl

section
variable (b : List UInt8) (m e : Int)

theorem vcode_Put (ok : Pe.Ok ⟨b, m, e⟩) (l : List Vec) (hf : ∀ v ∈ l, v.fits) (hn : l.length ≤ 140737488355328) (hl : m ≤ 140737488355328 ∨ b.length + (l.map evec).flatten.length + 20 ≤ 140737488355328) :
    AC Try.prog 49 [.p 0 0, .d (.l l.length (vecsD l))] (Pe.obs ⟨b, m, e⟩) fun x σ => x = .t [] ∧ σ = Pe.obs (Pe.vecs ⟨b, m, e⟩ l) := by
  refine AC.walk Try.func49 rfl (by decide) (of_decide_eq_true rfl) ?_
  focus (have kxs : 987654321 = 987654320 + 1 := rfl; (repeat' (first | refine G ?_ | refine AW.ret ?_ | (refine GC ?_ ?_ <;> intro h <;> (try simp only [hsB] at h) <;> try (exfalso; first | omega | contradiction)) | (refine GL ?_ ?_ <;> intro h <;> (try simp only [Bool.not_true, Bool.not_false] at h) <;> (try simp only [h]) <;> (try simp only [hsB] at h) <;> try (exfalso; first | omega | contradiction)) | fail)); all_goals clear kxs)
  refine AW.rounds [0, 9, 10, 11] (fun i : Nat => [(0, .p 0 0), (9, .d (.l l.length (vecsD l))), (10, iv .i64 l.length), (11, iv .i64 i)]) (fun i => Pe.obs (Pe.vecs ⟨b, m, e⟩ (l.take i)))
    (fun i => i ≤ l.length) (fun i => l.length - i) 0 (Nat.zero_le _) rfl rfl (fun _ _ => Nat.le_of_ble_eq_true rfl) (fun _ _ => rfl) (fun _ _ => rfl) ?_
  intro i hi J hJ
  generalize hq : Pe.vecs ⟨b, m, e⟩ (l.take i) = q
  have hqo : q.Ok ∧ q.m = m ∧ q.b.length ≤ b.length + ((l.take i).map evec).flatten.length := by
    have h1 := take_flat evec l i
    rw [← hq]
    exact ⟨pens_vecs.keep ok (by simp only; omega), pens_vecs.m _ _, pens_vecs.len _ _⟩
  obtain ⟨hok, hqm, hqb⟩ := hqo
  by_cases hil : i < l.length
  case neg =>
    have hi2 : i = l.length := by omega
    rw [hi2, List.take_length] at hq
    subst hq
    focus (have kxs : 987654321 = 987654320 + 1 := rfl; (repeat' (first | refine G ?_ | refine AW.ret ?_ | (refine GC ?_ ?_ <;> intro h <;> (try simp only [hsB] at h) <;> try (exfalso; first | omega | contradiction)) | (refine GL ?_ ?_ <;> intro h <;> (try simp only [Bool.not_true, Bool.not_false] at h) <;> (try simp only [h]) <;> (try simp only [hsB] at h) <;> try (exfalso; first | omega | contradiction)) | fail)); all_goals clear kxs)
    (all_goals first | exact RetQ.fr 2 | exact RetQ.fn 2 | fail)
  obtain ⟨v, r, hd⟩ := next_at hil
  have hcd := vecs_drop hd
  have hn2 : Pe.vecs ⟨b, m, e⟩ (l.take (i + 1)) = q.vec v := by rw [next_take hd, Pe.vecs_snoc, hq]
  have hfv := hf v (next_mem hd)
  have htf := take_flat evec l i
  rw [hd] at htf
  simp only [List.map_cons, List.flatten_cons, List.length_append] at htf
  by_cases hc : v.check = 0
  case neg =>
    have hv : q.vec v = q.fail v.check := by unfold Pe.vec; rw [if_pos hc]
    have hall : Pe.vecs ⟨b, m, e⟩ l = q.fail v.check := by
      conv => lhs; rw [← List.take_append_drop (i + 1) l]
      rw [Pe.vecs_append, hn2, hv]
      exact pens_vecs.stuck _ _ (Pe.fail_e hc)
    rw [hall]
    focus (have kxs := hcd; have kk1 := uN [] (vector_Check v hfv); have kud1 := fun za zb zc zd => uN [0, 1] (pen_Fail za zb zc zd); (repeat' (first | refine G ?_ | refine AW.ret ?_ | (refine GC ?_ ?_ <;> intro h <;> (try simp only [hsB] at h) <;> try (exfalso; first | omega | contradiction)) | (refine GL ?_ ?_ <;> intro h <;> (try simp only [Bool.not_true, Bool.not_false] at h) <;> (try simp only [h]) <;> (try simp only [hsB] at h) <;> try (exfalso; first | omega | contradiction)) | fail)); all_goals clear kxs kk1 kud1)
    all_goals first | ((all_goals first | exact RetQ.fr 2 | exact RetQ.fn 2 | fail); done) | (exfalso; simp_all; done)
  have hvec : q.vec v = (q.text (vput v.length)).ents v := by unfold Pe.vec; rw [if_neg (by simpa using hc)]
  obtain ⟨hv64, hv32⟩ := Vec.check_len hc
  have hcnt : Pe.count ⟨q.b, q.m, q.e⟩ 64 (v.length : Nat) = q.text (vput v.length) := Pe.count_ok' hv64
  have hevl : (evec v).length = (vput v.length).length + (v.map eent).flatten.length := by unfold evec; rw [List.length_append]
  have hpl := Pe.text_len q (vput v.length)
  have hpm := Pe.text_m q (vput v.length)
  have hpo := Pe.text_ok (s := vput v.length) hok (by omega)
  have hvl := vput_len10 (n := v.length) (by omega)
  generalize hp : q.text (vput v.length) = p at *
  have hqc : q.m ≤ 140737488355328 ∨ q.b.length + 10 ≤ 140737488355328 := by omega
  focus (have kxs := And.intro hcd (And.intro hc hcnt); have kk1 := uN [] (vector_Check v hfv); have kk2 := uN [0, 1] (blob_PutCount q.b q.m q.e 64 hok (v.length : Nat) (by omega) hqc); (repeat' (first | refine G ?_ | refine AW.ret ?_ | (refine GC ?_ ?_ <;> intro h <;> (try simp only [hsB] at h) <;> try (exfalso; first | omega | contradiction)) | (refine GL ?_ ?_ <;> intro h <;> (try simp only [Bool.not_true, Bool.not_false] at h) <;> (try simp only [h]) <;> (try simp only [hsB] at h) <;> try (exfalso; first | omega | contradiction)) | fail)); all_goals clear kxs kk1 kk2)
  refine AW.rounds [0, 9, 10, 11, 26, 27, 28] (fun j : Nat => [(0, .p 0 0), (9, .d (.l l.length (vecsD l))), (10, iv .i64 l.length), (11, iv .i64 i), (26, .d (.l v.length (vecD v))), (27, iv .i64 v.length), (28, iv .i64 j)]) (fun j => Pe.obs (Pe.ents p (v.take j)))
    (fun j => j ≤ v.length) (fun j => v.length - j) 0 (Nat.zero_le _) rfl rfl (fun _ _ => Nat.le_of_ble_eq_true rfl) (fun _ _ => rfl) (fun _ _ => rfl) ?_
  intro j hj J2 hJ2
  generalize hq2 : Pe.ents p (v.take j) = p2
  have hqo : p2.Ok ∧ p2.m = m ∧ p2.b.length ≤ p.b.length + ((v.take j).map eent).flatten.length := by
    have h1 := take_flat eent v j
    rw [← hq2]
    exact ⟨pens_ents.keep hpo (by omega), (pens_ents.m _ _).trans (hpm.trans hqm), pens_ents.len _ _⟩
  obtain ⟨hok2, hqm2, hqb2⟩ := hqo
  by_cases hjl : j < v.length
  case neg =>
    have hj2 : j = v.length := by omega
    rw [hj2, List.take_length] at hq2
    focus (have kxs : 987654321 = 987654320 + 1 := rfl; (repeat' (first | refine G ?_ | refine AW.ret ?_ | (refine GC ?_ ?_ <;> intro h <;> (try simp only [hsB] at h) <;> try (exfalso; first | omega | contradiction)) | (refine GL ?_ ?_ <;> intro h <;> (try simp only [Bool.not_true, Bool.not_false] at h) <;> (try simp only [h]) <;> (try simp only [hsB] at h) <;> try (exfalso; first | omega | contradiction)) | fail)); all_goals clear kxs)
    all_goals first
      | (refine hJ (i + 1) _ _ (by omega) hil rfl ?_; rw [hn2, hvec, hq2]; rfl)
      | (exfalso; simp_all; done)
  obtain ⟨x, r2, hd2⟩ := next_at hjl
  have hcd2 := vec_drop hd2
  have hn3 : Pe.ents p (v.take (j + 1)) = p2.ent x := by rw [next_take hd2, Pe.ents_snoc, hq2]
  have htf2 := take_flat eent v j
  rw [hd2] at htf2
  simp only [List.map_cons, List.flatten_cons, List.length_append] at htf2
  have hx32 := hv32 x (next_mem hd2)
  have hxn := hfv.2.2 x (next_mem hd2)
  have hel : (eent x).length = (vput x.1.length).length + x.1.length + (vput x.2).length := by unfold eent eblob; simp only [List.length_append]
  have hbl := Pe.blob_m p2 32 x.1
  have hbo := Pe.blob_ok (p := p2) (max := 32) (s := x.1) hok2 (by omega) (by omega)
  have hble := (pens_blob 32).len p2 x.1
  have hebl : (eblob x.1).length = (vput x.1.length).length + x.1.length := by unfold eblob; rw [List.length_append]
  generalize hp3 : p2.blob 32 x.1 = p3 at *
  have hp3' : Pe.blob ⟨p2.b, p2.m, p2.e⟩ 32 x.1 = p3 := hp3
  have hent : p2.ent x = p3.text (vput x.2) := by unfold Pe.ent; rw [hp3]
  focus (have kxs := And.intro hcd2 hp3'; have kk1 := uN [0, 1] (blob_Put1 p2.b x.1 p2.m p2.e 32 hok2 (by omega) (by omega)); have kk2 := uN [0, 1] (varint_Put1 p3.b p3.m p3.e hbo x.2 hxn (by omega)); (repeat' (first | refine G ?_ | refine AW.ret ?_ | (refine GC ?_ ?_ <;> intro h <;> (try simp only [hsB] at h) <;> try (exfalso; first | omega | contradiction)) | (refine GL ?_ ?_ <;> intro h <;> (try simp only [Bool.not_true, Bool.not_false] at h) <;> (try simp only [h]) <;> (try simp only [hsB] at h) <;> try (exfalso; first | omega | contradiction)) | fail)); all_goals clear kxs kk1 kk2)
  all_goals first
    | (refine hJ2 (j + 1) _ _ (by omega) hjl rfl ?_; rw [hn3, hent]; rfl)
    | (exfalso; simp_all; done)
end
end Go.AW
