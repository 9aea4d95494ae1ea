/-
  vectors that are written: the document's; whole texts.
-/
import Derived.Test.YtbjdiepceokmkaaVec4
import Derived.Test.YtbjdiepceokmkaaMc
namespace Go.AW
open Go Go.Proofs
set_option maxHeartbeats 2000000
set_option maxRecDepth 10000
set_option linter.unusedSimpArgs false
set_option linter.unusedVariables false
attribute [local irreducible] thenQ blockQ RetQ AL AW AC AOp

section
variable (b : List UInt8) (m e : Int)
theorem vcode_Put1 (ok : Pe.Ok ⟨b, m, e⟩) (v : Vec) (hf : v.fits) (hl : m ≤ 140737488355328 ∨ b.length + (evec v).length + 20 ≤ 140737488355328) :
    AC Try.prog 49 [.p 0 0, .d (.l 1 [.l v.length (vecD v)])] (Pe.obs ⟨b, m, e⟩) fun x σ => x = .t [] ∧ σ = Pe.obs (Pe.vec ⟨b, m, e⟩ v) :=
  vcode_Put b m e ok [v] (by simpa using hf) (by simp) (by simpa using hl)

theorem ref11_Put (ok : Pe.Ok ⟨b, m, e⟩) (v : Vec) (hfv : v.fits) (hl : m ≤ 140737488355328 ∨ b.length + (evec v).length + 20 ≤ 140737488355328) :
    AC Try.prog 126 [.p 0 0, .d (.l v.length (vecD v))] [Pe.ro ⟨b, m, e⟩] fun x σ => x = .t [] ∧ σ = [Pe.ro (Pe.vec ⟨b, m, e⟩ v)] := by
  refine AC.walk Try.func126 rfl (by decide) (of_decide_eq_true rfl) ?_
  by_cases hc : v.check = 0
  case neg =>
    have hv : Pe.vec ⟨b, m, e⟩ v = Pe.fail ⟨b, m, e⟩ v.check := by unfold Pe.vec; rw [if_pos hc]
    rw [hv]
    focus (have kxs : 987654321 = 987654320 + 1 := rfl; have kk1 := uN [] (ref10_Check v hfv); have kua1 := fun za => uN [0] (ref02_Fail b m e za); (repeat' (first | refine G ?_ | refine AW.ret ?_ | (refine GC ?_ ?_ <;> intro h <;> (try simp only [hsB] at h) <;> try (exfalso; first | omega | contradiction)) | (refine GL ?_ ?_ <;> intro h <;> (try simp only [Bool.not_true, Bool.not_false] at h) <;> (try simp only [h]) <;> (try simp only [hsB] at h) <;> try (exfalso; first | omega | contradiction)) | fail)); all_goals clear kxs kk1 kua1)
    all_goals first | ((all_goals first | exact RetQ.fr 1 | exact RetQ.fn 1 | fail); done) | (exfalso; simp_all; done)
  have hvec : Pe.vec ⟨b, m, e⟩ v = (Pe.text ⟨b, m, e⟩ (vput v.length)).ents v := by unfold Pe.vec; rw [if_neg (by simpa using hc)]
  obtain ⟨hv64, hv32⟩ := Vec.check_len hc
  have hevl : (evec v).length = (vput v.length).length + (v.map eent).flatten.length := by unfold evec; rw [List.length_append]
  have hpl := Pe.text_len ⟨b, m, e⟩ (vput v.length)
  have hpm := Pe.text_m ⟨b, m, e⟩ (vput v.length)
  have hpo := Pe.text_ok (s := vput v.length) ok (by simp only; omega)
  have hvl := vput_len10 (n := v.length) (by omega)
  simp only at hpl hpm
  generalize hp : Pe.text ⟨b, m, e⟩ (vput v.length) = p at *
  focus (have kxs := And.intro hc hp; have kk1 := uN [] (ref10_Check v hfv); have kk2 := uN [0] (ref03_Put b m e ok v.length (by omega) (by omega)); (repeat' (first | refine G ?_ | refine AW.ret ?_ | (refine GC ?_ ?_ <;> intro h <;> (try simp only [hsB] at h) <;> try (exfalso; first | omega | contradiction)) | (refine GL ?_ ?_ <;> intro h <;> (try simp only [Bool.not_true, Bool.not_false] at h) <;> (try simp only [h]) <;> (try simp only [hsB] at h) <;> try (exfalso; first | omega | contradiction)) | fail)); all_goals clear kxs kk1 kk2)
  refine AW.rounds [0, 1, 5] (fun j : Nat => [(0, .p 0 0), (1, .d (.l v.length (vecD v))), (5, iv .i64 j)]) (fun j => [Pe.ro (Pe.ents p (v.take j))])
    (fun j => j ≤ v.length) (fun j => v.length - j) 0 (Nat.zero_le _) rfl rfl (fun _ _ => Nat.le_of_ble_eq_true rfl) (fun _ _ => rfl) (fun _ _ => rfl) ?_
  intro j hj J2 hJ2
  generalize hq2 : Pe.ents p (v.take j) = p2
  have hqo : p2.Ok ∧ p2.m = m ∧ p2.b.length ≤ p.b.length + ((v.take j).map eent).flatten.length := by
    have h1 := take_flat eent v j
    rw [← hq2]
    exact ⟨pens_ents.keep hpo (by omega), (pens_ents.m _ _).trans hpm, pens_ents.len _ _⟩
  obtain ⟨hok2, hqm2, hqb2⟩ := hqo
  by_cases hjl : j < v.length
  case neg =>
    have hj2 : j = v.length := by omega
    rw [hj2, List.take_length] at hq2
    rw [hvec, hq2]
    focus (have kxs : 987654321 = 987654320 + 1 := rfl; (repeat' (first | refine G ?_ | refine AW.ret ?_ | (refine GC ?_ ?_ <;> intro h <;> (try simp only [hsB] at h) <;> try (exfalso; first | omega | contradiction)) | (refine GL ?_ ?_ <;> intro h <;> (try simp only [Bool.not_true, Bool.not_false] at h) <;> (try simp only [h]) <;> (try simp only [hsB] at h) <;> try (exfalso; first | omega | contradiction)) | fail)); all_goals clear kxs)
    all_goals first | ((all_goals first | exact RetQ.fr 1 | exact RetQ.fn 1 | fail); done) | (exfalso; simp_all; done)
  obtain ⟨x, r2, hd2⟩ := next_at hjl
  have hcd2 := vec_drop hd2
  have hn3 : Pe.ents p (v.take (j + 1)) = p2.ent x := by rw [next_take hd2, Pe.ents_snoc, hq2]
  have htf2 := take_flat eent v j
  rw [hd2] at htf2
  simp only [List.map_cons, List.flatten_cons, List.length_append] at htf2
  have hx32 := hv32 x (next_mem hd2)
  have hxn := hfv.2.2 x (next_mem hd2)
  have hel : (eent x).length = (vput x.1.length).length + x.1.length + (vput x.2).length := by unfold eent eblob; simp only [List.length_append]
  have hbl := Pe.blob_m p2 32 x.1
  have hbo := Pe.blob_ok (p := p2) (max := 32) (s := x.1) hok2 (by omega) (by omega)
  have hble := (pens_blob 32).len p2 x.1
  have hebl : (eblob x.1).length = (vput x.1.length).length + x.1.length := by unfold eblob; rw [List.length_append]
  generalize hp3 : p2.blob 32 x.1 = p3 at *
  have hp3' : Pe.blob ⟨p2.b, p2.m, p2.e⟩ 32 x.1 = p3 := hp3
  have hent : p2.ent x = p3.text (vput x.2) := by unfold Pe.ent; rw [hp3]
  focus (have kxs := And.intro hcd2 hp3'; have kk1 := uN [0] (ref06_Put p2.b x.1 p2.m p2.e 32 hok2 (by omega) (by omega)); have kk2 := uN [0] (ref03_Put p3.b p3.m p3.e hbo x.2 hxn (by omega)); (repeat' (first | refine G ?_ | refine AW.ret ?_ | (refine GC ?_ ?_ <;> intro h <;> (try simp only [hsB] at h) <;> try (exfalso; first | omega | contradiction)) | (refine GL ?_ ?_ <;> intro h <;> (try simp only [Bool.not_true, Bool.not_false] at h) <;> (try simp only [h]) <;> (try simp only [hsB] at h) <;> try (exfalso; first | omega | contradiction)) | fail)); all_goals clear kxs kk1 kk2)
  all_goals first
    | (refine hJ2 (j + 1) _ _ (by omega) hjl rfl ?_; rw [hn3, hent]; rfl)
    | (exfalso; simp_all; done)
end

theorem pe0_ok : Pe.Ok ⟨[], 65536, 0⟩ := ⟨by decide, by decide, by decide⟩
end Go.AW
