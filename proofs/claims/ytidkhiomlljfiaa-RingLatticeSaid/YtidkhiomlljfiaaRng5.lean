/-
  rings that are read: the program's; whole texts.
-/
import Derived.Test.YtidkhiomlljfiaaRng3
namespace Go.AW
open Go Go.Proofs
set_option maxHeartbeats 2000000
set_option maxRecDepth 10000
set_option linter.unusedSimpArgs false
set_option linter.unusedVariables false
attribute [local irreducible] thenQ blockQ RetQ AL AW AC AOp

abbrev Mfam := Fam Cu.mem (fun (_ : List UInt8) (x : Mb) => x.name)
theorem ring_snoc (l : Ring) (x : Mb) : ringD l ++ [D.s (.string ⟨x.name.toArray⟩), .s (.int .u64 (x.ep : Nat)), .s (.int .u8 (x.st : Nat)), .l x.toks.length (toksD x.toks)] = ringD (l ++ [x]) := by
  rw [ringD, ringD, List.map_append, List.flatten_append]; rfl
/-- One member more, whatever came of it. -/
theorem mem_step {n : Nat} {c0 c : Cu} {out : Ring} {p : List UInt8} (hf : Mfam n [] c0 out p c) (hce : c.e = 0) (hlen : out.length < n) :
    ((c.memg p).2.e = 0 → Mfam n [] c0 (out ++ [(c.memg p).1]) (c.memg p).1.name (c.memg p).2) ∧ ((c.memg p).2.e ≠ 0 → (Cu.mems n [] c0).2 = (c.memg p).2) := by
  have hstep := Fam.step hf hce hlen
  obtain ⟨h1, h2⟩ := memg_mem p c
  refine ⟨fun h => ?_, fun h => ?_⟩
  · rw [h1] at h
    rw [h2 h]
    exact hstep
  · rw [h1] at h ⊢
    exact Fam.bad (fun k c h => (trip_mem k).stuck c h) hstep h
theorem Cu.memg_ok {c : Cu} {p : List UInt8} (h : c.Ok) : (c.memg p).2.Ok := by rw [(memg_mem p c).1]; exact Cu.mem_ok h

theorem ring_Take (s : List UInt8) (a : Nat) (e : Int) (h : Cu.Ok ⟨s, a, e⟩) : AC Try.prog 19 [.p 0 0] [Cu.ob ⟨s, a, e⟩] fun x σ => x = .d (.l (Cu.ring ⟨s, a, e⟩).1.length (ringD (Cu.ring ⟨s, a, e⟩).1)) ∧ σ = [Cu.ob (Cu.ring ⟨s, a, e⟩).2] := by
  refine AC.walk Try.func19 rfl (by decide) (of_decide_eq_true rfl) ?_
  have hlt : (Cu.count ⟨s, a, e⟩ 32).1 ≤ 32 := Cu.count_max ⟨s, a, e⟩ 32
  have hok0 := Cu.count_ok (max := 32) h
  have hvec : Cu.ring ⟨s, a, e⟩ = (if ((Cu.count ⟨s, a, e⟩ 32).2.mems (Cu.count ⟨s, a, e⟩ 32).1 []).2.e ≠ 0 then [] else ((Cu.count ⟨s, a, e⟩ 32).2.mems (Cu.count ⟨s, a, e⟩ 32).1 []).1, ((Cu.count ⟨s, a, e⟩ 32).2.mems (Cu.count ⟨s, a, e⟩ 32).1 []).2) := rfl
  rw [hvec]
  generalize hz : Cu.count ⟨s, a, e⟩ 32 = z at *
  obtain ⟨n, c0⟩ := z
  simp only at hlt hok0 ⊢
  clear hvec
  focus (have kxs := hz; have kk1 := uN [0] (blob_Count s a e 32 h (by decide)); (repeat' (first | refine G ?_ | refine AW.ret ?_ | (refine GC ?_ ?_ <;> intro h <;> (try simp only [hsB] at h) <;> try (exfalso; first | omega | contradiction)) | (refine GL ?_ ?_ <;> intro h <;> (try simp only [Bool.not_true, Bool.not_false] at h) <;> (try simp only [h]) <;> (try simp only [hsB] at h) <;> try (exfalso; first | omega | contradiction)) | fail)); all_goals clear kxs kk1)
  refine AW.birth 55 4 [4] [] ?_
  refine AW.rounds [0, 2, 3, 4, 5] (fun x : Ring × List UInt8 × Cu => [(0, .p 0 0), (2, .d (.s (.slice none 0 0))), (3, iv .i64 n), (4, .o 1 x.1.length), (5, sv (bs x.2.1))]) (fun x => [Cu.ob x.2.2, .row 55 4 x.1.length (ringD x.1)])
    (fun x => x.2.2.Ok ∧ x.1.length ≤ n ∧ (x.1 = [] → x.2.1 = []) ∧ (x.2.2.e = 0 → Mfam n [] c0 x.1 x.2.1 x.2.2) ∧ (x.2.2.e ≠ 0 → (Cu.mems n [] c0).2 = x.2.2)) (fun x => n - x.1.length) ([], [], c0)
    ⟨hok0, Nat.zero_le _, fun _ => rfl, fun _ => Fam.start n [] c0, fun h => Cu.many_stuck (fun k c h => (trip_mem k).stuck c h) _ _ _ h⟩ rfl rfl (fun _ _ => Nat.le_of_ble_eq_true rfl) (fun _ _ => rfl) (fun _ _ => rfl) ?_
  rintro ⟨out, p, c⟩ ⟨hok, hol, hfp, hf, hbad⟩ J hJ
  simp only at hok hol hfp hf hbad ⊢
  have herr := cursor_Err c.s c.a c.e
  by_cases hce : c.e = 0
  case neg =>
    rw [hbad hce, if_pos hce]
    focus (have kxs : 987654321 = 987654320 + 1 := rfl; have kk1 := uN [0] (herr); (repeat' (first | refine G ?_ | refine AW.ret ?_ | (refine GC ?_ ?_ <;> intro h <;> (try simp only [hsB] at h) <;> try (exfalso; first | omega | contradiction)) | (refine GL ?_ ?_ <;> intro h <;> (try simp only [Bool.not_true, Bool.not_false] at h) <;> (try simp only [h]) <;> (try simp only [hsB] at h) <;> try (exfalso; first | omega | contradiction)) | fail)); all_goals clear kxs kk1)
    all_goals first | ((all_goals first | exact RetQ.fr 1 | exact RetQ.fn 1 | fail); done) | (exfalso; omega) | (exfalso; simp_all; done)
  have hf := hf hce
  by_cases hlen : out.length < n
  case neg =>
    have hdone := Fam.done hf hce hlen
    have hb2 : Cu.mems n [] c0 = (out, c) := hdone
    rw [hb2]
    simp only
    rw [if_neg (by simpa using hce)]
    focus (have kxs : 987654321 = 987654320 + 1 := rfl; have kk1 := uN [0] (herr); (repeat' (first | refine G ?_ | refine AW.ret ?_ | (refine GC ?_ ?_ <;> intro h <;> (try simp only [hsB] at h) <;> try (exfalso; first | omega | contradiction)) | (refine GL ?_ ?_ <;> intro h <;> (try simp only [Bool.not_true, Bool.not_false] at h) <;> (try simp only [h]) <;> (try simp only [hsB] at h) <;> try (exfalso; first | omega | contradiction)) | fail)); all_goals clear kxs kk1)
    all_goals first | ((all_goals first | exact RetQ.fr 1 | exact RetQ.fn 1 | fail); done) | (exfalso; omega) | (exfalso; simp_all; done)
  obtain ⟨hs1, hs2⟩ := mem_step hf hce hlen
  have hgo := Cu.memg_ok (p := p) hok
  have hmb := ring_member c hok p (decide ((out.length : Int) = 0)) (fun h => hfp (List.length_eq_zero_iff.1 (by have := of_decide_eq_true h; omega)))
  generalize c.memg p = g at *
  obtain ⟨x, c'⟩ := g
  simp only at hs1 hs2 hgo hmb
  have go : ∀ T' σ', keepT T' [0, 2, 3, 4, 5] = [(0, .p 0 0), (2, .d (.s (.slice none 0 0))), (3, iv .i64 n), (4, .o 1 (out.length + 1)), (5, sv (bs x.name))] → σ'.take 2 = [Cu.ob c', .row 55 4 (out.length + 1) (ringD out ++ [D.s (.string ⟨x.name.toArray⟩), .s (.int .u64 (x.ep : Nat)), .s (.int .u8 (x.st : Nat)), .l x.toks.length (toksD x.toks)])] → J T' σ' := fun T' σ' g1 g2 => by
    have hl : (out ++ [x]).length = out.length + 1 := by simp
    refine hJ (out ++ [x], x.name, c') T' σ' (by simp only [hl]; omega) ⟨hgo, by simp only [hl]; omega, fun h => by simp at h, hs1, hs2⟩ (by simp only [hl]; exact g1) (by simp only [hl]; rw [← ring_snoc]; exact g2)
  clear hJ hs1 hs2 hf hbad hfp
  have hlk : (out.length : Int) < n := by omega
  focus (have kxs : 987654321 = 987654320 + 1 := rfl; have kk1 := uN [0] (herr); have kk2 := uN [0] (hmb); (repeat' (first | refine G ?_ | refine AW.ret ?_ | (refine GC ?_ ?_ <;> intro h <;> (try simp only [hsB] at h) <;> try (exfalso; first | omega | contradiction)) | (refine GL ?_ ?_ <;> intro h <;> (try simp only [Bool.not_true, Bool.not_false] at h) <;> (try simp only [h]) <;> (try simp only [hsB] at h) <;> try (exfalso; first | omega | contradiction)) | fail)); all_goals clear kxs kk1 kk2)
  all_goals first | exact go _ _ rfl rfl | (exfalso; omega) | (exfalso; simp_all; done)

theorem ring_Decode (s : List UInt8) (hs : s.length ≤ 140737488351232) : AC Try.prog 16 [sv (bs s)] [] fun x σ => x = .t [.d (.l (ringw s).1.length (ringD (ringw s).1)), iv .i64 (ringw s).2] ∧ σ = [] := by
  have h0 : Cu.Ok ⟨s, 0, 0⟩ := ⟨hs, Nat.zero_le _⟩
  have hok := Cu.ring_ok h0
  refine AC.walk Try.func16 rfl (by decide) (of_decide_eq_true rfl) ?_
  unfold ringw rdw
  have ht := ring_Take s 0 0 h0
  generalize Cu.ring ⟨s, 0, 0⟩ = z at *
  obtain ⟨l, c⟩ := z
  simp only at hok ht ⊢
  have he := cursor_End c.s c.a c.e hok
  have hfe : Cu.fin ⟨c.s, c.a, c.e⟩ = c.fin := rfl
  rw [hfe] at he
  generalize c.fin = d at *
  by_cases hd : d.e = 0
  · rw [if_neg (by simpa using hd)]
    focus (have kxs := hd; have kk1 := uN [] (cursor_New s); have kk2 := uN [0] (ht); have kk3 := uN [0] (he); (repeat' (first | refine G ?_ | refine AW.ret ?_ | (refine GC ?_ ?_ <;> intro h <;> (try simp only [hsB] at h) <;> try (exfalso; first | omega | contradiction)) | (refine GL ?_ ?_ <;> intro h <;> (try simp only [Bool.not_true, Bool.not_false] at h) <;> (try simp only [h]) <;> (try simp only [hsB] at h) <;> try (exfalso; first | omega | contradiction)) | fail)); all_goals clear kxs kk1 kk2 kk3)
    all_goals first | ((all_goals first | exact RetQ.fr 0 | exact RetQ.fn 0 | fail); done) | (exfalso; simp_all; done)
  · rw [if_pos hd]
    focus (have kxs : 987654321 = 987654320 + 1 := rfl; have kk1 := uN [] (cursor_New s); have kk2 := uN [0] (ht); have kk3 := uN [0] (he); (repeat' (first | refine G ?_ | refine AW.ret ?_ | (refine GC ?_ ?_ <;> intro h <;> (try simp only [hsB] at h) <;> try (exfalso; first | omega | contradiction)) | (refine GL ?_ ?_ <;> intro h <;> (try simp only [Bool.not_true, Bool.not_false] at h) <;> (try simp only [h]) <;> (try simp only [hsB] at h) <;> try (exfalso; first | omega | contradiction)) | fail)); all_goals clear kxs kk1 kk2 kk3)
    all_goals first | ((all_goals first | exact RetQ.fr 0 | exact RetQ.fn 0 | fail); done) | (exfalso; simp_all; done)
end Go.AW
