/-
  rings that are read: the document's; whole texts.
-/
import Derived.Test.YtidkhiomlljfiaaRng7
namespace Go.AW
open Go Go.Proofs
set_option maxHeartbeats 2000000
set_option maxRecDepth 10000
set_option linter.unusedSimpArgs false
set_option linter.unusedVariables false
attribute [local irreducible] thenQ blockQ RetQ AL AW AC AOp

/-- The name ahead is a row's last one. -/
def Lastn (out : Ring) (p : List UInt8) : Prop := p.length ≤ 32 ∧ (0 < out.length → (ringD out).drop ((out.length - 1) * 4) = D.s (.string ⟨p.toArray⟩) :: (ringD out).drop ((out.length - 1) * 4 + 1))
theorem lastn_nil : Lastn [] [] := ⟨by decide, fun h => absurd h (by decide)⟩
theorem lastn_snoc (out : Ring) (x : Mb) (h : x.name.length ≤ 32) : Lastn (out ++ [x]) x.name := by
  refine ⟨h, fun _ => ?_⟩
  have hd : (out ++ [x]).drop out.length = x :: [] := by simp
  have hc := ring_drop hd
  rw [show (out ++ [x]).length - 1 = out.length by simp, ← List.drop_drop, hc]
  rfl
theorem memg_name (p : List UInt8) (c : Cu) (h : (c.memg p).2.e = 0) : (c.memg p).1.name.length ≤ 32 := by
  obtain ⟨h1, h2⟩ := memg_mem p c
  rw [h1] at h
  rw [h2 h]
  exact ((trip_mem p).back c h).1.1.1
theorem ref22_Take (s : List UInt8) (a : Nat) (e : Int) (h : Cu.Ok ⟨s, a, e⟩) : AC Try.prog 20 [.p 0 0] [Cu.ro ⟨s, a, e⟩] fun x σ => x = .d (.l (Cu.ring ⟨s, a, e⟩).1.length (ringD (Cu.ring ⟨s, a, e⟩).1)) ∧ σ = [Cu.ro (Cu.ring ⟨s, a, e⟩).2] := by
  refine AC.walk Try.func20 rfl (by decide) (of_decide_eq_true rfl) ?_
  have hlt : (Cu.count ⟨s, a, e⟩ 32).1 ≤ 32 := Cu.count_max ⟨s, a, e⟩ 32
  have hok0 := Cu.count_ok (max := 32) h
  have hvec : Cu.ring ⟨s, a, e⟩ = (if ((Cu.count ⟨s, a, e⟩ 32).2.mems (Cu.count ⟨s, a, e⟩ 32).1 []).2.e ≠ 0 then [] else ((Cu.count ⟨s, a, e⟩ 32).2.mems (Cu.count ⟨s, a, e⟩ 32).1 []).1, ((Cu.count ⟨s, a, e⟩ 32).2.mems (Cu.count ⟨s, a, e⟩ 32).1 []).2) := rfl
  rw [hvec]
  generalize hz : Cu.count ⟨s, a, e⟩ 32 = z at *
  obtain ⟨n, c0⟩ := z
  simp only at hlt hok0 ⊢
  clear hvec
  focus (have kxs := hz; have kk1 := uN [0] (ref06_Count s a e 32 h (by decide)); (repeat' (first | refine G ?_ | refine AW.ret ?_ | (refine GC ?_ ?_ <;> intro h <;> (try simp only [hsB] at h) <;> try (exfalso; first | omega | contradiction)) | (refine GL ?_ ?_ <;> intro h <;> (try simp only [Bool.not_true, Bool.not_false] at h) <;> (try simp only [h]) <;> (try simp only [hsB] at h) <;> try (exfalso; first | omega | contradiction)) | fail)); all_goals clear kxs kk1)
  refine AW.birth 55 4 [4] [] ?_
  refine AW.rounds [0, 2, 3, 4, 5] (fun x : Ring × List UInt8 × Cu => [(0, .p 0 0), (2, .d (.s (.slice none 0 0))), (3, iv .i64 n), (4, .o 1 x.1.length), (5, iv .i64 x.1.length)]) (fun x => [Cu.ro x.2.2, .row 55 4 x.1.length (ringD x.1)])
    (fun x => x.2.2.Ok ∧ x.1.length ≤ n ∧ (x.1 = [] → x.2.1 = []) ∧ (x.2.2.e = 0 → Mfam n [] c0 x.1 x.2.1 x.2.2 ∧ Lastn x.1 x.2.1) ∧ (x.2.2.e ≠ 0 → (Cu.mems n [] c0).2 = x.2.2)) (fun x => n - x.1.length) ([], [], c0)
    ⟨hok0, Nat.zero_le _, fun _ => rfl, fun _ => ⟨Fam.start n [] c0, lastn_nil⟩, fun h => Cu.many_stuck (fun k c h => (trip_mem k).stuck c h) _ _ _ h⟩ rfl rfl (fun _ _ => Nat.le_of_ble_eq_true rfl) (fun _ _ => rfl) (fun _ _ => rfl) ?_
  rintro ⟨out, p, c⟩ ⟨hok, hol, hfp, hf, hbad⟩ J hJ
  simp only at hok hol hfp hf hbad ⊢
  by_cases hce : c.e = 0
  case neg =>
    rw [hbad hce, if_pos hce]
    focus (have kxs : 987654321 = 987654320 + 1 := rfl; (repeat' (first | refine G ?_ | refine AW.ret ?_ | (refine GC ?_ ?_ <;> intro h <;> (try simp only [hsB] at h) <;> try (exfalso; first | omega | contradiction)) | (refine GL ?_ ?_ <;> intro h <;> (try simp only [Bool.not_true, Bool.not_false] at h) <;> (try simp only [h]) <;> (try simp only [hsB] at h) <;> try (exfalso; first | omega | contradiction)) | fail)); all_goals clear kxs)
    all_goals first | ((all_goals first | exact RetQ.fr 1 | exact RetQ.fn 1 | fail); done) | (exfalso; omega) | (exfalso; simp_all; done)
  obtain ⟨hf, hla⟩ := hf hce
  by_cases hlen : out.length < n
  case neg =>
    have hdone := Fam.done hf hce hlen
    have hb2 : Cu.mems n [] c0 = (out, c) := hdone
    rw [hb2]
    simp only
    rw [if_neg (by simpa using hce)]
    focus (have kxs : 987654321 = 987654320 + 1 := rfl; (repeat' (first | refine G ?_ | refine AW.ret ?_ | (refine GC ?_ ?_ <;> intro h <;> (try simp only [hsB] at h) <;> try (exfalso; first | omega | contradiction)) | (refine GL ?_ ?_ <;> intro h <;> (try simp only [Bool.not_true, Bool.not_false] at h) <;> (try simp only [h]) <;> (try simp only [hsB] at h) <;> try (exfalso; first | omega | contradiction)) | fail)); all_goals clear kxs)
    all_goals first | ((all_goals first | exact RetQ.fr 1 | exact RetQ.fn 1 | fail); done) | (exfalso; omega) | (exfalso; simp_all; done)
  obtain ⟨hs1, hs2⟩ := mem_step hf hce hlen
  have hgo := Cu.memg_ok (p := p) hok
  have hmb := ref22_one c hok out (by omega) p hla.1 hfp hla.2
  have hnl : (c.memg p).2.e = 0 → (c.memg p).1.name.length ≤ 32 := memg_name p c
  generalize c.memg p = g at *
  obtain ⟨x, c'⟩ := g
  simp only at hs1 hs2 hgo hmb hnl
  have go : ∀ T' σ', keepT T' [0, 2, 3, 4, 5] = [(0, .p 0 0), (2, .d (.s (.slice none 0 0))), (3, iv .i64 n), (4, .o 1 (out.length + 1)), (5, iv .i64 ((out.length : Int) + 1))] → σ'.take 2 = [Cu.ro c', .row 55 4 (out.length + 1) (ringD out ++ [D.s (.string ⟨x.name.toArray⟩), .s (.int .u64 (x.ep : Nat)), .s (.int .u8 (x.st : Nat)), .l x.toks.length (toksD x.toks)])] → J T' σ' := fun T' σ' g1 g2 => by
    have hl : (out ++ [x]).length = out.length + 1 := by simp
    refine hJ (out ++ [x], x.name, c') T' σ' (by simp only [hl]; omega) ⟨hgo, by simp only [hl]; omega, fun h => by simp at h, fun h => ⟨hs1 h, lastn_snoc out x (hnl h)⟩, hs2⟩ (by simp only [hl]; exact g1) (by simp only [hl]; rw [← ring_snoc]; exact g2)
  clear hJ hs1 hs2 hf hbad hfp hla hnl
  have hlk : (out.length : Int) < n := by omega
  focus (have kxs : 987654321 = 987654320 + 1 := rfl; have kk1 := uN [0, 1] (hmb); (repeat' (first | refine G ?_ | refine AW.ret ?_ | (refine GC ?_ ?_ <;> intro h <;> (try simp only [hsB] at h) <;> try (exfalso; first | omega | contradiction)) | (refine GL ?_ ?_ <;> intro h <;> (try simp only [Bool.not_true, Bool.not_false] at h) <;> (try simp only [h]) <;> (try simp only [hsB] at h) <;> try (exfalso; first | omega | contradiction)) | fail)); all_goals clear kxs kk1)
  all_goals first | exact go _ _ rfl rfl | (exfalso; omega) | (exfalso; simp_all; done)

theorem ref22_Decode (s : List UInt8) (hs : s.length ≤ 140737488351232) : AC Try.prog 17 [sv (bs s)] [] fun x σ => x = .t [.d (.l (ringw s).1.length (ringD (ringw s).1)), iv .i64 (ringw s).2] ∧ σ = [] := by
  have h0 : Cu.Ok ⟨s, 0, 0⟩ := ⟨hs, Nat.zero_le _⟩
  have hok := Cu.ring_ok h0
  refine AC.walk Try.func17 rfl (by decide) (of_decide_eq_true rfl) ?_
  unfold ringw rdw
  have ht := ref22_Take s 0 0 h0
  generalize Cu.ring ⟨s, 0, 0⟩ = z at *
  obtain ⟨l, c⟩ := z
  simp only at hok ht ⊢
  have he := ref01_End c.s c.a c.e hok
  have hfe : Cu.fin ⟨c.s, c.a, c.e⟩ = c.fin := rfl
  rw [hfe] at he
  generalize c.fin = d at *
  by_cases hd : d.e = 0
  · rw [if_neg (by simpa using hd)]
    focus (have kxs := hd; have kk1 := uN [0] (ht); have kk2 := uN [0] (he); (repeat' (first | refine G ?_ | refine AW.ret ?_ | (refine GC ?_ ?_ <;> intro h <;> (try simp only [hsB] at h) <;> try (exfalso; first | omega | contradiction)) | (refine GL ?_ ?_ <;> intro h <;> (try simp only [Bool.not_true, Bool.not_false] at h) <;> (try simp only [h]) <;> (try simp only [hsB] at h) <;> try (exfalso; first | omega | contradiction)) | fail)); all_goals clear kxs kk1 kk2)
    all_goals first | ((all_goals first | exact RetQ.fr 0 | exact RetQ.fn 0 | fail); done) | (exfalso; simp_all; done)
  · rw [if_pos hd]
    focus (have kxs : 987654321 = 987654320 + 1 := rfl; have kk1 := uN [0] (ht); have kk2 := uN [0] (he); (repeat' (first | refine G ?_ | refine AW.ret ?_ | (refine GC ?_ ?_ <;> intro h <;> (try simp only [hsB] at h) <;> try (exfalso; first | omega | contradiction)) | (refine GL ?_ ?_ <;> intro h <;> (try simp only [Bool.not_true, Bool.not_false] at h) <;> (try simp only [h]) <;> (try simp only [hsB] at h) <;> try (exfalso; first | omega | contradiction)) | fail)); all_goals clear kxs kk1 kk2)
    all_goals first | ((all_goals first | exact RetQ.fr 0 | exact RetQ.fn 0 | fail); done) | (exfalso; simp_all; done)
end Go.AW
