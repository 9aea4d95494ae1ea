/-
  Row 15: the laws.
-/
import Derived.Test.YtiiacdheopdooaaSib5
namespace Go.AW
open Go Go.Proofs Go.RowKit
set_option maxHeartbeats 2000000
set_option maxRecDepth 10000
set_option linter.unusedSimpArgs false
set_option linter.unusedVariables false
attribute [local irreducible] thenQ blockQ RetQ AL AW AC AOp

theorem awake15 : AC Try.prog 113 [] [] fun x σ => x = bv true ∧ σ = [] := by
  have hg : gsib ⟨ck0, [], false, [118]⟩ := ⟨by decide, by simp [ck0], by decide⟩
  have he : sibe ⟨ck0, [], false, [118]⟩ = ([0, 0, 0, 0, 1, 118], 0) := by
    rw [sibe_good hg (by decide)]
    have h1 : vput 1 = [1] := by rw [vput_small (by decide)]; rfl
    have h0 : vput 0 = [0] := by rw [vput_small (by decide)]; rfl
    have h2 : esib ⟨ck0, [], false, [118]⟩ = ((vput 0 ++ []) ++ ([0] ++ [])) ++ ((vput 0 ++ []) ++ ([0] ++ (vput 1 ++ [118]))) := rfl
    rw [h2, h1, h0]; rfl
  refine AC.walk Try.func113 rfl (by decide) (of_decide_eq_true rfl) ?_
  focus (have kxs := he; have kk1 := uN [] (sibling_Encode ⟨ck0, [], false, [118]⟩ ⟨⟨⟨by decide, by simp [ck0], by simp [ck0]⟩, by decide, by decide⟩, ⟨by decide, by simp, by simp⟩, by decide⟩); (repeat' (first | refine G ?_ | refine AW.ret ?_ | (refine GC ?_ ?_ <;> intro h <;> (try simp only [hsB] at h) <;> try (exfalso; first | omega | contradiction)) | (refine GL ?_ ?_ <;> intro h <;> (try simp only [Bool.not_true, Bool.not_false] at h) <;> (try simp only [h]) <;> (try simp only [hsB] at h) <;> try (exfalso; first | omega | contradiction)) | fail)); all_goals clear kxs kk1)
  all_goals first | ((all_goals first | exact RetQ.fr 0 | exact RetQ.fn 0 | fail); done) | (exfalso; simp_all; done)

theorem Sb.w_fits {s : List UInt8} (h : (sibw s).2 = 0) (hs : s.length ≤ 9223372036854775807) : (sibw s).1.fits := by
  obtain ⟨hg, hs2⟩ := rdw_back trip_sib h
  obtain ⟨h1, h2, h3⟩ := Sb.check_parts hg.1
  have hv := Vec.check_len (Ck.check_parts h1).1
  have hp := Prs.check_len h2
  show Sb.fits (rdw Cu.sib sb0 s).1
  exact ⟨⟨⟨by omega, fun x hx => Nat.le_trans (hv.2 x hx) (by decide), hg.2.1⟩, Nat.le_trans (Ck.dot_len h1) (by decide), hg.2.2⟩, ⟨by omega, fun x hx => Nat.le_trans (hp.2 x hx).1 (by decide), fun x hx => Nat.le_trans (hp.2 x hx).2 (by decide)⟩, by omega⟩
theorem Sb.w_len (s : List UInt8) : (sibw s).1.clk.ctx.length ≤ 64 ∧ (sibw s).1.meta_.length ≤ 8 := by
  by_cases h : (sibw s).2 = 0
  · obtain ⟨hg, hs2⟩ := rdw_back trip_sib h
    obtain ⟨h1, h2, h3⟩ := Sb.check_parts hg.1
    exact ⟨(Vec.check_len (Ck.check_parts h1).1).1, (Prs.check_len h2).1⟩
  · rw [rdw_bad h]; exact ⟨by decide, by decide⟩

theorem siblingDecodes (s : List UInt8) (hs : s.length ≤ 9223372036854775807) : AC Try.prog 24 [sv (bs s)] [] fun x σ => x = bv true ∧ σ = [] := by
  refine AC.walk Try.func24 rfl (by decide) (of_decide_eq_true rfl) ?_
  by_cases h3 : s.length ≤ 3000
  case neg =>
    focus (have kxs : 987654321 = 987654320 + 1 := rfl; have kk1 := uN [] (awake15); (repeat' (first | refine G ?_ | refine AW.ret ?_ | (refine GC ?_ ?_ <;> intro h <;> (try simp only [hsB] at h) <;> try (exfalso; first | omega | contradiction)) | (refine GL ?_ ?_ <;> intro h <;> (try simp only [Bool.not_true, Bool.not_false] at h) <;> (try simp only [h]) <;> (try simp only [hsB] at h) <;> try (exfalso; first | omega | contradiction)) | fail)); all_goals clear kxs kk1)
    all_goals first | (exfalso; omega) | ((all_goals first | exact RetQ.fr 0 | exact RetQ.fn 0 | fail); done)
  have hwl := Sb.w_len s
  by_cases he : (sibw s).2 = 0
  · obtain ⟨hg, hs2⟩ := rdw_back trip_sib he
    have hfit := Sb.w_fits he hs
    have hen : sibe (sibw s).1 = (s, 0) := by
      have h1 := wre_fit pens_sib hg.1 (by rw [← hs2]; omega)
      rw [← hs2] at h1
      exact h1
    have hck := hg.1
    clear hs2 hg
    generalize hz : sibw s = z at *
    obtain ⟨v, e⟩ := z
    simp only at *
    focus (have kxs := And.intro hz (And.intro hen (And.intro he hck)); have kk1 := uN [] (awake15); have kk2 := uN [] (sibling_Decode s (by omega)); have kk3 := uN [] (ref15_Decode s (by omega)); have kk4 := uN [] (ref15_Same v v (by omega) (by omega)); have kk5 := uN [] (sibling_Encode v hfit); have kk6 := uN [] (ref15_Check v hfit); (repeat' (first | refine G ?_ | refine AW.ret ?_ | (refine GC ?_ ?_ <;> intro h <;> (try simp only [hsB] at h) <;> try (exfalso; first | omega | contradiction)) | (refine GL ?_ ?_ <;> intro h <;> (try simp only [Bool.not_true, Bool.not_false] at h) <;> (try simp only [h]) <;> (try simp only [hsB] at h) <;> try (exfalso; first | omega | contradiction)) | fail)); all_goals clear kxs kk1 kk2 kk3 kk4 kk5 kk6)
    all_goals first | ((all_goals first | exact RetQ.fr 0 | exact RetQ.fn 0 | fail); done) | (exfalso; simp_all; done)
  · have hb := rdw_bad he
    generalize hz : sibw s = z at *
    obtain ⟨v, e⟩ := z
    simp only at *
    focus (have kxs := hz; have kk1 := uN [] (awake15); have kk2 := uN [] (sibling_Decode s (by omega)); have kk3 := uN [] (ref15_Decode s (by omega)); have kk4 := uN [] (ref15_Same v v (by omega) (by omega)); (repeat' (first | refine G ?_ | refine AW.ret ?_ | (refine GC ?_ ?_ <;> intro h <;> (try simp only [hsB] at h) <;> try (exfalso; first | omega | contradiction)) | (refine GL ?_ ?_ <;> intro h <;> (try simp only [Bool.not_true, Bool.not_false] at h) <;> (try simp only [h]) <;> (try simp only [hsB] at h) <;> try (exfalso; first | omega | contradiction)) | fail)); all_goals clear kxs kk1 kk2 kk3 kk4)
    all_goals first | ((all_goals first | exact RetQ.fr 0 | exact RetQ.fn 0 | fail); done) | (exfalso; simp_all; done)

theorem siblingCuts (k : Sb) (hk : k.fits) (r : List UInt8) (hr : r.length ≤ 9223372036854775807) : AC Try.prog 26 [sbV k, sv (bs r)] [] fun x σ => x = bv true ∧ σ = [] := by
  refine AC.walk Try.func26 rfl (by decide) (of_decide_eq_true rfl) ?_
  by_cases hgr : k.great = true
  · focus (have kxs := hgr; have kk1 := uN [] (awake15); have kk2 := uN [] (ref15_Great k hk); (repeat' (first | refine G ?_ | refine AW.ret ?_ | (refine GC ?_ ?_ <;> intro h <;> (try simp only [hsB] at h) <;> try (exfalso; first | omega | contradiction)) | (refine GL ?_ ?_ <;> intro h <;> (try simp only [Bool.not_true, Bool.not_false] at h) <;> (try simp only [h]) <;> (try simp only [hsB] at h) <;> try (exfalso; first | omega | contradiction)) | fail)); all_goals clear kxs kk1 kk2)
    all_goals first | ((all_goals first | exact RetQ.fr 0 | exact RetQ.fn 0 | fail); done) | (exfalso; simp_all; done)
  have hgr : k.great = false := by simpa using hgr
  by_cases hg0 : 0 < r.length ∧ r.length ≤ 100
  case neg =>
    focus (have kxs := hgr; have kk1 := uN [] (awake15); have kk2 := uN [] (ref15_Great k hk); (repeat' (first | refine G ?_ | refine AW.ret ?_ | (refine GC ?_ ?_ <;> intro h <;> (try simp only [hsB] at h) <;> try (exfalso; first | omega | contradiction)) | (refine GL ?_ ?_ <;> intro h <;> (try simp only [Bool.not_true, Bool.not_false] at h) <;> (try simp only [h]) <;> (try simp only [hsB] at h) <;> try (exfalso; first | omega | contradiction)) | fail)); all_goals clear kxs kk1 kk2)
    all_goals first | ((all_goals first | exact RetQ.fr 0 | exact RetQ.fn 0 | fail); done) | (exfalso; omega)
  obtain ⟨hr0, hr1⟩ := hg0
  by_cases hc : k.check = 0
  case neg =>
    have he := sibe_bad hc
    focus (have kxs := And.intro he hgr; have kk1 := uN [] (awake15); have kk2 := uN [] (ref15_Great k hk); have kk3 := uN [] (ref15_Encode k hk); (repeat' (first | refine G ?_ | refine AW.ret ?_ | (refine GC ?_ ?_ <;> intro h <;> (try simp only [hsB] at h) <;> try (exfalso; first | omega | contradiction)) | (refine GL ?_ ?_ <;> intro h <;> (try simp only [Bool.not_true, Bool.not_false] at h) <;> (try simp only [h]) <;> (try simp only [hsB] at h) <;> try (exfalso; first | omega | contradiction)) | fail)); all_goals clear kxs kk1 kk2 kk3)
    all_goals first | ((all_goals first | exact RetQ.fr 0 | exact RetQ.fn 0 | fail); done) | (exfalso; simp_all; done)
  have hg : gsib k := ⟨hc, hk.1.1.2.2, hk.1.2.2⟩
  have he := sibe_good hg hgr
  have hl := Sb.great_len hgr hg.2.1 hg.2.2
  have htr := rdw_trail (d := sb0) trip_sib hg (r := r) (List.length_pos_iff.1 hr0)
  have hcut : ∀ i, i < (esib k).length → sibw ((esib k).take i) = (sb0, 2) := fun i hi => rdw_cut trip_sib hg hi
  generalize esib k = t at *
  by_cases hl6 : t.length ≤ 6000
  case neg =>
    focus (have kxs := And.intro he hgr; have kk1 := uN [] (awake15); have kk2 := uN [] (ref15_Great k hk); have kk3 := uN [] (ref15_Encode k hk); (repeat' (first | refine G ?_ | refine AW.ret ?_ | (refine GC ?_ ?_ <;> intro h <;> (try simp only [hsB] at h) <;> try (exfalso; first | omega | contradiction)) | (refine GL ?_ ?_ <;> intro h <;> (try simp only [Bool.not_true, Bool.not_false] at h) <;> (try simp only [h]) <;> (try simp only [hsB] at h) <;> try (exfalso; first | omega | contradiction)) | fail)); all_goals clear kxs kk1 kk2 kk3)
    all_goals first | ((all_goals first | exact RetQ.fr 0 | exact RetQ.fn 0 | fail); done) | (exfalso; omega) | (exfalso; simp_all; done)
  focus (have kxs := And.intro he hgr; have kk1 := uN [] (awake15); have kk2 := uN [] (ref15_Great k hk); have kk3 := uN [] (ref15_Encode k hk); (repeat' (first | refine G ?_ | refine AW.ret ?_ | (refine GC ?_ ?_ <;> intro h <;> (try simp only [hsB] at h) <;> try (exfalso; first | omega | contradiction)) | (refine GL ?_ ?_ <;> intro h <;> (try simp only [Bool.not_true, Bool.not_false] at h) <;> (try simp only [h]) <;> (try simp only [hsB] at h) <;> try (exfalso; first | omega | contradiction)) | fail)); all_goals clear kxs kk1 kk2 kk3)
  all_goals first | (exfalso; simp_all; done) | (exfalso; omega) | skip
  refine AW.rounds [1, 4, 5, 7] (fun i : Nat => [(1, sv (bs r)), (4, bv false), (5, sv (bs t)), (7, iv .i64 i)]) (fun _ => []) (fun i => i ≤ t.length) (fun i => t.length - i) 0 (Nat.zero_le _) rfl rfl (fun _ _ => Nat.zero_le _) (fun _ _ => rfl) (fun _ _ => rfl) ?_
  intro i hi J hJ
  by_cases hil : i < t.length
  · have hci := hcut i hil
    focus (have kxs := And.intro hci @Nat.sub_zero; have kk1 := uN [] (sibling_Decode (t.take i) (by rw [List.length_take]; omega)); (repeat' (first | refine G ?_ | refine AW.ret ?_ | (refine GC ?_ ?_ <;> intro h <;> (try simp only [hsB] at h) <;> try (exfalso; first | omega | contradiction)) | (refine GL ?_ ?_ <;> intro h <;> (try simp only [Bool.not_true, Bool.not_false] at h) <;> (try simp only [h]) <;> (try simp only [hsB] at h) <;> try (exfalso; first | omega | contradiction)) | fail)); all_goals clear kxs kk1)
    all_goals first | (refine hJ (i + 1) _ _ (by omega) hil rfl rfl) | (exfalso; simp_all; done)
  · focus (have kxs := htr; have kk1 := uN [] (sibling_Decode (t ++ r) (by rw [List.length_append]; omega)); (repeat' (first | refine G ?_ | refine AW.ret ?_ | (refine GC ?_ ?_ <;> intro h <;> (try simp only [hsB] at h) <;> try (exfalso; first | omega | contradiction)) | (refine GL ?_ ?_ <;> intro h <;> (try simp only [Bool.not_true, Bool.not_false] at h) <;> (try simp only [h]) <;> (try simp only [hsB] at h) <;> try (exfalso; first | omega | contradiction)) | fail)); all_goals clear kxs kk1)
    all_goals first | ((all_goals first | exact RetQ.fr 0 | exact RetQ.fn 0 | fail); done) | (exfalso; simp_all; done)

theorem siblingTakes (s : List UInt8) (hs : s.length ≤ 9223372036854775807) (m : Int) (hm : m ≤ 9223372036854775807) (l : List Sb) (hl : ∀ v ∈ l, v.fits) :
    AC Try.prog 23 [sv (bs s), iv .i64 m, .d (.l l.length (sbsD l))] [] fun x σ => x = bv true ∧ σ = [] := by
  refine AC.walk Try.func23 rfl (by decide) (of_decide_eq_true rfl) ?_
  by_cases hg : s.length ≤ 3000 ∧ l.length ≤ 6
  case neg =>
    focus (have kxs : 987654321 = 987654320 + 1 := rfl; have kk1 := uN [] (awake15); (repeat' (first | (refine ADr.nil ?_; try clear hgv) | refine GO ?_ | refine AW.ret ?_ | (refine GC ?_ ?_ <;> intro h <;> (try simp only [hsB] at h) <;> try (exfalso; first | omega | contradiction)) | (refine GD ?_ ?_ <;> intro h <;> (try intro hgv) <;> (try simp only [Bool.not_true, Bool.not_false] at h) <;> (try simp only [h]) <;> (try simp only [hsB] at h) <;> try (exfalso; first | omega | contradiction)) | (refine GL ?_ ?_ <;> intro h <;> (try simp only [Bool.not_true, Bool.not_false] at h) <;> (try simp only [h]) <;> (try simp only [hsB] at h) <;> try (exfalso; first | omega | contradiction)) | fail)); all_goals clear kxs kk1)
    all_goals first | (exfalso; omega) | ((all_goals first | exact RetQ.fr 0 | exact RetQ.fn 0 | fail); done)
  generalize hM : (if m < 0 then 0 else m) = M
  have hM1 : 0 ≤ M ∧ M ≤ 9223372036854775807 := by rw [← hM]; split <;> omega
  have hp0 : Pe.Ok ⟨[], M, 0⟩ := ⟨hM1.1, hM1.2, Nat.zero_le _⟩
  have hc0 : Cu.Ok ⟨s, 0, 0⟩ := ⟨by show s.length ≤ _; omega, Nat.zero_le _⟩
  focus (have kxs := hM; have kk1 := uN [] (awake15); have kk2 := uN [] (cursor_New s); have kk3 := uN [] (pen_New m hm); have kk4 := uN [] (ref02_New m); (repeat' (first | (refine ADr.nil ?_; try clear hgv) | refine GO ?_ | refine AW.ret ?_ | (refine GC ?_ ?_ <;> intro h <;> (try simp only [hsB] at h) <;> try (exfalso; first | omega | contradiction)) | (refine GD ?_ ?_ <;> intro h <;> (try intro hgv) <;> (try simp only [Bool.not_true, Bool.not_false] at h) <;> (try simp only [h]) <;> (try simp only [hsB] at h) <;> try (exfalso; first | omega | contradiction)) | (refine GL ?_ ?_ <;> intro h <;> (try simp only [Bool.not_true, Bool.not_false] at h) <;> (try simp only [h]) <;> (try simp only [hsB] at h) <;> try (exfalso; first | omega | contradiction)) | fail)); all_goals clear kxs kk1 kk2 kk3 kk4)
  all_goals first | (exfalso; omega) | skip
  refine AW.rounds [2, 6, 7, 8, 9, 10, 11] (fun i : Nat => [(2, .d (.l l.length (sbsD l))), (6, bv false), (7, .p 0 0), (8, .p 1 0), (9, .p 2 0), (10, .p 4 0), (11, iv .i64 i)])
    (fun i => [Cu.ob (Cu.sibn i ⟨s, 0, 0⟩), Cu.ro (Cu.sibn i ⟨s, 0, 0⟩), .box 197 [.o 3 0, iv .i64 M, iv .i64 0], .row 5 1 0 [], Pe.ro (Pe.sibs ⟨[], M, 0⟩ (l.take i))])
    (fun i => i ≤ l.length ∧ ∀ v ∈ l.take i, v.great = false) (fun i => l.length - i) 0 ⟨Nat.zero_le _, by simp⟩ rfl rfl
    (fun _ _ => Nat.zero_le _) (fun _ _ => rfl) (fun _ _ => rfl) ?_
  rintro i ⟨hi, hgr⟩ J hJ
  have hlen : ∀ v ∈ l.take i, (esib v).length ≤ 16900 := fun v hv => Sb.great_len (hgr v hv) (hl v (List.mem_of_mem_take hv)).1.1.2.2 (hl v (List.mem_of_mem_take hv)).1.2.2
  have htot := flat_bound esib 16900 (l.take i) hlen
  have htl : (l.take i).length ≤ 6 := by rw [List.length_take]; omega
  have htot2 : ((l.take i).map esib).flatten.length ≤ 101400 := Nat.le_trans htot (Nat.mul_le_mul htl (Nat.le_refl 16900))
  have hqok := pens_sibs.keep (x := l.take i) hp0 (.inr (by simp only [List.length_nil]; omega))
  have hqlen := pens_sibs.len ⟨[], M, 0⟩ (l.take i)
  simp only [List.length_nil] at hqlen
  by_cases hil : i < l.length
  · generalize hq : Pe.sibs ⟨[], M, 0⟩ (l.take i) = q at *
    have hcok := Cu.sibn_ok hc0 i
    have hnc : Cu.sibn (i + 1) ⟨s, 0, 0⟩ = (Cu.sibn i ⟨s, 0, 0⟩).sib.2 := rfl
    generalize hc : Cu.sibn i ⟨s, 0, 0⟩ = c at *
    obtain ⟨v, r, hd⟩ := next_at hil
    have hcd := sbs_drop hd
    have hn : Pe.sibs ⟨[], M, 0⟩ (l.take (i + 1)) = q.sib v := by rw [next_take hd, Pe.sibs_snoc, hq]
    have hfv := hl v (next_mem hd)
    by_cases hgv : v.great = true
    · focus (have kxs := And.intro hcd hgv; have kk1 := uN [] (ref15_Great v hfv); (repeat' (first | (refine ADr.nil ?_; try clear hgv) | refine GO ?_ | refine AW.ret ?_ | (refine GC ?_ ?_ <;> intro h <;> (try simp only [hsB] at h) <;> try (exfalso; first | omega | contradiction)) | (refine GD ?_ ?_ <;> intro h <;> (try intro hgv) <;> (try simp only [Bool.not_true, Bool.not_false] at h) <;> (try simp only [h]) <;> (try simp only [hsB] at h) <;> try (exfalso; first | omega | contradiction)) | (refine GL ?_ ?_ <;> intro h <;> (try simp only [Bool.not_true, Bool.not_false] at h) <;> (try simp only [h]) <;> (try simp only [hsB] at h) <;> try (exfalso; first | omega | contradiction)) | fail)); all_goals clear kxs kk1)
      all_goals first | ((all_goals first | exact RetQ.fr 0 | exact RetQ.fn 0 | fail); done) | (exfalso; simp_all; done)
    have hgv : v.great = false := by simpa using hgv
    have hvl := Sb.great_len hgv hfv.1.1.2.2 hfv.1.2.2
    have hg2 : ∀ x ∈ l.take (i + 1), x.great = false := by
      intro x hx
      rw [next_take hd] at hx
      rcases List.mem_append.1 hx with hx | hx
      · exact hgr x hx
      · simp at hx; subst hx; exact hgv
    have hwl := Cu.sib_ctx c
    generalize hw : c.sib = w at *
    obtain ⟨u, c2⟩ := w
    simp only at hwl hnc
    focus (have kxs := And.intro hcd (And.intro hgv hw); have kk1 := uN [] (ref15_Great v hfv); have kk2 := uN [0] (sibling_Take c hcok); have kk3 := uN [1] (ref15_Take c hcok); have kk4 := uN [] (ref15_Same u u (by omega) (by omega)); have kuc1 := fun za zb zc => uN [0] (cursor_Err za zb zc); have kuc2 := fun za zb zc => uN [0] (cursor_At za zb zc); have kk5 := uN [4] (ref15_Put q.b q.m q.e hqok v hfv (.inr (by omega))); (repeat' (first | (refine ADr.nil ?_; try clear hgv) | refine GW ?_ | refine AW.ret ?_ | (refine GC ?_ ?_ <;> intro h <;> (try simp only [hsB] at h) <;> try (exfalso; first | omega | contradiction)) | (refine GD ?_ ?_ <;> intro h <;> (try intro hgv) <;> (try simp only [Bool.not_true, Bool.not_false] at h) <;> (try simp only [h]) <;> (try simp only [hsB] at h) <;> try (exfalso; first | omega | contradiction)) | (refine GL ?_ ?_ <;> intro h <;> (try simp only [Bool.not_true, Bool.not_false] at h) <;> (try simp only [h]) <;> (try simp only [hsB] at h) <;> try (exfalso; first | omega | contradiction)) | fail)); all_goals clear kxs kk1 kk2 kk3 kk4 kuc1 kuc2 kk5)
    all_goals first | (refine hJ (i + 1) _ _ (by omega) ⟨hil, hg2⟩ rfl ?_; rw [hn, hnc]; rfl) | (exfalso; simp_all; done)
  · have hi2 : i = l.length := by omega
    subst hi2
    rw [List.take_length] at *
    generalize hq : Pe.sibs ⟨[], M, 0⟩ l = q at *
    focus (have kxs := hq; have kk1 := uN [2, 3] (sibling_Put [] M 0 hp0 l hl (by omega) (.inr (by simp only [List.length_nil]; omega))); have kk2 := uN [2, 3] (pen_End q.b q.m q.e hqok); have kk3 := uN [4] (ref02_End q.b q.m q.e); have kk4 := uN [2, 3] (pen_Len q.b q.m q.e); (repeat' (first | (refine ADr.nil ?_; try clear hgv) | refine GO ?_ | refine AW.ret ?_ | (refine GC ?_ ?_ <;> intro h <;> (try simp only [hsB] at h) <;> try (exfalso; first | omega | contradiction)) | (refine GD ?_ ?_ <;> intro h <;> (try intro hgv) <;> (try simp only [Bool.not_true, Bool.not_false] at h) <;> (try simp only [h]) <;> (try simp only [hsB] at h) <;> try (exfalso; first | omega | contradiction)) | (refine GL ?_ ?_ <;> intro h <;> (try simp only [Bool.not_true, Bool.not_false] at h) <;> (try simp only [h]) <;> (try simp only [hsB] at h) <;> try (exfalso; first | omega | contradiction)) | fail)); all_goals clear kxs kk1 kk2 kk3 kk4)
    all_goals first | ((all_goals first | exact RetQ.fr 0 | exact RetQ.fn 0 | fail); done) | (exfalso; simp_all; done)
end Go.AW
