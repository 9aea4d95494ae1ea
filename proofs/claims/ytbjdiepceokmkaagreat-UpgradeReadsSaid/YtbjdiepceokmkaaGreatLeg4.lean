/-
  old objects that are read: the program's.
-/
import Derived.Test.YtbjdiepceokmkaaGreatLeg3
namespace Go.AW
open Go Go.Proofs
set_option maxHeartbeats 2000000
set_option maxRecDepth 10000
set_option linter.unusedSimpArgs false
set_option linter.unusedVariables false
attribute [local irreducible] thenQ blockQ RetQ AL AW AC AOp

def onext (seen : List Vec) (x : Os1) : List Vec := seen ++ [x.clk]
theorem oss_snoc (l : List Os1) (x : Os1) : ossD l ++ [.l x.clk.length (vecD x.clk), .s (.bool x.dead), .s (.string ⟨x.val.toArray⟩)] = ossD (l ++ [x]) := by
  simp only [ossD, List.map_append, List.flatten_append, List.map_cons, List.map_nil, List.flatten_cons, List.flatten_nil, List.append_nil]; rfl
theorem snoc_len {α : Type} (l : List α) (x : α) : (l ++ [x]).length = l.length + 1 := by simp
theorem old_eq {s key : List UInt8} {c1 q1 c2 q2 : Cu} {n : Nat} (hb : Cu.blob ⟨s, 0, 0⟩ 128 = (key, c1)) (h1 : gd (decide (key ≠ [])) 14 c1 = q1) (hn : q1.count 16 = (n, c2)) (h2 : gd (decide (n ≠ 0)) 7 c2 = q2) :
    Cu.old ⟨s, 0, 0⟩ = (⟨key, (Cu.olds n [] q2).1⟩, (Cu.olds n [] q2).2) := by
  have e1 : Cu.okey ⟨s, 0, 0⟩ = (key, q1) := by unfold Cu.okey; rw [hb, ← h1]
  have e2 : q1.ocnt = (n, q2) := by unfold Cu.ocnt; rw [hn, ← h2]
  unfold Cu.old Cu.old0 rseq
  rw [e1]
  simp only
  unfold Cu.oldl
  rw [e2]
theorem oldw_eq {s key : List UInt8} {c : Cu} {l : List Os1} (h : Cu.old ⟨s, 0, 0⟩ = (⟨key, l⟩, c)) : oldw s = (if c.fin.e ≠ 0 then od0 else ⟨key, l⟩, c.fin.e) := by
  unfold oldw
  rw [h]
theorem os1_eq {c c1 c2 c3 q : Cu} {v : Vec} {f : Bool} {t : List UInt8} {seen : List Vec} (h1 : c.vec = (v, c1)) (h2 : c1.flag = (f, c2)) (h3 : c2.blob 32768 = (t, c3)) (h4 : gd (decide (v ∉ seen)) 6 c3 = q) : Cu.os1 seen c = (⟨v, f, t⟩, q) := by
  unfold Cu.os1 Cu.os0 rseq
  simp only [h1, h2, h3, h4]
theorem any_clk (l : List Os1) (v : Vec) : (l.any fun y => decide (y.clk = v)) = decide (v ∈ l.map Os1.clk) := by
  rw [Bool.eq_iff_iff, List.any_eq_true, decide_eq_true_eq, List.mem_map]
  simp only [decide_eq_true_eq]

theorem legacy_Decode (s : List UInt8) (hs : s.length ≤ 140737488351232) : AC Tryz.prog 19 [sv (bs s)] [] fun x σ => x = .t [odV (oldw s).1, iv .i64 (oldw s).2] ∧ σ = [] := by
  have h0 : Cu.Ok ⟨s, 0, 0⟩ := ⟨hs, Nat.zero_le _⟩
  refine AC.walk Tryz.func19 rfl (by decide) (of_decide_eq_true rfl) ?_
  have hok1 := Cu.blob_ok (max := 128) h0
  cases hb : Cu.blob ⟨s, 0, 0⟩ 128 with
  | mk key c1 =>
  rw [hb] at hok1
  obtain ⟨q1, hq1⟩ : ∃ q, gd (decide (key ≠ [])) 14 c1 = q := ⟨_, rfl⟩
  have hok2 : q1.Ok := by rw [← hq1]; exact gd_ok hok1
  have hok3 := Cu.count_ok (max := 16) hok2
  cases hn : q1.count 16 with
  | mk n c2 =>
  rw [hn] at hok3
  have hn' : Cu.count ⟨q1.s, q1.a, q1.e⟩ 16 = (n, c2) := hn
  have hnl : n ≤ 16 := by have := Cu.count_max q1 16; rw [hn] at this; exact this
  obtain ⟨q2, hq2⟩ : ∃ q, gd (decide (n ≠ 0)) 7 c2 = q := ⟨_, rfl⟩
  have hok4 : q2.Ok := by rw [← hq2]; exact gd_ok hok3
  have hold := old_eq hb hq1 hn hq2
  have k1 : (key = [] ∧ Cu.fail ⟨c1.s, c1.a, c1.e⟩ 14 = q1) ∨ (key ≠ [] ∧ c1 = q1) := by
    by_cases hk : key = []
    · exact .inl ⟨hk, by rw [← hq1, hk]; rfl⟩
    · exact .inr ⟨hk, by rw [← hq1]; unfold gd; rw [if_pos (by simpa using hk)]⟩
  have k2 : (n = 0 ∧ Cu.fail ⟨c2.s, c2.a, c2.e⟩ 7 = q2) ∨ (n ≠ 0 ∧ c2 = q2) := by
    by_cases hk : n = 0
    · exact .inl ⟨hk, by rw [← hq2, hk]; rfl⟩
    · exact .inr ⟨hk, by rw [← hq2]; unfold gd; rw [if_pos (by simpa using hk)]⟩
  clear hq1 hq2
  rcases k1 with ⟨hk, h1⟩ | ⟨hk, h1⟩ <;> rcases k2 with ⟨hn0, h2⟩ | ⟨hn0, h2⟩
  all_goals
    focus (have kxs := And.intro hb (And.intro h1 (And.intro hn' h2)); have kk1 := uN [] (cursor_New s); have kk2 := uN [1] (blob_Take s 0 0 128 h0 (by decide)); have kud1 := fun za zb zc zd => uN [1] (cursor_Fail za zb zc zd); have kk3 := uN [1] (blob_Count q1.s q1.a q1.e 16 hok2 (by decide)); (repeat' (first | refine G ?_ | refine AW.ret ?_ | (refine GC ?_ ?_ <;> intro h <;> (try simp only [hsB] at h) <;> try (exfalso; first | omega | contradiction)) | (refine GL ?_ ?_ <;> intro h <;> (try simp only [Bool.not_true, Bool.not_false] at h) <;> (try simp only [h]) <;> (try simp only [hsB] at h) <;> try (exfalso; first | omega | contradiction)) | fail)); all_goals clear kxs kk1 kk2 kud1 kk3)
    all_goals first | (exfalso; exact hk (by assumption)) | (exfalso; omega) | (exfalso; simp_all; done) | skip
    refine AW.birth 52 3 [] [(2, 1)] ?_
    refine AW.rounds [2, 3, 4, 5, 6] (fun x : List Os1 × Cu => [(2, .p 0 0), (3, iv .i64 0), (4, .p 1 0), (5, .p 2 0), (6, iv .i64 n)])
      (fun x => [.box 35 [sv (bs []), .d (.s (.slice none 0 0))], Cu.ob x.2, .box 35 [sv (bs key), .o 3 x.1.length], .row 52 3 x.1.length (ossD x.1)])
      (fun x => x.2.Ok ∧ (∀ y ∈ x.1, y.clk.length ≤ 64) ∧ Fam Cu.os1 onext n [] q2 x.1 (x.1.map Os1.clk) x.2) (fun x => n - x.1.length) ([], q2) ⟨hok4, fun y hy => (List.not_mem_nil hy).elim, Fam.start n [] q2⟩ rfl rfl (fun _ _ => Nat.zero_le _) (fun _ _ => rfl) (fun _ _ => rfl) ?_
    clear h1 h2 hb hn hn' hn0 hk hok1 hok2 hok3 hok4
    rintro ⟨out, c⟩ ⟨hok, h64, hf⟩ J hJ
    simp only at hok h64 hf ⊢
    by_cases hce : c.e = 0
    case neg =>
      have hbad : (Cu.olds n [] q2).2 = c := Fam.bad (fun k c h => (trip_os1 k).stuck c h) hf hce
      rw [hbad] at hold
      rw [oldw_eq hold]
      have hfe : c.fin.e ≠ 0 := by unfold Cu.fin; simp [hce]
      rw [if_pos hfe]
      generalize hfd : c.fin = d at *
      have hfe' : Cu.fin ⟨c.s, c.a, c.e⟩ = d := hfd
      focus (have kxs := hfe'; have kk1 := uN [1] (cursor_Err c.s c.a c.e); have kk2 := uN [1] (cursor_End c.s c.a c.e hok); (repeat' (first | refine G ?_ | refine AW.ret ?_ | (refine GC ?_ ?_ <;> intro h <;> (try simp only [hsB] at h) <;> try (exfalso; first | omega | contradiction)) | (refine GL ?_ ?_ <;> intro h <;> (try simp only [Bool.not_true, Bool.not_false] at h) <;> (try simp only [h]) <;> (try simp only [hsB] at h) <;> try (exfalso; first | omega | contradiction)) | fail)); all_goals clear kxs kk1 kk2)
      all_goals first | (((all_goals first | refine RetQ.r 0 rfl (Nat.le_of_ble_eq_true rfl) rfl (by first | rfl | (simp only [go_sem, ↓reduceIte, Nat.reduceLT, Nat.lt_irrefl])) ⟨?_, ?_⟩ | refine RetQ.n 0 rfl (Nat.le_of_ble_eq_true rfl) rfl (by first | rfl | (simp only [go_sem, ↓reduceIte, Nat.reduceLT, Nat.lt_irrefl])) ⟨?_, ?_⟩); (all_goals first | rfl | (simp [od0, *]; done) | ((simp only [go_sem, ↓reduceIte, Nat.reduceLT, od0]; (repeat' split)) <;> first | rfl | (exfalso; omega) | (simp_all; done) | (simp_all; omega)))); done) | (exfalso; simp_all; done)
    by_cases hlen : out.length < n
    case neg =>
      have hdone : Cu.olds n [] q2 = (out, c) := Fam.done hf hce hlen
      rw [hdone] at hold
      rw [oldw_eq hold]
      generalize hfd : c.fin = d at *
      have hfe' : Cu.fin ⟨c.s, c.a, c.e⟩ = d := hfd
      by_cases hde : d.e = 0
      · rw [if_neg (by simpa using hde), hde]
        focus (have kxs := hfe'; have kk1 := uN [1] (cursor_Err c.s c.a c.e); have kk2 := uN [1] (cursor_End c.s c.a c.e hok); (repeat' (first | refine G ?_ | refine AW.ret ?_ | (refine GC ?_ ?_ <;> intro h <;> (try simp only [hsB] at h) <;> try (exfalso; first | omega | contradiction)) | (refine GL ?_ ?_ <;> intro h <;> (try simp only [Bool.not_true, Bool.not_false] at h) <;> (try simp only [h]) <;> (try simp only [hsB] at h) <;> try (exfalso; first | omega | contradiction)) | fail)); all_goals clear kxs kk1 kk2)
        all_goals first | (((all_goals first | refine RetQ.r 0 (xs := [.a [sv (bs key), .o 3 out.length], iv .i64 0]) rfl (Nat.le_of_ble_eq_true rfl) rfl (by first | rfl | (simp only [go_sem, ↓reduceIte, Nat.reduceLT, Nat.lt_irrefl])) ⟨?_, ?_⟩ | refine RetQ.n 0 (xs := [.a [sv (bs key), .o 3 out.length], iv .i64 0]) rfl (Nat.le_of_ble_eq_true rfl) rfl (by first | rfl | (simp only [go_sem, ↓reduceIte, Nat.reduceLT, Nat.lt_irrefl])) ⟨?_, ?_⟩); (all_goals first | rfl | (simp [*]; done) | ((simp only [go_sem, ↓reduceIte, Nat.reduceLT]; (repeat' split)) <;> first | rfl | (exfalso; omega) | (simp_all; done) | (simp_all; omega)))); done) | (exfalso; simp_all; done)
      · rw [if_pos hde]
        focus (have kxs := hfe'; have kk1 := uN [1] (cursor_Err c.s c.a c.e); have kk2 := uN [1] (cursor_End c.s c.a c.e hok); (repeat' (first | refine G ?_ | refine AW.ret ?_ | (refine GC ?_ ?_ <;> intro h <;> (try simp only [hsB] at h) <;> try (exfalso; first | omega | contradiction)) | (refine GL ?_ ?_ <;> intro h <;> (try simp only [Bool.not_true, Bool.not_false] at h) <;> (try simp only [h]) <;> (try simp only [hsB] at h) <;> try (exfalso; first | omega | contradiction)) | fail)); all_goals clear kxs kk1 kk2)
        all_goals first | (((all_goals first | refine RetQ.r 0 rfl (Nat.le_of_ble_eq_true rfl) rfl (by first | rfl | (simp only [go_sem, ↓reduceIte, Nat.reduceLT, Nat.lt_irrefl])) ⟨?_, ?_⟩ | refine RetQ.n 0 rfl (Nat.le_of_ble_eq_true rfl) rfl (by first | rfl | (simp only [go_sem, ↓reduceIte, Nat.reduceLT, Nat.lt_irrefl])) ⟨?_, ?_⟩); (all_goals first | rfl | (simp [od0, *]; done) | ((simp only [go_sem, ↓reduceIte, Nat.reduceLT, od0]; (repeat' split)) <;> first | rfl | (exfalso; omega) | (simp_all; done) | (simp_all; omega)))); done) | (exfalso; simp_all; done)
    have hstep := Fam.step hf hce hlen
    have hv64 := Cu.vec_len c
    have hg1 := Cu.vec_ok hok
    cases hv : c.vec with
    | mk v g1 =>
    rw [hv] at hv64 hg1
    have hv' : Cu.vec ⟨c.s, c.a, c.e⟩ = (v, g1) := hv
    have hg2 := Cu.flag_ok hg1
    cases hw : g1.flag with
    | mk f g2 =>
    rw [hw] at hg2
    have hw' : Cu.flag ⟨g1.s, g1.a, g1.e⟩ = (f, g2) := hw
    have hg3 := Cu.blob_ok (max := 32768) hg2
    cases hx : g2.blob 32768 with
    | mk t g3 =>
    rw [hx] at hg3
    have hx' : Cu.blob ⟨g2.s, g2.a, g2.e⟩ 32768 = (t, g3) := hx
    simp only at hv64 hg1 hg2 hg3
    have h64' : ∀ y ∈ out ++ [(⟨v, f, t⟩ : Os1)], y.clk.length ≤ 64 := fun y hy => by
      rcases List.mem_append.1 hy with h | h
      · exact h64 y h
      · rw [List.mem_singleton.1 h]; exact hv64
    have hnx : onext (out.map Os1.clk) ⟨v, f, t⟩ = (out ++ [(⟨v, f, t⟩ : Os1)]).map Os1.clk := by simp [onext]
    have hsn := oss_snoc out ⟨v, f, t⟩
    have hln := snoc_len out (⟨v, f, t⟩ : Os1)
    by_cases hm : v ∈ out.map Os1.clk
    · have hany : (out.any fun y => decide (y.clk = v)) = true := by rw [any_clk]; exact decide_eq_true hm
      rw [os1_eq hv hw hx (q := g3.fail 6) (by unfold gd; rw [if_neg (by simpa using hm)])] at hstep
      simp only [hnx] at hstep
      focus (have kxs := And.intro hv' (And.intro hw' (And.intro hx' hany)); have kk1 := uN [1] (cursor_Err c.s c.a c.e); have kk2 := uN [1] (vcode_Take c.s c.a c.e hok); have kk3 := uN [1] (blob_Flag g1.s g1.a g1.e hg1); have kk4 := uN [1] (blob_Take g2.s g2.a g2.e 32768 hg2 (by decide)); have kk5 := uL (legacy_twice out v (by omega) (fun x hx => Nat.le_trans (h64 x hx) (by decide))); have kk6 := uN [1] (cursor_Fail g3.s g3.a g3.e 6); (repeat' (first | refine G ?_ | refine AW.ret ?_ | (refine GC ?_ ?_ <;> intro h <;> (try simp only [hsB] at h) <;> try (exfalso; first | omega | contradiction)) | (refine GL ?_ ?_ <;> intro h <;> (try simp only [Bool.not_true, Bool.not_false] at h) <;> (try simp only [h]) <;> (try simp only [hsB] at h) <;> try (exfalso; first | omega | contradiction)) | fail)); all_goals clear kxs kk1 kk2 kk3 kk4 kk5 kk6)
      all_goals first | (refine hJ (out ++ [⟨v, f, t⟩], g3.fail 6) _ _ (by simp only [hln]; omega) ⟨hg3, h64', hstep⟩ rfl ?_; simp only [← hsn, hln]; rfl) | (exfalso; simp_all; done)
    · have hany : (out.any fun y => decide (y.clk = v)) = false := by rw [any_clk]; exact decide_eq_false hm
      rw [os1_eq hv hw hx (q := g3) (by unfold gd; rw [if_pos (by simpa using hm)])] at hstep
      simp only [hnx] at hstep
      focus (have kxs := And.intro hv' (And.intro hw' (And.intro hx' hany)); have kk1 := uN [1] (cursor_Err c.s c.a c.e); have kk2 := uN [1] (vcode_Take c.s c.a c.e hok); have kk3 := uN [1] (blob_Flag g1.s g1.a g1.e hg1); have kk4 := uN [1] (blob_Take g2.s g2.a g2.e 32768 hg2 (by decide)); have kk5 := uL (legacy_twice out v (by omega) (fun x hx => Nat.le_trans (h64 x hx) (by decide))); (repeat' (first | refine G ?_ | refine AW.ret ?_ | (refine GC ?_ ?_ <;> intro h <;> (try simp only [hsB] at h) <;> try (exfalso; first | omega | contradiction)) | (refine GL ?_ ?_ <;> intro h <;> (try simp only [Bool.not_true, Bool.not_false] at h) <;> (try simp only [h]) <;> (try simp only [hsB] at h) <;> try (exfalso; first | omega | contradiction)) | fail)); all_goals clear kxs kk1 kk2 kk3 kk4 kk5)
      all_goals first | (refine hJ (out ++ [⟨v, f, t⟩], g3) _ _ (by simp only [hln]; omega) ⟨hg3, h64', hstep⟩ rfl ?_; simp only [← hsn, hln]; rfl) | (exfalso; simp_all; done)
end Go.AW
