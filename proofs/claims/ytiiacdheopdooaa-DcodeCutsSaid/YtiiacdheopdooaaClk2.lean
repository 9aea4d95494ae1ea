/-
  clocks that are read: the program's and the document's.
-/
import Derived.Test.YtiiacdheopdooaaClk1
namespace Go.AW
open Go Go.Proofs
set_option maxHeartbeats 2000000
set_option maxRecDepth 10000
set_option linter.unusedSimpArgs false
set_option linter.unusedVariables false
attribute [local irreducible] thenQ blockQ RetQ AL AW AC AOp

theorem gd_yes (f : Int) (c : Cu) : gd true f c = c := rfl
theorem gd_no (f : Int) (c : Cu) : gd false f c = c.fail f := rfl
theorem dot_eq {v : Vec} {c c1 q c2 : Cu} {t : List UInt8} {n : Nat} (hb : c.blob 32 = (t, c1)) (hq : (if t = [] then c1.fail 14 else c1) = q) (hv : q.vtake = (n, c2)) :
    c.dot v = ((t, n), if n = 0 then c2.fail 7 else if n ≤ v.count t then c2.fail 15 else c2) := by
  have h1 : c.dact = (t, q) := by
    unfold Cu.dact
    rw [hb]
    simp only
    rw [← hq]
    by_cases ht : t = []
    · rw [if_pos ht]; subst ht; rfl
    · have : decide (t ≠ []) = true := by simpa using ht
      rw [if_neg ht, this]; rfl
  unfold Cu.dot rseq
  rw [h1]
  unfold Cu.dnum
  rw [hv]
  simp only
  by_cases hn : n = 0
  · subst hn
    have h2 : decide ((0 : Nat) ≠ 0) = false := by simp
    rw [h2, gd_no, if_pos rfl, gd_stuck (Cu.fail_e (by decide))]
  · have h2 : decide (n ≠ 0) = true := by simpa using hn
    rw [h2, gd_yes, if_neg hn]
    by_cases hl : n ≤ v.count t
    · have h3 : decide (v.count t < n) = false := by simp; omega
      rw [h3, gd_no, if_pos hl]
    · have h3 : decide (v.count t < n) = true := by simp; omega
      rw [h3, gd_yes, if_neg hl]
theorem clk_eq {c c1 c2 c3 : Cu} {v : Vec} {f : Bool} {d : En} (h1 : c.vec = (v, c1)) (h2 : c1.flag = (f, c2)) (h3 : Cu.dotq v f c2 = (d, c3)) : c.clk = (if c3.e ≠ 0 then ck0 else ⟨v, f, d⟩, c3) := by
  have : c.clk0 = ((v, (f, d)), c3) := by
    unfold Cu.clk0 rseq
    rw [h1]
    simp only
    rw [h2]
    simp only
    rw [h3]
  unfold Cu.clk
  rw [this]

theorem dcode_dot (c : Cu) (h : c.Ok) (v : Vec) (hv : v.length ≤ 64) : AC Try.prog 188 [.p 0 0, .d (.l v.length (vecD v))] [Cu.ob c] fun x σ => x = .a [sv (bs (c.dot v).1.1), iv .u64 (c.dot v).1.2] ∧ σ = [Cu.ob (c.dot v).2] := by
  refine AC.walk Try.func188 rfl (by decide) (of_decide_eq_true rfl) ?_
  have hbok := Cu.blob_ok (max := 32) h
  cases hb : c.blob 32 with
  | mk t c1 =>
  rw [hb] at hbok
  have hb' : Cu.blob ⟨c.s, c.a, c.e⟩ 32 = (t, c1) := hb
  by_cases ht : t = []
  · subst ht
    have hqok : (c1.fail 14).Ok := hbok
    cases hq : (c1.fail 14).vtake with
    | mk n c2 =>
    have hq' : Cu.vtake ⟨(c1.fail 14).s, (c1.fail 14).a, (c1.fail 14).e⟩ = (n, c2) := hq
    rw [dot_eq hb (if_pos rfl) hq]
    by_cases hn : n = 0
    · rw [if_pos hn]
      repeat' (first
    | ((first
      | ((first | refine AL.callv (by decide) fun Kr hr => ?_ | refine AL.callv0 fun Kr hr => ?_ | refine AL.g1v (by decide) rfl fun Kr hr => ?_); first
      | (refine AOp.cι (fun _ _ => rfl) [0] rfl (blob_Take c.s c.a c.e 32 h (by decide)) (Emb.one rfl) rfl ?_; rintro y obs ⟨rfl, rfl⟩)
      | (refine AOp.cι (fun _ _ => rfl) [0] rfl (varint_Take (c1.fail 14).s (c1.fail 14).a (c1.fail 14).e hqok) (Emb.one rfl) rfl ?_; rintro y obs ⟨rfl, rfl⟩)
      | (refine AOp.cι (fun _ _ => rfl) [0] rfl (cursor_Fail c1.s c1.a c1.e 14) (Emb.one rfl) rfl ?_; rintro y obs ⟨rfl, rfl⟩)
      | (refine AOp.cι (fun _ _ => rfl) [0] rfl (cursor_Fail c2.s c2.a c2.e 7) (Emb.one rfl) rfl ?_; rintro y obs ⟨rfl, rfl⟩))
      | refine AL.one (by decide) fun Kr hr => ?_
      | refine AL.one0 fun Kr hr => ?_); (try simp only [ao, List.map_cons, List.map_nil]); simp (disch := omega) only [go_sem, hb', hq']; (repeat first | refine ⟨by first | omega | assumption | rfl | (simp only [List.length_take, List.length_drop, List.length_append, List.length_cons, List.length_nil, List.length_map]; omega), ?_⟩); refine hr _ _ ?_; clear hr Kr)
    | refine AL.nil ?_ | refine AW.seq' ?_ | refine AW.region ?_ | refine AW.block ?_ | refine AW.skip ?_ | refine AW.ret ?_ | refine AW.exit ?_ | refine thenQ_n ?_ | refine thenQ_r ?_ | refine thenQ_e ?_ | refine blockQ_n ?_ | refine blockQ_r ?_ | refine blockQ_e ?_ | refine blockQ_o (by decide) ?_ | refine AW.draw T.mixed (by kernel_rfl) ?_ | (refine ADr.nil ?_; try clear hgv)
    | (refine AW.cond rfl (fun h => ?_) (fun h => ?_) <;> (try simp only [decide_eq_true_eq, decide_eq_false_iff_not, Bool.false_eq_true, Bool.true_eq_false, Bool.not_eq_true', Bool.not_eq_false', Bool.not_eq_eq_eq_not, Bool.not_true, Bool.not_false, Bool.and_eq_true, Bool.or_eq_true, Bool.and_eq_false_iff, Bool.or_eq_false_iff] at h) <;> try (exfalso; first | omega | contradiction))
    | ((first | refine ADr.gc ?_ (by decide) (by first | assumption | rfl) ?_ ?_ | refine ADr.c ?_ (by decide) ?_ ?_); rotate_left 1; focus ((repeat' (first | exact trivial | refine And.intro ?_ ?_)) <;> (intro Kr hr; (try simp only [ao, List.map_cons, List.map_nil]); simp (disch := omega) only [go_sem, hb', hq']; (repeat first | refine ⟨by first | omega | assumption | rfl | (simp only [List.length_take, List.length_drop, List.length_append, List.length_cons, List.length_nil, List.length_map]; omega), ?_⟩); exact hr)))
    | ((first | refine ADr.ccv ?_ (by decide) ?_ ?_ | refine ADr.gccv ?_ (by decide) (by first | assumption | rfl) ?_ ?_ | refine ADr.gc ?_ (by decide) (by first | assumption | rfl) ?_ ?_ | refine ADr.c ?_ (by decide) ?_ ?_); rotate_left 1; focus ((repeat' (first | exact trivial | refine And.intro ?_ ?_)) <;> (intro Kr hr; (try first | (refine AOp.cι (fun x hx => ev_keep _ x hx) [0] rfl (blob_Take c.s c.a c.e 32 h (by decide)) (Emb.one rfl) rfl ?_; rintro y obs ⟨rfl, rfl⟩) | (refine AOp.cι (fun x hx => ev_keep _ x hx) [0] rfl (varint_Take (c1.fail 14).s (c1.fail 14).a (c1.fail 14).e hqok) (Emb.one rfl) rfl ?_; rintro y obs ⟨rfl, rfl⟩) | (refine AOp.cι (fun x hx => ev_keep _ x hx) [0] rfl (cursor_Fail c1.s c1.a c1.e 14) (Emb.one rfl) rfl ?_; rintro y obs ⟨rfl, rfl⟩) | (refine AOp.cι (fun x hx => ev_keep _ x hx) [0] rfl (cursor_Fail c2.s c2.a c2.e 7) (Emb.one rfl) rfl ?_; rintro y obs ⟨rfl, rfl⟩)); (try simp only [ao, List.map_cons, List.map_nil]); simp (disch := omega) only [go_sem, hb', hq']; (repeat first | refine ⟨by first | omega | assumption | rfl | (simp only [List.length_take, List.length_drop, List.length_append, List.length_cons, List.length_nil, List.length_map]; omega), ?_⟩); exact hr)))
    | (refine ADr.gt (by decide) rfl ?_) | (refine ADr.gs (by decide) rfl (by decide) ?_)
    | (refine AL.gt (by decide) rfl ?_) | (refine AL.g0 (by decide) rfl (by decide) ?_) | (refine AL.g1 (by decide) rfl fun Kr hr => ?_; (try simp only [ao, List.map_cons, List.map_nil]); simp (disch := omega) only [go_sem, hb', hq']; (repeat first | refine ⟨by first | omega | assumption | rfl | (simp only [List.length_take, List.length_drop, List.length_append, List.length_cons, List.length_nil, List.length_map]; omega), ?_⟩); refine hr _ _ ?_; clear hr Kr)
    | ((first | refine ADr.gb (by decide) rfl (fun h hgv => ?_) (fun h => ?_) | refine AL.g (by decide) rfl (fun h => ?_) (fun h => ?_)) <;> (try simp only [Bool.not_true, Bool.not_false] at h) <;> (try simp only [h]) <;> simp only [decide_eq_true_eq, decide_eq_false_iff_not, Bool.false_eq_true, Bool.true_eq_false, Bool.not_eq_true', Bool.not_eq_false', Bool.not_eq_eq_eq_not, Bool.not_true, Bool.not_false, Bool.and_eq_true, Bool.or_eq_true, Bool.and_eq_false_iff, Bool.or_eq_false_iff] at h <;> try (exfalso; first | omega | contradiction)))
      all_goals first | (((all_goals first | refine RetQ.r 1 rfl (Nat.le_of_ble_eq_true rfl) rfl (by first | rfl | (simp only [go_sem, ↓reduceIte, Nat.reduceLT, Nat.lt_irrefl])) ⟨?_, ?_⟩ | refine RetQ.n 1 rfl (Nat.le_of_ble_eq_true rfl) rfl (by first | rfl | (simp only [go_sem, ↓reduceIte, Nat.reduceLT, Nat.lt_irrefl])) ⟨?_, ?_⟩); (all_goals first | rfl | (simp [*]; done) | ((simp only [go_sem, ↓reduceIte, Nat.reduceLT]; (repeat' split)) <;> first | rfl | (exfalso; omega) | (simp_all; done) | (simp_all; omega)))); done) | (exfalso; simp_all; done)
    rw [if_neg hn]
    by_cases hl : n ≤ v.count []
    · rw [if_pos hl]
      repeat' (first
    | ((first
      | ((first | refine AL.callv (by decide) fun Kr hr => ?_ | refine AL.callv0 fun Kr hr => ?_ | refine AL.g1v (by decide) rfl fun Kr hr => ?_); first
      | (refine AOp.cι (fun _ _ => rfl) [0] rfl (blob_Take c.s c.a c.e 32 h (by decide)) (Emb.one rfl) rfl ?_; rintro y obs ⟨rfl, rfl⟩)
      | (refine AOp.cι (fun _ _ => rfl) [0] rfl (varint_Take (c1.fail 14).s (c1.fail 14).a (c1.fail 14).e hqok) (Emb.one rfl) rfl ?_; rintro y obs ⟨rfl, rfl⟩)
      | (refine AOp.cι (fun _ _ => rfl) [0] rfl (cursor_Fail c1.s c1.a c1.e 14) (Emb.one rfl) rfl ?_; rintro y obs ⟨rfl, rfl⟩)
      | (refine AOp.cι (fun _ _ => rfl) [0] rfl (cursor_Fail c2.s c2.a c2.e 15) (Emb.one rfl) rfl ?_; rintro y obs ⟨rfl, rfl⟩)
      | (refine AOp.cι (fun _ _ => rfl) [] rfl (vector_Count v [] (by omega)) Emb.nil rfl ?_; rintro y obs ⟨rfl, rfl⟩))
      | refine AL.one (by decide) fun Kr hr => ?_
      | refine AL.one0 fun Kr hr => ?_); (try simp only [ao, List.map_cons, List.map_nil]); simp (disch := omega) only [go_sem, hb', hq']; (repeat first | refine ⟨by first | omega | assumption | rfl | (simp only [List.length_take, List.length_drop, List.length_append, List.length_cons, List.length_nil, List.length_map]; omega), ?_⟩); refine hr _ _ ?_; clear hr Kr)
    | refine AL.nil ?_ | refine AW.seq' ?_ | refine AW.region ?_ | refine AW.block ?_ | refine AW.skip ?_ | refine AW.ret ?_ | refine AW.exit ?_ | refine thenQ_n ?_ | refine thenQ_r ?_ | refine thenQ_e ?_ | refine blockQ_n ?_ | refine blockQ_r ?_ | refine blockQ_e ?_ | refine blockQ_o (by decide) ?_ | refine AW.draw T.mixed (by kernel_rfl) ?_ | (refine ADr.nil ?_; try clear hgv)
    | (refine AW.cond rfl (fun h => ?_) (fun h => ?_) <;> (try simp only [decide_eq_true_eq, decide_eq_false_iff_not, Bool.false_eq_true, Bool.true_eq_false, Bool.not_eq_true', Bool.not_eq_false', Bool.not_eq_eq_eq_not, Bool.not_true, Bool.not_false, Bool.and_eq_true, Bool.or_eq_true, Bool.and_eq_false_iff, Bool.or_eq_false_iff] at h) <;> try (exfalso; first | omega | contradiction))
    | ((first | refine ADr.gc ?_ (by decide) (by first | assumption | rfl) ?_ ?_ | refine ADr.c ?_ (by decide) ?_ ?_); rotate_left 1; focus ((repeat' (first | exact trivial | refine And.intro ?_ ?_)) <;> (intro Kr hr; (try simp only [ao, List.map_cons, List.map_nil]); simp (disch := omega) only [go_sem, hb', hq']; (repeat first | refine ⟨by first | omega | assumption | rfl | (simp only [List.length_take, List.length_drop, List.length_append, List.length_cons, List.length_nil, List.length_map]; omega), ?_⟩); exact hr)))
    | ((first | refine ADr.ccv ?_ (by decide) ?_ ?_ | refine ADr.gccv ?_ (by decide) (by first | assumption | rfl) ?_ ?_ | refine ADr.gc ?_ (by decide) (by first | assumption | rfl) ?_ ?_ | refine ADr.c ?_ (by decide) ?_ ?_); rotate_left 1; focus ((repeat' (first | exact trivial | refine And.intro ?_ ?_)) <;> (intro Kr hr; (try first | (refine AOp.cι (fun x hx => ev_keep _ x hx) [0] rfl (blob_Take c.s c.a c.e 32 h (by decide)) (Emb.one rfl) rfl ?_; rintro y obs ⟨rfl, rfl⟩) | (refine AOp.cι (fun x hx => ev_keep _ x hx) [0] rfl (varint_Take (c1.fail 14).s (c1.fail 14).a (c1.fail 14).e hqok) (Emb.one rfl) rfl ?_; rintro y obs ⟨rfl, rfl⟩) | (refine AOp.cι (fun x hx => ev_keep _ x hx) [0] rfl (cursor_Fail c1.s c1.a c1.e 14) (Emb.one rfl) rfl ?_; rintro y obs ⟨rfl, rfl⟩) | (refine AOp.cι (fun x hx => ev_keep _ x hx) [0] rfl (cursor_Fail c2.s c2.a c2.e 15) (Emb.one rfl) rfl ?_; rintro y obs ⟨rfl, rfl⟩) | (refine AOp.cι (fun x hx => ev_keep _ x hx) [] rfl (vector_Count v [] (by omega)) Emb.nil rfl ?_; rintro y obs ⟨rfl, rfl⟩)); (try simp only [ao, List.map_cons, List.map_nil]); simp (disch := omega) only [go_sem, hb', hq']; (repeat first | refine ⟨by first | omega | assumption | rfl | (simp only [List.length_take, List.length_drop, List.length_append, List.length_cons, List.length_nil, List.length_map]; omega), ?_⟩); exact hr)))
    | (refine ADr.gt (by decide) rfl ?_) | (refine ADr.gs (by decide) rfl (by decide) ?_)
    | (refine AL.gt (by decide) rfl ?_) | (refine AL.g0 (by decide) rfl (by decide) ?_) | (refine AL.g1 (by decide) rfl fun Kr hr => ?_; (try simp only [ao, List.map_cons, List.map_nil]); simp (disch := omega) only [go_sem, hb', hq']; (repeat first | refine ⟨by first | omega | assumption | rfl | (simp only [List.length_take, List.length_drop, List.length_append, List.length_cons, List.length_nil, List.length_map]; omega), ?_⟩); refine hr _ _ ?_; clear hr Kr)
    | ((first | refine ADr.gb (by decide) rfl (fun h hgv => ?_) (fun h => ?_) | refine AL.g (by decide) rfl (fun h => ?_) (fun h => ?_)) <;> (try simp only [Bool.not_true, Bool.not_false] at h) <;> (try simp only [h]) <;> simp only [decide_eq_true_eq, decide_eq_false_iff_not, Bool.false_eq_true, Bool.true_eq_false, Bool.not_eq_true', Bool.not_eq_false', Bool.not_eq_eq_eq_not, Bool.not_true, Bool.not_false, Bool.and_eq_true, Bool.or_eq_true, Bool.and_eq_false_iff, Bool.or_eq_false_iff] at h <;> try (exfalso; first | omega | contradiction)))
      all_goals first | (((all_goals first | refine RetQ.r 1 rfl (Nat.le_of_ble_eq_true rfl) rfl (by first | rfl | (simp only [go_sem, ↓reduceIte, Nat.reduceLT, Nat.lt_irrefl])) ⟨?_, ?_⟩ | refine RetQ.n 1 rfl (Nat.le_of_ble_eq_true rfl) rfl (by first | rfl | (simp only [go_sem, ↓reduceIte, Nat.reduceLT, Nat.lt_irrefl])) ⟨?_, ?_⟩); (all_goals first | rfl | (simp [*]; done) | ((simp only [go_sem, ↓reduceIte, Nat.reduceLT]; (repeat' split)) <;> first | rfl | (exfalso; omega) | (simp_all; done) | (simp_all; omega)))); done) | (exfalso; simp_all; done)
    · rw [if_neg hl]
      repeat' (first
    | ((first
      | ((first | refine AL.callv (by decide) fun Kr hr => ?_ | refine AL.callv0 fun Kr hr => ?_ | refine AL.g1v (by decide) rfl fun Kr hr => ?_); first
      | (refine AOp.cι (fun _ _ => rfl) [0] rfl (blob_Take c.s c.a c.e 32 h (by decide)) (Emb.one rfl) rfl ?_; rintro y obs ⟨rfl, rfl⟩)
      | (refine AOp.cι (fun _ _ => rfl) [0] rfl (varint_Take (c1.fail 14).s (c1.fail 14).a (c1.fail 14).e hqok) (Emb.one rfl) rfl ?_; rintro y obs ⟨rfl, rfl⟩)
      | (refine AOp.cι (fun _ _ => rfl) [0] rfl (cursor_Fail c1.s c1.a c1.e 14) (Emb.one rfl) rfl ?_; rintro y obs ⟨rfl, rfl⟩)
      | (refine AOp.cι (fun _ _ => rfl) [] rfl (vector_Count v [] (by omega)) Emb.nil rfl ?_; rintro y obs ⟨rfl, rfl⟩))
      | refine AL.one (by decide) fun Kr hr => ?_
      | refine AL.one0 fun Kr hr => ?_); (try simp only [ao, List.map_cons, List.map_nil]); simp (disch := omega) only [go_sem, hb', hq']; (repeat first | refine ⟨by first | omega | assumption | rfl | (simp only [List.length_take, List.length_drop, List.length_append, List.length_cons, List.length_nil, List.length_map]; omega), ?_⟩); refine hr _ _ ?_; clear hr Kr)
    | refine AL.nil ?_ | refine AW.seq' ?_ | refine AW.region ?_ | refine AW.block ?_ | refine AW.skip ?_ | refine AW.ret ?_ | refine AW.exit ?_ | refine thenQ_n ?_ | refine thenQ_r ?_ | refine thenQ_e ?_ | refine blockQ_n ?_ | refine blockQ_r ?_ | refine blockQ_e ?_ | refine blockQ_o (by decide) ?_ | refine AW.draw T.mixed (by kernel_rfl) ?_ | (refine ADr.nil ?_; try clear hgv)
    | (refine AW.cond rfl (fun h => ?_) (fun h => ?_) <;> (try simp only [decide_eq_true_eq, decide_eq_false_iff_not, Bool.false_eq_true, Bool.true_eq_false, Bool.not_eq_true', Bool.not_eq_false', Bool.not_eq_eq_eq_not, Bool.not_true, Bool.not_false, Bool.and_eq_true, Bool.or_eq_true, Bool.and_eq_false_iff, Bool.or_eq_false_iff] at h) <;> try (exfalso; first | omega | contradiction))
    | ((first | refine ADr.gc ?_ (by decide) (by first | assumption | rfl) ?_ ?_ | refine ADr.c ?_ (by decide) ?_ ?_); rotate_left 1; focus ((repeat' (first | exact trivial | refine And.intro ?_ ?_)) <;> (intro Kr hr; (try simp only [ao, List.map_cons, List.map_nil]); simp (disch := omega) only [go_sem, hb', hq']; (repeat first | refine ⟨by first | omega | assumption | rfl | (simp only [List.length_take, List.length_drop, List.length_append, List.length_cons, List.length_nil, List.length_map]; omega), ?_⟩); exact hr)))
    | ((first | refine ADr.ccv ?_ (by decide) ?_ ?_ | refine ADr.gccv ?_ (by decide) (by first | assumption | rfl) ?_ ?_ | refine ADr.gc ?_ (by decide) (by first | assumption | rfl) ?_ ?_ | refine ADr.c ?_ (by decide) ?_ ?_); rotate_left 1; focus ((repeat' (first | exact trivial | refine And.intro ?_ ?_)) <;> (intro Kr hr; (try first | (refine AOp.cι (fun x hx => ev_keep _ x hx) [0] rfl (blob_Take c.s c.a c.e 32 h (by decide)) (Emb.one rfl) rfl ?_; rintro y obs ⟨rfl, rfl⟩) | (refine AOp.cι (fun x hx => ev_keep _ x hx) [0] rfl (varint_Take (c1.fail 14).s (c1.fail 14).a (c1.fail 14).e hqok) (Emb.one rfl) rfl ?_; rintro y obs ⟨rfl, rfl⟩) | (refine AOp.cι (fun x hx => ev_keep _ x hx) [0] rfl (cursor_Fail c1.s c1.a c1.e 14) (Emb.one rfl) rfl ?_; rintro y obs ⟨rfl, rfl⟩) | (refine AOp.cι (fun x hx => ev_keep _ x hx) [] rfl (vector_Count v [] (by omega)) Emb.nil rfl ?_; rintro y obs ⟨rfl, rfl⟩)); (try simp only [ao, List.map_cons, List.map_nil]); simp (disch := omega) only [go_sem, hb', hq']; (repeat first | refine ⟨by first | omega | assumption | rfl | (simp only [List.length_take, List.length_drop, List.length_append, List.length_cons, List.length_nil, List.length_map]; omega), ?_⟩); exact hr)))
    | (refine ADr.gt (by decide) rfl ?_) | (refine ADr.gs (by decide) rfl (by decide) ?_)
    | (refine AL.gt (by decide) rfl ?_) | (refine AL.g0 (by decide) rfl (by decide) ?_) | (refine AL.g1 (by decide) rfl fun Kr hr => ?_; (try simp only [ao, List.map_cons, List.map_nil]); simp (disch := omega) only [go_sem, hb', hq']; (repeat first | refine ⟨by first | omega | assumption | rfl | (simp only [List.length_take, List.length_drop, List.length_append, List.length_cons, List.length_nil, List.length_map]; omega), ?_⟩); refine hr _ _ ?_; clear hr Kr)
    | ((first | refine ADr.gb (by decide) rfl (fun h hgv => ?_) (fun h => ?_) | refine AL.g (by decide) rfl (fun h => ?_) (fun h => ?_)) <;> (try simp only [Bool.not_true, Bool.not_false] at h) <;> (try simp only [h]) <;> simp only [decide_eq_true_eq, decide_eq_false_iff_not, Bool.false_eq_true, Bool.true_eq_false, Bool.not_eq_true', Bool.not_eq_false', Bool.not_eq_eq_eq_not, Bool.not_true, Bool.not_false, Bool.and_eq_true, Bool.or_eq_true, Bool.and_eq_false_iff, Bool.or_eq_false_iff] at h <;> try (exfalso; first | omega | contradiction)))
      all_goals first | (((all_goals first | refine RetQ.r 1 rfl (Nat.le_of_ble_eq_true rfl) rfl (by first | rfl | (simp only [go_sem, ↓reduceIte, Nat.reduceLT, Nat.lt_irrefl])) ⟨?_, ?_⟩ | refine RetQ.n 1 rfl (Nat.le_of_ble_eq_true rfl) rfl (by first | rfl | (simp only [go_sem, ↓reduceIte, Nat.reduceLT, Nat.lt_irrefl])) ⟨?_, ?_⟩); (all_goals first | rfl | (simp [*]; done) | ((simp only [go_sem, ↓reduceIte, Nat.reduceLT]; (repeat' split)) <;> first | rfl | (exfalso; omega) | (simp_all; done) | (simp_all; omega)))); done) | (exfalso; simp_all; done)
  · cases hq : c1.vtake with
    | mk n c2 =>
    have hq' : Cu.vtake ⟨c1.s, c1.a, c1.e⟩ = (n, c2) := hq
    rw [dot_eq hb (if_neg ht) hq]
    by_cases hn : n = 0
    · rw [if_pos hn]
      repeat' (first
    | ((first
      | ((first | refine AL.callv (by decide) fun Kr hr => ?_ | refine AL.callv0 fun Kr hr => ?_ | refine AL.g1v (by decide) rfl fun Kr hr => ?_); first
      | (refine AOp.cι (fun _ _ => rfl) [0] rfl (blob_Take c.s c.a c.e 32 h (by decide)) (Emb.one rfl) rfl ?_; rintro y obs ⟨rfl, rfl⟩)
      | (refine AOp.cι (fun _ _ => rfl) [0] rfl (varint_Take c1.s c1.a c1.e hbok) (Emb.one rfl) rfl ?_; rintro y obs ⟨rfl, rfl⟩)
      | (refine AOp.cι (fun _ _ => rfl) [0] rfl (cursor_Fail c2.s c2.a c2.e 7) (Emb.one rfl) rfl ?_; rintro y obs ⟨rfl, rfl⟩))
      | refine AL.one (by decide) fun Kr hr => ?_
      | refine AL.one0 fun Kr hr => ?_); (try simp only [ao, List.map_cons, List.map_nil]); simp (disch := omega) only [go_sem, hb', hq']; (repeat first | refine ⟨by first | omega | assumption | rfl | (simp only [List.length_take, List.length_drop, List.length_append, List.length_cons, List.length_nil, List.length_map]; omega), ?_⟩); refine hr _ _ ?_; clear hr Kr)
    | refine AL.nil ?_ | refine AW.seq' ?_ | refine AW.region ?_ | refine AW.block ?_ | refine AW.skip ?_ | refine AW.ret ?_ | refine AW.exit ?_ | refine thenQ_n ?_ | refine thenQ_r ?_ | refine thenQ_e ?_ | refine blockQ_n ?_ | refine blockQ_r ?_ | refine blockQ_e ?_ | refine blockQ_o (by decide) ?_ | refine AW.draw T.mixed (by kernel_rfl) ?_ | (refine ADr.nil ?_; try clear hgv)
    | (refine AW.cond rfl (fun h => ?_) (fun h => ?_) <;> (try simp only [decide_eq_true_eq, decide_eq_false_iff_not, Bool.false_eq_true, Bool.true_eq_false, Bool.not_eq_true', Bool.not_eq_false', Bool.not_eq_eq_eq_not, Bool.not_true, Bool.not_false, Bool.and_eq_true, Bool.or_eq_true, Bool.and_eq_false_iff, Bool.or_eq_false_iff] at h) <;> try (exfalso; first | omega | contradiction))
    | ((first | refine ADr.gc ?_ (by decide) (by first | assumption | rfl) ?_ ?_ | refine ADr.c ?_ (by decide) ?_ ?_); rotate_left 1; focus ((repeat' (first | exact trivial | refine And.intro ?_ ?_)) <;> (intro Kr hr; (try simp only [ao, List.map_cons, List.map_nil]); simp (disch := omega) only [go_sem, hb', hq']; (repeat first | refine ⟨by first | omega | assumption | rfl | (simp only [List.length_take, List.length_drop, List.length_append, List.length_cons, List.length_nil, List.length_map]; omega), ?_⟩); exact hr)))
    | ((first | refine ADr.ccv ?_ (by decide) ?_ ?_ | refine ADr.gccv ?_ (by decide) (by first | assumption | rfl) ?_ ?_ | refine ADr.gc ?_ (by decide) (by first | assumption | rfl) ?_ ?_ | refine ADr.c ?_ (by decide) ?_ ?_); rotate_left 1; focus ((repeat' (first | exact trivial | refine And.intro ?_ ?_)) <;> (intro Kr hr; (try first | (refine AOp.cι (fun x hx => ev_keep _ x hx) [0] rfl (blob_Take c.s c.a c.e 32 h (by decide)) (Emb.one rfl) rfl ?_; rintro y obs ⟨rfl, rfl⟩) | (refine AOp.cι (fun x hx => ev_keep _ x hx) [0] rfl (varint_Take c1.s c1.a c1.e hbok) (Emb.one rfl) rfl ?_; rintro y obs ⟨rfl, rfl⟩) | (refine AOp.cι (fun x hx => ev_keep _ x hx) [0] rfl (cursor_Fail c2.s c2.a c2.e 7) (Emb.one rfl) rfl ?_; rintro y obs ⟨rfl, rfl⟩)); (try simp only [ao, List.map_cons, List.map_nil]); simp (disch := omega) only [go_sem, hb', hq']; (repeat first | refine ⟨by first | omega | assumption | rfl | (simp only [List.length_take, List.length_drop, List.length_append, List.length_cons, List.length_nil, List.length_map]; omega), ?_⟩); exact hr)))
    | (refine ADr.gt (by decide) rfl ?_) | (refine ADr.gs (by decide) rfl (by decide) ?_)
    | (refine AL.gt (by decide) rfl ?_) | (refine AL.g0 (by decide) rfl (by decide) ?_) | (refine AL.g1 (by decide) rfl fun Kr hr => ?_; (try simp only [ao, List.map_cons, List.map_nil]); simp (disch := omega) only [go_sem, hb', hq']; (repeat first | refine ⟨by first | omega | assumption | rfl | (simp only [List.length_take, List.length_drop, List.length_append, List.length_cons, List.length_nil, List.length_map]; omega), ?_⟩); refine hr _ _ ?_; clear hr Kr)
    | ((first | refine ADr.gb (by decide) rfl (fun h hgv => ?_) (fun h => ?_) | refine AL.g (by decide) rfl (fun h => ?_) (fun h => ?_)) <;> (try simp only [Bool.not_true, Bool.not_false] at h) <;> (try simp only [h]) <;> simp only [decide_eq_true_eq, decide_eq_false_iff_not, Bool.false_eq_true, Bool.true_eq_false, Bool.not_eq_true', Bool.not_eq_false', Bool.not_eq_eq_eq_not, Bool.not_true, Bool.not_false, Bool.and_eq_true, Bool.or_eq_true, Bool.and_eq_false_iff, Bool.or_eq_false_iff] at h <;> try (exfalso; first | omega | contradiction)))
      all_goals first | (((all_goals first | refine RetQ.r 1 rfl (Nat.le_of_ble_eq_true rfl) rfl (by first | rfl | (simp only [go_sem, ↓reduceIte, Nat.reduceLT, Nat.lt_irrefl])) ⟨?_, ?_⟩ | refine RetQ.n 1 rfl (Nat.le_of_ble_eq_true rfl) rfl (by first | rfl | (simp only [go_sem, ↓reduceIte, Nat.reduceLT, Nat.lt_irrefl])) ⟨?_, ?_⟩); (all_goals first | rfl | (simp [*]; done) | ((simp only [go_sem, ↓reduceIte, Nat.reduceLT]; (repeat' split)) <;> first | rfl | (exfalso; omega) | (simp_all; done) | (simp_all; omega)))); done) | (exfalso; simp_all; done)
    rw [if_neg hn]
    by_cases hl : n ≤ v.count t
    · rw [if_pos hl]
      repeat' (first
    | ((first
      | ((first | refine AL.callv (by decide) fun Kr hr => ?_ | refine AL.callv0 fun Kr hr => ?_ | refine AL.g1v (by decide) rfl fun Kr hr => ?_); first
      | (refine AOp.cι (fun _ _ => rfl) [0] rfl (blob_Take c.s c.a c.e 32 h (by decide)) (Emb.one rfl) rfl ?_; rintro y obs ⟨rfl, rfl⟩)
      | (refine AOp.cι (fun _ _ => rfl) [0] rfl (varint_Take c1.s c1.a c1.e hbok) (Emb.one rfl) rfl ?_; rintro y obs ⟨rfl, rfl⟩)
      | (refine AOp.cι (fun _ _ => rfl) [0] rfl (cursor_Fail c2.s c2.a c2.e 15) (Emb.one rfl) rfl ?_; rintro y obs ⟨rfl, rfl⟩)
      | (refine AOp.cι (fun _ _ => rfl) [] rfl (vector_Count v t (by omega)) Emb.nil rfl ?_; rintro y obs ⟨rfl, rfl⟩))
      | refine AL.one (by decide) fun Kr hr => ?_
      | refine AL.one0 fun Kr hr => ?_); (try simp only [ao, List.map_cons, List.map_nil]); simp (disch := omega) only [go_sem, hb', hq']; (repeat first | refine ⟨by first | omega | assumption | rfl | (simp only [List.length_take, List.length_drop, List.length_append, List.length_cons, List.length_nil, List.length_map]; omega), ?_⟩); refine hr _ _ ?_; clear hr Kr)
    | refine AL.nil ?_ | refine AW.seq' ?_ | refine AW.region ?_ | refine AW.block ?_ | refine AW.skip ?_ | refine AW.ret ?_ | refine AW.exit ?_ | refine thenQ_n ?_ | refine thenQ_r ?_ | refine thenQ_e ?_ | refine blockQ_n ?_ | refine blockQ_r ?_ | refine blockQ_e ?_ | refine blockQ_o (by decide) ?_ | refine AW.draw T.mixed (by kernel_rfl) ?_ | (refine ADr.nil ?_; try clear hgv)
    | (refine AW.cond rfl (fun h => ?_) (fun h => ?_) <;> (try simp only [decide_eq_true_eq, decide_eq_false_iff_not, Bool.false_eq_true, Bool.true_eq_false, Bool.not_eq_true', Bool.not_eq_false', Bool.not_eq_eq_eq_not, Bool.not_true, Bool.not_false, Bool.and_eq_true, Bool.or_eq_true, Bool.and_eq_false_iff, Bool.or_eq_false_iff] at h) <;> try (exfalso; first | omega | contradiction))
    | ((first | refine ADr.gc ?_ (by decide) (by first | assumption | rfl) ?_ ?_ | refine ADr.c ?_ (by decide) ?_ ?_); rotate_left 1; focus ((repeat' (first | exact trivial | refine And.intro ?_ ?_)) <;> (intro Kr hr; (try simp only [ao, List.map_cons, List.map_nil]); simp (disch := omega) only [go_sem, hb', hq']; (repeat first | refine ⟨by first | omega | assumption | rfl | (simp only [List.length_take, List.length_drop, List.length_append, List.length_cons, List.length_nil, List.length_map]; omega), ?_⟩); exact hr)))
    | ((first | refine ADr.ccv ?_ (by decide) ?_ ?_ | refine ADr.gccv ?_ (by decide) (by first | assumption | rfl) ?_ ?_ | refine ADr.gc ?_ (by decide) (by first | assumption | rfl) ?_ ?_ | refine ADr.c ?_ (by decide) ?_ ?_); rotate_left 1; focus ((repeat' (first | exact trivial | refine And.intro ?_ ?_)) <;> (intro Kr hr; (try first | (refine AOp.cι (fun x hx => ev_keep _ x hx) [0] rfl (blob_Take c.s c.a c.e 32 h (by decide)) (Emb.one rfl) rfl ?_; rintro y obs ⟨rfl, rfl⟩) | (refine AOp.cι (fun x hx => ev_keep _ x hx) [0] rfl (varint_Take c1.s c1.a c1.e hbok) (Emb.one rfl) rfl ?_; rintro y obs ⟨rfl, rfl⟩) | (refine AOp.cι (fun x hx => ev_keep _ x hx) [0] rfl (cursor_Fail c2.s c2.a c2.e 15) (Emb.one rfl) rfl ?_; rintro y obs ⟨rfl, rfl⟩) | (refine AOp.cι (fun x hx => ev_keep _ x hx) [] rfl (vector_Count v t (by omega)) Emb.nil rfl ?_; rintro y obs ⟨rfl, rfl⟩)); (try simp only [ao, List.map_cons, List.map_nil]); simp (disch := omega) only [go_sem, hb', hq']; (repeat first | refine ⟨by first | omega | assumption | rfl | (simp only [List.length_take, List.length_drop, List.length_append, List.length_cons, List.length_nil, List.length_map]; omega), ?_⟩); exact hr)))
    | (refine ADr.gt (by decide) rfl ?_) | (refine ADr.gs (by decide) rfl (by decide) ?_)
    | (refine AL.gt (by decide) rfl ?_) | (refine AL.g0 (by decide) rfl (by decide) ?_) | (refine AL.g1 (by decide) rfl fun Kr hr => ?_; (try simp only [ao, List.map_cons, List.map_nil]); simp (disch := omega) only [go_sem, hb', hq']; (repeat first | refine ⟨by first | omega | assumption | rfl | (simp only [List.length_take, List.length_drop, List.length_append, List.length_cons, List.length_nil, List.length_map]; omega), ?_⟩); refine hr _ _ ?_; clear hr Kr)
    | ((first | refine ADr.gb (by decide) rfl (fun h hgv => ?_) (fun h => ?_) | refine AL.g (by decide) rfl (fun h => ?_) (fun h => ?_)) <;> (try simp only [Bool.not_true, Bool.not_false] at h) <;> (try simp only [h]) <;> simp only [decide_eq_true_eq, decide_eq_false_iff_not, Bool.false_eq_true, Bool.true_eq_false, Bool.not_eq_true', Bool.not_eq_false', Bool.not_eq_eq_eq_not, Bool.not_true, Bool.not_false, Bool.and_eq_true, Bool.or_eq_true, Bool.and_eq_false_iff, Bool.or_eq_false_iff] at h <;> try (exfalso; first | omega | contradiction)))
      all_goals first | (((all_goals first | refine RetQ.r 1 rfl (Nat.le_of_ble_eq_true rfl) rfl (by first | rfl | (simp only [go_sem, ↓reduceIte, Nat.reduceLT, Nat.lt_irrefl])) ⟨?_, ?_⟩ | refine RetQ.n 1 rfl (Nat.le_of_ble_eq_true rfl) rfl (by first | rfl | (simp only [go_sem, ↓reduceIte, Nat.reduceLT, Nat.lt_irrefl])) ⟨?_, ?_⟩); (all_goals first | rfl | (simp [*]; done) | ((simp only [go_sem, ↓reduceIte, Nat.reduceLT]; (repeat' split)) <;> first | rfl | (exfalso; omega) | (simp_all; done) | (simp_all; omega)))); done) | (exfalso; simp_all; done)
    · rw [if_neg hl]
      repeat' (first
    | ((first
      | ((first | refine AL.callv (by decide) fun Kr hr => ?_ | refine AL.callv0 fun Kr hr => ?_ | refine AL.g1v (by decide) rfl fun Kr hr => ?_); first
      | (refine AOp.cι (fun _ _ => rfl) [0] rfl (blob_Take c.s c.a c.e 32 h (by decide)) (Emb.one rfl) rfl ?_; rintro y obs ⟨rfl, rfl⟩)
      | (refine AOp.cι (fun _ _ => rfl) [0] rfl (varint_Take c1.s c1.a c1.e hbok) (Emb.one rfl) rfl ?_; rintro y obs ⟨rfl, rfl⟩)
      | (refine AOp.cι (fun _ _ => rfl) [] rfl (vector_Count v t (by omega)) Emb.nil rfl ?_; rintro y obs ⟨rfl, rfl⟩))
      | refine AL.one (by decide) fun Kr hr => ?_
      | refine AL.one0 fun Kr hr => ?_); (try simp only [ao, List.map_cons, List.map_nil]); simp (disch := omega) only [go_sem, hb', hq']; (repeat first | refine ⟨by first | omega | assumption | rfl | (simp only [List.length_take, List.length_drop, List.length_append, List.length_cons, List.length_nil, List.length_map]; omega), ?_⟩); refine hr _ _ ?_; clear hr Kr)
    | refine AL.nil ?_ | refine AW.seq' ?_ | refine AW.region ?_ | refine AW.block ?_ | refine AW.skip ?_ | refine AW.ret ?_ | refine AW.exit ?_ | refine thenQ_n ?_ | refine thenQ_r ?_ | refine thenQ_e ?_ | refine blockQ_n ?_ | refine blockQ_r ?_ | refine blockQ_e ?_ | refine blockQ_o (by decide) ?_ | refine AW.draw T.mixed (by kernel_rfl) ?_ | (refine ADr.nil ?_; try clear hgv)
    | (refine AW.cond rfl (fun h => ?_) (fun h => ?_) <;> (try simp only [decide_eq_true_eq, decide_eq_false_iff_not, Bool.false_eq_true, Bool.true_eq_false, Bool.not_eq_true', Bool.not_eq_false', Bool.not_eq_eq_eq_not, Bool.not_true, Bool.not_false, Bool.and_eq_true, Bool.or_eq_true, Bool.and_eq_false_iff, Bool.or_eq_false_iff] at h) <;> try (exfalso; first | omega | contradiction))
    | ((first | refine ADr.gc ?_ (by decide) (by first | assumption | rfl) ?_ ?_ | refine ADr.c ?_ (by decide) ?_ ?_); rotate_left 1; focus ((repeat' (first | exact trivial | refine And.intro ?_ ?_)) <;> (intro Kr hr; (try simp only [ao, List.map_cons, List.map_nil]); simp (disch := omega) only [go_sem, hb', hq']; (repeat first | refine ⟨by first | omega | assumption | rfl | (simp only [List.length_take, List.length_drop, List.length_append, List.length_cons, List.length_nil, List.length_map]; omega), ?_⟩); exact hr)))
    | ((first | refine ADr.ccv ?_ (by decide) ?_ ?_ | refine ADr.gccv ?_ (by decide) (by first | assumption | rfl) ?_ ?_ | refine ADr.gc ?_ (by decide) (by first | assumption | rfl) ?_ ?_ | refine ADr.c ?_ (by decide) ?_ ?_); rotate_left 1; focus ((repeat' (first | exact trivial | refine And.intro ?_ ?_)) <;> (intro Kr hr; (try first | (refine AOp.cι (fun x hx => ev_keep _ x hx) [0] rfl (blob_Take c.s c.a c.e 32 h (by decide)) (Emb.one rfl) rfl ?_; rintro y obs ⟨rfl, rfl⟩) | (refine AOp.cι (fun x hx => ev_keep _ x hx) [0] rfl (varint_Take c1.s c1.a c1.e hbok) (Emb.one rfl) rfl ?_; rintro y obs ⟨rfl, rfl⟩) | (refine AOp.cι (fun x hx => ev_keep _ x hx) [] rfl (vector_Count v t (by omega)) Emb.nil rfl ?_; rintro y obs ⟨rfl, rfl⟩)); (try simp only [ao, List.map_cons, List.map_nil]); simp (disch := omega) only [go_sem, hb', hq']; (repeat first | refine ⟨by first | omega | assumption | rfl | (simp only [List.length_take, List.length_drop, List.length_append, List.length_cons, List.length_nil, List.length_map]; omega), ?_⟩); exact hr)))
    | (refine ADr.gt (by decide) rfl ?_) | (refine ADr.gs (by decide) rfl (by decide) ?_)
    | (refine AL.gt (by decide) rfl ?_) | (refine AL.g0 (by decide) rfl (by decide) ?_) | (refine AL.g1 (by decide) rfl fun Kr hr => ?_; (try simp only [ao, List.map_cons, List.map_nil]); simp (disch := omega) only [go_sem, hb', hq']; (repeat first | refine ⟨by first | omega | assumption | rfl | (simp only [List.length_take, List.length_drop, List.length_append, List.length_cons, List.length_nil, List.length_map]; omega), ?_⟩); refine hr _ _ ?_; clear hr Kr)
    | ((first | refine ADr.gb (by decide) rfl (fun h hgv => ?_) (fun h => ?_) | refine AL.g (by decide) rfl (fun h => ?_) (fun h => ?_)) <;> (try simp only [Bool.not_true, Bool.not_false] at h) <;> (try simp only [h]) <;> simp only [decide_eq_true_eq, decide_eq_false_iff_not, Bool.false_eq_true, Bool.true_eq_false, Bool.not_eq_true', Bool.not_eq_false', Bool.not_eq_eq_eq_not, Bool.not_true, Bool.not_false, Bool.and_eq_true, Bool.or_eq_true, Bool.and_eq_false_iff, Bool.or_eq_false_iff] at h <;> try (exfalso; first | omega | contradiction)))
      all_goals first | (((all_goals first | refine RetQ.r 1 rfl (Nat.le_of_ble_eq_true rfl) rfl (by first | rfl | (simp only [go_sem, ↓reduceIte, Nat.reduceLT, Nat.lt_irrefl])) ⟨?_, ?_⟩ | refine RetQ.n 1 rfl (Nat.le_of_ble_eq_true rfl) rfl (by first | rfl | (simp only [go_sem, ↓reduceIte, Nat.reduceLT, Nat.lt_irrefl])) ⟨?_, ?_⟩); (all_goals first | rfl | (simp [*]; done) | ((simp only [go_sem, ↓reduceIte, Nat.reduceLT]; (repeat' split)) <;> first | rfl | (exfalso; omega) | (simp_all; done) | (simp_all; omega)))); done) | (exfalso; simp_all; done)

theorem dcode_Take (c : Cu) (h : c.Ok) : AC Try.prog 92 [.p 0 0] [Cu.ob c] fun x σ => x = ckV c.clk.1 ∧ σ = [Cu.ob c.clk.2] := by
  refine AC.walk Try.func92 rfl (by decide) (of_decide_eq_true rfl) ?_
  have hvl := Cu.vec_len c
  have hvok := Cu.vec_ok h
  cases h1 : c.vec with
  | mk v c1 =>
  rw [h1] at hvl hvok
  have h1' : Cu.vec ⟨c.s, c.a, c.e⟩ = (v, c1) := h1
  have hfok := Cu.flag_ok hvok
  simp only at hvl hfok
  cases h2 : c1.flag with
  | mk f c2 =>
  rw [h2] at hfok
  simp only at hfok
  have h2' : Cu.flag ⟨c1.s, c1.a, c1.e⟩ = (f, c2) := h2
  cases f with
  | false =>
    rw [clk_eq h1 h2 (d := ([], 0)) (c3 := c2) rfl]
    by_cases he : c2.e = 0
    · rw [if_neg (by simpa using he)]
      repeat' (first
    | ((first
      | ((first | refine AL.callv (by decide) fun Kr hr => ?_ | refine AL.callv0 fun Kr hr => ?_ | refine AL.g1v (by decide) rfl fun Kr hr => ?_); first
      | (refine AOp.cι (fun _ _ => rfl) [0] rfl (vcode_Take c.s c.a c.e h) (Emb.one rfl) rfl ?_; rintro y obs ⟨rfl, rfl⟩)
      | (refine AOp.cι (fun _ _ => rfl) [0] rfl (blob_Flag c1.s c1.a c1.e hvok) (Emb.one rfl) rfl ?_; rintro y obs ⟨rfl, rfl⟩)
      | (refine AOp.cι (fun _ _ => rfl) [0] rfl (cursor_Err c2.s c2.a c2.e) (Emb.one rfl) rfl ?_; rintro y obs ⟨rfl, rfl⟩))
      | refine AL.one (by decide) fun Kr hr => ?_
      | refine AL.one0 fun Kr hr => ?_); (try simp only [ao, List.map_cons, List.map_nil]); simp (disch := omega) only [go_sem, h1', h2']; (repeat first | refine ⟨by first | omega | assumption | rfl | (simp only [List.length_take, List.length_drop, List.length_append, List.length_cons, List.length_nil, List.length_map]; omega), ?_⟩); refine hr _ _ ?_; clear hr Kr)
    | refine AL.nil ?_ | refine AW.seq' ?_ | refine AW.region ?_ | refine AW.block ?_ | refine AW.skip ?_ | refine AW.ret ?_ | refine AW.exit ?_ | refine thenQ_n ?_ | refine thenQ_r ?_ | refine thenQ_e ?_ | refine blockQ_n ?_ | refine blockQ_r ?_ | refine blockQ_e ?_ | refine blockQ_o (by decide) ?_
    | (refine AW.cond rfl (fun h => ?_) (fun h => ?_) <;> (try simp only [decide_eq_true_eq, decide_eq_false_iff_not, Bool.false_eq_true, Bool.true_eq_false, Bool.not_eq_true', Bool.not_eq_false', Bool.not_eq_eq_eq_not, Bool.not_true, Bool.not_false, Bool.and_eq_true, Bool.or_eq_true, Bool.and_eq_false_iff, Bool.or_eq_false_iff] at h) <;> try (exfalso; first | omega | contradiction))
    | (refine AL.gt (by decide) rfl ?_) | (refine AL.g0 (by decide) rfl (by decide) ?_) | (refine AL.g1 (by decide) rfl fun Kr hr => ?_; (try simp only [ao, List.map_cons, List.map_nil]); simp (disch := omega) only [go_sem, h1', h2']; (repeat first | refine ⟨by first | omega | assumption | rfl | (simp only [List.length_take, List.length_drop, List.length_append, List.length_cons, List.length_nil, List.length_map]; omega), ?_⟩); refine hr _ _ ?_; clear hr Kr)
    | (refine AL.g (by decide) rfl (fun h => ?_) (fun h => ?_) <;> (try simp only [Bool.not_true, Bool.not_false] at h) <;> (try simp only [h]) <;> simp only [decide_eq_true_eq, decide_eq_false_iff_not, Bool.false_eq_true, Bool.true_eq_false, Bool.not_eq_true', Bool.not_eq_false', Bool.not_eq_eq_eq_not, Bool.not_true, Bool.not_false, Bool.and_eq_true, Bool.or_eq_true, Bool.and_eq_false_iff, Bool.or_eq_false_iff] at h <;> try (exfalso; first | omega | contradiction)))
      all_goals first | (((all_goals first | refine RetQ.r 1 rfl (Nat.le_of_ble_eq_true rfl) rfl (by first | rfl | (simp only [go_sem, ↓reduceIte, Nat.reduceLT, Nat.lt_irrefl])) ⟨?_, ?_⟩ | refine RetQ.n 1 rfl (Nat.le_of_ble_eq_true rfl) rfl (by first | rfl | (simp only [go_sem, ↓reduceIte, Nat.reduceLT, Nat.lt_irrefl])) ⟨?_, ?_⟩); (all_goals first | rfl | (simp [*]; done) | ((simp only [go_sem, ↓reduceIte, Nat.reduceLT]; (repeat' split)) <;> first | rfl | (exfalso; omega) | (simp_all; done) | (simp_all; omega)))); done) | (exfalso; simp_all; done)
    · rw [if_pos he]
      repeat' (first
    | ((first
      | ((first | refine AL.callv (by decide) fun Kr hr => ?_ | refine AL.callv0 fun Kr hr => ?_ | refine AL.g1v (by decide) rfl fun Kr hr => ?_); first
      | (refine AOp.cι (fun _ _ => rfl) [0] rfl (vcode_Take c.s c.a c.e h) (Emb.one rfl) rfl ?_; rintro y obs ⟨rfl, rfl⟩)
      | (refine AOp.cι (fun _ _ => rfl) [0] rfl (blob_Flag c1.s c1.a c1.e hvok) (Emb.one rfl) rfl ?_; rintro y obs ⟨rfl, rfl⟩)
      | (refine AOp.cι (fun _ _ => rfl) [0] rfl (cursor_Err c2.s c2.a c2.e) (Emb.one rfl) rfl ?_; rintro y obs ⟨rfl, rfl⟩))
      | refine AL.one (by decide) fun Kr hr => ?_
      | refine AL.one0 fun Kr hr => ?_); (try simp only [ao, List.map_cons, List.map_nil]); simp (disch := omega) only [go_sem, h1', h2']; (repeat first | refine ⟨by first | omega | assumption | rfl | (simp only [List.length_take, List.length_drop, List.length_append, List.length_cons, List.length_nil, List.length_map]; omega), ?_⟩); refine hr _ _ ?_; clear hr Kr)
    | refine AL.nil ?_ | refine AW.seq' ?_ | refine AW.region ?_ | refine AW.block ?_ | refine AW.skip ?_ | refine AW.ret ?_ | refine AW.exit ?_ | refine thenQ_n ?_ | refine thenQ_r ?_ | refine thenQ_e ?_ | refine blockQ_n ?_ | refine blockQ_r ?_ | refine blockQ_e ?_ | refine blockQ_o (by decide) ?_
    | (refine AW.cond rfl (fun h => ?_) (fun h => ?_) <;> (try simp only [decide_eq_true_eq, decide_eq_false_iff_not, Bool.false_eq_true, Bool.true_eq_false, Bool.not_eq_true', Bool.not_eq_false', Bool.not_eq_eq_eq_not, Bool.not_true, Bool.not_false, Bool.and_eq_true, Bool.or_eq_true, Bool.and_eq_false_iff, Bool.or_eq_false_iff] at h) <;> try (exfalso; first | omega | contradiction))
    | (refine AL.gt (by decide) rfl ?_) | (refine AL.g0 (by decide) rfl (by decide) ?_) | (refine AL.g1 (by decide) rfl fun Kr hr => ?_; (try simp only [ao, List.map_cons, List.map_nil]); simp (disch := omega) only [go_sem, h1', h2']; (repeat first | refine ⟨by first | omega | assumption | rfl | (simp only [List.length_take, List.length_drop, List.length_append, List.length_cons, List.length_nil, List.length_map]; omega), ?_⟩); refine hr _ _ ?_; clear hr Kr)
    | (refine AL.g (by decide) rfl (fun h => ?_) (fun h => ?_) <;> (try simp only [Bool.not_true, Bool.not_false] at h) <;> (try simp only [h]) <;> simp only [decide_eq_true_eq, decide_eq_false_iff_not, Bool.false_eq_true, Bool.true_eq_false, Bool.not_eq_true', Bool.not_eq_false', Bool.not_eq_eq_eq_not, Bool.not_true, Bool.not_false, Bool.and_eq_true, Bool.or_eq_true, Bool.and_eq_false_iff, Bool.or_eq_false_iff] at h <;> try (exfalso; first | omega | contradiction)))
      all_goals first | (((all_goals first | refine RetQ.r 1 rfl (Nat.le_of_ble_eq_true rfl) rfl (by first | rfl | (simp only [go_sem, ↓reduceIte, Nat.reduceLT, Nat.lt_irrefl])) ⟨?_, ?_⟩ | refine RetQ.n 1 rfl (Nat.le_of_ble_eq_true rfl) rfl (by first | rfl | (simp only [go_sem, ↓reduceIte, Nat.reduceLT, Nat.lt_irrefl])) ⟨?_, ?_⟩); (all_goals first | rfl | (simp [ck0, *]; done) | ((simp only [go_sem, ↓reduceIte, Nat.reduceLT, ck0]; (repeat' split)) <;> first | rfl | (exfalso; omega) | (simp_all; done) | (simp_all; omega)))); done) | (exfalso; simp_all; done)
  | true =>
    cases h3 : c2.dot v with
    | mk d c3 =>
    obtain ⟨t, n⟩ := d
    rw [clk_eq h1 h2 (d := (t, n)) (c3 := c3) h3]
    by_cases he : c3.e = 0
    · rw [if_neg (by simpa using he)]
      repeat' (first
    | ((first
      | ((first | refine AL.callv (by decide) fun Kr hr => ?_ | refine AL.callv0 fun Kr hr => ?_ | refine AL.g1v (by decide) rfl fun Kr hr => ?_); first
      | (refine AOp.cι (fun _ _ => rfl) [0] rfl (vcode_Take c.s c.a c.e h) (Emb.one rfl) rfl ?_; rintro y obs ⟨rfl, rfl⟩)
      | (refine AOp.cι (fun _ _ => rfl) [0] rfl (blob_Flag c1.s c1.a c1.e hvok) (Emb.one rfl) rfl ?_; rintro y obs ⟨rfl, rfl⟩)
      | (refine AOp.cι (fun _ _ => rfl) [0] rfl (dcode_dot c2 hfok v hvl) (Emb.one rfl) rfl ?_; rintro y obs ⟨rfl, rfl⟩)
      | (refine AOp.cι (fun _ _ => rfl) [0] rfl (cursor_Err c3.s c3.a c3.e) (Emb.one rfl) rfl ?_; rintro y obs ⟨rfl, rfl⟩))
      | refine AL.one (by decide) fun Kr hr => ?_
      | refine AL.one0 fun Kr hr => ?_); (try simp only [ao, List.map_cons, List.map_nil]); simp (disch := omega) only [go_sem, h1', h2', h3]; (repeat first | refine ⟨by first | omega | assumption | rfl | (simp only [List.length_take, List.length_drop, List.length_append, List.length_cons, List.length_nil, List.length_map]; omega), ?_⟩); refine hr _ _ ?_; clear hr Kr)
    | refine AL.nil ?_ | refine AW.seq' ?_ | refine AW.region ?_ | refine AW.block ?_ | refine AW.skip ?_ | refine AW.ret ?_ | refine AW.exit ?_ | refine thenQ_n ?_ | refine thenQ_r ?_ | refine thenQ_e ?_ | refine blockQ_n ?_ | refine blockQ_r ?_ | refine blockQ_e ?_ | refine blockQ_o (by decide) ?_
    | (refine AW.cond rfl (fun h => ?_) (fun h => ?_) <;> (try simp only [decide_eq_true_eq, decide_eq_false_iff_not, Bool.false_eq_true, Bool.true_eq_false, Bool.not_eq_true', Bool.not_eq_false', Bool.not_eq_eq_eq_not, Bool.not_true, Bool.not_false, Bool.and_eq_true, Bool.or_eq_true, Bool.and_eq_false_iff, Bool.or_eq_false_iff] at h) <;> try (exfalso; first | omega | contradiction))
    | (refine AL.gt (by decide) rfl ?_) | (refine AL.g0 (by decide) rfl (by decide) ?_) | (refine AL.g1 (by decide) rfl fun Kr hr => ?_; (try simp only [ao, List.map_cons, List.map_nil]); simp (disch := omega) only [go_sem, h1', h2', h3]; (repeat first | refine ⟨by first | omega | assumption | rfl | (simp only [List.length_take, List.length_drop, List.length_append, List.length_cons, List.length_nil, List.length_map]; omega), ?_⟩); refine hr _ _ ?_; clear hr Kr)
    | (refine AL.g (by decide) rfl (fun h => ?_) (fun h => ?_) <;> (try simp only [Bool.not_true, Bool.not_false] at h) <;> (try simp only [h]) <;> simp only [decide_eq_true_eq, decide_eq_false_iff_not, Bool.false_eq_true, Bool.true_eq_false, Bool.not_eq_true', Bool.not_eq_false', Bool.not_eq_eq_eq_not, Bool.not_true, Bool.not_false, Bool.and_eq_true, Bool.or_eq_true, Bool.and_eq_false_iff, Bool.or_eq_false_iff] at h <;> try (exfalso; first | omega | contradiction)))
      all_goals first | (((all_goals first | refine RetQ.r 1 rfl (Nat.le_of_ble_eq_true rfl) rfl (by first | rfl | (simp only [go_sem, ↓reduceIte, Nat.reduceLT, Nat.lt_irrefl])) ⟨?_, ?_⟩ | refine RetQ.n 1 rfl (Nat.le_of_ble_eq_true rfl) rfl (by first | rfl | (simp only [go_sem, ↓reduceIte, Nat.reduceLT, Nat.lt_irrefl])) ⟨?_, ?_⟩); (all_goals first | rfl | (simp [*]; done) | ((simp only [go_sem, ↓reduceIte, Nat.reduceLT]; (repeat' split)) <;> first | rfl | (exfalso; omega) | (simp_all; done) | (simp_all; omega)))); done) | (exfalso; simp_all; done)
    · rw [if_pos he]
      repeat' (first
    | ((first
      | ((first | refine AL.callv (by decide) fun Kr hr => ?_ | refine AL.callv0 fun Kr hr => ?_ | refine AL.g1v (by decide) rfl fun Kr hr => ?_); first
      | (refine AOp.cι (fun _ _ => rfl) [0] rfl (vcode_Take c.s c.a c.e h) (Emb.one rfl) rfl ?_; rintro y obs ⟨rfl, rfl⟩)
      | (refine AOp.cι (fun _ _ => rfl) [0] rfl (blob_Flag c1.s c1.a c1.e hvok) (Emb.one rfl) rfl ?_; rintro y obs ⟨rfl, rfl⟩)
      | (refine AOp.cι (fun _ _ => rfl) [0] rfl (dcode_dot c2 hfok v hvl) (Emb.one rfl) rfl ?_; rintro y obs ⟨rfl, rfl⟩)
      | (refine AOp.cι (fun _ _ => rfl) [0] rfl (cursor_Err c3.s c3.a c3.e) (Emb.one rfl) rfl ?_; rintro y obs ⟨rfl, rfl⟩))
      | refine AL.one (by decide) fun Kr hr => ?_
      | refine AL.one0 fun Kr hr => ?_); (try simp only [ao, List.map_cons, List.map_nil]); simp (disch := omega) only [go_sem, h1', h2', h3]; (repeat first | refine ⟨by first | omega | assumption | rfl | (simp only [List.length_take, List.length_drop, List.length_append, List.length_cons, List.length_nil, List.length_map]; omega), ?_⟩); refine hr _ _ ?_; clear hr Kr)
    | refine AL.nil ?_ | refine AW.seq' ?_ | refine AW.region ?_ | refine AW.block ?_ | refine AW.skip ?_ | refine AW.ret ?_ | refine AW.exit ?_ | refine thenQ_n ?_ | refine thenQ_r ?_ | refine thenQ_e ?_ | refine blockQ_n ?_ | refine blockQ_r ?_ | refine blockQ_e ?_ | refine blockQ_o (by decide) ?_
    | (refine AW.cond rfl (fun h => ?_) (fun h => ?_) <;> (try simp only [decide_eq_true_eq, decide_eq_false_iff_not, Bool.false_eq_true, Bool.true_eq_false, Bool.not_eq_true', Bool.not_eq_false', Bool.not_eq_eq_eq_not, Bool.not_true, Bool.not_false, Bool.and_eq_true, Bool.or_eq_true, Bool.and_eq_false_iff, Bool.or_eq_false_iff] at h) <;> try (exfalso; first | omega | contradiction))
    | (refine AL.gt (by decide) rfl ?_) | (refine AL.g0 (by decide) rfl (by decide) ?_) | (refine AL.g1 (by decide) rfl fun Kr hr => ?_; (try simp only [ao, List.map_cons, List.map_nil]); simp (disch := omega) only [go_sem, h1', h2', h3]; (repeat first | refine ⟨by first | omega | assumption | rfl | (simp only [List.length_take, List.length_drop, List.length_append, List.length_cons, List.length_nil, List.length_map]; omega), ?_⟩); refine hr _ _ ?_; clear hr Kr)
    | (refine AL.g (by decide) rfl (fun h => ?_) (fun h => ?_) <;> (try simp only [Bool.not_true, Bool.not_false] at h) <;> (try simp only [h]) <;> simp only [decide_eq_true_eq, decide_eq_false_iff_not, Bool.false_eq_true, Bool.true_eq_false, Bool.not_eq_true', Bool.not_eq_false', Bool.not_eq_eq_eq_not, Bool.not_true, Bool.not_false, Bool.and_eq_true, Bool.or_eq_true, Bool.and_eq_false_iff, Bool.or_eq_false_iff] at h <;> try (exfalso; first | omega | contradiction)))
      all_goals first | (((all_goals first | refine RetQ.r 1 rfl (Nat.le_of_ble_eq_true rfl) rfl (by first | rfl | (simp only [go_sem, ↓reduceIte, Nat.reduceLT, Nat.lt_irrefl])) ⟨?_, ?_⟩ | refine RetQ.n 1 rfl (Nat.le_of_ble_eq_true rfl) rfl (by first | rfl | (simp only [go_sem, ↓reduceIte, Nat.reduceLT, Nat.lt_irrefl])) ⟨?_, ?_⟩); (all_goals first | rfl | (simp [ck0, *]; done) | ((simp only [go_sem, ↓reduceIte, Nat.reduceLT, ck0]; (repeat' split)) <;> first | rfl | (exfalso; omega) | (simp_all; done) | (simp_all; omega)))); done) | (exfalso; simp_all; done)
end Go.AW
