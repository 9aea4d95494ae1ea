/-
  Row 13: the laws.
-/
import Derived.Test.YtiiacdheopdooaaClk5
import Derived.Test.YtiiacdheopdooaaLaw13a
namespace Go.AW
open Go Go.Proofs Go.RowKit
set_option maxHeartbeats 2000000
set_option maxRecDepth 10000
set_option linter.unusedSimpArgs false
set_option linter.unusedVariables false
attribute [local irreducible] thenQ blockQ RetQ AL AW AC AOp

theorem dcodeEncodes (k o : Ck) (hk : k.fits) (ho : o.fits) : AC Try.prog 19 [ckV k, ckV o] [] fun x σ => x = bv true ∧ σ = [] := by
  refine AC.walk Try.func19 rfl (by decide) (of_decide_eq_true rfl) ?_
  by_cases hgk : k.great = true
  · repeat' (first
    | ((first
      | ((first | refine AL.callv (by decide) fun Kr hr => ?_ | refine AL.callv0 fun Kr hr => ?_ | refine AL.g1v (by decide) rfl fun Kr hr => ?_); first
      | (refine AOp.cι (fun _ _ => rfl) [] rfl (awake13) Emb.nil rfl ?_; rintro y obs ⟨rfl, rfl⟩)
      | (refine AOp.cι (fun _ _ => rfl) [] rfl (ref12_Great k hk) Emb.nil rfl ?_; rintro y obs ⟨rfl, rfl⟩)
      | (refine AOp.cι (fun _ _ => rfl) [] rfl (ref12_Great o ho) Emb.nil rfl ?_; rintro y obs ⟨rfl, rfl⟩))
      | refine AL.one (by decide) fun Kr hr => ?_
      | refine AL.one0 fun Kr hr => ?_); (try simp only [ao, List.map_cons, List.map_nil]); simp (disch := omega) only [go_sem, hgk]; (repeat first | refine ⟨by first | omega | assumption | rfl | (simp only [List.length_take, List.length_drop, List.length_append, List.length_cons, List.length_nil, List.length_map]; omega), ?_⟩); refine hr _ _ ?_; clear hr Kr)
    | refine AL.nil ?_ | refine AW.seq' ?_ | refine AW.region ?_ | refine AW.block ?_ | refine AW.skip ?_ | refine AW.ret ?_ | refine AW.exit ?_ | refine thenQ_n ?_ | refine thenQ_r ?_ | refine thenQ_e ?_ | refine blockQ_n ?_ | refine blockQ_r ?_ | refine blockQ_e ?_ | refine blockQ_o (by decide) ?_
    | (refine AW.cond rfl (fun h => ?_) (fun h => ?_) <;> (try simp only [decide_eq_true_eq, decide_eq_false_iff_not, Bool.false_eq_true, Bool.true_eq_false, Bool.not_eq_true', Bool.not_eq_false', Bool.not_eq_eq_eq_not, Bool.not_true, Bool.not_false, Bool.and_eq_true, Bool.or_eq_true, Bool.and_eq_false_iff, Bool.or_eq_false_iff] at h) <;> try (exfalso; first | omega | contradiction))
    | (refine AL.gt (by decide) rfl ?_) | (refine AL.g0 (by decide) rfl (by decide) ?_) | (refine AL.g1 (by decide) rfl fun Kr hr => ?_; (try simp only [ao, List.map_cons, List.map_nil]); simp (disch := omega) only [go_sem, hgk]; (repeat first | refine ⟨by first | omega | assumption | rfl | (simp only [List.length_take, List.length_drop, List.length_append, List.length_cons, List.length_nil, List.length_map]; omega), ?_⟩); refine hr _ _ ?_; clear hr Kr)
    | (refine AL.g (by decide) rfl (fun h => ?_) (fun h => ?_) <;> (try simp only [Bool.not_true, Bool.not_false] at h) <;> (try simp only [h]) <;> simp only [decide_eq_true_eq, decide_eq_false_iff_not, Bool.false_eq_true, Bool.true_eq_false, Bool.not_eq_true', Bool.not_eq_false', Bool.not_eq_eq_eq_not, Bool.not_true, Bool.not_false, Bool.and_eq_true, Bool.or_eq_true, Bool.and_eq_false_iff, Bool.or_eq_false_iff] at h <;> try (exfalso; first | omega | contradiction)))
    all_goals first | (((all_goals first | refine RetQ.r 0 rfl (Nat.le_of_ble_eq_true rfl) rfl (by first | rfl | (simp only [go_sem, ↓reduceIte, Nat.reduceLT, Nat.lt_irrefl])) ⟨?_, ?_⟩ | refine RetQ.n 0 rfl (Nat.le_of_ble_eq_true rfl) rfl (by first | rfl | (simp only [go_sem, ↓reduceIte, Nat.reduceLT, Nat.lt_irrefl])) ⟨?_, ?_⟩); (all_goals first | rfl | (simp [*]; done) | ((simp only [go_sem, ↓reduceIte, Nat.reduceLT]; (repeat' split)) <;> first | rfl | (exfalso; omega) | (simp_all; done) | (simp_all; omega)))); done) | (exfalso; simp_all; done)
  have hgk : k.great = false := by simpa using hgk
  by_cases hgo : o.great = true
  · repeat' (first
    | ((first
      | ((first | refine AL.callv (by decide) fun Kr hr => ?_ | refine AL.callv0 fun Kr hr => ?_ | refine AL.g1v (by decide) rfl fun Kr hr => ?_); first
      | (refine AOp.cι (fun _ _ => rfl) [] rfl (awake13) Emb.nil rfl ?_; rintro y obs ⟨rfl, rfl⟩)
      | (refine AOp.cι (fun _ _ => rfl) [] rfl (ref12_Great k hk) Emb.nil rfl ?_; rintro y obs ⟨rfl, rfl⟩)
      | (refine AOp.cι (fun _ _ => rfl) [] rfl (ref12_Great o ho) Emb.nil rfl ?_; rintro y obs ⟨rfl, rfl⟩))
      | refine AL.one (by decide) fun Kr hr => ?_
      | refine AL.one0 fun Kr hr => ?_); (try simp only [ao, List.map_cons, List.map_nil]); simp (disch := omega) only [go_sem, hgk, hgo]; (repeat first | refine ⟨by first | omega | assumption | rfl | (simp only [List.length_take, List.length_drop, List.length_append, List.length_cons, List.length_nil, List.length_map]; omega), ?_⟩); refine hr _ _ ?_; clear hr Kr)
    | refine AL.nil ?_ | refine AW.seq' ?_ | refine AW.region ?_ | refine AW.block ?_ | refine AW.skip ?_ | refine AW.ret ?_ | refine AW.exit ?_ | refine thenQ_n ?_ | refine thenQ_r ?_ | refine thenQ_e ?_ | refine blockQ_n ?_ | refine blockQ_r ?_ | refine blockQ_e ?_ | refine blockQ_o (by decide) ?_
    | (refine AW.cond rfl (fun h => ?_) (fun h => ?_) <;> (try simp only [decide_eq_true_eq, decide_eq_false_iff_not, Bool.false_eq_true, Bool.true_eq_false, Bool.not_eq_true', Bool.not_eq_false', Bool.not_eq_eq_eq_not, Bool.not_true, Bool.not_false, Bool.and_eq_true, Bool.or_eq_true, Bool.and_eq_false_iff, Bool.or_eq_false_iff] at h) <;> try (exfalso; first | omega | contradiction))
    | (refine AL.gt (by decide) rfl ?_) | (refine AL.g0 (by decide) rfl (by decide) ?_) | (refine AL.g1 (by decide) rfl fun Kr hr => ?_; (try simp only [ao, List.map_cons, List.map_nil]); simp (disch := omega) only [go_sem, hgk, hgo]; (repeat first | refine ⟨by first | omega | assumption | rfl | (simp only [List.length_take, List.length_drop, List.length_append, List.length_cons, List.length_nil, List.length_map]; omega), ?_⟩); refine hr _ _ ?_; clear hr Kr)
    | (refine AL.g (by decide) rfl (fun h => ?_) (fun h => ?_) <;> (try simp only [Bool.not_true, Bool.not_false] at h) <;> (try simp only [h]) <;> simp only [decide_eq_true_eq, decide_eq_false_iff_not, Bool.false_eq_true, Bool.true_eq_false, Bool.not_eq_true', Bool.not_eq_false', Bool.not_eq_eq_eq_not, Bool.not_true, Bool.not_false, Bool.and_eq_true, Bool.or_eq_true, Bool.and_eq_false_iff, Bool.or_eq_false_iff] at h <;> try (exfalso; first | omega | contradiction)))
    all_goals first | (((all_goals first | refine RetQ.r 0 rfl (Nat.le_of_ble_eq_true rfl) rfl (by first | rfl | (simp only [go_sem, ↓reduceIte, Nat.reduceLT, Nat.lt_irrefl])) ⟨?_, ?_⟩ | refine RetQ.n 0 rfl (Nat.le_of_ble_eq_true rfl) rfl (by first | rfl | (simp only [go_sem, ↓reduceIte, Nat.reduceLT, Nat.lt_irrefl])) ⟨?_, ?_⟩); (all_goals first | rfl | (simp [*]; done) | ((simp only [go_sem, ↓reduceIte, Nat.reduceLT]; (repeat' split)) <;> first | rfl | (exfalso; omega) | (simp_all; done) | (simp_all; omega)))); done) | (exfalso; simp_all; done)
  have hgo : o.great = false := by simpa using hgo
  have hB := dcode_Below k o hk ho
  by_cases hc : k.check = 0
  · have hg : gclk k := ⟨hc, hk.1.2.2, hk.2.2⟩
    have he := clke_good hg
    have hw := clkw_fore hg
    have hl := eclk_len hg
    rw [he] at hB
    by_cases hd : o.check = 0
    · have hh : gclk o := ⟨hd, ho.1.2.2, ho.2.2⟩
      have hf := clke_good hh
      have hm := eclk_len hh
      rw [hf] at hB
      simp only [ne_eq, not_true_eq_false, or_self, if_false] at hB
      repeat' (first
    | ((first
      | ((first | refine AL.callv (by decide) fun Kr hr => ?_ | refine AL.callv0 fun Kr hr => ?_ | refine AL.g1v (by decide) rfl fun Kr hr => ?_); first
      | (refine AOp.cι (fun _ _ => rfl) [] rfl (awake13) Emb.nil rfl ?_; rintro y obs ⟨rfl, rfl⟩)
      | (refine AOp.cι (fun _ _ => rfl) [] rfl (ref12_Great k hk) Emb.nil rfl ?_; rintro y obs ⟨rfl, rfl⟩)
      | (refine AOp.cι (fun _ _ => rfl) [] rfl (ref12_Great o ho) Emb.nil rfl ?_; rintro y obs ⟨rfl, rfl⟩)
      | (refine AOp.cι (fun _ _ => rfl) [] rfl (dcode_Encode k hk) Emb.nil rfl ?_; rintro y obs ⟨rfl, rfl⟩)
      | (refine AOp.cι (fun _ _ => rfl) [] rfl (ref13_Encode k hk) Emb.nil rfl ?_; rintro y obs ⟨rfl, rfl⟩)
      | (refine AOp.cι (fun _ _ => rfl) [] rfl (ref13_Encode o ho) Emb.nil rfl ?_; rintro y obs ⟨rfl, rfl⟩)
      | (refine AOp.cι (fun _ _ => rfl) [] rfl (hB) Emb.nil rfl ?_; rintro y obs ⟨rfl, rfl⟩)
      | (refine AOp.cι (fun _ _ => rfl) [] rfl (dcode_Decode (eclk k) (by omega)) Emb.nil rfl ?_; rintro y obs ⟨rfl, rfl⟩)
      | (refine AOp.cι (fun _ _ => rfl) [] rfl (ref12_Same k k hk.1.1) Emb.nil rfl ?_; rintro y obs ⟨rfl, rfl⟩)
      | (refine AOp.cι (fun _ _ => rfl) [] rfl (ref06_Below (eclk k) (eclk o) (by omega) (by omega)) Emb.nil rfl ?_; rintro y obs ⟨rfl, rfl⟩))
      | refine AL.one (by decide) fun Kr hr => ?_
      | refine AL.one0 fun Kr hr => ?_); (try simp only [ao, List.map_cons, List.map_nil]); simp (disch := omega) only [go_sem, hgk, hgo, he, hf, hw]; (repeat first | refine ⟨by first | omega | assumption | rfl | (simp only [List.length_take, List.length_drop, List.length_append, List.length_cons, List.length_nil, List.length_map]; omega), ?_⟩); refine hr _ _ ?_; clear hr Kr)
    | refine AL.nil ?_ | refine AW.seq' ?_ | refine AW.region ?_ | refine AW.block ?_ | refine AW.skip ?_ | refine AW.ret ?_ | refine AW.exit ?_ | refine thenQ_n ?_ | refine thenQ_r ?_ | refine thenQ_e ?_ | refine blockQ_n ?_ | refine blockQ_r ?_ | refine blockQ_e ?_ | refine blockQ_o (by decide) ?_
    | (refine AW.cond rfl (fun h => ?_) (fun h => ?_) <;> (try simp only [decide_eq_true_eq, decide_eq_false_iff_not, Bool.false_eq_true, Bool.true_eq_false, Bool.not_eq_true', Bool.not_eq_false', Bool.not_eq_eq_eq_not, Bool.not_true, Bool.not_false, Bool.and_eq_true, Bool.or_eq_true, Bool.and_eq_false_iff, Bool.or_eq_false_iff] at h) <;> try (exfalso; first | omega | contradiction))
    | (refine AL.gt (by decide) rfl ?_) | (refine AL.g0 (by decide) rfl (by decide) ?_) | (refine AL.g1 (by decide) rfl fun Kr hr => ?_; (try simp only [ao, List.map_cons, List.map_nil]); simp (disch := omega) only [go_sem, hgk, hgo, he, hf, hw]; (repeat first | refine ⟨by first | omega | assumption | rfl | (simp only [List.length_take, List.length_drop, List.length_append, List.length_cons, List.length_nil, List.length_map]; omega), ?_⟩); refine hr _ _ ?_; clear hr Kr)
    | (refine AL.g (by decide) rfl (fun h => ?_) (fun h => ?_) <;> (try simp only [Bool.not_true, Bool.not_false] at h) <;> (try simp only [h]) <;> simp only [decide_eq_true_eq, decide_eq_false_iff_not, Bool.false_eq_true, Bool.true_eq_false, Bool.not_eq_true', Bool.not_eq_false', Bool.not_eq_eq_eq_not, Bool.not_true, Bool.not_false, Bool.and_eq_true, Bool.or_eq_true, Bool.and_eq_false_iff, Bool.or_eq_false_iff] at h <;> try (exfalso; first | omega | contradiction)))
      all_goals first | (((all_goals first | refine RetQ.r 0 rfl (Nat.le_of_ble_eq_true rfl) rfl (by first | rfl | (simp only [go_sem, ↓reduceIte, Nat.reduceLT, Nat.lt_irrefl])) ⟨?_, ?_⟩ | refine RetQ.n 0 rfl (Nat.le_of_ble_eq_true rfl) rfl (by first | rfl | (simp only [go_sem, ↓reduceIte, Nat.reduceLT, Nat.lt_irrefl])) ⟨?_, ?_⟩); (all_goals first | rfl | (simp [*]; done) | ((simp only [go_sem, ↓reduceIte, Nat.reduceLT]; (repeat' split)) <;> first | rfl | (exfalso; omega) | (simp_all; done) | (simp_all; omega)))); done) | (exfalso; simp_all; done)
    · have hf := clke_bad hd
      rw [hf] at hB
      simp only [ne_eq, hd, not_true_eq_false, not_false_eq_true, or_true, if_true] at hB
      repeat' (first
    | ((first
      | ((first | refine AL.callv (by decide) fun Kr hr => ?_ | refine AL.callv0 fun Kr hr => ?_ | refine AL.g1v (by decide) rfl fun Kr hr => ?_); first
      | (refine AOp.cι (fun _ _ => rfl) [] rfl (awake13) Emb.nil rfl ?_; rintro y obs ⟨rfl, rfl⟩)
      | (refine AOp.cι (fun _ _ => rfl) [] rfl (ref12_Great k hk) Emb.nil rfl ?_; rintro y obs ⟨rfl, rfl⟩)
      | (refine AOp.cι (fun _ _ => rfl) [] rfl (ref12_Great o ho) Emb.nil rfl ?_; rintro y obs ⟨rfl, rfl⟩)
      | (refine AOp.cι (fun _ _ => rfl) [] rfl (dcode_Encode k hk) Emb.nil rfl ?_; rintro y obs ⟨rfl, rfl⟩)
      | (refine AOp.cι (fun _ _ => rfl) [] rfl (ref13_Encode k hk) Emb.nil rfl ?_; rintro y obs ⟨rfl, rfl⟩)
      | (refine AOp.cι (fun _ _ => rfl) [] rfl (ref13_Encode o ho) Emb.nil rfl ?_; rintro y obs ⟨rfl, rfl⟩)
      | (refine AOp.cι (fun _ _ => rfl) [] rfl (hB) Emb.nil rfl ?_; rintro y obs ⟨rfl, rfl⟩))
      | refine AL.one (by decide) fun Kr hr => ?_
      | refine AL.one0 fun Kr hr => ?_); (try simp only [ao, List.map_cons, List.map_nil]); simp (disch := omega) only [go_sem, hgk, hgo, he, hf]; (repeat first | refine ⟨by first | omega | assumption | rfl | (simp only [List.length_take, List.length_drop, List.length_append, List.length_cons, List.length_nil, List.length_map]; omega), ?_⟩); refine hr _ _ ?_; clear hr Kr)
    | refine AL.nil ?_ | refine AW.seq' ?_ | refine AW.region ?_ | refine AW.block ?_ | refine AW.skip ?_ | refine AW.ret ?_ | refine AW.exit ?_ | refine thenQ_n ?_ | refine thenQ_r ?_ | refine thenQ_e ?_ | refine blockQ_n ?_ | refine blockQ_r ?_ | refine blockQ_e ?_ | refine blockQ_o (by decide) ?_
    | (refine AW.cond rfl (fun h => ?_) (fun h => ?_) <;> (try simp only [decide_eq_true_eq, decide_eq_false_iff_not, Bool.false_eq_true, Bool.true_eq_false, Bool.not_eq_true', Bool.not_eq_false', Bool.not_eq_eq_eq_not, Bool.not_true, Bool.not_false, Bool.and_eq_true, Bool.or_eq_true, Bool.and_eq_false_iff, Bool.or_eq_false_iff] at h) <;> try (exfalso; first | omega | contradiction))
    | (refine AL.gt (by decide) rfl ?_) | (refine AL.g0 (by decide) rfl (by decide) ?_) | (refine AL.g1 (by decide) rfl fun Kr hr => ?_; (try simp only [ao, List.map_cons, List.map_nil]); simp (disch := omega) only [go_sem, hgk, hgo, he, hf]; (repeat first | refine ⟨by first | omega | assumption | rfl | (simp only [List.length_take, List.length_drop, List.length_append, List.length_cons, List.length_nil, List.length_map]; omega), ?_⟩); refine hr _ _ ?_; clear hr Kr)
    | (refine AL.g (by decide) rfl (fun h => ?_) (fun h => ?_) <;> (try simp only [Bool.not_true, Bool.not_false] at h) <;> (try simp only [h]) <;> simp only [decide_eq_true_eq, decide_eq_false_iff_not, Bool.false_eq_true, Bool.true_eq_false, Bool.not_eq_true', Bool.not_eq_false', Bool.not_eq_eq_eq_not, Bool.not_true, Bool.not_false, Bool.and_eq_true, Bool.or_eq_true, Bool.and_eq_false_iff, Bool.or_eq_false_iff] at h <;> try (exfalso; first | omega | contradiction)))
      all_goals first | (((all_goals first | refine RetQ.r 0 rfl (Nat.le_of_ble_eq_true rfl) rfl (by first | rfl | (simp only [go_sem, ↓reduceIte, Nat.reduceLT, Nat.lt_irrefl])) ⟨?_, ?_⟩ | refine RetQ.n 0 rfl (Nat.le_of_ble_eq_true rfl) rfl (by first | rfl | (simp only [go_sem, ↓reduceIte, Nat.reduceLT, Nat.lt_irrefl])) ⟨?_, ?_⟩); (all_goals first | rfl | (simp [*]; done) | ((simp only [go_sem, ↓reduceIte, Nat.reduceLT]; (repeat' split)) <;> first | rfl | (exfalso; omega) | (simp_all; done) | (simp_all; omega)))); done) | (exfalso; simp_all; done)
  · have he := clke_bad hc
    rw [he] at hB
    simp only [ne_eq, hc, not_false_eq_true, true_or, if_true] at hB
    repeat' (first
    | ((first
      | ((first | refine AL.callv (by decide) fun Kr hr => ?_ | refine AL.callv0 fun Kr hr => ?_ | refine AL.g1v (by decide) rfl fun Kr hr => ?_); first
      | (refine AOp.cι (fun _ _ => rfl) [] rfl (awake13) Emb.nil rfl ?_; rintro y obs ⟨rfl, rfl⟩)
      | (refine AOp.cι (fun _ _ => rfl) [] rfl (ref12_Great k hk) Emb.nil rfl ?_; rintro y obs ⟨rfl, rfl⟩)
      | (refine AOp.cι (fun _ _ => rfl) [] rfl (ref12_Great o ho) Emb.nil rfl ?_; rintro y obs ⟨rfl, rfl⟩)
      | (refine AOp.cι (fun _ _ => rfl) [] rfl (dcode_Encode k hk) Emb.nil rfl ?_; rintro y obs ⟨rfl, rfl⟩)
      | (refine AOp.cι (fun _ _ => rfl) [] rfl (ref13_Encode k hk) Emb.nil rfl ?_; rintro y obs ⟨rfl, rfl⟩)
      | (refine AOp.cι (fun _ _ => rfl) [] rfl (ref13_Encode o ho) Emb.nil rfl ?_; rintro y obs ⟨rfl, rfl⟩)
      | (refine AOp.cι (fun _ _ => rfl) [] rfl (hB) Emb.nil rfl ?_; rintro y obs ⟨rfl, rfl⟩))
      | refine AL.one (by decide) fun Kr hr => ?_
      | refine AL.one0 fun Kr hr => ?_); (try simp only [ao, List.map_cons, List.map_nil]); simp (disch := omega) only [go_sem, hgk, hgo, he]; (repeat first | refine ⟨by first | omega | assumption | rfl | (simp only [List.length_take, List.length_drop, List.length_append, List.length_cons, List.length_nil, List.length_map]; omega), ?_⟩); refine hr _ _ ?_; clear hr Kr)
    | refine AL.nil ?_ | refine AW.seq' ?_ | refine AW.region ?_ | refine AW.block ?_ | refine AW.skip ?_ | refine AW.ret ?_ | refine AW.exit ?_ | refine thenQ_n ?_ | refine thenQ_r ?_ | refine thenQ_e ?_ | refine blockQ_n ?_ | refine blockQ_r ?_ | refine blockQ_e ?_ | refine blockQ_o (by decide) ?_
    | (refine AW.cond rfl (fun h => ?_) (fun h => ?_) <;> (try simp only [decide_eq_true_eq, decide_eq_false_iff_not, Bool.false_eq_true, Bool.true_eq_false, Bool.not_eq_true', Bool.not_eq_false', Bool.not_eq_eq_eq_not, Bool.not_true, Bool.not_false, Bool.and_eq_true, Bool.or_eq_true, Bool.and_eq_false_iff, Bool.or_eq_false_iff] at h) <;> try (exfalso; first | omega | contradiction))
    | (refine AL.gt (by decide) rfl ?_) | (refine AL.g0 (by decide) rfl (by decide) ?_) | (refine AL.g1 (by decide) rfl fun Kr hr => ?_; (try simp only [ao, List.map_cons, List.map_nil]); simp (disch := omega) only [go_sem, hgk, hgo, he]; (repeat first | refine ⟨by first | omega | assumption | rfl | (simp only [List.length_take, List.length_drop, List.length_append, List.length_cons, List.length_nil, List.length_map]; omega), ?_⟩); refine hr _ _ ?_; clear hr Kr)
    | (refine AL.g (by decide) rfl (fun h => ?_) (fun h => ?_) <;> (try simp only [Bool.not_true, Bool.not_false] at h) <;> (try simp only [h]) <;> simp only [decide_eq_true_eq, decide_eq_false_iff_not, Bool.false_eq_true, Bool.true_eq_false, Bool.not_eq_true', Bool.not_eq_false', Bool.not_eq_eq_eq_not, Bool.not_true, Bool.not_false, Bool.and_eq_true, Bool.or_eq_true, Bool.and_eq_false_iff, Bool.or_eq_false_iff] at h <;> try (exfalso; first | omega | contradiction)))
    all_goals first | (((all_goals first | refine RetQ.r 0 rfl (Nat.le_of_ble_eq_true rfl) rfl (by first | rfl | (simp only [go_sem, ↓reduceIte, Nat.reduceLT, Nat.lt_irrefl])) ⟨?_, ?_⟩ | refine RetQ.n 0 rfl (Nat.le_of_ble_eq_true rfl) rfl (by first | rfl | (simp only [go_sem, ↓reduceIte, Nat.reduceLT, Nat.lt_irrefl])) ⟨?_, ?_⟩); (all_goals first | rfl | (simp [*]; done) | ((simp only [go_sem, ↓reduceIte, Nat.reduceLT]; (repeat' split)) <;> first | rfl | (exfalso; omega) | (simp_all; done) | (simp_all; omega)))); done) | (exfalso; simp_all; done)

theorem dcodeDecodes (s : List UInt8) (hs : s.length ≤ 9223372036854775807) : AC Try.prog 15 [sv (bs s)] [] fun x σ => x = bv true ∧ σ = [] := by
  refine AC.walk Try.func15 rfl (by decide) (of_decide_eq_true rfl) ?_
  by_cases h3 : s.length ≤ 3000
  case neg =>
    repeat' (first
    | ((first
      | ((first | refine AL.callv (by decide) fun Kr hr => ?_ | refine AL.callv0 fun Kr hr => ?_ | refine AL.g1v (by decide) rfl fun Kr hr => ?_); first
      | (refine AOp.cι (fun _ _ => rfl) [] rfl (awake13) Emb.nil rfl ?_; rintro y obs ⟨rfl, rfl⟩))
      | refine AL.one (by decide) fun Kr hr => ?_
      | refine AL.one0 fun Kr hr => ?_); (try simp only [ao, List.map_cons, List.map_nil]); simp (disch := omega) only [go_sem]; (repeat first | refine ⟨by first | omega | assumption | rfl | (simp only [List.length_take, List.length_drop, List.length_append, List.length_cons, List.length_nil, List.length_map]; omega), ?_⟩); refine hr _ _ ?_; clear hr Kr)
    | refine AL.nil ?_ | refine AW.seq' ?_ | refine AW.region ?_ | refine AW.block ?_ | refine AW.skip ?_ | refine AW.ret ?_ | refine AW.exit ?_ | refine thenQ_n ?_ | refine thenQ_r ?_ | refine thenQ_e ?_ | refine blockQ_n ?_ | refine blockQ_r ?_ | refine blockQ_e ?_ | refine blockQ_o (by decide) ?_
    | (refine AW.cond rfl (fun h => ?_) (fun h => ?_) <;> (try simp only [decide_eq_true_eq, decide_eq_false_iff_not, Bool.false_eq_true, Bool.true_eq_false, Bool.not_eq_true', Bool.not_eq_false', Bool.not_eq_eq_eq_not, Bool.not_true, Bool.not_false, Bool.and_eq_true, Bool.or_eq_true, Bool.and_eq_false_iff, Bool.or_eq_false_iff] at h) <;> try (exfalso; first | omega | contradiction))
    | (refine AL.gt (by decide) rfl ?_) | (refine AL.g0 (by decide) rfl (by decide) ?_) | (refine AL.g1 (by decide) rfl fun Kr hr => ?_; (try simp only [ao, List.map_cons, List.map_nil]); simp (disch := omega) only [go_sem]; (repeat first | refine ⟨by first | omega | assumption | rfl | (simp only [List.length_take, List.length_drop, List.length_append, List.length_cons, List.length_nil, List.length_map]; omega), ?_⟩); refine hr _ _ ?_; clear hr Kr)
    | (refine AL.g (by decide) rfl (fun h => ?_) (fun h => ?_) <;> (try simp only [Bool.not_true, Bool.not_false] at h) <;> (try simp only [h]) <;> simp only [decide_eq_true_eq, decide_eq_false_iff_not, Bool.false_eq_true, Bool.true_eq_false, Bool.not_eq_true', Bool.not_eq_false', Bool.not_eq_eq_eq_not, Bool.not_true, Bool.not_false, Bool.and_eq_true, Bool.or_eq_true, Bool.and_eq_false_iff, Bool.or_eq_false_iff] at h <;> try (exfalso; first | omega | contradiction)))
    all_goals first | (exfalso; omega) | (((all_goals first | refine RetQ.r 0 rfl (Nat.le_of_ble_eq_true rfl) rfl (by first | rfl | (simp only [go_sem, ↓reduceIte, Nat.reduceLT, Nat.lt_irrefl])) ⟨?_, ?_⟩ | refine RetQ.n 0 rfl (Nat.le_of_ble_eq_true rfl) rfl (by first | rfl | (simp only [go_sem, ↓reduceIte, Nat.reduceLT, Nat.lt_irrefl])) ⟨?_, ?_⟩); (all_goals first | rfl | (simp [*]; done) | ((simp only [go_sem, ↓reduceIte, Nat.reduceLT]; (repeat' split)) <;> first | rfl | (exfalso; omega) | (simp_all; done) | (simp_all; omega)))); done)
  have hwl : (clkw s).1.ctx.length ≤ 64 := by
    unfold clkw
    simp only
    split
    · exact Nat.zero_le _
    · exact Cu.clk_ctx _
  by_cases he : (clkw s).2 = 0
  · obtain ⟨hg, hs2⟩ := clkw_back he
    have hfit : (clkw s).1.fits := ⟨⟨by omega, fun x hx => Nat.le_trans ((Vec.check_len (Ck.check_parts hg.1).1).2 x hx) (by decide), hg.2.1⟩, Nat.le_trans (Ck.dot_len hg.1) (by decide), hg.2.2⟩
    have hen := clke_good hg
    rw [← hs2] at hen
    have hck := hg.1
    generalize hz : clkw s = z at *
    obtain ⟨v, e⟩ := z
    simp only at *
    repeat' (first
    | ((first
      | ((first | refine AL.callv (by decide) fun Kr hr => ?_ | refine AL.callv0 fun Kr hr => ?_ | refine AL.g1v (by decide) rfl fun Kr hr => ?_); first
      | (refine AOp.cι (fun _ _ => rfl) [] rfl (awake13) Emb.nil rfl ?_; rintro y obs ⟨rfl, rfl⟩)
      | (refine AOp.cι (fun _ _ => rfl) [] rfl (dcode_Decode s (by omega)) Emb.nil rfl ?_; rintro y obs ⟨rfl, rfl⟩)
      | (refine AOp.cι (fun _ _ => rfl) [] rfl (ref13_Decode s (by omega)) Emb.nil rfl ?_; rintro y obs ⟨rfl, rfl⟩)
      | (refine AOp.cι (fun _ _ => rfl) [] rfl (ref12_Same v v (by omega)) Emb.nil rfl ?_; rintro y obs ⟨rfl, rfl⟩)
      | (refine AOp.cι (fun _ _ => rfl) [] rfl (dcode_Encode v hfit) Emb.nil rfl ?_; rintro y obs ⟨rfl, rfl⟩)
      | (refine AOp.cι (fun _ _ => rfl) [] rfl (ref12_Check v hfit) Emb.nil rfl ?_; rintro y obs ⟨rfl, rfl⟩))
      | refine AL.one (by decide) fun Kr hr => ?_
      | refine AL.one0 fun Kr hr => ?_); (try simp only [ao, List.map_cons, List.map_nil]); simp (disch := omega) only [go_sem, hz, hen, he, hck]; (repeat first | refine ⟨by first | omega | assumption | rfl | (simp only [List.length_take, List.length_drop, List.length_append, List.length_cons, List.length_nil, List.length_map]; omega), ?_⟩); refine hr _ _ ?_; clear hr Kr)
    | refine AL.nil ?_ | refine AW.seq' ?_ | refine AW.region ?_ | refine AW.block ?_ | refine AW.skip ?_ | refine AW.ret ?_ | refine AW.exit ?_ | refine thenQ_n ?_ | refine thenQ_r ?_ | refine thenQ_e ?_ | refine blockQ_n ?_ | refine blockQ_r ?_ | refine blockQ_e ?_ | refine blockQ_o (by decide) ?_
    | (refine AW.cond rfl (fun h => ?_) (fun h => ?_) <;> (try simp only [decide_eq_true_eq, decide_eq_false_iff_not, Bool.false_eq_true, Bool.true_eq_false, Bool.not_eq_true', Bool.not_eq_false', Bool.not_eq_eq_eq_not, Bool.not_true, Bool.not_false, Bool.and_eq_true, Bool.or_eq_true, Bool.and_eq_false_iff, Bool.or_eq_false_iff] at h) <;> try (exfalso; first | omega | contradiction))
    | (refine AL.gt (by decide) rfl ?_) | (refine AL.g0 (by decide) rfl (by decide) ?_) | (refine AL.g1 (by decide) rfl fun Kr hr => ?_; (try simp only [ao, List.map_cons, List.map_nil]); simp (disch := omega) only [go_sem, hz, hen, he, hck]; (repeat first | refine ⟨by first | omega | assumption | rfl | (simp only [List.length_take, List.length_drop, List.length_append, List.length_cons, List.length_nil, List.length_map]; omega), ?_⟩); refine hr _ _ ?_; clear hr Kr)
    | (refine AL.g (by decide) rfl (fun h => ?_) (fun h => ?_) <;> (try simp only [Bool.not_true, Bool.not_false] at h) <;> (try simp only [h]) <;> simp only [decide_eq_true_eq, decide_eq_false_iff_not, Bool.false_eq_true, Bool.true_eq_false, Bool.not_eq_true', Bool.not_eq_false', Bool.not_eq_eq_eq_not, Bool.not_true, Bool.not_false, Bool.and_eq_true, Bool.or_eq_true, Bool.and_eq_false_iff, Bool.or_eq_false_iff] at h <;> try (exfalso; first | omega | contradiction)))
    all_goals first | (((all_goals first | refine RetQ.r 0 rfl (Nat.le_of_ble_eq_true rfl) rfl (by first | rfl | (simp only [go_sem, ↓reduceIte, Nat.reduceLT, Nat.lt_irrefl])) ⟨?_, ?_⟩ | refine RetQ.n 0 rfl (Nat.le_of_ble_eq_true rfl) rfl (by first | rfl | (simp only [go_sem, ↓reduceIte, Nat.reduceLT, Nat.lt_irrefl])) ⟨?_, ?_⟩); (all_goals first | rfl | (simp [*]; done) | ((simp only [go_sem, ↓reduceIte, Nat.reduceLT]; (repeat' split)) <;> first | rfl | (exfalso; omega) | (simp_all; done) | (simp_all; omega)))); done) | (exfalso; simp_all; done)
  · have hb := clkw_bad he
    generalize hz : clkw s = z at *
    obtain ⟨v, e⟩ := z
    simp only at *
    repeat' (first
    | ((first
      | ((first | refine AL.callv (by decide) fun Kr hr => ?_ | refine AL.callv0 fun Kr hr => ?_ | refine AL.g1v (by decide) rfl fun Kr hr => ?_); first
      | (refine AOp.cι (fun _ _ => rfl) [] rfl (awake13) Emb.nil rfl ?_; rintro y obs ⟨rfl, rfl⟩)
      | (refine AOp.cι (fun _ _ => rfl) [] rfl (dcode_Decode s (by omega)) Emb.nil rfl ?_; rintro y obs ⟨rfl, rfl⟩)
      | (refine AOp.cι (fun _ _ => rfl) [] rfl (ref13_Decode s (by omega)) Emb.nil rfl ?_; rintro y obs ⟨rfl, rfl⟩)
      | (refine AOp.cι (fun _ _ => rfl) [] rfl (ref12_Same v v (by omega)) Emb.nil rfl ?_; rintro y obs ⟨rfl, rfl⟩))
      | refine AL.one (by decide) fun Kr hr => ?_
      | refine AL.one0 fun Kr hr => ?_); (try simp only [ao, List.map_cons, List.map_nil]); simp (disch := omega) only [go_sem, hz]; (repeat first | refine ⟨by first | omega | assumption | rfl | (simp only [List.length_take, List.length_drop, List.length_append, List.length_cons, List.length_nil, List.length_map]; omega), ?_⟩); refine hr _ _ ?_; clear hr Kr)
    | refine AL.nil ?_ | refine AW.seq' ?_ | refine AW.region ?_ | refine AW.block ?_ | refine AW.skip ?_ | refine AW.ret ?_ | refine AW.exit ?_ | refine thenQ_n ?_ | refine thenQ_r ?_ | refine thenQ_e ?_ | refine blockQ_n ?_ | refine blockQ_r ?_ | refine blockQ_e ?_ | refine blockQ_o (by decide) ?_
    | (refine AW.cond rfl (fun h => ?_) (fun h => ?_) <;> (try simp only [decide_eq_true_eq, decide_eq_false_iff_not, Bool.false_eq_true, Bool.true_eq_false, Bool.not_eq_true', Bool.not_eq_false', Bool.not_eq_eq_eq_not, Bool.not_true, Bool.not_false, Bool.and_eq_true, Bool.or_eq_true, Bool.and_eq_false_iff, Bool.or_eq_false_iff] at h) <;> try (exfalso; first | omega | contradiction))
    | (refine AL.gt (by decide) rfl ?_) | (refine AL.g0 (by decide) rfl (by decide) ?_) | (refine AL.g1 (by decide) rfl fun Kr hr => ?_; (try simp only [ao, List.map_cons, List.map_nil]); simp (disch := omega) only [go_sem, hz]; (repeat first | refine ⟨by first | omega | assumption | rfl | (simp only [List.length_take, List.length_drop, List.length_append, List.length_cons, List.length_nil, List.length_map]; omega), ?_⟩); refine hr _ _ ?_; clear hr Kr)
    | (refine AL.g (by decide) rfl (fun h => ?_) (fun h => ?_) <;> (try simp only [Bool.not_true, Bool.not_false] at h) <;> (try simp only [h]) <;> simp only [decide_eq_true_eq, decide_eq_false_iff_not, Bool.false_eq_true, Bool.true_eq_false, Bool.not_eq_true', Bool.not_eq_false', Bool.not_eq_eq_eq_not, Bool.not_true, Bool.not_false, Bool.and_eq_true, Bool.or_eq_true, Bool.and_eq_false_iff, Bool.or_eq_false_iff] at h <;> try (exfalso; first | omega | contradiction)))
    all_goals first | (((all_goals first | refine RetQ.r 0 rfl (Nat.le_of_ble_eq_true rfl) rfl (by first | rfl | (simp only [go_sem, ↓reduceIte, Nat.reduceLT, Nat.lt_irrefl])) ⟨?_, ?_⟩ | refine RetQ.n 0 rfl (Nat.le_of_ble_eq_true rfl) rfl (by first | rfl | (simp only [go_sem, ↓reduceIte, Nat.reduceLT, Nat.lt_irrefl])) ⟨?_, ?_⟩); (all_goals first | rfl | (simp [*]; done) | ((simp only [go_sem, ↓reduceIte, Nat.reduceLT]; (repeat' split)) <;> first | rfl | (exfalso; omega) | (simp_all; done) | (simp_all; omega)))); done) | (exfalso; simp_all; done)

theorem dcodeCuts (k : Ck) (hk : k.fits) (r : List UInt8) (hr : r.length ≤ 9223372036854775807) : AC Try.prog 16 [ckV k, sv (bs r)] [] fun x σ => x = bv true ∧ σ = [] := by
  refine AC.walk Try.func16 rfl (by decide) (of_decide_eq_true rfl) ?_
  by_cases hgr : k.great = true
  · repeat' (first
    | ((first
      | ((first | refine AL.callv (by decide) fun Kr hr => ?_ | refine AL.callv0 fun Kr hr => ?_ | refine AL.g1v (by decide) rfl fun Kr hr => ?_); first
      | (refine AOp.cι (fun _ _ => rfl) [] rfl (awake13) Emb.nil rfl ?_; rintro y obs ⟨rfl, rfl⟩)
      | (refine AOp.cι (fun _ _ => rfl) [] rfl (ref12_Great k hk) Emb.nil rfl ?_; rintro y obs ⟨rfl, rfl⟩))
      | refine AL.one (by decide) fun Kr hr => ?_
      | refine AL.one0 fun Kr hr => ?_); (try simp only [ao, List.map_cons, List.map_nil]); simp (disch := omega) only [go_sem, hgr]; (repeat first | refine ⟨by first | omega | assumption | rfl | (simp only [List.length_take, List.length_drop, List.length_append, List.length_cons, List.length_nil, List.length_map]; omega), ?_⟩); refine hr _ _ ?_; clear hr Kr)
    | refine AL.nil ?_ | refine AW.seq' ?_ | refine AW.region ?_ | refine AW.block ?_ | refine AW.skip ?_ | refine AW.ret ?_ | refine AW.exit ?_ | refine thenQ_n ?_ | refine thenQ_r ?_ | refine thenQ_e ?_ | refine blockQ_n ?_ | refine blockQ_r ?_ | refine blockQ_e ?_ | refine blockQ_o (by decide) ?_
    | (refine AW.cond rfl (fun h => ?_) (fun h => ?_) <;> (try simp only [decide_eq_true_eq, decide_eq_false_iff_not, Bool.false_eq_true, Bool.true_eq_false, Bool.not_eq_true', Bool.not_eq_false', Bool.not_eq_eq_eq_not, Bool.not_true, Bool.not_false, Bool.and_eq_true, Bool.or_eq_true, Bool.and_eq_false_iff, Bool.or_eq_false_iff] at h) <;> try (exfalso; first | omega | contradiction))
    | (refine AL.gt (by decide) rfl ?_) | (refine AL.g0 (by decide) rfl (by decide) ?_) | (refine AL.g1 (by decide) rfl fun Kr hr => ?_; (try simp only [ao, List.map_cons, List.map_nil]); simp (disch := omega) only [go_sem, hgr]; (repeat first | refine ⟨by first | omega | assumption | rfl | (simp only [List.length_take, List.length_drop, List.length_append, List.length_cons, List.length_nil, List.length_map]; omega), ?_⟩); refine hr _ _ ?_; clear hr Kr)
    | (refine AL.g (by decide) rfl (fun h => ?_) (fun h => ?_) <;> (try simp only [Bool.not_true, Bool.not_false] at h) <;> (try simp only [h]) <;> simp only [decide_eq_true_eq, decide_eq_false_iff_not, Bool.false_eq_true, Bool.true_eq_false, Bool.not_eq_true', Bool.not_eq_false', Bool.not_eq_eq_eq_not, Bool.not_true, Bool.not_false, Bool.and_eq_true, Bool.or_eq_true, Bool.and_eq_false_iff, Bool.or_eq_false_iff] at h <;> try (exfalso; first | omega | contradiction)))
    all_goals first | (((all_goals first | refine RetQ.r 0 rfl (Nat.le_of_ble_eq_true rfl) rfl (by first | rfl | (simp only [go_sem, ↓reduceIte, Nat.reduceLT, Nat.lt_irrefl])) ⟨?_, ?_⟩ | refine RetQ.n 0 rfl (Nat.le_of_ble_eq_true rfl) rfl (by first | rfl | (simp only [go_sem, ↓reduceIte, Nat.reduceLT, Nat.lt_irrefl])) ⟨?_, ?_⟩); (all_goals first | rfl | (simp [*]; done) | ((simp only [go_sem, ↓reduceIte, Nat.reduceLT]; (repeat' split)) <;> first | rfl | (exfalso; omega) | (simp_all; done) | (simp_all; omega)))); done) | (exfalso; simp_all; done)
  have hgr : k.great = false := by simpa using hgr
  by_cases hg0 : 0 < r.length ∧ r.length ≤ 100
  case neg =>
    repeat' (first
    | ((first
      | ((first | refine AL.callv (by decide) fun Kr hr => ?_ | refine AL.callv0 fun Kr hr => ?_ | refine AL.g1v (by decide) rfl fun Kr hr => ?_); first
      | (refine AOp.cι (fun _ _ => rfl) [] rfl (awake13) Emb.nil rfl ?_; rintro y obs ⟨rfl, rfl⟩)
      | (refine AOp.cι (fun _ _ => rfl) [] rfl (ref12_Great k hk) Emb.nil rfl ?_; rintro y obs ⟨rfl, rfl⟩))
      | refine AL.one (by decide) fun Kr hr => ?_
      | refine AL.one0 fun Kr hr => ?_); (try simp only [ao, List.map_cons, List.map_nil]); simp (disch := omega) only [go_sem, hgr]; (repeat first | refine ⟨by first | omega | assumption | rfl | (simp only [List.length_take, List.length_drop, List.length_append, List.length_cons, List.length_nil, List.length_map]; omega), ?_⟩); refine hr _ _ ?_; clear hr Kr)
    | refine AL.nil ?_ | refine AW.seq' ?_ | refine AW.region ?_ | refine AW.block ?_ | refine AW.skip ?_ | refine AW.ret ?_ | refine AW.exit ?_ | refine thenQ_n ?_ | refine thenQ_r ?_ | refine thenQ_e ?_ | refine blockQ_n ?_ | refine blockQ_r ?_ | refine blockQ_e ?_ | refine blockQ_o (by decide) ?_
    | (refine AW.cond rfl (fun h => ?_) (fun h => ?_) <;> (try simp only [decide_eq_true_eq, decide_eq_false_iff_not, Bool.false_eq_true, Bool.true_eq_false, Bool.not_eq_true', Bool.not_eq_false', Bool.not_eq_eq_eq_not, Bool.not_true, Bool.not_false, Bool.and_eq_true, Bool.or_eq_true, Bool.and_eq_false_iff, Bool.or_eq_false_iff] at h) <;> try (exfalso; first | omega | contradiction))
    | (refine AL.gt (by decide) rfl ?_) | (refine AL.g0 (by decide) rfl (by decide) ?_) | (refine AL.g1 (by decide) rfl fun Kr hr => ?_; (try simp only [ao, List.map_cons, List.map_nil]); simp (disch := omega) only [go_sem, hgr]; (repeat first | refine ⟨by first | omega | assumption | rfl | (simp only [List.length_take, List.length_drop, List.length_append, List.length_cons, List.length_nil, List.length_map]; omega), ?_⟩); refine hr _ _ ?_; clear hr Kr)
    | (refine AL.g (by decide) rfl (fun h => ?_) (fun h => ?_) <;> (try simp only [Bool.not_true, Bool.not_false] at h) <;> (try simp only [h]) <;> simp only [decide_eq_true_eq, decide_eq_false_iff_not, Bool.false_eq_true, Bool.true_eq_false, Bool.not_eq_true', Bool.not_eq_false', Bool.not_eq_eq_eq_not, Bool.not_true, Bool.not_false, Bool.and_eq_true, Bool.or_eq_true, Bool.and_eq_false_iff, Bool.or_eq_false_iff] at h <;> try (exfalso; first | omega | contradiction)))
    all_goals first | (((all_goals first | refine RetQ.r 0 rfl (Nat.le_of_ble_eq_true rfl) rfl (by first | rfl | (simp only [go_sem, ↓reduceIte, Nat.reduceLT, Nat.lt_irrefl])) ⟨?_, ?_⟩ | refine RetQ.n 0 rfl (Nat.le_of_ble_eq_true rfl) rfl (by first | rfl | (simp only [go_sem, ↓reduceIte, Nat.reduceLT, Nat.lt_irrefl])) ⟨?_, ?_⟩); (all_goals first | rfl | (simp [*]; done) | ((simp only [go_sem, ↓reduceIte, Nat.reduceLT]; (repeat' split)) <;> first | rfl | (exfalso; omega) | (simp_all; done) | (simp_all; omega)))); done) | (exfalso; omega)
  obtain ⟨hr0, hr1⟩ := hg0
  by_cases hc : k.check = 0
  case neg =>
    have he := clke_bad hc
    repeat' (first
    | ((first
      | ((first | refine AL.callv (by decide) fun Kr hr => ?_ | refine AL.callv0 fun Kr hr => ?_ | refine AL.g1v (by decide) rfl fun Kr hr => ?_); first
      | (refine AOp.cι (fun _ _ => rfl) [] rfl (awake13) Emb.nil rfl ?_; rintro y obs ⟨rfl, rfl⟩)
      | (refine AOp.cι (fun _ _ => rfl) [] rfl (ref12_Great k hk) Emb.nil rfl ?_; rintro y obs ⟨rfl, rfl⟩)
      | (refine AOp.cι (fun _ _ => rfl) [] rfl (ref13_Encode k hk) Emb.nil rfl ?_; rintro y obs ⟨rfl, rfl⟩))
      | refine AL.one (by decide) fun Kr hr => ?_
      | refine AL.one0 fun Kr hr => ?_); (try simp only [ao, List.map_cons, List.map_nil]); simp (disch := omega) only [go_sem, he, hgr]; (repeat first | refine ⟨by first | omega | assumption | rfl | (simp only [List.length_take, List.length_drop, List.length_append, List.length_cons, List.length_nil, List.length_map]; omega), ?_⟩); refine hr _ _ ?_; clear hr Kr)
    | refine AL.nil ?_ | refine AW.seq' ?_ | refine AW.region ?_ | refine AW.block ?_ | refine AW.skip ?_ | refine AW.ret ?_ | refine AW.exit ?_ | refine thenQ_n ?_ | refine thenQ_r ?_ | refine thenQ_e ?_ | refine blockQ_n ?_ | refine blockQ_r ?_ | refine blockQ_e ?_ | refine blockQ_o (by decide) ?_
    | (refine AW.cond rfl (fun h => ?_) (fun h => ?_) <;> (try simp only [decide_eq_true_eq, decide_eq_false_iff_not, Bool.false_eq_true, Bool.true_eq_false, Bool.not_eq_true', Bool.not_eq_false', Bool.not_eq_eq_eq_not, Bool.not_true, Bool.not_false, Bool.and_eq_true, Bool.or_eq_true, Bool.and_eq_false_iff, Bool.or_eq_false_iff] at h) <;> try (exfalso; first | omega | contradiction))
    | (refine AL.gt (by decide) rfl ?_) | (refine AL.g0 (by decide) rfl (by decide) ?_) | (refine AL.g1 (by decide) rfl fun Kr hr => ?_; (try simp only [ao, List.map_cons, List.map_nil]); simp (disch := omega) only [go_sem, he, hgr]; (repeat first | refine ⟨by first | omega | assumption | rfl | (simp only [List.length_take, List.length_drop, List.length_append, List.length_cons, List.length_nil, List.length_map]; omega), ?_⟩); refine hr _ _ ?_; clear hr Kr)
    | (refine AL.g (by decide) rfl (fun h => ?_) (fun h => ?_) <;> (try simp only [Bool.not_true, Bool.not_false] at h) <;> (try simp only [h]) <;> simp only [decide_eq_true_eq, decide_eq_false_iff_not, Bool.false_eq_true, Bool.true_eq_false, Bool.not_eq_true', Bool.not_eq_false', Bool.not_eq_eq_eq_not, Bool.not_true, Bool.not_false, Bool.and_eq_true, Bool.or_eq_true, Bool.and_eq_false_iff, Bool.or_eq_false_iff] at h <;> try (exfalso; first | omega | contradiction)))
    all_goals first | (((all_goals first | refine RetQ.r 0 rfl (Nat.le_of_ble_eq_true rfl) rfl (by first | rfl | (simp only [go_sem, ↓reduceIte, Nat.reduceLT, Nat.lt_irrefl])) ⟨?_, ?_⟩ | refine RetQ.n 0 rfl (Nat.le_of_ble_eq_true rfl) rfl (by first | rfl | (simp only [go_sem, ↓reduceIte, Nat.reduceLT, Nat.lt_irrefl])) ⟨?_, ?_⟩); (all_goals first | rfl | (simp [*]; done) | ((simp only [go_sem, ↓reduceIte, Nat.reduceLT]; (repeat' split)) <;> first | rfl | (exfalso; omega) | (simp_all; done) | (simp_all; omega)))); done) | (exfalso; simp_all; done)
  have hg : gclk k := ⟨hc, hk.1.2.2, hk.2.2⟩
  have he := clke_good hg
  have hl := eclk_len hg
  have htr := clkw_trail hg (r := r) (List.length_pos_iff.1 hr0)
  have hcut : ∀ i, i < (eclk k).length → clkw ((eclk k).take i) = (ck0, 2) := fun i hi => clkw_cut hg hi
  generalize eclk k = t at *
  repeat' (first
    | ((first
      | ((first | refine AL.callv (by decide) fun Kr hr => ?_ | refine AL.callv0 fun Kr hr => ?_ | refine AL.g1v (by decide) rfl fun Kr hr => ?_); first
      | (refine AOp.cι (fun _ _ => rfl) [] rfl (awake13) Emb.nil rfl ?_; rintro y obs ⟨rfl, rfl⟩)
      | (refine AOp.cι (fun _ _ => rfl) [] rfl (ref12_Great k hk) Emb.nil rfl ?_; rintro y obs ⟨rfl, rfl⟩)
      | (refine AOp.cι (fun _ _ => rfl) [] rfl (ref13_Encode k hk) Emb.nil rfl ?_; rintro y obs ⟨rfl, rfl⟩))
      | refine AL.one (by decide) fun Kr hr => ?_
      | refine AL.one0 fun Kr hr => ?_); (try simp only [ao, List.map_cons, List.map_nil]); simp (disch := omega) only [go_sem, he, hgr]; (repeat first | refine ⟨by first | omega | assumption | rfl | (simp only [List.length_take, List.length_drop, List.length_append, List.length_cons, List.length_nil, List.length_map]; omega), ?_⟩); refine hr _ _ ?_; clear hr Kr)
    | refine AL.nil ?_ | refine AW.seq' ?_ | refine AW.region ?_ | refine AW.block ?_ | refine AW.skip ?_ | refine AW.ret ?_ | refine AW.exit ?_ | refine thenQ_n ?_ | refine thenQ_r ?_ | refine thenQ_e ?_ | refine blockQ_n ?_ | refine blockQ_r ?_ | refine blockQ_e ?_ | refine blockQ_o (by decide) ?_
    | (refine AW.cond rfl (fun h => ?_) (fun h => ?_) <;> (try simp only [decide_eq_true_eq, decide_eq_false_iff_not, Bool.false_eq_true, Bool.true_eq_false, Bool.not_eq_true', Bool.not_eq_false', Bool.not_eq_eq_eq_not, Bool.not_true, Bool.not_false, Bool.and_eq_true, Bool.or_eq_true, Bool.and_eq_false_iff, Bool.or_eq_false_iff] at h) <;> try (exfalso; first | omega | contradiction))
    | (refine AL.gt (by decide) rfl ?_) | (refine AL.g0 (by decide) rfl (by decide) ?_) | (refine AL.g1 (by decide) rfl fun Kr hr => ?_; (try simp only [ao, List.map_cons, List.map_nil]); simp (disch := omega) only [go_sem, he, hgr]; (repeat first | refine ⟨by first | omega | assumption | rfl | (simp only [List.length_take, List.length_drop, List.length_append, List.length_cons, List.length_nil, List.length_map]; omega), ?_⟩); refine hr _ _ ?_; clear hr Kr)
    | (refine AL.g (by decide) rfl (fun h => ?_) (fun h => ?_) <;> (try simp only [Bool.not_true, Bool.not_false] at h) <;> (try simp only [h]) <;> simp only [decide_eq_true_eq, decide_eq_false_iff_not, Bool.false_eq_true, Bool.true_eq_false, Bool.not_eq_true', Bool.not_eq_false', Bool.not_eq_eq_eq_not, Bool.not_true, Bool.not_false, Bool.and_eq_true, Bool.or_eq_true, Bool.and_eq_false_iff, Bool.or_eq_false_iff] at h <;> try (exfalso; first | omega | contradiction)))
  all_goals first | (exfalso; simp_all; done) | (exfalso; omega) | skip
  refine AW.rounds [1, 4, 5, 7] (fun i : Nat => [(1, sv (bs r)), (4, bv false), (5, sv (bs t)), (7, iv .i64 i)]) (fun _ => []) (fun i => i ≤ t.length) (fun i => t.length - i) 0 (Nat.zero_le _) rfl rfl (fun _ _ => Nat.zero_le _) (fun _ _ => rfl) (fun _ _ => rfl) ?_
  intro i hi J hJ
  by_cases hil : i < t.length
  · have hci := hcut i hil
    repeat' (first
    | ((first
      | ((first | refine AL.callv (by decide) fun Kr hr => ?_ | refine AL.callv0 fun Kr hr => ?_ | refine AL.g1v (by decide) rfl fun Kr hr => ?_); first
      | (refine AOp.cι (fun _ _ => rfl) [] rfl (dcode_Decode (t.take i) (by rw [List.length_take]; omega)) Emb.nil rfl ?_; rintro y obs ⟨rfl, rfl⟩))
      | refine AL.one (by decide) fun Kr hr => ?_
      | refine AL.one0 fun Kr hr => ?_); (try simp only [ao, List.map_cons, List.map_nil]); simp (disch := omega) only [go_sem, hci, Nat.sub_zero]; (repeat first | refine ⟨by first | omega | assumption | rfl | (simp only [List.length_take, List.length_drop, List.length_append, List.length_cons, List.length_nil, List.length_map]; omega), ?_⟩); refine hr _ _ ?_; clear hr Kr)
    | refine AL.nil ?_ | refine AW.seq' ?_ | refine AW.region ?_ | refine AW.block ?_ | refine AW.skip ?_ | refine AW.ret ?_ | refine AW.exit ?_ | refine thenQ_n ?_ | refine thenQ_r ?_ | refine thenQ_e ?_ | refine blockQ_n ?_ | refine blockQ_r ?_ | refine blockQ_e ?_ | refine blockQ_o (by decide) ?_
    | (refine AW.cond rfl (fun h => ?_) (fun h => ?_) <;> (try simp only [decide_eq_true_eq, decide_eq_false_iff_not, Bool.false_eq_true, Bool.true_eq_false, Bool.not_eq_true', Bool.not_eq_false', Bool.not_eq_eq_eq_not, Bool.not_true, Bool.not_false, Bool.and_eq_true, Bool.or_eq_true, Bool.and_eq_false_iff, Bool.or_eq_false_iff] at h) <;> try (exfalso; first | omega | contradiction))
    | (refine AL.gt (by decide) rfl ?_) | (refine AL.g0 (by decide) rfl (by decide) ?_) | (refine AL.g1 (by decide) rfl fun Kr hr => ?_; (try simp only [ao, List.map_cons, List.map_nil]); simp (disch := omega) only [go_sem, hci, Nat.sub_zero]; (repeat first | refine ⟨by first | omega | assumption | rfl | (simp only [List.length_take, List.length_drop, List.length_append, List.length_cons, List.length_nil, List.length_map]; omega), ?_⟩); refine hr _ _ ?_; clear hr Kr)
    | (refine AL.g (by decide) rfl (fun h => ?_) (fun h => ?_) <;> (try simp only [Bool.not_true, Bool.not_false] at h) <;> (try simp only [h]) <;> simp only [decide_eq_true_eq, decide_eq_false_iff_not, Bool.false_eq_true, Bool.true_eq_false, Bool.not_eq_true', Bool.not_eq_false', Bool.not_eq_eq_eq_not, Bool.not_true, Bool.not_false, Bool.and_eq_true, Bool.or_eq_true, Bool.and_eq_false_iff, Bool.or_eq_false_iff] at h <;> try (exfalso; first | omega | contradiction)))
    all_goals first | (refine hJ (i + 1) _ _ (by omega) hil rfl rfl) | (exfalso; simp_all; done)
  · repeat' (first
    | ((first
      | ((first | refine AL.callv (by decide) fun Kr hr => ?_ | refine AL.callv0 fun Kr hr => ?_ | refine AL.g1v (by decide) rfl fun Kr hr => ?_); first
      | (refine AOp.cι (fun _ _ => rfl) [] rfl (dcode_Decode (t ++ r) (by rw [List.length_append]; omega)) Emb.nil rfl ?_; rintro y obs ⟨rfl, rfl⟩))
      | refine AL.one (by decide) fun Kr hr => ?_
      | refine AL.one0 fun Kr hr => ?_); (try simp only [ao, List.map_cons, List.map_nil]); simp (disch := omega) only [go_sem, htr]; (repeat first | refine ⟨by first | omega | assumption | rfl | (simp only [List.length_take, List.length_drop, List.length_append, List.length_cons, List.length_nil, List.length_map]; omega), ?_⟩); refine hr _ _ ?_; clear hr Kr)
    | refine AL.nil ?_ | refine AW.seq' ?_ | refine AW.region ?_ | refine AW.block ?_ | refine AW.skip ?_ | refine AW.ret ?_ | refine AW.exit ?_ | refine thenQ_n ?_ | refine thenQ_r ?_ | refine thenQ_e ?_ | refine blockQ_n ?_ | refine blockQ_r ?_ | refine blockQ_e ?_ | refine blockQ_o (by decide) ?_
    | (refine AW.cond rfl (fun h => ?_) (fun h => ?_) <;> (try simp only [decide_eq_true_eq, decide_eq_false_iff_not, Bool.false_eq_true, Bool.true_eq_false, Bool.not_eq_true', Bool.not_eq_false', Bool.not_eq_eq_eq_not, Bool.not_true, Bool.not_false, Bool.and_eq_true, Bool.or_eq_true, Bool.and_eq_false_iff, Bool.or_eq_false_iff] at h) <;> try (exfalso; first | omega | contradiction))
    | (refine AL.gt (by decide) rfl ?_) | (refine AL.g0 (by decide) rfl (by decide) ?_) | (refine AL.g1 (by decide) rfl fun Kr hr => ?_; (try simp only [ao, List.map_cons, List.map_nil]); simp (disch := omega) only [go_sem, htr]; (repeat first | refine ⟨by first | omega | assumption | rfl | (simp only [List.length_take, List.length_drop, List.length_append, List.length_cons, List.length_nil, List.length_map]; omega), ?_⟩); refine hr _ _ ?_; clear hr Kr)
    | (refine AL.g (by decide) rfl (fun h => ?_) (fun h => ?_) <;> (try simp only [Bool.not_true, Bool.not_false] at h) <;> (try simp only [h]) <;> simp only [decide_eq_true_eq, decide_eq_false_iff_not, Bool.false_eq_true, Bool.true_eq_false, Bool.not_eq_true', Bool.not_eq_false', Bool.not_eq_eq_eq_not, Bool.not_true, Bool.not_false, Bool.and_eq_true, Bool.or_eq_true, Bool.and_eq_false_iff, Bool.or_eq_false_iff] at h <;> try (exfalso; first | omega | contradiction)))
    all_goals first | (((all_goals first | refine RetQ.r 0 rfl (Nat.le_of_ble_eq_true rfl) rfl (by first | rfl | (simp only [go_sem, ↓reduceIte, Nat.reduceLT, Nat.lt_irrefl])) ⟨?_, ?_⟩ | refine RetQ.n 0 rfl (Nat.le_of_ble_eq_true rfl) rfl (by first | rfl | (simp only [go_sem, ↓reduceIte, Nat.reduceLT, Nat.lt_irrefl])) ⟨?_, ?_⟩); (all_goals first | rfl | (simp [*]; done) | ((simp only [go_sem, ↓reduceIte, Nat.reduceLT]; (repeat' split)) <;> first | rfl | (exfalso; omega) | (simp_all; done) | (simp_all; omega)))); done) | (exfalso; simp_all; done)
end Go.AW
