/-
  clocks: what is right, the same, too great: the program's and the document's.
-/
import Derived.Test.YtiiacdheopdooaaVec5
import Derived.Test.YtiiacdheopdooaaMc
namespace Go.AW
open Go Go.Proofs
set_option maxHeartbeats 2000000
set_option maxRecDepth 10000
set_option linter.unusedSimpArgs false
set_option linter.unusedVariables false
attribute [local irreducible] thenQ blockQ RetQ AL AW AC AOp

abbrev ckV (k : Ck) : V := .a [.d (.l k.ctx.length (vecD k.ctx)), bv k.dotted, sv (bs k.dot.1), iv .u64 k.dot.2]
def Ck.fits (k : Ck) : Prop := k.ctx.fits ∧ k.dot.1.length ≤ 9223372036854775807 ∧ k.dot.2 < 18446744073709551616

theorem vector_Count (v : Vec) (a : List UInt8) (hv : v.length ≤ 9223372036854775807) : AC Try.prog 238 [.d (.l v.length (vecD v)), sv (bs a)] [] fun x σ => x = iv .u64 (v.count a) ∧ σ = [] := by
  refine AC.walk Try.func238 rfl (by decide) (of_decide_eq_true rfl) ?_
  generalize hR : v.count a = R
  repeat' (first
    | ((first
      | refine AL.one (by decide) fun Kr hr => ?_
      | refine AL.one0 fun Kr hr => ?_); (try simp only [ao, List.map_cons, List.map_nil]); simp (disch := omega) only [go_sem]; (repeat first | refine ⟨by first | omega | assumption | rfl | (simp only [List.length_take, List.length_drop, List.length_append, List.length_cons, List.length_nil, List.length_map]; omega), ?_⟩); refine hr _ _ ?_; clear hr Kr)
    | refine AL.nil ?_ | refine AW.seq' ?_ | refine AW.region ?_ | refine AW.block ?_ | refine AW.skip ?_ | refine AW.ret ?_ | refine AW.exit ?_ | refine thenQ_n ?_ | refine thenQ_r ?_ | refine thenQ_e ?_ | refine blockQ_n ?_ | refine blockQ_r ?_ | refine blockQ_e ?_ | refine blockQ_o (by decide) ?_
    | (refine AW.cond rfl (fun h => ?_) (fun h => ?_) <;> (try simp only [decide_eq_true_eq, decide_eq_false_iff_not, Bool.false_eq_true, Bool.true_eq_false, Bool.not_eq_true', Bool.not_eq_false', Bool.not_eq_eq_eq_not, Bool.not_true, Bool.not_false, Bool.and_eq_true, Bool.or_eq_true, Bool.and_eq_false_iff, Bool.or_eq_false_iff] at h) <;> try (exfalso; first | omega | contradiction))
    | (refine AL.gt (by decide) rfl ?_) | (refine AL.g0 (by decide) rfl (by decide) ?_) | (refine AL.g1 (by decide) rfl fun Kr hr => ?_; (try simp only [ao, List.map_cons, List.map_nil]); simp (disch := omega) only [go_sem]; (repeat first | refine ⟨by first | omega | assumption | rfl | (simp only [List.length_take, List.length_drop, List.length_append, List.length_cons, List.length_nil, List.length_map]; omega), ?_⟩); refine hr _ _ ?_; clear hr Kr)
    | (refine AL.g (by decide) rfl (fun h => ?_) (fun h => ?_) <;> (try simp only [Bool.not_true, Bool.not_false] at h) <;> (try simp only [h]) <;> simp only [decide_eq_true_eq, decide_eq_false_iff_not, Bool.false_eq_true, Bool.true_eq_false, Bool.not_eq_true', Bool.not_eq_false', Bool.not_eq_eq_eq_not, Bool.not_true, Bool.not_false, Bool.and_eq_true, Bool.or_eq_true, Bool.and_eq_false_iff, Bool.or_eq_false_iff] at h <;> try (exfalso; first | omega | contradiction)))
  refine AW.rounds [1, 4, 7, 8, 9] (fun i : Nat => [(1, sv (bs a)), (4, iv .u64 0), (7, .d (.l v.length (vecD v))), (8, iv .i64 v.length), (9, iv .i64 i)]) (fun _ => [])
    (fun i => i ≤ v.length ∧ Vec.count (v.drop i) a = R) (fun i => v.length - i) 0 ⟨Nat.zero_le _, hR⟩ rfl rfl (fun _ _ => Nat.zero_le _) (fun _ _ => rfl) (fun _ _ => rfl) ?_
  rintro i ⟨hi, hr⟩ J hJ
  by_cases hil : i < v.length
  · obtain ⟨x, r, hd⟩ := next_at hil
    have hcd := vec_drop hd
    rw [hd] at hr
    have hR2 : R = if x.1 = a then x.2 else Vec.count r a := hr.symm
    by_cases hx : x.1 = a
    · rw [if_pos hx] at hR2
      subst hR2
      repeat' (first
    | ((first
      | refine AL.one (by decide) fun Kr hr => ?_
      | refine AL.one0 fun Kr hr => ?_); (try simp only [ao, List.map_cons, List.map_nil]); simp (disch := omega) only [go_sem, hcd]; (repeat first | refine ⟨by first | omega | assumption | rfl | (simp only [List.length_take, List.length_drop, List.length_append, List.length_cons, List.length_nil, List.length_map]; omega), ?_⟩); refine hr _ _ ?_; clear hr Kr)
    | refine AL.nil ?_ | refine AW.seq' ?_ | refine AW.region ?_ | refine AW.block ?_ | refine AW.skip ?_ | refine AW.ret ?_ | refine AW.exit ?_ | refine thenQ_n ?_ | refine thenQ_r ?_ | refine thenQ_e ?_ | refine blockQ_n ?_ | refine blockQ_r ?_ | refine blockQ_e ?_ | refine blockQ_o (by decide) ?_
    | (refine AW.cond rfl (fun h => ?_) (fun h => ?_) <;> (try simp only [decide_eq_true_eq, decide_eq_false_iff_not, Bool.false_eq_true, Bool.true_eq_false, Bool.not_eq_true', Bool.not_eq_false', Bool.not_eq_eq_eq_not, Bool.not_true, Bool.not_false, Bool.and_eq_true, Bool.or_eq_true, Bool.and_eq_false_iff, Bool.or_eq_false_iff] at h) <;> try (exfalso; first | omega | contradiction))
    | (refine AL.gt (by decide) rfl ?_) | (refine AL.g0 (by decide) rfl (by decide) ?_) | (refine AL.g1 (by decide) rfl fun Kr hr => ?_; (try simp only [ao, List.map_cons, List.map_nil]); simp (disch := omega) only [go_sem, hcd]; (repeat first | refine ⟨by first | omega | assumption | rfl | (simp only [List.length_take, List.length_drop, List.length_append, List.length_cons, List.length_nil, List.length_map]; omega), ?_⟩); refine hr _ _ ?_; clear hr Kr)
    | (refine AL.g (by decide) rfl (fun h => ?_) (fun h => ?_) <;> (try simp only [Bool.not_true, Bool.not_false] at h) <;> (try simp only [h]) <;> simp only [decide_eq_true_eq, decide_eq_false_iff_not, Bool.false_eq_true, Bool.true_eq_false, Bool.not_eq_true', Bool.not_eq_false', Bool.not_eq_eq_eq_not, Bool.not_true, Bool.not_false, Bool.and_eq_true, Bool.or_eq_true, Bool.and_eq_false_iff, Bool.or_eq_false_iff] at h <;> try (exfalso; first | omega | contradiction)))
      all_goals first | (first | exact RetQ.r 0 rfl (Nat.le_of_ble_eq_true rfl) rfl (by first | rfl | (simp only [go_sem, Nat.lt_irrefl])) ⟨rfl, rfl⟩ | exact RetQ.n 0 rfl (Nat.le_of_ble_eq_true rfl) rfl (by first | rfl | (simp only [go_sem, Nat.lt_irrefl])) ⟨rfl, rfl⟩) | (exfalso; simp_all; done)
    · rw [if_neg hx] at hR2
      repeat' (first
    | ((first
      | refine AL.one (by decide) fun Kr hr => ?_
      | refine AL.one0 fun Kr hr => ?_); (try simp only [ao, List.map_cons, List.map_nil]); simp (disch := omega) only [go_sem, hcd]; (repeat first | refine ⟨by first | omega | assumption | rfl | (simp only [List.length_take, List.length_drop, List.length_append, List.length_cons, List.length_nil, List.length_map]; omega), ?_⟩); refine hr _ _ ?_; clear hr Kr)
    | refine AL.nil ?_ | refine AW.seq' ?_ | refine AW.region ?_ | refine AW.block ?_ | refine AW.skip ?_ | refine AW.ret ?_ | refine AW.exit ?_ | refine thenQ_n ?_ | refine thenQ_r ?_ | refine thenQ_e ?_ | refine blockQ_n ?_ | refine blockQ_r ?_ | refine blockQ_e ?_ | refine blockQ_o (by decide) ?_
    | (refine AW.cond rfl (fun h => ?_) (fun h => ?_) <;> (try simp only [decide_eq_true_eq, decide_eq_false_iff_not, Bool.false_eq_true, Bool.true_eq_false, Bool.not_eq_true', Bool.not_eq_false', Bool.not_eq_eq_eq_not, Bool.not_true, Bool.not_false, Bool.and_eq_true, Bool.or_eq_true, Bool.and_eq_false_iff, Bool.or_eq_false_iff] at h) <;> try (exfalso; first | omega | contradiction))
    | (refine AL.gt (by decide) rfl ?_) | (refine AL.g0 (by decide) rfl (by decide) ?_) | (refine AL.g1 (by decide) rfl fun Kr hr => ?_; (try simp only [ao, List.map_cons, List.map_nil]); simp (disch := omega) only [go_sem, hcd]; (repeat first | refine ⟨by first | omega | assumption | rfl | (simp only [List.length_take, List.length_drop, List.length_append, List.length_cons, List.length_nil, List.length_map]; omega), ?_⟩); refine hr _ _ ?_; clear hr Kr)
    | (refine AL.g (by decide) rfl (fun h => ?_) (fun h => ?_) <;> (try simp only [Bool.not_true, Bool.not_false] at h) <;> (try simp only [h]) <;> simp only [decide_eq_true_eq, decide_eq_false_iff_not, Bool.false_eq_true, Bool.true_eq_false, Bool.not_eq_true', Bool.not_eq_false', Bool.not_eq_eq_eq_not, Bool.not_true, Bool.not_false, Bool.and_eq_true, Bool.or_eq_true, Bool.and_eq_false_iff, Bool.or_eq_false_iff] at h <;> try (exfalso; first | omega | contradiction)))
      all_goals first | (refine hJ (i + 1) _ _ (by omega) ⟨hil, by rw [next_drop hd]; exact hR2.symm⟩ rfl rfl) | (exfalso; simp_all; done)
  · have h0 : v.drop i = [] := List.drop_eq_nil_of_le (by omega)
    rw [h0] at hr
    have hR0 : R = 0 := hr.symm
    rw [hR0]
    repeat' (first
    | ((first
      | refine AL.one (by decide) fun Kr hr => ?_
      | refine AL.one0 fun Kr hr => ?_); (try simp only [ao, List.map_cons, List.map_nil]); simp (disch := omega) only [go_sem]; (repeat first | refine ⟨by first | omega | assumption | rfl | (simp only [List.length_take, List.length_drop, List.length_append, List.length_cons, List.length_nil, List.length_map]; omega), ?_⟩); refine hr _ _ ?_; clear hr Kr)
    | refine AL.nil ?_ | refine AW.seq' ?_ | refine AW.region ?_ | refine AW.block ?_ | refine AW.skip ?_ | refine AW.ret ?_ | refine AW.exit ?_ | refine thenQ_n ?_ | refine thenQ_r ?_ | refine thenQ_e ?_ | refine blockQ_n ?_ | refine blockQ_r ?_ | refine blockQ_e ?_ | refine blockQ_o (by decide) ?_
    | (refine AW.cond rfl (fun h => ?_) (fun h => ?_) <;> (try simp only [decide_eq_true_eq, decide_eq_false_iff_not, Bool.false_eq_true, Bool.true_eq_false, Bool.not_eq_true', Bool.not_eq_false', Bool.not_eq_eq_eq_not, Bool.not_true, Bool.not_false, Bool.and_eq_true, Bool.or_eq_true, Bool.and_eq_false_iff, Bool.or_eq_false_iff] at h) <;> try (exfalso; first | omega | contradiction))
    | (refine AL.gt (by decide) rfl ?_) | (refine AL.g0 (by decide) rfl (by decide) ?_) | (refine AL.g1 (by decide) rfl fun Kr hr => ?_; (try simp only [ao, List.map_cons, List.map_nil]); simp (disch := omega) only [go_sem]; (repeat first | refine ⟨by first | omega | assumption | rfl | (simp only [List.length_take, List.length_drop, List.length_append, List.length_cons, List.length_nil, List.length_map]; omega), ?_⟩); refine hr _ _ ?_; clear hr Kr)
    | (refine AL.g (by decide) rfl (fun h => ?_) (fun h => ?_) <;> (try simp only [Bool.not_true, Bool.not_false] at h) <;> (try simp only [h]) <;> simp only [decide_eq_true_eq, decide_eq_false_iff_not, Bool.false_eq_true, Bool.true_eq_false, Bool.not_eq_true', Bool.not_eq_false', Bool.not_eq_eq_eq_not, Bool.not_true, Bool.not_false, Bool.and_eq_true, Bool.or_eq_true, Bool.and_eq_false_iff, Bool.or_eq_false_iff] at h <;> try (exfalso; first | omega | contradiction)))
    all_goals first | (first | exact RetQ.r 0 rfl (Nat.le_of_ble_eq_true rfl) rfl (by first | rfl | (simp only [go_sem, Nat.lt_irrefl])) ⟨rfl, rfl⟩ | exact RetQ.n 0 rfl (Nat.le_of_ble_eq_true rfl) rfl (by first | rfl | (simp only [go_sem, Nat.lt_irrefl])) ⟨rfl, rfl⟩) | (((all_goals first | refine RetQ.r 0 rfl (Nat.le_of_ble_eq_true rfl) rfl (by first | rfl | (simp only [go_sem, ↓reduceIte, Nat.reduceLT, Nat.lt_irrefl])) ⟨?_, ?_⟩ | refine RetQ.n 0 rfl (Nat.le_of_ble_eq_true rfl) rfl (by first | rfl | (simp only [go_sem, ↓reduceIte, Nat.reduceLT, Nat.lt_irrefl])) ⟨?_, ?_⟩); (all_goals first | rfl | (simp [*]; done) | ((simp only [go_sem, ↓reduceIte, Nat.reduceLT]; (repeat' split)) <;> first | rfl | (exfalso; omega) | (simp_all; done) | (simp_all; omega)))); done)
theorem ref10_Count (v : Vec) (a : List UInt8) (hv : v.length ≤ 9223372036854775807) : AC Try.prog 189 [.d (.l v.length (vecD v)), sv (bs a)] [] fun x σ => x = iv .u64 (v.count a) ∧ σ = [] := by
  refine AC.walk Try.func189 rfl (by decide) (of_decide_eq_true rfl) ?_
  generalize hR : v.count a = R
  repeat' (first
    | ((first
      | refine AL.one (by decide) fun Kr hr => ?_
      | refine AL.one0 fun Kr hr => ?_); (try simp only [ao, List.map_cons, List.map_nil]); simp (disch := omega) only [go_sem]; (repeat first | refine ⟨by first | omega | assumption | rfl | (simp only [List.length_take, List.length_drop, List.length_append, List.length_cons, List.length_nil, List.length_map]; omega), ?_⟩); refine hr _ _ ?_; clear hr Kr)
    | refine AL.nil ?_ | refine AW.seq' ?_ | refine AW.region ?_ | refine AW.block ?_ | refine AW.skip ?_ | refine AW.ret ?_ | refine AW.exit ?_ | refine thenQ_n ?_ | refine thenQ_r ?_ | refine thenQ_e ?_ | refine blockQ_n ?_ | refine blockQ_r ?_ | refine blockQ_e ?_ | refine blockQ_o (by decide) ?_
    | (refine AW.cond rfl (fun h => ?_) (fun h => ?_) <;> (try simp only [decide_eq_true_eq, decide_eq_false_iff_not, Bool.false_eq_true, Bool.true_eq_false, Bool.not_eq_true', Bool.not_eq_false', Bool.not_eq_eq_eq_not, Bool.not_true, Bool.not_false, Bool.and_eq_true, Bool.or_eq_true, Bool.and_eq_false_iff, Bool.or_eq_false_iff] at h) <;> try (exfalso; first | omega | contradiction))
    | (refine AL.gt (by decide) rfl ?_) | (refine AL.g0 (by decide) rfl (by decide) ?_) | (refine AL.g1 (by decide) rfl fun Kr hr => ?_; (try simp only [ao, List.map_cons, List.map_nil]); simp (disch := omega) only [go_sem]; (repeat first | refine ⟨by first | omega | assumption | rfl | (simp only [List.length_take, List.length_drop, List.length_append, List.length_cons, List.length_nil, List.length_map]; omega), ?_⟩); refine hr _ _ ?_; clear hr Kr)
    | (refine AL.g (by decide) rfl (fun h => ?_) (fun h => ?_) <;> (try simp only [Bool.not_true, Bool.not_false] at h) <;> (try simp only [h]) <;> simp only [decide_eq_true_eq, decide_eq_false_iff_not, Bool.false_eq_true, Bool.true_eq_false, Bool.not_eq_true', Bool.not_eq_false', Bool.not_eq_eq_eq_not, Bool.not_true, Bool.not_false, Bool.and_eq_true, Bool.or_eq_true, Bool.and_eq_false_iff, Bool.or_eq_false_iff] at h <;> try (exfalso; first | omega | contradiction)))
  refine AW.rounds [0, 1, 4, 5] (fun i : Nat => [(0, .d (.l v.length (vecD v))), (1, sv (bs a)), (4, iv .u64 0), (5, iv .i64 i)]) (fun _ => [])
    (fun i => i ≤ v.length ∧ Vec.count (v.drop i) a = R) (fun i => v.length - i) 0 ⟨Nat.zero_le _, hR⟩ rfl rfl (fun _ _ => Nat.zero_le _) (fun _ _ => rfl) (fun _ _ => rfl) ?_
  rintro i ⟨hi, hr⟩ J hJ
  by_cases hil : i < v.length
  · obtain ⟨x, r, hd⟩ := next_at hil
    have hcd := vec_drop hd
    rw [hd] at hr
    have hR2 : R = if x.1 = a then x.2 else Vec.count r a := hr.symm
    by_cases hx : x.1 = a
    · rw [if_pos hx] at hR2
      subst hR2
      repeat' (first
    | ((first
      | refine AL.one (by decide) fun Kr hr => ?_
      | refine AL.one0 fun Kr hr => ?_); (try simp only [ao, List.map_cons, List.map_nil]); simp (disch := omega) only [go_sem, hcd]; (repeat first | refine ⟨by first | omega | assumption | rfl | (simp only [List.length_take, List.length_drop, List.length_append, List.length_cons, List.length_nil, List.length_map]; omega), ?_⟩); refine hr _ _ ?_; clear hr Kr)
    | refine AL.nil ?_ | refine AW.seq' ?_ | refine AW.region ?_ | refine AW.block ?_ | refine AW.skip ?_ | refine AW.ret ?_ | refine AW.exit ?_ | refine thenQ_n ?_ | refine thenQ_r ?_ | refine thenQ_e ?_ | refine blockQ_n ?_ | refine blockQ_r ?_ | refine blockQ_e ?_ | refine blockQ_o (by decide) ?_
    | (refine AW.cond rfl (fun h => ?_) (fun h => ?_) <;> (try simp only [decide_eq_true_eq, decide_eq_false_iff_not, Bool.false_eq_true, Bool.true_eq_false, Bool.not_eq_true', Bool.not_eq_false', Bool.not_eq_eq_eq_not, Bool.not_true, Bool.not_false, Bool.and_eq_true, Bool.or_eq_true, Bool.and_eq_false_iff, Bool.or_eq_false_iff] at h) <;> try (exfalso; first | omega | contradiction))
    | (refine AL.gt (by decide) rfl ?_) | (refine AL.g0 (by decide) rfl (by decide) ?_) | (refine AL.g1 (by decide) rfl fun Kr hr => ?_; (try simp only [ao, List.map_cons, List.map_nil]); simp (disch := omega) only [go_sem, hcd]; (repeat first | refine ⟨by first | omega | assumption | rfl | (simp only [List.length_take, List.length_drop, List.length_append, List.length_cons, List.length_nil, List.length_map]; omega), ?_⟩); refine hr _ _ ?_; clear hr Kr)
    | (refine AL.g (by decide) rfl (fun h => ?_) (fun h => ?_) <;> (try simp only [Bool.not_true, Bool.not_false] at h) <;> (try simp only [h]) <;> simp only [decide_eq_true_eq, decide_eq_false_iff_not, Bool.false_eq_true, Bool.true_eq_false, Bool.not_eq_true', Bool.not_eq_false', Bool.not_eq_eq_eq_not, Bool.not_true, Bool.not_false, Bool.and_eq_true, Bool.or_eq_true, Bool.and_eq_false_iff, Bool.or_eq_false_iff] at h <;> try (exfalso; first | omega | contradiction)))
      all_goals first | (first | exact RetQ.r 0 rfl (Nat.le_of_ble_eq_true rfl) rfl (by first | rfl | (simp only [go_sem, Nat.lt_irrefl])) ⟨rfl, rfl⟩ | exact RetQ.n 0 rfl (Nat.le_of_ble_eq_true rfl) rfl (by first | rfl | (simp only [go_sem, Nat.lt_irrefl])) ⟨rfl, rfl⟩) | (exfalso; simp_all; done)
    · rw [if_neg hx] at hR2
      repeat' (first
    | ((first
      | refine AL.one (by decide) fun Kr hr => ?_
      | refine AL.one0 fun Kr hr => ?_); (try simp only [ao, List.map_cons, List.map_nil]); simp (disch := omega) only [go_sem, hcd]; (repeat first | refine ⟨by first | omega | assumption | rfl | (simp only [List.length_take, List.length_drop, List.length_append, List.length_cons, List.length_nil, List.length_map]; omega), ?_⟩); refine hr _ _ ?_; clear hr Kr)
    | refine AL.nil ?_ | refine AW.seq' ?_ | refine AW.region ?_ | refine AW.block ?_ | refine AW.skip ?_ | refine AW.ret ?_ | refine AW.exit ?_ | refine thenQ_n ?_ | refine thenQ_r ?_ | refine thenQ_e ?_ | refine blockQ_n ?_ | refine blockQ_r ?_ | refine blockQ_e ?_ | refine blockQ_o (by decide) ?_
    | (refine AW.cond rfl (fun h => ?_) (fun h => ?_) <;> (try simp only [decide_eq_true_eq, decide_eq_false_iff_not, Bool.false_eq_true, Bool.true_eq_false, Bool.not_eq_true', Bool.not_eq_false', Bool.not_eq_eq_eq_not, Bool.not_true, Bool.not_false, Bool.and_eq_true, Bool.or_eq_true, Bool.and_eq_false_iff, Bool.or_eq_false_iff] at h) <;> try (exfalso; first | omega | contradiction))
    | (refine AL.gt (by decide) rfl ?_) | (refine AL.g0 (by decide) rfl (by decide) ?_) | (refine AL.g1 (by decide) rfl fun Kr hr => ?_; (try simp only [ao, List.map_cons, List.map_nil]); simp (disch := omega) only [go_sem, hcd]; (repeat first | refine ⟨by first | omega | assumption | rfl | (simp only [List.length_take, List.length_drop, List.length_append, List.length_cons, List.length_nil, List.length_map]; omega), ?_⟩); refine hr _ _ ?_; clear hr Kr)
    | (refine AL.g (by decide) rfl (fun h => ?_) (fun h => ?_) <;> (try simp only [Bool.not_true, Bool.not_false] at h) <;> (try simp only [h]) <;> simp only [decide_eq_true_eq, decide_eq_false_iff_not, Bool.false_eq_true, Bool.true_eq_false, Bool.not_eq_true', Bool.not_eq_false', Bool.not_eq_eq_eq_not, Bool.not_true, Bool.not_false, Bool.and_eq_true, Bool.or_eq_true, Bool.and_eq_false_iff, Bool.or_eq_false_iff] at h <;> try (exfalso; first | omega | contradiction)))
      all_goals first | (refine hJ (i + 1) _ _ (by omega) ⟨hil, by rw [next_drop hd]; exact hR2.symm⟩ rfl rfl) | (exfalso; simp_all; done)
  · have h0 : v.drop i = [] := List.drop_eq_nil_of_le (by omega)
    rw [h0] at hr
    have hR0 : R = 0 := hr.symm
    rw [hR0]
    repeat' (first
    | ((first
      | refine AL.one (by decide) fun Kr hr => ?_
      | refine AL.one0 fun Kr hr => ?_); (try simp only [ao, List.map_cons, List.map_nil]); simp (disch := omega) only [go_sem]; (repeat first | refine ⟨by first | omega | assumption | rfl | (simp only [List.length_take, List.length_drop, List.length_append, List.length_cons, List.length_nil, List.length_map]; omega), ?_⟩); refine hr _ _ ?_; clear hr Kr)
    | refine AL.nil ?_ | refine AW.seq' ?_ | refine AW.region ?_ | refine AW.block ?_ | refine AW.skip ?_ | refine AW.ret ?_ | refine AW.exit ?_ | refine thenQ_n ?_ | refine thenQ_r ?_ | refine thenQ_e ?_ | refine blockQ_n ?_ | refine blockQ_r ?_ | refine blockQ_e ?_ | refine blockQ_o (by decide) ?_
    | (refine AW.cond rfl (fun h => ?_) (fun h => ?_) <;> (try simp only [decide_eq_true_eq, decide_eq_false_iff_not, Bool.false_eq_true, Bool.true_eq_false, Bool.not_eq_true', Bool.not_eq_false', Bool.not_eq_eq_eq_not, Bool.not_true, Bool.not_false, Bool.and_eq_true, Bool.or_eq_true, Bool.and_eq_false_iff, Bool.or_eq_false_iff] at h) <;> try (exfalso; first | omega | contradiction))
    | (refine AL.gt (by decide) rfl ?_) | (refine AL.g0 (by decide) rfl (by decide) ?_) | (refine AL.g1 (by decide) rfl fun Kr hr => ?_; (try simp only [ao, List.map_cons, List.map_nil]); simp (disch := omega) only [go_sem]; (repeat first | refine ⟨by first | omega | assumption | rfl | (simp only [List.length_take, List.length_drop, List.length_append, List.length_cons, List.length_nil, List.length_map]; omega), ?_⟩); refine hr _ _ ?_; clear hr Kr)
    | (refine AL.g (by decide) rfl (fun h => ?_) (fun h => ?_) <;> (try simp only [Bool.not_true, Bool.not_false] at h) <;> (try simp only [h]) <;> simp only [decide_eq_true_eq, decide_eq_false_iff_not, Bool.false_eq_true, Bool.true_eq_false, Bool.not_eq_true', Bool.not_eq_false', Bool.not_eq_eq_eq_not, Bool.not_true, Bool.not_false, Bool.and_eq_true, Bool.or_eq_true, Bool.and_eq_false_iff, Bool.or_eq_false_iff] at h <;> try (exfalso; first | omega | contradiction)))
    all_goals first | (first | exact RetQ.r 0 rfl (Nat.le_of_ble_eq_true rfl) rfl (by first | rfl | (simp only [go_sem, Nat.lt_irrefl])) ⟨rfl, rfl⟩ | exact RetQ.n 0 rfl (Nat.le_of_ble_eq_true rfl) rfl (by first | rfl | (simp only [go_sem, Nat.lt_irrefl])) ⟨rfl, rfl⟩) | (((all_goals first | refine RetQ.r 0 rfl (Nat.le_of_ble_eq_true rfl) rfl (by first | rfl | (simp only [go_sem, ↓reduceIte, Nat.reduceLT, Nat.lt_irrefl])) ⟨?_, ?_⟩ | refine RetQ.n 0 rfl (Nat.le_of_ble_eq_true rfl) rfl (by first | rfl | (simp only [go_sem, ↓reduceIte, Nat.reduceLT, Nat.lt_irrefl])) ⟨?_, ?_⟩); (all_goals first | rfl | (simp [*]; done) | ((simp only [go_sem, ↓reduceIte, Nat.reduceLT]; (repeat' split)) <;> first | rfl | (exfalso; omega) | (simp_all; done) | (simp_all; omega)))); done)

theorem dotted_Check (k : Ck) (hk : k.fits) : AC Try.prog 190 [ckV k] [] fun x σ => x = iv .i64 k.check ∧ σ = [] := by
  obtain ⟨v, f, t, n⟩ := k
  obtain ⟨hv, ht, hn⟩ := hk
  simp only at hv ht hn
  refine AC.walk Try.func190 rfl (by decide) (of_decide_eq_true rfl) ?_
  by_cases hc : v.check = 0
  case neg =>
    have hR : Ck.check ⟨v, f, (t, n)⟩ = v.check := by unfold Ck.check; rw [if_pos hc]
    rw [hR]
    repeat' (first
    | ((first
      | ((first | refine AL.callv (by decide) fun Kr hr => ?_ | refine AL.callv0 fun Kr hr => ?_ | refine AL.g1v (by decide) rfl fun Kr hr => ?_); first
      | (refine AOp.cι (fun _ _ => rfl) [] rfl (vector_Check v hv) Emb.nil rfl ?_; rintro y obs ⟨rfl, rfl⟩))
      | refine AL.one (by decide) fun Kr hr => ?_
      | refine AL.one0 fun Kr hr => ?_); (try simp only [ao, List.map_cons, List.map_nil]); simp (disch := omega) only [go_sem]; (repeat first | refine ⟨by first | omega | assumption | rfl | (simp only [List.length_take, List.length_drop, List.length_append, List.length_cons, List.length_nil, List.length_map]; omega), ?_⟩); refine hr _ _ ?_; clear hr Kr)
    | refine AL.nil ?_ | refine AW.seq' ?_ | refine AW.region ?_ | refine AW.block ?_ | refine AW.skip ?_ | refine AW.ret ?_ | refine AW.exit ?_ | refine thenQ_n ?_ | refine thenQ_r ?_ | refine thenQ_e ?_ | refine blockQ_n ?_ | refine blockQ_r ?_ | refine blockQ_e ?_ | refine blockQ_o (by decide) ?_ | refine AW.draw T.mixed (by kernel_rfl) ?_ | (refine ADr.nil ?_; try clear hgv)
    | (refine AW.cond rfl (fun h => ?_) (fun h => ?_) <;> (try simp only [decide_eq_true_eq, decide_eq_false_iff_not, Bool.false_eq_true, Bool.true_eq_false, Bool.not_eq_true', Bool.not_eq_false', Bool.not_eq_eq_eq_not, Bool.not_true, Bool.not_false, Bool.and_eq_true, Bool.or_eq_true, Bool.and_eq_false_iff, Bool.or_eq_false_iff] at h) <;> try (exfalso; first | omega | contradiction))
    | ((first | refine ADr.gc ?_ (by decide) (by first | assumption | rfl) ?_ ?_ | refine ADr.c ?_ (by decide) ?_ ?_); rotate_left 1; focus ((repeat' (first | exact trivial | refine And.intro ?_ ?_)) <;> (intro Kr hr; (try simp only [ao, List.map_cons, List.map_nil]); simp (disch := omega) only [go_sem]; (repeat first | refine ⟨by first | omega | assumption | rfl | (simp only [List.length_take, List.length_drop, List.length_append, List.length_cons, List.length_nil, List.length_map]; omega), ?_⟩); exact hr)))
    | ((first | refine ADr.ccv ?_ (by decide) ?_ ?_ | refine ADr.gccv ?_ (by decide) (by first | assumption | rfl) ?_ ?_ | refine ADr.gc ?_ (by decide) (by first | assumption | rfl) ?_ ?_ | refine ADr.c ?_ (by decide) ?_ ?_); rotate_left 1; focus ((repeat' (first | exact trivial | refine And.intro ?_ ?_)) <;> (intro Kr hr; (try first | (refine AOp.cι (fun x hx => ev_keep _ x hx) [] rfl (vector_Check v hv) Emb.nil rfl ?_; rintro y obs ⟨rfl, rfl⟩)); (try simp only [ao, List.map_cons, List.map_nil]); simp (disch := omega) only [go_sem]; (repeat first | refine ⟨by first | omega | assumption | rfl | (simp only [List.length_take, List.length_drop, List.length_append, List.length_cons, List.length_nil, List.length_map]; omega), ?_⟩); exact hr)))
    | (refine ADr.gt (by decide) rfl ?_) | (refine ADr.gs (by decide) rfl (by decide) ?_)
    | (refine AL.gt (by decide) rfl ?_) | (refine AL.g0 (by decide) rfl (by decide) ?_) | (refine AL.g1 (by decide) rfl fun Kr hr => ?_; (try simp only [ao, List.map_cons, List.map_nil]); simp (disch := omega) only [go_sem]; (repeat first | refine ⟨by first | omega | assumption | rfl | (simp only [List.length_take, List.length_drop, List.length_append, List.length_cons, List.length_nil, List.length_map]; omega), ?_⟩); refine hr _ _ ?_; clear hr Kr)
    | ((first | refine ADr.gb (by decide) rfl (fun h hgv => ?_) (fun h => ?_) | refine AL.g (by decide) rfl (fun h => ?_) (fun h => ?_)) <;> (try simp only [Bool.not_true, Bool.not_false] at h) <;> (try simp only [h]) <;> simp only [decide_eq_true_eq, decide_eq_false_iff_not, Bool.false_eq_true, Bool.true_eq_false, Bool.not_eq_true', Bool.not_eq_false', Bool.not_eq_eq_eq_not, Bool.not_true, Bool.not_false, Bool.and_eq_true, Bool.or_eq_true, Bool.and_eq_false_iff, Bool.or_eq_false_iff] at h <;> try (exfalso; first | omega | contradiction)))
    all_goals first | (first | exact RetQ.r 0 rfl (Nat.le_of_ble_eq_true rfl) rfl (by first | rfl | (simp only [go_sem, Nat.lt_irrefl])) ⟨rfl, rfl⟩ | exact RetQ.n 0 rfl (Nat.le_of_ble_eq_true rfl) rfl (by first | rfl | (simp only [go_sem, Nat.lt_irrefl])) ⟨rfl, rfl⟩) | (exfalso; simp_all; done)
  cases f with
  | false =>
    by_cases hz : t = [] ∧ n = 0
    · obtain ⟨rfl, rfl⟩ := hz
      have hR : Ck.check ⟨v, false, ([], 0)⟩ = 0 := by unfold Ck.check; simp [hc]
      rw [hR]
      repeat' (first
    | ((first
      | ((first | refine AL.callv (by decide) fun Kr hr => ?_ | refine AL.callv0 fun Kr hr => ?_ | refine AL.g1v (by decide) rfl fun Kr hr => ?_); first
      | (refine AOp.cι (fun _ _ => rfl) [] rfl (vector_Check v hv) Emb.nil rfl ?_; rintro y obs ⟨rfl, rfl⟩))
      | refine AL.one (by decide) fun Kr hr => ?_
      | refine AL.one0 fun Kr hr => ?_); (try simp only [ao, List.map_cons, List.map_nil]); simp (disch := omega) only [go_sem, hc]; (repeat first | refine ⟨by first | omega | assumption | rfl | (simp only [List.length_take, List.length_drop, List.length_append, List.length_cons, List.length_nil, List.length_map]; omega), ?_⟩); refine hr _ _ ?_; clear hr Kr)
    | refine AL.nil ?_ | refine AW.seq' ?_ | refine AW.region ?_ | refine AW.block ?_ | refine AW.skip ?_ | refine AW.ret ?_ | refine AW.exit ?_ | refine thenQ_n ?_ | refine thenQ_r ?_ | refine thenQ_e ?_ | refine blockQ_n ?_ | refine blockQ_r ?_ | refine blockQ_e ?_ | refine blockQ_o (by decide) ?_ | refine AW.draw T.mixed (by kernel_rfl) ?_ | (refine ADr.nil ?_; try clear hgv)
    | (refine AW.cond rfl (fun h => ?_) (fun h => ?_) <;> (try simp only [decide_eq_true_eq, decide_eq_false_iff_not, Bool.false_eq_true, Bool.true_eq_false, Bool.not_eq_true', Bool.not_eq_false', Bool.not_eq_eq_eq_not, Bool.not_true, Bool.not_false, Bool.and_eq_true, Bool.or_eq_true, Bool.and_eq_false_iff, Bool.or_eq_false_iff] at h) <;> try (exfalso; first | omega | contradiction))
    | ((first | refine ADr.gc ?_ (by decide) (by first | assumption | rfl) ?_ ?_ | refine ADr.c ?_ (by decide) ?_ ?_); rotate_left 1; focus ((repeat' (first | exact trivial | refine And.intro ?_ ?_)) <;> (intro Kr hr; (try simp only [ao, List.map_cons, List.map_nil]); simp (disch := omega) only [go_sem, hc]; (repeat first | refine ⟨by first | omega | assumption | rfl | (simp only [List.length_take, List.length_drop, List.length_append, List.length_cons, List.length_nil, List.length_map]; omega), ?_⟩); exact hr)))
    | ((first | refine ADr.ccv ?_ (by decide) ?_ ?_ | refine ADr.gccv ?_ (by decide) (by first | assumption | rfl) ?_ ?_ | refine ADr.gc ?_ (by decide) (by first | assumption | rfl) ?_ ?_ | refine ADr.c ?_ (by decide) ?_ ?_); rotate_left 1; focus ((repeat' (first | exact trivial | refine And.intro ?_ ?_)) <;> (intro Kr hr; (try first | (refine AOp.cι (fun x hx => ev_keep _ x hx) [] rfl (vector_Check v hv) Emb.nil rfl ?_; rintro y obs ⟨rfl, rfl⟩)); (try simp only [ao, List.map_cons, List.map_nil]); simp (disch := omega) only [go_sem, hc]; (repeat first | refine ⟨by first | omega | assumption | rfl | (simp only [List.length_take, List.length_drop, List.length_append, List.length_cons, List.length_nil, List.length_map]; omega), ?_⟩); exact hr)))
    | (refine ADr.gt (by decide) rfl ?_) | (refine ADr.gs (by decide) rfl (by decide) ?_)
    | (refine AL.gt (by decide) rfl ?_) | (refine AL.g0 (by decide) rfl (by decide) ?_) | (refine AL.g1 (by decide) rfl fun Kr hr => ?_; (try simp only [ao, List.map_cons, List.map_nil]); simp (disch := omega) only [go_sem, hc]; (repeat first | refine ⟨by first | omega | assumption | rfl | (simp only [List.length_take, List.length_drop, List.length_append, List.length_cons, List.length_nil, List.length_map]; omega), ?_⟩); refine hr _ _ ?_; clear hr Kr)
    | ((first | refine ADr.gb (by decide) rfl (fun h hgv => ?_) (fun h => ?_) | refine AL.g (by decide) rfl (fun h => ?_) (fun h => ?_)) <;> (try simp only [Bool.not_true, Bool.not_false] at h) <;> (try simp only [h]) <;> simp only [decide_eq_true_eq, decide_eq_false_iff_not, Bool.false_eq_true, Bool.true_eq_false, Bool.not_eq_true', Bool.not_eq_false', Bool.not_eq_eq_eq_not, Bool.not_true, Bool.not_false, Bool.and_eq_true, Bool.or_eq_true, Bool.and_eq_false_iff, Bool.or_eq_false_iff] at h <;> try (exfalso; first | omega | contradiction)))
      all_goals first | (first | exact RetQ.r 0 rfl (Nat.le_of_ble_eq_true rfl) rfl (by first | rfl | (simp only [go_sem, Nat.lt_irrefl])) ⟨rfl, rfl⟩ | exact RetQ.n 0 rfl (Nat.le_of_ble_eq_true rfl) rfl (by first | rfl | (simp only [go_sem, Nat.lt_irrefl])) ⟨rfl, rfl⟩) | (exfalso; simp_all; done)
    · have hR : Ck.check ⟨v, false, (t, n)⟩ = 1 := by
        unfold Ck.check
        simp only
        rw [if_neg (by simpa using hc), if_pos trivial, if_pos (by intro e; exact hz ⟨(Prod.mk.inj e).1, (Prod.mk.inj e).2⟩)]
      rw [hR]
      repeat' (first
    | ((first
      | ((first | refine AL.callv (by decide) fun Kr hr => ?_ | refine AL.callv0 fun Kr hr => ?_ | refine AL.g1v (by decide) rfl fun Kr hr => ?_); first
      | (refine AOp.cι (fun _ _ => rfl) [] rfl (vector_Check v hv) Emb.nil rfl ?_; rintro y obs ⟨rfl, rfl⟩))
      | refine AL.one (by decide) fun Kr hr => ?_
      | refine AL.one0 fun Kr hr => ?_); (try simp only [ao, List.map_cons, List.map_nil]); simp (disch := omega) only [go_sem, hc]; (repeat first | refine ⟨by first | omega | assumption | rfl | (simp only [List.length_take, List.length_drop, List.length_append, List.length_cons, List.length_nil, List.length_map]; omega), ?_⟩); refine hr _ _ ?_; clear hr Kr)
    | refine AL.nil ?_ | refine AW.seq' ?_ | refine AW.region ?_ | refine AW.block ?_ | refine AW.skip ?_ | refine AW.ret ?_ | refine AW.exit ?_ | refine thenQ_n ?_ | refine thenQ_r ?_ | refine thenQ_e ?_ | refine blockQ_n ?_ | refine blockQ_r ?_ | refine blockQ_e ?_ | refine blockQ_o (by decide) ?_ | refine AW.draw T.mixed (by kernel_rfl) ?_ | (refine ADr.nil ?_; try clear hgv)
    | (refine AW.cond rfl (fun h => ?_) (fun h => ?_) <;> (try simp only [decide_eq_true_eq, decide_eq_false_iff_not, Bool.false_eq_true, Bool.true_eq_false, Bool.not_eq_true', Bool.not_eq_false', Bool.not_eq_eq_eq_not, Bool.not_true, Bool.not_false, Bool.and_eq_true, Bool.or_eq_true, Bool.and_eq_false_iff, Bool.or_eq_false_iff] at h) <;> try (exfalso; first | omega | contradiction))
    | ((first | refine ADr.gc ?_ (by decide) (by first | assumption | rfl) ?_ ?_ | refine ADr.c ?_ (by decide) ?_ ?_); rotate_left 1; focus ((repeat' (first | exact trivial | refine And.intro ?_ ?_)) <;> (intro Kr hr; (try simp only [ao, List.map_cons, List.map_nil]); simp (disch := omega) only [go_sem, hc]; (repeat first | refine ⟨by first | omega | assumption | rfl | (simp only [List.length_take, List.length_drop, List.length_append, List.length_cons, List.length_nil, List.length_map]; omega), ?_⟩); exact hr)))
    | ((first | refine ADr.ccv ?_ (by decide) ?_ ?_ | refine ADr.gccv ?_ (by decide) (by first | assumption | rfl) ?_ ?_ | refine ADr.gc ?_ (by decide) (by first | assumption | rfl) ?_ ?_ | refine ADr.c ?_ (by decide) ?_ ?_); rotate_left 1; focus ((repeat' (first | exact trivial | refine And.intro ?_ ?_)) <;> (intro Kr hr; (try first | (refine AOp.cι (fun x hx => ev_keep _ x hx) [] rfl (vector_Check v hv) Emb.nil rfl ?_; rintro y obs ⟨rfl, rfl⟩)); (try simp only [ao, List.map_cons, List.map_nil]); simp (disch := omega) only [go_sem, hc]; (repeat first | refine ⟨by first | omega | assumption | rfl | (simp only [List.length_take, List.length_drop, List.length_append, List.length_cons, List.length_nil, List.length_map]; omega), ?_⟩); exact hr)))
    | (refine ADr.gt (by decide) rfl ?_) | (refine ADr.gs (by decide) rfl (by decide) ?_)
    | (refine AL.gt (by decide) rfl ?_) | (refine AL.g0 (by decide) rfl (by decide) ?_) | (refine AL.g1 (by decide) rfl fun Kr hr => ?_; (try simp only [ao, List.map_cons, List.map_nil]); simp (disch := omega) only [go_sem, hc]; (repeat first | refine ⟨by first | omega | assumption | rfl | (simp only [List.length_take, List.length_drop, List.length_append, List.length_cons, List.length_nil, List.length_map]; omega), ?_⟩); refine hr _ _ ?_; clear hr Kr)
    | ((first | refine ADr.gb (by decide) rfl (fun h hgv => ?_) (fun h => ?_) | refine AL.g (by decide) rfl (fun h => ?_) (fun h => ?_)) <;> (try simp only [Bool.not_true, Bool.not_false] at h) <;> (try simp only [h]) <;> simp only [decide_eq_true_eq, decide_eq_false_iff_not, Bool.false_eq_true, Bool.true_eq_false, Bool.not_eq_true', Bool.not_eq_false', Bool.not_eq_eq_eq_not, Bool.not_true, Bool.not_false, Bool.and_eq_true, Bool.or_eq_true, Bool.and_eq_false_iff, Bool.or_eq_false_iff] at h <;> try (exfalso; first | omega | contradiction)))
      all_goals first | (first | exact RetQ.r 0 rfl (Nat.le_of_ble_eq_true rfl) rfl (by first | rfl | (simp only [go_sem, Nat.lt_irrefl])) ⟨rfl, rfl⟩ | exact RetQ.n 0 rfl (Nat.le_of_ble_eq_true rfl) rfl (by first | rfl | (simp only [go_sem, Nat.lt_irrefl])) ⟨rfl, rfl⟩) | (exfalso; simp_all; try omega)
  | true =>
    have hR : Ck.check ⟨v, true, (t, n)⟩ = if 32 < t.length then 3 else if t = [] then 14 else if n = 0 then 7 else if n ≤ v.count t then 15 else 0 := by unfold Ck.check; simp [hc]
    rw [hR]
    clear hR
    repeat' (first
    | ((first
      | ((first | refine AL.callv (by decide) fun Kr hr => ?_ | refine AL.callv0 fun Kr hr => ?_ | refine AL.g1v (by decide) rfl fun Kr hr => ?_); first
      | (refine AOp.cι (fun _ _ => rfl) [] rfl (vector_Check v hv) Emb.nil rfl ?_; rintro y obs ⟨rfl, rfl⟩)
      | (refine AOp.cι (fun _ _ => rfl) [] rfl (vector_Count v t hv.1) Emb.nil rfl ?_; rintro y obs ⟨rfl, rfl⟩))
      | refine AL.one (by decide) fun Kr hr => ?_
      | refine AL.one0 fun Kr hr => ?_); (try simp only [ao, List.map_cons, List.map_nil]); simp (disch := omega) only [go_sem, hc]; (repeat first | refine ⟨by first | omega | assumption | rfl | (simp only [List.length_take, List.length_drop, List.length_append, List.length_cons, List.length_nil, List.length_map]; omega), ?_⟩); refine hr _ _ ?_; clear hr Kr)
    | refine AL.nil ?_ | refine AW.seq' ?_ | refine AW.region ?_ | refine AW.block ?_ | refine AW.skip ?_ | refine AW.ret ?_ | refine AW.exit ?_ | refine thenQ_n ?_ | refine thenQ_r ?_ | refine thenQ_e ?_ | refine blockQ_n ?_ | refine blockQ_r ?_ | refine blockQ_e ?_ | refine blockQ_o (by decide) ?_ | refine AW.draw T.mixed (by kernel_rfl) ?_ | (refine ADr.nil ?_; try clear hgv)
    | (refine AW.cond rfl (fun h => ?_) (fun h => ?_) <;> (try simp only [decide_eq_true_eq, decide_eq_false_iff_not, Bool.false_eq_true, Bool.true_eq_false, Bool.not_eq_true', Bool.not_eq_false', Bool.not_eq_eq_eq_not, Bool.not_true, Bool.not_false, Bool.and_eq_true, Bool.or_eq_true, Bool.and_eq_false_iff, Bool.or_eq_false_iff] at h) <;> try (exfalso; first | omega | contradiction))
    | ((first | refine ADr.gc ?_ (by decide) (by first | assumption | rfl) ?_ ?_ | refine ADr.c ?_ (by decide) ?_ ?_); rotate_left 1; focus ((repeat' (first | exact trivial | refine And.intro ?_ ?_)) <;> (intro Kr hr; (try simp only [ao, List.map_cons, List.map_nil]); simp (disch := omega) only [go_sem, hc]; (repeat first | refine ⟨by first | omega | assumption | rfl | (simp only [List.length_take, List.length_drop, List.length_append, List.length_cons, List.length_nil, List.length_map]; omega), ?_⟩); exact hr)))
    | ((first | refine ADr.ccv ?_ (by decide) ?_ ?_ | refine ADr.gccv ?_ (by decide) (by first | assumption | rfl) ?_ ?_ | refine ADr.gc ?_ (by decide) (by first | assumption | rfl) ?_ ?_ | refine ADr.c ?_ (by decide) ?_ ?_); rotate_left 1; focus ((repeat' (first | exact trivial | refine And.intro ?_ ?_)) <;> (intro Kr hr; (try first | (refine AOp.cι (fun x hx => ev_keep _ x hx) [] rfl (vector_Check v hv) Emb.nil rfl ?_; rintro y obs ⟨rfl, rfl⟩) | (refine AOp.cι (fun x hx => ev_keep _ x hx) [] rfl (vector_Count v t hv.1) Emb.nil rfl ?_; rintro y obs ⟨rfl, rfl⟩)); (try simp only [ao, List.map_cons, List.map_nil]); simp (disch := omega) only [go_sem, hc]; (repeat first | refine ⟨by first | omega | assumption | rfl | (simp only [List.length_take, List.length_drop, List.length_append, List.length_cons, List.length_nil, List.length_map]; omega), ?_⟩); exact hr)))
    | (refine ADr.gt (by decide) rfl ?_) | (refine ADr.gs (by decide) rfl (by decide) ?_)
    | (refine AL.gt (by decide) rfl ?_) | (refine AL.g0 (by decide) rfl (by decide) ?_) | (refine AL.g1 (by decide) rfl fun Kr hr => ?_; (try simp only [ao, List.map_cons, List.map_nil]); simp (disch := omega) only [go_sem, hc]; (repeat first | refine ⟨by first | omega | assumption | rfl | (simp only [List.length_take, List.length_drop, List.length_append, List.length_cons, List.length_nil, List.length_map]; omega), ?_⟩); refine hr _ _ ?_; clear hr Kr)
    | ((first | refine ADr.gb (by decide) rfl (fun h hgv => ?_) (fun h => ?_) | refine AL.g (by decide) rfl (fun h => ?_) (fun h => ?_)) <;> (try simp only [Bool.not_true, Bool.not_false] at h) <;> (try simp only [h]) <;> simp only [decide_eq_true_eq, decide_eq_false_iff_not, Bool.false_eq_true, Bool.true_eq_false, Bool.not_eq_true', Bool.not_eq_false', Bool.not_eq_eq_eq_not, Bool.not_true, Bool.not_false, Bool.and_eq_true, Bool.or_eq_true, Bool.and_eq_false_iff, Bool.or_eq_false_iff] at h <;> try (exfalso; first | omega | contradiction)))
    all_goals first
      | (rw [if_pos (by omega)]; (first | exact RetQ.r 0 rfl (Nat.le_of_ble_eq_true rfl) rfl (by first | rfl | (simp only [go_sem, Nat.lt_irrefl])) ⟨rfl, rfl⟩ | exact RetQ.n 0 rfl (Nat.le_of_ble_eq_true rfl) rfl (by first | rfl | (simp only [go_sem, Nat.lt_irrefl])) ⟨rfl, rfl⟩))
      | (rw [if_neg (by omega), if_pos (by first | assumption | simp_all)]; (first | exact RetQ.r 0 rfl (Nat.le_of_ble_eq_true rfl) rfl (by first | rfl | (simp only [go_sem, Nat.lt_irrefl])) ⟨rfl, rfl⟩ | exact RetQ.n 0 rfl (Nat.le_of_ble_eq_true rfl) rfl (by first | rfl | (simp only [go_sem, Nat.lt_irrefl])) ⟨rfl, rfl⟩))
      | (rw [if_neg (by omega), if_neg (by first | assumption | simp_all), if_pos (by omega)]; (first | exact RetQ.r 0 rfl (Nat.le_of_ble_eq_true rfl) rfl (by first | rfl | (simp only [go_sem, Nat.lt_irrefl])) ⟨rfl, rfl⟩ | exact RetQ.n 0 rfl (Nat.le_of_ble_eq_true rfl) rfl (by first | rfl | (simp only [go_sem, Nat.lt_irrefl])) ⟨rfl, rfl⟩))
      | (rw [if_neg (by omega), if_neg (by first | assumption | simp_all), if_neg (by omega), if_pos (by omega)]; (first | exact RetQ.r 0 rfl (Nat.le_of_ble_eq_true rfl) rfl (by first | rfl | (simp only [go_sem, Nat.lt_irrefl])) ⟨rfl, rfl⟩ | exact RetQ.n 0 rfl (Nat.le_of_ble_eq_true rfl) rfl (by first | rfl | (simp only [go_sem, Nat.lt_irrefl])) ⟨rfl, rfl⟩))
      | (rw [if_neg (by omega), if_neg (by first | assumption | simp_all), if_neg (by omega), if_neg (by omega)]; (first | exact RetQ.r 0 rfl (Nat.le_of_ble_eq_true rfl) rfl (by first | rfl | (simp only [go_sem, Nat.lt_irrefl])) ⟨rfl, rfl⟩ | exact RetQ.n 0 rfl (Nat.le_of_ble_eq_true rfl) rfl (by first | rfl | (simp only [go_sem, Nat.lt_irrefl])) ⟨rfl, rfl⟩))
theorem ref12_Check (k : Ck) (hk : k.fits) : AC Try.prog 99 [ckV k] [] fun x σ => x = iv .i64 k.check ∧ σ = [] := by
  obtain ⟨v, f, t, n⟩ := k
  obtain ⟨hv, ht, hn⟩ := hk
  simp only at hv ht hn
  refine AC.walk Try.func99 rfl (by decide) (of_decide_eq_true rfl) ?_
  by_cases hc : v.check = 0
  case neg =>
    have hR : Ck.check ⟨v, f, (t, n)⟩ = v.check := by unfold Ck.check; rw [if_pos hc]
    rw [hR]
    repeat' (first
    | ((first
      | ((first | refine AL.callv (by decide) fun Kr hr => ?_ | refine AL.callv0 fun Kr hr => ?_ | refine AL.g1v (by decide) rfl fun Kr hr => ?_); first
      | (refine AOp.cι (fun _ _ => rfl) [] rfl (ref10_Check v hv) Emb.nil rfl ?_; rintro y obs ⟨rfl, rfl⟩))
      | refine AL.one (by decide) fun Kr hr => ?_
      | refine AL.one0 fun Kr hr => ?_); (try simp only [ao, List.map_cons, List.map_nil]); simp (disch := omega) only [go_sem]; (repeat first | refine ⟨by first | omega | assumption | rfl | (simp only [List.length_take, List.length_drop, List.length_append, List.length_cons, List.length_nil, List.length_map]; omega), ?_⟩); refine hr _ _ ?_; clear hr Kr)
    | refine AL.nil ?_ | refine AW.seq' ?_ | refine AW.region ?_ | refine AW.block ?_ | refine AW.skip ?_ | refine AW.ret ?_ | refine AW.exit ?_ | refine thenQ_n ?_ | refine thenQ_r ?_ | refine thenQ_e ?_ | refine blockQ_n ?_ | refine blockQ_r ?_ | refine blockQ_e ?_ | refine blockQ_o (by decide) ?_ | refine AW.draw T.mixed (by kernel_rfl) ?_ | (refine ADr.nil ?_; try clear hgv)
    | (refine AW.cond rfl (fun h => ?_) (fun h => ?_) <;> (try simp only [decide_eq_true_eq, decide_eq_false_iff_not, Bool.false_eq_true, Bool.true_eq_false, Bool.not_eq_true', Bool.not_eq_false', Bool.not_eq_eq_eq_not, Bool.not_true, Bool.not_false, Bool.and_eq_true, Bool.or_eq_true, Bool.and_eq_false_iff, Bool.or_eq_false_iff] at h) <;> try (exfalso; first | omega | contradiction))
    | ((first | refine ADr.gc ?_ (by decide) (by first | assumption | rfl) ?_ ?_ | refine ADr.c ?_ (by decide) ?_ ?_); rotate_left 1; focus ((repeat' (first | exact trivial | refine And.intro ?_ ?_)) <;> (intro Kr hr; (try simp only [ao, List.map_cons, List.map_nil]); simp (disch := omega) only [go_sem]; (repeat first | refine ⟨by first | omega | assumption | rfl | (simp only [List.length_take, List.length_drop, List.length_append, List.length_cons, List.length_nil, List.length_map]; omega), ?_⟩); exact hr)))
    | ((first | refine ADr.ccv ?_ (by decide) ?_ ?_ | refine ADr.gccv ?_ (by decide) (by first | assumption | rfl) ?_ ?_ | refine ADr.gc ?_ (by decide) (by first | assumption | rfl) ?_ ?_ | refine ADr.c ?_ (by decide) ?_ ?_); rotate_left 1; focus ((repeat' (first | exact trivial | refine And.intro ?_ ?_)) <;> (intro Kr hr; (try first | (refine AOp.cι (fun x hx => ev_keep _ x hx) [] rfl (ref10_Check v hv) Emb.nil rfl ?_; rintro y obs ⟨rfl, rfl⟩)); (try simp only [ao, List.map_cons, List.map_nil]); simp (disch := omega) only [go_sem]; (repeat first | refine ⟨by first | omega | assumption | rfl | (simp only [List.length_take, List.length_drop, List.length_append, List.length_cons, List.length_nil, List.length_map]; omega), ?_⟩); exact hr)))
    | (refine ADr.gt (by decide) rfl ?_) | (refine ADr.gs (by decide) rfl (by decide) ?_)
    | (refine AL.gt (by decide) rfl ?_) | (refine AL.g0 (by decide) rfl (by decide) ?_) | (refine AL.g1 (by decide) rfl fun Kr hr => ?_; (try simp only [ao, List.map_cons, List.map_nil]); simp (disch := omega) only [go_sem]; (repeat first | refine ⟨by first | omega | assumption | rfl | (simp only [List.length_take, List.length_drop, List.length_append, List.length_cons, List.length_nil, List.length_map]; omega), ?_⟩); refine hr _ _ ?_; clear hr Kr)
    | ((first | refine ADr.gb (by decide) rfl (fun h hgv => ?_) (fun h => ?_) | refine AL.g (by decide) rfl (fun h => ?_) (fun h => ?_)) <;> (try simp only [Bool.not_true, Bool.not_false] at h) <;> (try simp only [h]) <;> simp only [decide_eq_true_eq, decide_eq_false_iff_not, Bool.false_eq_true, Bool.true_eq_false, Bool.not_eq_true', Bool.not_eq_false', Bool.not_eq_eq_eq_not, Bool.not_true, Bool.not_false, Bool.and_eq_true, Bool.or_eq_true, Bool.and_eq_false_iff, Bool.or_eq_false_iff] at h <;> try (exfalso; first | omega | contradiction)))
    all_goals first | (first | exact RetQ.r 0 rfl (Nat.le_of_ble_eq_true rfl) rfl (by first | rfl | (simp only [go_sem, Nat.lt_irrefl])) ⟨rfl, rfl⟩ | exact RetQ.n 0 rfl (Nat.le_of_ble_eq_true rfl) rfl (by first | rfl | (simp only [go_sem, Nat.lt_irrefl])) ⟨rfl, rfl⟩) | (exfalso; simp_all; done)
  cases f with
  | false =>
    by_cases hz : t = [] ∧ n = 0
    · obtain ⟨rfl, rfl⟩ := hz
      have hR : Ck.check ⟨v, false, ([], 0)⟩ = 0 := by unfold Ck.check; simp [hc]
      rw [hR]
      repeat' (first
    | ((first
      | ((first | refine AL.callv (by decide) fun Kr hr => ?_ | refine AL.callv0 fun Kr hr => ?_ | refine AL.g1v (by decide) rfl fun Kr hr => ?_); first
      | (refine AOp.cι (fun _ _ => rfl) [] rfl (ref10_Check v hv) Emb.nil rfl ?_; rintro y obs ⟨rfl, rfl⟩))
      | refine AL.one (by decide) fun Kr hr => ?_
      | refine AL.one0 fun Kr hr => ?_); (try simp only [ao, List.map_cons, List.map_nil]); simp (disch := omega) only [go_sem, hc]; (repeat first | refine ⟨by first | omega | assumption | rfl | (simp only [List.length_take, List.length_drop, List.length_append, List.length_cons, List.length_nil, List.length_map]; omega), ?_⟩); refine hr _ _ ?_; clear hr Kr)
    | refine AL.nil ?_ | refine AW.seq' ?_ | refine AW.region ?_ | refine AW.block ?_ | refine AW.skip ?_ | refine AW.ret ?_ | refine AW.exit ?_ | refine thenQ_n ?_ | refine thenQ_r ?_ | refine thenQ_e ?_ | refine blockQ_n ?_ | refine blockQ_r ?_ | refine blockQ_e ?_ | refine blockQ_o (by decide) ?_ | refine AW.draw T.mixed (by kernel_rfl) ?_ | (refine ADr.nil ?_; try clear hgv)
    | (refine AW.cond rfl (fun h => ?_) (fun h => ?_) <;> (try simp only [decide_eq_true_eq, decide_eq_false_iff_not, Bool.false_eq_true, Bool.true_eq_false, Bool.not_eq_true', Bool.not_eq_false', Bool.not_eq_eq_eq_not, Bool.not_true, Bool.not_false, Bool.and_eq_true, Bool.or_eq_true, Bool.and_eq_false_iff, Bool.or_eq_false_iff] at h) <;> try (exfalso; first | omega | contradiction))
    | ((first | refine ADr.gc ?_ (by decide) (by first | assumption | rfl) ?_ ?_ | refine ADr.c ?_ (by decide) ?_ ?_); rotate_left 1; focus ((repeat' (first | exact trivial | refine And.intro ?_ ?_)) <;> (intro Kr hr; (try simp only [ao, List.map_cons, List.map_nil]); simp (disch := omega) only [go_sem, hc]; (repeat first | refine ⟨by first | omega | assumption | rfl | (simp only [List.length_take, List.length_drop, List.length_append, List.length_cons, List.length_nil, List.length_map]; omega), ?_⟩); exact hr)))
    | ((first | refine ADr.ccv ?_ (by decide) ?_ ?_ | refine ADr.gccv ?_ (by decide) (by first | assumption | rfl) ?_ ?_ | refine ADr.gc ?_ (by decide) (by first | assumption | rfl) ?_ ?_ | refine ADr.c ?_ (by decide) ?_ ?_); rotate_left 1; focus ((repeat' (first | exact trivial | refine And.intro ?_ ?_)) <;> (intro Kr hr; (try first | (refine AOp.cι (fun x hx => ev_keep _ x hx) [] rfl (ref10_Check v hv) Emb.nil rfl ?_; rintro y obs ⟨rfl, rfl⟩)); (try simp only [ao, List.map_cons, List.map_nil]); simp (disch := omega) only [go_sem, hc]; (repeat first | refine ⟨by first | omega | assumption | rfl | (simp only [List.length_take, List.length_drop, List.length_append, List.length_cons, List.length_nil, List.length_map]; omega), ?_⟩); exact hr)))
    | (refine ADr.gt (by decide) rfl ?_) | (refine ADr.gs (by decide) rfl (by decide) ?_)
    | (refine AL.gt (by decide) rfl ?_) | (refine AL.g0 (by decide) rfl (by decide) ?_) | (refine AL.g1 (by decide) rfl fun Kr hr => ?_; (try simp only [ao, List.map_cons, List.map_nil]); simp (disch := omega) only [go_sem, hc]; (repeat first | refine ⟨by first | omega | assumption | rfl | (simp only [List.length_take, List.length_drop, List.length_append, List.length_cons, List.length_nil, List.length_map]; omega), ?_⟩); refine hr _ _ ?_; clear hr Kr)
    | ((first | refine ADr.gb (by decide) rfl (fun h hgv => ?_) (fun h => ?_) | refine AL.g (by decide) rfl (fun h => ?_) (fun h => ?_)) <;> (try simp only [Bool.not_true, Bool.not_false] at h) <;> (try simp only [h]) <;> simp only [decide_eq_true_eq, decide_eq_false_iff_not, Bool.false_eq_true, Bool.true_eq_false, Bool.not_eq_true', Bool.not_eq_false', Bool.not_eq_eq_eq_not, Bool.not_true, Bool.not_false, Bool.and_eq_true, Bool.or_eq_true, Bool.and_eq_false_iff, Bool.or_eq_false_iff] at h <;> try (exfalso; first | omega | contradiction)))
      all_goals first | (first | exact RetQ.r 0 rfl (Nat.le_of_ble_eq_true rfl) rfl (by first | rfl | (simp only [go_sem, Nat.lt_irrefl])) ⟨rfl, rfl⟩ | exact RetQ.n 0 rfl (Nat.le_of_ble_eq_true rfl) rfl (by first | rfl | (simp only [go_sem, Nat.lt_irrefl])) ⟨rfl, rfl⟩) | (exfalso; simp_all; done)
    · have hR : Ck.check ⟨v, false, (t, n)⟩ = 1 := by
        unfold Ck.check
        simp only
        rw [if_neg (by simpa using hc), if_pos trivial, if_pos (by intro e; exact hz ⟨(Prod.mk.inj e).1, (Prod.mk.inj e).2⟩)]
      rw [hR]
      repeat' (first
    | ((first
      | ((first | refine AL.callv (by decide) fun Kr hr => ?_ | refine AL.callv0 fun Kr hr => ?_ | refine AL.g1v (by decide) rfl fun Kr hr => ?_); first
      | (refine AOp.cι (fun _ _ => rfl) [] rfl (ref10_Check v hv) Emb.nil rfl ?_; rintro y obs ⟨rfl, rfl⟩))
      | refine AL.one (by decide) fun Kr hr => ?_
      | refine AL.one0 fun Kr hr => ?_); (try simp only [ao, List.map_cons, List.map_nil]); simp (disch := omega) only [go_sem, hc]; (repeat first | refine ⟨by first | omega | assumption | rfl | (simp only [List.length_take, List.length_drop, List.length_append, List.length_cons, List.length_nil, List.length_map]; omega), ?_⟩); refine hr _ _ ?_; clear hr Kr)
    | refine AL.nil ?_ | refine AW.seq' ?_ | refine AW.region ?_ | refine AW.block ?_ | refine AW.skip ?_ | refine AW.ret ?_ | refine AW.exit ?_ | refine thenQ_n ?_ | refine thenQ_r ?_ | refine thenQ_e ?_ | refine blockQ_n ?_ | refine blockQ_r ?_ | refine blockQ_e ?_ | refine blockQ_o (by decide) ?_ | refine AW.draw T.mixed (by kernel_rfl) ?_ | (refine ADr.nil ?_; try clear hgv)
    | (refine AW.cond rfl (fun h => ?_) (fun h => ?_) <;> (try simp only [decide_eq_true_eq, decide_eq_false_iff_not, Bool.false_eq_true, Bool.true_eq_false, Bool.not_eq_true', Bool.not_eq_false', Bool.not_eq_eq_eq_not, Bool.not_true, Bool.not_false, Bool.and_eq_true, Bool.or_eq_true, Bool.and_eq_false_iff, Bool.or_eq_false_iff] at h) <;> try (exfalso; first | omega | contradiction))
    | ((first | refine ADr.gc ?_ (by decide) (by first | assumption | rfl) ?_ ?_ | refine ADr.c ?_ (by decide) ?_ ?_); rotate_left 1; focus ((repeat' (first | exact trivial | refine And.intro ?_ ?_)) <;> (intro Kr hr; (try simp only [ao, List.map_cons, List.map_nil]); simp (disch := omega) only [go_sem, hc]; (repeat first | refine ⟨by first | omega | assumption | rfl | (simp only [List.length_take, List.length_drop, List.length_append, List.length_cons, List.length_nil, List.length_map]; omega), ?_⟩); exact hr)))
    | ((first | refine ADr.ccv ?_ (by decide) ?_ ?_ | refine ADr.gccv ?_ (by decide) (by first | assumption | rfl) ?_ ?_ | refine ADr.gc ?_ (by decide) (by first | assumption | rfl) ?_ ?_ | refine ADr.c ?_ (by decide) ?_ ?_); rotate_left 1; focus ((repeat' (first | exact trivial | refine And.intro ?_ ?_)) <;> (intro Kr hr; (try first | (refine AOp.cι (fun x hx => ev_keep _ x hx) [] rfl (ref10_Check v hv) Emb.nil rfl ?_; rintro y obs ⟨rfl, rfl⟩)); (try simp only [ao, List.map_cons, List.map_nil]); simp (disch := omega) only [go_sem, hc]; (repeat first | refine ⟨by first | omega | assumption | rfl | (simp only [List.length_take, List.length_drop, List.length_append, List.length_cons, List.length_nil, List.length_map]; omega), ?_⟩); exact hr)))
    | (refine ADr.gt (by decide) rfl ?_) | (refine ADr.gs (by decide) rfl (by decide) ?_)
    | (refine AL.gt (by decide) rfl ?_) | (refine AL.g0 (by decide) rfl (by decide) ?_) | (refine AL.g1 (by decide) rfl fun Kr hr => ?_; (try simp only [ao, List.map_cons, List.map_nil]); simp (disch := omega) only [go_sem, hc]; (repeat first | refine ⟨by first | omega | assumption | rfl | (simp only [List.length_take, List.length_drop, List.length_append, List.length_cons, List.length_nil, List.length_map]; omega), ?_⟩); refine hr _ _ ?_; clear hr Kr)
    | ((first | refine ADr.gb (by decide) rfl (fun h hgv => ?_) (fun h => ?_) | refine AL.g (by decide) rfl (fun h => ?_) (fun h => ?_)) <;> (try simp only [Bool.not_true, Bool.not_false] at h) <;> (try simp only [h]) <;> simp only [decide_eq_true_eq, decide_eq_false_iff_not, Bool.false_eq_true, Bool.true_eq_false, Bool.not_eq_true', Bool.not_eq_false', Bool.not_eq_eq_eq_not, Bool.not_true, Bool.not_false, Bool.and_eq_true, Bool.or_eq_true, Bool.and_eq_false_iff, Bool.or_eq_false_iff] at h <;> try (exfalso; first | omega | contradiction)))
      all_goals first | (first | exact RetQ.r 0 rfl (Nat.le_of_ble_eq_true rfl) rfl (by first | rfl | (simp only [go_sem, Nat.lt_irrefl])) ⟨rfl, rfl⟩ | exact RetQ.n 0 rfl (Nat.le_of_ble_eq_true rfl) rfl (by first | rfl | (simp only [go_sem, Nat.lt_irrefl])) ⟨rfl, rfl⟩) | (exfalso; simp_all; try omega)
  | true =>
    have hR : Ck.check ⟨v, true, (t, n)⟩ = if 32 < t.length then 3 else if t = [] then 14 else if n = 0 then 7 else if n ≤ v.count t then 15 else 0 := by unfold Ck.check; simp [hc]
    rw [hR]
    clear hR
    have hxe : t = [] ↔ t.length = 0 := by simp
    repeat' (first
    | ((first
      | ((first | refine AL.callv (by decide) fun Kr hr => ?_ | refine AL.callv0 fun Kr hr => ?_ | refine AL.g1v (by decide) rfl fun Kr hr => ?_); first
      | (refine AOp.cι (fun _ _ => rfl) [] rfl (ref10_Check v hv) Emb.nil rfl ?_; rintro y obs ⟨rfl, rfl⟩)
      | (refine AOp.cι (fun _ _ => rfl) [] rfl (ref10_Count v t hv.1) Emb.nil rfl ?_; rintro y obs ⟨rfl, rfl⟩))
      | refine AL.one (by decide) fun Kr hr => ?_
      | refine AL.one0 fun Kr hr => ?_); (try simp only [ao, List.map_cons, List.map_nil]); simp (disch := omega) only [go_sem, hc]; (repeat first | refine ⟨by first | omega | assumption | rfl | (simp only [List.length_take, List.length_drop, List.length_append, List.length_cons, List.length_nil, List.length_map]; omega), ?_⟩); refine hr _ _ ?_; clear hr Kr)
    | refine AL.nil ?_ | refine AW.seq' ?_ | refine AW.region ?_ | refine AW.block ?_ | refine AW.skip ?_ | refine AW.ret ?_ | refine AW.exit ?_ | refine thenQ_n ?_ | refine thenQ_r ?_ | refine thenQ_e ?_ | refine blockQ_n ?_ | refine blockQ_r ?_ | refine blockQ_e ?_ | refine blockQ_o (by decide) ?_ | refine AW.draw T.mixed (by kernel_rfl) ?_ | (refine ADr.nil ?_; try clear hgv)
    | (refine AW.cond rfl (fun h => ?_) (fun h => ?_) <;> (try simp only [decide_eq_true_eq, decide_eq_false_iff_not, Bool.false_eq_true, Bool.true_eq_false, Bool.not_eq_true', Bool.not_eq_false', Bool.not_eq_eq_eq_not, Bool.not_true, Bool.not_false, Bool.and_eq_true, Bool.or_eq_true, Bool.and_eq_false_iff, Bool.or_eq_false_iff] at h) <;> try (exfalso; first | omega | contradiction))
    | ((first | refine ADr.gc ?_ (by decide) (by first | assumption | rfl) ?_ ?_ | refine ADr.c ?_ (by decide) ?_ ?_); rotate_left 1; focus ((repeat' (first | exact trivial | refine And.intro ?_ ?_)) <;> (intro Kr hr; (try simp only [ao, List.map_cons, List.map_nil]); simp (disch := omega) only [go_sem, hc]; (repeat first | refine ⟨by first | omega | assumption | rfl | (simp only [List.length_take, List.length_drop, List.length_append, List.length_cons, List.length_nil, List.length_map]; omega), ?_⟩); exact hr)))
    | ((first | refine ADr.ccv ?_ (by decide) ?_ ?_ | refine ADr.gccv ?_ (by decide) (by first | assumption | rfl) ?_ ?_ | refine ADr.gc ?_ (by decide) (by first | assumption | rfl) ?_ ?_ | refine ADr.c ?_ (by decide) ?_ ?_); rotate_left 1; focus ((repeat' (first | exact trivial | refine And.intro ?_ ?_)) <;> (intro Kr hr; (try first | (refine AOp.cι (fun x hx => ev_keep _ x hx) [] rfl (ref10_Check v hv) Emb.nil rfl ?_; rintro y obs ⟨rfl, rfl⟩) | (refine AOp.cι (fun x hx => ev_keep _ x hx) [] rfl (ref10_Count v t hv.1) Emb.nil rfl ?_; rintro y obs ⟨rfl, rfl⟩)); (try simp only [ao, List.map_cons, List.map_nil]); simp (disch := omega) only [go_sem, hc]; (repeat first | refine ⟨by first | omega | assumption | rfl | (simp only [List.length_take, List.length_drop, List.length_append, List.length_cons, List.length_nil, List.length_map]; omega), ?_⟩); exact hr)))
    | (refine ADr.gt (by decide) rfl ?_) | (refine ADr.gs (by decide) rfl (by decide) ?_)
    | (refine AL.gt (by decide) rfl ?_) | (refine AL.g0 (by decide) rfl (by decide) ?_) | (refine AL.g1 (by decide) rfl fun Kr hr => ?_; (try simp only [ao, List.map_cons, List.map_nil]); simp (disch := omega) only [go_sem, hc]; (repeat first | refine ⟨by first | omega | assumption | rfl | (simp only [List.length_take, List.length_drop, List.length_append, List.length_cons, List.length_nil, List.length_map]; omega), ?_⟩); refine hr _ _ ?_; clear hr Kr)
    | ((first | refine ADr.gb (by decide) rfl (fun h hgv => ?_) (fun h => ?_) | refine AL.g (by decide) rfl (fun h => ?_) (fun h => ?_)) <;> (try simp only [Bool.not_true, Bool.not_false] at h) <;> (try simp only [h]) <;> simp only [decide_eq_true_eq, decide_eq_false_iff_not, Bool.false_eq_true, Bool.true_eq_false, Bool.not_eq_true', Bool.not_eq_false', Bool.not_eq_eq_eq_not, Bool.not_true, Bool.not_false, Bool.and_eq_true, Bool.or_eq_true, Bool.and_eq_false_iff, Bool.or_eq_false_iff] at h <;> try (exfalso; first | omega | contradiction)))
    all_goals first
      | (rw [if_pos (by omega)]; (first | exact RetQ.r 0 rfl (Nat.le_of_ble_eq_true rfl) rfl (by first | rfl | (simp only [go_sem, Nat.lt_irrefl])) ⟨rfl, rfl⟩ | exact RetQ.n 0 rfl (Nat.le_of_ble_eq_true rfl) rfl (by first | rfl | (simp only [go_sem, Nat.lt_irrefl])) ⟨rfl, rfl⟩))
      | (rw [if_neg (by omega), if_pos (by rw [hxe]; omega)]; (first | exact RetQ.r 0 rfl (Nat.le_of_ble_eq_true rfl) rfl (by first | rfl | (simp only [go_sem, Nat.lt_irrefl])) ⟨rfl, rfl⟩ | exact RetQ.n 0 rfl (Nat.le_of_ble_eq_true rfl) rfl (by first | rfl | (simp only [go_sem, Nat.lt_irrefl])) ⟨rfl, rfl⟩))
      | (rw [if_neg (by omega), if_neg (by rw [hxe]; omega), if_pos (by omega)]; (first | exact RetQ.r 0 rfl (Nat.le_of_ble_eq_true rfl) rfl (by first | rfl | (simp only [go_sem, Nat.lt_irrefl])) ⟨rfl, rfl⟩ | exact RetQ.n 0 rfl (Nat.le_of_ble_eq_true rfl) rfl (by first | rfl | (simp only [go_sem, Nat.lt_irrefl])) ⟨rfl, rfl⟩))
      | (rw [if_neg (by omega), if_neg (by rw [hxe]; omega), if_neg (by omega), if_pos (by omega)]; (first | exact RetQ.r 0 rfl (Nat.le_of_ble_eq_true rfl) rfl (by first | rfl | (simp only [go_sem, Nat.lt_irrefl])) ⟨rfl, rfl⟩ | exact RetQ.n 0 rfl (Nat.le_of_ble_eq_true rfl) rfl (by first | rfl | (simp only [go_sem, Nat.lt_irrefl])) ⟨rfl, rfl⟩))
      | (rw [if_neg (by omega), if_neg (by rw [hxe]; omega), if_neg (by omega), if_neg (by omega)]; (first | exact RetQ.r 0 rfl (Nat.le_of_ble_eq_true rfl) rfl (by first | rfl | (simp only [go_sem, Nat.lt_irrefl])) ⟨rfl, rfl⟩ | exact RetQ.n 0 rfl (Nat.le_of_ble_eq_true rfl) rfl (by first | rfl | (simp only [go_sem, Nat.lt_irrefl])) ⟨rfl, rfl⟩))
theorem ck_eq (k o : Ck) : (decide (k.ctx = o.ctx) && (decide (k.dotted = o.dotted) && (decide (k.dot.1 = o.dot.1) && (decide ((k.dot.2 : Int) = o.dot.2) && true)))) = true ↔ k = o := by
  obtain ⟨a, b, c, d⟩ := k
  obtain ⟨a', b', c', d'⟩ := o
  simp only [Bool.and_eq_true, decide_eq_true_eq, and_true, Int.natCast_inj, Ck.mk.injEq, Prod.mk.injEq]
instance : DecidableEq Ck := fun k o => decidable_of_iff _ (ck_eq k o)
theorem ref12_Same (k o : Ck) (hk : k.ctx.length ≤ 9223372036854775807) : AC Try.prog 91 [ckV k, ckV o] [] fun x σ => x = bv (decide (k = o)) ∧ σ = [] := by
  refine AC.walk Try.func91 rfl (by decide) (of_decide_eq_true rfl) ?_
  have hR : decide (k = o) = (decide (k.ctx = o.ctx) && (decide (k.dotted = o.dotted) && (decide (k.dot.1 = o.dot.1) && (decide ((k.dot.2 : Int) = o.dot.2) && true)))) := by
    rw [Bool.eq_iff_iff, decide_eq_true_eq]; exact (ck_eq k o).symm
  rw [hR]
  clear hR
  rcases Bool.eq_false_or_eq_true (decide (k.ctx = o.ctx)) with e1 | e1 <;> rcases Bool.eq_false_or_eq_true (decide (k.dotted = o.dotted)) with e2 | e2
  all_goals
    rw [e1, e2]
    repeat' (first
    | ((first
      | ((first | refine AL.callv (by decide) fun Kr hr => ?_ | refine AL.callv0 fun Kr hr => ?_ | refine AL.g1v (by decide) rfl fun Kr hr => ?_); first
      | (refine AOp.cι (fun _ _ => rfl) [] rfl (ref10_Same k.ctx o.ctx hk) Emb.nil rfl ?_; rintro y obs ⟨rfl, rfl⟩))
      | refine AL.one (by decide) fun Kr hr => ?_
      | refine AL.one0 fun Kr hr => ?_); (try simp only [ao, List.map_cons, List.map_nil]); simp (disch := omega) only [go_sem, e1, e2]; (repeat first | refine ⟨by first | omega | assumption | rfl | (simp only [List.length_take, List.length_drop, List.length_append, List.length_cons, List.length_nil, List.length_map]; omega), ?_⟩); refine hr _ _ ?_; clear hr Kr)
    | refine AL.nil ?_ | refine AW.seq' ?_ | refine AW.region ?_ | refine AW.block ?_ | refine AW.skip ?_ | refine AW.ret ?_ | refine AW.exit ?_ | refine thenQ_n ?_ | refine thenQ_r ?_ | refine thenQ_e ?_ | refine blockQ_n ?_ | refine blockQ_r ?_ | refine blockQ_e ?_ | refine blockQ_o (by decide) ?_
    | (refine AW.cond rfl (fun h => ?_) (fun h => ?_) <;> (try simp only [decide_eq_true_eq, decide_eq_false_iff_not, Bool.false_eq_true, Bool.true_eq_false, Bool.not_eq_true', Bool.not_eq_false', Bool.not_eq_eq_eq_not, Bool.not_true, Bool.not_false, Bool.and_eq_true, Bool.or_eq_true, Bool.and_eq_false_iff, Bool.or_eq_false_iff] at h) <;> try (exfalso; first | omega | contradiction))
    | (refine AL.gt (by decide) rfl ?_) | (refine AL.g0 (by decide) rfl (by decide) ?_) | (refine AL.g1 (by decide) rfl fun Kr hr => ?_; (try simp only [ao, List.map_cons, List.map_nil]); simp (disch := omega) only [go_sem, e1, e2]; (repeat first | refine ⟨by first | omega | assumption | rfl | (simp only [List.length_take, List.length_drop, List.length_append, List.length_cons, List.length_nil, List.length_map]; omega), ?_⟩); refine hr _ _ ?_; clear hr Kr)
    | (refine AL.g (by decide) rfl (fun h => ?_) (fun h => ?_) <;> (try simp only [Bool.not_true, Bool.not_false] at h) <;> (try simp only [h]) <;> simp only [decide_eq_true_eq, decide_eq_false_iff_not, Bool.false_eq_true, Bool.true_eq_false, Bool.not_eq_true', Bool.not_eq_false', Bool.not_eq_eq_eq_not, Bool.not_true, Bool.not_false, Bool.and_eq_true, Bool.or_eq_true, Bool.and_eq_false_iff, Bool.or_eq_false_iff] at h <;> try (exfalso; first | omega | contradiction)))
    all_goals first | (((all_goals first | refine RetQ.r 0 rfl (Nat.le_of_ble_eq_true rfl) rfl (by first | rfl | (simp only [go_sem, ↓reduceIte, Nat.reduceLT, Nat.lt_irrefl])) ⟨?_, ?_⟩ | refine RetQ.n 0 rfl (Nat.le_of_ble_eq_true rfl) rfl (by first | rfl | (simp only [go_sem, ↓reduceIte, Nat.reduceLT, Nat.lt_irrefl])) ⟨?_, ?_⟩); (all_goals first | rfl | (simp [*]; done) | ((simp only [go_sem, ↓reduceIte, Nat.reduceLT]; (repeat' split)) <;> first | rfl | (exfalso; omega) | (simp_all; done) | (simp_all; omega)))); done) | (exfalso; simp_all; done)
theorem ref12_Great (k : Ck) (hk : k.fits) : AC Try.prog 90 [ckV k] [] fun x σ => x = bv k.great ∧ σ = [] := by
  refine AC.walk Try.func90 rfl (by decide) (of_decide_eq_true rfl) ?_
  unfold Ck.great
  cases hg : k.ctx.great
  all_goals
    repeat' (first
    | ((first
      | ((first | refine AL.callv (by decide) fun Kr hr => ?_ | refine AL.callv0 fun Kr hr => ?_ | refine AL.g1v (by decide) rfl fun Kr hr => ?_); first
      | (refine AOp.cι (fun _ _ => rfl) [] rfl (ref10_Great k.ctx hk.1) Emb.nil rfl ?_; rintro y obs ⟨rfl, rfl⟩))
      | refine AL.one (by decide) fun Kr hr => ?_
      | refine AL.one0 fun Kr hr => ?_); (try simp only [ao, List.map_cons, List.map_nil]); simp (disch := omega) only [go_sem, hg]; (repeat first | refine ⟨by first | omega | assumption | rfl | (simp only [List.length_take, List.length_drop, List.length_append, List.length_cons, List.length_nil, List.length_map]; omega), ?_⟩); refine hr _ _ ?_; clear hr Kr)
    | refine AL.nil ?_ | refine AW.seq' ?_ | refine AW.region ?_ | refine AW.block ?_ | refine AW.skip ?_ | refine AW.ret ?_ | refine AW.exit ?_ | refine thenQ_n ?_ | refine thenQ_r ?_ | refine thenQ_e ?_ | refine blockQ_n ?_ | refine blockQ_r ?_ | refine blockQ_e ?_ | refine blockQ_o (by decide) ?_
    | (refine AW.cond rfl (fun h => ?_) (fun h => ?_) <;> (try simp only [decide_eq_true_eq, decide_eq_false_iff_not, Bool.false_eq_true, Bool.true_eq_false, Bool.not_eq_true', Bool.not_eq_false', Bool.not_eq_eq_eq_not, Bool.not_true, Bool.not_false, Bool.and_eq_true, Bool.or_eq_true, Bool.and_eq_false_iff, Bool.or_eq_false_iff] at h) <;> try (exfalso; first | omega | contradiction))
    | (refine AL.gt (by decide) rfl ?_) | (refine AL.g0 (by decide) rfl (by decide) ?_) | (refine AL.g1 (by decide) rfl fun Kr hr => ?_; (try simp only [ao, List.map_cons, List.map_nil]); simp (disch := omega) only [go_sem, hg]; (repeat first | refine ⟨by first | omega | assumption | rfl | (simp only [List.length_take, List.length_drop, List.length_append, List.length_cons, List.length_nil, List.length_map]; omega), ?_⟩); refine hr _ _ ?_; clear hr Kr)
    | (refine AL.g (by decide) rfl (fun h => ?_) (fun h => ?_) <;> (try simp only [Bool.not_true, Bool.not_false] at h) <;> (try simp only [h]) <;> simp only [decide_eq_true_eq, decide_eq_false_iff_not, Bool.false_eq_true, Bool.true_eq_false, Bool.not_eq_true', Bool.not_eq_false', Bool.not_eq_eq_eq_not, Bool.not_true, Bool.not_false, Bool.and_eq_true, Bool.or_eq_true, Bool.and_eq_false_iff, Bool.or_eq_false_iff] at h <;> try (exfalso; first | omega | contradiction)))
    all_goals first | (((all_goals first | refine RetQ.r 0 rfl (Nat.le_of_ble_eq_true rfl) rfl (by first | rfl | (simp only [go_sem, ↓reduceIte, Nat.reduceLT, Nat.lt_irrefl])) ⟨?_, ?_⟩ | refine RetQ.n 0 rfl (Nat.le_of_ble_eq_true rfl) rfl (by first | rfl | (simp only [go_sem, ↓reduceIte, Nat.reduceLT, Nat.lt_irrefl])) ⟨?_, ?_⟩); (all_goals first | rfl | (simp [*]; done) | ((simp only [go_sem, ↓reduceIte, Nat.reduceLT]; (repeat' split)) <;> first | rfl | (exfalso; omega) | (simp_all; done) | (simp_all; omega)))); done) | (exfalso; simp_all; done)
end Go.AW
