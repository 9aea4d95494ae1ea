/-
  varint, the program's and the document's: what is written.
-/
import Derived.Test.YtiiacdheopdooaaPen
import Derived.Test.YtiiacdheopdooaaRef02
import Derived.Test.YtiiacdheopdooaaPVarint
import Derived.Test.YtiiacdheopdooaaBits
namespace Go.AW
open Go Go.Proofs
set_option maxHeartbeats 2000000
set_option maxRecDepth 10000
set_option linter.unusedSimpArgs false
set_option linter.unusedVariables false
attribute [local irreducible] thenQ blockQ RetQ AL AW AC AOp

theorem or128 (m : Nat) : bitI .or .u8 (IntKind.wrap .u8 (m : Int)) 128 = ((UInt8.ofNat (m % 128 + 128)).toNat : Int) := by
  have h1 : IntKind.wrap .u8 (m : Int) = ((m % 256 : Nat) : Int) := by
    simp only [IntKind.wrap, IntKind.bits, IntKind.signed]
    simp
  have h2 : ∀ x : Nat, x < 256 → x ||| 128 = x % 128 + 128 := by decide
  have h3 := or_u8 (x := m % 256) (y := 128) (Nat.mod_lt _ (by omega)) (by omega)
  rw [show ((128 : Nat) : Int) = 128 from rfl] at h3
  rw [h1, h3, h2 _ (Nat.mod_lt _ (by omega))]
  simp
  omega

theorem ref03_Encode (n : Nat) (hn : n < 18446744073709551616) : AC Try.prog 228 [iv .u64 n] [] fun x σ => x = sv (bs (vput n)) ∧ σ = [] := by
  induction n using Nat.strongRecOn with
  | ind n ih =>
  have hq : (n : Int).tdiv 128 = ((n / 128 : Nat) : Int) := rfl
  have hm : (n : Int).tmod 128 = ((n % 128 : Nat) : Int) := rfl
  refine AC.walk Try.func228 rfl (by decide) (of_decide_eq_true rfl) ?_
  by_cases h128 : n < 128
  · have hv : vput n = [UInt8.ofNat n] := by unfold vput; rw [if_pos h128]
    repeat' (first
    | ((first
      | refine AL.one (by decide) fun Kr hr => ?_
      | refine AL.one0 fun Kr hr => ?_); (try simp only [ao, List.map_cons, List.map_nil]); simp (disch := omega) only [go_sem, hq, hm]; (repeat first | (refine ⟨_, bsD_nums _, by simp only [List.length_map], ?_⟩; simp only [strOfNums_bs]) | (refine ⟨[_], rfl, rfl, ?_⟩; simp only [strOfNums_one, UInt8.ofNat_toNat, Int.toNat_natCast]) | refine ⟨by first | omega | assumption | rfl | (simp only [List.length_take, List.length_drop, List.length_append, List.length_cons, List.length_nil, List.length_map]; omega), ?_⟩); refine hr _ _ ?_; clear hr Kr)
    | refine AL.nil ?_ | refine AW.seq' ?_ | refine AW.region ?_ | refine AW.block ?_ | refine AW.skip ?_ | refine AW.ret ?_ | refine AW.exit ?_ | refine thenQ_n ?_ | refine thenQ_r ?_ | refine thenQ_e ?_ | refine blockQ_n ?_ | refine blockQ_r ?_ | refine blockQ_e ?_ | refine blockQ_o (by decide) ?_ | refine AW.draw T.mixed (by kernel_rfl) ?_ | (refine ADr.nil ?_; try clear hgv)
    | (refine AW.cond rfl (fun h => ?_) (fun h => ?_) <;> (try simp only [decide_eq_true_eq, decide_eq_false_iff_not, Bool.false_eq_true, Bool.true_eq_false, Bool.not_eq_true', Bool.not_eq_false', Bool.not_eq_eq_eq_not, Bool.not_true, Bool.not_false, Bool.and_eq_true, Bool.or_eq_true, Bool.and_eq_false_iff, Bool.or_eq_false_iff] at h) <;> try (exfalso; first | omega | contradiction))
    | ((first | refine ADr.gc ?_ (by decide) (by first | assumption | rfl) ?_ ?_ | refine ADr.c ?_ (by decide) ?_ ?_); rotate_left 1; focus ((repeat' (first | exact trivial | refine And.intro ?_ ?_)) <;> (intro Kr hr; (try simp only [ao, List.map_cons, List.map_nil]); simp (disch := omega) only [go_sem, hq, hm]; (repeat first | (refine ⟨_, bsD_nums _, by simp only [List.length_map], ?_⟩; simp only [strOfNums_bs]) | (refine ⟨[_], rfl, rfl, ?_⟩; simp only [strOfNums_one, UInt8.ofNat_toNat, Int.toNat_natCast]) | refine ⟨by first | omega | assumption | rfl | (simp only [List.length_take, List.length_drop, List.length_append, List.length_cons, List.length_nil, List.length_map]; omega), ?_⟩); exact hr)))
    | (refine ADr.gt (by decide) rfl ?_) | (refine ADr.gs (by decide) rfl (by decide) ?_)
    | (refine AL.gt (by decide) rfl ?_) | (refine AL.g0 (by decide) rfl (by decide) ?_) | (refine AL.g1 (by decide) rfl fun Kr hr => ?_; (try simp only [ao, List.map_cons, List.map_nil]); simp (disch := omega) only [go_sem, hq, hm]; (repeat first | (refine ⟨_, bsD_nums _, by simp only [List.length_map], ?_⟩; simp only [strOfNums_bs]) | (refine ⟨[_], rfl, rfl, ?_⟩; simp only [strOfNums_one, UInt8.ofNat_toNat, Int.toNat_natCast]) | refine ⟨by first | omega | assumption | rfl | (simp only [List.length_take, List.length_drop, List.length_append, List.length_cons, List.length_nil, List.length_map]; omega), ?_⟩); refine hr _ _ ?_; clear hr Kr)
    | ((first | refine ADr.gb (by decide) rfl (fun h hgv => ?_) (fun h => ?_) | refine AL.g (by decide) rfl (fun h => ?_) (fun h => ?_)) <;> (try simp only [Bool.not_true, Bool.not_false] at h) <;> (try simp only [h]) <;> simp only [decide_eq_true_eq, decide_eq_false_iff_not, Bool.false_eq_true, Bool.true_eq_false, Bool.not_eq_true', Bool.not_eq_false', Bool.not_eq_eq_eq_not, Bool.not_true, Bool.not_false, Bool.and_eq_true, Bool.or_eq_true, Bool.and_eq_false_iff, Bool.or_eq_false_iff] at h <;> try (exfalso; first | omega | contradiction)))
    all_goals first | (((all_goals first | refine RetQ.r 0 rfl (Nat.le_of_ble_eq_true rfl) rfl (by first | rfl | (simp only [go_sem, ↓reduceIte, Nat.reduceLT, Nat.lt_irrefl])) ⟨?_, ?_⟩ | refine RetQ.n 0 rfl (Nat.le_of_ble_eq_true rfl) rfl (by first | rfl | (simp only [go_sem, ↓reduceIte, Nat.reduceLT, Nat.lt_irrefl])) ⟨?_, ?_⟩); (all_goals first | rfl | (simp [*]; done) | ((simp only [go_sem, ↓reduceIte, Nat.reduceLT]; (repeat' split)) <;> first | rfl | (exfalso; omega) | (simp_all; done) | (simp_all; omega)))); done) | (exfalso; omega)
  · have ih := ih (n / 128) (by omega) (by omega)
    have ht : (((n % 128 : Nat) : Int) + 128).toNat = n % 128 + 128 := by omega
    have hl := vput_len10 (n := n / 128) (by omega)
    have hv : vput n = UInt8.ofNat (n % 128 + 128) :: vput (n / 128) := by conv => lhs; unfold vput; rw [if_neg h128]
    repeat' (first
    | ((first
      | ((first | refine AL.callv (by decide) fun Kr hr => ?_ | refine AL.callv0 fun Kr hr => ?_ | refine AL.g1v (by decide) rfl fun Kr hr => ?_); first
      | (refine AOp.cι (fun _ _ => rfl) [] rfl (ih) Emb.nil rfl ?_; rintro y obs ⟨rfl, rfl⟩))
      | refine AL.one (by decide) fun Kr hr => ?_
      | refine AL.one0 fun Kr hr => ?_); (try simp only [ao, List.map_cons, List.map_nil]); simp (disch := omega) only [go_sem, hq, hm, ht]; (repeat first | (refine ⟨_, bsD_nums _, by simp only [List.length_map], ?_⟩; simp only [strOfNums_bs]) | (refine ⟨[_], rfl, rfl, ?_⟩; simp only [strOfNums_one, UInt8.ofNat_toNat, Int.toNat_natCast]) | refine ⟨by first | omega | assumption | rfl | (simp only [List.length_take, List.length_drop, List.length_append, List.length_cons, List.length_nil, List.length_map]; omega), ?_⟩); refine hr _ _ ?_; clear hr Kr)
    | refine AL.nil ?_ | refine AW.seq' ?_ | refine AW.region ?_ | refine AW.block ?_ | refine AW.skip ?_ | refine AW.ret ?_ | refine AW.exit ?_ | refine thenQ_n ?_ | refine thenQ_r ?_ | refine thenQ_e ?_ | refine blockQ_n ?_ | refine blockQ_r ?_ | refine blockQ_e ?_ | refine blockQ_o (by decide) ?_ | refine AW.draw T.mixed (by kernel_rfl) ?_ | (refine ADr.nil ?_; try clear hgv)
    | (refine AW.cond rfl (fun h => ?_) (fun h => ?_) <;> (try simp only [decide_eq_true_eq, decide_eq_false_iff_not, Bool.false_eq_true, Bool.true_eq_false, Bool.not_eq_true', Bool.not_eq_false', Bool.not_eq_eq_eq_not, Bool.not_true, Bool.not_false, Bool.and_eq_true, Bool.or_eq_true, Bool.and_eq_false_iff, Bool.or_eq_false_iff] at h) <;> try (exfalso; first | omega | contradiction))
    | ((first | refine ADr.gc ?_ (by decide) (by first | assumption | rfl) ?_ ?_ | refine ADr.c ?_ (by decide) ?_ ?_); rotate_left 1; focus ((repeat' (first | exact trivial | refine And.intro ?_ ?_)) <;> (intro Kr hr; (try simp only [ao, List.map_cons, List.map_nil]); simp (disch := omega) only [go_sem, hq, hm, ht]; (repeat first | (refine ⟨_, bsD_nums _, by simp only [List.length_map], ?_⟩; simp only [strOfNums_bs]) | (refine ⟨[_], rfl, rfl, ?_⟩; simp only [strOfNums_one, UInt8.ofNat_toNat, Int.toNat_natCast]) | refine ⟨by first | omega | assumption | rfl | (simp only [List.length_take, List.length_drop, List.length_append, List.length_cons, List.length_nil, List.length_map]; omega), ?_⟩); exact hr)))
    | ((first | refine ADr.ccv ?_ (by decide) ?_ ?_ | refine ADr.gccv ?_ (by decide) (by first | assumption | rfl) ?_ ?_ | refine ADr.gc ?_ (by decide) (by first | assumption | rfl) ?_ ?_ | refine ADr.c ?_ (by decide) ?_ ?_); rotate_left 1; focus ((repeat' (first | exact trivial | refine And.intro ?_ ?_)) <;> (intro Kr hr; (try first | (refine AOp.cι (fun x hx => ev_keep _ x hx) [] rfl (ih) Emb.nil rfl ?_; rintro y obs ⟨rfl, rfl⟩)); (try simp only [ao, List.map_cons, List.map_nil]); simp (disch := omega) only [go_sem, hq, hm, ht]; (repeat first | (refine ⟨_, bsD_nums _, by simp only [List.length_map], ?_⟩; simp only [strOfNums_bs]) | (refine ⟨[_], rfl, rfl, ?_⟩; simp only [strOfNums_one, UInt8.ofNat_toNat, Int.toNat_natCast]) | refine ⟨by first | omega | assumption | rfl | (simp only [List.length_take, List.length_drop, List.length_append, List.length_cons, List.length_nil, List.length_map]; omega), ?_⟩); exact hr)))
    | (refine ADr.gt (by decide) rfl ?_) | (refine ADr.gs (by decide) rfl (by decide) ?_)
    | (refine AL.gt (by decide) rfl ?_) | (refine AL.g0 (by decide) rfl (by decide) ?_) | (refine AL.g1 (by decide) rfl fun Kr hr => ?_; (try simp only [ao, List.map_cons, List.map_nil]); simp (disch := omega) only [go_sem, hq, hm, ht]; (repeat first | (refine ⟨_, bsD_nums _, by simp only [List.length_map], ?_⟩; simp only [strOfNums_bs]) | (refine ⟨[_], rfl, rfl, ?_⟩; simp only [strOfNums_one, UInt8.ofNat_toNat, Int.toNat_natCast]) | refine ⟨by first | omega | assumption | rfl | (simp only [List.length_take, List.length_drop, List.length_append, List.length_cons, List.length_nil, List.length_map]; omega), ?_⟩); refine hr _ _ ?_; clear hr Kr)
    | ((first | refine ADr.gb (by decide) rfl (fun h hgv => ?_) (fun h => ?_) | refine AL.g (by decide) rfl (fun h => ?_) (fun h => ?_)) <;> (try simp only [Bool.not_true, Bool.not_false] at h) <;> (try simp only [h]) <;> simp only [decide_eq_true_eq, decide_eq_false_iff_not, Bool.false_eq_true, Bool.true_eq_false, Bool.not_eq_true', Bool.not_eq_false', Bool.not_eq_eq_eq_not, Bool.not_true, Bool.not_false, Bool.and_eq_true, Bool.or_eq_true, Bool.and_eq_false_iff, Bool.or_eq_false_iff] at h <;> try (exfalso; first | omega | contradiction)))
    all_goals try simp only [ht]
    rw [hv]
    ((all_goals first | refine RetQ.r 0 rfl (Nat.le_of_ble_eq_true rfl) rfl (by first | rfl | (simp only [go_sem, ↓reduceIte, Nat.reduceLT, Nat.lt_irrefl])) ⟨?_, ?_⟩ | refine RetQ.n 0 rfl (Nat.le_of_ble_eq_true rfl) rfl (by first | rfl | (simp only [go_sem, ↓reduceIte, Nat.reduceLT, Nat.lt_irrefl])) ⟨?_, ?_⟩); (all_goals first | rfl | (simp [*]; done) | ((simp only [go_sem, ↓reduceIte, Nat.reduceLT]; (repeat' split)) <;> first | rfl | (exfalso; omega) | (simp_all; done) | (simp_all; omega))))

theorem varint_bytes (n : Nat) (hn : n < 18446744073709551616) : AC Try.prog 226 [iv .u64 n] [] fun x σ => x = .d (.l (vput n).length (bsD (vput n))) ∧ σ = [] := by
  refine AC.walk Try.func226 rfl (by decide) (of_decide_eq_true rfl) ?_
  repeat' (first
    | ((first
      | refine AL.one (by decide) fun Kr hr => ?_
      | refine AL.one0 fun Kr hr => ?_); (try simp only [ao, List.map_cons, List.map_nil]); simp (disch := omega) only [go_sem]; (repeat first | (refine ⟨_, bsD_nums _, by simp only [List.length_map], ?_⟩; simp only [strOfNums_bs]) | (refine ⟨[_], rfl, rfl, ?_⟩; simp only [strOfNums_one, UInt8.ofNat_toNat, Int.toNat_natCast]) | refine ⟨by first | omega | assumption | rfl | (simp only [List.length_take, List.length_drop, List.length_append, List.length_cons, List.length_nil, List.length_map]; omega), ?_⟩); refine hr _ _ ?_; clear hr Kr)
    | refine AL.nil ?_ | refine AW.seq' ?_ | refine AW.region ?_ | refine AW.block ?_ | refine AW.skip ?_ | refine AW.ret ?_ | refine AW.exit ?_ | refine thenQ_n ?_ | refine thenQ_r ?_ | refine thenQ_e ?_ | refine blockQ_n ?_ | refine blockQ_r ?_ | refine blockQ_e ?_ | refine blockQ_o (by decide) ?_ | refine AW.draw T.mixed (by kernel_rfl) ?_ | (refine ADr.nil ?_; try clear hgv)
    | (refine AW.cond rfl (fun h => ?_) (fun h => ?_) <;> (try simp only [decide_eq_true_eq, decide_eq_false_iff_not, Bool.false_eq_true, Bool.true_eq_false, Bool.not_eq_true', Bool.not_eq_false', Bool.not_eq_eq_eq_not, Bool.not_true, Bool.not_false, Bool.and_eq_true, Bool.or_eq_true, Bool.and_eq_false_iff, Bool.or_eq_false_iff] at h) <;> try (exfalso; first | omega | contradiction))
    | ((first | refine ADr.gc ?_ (by decide) (by first | assumption | rfl) ?_ ?_ | refine ADr.c ?_ (by decide) ?_ ?_); rotate_left 1; focus ((repeat' (first | exact trivial | refine And.intro ?_ ?_)) <;> (intro Kr hr; (try simp only [ao, List.map_cons, List.map_nil]); simp (disch := omega) only [go_sem]; (repeat first | (refine ⟨_, bsD_nums _, by simp only [List.length_map], ?_⟩; simp only [strOfNums_bs]) | (refine ⟨[_], rfl, rfl, ?_⟩; simp only [strOfNums_one, UInt8.ofNat_toNat, Int.toNat_natCast]) | refine ⟨by first | omega | assumption | rfl | (simp only [List.length_take, List.length_drop, List.length_append, List.length_cons, List.length_nil, List.length_map]; omega), ?_⟩); exact hr)))
    | (refine ADr.gt (by decide) rfl ?_) | (refine ADr.gs (by decide) rfl (by decide) ?_)
    | (refine AL.gt (by decide) rfl ?_) | (refine AL.g0 (by decide) rfl (by decide) ?_) | (refine AL.g1 (by decide) rfl fun Kr hr => ?_; (try simp only [ao, List.map_cons, List.map_nil]); simp (disch := omega) only [go_sem]; (repeat first | (refine ⟨_, bsD_nums _, by simp only [List.length_map], ?_⟩; simp only [strOfNums_bs]) | (refine ⟨[_], rfl, rfl, ?_⟩; simp only [strOfNums_one, UInt8.ofNat_toNat, Int.toNat_natCast]) | refine ⟨by first | omega | assumption | rfl | (simp only [List.length_take, List.length_drop, List.length_append, List.length_cons, List.length_nil, List.length_map]; omega), ?_⟩); refine hr _ _ ?_; clear hr Kr)
    | ((first | refine ADr.gb (by decide) rfl (fun h hgv => ?_) (fun h => ?_) | refine AL.g (by decide) rfl (fun h => ?_) (fun h => ?_)) <;> (try simp only [Bool.not_true, Bool.not_false] at h) <;> (try simp only [h]) <;> simp only [decide_eq_true_eq, decide_eq_false_iff_not, Bool.false_eq_true, Bool.true_eq_false, Bool.not_eq_true', Bool.not_eq_false', Bool.not_eq_eq_eq_not, Bool.not_true, Bool.not_false, Bool.and_eq_true, Bool.or_eq_true, Bool.and_eq_false_iff, Bool.or_eq_false_iff] at h <;> try (exfalso; first | omega | contradiction)))
  refine AW.birth 5 1 [3] [] ?_
  refine AW.rounds [0, 2, 3] (fun x : Nat × List UInt8 => [(0, iv .u64 x.1), (2, .d (.s (.slice none 0 0))), (3, .o 0 x.2.length)]) (fun x => [.row 5 1 x.2.length (bsD x.2)]) (fun x => x.2 ++ vput x.1 = vput n ∧ x.1 < 18446744073709551616) (fun x => x.1) (n, []) ⟨rfl, hn⟩ rfl rfl
    (fun _ _ => Nat.zero_le _) (fun _ _ => rfl) (fun _ _ => rfl) ?_
  rintro ⟨m, acc⟩ ⟨hv, hm⟩ J hJ
  simp only at hv hm hJ ⊢
  have hl : acc.length ≤ 10 := by
    have h1 := congrArg List.length hv
    have h2 := vput_len10 hn
    simp at h1; omega
  repeat' (first
    | ((first
      | refine AL.one (by decide) fun Kr hr => ?_
      | refine AL.one0 fun Kr hr => ?_); (try simp only [ao, List.map_cons, List.map_nil]); simp (disch := omega) only [go_sem]; (repeat first | (refine ⟨_, bsD_nums _, by simp only [List.length_map], ?_⟩; simp only [strOfNums_bs]) | (refine ⟨[_], rfl, rfl, ?_⟩; simp only [strOfNums_one, UInt8.ofNat_toNat, Int.toNat_natCast]) | refine ⟨by first | omega | assumption | rfl | (simp only [List.length_take, List.length_drop, List.length_append, List.length_cons, List.length_nil, List.length_map]; omega), ?_⟩); refine hr _ _ ?_; clear hr Kr)
    | refine AL.nil ?_ | refine AW.seq' ?_ | refine AW.region ?_ | refine AW.block ?_ | refine AW.skip ?_ | refine AW.ret ?_ | refine AW.exit ?_ | refine thenQ_n ?_ | refine thenQ_r ?_ | refine thenQ_e ?_ | refine blockQ_n ?_ | refine blockQ_r ?_ | refine blockQ_e ?_ | refine blockQ_o (by decide) ?_ | refine AW.draw T.mixed (by kernel_rfl) ?_ | (refine ADr.nil ?_; try clear hgv)
    | (refine AW.cond rfl (fun h => ?_) (fun h => ?_) <;> (try simp only [decide_eq_true_eq, decide_eq_false_iff_not, Bool.false_eq_true, Bool.true_eq_false, Bool.not_eq_true', Bool.not_eq_false', Bool.not_eq_eq_eq_not, Bool.not_true, Bool.not_false, Bool.and_eq_true, Bool.or_eq_true, Bool.and_eq_false_iff, Bool.or_eq_false_iff] at h) <;> try (exfalso; first | omega | contradiction))
    | ((first | refine ADr.gc ?_ (by decide) (by first | assumption | rfl) ?_ ?_ | refine ADr.c ?_ (by decide) ?_ ?_); rotate_left 1; focus ((repeat' (first | exact trivial | refine And.intro ?_ ?_)) <;> (intro Kr hr; (try simp only [ao, List.map_cons, List.map_nil]); simp (disch := omega) only [go_sem]; (repeat first | (refine ⟨_, bsD_nums _, by simp only [List.length_map], ?_⟩; simp only [strOfNums_bs]) | (refine ⟨[_], rfl, rfl, ?_⟩; simp only [strOfNums_one, UInt8.ofNat_toNat, Int.toNat_natCast]) | refine ⟨by first | omega | assumption | rfl | (simp only [List.length_take, List.length_drop, List.length_append, List.length_cons, List.length_nil, List.length_map]; omega), ?_⟩); exact hr)))
    | (refine ADr.gt (by decide) rfl ?_) | (refine ADr.gs (by decide) rfl (by decide) ?_)
    | (refine AL.gt (by decide) rfl ?_) | (refine AL.g0 (by decide) rfl (by decide) ?_) | (refine AL.g1 (by decide) rfl fun Kr hr => ?_; (try simp only [ao, List.map_cons, List.map_nil]); simp (disch := omega) only [go_sem]; (repeat first | (refine ⟨_, bsD_nums _, by simp only [List.length_map], ?_⟩; simp only [strOfNums_bs]) | (refine ⟨[_], rfl, rfl, ?_⟩; simp only [strOfNums_one, UInt8.ofNat_toNat, Int.toNat_natCast]) | refine ⟨by first | omega | assumption | rfl | (simp only [List.length_take, List.length_drop, List.length_append, List.length_cons, List.length_nil, List.length_map]; omega), ?_⟩); refine hr _ _ ?_; clear hr Kr)
    | ((first | refine ADr.gb (by decide) rfl (fun h hgv => ?_) (fun h => ?_) | refine AL.g (by decide) rfl (fun h => ?_) (fun h => ?_)) <;> (try simp only [Bool.not_true, Bool.not_false] at h) <;> (try simp only [h]) <;> simp only [decide_eq_true_eq, decide_eq_false_iff_not, Bool.false_eq_true, Bool.true_eq_false, Bool.not_eq_true', Bool.not_eq_false', Bool.not_eq_eq_eq_not, Bool.not_true, Bool.not_false, Bool.and_eq_true, Bool.or_eq_true, Bool.and_eq_false_iff, Bool.or_eq_false_iff] at h <;> try (exfalso; first | omega | contradiction)))
  · have e1 := or128 m
    have e2 : (m : Int).fdiv (2 ^ min 7 64) = ((m / 128 : Nat) : Int) := by
      rw [show (2 : Int) ^ min 7 64 = ((128 : Nat) : Int) by decide]
      exact Int.fdiv_eq_ediv_of_nonneg _ (by omega)
    have e3 : bsD acc ++ [D.s (Value.int .u8 (UInt8.ofNat (m % 128 + 128)).toNat)] = bsD (acc ++ [UInt8.ofNat (m % 128 + 128)]) := by simp [bsD]
    have hvm : vput m = UInt8.ofNat (m % 128 + 128) :: vput (m / 128) := by conv => lhs; unfold vput; rw [if_neg (by omega)]
    rw [e1, e2, e3]
    refine hJ (m / 128, acc ++ [UInt8.ofNat (m % 128 + 128)]) _ _ (by simp only; omega) ⟨by rw [← hv, hvm]; simp, by simp only; omega⟩ ?_ ?_
    · simp [keepT, look]
    · simp
  · have hvm : vput m = [UInt8.ofNat m] := by unfold vput; rw [if_pos (by omega)]
    have e1 : (m : Int) = ((UInt8.ofNat m).toNat : Int) := by simp; omega
    have e3 : bsD acc ++ [D.s (Value.int .u8 ((UInt8.ofNat m).toNat : Int))] = bsD (vput n) := by rw [← hv, hvm]; simp [bsD]
    have e4 : (vput n).length = acc.length + 1 := by rw [← hv, hvm]; simp
    rw [e1, e3, e4]
    clear e1
    ((all_goals first | refine RetQ.r 0 rfl (Nat.le_of_ble_eq_true rfl) rfl (by first | rfl | (simp only [go_sem, ↓reduceIte, Nat.reduceLT, Nat.lt_irrefl])) ⟨?_, ?_⟩ | refine RetQ.n 0 rfl (Nat.le_of_ble_eq_true rfl) rfl (by first | rfl | (simp only [go_sem, ↓reduceIte, Nat.reduceLT, Nat.lt_irrefl])) ⟨?_, ?_⟩); (all_goals first | rfl | (simp [*]; done) | ((simp only [go_sem, ↓reduceIte, Nat.reduceLT]; (repeat' split)) <;> first | rfl | (exfalso; omega) | (simp_all; done) | (simp_all; omega))))

section
variable (b s : List UInt8) (m e : Int)
theorem vputs_len : ∀ (l : List Nat), (∀ n ∈ l, n < 18446744073709551616) → (l.map vput).flatten.length ≤ 10 * l.length
  | [], _ => by simp
  | n :: l, h => by
    have h1 := vput_len10 (h n List.mem_cons_self)
    have h2 := vputs_len l fun x hx => h x (List.mem_cons_of_mem _ hx)
    simp only [List.map_cons, List.flatten_cons, List.length_append, List.length_cons]
    omega

theorem varint_Put (h : Pe.Ok ⟨b, m, e⟩) (l : List Nat) (hl : ∀ n ∈ l, n < 18446744073709551616) (hn : m ≤ 140737488355328 ∨ b.length + 10 * l.length ≤ 140737488355328) (hll : l.length ≤ 140737488355328) :
    AC Try.prog 155 [.p 0 0, .d (.l l.length (l.map fun n => .s (.int .u64 (n : Nat))))] (Pe.obs ⟨b, m, e⟩) fun x σ => x = .t [] ∧ σ = Pe.obs (Pe.texts ⟨b, m, e⟩ (l.map vput)) := by
  refine AC.walk Try.func155 rfl (by decide) (of_decide_eq_true rfl) ?_
  repeat' (first
    | ((first
      | refine AL.one (by decide) fun Kr hr => ?_
      | refine AL.one0 fun Kr hr => ?_); (try simp only [ao, List.map_cons, List.map_nil]); simp (disch := omega) only [go_sem]; (repeat first | (refine ⟨_, bsD_nums _, by simp only [List.length_map], ?_⟩; simp only [strOfNums_bs]) | (refine ⟨[_], rfl, rfl, ?_⟩; simp only [strOfNums_one, UInt8.ofNat_toNat, Int.toNat_natCast]) | refine ⟨by first | omega | assumption | rfl | (simp only [List.length_take, List.length_drop, List.length_append, List.length_cons, List.length_nil, List.length_map]; omega), ?_⟩); refine hr _ _ ?_; clear hr Kr)
    | refine AL.nil ?_ | refine AW.seq' ?_ | refine AW.region ?_ | refine AW.block ?_ | refine AW.skip ?_ | refine AW.ret ?_ | refine AW.exit ?_ | refine thenQ_n ?_ | refine thenQ_r ?_ | refine thenQ_e ?_ | refine blockQ_n ?_ | refine blockQ_r ?_ | refine blockQ_e ?_ | refine blockQ_o (by decide) ?_ | refine AW.draw T.mixed (by kernel_rfl) ?_ | (refine ADr.nil ?_; try clear hgv)
    | (refine AW.cond rfl (fun h => ?_) (fun h => ?_) <;> (try simp only [decide_eq_true_eq, decide_eq_false_iff_not, Bool.false_eq_true, Bool.true_eq_false, Bool.not_eq_true', Bool.not_eq_false', Bool.not_eq_eq_eq_not, Bool.not_true, Bool.not_false, Bool.and_eq_true, Bool.or_eq_true, Bool.and_eq_false_iff, Bool.or_eq_false_iff] at h) <;> try (exfalso; first | omega | contradiction))
    | ((first | refine ADr.gc ?_ (by decide) (by first | assumption | rfl) ?_ ?_ | refine ADr.c ?_ (by decide) ?_ ?_); rotate_left 1; focus ((repeat' (first | exact trivial | refine And.intro ?_ ?_)) <;> (intro Kr hr; (try simp only [ao, List.map_cons, List.map_nil]); simp (disch := omega) only [go_sem]; (repeat first | (refine ⟨_, bsD_nums _, by simp only [List.length_map], ?_⟩; simp only [strOfNums_bs]) | (refine ⟨[_], rfl, rfl, ?_⟩; simp only [strOfNums_one, UInt8.ofNat_toNat, Int.toNat_natCast]) | refine ⟨by first | omega | assumption | rfl | (simp only [List.length_take, List.length_drop, List.length_append, List.length_cons, List.length_nil, List.length_map]; omega), ?_⟩); exact hr)))
    | (refine ADr.gt (by decide) rfl ?_) | (refine ADr.gs (by decide) rfl (by decide) ?_)
    | (refine AL.gt (by decide) rfl ?_) | (refine AL.g0 (by decide) rfl (by decide) ?_) | (refine AL.g1 (by decide) rfl fun Kr hr => ?_; (try simp only [ao, List.map_cons, List.map_nil]); simp (disch := omega) only [go_sem]; (repeat first | (refine ⟨_, bsD_nums _, by simp only [List.length_map], ?_⟩; simp only [strOfNums_bs]) | (refine ⟨[_], rfl, rfl, ?_⟩; simp only [strOfNums_one, UInt8.ofNat_toNat, Int.toNat_natCast]) | refine ⟨by first | omega | assumption | rfl | (simp only [List.length_take, List.length_drop, List.length_append, List.length_cons, List.length_nil, List.length_map]; omega), ?_⟩); refine hr _ _ ?_; clear hr Kr)
    | ((first | refine ADr.gb (by decide) rfl (fun h hgv => ?_) (fun h => ?_) | refine AL.g (by decide) rfl (fun h => ?_) (fun h => ?_)) <;> (try simp only [Bool.not_true, Bool.not_false] at h) <;> (try simp only [h]) <;> simp only [decide_eq_true_eq, decide_eq_false_iff_not, Bool.false_eq_true, Bool.true_eq_false, Bool.not_eq_true', Bool.not_eq_false', Bool.not_eq_eq_eq_not, Bool.not_true, Bool.not_false, Bool.and_eq_true, Bool.or_eq_true, Bool.and_eq_false_iff, Bool.or_eq_false_iff] at h <;> try (exfalso; first | omega | contradiction)))
  refine AW.rounds [0, 6, 7, 8] (fun i => [(0, .p 0 0), (6, .d (.l l.length (l.map fun n => .s (.int .u64 (n : Nat))))), (7, iv .i64 l.length), (8, iv .i64 (i : Nat))]) (fun i => Pe.obs (Pe.texts ⟨b, m, e⟩ ((l.take i).map vput))) (fun i => i ≤ l.length) (fun i => l.length - i) 0 (Nat.zero_le _) rfl rfl
    (fun _ _ => Nat.le_of_ble_eq_true rfl) (fun _ _ => rfl) (fun _ _ => rfl) ?_
  intro i hi J hJ
  generalize hq : Pe.texts ⟨b, m, e⟩ ((l.take i).map vput) = q
  have hf : ((l.take i).map vput).flatten.length ≤ 10 * i := by
    have := vputs_len (l.take i) fun n hn => hl n (List.mem_of_mem_take hn)
    rw [List.length_take] at this
    omega
  have hok : q.Ok := by rw [← hq]; exact Pe.texts_ok h (by simp only; omega)
  have hqm : q.m = m := by rw [← hq, Pe.texts_m]
  have hql : q.b.length ≤ b.length + 10 * i := by
    have := Pe.texts_len ((l.take i).map vput) ⟨b, m, e⟩
    rw [hq] at this
    simp only at this
    omega
  by_cases hil : i < l.length
  · obtain ⟨x, r, hs⟩ : ∃ s r, l.drop i = s :: r := ⟨_, _, List.drop_eq_getElem_cons hil⟩
    have hx : x < 18446744073709551616 := hl x (List.mem_of_mem_drop (i := i) (by rw [hs]; exact List.mem_cons_self))
    have hd : (l.map fun n => D.s (Value.int .u64 (n : Nat))).drop i = .s (.int .u64 (x : Nat)) :: r.map fun n => .s (.int .u64 (n : Nat)) := by rw [← List.map_drop, hs]; rfl
    have hnx : l.take (i + 1) = l.take i ++ [x] := by
      have h1 : l[i]? = some x := by
        have := congrArg List.head? hs
        simpa [List.head?_drop] using this
      rw [List.take_add_one, h1]; rfl
    have hqn : Pe.texts ⟨b, m, e⟩ ((l.take (i + 1)).map vput) = q.text (vput x) := by rw [hnx, List.map_append, List.map_cons, List.map_nil, Pe.texts_snoc, hq]
    have hvl := vput_len10 hx
    repeat' (first
    | ((first
      | ((first | refine AL.callv (by decide) fun Kr hr => ?_ | refine AL.callv0 fun Kr hr => ?_ | refine AL.g1v (by decide) rfl fun Kr hr => ?_); first
      | (refine AOp.cι (fun _ _ => rfl) [] rfl (varint_bytes x hx) Emb.nil rfl ?_; rintro y obs ⟨rfl, rfl⟩)
      | (refine AOp.cι (fun _ _ => rfl) [0, 1] rfl (pen_Text1 q.b (vput x) q.m q.e hok (by omega)) (Emb.two (by decide) rfl rfl) rfl ?_; rintro y obs ⟨rfl, rfl⟩))
      | refine AL.one (by decide) fun Kr hr => ?_
      | refine AL.one0 fun Kr hr => ?_); (try simp only [ao, List.map_cons, List.map_nil]); simp (disch := omega) only [go_sem, hd]; (repeat first | (refine ⟨_, bsD_nums _, by simp only [List.length_map], ?_⟩; simp only [strOfNums_bs]) | (refine ⟨[_], rfl, rfl, ?_⟩; simp only [strOfNums_one, UInt8.ofNat_toNat, Int.toNat_natCast]) | refine ⟨by first | omega | assumption | rfl | (simp only [List.length_take, List.length_drop, List.length_append, List.length_cons, List.length_nil, List.length_map]; omega), ?_⟩); refine hr _ _ ?_; clear hr Kr)
    | refine AL.nil ?_ | refine AW.seq' ?_ | refine AW.region ?_ | refine AW.block ?_ | refine AW.skip ?_ | refine AW.ret ?_ | refine AW.exit ?_ | refine thenQ_n ?_ | refine thenQ_r ?_ | refine thenQ_e ?_ | refine blockQ_n ?_ | refine blockQ_r ?_ | refine blockQ_e ?_ | refine blockQ_o (by decide) ?_ | refine AW.draw T.mixed (by kernel_rfl) ?_ | (refine ADr.nil ?_; try clear hgv)
    | (refine AW.cond rfl (fun h => ?_) (fun h => ?_) <;> (try simp only [decide_eq_true_eq, decide_eq_false_iff_not, Bool.false_eq_true, Bool.true_eq_false, Bool.not_eq_true', Bool.not_eq_false', Bool.not_eq_eq_eq_not, Bool.not_true, Bool.not_false, Bool.and_eq_true, Bool.or_eq_true, Bool.and_eq_false_iff, Bool.or_eq_false_iff] at h) <;> try (exfalso; first | omega | contradiction))
    | ((first | refine ADr.gc ?_ (by decide) (by first | assumption | rfl) ?_ ?_ | refine ADr.c ?_ (by decide) ?_ ?_); rotate_left 1; focus ((repeat' (first | exact trivial | refine And.intro ?_ ?_)) <;> (intro Kr hr; (try simp only [ao, List.map_cons, List.map_nil]); simp (disch := omega) only [go_sem, hd]; (repeat first | (refine ⟨_, bsD_nums _, by simp only [List.length_map], ?_⟩; simp only [strOfNums_bs]) | (refine ⟨[_], rfl, rfl, ?_⟩; simp only [strOfNums_one, UInt8.ofNat_toNat, Int.toNat_natCast]) | refine ⟨by first | omega | assumption | rfl | (simp only [List.length_take, List.length_drop, List.length_append, List.length_cons, List.length_nil, List.length_map]; omega), ?_⟩); exact hr)))
    | ((first | refine ADr.ccv ?_ (by decide) ?_ ?_ | refine ADr.gccv ?_ (by decide) (by first | assumption | rfl) ?_ ?_ | refine ADr.gc ?_ (by decide) (by first | assumption | rfl) ?_ ?_ | refine ADr.c ?_ (by decide) ?_ ?_); rotate_left 1; focus ((repeat' (first | exact trivial | refine And.intro ?_ ?_)) <;> (intro Kr hr; (try first | (refine AOp.cι (fun x hx => ev_keep _ x hx) [] rfl (varint_bytes x hx) Emb.nil rfl ?_; rintro y obs ⟨rfl, rfl⟩) | (refine AOp.cι (fun x hx => ev_keep _ x hx) [0, 1] rfl (pen_Text1 q.b (vput x) q.m q.e hok (by omega)) (Emb.two (by decide) rfl rfl) rfl ?_; rintro y obs ⟨rfl, rfl⟩)); (try simp only [ao, List.map_cons, List.map_nil]); simp (disch := omega) only [go_sem, hd]; (repeat first | (refine ⟨_, bsD_nums _, by simp only [List.length_map], ?_⟩; simp only [strOfNums_bs]) | (refine ⟨[_], rfl, rfl, ?_⟩; simp only [strOfNums_one, UInt8.ofNat_toNat, Int.toNat_natCast]) | refine ⟨by first | omega | assumption | rfl | (simp only [List.length_take, List.length_drop, List.length_append, List.length_cons, List.length_nil, List.length_map]; omega), ?_⟩); exact hr)))
    | (refine ADr.gt (by decide) rfl ?_) | (refine ADr.gs (by decide) rfl (by decide) ?_)
    | (refine AL.gt (by decide) rfl ?_) | (refine AL.g0 (by decide) rfl (by decide) ?_) | (refine AL.g1 (by decide) rfl fun Kr hr => ?_; (try simp only [ao, List.map_cons, List.map_nil]); simp (disch := omega) only [go_sem, hd]; (repeat first | (refine ⟨_, bsD_nums _, by simp only [List.length_map], ?_⟩; simp only [strOfNums_bs]) | (refine ⟨[_], rfl, rfl, ?_⟩; simp only [strOfNums_one, UInt8.ofNat_toNat, Int.toNat_natCast]) | refine ⟨by first | omega | assumption | rfl | (simp only [List.length_take, List.length_drop, List.length_append, List.length_cons, List.length_nil, List.length_map]; omega), ?_⟩); refine hr _ _ ?_; clear hr Kr)
    | ((first | refine ADr.gb (by decide) rfl (fun h hgv => ?_) (fun h => ?_) | refine AL.g (by decide) rfl (fun h => ?_) (fun h => ?_)) <;> (try simp only [Bool.not_true, Bool.not_false] at h) <;> (try simp only [h]) <;> simp only [decide_eq_true_eq, decide_eq_false_iff_not, Bool.false_eq_true, Bool.true_eq_false, Bool.not_eq_true', Bool.not_eq_false', Bool.not_eq_eq_eq_not, Bool.not_true, Bool.not_false, Bool.and_eq_true, Bool.or_eq_true, Bool.and_eq_false_iff, Bool.or_eq_false_iff] at h <;> try (exfalso; first | omega | contradiction)))
    refine hJ (i + 1) _ _ (by omega) (by omega) rfl ?_
    rw [hqn]
    rfl
  · repeat' (first
    | ((first
      | refine AL.one (by decide) fun Kr hr => ?_
      | refine AL.one0 fun Kr hr => ?_); (try simp only [ao, List.map_cons, List.map_nil]); simp (disch := omega) only [go_sem]; (repeat first | (refine ⟨_, bsD_nums _, by simp only [List.length_map], ?_⟩; simp only [strOfNums_bs]) | (refine ⟨[_], rfl, rfl, ?_⟩; simp only [strOfNums_one, UInt8.ofNat_toNat, Int.toNat_natCast]) | refine ⟨by first | omega | assumption | rfl | (simp only [List.length_take, List.length_drop, List.length_append, List.length_cons, List.length_nil, List.length_map]; omega), ?_⟩); refine hr _ _ ?_; clear hr Kr)
    | refine AL.nil ?_ | refine AW.seq' ?_ | refine AW.region ?_ | refine AW.block ?_ | refine AW.skip ?_ | refine AW.ret ?_ | refine AW.exit ?_ | refine thenQ_n ?_ | refine thenQ_r ?_ | refine thenQ_e ?_ | refine blockQ_n ?_ | refine blockQ_r ?_ | refine blockQ_e ?_ | refine blockQ_o (by decide) ?_ | refine AW.draw T.mixed (by kernel_rfl) ?_ | (refine ADr.nil ?_; try clear hgv)
    | (refine AW.cond rfl (fun h => ?_) (fun h => ?_) <;> (try simp only [decide_eq_true_eq, decide_eq_false_iff_not, Bool.false_eq_true, Bool.true_eq_false, Bool.not_eq_true', Bool.not_eq_false', Bool.not_eq_eq_eq_not, Bool.not_true, Bool.not_false, Bool.and_eq_true, Bool.or_eq_true, Bool.and_eq_false_iff, Bool.or_eq_false_iff] at h) <;> try (exfalso; first | omega | contradiction))
    | ((first | refine ADr.gc ?_ (by decide) (by first | assumption | rfl) ?_ ?_ | refine ADr.c ?_ (by decide) ?_ ?_); rotate_left 1; focus ((repeat' (first | exact trivial | refine And.intro ?_ ?_)) <;> (intro Kr hr; (try simp only [ao, List.map_cons, List.map_nil]); simp (disch := omega) only [go_sem]; (repeat first | (refine ⟨_, bsD_nums _, by simp only [List.length_map], ?_⟩; simp only [strOfNums_bs]) | (refine ⟨[_], rfl, rfl, ?_⟩; simp only [strOfNums_one, UInt8.ofNat_toNat, Int.toNat_natCast]) | refine ⟨by first | omega | assumption | rfl | (simp only [List.length_take, List.length_drop, List.length_append, List.length_cons, List.length_nil, List.length_map]; omega), ?_⟩); exact hr)))
    | (refine ADr.gt (by decide) rfl ?_) | (refine ADr.gs (by decide) rfl (by decide) ?_)
    | (refine AL.gt (by decide) rfl ?_) | (refine AL.g0 (by decide) rfl (by decide) ?_) | (refine AL.g1 (by decide) rfl fun Kr hr => ?_; (try simp only [ao, List.map_cons, List.map_nil]); simp (disch := omega) only [go_sem]; (repeat first | (refine ⟨_, bsD_nums _, by simp only [List.length_map], ?_⟩; simp only [strOfNums_bs]) | (refine ⟨[_], rfl, rfl, ?_⟩; simp only [strOfNums_one, UInt8.ofNat_toNat, Int.toNat_natCast]) | refine ⟨by first | omega | assumption | rfl | (simp only [List.length_take, List.length_drop, List.length_append, List.length_cons, List.length_nil, List.length_map]; omega), ?_⟩); refine hr _ _ ?_; clear hr Kr)
    | ((first | refine ADr.gb (by decide) rfl (fun h hgv => ?_) (fun h => ?_) | refine AL.g (by decide) rfl (fun h => ?_) (fun h => ?_)) <;> (try simp only [Bool.not_true, Bool.not_false] at h) <;> (try simp only [h]) <;> simp only [decide_eq_true_eq, decide_eq_false_iff_not, Bool.false_eq_true, Bool.true_eq_false, Bool.not_eq_true', Bool.not_eq_false', Bool.not_eq_eq_eq_not, Bool.not_true, Bool.not_false, Bool.and_eq_true, Bool.or_eq_true, Bool.and_eq_false_iff, Bool.or_eq_false_iff] at h <;> try (exfalso; first | omega | contradiction)))
    have hi2 : i = l.length := by omega
    rw [hi2, List.take_length] at hq
    subst hq
    ((all_goals first | refine RetQ.r 2 rfl (Nat.le_of_ble_eq_true rfl) rfl (by first | rfl | (simp only [go_sem, ↓reduceIte, Nat.reduceLT, Nat.lt_irrefl])) ⟨?_, ?_⟩ | refine RetQ.n 2 rfl (Nat.le_of_ble_eq_true rfl) rfl (by first | rfl | (simp only [go_sem, ↓reduceIte, Nat.reduceLT, Nat.lt_irrefl])) ⟨?_, ?_⟩); (all_goals first | rfl | (simp [*]; done) | ((simp only [go_sem, ↓reduceIte, Nat.reduceLT]; (repeat' split)) <;> first | rfl | (exfalso; omega) | (simp_all; done) | (simp_all; omega))))
theorem varint_Put1 (h : Pe.Ok ⟨b, m, e⟩) (n : Nat) (hl : n < 18446744073709551616) (hn : m ≤ 140737488355328 ∨ b.length + 10 ≤ 140737488355328) :
    AC Try.prog 155 [.p 0 0, .d (.l 1 [.s (.int .u64 (n : Nat))])] (Pe.obs ⟨b, m, e⟩) fun x σ => x = .t [] ∧ σ = Pe.obs (Pe.text ⟨b, m, e⟩ (vput n)) :=
  varint_Put b m e h [n] (by simpa using hl) (by simpa using hn) (Nat.le_of_ble_eq_true rfl)
theorem ref03_Put (h : Pe.Ok ⟨b, m, e⟩) (n : Nat) (hl : n < 18446744073709551616) (hn : m ≤ 140737488355328 ∨ b.length + 10 ≤ 140737488355328) :
    AC Try.prog 166 [.p 0 0, iv .u64 n] [Pe.ro ⟨b, m, e⟩] fun x σ => x = .t [] ∧ σ = [Pe.ro (Pe.text ⟨b, m, e⟩ (vput n))] := by
  have hvl := vput_len10 hl
  refine AC.walk Try.func166 rfl (by decide) (of_decide_eq_true rfl) ?_
  repeat' (first
    | ((first
      | ((first | refine AL.callv (by decide) fun Kr hr => ?_ | refine AL.callv0 fun Kr hr => ?_ | refine AL.g1v (by decide) rfl fun Kr hr => ?_); first
      | (refine AOp.cι (fun _ _ => rfl) [] rfl (ref03_Encode n hl) Emb.nil rfl ?_; rintro y obs ⟨rfl, rfl⟩)
      | (refine AOp.cι (fun _ _ => rfl) [0] rfl (ref02_Text _ (vput n) _ _ h (by omega) (by omega)) (Emb.one rfl) rfl ?_; rintro y obs ⟨rfl, rfl⟩))
      | refine AL.one (by decide) fun Kr hr => ?_
      | refine AL.one0 fun Kr hr => ?_); (try simp only [ao, List.map_cons, List.map_nil]); simp (disch := omega) only [go_sem]; (repeat first | (refine ⟨_, bsD_nums _, by simp only [List.length_map], ?_⟩; simp only [strOfNums_bs]) | (refine ⟨[_], rfl, rfl, ?_⟩; simp only [strOfNums_one, UInt8.ofNat_toNat, Int.toNat_natCast]) | refine ⟨by first | omega | assumption | rfl | (simp only [List.length_take, List.length_drop, List.length_append, List.length_cons, List.length_nil, List.length_map]; omega), ?_⟩); refine hr _ _ ?_; clear hr Kr)
    | refine AL.nil ?_ | refine AW.seq' ?_ | refine AW.region ?_ | refine AW.block ?_ | refine AW.skip ?_ | refine AW.ret ?_ | refine AW.exit ?_ | refine thenQ_n ?_ | refine thenQ_r ?_ | refine thenQ_e ?_ | refine blockQ_n ?_ | refine blockQ_r ?_ | refine blockQ_e ?_ | refine blockQ_o (by decide) ?_ | refine AW.draw T.mixed (by kernel_rfl) ?_ | (refine ADr.nil ?_; try clear hgv)
    | (refine AW.cond rfl (fun h => ?_) (fun h => ?_) <;> (try simp only [decide_eq_true_eq, decide_eq_false_iff_not, Bool.false_eq_true, Bool.true_eq_false, Bool.not_eq_true', Bool.not_eq_false', Bool.not_eq_eq_eq_not, Bool.not_true, Bool.not_false, Bool.and_eq_true, Bool.or_eq_true, Bool.and_eq_false_iff, Bool.or_eq_false_iff] at h) <;> try (exfalso; first | omega | contradiction))
    | ((first | refine ADr.gc ?_ (by decide) (by first | assumption | rfl) ?_ ?_ | refine ADr.c ?_ (by decide) ?_ ?_); rotate_left 1; focus ((repeat' (first | exact trivial | refine And.intro ?_ ?_)) <;> (intro Kr hr; (try simp only [ao, List.map_cons, List.map_nil]); simp (disch := omega) only [go_sem]; (repeat first | (refine ⟨_, bsD_nums _, by simp only [List.length_map], ?_⟩; simp only [strOfNums_bs]) | (refine ⟨[_], rfl, rfl, ?_⟩; simp only [strOfNums_one, UInt8.ofNat_toNat, Int.toNat_natCast]) | refine ⟨by first | omega | assumption | rfl | (simp only [List.length_take, List.length_drop, List.length_append, List.length_cons, List.length_nil, List.length_map]; omega), ?_⟩); exact hr)))
    | ((first | refine ADr.ccv ?_ (by decide) ?_ ?_ | refine ADr.gccv ?_ (by decide) (by first | assumption | rfl) ?_ ?_ | refine ADr.gc ?_ (by decide) (by first | assumption | rfl) ?_ ?_ | refine ADr.c ?_ (by decide) ?_ ?_); rotate_left 1; focus ((repeat' (first | exact trivial | refine And.intro ?_ ?_)) <;> (intro Kr hr; (try first | (refine AOp.cι (fun x hx => ev_keep _ x hx) [] rfl (ref03_Encode n hl) Emb.nil rfl ?_; rintro y obs ⟨rfl, rfl⟩) | (refine AOp.cι (fun x hx => ev_keep _ x hx) [0] rfl (ref02_Text _ (vput n) _ _ h (by omega) (by omega)) (Emb.one rfl) rfl ?_; rintro y obs ⟨rfl, rfl⟩)); (try simp only [ao, List.map_cons, List.map_nil]); simp (disch := omega) only [go_sem]; (repeat first | (refine ⟨_, bsD_nums _, by simp only [List.length_map], ?_⟩; simp only [strOfNums_bs]) | (refine ⟨[_], rfl, rfl, ?_⟩; simp only [strOfNums_one, UInt8.ofNat_toNat, Int.toNat_natCast]) | refine ⟨by first | omega | assumption | rfl | (simp only [List.length_take, List.length_drop, List.length_append, List.length_cons, List.length_nil, List.length_map]; omega), ?_⟩); exact hr)))
    | (refine ADr.gt (by decide) rfl ?_) | (refine ADr.gs (by decide) rfl (by decide) ?_)
    | (refine AL.gt (by decide) rfl ?_) | (refine AL.g0 (by decide) rfl (by decide) ?_) | (refine AL.g1 (by decide) rfl fun Kr hr => ?_; (try simp only [ao, List.map_cons, List.map_nil]); simp (disch := omega) only [go_sem]; (repeat first | (refine ⟨_, bsD_nums _, by simp only [List.length_map], ?_⟩; simp only [strOfNums_bs]) | (refine ⟨[_], rfl, rfl, ?_⟩; simp only [strOfNums_one, UInt8.ofNat_toNat, Int.toNat_natCast]) | refine ⟨by first | omega | assumption | rfl | (simp only [List.length_take, List.length_drop, List.length_append, List.length_cons, List.length_nil, List.length_map]; omega), ?_⟩); refine hr _ _ ?_; clear hr Kr)
    | ((first | refine ADr.gb (by decide) rfl (fun h hgv => ?_) (fun h => ?_) | refine AL.g (by decide) rfl (fun h => ?_) (fun h => ?_)) <;> (try simp only [Bool.not_true, Bool.not_false] at h) <;> (try simp only [h]) <;> simp only [decide_eq_true_eq, decide_eq_false_iff_not, Bool.false_eq_true, Bool.true_eq_false, Bool.not_eq_true', Bool.not_eq_false', Bool.not_eq_eq_eq_not, Bool.not_true, Bool.not_false, Bool.and_eq_true, Bool.or_eq_true, Bool.and_eq_false_iff, Bool.or_eq_false_iff] at h <;> try (exfalso; first | omega | contradiction)))
  ((all_goals first | refine RetQ.r 1 rfl (Nat.le_of_ble_eq_true rfl) rfl (by first | rfl | (simp only [go_sem, ↓reduceIte, Nat.reduceLT, Nat.lt_irrefl])) ⟨?_, ?_⟩ | refine RetQ.n 1 rfl (Nat.le_of_ble_eq_true rfl) rfl (by first | rfl | (simp only [go_sem, ↓reduceIte, Nat.reduceLT, Nat.lt_irrefl])) ⟨?_, ?_⟩); (all_goals first | rfl | (simp [*]; done) | ((simp only [go_sem, ↓reduceIte, Nat.reduceLT]; (repeat' split)) <;> first | rfl | (exfalso; omega) | (simp_all; done) | (simp_all; omega))))
end
end Go.AW
