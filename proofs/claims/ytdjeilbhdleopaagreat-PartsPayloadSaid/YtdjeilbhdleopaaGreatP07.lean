/-
  cursor: each function does what its plain form says.
-/
import Derived.Test.YtdjeilbhdleopaaGreatP03
import Derived.Test.YtdjeilbhdleopaaGreatP06
set_option linter.unusedVariables false
set_option linter.unusedSimpArgs false
set_option maxHeartbeats 4000000
set_option maxRecDepth 10000
namespace Go.AW
open Go Go.Proofs
attribute [local irreducible] thenQ blockQ RetQ AL AW AC AOp
abbrev Cu.ob (c : Cu) : Ob := .box 287 [sv (bs c.s), iv .i64 c.a, iv .i64 c.e]
attribute [go_sem] Cu.ob
section
variable (s : List UInt8) (a : Nat) (e f n : Int)
theorem cursor_New : AC Tryz.prog 96 [sv (bs s)] [] fun x σ => x = .p 0 0 ∧ σ = [Cu.ob ⟨s, 0, 0⟩] := by
  refine AC.wk Tryz.func96 ?_
  focus ((repeat' (first | refine GF ?_ | refine AW.ret ?_ | (refine GC ?_ ?_ <;> intro h <;> (try simp only [hsB] at h) <;> try exact xf) | (refine GL ?_ ?_ <;> intro h <;> (try simp only [hsN] at h) <;> (try simp only [h]) <;> (try simp only [hsB] at h) <;> try exact xf) | fail)))
  (all_goals first | exact RetQ.fr 1 | exact RetQ.fn 1 | fail)
theorem cursor_Err : AC Tryz.prog 109 [.p 0 0] [Cu.ob ⟨s, a, e⟩] fun x σ => x = iv .i64 e ∧ σ = [Cu.ob ⟨s, a, e⟩] := by
  refine AC.wk Tryz.func109 ?_
  focus ((repeat' (first | refine GF ?_ | refine AW.ret ?_ | (refine GC ?_ ?_ <;> intro h <;> (try simp only [hsB] at h) <;> try exact xf) | (refine GL ?_ ?_ <;> intro h <;> (try simp only [hsN] at h) <;> (try simp only [h]) <;> (try simp only [hsB] at h) <;> try exact xf) | fail)))
  (all_goals first | exact RetQ.fr 1 | exact RetQ.fn 1 | fail)
theorem cursor_At : AC Tryz.prog 211 [.p 0 0] [Cu.ob ⟨s, a, e⟩] fun x σ => x = iv .i64 a ∧ σ = [Cu.ob ⟨s, a, e⟩] := by
  refine AC.wk Tryz.func211 ?_
  focus ((repeat' (first | refine GF ?_ | refine AW.ret ?_ | (refine GC ?_ ?_ <;> intro h <;> (try simp only [hsB] at h) <;> try exact xf) | (refine GL ?_ ?_ <;> intro h <;> (try simp only [hsN] at h) <;> (try simp only [h]) <;> (try simp only [hsB] at h) <;> try exact xf) | fail)))
  (all_goals first | exact RetQ.fr 1 | exact RetQ.fn 1 | fail)
theorem cursor_Left (h : Cu.Ok ⟨s, a, e⟩) :
    AC Tryz.prog 197 [.p 0 0] [Cu.ob ⟨s, a, e⟩] fun x σ => x = iv .i64 (s.length - a) ∧ σ = [Cu.ob ⟨s, a, e⟩] := by
  obtain ⟨h1, h2⟩ := h
  simp only at h1 h2
  refine AC.wk Tryz.func197 ?_
  focus ((repeat' (first | (refine ADr.nil ?_; try clear hgv) | refine GOF ?_ | refine AW.ret ?_ | (refine GC ?_ ?_ <;> intro h <;> (try simp only [hsB] at h) <;> try exact xf) | (refine GD ?_ ?_ <;> intro h <;> (try intro hgv) <;> (try simp only [hsN] at h) <;> (try simp only [h]) <;> (try simp only [hsB] at h) <;> try exact xf) | (refine GL ?_ ?_ <;> intro h <;> (try simp only [hsN] at h) <;> (try simp only [h]) <;> (try simp only [hsB] at h) <;> try exact xf) | fail)))
  (all_goals first | exact RetQ.fr 1 | exact RetQ.fn 1 | fail)
theorem cursor_Fail : AC Tryz.prog 110 [.p 0 0, iv .i64 f] [Cu.ob ⟨s, a, e⟩] fun x σ => x = .t [] ∧ σ = [Cu.ob (Cu.fail ⟨s, a, e⟩ f)] := by
  refine AC.wk Tryz.func110 ?_
  focus ((repeat' (first | refine GF ?_ | refine AW.ret ?_ | (refine GC ?_ ?_ <;> intro h <;> (try simp only [hsB] at h) <;> try exact xf) | (refine GL ?_ ?_ <;> intro h <;> (try simp only [hsN] at h) <;> (try simp only [h]) <;> (try simp only [hsB] at h) <;> try exact xf) | fail)))
  ((all_goals first | refine RetQ.yr 1 ⟨?_, ?_⟩ | refine RetQ.yn 1 ⟨?_, ?_⟩); (all_goals first | rfl | (simp [Cu.fail, Cu.ob, *]; done) | ((simp only [go_sem, ↓reduceIte, Nat.reduceLT, Cu.fail, Cu.ob]; (repeat' split)) <;> first | rfl | (exfalso; omega) | (simp_all; done) | (simp_all; omega))))
theorem cursor_Bytes (h : Cu.Ok ⟨s, a, e⟩) : AC Tryz.prog 116 [.p 0 0, iv .i64 n] [Cu.ob ⟨s, a, e⟩] fun x σ => x = sv (bs (Cu.bytes ⟨s, a, e⟩ n).1) ∧ σ = [Cu.ob (Cu.bytes ⟨s, a, e⟩ n).2] := by
  have hh := h
  obtain ⟨h1, h2⟩ := h
  simp only at h1 h2
  refine AC.wk Tryz.func116 ?_
  focus (have kuc1 := fun za zb zc => uN [0] (cursor_Err za zb zc); have kk1 := uN [0] (cursor_Left _ _ _ hh); have kud1 := fun za zb zc zd => uN [0] (cursor_Fail za zb zc zd); (repeat' (first | (refine ADr.nil ?_; try clear hgv) | refine GOF ?_ | refine AW.ret ?_ | (refine GC ?_ ?_ <;> intro h <;> (try simp only [hsB] at h) <;> try exact xf) | (refine GD ?_ ?_ <;> intro h <;> (try intro hgv) <;> (try simp only [hsN] at h) <;> (try simp only [h]) <;> (try simp only [hsB] at h) <;> try exact xf) | (refine GL ?_ ?_ <;> intro h <;> (try simp only [hsN] at h) <;> (try simp only [h]) <;> (try simp only [hsB] at h) <;> try exact xf) | fail)); all_goals clear kuc1 kk1 kud1)
  · ((all_goals first | refine RetQ.yr 1 ⟨?_, ?_⟩ | refine RetQ.yn 1 ⟨?_, ?_⟩); (all_goals first | rfl | (simp [Cu.bytes, Cu.fail, *]; done) | ((simp only [go_sem, ↓reduceIte, Nat.reduceLT, Cu.bytes, Cu.fail]; (repeat' split)) <;> first | rfl | (exfalso; omega) | (simp_all; done) | (simp_all; omega))))
  · ((all_goals first | refine RetQ.yr 1 ⟨?_, ?_⟩ | refine RetQ.yn 1 ⟨?_, ?_⟩); (all_goals first | rfl | (simp [Cu.bytes, Cu.fail, *]; done) | ((simp only [go_sem, ↓reduceIte, Nat.reduceLT, Cu.bytes, Cu.fail]; (repeat' split)) <;> first | rfl | (exfalso; omega) | (simp_all; done) | (simp_all; omega))))
  · ((all_goals first | refine RetQ.yr 1 ⟨?_, ?_⟩ | refine RetQ.yn 1 ⟨?_, ?_⟩); (all_goals first | rfl | (simp [Cu.bytes, Cu.fail, *]; done) | ((simp only [go_sem, ↓reduceIte, Nat.reduceLT, Cu.bytes, Cu.fail]; (repeat' split)) <;> first | rfl | (exfalso; omega) | (simp_all; done) | (simp_all; omega))))
  · have e1 : ((a : Int) + n).toNat - a = n.toNat := by omega
    have e2 : ((a + n.toNat : Nat) : Int) = a + n := by omega
    ((all_goals first | refine RetQ.yr 1 ⟨?_, ?_⟩ | refine RetQ.yn 1 ⟨?_, ?_⟩); (all_goals first | rfl | (simp [Cu.bytes, Cu.ob, *]; done) | ((simp only [go_sem, ↓reduceIte, Nat.reduceLT, Cu.bytes, Cu.ob]; (repeat' split)) <;> first | rfl | (exfalso; omega) | (simp_all; done) | (simp_all; omega))))
theorem cursor_Ahead (h : Cu.Ok ⟨s, a, e⟩) : AC Tryz.prog 198 [.p 0 0, iv .i64 n] [Cu.ob ⟨s, a, e⟩] fun x σ => x = sv (bs ((s.drop a).take n.toNat)) ∧ σ = [Cu.ob ⟨s, a, e⟩] := by
  have hh := h
  obtain ⟨h1, h2⟩ := h
  simp only at h1 h2
  refine AC.wk Tryz.func198 ?_
  focus (have kk1 := uN [0] (cursor_Left _ _ _ hh); (repeat' (first | (refine ADr.nil ?_; try clear hgv) | refine GOF ?_ | refine AW.ret ?_ | (refine GC ?_ ?_ <;> intro h <;> (try simp only [hsB] at h) <;> try exact xf) | (refine GD ?_ ?_ <;> intro h <;> (try intro hgv) <;> (try simp only [hsN] at h) <;> (try simp only [h]) <;> (try simp only [hsB] at h) <;> try exact xf) | (refine GL ?_ ?_ <;> intro h <;> (try simp only [hsN] at h) <;> (try simp only [h]) <;> (try simp only [hsB] at h) <;> try exact xf) | fail)); all_goals clear kk1)
  refine RetQ.r 1 rfl (Nat.le_of_ble_eq_true rfl) rfl rfl ⟨?_, rfl⟩
  refine congrArg (fun l => sv (bs l)) (take_same ?_)
  simp only [List.length_drop]
  split <;> split <;> omega
theorem cursor_Byte (h : Cu.Ok ⟨s, a, e⟩) : AC Tryz.prog 108 [.p 0 0] [Cu.ob ⟨s, a, e⟩] fun x σ => x = iv .u8 (Cu.byte ⟨s, a, e⟩).1 ∧ σ = [Cu.ob (Cu.byte ⟨s, a, e⟩).2] := by
  refine AC.wk Tryz.func108 ?_
  repeat' (first
    | ((first
      | ((first | refine AL.callv (by decide) fun Kr hr => ?_ | refine AL.callv0 fun Kr hr => ?_ | refine AL.g1v (by decide) rfl fun Kr hr => ?_); first
      | (refine AOp.cι (fun _ _ => rfl) [0] rfl (cursor_Bytes s a e _ h) (Emb.one rfl) rfl ?_; rintro y obs ⟨rfl, rfl⟩))
      | refine AL.one (by decide) fun Kr hr => ?_
      | refine AL.one0 fun Kr hr => ?_); (try simp only [ao, List.map_cons, List.map_nil]); simp (disch := omega) only [go_sem, Int.natCast_pos, List.length_pos_iff, ne_eq]; (repeat first | (refine ⟨_, bsD_nums _, by simp only [List.length_map], ?_⟩; simp only [strOfNums_bs]) | (refine ⟨[_], rfl, rfl, ?_⟩; simp only [strOfNums_one, UInt8.ofNat_toNat, Int.toNat_natCast]) | refine ⟨by first | omega | assumption | rfl | (simp only [List.length_take, List.length_drop, List.length_append, List.length_cons, List.length_nil, List.length_map]; omega), ?_⟩); refine hr _ _ ?_; clear hr Kr)
    | refine AL.nil ?_ | refine AW.seq' ?_ | refine AW.region ?_ | refine AW.block ?_ | refine AW.skip ?_ | refine AW.ret ?_ | refine AW.exit ?_ | refine thenQ_n ?_ | refine thenQ_r ?_ | refine thenQ_e ?_ | refine blockQ_n ?_ | refine blockQ_r ?_ | refine blockQ_e ?_ | refine blockQ_o (by decide) ?_
    | (refine AW.cond rfl (fun h => ?_) (fun h => ?_) <;> (try simp only [decide_eq_true_eq, decide_eq_false_iff_not, Bool.false_eq_true, Bool.true_eq_false, Bool.not_eq_true', Bool.not_eq_false', Bool.not_eq_eq_eq_not, Bool.not_true, Bool.not_false, Bool.and_eq_true, Bool.or_eq_true, Bool.and_eq_false_iff, Bool.or_eq_false_iff] at h) <;> try exact xf)
    | (refine AL.gt (by decide) rfl ?_) | (refine AL.g0 (by decide) rfl (by decide) ?_) | (refine AL.g1 (by decide) rfl fun Kr hr => ?_; (try simp only [ao, List.map_cons, List.map_nil]); simp (disch := omega) only [go_sem, Int.natCast_pos, List.length_pos_iff, ne_eq]; (repeat first | (refine ⟨_, bsD_nums _, by simp only [List.length_map], ?_⟩; simp only [strOfNums_bs]) | (refine ⟨[_], rfl, rfl, ?_⟩; simp only [strOfNums_one, UInt8.ofNat_toNat, Int.toNat_natCast]) | refine ⟨by first | omega | assumption | rfl | (simp only [List.length_take, List.length_drop, List.length_append, List.length_cons, List.length_nil, List.length_map]; omega), ?_⟩); refine hr _ _ ?_; clear hr Kr)
    | (refine AL.g (by decide) rfl (fun h => ?_) (fun h => ?_) <;> (try simp only [hsN] at h) <;> (try simp only [h]) <;> simp only [decide_eq_true_eq, decide_eq_false_iff_not, Bool.false_eq_true, Bool.true_eq_false, Bool.not_eq_true', Bool.not_eq_false', Bool.not_eq_eq_eq_not, Bool.not_true, Bool.not_false, Bool.and_eq_true, Bool.or_eq_true, Bool.and_eq_false_iff, Bool.or_eq_false_iff] at h <;> try exact xf))
  ((all_goals first | refine RetQ.yr 1 ⟨?_, ?_⟩ | refine RetQ.yn 1 ⟨?_, ?_⟩); (all_goals first | rfl | (simp [Cu.byte, Cu.ob, *]; done) | ((simp only [go_sem, ↓reduceIte, Nat.reduceLT, Cu.byte, Cu.ob]; (repeat' split)) <;> first | rfl | (exfalso; omega) | (simp_all; done) | (simp_all; omega))))
theorem cursor_End (h : Cu.Ok ⟨s, a, e⟩) : AC Tryz.prog 102 [.p 0 0] [Cu.ob ⟨s, a, e⟩] fun x σ => x = iv .i64 (Cu.fin ⟨s, a, e⟩).e ∧ σ = [Cu.ob (Cu.fin ⟨s, a, e⟩)] := by
  have hh := h
  obtain ⟨h1, h2⟩ := h
  simp only at h1 h2
  refine AC.wk Tryz.func102 ?_
  focus (have kk1 := uN [0] (cursor_Left _ _ _ hh); have kud1 := fun za zb zc zd => uN [0] (cursor_Fail za zb zc zd); have kuc1 := fun za zb zc => uN [0] (cursor_Err za zb zc); (repeat' (first | refine GF ?_ | refine AW.ret ?_ | (refine GC ?_ ?_ <;> intro h <;> (try simp only [hsB] at h) <;> try exact xf) | (refine GL ?_ ?_ <;> intro h <;> (try simp only [hsN] at h) <;> (try simp only [h]) <;> (try simp only [hsB] at h) <;> try exact xf) | fail)); all_goals clear kk1 kud1 kuc1)
  ((all_goals first | refine RetQ.yr 1 ⟨?_, ?_⟩ | refine RetQ.yn 1 ⟨?_, ?_⟩); (all_goals first | rfl | (simp [Cu.fin, Cu.fail, *]; done) | ((simp only [go_sem, ↓reduceIte, Nat.reduceLT, Cu.fin, Cu.fail]; (repeat' split)) <;> first | rfl | (exfalso; omega) | (simp_all; done) | (simp_all; omega))))
end
end Go.AW
namespace Go.AW
open Go Go.Proofs
attribute [local irreducible] thenQ blockQ RetQ AL AW AC AOp
abbrev Cu.ro (c : Cu) : Ob := .box 192 [sv (bs c.s), iv .i64 c.a, iv .i64 c.e]
attribute [go_sem] Cu.ro
section
variable (s : List UInt8) (a : Nat) (e f n : Int)
theorem ref01_Fail : AC Tryz.prog 295 [.p 0 0, iv .i64 f] [Cu.ro ⟨s, a, e⟩] fun x σ => x = .t [] ∧ σ = [Cu.ro (Cu.fail ⟨s, a, e⟩ f)] := by
  refine AC.wk Tryz.func295 ?_
  focus ((repeat' (first | refine GF ?_ | refine AW.ret ?_ | (refine GC ?_ ?_ <;> intro h <;> (try simp only [hsB] at h) <;> try exact xf) | (refine GL ?_ ?_ <;> intro h <;> (try simp only [hsN] at h) <;> (try simp only [h]) <;> (try simp only [hsB] at h) <;> try exact xf) | fail)))
  ((all_goals first | refine RetQ.yr 1 ⟨?_, ?_⟩ | refine RetQ.yn 1 ⟨?_, ?_⟩); (all_goals first | rfl | (simp [Cu.fail, *]; done) | ((simp only [go_sem, ↓reduceIte, Nat.reduceLT, Cu.fail]; (repeat' split)) <;> first | rfl | (exfalso; omega) | (simp_all; done) | (simp_all; omega))))
theorem ref01_Bytes (h : Cu.Ok ⟨s, a, e⟩) : AC Tryz.prog 122 [.p 0 0, iv .i64 n] [Cu.ro ⟨s, a, e⟩] fun x σ => x = sv (bs (Cu.bytes ⟨s, a, e⟩ n).1) ∧ σ = [Cu.ro (Cu.bytes ⟨s, a, e⟩ n).2] := by
  have hh := h
  obtain ⟨h1, h2⟩ := h
  simp only at h1 h2
  refine AC.wk Tryz.func122 ?_
  focus ((repeat' (first | (refine ADr.nil ?_; try clear hgv) | refine GOF ?_ | refine AW.ret ?_ | (refine GC ?_ ?_ <;> intro h <;> (try simp only [hsB] at h) <;> try exact xf) | (refine GD ?_ ?_ <;> intro h <;> (try intro hgv) <;> (try simp only [hsN] at h) <;> (try simp only [h]) <;> (try simp only [hsB] at h) <;> try exact xf) | (refine GL ?_ ?_ <;> intro h <;> (try simp only [hsN] at h) <;> (try simp only [h]) <;> (try simp only [hsB] at h) <;> try exact xf) | fail)))
  · ((all_goals first | refine RetQ.yr 1 ⟨?_, ?_⟩ | refine RetQ.yn 1 ⟨?_, ?_⟩); (all_goals first | rfl | (simp [Cu.bytes, *]; done) | ((simp only [go_sem, ↓reduceIte, Nat.reduceLT, Cu.bytes]; (repeat' split)) <;> first | rfl | (exfalso; omega) | (simp_all; done) | (simp_all; omega))))
  · ((all_goals first | refine RetQ.yr 1 ⟨?_, ?_⟩ | refine RetQ.yn 1 ⟨?_, ?_⟩); (all_goals first | rfl | (simp [Cu.bytes, *]; done) | ((simp only [go_sem, ↓reduceIte, Nat.reduceLT, Cu.bytes]; (repeat' split)) <;> first | rfl | (exfalso; omega) | (simp_all; done) | (simp_all; omega))))
  · ((all_goals first | refine RetQ.yr 1 ⟨?_, ?_⟩ | refine RetQ.yn 1 ⟨?_, ?_⟩); (all_goals first | rfl | (simp [Cu.bytes, *]; done) | ((simp only [go_sem, ↓reduceIte, Nat.reduceLT, Cu.bytes]; (repeat' split)) <;> first | rfl | (exfalso; omega) | (simp_all; done) | (simp_all; omega))))
  · have h3 : e = 0 := by assumption
    subst h3
    refine AW.rounds [0, 1, 4, 5, 6] (fun i => [(0, .p 0 0), (1, iv .i64 n), (4, sv (bs [])), (5, sv (bs ((s.drop a).take i))), (6, iv .i64 (i : Nat))]) (fun i => [Cu.ro ⟨s, a + i, 0⟩]) (fun i => i ≤ n.toNat) (fun i => n.toNat - i) 0 (Nat.zero_le _) rfl rfl
      (fun _ _ => Nat.le_of_ble_eq_true rfl) (fun _ _ => rfl) (fun _ _ => rfl) ?_
    intro i hi J hJ
    focus ((repeat' (first | (refine ADr.nil ?_; try clear hgv) | refine GOF ?_ | refine AW.ret ?_ | (refine GC ?_ ?_ <;> intro h <;> (try simp only [hsB] at h) <;> try exact xf) | (refine GD ?_ ?_ <;> intro h <;> (try intro hgv) <;> (try simp only [hsN] at h) <;> (try simp only [h]) <;> (try simp only [hsB] at h) <;> try exact xf) | (refine GL ?_ ?_ <;> intro h <;> (try simp only [hsN] at h) <;> (try simp only [h]) <;> (try simp only [hsB] at h) <;> try exact xf) | fail)))
    · have e1 : ((((a + i : Nat) : Int) + 1).toNat - (a + i)) = 1 := by omega
      have e2 : (s.drop a).take i ++ (s.drop (a + i)).take 1 = (s.drop a).take (i + 1) := by rw [List.take_add, List.drop_drop]
      rw [e1, e2]
      exact hJ (i + 1) _ _ (by omega) (by omega) rfl rfl
    · have e1 : i = n.toNat := by omega
      subst e1
      ((all_goals first | refine RetQ.yr 1 ⟨?_, ?_⟩ | refine RetQ.yn 1 ⟨?_, ?_⟩); (all_goals first | rfl | (simp [Cu.bytes, *]; done) | ((simp only [go_sem, ↓reduceIte, Nat.reduceLT, Cu.bytes]; (repeat' split)) <;> first | rfl | (exfalso; omega) | (simp_all; done) | (simp_all; omega))))
theorem ref01_Byte (h : Cu.Ok ⟨s, a, e⟩) : AC Tryz.prog 294 [.p 0 0] [Cu.ro ⟨s, a, e⟩] fun x σ => x = iv .i64 (Cu.byte ⟨s, a, e⟩).1 ∧ σ = [Cu.ro (Cu.byte ⟨s, a, e⟩).2] := by
  refine AC.wk Tryz.func294 ?_
  repeat' (first
    | ((first
      | ((first | refine AL.callv (by decide) fun Kr hr => ?_ | refine AL.callv0 fun Kr hr => ?_ | refine AL.g1v (by decide) rfl fun Kr hr => ?_); first
      | (refine AOp.cι (fun _ _ => rfl) [0] rfl (ref01_Bytes _ _ _ _ h) (Emb.one rfl) rfl ?_; rintro y obs ⟨rfl, rfl⟩))
      | refine AL.one (by decide) fun Kr hr => ?_
      | refine AL.one0 fun Kr hr => ?_); (try simp only [ao, List.map_cons, List.map_nil]); simp (disch := omega) only [go_sem, Int.natCast_pos, List.length_pos_iff, ne_eq]; (repeat first | (refine ⟨_, bsD_nums _, by simp only [List.length_map], ?_⟩; simp only [strOfNums_bs]) | (refine ⟨[_], rfl, rfl, ?_⟩; simp only [strOfNums_one, UInt8.ofNat_toNat, Int.toNat_natCast]) | refine ⟨by first | omega | assumption | rfl | (simp only [List.length_take, List.length_drop, List.length_append, List.length_cons, List.length_nil, List.length_map]; omega), ?_⟩); refine hr _ _ ?_; clear hr Kr)
    | refine AL.nil ?_ | refine AW.seq' ?_ | refine AW.region ?_ | refine AW.block ?_ | refine AW.skip ?_ | refine AW.ret ?_ | refine AW.exit ?_ | refine thenQ_n ?_ | refine thenQ_r ?_ | refine thenQ_e ?_ | refine blockQ_n ?_ | refine blockQ_r ?_ | refine blockQ_e ?_ | refine blockQ_o (by decide) ?_
    | (refine AW.cond rfl (fun h => ?_) (fun h => ?_) <;> (try simp only [decide_eq_true_eq, decide_eq_false_iff_not, Bool.false_eq_true, Bool.true_eq_false, Bool.not_eq_true', Bool.not_eq_false', Bool.not_eq_eq_eq_not, Bool.not_true, Bool.not_false, Bool.and_eq_true, Bool.or_eq_true, Bool.and_eq_false_iff, Bool.or_eq_false_iff] at h) <;> try exact xf)
    | (refine AL.gt (by decide) rfl ?_) | (refine AL.g0 (by decide) rfl (by decide) ?_) | (refine AL.g1 (by decide) rfl fun Kr hr => ?_; (try simp only [ao, List.map_cons, List.map_nil]); simp (disch := omega) only [go_sem, Int.natCast_pos, List.length_pos_iff, ne_eq]; (repeat first | (refine ⟨_, bsD_nums _, by simp only [List.length_map], ?_⟩; simp only [strOfNums_bs]) | (refine ⟨[_], rfl, rfl, ?_⟩; simp only [strOfNums_one, UInt8.ofNat_toNat, Int.toNat_natCast]) | refine ⟨by first | omega | assumption | rfl | (simp only [List.length_take, List.length_drop, List.length_append, List.length_cons, List.length_nil, List.length_map]; omega), ?_⟩); refine hr _ _ ?_; clear hr Kr)
    | (refine AL.g (by decide) rfl (fun h => ?_) (fun h => ?_) <;> (try simp only [hsN] at h) <;> (try simp only [h]) <;> simp only [decide_eq_true_eq, decide_eq_false_iff_not, Bool.false_eq_true, Bool.true_eq_false, Bool.not_eq_true', Bool.not_eq_false', Bool.not_eq_eq_eq_not, Bool.not_true, Bool.not_false, Bool.and_eq_true, Bool.or_eq_true, Bool.and_eq_false_iff, Bool.or_eq_false_iff] at h <;> try exact xf))
  ((all_goals first | refine RetQ.yr 1 ⟨?_, ?_⟩ | refine RetQ.yn 1 ⟨?_, ?_⟩); (all_goals first | rfl | (simp [Cu.byte, *]; done) | ((simp only [go_sem, ↓reduceIte, Nat.reduceLT, Cu.byte]; (repeat' split)) <;> first | rfl | (exfalso; omega) | (simp_all; done) | (simp_all; omega))))
theorem ref01_End (h : Cu.Ok ⟨s, a, e⟩) : AC Tryz.prog 106 [.p 0 0] [Cu.ro ⟨s, a, e⟩] fun x σ => x = iv .i64 (Cu.fin ⟨s, a, e⟩).e ∧ σ = [Cu.ro (Cu.fin ⟨s, a, e⟩)] := by
  refine AC.wk Tryz.func106 ?_
  focus ((repeat' (first | (refine ADr.nil ?_; try clear hgv) | refine GOF ?_ | refine AW.ret ?_ | (refine GC ?_ ?_ <;> intro h <;> (try simp only [hsB] at h) <;> try exact xf) | (refine GD ?_ ?_ <;> intro h <;> (try intro hgv) <;> (try simp only [hsN] at h) <;> (try simp only [h]) <;> (try simp only [hsB] at h) <;> try exact xf) | (refine GL ?_ ?_ <;> intro h <;> (try simp only [hsN] at h) <;> (try simp only [h]) <;> (try simp only [hsB] at h) <;> try exact xf) | fail)))
  ((all_goals first | refine RetQ.yr 1 ⟨?_, ?_⟩ | refine RetQ.yn 1 ⟨?_, ?_⟩); (all_goals first | rfl | (simp [Cu.fin, *]; done) | ((simp only [go_sem, ↓reduceIte, Nat.reduceLT, Cu.fin]; (repeat' split)) <;> first | rfl | (exfalso; omega) | (simp_all; done) | (simp_all; omega))))
end
end Go.AW
namespace Go.AW
open Go Go.Proofs
attribute [local irreducible] thenQ blockQ RetQ AL AW AC AOp
abbrev Pe.obs (p : Pe) : List Ob := [.box 346 [.o 1 p.b.length, iv .i64 p.m, iv .i64 p.e], .row 5 1 p.b.length (bsD p.b)]
attribute [go_sem] Pe.obs
end Go.AW
namespace Go.AW
open Go Go.Proofs
attribute [local irreducible] thenQ blockQ RetQ AL AW AC AOp
abbrev Pe.ro (p : Pe) : Ob := .box 231 [sv (bs p.b), iv .i64 p.m, iv .i64 p.e]
attribute [go_sem] Pe.ro
end Go.AW
namespace Go.AW
open Go
theorem and_u8 {x y : Nat} (hx : x < 256) (hy : y < 256) : bitI .and .u8 x y = ((x &&& y : Nat) : Int) := by
  show IntKind.wrap .u8 ((BitVec.ofInt 8 x &&& BitVec.ofInt 8 y).toNat : Int) = _
  rw [BitVec.ofInt_natCast, BitVec.ofInt_natCast, BitVec.toNat_and, BitVec.toNat_ofNat, BitVec.toNat_ofNat, Nat.mod_eq_of_lt (by omega), Nat.mod_eq_of_lt (by omega)]
  have : x &&& y ≤ x := Nat.and_le_left
  exact wrap_u8 (by omega) (by omega)
theorem or_u64 {x y : Nat} (hx : x < 18446744073709551616) (hy : y < 18446744073709551616) : bitI .or .u64 x y = ((x ||| y : Nat) : Int) := by
  show IntKind.wrap .u64 ((BitVec.ofInt 64 x ||| BitVec.ofInt 64 y).toNat : Int) = _
  rw [BitVec.ofInt_natCast, BitVec.ofInt_natCast, BitVec.toNat_or, BitVec.toNat_ofNat, BitVec.toNat_ofNat, Nat.mod_eq_of_lt (by omega), Nat.mod_eq_of_lt (by omega)]
  have : x ||| y < 2 ^ 64 := Nat.or_lt_two_pow (by omega) (by omega)
  exact wrap_u64 (by omega) (by omega)
theorem or_high {n x i : Nat} (hn : n < 2 ^ i) : n ||| x * 2 ^ i = n + x * 2 ^ i := by
  rw [Nat.or_comm, Nat.add_comm, Nat.mul_comm, Nat.two_pow_add_eq_or_of_lt hn]
theorem and127 (b : UInt8) : bitI .and .u8 (b.toNat : Int) 127 = ((b.toNat % 128 : Nat) : Int) := by
  have h := and_u8 (x := b.toNat) (y := 127) b.toNat_lt (by omega)
  rw [show ((127 : Nat) : Int) = 127 from rfl] at h
  rw [h, show (127 : Nat) = 2 ^ 7 - 1 from rfl, Nat.and_two_pow_sub_one_eq_mod]
theorem pow128 (i : Nat) : 128 ^ i = 2 ^ (7 * i) := by rw [Nat.pow_mul]
theorem vstep {n i x : Nat} (hi : i ≤ 9) (hn : n < 128 ^ i) (hx : x < 128) (h9 : i = 9 → x ≤ 1) : bitI .or .u64 (n : Int) (IntKind.wrap .u64 ((x : Int) * 2 ^ (min (7 * (i : Int)).toNat 64))) = ((n + x * 128 ^ i : Nat) : Int) := by
  have h1 : (7 * (i : Int)).toNat = 7 * i := by omega
  rw [h1, Nat.min_eq_left (by omega), show (x : Int) * 2 ^ (7 * i) = ((x * 2 ^ (7 * i) : Nat) : Int) by push_cast; rfl]
  have h2 : x * 2 ^ (7 * i) < 18446744073709551616 := by
    by_cases h : i = 9
    · subst h
      have := Nat.mul_le_mul_right (2 ^ (7 * 9)) (h9 rfl)
      omega
    · have h3 : 2 ^ (7 * i) ≤ 2 ^ 56 := Nat.pow_le_pow_right (by omega) (by omega)
      have := Nat.mul_le_mul (Nat.le_of_lt_succ (show x < 127 + 1 by omega)) h3
      omega
  have h3 : n < 18446744073709551616 := by
    have : 128 ^ i ≤ 128 ^ 9 := Nat.pow_le_pow_right (by omega) hi
    have : 128 ^ 9 < 18446744073709551616 := by decide
    omega
  rw [wrap_u64 (by omega) (by omega), or_u64 h3 h2, or_high (by rw [← pow128]; exact hn), pow128]
end Go.AW
namespace Go.AW
open Go Go.Proofs Go.RowKit
section
variable {H : Type} {enc : TypeId × Value → H} {w : World}
def Sp.fits (x : Sp) : Prop := x.1.length ≤ 9223372036854775807 ∧ (-9223372036854775808 ≤ x.2.1 ∧ x.2.1 ≤ 9223372036854775807) ∧ (-9223372036854775808 ≤ x.2.2 ∧ x.2.2 ≤ 9223372036854775807)
end
end Go.AW
