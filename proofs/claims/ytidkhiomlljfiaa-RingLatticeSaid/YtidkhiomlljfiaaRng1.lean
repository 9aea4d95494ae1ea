/-
  numbers of eight bytes that are read; rising tokens; right rings: the program's and the document's.
-/
import Derived.Test.YtidkhiomlljfiaaMe
import Derived.Test.YtidkhiomlljfiaaSeq
import Derived.Test.YtidkhiomlljfiaaPRng
namespace Go.AW
open Go Go.Proofs
set_option maxHeartbeats 2000000
set_option maxRecDepth 10000
set_option linter.unusedSimpArgs false
set_option linter.unusedVariables false
attribute [local irreducible] thenQ blockQ RetQ AL AW AC AOp

theorem val8_snoc (l : List UInt8) (b : UInt8) : val8 (l ++ [b]) = val8 l * 256 + b.toNat := by simp [val8, List.foldl_append]
theorem val8_go : ∀ (l : List UInt8) (n : Nat), l.foldl (fun n b => n * 256 + b.toNat) n < (n + 1) * 256 ^ l.length
  | [], n => by simp
  | b :: l, n => by
    have ih := val8_go l (n * 256 + b.toNat)
    have hb := b.toNat_lt
    have h2 : (n * 256 + b.toNat + 1) * 256 ^ l.length ≤ ((n + 1) * 256) * 256 ^ l.length := Nat.mul_le_mul_right _ (by omega)
    rw [List.length_cons, Nat.pow_succ, List.foldl_cons]
    rw [show (n + 1) * (256 ^ l.length * 256) = ((n + 1) * 256) * 256 ^ l.length by rw [Nat.mul_comm (256 ^ l.length) 256, Nat.mul_assoc]]
    omega
theorem val8_lt (l : List UInt8) : val8 l < 256 ^ l.length := by
  have := val8_go l 0
  simpa [val8] using this
theorem val8_zeros : ∀ n : Nat, val8 (List.replicate n 0) = 0
  | 0 => rfl
  | n + 1 => by rw [List.replicate_succ']; rw [val8_snoc, val8_zeros n]; rfl
theorem lts_map (m : Nat) : ∀ l : List D, lts m (l.map V.d) = true
  | [] => rfl
  | x :: l => by
    show (true && lts m (l.map V.d)) = true
    rw [lts_map m l]; rfl
theorem or_byte {n x : Nat} (hn : n < 72057594037927936) (hx : x < 256) : bitI .or .u64 ((n : Int) * 256) (x : Int) = ((n * 256 + x : Nat) : Int) := by
  have h := or_u64 (x := n * 256) (y := x) (by omega) (by omega)
  rw [show ((n * 256 : Nat) : Int) = (n : Int) * 256 by push_cast; rfl] at h
  rw [h, Nat.or_comm, show n * 256 = n * 2 ^ 8 from rfl, or_high (by omega), Nat.add_comm]
theorem pow256 {i : Nat} (hi : i < 8) : 256 ^ i ≤ 72057594037927936 := by
  have : 256 ^ i ≤ 256 ^ 7 := Nat.pow_le_pow_right (by decide) (by omega)
  have e : 256 ^ 7 = 72057594037927936 := by decide
  omega

section
variable (s : List UInt8) (a : Nat) (e : Int)
theorem fixed_right : AC Try.prog 93 [iv .i64 8] [] fun x σ => x = bv true ∧ σ = [] := by
  refine AC.walk Try.func93 rfl (by decide) (of_decide_eq_true rfl) ?_
  focus (have kxs : 987654321 = 987654320 + 1 := rfl; (repeat' (first | refine G ?_ | refine AW.ret ?_ | (refine GC ?_ ?_ <;> intro h <;> (try simp only [hsB] at h) <;> try (exfalso; first | omega | contradiction)) | (refine GL ?_ ?_ <;> intro h <;> (try simp only [Bool.not_true, Bool.not_false] at h) <;> (try simp only [h]) <;> (try simp only [hsB] at h) <;> try (exfalso; first | omega | contradiction)) | fail)); all_goals clear kxs)
  all_goals first | ((all_goals first | exact RetQ.fr 0 | exact RetQ.fn 0 | fail); done) | (exfalso; simp_all; done)
theorem ref04_Width : AC Try.prog 89 [iv .i64 8] [] fun x σ => x = bv true ∧ σ = [] := by
  refine AC.walk Try.func89 rfl (by decide) (of_decide_eq_true rfl) ?_
  focus (have kxs : 987654321 = 987654320 + 1 := rfl; (repeat' (first | refine G ?_ | refine AW.ret ?_ | (refine GC ?_ ?_ <;> intro h <;> (try simp only [hsB] at h) <;> try (exfalso; first | omega | contradiction)) | (refine GL ?_ ?_ <;> intro h <;> (try simp only [Bool.not_true, Bool.not_false] at h) <;> (try simp only [h]) <;> (try simp only [hsB] at h) <;> try (exfalso; first | omega | contradiction)) | fail)); all_goals clear kxs)
  all_goals first | ((all_goals first | exact RetQ.fr 0 | exact RetQ.fn 0 | fail); done) | (exfalso; simp_all; done)

theorem fixed_Take (h : Cu.Ok ⟨s, a, e⟩) : AC Try.prog 72 [.p 0 0, iv .i64 8] [Cu.ob ⟨s, a, e⟩] fun x σ => x = iv .u64 (Cu.num8 ⟨s, a, e⟩).1 ∧ σ = [Cu.ob (Cu.num8 ⟨s, a, e⟩).2] := by
  refine AC.walk Try.func72 rfl (by decide) (of_decide_eq_true rfl) ?_
  have hb := cursor_Bytes s a e 8 h
  have hl : (Cu.bytes ⟨s, a, e⟩ 8).1 = [] ∨ (Cu.bytes ⟨s, a, e⟩ 8).1.length = 8 := by
    unfold Cu.bytes
    split
    · exact .inl rfl
    split
    · exact .inl rfl
    split
    · exact .inl rfl
    · right
      rw [List.length_take, List.length_drop]
      simp only at *
      omega
  unfold Cu.num8
  generalize Cu.bytes ⟨s, a, e⟩ 8 = z at *
  obtain ⟨l, c⟩ := z
  simp only at hl hb ⊢
  obtain ⟨w, hw8, hwv, hws⟩ : ∃ w : List UInt8, w.length = 8 ∧ val8 w = val8 l ∧ setAt [V.d (D.s (.int .u8 0)), V.d (D.s (.int .u8 0)), V.d (D.s (.int .u8 0)), V.d (D.s (.int .u8 0)), V.d (D.s (.int .u8 0)), V.d (D.s (.int .u8 0)), V.d (D.s (.int .u8 0)), V.d (D.s (.int .u8 0))] 0 ((bsD l).map V.d) = (bsD w).map V.d := by
    rcases hl with rfl | hl
    · exact ⟨List.replicate 8 0, rfl, rfl, rfl⟩
    · refine ⟨l, hl, rfl, ?_⟩
      match l, hl with
      | [b0, b1, b2, b3, b4, b5, b6, b7], _ => rfl
  have hll : l.length ≤ 8 := by rcases hl with rfl | hl <;> simp_all
  have hln : ((bsD w).map V.d).length = 8 := by rw [List.length_map, bsD, List.length_map, hw8]
  have htk : List.take 8 ((bsD w).map V.d) = (bsD w).map V.d := List.take_of_length_le (by rw [hln]; exact Nat.le_refl _)
  focus (have kxs := And.intro hws (And.intro hln htk); have kk1 := uN [] (fixed_right); have kk2 := uN [0] (hb); (repeat' (first | (refine ADr.nil ?_; try clear hgv) | refine GW ?_ | refine AW.ret ?_ | (refine GC ?_ ?_ <;> intro h <;> (try simp only [hsB] at h) <;> try (exfalso; first | omega | contradiction)) | (refine GD ?_ ?_ <;> intro h <;> (try intro hgv) <;> (try simp only [Bool.not_true, Bool.not_false] at h) <;> (try simp only [h]) <;> (try simp only [hsB] at h) <;> try (exfalso; first | omega | contradiction)) | (refine GL ?_ ?_ <;> intro h <;> (try simp only [Bool.not_true, Bool.not_false] at h) <;> (try simp only [h]) <;> (try simp only [hsB] at h) <;> try (exfalso; first | omega | contradiction)) | fail)); all_goals clear kxs kk1 kk2)
  all_goals first | (exfalso; simp_all; done) | skip
  rw [← hwv]
  refine AW.rounds [4, 6, 21, 22] (fun i : Nat => [(4, iv .u64 0), (6, iv .u64 (val8 (w.take i))), (21, .a ((bsD w).map V.d)), (22, iv .i64 i)]) (fun i => [Cu.ob c])
    (fun i => i ≤ 8) (fun i => 8 - i) 0 (Nat.zero_le _) rfl rfl (fun _ _ => Nat.le_of_ble_eq_true rfl) (fun _ _ => rfl) (fun _ _ => by simp [tLt, V.lt, lts_map]) ?_
  intro i hi J hJ
  have hlt := val8_lt (w.take i)
  rw [List.length_take, Nat.min_eq_left (by omega)] at hlt
  by_cases hil : i < 8
  · obtain ⟨b, r, hd⟩ := next_at (l := w) (i := i) (by omega)
    have hp := pow256 (i := i) hil
    have hbl := b.toNat_lt
    have hn := or_byte (n := val8 (w.take i)) (x := b.toNat) (by omega) hbl
    rw [← val8_snoc, ← next_take hd] at hn
    have hg : ((bsD w).map V.d)[i]? = some (.d (.s (.int .u8 b.toNat))) := by
      have := congrArg (fun y => y.head?) hd
      simp only [List.head?_drop, List.head?_cons] at this
      rw [List.getElem?_map, bsD, List.getElem?_map, this]; rfl
    have hbd : ((val8 (w.take i) : Nat) : Int) * 256 ≤ 18446744073709551615 := by omega
    have hsh : IntKind.wrap .u64 (((val8 (w.take i) : Nat) : Int) * 2 ^ (min 8 64)) = ((val8 (w.take i) : Nat) : Int) * 256 := by
      rw [show ((2 : Int) ^ (min 8 64)) = 256 from rfl]
      exact wrap_u64 (by omega) hbd
    focus (have kxs := And.intro hsh (And.intro hn hg); (repeat' (first | (refine ADr.nil ?_; try clear hgv) | refine GO ?_ | refine AW.ret ?_ | (refine GC ?_ ?_ <;> intro h <;> (try simp only [hsB] at h) <;> try (exfalso; first | omega | contradiction)) | (refine GD ?_ ?_ <;> intro h <;> (try intro hgv) <;> (try simp only [Bool.not_true, Bool.not_false] at h) <;> (try simp only [h]) <;> (try simp only [hsB] at h) <;> try (exfalso; first | omega | contradiction)) | (refine GL ?_ ?_ <;> intro h <;> (try simp only [Bool.not_true, Bool.not_false] at h) <;> (try simp only [h]) <;> (try simp only [hsB] at h) <;> try (exfalso; first | omega | contradiction)) | fail)); all_goals clear kxs)
    all_goals first | (refine hJ (i + 1) _ _ (by omega) hil rfl rfl) | (exfalso; simp_all; done)
  · have hi2 : i = 8 := by omega
    rw [hi2, List.take_of_length_le (by omega)]
    focus (have kxs : 987654321 = 987654320 + 1 := rfl; (repeat' (first | (refine ADr.nil ?_; try clear hgv) | refine GO ?_ | refine AW.ret ?_ | (refine GC ?_ ?_ <;> intro h <;> (try simp only [hsB] at h) <;> try (exfalso; first | omega | contradiction)) | (refine GD ?_ ?_ <;> intro h <;> (try intro hgv) <;> (try simp only [Bool.not_true, Bool.not_false] at h) <;> (try simp only [h]) <;> (try simp only [hsB] at h) <;> try (exfalso; first | omega | contradiction)) | (refine GL ?_ ?_ <;> intro h <;> (try simp only [Bool.not_true, Bool.not_false] at h) <;> (try simp only [h]) <;> (try simp only [hsB] at h) <;> try (exfalso; first | omega | contradiction)) | fail)); all_goals clear kxs)
    all_goals first | ((all_goals first | exact RetQ.fr 1 | exact RetQ.fn 1 | fail); done) | (exfalso; simp_all; done)

theorem ref04_Take (h : Cu.Ok ⟨s, a, e⟩) : AC Try.prog 76 [.p 0 0, iv .i64 8] [Cu.ro ⟨s, a, e⟩] fun x σ => x = iv .u64 (Cu.num8 ⟨s, a, e⟩).1 ∧ σ = [Cu.ro (Cu.num8 ⟨s, a, e⟩).2] := by
  refine AC.walk Try.func76 rfl (by decide) (of_decide_eq_true rfl) ?_
  by_cases he : e = 0
  case neg =>
    have hn : Cu.num8 ⟨s, a, e⟩ = (0, ⟨s, a, e⟩) := by unfold Cu.num8; rw [Cu.bytes_stuck (c := ⟨s, a, e⟩) 8 he]; rfl
    rw [hn]
    focus (have kxs : 987654321 = 987654320 + 1 := rfl; have kk1 := uN [] (ref04_Width); (repeat' (first | refine G ?_ | refine AW.ret ?_ | (refine GC ?_ ?_ <;> intro h <;> (try simp only [hsB] at h) <;> try (exfalso; first | omega | contradiction)) | (refine GL ?_ ?_ <;> intro h <;> (try simp only [Bool.not_true, Bool.not_false] at h) <;> (try simp only [h]) <;> (try simp only [hsB] at h) <;> try (exfalso; first | omega | contradiction)) | fail)); all_goals clear kxs kk1)
    all_goals first | ((all_goals first | exact RetQ.fr 1 | exact RetQ.fn 1 | fail); done) | (exfalso; simp_all; done)
  have hb := ref01_Bytes s a e 8 h
  have hl : (Cu.bytes ⟨s, a, e⟩ 8).1.length ≤ 8 := by
    unfold Cu.bytes
    split
    · exact Nat.zero_le _
    split
    · exact Nat.zero_le _
    split
    · exact Nat.zero_le _
    · rw [List.length_take]; exact Nat.min_le_left _ _
  unfold Cu.num8
  generalize Cu.bytes ⟨s, a, e⟩ 8 = z at *
  obtain ⟨l, c⟩ := z
  simp only at hl hb ⊢
  focus (have kxs : 987654321 = 987654320 + 1 := rfl; have kk1 := uN [] (ref04_Width); have kk2 := uN [0] (hb); (repeat' (first | refine G ?_ | refine AW.ret ?_ | (refine GC ?_ ?_ <;> intro h <;> (try simp only [hsB] at h) <;> try (exfalso; first | omega | contradiction)) | (refine GL ?_ ?_ <;> intro h <;> (try simp only [Bool.not_true, Bool.not_false] at h) <;> (try simp only [h]) <;> (try simp only [hsB] at h) <;> try (exfalso; first | omega | contradiction)) | fail)); all_goals clear kxs kk1 kk2)
  all_goals first | (exfalso; simp_all; done) | skip
  refine AW.rounds [4, 5, 6, 7] (fun i : Nat => [(4, iv .u64 0), (5, sv (bs l)), (6, iv .u64 (val8 (l.take i))), (7, iv .i64 i)]) (fun i => [Cu.ro c])
    (fun i => i ≤ l.length) (fun i => l.length - i) 0 (Nat.zero_le _) rfl rfl (fun _ _ => Nat.le_of_ble_eq_true rfl) (fun _ _ => rfl) (fun _ _ => rfl) ?_
  intro i hi J hJ
  have hlt := val8_lt (l.take i)
  rw [List.length_take, Nat.min_eq_left hi] at hlt
  by_cases hil : i < l.length
  · obtain ⟨b, r, hd⟩ := next_at hil
    have hp := pow256 (i := i) (by omega)
    have hbl := b.toNat_lt
    have hn : ((val8 (l.take i) : Nat) : Int) * 256 + ((b.toNat : Nat) : Int) = ((val8 (l.take (i + 1)) : Nat) : Int) := by
      rw [next_take hd, val8_snoc]; push_cast; rfl
    have hg : l.getD i 0 = b := by
      have := congrArg (fun y => y.getD 0 0) hd
      simpa [List.getD_eq_getElem?_getD] using this
    focus (have kxs := And.intro hn hg; (repeat' (first | refine G ?_ | refine AW.ret ?_ | (refine GC ?_ ?_ <;> intro h <;> (try simp only [hsB] at h) <;> try (exfalso; first | omega | contradiction)) | (refine GL ?_ ?_ <;> intro h <;> (try simp only [Bool.not_true, Bool.not_false] at h) <;> (try simp only [h]) <;> (try simp only [hsB] at h) <;> try (exfalso; first | omega | contradiction)) | fail)); all_goals clear kxs)
    all_goals first | (refine hJ (i + 1) _ _ (by omega) hil rfl rfl) | (exfalso; simp_all; done)
  · have hi2 : i = l.length := by omega
    rw [hi2, List.take_length] at *
    focus (have kxs : 987654321 = 987654320 + 1 := rfl; (repeat' (first | refine G ?_ | refine AW.ret ?_ | (refine GC ?_ ?_ <;> intro h <;> (try simp only [hsB] at h) <;> try (exfalso; first | omega | contradiction)) | (refine GL ?_ ?_ <;> intro h <;> (try simp only [Bool.not_true, Bool.not_false] at h) <;> (try simp only [h]) <;> (try simp only [hsB] at h) <;> try (exfalso; first | omega | contradiction)) | fail)); all_goals clear kxs)
    all_goals first | ((all_goals first | exact RetQ.fr 1 | exact RetQ.fn 1 | fail); done) | (exfalso; simp_all; done)
end

/-! ### Tokens, members -/

abbrev toksD (l : List Nat) : List D := l.map fun t => D.s (.int .u64 (t : Nat))
theorem toks_drop {l r : List Nat} {t i : Nat} (h : l.drop i = t :: r) : (toksD l).drop i = .s (.int .u64 (t : Nat)) :: toksD r := by
  rw [toksD, ← List.map_drop, h]; rfl
theorem ring_rising (l : List Nat) (hl : l.length ≤ 9223372036854775807) : AC Try.prog 54 [.d (.l l.length (toksD l))] [] fun x σ => x = bv (rises none l) ∧ σ = [] := by
  refine AC.walk Try.func54 rfl (by decide) (of_decide_eq_true rfl) ?_
  generalize hR : rises none l = R
  focus (have kxs : 987654321 = 987654320 + 1 := rfl; (repeat' (first | (refine ADr.nil ?_; try clear hgv) | refine GO ?_ | refine AW.ret ?_ | (refine GC ?_ ?_ <;> intro h <;> (try simp only [hsB] at h) <;> try (exfalso; first | omega | contradiction)) | (refine GD ?_ ?_ <;> intro h <;> (try intro hgv) <;> (try simp only [Bool.not_true, Bool.not_false] at h) <;> (try simp only [h]) <;> (try simp only [hsB] at h) <;> try (exfalso; first | omega | contradiction)) | (refine GL ?_ ?_ <;> intro h <;> (try simp only [Bool.not_true, Bool.not_false] at h) <;> (try simp only [h]) <;> (try simp only [hsB] at h) <;> try (exfalso; first | omega | contradiction)) | fail)); all_goals clear kxs)
  refine AW.rounds [0, 2, 3] (fun i : Nat => [(0, .d (.l l.length (toksD l))), (2, bv false), (3, iv .i64 i)]) (fun _ => [])
    (fun i => 1 ≤ i ∧ (i ≤ l.length ∨ l = []) ∧ (l ≠ [] → ∃ q, l.drop (i - 1) = q :: l.drop i ∧ rises (some q) (l.drop i) = R)) (fun i => l.length - i) 1
    ⟨Nat.le_refl _, by cases l <;> simp, fun h => by
      cases l with
      | nil => exact absurd rfl h
      | cons t r => exact ⟨t, rfl, hR⟩⟩ rfl rfl (fun _ _ => Nat.zero_le _) (fun _ _ => rfl) (fun _ _ => rfl) ?_
  rintro i ⟨h1, h2, h3⟩ J hJ
  by_cases hil : i < l.length
  · have hne : l ≠ [] := by rintro rfl; simp at hil
    obtain ⟨q, hq, hr⟩ := h3 hne
    obtain ⟨t, r, hd⟩ := next_at hil
    have hcd := toks_drop hd
    have hcq := toks_drop hq
    have hi1 : ((i : Int) - 1).toNat = i - 1 := by omega
    rw [hd] at hr
    have hr2 : (decide (q < t) && rises (some t) r) = R := hr
    have hnd := next_drop hd
    focus (have kxs := And.intro hcd (And.intro hcq (And.intro hi1 @Nat.mul_one)); (repeat' (first | (refine ADr.nil ?_; try clear hgv) | refine GO ?_ | refine AW.ret ?_ | (refine GC ?_ ?_ <;> intro h <;> (try simp only [hsB] at h) <;> try (exfalso; first | omega | contradiction)) | (refine GD ?_ ?_ <;> intro h <;> (try intro hgv) <;> (try simp only [Bool.not_true, Bool.not_false] at h) <;> (try simp only [h]) <;> (try simp only [hsB] at h) <;> try (exfalso; first | omega | contradiction)) | (refine GL ?_ ?_ <;> intro h <;> (try simp only [Bool.not_true, Bool.not_false] at h) <;> (try simp only [h]) <;> (try simp only [hsB] at h) <;> try (exfalso; first | omega | contradiction)) | fail)); all_goals clear kxs)
    all_goals first
      | (rw [show R = false from by rw [← hr2, decide_eq_false (by omega)]; rfl]; (all_goals first | exact RetQ.fr 0 | exact RetQ.fn 0 | fail); done)
      | (refine hJ (i + 1) _ _ (by omega) ⟨by omega, .inl hil, fun _ => ⟨t, ?_, ?_⟩⟩ rfl rfl
         · rw [hnd]; exact hd
         · rw [hnd, ← hr2, decide_eq_true (show q < t by omega)]; rfl)
      | (exfalso; clear hJ hr hr2 hR h3; simp_all; done)
  · have hR0 : R = true := by
      rcases h2 with h2 | rfl
      · by_cases hne : l = []
        · subst hne; exact hR.symm
        · obtain ⟨q, hq, hr⟩ := h3 hne
          rw [List.drop_eq_nil_of_le (by omega)] at hr
          exact hr.symm
      · exact hR.symm
    rw [hR0]
    focus (have kxs : 987654321 = 987654320 + 1 := rfl; (repeat' (first | (refine ADr.nil ?_; try clear hgv) | refine GO ?_ | refine AW.ret ?_ | (refine GC ?_ ?_ <;> intro h <;> (try simp only [hsB] at h) <;> try (exfalso; first | omega | contradiction)) | (refine GD ?_ ?_ <;> intro h <;> (try intro hgv) <;> (try simp only [Bool.not_true, Bool.not_false] at h) <;> (try simp only [h]) <;> (try simp only [hsB] at h) <;> try (exfalso; first | omega | contradiction)) | (refine GL ?_ ?_ <;> intro h <;> (try simp only [Bool.not_true, Bool.not_false] at h) <;> (try simp only [h]) <;> (try simp only [hsB] at h) <;> try (exfalso; first | omega | contradiction)) | fail)); all_goals clear kxs)
    all_goals first | ((all_goals first | exact RetQ.fr 0 | exact RetQ.fn 0 | fail); done) | (exfalso; simp_all; done)
end Go.AW
