/-
  numbers of eight bytes that are written; rings that are written.
-/
import Derived.Test.YtidkhiomlljfiaaRng2
import Derived.Test.YtidkhiomlljfiaaMe
namespace Go.AW
open Go Go.Proofs
set_option maxHeartbeats 2000000
set_option maxRecDepth 10000
set_option linter.unusedSimpArgs false
set_option linter.unusedVariables false
attribute [local irreducible] thenQ blockQ RetQ AL AW AC AOp

theorem byte_at (t k : Nat) : IntKind.wrap .u8 ((t : Int).fdiv (2 ^ k)) = ((UInt8.ofNat (t / 2 ^ k)).toNat : Int) := by
  have h : (t : Int).fdiv (2 ^ k) = ((t / 2 ^ k : Nat) : Int) := by
    rw [Int.fdiv_eq_ediv_of_nonneg _ (by exact Int.pow_nonneg (by decide))]
    push_cast; rfl
  rw [h, IntKind.wrap_u8, UInt8.toNat_ofNat']
  omega
theorem enc8_at (t : Nat) {j : Nat} (hj : j < 8) : ∃ b r, (enc8 t).drop j = b :: r ∧ IntKind.wrap .u8 ((t : Int).fdiv (2 ^ (min (56 - 8 * (j : Int)).toNat 64))) = (b.toNat : Int) := by
  have key : ∀ k, (min (56 - 8 * (j : Int)).toNat 64) = k → ∀ n, 2 ^ k = n → IntKind.wrap .u8 ((t : Int).fdiv (2 ^ (min (56 - 8 * (j : Int)).toNat 64))) = ((UInt8.ofNat (t / n)).toNat : Int) := fun k hk n hn => by
    rw [hk, byte_at, hn]
  have hc : j = 0 ∨ j = 1 ∨ j = 2 ∨ j = 3 ∨ j = 4 ∨ j = 5 ∨ j = 6 ∨ j = 7 := by omega
  rcases hc with rfl | rfl | rfl | rfl | rfl | rfl | rfl | rfl
  · exact ⟨_, _, rfl, key 56 rfl _ rfl⟩
  · exact ⟨_, _, rfl, key 48 rfl _ rfl⟩
  · exact ⟨_, _, rfl, key 40 rfl _ rfl⟩
  · exact ⟨_, _, rfl, key 32 rfl _ rfl⟩
  · exact ⟨_, _, rfl, key 24 rfl _ rfl⟩
  · exact ⟨_, _, rfl, key 16 rfl _ rfl⟩
  · exact ⟨_, _, rfl, key 8 rfl _ rfl⟩
  · refine ⟨UInt8.ofNat t, [], rfl, ?_⟩
    have := key 0 rfl 1 rfl
    rw [Nat.div_one] at this
    exact this
def wipD (l : List UInt8) (j : Nat) : List V := (bsD (l.take j ++ List.replicate (8 - j) 0)).map V.d
theorem wip_len {l : List UInt8} {j : Nat} (hl : l.length = 8) (hj : j ≤ 8) : (wipD l j).length = 8 := by
  unfold wipD bsD
  simp only [List.length_map, List.length_append, List.length_take, List.length_replicate]
  omega
theorem wip_set {l r : List UInt8} {b : UInt8} {j : Nat} (hl : l.length = 8) (hj : j < 8) (hd : l.drop j = b :: r) : (wipD l j).set j (V.d (D.s (.int .u8 b.toNat))) = wipD l (j + 1) := by
  unfold wipD bsD
  rw [next_take hd, show 8 - j = (8 - (j + 1)) + 1 by omega, List.replicate_succ]
  simp only [List.map_append, List.map_cons, List.map_nil]
  rw [List.set_append_right _ _ (by simp only [List.length_map, List.length_take]; omega)]
  simp only [List.length_map, List.length_take, hl]
  rw [show j - min j 8 = 0 by omega]
  simp
theorem wip_full {l : List UInt8} (hl : l.length = 8) : toDs (List.take 8 (wipD l 8)) = some (bsD l) := by
  have h : wipD l 8 = (bsD l).map V.d := by
    unfold wipD
    rw [List.take_of_length_le (by omega)]
    simp
  have h2 : ∀ m : List D, toDs (m.map V.d) = some m := fun m => by
    induction m with
    | nil => rfl
    | cons x m ih =>
      show (toDs (m.map V.d)).map (x :: ·) = _
      rw [ih]; rfl
  rw [h, List.take_of_length_le (by simp [bsD, hl]), h2]

theorem fixed_Put (b : List UInt8) (m : Int) (l : List Nat) (hf : ∀ t ∈ l, t < 18446744073709551616) (hn : l.length ≤ 140737488355328) (hm : ((b.length + 8 * l.length : Nat) : Int) ≤ m) (hm2 : m ≤ 140737488355328) :
    AC Try.prog 81 [.p 0 0, iv .i64 8, .d (.l l.length (toksD l))] (Pe.obs ⟨b, m, 0⟩) fun x σ => x = .t [] ∧ σ = Pe.obs ⟨b ++ (l.map enc8).flatten, m, 0⟩ := by
  refine AC.walk Try.func81 rfl (by decide) (of_decide_eq_true rfl) ?_
  focus (have kxs : 987654321 = 987654320 + 1 := rfl; have kk1 := uN [] (fixed_right); (repeat' (first | refine G ?_ | refine AW.ret ?_ | (refine GC ?_ ?_ <;> intro h <;> (try simp only [hsB] at h) <;> try (exfalso; first | omega | contradiction)) | (refine GL ?_ ?_ <;> intro h <;> (try simp only [Bool.not_true, Bool.not_false] at h) <;> (try simp only [h]) <;> (try simp only [hsB] at h) <;> try (exfalso; first | omega | contradiction)) | fail)); all_goals clear kxs kk1)
  all_goals first | (exfalso; simp_all; done) | skip
  refine AW.rounds [0, 1, 15, 16, 17] (fun i : Nat => [(0, .p 0 0), (1, iv .i64 8), (15, .d (.l l.length (toksD l))), (16, iv .i64 l.length), (17, iv .i64 i)]) (fun i => Pe.obs ⟨b ++ ((l.take i).map enc8).flatten, m, 0⟩)
    (fun i => i ≤ l.length) (fun i => l.length - i) 0 (Nat.zero_le _) rfl (by simp) (fun _ _ => Nat.le_of_ble_eq_true rfl) (fun _ _ => rfl) (fun _ _ => rfl) ?_
  intro i hi J hJ
  by_cases hil : i < l.length
  case neg =>
    have hi2 : i = l.length := by omega
    rw [hi2, List.take_length]
    focus (have kxs : 987654321 = 987654320 + 1 := rfl; (repeat' (first | refine G ?_ | refine AW.ret ?_ | (refine GC ?_ ?_ <;> intro h <;> (try simp only [hsB] at h) <;> try (exfalso; first | omega | contradiction)) | (refine GL ?_ ?_ <;> intro h <;> (try simp only [Bool.not_true, Bool.not_false] at h) <;> (try simp only [h]) <;> (try simp only [hsB] at h) <;> try (exfalso; first | omega | contradiction)) | fail)); all_goals clear kxs)
    all_goals first | ((all_goals first | exact RetQ.fr 2 | exact RetQ.fn 2 | fail); done) | (exfalso; simp_all; done)
  obtain ⟨t, r, hd⟩ := next_at hil
  have hcd := toks_drop hd
  have ht := hf t (next_mem hd)
  have hq : b ++ ((l.take (i + 1)).map enc8).flatten = (b ++ ((l.take i).map enc8).flatten) ++ enc8 t := by
    rw [next_take hd, List.map_append, List.flatten_append, List.append_assoc]; simp
  have hql : (b ++ ((l.take i).map enc8).flatten).length = b.length + i * 8 := by
    rw [List.length_append, enc8_flat, List.length_take, Nat.min_eq_left (by omega)]
  have go : ∀ T' σ', keepT T' [0, 1, 15, 16, 17] = [(0, .p 0 0), (1, iv .i64 8), (15, .d (.l l.length (toksD l))), (16, iv .i64 l.length), (17, iv .i64 ((i : Int) + 1))] → σ'.take 2 = Pe.obs ⟨(b ++ ((l.take i).map enc8).flatten) ++ enc8 t, m, 0⟩ → J T' σ' := fun T' σ' g1 g2 =>
    hJ (i + 1) T' σ' (by omega) hil g1 (by rw [hq]; exact g2)
  clear hJ hq
  generalize b ++ ((l.take i).map enc8).flatten = p at *
  focus (have kxs := And.intro hcd @Nat.mul_one; (repeat' (first | refine G ?_ | refine AW.ret ?_ | (refine GC ?_ ?_ <;> intro h <;> (try simp only [hsB] at h) <;> try (exfalso; first | omega | contradiction)) | (refine GL ?_ ?_ <;> intro h <;> (try simp only [Bool.not_true, Bool.not_false] at h) <;> (try simp only [h]) <;> (try simp only [hsB] at h) <;> try (exfalso; first | omega | contradiction)) | fail)); all_goals clear kxs)
  all_goals first | (exfalso; omega) | (exfalso; simp_all; done) | skip
  refine AW.rounds [0, 1, 7, 8, 15, 16, 17, 32] (fun j : Nat => [(0, .p 0 0), (1, iv .i64 8), (7, iv .u64 (t : Nat)), (8, .p 2 0), (15, .d (.l l.length (toksD l))), (16, iv .i64 l.length), (17, iv .i64 i), (32, iv .i64 j)])
    (fun j => Pe.obs ⟨p, m, 0⟩ ++ [.box 132 (wipD (enc8 t) j)]) (fun j => j ≤ 8) (fun j => 8 - j) 0 (Nat.zero_le _) rfl rfl (fun _ _ => Nat.le_of_ble_eq_true rfl) (fun _ _ => by simp [obsLt, Ob.lt, Pe.obs, lts, V.lt, wipD, lts_map]) (fun _ _ => rfl) ?_
  intro j hj J2 hJ2
  by_cases hjl : j < 8
  · obtain ⟨c, r2, hd2, hby⟩ := enc8_at t hjl
    have hst := wip_set (l := enc8 t) rfl hjl hd2
    have hwl := wip_len (l := enc8 t) (j := j) rfl (by omega)
    have go2 : ∀ T' σ', keepT T' [0, 1, 7, 8, 15, 16, 17, 32] = [(0, .p 0 0), (1, iv .i64 8), (7, iv .u64 (t : Nat)), (8, .p 2 0), (15, .d (.l l.length (toksD l))), (16, iv .i64 l.length), (17, iv .i64 i), (32, iv .i64 ((j : Int) + 1))] → σ'.take 3 = Pe.obs ⟨p, m, 0⟩ ++ [.box 132 ((wipD (enc8 t) j).set j (V.d (D.s (.int .u8 c.toNat))))] → J2 T' σ' := fun T' σ' g1 g2 =>
      hJ2 (j + 1) T' σ' (by omega) hjl g1 (by rw [← hst]; exact g2)
    clear hJ2 hst go
    generalize wipD (enc8 t) j = w at *
    focus (have kxs := And.intro hby (And.intro hwl @Nat.mul_one); (repeat' (first | refine G ?_ | refine AW.ret ?_ | (refine GC ?_ ?_ <;> intro h <;> (try simp only [hsB] at h) <;> try (exfalso; first | omega | contradiction)) | (refine GL ?_ ?_ <;> intro h <;> (try simp only [Bool.not_true, Bool.not_false] at h) <;> (try simp only [h]) <;> (try simp only [hsB] at h) <;> try (exfalso; first | omega | contradiction)) | fail)); all_goals clear kxs)
    all_goals first | exact go2 _ _ rfl rfl | (exfalso; omega) | (exfalso; simp_all; done)
  · have hj2 : j = 8 := by omega
    subst hj2
    have hfu := wip_full (l := enc8 t) rfl
    have hpo : Pe.Ok ⟨p, m, 0⟩ := ⟨by show (0 : Int) ≤ m; omega, by show m ≤ _; omega, by show p.length ≤ _; omega⟩
    have htx := pen_Text1 p (enc8 t) m 0 hpo (.inl hm2)
    have hte : Pe.text ⟨p, m, 0⟩ (enc8 t) = ⟨p ++ enc8 t, m, 0⟩ := by
      unfold Pe.text
      rw [if_neg (by simp), if_neg (by simp only [hql]; show ¬ ((8 : Nat) : Int) > _; omega)]
    rw [hte] at htx
    clear hJ2
    generalize hw : wipD (enc8 t) 8 = w at *
    generalize hen : enc8 t = q8 at *
    have h8 : q8.length = 8 := by rw [← hen]; rfl
    focus (have kxs := hfu; (repeat' (first | refine G ?_ | refine AW.ret ?_ | (refine GC ?_ ?_ <;> intro h <;> (try simp only [hsB] at h) <;> try (exfalso; first | omega | contradiction)) | (refine GL ?_ ?_ <;> intro h <;> (try simp only [Bool.not_true, Bool.not_false] at h) <;> (try simp only [h]) <;> (try simp only [hsB] at h) <;> try (exfalso; first | omega | contradiction)) | fail)); all_goals clear kxs)
    all_goals first | (exfalso; omega) | (exfalso; simp_all; done) | skip
    refine AL.one (by decide) fun Kr hr => ?_
    (try simp only [ao, List.map_cons, List.map_nil]); simp (disch := omega) only [go_sem, hfu]
    refine ⟨_, bsD_nums _, by simp [h8], ?_⟩
    simp only [strOfNums_bs]
    refine hr _ _ ?_
    clear hr Kr
    focus (have kxs : 987654321 = 987654320 + 1 := rfl; have kk1 := uN [0, 1] (htx); (repeat' (first | refine G ?_ | refine AW.ret ?_ | (refine GC ?_ ?_ <;> intro h <;> (try simp only [hsB] at h) <;> try (exfalso; first | omega | contradiction)) | (refine GL ?_ ?_ <;> intro h <;> (try simp only [Bool.not_true, Bool.not_false] at h) <;> (try simp only [h]) <;> (try simp only [hsB] at h) <;> try (exfalso; first | omega | contradiction)) | fail)); all_goals clear kxs kk1)
    all_goals first | exact go _ _ rfl rfl | (exfalso; omega) | (exfalso; simp_all; done)

theorem enc8_low (t : Nat) {i : Nat} (hi : i < 8) : [UInt8.ofNat (t / 256 ^ i % 256)] ++ (enc8 t).drop (8 - i) = (enc8 t).drop (8 - (i + 1)) := by
  have hm : ∀ n : Nat, UInt8.ofNat (n % 256) = UInt8.ofNat n := fun n => by
    rw [← UInt8.toNat_inj, UInt8.toNat_ofNat', UInt8.toNat_ofNat']
    omega
  rw [hm]
  have hc : i = 0 ∨ i = 1 ∨ i = 2 ∨ i = 3 ∨ i = 4 ∨ i = 5 ∨ i = 6 ∨ i = 7 := by omega
  rcases hc with rfl | rfl | rfl | rfl | rfl | rfl | rfl | rfl
  · rw [Nat.pow_zero, Nat.div_one]; rfl
  all_goals rfl
theorem ref04_bytes (t : Nat) (ht : t < 18446744073709551616) : AC Try.prog 90 [iv .i64 8, iv .u64 (t : Nat)] [] fun x σ => x = .t [sv (bs (enc8 t)), iv .u64 0] ∧ σ = [] := by
  refine AC.walk Try.func90 rfl (by decide) (of_decide_eq_true rfl) ?_
  focus (have kxs : 987654321 = 987654320 + 1 := rfl; (repeat' (first | refine G ?_ | refine AW.ret ?_ | (refine GC ?_ ?_ <;> intro h <;> (try simp only [hsB] at h) <;> try (exfalso; first | omega | contradiction)) | (refine GL ?_ ?_ <;> intro h <;> (try simp only [Bool.not_true, Bool.not_false] at h) <;> (try simp only [h]) <;> (try simp only [hsB] at h) <;> try (exfalso; first | omega | contradiction)) | fail)); all_goals clear kxs)
  refine AW.rounds [0, 1, 4, 5, 6, 7] (fun i : Nat => [(0, iv .i64 8), (1, iv .u64 ((t / 256 ^ i : Nat) : Int)), (4, sv (bs [])), (5, iv .u64 0), (6, sv (bs ((enc8 t).drop (8 - i)))), (7, iv .i64 i)]) (fun _ => [])
    (fun i => i ≤ 8) (fun i => 8 - i) 0 (Nat.zero_le _) (by rw [Nat.pow_zero, Nat.div_one]; rfl) rfl (fun _ _ => Nat.zero_le _) (fun _ _ => rfl) (fun _ _ => rfl) ?_
  intro i hi J hJ
  by_cases hil : i < 8
  · have hlow := enc8_low t hil
    have hsl : ((enc8 t).drop (8 - i)).length ≤ 8 := by rw [List.length_drop]; exact Nat.sub_le _ _
    have hdd : t / 256 ^ (i + 1) = t / 256 ^ i / 256 := by rw [Nat.pow_succ, Nat.div_div_eq_div_mul]
    have hnl : t / 256 ^ i < 18446744073709551616 := Nat.lt_of_le_of_lt (Nat.div_le_self _ _) ht
    have go : ∀ T' σ', keepT T' [0, 1, 4, 5, 6, 7] = [(0, iv .i64 8), (1, iv .u64 ((t / 256 ^ i / 256 : Nat) : Int)), (4, sv (bs [])), (5, iv .u64 0), (6, sv (bs ([UInt8.ofNat (t / 256 ^ i % 256)] ++ (enc8 t).drop (8 - i)))), (7, iv .i64 ((i : Int) + 1))] → J T' σ' := fun T' σ' g1 =>
      hJ (i + 1) T' σ' (by omega) hil (by rw [hdd, ← hlow]; exact g1) rfl
    clear hJ hdd hlow
    generalize (enc8 t).drop (8 - i) = s at *
    generalize t / 256 ^ i = n at *
    have hrem : IntKind.wrap .u8 ((n : Int).tmod 256) = ((n % 256 : Nat) : Int) := by
      rw [show (n : Int).tmod 256 = ((n % 256 : Nat) : Int) from rfl]
      exact wrap_u8 (by omega) (by omega)
    have hquo : IntKind.wrap .u64 ((n : Int).tdiv 256) = ((n / 256 : Nat) : Int) := by
      rw [show (n : Int).tdiv 256 = ((n / 256 : Nat) : Int) from rfl]
      exact wrap_u64 (by omega) (by omega)
    focus (have kxs := And.intro hrem hquo; (repeat' (first | refine G ?_ | refine AW.ret ?_ | (refine GC ?_ ?_ <;> intro h <;> (try simp only [hsB] at h) <;> try (exfalso; first | omega | contradiction)) | (refine GL ?_ ?_ <;> intro h <;> (try simp only [Bool.not_true, Bool.not_false] at h) <;> (try simp only [h]) <;> (try simp only [hsB] at h) <;> try (exfalso; first | omega | contradiction)) | fail)); all_goals clear kxs)
    all_goals first | (exfalso; omega) | (exfalso; simp_all; done) | skip
    refine AL.one (by decide) fun Kr hr => ?_
    (try simp only [ao, List.map_cons, List.map_nil]); simp (disch := omega) only [go_sem]
    refine ⟨[((n % 256 : Nat) : Int)], rfl, rfl, ?_⟩
    simp only [strOfNums_one, Int.toNat_natCast]
    refine hr _ _ ?_
    clear hr Kr
    focus (have kxs := And.intro hrem hquo; (repeat' (first | refine G ?_ | refine AW.ret ?_ | (refine GC ?_ ?_ <;> intro h <;> (try simp only [hsB] at h) <;> try (exfalso; first | omega | contradiction)) | (refine GL ?_ ?_ <;> intro h <;> (try simp only [Bool.not_true, Bool.not_false] at h) <;> (try simp only [h]) <;> (try simp only [hsB] at h) <;> try (exfalso; first | omega | contradiction)) | fail)); all_goals clear kxs)
    all_goals first | exact go _ _ rfl | (exfalso; omega) | (exfalso; simp_all; done)
  · have hi2 : i = 8 := by omega
    subst hi2
    have h0 : t / 256 ^ 8 = 0 := Nat.div_eq_of_lt (by omega)
    rw [h0]
    focus (have kxs : 987654321 = 987654320 + 1 := rfl; (repeat' (first | refine G ?_ | refine AW.ret ?_ | (refine GC ?_ ?_ <;> intro h <;> (try simp only [hsB] at h) <;> try (exfalso; first | omega | contradiction)) | (refine GL ?_ ?_ <;> intro h <;> (try simp only [Bool.not_true, Bool.not_false] at h) <;> (try simp only [h]) <;> (try simp only [hsB] at h) <;> try (exfalso; first | omega | contradiction)) | fail)); all_goals clear kxs)
    all_goals first | ((all_goals first | exact RetQ.fr 0 | exact RetQ.fn 0 | fail); done) | (exfalso; simp_all; done)
theorem ref04_Put (b : List UInt8) (m : Int) (t : Nat) (ht : t < 18446744073709551616) (hm : ((b.length + 8 : Nat) : Int) ≤ m) (hm2 : m ≤ 140737488355328) :
    AC Try.prog 65 [.p 0 0, iv .i64 8, iv .u64 (t : Nat)] [Pe.ro ⟨b, m, 0⟩] fun x σ => x = .t [] ∧ σ = [Pe.ro ⟨b ++ enc8 t, m, 0⟩] := by
  refine AC.walk Try.func65 rfl (by decide) (of_decide_eq_true rfl) ?_
  have hpo : Pe.Ok ⟨b, m, 0⟩ := ⟨by show (0 : Int) ≤ m; omega, by show m ≤ _; omega, by show b.length ≤ _; omega⟩
  have htx := ref02_Text b (enc8 t) m 0 hpo (.inl hm2) (by show 8 ≤ _; decide)
  have hte : Pe.text ⟨b, m, 0⟩ (enc8 t) = ⟨b ++ enc8 t, m, 0⟩ := by
    unfold Pe.text
    rw [if_neg (by simp), if_neg (by show ¬ ((8 : Nat) : Int) > m - (b.length : Int); omega)]
  rw [hte] at htx
  have hby := ref04_bytes t ht
  generalize enc8 t = s at *
  focus (have kxs : 987654321 = 987654320 + 1 := rfl; have kk1 := uN [] (ref04_Width); have kk2 := uN [] (hby); have kk3 := uN [0] (htx); (repeat' (first | refine G ?_ | refine AW.ret ?_ | (refine GC ?_ ?_ <;> intro h <;> (try simp only [hsB] at h) <;> try (exfalso; first | omega | contradiction)) | (refine GL ?_ ?_ <;> intro h <;> (try simp only [Bool.not_true, Bool.not_false] at h) <;> (try simp only [h]) <;> (try simp only [hsB] at h) <;> try (exfalso; first | omega | contradiction)) | fail)); all_goals clear kxs kk1 kk2 kk3)
  all_goals first | ((all_goals first | exact RetQ.fr 1 | exact RetQ.fn 1 | fail); done) | (exfalso; simp_all; done)
end Go.AW
