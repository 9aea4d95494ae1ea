/-
  Row 23: the laws about payloads.
-/
import Derived.Test.YtbedecfkincemaaGreatZ09
import Derived.Test.YtbedecfkincemaaGreatZ05
import Derived.Test.YtbedecfkincemaaGreatZ01
import Derived.Test.YtbedecfkincemaaGreatZ06
import Derived.Test.YtbedecfkincemaaGreatChecked
import Derived.Test.YtbedecfkincemaaGreatRows
import Derived.JoinedOf
import Derived.Below
import Derived.ProofKit
namespace Go.AW
open Go Go.Proofs
set_option maxHeartbeats 4000000
set_option maxRecDepth 10000
set_option linter.unusedSimpArgs false
set_option linter.unusedVariables false
attribute [local irreducible] thenQ blockQ RetQ AL AW AC AOp

theorem msg_Has (v k : Nat) (hv : v < 256) (hk : k < 256) : AC Tryz.prog 31 [iv .u8 (v : Nat), iv .u8 (k : Nat)] [] fun y σ => y = bv (has v k) ∧ σ = [] := by
  cases hh : has v k with
  | false => exact has_none v k hv hk hh
  | true =>
    rcases has_cases hh with ⟨rfl, rfl | rfl | rfl⟩ | ⟨rfl, rfl | rfl | rfl | rfl | rfl | rfl | rfl | rfl | rfl⟩
    · exact has_11
    · exact has_12
    · exact has_18
    · exact has_21
    · exact has_22
    · exact has_23
    · exact has_24
    · exact has_25
    · exact has_26
    · exact has_27
    · exact has_28
    · exact has_29

theorem od0_fits : od0.fits := ⟨by decide, by decide, fun x hx => (List.not_mem_nil hx).elim⟩
theorem vec0_fits : Vec.fits [] := ⟨by decide, fun x hx => (List.not_mem_nil hx).elim, fun x hx => (List.not_mem_nil hx).elim⟩
theorem prs0_fits : Prs.fits [] := ⟨by decide, fun x hx => (List.not_mem_nil hx).elim, fun x hx => (List.not_mem_nil hx).elim⟩
theorem pg0_fits : pg0.fits := ⟨by decide, ⟨by decide, fun x hx => (List.not_mem_nil hx).elim⟩, by decide, fun x hx => (List.not_mem_nil hx).elim⟩
theorem mg0_fits : mg0.fits := ⟨by decide, by decide, by decide, oj0_fits, od0_fits, vec0_fits, prs0_fits, by decide, by decide, pg0_fits, Ring.fits_nil, ⟨by decide, by decide⟩, by decide⟩
def mgk : Mg := { mg0 with kind := 1, id := 5, key := [107] }
theorem mgk_fits : mgk.fits := ⟨by decide, by decide, by decide, oj0_fits, od0_fits, vec0_fits, prs0_fits, by decide, by decide, pg0_fits, Ring.fits_nil, ⟨by decide, by decide⟩, by decide⟩
theorem mgk_e : msge 2 mgk = ([5, 1, 107], 0) := by
  have h1 : vput 5 = [5] := by rw [vput_small (by decide)]; rfl
  have h2 : vput 1 = [1] := by rw [vput_small (by decide)]; rfl
  have he : encm 2 mgk = [5, 1, 107] := by
    show vput 5 ++ (vput 1 ++ [107]) = _
    rw [h1, h2]; rfl
  have h := msge_fit (v := 2) (m := mgk) rfl rfl ⟨mg0_lens.1, mg0_lens.2⟩ (by rw [he]; decide)
  rw [h, he]
theorem awake23 : AC Tryz.prog 15 [] [] fun x σ => x = bv true ∧ σ = [] := by
  have hen := encode_21 mgk mgk_fits rfl
  rw [mgk_e] at hen
  refine AC.walk Tryz.func15 rfl (by decide) (of_decide_eq_true rfl) ?_
  focus (have kxs : 987654321 = 987654320 + 1 := rfl; have kk1 := uN [] (hen); (repeat' (first | refine G ?_ | refine AW.ret ?_ | (refine GC ?_ ?_ <;> intro h <;> (try simp only [hsB] at h) <;> try (exfalso; first | omega | contradiction)) | (refine GL ?_ ?_ <;> intro h <;> (try simp only [Bool.not_true, Bool.not_false] at h) <;> (try simp only [h]) <;> (try simp only [hsB] at h) <;> try (exfalso; first | omega | contradiction)) | fail)); all_goals clear kxs kk1)
  all_goals first | ((all_goals first | exact RetQ.fr 0 | exact RetQ.fn 0 | fail); done) | (exfalso; simp_all; done)

end Go.AW
/-
  Row 23: the law about kinds.
-/
namespace Go.AW
open Go Go.Proofs
set_option maxHeartbeats 4000000
set_option maxRecDepth 10000
set_option linter.unusedSimpArgs false
set_option linter.unusedVariables false
attribute [local irreducible] thenQ blockQ RetQ AL AW AC AOp

def kindsL (v : Nat) : List UInt8 := if v = 1 then [1, 2, 8] else if v = 2 then [1, 2, 3, 4, 5, 6, 7, 8, 9] else []
def kp (v k : Nat) : List UInt8 := (kindsL v).filter fun x => decide (x.toNat < k)
theorem kp_other {v : Nat} (h1 : v ≠ 1) (h2 : v ≠ 2) (k : Nat) : kp v k = [] ∧ has v k = false := by
  unfold kp kindsL has
  rw [if_neg h1, if_neg h2, if_neg h1]
  simp [h2]
theorem kp1 : ∀ k : Fin 256, kp 1 (k.val + 1) = kp 1 k.val ++ (if has 1 k.val = true then [UInt8.ofNat k.val] else []) := by decide +kernel
theorem kp2 : ∀ k : Fin 256, kp 2 (k.val + 1) = kp 2 k.val ++ (if has 2 k.val = true then [UInt8.ofNat k.val] else []) := by decide +kernel
theorem kd1 : ∀ k : Fin 256, has 1 k.val = true → (kindsL 1).drop (kp 1 k.val).length = UInt8.ofNat k.val :: (kindsL 1).drop ((kp 1 k.val).length + 1) := by decide +kernel
theorem kd2 : ∀ k : Fin 256, has 2 k.val = true → (kindsL 2).drop (kp 2 k.val).length = UInt8.ofNat k.val :: (kindsL 2).drop ((kp 2 k.val).length + 1) := by decide +kernel
theorem kp_step (v k : Nat) (hk : k < 256) : kp v (k + 1) = kp v k ++ (if has v k = true then [UInt8.ofNat k] else []) := by
  by_cases h1 : v = 1
  · subst h1; exact kp1 ⟨k, hk⟩
  by_cases h2 : v = 2
  · subst h2; exact kp2 ⟨k, hk⟩
  rw [(kp_other h1 h2 (k + 1)).1, (kp_other h1 h2 k).1, (kp_other h1 h2 k).2]; rfl
theorem kd_step (v k : Nat) (hk : k < 256) (h : has v k = true) : (kindsL v).drop (kp v k).length = UInt8.ofNat k :: (kindsL v).drop ((kp v k).length + 1) := by
  by_cases h1 : v = 1
  · subst h1; exact kd1 ⟨k, hk⟩ h
  by_cases h2 : v = 2
  · subst h2; exact kd2 ⟨k, hk⟩ h
  rw [(kp_other h1 h2 k).2] at h; cases h
theorem kp_all (v : Nat) : kp v 256 = kindsL v := by
  by_cases h1 : v = 1
  · subst h1; decide
  by_cases h2 : v = 2
  · subst h2; decide
  unfold kp kindsL
  rw [if_neg h1, if_neg h2]; rfl
theorem kp_zero (v : Nat) : kp v 0 = [] := by
  unfold kp; simp
theorem kp_le (v k : Nat) : (kp v k).length ≤ 9 := by
  have h : (kp v k).length ≤ (kindsL v).length := List.length_filter_le _ _
  have h2 : (kindsL v).length ≤ 9 := by
    unfold kindsL
    split
    · decide
    split <;> decide
  omega
theorem wrap8 {k : Nat} (h : k < 256) : IntKind.wrap .u8 (k : Int) = (k : Int) := by rw [IntKind.wrap_u8]; omega
theorem msg_Kinds (v : Nat) (hv : v < 256) : AC Tryz.prog 29 [iv .u8 (v : Nat)] [] fun x σ => x = .d (.l (kindsL v).length (bsD (kindsL v))) ∧ σ = [] := by
  refine AC.walk Tryz.func29 rfl (by decide) (of_decide_eq_true rfl) ?_
  rw [← kp_all]
  focus (have kxs : 987654321 = 987654320 + 1 := rfl; (repeat' (first | refine G ?_ | refine AW.ret ?_ | (refine GC ?_ ?_ <;> intro h <;> (try simp only [hsB] at h) <;> try (exfalso; first | omega | contradiction)) | (refine GL ?_ ?_ <;> intro h <;> (try simp only [Bool.not_true, Bool.not_false] at h) <;> (try simp only [h]) <;> (try simp only [hsB] at h) <;> try (exfalso; first | omega | contradiction)) | fail)); all_goals clear kxs)
  refine AW.birth 5 1 [3] [] ?_
  refine AW.rounds [0, 2, 3, 5] (fun i : Nat => [(0, iv .u8 (v : Nat)), (2, .d (.s (.slice none 0 0))), (3, .o 0 (kp v i).length), (5, iv .i64 i)]) (fun i => [.row 5 1 (kp v i).length (bsD (kp v i))])
    (fun i => i ≤ 256) (fun i => 256 - i) 0 (Nat.zero_le _) (by rw [kp_zero]; rfl) (by rw [kp_zero]; rfl) (fun _ _ => Nat.zero_le _) (fun _ _ => rfl) (fun _ _ => rfl) ?_
  intro i hi J hJ
  by_cases hil : i < 256
  case neg =>
    have h2 : i = 256 := by omega
    subst h2
    generalize kp v 256 = q at *
    focus (have kxs : 987654321 = 987654320 + 1 := rfl; (repeat' (first | refine G ?_ | refine AW.ret ?_ | (refine GC ?_ ?_ <;> intro h <;> (try simp only [hsB] at h) <;> try (exfalso; first | omega | contradiction)) | (refine GL ?_ ?_ <;> intro h <;> (try simp only [Bool.not_true, Bool.not_false] at h) <;> (try simp only [h]) <;> (try simp only [hsB] at h) <;> try (exfalso; first | omega | contradiction)) | fail)); all_goals clear kxs)
    all_goals first | ((all_goals first | exact RetQ.fr 0 | exact RetQ.fn 0 | fail); done) | (exfalso; omega) | (exfalso; simp_all; done)
  have hh := msg_Has v i hv hil
  have hw := wrap8 hil
  have hst := kp_step v i hil
  have hle := kp_le v i
  cases hb : has v i with
  | false =>
    rw [hb] at hh hst
    have hst : kp v (i + 1) = kp v i := by rw [hst]; simp
    have go : ∀ T' σ', keepT T' [0, 2, 3, 5] = [(0, iv .u8 (v : Nat)), (2, .d (.s (.slice none 0 0))), (3, .o 0 (kp v i).length), (5, iv .i64 ((i : Int) + 1))] → σ'.take 1 = [.row 5 1 (kp v i).length (bsD (kp v i))] → J T' σ' := fun T' σ' g1 g2 =>
      hJ (i + 1) T' σ' (by omega) hil (by rw [hst]; exact g1) (by rw [hst]; exact g2)
    clear hJ hst
    generalize kp v i = q at *
    focus (have kxs := hw; have kk1 := uN [] (hh); (repeat' (first | refine G ?_ | refine AW.ret ?_ | (refine GC ?_ ?_ <;> intro h <;> (try simp only [hsB] at h) <;> try (exfalso; first | omega | contradiction)) | (refine GL ?_ ?_ <;> intro h <;> (try simp only [Bool.not_true, Bool.not_false] at h) <;> (try simp only [h]) <;> (try simp only [hsB] at h) <;> try (exfalso; first | omega | contradiction)) | fail)); all_goals clear kxs kk1)
    all_goals first | exact go _ _ rfl rfl | (exfalso; omega) | (exfalso; simp_all; done)
  | true =>
    rw [hb] at hh hst
    have hst : kp v (i + 1) = kp v i ++ [UInt8.ofNat i] := by rw [hst]; simp
    have hl : (kp v i ++ [UInt8.ofNat i]).length = (kp v i).length + 1 := by simp
    have hbs : bsD (kp v i ++ [UInt8.ofNat i]) = bsD (kp v i) ++ [D.s (.int .u8 (i : Nat))] := by
      unfold bsD
      rw [List.map_append]
      simp only [List.map_cons, List.map_nil, u8_ofNat hil]
    have go : ∀ T' σ', keepT T' [0, 2, 3, 5] = [(0, iv .u8 (v : Nat)), (2, .d (.s (.slice none 0 0))), (3, .o 0 ((kp v i).length + 1)), (5, iv .i64 ((i : Int) + 1))] → σ'.take 1 = [.row 5 1 ((kp v i).length + 1) (bsD (kp v i) ++ [D.s (.int .u8 (i : Nat))])] → J T' σ' := fun T' σ' g1 g2 =>
      hJ (i + 1) T' σ' (by omega) hil (by rw [hst, hl]; exact g1) (by rw [hst, hl, hbs]; exact g2)
    clear hJ hst hl hbs
    generalize kp v i = q at *
    focus (have kxs := hw; have kk1 := uN [] (hh); (repeat' (first | refine G ?_ | refine AW.ret ?_ | (refine GC ?_ ?_ <;> intro h <;> (try simp only [hsB] at h) <;> try (exfalso; first | omega | contradiction)) | (refine GL ?_ ?_ <;> intro h <;> (try simp only [Bool.not_true, Bool.not_false] at h) <;> (try simp only [h]) <;> (try simp only [hsB] at h) <;> try (exfalso; first | omega | contradiction)) | fail)); all_goals clear kxs kk1)
    all_goals first | exact go _ _ rfl rfl | (exfalso; omega) | (exfalso; simp_all; done)
theorem msg_Plain_none (v : Nat) (m : Mg) (hv : v < 256) (hk : m.kind < 256) (h : has v m.kind = false) : AC Tryz.prog 32 [iv .u8 (v : Nat), mgV m] [] fun x σ => x = mgV mg0 ∧ σ = [] := by
  refine AC.walk Tryz.func32 rfl (by decide) (of_decide_eq_true rfl) ?_
  have hp := parts_none v m.kind hv hk h
  focus (have kxs : 987654321 = 987654320 + 1 := rfl; have kk1 := uN [] (hp); (repeat' (first | refine G ?_ | refine AW.ret ?_ | (refine GC ?_ ?_ <;> intro h <;> (try simp only [hsB] at h) <;> try (exfalso; first | omega | contradiction)) | (refine GL ?_ ?_ <;> intro h <;> (try simp only [Bool.not_true, Bool.not_false] at h) <;> (try simp only [h]) <;> (try simp only [hsB] at h) <;> try (exfalso; first | omega | contradiction)) | fail)); all_goals clear kxs kk1)
  all_goals first | ((all_goals first | exact RetQ.fr 0 | exact RetQ.fn 0 | fail); done) | (exfalso; omega) | (exfalso; simp_all; done)

theorem msgKinds (v k : Nat) (hv : v < 256) (hk : k < 256) (s : List UInt8) (hs : s.length ≤ 9223372036854775807) : AC Tryz.prog 6 [iv .u8 (v : Nat), iv .u8 (k : Nat), sv (bs s)] [] fun x σ => x = bv true ∧ σ = [] := by
  refine AC.walk Tryz.func6 rfl (by decide) (of_decide_eq_true rfl) ?_
  by_cases h3 : s.length ≤ 5000
  case neg =>
    focus (have kxs : 987654321 = 987654320 + 1 := rfl; have kk1 := uN [] (awake23); (repeat' (first | refine G ?_ | refine AW.ret ?_ | (refine GC ?_ ?_ <;> intro h <;> (try simp only [hsB] at h) <;> try (exfalso; first | omega | contradiction)) | (refine GL ?_ ?_ <;> intro h <;> (try simp only [Bool.not_true, Bool.not_false] at h) <;> (try simp only [h]) <;> (try simp only [hsB] at h) <;> try (exfalso; first | omega | contradiction)) | fail)); all_goals clear kxs kk1)
    all_goals first | (exfalso; omega) | ((all_goals first | exact RetQ.fr 0 | exact RetQ.fn 0 | fail); done)
  have hkn := msg_Kinds v hv
  have hkl : (kindsL v).length ≤ 9 := by have := kp_le v 256; rw [kp_all] at this; exact this
  focus (have kxs : 987654321 = 987654320 + 1 := rfl; have kk1 := uN [] (awake23); have kk2 := uN [] (hkn); (repeat' (first | refine G ?_ | refine AW.ret ?_ | (refine GC ?_ ?_ <;> intro h <;> (try simp only [hsB] at h) <;> try (exfalso; first | omega | contradiction)) | (refine GL ?_ ?_ <;> intro h <;> (try simp only [Bool.not_true, Bool.not_false] at h) <;> (try simp only [h]) <;> (try simp only [hsB] at h) <;> try (exfalso; first | omega | contradiction)) | fail)); all_goals clear kxs kk1 kk2)
  all_goals first | (exfalso; omega) | (exfalso; simp_all; done) | skip
  refine AW.rounds [0, 1, 2, 6, 7, 8, 9] (fun i : Nat => [(0, iv .u8 (v : Nat)), (1, iv .u8 (k : Nat)), (2, sv (bs s)), (6, bv false), (7, .d (.l (kindsL v).length (bsD (kindsL v)))), (8, iv .i64 (kp v i).length), (9, iv .i64 i)]) (fun _ => [])
    (fun i => i ≤ 256) (fun i => 256 - i) 0 (Nat.zero_le _) (by rw [kp_zero]; rfl) rfl (fun _ _ => Nat.zero_le _) (fun _ _ => rfl) (fun _ _ => rfl) ?_
  intro i hi J hJ
  by_cases hil : i < 256
  case pos =>
    have hh := ref23_Has v i hv hil
    have hw := wrap8 hil
    have hst := kp_step v i hil
    have hds := kd_step v i hil
    have hle := kp_le v i
    cases hb : has v i with
    | false =>
      rw [hb] at hh hst
      have hst : kp v (i + 1) = kp v i := by rw [hst]; simp
      have go : ∀ T' σ', keepT T' [0, 1, 2, 6, 7, 8, 9] = [(0, iv .u8 (v : Nat)), (1, iv .u8 (k : Nat)), (2, sv (bs s)), (6, bv false), (7, .d (.l (kindsL v).length (bsD (kindsL v)))), (8, iv .i64 (kp v i).length), (9, iv .i64 ((i : Int) + 1))] → J T' σ' := fun T' σ' g1 =>
        hJ (i + 1) T' σ' (by omega) hil (by rw [hst]; exact g1) rfl
      clear hJ hst hds
      generalize kp v i = q at *
      focus (have kxs := hw; have kk1 := uN [] (hh); (repeat' (first | refine G ?_ | refine AW.ret ?_ | (refine GC ?_ ?_ <;> intro h <;> (try simp only [hsB] at h) <;> try (exfalso; first | omega | contradiction)) | (refine GL ?_ ?_ <;> intro h <;> (try simp only [Bool.not_true, Bool.not_false] at h) <;> (try simp only [h]) <;> (try simp only [hsB] at h) <;> try (exfalso; first | omega | contradiction)) | fail)); all_goals clear kxs kk1)
      all_goals first | exact go _ _ rfl | (exfalso; omega) | (exfalso; simp_all; done)
    | true =>
      rw [hb] at hh hst
      have hds := hds hb
      have hst : kp v (i + 1) = kp v i ++ [UInt8.ofNat i] := by rw [hst]; simp
      have hl : (kp v i ++ [UInt8.ofNat i]).length = (kp v i).length + 1 := by simp
      have hcd : (bsD (kindsL v)).drop ((kp v i).length * 1) = D.s (.int .u8 (i : Nat)) :: bsD ((kindsL v).drop ((kp v i).length + 1)) := by
        unfold bsD
        rw [Nat.mul_one, ← List.map_drop, hds, List.map_cons, u8_ofNat hil]
      have hlt : (kp v i).length < (kindsL v).length := by
        have := congrArg List.length hds
        simp only [List.length_drop, List.length_cons] at this
        omega
      have go : ∀ T' σ', keepT T' [0, 1, 2, 6, 7, 8, 9] = [(0, iv .u8 (v : Nat)), (1, iv .u8 (k : Nat)), (2, sv (bs s)), (6, bv false), (7, .d (.l (kindsL v).length (bsD (kindsL v)))), (8, iv .i64 (((kp v i).length : Int) + 1)), (9, iv .i64 ((i : Int) + 1))] → J T' σ' := fun T' σ' g1 =>
        hJ (i + 1) T' σ' (by omega) hil (by rw [hst, hl]; exact g1) rfl
      clear hJ hst hl hds
      generalize kp v i = q at *
      have hq1 : q.length * 1 = q.length := Nat.mul_one _
      rw [hq1] at hcd
      focus (have kxs := And.intro hw (And.intro hcd hq1); have kk1 := uN [] (hh); (repeat' (first | refine G ?_ | refine AW.ret ?_ | (refine GC ?_ ?_ <;> intro h <;> (try simp only [hsB] at h) <;> try (exfalso; first | omega | contradiction)) | (refine GL ?_ ?_ <;> intro h <;> (try simp only [Bool.not_true, Bool.not_false] at h) <;> (try simp only [h]) <;> (try simp only [hsB] at h) <;> try (exfalso; first | omega | contradiction)) | fail)); all_goals clear kxs kk1)
      all_goals first | exact go _ _ rfl | (exfalso; omega) | (exfalso; simp_all; done)
  have hi2 : i = 256 := by omega
  subst hi2
  rw [kp_all]
  clear hJ
  have h1 := ref23_Has v k hv hk
  have h2 := msg_Has v k hv hk
  cases hb : has v k with
  | true =>
    rw [hb] at h1 h2
    focus (have kxs : 987654321 = 987654320 + 1 := rfl; have kk1 := uN [] (h1); have kk2 := uN [] (h2); (repeat' (first | refine G ?_ | refine AW.ret ?_ | (refine GC ?_ ?_ <;> intro h <;> (try simp only [hsB] at h) <;> try (exfalso; first | omega | contradiction)) | (refine GL ?_ ?_ <;> intro h <;> (try simp only [Bool.not_true, Bool.not_false] at h) <;> (try simp only [h]) <;> (try simp only [hsB] at h) <;> try (exfalso; first | omega | contradiction)) | fail)); all_goals clear kxs kk1 kk2)
    all_goals first | ((all_goals first | exact RetQ.fr 0 | exact RetQ.fn 0 | fail); done) | (exfalso; omega) | (exfalso; simp_all; done)
  | false =>
    rw [hb] at h1 h2
    have m1f : Mg.fits { mg0 with kind := k, key := [107] } := ⟨hk, by show 0 < _; decide, by show 1 ≤ _; decide, oj0_fits, od0_fits, vec0_fits, prs0_fits, Nat.zero_le _, Nat.zero_le _, pg0_fits, Ring.fits_nil, (show (-9223372036854775808 : Int) ≤ 0 ∧ (0 : Int) ≤ 9223372036854775807 by decide), Nat.zero_le _⟩
    have hen := encode_none v { mg0 with kind := k, key := [107] } hv hk hb
    have hde := decode_none v k s hv hk hb
    have hpl := msg_Plain_none v { mg0 with kind := k, id := 7 } hv hk hb
    have hsm := ref23_SameR mg0 mg0_fits
    have e1 : msge v { mg0 with kind := k, key := [107] } = ([], if v ≠ 1 ∧ v ≠ 2 then 10 else 11) := by
      have hc : Mg.check v { mg0 with kind := k, key := [107] } = if v ≠ 1 ∧ v ≠ 2 then 10 else 11 := by
        unfold Mg.check
        rw [show has v (Mg.kind { mg0 with kind := k, key := [107] }) = false from hb]
        rfl
      unfold msge
      rw [hc, if_pos (by split <;> decide)]
    have e2 : msgw v k s = (mg0, if v ≠ 1 ∧ v ≠ 2 then 10 else 11) := by
      unfold msgw
      by_cases h0 : v ≠ 1 ∧ v ≠ 2
      · rw [if_pos h0, if_pos h0]
      · rw [if_neg h0, if_pos hb, if_neg h0]
    rw [e1] at hen
    rw [e2] at hde
    by_cases h0 : v ≠ 1 ∧ v ≠ 2
    · rw [if_pos h0] at hen hde
      obtain ⟨h01, h02⟩ := h0
      focus (have kxs : 987654321 = 987654320 + 1 := rfl; have kk1 := uN [] (h1); have kk2 := uN [] (h2); have kk3 := uN [] (hen); have kk4 := uN [] (hde); have kk5 := uN [] (hpl); have kk6 := uN [] (hsm); (repeat' (first | refine G ?_ | refine AW.ret ?_ | (refine GC ?_ ?_ <;> intro h <;> (try simp only [hsB] at h) <;> try (exfalso; first | omega | contradiction)) | (refine GL ?_ ?_ <;> intro h <;> (try simp only [Bool.not_true, Bool.not_false] at h) <;> (try simp only [h]) <;> (try simp only [hsB] at h) <;> try (exfalso; first | omega | contradiction)) | fail)); all_goals clear kxs kk1 kk2 kk3 kk4 kk5 kk6)
      all_goals first | ((all_goals first | exact RetQ.fr 0 | exact RetQ.fn 0 | fail); done) | (exfalso; omega) | (exfalso; simp_all; done)
    · rw [if_neg h0] at hen hde
      focus (have kxs : 987654321 = 987654320 + 1 := rfl; have kk1 := uN [] (h1); have kk2 := uN [] (h2); have kk3 := uN [] (hen); have kk4 := uN [] (hde); have kk5 := uN [] (hpl); have kk6 := uN [] (hsm); (repeat' (first | refine G ?_ | refine AW.ret ?_ | (refine GC ?_ ?_ <;> intro h <;> (try simp only [hsB] at h) <;> try (exfalso; first | omega | contradiction)) | (refine GL ?_ ?_ <;> intro h <;> (try simp only [Bool.not_true, Bool.not_false] at h) <;> (try simp only [h]) <;> (try simp only [hsB] at h) <;> try (exfalso; first | omega | contradiction)) | fail)); all_goals clear kxs kk1 kk2 kk3 kk4 kk5 kk6)
      all_goals first | ((all_goals first | exact RetQ.fr 0 | exact RetQ.fn 0 | fail); done) | (exfalso; omega) | (exfalso; simp_all; done)
theorem msgKindsI (v k : Int) (hv : 0 ≤ v ∧ v ≤ 255) (hk : 0 ≤ k ∧ k ≤ 255) (s : List UInt8) (hs : s.length ≤ 9223372036854775807) : AC Tryz.prog 6 [iv .u8 v, iv .u8 k, sv (bs s)] [] fun x σ => x = bv true ∧ σ = [] := by
  obtain ⟨v, rfl⟩ := Int.eq_ofNat_of_zero_le hv.1
  obtain ⟨k, rfl⟩ := Int.eq_ofNat_of_zero_le hk.1
  exact msgKinds v k (by omega) (by omega) s hs
end Go.AW
/-
  Vectors and clocks: how the laws' arguments are read.
-/
namespace Go.AW
open Go Go.Proofs Go.RowKit

section
variable {H : Type} {enc : TypeId × Value → H} {w : World}
end

end Go.AW
/-
  Clocks: how the laws' arguments are read.
-/
namespace Go.AW
open Go Go.Proofs Go.RowKit

section
variable {H : Type} {enc : TypeId × Value → H} {w : World}
end

end Go.AW
/-
  Siblings: how the laws' arguments are read.
-/
namespace Go.AW
open Go Go.Proofs Go.RowKit

section
variable {H : Type} {enc : TypeId × Value → H} {w : World}
end

end Go.AW
/-
  Objects: how the laws' arguments are read.
-/
namespace Go.AW
open Go Go.Proofs Go.RowKit

section
variable {H : Type} {enc : TypeId × Value → H} {w : World}
end

end Go.AW
/-
  Old objects: how the laws' arguments are read.
-/
namespace Go.AW
open Go Go.Proofs Go.RowKit

section
variable {H : Type} {enc : TypeId × Value → H} {w : World}
end

end Go.AW
/-
  Rings: how the laws' arguments are read.
-/
namespace Go.AW
open Go Go.Proofs Go.RowKit

section
variable {H : Type} {enc : TypeId × Value → H} {w : World}
end
end Go.AW
/-
  Messages: how the laws' arguments are read.
-/
namespace Go.AW
open Go Go.Proofs Go.RowKit

section
variable {H : Type} {enc : TypeId × Value → H} {w : World}
end
end Go.AW
/-
  The seat's program: what every row asks of it, once.
-/
namespace Go.AW
open Go Go.Proofs
set_option linter.unusedSimpArgs false

def chs (l : List Nat) : List Char := l.map Char.ofNat
theorem words_app (r : List Char) : ∀ w : List Nat, (w.all fun c => !(Char.ofNat c == Char.ofNat 32)) = true → wordsSigns (chs w ++ Char.ofNat 32 :: r) = chs w :: wordsSigns r
  | [], _ => rfl
  | c :: w, h => by
    simp only [List.all_cons, Bool.and_eq_true] at h
    have ih := words_app r w h.2
    have hc : Char.ofNat c ≠ Char.ofNat 32 := by simpa using h.1
    show wordsSigns (Char.ofNat c :: (chs w ++ Char.ofNat 32 :: r)) = _
    conv => lhs; unfold wordsSigns
    split
    · rename_i heq; cases heq
    · rename_i heq
      obtain ⟨h1, h2⟩ := List.cons.inj heq
      exact absurd h1 hc
    · rename_i heq
      obtain ⟨h1, h2⟩ := List.cons.inj heq
      subst h1 h2
      rw [ih]
      rfl
def headWord : List Nat := [104, 97, 114, 110, 101, 115, 115]
def headSum : List Nat := [97, 101, 102, 54, 50, 97, 56, 50, 98, 98, 52, 50, 51, 100, 52, 57, 99, 54, 99, 100, 57, 97, 99, 51, 98, 54, 57, 102, 102, 102, 51, 53, 102, 101, 49, 52, 50, 53, 50, 57, 48, 99, 48, 102, 100, 48, 52, 100, 101, 54, 53, 57, 50, 99, 48, 48, 55, 52, 102, 57, 54, 57, 49, 99]
def headCut : List Nat := [99, 117, 116]
def headRest : List Nat := [97, 116, 32, 115, 112, 101, 110, 99, 101, 47, 115, 112, 101, 110, 99, 101, 108, 97, 119, 50, 51, 46, 77, 115, 103, 68, 101, 99, 111, 100, 101, 115, 32, 115, 112, 101, 110, 99, 101, 47, 115, 112, 101, 110, 99, 101, 108, 97, 119, 50, 51, 46, 77, 115, 103, 67, 117, 116, 115, 32, 115, 112, 101, 110, 99, 101, 47, 115, 112, 101, 110, 99, 101, 108, 97, 119, 50, 52, 46, 82, 112, 99, 83, 101, 97, 108, 115, 32, 115, 112, 101, 110, 99, 101, 47, 115, 112, 101, 110, 99, 101, 108, 97, 119, 50, 51, 46, 77, 115, 103, 75, 105, 110, 100, 115, 32, 115, 112, 101, 110, 99, 101, 47, 115, 112, 101, 110, 99, 101, 108, 97, 119, 50, 51, 46, 77, 115, 103, 80, 108, 97, 105, 110, 32, 115, 112, 101, 110, 99, 101, 47, 115, 112, 101, 110, 99, 101, 108, 97, 119, 50, 51, 46, 77, 115, 103, 69, 110, 99, 111, 100, 101, 115, 32, 115, 112, 101, 110, 99, 101, 47, 115, 112, 101, 110, 99, 101, 108, 97, 119, 51, 49, 46, 80, 97, 114, 116, 115, 67, 117, 116, 32, 115, 112, 101, 110, 99, 101, 47, 115, 112, 101, 110, 99, 101, 108, 97, 119, 51, 49, 46, 80, 97, 114, 116, 115, 84, 101, 108, 108, 32, 115, 112, 101, 110, 99, 101, 47, 115, 112, 101, 110, 99, 101, 108, 97, 119, 50, 52, 46, 82, 112, 99, 82, 101, 97, 100, 115, 32, 115, 112, 101, 110, 99, 101, 47, 115, 112, 101, 110, 99, 101, 108, 97, 119, 51, 49, 46, 80, 97, 114, 116, 115, 80, 97, 121, 108, 111, 97, 100, 32, 115, 112, 101, 110, 99, 101, 47, 115, 112, 101, 110, 99, 101, 108, 97, 119, 51, 49, 46, 80, 97, 114, 116, 115, 67, 111, 118, 101, 114, 32, 115, 112, 101, 110, 99, 101, 47, 115, 112, 101, 110, 99, 101, 108, 97, 119, 50, 52, 46, 82, 112, 99, 87, 114, 105, 116, 101, 115]
def hcs : List Char := chs headWord ++ Char.ofNat 32 :: (chs headSum ++ Char.ofNat 32 :: (chs headCut ++ Char.ofNat 32 :: chs headRest))
theorem head_o : Tryz.prog.initOrder = String.ofList hcs := by kernel_rfl
theorem head_w : behindMainWord (wordsSigns Tryz.prog.initOrder.toList) = "cut".toList :: wordsSigns (chs headRest) := by
  rw [head_o, String.toList_ofList, hcs, words_app _ _ (by decide +kernel), words_app _ _ (by decide +kernel), words_app _ _ (by decide +kernel)]
  have h1 : chs headWord = "harness".toList := by decide +kernel
  have h2 : isSumSigns (chs headSum) = true := by decide +kernel
  have h3 : chs headCut = "cut".toList := by decide +kernel
  rw [h1, h3]
  unfold behindMainWord
  simp only [h2, beq_self_eq_true, Bool.true_or, Bool.true_and, if_true]
theorem head_strip (ws : List (List Char)) : stripLifts liftWords ("cut".toList :: ws) = ([], "cut".toList :: ws) := by
  have : ∀ l : List String, (l.all fun o => !("cut".toList == o.toList)) = true → stripLifts l ("cut".toList :: ws) = ([], "cut".toList :: ws) := by
    intro l
    induction l with
    | nil => intro _; rfl
    | cons o l ih =>
      intro h
      simp only [List.all_cons, Bool.and_eq_true, Bool.not_eq_true'] at h
      unfold stripLifts
      rw [if_neg (by rw [h.1]; decide)]
      exact ih h.2
  exact this _ (by decide +kernel)
theorem head_lifts : Tryz.prog.headLifts = [] := by
  unfold Program.headLifts
  rw [head_w, head_strip]
  simp
theorem head_final : Tryz.prog.liftsFinal = false := by
  unfold Program.liftsFinal
  rw [head_w, head_lifts]
  have : ((some "cut".toList == some "carried".toList) = false) := by decide +kernel
  simp only [List.head?_cons, this, Bool.false_and, Bool.false_or]
  rfl
theorem make_of {P : Program} {r : List (List Char)} (h : behindMainWord (wordsSigns P.initOrder.toList) = "cut".toList :: r) : P.make = some .cut := by
  unfold Program.make
  rw [h]
  have h1 : (("cut".toList == "gc".toList || "cut".toList == "spec".toList) = false) := by decide +kernel
  simp only [h1, Bool.false_eq_true, if_false, beq_self_eq_true, Bool.true_or, if_true]
theorem enter_of {P : Program} {r : List (List Char)} (h : behindMainWord (wordsSigns P.initOrder.toList) = "cut".toList :: r) (hl : P.laysLater = false) (hr : P.bearsReflect = false) (hd : P.doorRows = []) : P.mayEnter = true := by
  unfold Program.mayEnter
  rw [h]
  have h1 : (("cut".toList == "gc".toList || "cut".toList == "spec".toList) = false) := by decide +kernel
  have h2 : (("cut".toList == "carried".toList) = false) := by decide +kernel
  have h3 : P.doorFits [] = true := by
    unfold Program.doorFits
    rw [hd]
    rfl
  simp only [h1, h2, head_strip, hl, hr, h3, List.head?_cons, beq_self_eq_true, Bool.not_false, Bool.or_true, Bool.and_true, Bool.false_and, Bool.or_false, Bool.true_and, Bool.false_or, List.contains_nil, Bool.or_self]
theorem head_make : Tryz.prog.make = some .cut := make_of head_w
theorem head_lays : Tryz.prog.laysLater = false := by
  unfold Program.laysLater
  rw [← Array.any_toList]
  kernel_rfl
theorem head_refl : Tryz.prog.bearsReflect = false := by kernel_rfl
theorem head_rows : Tryz.prog.doorRows = [] := by kernel_rfl
theorem head_enter : Tryz.prog.mayEnter = true := enter_of head_w head_lays head_refl head_rows
theorem head_laid : laidOutB Tryz.prog = true := by kernel_rfl
theorem head_maps : mapsRowed Tryz.prog = true := by kernel_rfl
theorem head_keys : Tryz.prog.plainKeys = true := by kernel_rfl
theorem head_stops : Tryz.prog.stops = [] := by kernel_rfl
theorem head_knobs : Tryz.prog.stopKnobs = [] := by kernel_rfl
theorem head_heard : Tryz.prog.stopsHeard = true := by kernel_rfl
theorem joined_of {P : Program} {f : FuncId} {fn : Func} {s : ChangeSpec} {c : OpenClaim} (h1 : laidOutB P = true) (h2 : mapsRowed P = true) (h3 : P.stops = []) (h4 : P.stopKnobs = []) (h5 : (c.inPlace == P.inPlace f) = true) (h6 : (c.unfollowed == P.unfollowed f) = true) (h7 : (c.recurses == P.recurses f) = true) (h8 : (c.named == P.varsNamed f) = true)
    (h9 : P.stopsHeard = true) (h10 : P.mayEnter = true) (h11 : P.liftsFinal = c.lifted) (h12 : P.make = some c.make) (h13 : P.plainKeys = c.plainKeys)
    (h : (c.wf (OpenSpec.ofChange s) &&
      fn.params.all (P.readableRec ·) &&
      namedTie P c.named s.vars &&
      (c.stops == []) &&
      (c.knobs == []) &&
      (c.maps == (fn.params.toList ++ s.plain.varTypes P).any (P.mapsRec ·)) &&
      (c.ifaces == (fn.params.toList ++ s.plain.varTypes P).any (P.ifacesRec ·)) &&
      (c.mapsOut == P.mapsAmong fn.resultTypes.toList) &&
      (c.loops == (fn.params.toList ++ s.plain.varTypes P).any (P.loopsFrom ·)) &&
      (c.wideKeys == (fn.params.toList ++ s.plain.varTypes P ++ fn.resultTypes.toList).any (P.wideKeysFrom ·)) &&
      s.vars.all (P.varReadable ·) &&
      fn.resultTypes.all (fun t => P.readableRec t && decide (t < P.types.size)) &&
      (c.ifacesOut == fn.resultTypes.toList.any (P.ifacesRec ·)) &&
      (c.loopsOut == fn.resultTypes.toList.any (P.loopsFrom ·)) &&
      c.shortTexts.isNone &&
      (c.kinds == (if c.domain.isEmpty then [] else fn.params.toList.map fun t => match P.underlying t with | some (.int k) => some k | _ => none)) &&
      (c.pinned == c.pinnedBy) &&
      (c.veiled == (fn.params.toList ++ s.plain.varTypes P ++ fn.resultTypes.toList).any (P.veiledRec ·)) &&
      c.veiledFits P fn.params.toList (fn.params.toList ++ s.plain.varTypes P ++ fn.resultTypes.toList)) = true) : joinedFacts P f fn s c = true := by
  unfold joinedFacts
  simp only [Bool.and_eq_true] at h ⊢
  obtain ⟨⟨⟨⟨⟨⟨⟨⟨⟨⟨⟨⟨⟨⟨⟨⟨⟨⟨a0, a1⟩, a2⟩, a3⟩, a4⟩, a5⟩, a6⟩, a7⟩, a8⟩, a9⟩, a10⟩, a11⟩, a12⟩, a13⟩, a14⟩, a15⟩, a16⟩, a17⟩, a18⟩ := h
  exact ⟨⟨⟨⟨⟨⟨⟨⟨⟨⟨⟨⟨⟨⟨⟨⟨⟨⟨⟨⟨⟨⟨⟨⟨⟨⟨⟨⟨⟨⟨⟨a0, h1⟩, h2⟩, a1⟩, a2⟩, a3⟩, (by rw [h3]; rfl)⟩, a4⟩, (by rw [h4]; rfl)⟩, h5⟩, h6⟩, h7⟩, h8⟩, a5⟩, a6⟩, a7⟩, a8⟩, a9⟩, a10⟩, a11⟩, a12⟩, a13⟩, (by rw [h13]; exact beq_self_eq_true _)⟩, a14⟩, h9⟩, h10⟩, (by rw [h11]; exact beq_self_eq_true _)⟩, (by rw [h12]; exact beq_self_eq_true _)⟩, a15⟩, a16⟩, a17⟩, a18⟩
end Go.AW
