/-
  Row 16: ObjectSorts.
-/
import Derived.Test.YtbjdiepceokmkaaLaw16
import Derived.Test.YtbjdiepceokmkaaSrt2
import Derived.Test.YtbjdiepceokmkaaSrt3
import Derived.Test.YtbjdiepceokmkaaAwFrz
import Derived.Test.YtbjdiepceokmkaaPLaw18
namespace Go.AW
open Go Go.Proofs Go.RowKit
set_option maxHeartbeats 2000000
set_option maxRecDepth 10000
set_option linter.unusedSimpArgs false
set_option linter.unusedVariables false
attribute [local irreducible] thenQ blockQ RetQ AL AW AC AOp

theorem Oj.great_parts {o : Oj} (h : o.great = false) : o.key.length ≤ 200 ∧ o.sibs.length ≤ 20 ∧ ∀ x ∈ o.sibs, x.great = false := by
  unfold Oj.great at h
  simp only [Bool.or_eq_false_iff, decide_eq_false_iff_not, List.any_eq_false, Bool.not_eq_true] at h
  exact ⟨by omega, by omega, h.2⟩
theorem Oj.great_len {o : Oj} (h : o.great = false) (hf : o.fits) : (eobj o).length ≤ 400000 := by
  obtain ⟨h1, h2, h3⟩ := Oj.great_parts h
  have hb := flat_bound esib 16900 o.sibs fun x hx => Sb.great_len (h3 x hx) (hf.2.2 x hx).1.1.2.2 (hf.2.2 x hx).1.2.2
  have : o.sibs.length * 16900 ≤ 20 * 16900 := Nat.mul_le_mul h2 (by decide)
  have e1 := vput_len10 (n := o.key.length) (by omega)
  have e2 := vput_len10 (n := o.sibs.length) (by omega)
  unfold eobj eblob
  simp only [List.length_append]
  omega
theorem osort_fits {key : List UInt8} {l : List Sb} (hk : key.length ≤ 9223372036854775807) (hl : l.length ≤ 9223372036854775807) (h : ∀ x ∈ l, x.fits) : (osort key l).1.fits :=
  ⟨Nat.le_trans (osort_key _ _) hk, Nat.le_trans (osort_len _ _) hl, fun x hx => h x (osort_mem hx)⟩
theorem osort_right {key : List UInt8} {l : List Sb} (h : (osort key l).2 = 0) : (osort key l).1.check = 0 := by
  obtain ⟨_, _, h3, h4⟩ := osort_zero h
  rw [h3]; exact h4
theorem sbsD_ones : ∀ l : List Sb, onesD (sbsD l) = true
  | [] => rfl
  | x :: l => by
    have ih := sbsD_ones l
    unfold sbsD at ih ⊢
    rw [List.map_cons, List.flatten_cons]
    exact ih

/-- .. of an own row: it stays, and what is told is apart from it. -/
theorem object_SortO (key : List UInt8) (l : List Sb) (hk : key.length ≤ 9223372036854775807) (hl : l.length ≤ 9223372036854775807) (hf : ∀ x ∈ l, x.fits) :
    AC Try.prog 33 [sv (bs key), .o 0 l.length] [.row 44 7 l.length (sbsD l)] fun x σ => x = .t [ojV (osort key l).1, iv .i64 (osort key l).2] ∧ σ = [.row 44 7 l.length (sbsD l)] := by
  refine AC.walk Try.func33 rfl (by decide) (of_decide_eq_true rfl) ?_
  by_cases hout : outside key l.length = 0
  case neg =>
    rw [osort_out hout]
    focus (have kxs : 987654321 = 987654320 + 1 := rfl; have kk1 := uN [] (object_outside key l.length hk hl); (repeat' (first | (refine ADr.nil ?_; try clear hgv) | refine GO ?_ | refine AW.ret ?_ | (refine GC ?_ ?_ <;> intro h <;> (try simp only [hsB] at h) <;> try (exfalso; first | omega | contradiction)) | (refine GD ?_ ?_ <;> intro h <;> (try intro hgv) <;> (try simp only [Bool.not_true, Bool.not_false] at h) <;> (try simp only [h]) <;> (try simp only [hsB] at h) <;> try (exfalso; first | omega | contradiction)) | (refine GL ?_ ?_ <;> intro h <;> (try simp only [Bool.not_true, Bool.not_false] at h) <;> (try simp only [h]) <;> (try simp only [hsB] at h) <;> try (exfalso; first | omega | contradiction)) | fail)); all_goals clear kxs kk1)
    all_goals first | (((all_goals first | refine RetQ.r 1 rfl (Nat.le_of_ble_eq_true rfl) rfl (by first | rfl | (simp only [go_sem, ↓reduceIte, Nat.reduceLT, Nat.lt_irrefl])) ⟨?_, ?_⟩ | refine RetQ.n 1 rfl (Nat.le_of_ble_eq_true rfl) rfl (by first | rfl | (simp only [go_sem, ↓reduceIte, Nat.reduceLT, Nat.lt_irrefl])) ⟨?_, ?_⟩); (all_goals first | rfl | (simp [oj0, *]; done) | ((simp only [go_sem, ↓reduceIte, Nat.reduceLT, oj0]; (repeat' split)) <;> first | rfl | (exfalso; omega) | (simp_all; done) | (simp_all; omega)))); done) | (exfalso; simp_all; done)
  obtain ⟨k1, k2, k3, k4⟩ := outside_zero.1 hout
  focus (have kxs := hout; have kk1 := uN [] (object_outside key l.length hk hl); (repeat' (first | (refine ADr.nil ?_; try clear hgv) | refine GO ?_ | refine AW.ret ?_ | (refine GC ?_ ?_ <;> intro h <;> (try simp only [hsB] at h) <;> try (exfalso; first | omega | contradiction)) | (refine GD ?_ ?_ <;> intro h <;> (try intro hgv) <;> (try simp only [Bool.not_true, Bool.not_false] at h) <;> (try simp only [h]) <;> (try simp only [hsB] at h) <;> try (exfalso; first | omega | contradiction)) | (refine GL ?_ ?_ <;> intro h <;> (try simp only [Bool.not_true, Bool.not_false] at h) <;> (try simp only [h]) <;> (try simp only [hsB] at h) <;> try (exfalso; first | omega | contradiction)) | fail)); all_goals clear kxs kk1)
  all_goals first | (exfalso; simp_all; done) | skip
  refine AW.birth 44 7 [] [(2, 1)] ?_
  refine AW.rounds [4, 5, 7, 22, 23, 24] (fun i : Nat => [(4, .p 1 0), (5, iv .i64 0), (7, .p 2 0), (22, .o 0 l.length), (23, iv .i64 l.length), (24, iv .i64 i)])
    (fun i => [.row 44 7 l.length (sbsD l), .box 58 [sv (bs []), .d (.s (.slice none 0 0))], .box 58 [sv (bs key), .o 3 i], .row 44 7 i (sbsD (l.take i))])
    (fun i => i ≤ l.length ∧ schecks (l.take i) = 0) (fun i => l.length - i) 0 ⟨Nat.zero_le _, rfl⟩ rfl rfl (fun _ _ => by show 1 ≤ 4; decide) (fun _ _ => rfl) (fun _ _ => rfl) ?_
  rintro i ⟨hi, hs⟩ J hJ
  by_cases hil : i < l.length
  · obtain ⟨x, r, hd⟩ := next_at hil
    have hcd := sbs_drop hd
    have hfx := hf x (next_mem hd)
    by_cases hxc : x.check = 0
    case neg =>
      have hsc := schecks_at hd hs hxc
      rw [osort_check hout (by rw [hsc]; exact hxc), hsc]
      focus (have kxs := hcd; have kk1 := uN [] (sibling_Check x hfx); (repeat' (first | (refine ADr.nil ?_; try clear hgv) | refine GO ?_ | refine AW.ret ?_ | (refine GC ?_ ?_ <;> intro h <;> (try simp only [hsB] at h) <;> try (exfalso; first | omega | contradiction)) | (refine GD ?_ ?_ <;> intro h <;> (try intro hgv) <;> (try simp only [Bool.not_true, Bool.not_false] at h) <;> (try simp only [h]) <;> (try simp only [hsB] at h) <;> try (exfalso; first | omega | contradiction)) | (refine GL ?_ ?_ <;> intro h <;> (try simp only [Bool.not_true, Bool.not_false] at h) <;> (try simp only [h]) <;> (try simp only [hsB] at h) <;> try (exfalso; first | omega | contradiction)) | fail)); all_goals clear kxs kk1)
      all_goals first | (((all_goals first | refine RetQ.r 1 rfl (Nat.le_of_ble_eq_true rfl) rfl (by first | rfl | (simp only [go_sem, ↓reduceIte, Nat.reduceLT, Nat.lt_irrefl])) ⟨?_, ?_⟩ | refine RetQ.n 1 rfl (Nat.le_of_ble_eq_true rfl) rfl (by first | rfl | (simp only [go_sem, ↓reduceIte, Nat.reduceLT, Nat.lt_irrefl])) ⟨?_, ?_⟩); (all_goals first | rfl | (simp [oj0, *]; done) | ((simp only [go_sem, ↓reduceIte, Nat.reduceLT, oj0]; (repeat' split)) <;> first | rfl | (exfalso; omega) | (simp_all; done) | (simp_all; omega)))); done) | (exfalso; simp_all; done)
    have hst := schecks_step hd hs hxc
    obtain ⟨hm1, hm2⟩ := Sb.small hxc
    have hsn := sbs_snoc (l.take i) x
    rw [← next_take hd] at hsn
    have hon : onesD [D.l x.clk.ctx.length (vecD x.clk.ctx), .s (.bool x.clk.dotted), .s (.string ⟨x.clk.dot.1.toArray⟩), .s (.int .u64 x.clk.dot.2), .l x.meta_.length (prsD x.meta_), .s (.bool x.dead), .s (.string ⟨x.val.toArray⟩)] = true := rfl
    focus (have kxs := And.intro hcd (And.intro hxc hon); have kk1 := uN [] (sibling_Check x hfx); have kk2 := uN [] (sibling_Copy x (by omega) (by omega)); (repeat' (first | (refine ADr.nil ?_; try clear hgv) | refine GW ?_ | refine AW.ret ?_ | (refine GC ?_ ?_ <;> intro h <;> (try simp only [hsB] at h) <;> try (exfalso; first | omega | contradiction)) | (refine GD ?_ ?_ <;> intro h <;> (try intro hgv) <;> (try simp only [Bool.not_true, Bool.not_false] at h) <;> (try simp only [h]) <;> (try simp only [hsB] at h) <;> try (exfalso; first | omega | contradiction)) | (refine GL ?_ ?_ <;> intro h <;> (try simp only [Bool.not_true, Bool.not_false] at h) <;> (try simp only [h]) <;> (try simp only [hsB] at h) <;> try (exfalso; first | omega | contradiction)) | fail)); all_goals clear kxs kk1 kk2)
    all_goals first | (refine hJ (i + 1) _ _ (by omega) ⟨hil, hst⟩ rfl ?_; rw [← hsn]; rfl) | (exfalso; simp_all; done)
  · have hi2 : i = l.length := by omega
    rw [hi2, List.take_length] at hs ⊢
    have hz := schecks_zero.1 hs
    have hlen := isort_len slt l
    have hfit : Oj.fits ⟨key, isort slt l⟩ := ⟨hk, by simp only [hlen]; omega, fun x hx => hf x ((mem_isort slt).1 hx)⟩
    have hsort := sort_Sb l k3 80 (fun x hx y hy => object_less x y (hf x hx) (hf y hy) (hz x hx) (hz y hy))
    have hchk := object_Check ⟨key, isort slt l⟩ hfit
    simp only [ojV, hlen] at hchk
    by_cases h4 : Oj.check ⟨key, isort slt l⟩ = 0
    · rw [osort_whole hout hs, if_neg (by simpa using h4)]
      focus (have kxs := h4; have kk1 := uN [3] (hsort); have kk2 := uL (hchk); (repeat' (first | (refine ADr.nil ?_; try clear hgv) | refine GO ?_ | refine AW.ret ?_ | (refine GC ?_ ?_ <;> intro h <;> (try simp only [hsB] at h) <;> try (exfalso; first | omega | contradiction)) | (refine GD ?_ ?_ <;> intro h <;> (try intro hgv) <;> (try simp only [Bool.not_true, Bool.not_false] at h) <;> (try simp only [h]) <;> (try simp only [hsB] at h) <;> try (exfalso; first | omega | contradiction)) | (refine GL ?_ ?_ <;> intro h <;> (try simp only [Bool.not_true, Bool.not_false] at h) <;> (try simp only [h]) <;> (try simp only [hsB] at h) <;> try (exfalso; first | omega | contradiction)) | fail)); all_goals clear kxs kk1 kk2)
      all_goals first | (((all_goals first | refine RetQ.r 1 (xs := [.a [sv (bs key), .o 3 l.length], iv .i64 0]) rfl (Nat.le_of_ble_eq_true rfl) rfl (by first | rfl | (simp only [go_sem, ↓reduceIte, Nat.reduceLT, Nat.lt_irrefl])) ⟨?_, ?_⟩ | refine RetQ.n 1 (xs := [.a [sv (bs key), .o 3 l.length], iv .i64 0]) rfl (Nat.le_of_ble_eq_true rfl) rfl (by first | rfl | (simp only [go_sem, ↓reduceIte, Nat.reduceLT, Nat.lt_irrefl])) ⟨?_, ?_⟩); (all_goals first | rfl | (simp [*]; done) | ((simp only [go_sem, ↓reduceIte, Nat.reduceLT]; (repeat' split)) <;> first | rfl | (exfalso; omega) | (simp_all; done) | (simp_all; omega)))); done) | (exfalso; simp_all; done)
    · rw [osort_whole hout hs, if_pos h4]
      focus (have kxs : 987654321 = 987654320 + 1 := rfl; have kk1 := uN [3] (hsort); have kk2 := uL (hchk); (repeat' (first | (refine ADr.nil ?_; try clear hgv) | refine GO ?_ | refine AW.ret ?_ | (refine GC ?_ ?_ <;> intro h <;> (try simp only [hsB] at h) <;> try (exfalso; first | omega | contradiction)) | (refine GD ?_ ?_ <;> intro h <;> (try intro hgv) <;> (try simp only [Bool.not_true, Bool.not_false] at h) <;> (try simp only [h]) <;> (try simp only [hsB] at h) <;> try (exfalso; first | omega | contradiction)) | (refine GL ?_ ?_ <;> intro h <;> (try simp only [Bool.not_true, Bool.not_false] at h) <;> (try simp only [h]) <;> (try simp only [hsB] at h) <;> try (exfalso; first | omega | contradiction)) | fail)); all_goals clear kxs kk1 kk2)
      all_goals first | (((all_goals first | refine RetQ.r 1 rfl (Nat.le_of_ble_eq_true rfl) rfl (by first | rfl | (simp only [go_sem, ↓reduceIte, Nat.reduceLT, Nat.lt_irrefl])) ⟨?_, ?_⟩ | refine RetQ.n 1 rfl (Nat.le_of_ble_eq_true rfl) rfl (by first | rfl | (simp only [go_sem, ↓reduceIte, Nat.reduceLT, Nat.lt_irrefl])) ⟨?_, ?_⟩); (all_goals first | rfl | (simp [oj0, *]; done) | ((simp only [go_sem, ↓reduceIte, Nat.reduceLT, oj0]; (repeat' split)) <;> first | rfl | (exfalso; omega) | (simp_all; done) | (simp_all; omega)))); done) | (exfalso; simp_all; done)
theorem objectSorts (key : List UInt8) (hk : key.length ≤ 9223372036854775807) (l : List Sb) (hll : l.length ≤ 9223372036854775807) (hl : ∀ v ∈ l, v.fits) (n : Int) (hn : 0 ≤ n ∧ n ≤ 255) (m : Int) (hm : m ≤ 9223372036854775807) :
    AC Try.prog 6 [sv (bs key), .d (.l l.length (sbsD l)), iv .u8 n, iv .i64 m] [] fun x σ => x = bv true ∧ σ = [] := by
  refine AC.walk Try.func6 rfl (by decide) (of_decide_eq_true rfl) ?_
  have hof : Oj.fits ⟨key, l⟩ := ⟨hk, hll, hl⟩
  have hgr := ref16_Great ⟨key, l⟩ hof
  by_cases hgo : Oj.great ⟨key, l⟩ = true
  · rw [hgo] at hgr
    focus (have kxs : 987654321 = 987654320 + 1 := rfl; have kk1 := uN [] (awake16); have kk2 := uN [] (hgr); (repeat' (first | (refine ADr.nil ?_; try clear hgv) | refine GO ?_ | refine AW.ret ?_ | (refine GC ?_ ?_ <;> intro h <;> (try simp only [hsB] at h) <;> try (exfalso; first | omega | contradiction)) | (refine GD ?_ ?_ <;> intro h <;> (try intro hgv) <;> (try simp only [Bool.not_true, Bool.not_false] at h) <;> (try simp only [h]) <;> (try simp only [hsB] at h) <;> try (exfalso; first | omega | contradiction)) | (refine GL ?_ ?_ <;> intro h <;> (try simp only [Bool.not_true, Bool.not_false] at h) <;> (try simp only [h]) <;> (try simp only [hsB] at h) <;> try (exfalso; first | omega | contradiction)) | fail)); all_goals clear kxs kk1 kk2)
    all_goals first | ((all_goals first | exact RetQ.fr 0 | exact RetQ.fn 0 | fail); done) | (exfalso; simp_all; done)
  have hgo : Oj.great ⟨key, l⟩ = false := by simpa using hgo
  rw [hgo] at hgr
  have hel := Oj.great_len hgo hof
  have hl20 := (Oj.great_parts hgo).2.1
  simp only at hl20
  generalize hM : (if m < 0 then 0 else m) = M
  have hM1 : 0 ≤ M ∧ M ≤ 9223372036854775807 := by rw [← hM]; split <;> omega
  have hp0 : Pe.Ok ⟨[], M, 0⟩ := ⟨hM1.1, hM1.2, Nat.zero_le _⟩
  have hpn := pen_New m hm
  have hrn := @ref02_New m
  rw [hM] at hpn hrn
  have hqok := pens_obj.keep (x := (⟨key, l⟩ : Oj)) hp0 (.inr (by simp only [List.length_nil]; omega))
  have hput := object_Put [] M 0 hp0 ⟨key, l⟩ hof (.inr (by simp only [List.length_nil]; omega))
  have hrput := ref16_Put [] M 0 hp0 ⟨key, l⟩ hof (.inr (by simp only [List.length_nil]; omega))
  generalize hq : Pe.obj ⟨[], M, 0⟩ ⟨key, l⟩ = q at *
  have hend := @pen_End q.b q.m q.e hqok
  have hrend := @ref02_End q.b q.m q.e
  have hpl := @pen_Len q.b q.m q.e
  have hso := object_SortO key l hk hll hl
  have hsr := ref16_Sort key l hk hll hl
  have hturn : (osort key l).2 = 0 → ∀ k, osort key (l.drop k ++ l.take k) = ((osort key l).1, 0) := fun h k => by
    have h3 := (osort_zero h).2.2.1
    rw [osort_perm (turn_perm l k) h, h3]
  have hout : (osort key l).2 = 0 → l.length ≠ 0 := fun h => (outside_zero.1 (osort_zero h).1).2.2.2
  have haf := osort_fits hk hll hl
  have hright := @osort_right key l
  have hl7 : (sbsD l).length = l.length * 7 := flat_len (f := sbD) (sz := 7) (fun _ => rfl) l
  have ho0 : onesD (sbsD l) = true := sbsD_ones l
  generalize osort key l = z at *
  obtain ⟨a, e⟩ := z
  simp only at hturn hout haf hright hso hsr
  have hsm := ref16_Same a a haf.2.1 (fun x hx => ⟨(haf.2.2 x hx).1.1.1, (haf.2.2 x hx).2.1.1⟩)
  focus (have kxs := And.intro hl7 ho0; have kk1 := uN [] (awake16); have kk2 := uN [] (hgr); have kk3 := uN [] (hpn); have kk4 := uN [] (hrn); have kk5 := uN [1, 2] (hput); have kk6 := uN [3] (hrput); have kk7 := uN [1, 2] (hend); have kk8 := uN [3] (hrend); have kk9 := uN [1, 2] (hpl); have kk10 := uN [4] (hso); have kk11 := uN [] (hsr); have kk12 := uN [] (hsm); (repeat' (first | (refine ADr.nil ?_; try clear hgv) | refine GW ?_ | refine AW.ret ?_ | (refine GC ?_ ?_ <;> intro h <;> (try simp only [hsB] at h) <;> try (exfalso; first | omega | contradiction)) | (refine GD ?_ ?_ <;> intro h <;> (try intro hgv) <;> (try simp only [Bool.not_true, Bool.not_false] at h) <;> (try simp only [h]) <;> (try simp only [hsB] at h) <;> try (exfalso; first | omega | contradiction)) | (refine GL ?_ ?_ <;> intro h <;> (try simp only [Bool.not_true, Bool.not_false] at h) <;> (try simp only [h]) <;> (try simp only [hsB] at h) <;> try (exfalso; first | omega | contradiction)) | fail)); all_goals clear kxs kk1 kk2 kk3 kk4 kk5 kk6 kk7 kk8 kk9 kk10 kk11 kk12)
  all_goals first | (exfalso; simp_all; done) | skip
  have hxa : decide (a = a) = true := by simp
  rw [hxa] at hsm
  have hck := ref16_Check a haf
  refine AW.rounds [0, 1, 2, 8, 15, 16, 17, 19] (fun i : Nat => [(0, sv (bs key)), (1, .d (.l l.length (sbsD l))), (2, iv .u8 n), (8, bv false), (15, iv .i64 e), (16, .o 4 l.length), (17, .p 5 0), (19, iv .i64 i)])
    (fun i => [.box 58 [sv (bs key), .d (.l l.length (sbsD l))], .box 114 [.o 2 q.b.length, iv .i64 q.m, iv .i64 q.e], .row 5 1 q.b.length (bsD q.b), Pe.ro q, .row 44 7 l.length (sbsD l), .box 58 [sv (bs a.key), .d (.l a.sibs.length (sbsD a.sibs))]])
    (fun i => i ≤ l.length) (fun i => l.length - i) 0 (Nat.zero_le _) rfl rfl (fun _ _ => Nat.zero_le _) (fun _ _ => rfl) (fun _ _ => rfl) ?_
  intro i hi J hJ
  clear hput hrput hend hrend hpl hso hsr hpn hrn hgr
  by_cases hil : i < l.length
  · obtain ⟨x, r, hd⟩ := next_at hil
    have hcd := sbs_drop hd
    have hfx := hl x (next_mem hd)
    have hsx := ref15_Same x x hfx.1.1.1 hfx.2.1.1
    have hxx : decide (x = x) = true := by simp
    rw [hxx] at hsx
    focus (have kxs := hcd; have kk1 := uN [] (hsx); (repeat' (first | (refine ADr.nil ?_; try clear hgv) | refine GO ?_ | refine AW.ret ?_ | (refine GC ?_ ?_ <;> intro h <;> (try simp only [hsB] at h) <;> try (exfalso; first | omega | contradiction)) | (refine GD ?_ ?_ <;> intro h <;> (try intro hgv) <;> (try simp only [Bool.not_true, Bool.not_false] at h) <;> (try simp only [h]) <;> (try simp only [hsB] at h) <;> try (exfalso; first | omega | contradiction)) | (refine GL ?_ ?_ <;> intro h <;> (try simp only [Bool.not_true, Bool.not_false] at h) <;> (try simp only [h]) <;> (try simp only [hsB] at h) <;> try (exfalso; first | omega | contradiction)) | fail)); all_goals clear kxs kk1)
    all_goals first | (refine hJ (i + 1) _ _ (by omega) hil rfl rfl) | (exfalso; simp_all; done)
  · by_cases he : e = 0
    case neg =>
      focus (have kxs : 987654321 = 987654320 + 1 := rfl; (repeat' (first | (refine ADr.nil ?_; try clear hgv) | refine GO ?_ | refine AW.ret ?_ | (refine GC ?_ ?_ <;> intro h <;> (try simp only [hsB] at h) <;> try (exfalso; first | omega | contradiction)) | (refine GD ?_ ?_ <;> intro h <;> (try intro hgv) <;> (try simp only [Bool.not_true, Bool.not_false] at h) <;> (try simp only [h]) <;> (try simp only [hsB] at h) <;> try (exfalso; first | omega | contradiction)) | (refine GL ?_ ?_ <;> intro h <;> (try simp only [Bool.not_true, Bool.not_false] at h) <;> (try simp only [h]) <;> (try simp only [hsB] at h) <;> try (exfalso; first | omega | contradiction)) | fail)); all_goals clear kxs)
      all_goals first | ((all_goals first | exact RetQ.fr 0 | exact RetQ.fn 0 | fail); done) | (exfalso; simp_all; done)
    have hl0 := hout he
    obtain ⟨k, hk2, hkl⟩ : ∃ k : Nat, n.tmod (l.length : Nat) = k ∧ k < l.length := by
      refine ⟨(n.tmod (l.length : Nat)).toNat, ?_, ?_⟩
      · have := Int.tmod_nonneg (l.length : Int) hn.1
        omega
      · have h1 := Int.tmod_nonneg (l.length : Int) hn.1
        have h2 := Int.tmod_lt_of_pos n (b := (l.length : Int)) (by omega)
        omega
    have hd1 : (sbsD l).drop (k * 7) = sbsD (l.drop k) := by rw [sbsD, flat_drop (f := sbD) (sz := 7) (fun _ => rfl)]
    have hd2 : (sbsD l).take (k * 7) = sbsD (l.take k) := by rw [sbsD, flat_take7 (f := sbD) (sz := 7) (fun _ => rfl)]
    have ho1 : onesD (sbsD (l.drop k)) = true := sbsD_ones _
    have ho2 : onesD (sbsD (l.take k)) = true := sbsD_ones _
    have hl1 : (sbsD (l.drop k)).length = (l.length - k) * 7 := by rw [sbsD, flat_len (f := sbD) (sz := 7) (fun _ => rfl), List.length_drop]
    have hl2 : (sbsD (l.take k)).length = k * 7 := by rw [sbsD, flat_len (f := sbD) (sz := 7) (fun _ => rfl), List.length_take]; omega
    have hcl : sbsD (l.drop k ++ l.take k) = sbsD (l.drop k) ++ sbsD (l.take k) := by
      unfold sbsD; rw [List.map_append, List.flatten_append]
    have hln : (l.drop k ++ l.take k).length = l.length - k + k := by rw [turn_length]; omega
    have hso2 := object_SortO key (l.drop k ++ l.take k) hk (by rw [turn_length]; exact hll) (fun x hx => hl x ((turn_perm l k).mem_iff.1 hx))
    rw [hturn he k, hcl, hln] at hso2
    have hac := hright he
    clear hcl hln hturn hout hright hel hof hqok
    focus (have kxs := And.intro he (And.intro hk2 (And.intro hd1 (And.intro hd2 (And.intro ho1 (And.intro ho2 hac))))); have kk1 := uN [6] (hso2); have kk2 := uN [] (hsm); have kk3 := uN [] (hck); (repeat' (first | (refine ADr.nil ?_; try clear hgv) | refine GW ?_ | refine AW.ret ?_ | (refine GC ?_ ?_ <;> intro h <;> (try simp only [hsB] at h) <;> try (exfalso; first | omega | contradiction)) | (refine GD ?_ ?_ <;> intro h <;> (try intro hgv) <;> (try simp only [Bool.not_true, Bool.not_false] at h) <;> (try simp only [h]) <;> (try simp only [hsB] at h) <;> try (exfalso; first | omega | contradiction)) | (refine GL ?_ ?_ <;> intro h <;> (try simp only [Bool.not_true, Bool.not_false] at h) <;> (try simp only [h]) <;> (try simp only [hsB] at h) <;> try (exfalso; first | omega | contradiction)) | fail)); all_goals clear kxs kk1 kk2 kk3)
    all_goals first | ((all_goals first | exact RetQ.fr 0 | exact RetQ.fn 0 | fail); done) | (exfalso; simp_all; done)
end Go.AW
