/-
  members and rings that are read: the document's.
-/
import Derived.Test.YtidkhiomlljfiaaRng4
import Derived.Test.YtidkhiomlljfiaaRng5
namespace Go.AW
open Go Go.Proofs
set_option maxHeartbeats 4000000
set_option maxRecDepth 10000
set_option linter.unusedSimpArgs false
set_option linter.unusedVariables false
attribute [local irreducible] thenQ blockQ RetQ AL AW AC AOp

theorem ref22_one (c : Cu) (hok : c.Ok) (out : Ring) (hol : out.length ≤ 32) (p : List UInt8) (hpl : p.length ≤ 32) (hfp : out = [] → p = []) (hcd : 0 < out.length → (ringD out).drop ((out.length - 1) * 4) = D.s (.string ⟨p.toArray⟩) :: (ringD out).drop ((out.length - 1) * 4 + 1)) :
    AC Try.prog 47 [.p 0 0, .o 1 out.length] [Cu.ro c, .row 55 4 out.length (ringD out)] fun x σ => x = mbV (c.memg p).1 ∧ σ = [Cu.ro (c.memg p).2, .row 55 4 out.length (ringD out)] := by
  refine AC.walk Try.func47 rfl (by decide) (of_decide_eq_true rfl) ?_
  obtain ⟨t, c1, n, c2, b, c3, k, c4, hb, h1o, ways⟩ := mem_ways2 p c hok
  have hbt := ref06_Take c.s c.a c.e 32 hok (by decide)
  rw [hb] at hbt
  simp only at hbt
  have hi1 : ((out.length : Int) - 1).toNat = out.length - 1 := by omega
  have htl : c1.e = 0 → t.length ≤ 32 := fun h => by
    have := Cu.blob_lim c 32
    rw [show Cu.blob c 32 = (t, c1) from hb] at this
    exact this h
  have f1 : out = [] → lessB p t = false → t = [] := fun h1 h2 => by
    cases hx : t with
    | nil => rfl
    | cons y z =>
      have h9 : lessB [] (y :: z) = true := less_nil_cons y z
      rw [hfp h1, hx, h9] at h2; cases h2
  rcases ways with ⟨f, hf, hw, hm⟩ | ⟨z1, a1, a2, hv, h2o, hn2, ways⟩
  · rw [hm]
    have hfo : Cu.Ok ⟨c1.s, c1.a, f⟩ := h1o
    have hv := ref03_Take c1.s c1.a f hfo
    have hy := ref01_Byte c1.s c1.a f hfo
    have hc := ref06_Count c1.s c1.a f 16 hfo (by decide)
    rw [vtake_stuck (c := ⟨c1.s, c1.a, f⟩) hf] at hv
    rw [byte_stuck (c := ⟨c1.s, c1.a, f⟩) hf] at hy
    rw [count_stuck (c := ⟨c1.s, c1.a, f⟩) hf] at hc
    simp only at hv hy hc
    clear hm
    rcases hw with ⟨z1, rfl⟩ | ⟨z1, rfl, rfl⟩ | ⟨z1, a1, a2, rfl⟩
    · focus (have kxs : 987654321 = 987654320 + 1 := rfl; have kk1 := uN [0] (hbt); have kk2 := uN [0] (hv); have kk3 := uN [0] (hy); have kk4 := uN [0] (hc); (repeat' (first | (refine ADr.nil ?_; try clear hgv) | refine GW ?_ | refine AW.ret ?_ | (refine GC ?_ ?_ <;> intro h <;> (try simp only [hsB] at h) <;> try (exfalso; first | omega | contradiction)) | (refine GD ?_ ?_ <;> intro h <;> (try intro hgv) <;> (try simp only [Bool.not_true, Bool.not_false] at h) <;> (try simp only [h]) <;> (try simp only [hsB] at h) <;> try (exfalso; first | omega | contradiction)) | (refine GL ?_ ?_ <;> intro h <;> (try simp only [Bool.not_true, Bool.not_false] at h) <;> (try simp only [h]) <;> (try simp only [hsB] at h) <;> try (exfalso; first | omega | contradiction)) | fail)); all_goals clear kxs kk1 kk2 kk3 kk4)
      all_goals first | (exfalso; omega) | (exfalso; simp_all; done) | skip
      refine AW.birth 50 1 [] [(3, 3)] ?_
      refine AW.rounds [0, 4, 5, 6, 7] (fun _ : Unit => [(0, .p 0 0), (4, .p 2 0), (5, .p 3 0), (6, iv .i64 0), (7, iv .i64 0)])
        (fun _ => [Cu.ro ⟨c1.s, c1.a, c1.e⟩, .row 55 4 out.length (ringD out), .box 55 [sv (bs []), iv .u64 0, iv .u8 0, .d (.s (.slice none 0 0))], .box 55 [sv (bs t), iv .u64 0, iv .u8 0, .o 4 0], .row 50 1 0 []]) (fun _ => True) (fun _ => 0) () trivial rfl rfl (fun _ _ => by show 2 ≤ 5; decide) (fun _ _ => rfl) (fun _ _ => rfl) ?_
      rintro _ _ J hJ
      focus (have kxs : 987654321 = 987654320 + 1 := rfl; (repeat' (first | (refine ADr.nil ?_; try clear hgv) | refine GO ?_ | refine AW.ret ?_ | (refine GC ?_ ?_ <;> intro h <;> (try simp only [hsB] at h) <;> try (exfalso; first | omega | contradiction)) | (refine GD ?_ ?_ <;> intro h <;> (try intro hgv) <;> (try simp only [Bool.not_true, Bool.not_false] at h) <;> (try simp only [h]) <;> (try simp only [hsB] at h) <;> try (exfalso; first | omega | contradiction)) | (refine GL ?_ ?_ <;> intro h <;> (try simp only [Bool.not_true, Bool.not_false] at h) <;> (try simp only [h]) <;> (try simp only [hsB] at h) <;> try (exfalso; first | omega | contradiction)) | fail)); all_goals clear kxs)
      all_goals first | (((all_goals first | refine RetQ.r 2 (xs := [.a [sv (bs t), iv .u64 0, iv .u8 0, .o 4 0]]) rfl (Nat.le_of_ble_eq_true rfl) rfl (by first | rfl | (simp only [go_sem, ↓reduceIte, Nat.reduceLT, Nat.lt_irrefl])) ⟨?_, ?_⟩ | refine RetQ.n 2 (xs := [.a [sv (bs t), iv .u64 0, iv .u8 0, .o 4 0]]) rfl (Nat.le_of_ble_eq_true rfl) rfl (by first | rfl | (simp only [go_sem, ↓reduceIte, Nat.reduceLT, Nat.lt_irrefl])) ⟨?_, ?_⟩); (all_goals first | rfl | (simp [*]; done) | ((simp only [go_sem, ↓reduceIte, Nat.reduceLT]; (repeat' split)) <;> first | rfl | (exfalso; omega) | (simp_all; done) | (simp_all; omega)))); done) | (exfalso; omega) | (exfalso; simp_all; done)
    · focus (have kxs := z1; have kk1 := uN [0] (hbt); have kk2 := uN [0] (hv); have kk3 := uN [0] (hy); have kk4 := uN [0] (hc); (repeat' (first | (refine ADr.nil ?_; try clear hgv) | refine GW ?_ | refine AW.ret ?_ | (refine GC ?_ ?_ <;> intro h <;> (try simp only [hsB] at h) <;> try (exfalso; first | omega | contradiction)) | (refine GD ?_ ?_ <;> intro h <;> (try intro hgv) <;> (try simp only [Bool.not_true, Bool.not_false] at h) <;> (try simp only [h]) <;> (try simp only [hsB] at h) <;> try (exfalso; first | omega | contradiction)) | (refine GL ?_ ?_ <;> intro h <;> (try simp only [Bool.not_true, Bool.not_false] at h) <;> (try simp only [h]) <;> (try simp only [hsB] at h) <;> try (exfalso; first | omega | contradiction)) | fail)); all_goals clear kxs kk1 kk2 kk3 kk4)
      all_goals first | (exfalso; omega) | (exfalso; simp_all; done) | skip
      refine AW.birth 50 1 [] [(3, 3)] ?_
      refine AW.rounds [0, 4, 5, 6, 7] (fun _ : Unit => [(0, .p 0 0), (4, .p 2 0), (5, .p 3 0), (6, iv .i64 0), (7, iv .i64 0)])
        (fun _ => [Cu.ro ⟨c1.s, c1.a, 14⟩, .row 55 4 out.length (ringD out), .box 55 [sv (bs []), iv .u64 0, iv .u8 0, .d (.s (.slice none 0 0))], .box 55 [sv (bs []), iv .u64 0, iv .u8 0, .o 4 0], .row 50 1 0 []]) (fun _ => True) (fun _ => 0) () trivial rfl rfl (fun _ _ => by show 2 ≤ 5; decide) (fun _ _ => rfl) (fun _ _ => rfl) ?_
      rintro _ _ J hJ
      focus (have kxs : 987654321 = 987654320 + 1 := rfl; (repeat' (first | (refine ADr.nil ?_; try clear hgv) | refine GO ?_ | refine AW.ret ?_ | (refine GC ?_ ?_ <;> intro h <;> (try simp only [hsB] at h) <;> try (exfalso; first | omega | contradiction)) | (refine GD ?_ ?_ <;> intro h <;> (try intro hgv) <;> (try simp only [Bool.not_true, Bool.not_false] at h) <;> (try simp only [h]) <;> (try simp only [hsB] at h) <;> try (exfalso; first | omega | contradiction)) | (refine GL ?_ ?_ <;> intro h <;> (try simp only [Bool.not_true, Bool.not_false] at h) <;> (try simp only [h]) <;> (try simp only [hsB] at h) <;> try (exfalso; first | omega | contradiction)) | fail)); all_goals clear kxs)
      all_goals first | (((all_goals first | refine RetQ.r 2 (xs := [.a [sv (bs []), iv .u64 0, iv .u8 0, .o 4 0]]) rfl (Nat.le_of_ble_eq_true rfl) rfl (by first | rfl | (simp only [go_sem, ↓reduceIte, Nat.reduceLT, Nat.lt_irrefl])) ⟨?_, ?_⟩ | refine RetQ.n 2 (xs := [.a [sv (bs []), iv .u64 0, iv .u8 0, .o 4 0]]) rfl (Nat.le_of_ble_eq_true rfl) rfl (by first | rfl | (simp only [go_sem, ↓reduceIte, Nat.reduceLT, Nat.lt_irrefl])) ⟨?_, ?_⟩); (all_goals first | rfl | (simp [*]; done) | ((simp only [go_sem, ↓reduceIte, Nat.reduceLT]; (repeat' split)) <;> first | rfl | (exfalso; omega) | (simp_all; done) | (simp_all; omega)))); done) | (exfalso; omega) | (exfalso; simp_all; done)
    · have hbe := ref06_Below p t (by omega) (by have := htl z1; omega)
      rw [show Op.bytesLess p t = _ from a2] at hbe
      have hne : 0 < out.length := by
        cases out with
        | nil => exact absurd (f1 rfl a2) a1
        | cons _ _ => simp
      have htp : 0 < t.length := List.length_pos_iff.2 a1
      focus (have kxs := And.intro z1 (And.intro hi1 hcd); have kk1 := uN [0] (hbt); have kk2 := uN [0] (hv); have kk3 := uN [0] (hy); have kk4 := uN [0] (hc); have kk5 := uN [] (hbe); (repeat' (first | (refine ADr.nil ?_; try clear hgv) | refine GW ?_ | refine AW.ret ?_ | (refine GC ?_ ?_ <;> intro h <;> (try simp only [hsB] at h) <;> try (exfalso; first | omega | contradiction)) | (refine GD ?_ ?_ <;> intro h <;> (try intro hgv) <;> (try simp only [Bool.not_true, Bool.not_false] at h) <;> (try simp only [h]) <;> (try simp only [hsB] at h) <;> try (exfalso; first | omega | contradiction)) | (refine GL ?_ ?_ <;> intro h <;> (try simp only [Bool.not_true, Bool.not_false] at h) <;> (try simp only [h]) <;> (try simp only [hsB] at h) <;> try (exfalso; first | omega | contradiction)) | fail)); all_goals clear kxs kk1 kk2 kk3 kk4 kk5)
      all_goals first | (exfalso; omega) | (exfalso; simp_all; done) | skip
      refine AW.birth 50 1 [] [(3, 3)] ?_
      refine AW.rounds [0, 4, 5, 6, 7] (fun _ : Unit => [(0, .p 0 0), (4, .p 2 0), (5, .p 3 0), (6, iv .i64 0), (7, iv .i64 0)])
        (fun _ => [Cu.ro ⟨c1.s, c1.a, 6⟩, .row 55 4 out.length (ringD out), .box 55 [sv (bs []), iv .u64 0, iv .u8 0, .d (.s (.slice none 0 0))], .box 55 [sv (bs t), iv .u64 0, iv .u8 0, .o 4 0], .row 50 1 0 []]) (fun _ => True) (fun _ => 0) () trivial rfl rfl (fun _ _ => by show 2 ≤ 5; decide) (fun _ _ => rfl) (fun _ _ => rfl) ?_
      rintro _ _ J hJ
      focus (have kxs : 987654321 = 987654320 + 1 := rfl; (repeat' (first | (refine ADr.nil ?_; try clear hgv) | refine GO ?_ | refine AW.ret ?_ | (refine GC ?_ ?_ <;> intro h <;> (try simp only [hsB] at h) <;> try (exfalso; first | omega | contradiction)) | (refine GD ?_ ?_ <;> intro h <;> (try intro hgv) <;> (try simp only [Bool.not_true, Bool.not_false] at h) <;> (try simp only [h]) <;> (try simp only [hsB] at h) <;> try (exfalso; first | omega | contradiction)) | (refine GL ?_ ?_ <;> intro h <;> (try simp only [Bool.not_true, Bool.not_false] at h) <;> (try simp only [h]) <;> (try simp only [hsB] at h) <;> try (exfalso; first | omega | contradiction)) | fail)); all_goals clear kxs)
      all_goals first | (((all_goals first | refine RetQ.r 2 (xs := [.a [sv (bs t), iv .u64 0, iv .u8 0, .o 4 0]]) rfl (Nat.le_of_ble_eq_true rfl) rfl (by first | rfl | (simp only [go_sem, ↓reduceIte, Nat.reduceLT, Nat.lt_irrefl])) ⟨?_, ?_⟩ | refine RetQ.n 2 (xs := [.a [sv (bs t), iv .u64 0, iv .u8 0, .o 4 0]]) rfl (Nat.le_of_ble_eq_true rfl) rfl (by first | rfl | (simp only [go_sem, ↓reduceIte, Nat.reduceLT, Nat.lt_irrefl])) ⟨?_, ?_⟩); (all_goals first | rfl | (simp [*]; done) | ((simp only [go_sem, ↓reduceIte, Nat.reduceLT]; (repeat' split)) <;> first | rfl | (exfalso; omega) | (simp_all; done) | (simp_all; omega)))); done) | (exfalso; omega) | (exfalso; simp_all; done)
  have htl := htl z1
  have hbe := ref06_Below p t (by omega) (by omega)
  rw [show Op.bytesLess p t = _ from a2] at hbe
  have htp : 0 < t.length := List.length_pos_iff.2 a1
  obtain ⟨cs1, ca1, ce1⟩ := c1
  simp only at z1 hv h1o hbt
  subst z1
  have hvt := ref03_Take cs1 ca1 0 h1o
  rw [hv] at hvt
  simp only at hvt
  clear f1 hfp hb
  rcases ways with ⟨f, hf, hw, hm⟩ | ⟨z2, a3, hby, h3o, hb2, ways⟩
  · rw [hm]
    have hfo : Cu.Ok ⟨c2.s, c2.a, f⟩ := h2o
    have hy := ref01_Byte c2.s c2.a f hfo
    have hc := ref06_Count c2.s c2.a f 16 hfo (by decide)
    rw [byte_stuck (c := ⟨c2.s, c2.a, f⟩) hf] at hy
    rw [count_stuck (c := ⟨c2.s, c2.a, f⟩) hf] at hc
    simp only at hy hc
    clear hm hv
    rcases hw with ⟨z2, rfl⟩ | ⟨z2, rfl, rfl⟩
    · focus (have kxs := And.intro hi1 hcd; have kk1 := uN [0] (hbt); have kk2 := uN [0] (hvt); have kk3 := uN [0] (hy); have kk4 := uN [0] (hc); have kk5 := uN [] (hbe); (repeat' (first | (refine ADr.nil ?_; try clear hgv) | refine GW ?_ | refine AW.ret ?_ | (refine GC ?_ ?_ <;> intro h <;> (try simp only [hsB] at h) <;> try (exfalso; first | omega | contradiction)) | (refine GD ?_ ?_ <;> intro h <;> (try intro hgv) <;> (try simp only [Bool.not_true, Bool.not_false] at h) <;> (try simp only [h]) <;> (try simp only [hsB] at h) <;> try (exfalso; first | omega | contradiction)) | (refine GL ?_ ?_ <;> intro h <;> (try simp only [Bool.not_true, Bool.not_false] at h) <;> (try simp only [h]) <;> (try simp only [hsB] at h) <;> try (exfalso; first | omega | contradiction)) | fail)); all_goals clear kxs kk1 kk2 kk3 kk4 kk5)
      all_goals first | (exfalso; omega) | (exfalso; simp_all; done) | skip
      all_goals
        refine AW.birth 50 1 [] [(3, 3)] ?_
        refine AW.rounds [0, 4, 5, 6, 7] (fun _ : Unit => [(0, .p 0 0), (4, .p 2 0), (5, .p 3 0), (6, iv .i64 0), (7, iv .i64 0)])
          (fun _ => [Cu.ro ⟨c2.s, c2.a, c2.e⟩, .row 55 4 out.length (ringD out), .box 55 [sv (bs []), iv .u64 0, iv .u8 0, .d (.s (.slice none 0 0))], .box 55 [sv (bs t), iv .u64 n, iv .u8 0, .o 4 0], .row 50 1 0 []]) (fun _ => True) (fun _ => 0) () trivial rfl rfl (fun _ _ => by show 2 ≤ 5; decide) (fun _ _ => rfl) (fun _ _ => rfl) ?_
        rintro _ _ J hJ
        focus (have kxs : 987654321 = 987654320 + 1 := rfl; (repeat' (first | (refine ADr.nil ?_; try clear hgv) | refine GO ?_ | refine AW.ret ?_ | (refine GC ?_ ?_ <;> intro h <;> (try simp only [hsB] at h) <;> try (exfalso; first | omega | contradiction)) | (refine GD ?_ ?_ <;> intro h <;> (try intro hgv) <;> (try simp only [Bool.not_true, Bool.not_false] at h) <;> (try simp only [h]) <;> (try simp only [hsB] at h) <;> try (exfalso; first | omega | contradiction)) | (refine GL ?_ ?_ <;> intro h <;> (try simp only [Bool.not_true, Bool.not_false] at h) <;> (try simp only [h]) <;> (try simp only [hsB] at h) <;> try (exfalso; first | omega | contradiction)) | fail)); all_goals clear kxs)
        all_goals first | (((all_goals first | refine RetQ.r 2 (xs := [.a [sv (bs t), iv .u64 n, iv .u8 0, .o 4 0]]) rfl (Nat.le_of_ble_eq_true rfl) rfl (by first | rfl | (simp only [go_sem, ↓reduceIte, Nat.reduceLT, Nat.lt_irrefl])) ⟨?_, ?_⟩ | refine RetQ.n 2 (xs := [.a [sv (bs t), iv .u64 n, iv .u8 0, .o 4 0]]) rfl (Nat.le_of_ble_eq_true rfl) rfl (by first | rfl | (simp only [go_sem, ↓reduceIte, Nat.reduceLT, Nat.lt_irrefl])) ⟨?_, ?_⟩); (all_goals first | rfl | (simp [*]; done) | ((simp only [go_sem, ↓reduceIte, Nat.reduceLT]; (repeat' split)) <;> first | rfl | (exfalso; omega) | (simp_all; done) | (simp_all; omega)))); done) | (exfalso; omega) | (exfalso; simp_all; done)
    · focus (have kxs := And.intro z2 (And.intro hi1 hcd); have kk1 := uN [0] (hbt); have kk2 := uN [0] (hvt); have kk3 := uN [0] (hy); have kk4 := uN [0] (hc); have kk5 := uN [] (hbe); (repeat' (first | (refine ADr.nil ?_; try clear hgv) | refine GW ?_ | refine AW.ret ?_ | (refine GC ?_ ?_ <;> intro h <;> (try simp only [hsB] at h) <;> try (exfalso; first | omega | contradiction)) | (refine GD ?_ ?_ <;> intro h <;> (try intro hgv) <;> (try simp only [Bool.not_true, Bool.not_false] at h) <;> (try simp only [h]) <;> (try simp only [hsB] at h) <;> try (exfalso; first | omega | contradiction)) | (refine GL ?_ ?_ <;> intro h <;> (try simp only [Bool.not_true, Bool.not_false] at h) <;> (try simp only [h]) <;> (try simp only [hsB] at h) <;> try (exfalso; first | omega | contradiction)) | fail)); all_goals clear kxs kk1 kk2 kk3 kk4 kk5)
      all_goals first | (exfalso; omega) | (exfalso; simp_all; done) | skip
      all_goals
        refine AW.birth 50 1 [] [(3, 3)] ?_
        refine AW.rounds [0, 4, 5, 6, 7] (fun _ : Unit => [(0, .p 0 0), (4, .p 2 0), (5, .p 3 0), (6, iv .i64 0), (7, iv .i64 0)])
          (fun _ => [Cu.ro ⟨c2.s, c2.a, 7⟩, .row 55 4 out.length (ringD out), .box 55 [sv (bs []), iv .u64 0, iv .u8 0, .d (.s (.slice none 0 0))], .box 55 [sv (bs t), iv .u64 0, iv .u8 0, .o 4 0], .row 50 1 0 []]) (fun _ => True) (fun _ => 0) () trivial rfl rfl (fun _ _ => by show 2 ≤ 5; decide) (fun _ _ => rfl) (fun _ _ => rfl) ?_
        rintro _ _ J hJ
        focus (have kxs : 987654321 = 987654320 + 1 := rfl; (repeat' (first | (refine ADr.nil ?_; try clear hgv) | refine GO ?_ | refine AW.ret ?_ | (refine GC ?_ ?_ <;> intro h <;> (try simp only [hsB] at h) <;> try (exfalso; first | omega | contradiction)) | (refine GD ?_ ?_ <;> intro h <;> (try intro hgv) <;> (try simp only [Bool.not_true, Bool.not_false] at h) <;> (try simp only [h]) <;> (try simp only [hsB] at h) <;> try (exfalso; first | omega | contradiction)) | (refine GL ?_ ?_ <;> intro h <;> (try simp only [Bool.not_true, Bool.not_false] at h) <;> (try simp only [h]) <;> (try simp only [hsB] at h) <;> try (exfalso; first | omega | contradiction)) | fail)); all_goals clear kxs)
        all_goals first | (((all_goals first | refine RetQ.r 2 (xs := [.a [sv (bs t), iv .u64 0, iv .u8 0, .o 4 0]]) rfl (Nat.le_of_ble_eq_true rfl) rfl (by first | rfl | (simp only [go_sem, ↓reduceIte, Nat.reduceLT, Nat.lt_irrefl])) ⟨?_, ?_⟩ | refine RetQ.n 2 (xs := [.a [sv (bs t), iv .u64 0, iv .u8 0, .o 4 0]]) rfl (Nat.le_of_ble_eq_true rfl) rfl (by first | rfl | (simp only [go_sem, ↓reduceIte, Nat.reduceLT, Nat.lt_irrefl])) ⟨?_, ?_⟩); (all_goals first | rfl | (simp [*]; done) | ((simp only [go_sem, ↓reduceIte, Nat.reduceLT]; (repeat' split)) <;> first | rfl | (exfalso; omega) | (simp_all; done) | (simp_all; omega)))); done) | (exfalso; omega) | (exfalso; simp_all; done)
  obtain ⟨cs2, ca2, ce2⟩ := c2
  simp only at z2 hby h2o hvt
  subst z2
  have hyt := ref01_Byte cs2 ca2 0 h2o
  rw [hby] at hyt
  simp only at hyt
  clear hv
  rcases ways with ⟨f, hf, hw, hm⟩ | ⟨z3, a4, hct, h4o, hk, hck, hm⟩
  · rw [hm]
    have hfo : Cu.Ok ⟨c3.s, c3.a, f⟩ := h3o
    have hc := ref06_Count c3.s c3.a f 16 hfo (by decide)
    rw [count_stuck (c := ⟨c3.s, c3.a, f⟩) hf] at hc
    simp only at hc
    clear hm hby
    rcases hw with ⟨z3, rfl⟩ | ⟨z3, a4, rfl⟩
    · focus (have kxs := And.intro hi1 hcd; have kk1 := uN [0] (hbt); have kk2 := uN [0] (hvt); have kk3 := uN [0] (hyt); have kk4 := uN [0] (hc); have kk5 := uN [] (hbe); (repeat' (first | (refine ADr.nil ?_; try clear hgv) | refine GW ?_ | refine AW.ret ?_ | (refine GC ?_ ?_ <;> intro h <;> (try simp only [hsB] at h) <;> try (exfalso; first | omega | contradiction)) | (refine GD ?_ ?_ <;> intro h <;> (try intro hgv) <;> (try simp only [Bool.not_true, Bool.not_false] at h) <;> (try simp only [h]) <;> (try simp only [hsB] at h) <;> try (exfalso; first | omega | contradiction)) | (refine GL ?_ ?_ <;> intro h <;> (try simp only [Bool.not_true, Bool.not_false] at h) <;> (try simp only [h]) <;> (try simp only [hsB] at h) <;> try (exfalso; first | omega | contradiction)) | fail)); all_goals clear kxs kk1 kk2 kk3 kk4 kk5)
      all_goals first | (exfalso; omega) | (exfalso; simp_all; done) | skip
      all_goals
        refine AW.birth 50 1 [] [(3, 3)] ?_
        refine AW.rounds [0, 4, 5, 6, 7] (fun _ : Unit => [(0, .p 0 0), (4, .p 2 0), (5, .p 3 0), (6, iv .i64 0), (7, iv .i64 0)])
          (fun _ => [Cu.ro ⟨c3.s, c3.a, c3.e⟩, .row 55 4 out.length (ringD out), .box 55 [sv (bs []), iv .u64 0, iv .u8 0, .d (.s (.slice none 0 0))], .box 55 [sv (bs t), iv .u64 n, iv .u8 b, .o 4 0], .row 50 1 0 []]) (fun _ => True) (fun _ => 0) () trivial rfl rfl (fun _ _ => by show 2 ≤ 5; decide) (fun _ _ => rfl) (fun _ _ => rfl) ?_
        rintro _ _ J hJ
        focus (have kxs : 987654321 = 987654320 + 1 := rfl; (repeat' (first | (refine ADr.nil ?_; try clear hgv) | refine GO ?_ | refine AW.ret ?_ | (refine GC ?_ ?_ <;> intro h <;> (try simp only [hsB] at h) <;> try (exfalso; first | omega | contradiction)) | (refine GD ?_ ?_ <;> intro h <;> (try intro hgv) <;> (try simp only [Bool.not_true, Bool.not_false] at h) <;> (try simp only [h]) <;> (try simp only [hsB] at h) <;> try (exfalso; first | omega | contradiction)) | (refine GL ?_ ?_ <;> intro h <;> (try simp only [Bool.not_true, Bool.not_false] at h) <;> (try simp only [h]) <;> (try simp only [hsB] at h) <;> try (exfalso; first | omega | contradiction)) | fail)); all_goals clear kxs)
        all_goals first | (((all_goals first | refine RetQ.r 2 (xs := [.a [sv (bs t), iv .u64 n, iv .u8 b, .o 4 0]]) rfl (Nat.le_of_ble_eq_true rfl) rfl (by first | rfl | (simp only [go_sem, ↓reduceIte, Nat.reduceLT, Nat.lt_irrefl])) ⟨?_, ?_⟩ | refine RetQ.n 2 (xs := [.a [sv (bs t), iv .u64 n, iv .u8 b, .o 4 0]]) rfl (Nat.le_of_ble_eq_true rfl) rfl (by first | rfl | (simp only [go_sem, ↓reduceIte, Nat.reduceLT, Nat.lt_irrefl])) ⟨?_, ?_⟩); (all_goals first | rfl | (simp [*]; done) | ((simp only [go_sem, ↓reduceIte, Nat.reduceLT]; (repeat' split)) <;> first | rfl | (exfalso; omega) | (simp_all; done) | (simp_all; omega)))); done) | (exfalso; omega) | (exfalso; simp_all; done)
    · focus (have kxs := And.intro z3 (And.intro hi1 hcd); have kk1 := uN [0] (hbt); have kk2 := uN [0] (hvt); have kk3 := uN [0] (hyt); have kk4 := uN [0] (hc); have kk5 := uN [] (hbe); (repeat' (first | (refine ADr.nil ?_; try clear hgv) | refine GW ?_ | refine AW.ret ?_ | (refine GC ?_ ?_ <;> intro h <;> (try simp only [hsB] at h) <;> try (exfalso; first | omega | contradiction)) | (refine GD ?_ ?_ <;> intro h <;> (try intro hgv) <;> (try simp only [Bool.not_true, Bool.not_false] at h) <;> (try simp only [h]) <;> (try simp only [hsB] at h) <;> try (exfalso; first | omega | contradiction)) | (refine GL ?_ ?_ <;> intro h <;> (try simp only [Bool.not_true, Bool.not_false] at h) <;> (try simp only [h]) <;> (try simp only [hsB] at h) <;> try (exfalso; first | omega | contradiction)) | fail)); all_goals clear kxs kk1 kk2 kk3 kk4 kk5)
      all_goals first | (exfalso; omega) | (exfalso; simp_all; done) | skip
      all_goals
        refine AW.birth 50 1 [] [(3, 3)] ?_
        refine AW.rounds [0, 4, 5, 6, 7] (fun _ : Unit => [(0, .p 0 0), (4, .p 2 0), (5, .p 3 0), (6, iv .i64 0), (7, iv .i64 0)])
          (fun _ => [Cu.ro ⟨c3.s, c3.a, 13⟩, .row 55 4 out.length (ringD out), .box 55 [sv (bs []), iv .u64 0, iv .u8 0, .d (.s (.slice none 0 0))], .box 55 [sv (bs t), iv .u64 n, iv .u8 b, .o 4 0], .row 50 1 0 []]) (fun _ => True) (fun _ => 0) () trivial rfl rfl (fun _ _ => by show 2 ≤ 5; decide) (fun _ _ => rfl) (fun _ _ => rfl) ?_
        rintro _ _ J hJ
        focus (have kxs : 987654321 = 987654320 + 1 := rfl; (repeat' (first | (refine ADr.nil ?_; try clear hgv) | refine GO ?_ | refine AW.ret ?_ | (refine GC ?_ ?_ <;> intro h <;> (try simp only [hsB] at h) <;> try (exfalso; first | omega | contradiction)) | (refine GD ?_ ?_ <;> intro h <;> (try intro hgv) <;> (try simp only [Bool.not_true, Bool.not_false] at h) <;> (try simp only [h]) <;> (try simp only [hsB] at h) <;> try (exfalso; first | omega | contradiction)) | (refine GL ?_ ?_ <;> intro h <;> (try simp only [Bool.not_true, Bool.not_false] at h) <;> (try simp only [h]) <;> (try simp only [hsB] at h) <;> try (exfalso; first | omega | contradiction)) | fail)); all_goals clear kxs)
        all_goals first | (((all_goals first | refine RetQ.r 2 (xs := [.a [sv (bs t), iv .u64 n, iv .u8 b, .o 4 0]]) rfl (Nat.le_of_ble_eq_true rfl) rfl (by first | rfl | (simp only [go_sem, ↓reduceIte, Nat.reduceLT, Nat.lt_irrefl])) ⟨?_, ?_⟩ | refine RetQ.n 2 (xs := [.a [sv (bs t), iv .u64 n, iv .u8 b, .o 4 0]]) rfl (Nat.le_of_ble_eq_true rfl) rfl (by first | rfl | (simp only [go_sem, ↓reduceIte, Nat.reduceLT, Nat.lt_irrefl])) ⟨?_, ?_⟩); (all_goals first | rfl | (simp [*]; done) | ((simp only [go_sem, ↓reduceIte, Nat.reduceLT]; (repeat' split)) <;> first | rfl | (exfalso; omega) | (simp_all; done) | (simp_all; omega)))); done) | (exfalso; omega) | (exfalso; simp_all; done)
  obtain ⟨cs3, ca3, ce3⟩ := c3
  simp only at z3 hct h3o hyt
  subst z3
  have hctt := ref06_Count cs3 ca3 0 16 h3o (by decide)
  rw [hct] at hctt
  simp only at hctt
  rw [hm]
  generalize hR : Cu.tokg k none c4 = R
  obtain ⟨ts, cf⟩ := R
  simp only
  have h0R : (ts, cf) = ([] ++ (Cu.tokg (k - ([] : List Nat).length) ([] : List Nat).getLast? c4).1, (Cu.tokg (k - ([] : List Nat).length) ([] : List Nat).getLast? c4).2) := by
    rw [← hR]; rfl
  clear hm hby hct hR
  focus (have kxs := And.intro hi1 hcd; have kk1 := uN [0] (hbt); have kk2 := uN [0] (hvt); have kk3 := uN [0] (hyt); have kk4 := uN [0] (hctt); have kk5 := uN [] (hbe); (repeat' (first | (refine ADr.nil ?_; try clear hgv) | refine GW ?_ | refine AW.ret ?_ | (refine GC ?_ ?_ <;> intro h <;> (try simp only [hsB] at h) <;> try (exfalso; first | omega | contradiction)) | (refine GD ?_ ?_ <;> intro h <;> (try intro hgv) <;> (try simp only [Bool.not_true, Bool.not_false] at h) <;> (try simp only [h]) <;> (try simp only [hsB] at h) <;> try (exfalso; first | omega | contradiction)) | (refine GL ?_ ?_ <;> intro h <;> (try simp only [Bool.not_true, Bool.not_false] at h) <;> (try simp only [h]) <;> (try simp only [hsB] at h) <;> try (exfalso; first | omega | contradiction)) | fail)); all_goals clear kxs kk1 kk2 kk3 kk4 kk5)
  all_goals first | (exfalso; omega) | (exfalso; simp_all; done) | skip
  all_goals
    refine AW.birth 50 1 [] [(3, 3)] ?_
    refine AW.rounds [0, 4, 5, 6, 7] (fun z : List Nat × Cu => [(0, .p 0 0), (4, .p 2 0), (5, .p 3 0), (6, iv .i64 k), (7, iv .i64 z.1.length)])
      (fun z => [Cu.ro z.2, .row 55 4 out.length (ringD out), .box 55 [sv (bs []), iv .u64 0, iv .u8 0, .d (.s (.slice none 0 0))], .box 55 [sv (bs t), iv .u64 n, iv .u8 b, .o 4 z.1.length], .row 50 1 z.1.length (toksD z.1)])
      (fun z => z.1.length ≤ k ∧ z.2.Ok ∧ (ts, cf) = (z.1 ++ (Cu.tokg (k - z.1.length) z.1.getLast? z.2).1, (Cu.tokg (k - z.1.length) z.1.getLast? z.2).2)) (fun z => k - z.1.length) ([], c4) ⟨Nat.zero_le _, h4o, h0R⟩ rfl rfl (fun _ _ => by show 2 ≤ 5; decide) (fun _ _ => rfl) (fun _ _ => rfl) ?_
    rintro ⟨o2, cu⟩ ⟨hol2, hcok, hRo⟩ J hJ
    simp only at hol2 hcok hRo
    clear h0R hbt hvt hyt hctt hbe hcd
    by_cases hce : cu.e = 0
    · by_cases hlen : o2.length < k
      · obtain ⟨m, hm⟩ : ∃ m, k - o2.length = m + 1 := ⟨k - o2.length - 1, by omega⟩
        rw [hm] at hRo
        unfold Cu.tokg at hRo
        rw [if_neg (by simpa using hce)] at hRo
        have hft := ref04_Take cu.s cu.a cu.e hcok
        have hnum : Cu.tok o2.getLast? cu = ((Cu.num8 ⟨cu.s, cu.a, cu.e⟩).1, gd (after o2.getLast? (Cu.num8 ⟨cu.s, cu.a, cu.e⟩).1) 6 (Cu.num8 ⟨cu.s, cu.a, cu.e⟩).2) := rfl
        rw [hnum] at hRo
        have hn8 : (Cu.num8 ⟨cu.s, cu.a, cu.e⟩).2.Ok := Cu.num8_ok hcok
        generalize Cu.num8 ⟨cu.s, cu.a, cu.e⟩ = y at *
        obtain ⟨v, d⟩ := y
        simp only at hft hRo hn8
        have hl2 : (o2 ++ [v]).length = o2.length + 1 := by simp
        have go : ∀ dd, gd (after o2.getLast? v) 6 d = dd → ∀ T' σ', keepT T' [0, 4, 5, 6, 7] = [(0, .p 0 0), (4, .p 2 0), (5, .p 3 0), (6, iv .i64 k), (7, iv .i64 ((o2.length : Int) + 1))] → σ'.take 5 = [Cu.ro dd, .row 55 4 out.length (ringD out), .box 55 [sv (bs []), iv .u64 0, iv .u8 0, .d (.s (.slice none 0 0))], .box 55 [sv (bs t), iv .u64 n, iv .u8 b, .o 4 (o2.length + 1)], .row 50 1 (o2.length + 1) (toksD o2 ++ [D.s (.int .u64 (v : Nat))])] → J T' σ' := fun dd hdd T' σ' g1 g2 => by
          refine hJ (o2 ++ [v], dd) T' σ' (by simp only [hl2]; omega) ⟨by simp only [hl2]; omega, by rw [← hdd]; exact gd_ok hn8, ?_⟩ (by simp only [hl2]; exact g1) (by simp only [hl2, ← toks_snoc]; exact g2)
          simp only [hl2, List.getLast?_append, List.getLast?_singleton, Option.some_or]
          rw [hRo, show k - (o2.length + 1) = m by omega, hdd]
          simp only [List.append_assoc, List.cons_append, List.nil_append]
        clear hJ hRo hnum
        have hlk : (o2.length : Int) < k := by omega
        have hj1 : ((o2.length : Int) - 1).toNat = o2.length - 1 := by omega
        by_cases hde : d.e = 0
        · rcases List.eq_nil_or_concat o2 with rfl | ⟨o3, q, hcc⟩
          · have go := go d rfl
            focus (have kxs : 987654321 = 987654320 + 1 := rfl; have kk1 := uN [0] (hft); (repeat' (first | (refine ADr.nil ?_; try clear hgv) | refine GO ?_ | refine AW.ret ?_ | (refine GC ?_ ?_ <;> intro h <;> (try simp only [hsB] at h) <;> try (exfalso; first | omega | contradiction)) | (refine GD ?_ ?_ <;> intro h <;> (try intro hgv) <;> (try simp only [Bool.not_true, Bool.not_false] at h) <;> (try simp only [h]) <;> (try simp only [hsB] at h) <;> try (exfalso; first | omega | contradiction)) | (refine GL ?_ ?_ <;> intro h <;> (try simp only [Bool.not_true, Bool.not_false] at h) <;> (try simp only [h]) <;> (try simp only [hsB] at h) <;> try (exfalso; first | omega | contradiction)) | fail)); all_goals clear kxs kk1)
            all_goals first | exact go _ _ rfl rfl | (exfalso; omega) | (exfalso; simp_all; done)
          · rw [List.concat_eq_append] at hcc
            subst hcc
            have hlq : (toksD (o3 ++ [q])).drop ((o3 ++ [q]).length - 1) = [D.s (.int .u64 (q : Nat))] := by simp [toksD]
            have hlg : (o3 ++ [q]).getLast? = some q := by simp
            rw [hlg] at go
            have hpos : 0 < (o3 ++ [q]).length := by simp
            generalize o3 ++ [q] = o4 at *
            by_cases hqv : q < v
            · have go := go d (by show gd (decide (q < v)) 6 d = d; rw [decide_eq_true hqv]; rfl)
              focus (have kxs := And.intro hj1 (And.intro hlq @Nat.mul_one); have kk1 := uN [0] (hft); (repeat' (first | (refine ADr.nil ?_; try clear hgv) | refine GO ?_ | refine AW.ret ?_ | (refine GC ?_ ?_ <;> intro h <;> (try simp only [hsB] at h) <;> try (exfalso; first | omega | contradiction)) | (refine GD ?_ ?_ <;> intro h <;> (try intro hgv) <;> (try simp only [Bool.not_true, Bool.not_false] at h) <;> (try simp only [h]) <;> (try simp only [hsB] at h) <;> try (exfalso; first | omega | contradiction)) | (refine GL ?_ ?_ <;> intro h <;> (try simp only [Bool.not_true, Bool.not_false] at h) <;> (try simp only [h]) <;> (try simp only [hsB] at h) <;> try (exfalso; first | omega | contradiction)) | fail)); all_goals clear kxs kk1)
              all_goals first | exact go _ _ rfl rfl | (exfalso; omega) | (exfalso; simp_all; done)
            · have go := go ⟨d.s, d.a, 6⟩ (by show gd (decide (q < v)) 6 d = _; rw [decide_eq_false hqv]; show Cu.fail d 6 = _; unfold Cu.fail; rw [if_pos hde])
              focus (have kxs := And.intro hj1 (And.intro hlq @Nat.mul_one); have kk1 := uN [0] (hft); (repeat' (first | (refine ADr.nil ?_; try clear hgv) | refine GO ?_ | refine AW.ret ?_ | (refine GC ?_ ?_ <;> intro h <;> (try simp only [hsB] at h) <;> try (exfalso; first | omega | contradiction)) | (refine GD ?_ ?_ <;> intro h <;> (try intro hgv) <;> (try simp only [Bool.not_true, Bool.not_false] at h) <;> (try simp only [h]) <;> (try simp only [hsB] at h) <;> try (exfalso; first | omega | contradiction)) | (refine GL ?_ ?_ <;> intro h <;> (try simp only [Bool.not_true, Bool.not_false] at h) <;> (try simp only [h]) <;> (try simp only [hsB] at h) <;> try (exfalso; first | omega | contradiction)) | fail)); all_goals clear kxs kk1)
              all_goals first | exact go _ _ rfl rfl | (exfalso; omega) | (exfalso; simp_all; done)
        · have go := go d (gd_stuck hde _ _)
          focus (have kxs := And.intro hj1 @Nat.mul_one; have kk1 := uN [0] (hft); (repeat' (first | (refine ADr.nil ?_; try clear hgv) | refine GO ?_ | refine AW.ret ?_ | (refine GC ?_ ?_ <;> intro h <;> (try simp only [hsB] at h) <;> try (exfalso; first | omega | contradiction)) | (refine GD ?_ ?_ <;> intro h <;> (try intro hgv) <;> (try simp only [Bool.not_true, Bool.not_false] at h) <;> (try simp only [h]) <;> (try simp only [hsB] at h) <;> try (exfalso; first | omega | contradiction)) | (refine GL ?_ ?_ <;> intro h <;> (try simp only [Bool.not_true, Bool.not_false] at h) <;> (try simp only [h]) <;> (try simp only [hsB] at h) <;> try (exfalso; first | omega | contradiction)) | fail)); all_goals clear kxs kk1)
          all_goals first | exact go _ _ rfl rfl | (exfalso; omega) | (exfalso; simp_all; done)
      · rw [show k - o2.length = 0 by omega] at hRo
        unfold Cu.tokg at hRo
        simp only [List.append_nil] at hRo
        obtain ⟨rfl, rfl⟩ := Prod.mk.inj hRo
        clear hJ
        focus (have kxs : 987654321 = 987654320 + 1 := rfl; (repeat' (first | (refine ADr.nil ?_; try clear hgv) | refine GO ?_ | refine AW.ret ?_ | (refine GC ?_ ?_ <;> intro h <;> (try simp only [hsB] at h) <;> try (exfalso; first | omega | contradiction)) | (refine GD ?_ ?_ <;> intro h <;> (try intro hgv) <;> (try simp only [Bool.not_true, Bool.not_false] at h) <;> (try simp only [h]) <;> (try simp only [hsB] at h) <;> try (exfalso; first | omega | contradiction)) | (refine GL ?_ ?_ <;> intro h <;> (try simp only [Bool.not_true, Bool.not_false] at h) <;> (try simp only [h]) <;> (try simp only [hsB] at h) <;> try (exfalso; first | omega | contradiction)) | fail)); all_goals clear kxs)
        all_goals first | (((all_goals first | refine RetQ.r 2 (xs := [.a [sv (bs t), iv .u64 n, iv .u8 b, .o 4 ts.length]]) rfl (Nat.le_of_ble_eq_true rfl) rfl (by first | rfl | (simp only [go_sem, ↓reduceIte, Nat.reduceLT, Nat.lt_irrefl])) ⟨?_, ?_⟩ | refine RetQ.n 2 (xs := [.a [sv (bs t), iv .u64 n, iv .u8 b, .o 4 ts.length]]) rfl (Nat.le_of_ble_eq_true rfl) rfl (by first | rfl | (simp only [go_sem, ↓reduceIte, Nat.reduceLT, Nat.lt_irrefl])) ⟨?_, ?_⟩); (all_goals first | rfl | (simp [*]; done) | ((simp only [go_sem, ↓reduceIte, Nat.reduceLT]; (repeat' split)) <;> first | rfl | (exfalso; omega) | (simp_all; done) | (simp_all; omega)))); done) | (exfalso; omega) | (exfalso; simp_all; done)
    · rw [tokg_stuck hce] at hRo
      simp only [List.append_nil] at hRo
      obtain ⟨rfl, rfl⟩ := Prod.mk.inj hRo
      clear hJ
      focus (have kxs : 987654321 = 987654320 + 1 := rfl; (repeat' (first | (refine ADr.nil ?_; try clear hgv) | refine GO ?_ | refine AW.ret ?_ | (refine GC ?_ ?_ <;> intro h <;> (try simp only [hsB] at h) <;> try (exfalso; first | omega | contradiction)) | (refine GD ?_ ?_ <;> intro h <;> (try intro hgv) <;> (try simp only [Bool.not_true, Bool.not_false] at h) <;> (try simp only [h]) <;> (try simp only [hsB] at h) <;> try (exfalso; first | omega | contradiction)) | (refine GL ?_ ?_ <;> intro h <;> (try simp only [Bool.not_true, Bool.not_false] at h) <;> (try simp only [h]) <;> (try simp only [hsB] at h) <;> try (exfalso; first | omega | contradiction)) | fail)); all_goals clear kxs)
      all_goals first | (((all_goals first | refine RetQ.r 2 (xs := [.a [sv (bs t), iv .u64 n, iv .u8 b, .o 4 ts.length]]) rfl (Nat.le_of_ble_eq_true rfl) rfl (by first | rfl | (simp only [go_sem, ↓reduceIte, Nat.reduceLT, Nat.lt_irrefl])) ⟨?_, ?_⟩ | refine RetQ.n 2 (xs := [.a [sv (bs t), iv .u64 n, iv .u8 b, .o 4 ts.length]]) rfl (Nat.le_of_ble_eq_true rfl) rfl (by first | rfl | (simp only [go_sem, ↓reduceIte, Nat.reduceLT, Nat.lt_irrefl])) ⟨?_, ?_⟩); (all_goals first | rfl | (simp [*]; done) | ((simp only [go_sem, ↓reduceIte, Nat.reduceLT]; (repeat' split)) <;> first | rfl | (exfalso; omega) | (simp_all; done) | (simp_all; omega)))); done) | (exfalso; omega) | (exfalso; simp_all; done)
end Go.AW
