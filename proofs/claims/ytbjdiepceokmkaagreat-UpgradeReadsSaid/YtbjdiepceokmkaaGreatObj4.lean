/-
  objects that are written: the program's and the document's; whole texts.
-/
import Derived.Test.YtbjdiepceokmkaaGreatObj3
namespace Go.AW
open Go Go.Proofs
set_option maxHeartbeats 2000000
set_option maxRecDepth 10000
set_option linter.unusedSimpArgs false
set_option linter.unusedVariables false
attribute [local irreducible] thenQ blockQ RetQ AL AW AC AOp

/-- What is known on the way through an object. -/
theorem Pe.obj_way {q : Pe} {o : Oj} (hc : o.check = 0) (hok : q.Ok) (hl : q.m ≤ 140737488355328 ∨ q.b.length + (eobj o).length + 120 ≤ 140737488355328) :
    ∃ p1 p2 : Pe, q.blob 128 o.key = p1 ∧ p1.count 16 (o.sibs.length : Nat) = p2 ∧ q.obj o = p2.sibs o.sibs ∧ p1.Ok ∧ p2.Ok ∧ o.key.length ≤ 128 ∧ o.sibs.length ≤ 16 ∧ p2.m = q.m ∧
      (q.m ≤ 140737488355328 ∨ q.b.length + 10 + o.key.length ≤ 140737488355328) ∧ (p1.m ≤ 140737488355328 ∨ p1.b.length + 10 ≤ 140737488355328) ∧ (p2.m ≤ 140737488355328 ∨ p2.b.length + (o.sibs.map esib).flatten.length + 80 ≤ 140737488355328) := by
  obtain ⟨k1, k2, k3, k4⟩ := outside_zero.1 (Oj.check_parts hc).1
  have hel : (eobj o).length = ((vput o.key.length).length + o.key.length) + ((vput o.sibs.length).length + (o.sibs.map esib).flatten.length) := by
    unfold eobj eblob; simp only [List.length_append]
  have hobj : q.obj o = ((q.blob 128 o.key).count 16 (o.sibs.length : Nat)).sibs o.sibs := by unfold Pe.obj; rw [if_neg (by simpa using hc)]
  have o1 := (pens_blob 128).keep (p := q) (x := o.key) hok (by unfold eblob; simp only [List.length_append]; omega)
  have m1 := (pens_blob 128).m q o.key
  have l1 := (pens_blob 128).len q o.key
  have he : (eblob o.key).length = (vput o.key.length).length + o.key.length := by unfold eblob; rw [List.length_append]
  refine ⟨q.blob 128 o.key, (q.blob 128 o.key).count 16 (o.sibs.length : Nat), rfl, rfl, hobj, ?_⟩
  try simp only at o1 m1 l1
  generalize q.blob 128 o.key = p1 at *
  have o2 := (pens_count 16).keep (p := p1) (x := o.sibs.length) o1 (by omega)
  have m2 := (pens_count 16).m p1 o.sibs.length
  have l2 := (pens_count 16).len p1 o.sibs.length
  try simp only at o2 m2 l2
  generalize p1.count 16 (o.sibs.length : Nat) = p2 at *
  exact ⟨o1, o2, k1, k3, by omega, by omega, by omega, by omega⟩

section
variable (b : List UInt8) (m e : Int)
theorem object_Put (ok : Pe.Ok ⟨b, m, e⟩) (o : Oj) (ho : o.fits) (hl : m ≤ 140737488355328 ∨ b.length + (eobj o).length + 120 ≤ 140737488355328) :
    AC Tryz.prog 33 [.p 0 0, ojV o] (Pe.obs ⟨b, m, e⟩) fun x σ => x = .t [] ∧ σ = Pe.obs (Pe.obj ⟨b, m, e⟩ o) := by
  refine AC.walk Tryz.func33 rfl (by decide) (of_decide_eq_true rfl) ?_
  by_cases hc : o.check = 0
  case neg =>
    have hv : Pe.obj ⟨b, m, e⟩ o = Pe.fail ⟨b, m, e⟩ o.check := by unfold Pe.obj; rw [if_pos hc]
    rw [hv]
    focus (have kxs : 987654321 = 987654320 + 1 := rfl; have kk1 := uN [] (object_Check o ho); have kua1 := fun za => uN [0, 1] (pen_Fail b m e za); (repeat' (first | refine G ?_ | refine AW.ret ?_ | (refine GC ?_ ?_ <;> intro h <;> (try simp only [hsB] at h) <;> try (exfalso; first | omega | contradiction)) | (refine GL ?_ ?_ <;> intro h <;> (try simp only [Bool.not_true, Bool.not_false] at h) <;> (try simp only [h]) <;> (try simp only [hsB] at h) <;> try (exfalso; first | omega | contradiction)) | fail)); all_goals clear kxs kk1 kua1)
    all_goals first | ((all_goals first | exact RetQ.fr 2 | exact RetQ.fn 2 | fail); done) | (exfalso; simp_all; done)
  obtain ⟨p1, p2, g1, g2, g3, o1, o2, k1, k3, m2, b0, b1, b2⟩ := Pe.obj_way hc ok hl
  have g2' : Pe.count ⟨p1.b, p1.m, p1.e⟩ 16 (o.sibs.length : Nat) = p2 := g2
  have g3' : Pe.sibs ⟨p2.b, p2.m, p2.e⟩ o.sibs = Pe.obj ⟨b, m, e⟩ o := g3.symm
  focus (have kxs := And.intro hc (And.intro g1 (And.intro g2' g3')); have kk1 := uN [] (object_Check o ho); have kk2 := uN [0, 1] (blob_Put1 b o.key m e 128 ok ho.1 b0); have kk3 := uN [0, 1] (blob_PutCount p1.b p1.m p1.e 16 o1 (o.sibs.length : Nat) (by omega) b1); have kk4 := uN [0, 1] (sibling_Put p2.b p2.m p2.e o2 o.sibs ho.2.2 (by omega) b2); (repeat' (first | refine G ?_ | refine AW.ret ?_ | (refine GC ?_ ?_ <;> intro h <;> (try simp only [hsB] at h) <;> try (exfalso; first | omega | contradiction)) | (refine GL ?_ ?_ <;> intro h <;> (try simp only [Bool.not_true, Bool.not_false] at h) <;> (try simp only [h]) <;> (try simp only [hsB] at h) <;> try (exfalso; first | omega | contradiction)) | fail)); all_goals clear kxs kk1 kk2 kk3 kk4)
  all_goals first | ((all_goals first | exact RetQ.fr 2 | exact RetQ.fn 2 | fail); done) | (exfalso; simp_all; done)
end

theorem object_Encode (o : Oj) (ho : o.fits) : AC Tryz.prog 12 [ojV o] [] fun x σ => x = .t [sv (bs (obje o).1), iv .i64 (obje o).2] ∧ σ = [] := by
  have hq := pens_obj.keep (x := o) pe0_ok (.inl (by decide))
  refine AC.walk Tryz.func12 rfl (by decide) (of_decide_eq_true rfl) ?_
  unfold obje wre
  generalize hp : Pe.obj ⟨[], 65536, 0⟩ o = q at *
  focus (have kxs := hp; have kk1 := uN [] (pen_New 65536 (by decide)); have kk2 := uN [1, 2] (object_Put [] 65536 0 pe0_ok o ho (.inl (by decide))); have kk3 := uN [1, 2] (pen_End q.b q.m q.e hq); (repeat' (first | refine G ?_ | refine AW.ret ?_ | (refine GC ?_ ?_ <;> intro h <;> (try simp only [hsB] at h) <;> try (exfalso; first | omega | contradiction)) | (refine GL ?_ ?_ <;> intro h <;> (try simp only [Bool.not_true, Bool.not_false] at h) <;> (try simp only [h]) <;> (try simp only [hsB] at h) <;> try (exfalso; first | omega | contradiction)) | fail)); all_goals clear kxs kk1 kk2 kk3)
  all_goals first | ((all_goals first | exact RetQ.fr 0 | exact RetQ.fn 0 | fail); done) | (exfalso; simp_all; done)
theorem object_Decode (s : List UInt8) (hs : s.length ≤ 140737488351232) : AC Tryz.prog 13 [sv (bs s)] [] fun x σ => x = .t [ojV (objw s).1, iv .i64 (objw s).2] ∧ σ = [] := by
  have h0 : Cu.Ok ⟨s, 0, 0⟩ := ⟨hs, Nat.zero_le _⟩
  have hq := Cu.obj_ok h0
  refine AC.walk Tryz.func13 rfl (by decide) (of_decide_eq_true rfl) ?_
  unfold objw rdw
  generalize hp : Cu.obj ⟨s, 0, 0⟩ = z at *
  obtain ⟨v, c⟩ := z
  have hfe : Cu.fin ⟨c.s, c.a, c.e⟩ = c.fin := rfl
  simp only
  generalize hc : c.fin = d at *
  by_cases he : d.e = 0
  · rw [if_neg (by simpa using he), he]
    focus (have kxs := And.intro hp (And.intro hc hfe); have kk1 := uN [] (cursor_New s); have kk2 := uN [1] (object_Take ⟨s, 0, 0⟩ h0); have kk3 := uN [1] (cursor_End c.s c.a c.e hq); (repeat' (first | refine G ?_ | refine AW.ret ?_ | (refine GC ?_ ?_ <;> intro h <;> (try simp only [hsB] at h) <;> try (exfalso; first | omega | contradiction)) | (refine GL ?_ ?_ <;> intro h <;> (try simp only [Bool.not_true, Bool.not_false] at h) <;> (try simp only [h]) <;> (try simp only [hsB] at h) <;> try (exfalso; first | omega | contradiction)) | fail)); all_goals clear kxs kk1 kk2 kk3)
    all_goals first | ((all_goals first | exact RetQ.fr 0 | exact RetQ.fn 0 | fail); done) | (exfalso; simp_all; done)
  · rw [if_pos he]
    focus (have kxs := And.intro hp (And.intro hc hfe); have kk1 := uN [] (cursor_New s); have kk2 := uN [1] (object_Take ⟨s, 0, 0⟩ h0); have kk3 := uN [1] (cursor_End c.s c.a c.e hq); (repeat' (first | refine G ?_ | refine AW.ret ?_ | (refine GC ?_ ?_ <;> intro h <;> (try simp only [hsB] at h) <;> try (exfalso; first | omega | contradiction)) | (refine GL ?_ ?_ <;> intro h <;> (try simp only [Bool.not_true, Bool.not_false] at h) <;> (try simp only [h]) <;> (try simp only [hsB] at h) <;> try (exfalso; first | omega | contradiction)) | fail)); all_goals clear kxs kk1 kk2 kk3)
    all_goals first | (((all_goals first | refine RetQ.r 0 rfl (Nat.le_of_ble_eq_true rfl) rfl (by first | rfl | (simp only [go_sem, ↓reduceIte, Nat.reduceLT, Nat.lt_irrefl])) ⟨?_, ?_⟩ | refine RetQ.n 0 rfl (Nat.le_of_ble_eq_true rfl) rfl (by first | rfl | (simp only [go_sem, ↓reduceIte, Nat.reduceLT, Nat.lt_irrefl])) ⟨?_, ?_⟩); (all_goals first | rfl | (simp [oj0, *]; done) | ((simp only [go_sem, ↓reduceIte, Nat.reduceLT, oj0]; (repeat' split)) <;> first | rfl | (exfalso; omega) | (simp_all; done) | (simp_all; omega)))); done) | (exfalso; simp_all; done)
theorem ref16_Decode (s : List UInt8) (hs : s.length ≤ 140737488351232) : AC Tryz.prog 20 [sv (bs s)] [] fun x σ => x = .t [ojV (objw s).1, iv .i64 (objw s).2] ∧ σ = [] := by
  have h0 : Cu.Ok ⟨s, 0, 0⟩ := ⟨hs, Nat.zero_le _⟩
  have hq := Cu.obj_ok h0
  refine AC.walk Tryz.func20 rfl (by decide) (of_decide_eq_true rfl) ?_
  unfold objw rdw
  generalize hp : Cu.obj ⟨s, 0, 0⟩ = z at *
  obtain ⟨v, c⟩ := z
  have hfe : Cu.fin ⟨c.s, c.a, c.e⟩ = c.fin := rfl
  simp only
  generalize hc : c.fin = d at *
  by_cases he : d.e = 0
  · rw [if_neg (by simpa using he), he]
    focus (have kxs := And.intro hp (And.intro hc hfe); have kk1 := uN [1] (ref16_Take ⟨s, 0, 0⟩ h0); have kk2 := uN [1] (ref01_End c.s c.a c.e hq); (repeat' (first | refine G ?_ | refine AW.ret ?_ | (refine GC ?_ ?_ <;> intro h <;> (try simp only [hsB] at h) <;> try (exfalso; first | omega | contradiction)) | (refine GL ?_ ?_ <;> intro h <;> (try simp only [Bool.not_true, Bool.not_false] at h) <;> (try simp only [h]) <;> (try simp only [hsB] at h) <;> try (exfalso; first | omega | contradiction)) | fail)); all_goals clear kxs kk1 kk2)
    all_goals first | ((all_goals first | exact RetQ.fr 0 | exact RetQ.fn 0 | fail); done) | (exfalso; simp_all; done)
  · rw [if_pos he]
    focus (have kxs := And.intro hp (And.intro hc hfe); have kk1 := uN [1] (ref16_Take ⟨s, 0, 0⟩ h0); have kk2 := uN [1] (ref01_End c.s c.a c.e hq); (repeat' (first | refine G ?_ | refine AW.ret ?_ | (refine GC ?_ ?_ <;> intro h <;> (try simp only [hsB] at h) <;> try (exfalso; first | omega | contradiction)) | (refine GL ?_ ?_ <;> intro h <;> (try simp only [Bool.not_true, Bool.not_false] at h) <;> (try simp only [h]) <;> (try simp only [hsB] at h) <;> try (exfalso; first | omega | contradiction)) | fail)); all_goals clear kxs kk1 kk2)
    all_goals first | (((all_goals first | refine RetQ.r 0 rfl (Nat.le_of_ble_eq_true rfl) rfl (by first | rfl | (simp only [go_sem, ↓reduceIte, Nat.reduceLT, Nat.lt_irrefl])) ⟨?_, ?_⟩ | refine RetQ.n 0 rfl (Nat.le_of_ble_eq_true rfl) rfl (by first | rfl | (simp only [go_sem, ↓reduceIte, Nat.reduceLT, Nat.lt_irrefl])) ⟨?_, ?_⟩); (all_goals first | rfl | (simp [oj0, *]; done) | ((simp only [go_sem, ↓reduceIte, Nat.reduceLT, oj0]; (repeat' split)) <;> first | rfl | (exfalso; omega) | (simp_all; done) | (simp_all; omega)))); done) | (exfalso; simp_all; done)
end Go.AW
