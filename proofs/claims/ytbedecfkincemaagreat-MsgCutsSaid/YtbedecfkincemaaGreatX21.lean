/-
  objects that are written: the program's and the document's; whole texts.
-/
import Derived.Test.YtbedecfkincemaaGreatX20
import Derived.Test.YtbedecfkincemaaGreatX17
import Derived.Test.YtbedecfkincemaaGreatX19
import Derived.Test.YtbedecfkincemaaGreatX07
import Derived.Test.YtbedecfkincemaaGreatX10
namespace Go.AW
open Go Go.Proofs
set_option maxHeartbeats 2000000
set_option maxRecDepth 10000
set_option linter.unusedSimpArgs false
set_option linter.unusedVariables false
attribute [local irreducible] thenQ blockQ RetQ AL AW AC AOp

/-- What is known on the way through an object. -/
theorem Pe.obj_way {q : Pe} {o : Oj} (hc : o.check = 0) (hok : q.Ok) (hl : q.m ≤ 140737488355328 ∨ q.b.length + (eobj o).length + 120 ≤ 140737488355328) :
    ∃ p1 p2 : Pe, q.blob 128 o.key = p1 ∧ p1.count 16 (o.sibs.length : Nat) = p2 ∧ q.obj o = p2.sibs o.sibs ∧ p1.Ok ∧ p2.Ok ∧ o.key.length ≤ 128 ∧ o.sibs.length ≤ 16 ∧ p2.m = q.m ∧
      (q.m ≤ 140737488355328 ∨ q.b.length + 10 + o.key.length ≤ 140737488355328) ∧ (p1.m ≤ 140737488355328 ∨ p1.b.length + 10 ≤ 140737488355328) ∧ (p2.m ≤ 140737488355328 ∨ p2.b.length + (o.sibs.map esib).flatten.length + 80 ≤ 140737488355328) := by
  obtain ⟨k1, k2, k3, k4⟩ := outside_zero.1 (Oj.check_parts hc).1
  have hel : (eobj o).length = ((vput o.key.length).length + o.key.length) + ((vput o.sibs.length).length + (o.sibs.map esib).flatten.length) := by
    unfold eobj eblob; simp only [List.length_append]
  have hobj : q.obj o = ((q.blob 128 o.key).count 16 (o.sibs.length : Nat)).sibs o.sibs := by unfold Pe.obj; rw [if_neg (by simpa using hc)]
  have o1 := (pens_blob 128).keep (p := q) (x := o.key) hok (by unfold eblob; simp only [List.length_append]; omega)
  have m1 := (pens_blob 128).m q o.key
  have l1 := (pens_blob 128).len q o.key
  have he : (eblob o.key).length = (vput o.key.length).length + o.key.length := by unfold eblob; rw [List.length_append]
  refine ⟨q.blob 128 o.key, (q.blob 128 o.key).count 16 (o.sibs.length : Nat), rfl, rfl, hobj, ?_⟩
  try simp only at o1 m1 l1
  generalize q.blob 128 o.key = p1 at *
  have o2 := (pens_count 16).keep (p := p1) (x := o.sibs.length) o1 (by omega)
  have m2 := (pens_count 16).m p1 o.sibs.length
  have l2 := (pens_count 16).len p1 o.sibs.length
  try simp only at o2 m2 l2
  generalize p1.count 16 (o.sibs.length : Nat) = p2 at *
  exact ⟨o1, o2, k1, k3, by omega, by omega, by omega, by omega⟩

section
variable (b : List UInt8) (m e : Int)
theorem ref16_Put (ok : Pe.Ok ⟨b, m, e⟩) (o : Oj) (ho : o.fits) (hl : m ≤ 140737488355328 ∨ b.length + (eobj o).length + 120 ≤ 140737488355328) :
    AC Tryz.prog 171 [.p 0 0, ojV o] [Pe.ro ⟨b, m, e⟩] fun x σ => x = .t [] ∧ σ = [Pe.ro (Pe.obj ⟨b, m, e⟩ o)] := by
  refine AC.walk Tryz.func171 rfl (by decide) (of_decide_eq_true rfl) ?_
  by_cases hc : o.check = 0
  case neg =>
    have hv : Pe.obj ⟨b, m, e⟩ o = Pe.fail ⟨b, m, e⟩ o.check := by unfold Pe.obj; rw [if_pos hc]
    rw [hv]
    focus (have kxs := kx0; have kk1 := uN [] (ref16_Check o ho); have kua1 := fun za => uN [0] (ref02_Fail b m e za); (repeat' (first | refine G ?_ | refine AW.ret ?_ | (refine GC ?_ ?_ <;> intro h <;> (try simp only [hsB] at h) <;> try exact xf) | (refine GL ?_ ?_ <;> intro h <;> (try simp only [hsN] at h) <;> (try simp only [h]) <;> (try simp only [hsB] at h) <;> try exact xf) | fail)); all_goals clear kxs kk1 kua1)
    all_goals first | exact RetQ.fr 1 | exact RetQ.fn 1 | (exfalso; simp_all; done)
  obtain ⟨p1, p2, g1, g2, g3, o1, o2, k1, k3, m2, b0, b1, b2⟩ := Pe.obj_way hc ok hl
  have g2' : Pe.count ⟨p1.b, p1.m, p1.e⟩ 16 (o.sibs.length : Nat) = p2 := g2
  focus (have kxs := And.intro hc (And.intro g1 g2'); have kk1 := uN [] (ref16_Check o ho); have kk2 := uN [0] (ref06_Put b o.key m e 128 ok (by omega) b0); have kk3 := uN [0] (ref06_PutCount p1.b p1.m p1.e 16 o1 (o.sibs.length : Nat) (by omega) b1); (repeat' (first | refine G ?_ | refine AW.ret ?_ | (refine GC ?_ ?_ <;> intro h <;> (try simp only [hsB] at h) <;> try exact xf) | (refine GL ?_ ?_ <;> intro h <;> (try simp only [hsN] at h) <;> (try simp only [h]) <;> (try simp only [hsB] at h) <;> try exact xf) | fail)); all_goals clear kxs kk1 kk2 kk3)
  all_goals first | (exfalso; simp_all; done) | skip
  refine AW.rounds [0, 3, 5] (fun i : Nat => [(0, .p 0 0), (3, .p 1 0), (5, iv .i64 i)]) (fun i => [Pe.ro (p2.sibs (o.sibs.take i)), .box 26 [sv (bs o.key), .d (.l o.sibs.length (sbsD o.sibs))]])
    (fun i => i ≤ o.sibs.length) (fun i => o.sibs.length - i) 0 (Nat.zero_le _) rfl rfl (fun _ _ => Nat.le_of_ble_eq_true rfl) (fun _ _ => rfl) (fun _ _ => rfl) ?_
  intro i hi J hJ
  have htf := take_flat esib o.sibs i
  have hqo := pens_sibs.keep (p := p2) (x := o.sibs.take i) o2 (by omega)
  have hqm := pens_sibs.m p2 (o.sibs.take i)
  have hql := pens_sibs.len p2 (o.sibs.take i)
  generalize hq : p2.sibs (o.sibs.take i) = q at *
  by_cases hil : i < o.sibs.length
  case neg =>
    have hi2 : i = o.sibs.length := by omega
    rw [hi2, List.take_length] at hq
    rw [g3, hq]
    focus (have kxs := kx0; (repeat' (first | refine G ?_ | refine AW.ret ?_ | (refine GC ?_ ?_ <;> intro h <;> (try simp only [hsB] at h) <;> try exact xf) | (refine GL ?_ ?_ <;> intro h <;> (try simp only [hsN] at h) <;> (try simp only [h]) <;> (try simp only [hsB] at h) <;> try exact xf) | fail)); all_goals clear kxs)
    all_goals first | exact RetQ.fr 1 | exact RetQ.fn 1 | (exfalso; simp_all; done)
  obtain ⟨x, r, hd⟩ := next_at hil
  have hcd := sbs_drop hd
  rw [hd] at htf
  simp only [List.map_cons, List.flatten_cons, List.length_append] at htf
  have hn2 : p2.sibs (o.sibs.take (i + 1)) = q.sib x := by rw [next_take hd, Pe.sibs_snoc, hq]
  have hfx := ho.2.2 x (next_mem hd)
  focus (have kxs := hcd; have kk1 := uN [0] (ref15_Put q.b q.m q.e hqo x hfx (by omega)); (repeat' (first | refine G ?_ | refine AW.ret ?_ | (refine GC ?_ ?_ <;> intro h <;> (try simp only [hsB] at h) <;> try exact xf) | (refine GL ?_ ?_ <;> intro h <;> (try simp only [hsN] at h) <;> (try simp only [h]) <;> (try simp only [hsB] at h) <;> try exact xf) | fail)); all_goals clear kxs kk1)
  all_goals first | (refine hJ (i + 1) _ _ (by omega) hil rfl ?_; rw [hn2]; rfl) | (exfalso; simp_all; done)
end

theorem ref16_Encode (o : Oj) (ho : o.fits) : AC Tryz.prog 88 [ojV o] [] fun x σ => x = .t [sv (bs (obje o).1), iv .i64 (obje o).2] ∧ σ = [] := by
  refine AC.walk Tryz.func88 rfl (by decide) (of_decide_eq_true rfl) ?_
  unfold obje wre
  generalize hp : Pe.obj ⟨[], 65536, 0⟩ o = q at *
  focus (have kxs := hp; have kk1 := uN [] (ref02_New 65536); have kk2 := uN [1] (ref16_Put [] 65536 0 pe0_ok o ho (.inl (by decide))); have kk3 := uN [1] (ref02_End q.b q.m q.e); (repeat' (first | refine G ?_ | refine AW.ret ?_ | (refine GC ?_ ?_ <;> intro h <;> (try simp only [hsB] at h) <;> try exact xf) | (refine GL ?_ ?_ <;> intro h <;> (try simp only [hsN] at h) <;> (try simp only [h]) <;> (try simp only [hsB] at h) <;> try exact xf) | fail)); all_goals clear kxs kk1 kk2 kk3)
  all_goals first | exact RetQ.fr 0 | exact RetQ.fn 0 | (exfalso; simp_all; done)
theorem object_Decode (s : List UInt8) (hs : s.length ≤ 140737488351232) : AC Tryz.prog 244 [sv (bs s)] [] fun x σ => x = .t [ojV (objw s).1, iv .i64 (objw s).2] ∧ σ = [] := by
  have h0 : Cu.Ok ⟨s, 0, 0⟩ := ⟨hs, Nat.zero_le _⟩
  have hq := Cu.obj_ok h0
  refine AC.walk Tryz.func244 rfl (by decide) (of_decide_eq_true rfl) ?_
  unfold objw rdw
  generalize hp : Cu.obj ⟨s, 0, 0⟩ = z at *
  obtain ⟨v, c⟩ := z
  have hfe : Cu.fin ⟨c.s, c.a, c.e⟩ = c.fin := rfl
  simp only
  generalize hc : c.fin = d at *
  by_cases he : d.e = 0
  · rw [if_neg (by simpa using he), he]
    focus (have kxs := And.intro hp (And.intro hc hfe); have kk1 := uN [] (cursor_New s); have kk2 := uN [1] (object_Take ⟨s, 0, 0⟩ h0); have kk3 := uN [1] (cursor_End c.s c.a c.e hq); (repeat' (first | refine G ?_ | refine AW.ret ?_ | (refine GC ?_ ?_ <;> intro h <;> (try simp only [hsB] at h) <;> try exact xf) | (refine GL ?_ ?_ <;> intro h <;> (try simp only [hsN] at h) <;> (try simp only [h]) <;> (try simp only [hsB] at h) <;> try exact xf) | fail)); all_goals clear kxs kk1 kk2 kk3)
    all_goals first | exact RetQ.fr 0 | exact RetQ.fn 0 | (exfalso; simp_all; done)
  · rw [if_pos he]
    focus (have kxs := And.intro hp (And.intro hc hfe); have kk1 := uN [] (cursor_New s); have kk2 := uN [1] (object_Take ⟨s, 0, 0⟩ h0); have kk3 := uN [1] (cursor_End c.s c.a c.e hq); (repeat' (first | refine G ?_ | refine AW.ret ?_ | (refine GC ?_ ?_ <;> intro h <;> (try simp only [hsB] at h) <;> try exact xf) | (refine GL ?_ ?_ <;> intro h <;> (try simp only [hsN] at h) <;> (try simp only [h]) <;> (try simp only [hsB] at h) <;> try exact xf) | fail)); all_goals clear kxs kk1 kk2 kk3)
    all_goals first | (((all_goals first | refine RetQ.r 0 rfl (Nat.le_of_ble_eq_true rfl) rfl (by first | rfl | (simp only [go_sem, ↓reduceIte, Nat.reduceLT, Nat.lt_irrefl])) ⟨?_, ?_⟩ | refine RetQ.n 0 rfl (Nat.le_of_ble_eq_true rfl) rfl (by first | rfl | (simp only [go_sem, ↓reduceIte, Nat.reduceLT, Nat.lt_irrefl])) ⟨?_, ?_⟩); (all_goals first | rfl | (simp [oj0, *]; done) | ((simp only [go_sem, ↓reduceIte, Nat.reduceLT, oj0]; (repeat' split)) <;> first | rfl | (exfalso; omega) | (simp_all; done) | (simp_all; omega)))); done) | (exfalso; simp_all; done)
end Go.AW
/-
  a message's parts: how they are read.
-/
namespace Go.AW
open Go Go.Proofs
set_option maxHeartbeats 4000000
set_option maxRecDepth 10000
set_option linter.unusedSimpArgs false
set_option linter.unusedVariables false
attribute [local irreducible] thenQ blockQ RetQ AL AW AC AOp

theorem take_Key (c : Cu) (hok : c.Ok) (d0 d1 d2 d3 d4 d5 d6 d7 d8 d9 d10 d11 d12 d13 d14 d15 d16 d17 d18 d19 : D) : AC Tryz.prog 218 [.p 0 0, .p 1 0, .p 2 0, .p 3 0, .p 4 0] [Cu.ob c, .box 38 [.d d0, .d d1, .d d2, .d d3, .d d4, .d d5, .d d6, .d d7, .d d8, .d d9, .d d10, .d d11, .d d12, .d d13, .d d14, .d d15, .d d16, .d d17, .d d18, .d d19], .box 3 [iv .i64 128], .box 231 [.f (.func 150) [] []], .box 4 [bv true]] fun y σ => y = .t [] ∧ σ = [Cu.ob (Cu.okey c).2, .box 38 [.d d0, .d d1, sv (bs (Cu.okey c).1), .d d3, .d d4, .d d5, .d d6, .d d7, .d d8, .d d9, .d d10, .d d11, .d d12, .d d13, .d d14, .d d15, .d d16, .d d17, .d d18, .d d19], .box 3 [iv .i64 128], .box 231 [.f (.func 150) [] []], .box 4 [bv true]] := by
  refine AC.walk Tryz.func218 rfl (by decide) (of_decide_eq_true rfl) ?_
  have hof := of_Key [.d d0, .d d1, .d d2, .d d3, .d d4, .d d5, .d d6, .d d7, .d d8, .d d9, .d d10, .d d11, .d d12, .d d13, .d d14, .d d15, .d d16, .d d17, .d d18, .d d19] rfl
  have hb := blob_Take c.s c.a c.e 128 hok (by decide)
  obtain ⟨R, hR⟩ : ∃ R, R = Cu.okey c := ⟨_, rfl⟩
  rw [← hR]
  unfold Cu.okey at hR
  have he : Cu.blob c 128 = Cu.blob ⟨c.s, c.a, c.e⟩ 128 := rfl
  rw [he] at hR
  generalize Cu.blob ⟨c.s, c.a, c.e⟩ 128 = z at *
  obtain ⟨t, c1⟩ := z
  simp only at hb hR
  have hof2 := of_Key [.d d0, .d d1, .d (.s (.string ⟨t.toArray⟩)), .d d3, .d d4, .d d5, .d d6, .d d7, .d d8, .d d9, .d d10, .d d11, .d d12, .d d13, .d d14, .d d15, .d d16, .d d17, .d d18, .d d19] rfl
  have hfl := cursor_Fail c1.s c1.a c1.e 14
  by_cases h0 : t = []
  · rw [decide_eq_false (by simpa using h0)] at hR
    have hR : R = (t, c1.fail 14) := hR
    subst hR
    subst h0
    focus (have kxs := kx0; have kk1 := uN [1] (hof); have kk2 := uN [1] (hof2); have kk3 := uN [0] (hb); have kk4 := uN [0] (hfl); (repeat' (first | (refine ADr.nil ?_; try clear hgv) | refine GW ?_ | refine AW.ret ?_ | (refine GC ?_ ?_ <;> intro h <;> (try simp only [hsB] at h) <;> try exact xf) | (refine GD ?_ ?_ <;> intro h <;> (try intro hgv) <;> (try simp only [hsN] at h) <;> (try simp only [h]) <;> (try simp only [hsB] at h) <;> try exact xf) | (refine GL ?_ ?_ <;> intro h <;> (try simp only [hsN] at h) <;> (try simp only [h]) <;> (try simp only [hsB] at h) <;> try exact xf) | fail)); all_goals clear kxs kk1 kk2 kk3 kk4)
    all_goals first | exact RetQ.fr 5 | exact RetQ.fn 5 | (exfalso; omega) | (exfalso; simp_all; done)
  · rw [decide_eq_true h0] at hR
    have hR : R = (t, c1) := hR
    subst hR
    focus (have kxs := kx0; have kk1 := uN [1] (hof); have kk2 := uN [1] (hof2); have kk3 := uN [0] (hb); have kk4 := uN [0] (hfl); (repeat' (first | (refine ADr.nil ?_; try clear hgv) | refine GW ?_ | refine AW.ret ?_ | (refine GC ?_ ?_ <;> intro h <;> (try simp only [hsB] at h) <;> try exact xf) | (refine GD ?_ ?_ <;> intro h <;> (try intro hgv) <;> (try simp only [hsN] at h) <;> (try simp only [h]) <;> (try simp only [hsB] at h) <;> try exact xf) | (refine GL ?_ ?_ <;> intro h <;> (try simp only [hsN] at h) <;> (try simp only [h]) <;> (try simp only [hsB] at h) <;> try exact xf) | fail)); all_goals clear kxs kk1 kk2 kk3 kk4)
    all_goals first | exact RetQ.fr 5 | exact RetQ.fn 5 | (exfalso; omega) | (exfalso; simp_all; done)
theorem take_Text (c : Cu) (hok : c.Ok) (d0 d1 d2 d3 d4 d5 d6 d7 d8 d9 d10 d11 d12 d13 d14 d15 d16 d17 d18 d19 : D) : AC Tryz.prog 218 [.p 0 0, .p 1 0, .p 2 0, .p 3 0, .p 4 0] [Cu.ob c, .box 38 [.d d0, .d d1, .d d2, .d d3, .d d4, .d d5, .d d6, .d d7, .d d8, .d d9, .d d10, .d d11, .d d12, .d d13, .d d14, .d d15, .d d16, .d d17, .d d18, .d d19], .box 3 [iv .i64 64], .box 231 [.f (.func 153) [] []], .box 4 [bv false]] fun y σ => y = .t [] ∧ σ = [Cu.ob (Cu.blob c 64).2, .box 38 [.d d0, .d d1, .d d2, .d d3, .d d4, .d d5, .d d6, .d d7, .d d8, .d d9, .d d10, .d d11, .d d12, .d d13, .d d14, .d d15, .d d16, .d d17, .d d18, sv (bs (Cu.blob c 64).1)], .box 3 [iv .i64 64], .box 231 [.f (.func 153) [] []], .box 4 [bv false]] := by
  refine AC.walk Tryz.func218 rfl (by decide) (of_decide_eq_true rfl) ?_
  have hof := of_Text [.d d0, .d d1, .d d2, .d d3, .d d4, .d d5, .d d6, .d d7, .d d8, .d d9, .d d10, .d d11, .d d12, .d d13, .d d14, .d d15, .d d16, .d d17, .d d18, .d d19] rfl
  have hb := blob_Take c.s c.a c.e 64 hok (by decide)
  have he : Cu.blob c 64 = Cu.blob ⟨c.s, c.a, c.e⟩ 64 := rfl
  rw [he]
  generalize Cu.blob ⟨c.s, c.a, c.e⟩ 64 = z at *
  obtain ⟨t, c1⟩ := z
  simp only at hb ⊢
  focus (have kxs := kx0; have kk1 := uN [1] (hof); have kk2 := uN [0] (hb); (repeat' (first | (refine ADr.nil ?_; try clear hgv) | refine GW ?_ | refine AW.ret ?_ | (refine GC ?_ ?_ <;> intro h <;> (try simp only [hsB] at h) <;> try exact xf) | (refine GD ?_ ?_ <;> intro h <;> (try intro hgv) <;> (try simp only [hsN] at h) <;> (try simp only [h]) <;> (try simp only [hsB] at h) <;> try exact xf) | (refine GL ?_ ?_ <;> intro h <;> (try simp only [hsN] at h) <;> (try simp only [h]) <;> (try simp only [hsB] at h) <;> try exact xf) | fail)); all_goals clear kxs kk1 kk2)
  all_goals first | exact RetQ.fr 5 | exact RetQ.fn 5 | (exfalso; omega) | (exfalso; simp_all; done)
theorem take_Value (c : Cu) (hok : c.Ok) (d0 d1 d2 d3 d4 d5 d6 d7 d8 d9 d10 d11 d12 d13 d14 d15 d16 d17 d18 d19 : D) : AC Tryz.prog 218 [.p 0 0, .p 1 0, .p 2 0, .p 3 0, .p 4 0] [Cu.ob c, .box 38 [.d d0, .d d1, .d d2, .d d3, .d d4, .d d5, .d d6, .d d7, .d d8, .d d9, .d d10, .d d11, .d d12, .d d13, .d d14, .d d15, .d d16, .d d17, .d d18, .d d19], .box 3 [iv .i64 32768], .box 231 [.f (.func 161) [] []], .box 4 [bv false]] fun y σ => y = .t [] ∧ σ = [Cu.ob (Cu.blob c 32768).2, .box 38 [.d d0, .d d1, .d d2, .d d3, .d d4, .d d5, .d d6, .d d7, .d d8, .d d9, .d d10, sv (bs (Cu.blob c 32768).1), .d d12, .d d13, .d d14, .d d15, .d d16, .d d17, .d d18, .d d19], .box 3 [iv .i64 32768], .box 231 [.f (.func 161) [] []], .box 4 [bv false]] := by
  refine AC.walk Tryz.func218 rfl (by decide) (of_decide_eq_true rfl) ?_
  have hof := of_Value [.d d0, .d d1, .d d2, .d d3, .d d4, .d d5, .d d6, .d d7, .d d8, .d d9, .d d10, .d d11, .d d12, .d d13, .d d14, .d d15, .d d16, .d d17, .d d18, .d d19] rfl
  have hb := blob_Take c.s c.a c.e 32768 hok (by decide)
  have he : Cu.blob c 32768 = Cu.blob ⟨c.s, c.a, c.e⟩ 32768 := rfl
  rw [he]
  generalize Cu.blob ⟨c.s, c.a, c.e⟩ 32768 = z at *
  obtain ⟨t, c1⟩ := z
  simp only at hb ⊢
  focus (have kxs := kx0; have kk1 := uN [1] (hof); have kk2 := uN [0] (hb); (repeat' (first | (refine ADr.nil ?_; try clear hgv) | refine GW ?_ | refine AW.ret ?_ | (refine GC ?_ ?_ <;> intro h <;> (try simp only [hsB] at h) <;> try exact xf) | (refine GD ?_ ?_ <;> intro h <;> (try intro hgv) <;> (try simp only [hsN] at h) <;> (try simp only [h]) <;> (try simp only [hsB] at h) <;> try exact xf) | (refine GL ?_ ?_ <;> intro h <;> (try simp only [hsN] at h) <;> (try simp only [h]) <;> (try simp only [hsB] at h) <;> try exact xf) | fail)); all_goals clear kxs kk1 kk2)
  all_goals first | exact RetQ.fr 5 | exact RetQ.fn 5 | (exfalso; omega) | (exfalso; simp_all; done)
theorem take_Prefix (c : Cu) (hok : c.Ok) (d0 d1 d2 d3 d4 d5 d6 d7 d8 d9 d10 d11 d12 d13 d14 d15 d16 d17 d18 d19 : D) : AC Tryz.prog 218 [.p 0 0, .p 1 0, .p 2 0, .p 3 0, .p 4 0] [Cu.ob c, .box 38 [.d d0, .d d1, .d d2, .d d3, .d d4, .d d5, .d d6, .d d7, .d d8, .d d9, .d d10, .d d11, .d d12, .d d13, .d d14, .d d15, .d d16, .d d17, .d d18, .d d19], .box 3 [iv .i64 31], .box 231 [.f (.func 162) [] []], .box 4 [bv false]] fun y σ => y = .t [] ∧ σ = [Cu.ob (Cu.blob c 31).2, .box 38 [.d d0, .d d1, .d d2, .d d3, .d d4, .d d5, .d d6, .d d7, .d d8, .d d9, .d d10, .d d11, sv (bs (Cu.blob c 31).1), .d d13, .d d14, .d d15, .d d16, .d d17, .d d18, .d d19], .box 3 [iv .i64 31], .box 231 [.f (.func 162) [] []], .box 4 [bv false]] := by
  refine AC.walk Tryz.func218 rfl (by decide) (of_decide_eq_true rfl) ?_
  have hof := of_Prefix [.d d0, .d d1, .d d2, .d d3, .d d4, .d d5, .d d6, .d d7, .d d8, .d d9, .d d10, .d d11, .d d12, .d d13, .d d14, .d d15, .d d16, .d d17, .d d18, .d d19] rfl
  have hb := blob_Take c.s c.a c.e 31 hok (by decide)
  have he : Cu.blob c 31 = Cu.blob ⟨c.s, c.a, c.e⟩ 31 := rfl
  rw [he]
  generalize Cu.blob ⟨c.s, c.a, c.e⟩ 31 = z at *
  obtain ⟨t, c1⟩ := z
  simp only at hb ⊢
  focus (have kxs := kx0; have kk1 := uN [1] (hof); have kk2 := uN [0] (hb); (repeat' (first | (refine ADr.nil ?_; try clear hgv) | refine GW ?_ | refine AW.ret ?_ | (refine GC ?_ ?_ <;> intro h <;> (try simp only [hsB] at h) <;> try exact xf) | (refine GD ?_ ?_ <;> intro h <;> (try intro hgv) <;> (try simp only [hsN] at h) <;> (try simp only [h]) <;> (try simp only [hsB] at h) <;> try exact xf) | (refine GL ?_ ?_ <;> intro h <;> (try simp only [hsN] at h) <;> (try simp only [h]) <;> (try simp only [hsB] at h) <;> try exact xf) | fail)); all_goals clear kxs kk1 kk2)
  all_goals first | exact RetQ.fr 5 | exact RetQ.fn 5 | (exfalso; omega) | (exfalso; simp_all; done)
theorem take_Found (c : Cu) (hok : c.Ok) (d0 d1 d2 d3 d4 d5 d6 d7 d8 d9 d10 d11 d12 d13 d14 d15 d16 d17 d18 d19 : D) : AC Tryz.prog 224 [.p 0 0, .p 1 0, .p 2 0] [Cu.ob c, .box 38 [.d d0, .d d1, .d d2, .d d3, .d d4, .d d5, .d d6, .d d7, .d d8, .d d9, .d d10, .d d11, .d d12, .d d13, .d d14, .d d15, .d d16, .d d17, .d d18, .d d19], .box 234 [.f (.func 152) [] []]] fun y σ => y = .t [] ∧ σ = [Cu.ob (Cu.flag c).2, .box 38 [.d d0, .d d1, .d d2, bv (Cu.flag c).1, .d d4, .d d5, .d d6, .d d7, .d d8, .d d9, .d d10, .d d11, .d d12, .d d13, .d d14, .d d15, .d d16, .d d17, .d d18, .d d19], .box 234 [.f (.func 152) [] []]] := by
  refine AC.walk Tryz.func224 rfl (by decide) (of_decide_eq_true rfl) ?_
  have hof := of_Found [.d d0, .d d1, .d d2, .d d3, .d d4, .d d5, .d d6, .d d7, .d d8, .d d9, .d d10, .d d11, .d d12, .d d13, .d d14, .d d15, .d d16, .d d17, .d d18, .d d19] rfl
  have hb := blob_Flag c.s c.a c.e hok
  have he : Cu.flag c = Cu.flag ⟨c.s, c.a, c.e⟩ := rfl
  rw [he]
  generalize Cu.flag ⟨c.s, c.a, c.e⟩ = z at *
  obtain ⟨t, c1⟩ := z
  simp only at hb ⊢
  focus (have kxs := kx0; have kk1 := uN [1] (hof); have kk2 := uN [0] (hb); (repeat' (first | (refine ADr.nil ?_; try clear hgv) | refine GW ?_ | refine AW.ret ?_ | (refine GC ?_ ?_ <;> intro h <;> (try simp only [hsB] at h) <;> try exact xf) | (refine GD ?_ ?_ <;> intro h <;> (try intro hgv) <;> (try simp only [hsN] at h) <;> (try simp only [h]) <;> (try simp only [hsB] at h) <;> try exact xf) | (refine GL ?_ ?_ <;> intro h <;> (try simp only [hsN] at h) <;> (try simp only [h]) <;> (try simp only [hsB] at h) <;> try exact xf) | fail)); all_goals clear kxs kk1 kk2)
  all_goals first | exact RetQ.fr 3 | exact RetQ.fn 3 | (exfalso; omega) | (exfalso; simp_all; done)
theorem take_Dead (c : Cu) (hok : c.Ok) (d0 d1 d2 d3 d4 d5 d6 d7 d8 d9 d10 d11 d12 d13 d14 d15 d16 d17 d18 d19 : D) : AC Tryz.prog 224 [.p 0 0, .p 1 0, .p 2 0] [Cu.ob c, .box 38 [.d d0, .d d1, .d d2, .d d3, .d d4, .d d5, .d d6, .d d7, .d d8, .d d9, .d d10, .d d11, .d d12, .d d13, .d d14, .d d15, .d d16, .d d17, .d d18, .d d19], .box 234 [.f (.func 158) [] []]] fun y σ => y = .t [] ∧ σ = [Cu.ob (Cu.flag c).2, .box 38 [.d d0, .d d1, .d d2, .d d3, .d d4, .d d5, .d d6, .d d7, .d d8, .d d9, bv (Cu.flag c).1, .d d11, .d d12, .d d13, .d d14, .d d15, .d d16, .d d17, .d d18, .d d19], .box 234 [.f (.func 158) [] []]] := by
  refine AC.walk Tryz.func224 rfl (by decide) (of_decide_eq_true rfl) ?_
  have hof := of_Dead [.d d0, .d d1, .d d2, .d d3, .d d4, .d d5, .d d6, .d d7, .d d8, .d d9, .d d10, .d d11, .d d12, .d d13, .d d14, .d d15, .d d16, .d d17, .d d18, .d d19] rfl
  have hb := blob_Flag c.s c.a c.e hok
  have he : Cu.flag c = Cu.flag ⟨c.s, c.a, c.e⟩ := rfl
  rw [he]
  generalize Cu.flag ⟨c.s, c.a, c.e⟩ = z at *
  obtain ⟨t, c1⟩ := z
  simp only at hb ⊢
  focus (have kxs := kx0; have kk1 := uN [1] (hof); have kk2 := uN [0] (hb); (repeat' (first | (refine ADr.nil ?_; try clear hgv) | refine GW ?_ | refine AW.ret ?_ | (refine GC ?_ ?_ <;> intro h <;> (try simp only [hsB] at h) <;> try exact xf) | (refine GD ?_ ?_ <;> intro h <;> (try intro hgv) <;> (try simp only [hsN] at h) <;> (try simp only [h]) <;> (try simp only [hsB] at h) <;> try exact xf) | (refine GL ?_ ?_ <;> intro h <;> (try simp only [hsN] at h) <;> (try simp only [h]) <;> (try simp only [hsB] at h) <;> try exact xf) | fail)); all_goals clear kxs kk1 kk2)
  all_goals first | exact RetQ.fr 3 | exact RetQ.fn 3 | (exfalso; omega) | (exfalso; simp_all; done)
theorem take_ctx (c : Cu) (hok : c.Ok) (d0 d1 d2 d3 d4 d5 d6 d7 d8 d9 d10 d11 d12 d13 d14 d15 d16 d17 d18 d19 : D) : AC Tryz.prog 256 [.p 0 0, .p 1 0] [Cu.ob c, .box 38 [.d d0, .d d1, .d d2, .d d3, .d d4, .d d5, .d d6, .d d7, .d d8, .d d9, .d d10, .d d11, .d d12, .d d13, .d d14, .d d15, .d d16, .d d17, .d d18, .d d19]] fun y σ => y = .t [] ∧ σ = [Cu.ob (Cu.vec c).2, .box 38 [.d d0, .d d1, .d d2, .d d3, .d d4, .d d5, .d d6, .d d7, .d (.l (Cu.vec c).1.length (vecD (Cu.vec c).1)), .d d9, .d d10, .d d11, .d d12, .d d13, .d d14, .d d15, .d d16, .d d17, .d d18, .d d19]] := by
  refine AC.walk Tryz.func256 rfl (by decide) (of_decide_eq_true rfl) ?_
  have hb := vcode_Take c.s c.a c.e hok
  have he : Cu.vec c = Cu.vec ⟨c.s, c.a, c.e⟩ := rfl
  rw [he]
  generalize Cu.vec ⟨c.s, c.a, c.e⟩ = z at *
  obtain ⟨t, c1⟩ := z
  simp only at hb ⊢
  focus (have kxs := kx0; have kk1 := uN [0] (hb); (repeat' (first | refine G ?_ | refine AW.ret ?_ | (refine GC ?_ ?_ <;> intro h <;> (try simp only [hsB] at h) <;> try exact xf) | (refine GL ?_ ?_ <;> intro h <;> (try simp only [hsN] at h) <;> (try simp only [h]) <;> (try simp only [hsB] at h) <;> try exact xf) | fail)); all_goals clear kxs kk1)
  all_goals first | exact RetQ.fr 2 | exact RetQ.fn 2 | (exfalso; omega) | (exfalso; simp_all; done)
theorem take_meta (c : Cu) (hok : c.Ok) (d0 d1 d2 d3 d4 d5 d6 d7 d8 d9 d10 d11 d12 d13 d14 d15 d16 d17 d18 d19 : D) : AC Tryz.prog 262 [.p 0 0, .p 1 0] [Cu.ob c, .box 38 [.d d0, .d d1, .d d2, .d d3, .d d4, .d d5, .d d6, .d d7, .d d8, .d d9, .d d10, .d d11, .d d12, .d d13, .d d14, .d d15, .d d16, .d d17, .d d18, .d d19]] fun y σ => y = .t [] ∧ σ = [Cu.ob (Cu.prs c).2, .box 38 [.d d0, .d d1, .d d2, .d d3, .d d4, .d d5, .d d6, .d d7, .d d8, .d (.l (Cu.prs c).1.length (prsD (Cu.prs c).1)), .d d10, .d d11, .d d12, .d d13, .d d14, .d d15, .d d16, .d d17, .d d18, .d d19]] := by
  refine AC.walk Tryz.func262 rfl (by decide) (of_decide_eq_true rfl) ?_
  have hb := pairs_Take c.s c.a c.e hok
  have he : Cu.prs c = Cu.prs ⟨c.s, c.a, c.e⟩ := rfl
  rw [he]
  generalize Cu.prs ⟨c.s, c.a, c.e⟩ = z at *
  obtain ⟨t, c1⟩ := z
  simp only at hb ⊢
  focus (have kxs := kx0; have kk1 := uN [0] (hb); (repeat' (first | refine G ?_ | refine AW.ret ?_ | (refine GC ?_ ?_ <;> intro h <;> (try simp only [hsB] at h) <;> try exact xf) | (refine GL ?_ ?_ <;> intro h <;> (try simp only [hsN] at h) <;> (try simp only [h]) <;> (try simp only [hsB] at h) <;> try exact xf) | fail)); all_goals clear kxs kk1)
  all_goals first | exact RetQ.fr 2 | exact RetQ.fn 2 | (exfalso; omega) | (exfalso; simp_all; done)
theorem take_ring (c : Cu) (hok : c.Ok) (d0 d1 d2 d3 d4 d5 d6 d7 d8 d9 d10 d11 d12 d13 d14 d15 d16 d17 d18 d19 : D) : AC Tryz.prog 278 [.p 0 0, .p 1 0] [Cu.ob c, .box 38 [.d d0, .d d1, .d d2, .d d3, .d d4, .d d5, .d d6, .d d7, .d d8, .d d9, .d d10, .d d11, .d d12, .d d13, .d d14, .d d15, .d d16, .d d17, .d d18, .d d19]] fun y σ => y = .t [] ∧ σ = [Cu.ob (Cu.ring c).2, .box 38 [.d d0, .d d1, .d d2, .d d3, .d d4, .d d5, .d d6, .d d7, .d d8, .d d9, .d d10, .d d11, .d d12, .d d13, .d d14, .d d15, .d d16, .d (.l (Cu.ring c).1.length (ringD (Cu.ring c).1)), .d d18, .d d19]] := by
  refine AC.walk Tryz.func278 rfl (by decide) (of_decide_eq_true rfl) ?_
  have hb := ring_Take c.s c.a c.e hok
  have he : Cu.ring c = Cu.ring ⟨c.s, c.a, c.e⟩ := rfl
  rw [he]
  generalize Cu.ring ⟨c.s, c.a, c.e⟩ = z at *
  obtain ⟨t, c1⟩ := z
  simp only at hb ⊢
  focus (have kxs := kx0; have kk1 := uN [0] (hb); (repeat' (first | refine G ?_ | refine AW.ret ?_ | (refine GC ?_ ?_ <;> intro h <;> (try simp only [hsB] at h) <;> try exact xf) | (refine GL ?_ ?_ <;> intro h <;> (try simp only [hsN] at h) <;> (try simp only [h]) <;> (try simp only [hsB] at h) <;> try exact xf) | fail)); all_goals clear kxs kk1)
  all_goals first | exact RetQ.fr 2 | exact RetQ.fn 2 | (exfalso; omega) | (exfalso; simp_all; done)
theorem take_code (c : Cu) (hok : c.Ok) (d0 d1 d2 d3 d4 d5 d6 d7 d8 d9 d10 d11 d12 d13 d14 d15 d16 d17 d18 d19 : D) : AC Tryz.prog 250 [.p 0 0, .p 1 0] [Cu.ob c, .box 38 [.d d0, .d d1, .d d2, .d d3, .d d4, .d d5, .d d6, .d d7, .d d8, .d d9, .d d10, .d d11, .d d12, .d d13, .d d14, .d d15, .d d16, .d d17, .d d18, .d d19]] fun y σ => y = .t [] ∧ σ = [Cu.ob (Cu.count c 255).2, .box 38 [.d d0, .d d1, .d d2, .d d3, .d d4, .d d5, .d d6, .d d7, .d d8, .d d9, .d d10, .d d11, .d d12, .d d13, .d d14, .d d15, .d d16, .d d17, iv .i64 ((Cu.count c 255).1 : Nat), .d d19]] := by
  refine AC.walk Tryz.func250 rfl (by decide) (of_decide_eq_true rfl) ?_
  have hb := blob_Count c.s c.a c.e 255 hok (by decide)
  have he : Cu.count c 255 = Cu.count ⟨c.s, c.a, c.e⟩ 255 := rfl
  rw [he]
  generalize Cu.count ⟨c.s, c.a, c.e⟩ 255 = z at *
  obtain ⟨t, c1⟩ := z
  simp only at hb ⊢
  focus (have kxs := kx0; have kk1 := uN [0] (hb); (repeat' (first | refine G ?_ | refine AW.ret ?_ | (refine GC ?_ ?_ <;> intro h <;> (try simp only [hsB] at h) <;> try exact xf) | (refine GL ?_ ?_ <;> intro h <;> (try simp only [hsN] at h) <;> (try simp only [h]) <;> (try simp only [hsB] at h) <;> try exact xf) | fail)); all_goals clear kxs kk1)
  all_goals first | exact RetQ.fr 2 | exact RetQ.fn 2 | (exfalso; omega) | (exfalso; simp_all; done)
theorem take_page (c : Cu) (hok : c.Ok) (d0 d1 d2 d3 d4 d5 d6 d7 d8 d9 d10 d11 d12 d13 d14 d15 d16 d17 d18 d19 : D) : AC Tryz.prog 269 [.p 0 0, .p 1 0] [Cu.ob c, .box 38 [.d d0, .d d1, .d d2, .d d3, .d d4, .d d5, .d d6, .d d7, .d d8, .d d9, .d d10, .d d11, .d d12, .d d13, .d d14, .d d15, .d d16, .d d17, .d d18, .d d19]] fun y σ => y = .t [] ∧ σ = [Cu.ob (Cu.page c).2, .box 38 [.d d0, .d d1, .d d2, .d d3, .d d4, .d d5, .d d6, .d d7, .d d8, .d d9, .d d10, .d d11, .d d12, sv (bs (Cu.page c).1.pre), bv (Cu.page c).1.leaf, .d (.l (Cu.page c).1.slots.length (slsD (Cu.page c).1.slots)), .d (.l (Cu.page c).1.items.length (itsD (Cu.page c).1.items)), .d d17, .d d18, .d d19]] := by
  refine AC.walk Tryz.func269 rfl (by decide) (of_decide_eq_true rfl) ?_
  have hb := page_Take c.s c.a c.e hok
  have he : Cu.page c = Cu.page ⟨c.s, c.a, c.e⟩ := rfl
  rw [he]
  generalize Cu.page ⟨c.s, c.a, c.e⟩ = z at *
  obtain ⟨t, c1⟩ := z
  simp only at hb ⊢
  focus (have kxs := kx0; have kk1 := uN [0] (hb); (repeat' (first | refine G ?_ | refine AW.ret ?_ | (refine GC ?_ ?_ <;> intro h <;> (try simp only [hsB] at h) <;> try exact xf) | (refine GL ?_ ?_ <;> intro h <;> (try simp only [hsN] at h) <;> (try simp only [h]) <;> (try simp only [hsB] at h) <;> try exact xf) | fail)); all_goals clear kxs kk1)
  all_goals first | exact RetQ.fr 2 | exact RetQ.fn 2 | (exfalso; omega) | (exfalso; simp_all; done)
theorem take_object (c : Cu) (hok : c.Ok) (d0 d1 d2 d3 d4 d5 d6 d7 d8 d9 d10 d11 d12 d13 d14 d15 d16 d17 d18 d19 : D) (hl : (Cu.blob c 65536).1.length ≤ 65536) (h0 : (Cu.blob c 65536).2.e = 0) : AC Tryz.prog 243 [.p 0 0, .p 1 0] [Cu.ob c, .box 38 [.d d0, .d d1, .d d2, .d d3, .d d4, .d d5, .d d6, .d d7, .d d8, .d d9, .d d10, .d d11, .d d12, .d d13, .d d14, .d d15, .d d16, .d d17, .d d18, .d d19]] fun y σ => y = .t [] ∧ σ = [Cu.ob ((Cu.blob c 65536).2.fail (objw (Cu.blob c 65536).1).2), .box 38 [.d d0, .d d1, .d d2, .d d3, sv (bs (objw (Cu.blob c 65536).1).1.key), .d (.l (objw (Cu.blob c 65536).1).1.sibs.length (sbsD (objw (Cu.blob c 65536).1).1.sibs)), .d d6, .d d7, .d d8, .d d9, .d d10, .d d11, .d d12, .d d13, .d d14, .d d15, .d d16, .d d17, .d d18, .d d19]] := by
  refine AC.walk Tryz.func243 rfl (by decide) (of_decide_eq_true rfl) ?_
  have hb := blob_Take c.s c.a c.e 65536 hok (by decide)
  have he : Cu.blob c 65536 = Cu.blob ⟨c.s, c.a, c.e⟩ 65536 := rfl
  rw [he] at hl h0 ⊢
  generalize Cu.blob ⟨c.s, c.a, c.e⟩ 65536 = z at *
  obtain ⟨t, c1⟩ := z
  simp only at hb hl h0 ⊢
  have herr := cursor_Err c1.s c1.a c1.e
  have hd := object_Decode t (by omega)
  have hfl := cursor_Fail c1.s c1.a c1.e (objw t).2
  generalize objw t = w at *
  obtain ⟨o, f⟩ := w
  simp only at hd hfl ⊢
  focus (have kxs := kx0; have kk1 := uN [0] (hb); have kk2 := uN [0] (herr); have kk3 := uN [] (hd); have kk4 := uN [0] (hfl); (repeat' (first | refine G ?_ | refine AW.ret ?_ | (refine GC ?_ ?_ <;> intro h <;> (try simp only [hsB] at h) <;> try exact xf) | (refine GL ?_ ?_ <;> intro h <;> (try simp only [hsN] at h) <;> (try simp only [h]) <;> (try simp only [hsB] at h) <;> try exact xf) | fail)); all_goals clear kxs kk1 kk2 kk3 kk4)
  all_goals first | exact RetQ.fr 2 | exact RetQ.fn 2 | (exfalso; omega) | (exfalso; simp_all; done)
theorem takf_object (c : Cu) (hok : c.Ok) (d0 d1 d2 d3 d4 d5 d6 d7 d8 d9 d10 d11 d12 d13 d14 d15 d16 d17 d18 d19 : D) (h0 : (Cu.blob c 65536).2.e ≠ 0) : AC Tryz.prog 243 [.p 0 0, .p 1 0] [Cu.ob c, .box 38 [.d d0, .d d1, .d d2, .d d3, .d d4, .d d5, .d d6, .d d7, .d d8, .d d9, .d d10, .d d11, .d d12, .d d13, .d d14, .d d15, .d d16, .d d17, .d d18, .d d19]] fun y σ => y = .t [] ∧ σ = [Cu.ob (Cu.blob c 65536).2, .box 38 [.d d0, .d d1, .d d2, .d d3, .d d4, .d d5, .d d6, .d d7, .d d8, .d d9, .d d10, .d d11, .d d12, .d d13, .d d14, .d d15, .d d16, .d d17, .d d18, .d d19]] := by
  refine AC.walk Tryz.func243 rfl (by decide) (of_decide_eq_true rfl) ?_
  have hb := blob_Take c.s c.a c.e 65536 hok (by decide)
  have he : Cu.blob c 65536 = Cu.blob ⟨c.s, c.a, c.e⟩ 65536 := rfl
  rw [he] at h0 ⊢
  generalize Cu.blob ⟨c.s, c.a, c.e⟩ 65536 = z at *
  obtain ⟨t, c1⟩ := z
  simp only at hb h0 ⊢
  have herr := cursor_Err c1.s c1.a c1.e
  focus (have kxs := kx0; have kk1 := uN [0] (hb); have kk2 := uN [0] (herr); (repeat' (first | refine G ?_ | refine AW.ret ?_ | (refine GC ?_ ?_ <;> intro h <;> (try simp only [hsB] at h) <;> try exact xf) | (refine GL ?_ ?_ <;> intro h <;> (try simp only [hsN] at h) <;> (try simp only [h]) <;> (try simp only [hsB] at h) <;> try exact xf) | fail)); all_goals clear kxs kk1 kk2)
  all_goals first | exact RetQ.fr 2 | exact RetQ.fn 2 | (exfalso; omega) | (exfalso; simp_all; done)
theorem take_found_object (c : Cu) (hok : c.Ok) (d0 d1 d2 d4 d5 d6 d7 d8 d9 d10 d11 d12 d13 d14 d15 d16 d17 d18 d19 : D) (hl : (Cu.blob c 65536).1.length ≤ 65536) (h0 : (Cu.blob c 65536).2.e = 0) : AC Tryz.prog 228 [.p 0 0, .p 1 0, .p 2 0] [Cu.ob c, .box 38 [.d d0, .d d1, .d d2, bv true, .d d4, .d d5, .d d6, .d d7, .d d8, .d d9, .d d10, .d d11, .d d12, .d d13, .d d14, .d d15, .d d16, .d d17, .d d18, .d d19], .box 111 [.f (.func 239) [] [], .f (.func 241) [] [], .f (.func 243) [] [], .f (.func 245) [] []]] fun y σ => y = .t [] ∧ σ = [Cu.ob ((Cu.blob c 65536).2.fail (objw (Cu.blob c 65536).1).2), .box 38 [.d d0, .d d1, .d d2, bv true, sv (bs (objw (Cu.blob c 65536).1).1.key), .d (.l (objw (Cu.blob c 65536).1).1.sibs.length (sbsD (objw (Cu.blob c 65536).1).1.sibs)), .d d6, .d d7, .d d8, .d d9, .d d10, .d d11, .d d12, .d d13, .d d14, .d d15, .d d16, .d d17, .d d18, .d d19], .box 111 [.f (.func 239) [] [], .f (.func 241) [] [], .f (.func 243) [] [], .f (.func 245) [] []]] := by
  refine AC.walk Tryz.func228 rfl (by decide) (of_decide_eq_true rfl) ?_
  have hc := take_object c hok d0 d1 d2 (.s (.bool true)) d4 d5 d6 d7 d8 d9 d10 d11 d12 d13 d14 d15 d16 d17 d18 d19 hl h0
  generalize objw (Cu.blob c 65536).1 = w at *
  generalize Cu.blob c 65536 = z at *
  focus (have kxs := kx0; have kk1 := uN [0, 1] (hc); (repeat' (first | refine G ?_ | refine AW.ret ?_ | (refine GC ?_ ?_ <;> intro h <;> (try simp only [hsB] at h) <;> try exact xf) | (refine GL ?_ ?_ <;> intro h <;> (try simp only [hsN] at h) <;> (try simp only [h]) <;> (try simp only [hsB] at h) <;> try exact xf) | fail)); all_goals clear kxs kk1)
  all_goals first | exact RetQ.fr 3 | exact RetQ.fn 3 | (exfalso; omega) | (exfalso; simp_all; done)
theorem takf_found_object (c : Cu) (hok : c.Ok) (d0 d1 d2 d4 d5 d6 d7 d8 d9 d10 d11 d12 d13 d14 d15 d16 d17 d18 d19 : D) (h0 : (Cu.blob c 65536).2.e ≠ 0) : AC Tryz.prog 228 [.p 0 0, .p 1 0, .p 2 0] [Cu.ob c, .box 38 [.d d0, .d d1, .d d2, bv true, .d d4, .d d5, .d d6, .d d7, .d d8, .d d9, .d d10, .d d11, .d d12, .d d13, .d d14, .d d15, .d d16, .d d17, .d d18, .d d19], .box 111 [.f (.func 239) [] [], .f (.func 241) [] [], .f (.func 243) [] [], .f (.func 245) [] []]] fun y σ => y = .t [] ∧ σ = [Cu.ob (Cu.blob c 65536).2, .box 38 [.d d0, .d d1, .d d2, bv true, .d d4, .d d5, .d d6, .d d7, .d d8, .d d9, .d d10, .d d11, .d d12, .d d13, .d d14, .d d15, .d d16, .d d17, .d d18, .d d19], .box 111 [.f (.func 239) [] [], .f (.func 241) [] [], .f (.func 243) [] [], .f (.func 245) [] []]] := by
  refine AC.walk Tryz.func228 rfl (by decide) (of_decide_eq_true rfl) ?_
  have hc := takf_object c hok d0 d1 d2 (.s (.bool true)) d4 d5 d6 d7 d8 d9 d10 d11 d12 d13 d14 d15 d16 d17 d18 d19 h0
  generalize Cu.blob c 65536 = z at *
  focus (have kxs := kx0; have kk1 := uN [0, 1] (hc); (repeat' (first | refine G ?_ | refine AW.ret ?_ | (refine GC ?_ ?_ <;> intro h <;> (try simp only [hsB] at h) <;> try exact xf) | (refine GL ?_ ?_ <;> intro h <;> (try simp only [hsN] at h) <;> (try simp only [h]) <;> (try simp only [hsB] at h) <;> try exact xf) | fail)); all_goals clear kxs kk1)
  all_goals first | exact RetQ.fr 3 | exact RetQ.fn 3 | (exfalso; omega) | (exfalso; simp_all; done)
theorem takn_found_object (c : Cu) (d0 d1 d2 d4 d5 d6 d7 d8 d9 d10 d11 d12 d13 d14 d15 d16 d17 d18 d19 : D) : AC Tryz.prog 228 [.p 0 0, .p 1 0, .p 2 0] [Cu.ob c, .box 38 [.d d0, .d d1, .d d2, bv false, .d d4, .d d5, .d d6, .d d7, .d d8, .d d9, .d d10, .d d11, .d d12, .d d13, .d d14, .d d15, .d d16, .d d17, .d d18, .d d19], .box 111 [.f (.func 239) [] [], .f (.func 241) [] [], .f (.func 243) [] [], .f (.func 245) [] []]] fun y σ => y = .t [] ∧ σ = [Cu.ob c, .box 38 [.d d0, .d d1, .d d2, bv false, .d d4, .d d5, .d d6, .d d7, .d d8, .d d9, .d d10, .d d11, .d d12, .d d13, .d d14, .d d15, .d d16, .d d17, .d d18, .d d19], .box 111 [.f (.func 239) [] [], .f (.func 241) [] [], .f (.func 243) [] [], .f (.func 245) [] []]] := by
  refine AC.walk Tryz.func228 rfl (by decide) (of_decide_eq_true rfl) ?_
  focus (have kxs := kx0; (repeat' (first | refine G ?_ | refine AW.ret ?_ | (refine GC ?_ ?_ <;> intro h <;> (try simp only [hsB] at h) <;> try exact xf) | (refine GL ?_ ?_ <;> intro h <;> (try simp only [hsN] at h) <;> (try simp only [h]) <;> (try simp only [hsB] at h) <;> try exact xf) | fail)); all_goals clear kxs)
  all_goals first | exact RetQ.fr 3 | exact RetQ.fn 3 | (exfalso; omega) | (exfalso; simp_all; done)
theorem take_old (c : Cu) (hok : c.Ok) (d0 d1 d2 d3 d4 d5 d6 d7 d8 d9 d10 d11 d12 d13 d14 d15 d16 d17 d18 d19 : D) (hl : (Cu.blob c 65536).1.length ≤ 65536) (h0 : (Cu.blob c 65536).2.e = 0) : AC Tryz.prog 235 [.p 0 0, .p 1 0] [Cu.ob c, .box 38 [.d d0, .d d1, .d d2, .d d3, .d d4, .d d5, .d d6, .d d7, .d d8, .d d9, .d d10, .d d11, .d d12, .d d13, .d d14, .d d15, .d d16, .d d17, .d d18, .d d19]] fun y σ => y = .t [] ∧ σ = [Cu.ob ((Cu.blob c 65536).2.fail (oldw (Cu.blob c 65536).1).2), .box 38 [.d d0, .d d1, .d d2, .d d3, .d d4, .d d5, sv (bs (oldw (Cu.blob c 65536).1).1.key), .d (.l (oldw (Cu.blob c 65536).1).1.sibs.length (ossD (oldw (Cu.blob c 65536).1).1.sibs)), .d d8, .d d9, .d d10, .d d11, .d d12, .d d13, .d d14, .d d15, .d d16, .d d17, .d d18, .d d19]] := by
  refine AC.walk Tryz.func235 rfl (by decide) (of_decide_eq_true rfl) ?_
  have hb := blob_Take c.s c.a c.e 65536 hok (by decide)
  have he : Cu.blob c 65536 = Cu.blob ⟨c.s, c.a, c.e⟩ 65536 := rfl
  rw [he] at hl h0 ⊢
  generalize Cu.blob ⟨c.s, c.a, c.e⟩ 65536 = z at *
  obtain ⟨t, c1⟩ := z
  simp only at hb hl h0 ⊢
  have herr := cursor_Err c1.s c1.a c1.e
  have hd := legacy_Decode t (by omega)
  have hfl := cursor_Fail c1.s c1.a c1.e (oldw t).2
  generalize oldw t = w at *
  obtain ⟨o, f⟩ := w
  simp only at hd hfl ⊢
  focus (have kxs := kx0; have kk1 := uN [0] (hb); have kk2 := uN [0] (herr); have kk3 := uN [] (hd); have kk4 := uN [0] (hfl); (repeat' (first | refine G ?_ | refine AW.ret ?_ | (refine GC ?_ ?_ <;> intro h <;> (try simp only [hsB] at h) <;> try exact xf) | (refine GL ?_ ?_ <;> intro h <;> (try simp only [hsN] at h) <;> (try simp only [h]) <;> (try simp only [hsB] at h) <;> try exact xf) | fail)); all_goals clear kxs kk1 kk2 kk3 kk4)
  all_goals first | exact RetQ.fr 2 | exact RetQ.fn 2 | (exfalso; omega) | (exfalso; simp_all; done)
theorem takf_old (c : Cu) (hok : c.Ok) (d0 d1 d2 d3 d4 d5 d6 d7 d8 d9 d10 d11 d12 d13 d14 d15 d16 d17 d18 d19 : D) (h0 : (Cu.blob c 65536).2.e ≠ 0) : AC Tryz.prog 235 [.p 0 0, .p 1 0] [Cu.ob c, .box 38 [.d d0, .d d1, .d d2, .d d3, .d d4, .d d5, .d d6, .d d7, .d d8, .d d9, .d d10, .d d11, .d d12, .d d13, .d d14, .d d15, .d d16, .d d17, .d d18, .d d19]] fun y σ => y = .t [] ∧ σ = [Cu.ob (Cu.blob c 65536).2, .box 38 [.d d0, .d d1, .d d2, .d d3, .d d4, .d d5, .d d6, .d d7, .d d8, .d d9, .d d10, .d d11, .d d12, .d d13, .d d14, .d d15, .d d16, .d d17, .d d18, .d d19]] := by
  refine AC.walk Tryz.func235 rfl (by decide) (of_decide_eq_true rfl) ?_
  have hb := blob_Take c.s c.a c.e 65536 hok (by decide)
  have he : Cu.blob c 65536 = Cu.blob ⟨c.s, c.a, c.e⟩ 65536 := rfl
  rw [he] at h0 ⊢
  generalize Cu.blob ⟨c.s, c.a, c.e⟩ 65536 = z at *
  obtain ⟨t, c1⟩ := z
  simp only at hb h0 ⊢
  have herr := cursor_Err c1.s c1.a c1.e
  focus (have kxs := kx0; have kk1 := uN [0] (hb); have kk2 := uN [0] (herr); (repeat' (first | refine G ?_ | refine AW.ret ?_ | (refine GC ?_ ?_ <;> intro h <;> (try simp only [hsB] at h) <;> try exact xf) | (refine GL ?_ ?_ <;> intro h <;> (try simp only [hsN] at h) <;> (try simp only [h]) <;> (try simp only [hsB] at h) <;> try exact xf) | fail)); all_goals clear kxs kk1 kk2)
  all_goals first | exact RetQ.fr 2 | exact RetQ.fn 2 | (exfalso; omega) | (exfalso; simp_all; done)
theorem take_found_old (c : Cu) (hok : c.Ok) (d0 d1 d2 d4 d5 d6 d7 d8 d9 d10 d11 d12 d13 d14 d15 d16 d17 d18 d19 : D) (hl : (Cu.blob c 65536).1.length ≤ 65536) (h0 : (Cu.blob c 65536).2.e = 0) : AC Tryz.prog 228 [.p 0 0, .p 1 0, .p 2 0] [Cu.ob c, .box 38 [.d d0, .d d1, .d d2, bv true, .d d4, .d d5, .d d6, .d d7, .d d8, .d d9, .d d10, .d d11, .d d12, .d d13, .d d14, .d d15, .d d16, .d d17, .d d18, .d d19], .box 111 [.f (.func 230) [] [], .f (.func 232) [] [], .f (.func 235) [] [], .f (.func 237) [] []]] fun y σ => y = .t [] ∧ σ = [Cu.ob ((Cu.blob c 65536).2.fail (oldw (Cu.blob c 65536).1).2), .box 38 [.d d0, .d d1, .d d2, bv true, .d d4, .d d5, sv (bs (oldw (Cu.blob c 65536).1).1.key), .d (.l (oldw (Cu.blob c 65536).1).1.sibs.length (ossD (oldw (Cu.blob c 65536).1).1.sibs)), .d d8, .d d9, .d d10, .d d11, .d d12, .d d13, .d d14, .d d15, .d d16, .d d17, .d d18, .d d19], .box 111 [.f (.func 230) [] [], .f (.func 232) [] [], .f (.func 235) [] [], .f (.func 237) [] []]] := by
  refine AC.walk Tryz.func228 rfl (by decide) (of_decide_eq_true rfl) ?_
  have hc := take_old c hok d0 d1 d2 (.s (.bool true)) d4 d5 d6 d7 d8 d9 d10 d11 d12 d13 d14 d15 d16 d17 d18 d19 hl h0
  generalize oldw (Cu.blob c 65536).1 = w at *
  generalize Cu.blob c 65536 = z at *
  focus (have kxs := kx0; have kk1 := uN [0, 1] (hc); (repeat' (first | refine G ?_ | refine AW.ret ?_ | (refine GC ?_ ?_ <;> intro h <;> (try simp only [hsB] at h) <;> try exact xf) | (refine GL ?_ ?_ <;> intro h <;> (try simp only [hsN] at h) <;> (try simp only [h]) <;> (try simp only [hsB] at h) <;> try exact xf) | fail)); all_goals clear kxs kk1)
  all_goals first | exact RetQ.fr 3 | exact RetQ.fn 3 | (exfalso; omega) | (exfalso; simp_all; done)
theorem takf_found_old (c : Cu) (hok : c.Ok) (d0 d1 d2 d4 d5 d6 d7 d8 d9 d10 d11 d12 d13 d14 d15 d16 d17 d18 d19 : D) (h0 : (Cu.blob c 65536).2.e ≠ 0) : AC Tryz.prog 228 [.p 0 0, .p 1 0, .p 2 0] [Cu.ob c, .box 38 [.d d0, .d d1, .d d2, bv true, .d d4, .d d5, .d d6, .d d7, .d d8, .d d9, .d d10, .d d11, .d d12, .d d13, .d d14, .d d15, .d d16, .d d17, .d d18, .d d19], .box 111 [.f (.func 230) [] [], .f (.func 232) [] [], .f (.func 235) [] [], .f (.func 237) [] []]] fun y σ => y = .t [] ∧ σ = [Cu.ob (Cu.blob c 65536).2, .box 38 [.d d0, .d d1, .d d2, bv true, .d d4, .d d5, .d d6, .d d7, .d d8, .d d9, .d d10, .d d11, .d d12, .d d13, .d d14, .d d15, .d d16, .d d17, .d d18, .d d19], .box 111 [.f (.func 230) [] [], .f (.func 232) [] [], .f (.func 235) [] [], .f (.func 237) [] []]] := by
  refine AC.walk Tryz.func228 rfl (by decide) (of_decide_eq_true rfl) ?_
  have hc := takf_old c hok d0 d1 d2 (.s (.bool true)) d4 d5 d6 d7 d8 d9 d10 d11 d12 d13 d14 d15 d16 d17 d18 d19 h0
  generalize Cu.blob c 65536 = z at *
  focus (have kxs := kx0; have kk1 := uN [0, 1] (hc); (repeat' (first | refine G ?_ | refine AW.ret ?_ | (refine GC ?_ ?_ <;> intro h <;> (try simp only [hsB] at h) <;> try exact xf) | (refine GL ?_ ?_ <;> intro h <;> (try simp only [hsN] at h) <;> (try simp only [h]) <;> (try simp only [hsB] at h) <;> try exact xf) | fail)); all_goals clear kxs kk1)
  all_goals first | exact RetQ.fr 3 | exact RetQ.fn 3 | (exfalso; omega) | (exfalso; simp_all; done)
theorem takn_found_old (c : Cu) (d0 d1 d2 d4 d5 d6 d7 d8 d9 d10 d11 d12 d13 d14 d15 d16 d17 d18 d19 : D) : AC Tryz.prog 228 [.p 0 0, .p 1 0, .p 2 0] [Cu.ob c, .box 38 [.d d0, .d d1, .d d2, bv false, .d d4, .d d5, .d d6, .d d7, .d d8, .d d9, .d d10, .d d11, .d d12, .d d13, .d d14, .d d15, .d d16, .d d17, .d d18, .d d19], .box 111 [.f (.func 230) [] [], .f (.func 232) [] [], .f (.func 235) [] [], .f (.func 237) [] []]] fun y σ => y = .t [] ∧ σ = [Cu.ob c, .box 38 [.d d0, .d d1, .d d2, bv false, .d d4, .d d5, .d d6, .d d7, .d d8, .d d9, .d d10, .d d11, .d d12, .d d13, .d d14, .d d15, .d d16, .d d17, .d d18, .d d19], .box 111 [.f (.func 230) [] [], .f (.func 232) [] [], .f (.func 235) [] [], .f (.func 237) [] []]] := by
  refine AC.walk Tryz.func228 rfl (by decide) (of_decide_eq_true rfl) ?_
  focus (have kxs := kx0; (repeat' (first | refine G ?_ | refine AW.ret ?_ | (refine GC ?_ ?_ <;> intro h <;> (try simp only [hsB] at h) <;> try exact xf) | (refine GL ?_ ?_ <;> intro h <;> (try simp only [hsN] at h) <;> (try simp only [h]) <;> (try simp only [hsB] at h) <;> try exact xf) | fail)); all_goals clear kxs)
  all_goals first | exact RetQ.fr 3 | exact RetQ.fn 3 | (exfalso; omega) | (exfalso; simp_all; done)
end Go.AW
