/-
  old objects, upgraded; plain objects, as old ones: the program's.
-/
import Derived.Test.YtbjdiepceokmkaaGreatSrt2
import Derived.Test.YtbjdiepceokmkaaGreatLeg5
import Derived.Test.YtbjdiepceokmkaaGreatSeq2
import Derived.Test.YtbjdiepceokmkaaGreatPLaw18
namespace Go.AW
open Go Go.Proofs
set_option maxHeartbeats 2000000
set_option maxRecDepth 10000
set_option linter.unusedSimpArgs false
set_option linter.unusedVariables false
attribute [local irreducible] thenQ blockQ RetQ AL AW AC AOp

theorem dotted_Plain (v : Vec) (hv : v.length ≤ 1000000) : AC Tryz.prog 31 [.d (.l v.length (vecD v))] [] fun x σ => x = ckV ⟨v, false, ([], 0)⟩ ∧ σ = [] := by
  refine AC.walk Tryz.func31 rfl (by decide) (of_decide_eq_true rfl) ?_
  focus (have kxs : 987654321 = 987654320 + 1 := rfl; have kk1 := uN [] (clone_En v hv); (repeat' (first | refine G ?_ | refine AW.ret ?_ | (refine GC ?_ ?_ <;> intro h <;> (try simp only [hsB] at h) <;> try (exfalso; first | omega | contradiction)) | (refine GL ?_ ?_ <;> intro h <;> (try simp only [Bool.not_true, Bool.not_false] at h) <;> (try simp only [h]) <;> (try simp only [hsB] at h) <;> try (exfalso; first | omega | contradiction)) | fail)); all_goals clear kxs kk1)
  all_goals first | ((all_goals first | exact RetQ.fr 0 | exact RetQ.fn 0 | fail); done)
theorem upgrade_one (x : Os1) (hx : x.clk.length ≤ 1000000) : AC Tryz.prog 30 [osV x] [] fun y σ => y = sbV (upO x) ∧ σ = [] := by
  refine AC.walk Tryz.func30 rfl (by decide) (of_decide_eq_true rfl) ?_
  focus (have kxs : 987654321 = 987654320 + 1 := rfl; have kk1 := uN [] (dotted_Plain x.clk hx); (repeat' (first | (refine ADr.nil ?_; try clear hgv) | refine GW ?_ | refine AW.ret ?_ | (refine GC ?_ ?_ <;> intro h <;> (try simp only [hsB] at h) <;> try (exfalso; first | omega | contradiction)) | (refine GD ?_ ?_ <;> intro h <;> (try intro hgv) <;> (try simp only [Bool.not_true, Bool.not_false] at h) <;> (try simp only [h]) <;> (try simp only [hsB] at h) <;> try (exfalso; first | omega | contradiction)) | (refine GL ?_ ?_ <;> intro h <;> (try simp only [Bool.not_true, Bool.not_false] at h) <;> (try simp only [h]) <;> (try simp only [hsB] at h) <;> try (exfalso; first | omega | contradiction)) | fail)); all_goals clear kxs kk1)
  all_goals first | ((all_goals first | exact RetQ.fr 0 | exact RetQ.fn 0 | fail); done)
theorem down_one (x : Sb) (hx : x.clk.ctx.length ≤ 1000000) : AC Tryz.prog 39 [sbV x] [] fun y σ => y = osV (dnO x) ∧ σ = [] := by
  refine AC.walk Tryz.func39 rfl (by decide) (of_decide_eq_true rfl) ?_
  focus (have kxs : 987654321 = 987654320 + 1 := rfl; have kk1 := uN [] (clone_En x.clk.ctx hx); (repeat' (first | (refine ADr.nil ?_; try clear hgv) | refine GW ?_ | refine AW.ret ?_ | (refine GC ?_ ?_ <;> intro h <;> (try simp only [hsB] at h) <;> try (exfalso; first | omega | contradiction)) | (refine GD ?_ ?_ <;> intro h <;> (try intro hgv) <;> (try simp only [Bool.not_true, Bool.not_false] at h) <;> (try simp only [h]) <;> (try simp only [hsB] at h) <;> try (exfalso; first | omega | contradiction)) | (refine GL ?_ ?_ <;> intro h <;> (try simp only [Bool.not_true, Bool.not_false] at h) <;> (try simp only [h]) <;> (try simp only [hsB] at h) <;> try (exfalso; first | omega | contradiction)) | fail)); all_goals clear kxs kk1)
  all_goals first | ((all_goals first | exact RetQ.fr 0 | exact RetQ.fn 0 | fail); done)
theorem each_up (l : List Os1) (hl : l.length ≤ 1000000) (hx : ∀ x ∈ l, x.clk.length ≤ 1000000) : AC Tryz.prog 29 [.d (.l l.length (ossD l)), .f (.func 30) [] []] [] fun y σ => y = .d (.l l.length (sbsD (l.map upO))) ∧ σ = [] := by
  refine AC.walk Tryz.func29 rfl (by decide) (of_decide_eq_true rfl) ?_
  focus (have kxs : 987654321 = 987654320 + 1 := rfl; (repeat' (first | refine G ?_ | refine AW.ret ?_ | (refine GC ?_ ?_ <;> intro h <;> (try simp only [hsB] at h) <;> try (exfalso; first | omega | contradiction)) | (refine GL ?_ ?_ <;> intro h <;> (try simp only [Bool.not_true, Bool.not_false] at h) <;> (try simp only [h]) <;> (try simp only [hsB] at h) <;> try (exfalso; first | omega | contradiction)) | fail)); all_goals clear kxs)
  refine AW.birth 57 7 [5] [] ?_
  refine AW.rounds [1, 4, 5, 8, 9, 10] (fun i : Nat => [(1, .f (.func 30) [] []), (4, .d (.s (.slice none 0 0))), (5, .o 0 i), (8, .d (.l l.length (ossD l))), (9, iv .i64 l.length), (10, iv .i64 i)])
    (fun i => [.row 57 7 i (sbsD ((l.take i).map upO))]) (fun i => i ≤ l.length) (fun i => l.length - i) 0 (Nat.zero_le _) rfl rfl (fun _ _ => Nat.zero_le _) (fun _ _ => rfl) (fun _ _ => rfl) ?_
  intro i hi J hJ
  by_cases hil : i < l.length
  · obtain ⟨x, r, hd⟩ := next_at hil
    have hcd := oss_drop hd
    have hsn := sbs_snoc ((l.take i).map upO) (upO x)
    have hn : (l.take (i + 1)).map upO = (l.take i).map upO ++ [upO x] := by rw [next_take hd, List.map_append]; rfl
    focus (have kxs := hcd; have kk1 := uN [] (upgrade_one x (hx x (next_mem hd))); (repeat' (first | refine G ?_ | refine AW.ret ?_ | (refine GC ?_ ?_ <;> intro h <;> (try simp only [hsB] at h) <;> try (exfalso; first | omega | contradiction)) | (refine GL ?_ ?_ <;> intro h <;> (try simp only [Bool.not_true, Bool.not_false] at h) <;> (try simp only [h]) <;> (try simp only [hsB] at h) <;> try (exfalso; first | omega | contradiction)) | fail)); all_goals clear kxs kk1)
    all_goals first | (refine hJ (i + 1) _ _ (by omega) hil rfl ?_; rw [hn, ← hsn]; rfl) | (exfalso; simp_all; done)
  · have hi2 : i = l.length := by omega
    rw [hi2, List.take_length]
    focus (have kxs : 987654321 = 987654320 + 1 := rfl; (repeat' (first | refine G ?_ | refine AW.ret ?_ | (refine GC ?_ ?_ <;> intro h <;> (try simp only [hsB] at h) <;> try (exfalso; first | omega | contradiction)) | (refine GL ?_ ?_ <;> intro h <;> (try simp only [Bool.not_true, Bool.not_false] at h) <;> (try simp only [h]) <;> (try simp only [hsB] at h) <;> try (exfalso; first | omega | contradiction)) | fail)); all_goals clear kxs)
    all_goals first | ((all_goals first | exact RetQ.fr 0 | exact RetQ.fn 0 | fail); done) | (exfalso; simp_all; done)
theorem each_down (l : List Sb) (hl : l.length ≤ 1000000) (hx : ∀ x ∈ l, x.clk.ctx.length ≤ 1000000) : AC Tryz.prog 38 [.d (.l l.length (sbsD l)), .f (.func 39) [] []] [] fun y σ => y = .d (.l l.length (ossD (l.map dnO))) ∧ σ = [] := by
  refine AC.walk Tryz.func38 rfl (by decide) (of_decide_eq_true rfl) ?_
  focus (have kxs : 987654321 = 987654320 + 1 := rfl; (repeat' (first | refine G ?_ | refine AW.ret ?_ | (refine GC ?_ ?_ <;> intro h <;> (try simp only [hsB] at h) <;> try (exfalso; first | omega | contradiction)) | (refine GL ?_ ?_ <;> intro h <;> (try simp only [Bool.not_true, Bool.not_false] at h) <;> (try simp only [h]) <;> (try simp only [hsB] at h) <;> try (exfalso; first | omega | contradiction)) | fail)); all_goals clear kxs)
  refine AW.birth 52 3 [5] [] ?_
  refine AW.rounds [1, 4, 5, 8, 9, 10] (fun i : Nat => [(1, .f (.func 39) [] []), (4, .d (.s (.slice none 0 0))), (5, .o 0 i), (8, .d (.l l.length (sbsD l))), (9, iv .i64 l.length), (10, iv .i64 i)])
    (fun i => [.row 52 3 i (ossD ((l.take i).map dnO))]) (fun i => i ≤ l.length) (fun i => l.length - i) 0 (Nat.zero_le _) rfl rfl (fun _ _ => Nat.zero_le _) (fun _ _ => rfl) (fun _ _ => rfl) ?_
  intro i hi J hJ
  by_cases hil : i < l.length
  · obtain ⟨x, r, hd⟩ := next_at hil
    have hcd := sbs_drop hd
    have hsn := oss_snoc ((l.take i).map dnO) (dnO x)
    have hn : (l.take (i + 1)).map dnO = (l.take i).map dnO ++ [dnO x] := by rw [next_take hd, List.map_append]; rfl
    focus (have kxs := hcd; have kk1 := uN [] (down_one x (hx x (next_mem hd))); (repeat' (first | refine G ?_ | refine AW.ret ?_ | (refine GC ?_ ?_ <;> intro h <;> (try simp only [hsB] at h) <;> try (exfalso; first | omega | contradiction)) | (refine GL ?_ ?_ <;> intro h <;> (try simp only [Bool.not_true, Bool.not_false] at h) <;> (try simp only [h]) <;> (try simp only [hsB] at h) <;> try (exfalso; first | omega | contradiction)) | fail)); all_goals clear kxs kk1)
    all_goals first | (refine hJ (i + 1) _ _ (by omega) hil rfl ?_; rw [hn, ← hsn]; rfl) | (exfalso; simp_all; done)
  · have hi2 : i = l.length := by omega
    rw [hi2, List.take_length]
    focus (have kxs : 987654321 = 987654320 + 1 := rfl; (repeat' (first | refine G ?_ | refine AW.ret ?_ | (refine GC ?_ ?_ <;> intro h <;> (try simp only [hsB] at h) <;> try (exfalso; first | omega | contradiction)) | (refine GL ?_ ?_ <;> intro h <;> (try simp only [Bool.not_true, Bool.not_false] at h) <;> (try simp only [h]) <;> (try simp only [hsB] at h) <;> try (exfalso; first | omega | contradiction)) | fail)); all_goals clear kxs)
    all_goals first | ((all_goals first | exact RetQ.fr 0 | exact RetQ.fn 0 | fail); done) | (exfalso; simp_all; done)

theorem upO_fits {x : Os1} (h : x.fits) : (upO x).fits := ⟨⟨h.1, by simp [upO], by simp [upO]⟩, ⟨by simp [upO], by simp [upO]⟩, h.2⟩
theorem Od.small {o : Od} (h : o.check = 0) : o.sibs.length ≤ 16 ∧ ∀ x ∈ o.sibs, x.clk.length ≤ 64 := by
  obtain ⟨h1, h2⟩ := Od.check_parts h
  exact ⟨(outside_zero.1 h1).2.2.1, fun x hx => (Vec.check_len ((ocheck_parts _ _ h2).1 x hx).1).1⟩
theorem upgrade_Up (o : Od) (ho : o.fits) : AC Tryz.prog 11 [odV o] [] fun x σ => x = .t [ojV (upgr o).1, iv .i64 (upgr o).2] ∧ σ = [] := by
  refine AC.walk Tryz.func11 rfl (by decide) (of_decide_eq_true rfl) ?_
  unfold upgr
  by_cases hc : o.check = 0
  case neg =>
    rw [if_pos hc]
    focus (have kxs : 987654321 = 987654320 + 1 := rfl; have kk1 := uN [] (legacy_Check o ho); (repeat' (first | (refine ADr.nil ?_; try clear hgv) | refine GO ?_ | refine AW.ret ?_ | (refine GC ?_ ?_ <;> intro h <;> (try simp only [hsB] at h) <;> try (exfalso; first | omega | contradiction)) | (refine GD ?_ ?_ <;> intro h <;> (try intro hgv) <;> (try simp only [Bool.not_true, Bool.not_false] at h) <;> (try simp only [h]) <;> (try simp only [hsB] at h) <;> try (exfalso; first | omega | contradiction)) | (refine GL ?_ ?_ <;> intro h <;> (try simp only [Bool.not_true, Bool.not_false] at h) <;> (try simp only [h]) <;> (try simp only [hsB] at h) <;> try (exfalso; first | omega | contradiction)) | fail)); all_goals clear kxs kk1)
    all_goals first | (((all_goals first | refine RetQ.r 0 rfl (Nat.le_of_ble_eq_true rfl) rfl (by first | rfl | (simp only [go_sem, ↓reduceIte, Nat.reduceLT, Nat.lt_irrefl])) ⟨?_, ?_⟩ | refine RetQ.n 0 rfl (Nat.le_of_ble_eq_true rfl) rfl (by first | rfl | (simp only [go_sem, ↓reduceIte, Nat.reduceLT, Nat.lt_irrefl])) ⟨?_, ?_⟩); (all_goals first | rfl | (simp [oj0, *]; done) | ((simp only [go_sem, ↓reduceIte, Nat.reduceLT, oj0]; (repeat' split)) <;> first | rfl | (exfalso; omega) | (simp_all; done) | (simp_all; omega)))); done) | (exfalso; simp_all; done)
  rw [if_neg (by simpa using hc)]
  obtain ⟨hs1, hs2⟩ := Od.small hc
  have hsort := object_Sort o.key (o.sibs.map upO) ho.1 (by rw [List.length_map]; exact ho.2.1) (fun x hx => by obtain ⟨y, hy, rfl⟩ := List.mem_map.1 hx; exact upO_fits (ho.2.2 y hy))
  rw [List.length_map] at hsort
  have heach := each_up o.sibs (by omega) (fun x hx => by have := hs2 x hx; omega)
  generalize hz : osort o.key (o.sibs.map upO) = z at *
  obtain ⟨a, e⟩ := z
  focus (have kxs := hc; have kk1 := uN [] (legacy_Check o ho); have kk2 := uN [] (heach); have kk3 := uN [] (hsort); (repeat' (first | (refine ADr.nil ?_; try clear hgv) | refine GW ?_ | refine AW.ret ?_ | (refine GC ?_ ?_ <;> intro h <;> (try simp only [hsB] at h) <;> try (exfalso; first | omega | contradiction)) | (refine GD ?_ ?_ <;> intro h <;> (try intro hgv) <;> (try simp only [Bool.not_true, Bool.not_false] at h) <;> (try simp only [h]) <;> (try simp only [hsB] at h) <;> try (exfalso; first | omega | contradiction)) | (refine GL ?_ ?_ <;> intro h <;> (try simp only [Bool.not_true, Bool.not_false] at h) <;> (try simp only [h]) <;> (try simp only [hsB] at h) <;> try (exfalso; first | omega | contradiction)) | fail)); all_goals clear kxs kk1 kk2 kk3)
  all_goals first | ((all_goals first | exact RetQ.fr 0 | exact RetQ.fn 0 | fail); done) | (exfalso; simp_all; done)
end Go.AW
