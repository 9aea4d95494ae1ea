/-
  old objects, upgraded; plain objects, as old ones: the program's turn back, the document's.
-/
import Derived.Test.YtbjdiepceokmkaaGreatUpg1
import Derived.Test.YtbjdiepceokmkaaGreatSrt3
import Derived.Test.YtbjdiepceokmkaaGreatAwNil
namespace Go.AW
open Go Go.Proofs
set_option maxHeartbeats 2000000
set_option maxRecDepth 10000
set_option linter.unusedSimpArgs false
set_option linter.unusedVariables false
attribute [local irreducible] thenQ blockQ RetQ AL AW AC AOp

theorem plain_one (x : Sb) (hx : x.meta_.length ≤ 9223372036854775807) : AC Tryz.prog 47 [sbV x] [] fun y σ => y = bv (x.clk.dotted || decide (0 < x.meta_.length)) ∧ σ = [] := by
  refine AC.walk Tryz.func47 rfl (by decide) (of_decide_eq_true rfl) ?_
  focus (have kxs : 987654321 = 987654320 + 1 := rfl; (repeat' (first | refine G ?_ | refine AW.ret ?_ | (refine GC ?_ ?_ <;> intro h <;> (try simp only [hsB] at h) <;> try (exfalso; first | omega | contradiction)) | (refine GL ?_ ?_ <;> intro h <;> (try simp only [Bool.not_true, Bool.not_false] at h) <;> (try simp only [h]) <;> (try simp only [hsB] at h) <;> try (exfalso; first | omega | contradiction)) | fail)); all_goals clear kxs)
  all_goals first | ((all_goals first | exact RetQ.fr 0 | exact RetQ.fn 0 | fail); done) | (exfalso; simp_all; done)
theorem upgrade_Plain (o : Oj) (ho : o.fits) : AC Tryz.prog 16 [ojV o] [] fun x σ => x = bv o.plain ∧ σ = [] := by
  refine AC.walk Tryz.func16 rfl (by decide) (of_decide_eq_true rfl) ?_
  have hcon := contains_Sib o.sibs 47 [] [] (fun x => x.clk.dotted || decide (0 < x.meta_.length)) rfl rfl rfl ho.2.1 (fun x hx => plain_one x (ho.2.2 x hx).2.1.1)
  unfold Oj.plain
  generalize (o.sibs.any fun x => x.clk.dotted || decide (0 < x.meta_.length)) = p at *
  focus (have kxs : 987654321 = 987654320 + 1 := rfl; have kk1 := uN [] (object_Check o ho); have kk2 := uN [] (hcon); (repeat' (first | refine G ?_ | refine AW.ret ?_ | (refine GC ?_ ?_ <;> intro h <;> (try simp only [hsB] at h) <;> try (exfalso; first | omega | contradiction)) | (refine GL ?_ ?_ <;> intro h <;> (try simp only [Bool.not_true, Bool.not_false] at h) <;> (try simp only [h]) <;> (try simp only [hsB] at h) <;> try (exfalso; first | omega | contradiction)) | fail)); all_goals clear kxs kk1 kk2)
  all_goals first | ((all_goals first | exact RetQ.fr 0 | exact RetQ.fn 0 | fail); done) | (exfalso; simp_all; done)
theorem Oj.small {o : Oj} (h : o.plain = true) : o.sibs.length ≤ 16 ∧ ∀ x ∈ o.sibs, x.clk.ctx.length ≤ 64 := by
  have h0 : o.check = 0 := by
    unfold Oj.plain at h
    simp only [Bool.and_eq_true, decide_eq_true_eq] at h
    exact h.1
  obtain ⟨h1, h2⟩ := Oj.check_parts h0
  exact ⟨(outside_zero.1 h1).2.2.1, fun x hx => (Sb.small (jcheck_parts _ _ h2 x hx)).1⟩
theorem upgrade_Down (o : Oj) (ho : o.fits) : AC Tryz.prog 14 [ojV o] [] fun x σ => x = .t [odV (downg o).1, iv .i64 (downg o).2] ∧ σ = [] := by
  refine AC.walk Tryz.func14 rfl (by decide) (of_decide_eq_true rfl) ?_
  unfold downg
  by_cases hp : o.plain = true
  case neg =>
    rw [if_neg hp]
    have hp : o.plain = false := by simpa using hp
    focus (have kxs := hp; have kk1 := uN [] (upgrade_Plain o ho); (repeat' (first | (refine ADr.nil ?_; try clear hgv) | refine GO ?_ | refine AW.ret ?_ | (refine GC ?_ ?_ <;> intro h <;> (try simp only [hsB] at h) <;> try (exfalso; first | omega | contradiction)) | (refine GD ?_ ?_ <;> intro h <;> (try intro hgv) <;> (try simp only [Bool.not_true, Bool.not_false] at h) <;> (try simp only [h]) <;> (try simp only [hsB] at h) <;> try (exfalso; first | omega | contradiction)) | (refine GL ?_ ?_ <;> intro h <;> (try simp only [Bool.not_true, Bool.not_false] at h) <;> (try simp only [h]) <;> (try simp only [hsB] at h) <;> try (exfalso; first | omega | contradiction)) | fail)); all_goals clear kxs kk1)
    all_goals first | (((all_goals first | refine RetQ.r 0 rfl (Nat.le_of_ble_eq_true rfl) rfl (by first | rfl | (simp only [go_sem, ↓reduceIte, Nat.reduceLT, Nat.lt_irrefl])) ⟨?_, ?_⟩ | refine RetQ.n 0 rfl (Nat.le_of_ble_eq_true rfl) rfl (by first | rfl | (simp only [go_sem, ↓reduceIte, Nat.reduceLT, Nat.lt_irrefl])) ⟨?_, ?_⟩); (all_goals first | rfl | (simp [od0, *]; done) | ((simp only [go_sem, ↓reduceIte, Nat.reduceLT, od0]; (repeat' split)) <;> first | rfl | (exfalso; omega) | (simp_all; done) | (simp_all; omega)))); done) | (exfalso; simp_all; done)
  rw [if_pos hp]
  obtain ⟨hs1, hs2⟩ := Oj.small hp
  have heach := each_down o.sibs (by omega) (fun x hx => by have := hs2 x hx; omega)
  have hod : odV ⟨o.key, o.sibs.map dnO⟩ = .a [sv (bs o.key), .d (.l o.sibs.length (ossD (o.sibs.map dnO)))] := by simp [odV]
  rw [hod]
  clear hod
  focus (have kxs := hp; have kk1 := uN [] (upgrade_Plain o ho); have kk2 := uN [] (heach); (repeat' (first | (refine ADr.nil ?_; try clear hgv) | refine GW ?_ | refine AW.ret ?_ | (refine GC ?_ ?_ <;> intro h <;> (try simp only [hsB] at h) <;> try (exfalso; first | omega | contradiction)) | (refine GD ?_ ?_ <;> intro h <;> (try intro hgv) <;> (try simp only [Bool.not_true, Bool.not_false] at h) <;> (try simp only [h]) <;> (try simp only [hsB] at h) <;> try (exfalso; first | omega | contradiction)) | (refine GL ?_ ?_ <;> intro h <;> (try simp only [Bool.not_true, Bool.not_false] at h) <;> (try simp only [h]) <;> (try simp only [hsB] at h) <;> try (exfalso; first | omega | contradiction)) | fail)); all_goals clear kxs kk1 kk2)
  all_goals first | ((all_goals first | exact RetQ.fr 0 | exact RetQ.fn 0 | fail); done) | (exfalso; simp_all; done)

theorem nzDs_append : ∀ a b : List D, nzDs (a ++ b) = nzDs a ++ nzDs b
  | [], b => rfl
  | x :: a, b => by simp only [List.cons_append, nzDs, nzDs_append a b]
theorem nzDs_flat {α : Type} (f : α → List D) (h : ∀ x, nzDs (f x) = f x) : ∀ l : List α, nzDs ((l.map f).flatten) = (l.map f).flatten
  | [] => rfl
  | x :: l => by rw [List.map_cons, List.flatten_cons, nzDs_append, h, nzDs_flat f h l]
theorem nzDs_vec (v : Vec) : nzDs (vecD v) = vecD v := nzDs_flat enD (fun _ => rfl) v
theorem nzDs_prs (v : Prs) : nzDs (prsD v) = prsD v := nzDs_flat prD (fun _ => rfl) v
theorem nzDs_sbs (l : List Sb) : nzDs (sbsD l) = sbsD l := nzDs_flat sbD (fun x => by
  show [D.l _ (nzDs (vecD _)), _, _, _, D.l _ (nzDs (prsD _)), _, _] = _
  rw [nzDs_vec, nzDs_prs]; rfl) l

theorem ref18_Up (o : Od) (ho : o.fits) : AC Tryz.prog 22 [odV o] [] fun x σ => x = .t [ojV (upgr o).1, iv .i64 (upgr o).2] ∧ σ = [] := by
  refine AC.walk Tryz.func22 rfl (by decide) (of_decide_eq_true rfl) ?_
  unfold upgr
  by_cases hc : o.check = 0
  case neg =>
    rw [if_pos hc]
    focus (have kxs : 987654321 = 987654320 + 1 := rfl; have kk1 := uN [] (ref17_Check o ho); (repeat' (first | refine G ?_ | refine AW.ret ?_ | (refine GC ?_ ?_ <;> intro h <;> (try simp only [hsB] at h) <;> try (exfalso; first | omega | contradiction)) | (refine GL ?_ ?_ <;> intro h <;> (try simp only [Bool.not_true, Bool.not_false] at h) <;> (try simp only [h]) <;> (try simp only [hsB] at h) <;> try (exfalso; first | omega | contradiction)) | fail)); all_goals clear kxs kk1)
    all_goals first | (((all_goals first | refine RetQ.r 0 rfl (Nat.le_of_ble_eq_true rfl) rfl (by first | rfl | (simp only [go_sem, ↓reduceIte, Nat.reduceLT, Nat.lt_irrefl])) ⟨?_, ?_⟩ | refine RetQ.n 0 rfl (Nat.le_of_ble_eq_true rfl) rfl (by first | rfl | (simp only [go_sem, ↓reduceIte, Nat.reduceLT, Nat.lt_irrefl])) ⟨?_, ?_⟩); (all_goals first | rfl | (simp [oj0, *]; done) | ((simp only [go_sem, ↓reduceIte, Nat.reduceLT, oj0]; (repeat' split)) <;> first | rfl | (exfalso; omega) | (simp_all; done) | (simp_all; omega)))); done) | (exfalso; simp_all; done)
  rw [if_neg (by simpa using hc)]
  obtain ⟨hs1, hs2⟩ := Od.small hc
  have hsort := ref16_Sort o.key (o.sibs.map upO) ho.1 (by rw [List.length_map]; exact ho.2.1) (fun x hx => by obtain ⟨y, hy, rfl⟩ := List.mem_map.1 hx; exact upO_fits (ho.2.2 y hy))
  rw [List.length_map] at hsort
  generalize hz : osort o.key (o.sibs.map upO) = z at *
  obtain ⟨a, e⟩ := z
  focus (have kxs := hc; have kk1 := uN [] (ref17_Check o ho); (repeat' (first | refine G ?_ | refine AW.ret ?_ | (refine GC ?_ ?_ <;> intro h <;> (try simp only [hsB] at h) <;> try (exfalso; first | omega | contradiction)) | (refine GL ?_ ?_ <;> intro h <;> (try simp only [Bool.not_true, Bool.not_false] at h) <;> (try simp only [h]) <;> (try simp only [hsB] at h) <;> try (exfalso; first | omega | contradiction)) | fail)); all_goals clear kxs kk1)
  all_goals first | (exfalso; simp_all; done) | skip
  refine AW.birth 57 7 [5] [] ?_
  refine AW.roundsN [1, 2, 3, 5, 6] (fun i : Nat => [(1, .p 0 0), (2, .p 1 0), (3, iv .i64 0), (5, .o 2 i), (6, iv .i64 i)])
    (fun i => [.box 35 [sv (bs o.key), .d (.l o.sibs.length (ossD o.sibs))], .box 25 [sv (bs []), .d (.s (.slice none 0 0))], .row 57 7 i (sbsD ((o.sibs.take i).map upO))]) (fun i => i ≤ o.sibs.length) (fun i => o.sibs.length - i) 0 (Nat.zero_le _) (by first | rfl | simp [go_sem]) (by first | rfl | simp [go_sem]) (fun _ _ => Nat.zero_le _) (fun _ _ => rfl) (fun _ _ => rfl) ?_
  intro i hi J hJ
  by_cases hil : i < o.sibs.length
  · obtain ⟨x, r, hd⟩ := next_at hil
    have hcd := oss_drop hd
    have hsn := sbs_snoc ((o.sibs.take i).map upO) (upO x)
    have hn : (o.sibs.take (i + 1)).map upO = (o.sibs.take i).map upO ++ [upO x] := by rw [next_take hd, List.map_append]; rfl
    focus (have kxs := hcd; (repeat' (first | refine G ?_ | refine AW.ret ?_ | (refine GC ?_ ?_ <;> intro h <;> (try simp only [hsB] at h) <;> try (exfalso; first | omega | contradiction)) | (refine GL ?_ ?_ <;> intro h <;> (try simp only [Bool.not_true, Bool.not_false] at h) <;> (try simp only [h]) <;> (try simp only [hsB] at h) <;> try (exfalso; first | omega | contradiction)) | fail)); all_goals clear kxs)
    all_goals first | (exfalso; omega) | skip
    refine hJ (i + 1) _ _ (by omega) hil (by first | rfl | simp [go_sem]) ?_
    rw [hn, ← hsn]
    show [_, _, Ob.row _ _ _ (nzDs (sbsD ((o.sibs.take i).map upO) ++ _))] = _
    rw [nzDs_append, nzDs_sbs]
    show [_, _, Ob.row _ _ _ (_ ++ [D.l _ (nzDs (vecD _)), _, _, _, _, _, _])] = _
    rw [nzDs_vec]; rfl
  · have hi2 : i = o.sibs.length := by omega
    rw [hi2, List.take_length]
    clear hJ
    refine AW.freeze [1, 2, 3, 5, 6] 2 (Nat.zero_le _) rfl (by first | rfl | simp [go_sem]) ?_
    rw [show fzT _ _ (keepT _ _) = [(1, .p 0 0), (2, .p 1 0), (3, iv .i64 0), (5, .d (.l o.sibs.length (sbsD (o.sibs.map upO)))), (6, iv .i64 o.sibs.length)] from by first | rfl | simp [go_sem]]
    focus (have kxs : 987654321 = 987654320 + 1 := rfl; have kk1 := uN [] (hsort); (repeat' (first | refine G ?_ | refine AW.ret ?_ | (refine GC ?_ ?_ <;> intro h <;> (try simp only [hsB] at h) <;> try (exfalso; first | omega | contradiction)) | (refine GL ?_ ?_ <;> intro h <;> (try simp only [Bool.not_true, Bool.not_false] at h) <;> (try simp only [h]) <;> (try simp only [hsB] at h) <;> try (exfalso; first | omega | contradiction)) | fail)); all_goals clear kxs kk1)
    all_goals first | ((all_goals first | exact RetQ.fr 0 | exact RetQ.fn 0 | fail); done) | (exfalso; simp_all; done)

end Go.AW
