/-
  slices.SortStableFunc of few siblings; slices.Clone; strings.Compare.
-/
import Derived.Test.YtbjdiepceokmkaaObj1
import Derived.Test.YtbjdiepceokmkaaAwFrz
namespace Go.AW
open Go Go.Proofs
set_option maxHeartbeats 2000000
set_option maxRecDepth 10000
set_option linter.unusedSimpArgs false
set_option linter.unusedVariables false
attribute [local irreducible] thenQ blockQ RetQ AL AW AC AOp

theorem setD_len (xs : List D) (i : Nat) (a : D) : (xs.set i a).length = xs.length := List.length_set
theorem onesD_append : ∀ (l m : List D), onesD l = true → onesD m = true → onesD (l ++ m) = true
  | [], m, _, h => h
  | x :: l, m, h, h2 => by
    simp only [onesD, Bool.and_eq_true, List.cons_append] at h ⊢
    exact ⟨h.1, onesD_append l m h.2 h2⟩
theorem onesD_flat {α : Type} (f : α → List D) (h : ∀ x, onesD (f x) = true) : ∀ l : List α, onesD ((l.map f).flatten) = true
  | [] => rfl
  | x :: l => by
    rw [List.map_cons, List.flatten_cons]
    exact onesD_append _ _ (h x) (onesD_flat f h l)
theorem setAt_mid7 : ∀ (ys u v t : List D), v.length = ys.length → setAt (u ++ (v ++ t)) u.length ys = u ++ (ys ++ t)
  | [], u, v, t, h => by
    rw [List.length_eq_zero_iff.1 h]; rfl
  | y :: ys, u, [], t, h => by simp at h
  | y :: ys, u, z :: v, t, h => by
    have ih := setAt_mid7 ys (u ++ [y]) v t (by simpa using h)
    simp only [List.append_assoc, List.cons_append, List.nil_append, List.length_append, List.length_cons, List.length_nil] at ih
    show setAt ((u ++ z :: (v ++ t)).set u.length y) (u.length + 1) ys = u ++ y :: (ys ++ t)
    rw [List.set_append_right _ _ (Nat.le_refl _), Nat.sub_self, List.set_cons_zero]
    exact ih
theorem setAt_sbs (A B : List Sb) (z x : Sb) : setAt (sbsD (A ++ z :: B)) (A.length * 7) (sbD x) = sbsD (A ++ x :: B) := by
  have h := setAt_mid7 (sbD x) (sbsD A) (sbD z) (sbsD B) rfl
  rw [show (sbsD A).length = A.length * 7 from flat_len (f := sbD) (sz := 7) (fun _ => rfl) A] at h
  simp only [sbsD, List.map_append, List.map_cons, List.flatten_append, List.flatten_cons] at h ⊢
  exact h

theorem clone_En (v : Vec) (hv : v.length ≤ 1000000) : AC Try.prog 71 [.d (.l v.length (vecD v))] [] fun x σ => x = .d (.l v.length (vecD v)) ∧ σ = [] := by
  refine AC.walk Try.func71 rfl (by decide) (of_decide_eq_true rfl) ?_
  have hol : (vecD v).length = v.length * 2 := flat_len (f := enD) (sz := 2) (fun _ => rfl) v
  have hon : onesD (vecD v) = true := onesD_flat enD (fun _ => rfl) v
  focus (have kxs : 987654321 = 987654320 + 1 := rfl; (repeat' (first | refine G ?_ | refine AW.ret ?_ | (refine GC ?_ ?_ <;> intro h <;> (try simp only [hsB] at h) <;> try (exfalso; first | omega | contradiction)) | (refine GL ?_ ?_ <;> intro h <;> (try simp only [Bool.not_true, Bool.not_false] at h) <;> (try simp only [h]) <;> (try simp only [hsB] at h) <;> try (exfalso; first | omega | contradiction)) | fail)); all_goals clear kxs)
  refine AL.one (by decide) fun Kr hr => ?_
  (try simp only [ao, List.map_cons, List.map_nil]); simp (disch := omega) only [go_sem]
  intro b hb
  refine hr _ _ ?_
  clear hr Kr
  cases b with
  | true =>
    have h0 : v = [] := List.length_eq_zero_iff.1 (hb rfl)
    subst h0
    focus (have kxs : 987654321 = 987654320 + 1 := rfl; (repeat' (first | refine G ?_ | refine AW.ret ?_ | (refine GC ?_ ?_ <;> intro h <;> (try simp only [hsB] at h) <;> try (exfalso; first | omega | contradiction)) | (refine GL ?_ ?_ <;> intro h <;> (try simp only [Bool.not_true, Bool.not_false] at h) <;> (try simp only [h]) <;> (try simp only [hsB] at h) <;> try (exfalso; first | omega | contradiction)) | fail)); all_goals clear kxs)
    all_goals first | ((all_goals first | exact RetQ.fr 0 | exact RetQ.fn 0 | fail); done) | (exfalso; simp_all; done)
  | false =>
    focus (have kxs := hon; (repeat' (first | refine G ?_ | refine AW.ret ?_ | (refine GC ?_ ?_ <;> intro h <;> (try simp only [hsB] at h) <;> try (exfalso; first | omega | contradiction)) | (refine GL ?_ ?_ <;> intro h <;> (try simp only [Bool.not_true, Bool.not_false] at h) <;> (try simp only [h]) <;> (try simp only [hsB] at h) <;> try (exfalso; first | omega | contradiction)) | fail)); all_goals clear kxs)
    all_goals first | ((all_goals first | exact RetQ.fr 0 | exact RetQ.fn 0 | fail); done) | (exfalso; simp_all; done)
theorem clone_Pr (v : Prs) (hv : v.length ≤ 1000000) : AC Try.prog 72 [.d (.l v.length (prsD v))] [] fun x σ => x = .d (.l v.length (prsD v)) ∧ σ = [] := by
  refine AC.walk Try.func72 rfl (by decide) (of_decide_eq_true rfl) ?_
  have hol : (prsD v).length = v.length * 2 := flat_len (f := prD) (sz := 2) (fun _ => rfl) v
  have hon : onesD (prsD v) = true := onesD_flat prD (fun _ => rfl) v
  focus (have kxs : 987654321 = 987654320 + 1 := rfl; (repeat' (first | refine G ?_ | refine AW.ret ?_ | (refine GC ?_ ?_ <;> intro h <;> (try simp only [hsB] at h) <;> try (exfalso; first | omega | contradiction)) | (refine GL ?_ ?_ <;> intro h <;> (try simp only [Bool.not_true, Bool.not_false] at h) <;> (try simp only [h]) <;> (try simp only [hsB] at h) <;> try (exfalso; first | omega | contradiction)) | fail)); all_goals clear kxs)
  refine AL.one (by decide) fun Kr hr => ?_
  (try simp only [ao, List.map_cons, List.map_nil]); simp (disch := omega) only [go_sem]
  intro b hb
  refine hr _ _ ?_
  clear hr Kr
  cases b with
  | true =>
    have h0 : v = [] := List.length_eq_zero_iff.1 (hb rfl)
    subst h0
    focus (have kxs : 987654321 = 987654320 + 1 := rfl; (repeat' (first | refine G ?_ | refine AW.ret ?_ | (refine GC ?_ ?_ <;> intro h <;> (try simp only [hsB] at h) <;> try (exfalso; first | omega | contradiction)) | (refine GL ?_ ?_ <;> intro h <;> (try simp only [Bool.not_true, Bool.not_false] at h) <;> (try simp only [h]) <;> (try simp only [hsB] at h) <;> try (exfalso; first | omega | contradiction)) | fail)); all_goals clear kxs)
    all_goals first | ((all_goals first | exact RetQ.fr 0 | exact RetQ.fn 0 | fail); done) | (exfalso; simp_all; done)
  | false =>
    focus (have kxs := hon; (repeat' (first | refine G ?_ | refine AW.ret ?_ | (refine GC ?_ ?_ <;> intro h <;> (try simp only [hsB] at h) <;> try (exfalso; first | omega | contradiction)) | (refine GL ?_ ?_ <;> intro h <;> (try simp only [Bool.not_true, Bool.not_false] at h) <;> (try simp only [h]) <;> (try simp only [hsB] at h) <;> try (exfalso; first | omega | contradiction)) | fail)); all_goals clear kxs)
    all_goals first | ((all_goals first | exact RetQ.fr 0 | exact RetQ.fn 0 | fail); done) | (exfalso; simp_all; done)
theorem sibling_Copy (x : Sb) (h1 : x.clk.ctx.length ≤ 1000000) (h2 : x.meta_.length ≤ 1000000) : AC Try.prog 23 [sbV x] [] fun y σ => y = sbV x ∧ σ = [] := by
  refine AC.walk Try.func23 rfl (by decide) (of_decide_eq_true rfl) ?_
  focus (have kxs : 987654321 = 987654320 + 1 := rfl; have kk1 := uN [] (clone_En x.clk.ctx h1); have kk2 := uN [] (clone_Pr x.meta_ h2); (repeat' (first | refine G ?_ | refine AW.ret ?_ | (refine GC ?_ ?_ <;> intro h <;> (try simp only [hsB] at h) <;> try (exfalso; first | omega | contradiction)) | (refine GL ?_ ?_ <;> intro h <;> (try simp only [Bool.not_true, Bool.not_false] at h) <;> (try simp only [h]) <;> (try simp only [hsB] at h) <;> try (exfalso; first | omega | contradiction)) | fail)); all_goals clear kxs kk1 kk2)
  all_goals first | ((all_goals first | exact RetQ.fr 0 | exact RetQ.fn 0 | fail); done) | (exfalso; simp_all; done)

theorem bytealg_Compare (s t : List UInt8) : AC Try.prog 114 [sv (bs s), sv (bs t)] [] fun y σ => y = iv .i64 (Go.Lib.compareBytes s t) ∧ σ = [] := by
  refine AC.walk Try.func114 rfl (by decide) (of_decide_eq_true rfl) ?_
  focus (have kxs : 987654321 = 987654320 + 1 := rfl; (repeat' (first | refine G ?_ | refine AW.ret ?_ | (refine GC ?_ ?_ <;> intro h <;> (try simp only [hsB] at h) <;> try (exfalso; first | omega | contradiction)) | (refine GL ?_ ?_ <;> intro h <;> (try simp only [Bool.not_true, Bool.not_false] at h) <;> (try simp only [h]) <;> (try simp only [hsB] at h) <;> try (exfalso; first | omega | contradiction)) | fail)); all_goals clear kxs)
  refine AL.callv (by decide) fun Kr hr => ?_
  refine AOp.cmp Try.func131 (by kernel_rfl) (by kernel_rfl) (by kernel_rfl) (by kernel_rfl) rfl rfl ?_
  refine hr _ _ ?_
  clear hr Kr
  focus (have kxs : 987654321 = 987654320 + 1 := rfl; (repeat' (first | refine G ?_ | refine AW.ret ?_ | (refine GC ?_ ?_ <;> intro h <;> (try simp only [hsB] at h) <;> try (exfalso; first | omega | contradiction)) | (refine GL ?_ ?_ <;> intro h <;> (try simp only [Bool.not_true, Bool.not_false] at h) <;> (try simp only [h]) <;> (try simp only [hsB] at h) <;> try (exfalso; first | omega | contradiction)) | fail)); all_goals clear kxs)
  all_goals first | ((all_goals first | exact RetQ.fr 0 | exact RetQ.fn 0 | fail); done) | (exfalso; simp_all; done)
theorem strings_Compare (s t : List UInt8) : AC Try.prog 81 [sv (bs s), sv (bs t)] [] fun y σ => y = iv .i64 (Go.Lib.compareBytes s t) ∧ σ = [] := by
  refine AC.walk Try.func81 rfl (by decide) (of_decide_eq_true rfl) ?_
  focus (have kxs : 987654321 = 987654320 + 1 := rfl; have kk1 := uN [] (bytealg_Compare s t); (repeat' (first | refine G ?_ | refine AW.ret ?_ | (refine GC ?_ ?_ <;> intro h <;> (try simp only [hsB] at h) <;> try (exfalso; first | omega | contradiction)) | (refine GL ?_ ?_ <;> intro h <;> (try simp only [Bool.not_true, Bool.not_false] at h) <;> (try simp only [h]) <;> (try simp only [hsB] at h) <;> try (exfalso; first | omega | contradiction)) | fail)); all_goals clear kxs kk1)
  all_goals first | ((all_goals first | exact RetQ.fr 0 | exact RetQ.fn 0 | fail); done)
theorem object_less (x y : Sb) (hx : x.fits) (hy : y.fits) (cx : x.check = 0) (cy : y.check = 0) : AC Try.prog 80 [sbV x, sbV y] [] fun z σ => z = iv .i64 (Go.Lib.compareBytes (skey x) (skey y)) ∧ σ = [] := by
  refine AC.walk Try.func80 rfl (by decide) (of_decide_eq_true rfl) ?_
  focus (have kxs : 987654321 = 987654320 + 1 := rfl; have kk1 := uN [] (object_key x hx cx); have kk2 := uN [] (object_key y hy cy); have kk3 := uN [] (strings_Compare (skey x) (skey y)); (repeat' (first | (refine ADr.nil ?_; try clear hgv) | refine GO ?_ | refine AW.ret ?_ | (refine GC ?_ ?_ <;> intro h <;> (try simp only [hsB] at h) <;> try (exfalso; first | omega | contradiction)) | (refine GD ?_ ?_ <;> intro h <;> (try intro hgv) <;> (try simp only [Bool.not_true, Bool.not_false] at h) <;> (try simp only [h]) <;> (try simp only [hsB] at h) <;> try (exfalso; first | omega | contradiction)) | (refine GL ?_ ?_ <;> intro h <;> (try simp only [Bool.not_true, Bool.not_false] at h) <;> (try simp only [h]) <;> (try simp only [hsB] at h) <;> try (exfalso; first | omega | contradiction)) | fail)); all_goals clear kxs kk1 kk2 kk3)
  all_goals first | ((all_goals first | exact RetQ.fr 0 | exact RetQ.fn 0 | fail); done)

/-- What the sort has by its step i. -/
def part (l : List Sb) (i : Nat) : List Sb := ((l.take i).foldl (fun acc x => insR slt x acc) []).reverse ++ l.drop i
theorem part_acc_len (l : List Sb) {i : Nat} (hi : i ≤ l.length) : ((l.take i).foldl (fun acc x => insR slt x acc) []).length = i := by
  have := (foldl_insR_perm slt (l.take i) []).length_eq
  simp at this
  omega
theorem part_one {l : List Sb} (h : 0 < l.length) : part l 1 = l := by
  cases l with
  | nil => simp at h
  | cons x l => simp [part, insR]
theorem part_all (l : List Sb) : part l l.length = isort slt l := by simp [part, isort]
theorem part_next {l r : List Sb} {x : Sb} {i : Nat} (h : l.drop i = x :: r) : part l (i + 1) = (insR slt x ((l.take i).foldl (fun acc x => insR slt x acc) [])).reverse ++ r := by
  unfold part
  rw [next_take h, next_drop h, List.foldl_append]; rfl
theorem part_perm (l : List Sb) (i : Nat) : (part l i).Perm l := by
  unfold part
  refine ((List.reverse_perm _).append_right _).trans ?_
  refine ((foldl_insR_perm slt (l.take i) []).append_right _).trans ?_
  rw [List.append_nil, List.take_append_drop]

theorem insertion_Sb (l : List Sb) (hn : l.length ≤ 16) (g : FuncId) (hc : ∀ x ∈ l, ∀ y ∈ l, AC Try.prog g [sbV x, sbV y] [] fun z σ => z = iv .i64 (Go.Lib.compareBytes (skey x) (skey y)) ∧ σ = []) :
    AC Try.prog 129 [.o 0 l.length, iv .i64 0, iv .i64 l.length, .f (.func g) [] []] [.row 44 7 l.length (sbsD l)] fun x σ => x = .t [] ∧ σ = [.row 44 7 l.length (sbsD (isort slt l))] := by
  refine AC.walk Try.func129 rfl (by decide) (of_decide_eq_true rfl) ?_
  by_cases h0 : l.length = 0
  case pos =>
    have hl : l = [] := List.length_eq_zero_iff.1 h0
    subst hl
    focus (have kxs : 987654321 = 987654320 + 1 := rfl; (repeat' (first | (refine ADr.nil ?_; try clear hgv) | refine GO ?_ | refine AW.ret ?_ | (refine GC ?_ ?_ <;> intro h <;> (try simp only [hsB] at h) <;> try (exfalso; first | omega | contradiction)) | (refine GD ?_ ?_ <;> intro h <;> (try intro hgv) <;> (try simp only [Bool.not_true, Bool.not_false] at h) <;> (try simp only [h]) <;> (try simp only [hsB] at h) <;> try (exfalso; first | omega | contradiction)) | (refine GL ?_ ?_ <;> intro h <;> (try simp only [Bool.not_true, Bool.not_false] at h) <;> (try simp only [h]) <;> (try simp only [hsB] at h) <;> try (exfalso; first | omega | contradiction)) | fail)); all_goals clear kxs)
    refine AW.rounds [0, 1, 2, 3, 8] (fun _ : Nat => [(0, .o 0 0), (1, iv .i64 0), (2, iv .i64 0), (3, .f (.func g) [] []), (8, iv .i64 1)]) (fun _ => [.row 44 7 0 []]) (fun _ => True) (fun _ => 0) 0 trivial rfl rfl (fun _ _ => Nat.le_of_ble_eq_true rfl) (fun _ _ => rfl) (fun _ _ => rfl) ?_
    intro i _ J hJ
    focus (have kxs : 987654321 = 987654320 + 1 := rfl; (repeat' (first | (refine ADr.nil ?_; try clear hgv) | refine GO ?_ | refine AW.ret ?_ | (refine GC ?_ ?_ <;> intro h <;> (try simp only [hsB] at h) <;> try (exfalso; first | omega | contradiction)) | (refine GD ?_ ?_ <;> intro h <;> (try intro hgv) <;> (try simp only [Bool.not_true, Bool.not_false] at h) <;> (try simp only [h]) <;> (try simp only [hsB] at h) <;> try (exfalso; first | omega | contradiction)) | (refine GL ?_ ?_ <;> intro h <;> (try simp only [Bool.not_true, Bool.not_false] at h) <;> (try simp only [h]) <;> (try simp only [hsB] at h) <;> try (exfalso; first | omega | contradiction)) | fail)); all_goals clear kxs)
    all_goals first | ((all_goals first | exact RetQ.fr 1 | exact RetQ.fn 1 | fail); done) | (exfalso; omega)
  focus (have kxs : 987654321 = 987654320 + 1 := rfl; (repeat' (first | (refine ADr.nil ?_; try clear hgv) | refine GO ?_ | refine AW.ret ?_ | (refine GC ?_ ?_ <;> intro h <;> (try simp only [hsB] at h) <;> try (exfalso; first | omega | contradiction)) | (refine GD ?_ ?_ <;> intro h <;> (try intro hgv) <;> (try simp only [Bool.not_true, Bool.not_false] at h) <;> (try simp only [h]) <;> (try simp only [hsB] at h) <;> try (exfalso; first | omega | contradiction)) | (refine GL ?_ ?_ <;> intro h <;> (try simp only [Bool.not_true, Bool.not_false] at h) <;> (try simp only [h]) <;> (try simp only [hsB] at h) <;> try (exfalso; first | omega | contradiction)) | fail)); all_goals clear kxs)
  refine AW.rounds [0, 1, 2, 3, 8] (fun i : Nat => [(0, .o 0 l.length), (1, iv .i64 0), (2, iv .i64 l.length), (3, .f (.func g) [] []), (8, iv .i64 i)]) (fun i => [.row 44 7 l.length (sbsD (part l i))]) (fun i => 1 ≤ i ∧ i ≤ l.length) (fun i => l.length - i) 1 ⟨Nat.le_refl 1, by omega⟩ rfl (by rw [part_one (by omega)]; rfl) (fun _ _ => Nat.le_of_ble_eq_true rfl) (fun _ _ => rfl) (fun _ _ => rfl) ?_
  rintro i ⟨hi1, hi⟩ J hJ
  by_cases hil : i < l.length
  case neg =>
    have hie : i = l.length := by omega
    rw [hie, part_all]
    focus (have kxs : 987654321 = 987654320 + 1 := rfl; (repeat' (first | (refine ADr.nil ?_; try clear hgv) | refine GO ?_ | refine AW.ret ?_ | (refine GC ?_ ?_ <;> intro h <;> (try simp only [hsB] at h) <;> try (exfalso; first | omega | contradiction)) | (refine GD ?_ ?_ <;> intro h <;> (try intro hgv) <;> (try simp only [Bool.not_true, Bool.not_false] at h) <;> (try simp only [h]) <;> (try simp only [hsB] at h) <;> try (exfalso; first | omega | contradiction)) | (refine GL ?_ ?_ <;> intro h <;> (try simp only [Bool.not_true, Bool.not_false] at h) <;> (try simp only [h]) <;> (try simp only [hsB] at h) <;> try (exfalso; first | omega | contradiction)) | fail)); all_goals clear kxs)
    all_goals first | ((all_goals first | exact RetQ.fr 1 | exact RetQ.fn 1 | fail); done) | (exfalso; omega)
  obtain ⟨x, rest, hd⟩ := next_at hil
  have hpn := part_next hd
  have hal := part_acc_len l hi
  have hpp := part_perm l i
  have hpu : part l i = ((l.take i).foldl (fun acc x => insR slt x acc) []).reverse ++ x :: rest := by unfold part; rw [hd]
  have hxl := next_mem hd
  generalize hacc : (l.take i).foldl (fun acc x => insR slt x acc) [] = acc at *
  focus (have kxs : 987654321 = 987654320 + 1 := rfl; (repeat' (first | (refine ADr.nil ?_; try clear hgv) | refine GO ?_ | refine AW.ret ?_ | (refine GC ?_ ?_ <;> intro h <;> (try simp only [hsB] at h) <;> try (exfalso; first | omega | contradiction)) | (refine GD ?_ ?_ <;> intro h <;> (try intro hgv) <;> (try simp only [Bool.not_true, Bool.not_false] at h) <;> (try simp only [h]) <;> (try simp only [hsB] at h) <;> try (exfalso; first | omega | contradiction)) | (refine GL ?_ ?_ <;> intro h <;> (try simp only [Bool.not_true, Bool.not_false] at h) <;> (try simp only [h]) <;> (try simp only [hsB] at h) <;> try (exfalso; first | omega | contradiction)) | fail)); all_goals clear kxs)
  all_goals first | (exfalso; omega) | skip
  refine AW.rounds [0, 1, 2, 3, 8, 9] (fun y : Nat × List Sb => [(0, .o 0 l.length), (1, iv .i64 0), (2, iv .i64 l.length), (3, .f (.func g) [] []), (8, iv .i64 i), (9, iv .i64 y.1)]) (fun y => [.row 44 7 l.length (sbsD y.2)])
    (fun y => y.2.length = l.length ∧ (∀ z ∈ y.2, z ∈ l) ∧ ∃ r s, insR slt x acc = s.reverse ++ insR slt x r ∧ r.length = y.1 ∧ y.2 = r.reverse ++ x :: (s ++ rest)) (fun y => y.1) (i, part l i)
    ⟨hpp.length_eq, fun z hz => hpp.mem_iff.1 hz, acc, [], by simp, hal, by simpa using hpu⟩ rfl rfl (fun _ _ => Nat.le_of_ble_eq_true rfl) (fun _ _ => rfl) (fun _ _ => rfl) ?_
  rintro ⟨j, L⟩ ⟨hLn, hLm, r, s, hins, hrl, hL⟩ J' hJ'
  simp only at hLn hLm hrl hL ⊢
  have hLl : (sbsD L).length = l.length * 7 := by rw [← hLn]; exact flat_len (f := sbD) (sz := 7) (fun _ => rfl) L
  cases r with
  | nil =>
    have hj0 : j = 0 := by simpa using hrl.symm
    subst hj0
    have hfin : L = part l (i + 1) := by rw [hpn, hins, hL]; simp [insR]
    focus (have kxs : 987654321 = 987654320 + 1 := rfl; (repeat' (first | (refine ADr.nil ?_; try clear hgv) | refine GO ?_ | refine AW.ret ?_ | (refine GC ?_ ?_ <;> intro h <;> (try simp only [hsB] at h) <;> try (exfalso; first | omega | contradiction)) | (refine GD ?_ ?_ <;> intro h <;> (try intro hgv) <;> (try simp only [Bool.not_true, Bool.not_false] at h) <;> (try simp only [h]) <;> (try simp only [hsB] at h) <;> try (exfalso; first | omega | contradiction)) | (refine GL ?_ ?_ <;> intro h <;> (try simp only [Bool.not_true, Bool.not_false] at h) <;> (try simp only [h]) <;> (try simp only [hsB] at h) <;> try (exfalso; first | omega | contradiction)) | fail)); all_goals clear kxs)
    all_goals first | (refine hJ (i + 1) _ _ (by omega) ⟨by omega, hil⟩ rfl ?_; rw [← hfin]; rfl) | (exfalso; omega)
  | cons y r =>
    have hj1 : r.length + 1 = j := by simpa using hrl
    have hjL : j < l.length := by
      have := congrArg List.length hL
      simp at this
      omega
    have hdj : L.drop j = x :: (s ++ rest) := by
      rw [hL, ← hj1, List.reverse_cons, List.append_assoc, show r.length = r.reverse.length from by simp, List.drop_length_add_append]; rfl
    have hdy : L.drop (j - 1) = y :: x :: (s ++ rest) := by
      rw [hL, ← hj1]
      simp
    have hcx := sbs_drop hdj
    have hcy := sbs_drop hdy
    have hyl : y ∈ l := hLm y (next_mem hdy)
    have hcl := cmp_less (skey x) (skey y)
    have hji : ((j : Int) - 1).toNat = j - 1 := by omega
    by_cases hls : slt x y = true
    · rw [show lessB (skey x) (skey y) = true from hls] at hcl
      have hset : setAt (setAt (sbsD L) (j * 7) (sbD y)) ((j - 1) * 7) (sbD x) = sbsD (r.reverse ++ x :: y :: (s ++ rest)) := by
        have e1 := setAt_sbs (r.reverse ++ [y]) (s ++ rest) x y
        have e2 := setAt_sbs r.reverse (y :: (s ++ rest)) y x
        simp only [List.length_append, List.length_reverse, List.length_cons, List.length_nil, Nat.zero_add, List.append_assoc, List.cons_append, List.nil_append] at e1 e2
        rw [hL]
        simp only [List.reverse_cons, List.append_assoc, List.cons_append, List.nil_append]
        rw [← hj1, e1, Nat.add_sub_cancel, e2]
      have hins2 : insR slt x acc = (y :: s).reverse ++ insR slt x r := by
        rw [hins]
        unfold insR
        rw [if_pos hls]
        cases r <;> simp [insR]
      have hji2 : ((j : Int) - 1) = ((j - 1 : Nat) : Int) := by omega
      have hL2n : (r.reverse ++ x :: y :: (s ++ rest)).length = l.length := by rw [← hLn, hL]; simp
      have hL2m : ∀ z ∈ r.reverse ++ x :: y :: (s ++ rest), z ∈ l := fun z hz => hLm z (by
        rw [hL]
        simp only [List.reverse_cons, List.mem_append, List.mem_cons, List.mem_singleton, List.mem_reverse] at hz ⊢
        rcases hz with h | h | h | h | h <;> simp [h])
      focus (have kxs := And.intro hcx (And.intro hcy (And.intro hji (And.intro hcl setD_len))); have kk1 := uN [] (hc x hxl y hyl); (repeat' (first | (refine ADr.nil ?_; try clear hgv) | refine GW ?_ | refine AW.ret ?_ | (refine GC ?_ ?_ <;> intro h <;> (try simp only [hsB] at h) <;> try (exfalso; first | omega | contradiction)) | (refine GD ?_ ?_ <;> intro h <;> (try intro hgv) <;> (try simp only [Bool.not_true, Bool.not_false] at h) <;> (try simp only [h]) <;> (try simp only [hsB] at h) <;> try (exfalso; first | omega | contradiction)) | (refine GL ?_ ?_ <;> intro h <;> (try simp only [Bool.not_true, Bool.not_false] at h) <;> (try simp only [h]) <;> (try simp only [hsB] at h) <;> try (exfalso; first | omega | contradiction)) | fail)); all_goals clear kxs kk1)
      all_goals first
        | exact hJ' (j - 1, r.reverse ++ x :: y :: (s ++ rest)) _ _ (by show j - 1 < j; omega) ⟨hL2n, hL2m, r, y :: s, hins2, by show r.length = j - 1; omega, by simp⟩ (by simp only [← hji2]; rfl) (by rw [← hset]; rfl)
        | (exfalso; omega) | (exfalso; simp_all; done)
    · have hls : slt x y = false := by simpa using hls
      rw [show lessB (skey x) (skey y) = false from hls] at hcl
      have hfin : L = part l (i + 1) := by
        rw [hpn, hins, hL]
        unfold insR
        rw [if_neg (by rw [hls]; decide)]
        simp
      focus (have kxs := And.intro hcx (And.intro hcy (And.intro hji hcl)); have kk1 := uN [] (hc x hxl y hyl); (repeat' (first | (refine ADr.nil ?_; try clear hgv) | refine GO ?_ | refine AW.ret ?_ | (refine GC ?_ ?_ <;> intro h <;> (try simp only [hsB] at h) <;> try (exfalso; first | omega | contradiction)) | (refine GD ?_ ?_ <;> intro h <;> (try intro hgv) <;> (try simp only [Bool.not_true, Bool.not_false] at h) <;> (try simp only [h]) <;> (try simp only [hsB] at h) <;> try (exfalso; first | omega | contradiction)) | (refine GL ?_ ?_ <;> intro h <;> (try simp only [Bool.not_true, Bool.not_false] at h) <;> (try simp only [h]) <;> (try simp only [hsB] at h) <;> try (exfalso; first | omega | contradiction)) | fail)); all_goals clear kxs kk1)
      all_goals first | (refine hJ (i + 1) _ _ (by omega) ⟨by omega, hil⟩ rfl ?_; rw [← hfin]; rfl) | (exfalso; omega) | (exfalso; simp_all; done)
theorem stable_Sb (l : List Sb) (hn : l.length ≤ 16) (g : FuncId) (hc : ∀ x ∈ l, ∀ y ∈ l, AC Try.prog g [sbV x, sbV y] [] fun z σ => z = iv .i64 (Go.Lib.compareBytes (skey x) (skey y)) ∧ σ = []) :
    AC Try.prog 113 [.o 0 l.length, iv .i64 l.length, .f (.func g) [] []] [.row 44 7 l.length (sbsD l)] fun x σ => x = .t [] ∧ σ = [.row 44 7 l.length (sbsD (isort slt l))] := by
  refine AC.walk Try.func113 rfl (by decide) (of_decide_eq_true rfl) ?_
  focus (have kxs : 987654321 = 987654320 + 1 := rfl; (repeat' (first | refine G ?_ | refine AW.ret ?_ | (refine GC ?_ ?_ <;> intro h <;> (try simp only [hsB] at h) <;> try (exfalso; first | omega | contradiction)) | (refine GL ?_ ?_ <;> intro h <;> (try simp only [Bool.not_true, Bool.not_false] at h) <;> (try simp only [h]) <;> (try simp only [hsB] at h) <;> try (exfalso; first | omega | contradiction)) | fail)); all_goals clear kxs)
  refine AW.rounds [0, 1, 2, 6, 7, 8] (fun _ : Nat => [(0, .o 0 l.length), (1, iv .i64 l.length), (2, .f (.func g) [] []), (6, iv .i64 20), (7, iv .i64 0), (8, iv .i64 20)]) (fun _ => [.row 44 7 l.length (sbsD l)]) (fun _ => True) (fun _ => 0) 0 trivial rfl rfl (fun _ _ => Nat.le_of_ble_eq_true rfl) (fun _ _ => rfl) (fun _ _ => rfl) ?_
  intro i _ J hJ
  focus (have kxs : 987654321 = 987654320 + 1 := rfl; have kk1 := uN [0] (insertion_Sb l hn g hc); (repeat' (first | refine G ?_ | refine AW.ret ?_ | (refine GC ?_ ?_ <;> intro h <;> (try simp only [hsB] at h) <;> try (exfalso; first | omega | contradiction)) | (refine GL ?_ ?_ <;> intro h <;> (try simp only [Bool.not_true, Bool.not_false] at h) <;> (try simp only [h]) <;> (try simp only [hsB] at h) <;> try (exfalso; first | omega | contradiction)) | fail)); all_goals clear kxs kk1)
  all_goals first | (exfalso; omega) | skip
  refine AW.rounds [0, 1, 2, 6, 7, 8] (fun _ : Nat => [(0, .o 0 l.length), (1, iv .i64 l.length), (2, .f (.func g) [] []), (6, iv .i64 20), (7, iv .i64 0), (8, iv .i64 20)]) (fun _ => [.row 44 7 l.length (sbsD (isort slt l))]) (fun _ => True) (fun _ => 0) 0 trivial rfl rfl (fun _ _ => Nat.le_of_ble_eq_true rfl) (fun _ _ => rfl) (fun _ _ => rfl) ?_
  intro i _ J hJ
  focus (have kxs : 987654321 = 987654320 + 1 := rfl; (repeat' (first | refine G ?_ | refine AW.ret ?_ | (refine GC ?_ ?_ <;> intro h <;> (try simp only [hsB] at h) <;> try (exfalso; first | omega | contradiction)) | (refine GL ?_ ?_ <;> intro h <;> (try simp only [Bool.not_true, Bool.not_false] at h) <;> (try simp only [h]) <;> (try simp only [hsB] at h) <;> try (exfalso; first | omega | contradiction)) | fail)); all_goals clear kxs)
  all_goals first | ((all_goals first | exact RetQ.fr 1 | exact RetQ.fn 1 | fail); done) | (exfalso; omega)
theorem sort_Sb (l : List Sb) (hn : l.length ≤ 16) (g : FuncId) (hc : ∀ x ∈ l, ∀ y ∈ l, AC Try.prog g [sbV x, sbV y] [] fun z σ => z = iv .i64 (Go.Lib.compareBytes (skey x) (skey y)) ∧ σ = []) :
    AC Try.prog 79 [.o 0 l.length, .f (.func g) [] []] [.row 44 7 l.length (sbsD l)] fun x σ => x = .t [] ∧ σ = [.row 44 7 l.length (sbsD (isort slt l))] := by
  refine AC.walk Try.func79 rfl (by decide) (of_decide_eq_true rfl) ?_
  focus (have kxs : 987654321 = 987654320 + 1 := rfl; have kk1 := uN [0] (stable_Sb l hn g hc); (repeat' (first | refine G ?_ | refine AW.ret ?_ | (refine GC ?_ ?_ <;> intro h <;> (try simp only [hsB] at h) <;> try (exfalso; first | omega | contradiction)) | (refine GL ?_ ?_ <;> intro h <;> (try simp only [Bool.not_true, Bool.not_false] at h) <;> (try simp only [h]) <;> (try simp only [hsB] at h) <;> try (exfalso; first | omega | contradiction)) | fail)); all_goals clear kxs kk1)
  all_goals first | ((all_goals first | exact RetQ.fr 1 | exact RetQ.fn 1 | fail); done)
end Go.AW
