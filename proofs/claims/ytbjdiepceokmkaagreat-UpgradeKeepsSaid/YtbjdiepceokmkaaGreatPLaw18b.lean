/-
  Plain: upgrading loses nothing.
-/
import Derived.Test.YtbjdiepceokmkaaGreatPLaw18
import Derived.Test.YtbjdiepceokmkaaGreatMc
namespace Go.AW
set_option linter.unusedVariables false

theorem perm_nodup {α : Type} [DecidableEq α] : ∀ (l m : List α), l.Nodup → (∀ x ∈ l, x ∈ m) → m.length ≤ l.length → l.Perm m
  | [], m, _, _, hl => by
    have : m = [] := List.length_eq_zero_iff.1 (Nat.le_zero.1 hl)
    rw [this]
  | x :: l, m, hn, hs, hl => by
    rw [List.nodup_cons] at hn
    have hx := hs x List.mem_cons_self
    have ih := perm_nodup l (m.erase x) hn.2 (fun y hy => (List.mem_erase_of_ne (fun e => hn.1 (by rw [← e]; exact hy))).2 (hs y (List.mem_cons_of_mem _ hy))) (by
      rw [List.length_erase_of_mem hx]
      simp only [List.length_cons] at hl
      omega)
    exact (ih.cons x).trans (List.perm_cons_erase hx).symm
theorem up_gclk {x : Os1} (h : x.clk.check = 0) (hu : ∀ y ∈ x.clk, y.2 < 18446744073709551616) : gclk (upO x).clk := ⟨by unfold Ck.check; simp [upO, h], hu, by simp [upO]⟩
theorem up_check {x : Os1} (h : x.clk.check = 0) (hv : x.val.length ≤ 32768) : (upO x).check = 0 := by
  have h1 : (upO x).clk.check = 0 := by unfold Ck.check; simp [upO, h]
  have h2 : (upO x).meta_.check = 0 := by show Prs.check [] = 0; decide
  have h3 : (upO x).val.length ≤ 32768 := hv
  unfold Sb.check
  rw [if_neg (by simpa using h1), if_neg (by simpa using h2), if_neg (by omega)]
theorem up_nodup {o : Od} (hg : gold o) : ((o.sibs.map upO).map skey).Nodup := by
  obtain ⟨h1, h2⟩ := Od.check_parts hg.1
  obtain ⟨h3, h4⟩ := ocheck_parts _ _ h2
  unfold List.Nodup at h4 ⊢
  rw [List.pairwise_map] at h4
  rw [List.pairwise_map, List.pairwise_map]
  refine h4.imp_of_mem fun {a b} ha hb hab he => hab ?_
  have := trip_clk.inj (up_gclk (h3 a ha).1 (hg.2 a ha)) (up_gclk (h3 b hb).1 (hg.2 b hb)) he
  exact congrArg Ck.ctx this
theorem upgr_good {o : Od} (hg : gold o) : upgr o = (⟨o.key, isort slt (o.sibs.map upO)⟩, 0) := by
  obtain ⟨h1, h2⟩ := Od.check_parts hg.1
  obtain ⟨h3, h4⟩ := ocheck_parts _ _ h2
  unfold upgr
  rw [if_neg (by simpa using hg.1)]
  refine osort_done (by rw [List.length_map]; exact h1) (schecks_zero.2 fun x hx => ?_) (isort_perm _ _) (isort_rise (up_nodup hg))
  obtain ⟨y, hy, rfl⟩ := List.mem_map.1 hx
  exact up_check (h3 y hy).1 (h3 y hy).2.1
theorem upgr_check {o : Od} (hg : gold o) : (upgr o).1.check = 0 := by
  have h := upgr_good hg
  have hz : (osort o.key (o.sibs.map upO)).2 = 0 := by
    have := h
    unfold upgr at this
    rw [if_neg (by simpa using hg.1)] at this
    rw [this]
  obtain ⟨_, _, h3, h4⟩ := osort_zero hz
  rw [h]
  exact h4
theorem upgr_plain {o : Od} (hg : gold o) : (upgr o).1.plain = true := by
  have hc := upgr_check hg
  unfold Oj.plain
  rw [hc, upgr_good hg]
  simp only [decide_true, Bool.true_and, Bool.not_eq_true', List.any_eq_false]
  intro x hx
  obtain ⟨y, hy, rfl⟩ := List.mem_map.1 ((mem_isort slt).1 hx)
  simp [upO]
theorem perm_check {o : Od} (h : o.check = 0) {l : List Os1} (hp : l.Perm o.sibs) : Od.check ⟨o.key, l⟩ = 0 := by
  obtain ⟨h1, h2⟩ := Od.check_parts h
  obtain ⟨h3, h4⟩ := ocheck_parts _ _ h2
  refine Od.check_ok ?_ (ocheck_ok _ _ (fun x hx => ?_) ?_)
  · show outside o.key l.length = 0
    rw [hp.length_eq]; exact h1
  · exact h3 x (hp.mem_iff.1 hx)
  · exact ((hp.map Os1.clk).nodup_iff).2 h4
theorem down_up {o : Od} (hg : gold o) : ∃ l : List Os1, l.Perm o.sibs ∧ downg (upgr o).1 = (⟨o.key, l⟩, 0) := by
  refine ⟨(isort slt (o.sibs.map upO)).map dnO, ?_, ?_⟩
  · refine ((isort_perm slt (o.sibs.map upO)).map dnO).trans ?_
    rw [List.map_map, show dnO ∘ upO = id from rfl, List.map_id]
  · unfold downg
    rw [if_pos (upgr_plain hg), upgr_good hg]
theorem perm_alike {o : Od} (h : o.check = 0) {l : List Os1} (hp : l.Perm o.sibs) : o.alike ⟨o.key, l⟩ = true := by
  unfold Od.alike
  simp only
  rw [hp.length_eq, perm_check h hp, h]
  simp only [decide_true, Bool.true_and, List.all_eq_true, List.any_eq_true, decide_eq_true_eq]
  exact fun x hx => ⟨x, hp.mem_iff.2 hx, rfl⟩
theorem alike_perm {o q : Od} (h : o.check = 0) (ha : o.alike q = true) : o.key = q.key ∧ o.sibs.Perm q.sibs := by
  unfold Od.alike at ha
  simp only [Bool.and_eq_true, decide_eq_true_eq, List.all_eq_true, List.any_eq_true] at ha
  obtain ⟨_, _, hk, hl, hs⟩ := ha
  refine ⟨hk, perm_nodup _ _ ?_ (fun x hx => by obtain ⟨y, hy, rfl⟩ := hs x hx; exact hy) (by omega)⟩
  have h4 := (ocheck_parts _ _ (Od.check_parts h).2).2
  unfold List.Nodup at h4 ⊢
  rw [List.pairwise_map] at h4
  exact h4.imp fun {a b} hab he => hab (by rw [he])
/-- Two come to the same just if they are alike. -/
theorem upgr_alike {o q : Od} (ho : gold o) (hq : gold q) : (upgr o).1 = (upgr q).1 ↔ o.alike q = true := by
  have key : (upgr o).1 = (upgr q).1 ↔ o.alike q = true := by
    rw [upgr_good ho, upgr_good hq]
    constructor
    · intro h
      have hk : o.key = q.key := congrArg Oj.key h
      have hs : isort slt (o.sibs.map upO) = isort slt (q.sibs.map upO) := congrArg Oj.sibs h
      have hp : (q.sibs.map upO).Perm (o.sibs.map upO) := (isort_perm slt _).symm.trans (by rw [← hs]; exact isort_perm slt _)
      have hp2 := hp.map dnO
      rw [List.map_map, List.map_map, show dnO ∘ upO = id from rfl, List.map_id, List.map_id] at hp2
      have := perm_alike ho.1 hp2
      rw [show (⟨o.key, q.sibs⟩ : Od) = q by rw [hk]] at this
      exact this
    · intro h
      obtain ⟨hk, hp⟩ := alike_perm ho.1 h
      have hs : isort slt (o.sibs.map upO) = isort slt (q.sibs.map upO) := rise_unique (R := fun a b => lessB (skey a) (skey b) = true) (fun x hx => by rw [less_irr] at hx; cases hx) (fun x y z => less_trans)
        ((isort_perm slt _).trans ((hp.map upO).trans (isort_perm slt _).symm)) (isort_rise (up_nodup ho)) (isort_rise (up_nodup hq))
      rw [hk, hs]
  exact key
theorem upgr_gobj {o : Od} (hg : gold o) : gobj (upgr o).1 := by
  refine ⟨upgr_check hg, fun x hx => ?_⟩
  rw [upgr_good hg] at hx
  obtain ⟨y, hy, rfl⟩ := List.mem_map.1 ((mem_isort slt).1 hx)
  exact ⟨hg.2 y hy, by simp [upO]⟩
/-- What is not great has bytes, that are read as it again. -/
theorem upgr_len {o : Od} (h : gold o) (hg : o.great = false) : (eobj (upgr o).1).length ≤ 65536 := by
  rw [upgr_good h]
  obtain ⟨hc, hn⟩ := h
  obtain ⟨h1, h2⟩ := Od.check_parts hc
  obtain ⟨k1, k2, k3, k4⟩ := outside_zero.1 h1
  have hp := (ocheck_parts _ _ h2).1
  unfold Od.great at hg
  simp only [Bool.or_eq_false_iff, decide_eq_false_iff_not, List.any_eq_false, Bool.or_eq_true, decide_eq_true_eq, not_or] at hg
  have hb := flat_bound esib 3570 (isort slt (o.sibs.map upO)) fun x hx => by
    obtain ⟨y, hy, rfl⟩ := List.mem_map.1 ((mem_isort slt).1 hx)
    obtain ⟨p1, p2, _⟩ := hp y hy
    have e1 := evec_len2 (v := y.clk) ⟨p1, hn y hy⟩
    have e2 := (hg.2 y hy).2
    have e3 := vput_len10 (n := y.val.length) (by omega)
    have e4 := vput_len10 (n := 0) (by omega)
    have : esib (upO y) = (evec y.clk ++ ([0] ++ [])) ++ ((vput 0 ++ []) ++ (eflag y.dead ++ (vput y.val.length ++ y.val))) := rfl
    rw [this]
    unfold eflag
    simp only [List.length_append, List.length_cons, List.length_nil]
    omega
  have e4 := vput_len10 (n := o.key.length) (by omega)
  have e5 := vput_len10 (n := o.sibs.length) (by omega)
  have e6 : o.sibs.length * 3570 ≤ 16 * 3570 := Nat.mul_le_mul k3 (by decide)
  have e7 : (isort slt (o.sibs.map upO)).length = o.sibs.length := by rw [isort_len, List.length_map]
  rw [e7] at hb
  unfold eobj eblob
  simp only [List.length_append, e7]
  omega
theorem upgr_bytes {o : Od} (h : gold o) (hg : o.great = false) : obje (upgr o).1 = (eobj (upgr o).1, 0) := wre_fit pens_obj (upgr_check h) (upgr_len h hg)
theorem upgr_read {o : Od} (h : gold o) : objw (eobj (upgr o).1) = ((upgr o).1, 0) := rdw_fore trip_obj (upgr_gobj h)
end Go.AW
