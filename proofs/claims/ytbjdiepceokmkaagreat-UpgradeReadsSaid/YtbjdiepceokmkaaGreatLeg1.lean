/-
  old objects: what is right: the program's and the document's.
-/
import Derived.Test.YtbjdiepceokmkaaGreatVec5
import Derived.Test.YtbjdiepceokmkaaGreatSeq
import Derived.Test.YtbjdiepceokmkaaGreatMc
namespace Go.AW
open Go Go.Proofs
set_option maxHeartbeats 2000000
set_option maxRecDepth 10000
set_option linter.unusedSimpArgs false
set_option linter.unusedVariables false
attribute [local irreducible] thenQ blockQ RetQ AL AW AC AOp

def osD (x : Os1) : List D := [.l x.clk.length (vecD x.clk), .s (.bool x.dead), .s (.string ⟨x.val.toArray⟩)]
abbrev ossD (l : List Os1) : List D := (l.map osD).flatten
abbrev osV (x : Os1) : V := .a [.d (.l x.clk.length (vecD x.clk)), bv x.dead, sv (bs x.val)]
abbrev odV (o : Od) : V := .a [sv (bs o.key), .d (.l o.sibs.length (ossD o.sibs))]
def Os1.fits (x : Os1) : Prop := x.clk.fits ∧ x.val.length ≤ 9223372036854775807
def Od.fits (o : Od) : Prop := o.key.length ≤ 9223372036854775807 ∧ o.sibs.length ≤ 9223372036854775807 ∧ ∀ x ∈ o.sibs, x.fits
theorem flat_take {α β : Type} {f : α → List β} {sz : Nat} (hf : ∀ x, (f x).length = sz) : ∀ (l : List α) (i : Nat), ((l.map f).flatten).take (i * sz) = ((l.take i).map f).flatten
  | [], i => by simp
  | x :: l, 0 => by simp
  | x :: l, i + 1 => by
    have h := hf x
    rw [Nat.succ_mul, Nat.add_comm]
    simp only [List.map_cons, List.flatten_cons, List.take_succ_cons]
    rw [← h, List.take_length_add_append, h, flat_take hf l i]
theorem oss_drop {l r : List Os1} {x : Os1} {i : Nat} (h : l.drop i = x :: r) : (ossD l).drop (i * 3) = .l x.clk.length (vecD x.clk) :: .s (.bool x.dead) :: .s (.string ⟨x.val.toArray⟩) :: ossD r := by
  rw [ossD, flat_drop (f := osD) (sz := 3) (fun _ => rfl), h]; rfl

theorem twice1 (v : Vec) (x : Os1) (hx : x.clk.length ≤ 9223372036854775807) : AC Tryz.prog 94 [osV x, .p 0 0] [.box 50 [.d (.l v.length (vecD v))]] fun y σ' => y = bv (decide (x.clk = v)) ∧ σ' = [.box 50 [.d (.l v.length (vecD v))]] := by
  refine AC.walk Tryz.func94 rfl (by decide) (of_decide_eq_true rfl) ?_
  focus (have kxs : 987654321 = 987654320 + 1 := rfl; have kk1 := uN [] (vector_Same x.clk v hx); (repeat' (first | refine G ?_ | refine AW.ret ?_ | (refine GC ?_ ?_ <;> intro h <;> (try simp only [hsB] at h) <;> try (exfalso; first | omega | contradiction)) | (refine GL ?_ ?_ <;> intro h <;> (try simp only [Bool.not_true, Bool.not_false] at h) <;> (try simp only [h]) <;> (try simp only [hsB] at h) <;> try (exfalso; first | omega | contradiction)) | fail)); all_goals clear kxs kk1)
  all_goals first | ((all_goals first | exact RetQ.fr 1 | exact RetQ.fn 1 | fail); done) | (exfalso; simp_all; done)
theorem legacy_twice (l : List Os1) (v : Vec) (hl : l.length ≤ 9223372036854775807) (hx : ∀ x ∈ l, x.clk.length ≤ 9223372036854775807) : AC Tryz.prog 59 [.d (.l l.length (ossD l)), .d (.l v.length (vecD v))] [] fun y σ' => y = bv (l.any fun x => decide (x.clk = v)) ∧ σ' = [] := by
  refine AC.walk Tryz.func59 rfl (by decide) (of_decide_eq_true rfl) ?_
  have hc := contains_OldSib l osD (fun x => ⟨_, _, _, rfl, rfl, rfl, rfl⟩) 94 [.p 0 0] [.box 50 [.d (.l v.length (vecD v))]] (fun x => decide (x.clk = v)) rfl rfl rfl hl (fun x hm => twice1 v x (hx x hm))
  focus (have kxs : 987654321 = 987654320 + 1 := rfl; have kk1 := uS (hc); (repeat' (first | refine G ?_ | refine AW.ret ?_ | (refine GC ?_ ?_ <;> intro h <;> (try simp only [hsB] at h) <;> try (exfalso; first | omega | contradiction)) | (refine GL ?_ ?_ <;> intro h <;> (try simp only [Bool.not_true, Bool.not_false] at h) <;> (try simp only [h]) <;> (try simp only [hsB] at h) <;> try (exfalso; first | omega | contradiction)) | fail)); all_goals clear kxs kk1)
  all_goals first | ((all_goals first | exact RetQ.fr 0 | exact RetQ.fn 0 | fail); done) | (exfalso; simp_all; done)

theorem ostep {seen : List Vec} {x : Os1} {r : List Os1} {R : Int} (h : ocheck seen (x :: r) = R) : R = if x.clk.check ≠ 0 then x.clk.check else if 32768 < x.val.length then 3 else if x.clk ∈ seen then 6 else ocheck (seen ++ [x.clk]) r := h.symm

theorem legacy_Check (o : Od) (ho : o.fits) : AC Tryz.prog 27 [odV o] [] fun x σ => x = iv .i64 o.check ∧ σ = [] := by
  obtain ⟨key, l⟩ := o
  obtain ⟨hk, hl, hf⟩ := ho
  simp only at hk hl hf
  refine AC.walk Tryz.func27 rfl (by decide) (of_decide_eq_true rfl) ?_
  by_cases ho : outside key l.length = 0
  case neg =>
    have hR : Od.check ⟨key, l⟩ = outside key l.length := by unfold Od.check; rw [if_pos ho]
    rw [hR]
    unfold outside at ho ⊢
    focus (have kxs : 987654321 = 987654320 + 1 := rfl; (repeat' (first | (refine ADr.nil ?_; try clear hgv) | refine GO ?_ | refine AW.ret ?_ | (refine GC ?_ ?_ <;> intro h <;> (try simp only [hsB] at h) <;> try (exfalso; first | omega | contradiction)) | (refine GD ?_ ?_ <;> intro h <;> (try intro hgv) <;> (try simp only [Bool.not_true, Bool.not_false] at h) <;> (try simp only [h]) <;> (try simp only [hsB] at h) <;> try (exfalso; first | omega | contradiction)) | (refine GL ?_ ?_ <;> intro h <;> (try simp only [Bool.not_true, Bool.not_false] at h) <;> (try simp only [h]) <;> (try simp only [hsB] at h) <;> try (exfalso; first | omega | contradiction)) | fail)); all_goals clear kxs)
    all_goals first
      | (rw [if_pos (by omega)]; (first | exact RetQ.zr 0 | exact RetQ.zn 0 | fail))
      | (rw [if_neg (by omega), if_pos (by first | assumption | simp_all)]; (first | exact RetQ.zr 0 | exact RetQ.zn 0 | fail))
      | (rw [if_neg (by omega), if_neg (by first | assumption | simp_all), if_pos (by omega)]; (first | exact RetQ.zr 0 | exact RetQ.zn 0 | fail))
      | (rw [if_neg (by omega), if_neg (by first | assumption | simp_all), if_neg (by omega), if_pos (by omega)]; (first | exact RetQ.zr 0 | exact RetQ.zn 0 | fail))
      | (exfalso; rw [if_neg (by omega), if_neg (by first | assumption | simp_all), if_neg (by omega), if_neg (by omega)] at ho; exact ho rfl)
      | trace_state
  generalize hR : ocheck [] l = R
  have hc : Od.check ⟨key, l⟩ = R := by unfold Od.check; rw [if_neg (by simpa using ho), hR]
  rw [hc]
  obtain ⟨ho1, ho2, ho3, ho4⟩ := outside_zero.1 ho
  focus (have kxs : 987654321 = 987654320 + 1 := rfl; (repeat' (first | (refine ADr.nil ?_; try clear hgv) | refine GO ?_ | refine AW.ret ?_ | (refine GC ?_ ?_ <;> intro h <;> (try simp only [hsB] at h) <;> try (exfalso; first | omega | contradiction)) | (refine GD ?_ ?_ <;> intro h <;> (try intro hgv) <;> (try simp only [Bool.not_true, Bool.not_false] at h) <;> (try simp only [h]) <;> (try simp only [hsB] at h) <;> try (exfalso; first | omega | contradiction)) | (refine GL ?_ ?_ <;> intro h <;> (try simp only [Bool.not_true, Bool.not_false] at h) <;> (try simp only [h]) <;> (try simp only [hsB] at h) <;> try (exfalso; first | omega | contradiction)) | fail)); all_goals clear kxs)
  all_goals first | (exfalso; omega) | (exfalso; simp_all; done) | skip
  refine AW.rounds [1, 2, 26, 27, 28] (fun i : Nat => [(1, .p 0 0), (2, iv .i64 0), (26, .d (.l l.length (ossD l))), (27, iv .i64 l.length), (28, iv .i64 i)]) (fun _ => [.box 35 [sv (bs key), .d (.l l.length (ossD l))]])
    (fun i => i ≤ l.length ∧ ocheck ((l.take i).map Os1.clk) (l.drop i) = R) (fun i => l.length - i) 0 ⟨Nat.zero_le _, hR⟩ rfl rfl (fun _ _ => Nat.zero_le _) (fun _ _ => rfl) (fun _ _ => rfl) ?_
  rintro i ⟨hi, hr⟩ J hJ
  by_cases hil : i < l.length
  · obtain ⟨x, r, hd⟩ := next_at hil
    have hcd := oss_drop hd
    rw [hd] at hr
    have hR2 := ostep hr
    have hfx := hf x (next_mem hd)
    have htw : AC Tryz.prog 59 [.d (.l i ((ossD l).take (i * 3))), .d (.l x.clk.length (vecD x.clk))] [] fun y σ' => y = bv (decide (x.clk ∈ (l.take i).map Os1.clk)) ∧ σ' = [] := by
      have h1 := legacy_twice (l.take i) x.clk (by rw [List.length_take]; omega) (fun y hy => (hf y (List.mem_of_mem_take hy)).1.1)
      have h2 : ((l.take i).any fun y => decide (y.clk = x.clk)) = decide (x.clk ∈ (l.take i).map Os1.clk) := by
        rw [Bool.eq_iff_iff, List.any_eq_true, decide_eq_true_eq, List.mem_map]
        simp only [decide_eq_true_eq]
      rw [h2, List.length_take, Nat.min_eq_left hi, ossD, ← flat_take (f := osD) (sz := 3) (fun _ => rfl)] at h1
      exact h1
    focus (have kxs := hcd; have kk1 := uN [] (vector_Check x.clk hfx.1); have kk2 := uN [] (htw); (repeat' (first | (refine ADr.nil ?_; try clear hgv) | refine GO ?_ | refine AW.ret ?_ | (refine GC ?_ ?_ <;> intro h <;> (try simp only [hsB] at h) <;> try (exfalso; first | omega | contradiction)) | (refine GD ?_ ?_ <;> intro h <;> (try intro hgv) <;> (try simp only [Bool.not_true, Bool.not_false] at h) <;> (try simp only [h]) <;> (try simp only [hsB] at h) <;> try (exfalso; first | omega | contradiction)) | (refine GL ?_ ?_ <;> intro h <;> (try simp only [Bool.not_true, Bool.not_false] at h) <;> (try simp only [h]) <;> (try simp only [hsB] at h) <;> try (exfalso; first | omega | contradiction)) | fail)); all_goals clear kxs kk1 kk2)
    all_goals first
      | (rw [show R = x.clk.check from by rw [hR2, if_pos (by assumption)]]; (first | exact RetQ.zr 0 | exact RetQ.zn 0 | fail))
      | (rw [show R = 3 from by rw [hR2, if_neg (by simp only [ne_eq, Decidable.not_not]; assumption), if_pos (by omega)]]; (first | exact RetQ.zr 0 | exact RetQ.zn 0 | fail))
      | (rw [show R = 6 from by rw [hR2, if_neg (by simp only [ne_eq, Decidable.not_not]; assumption), if_neg (by omega), if_pos (by assumption)]]; (first | exact RetQ.zr 0 | exact RetQ.zn 0 | fail))
      | (refine hJ (i + 1) _ _ (by omega) ⟨hil, ?_⟩ rfl rfl; rw [next_drop hd, next_take hd, List.map_append, hR2, if_neg (by simp only [ne_eq, Decidable.not_not]; assumption), if_neg (by omega), if_neg (by assumption)]; rfl)
      | trace_state
  · have h0 : l.drop i = [] := List.drop_eq_nil_of_le (by omega)
    rw [h0] at hr
    have hR0 : R = 0 := hr.symm
    rw [hR0]
    focus (have kxs : 987654321 = 987654320 + 1 := rfl; (repeat' (first | (refine ADr.nil ?_; try clear hgv) | refine GO ?_ | refine AW.ret ?_ | (refine GC ?_ ?_ <;> intro h <;> (try simp only [hsB] at h) <;> try (exfalso; first | omega | contradiction)) | (refine GD ?_ ?_ <;> intro h <;> (try intro hgv) <;> (try simp only [Bool.not_true, Bool.not_false] at h) <;> (try simp only [h]) <;> (try simp only [hsB] at h) <;> try (exfalso; first | omega | contradiction)) | (refine GL ?_ ?_ <;> intro h <;> (try simp only [Bool.not_true, Bool.not_false] at h) <;> (try simp only [h]) <;> (try simp only [hsB] at h) <;> try (exfalso; first | omega | contradiction)) | fail)); all_goals clear kxs)
    all_goals first | (first | exact RetQ.zr 0 | exact RetQ.zn 0 | fail) | ((all_goals first | exact RetQ.fr 0 | exact RetQ.fn 0 | fail); done)
end Go.AW
