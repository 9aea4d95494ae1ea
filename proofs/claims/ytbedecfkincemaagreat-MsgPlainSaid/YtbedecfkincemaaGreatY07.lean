/-
  old objects: what is right: the program's and the document's.
-/
import Derived.Test.YtbedecfkincemaaGreatY06
import Derived.Test.YtbedecfkincemaaGreatY04
namespace Go.AW
open Go Go.Proofs
set_option maxHeartbeats 2000000
set_option maxRecDepth 10000
set_option linter.unusedSimpArgs false
set_option linter.unusedVariables false
attribute [local irreducible] thenQ blockQ RetQ AL AW AC AOp

def osD (x : Os1) : List D := [.l x.clk.length (vecD x.clk), .s (.bool x.dead), .s (.string ⟨x.val.toArray⟩)]
abbrev ossD (l : List Os1) : List D := (l.map osD).flatten
abbrev osV (x : Os1) : V := .a [.d (.l x.clk.length (vecD x.clk)), bv x.dead, sv (bs x.val)]
abbrev odV (o : Od) : V := .a [sv (bs o.key), .d (.l o.sibs.length (ossD o.sibs))]
def Os1.fits (x : Os1) : Prop := x.clk.fits ∧ x.val.length ≤ 9223372036854775807
def Od.fits (o : Od) : Prop := o.key.length ≤ 9223372036854775807 ∧ o.sibs.length ≤ 9223372036854775807 ∧ ∀ x ∈ o.sibs, x.fits
theorem flat_take {α β : Type} {f : α → List β} {sz : Nat} (hf : ∀ x, (f x).length = sz) : ∀ (l : List α) (i : Nat), ((l.map f).flatten).take (i * sz) = ((l.take i).map f).flatten
  | [], i => by simp
  | x :: l, 0 => by simp
  | x :: l, i + 1 => by
    have h := hf x
    rw [Nat.succ_mul, Nat.add_comm]
    simp only [List.map_cons, List.flatten_cons, List.take_succ_cons]
    rw [← h, List.take_length_add_append, h, flat_take hf l i]
theorem oss_drop {l r : List Os1} {x : Os1} {i : Nat} (h : l.drop i = x :: r) : (ossD l).drop (i * 3) = .l x.clk.length (vecD x.clk) :: .s (.bool x.dead) :: .s (.string ⟨x.val.toArray⟩) :: ossD r := by
  rw [ossD, flat_drop (f := osD) (sz := 3) (fun _ => rfl), h]; rfl

theorem twice1 (v : Vec) (x : Os1) (hx : x.clk.length ≤ 9223372036854775807) : AC Tryz.prog 320 [osV x, .p 0 0] [.box 30 [.d (.l v.length (vecD v))]] fun y σ' => y = bv (decide (x.clk = v)) ∧ σ' = [.box 30 [.d (.l v.length (vecD v))]] := by
  refine AC.walk Tryz.func320 rfl (by decide) (of_decide_eq_true rfl) ?_
  focus (have kxs : 987654321 = 987654320 + 1 := rfl; have kk1 := uN [] (vector_Same x.clk v hx); (repeat' (first | refine G ?_ | refine AW.ret ?_ | (refine GC ?_ ?_ <;> intro h <;> (try simp only [hsB] at h) <;> try (exfalso; first | omega | contradiction)) | (refine GL ?_ ?_ <;> intro h <;> (try simp only [Bool.not_true, Bool.not_false] at h) <;> (try simp only [h]) <;> (try simp only [hsB] at h) <;> try (exfalso; first | omega | contradiction)) | fail)); all_goals clear kxs kk1)
  all_goals first | ((all_goals first | exact RetQ.fr 1 | exact RetQ.fn 1 | fail); done) | (exfalso; simp_all; done)
theorem legacy_twice (l : List Os1) (v : Vec) (hl : l.length ≤ 9223372036854775807) (hx : ∀ x ∈ l, x.clk.length ≤ 9223372036854775807) : AC Tryz.prog 301 [.d (.l l.length (ossD l)), .d (.l v.length (vecD v))] [] fun y σ' => y = bv (l.any fun x => decide (x.clk = v)) ∧ σ' = [] := by
  refine AC.walk Tryz.func301 rfl (by decide) (of_decide_eq_true rfl) ?_
  have hc := contains_OldSib l osD (fun x => ⟨_, _, _, rfl, rfl, rfl, rfl⟩) 320 [.p 0 0] [.box 30 [.d (.l v.length (vecD v))]] (fun x => decide (x.clk = v)) rfl rfl rfl hl (fun x hm => twice1 v x (hx x hm))
  focus (have kxs : 987654321 = 987654320 + 1 := rfl; have kk1 := uS (hc); (repeat' (first | refine G ?_ | refine AW.ret ?_ | (refine GC ?_ ?_ <;> intro h <;> (try simp only [hsB] at h) <;> try (exfalso; first | omega | contradiction)) | (refine GL ?_ ?_ <;> intro h <;> (try simp only [Bool.not_true, Bool.not_false] at h) <;> (try simp only [h]) <;> (try simp only [hsB] at h) <;> try (exfalso; first | omega | contradiction)) | fail)); all_goals clear kxs kk1)
  all_goals first | ((all_goals first | exact RetQ.fr 0 | exact RetQ.fn 0 | fail); done) | (exfalso; simp_all; done)

theorem ostep {seen : List Vec} {x : Os1} {r : List Os1} {R : Int} (h : ocheck seen (x :: r) = R) : R = if x.clk.check ≠ 0 then x.clk.check else if 32768 < x.val.length then 3 else if x.clk ∈ seen then 6 else ocheck (seen ++ [x.clk]) r := h.symm

theorem legacy_Check (o : Od) (ho : o.fits) : AC Tryz.prog 231 [odV o] [] fun x σ => x = iv .i64 o.check ∧ σ = [] := by
  obtain ⟨key, l⟩ := o
  obtain ⟨hk, hl, hf⟩ := ho
  simp only at hk hl hf
  refine AC.walk Tryz.func231 rfl (by decide) (of_decide_eq_true rfl) ?_
  by_cases ho : outside key l.length = 0
  case neg =>
    have hR : Od.check ⟨key, l⟩ = outside key l.length := by unfold Od.check; rw [if_pos ho]
    rw [hR]
    unfold outside at ho ⊢
    focus (have kxs : 987654321 = 987654320 + 1 := rfl; (repeat' (first | (refine ADr.nil ?_; try clear hgv) | refine GO ?_ | refine AW.ret ?_ | (refine GC ?_ ?_ <;> intro h <;> (try simp only [hsB] at h) <;> try (exfalso; first | omega | contradiction)) | (refine GD ?_ ?_ <;> intro h <;> (try intro hgv) <;> (try simp only [Bool.not_true, Bool.not_false] at h) <;> (try simp only [h]) <;> (try simp only [hsB] at h) <;> try (exfalso; first | omega | contradiction)) | (refine GL ?_ ?_ <;> intro h <;> (try simp only [Bool.not_true, Bool.not_false] at h) <;> (try simp only [h]) <;> (try simp only [hsB] at h) <;> try (exfalso; first | omega | contradiction)) | fail)); all_goals clear kxs)
    all_goals first
      | (rw [if_pos (by omega)]; (first | exact RetQ.zr 0 | exact RetQ.zn 0 | fail))
      | (rw [if_neg (by omega), if_pos (by first | assumption | simp_all)]; (first | exact RetQ.zr 0 | exact RetQ.zn 0 | fail))
      | (rw [if_neg (by omega), if_neg (by first | assumption | simp_all), if_pos (by omega)]; (first | exact RetQ.zr 0 | exact RetQ.zn 0 | fail))
      | (rw [if_neg (by omega), if_neg (by first | assumption | simp_all), if_neg (by omega), if_pos (by omega)]; (first | exact RetQ.zr 0 | exact RetQ.zn 0 | fail))
      | (exfalso; rw [if_neg (by omega), if_neg (by first | assumption | simp_all), if_neg (by omega), if_neg (by omega)] at ho; exact ho rfl)
      | trace_state
  generalize hR : ocheck [] l = R
  have hc : Od.check ⟨key, l⟩ = R := by unfold Od.check; rw [if_neg (by simpa using ho), hR]
  rw [hc]
  obtain ⟨ho1, ho2, ho3, ho4⟩ := outside_zero.1 ho
  focus (have kxs : 987654321 = 987654320 + 1 := rfl; (repeat' (first | (refine ADr.nil ?_; try clear hgv) | refine GO ?_ | refine AW.ret ?_ | (refine GC ?_ ?_ <;> intro h <;> (try simp only [hsB] at h) <;> try (exfalso; first | omega | contradiction)) | (refine GD ?_ ?_ <;> intro h <;> (try intro hgv) <;> (try simp only [Bool.not_true, Bool.not_false] at h) <;> (try simp only [h]) <;> (try simp only [hsB] at h) <;> try (exfalso; first | omega | contradiction)) | (refine GL ?_ ?_ <;> intro h <;> (try simp only [Bool.not_true, Bool.not_false] at h) <;> (try simp only [h]) <;> (try simp only [hsB] at h) <;> try (exfalso; first | omega | contradiction)) | fail)); all_goals clear kxs)
  all_goals first | (exfalso; omega) | (exfalso; simp_all; done) | skip
  refine AW.rounds [1, 2, 26, 27, 28] (fun i : Nat => [(1, .p 0 0), (2, iv .i64 0), (26, .d (.l l.length (ossD l))), (27, iv .i64 l.length), (28, iv .i64 i)]) (fun _ => [.box 29 [sv (bs key), .d (.l l.length (ossD l))]])
    (fun i => i ≤ l.length ∧ ocheck ((l.take i).map Os1.clk) (l.drop i) = R) (fun i => l.length - i) 0 ⟨Nat.zero_le _, hR⟩ rfl rfl (fun _ _ => Nat.zero_le _) (fun _ _ => rfl) (fun _ _ => rfl) ?_
  rintro i ⟨hi, hr⟩ J hJ
  by_cases hil : i < l.length
  · obtain ⟨x, r, hd⟩ := next_at hil
    have hcd := oss_drop hd
    rw [hd] at hr
    have hR2 := ostep hr
    have hfx := hf x (next_mem hd)
    have htw : AC Tryz.prog 301 [.d (.l i ((ossD l).take (i * 3))), .d (.l x.clk.length (vecD x.clk))] [] fun y σ' => y = bv (decide (x.clk ∈ (l.take i).map Os1.clk)) ∧ σ' = [] := by
      have h1 := legacy_twice (l.take i) x.clk (by rw [List.length_take]; omega) (fun y hy => (hf y (List.mem_of_mem_take hy)).1.1)
      have h2 : ((l.take i).any fun y => decide (y.clk = x.clk)) = decide (x.clk ∈ (l.take i).map Os1.clk) := by
        rw [Bool.eq_iff_iff, List.any_eq_true, decide_eq_true_eq, List.mem_map]
        simp only [decide_eq_true_eq]
      rw [h2, List.length_take, Nat.min_eq_left hi, ossD, ← flat_take (f := osD) (sz := 3) (fun _ => rfl)] at h1
      exact h1
    focus (have kxs := hcd; have kk1 := uN [] (vector_Check x.clk hfx.1); have kk2 := uN [] (htw); (repeat' (first | (refine ADr.nil ?_; try clear hgv) | refine GO ?_ | refine AW.ret ?_ | (refine GC ?_ ?_ <;> intro h <;> (try simp only [hsB] at h) <;> try (exfalso; first | omega | contradiction)) | (refine GD ?_ ?_ <;> intro h <;> (try intro hgv) <;> (try simp only [Bool.not_true, Bool.not_false] at h) <;> (try simp only [h]) <;> (try simp only [hsB] at h) <;> try (exfalso; first | omega | contradiction)) | (refine GL ?_ ?_ <;> intro h <;> (try simp only [Bool.not_true, Bool.not_false] at h) <;> (try simp only [h]) <;> (try simp only [hsB] at h) <;> try (exfalso; first | omega | contradiction)) | fail)); all_goals clear kxs kk1 kk2)
    all_goals first
      | (rw [show R = x.clk.check from by rw [hR2, if_pos (by assumption)]]; (first | exact RetQ.zr 0 | exact RetQ.zn 0 | fail))
      | (rw [show R = 3 from by rw [hR2, if_neg (by simp only [ne_eq, Decidable.not_not]; assumption), if_pos (by omega)]]; (first | exact RetQ.zr 0 | exact RetQ.zn 0 | fail))
      | (rw [show R = 6 from by rw [hR2, if_neg (by simp only [ne_eq, Decidable.not_not]; assumption), if_neg (by omega), if_pos (by assumption)]]; (first | exact RetQ.zr 0 | exact RetQ.zn 0 | fail))
      | (refine hJ (i + 1) _ _ (by omega) ⟨hil, ?_⟩ rfl rfl; rw [next_drop hd, next_take hd, List.map_append, hR2, if_neg (by simp only [ne_eq, Decidable.not_not]; assumption), if_neg (by omega), if_neg (by assumption)]; rfl)
      | trace_state
  · have h0 : l.drop i = [] := List.drop_eq_nil_of_le (by omega)
    rw [h0] at hr
    have hR0 : R = 0 := hr.symm
    rw [hR0]
    focus (have kxs : 987654321 = 987654320 + 1 := rfl; (repeat' (first | (refine ADr.nil ?_; try clear hgv) | refine GO ?_ | refine AW.ret ?_ | (refine GC ?_ ?_ <;> intro h <;> (try simp only [hsB] at h) <;> try (exfalso; first | omega | contradiction)) | (refine GD ?_ ?_ <;> intro h <;> (try intro hgv) <;> (try simp only [Bool.not_true, Bool.not_false] at h) <;> (try simp only [h]) <;> (try simp only [hsB] at h) <;> try (exfalso; first | omega | contradiction)) | (refine GL ?_ ?_ <;> intro h <;> (try simp only [Bool.not_true, Bool.not_false] at h) <;> (try simp only [h]) <;> (try simp only [hsB] at h) <;> try (exfalso; first | omega | contradiction)) | fail)); all_goals clear kxs)
    all_goals first | (first | exact RetQ.zr 0 | exact RetQ.zn 0 | fail) | ((all_goals first | exact RetQ.fr 0 | exact RetQ.fn 0 | fail); done)
end Go.AW
/-
  clocks: what is right, the same, too great: the program's and the document's.
-/
namespace Go.AW
open Go Go.Proofs
set_option maxHeartbeats 2000000
set_option maxRecDepth 10000
set_option linter.unusedSimpArgs false
set_option linter.unusedVariables false
attribute [local irreducible] thenQ blockQ RetQ AL AW AC AOp

abbrev ckV (k : Ck) : V := .a [.d (.l k.ctx.length (vecD k.ctx)), bv k.dotted, sv (bs k.dot.1), iv .u64 k.dot.2]
def Ck.fits (k : Ck) : Prop := k.ctx.fits ∧ k.dot.1.length ≤ 9223372036854775807 ∧ k.dot.2 < 18446744073709551616

theorem vector_Count (v : Vec) (a : List UInt8) (hv : v.length ≤ 9223372036854775807) : AC Tryz.prog 329 [.d (.l v.length (vecD v)), sv (bs a)] [] fun x σ => x = iv .u64 (v.count a) ∧ σ = [] := by
  refine AC.walk Tryz.func329 rfl (by decide) (of_decide_eq_true rfl) ?_
  generalize hR : v.count a = R
  focus (have kxs : 987654321 = 987654320 + 1 := rfl; (repeat' (first | refine G ?_ | refine AW.ret ?_ | (refine GC ?_ ?_ <;> intro h <;> (try simp only [hsB] at h) <;> try (exfalso; first | omega | contradiction)) | (refine GL ?_ ?_ <;> intro h <;> (try simp only [Bool.not_true, Bool.not_false] at h) <;> (try simp only [h]) <;> (try simp only [hsB] at h) <;> try (exfalso; first | omega | contradiction)) | fail)); all_goals clear kxs)
  refine AW.rounds [1, 4, 7, 8, 9] (fun i : Nat => [(1, sv (bs a)), (4, iv .u64 0), (7, .d (.l v.length (vecD v))), (8, iv .i64 v.length), (9, iv .i64 i)]) (fun _ => [])
    (fun i => i ≤ v.length ∧ Vec.count (v.drop i) a = R) (fun i => v.length - i) 0 ⟨Nat.zero_le _, hR⟩ rfl rfl (fun _ _ => Nat.zero_le _) (fun _ _ => rfl) (fun _ _ => rfl) ?_
  rintro i ⟨hi, hr⟩ J hJ
  by_cases hil : i < v.length
  · obtain ⟨x, r, hd⟩ := next_at hil
    have hcd := vec_drop hd
    rw [hd] at hr
    have hR2 : R = if x.1 = a then x.2 else Vec.count r a := hr.symm
    by_cases hx : x.1 = a
    · rw [if_pos hx] at hR2
      subst hR2
      focus (have kxs := hcd; (repeat' (first | refine G ?_ | refine AW.ret ?_ | (refine GC ?_ ?_ <;> intro h <;> (try simp only [hsB] at h) <;> try (exfalso; first | omega | contradiction)) | (refine GL ?_ ?_ <;> intro h <;> (try simp only [Bool.not_true, Bool.not_false] at h) <;> (try simp only [h]) <;> (try simp only [hsB] at h) <;> try (exfalso; first | omega | contradiction)) | fail)); all_goals clear kxs)
      all_goals first | (first | exact RetQ.zr 0 | exact RetQ.zn 0 | fail) | (exfalso; simp_all; done)
    · rw [if_neg hx] at hR2
      focus (have kxs := hcd; (repeat' (first | refine G ?_ | refine AW.ret ?_ | (refine GC ?_ ?_ <;> intro h <;> (try simp only [hsB] at h) <;> try (exfalso; first | omega | contradiction)) | (refine GL ?_ ?_ <;> intro h <;> (try simp only [Bool.not_true, Bool.not_false] at h) <;> (try simp only [h]) <;> (try simp only [hsB] at h) <;> try (exfalso; first | omega | contradiction)) | fail)); all_goals clear kxs)
      all_goals first | (refine hJ (i + 1) _ _ (by omega) ⟨hil, by rw [next_drop hd]; exact hR2.symm⟩ rfl rfl) | (exfalso; simp_all; done)
  · have h0 : v.drop i = [] := List.drop_eq_nil_of_le (by omega)
    rw [h0] at hr
    have hR0 : R = 0 := hr.symm
    rw [hR0]
    focus (have kxs : 987654321 = 987654320 + 1 := rfl; (repeat' (first | refine G ?_ | refine AW.ret ?_ | (refine GC ?_ ?_ <;> intro h <;> (try simp only [hsB] at h) <;> try (exfalso; first | omega | contradiction)) | (refine GL ?_ ?_ <;> intro h <;> (try simp only [Bool.not_true, Bool.not_false] at h) <;> (try simp only [h]) <;> (try simp only [hsB] at h) <;> try (exfalso; first | omega | contradiction)) | fail)); all_goals clear kxs)
    all_goals first | (first | exact RetQ.zr 0 | exact RetQ.zn 0 | fail) | ((all_goals first | exact RetQ.fr 0 | exact RetQ.fn 0 | fail); done)
theorem dotted_Check (k : Ck) (hk : k.fits) : AC Tryz.prog 321 [ckV k] [] fun x σ => x = iv .i64 k.check ∧ σ = [] := by
  obtain ⟨v, f, t, n⟩ := k
  obtain ⟨hv, ht, hn⟩ := hk
  simp only at hv ht hn
  refine AC.walk Tryz.func321 rfl (by decide) (of_decide_eq_true rfl) ?_
  by_cases hc : v.check = 0
  case neg =>
    have hR : Ck.check ⟨v, f, (t, n)⟩ = v.check := by unfold Ck.check; rw [if_pos hc]
    rw [hR]
    focus (have kxs : 987654321 = 987654320 + 1 := rfl; have kk1 := uN [] (vector_Check v hv); (repeat' (first | (refine ADr.nil ?_; try clear hgv) | refine GO ?_ | refine AW.ret ?_ | (refine GC ?_ ?_ <;> intro h <;> (try simp only [hsB] at h) <;> try (exfalso; first | omega | contradiction)) | (refine GD ?_ ?_ <;> intro h <;> (try intro hgv) <;> (try simp only [Bool.not_true, Bool.not_false] at h) <;> (try simp only [h]) <;> (try simp only [hsB] at h) <;> try (exfalso; first | omega | contradiction)) | (refine GL ?_ ?_ <;> intro h <;> (try simp only [Bool.not_true, Bool.not_false] at h) <;> (try simp only [h]) <;> (try simp only [hsB] at h) <;> try (exfalso; first | omega | contradiction)) | fail)); all_goals clear kxs kk1)
    all_goals first | (first | exact RetQ.zr 0 | exact RetQ.zn 0 | fail) | (exfalso; simp_all; done)
  cases f with
  | false =>
    by_cases hz : t = [] ∧ n = 0
    · obtain ⟨rfl, rfl⟩ := hz
      have hR : Ck.check ⟨v, false, ([], 0)⟩ = 0 := by unfold Ck.check; simp [hc]
      rw [hR]
      focus (have kxs := hc; have kk1 := uN [] (vector_Check v hv); (repeat' (first | (refine ADr.nil ?_; try clear hgv) | refine GO ?_ | refine AW.ret ?_ | (refine GC ?_ ?_ <;> intro h <;> (try simp only [hsB] at h) <;> try (exfalso; first | omega | contradiction)) | (refine GD ?_ ?_ <;> intro h <;> (try intro hgv) <;> (try simp only [Bool.not_true, Bool.not_false] at h) <;> (try simp only [h]) <;> (try simp only [hsB] at h) <;> try (exfalso; first | omega | contradiction)) | (refine GL ?_ ?_ <;> intro h <;> (try simp only [Bool.not_true, Bool.not_false] at h) <;> (try simp only [h]) <;> (try simp only [hsB] at h) <;> try (exfalso; first | omega | contradiction)) | fail)); all_goals clear kxs kk1)
      all_goals first | (first | exact RetQ.zr 0 | exact RetQ.zn 0 | fail) | (exfalso; simp_all; done)
    · have hR : Ck.check ⟨v, false, (t, n)⟩ = 1 := by
        unfold Ck.check
        simp only
        rw [if_neg (by simpa using hc), if_pos trivial, if_pos (by intro e; exact hz ⟨(Prod.mk.inj e).1, (Prod.mk.inj e).2⟩)]
      rw [hR]
      focus (have kxs := hc; have kk1 := uN [] (vector_Check v hv); (repeat' (first | (refine ADr.nil ?_; try clear hgv) | refine GO ?_ | refine AW.ret ?_ | (refine GC ?_ ?_ <;> intro h <;> (try simp only [hsB] at h) <;> try (exfalso; first | omega | contradiction)) | (refine GD ?_ ?_ <;> intro h <;> (try intro hgv) <;> (try simp only [Bool.not_true, Bool.not_false] at h) <;> (try simp only [h]) <;> (try simp only [hsB] at h) <;> try (exfalso; first | omega | contradiction)) | (refine GL ?_ ?_ <;> intro h <;> (try simp only [Bool.not_true, Bool.not_false] at h) <;> (try simp only [h]) <;> (try simp only [hsB] at h) <;> try (exfalso; first | omega | contradiction)) | fail)); all_goals clear kxs kk1)
      all_goals first | (first | exact RetQ.zr 0 | exact RetQ.zn 0 | fail) | (exfalso; simp_all; try omega)
  | true =>
    have hR : Ck.check ⟨v, true, (t, n)⟩ = if 32 < t.length then 3 else if t = [] then 14 else if n = 0 then 7 else if n ≤ v.count t then 15 else 0 := by unfold Ck.check; simp [hc]
    rw [hR]
    clear hR
    focus (have kxs := hc; have kk1 := uN [] (vector_Check v hv); have kk2 := uN [] (vector_Count v t hv.1); (repeat' (first | (refine ADr.nil ?_; try clear hgv) | refine GO ?_ | refine AW.ret ?_ | (refine GC ?_ ?_ <;> intro h <;> (try simp only [hsB] at h) <;> try (exfalso; first | omega | contradiction)) | (refine GD ?_ ?_ <;> intro h <;> (try intro hgv) <;> (try simp only [Bool.not_true, Bool.not_false] at h) <;> (try simp only [h]) <;> (try simp only [hsB] at h) <;> try (exfalso; first | omega | contradiction)) | (refine GL ?_ ?_ <;> intro h <;> (try simp only [Bool.not_true, Bool.not_false] at h) <;> (try simp only [h]) <;> (try simp only [hsB] at h) <;> try (exfalso; first | omega | contradiction)) | fail)); all_goals clear kxs kk1 kk2)
    all_goals first
      | (rw [if_pos (by omega)]; (first | exact RetQ.zr 0 | exact RetQ.zn 0 | fail))
      | (rw [if_neg (by omega), if_pos (by first | assumption | simp_all)]; (first | exact RetQ.zr 0 | exact RetQ.zn 0 | fail))
      | (rw [if_neg (by omega), if_neg (by first | assumption | simp_all), if_pos (by omega)]; (first | exact RetQ.zr 0 | exact RetQ.zn 0 | fail))
      | (rw [if_neg (by omega), if_neg (by first | assumption | simp_all), if_neg (by omega), if_pos (by omega)]; (first | exact RetQ.zr 0 | exact RetQ.zn 0 | fail))
      | (rw [if_neg (by omega), if_neg (by first | assumption | simp_all), if_neg (by omega), if_neg (by omega)]; (first | exact RetQ.zr 0 | exact RetQ.zn 0 | fail))
theorem ck_eq (k o : Ck) : (decide (k.ctx = o.ctx) && (decide (k.dotted = o.dotted) && (decide (k.dot.1 = o.dot.1) && (decide ((k.dot.2 : Int) = o.dot.2) && true)))) = true ↔ k = o := by
  obtain ⟨a, b, c, d⟩ := k
  obtain ⟨a', b', c', d'⟩ := o
  simp only [Bool.and_eq_true, decide_eq_true_eq, and_true, Int.natCast_inj, Ck.mk.injEq, Prod.mk.injEq]
instance : DecidableEq Ck := fun k o => decidable_of_iff _ (ck_eq k o)
theorem ref12_Great (k : Ck) (hk : k.fits) : AC Tryz.prog 282 [ckV k] [] fun x σ => x = bv k.great ∧ σ = [] := by
  refine AC.walk Tryz.func282 rfl (by decide) (of_decide_eq_true rfl) ?_
  unfold Ck.great
  cases hg : k.ctx.great
  all_goals
    focus (have kxs := hg; have kk1 := uN [] (ref10_Great k.ctx hk.1); (repeat' (first | refine G ?_ | refine AW.ret ?_ | (refine GC ?_ ?_ <;> intro h <;> (try simp only [hsB] at h) <;> try (exfalso; first | omega | contradiction)) | (refine GL ?_ ?_ <;> intro h <;> (try simp only [Bool.not_true, Bool.not_false] at h) <;> (try simp only [h]) <;> (try simp only [hsB] at h) <;> try (exfalso; first | omega | contradiction)) | fail)); all_goals clear kxs kk1)
    all_goals first | ((all_goals first | exact RetQ.fr 0 | exact RetQ.fn 0 | fail); done) | (exfalso; simp_all; done)
end Go.AW
/-
  clocks that are read: the program's and the document's.
-/
namespace Go.AW
open Go Go.Proofs
set_option maxHeartbeats 2000000
set_option maxRecDepth 10000
set_option linter.unusedSimpArgs false
set_option linter.unusedVariables false
attribute [local irreducible] thenQ blockQ RetQ AL AW AC AOp

end Go.AW
/-
  clocks that are read: the document's.
-/
namespace Go.AW
open Go Go.Proofs
set_option maxHeartbeats 2000000
set_option maxRecDepth 10000
set_option linter.unusedSimpArgs false
set_option linter.unusedVariables false
attribute [local irreducible] thenQ blockQ RetQ AL AW AC AOp

end Go.AW
/-
  clocks that are written, whole texts: the program's and the document's.
-/
namespace Go.AW
open Go Go.Proofs
set_option maxHeartbeats 2000000
set_option maxRecDepth 10000
set_option linter.unusedSimpArgs false
set_option linter.unusedVariables false
attribute [local irreducible] thenQ blockQ RetQ AL AW AC AOp

def ckD (k : Ck) : List D := [.l k.ctx.length (vecD k.ctx), .s (.bool k.dotted), .s (.string ⟨k.dot.1.toArray⟩), .s (.int .u64 k.dot.2)]
abbrev cksD (l : List Ck) : List D := (l.map ckD).flatten
theorem cks_drop {l r : List Ck} {k : Ck} {i : Nat} (h : l.drop i = k :: r) : (cksD l).drop (i * 4) = .l k.ctx.length (vecD k.ctx) :: .s (.bool k.dotted) :: .s (.string ⟨k.dot.1.toArray⟩) :: .s (.int .u64 k.dot.2) :: cksD r := by
  rw [cksD, flat_drop (f := ckD) (sz := 4) (fun _ => rfl), h]; rfl
theorem Pe.clks_snoc (p : Pe) (l : List Ck) (v : Ck) : p.clks (l ++ [v]) = (p.clks l).clk v := by simp [Pe.clks, List.foldl_append]
theorem Pe.clks_append (p : Pe) (l r : List Ck) : p.clks (l ++ r) = (p.clks l).clks r := List.foldl_append ..
section
variable (b : List UInt8) (m e : Int)

theorem dcode_Put (ok : Pe.Ok ⟨b, m, e⟩) (l : List Ck) (hf : ∀ k ∈ l, k.fits) (hn : l.length ≤ 140737488355328) (hl : m ≤ 140737488355328 ∨ b.length + (l.map eclk).flatten.length + 40 ≤ 140737488355328) :
    AC Tryz.prog 330 [.p 0 0, .d (.l l.length (cksD l))] (Pe.obs ⟨b, m, e⟩) fun x σ => x = .t [] ∧ σ = Pe.obs (Pe.clks ⟨b, m, e⟩ l) := by
  refine AC.walk Tryz.func330 rfl (by decide) (of_decide_eq_true rfl) ?_
  focus (have kxs : 987654321 = 987654320 + 1 := rfl; (repeat' (first | refine G ?_ | refine AW.ret ?_ | (refine GC ?_ ?_ <;> intro h <;> (try simp only [hsB] at h) <;> try (exfalso; first | omega | contradiction)) | (refine GL ?_ ?_ <;> intro h <;> (try simp only [Bool.not_true, Bool.not_false] at h) <;> (try simp only [h]) <;> (try simp only [hsB] at h) <;> try (exfalso; first | omega | contradiction)) | fail)); all_goals clear kxs)
  refine AW.rounds [0, 7, 8, 9] (fun i : Nat => [(0, .p 0 0), (7, .d (.l l.length (cksD l))), (8, iv .i64 l.length), (9, iv .i64 i)]) (fun i => Pe.obs (Pe.clks ⟨b, m, e⟩ (l.take i)))
    (fun i => i ≤ l.length) (fun i => l.length - i) 0 (Nat.zero_le _) rfl rfl (fun _ _ => Nat.le_of_ble_eq_true rfl) (fun _ _ => rfl) (fun _ _ => rfl) ?_
  intro i hi J hJ
  generalize hq : Pe.clks ⟨b, m, e⟩ (l.take i) = q
  have hqo : q.Ok ∧ q.m = m ∧ q.b.length ≤ b.length + ((l.take i).map eclk).flatten.length := by
    have h1 := take_flat eclk l i
    rw [← hq]
    exact ⟨pens_clks.keep ok (by simp only; omega), pens_clks.m _ _, pens_clks.len _ _⟩
  obtain ⟨hok, hqm, hqb⟩ := hqo
  by_cases hil : i < l.length
  case neg =>
    have hi2 : i = l.length := by omega
    rw [hi2, List.take_length] at hq
    subst hq
    focus (have kxs : 987654321 = 987654320 + 1 := rfl; (repeat' (first | refine G ?_ | refine AW.ret ?_ | (refine GC ?_ ?_ <;> intro h <;> (try simp only [hsB] at h) <;> try (exfalso; first | omega | contradiction)) | (refine GL ?_ ?_ <;> intro h <;> (try simp only [Bool.not_true, Bool.not_false] at h) <;> (try simp only [h]) <;> (try simp only [hsB] at h) <;> try (exfalso; first | omega | contradiction)) | fail)); all_goals clear kxs)
    (all_goals first | exact RetQ.fr 2 | exact RetQ.fn 2 | fail)
  obtain ⟨k, r, hd⟩ := next_at hil
  have hcd := cks_drop hd
  have hn2 : Pe.clks ⟨b, m, e⟩ (l.take (i + 1)) = q.clk k := by rw [next_take hd, Pe.clks_snoc, hq]
  have hfk := hf k (next_mem hd)
  have htf := take_flat eclk l i
  rw [hd] at htf
  simp only [List.map_cons, List.flatten_cons, List.length_append] at htf
  by_cases hc : k.check = 0
  case neg =>
    have hv : q.clk k = q.fail k.check := by unfold Pe.clk; rw [if_pos hc]
    have hall : Pe.clks ⟨b, m, e⟩ l = q.fail k.check := by
      conv => lhs; rw [← List.take_append_drop (i + 1) l]
      rw [Pe.clks_append, hn2, hv]
      exact pens_clks.stuck _ _ (Pe.fail_e hc)
    rw [hall]
    focus (have kxs := hcd; have kk1 := uN [] (dotted_Check k hfk); have kud1 := fun za zb zc zd => uN [0, 1] (pen_Fail za zb zc zd); (repeat' (first | refine G ?_ | refine AW.ret ?_ | (refine GC ?_ ?_ <;> intro h <;> (try simp only [hsB] at h) <;> try (exfalso; first | omega | contradiction)) | (refine GL ?_ ?_ <;> intro h <;> (try simp only [Bool.not_true, Bool.not_false] at h) <;> (try simp only [h]) <;> (try simp only [hsB] at h) <;> try (exfalso; first | omega | contradiction)) | fail)); all_goals clear kxs kk1 kud1)
    all_goals first | ((all_goals first | exact RetQ.fr 2 | exact RetQ.fn 2 | fail); done) | (exfalso; simp_all; done)
  obtain ⟨hcv, hct⟩ := Ck.check_parts hc
  have hel : (eclk k).length = (evec k.ctx).length + 1 + (if k.dotted = true then (eent k.dot).length else 0) := by
    unfold eclk eflag
    cases k.dotted <;> simp <;> omega
  have hclk : q.clk k = ((q.vec k.ctx).flag k.dotted).dotq k := by unfold Pe.clk; rw [if_neg (by simpa using hc)]
  have hvo := pens_vec.keep (p := q) (x := k.ctx) hok (by omega)
  have hvm := pens_vec.m q k.ctx
  have hvl := pens_vec.len q k.ctx
  generalize hv0 : q.vec k.ctx = p1 at *
  have hv' : Pe.vec ⟨q.b, q.m, q.e⟩ k.ctx = p1 := hv0
  have hfo := pens_flag.keep (p := p1) (x := k.dotted) hvo (by simp only [eflag, List.length_cons, List.length_nil]; omega)
  have hfm := pens_flag.m p1 k.dotted
  have hfl := pens_flag.len p1 k.dotted
  have hf1 : (eflag k.dotted).length = 1 := rfl
  generalize hf0 : p1.flag k.dotted = p2 at *
  have hf' : Pe.flag ⟨p1.b, p1.m, p1.e⟩ k.dotted = p2 := hf0
  obtain ⟨v, f, t, n⟩ := k
  simp only at *
  cases f with
  | false =>
    have hz : p2.dotq ⟨v, false, (t, n)⟩ = p2 := rfl
    rw [hz] at hclk
    focus (have kxs := And.intro hcd (And.intro hc (And.intro hv' hf')); have kk1 := uN [] (dotted_Check ⟨v, false, (t, n)⟩ hfk); have kk2 := uN [0, 1] (vcode_Put1 q.b q.m q.e hok v hfk.1 (by omega)); have kk3 := uN [0, 1] (blob_PutFlag p1.b p1.m p1.e hvo false (by omega)); (repeat' (first | refine G ?_ | refine AW.ret ?_ | (refine GC ?_ ?_ <;> intro h <;> (try simp only [hsB] at h) <;> try (exfalso; first | omega | contradiction)) | (refine GL ?_ ?_ <;> intro h <;> (try simp only [Bool.not_true, Bool.not_false] at h) <;> (try simp only [h]) <;> (try simp only [hsB] at h) <;> try (exfalso; first | omega | contradiction)) | fail)); all_goals clear kxs kk1 kk2 kk3)
    all_goals first | (refine hJ (i + 1) _ _ (by omega) hil rfl ?_; rw [hn2, hclk]; rfl) | (exfalso; simp_all; done)
  | true =>
    have hz : p2.dotq ⟨v, true, (t, n)⟩ = (p2.blob 32 t).text (vput n) := rfl
    rw [hz] at hclk
    simp only [if_true] at hel
    have hee : (eent (t, n)).length = (vput t.length).length + t.length + (vput n).length := by unfold eent eblob; simp only [List.length_append]
    have ht32 := hct rfl
    have hbo := Pe.blob_ok (p := p2) (max := 32) (s := t) hfo (by omega) (by omega)
    have hbm := Pe.blob_m p2 32 t
    have hbl := Pe.blob_len p2 32 t (by omega)
    generalize hb0 : p2.blob 32 t = p3 at *
    have hb' : Pe.blob ⟨p2.b, p2.m, p2.e⟩ 32 t = p3 := hb0
    focus (have kxs := And.intro hcd (And.intro hc (And.intro hv' (And.intro hf' hb'))); have kk1 := uN [] (dotted_Check ⟨v, true, (t, n)⟩ hfk); have kk2 := uN [0, 1] (vcode_Put1 q.b q.m q.e hok v hfk.1 (by omega)); have kk3 := uN [0, 1] (blob_PutFlag p1.b p1.m p1.e hvo true (by omega)); have kk4 := uN [0, 1] (blob_Put1 p2.b t p2.m p2.e 32 hfo (by omega) (by omega)); have kk5 := uN [0, 1] (varint_Put1 p3.b p3.m p3.e hbo n hfk.2.2 (by omega)); (repeat' (first | refine G ?_ | refine AW.ret ?_ | (refine GC ?_ ?_ <;> intro h <;> (try simp only [hsB] at h) <;> try (exfalso; first | omega | contradiction)) | (refine GL ?_ ?_ <;> intro h <;> (try simp only [Bool.not_true, Bool.not_false] at h) <;> (try simp only [h]) <;> (try simp only [hsB] at h) <;> try (exfalso; first | omega | contradiction)) | fail)); all_goals clear kxs kk1 kk2 kk3 kk4 kk5)
    all_goals first | (refine hJ (i + 1) _ _ (by omega) hil rfl ?_; rw [hn2, hclk]; rfl) | (exfalso; simp_all; done)
end
end Go.AW
/-
  clocks: the document's writer; whole texts.
-/
namespace Go.AW
open Go Go.Proofs
set_option maxHeartbeats 2000000
set_option maxRecDepth 10000
set_option linter.unusedSimpArgs false
set_option linter.unusedVariables false
attribute [local irreducible] thenQ blockQ RetQ AL AW AC AOp

section
variable (b : List UInt8) (m e : Int)
theorem dcode_Put1 (ok : Pe.Ok ⟨b, m, e⟩) (k : Ck) (hf : k.fits) (hl : m ≤ 140737488355328 ∨ b.length + (eclk k).length + 40 ≤ 140737488355328) :
    AC Tryz.prog 330 [.p 0 0, .d (.l 1 (ckD k))] (Pe.obs ⟨b, m, e⟩) fun x σ => x = .t [] ∧ σ = Pe.obs (Pe.clk ⟨b, m, e⟩ k) := by
  have := dcode_Put b m e ok [k] (by simpa using hf) (by simp) (by simpa using hl)
  rw [show cksD [k] = ckD k from List.append_nil _] at this
  exact this

end

theorem dcode_Encode (k : Ck) (hf : k.fits) : AC Tryz.prog 322 [ckV k] [] fun x σ => x = .t [sv (bs (clke k).1), iv .i64 (clke k).2] ∧ σ = [] := by
  have hq := pens_clk.keep (x := k) pe0_ok (.inl (by decide))
  refine AC.walk Tryz.func322 rfl (by decide) (of_decide_eq_true rfl) ?_
  unfold clke
  generalize hp : Pe.clk ⟨[], 65536, 0⟩ k = q at *
  focus (have kxs := hp; have kk1 := uN [] (pen_New 65536 (by decide)); have kk2 := uN [1, 2] (dcode_Put1 [] 65536 0 pe0_ok k hf (.inl (by decide))); have kk3 := uN [1, 2] (pen_End q.b q.m q.e hq); (repeat' (first | refine G ?_ | refine AW.ret ?_ | (refine GC ?_ ?_ <;> intro h <;> (try simp only [hsB] at h) <;> try (exfalso; first | omega | contradiction)) | (refine GL ?_ ?_ <;> intro h <;> (try simp only [Bool.not_true, Bool.not_false] at h) <;> (try simp only [h]) <;> (try simp only [hsB] at h) <;> try (exfalso; first | omega | contradiction)) | fail)); all_goals clear kxs kk1 kk2 kk3)
  all_goals first | ((all_goals first | exact RetQ.fr 0 | exact RetQ.fn 0 | fail); done) | (exfalso; simp_all; done)
end Go.AW
