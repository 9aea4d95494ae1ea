/-
  pages that are read: the document's.
-/
import Derived.Test.YtbedecfkincemaaGreatX19
import Derived.Test.YtbedecfkincemaaGreatX20
import Derived.Test.YtbedecfkincemaaGreatX22
import Derived.Test.YtbedecfkincemaaGreatX24
import Derived.Test.YtbedecfkincemaaGreatX07
import Derived.Test.YtbedecfkincemaaGreatX15
import Derived.Test.YtbedecfkincemaaGreatX03
import Derived.Test.YtbedecfkincemaaGreatX04
import Derived.Laws.Externs
import Derived.Lib.Bytealg
import Derived.Test.YtbedecfkincemaaGreatX21
import Derived.Test.YtbedecfkincemaaGreatX14
import Derived.Test.YtbedecfkincemaaGreatX23
namespace Go.AW
open Go Go.Proofs
set_option maxHeartbeats 4000000
set_option maxRecDepth 10000
set_option linter.unusedSimpArgs false
set_option linter.unusedVariables false
attribute [local irreducible] thenQ blockQ RetQ AL AW AC AOp

end Go.AW
/-
  members that are read: the document's.
-/
namespace Go.AW
open Go Go.Proofs
set_option maxHeartbeats 4000000
set_option maxRecDepth 10000
set_option linter.unusedSimpArgs false
set_option linter.unusedVariables false
attribute [local irreducible] thenQ blockQ RetQ AL AW AC AOp

end Go.AW
/-
  members and rings that are read: the document's.
-/
namespace Go.AW
open Go Go.Proofs
set_option maxHeartbeats 4000000
set_option maxRecDepth 10000
set_option linter.unusedSimpArgs false
set_option linter.unusedVariables false
attribute [local irreducible] thenQ blockQ RetQ AL AW AC AOp

end Go.AW
/-
  rings that are read: the document's; whole texts.
-/
namespace Go.AW
open Go Go.Proofs
set_option maxHeartbeats 2000000
set_option maxRecDepth 10000
set_option linter.unusedSimpArgs false
set_option linter.unusedVariables false
attribute [local irreducible] thenQ blockQ RetQ AL AW AC AOp

/-- The name ahead is a row's last one. -/
def Lastn (out : Ring) (p : List UInt8) : Prop := p.length ≤ 32 ∧ (0 < out.length → (ringD out).drop ((out.length - 1) * 4) = D.s (.string ⟨p.toArray⟩) :: (ringD out).drop ((out.length - 1) * 4 + 1))
end Go.AW
/-
  old objects that are read: the document's.
-/
namespace Go.AW
open Go Go.Proofs
set_option maxHeartbeats 2000000
set_option maxRecDepth 10000
set_option linter.unusedSimpArgs false
set_option linter.unusedVariables false
attribute [local irreducible] thenQ blockQ RetQ AL AW AC AOp

end Go.AW
/-
  messages, the document's: what it is read as.
-/
namespace Go.AW
open Go Go.Proofs
set_option maxHeartbeats 4000000
set_option maxRecDepth 10000
set_option linter.unusedSimpArgs false
set_option linter.unusedVariables false
attribute [local irreducible] thenQ blockQ RetQ AL AW AC AOp

end Go.AW
/-
  messages, the document's: what it is read as (puts).
-/
namespace Go.AW
open Go Go.Proofs
set_option maxHeartbeats 4000000
set_option maxRecDepth 10000
set_option linter.unusedSimpArgs false
set_option linter.unusedVariables false
attribute [local irreducible] thenQ blockQ RetQ AL AW AC AOp

end Go.AW
/-
  messages, the document's: what it is read as (others).
-/
namespace Go.AW
open Go Go.Proofs
set_option maxHeartbeats 4000000
set_option maxRecDepth 10000
set_option linter.unusedSimpArgs false
set_option linter.unusedVariables false
attribute [local irreducible] thenQ blockQ RetQ AL AW AC AOp

end Go.AW
/-
  pages that are the same; great ones.
-/
namespace Go.AW
open Go Go.Proofs
set_option maxHeartbeats 4000000
set_option maxRecDepth 10000
set_option linter.unusedSimpArgs false
set_option linter.unusedVariables false
attribute [local irreducible] thenQ blockQ RetQ AL AW AC AOp

theorem ref20_Great (g : Pg) (hf : g.fits) : AC Tryz.prog 80 [pgV g] [] fun x σ => x = bv g.great ∧ σ = [] := by
  refine AC.walk Tryz.func80 rfl (by decide) (of_decide_eq_true rfl) ?_
  obtain ⟨f1, ⟨f2, f3⟩, f4, f5⟩ := hf
  obtain ⟨pre, leaf, slots, items⟩ := g
  simp only at f1 f2 f3 f4 f5 ⊢
  by_cases h0 : 100 < pre.length ∨ 300 < slots.length ∨ 20 < items.length
  · have hc : Pg.great ⟨pre, leaf, slots, items⟩ = true := by
      unfold Pg.great
      rcases h0 with h | h | h <;> simp [h]
    rw [hc]
    focus (have kxs := kx0; (repeat' (first | refine G ?_ | refine AW.ret ?_ | (refine GC ?_ ?_ <;> intro h <;> (try simp only [hsB] at h) <;> try exact xf) | (refine GL ?_ ?_ <;> intro h <;> (try simp only [hsN] at h) <;> (try simp only [h]) <;> (try simp only [hsB] at h) <;> try exact xf) | fail)); all_goals clear kxs)
    all_goals first | exact RetQ.fr 0 | exact RetQ.fn 0 | (exfalso; omega) | (exfalso; simp_all; done)
  generalize hR : ((slots.any fun x => decide (100 < x.2.length)) || items.any fun x => decide (100 < x.1.length) || decide (100 < x.2.length)) = R
  have hc : Pg.great ⟨pre, leaf, slots, items⟩ = R := by
    rw [← hR]
    unfold Pg.great
    have a1 : ¬ 100 < pre.length := fun h => h0 (.inl h)
    have a2 : ¬ 300 < slots.length := fun h => h0 (.inr (.inl h))
    have a3 : ¬ 20 < items.length := fun h => h0 (.inr (.inr h))
    simp [a1, a2, a3]
  rw [hc]
  clear hc
  focus (have kxs := kx0; (repeat' (first | refine G ?_ | refine AW.ret ?_ | (refine GC ?_ ?_ <;> intro h <;> (try simp only [hsB] at h) <;> try exact xf) | (refine GL ?_ ?_ <;> intro h <;> (try simp only [hsN] at h) <;> (try simp only [h]) <;> (try simp only [hsB] at h) <;> try exact xf) | fail)); all_goals clear kxs)
  all_goals first | (exfalso; omega) | (exfalso; simp_all; done) | skip
  refine AW.rounds [1, 2, 3] (fun i : Nat => [(1, .p 0 0), (2, bv false), (3, iv .i64 i)]) (fun _ => [.box 35 [sv (bs pre), bv leaf, .d (.l slots.length (slsD slots)), .d (.l items.length (itsD items))]])
    (fun i => i ≤ slots.length ∧ (((slots.drop i).any fun x => decide (100 < x.2.length)) || items.any fun x => decide (100 < x.1.length) || decide (100 < x.2.length)) = R) (fun i => slots.length - i) 0 ⟨Nat.zero_le _, hR⟩ rfl rfl (fun _ _ => Nat.zero_le _) (fun _ _ => rfl) (fun _ _ => rfl) ?_
  clear hR
  rintro i ⟨hi, hr⟩ J hJ
  by_cases hil : i < slots.length
  case pos =>
    obtain ⟨x, r, hd⟩ := next_at hil
    have hcd := sls_drop hd
    have hnd := next_drop hd
    have g2 := (f3 x (next_mem hd)).2
    rw [hd, List.any_cons] at hr
    by_cases h1 : 100 < x.2.length
    · have hR1 : R = true := by rw [← hr]; simp [h1]
      rw [hR1]
      focus (have kxs := hcd; (repeat' (first | refine G ?_ | refine AW.ret ?_ | (refine GC ?_ ?_ <;> intro h <;> (try simp only [hsB] at h) <;> try exact xf) | (refine GL ?_ ?_ <;> intro h <;> (try simp only [hsN] at h) <;> (try simp only [h]) <;> (try simp only [hsB] at h) <;> try exact xf) | fail)); all_goals clear kxs)
      all_goals first | exact RetQ.fr 0 | exact RetQ.fn 0 | (exfalso; omega) | (exfalso; simp_all; done)
    · rw [decide_eq_false h1, Bool.false_or] at hr
      have go : ∀ T' σ', keepT T' [1, 2, 3] = [(1, .p 0 0), (2, bv false), (3, iv .i64 ((i : Int) + 1))] → σ'.take 1 = [.box 35 [sv (bs pre), bv leaf, .d (.l slots.length (slsD slots)), .d (.l items.length (itsD items))]] → J T' σ' := fun T' σ' g1 g2 =>
        hJ (i + 1) T' σ' (by omega) ⟨hil, by rw [hnd]; exact hr⟩ g1 g2
      clear hJ hr hnd
      focus (have kxs := hcd; (repeat' (first | refine G ?_ | refine AW.ret ?_ | (refine GC ?_ ?_ <;> intro h <;> (try simp only [hsB] at h) <;> try exact xf) | (refine GL ?_ ?_ <;> intro h <;> (try simp only [hsN] at h) <;> (try simp only [h]) <;> (try simp only [hsB] at h) <;> try exact xf) | fail)); all_goals clear kxs)
      all_goals first | exact go _ _ rfl rfl | (exfalso; omega) | (exfalso; simp_all; done)
  case neg =>
    rw [List.drop_eq_nil_of_le (by omega)] at hr
    have hr : (items.any fun x => decide (100 < x.1.length) || decide (100 < x.2.length)) = R := hr
    clear hJ
    focus (have kxs := kx0; (repeat' (first | refine G ?_ | refine AW.ret ?_ | (refine GC ?_ ?_ <;> intro h <;> (try simp only [hsB] at h) <;> try exact xf) | (refine GL ?_ ?_ <;> intro h <;> (try simp only [hsN] at h) <;> (try simp only [h]) <;> (try simp only [hsB] at h) <;> try exact xf) | fail)); all_goals clear kxs)
    all_goals first | (exfalso; omega) | (exfalso; simp_all; done) | skip
    refine AW.rounds [1, 2, 4] (fun i : Nat => [(1, .p 0 0), (2, bv false), (4, iv .i64 i)]) (fun _ => [.box 35 [sv (bs pre), bv leaf, .d (.l slots.length (slsD slots)), .d (.l items.length (itsD items))]])
      (fun i => i ≤ items.length ∧ ((items.drop i).any fun x => decide (100 < x.1.length) || decide (100 < x.2.length)) = R) (fun i => items.length - i) 0 ⟨Nat.zero_le _, hr⟩ rfl rfl (fun _ _ => Nat.zero_le _) (fun _ _ => rfl) (fun _ _ => rfl) ?_
    clear hr
    rintro j ⟨hj, hr⟩ J hJ
    by_cases hjl : j < items.length
    case pos =>
      obtain ⟨x, r, hd⟩ := next_at hjl
      have hcd := its_drop hd
      have hnd := next_drop hd
      obtain ⟨g1, g2⟩ := f5 x (next_mem hd)
      rw [hd, List.any_cons] at hr
      by_cases h1 : 100 < x.1.length ∨ 100 < x.2.length
      · have hR1 : R = true := by
          rw [← hr]
          rcases h1 with h1 | h1 <;> simp [h1]
        rw [hR1]
        focus (have kxs := hcd; (repeat' (first | refine G ?_ | refine AW.ret ?_ | (refine GC ?_ ?_ <;> intro h <;> (try simp only [hsB] at h) <;> try exact xf) | (refine GL ?_ ?_ <;> intro h <;> (try simp only [hsN] at h) <;> (try simp only [h]) <;> (try simp only [hsB] at h) <;> try exact xf) | fail)); all_goals clear kxs)
        all_goals first | exact RetQ.fr 0 | exact RetQ.fn 0 | (exfalso; omega) | (exfalso; simp_all; done)
      · have hx : (decide (100 < x.1.length) || decide (100 < x.2.length)) = false := by
          simp only [Bool.or_eq_false_iff, decide_eq_false_iff_not]; omega
        rw [hx, Bool.false_or] at hr
        have go : ∀ T' σ', keepT T' [1, 2, 4] = [(1, .p 0 0), (2, bv false), (4, iv .i64 ((j : Int) + 1))] → σ'.take 1 = [.box 35 [sv (bs pre), bv leaf, .d (.l slots.length (slsD slots)), .d (.l items.length (itsD items))]] → J T' σ' := fun T' σ' g1 g2 =>
          hJ (j + 1) T' σ' (by omega) ⟨hjl, by rw [hnd]; exact hr⟩ g1 g2
        clear hJ hr hnd hx
        focus (have kxs := hcd; (repeat' (first | refine G ?_ | refine AW.ret ?_ | (refine GC ?_ ?_ <;> intro h <;> (try simp only [hsB] at h) <;> try exact xf) | (refine GL ?_ ?_ <;> intro h <;> (try simp only [hsN] at h) <;> (try simp only [h]) <;> (try simp only [hsB] at h) <;> try exact xf) | fail)); all_goals clear kxs)
        all_goals first | exact go _ _ rfl rfl | (exfalso; omega) | (exfalso; simp_all; done)
    case neg =>
      rw [List.drop_eq_nil_of_le (by omega)] at hr
      have hR0 : R = false := hr.symm
      rw [hR0]
      focus (have kxs := kx0; (repeat' (first | refine G ?_ | refine AW.ret ?_ | (refine GC ?_ ?_ <;> intro h <;> (try simp only [hsB] at h) <;> try exact xf) | (refine GL ?_ ?_ <;> intro h <;> (try simp only [hsN] at h) <;> (try simp only [h]) <;> (try simp only [hsB] at h) <;> try exact xf) | fail)); all_goals clear kxs)
      all_goals first | exact RetQ.fr 0 | exact RetQ.fn 0 | (exfalso; omega) | (exfalso; simp_all; done)
end Go.AW
/-
  old objects that are the same, or alike, or too great: the program's and the document's.
-/
namespace Go.AW
open Go Go.Proofs
set_option maxHeartbeats 2000000
set_option maxRecDepth 10000
set_option linter.unusedSimpArgs false
set_option linter.unusedVariables false
attribute [local irreducible] thenQ blockQ RetQ AL AW AC AOp

theorem ref17_Great (o : Od) (ho : o.fits) : AC Tryz.prog 77 [odV o] [] fun x σ => x = bv o.great ∧ σ = [] := by
  obtain ⟨key, l⟩ := o
  obtain ⟨hk, hl, hf⟩ := ho
  simp only at hk hl hf
  refine AC.walk Tryz.func77 rfl (by decide) (of_decide_eq_true rfl) ?_
  by_cases h0 : 200 < key.length ∨ 20 < l.length
  · have hc : Od.great ⟨key, l⟩ = true := by unfold Od.great; rcases h0 with h | h <;> simp [h]
    rw [hc]
    focus (have kxs := kx0; (repeat' (first | refine G ?_ | refine AW.ret ?_ | (refine GC ?_ ?_ <;> intro h <;> (try simp only [hsB] at h) <;> try exact xf) | (refine GL ?_ ?_ <;> intro h <;> (try simp only [hsN] at h) <;> (try simp only [h]) <;> (try simp only [hsB] at h) <;> try exact xf) | fail)); all_goals clear kxs)
    all_goals first | (exfalso; omega) | exact RetQ.fr 0 | exact RetQ.fn 0
  generalize hR : (l.any fun x => x.clk.great || decide (200 < x.val.length)) = R
  have hc : Od.great ⟨key, l⟩ = R := by
    unfold Od.great
    simp only
    rw [hR, decide_eq_false (fun h => h0 (.inl h)), decide_eq_false (fun h => h0 (.inr h))]; rfl
  rw [hc]
  focus (have kxs := kx0; (repeat' (first | refine G ?_ | refine AW.ret ?_ | (refine GC ?_ ?_ <;> intro h <;> (try simp only [hsB] at h) <;> try exact xf) | (refine GL ?_ ?_ <;> intro h <;> (try simp only [hsN] at h) <;> (try simp only [h]) <;> (try simp only [hsB] at h) <;> try exact xf) | fail)); all_goals clear kxs)
  all_goals first | (exfalso; omega) | skip
  refine AW.rounds [1, 2, 3] (fun i : Nat => [(1, .p 0 0), (2, bv false), (3, iv .i64 i)]) (fun _ => [.box 29 [sv (bs key), .d (.l l.length (ossD l))]])
    (fun i => i ≤ l.length ∧ ((l.drop i).any fun x => x.clk.great || decide (200 < x.val.length)) = R) (fun i => l.length - i) 0 ⟨Nat.zero_le _, hR⟩ rfl rfl (fun _ _ => Nat.zero_le _) (fun _ _ => rfl) (fun _ _ => rfl) ?_
  rintro i ⟨hi, hr⟩ J hJ
  by_cases hil : i < l.length
  · obtain ⟨x, r, hd⟩ := next_at hil
    have hcd := oss_drop hd
    have hnd := next_drop hd
    rw [hd, List.any_cons] at hr
    have hfx := hf x (next_mem hd)
    by_cases hg : x.clk.great = true
    · rw [hg, Bool.true_or, Bool.true_or] at hr
      rw [← hr]
      focus (have kxs := And.intro hcd hg; have kk1 := uN [] (ref10_Great x.clk hfx.1); (repeat' (first | refine G ?_ | refine AW.ret ?_ | (refine GC ?_ ?_ <;> intro h <;> (try simp only [hsB] at h) <;> try exact xf) | (refine GL ?_ ?_ <;> intro h <;> (try simp only [hsN] at h) <;> (try simp only [h]) <;> (try simp only [hsB] at h) <;> try exact xf) | fail)); all_goals clear kxs kk1)
      all_goals first | exact RetQ.fr 0 | exact RetQ.fn 0 | (exfalso; simp_all; done)
    have hg : x.clk.great = false := by simpa using hg
    rw [hg, Bool.false_or] at hr
    by_cases hv : 200 < x.val.length
    · rw [decide_eq_true hv, Bool.true_or] at hr
      rw [← hr]
      focus (have kxs := And.intro hcd hg; have kk1 := uN [] (ref10_Great x.clk hfx.1); (repeat' (first | refine G ?_ | refine AW.ret ?_ | (refine GC ?_ ?_ <;> intro h <;> (try simp only [hsB] at h) <;> try exact xf) | (refine GL ?_ ?_ <;> intro h <;> (try simp only [hsN] at h) <;> (try simp only [h]) <;> (try simp only [hsB] at h) <;> try exact xf) | fail)); all_goals clear kxs kk1)
      all_goals first | (exfalso; omega) | exact RetQ.fr 0 | exact RetQ.fn 0 | (exfalso; simp_all; done)
    rw [decide_eq_false hv, Bool.false_or] at hr
    focus (have kxs := And.intro hcd hg; have kk1 := uN [] (ref10_Great x.clk hfx.1); (repeat' (first | refine G ?_ | refine AW.ret ?_ | (refine GC ?_ ?_ <;> intro h <;> (try simp only [hsB] at h) <;> try exact xf) | (refine GL ?_ ?_ <;> intro h <;> (try simp only [hsN] at h) <;> (try simp only [h]) <;> (try simp only [hsB] at h) <;> try exact xf) | fail)); all_goals clear kxs kk1)
    all_goals first | (exfalso; omega) | (refine hJ (i + 1) _ _ (by omega) ⟨hil, by rw [hnd]; exact hr⟩ rfl rfl) | (exfalso; simp_all; done)
  · have h0 : l.drop i = [] := List.drop_eq_nil_of_le (by omega)
    rw [h0] at hr
    have hR0 : R = false := hr.symm
    rw [hR0]
    focus (have kxs := kx0; (repeat' (first | refine G ?_ | refine AW.ret ?_ | (refine GC ?_ ?_ <;> intro h <;> (try simp only [hsB] at h) <;> try exact xf) | (refine GL ?_ ?_ <;> intro h <;> (try simp only [hsN] at h) <;> (try simp only [h]) <;> (try simp only [hsB] at h) <;> try exact xf) | fail)); all_goals clear kxs)
    all_goals first | exact RetQ.fr 0 | exact RetQ.fn 0

end Go.AW
/-
  The calculus: own rows that nobody writes any more become data; loops over such; strings compared by the runtime.
-/
namespace Go.AW
open Go
set_option linter.unusedVariables false

def fzT (σ : List Ob) (m : Nat) : Tm → Tm
  | [] => []
  | (n, x) :: T => (n, fz σ m x) :: fzT σ m T
attribute [go_sem] fzT
section
variable {P : Program} {N k : Nat} {T : Tm} {σ : List Ob}
end
end Go.AW
/-
  The calculus: nil slices among data are rows of no elements.
-/
namespace Go.AW
open Go
set_option linter.unusedVariables false

mutual
def nzD : D → D
  | .s (.slice none 0 0) => .l 0 []
  | .l n xs => .l n (nzDs xs)
  | x => x
def nzDs : List D → List D
  | [] => []
  | x :: xs => nzD x :: nzDs xs
end
mutual
theorem nzD_ok {F : Nat → Prop} {w : World} : ∀ (x : D) (v : Value), DR F w x v → DR F w (nzD x) v
  | .s u, v, h => by
    unfold nzD
    split
    · rename_i e
      cases e
      simp only [DR] at h ⊢
      exact ⟨none, 0, h, Nat.le_refl _, .inl (by simp)⟩
    · rename_i e; cases e
    · exact h
  | .l n xs, v, h => by
    simp only [nzD, DR] at h ⊢
    obtain ⟨A, cap, hv, hn, ⟨rfl, h⟩ | ⟨b, off, vs, hA, hb, hF, hc, hd⟩⟩ := h
    · exact ⟨A, cap, hv, hn, .inl ⟨rfl, h⟩⟩
    · exact ⟨A, cap, hv, hn, .inr ⟨b, off, vs, hA, hb, hF, hc, nzDs_ok xs vs hd⟩⟩
theorem nzDs_ok {F : Nat → Prop} {w : World} : ∀ (xs : List D) (vs : List Value), DRs F w xs vs → DRs F w (nzDs xs) vs
  | [], vs, h => h
  | x :: xs, vs, h => by
    simp only [nzDs, DRs] at h ⊢
    obtain ⟨v, us, hv, h1, h2⟩ := h
    exact ⟨v, us, hv, nzD_ok x v h1, nzDs_ok xs us h2⟩
end
mutual
def nzV : V → V
  | .d x => .d (nzD x)
  | .a xs => .a (nzVs xs)
  | x => x
def nzVs : List V → List V
  | [] => []
  | x :: xs => nzV x :: nzVs xs
end
mutual
theorem nzV_ok {F : Nat → Prop} {σ : List Ob} {μ : List Value} {w : World} : ∀ (x : V) (v : Value), VR F σ μ w x v → VR F σ μ w (nzV x) v
  | .d x, v, h => by simp only [nzV, VR] at h ⊢; exact nzD_ok x v h
  | .a xs, v, h => by
    simp only [nzV, VR] at h ⊢
    obtain ⟨cs, hv, h⟩ := h
    exact ⟨cs, hv, nzVs_ok xs _ h⟩
  | .t _, v, h => h
  | .p _ _, v, h => h
  | .c _, v, h => h
  | .o _ _, v, h => h
  | .e _ _ _, v, h => h
  | .b _ _ _, v, h => h
  | .f _ _ _, v, h => h
  | .u, v, h => h
theorem nzVs_ok {F : Nat → Prop} {σ : List Ob} {μ : List Value} {w : World} : ∀ (xs : List V) (vs : List Value), VRs F σ μ w xs vs → VRs F σ μ w (nzVs xs) vs
  | [], vs, h => h
  | x :: xs, vs, h => by
    simp only [nzVs, VRs] at h ⊢
    obtain ⟨v, us, hv, h1, h2⟩ := h
    exact ⟨v, us, hv, nzV_ok x v h1, nzVs_ok xs us h2⟩
end
def nzOb : Ob → Ob
  | .row E sz n cs => .row E sz n (nzDs cs)
  | ob => ob
attribute [go_sem] nzOb nzDs nzD
section
variable {P : Program} {N k B : Nat} {T : Tm} {F : Nat → Prop} {σ : List Ob} {μ : List Value} {w : World}
theorem nz_at {i : Nat} {ob : Ob} (h : (σ.map nzOb)[i]? = some ob) : ∃ ob0, σ[i]? = some ob0 ∧ ob = nzOb ob0 := by
  rw [List.getElem?_map] at h
  cases hc : σ[i]? with
  | none => rw [hc] at h; cases h
  | some ob0 => rw [hc] at h; exact ⟨ob0, rfl, (Option.some.inj h).symm⟩
theorem blk_nz (ob : Ob) (h : Value) : blk (nzOb ob) h = blk ob h := by
  cases h with
  | pointer a => cases a <;> cases ob <;> rfl
  | slice a _ _ => cases a <;> cases ob <;> rfl
  | _ => cases ob <;> rfl
theorem Keep.nz : Keep σ.length σ μ (σ.map nzOb) μ := by
  refine ⟨fun i T cs h _ h1 h2 => ⟨⟨cs, by rw [List.getElem?_map, h1]; rfl⟩, h2⟩, fun i E sz m cs h _ h1 h2 => ⟨m, nzDs cs, h, by rw [List.getElem?_map, h1]; rfl, h2, Nat.le_refl _, fun _ => rfl⟩⟩
theorem Live.nz {b : Nat} (h : Live (σ.map nzOb) μ b) : Live σ μ b := by
  obtain ⟨i, ob, u, h1, h2, h3⟩ := h
  obtain ⟨ob0, g1, rfl⟩ := nz_at h1
  exact ⟨i, ob0, u, g1, h2, by rw [blk_nz] at h3; exact h3⟩
theorem St.nz (st : St k B F σ μ w) : St k B F (σ.map nzOb) μ w := by
  have hm : Mem F w F w := ⟨Nat.le_refl _, fun b _ hf => ⟨rfl, hf⟩⟩
  refine ⟨by rw [List.length_map]; exact st.len, fun i ob h h1 h2 => ?_, fun i j ob h ob' h' b h1 h2 h3 h4 h5 h6 => ?_, st.lt, st.base⟩
  · obtain ⟨ob0, g1, rfl⟩ := nz_at h1
    have hh := st.obj i ob0 h g1 h2
    cases ob0 with
    | box T cs =>
      obtain ⟨b, arr, e1, e2, e3, e4, e5⟩ := hh
      exact ⟨b, arr, e1, e2, VRs.mono hm st.len Keep.nz _ _ e3, e4, e5⟩
    | row E sz n cs =>
      obtain ⟨vs, e1, e2, e3⟩ := hh
      exact ⟨vs, e1, nzDs_ok _ _ e2, e3⟩
  · obtain ⟨o1, g1, rfl⟩ := nz_at h1
    obtain ⟨o2, g2, rfl⟩ := nz_at h3
    rw [blk_nz] at h5 h6
    exact st.sep i j o1 h o2 h' b g1 h2 g2 h4 h5 h6
theorem Stp.nz : Stp k B F σ μ w F (σ.map nzOb) μ w :=
  ⟨rfl, rfl, rfl, Nat.le_refl _, fun _ _ _ => rfl, fun _ h => .inl h, fun _ _ h => h, fun _ h => .inl h.nz, Keep.any Keep.nz, fun i E sz m cs h E' sz' m' cs' h' _ _ h2 _ h4 b hb => by
    rw [h2] at h4
    obtain rfl := Option.some.inj h4
    exact .inl hb⟩
end
end Go.AW
/-
  Row 16: the laws.
-/
namespace Go.AW
open Go Go.Proofs Go.RowKit
set_option maxHeartbeats 2000000
set_option maxRecDepth 10000
set_option linter.unusedSimpArgs false
set_option linter.unusedVariables false
attribute [local irreducible] thenQ blockQ RetQ AL AW AC AOp

theorem Oj.good_of {o : Oj} (h : o.check = 0) (hf : o.fits) : gobj o := ⟨h, fun x hx => ⟨(hf.2.2 x hx).1.1.2.2, (hf.2.2 x hx).1.2.2⟩⟩
theorem Oj.fits_of {o : Oj} (h : gobj o) : o.fits := by
  obtain ⟨h1, h2⟩ := Oj.check_parts h.1
  obtain ⟨k1, k2, k3, k4⟩ := outside_zero.1 h1
  exact ⟨by omega, by omega, fun x hx => Sb.fits_of ⟨jcheck_parts _ _ h2 x hx, (h.2 x hx).1, (h.2 x hx).2⟩⟩
theorem oj0_fits : oj0.fits := ⟨by decide, by decide, fun x hx => (List.not_mem_nil hx).elim⟩
end Go.AW
/-
  messages, the document's: whether they are the same, great.
-/
namespace Go.AW
open Go Go.Proofs
set_option maxHeartbeats 4000000
set_option maxRecDepth 10000
set_option linter.unusedSimpArgs false
set_option linter.unusedVariables false
attribute [local irreducible] thenQ blockQ RetQ AL AW AC AOp

def Mg.great (m : Mg) : Bool := m.obj.great || m.old.great || Vec.great m.ctx || Prs.great m.meta_ || m.page.great || Ring.great m.ring || decide (200 < m.key.length) || decide (200 < m.val.length) || decide (200 < m.pre.length) || decide (200 < m.txt.length)
theorem ref23_Great (m : Mg) (hf : m.fits) : AC Tryz.prog 21 [mgV m] [] fun y σ => y = bv m.great ∧ σ = [] := by
  refine AC.walk Tryz.func21 rfl (by decide) (of_decide_eq_true rfl) ?_
  obtain ⟨_, _, k1, f1, f2, f3, f4, k2, k3, f5, f6, _, k4⟩ := hf
  have s1 := ref16_Great m.obj f1
  have s2 := ref17_Great m.old f2
  have s3 := ref10_Great m.ctx f3
  have s4 := ref14_Great m.meta_ f4
  have s5 := ref20_Great m.page f5
  have s6 := ref22_Great m.ring f6
  unfold Mg.great
  generalize m.obj.great = g1 at *
  generalize m.old.great = g2 at *
  generalize Vec.great m.ctx = g3 at *
  generalize Prs.great m.meta_ = g4 at *
  generalize m.page.great = g5 at *
  generalize Ring.great m.ring = g6 at *
  cases g1 with
  | true =>
    focus (have kxs := kx0; have kk1 := uN [] (s1); (repeat' (first | refine G ?_ | refine AW.ret ?_ | (refine GC ?_ ?_ <;> intro h <;> (try simp only [hsB] at h) <;> try exact xf) | (refine GL ?_ ?_ <;> intro h <;> (try simp only [hsN] at h) <;> (try simp only [h]) <;> (try simp only [hsB] at h) <;> try exact xf) | fail)); all_goals clear kxs kk1)
    all_goals first | exact RetQ.fr 0 | exact RetQ.fn 0 | (exfalso; omega) | (exfalso; simp_all; done)
  | false =>
  cases g2 with
  | true =>
    focus (have kxs := kx0; have kk1 := uN [] (s1); have kk2 := uN [] (s2); (repeat' (first | refine G ?_ | refine AW.ret ?_ | (refine GC ?_ ?_ <;> intro h <;> (try simp only [hsB] at h) <;> try exact xf) | (refine GL ?_ ?_ <;> intro h <;> (try simp only [hsN] at h) <;> (try simp only [h]) <;> (try simp only [hsB] at h) <;> try exact xf) | fail)); all_goals clear kxs kk1 kk2)
    all_goals first | exact RetQ.fr 0 | exact RetQ.fn 0 | (exfalso; omega) | (exfalso; simp_all; done)
  | false =>
  cases g3 with
  | true =>
    focus (have kxs := kx0; have kk1 := uN [] (s1); have kk2 := uN [] (s2); have kk3 := uN [] (s3); (repeat' (first | refine G ?_ | refine AW.ret ?_ | (refine GC ?_ ?_ <;> intro h <;> (try simp only [hsB] at h) <;> try exact xf) | (refine GL ?_ ?_ <;> intro h <;> (try simp only [hsN] at h) <;> (try simp only [h]) <;> (try simp only [hsB] at h) <;> try exact xf) | fail)); all_goals clear kxs kk1 kk2 kk3)
    all_goals first | exact RetQ.fr 0 | exact RetQ.fn 0 | (exfalso; omega) | (exfalso; simp_all; done)
  | false =>
  cases g4 with
  | true =>
    focus (have kxs := kx0; have kk1 := uN [] (s1); have kk2 := uN [] (s2); have kk3 := uN [] (s3); have kk4 := uN [] (s4); (repeat' (first | refine G ?_ | refine AW.ret ?_ | (refine GC ?_ ?_ <;> intro h <;> (try simp only [hsB] at h) <;> try exact xf) | (refine GL ?_ ?_ <;> intro h <;> (try simp only [hsN] at h) <;> (try simp only [h]) <;> (try simp only [hsB] at h) <;> try exact xf) | fail)); all_goals clear kxs kk1 kk2 kk3 kk4)
    all_goals first | exact RetQ.fr 0 | exact RetQ.fn 0 | (exfalso; omega) | (exfalso; simp_all; done)
  | false =>
  cases g5 with
  | true =>
    focus (have kxs := kx0; have kk1 := uN [] (s1); have kk2 := uN [] (s2); have kk3 := uN [] (s3); have kk4 := uN [] (s4); have kk5 := uN [] (s5); (repeat' (first | refine G ?_ | refine AW.ret ?_ | (refine GC ?_ ?_ <;> intro h <;> (try simp only [hsB] at h) <;> try exact xf) | (refine GL ?_ ?_ <;> intro h <;> (try simp only [hsN] at h) <;> (try simp only [h]) <;> (try simp only [hsB] at h) <;> try exact xf) | fail)); all_goals clear kxs kk1 kk2 kk3 kk4 kk5)
    all_goals first | exact RetQ.fr 0 | exact RetQ.fn 0 | (exfalso; omega) | (exfalso; simp_all; done)
  | false =>
  cases g6 with
  | true =>
    focus (have kxs := kx0; have kk1 := uN [] (s1); have kk2 := uN [] (s2); have kk3 := uN [] (s3); have kk4 := uN [] (s4); have kk5 := uN [] (s5); have kk6 := uN [] (s6); (repeat' (first | refine G ?_ | refine AW.ret ?_ | (refine GC ?_ ?_ <;> intro h <;> (try simp only [hsB] at h) <;> try exact xf) | (refine GL ?_ ?_ <;> intro h <;> (try simp only [hsN] at h) <;> (try simp only [h]) <;> (try simp only [hsB] at h) <;> try exact xf) | fail)); all_goals clear kxs kk1 kk2 kk3 kk4 kk5 kk6)
    all_goals first | exact RetQ.fr 0 | exact RetQ.fn 0 | (exfalso; omega) | (exfalso; simp_all; done)
  | false =>
  by_cases h : 200 < m.key.length ∨ 200 < m.val.length ∨ 200 < m.pre.length ∨ 200 < m.txt.length
  · rw [show (false || false || false || false || false || false || decide (200 < m.key.length) || decide (200 < m.val.length) || decide (200 < m.pre.length) || decide (200 < m.txt.length)) = true by rcases h with h | h | h | h <;> simp [h]]
    focus (have kxs := kx0; have kk1 := uN [] (s1); have kk2 := uN [] (s2); have kk3 := uN [] (s3); have kk4 := uN [] (s4); have kk5 := uN [] (s5); have kk6 := uN [] (s6); (repeat' (first | refine G ?_ | refine AW.ret ?_ | (refine GC ?_ ?_ <;> intro h <;> (try simp only [hsB] at h) <;> try exact xf) | (refine GL ?_ ?_ <;> intro h <;> (try simp only [hsN] at h) <;> (try simp only [h]) <;> (try simp only [hsB] at h) <;> try exact xf) | fail)); all_goals clear kxs kk1 kk2 kk3 kk4 kk5 kk6)
    all_goals first | exact RetQ.fr 0 | exact RetQ.fn 0 | (exfalso; omega) | (exfalso; simp_all; done)
  · have e1 : ¬ 200 < m.key.length := fun x => h (.inl x)
    have e2 : ¬ 200 < m.val.length := fun x => h (.inr (.inl x))
    have e3 : ¬ 200 < m.pre.length := fun x => h (.inr (.inr (.inl x)))
    have e4 : ¬ 200 < m.txt.length := fun x => h (.inr (.inr (.inr x)))
    rw [show (false || false || false || false || false || false || decide (200 < m.key.length) || decide (200 < m.val.length) || decide (200 < m.pre.length) || decide (200 < m.txt.length)) = false by simp [e1, e2, e3, e4]]
    focus (have kxs := kx0; have kk1 := uN [] (s1); have kk2 := uN [] (s2); have kk3 := uN [] (s3); have kk4 := uN [] (s4); have kk5 := uN [] (s5); have kk6 := uN [] (s6); (repeat' (first | refine G ?_ | refine AW.ret ?_ | (refine GC ?_ ?_ <;> intro h <;> (try simp only [hsB] at h) <;> try exact xf) | (refine GL ?_ ?_ <;> intro h <;> (try simp only [hsN] at h) <;> (try simp only [h]) <;> (try simp only [hsB] at h) <;> try exact xf) | fail)); all_goals clear kxs kk1 kk2 kk3 kk4 kk5 kk6)
    all_goals first | exact RetQ.fr 0 | exact RetQ.fn 0 | (exfalso; omega) | (exfalso; simp_all; done)
end Go.AW
/-
  old objects that are alike: the program's and the document's.
-/
namespace Go.AW
open Go Go.Proofs
set_option maxHeartbeats 2000000
set_option maxRecDepth 10000
set_option linter.unusedSimpArgs false
set_option linter.unusedVariables false
attribute [local irreducible] thenQ blockQ RetQ AL AW AC AOp

end Go.AW
/-
  Row 17: the laws.
-/
namespace Go.AW
open Go Go.Proofs Go.RowKit
set_option maxHeartbeats 2000000
set_option maxRecDepth 10000
set_option linter.unusedSimpArgs false
set_option linter.unusedVariables false
attribute [local irreducible] thenQ blockQ RetQ AL AW AC AOp

theorem Od.fits_of {o : Od} (h : gold o) : o.fits := by
  obtain ⟨h1, h2⟩ := Od.check_parts h.1
  obtain ⟨k1, k2, k3, k4⟩ := outside_zero.1 h1
  refine ⟨by omega, by omega, fun x hx => ?_⟩
  obtain ⟨g1, g2, g3⟩ := (ocheck_parts _ _ h2).1 x hx
  have := Vec.check_len g1
  exact ⟨⟨by omega, fun y hy => Nat.le_trans (this.2 y hy) (by decide), h.2 x hx⟩, by omega⟩
end Go.AW
/-
  Row 22: the laws about texts.
-/
namespace Go.AW
open Go Go.Proofs Go.RowKit
set_option maxHeartbeats 4000000
set_option maxRecDepth 10000
set_option linter.unusedSimpArgs false
set_option linter.unusedVariables false
attribute [local irreducible] thenQ blockQ RetQ AL AW AC AOp

theorem Ring.fits_of {l : Ring} (h : gring l) : l.fits := by
  obtain ⟨h1, h2⟩ := Ring.check_parts h.1
  exact ⟨by omega, fun x hx => ⟨h.2 x hx, by have := (h2 x hx).1; omega, by have := (h2 x hx).2.2.2.2.1; omega⟩⟩
theorem Ring.fits_nil : Ring.fits [] := ⟨by decide, fun x hx => (List.not_mem_nil hx).elim⟩
end Go.AW
