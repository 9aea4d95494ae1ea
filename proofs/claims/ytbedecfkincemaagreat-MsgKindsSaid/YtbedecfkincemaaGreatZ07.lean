/-
  rings that are the same; great ones.
-/
import Derived.Test.YtbedecfkincemaaGreatZ06
import Derived.Test.YtbedecfkincemaaGreatZ05
import Derived.Test.YtbedecfkincemaaGreatZ04
import Derived.Test.YtbedecfkincemaaGreatZ02
namespace Go.AW
open Go Go.Proofs
set_option maxHeartbeats 4000000
set_option maxRecDepth 10000
set_option linter.unusedSimpArgs false
set_option linter.unusedVariables false
attribute [local irreducible] thenQ blockQ RetQ AL AW AC AOp

deriving instance DecidableEq for Mb
theorem mb_dec (x y : Mb) : decide (x = y) = (decide (x.name = y.name) && (decide ((x.ep : Int) = y.ep) && (decide ((x.st : Int) = y.st) && decide (x.toks = y.toks)))) := by
  obtain ⟨a, b, c, d⟩ := x
  obtain ⟨a', b', c', d'⟩ := y
  by_cases h1 : a = a' <;> by_cases h2 : b = b' <;> by_cases h3 : c = c' <;> by_cases h4 : d = d' <;> simp [h1, h2, h3, h4, Int.natCast_inj]
theorem ref22_Same (v w : Ring) (hv : v.length ≤ 9223372036854775807) (hf : ∀ x ∈ v, x.toks.length ≤ 9223372036854775807) : AC Tryz.prog 71 [.d (.l v.length (ringD v)), .d (.l w.length (ringD w))] [] fun x σ => x = bv (decide (v = w)) ∧ σ = [] := by
  refine AC.walk Tryz.func71 rfl (by decide) (of_decide_eq_true rfl) ?_
  by_cases hl : v.length = w.length
  case neg =>
    have hc : decide (v = w) = false := by simp; rintro rfl; exact hl rfl
    focus (have kxs := hc; (repeat' (first | (refine ADr.nil ?_; try clear hgv) | refine GO ?_ | refine AW.ret ?_ | (refine GC ?_ ?_ <;> intro h <;> (try simp only [hsB] at h) <;> try (exfalso; first | omega | contradiction)) | (refine GD ?_ ?_ <;> intro h <;> (try intro hgv) <;> (try simp only [Bool.not_true, Bool.not_false] at h) <;> (try simp only [h]) <;> (try simp only [hsB] at h) <;> try (exfalso; first | omega | contradiction)) | (refine GL ?_ ?_ <;> intro h <;> (try simp only [Bool.not_true, Bool.not_false] at h) <;> (try simp only [h]) <;> (try simp only [hsB] at h) <;> try (exfalso; first | omega | contradiction)) | fail)); all_goals clear kxs)
    all_goals first | (exfalso; omega) | ((all_goals have kxf := hc; first | exact RetQ.xr 0 | exact RetQ.xn 0 | fail); done)
  focus (have kxs : 987654321 = 987654320 + 1 := rfl; (repeat' (first | (refine ADr.nil ?_; try clear hgv) | refine GO ?_ | refine AW.ret ?_ | (refine GC ?_ ?_ <;> intro h <;> (try simp only [hsB] at h) <;> try (exfalso; first | omega | contradiction)) | (refine GD ?_ ?_ <;> intro h <;> (try intro hgv) <;> (try simp only [Bool.not_true, Bool.not_false] at h) <;> (try simp only [h]) <;> (try simp only [hsB] at h) <;> try (exfalso; first | omega | contradiction)) | (refine GL ?_ ?_ <;> intro h <;> (try simp only [Bool.not_true, Bool.not_false] at h) <;> (try simp only [h]) <;> (try simp only [hsB] at h) <;> try (exfalso; first | omega | contradiction)) | fail)); all_goals clear kxs)
  all_goals first | (exfalso; omega) | skip
  refine AW.rounds [0, 1, 4, 5] (fun i : Nat => [(0, .d (.l v.length (ringD v))), (1, .d (.l w.length (ringD w))), (4, bv false), (5, iv .i64 i)]) (fun _ => [])
    (fun i => i ≤ v.length ∧ (v = w ↔ v.drop i = w.drop i)) (fun i => v.length - i) 0 ⟨Nat.zero_le _, by simp⟩ rfl rfl (fun _ _ => Nat.zero_le _) (fun _ _ => rfl) (fun _ _ => rfl) ?_
  rintro i ⟨hi, hr⟩ J hJ
  by_cases hil : i < v.length
  case neg =>
    have hc : decide (v = w) = true := by
      simp only [decide_eq_true_eq]
      rw [hr, List.drop_eq_nil_of_le (by omega), List.drop_eq_nil_of_le (by omega)]
    rw [hc]
    focus (have kxs : 987654321 = 987654320 + 1 := rfl; (repeat' (first | (refine ADr.nil ?_; try clear hgv) | refine GO ?_ | refine AW.ret ?_ | (refine GC ?_ ?_ <;> intro h <;> (try simp only [hsB] at h) <;> try (exfalso; first | omega | contradiction)) | (refine GD ?_ ?_ <;> intro h <;> (try intro hgv) <;> (try simp only [Bool.not_true, Bool.not_false] at h) <;> (try simp only [h]) <;> (try simp only [hsB] at h) <;> try (exfalso; first | omega | contradiction)) | (refine GL ?_ ?_ <;> intro h <;> (try simp only [Bool.not_true, Bool.not_false] at h) <;> (try simp only [h]) <;> (try simp only [hsB] at h) <;> try (exfalso; first | omega | contradiction)) | fail)); all_goals clear kxs)
    all_goals first | ((all_goals first | exact RetQ.fr 0 | exact RetQ.fn 0 | fail); done) | (exfalso; omega) | (exfalso; simp_all; done)
  obtain ⟨x, r, hd⟩ := next_at hil
  obtain ⟨y, s, he⟩ := next_at (l := w) (i := i) (by omega)
  have hcd := ring_drop hd
  have hce := ring_drop he
  have hfx := hf x (next_mem hd)
  have hno : ¬ x = y → decide (v = w) = false := fun hxy => by
    simp only [decide_eq_false_iff_not]
    rw [hr, hd, he]
    intro e
    exact hxy (List.cons.inj e).1
  by_cases e1 : x.name = y.name
  case neg =>
    have d1 : decide (x.name = y.name) = false := decide_eq_false e1
    rw [hno fun h => e1 (by rw [h])]
    focus (have kxs := And.intro hcd (And.intro hce d1); (repeat' (first | (refine ADr.nil ?_; try clear hgv) | refine GO ?_ | refine AW.ret ?_ | (refine GC ?_ ?_ <;> intro h <;> (try simp only [hsB] at h) <;> try (exfalso; first | omega | contradiction)) | (refine GD ?_ ?_ <;> intro h <;> (try intro hgv) <;> (try simp only [Bool.not_true, Bool.not_false] at h) <;> (try simp only [h]) <;> (try simp only [hsB] at h) <;> try (exfalso; first | omega | contradiction)) | (refine GL ?_ ?_ <;> intro h <;> (try simp only [Bool.not_true, Bool.not_false] at h) <;> (try simp only [h]) <;> (try simp only [hsB] at h) <;> try (exfalso; first | omega | contradiction)) | fail)); all_goals clear kxs)
    all_goals first | ((all_goals first | exact RetQ.fr 0 | exact RetQ.fn 0 | fail); done) | (exfalso; omega) | (exfalso; simp_all; done)
  have d1 : decide (x.name = y.name) = true := decide_eq_true e1
  by_cases e2 : (x.ep : Int) = y.ep
  case neg =>
    have d2 : decide ((x.ep : Int) = y.ep) = false := decide_eq_false e2
    rw [hno fun h => e2 (by rw [h])]
    focus (have kxs := And.intro hcd (And.intro hce (And.intro d1 d2)); (repeat' (first | (refine ADr.nil ?_; try clear hgv) | refine GO ?_ | refine AW.ret ?_ | (refine GC ?_ ?_ <;> intro h <;> (try simp only [hsB] at h) <;> try (exfalso; first | omega | contradiction)) | (refine GD ?_ ?_ <;> intro h <;> (try intro hgv) <;> (try simp only [Bool.not_true, Bool.not_false] at h) <;> (try simp only [h]) <;> (try simp only [hsB] at h) <;> try (exfalso; first | omega | contradiction)) | (refine GL ?_ ?_ <;> intro h <;> (try simp only [Bool.not_true, Bool.not_false] at h) <;> (try simp only [h]) <;> (try simp only [hsB] at h) <;> try (exfalso; first | omega | contradiction)) | fail)); all_goals clear kxs)
    all_goals first | ((all_goals first | exact RetQ.fr 0 | exact RetQ.fn 0 | fail); done) | (exfalso; omega) | (exfalso; simp_all; done)
  have d2 : decide ((x.ep : Int) = y.ep) = true := decide_eq_true e2
  by_cases e3 : (x.st : Int) = y.st
  case neg =>
    have d3 : decide ((x.st : Int) = y.st) = false := decide_eq_false e3
    rw [hno fun h => e3 (by rw [h])]
    focus (have kxs := And.intro hcd (And.intro hce (And.intro d1 (And.intro d2 d3))); (repeat' (first | (refine ADr.nil ?_; try clear hgv) | refine GO ?_ | refine AW.ret ?_ | (refine GC ?_ ?_ <;> intro h <;> (try simp only [hsB] at h) <;> try (exfalso; first | omega | contradiction)) | (refine GD ?_ ?_ <;> intro h <;> (try intro hgv) <;> (try simp only [Bool.not_true, Bool.not_false] at h) <;> (try simp only [h]) <;> (try simp only [hsB] at h) <;> try (exfalso; first | omega | contradiction)) | (refine GL ?_ ?_ <;> intro h <;> (try simp only [Bool.not_true, Bool.not_false] at h) <;> (try simp only [h]) <;> (try simp only [hsB] at h) <;> try (exfalso; first | omega | contradiction)) | fail)); all_goals clear kxs)
    all_goals first | ((all_goals first | exact RetQ.fr 0 | exact RetQ.fn 0 | fail); done) | (exfalso; omega) | (exfalso; simp_all; done)
  have d3 : decide ((x.st : Int) = y.st) = true := decide_eq_true e3
  by_cases e4 : x.toks.length = y.toks.length
  case neg =>
    have d4 : decide ((x.toks.length : Int) = y.toks.length) = false := decide_eq_false (by omega)
    rw [hno fun h => e4 (by rw [h])]
    focus (have kxs := And.intro hcd (And.intro hce (And.intro d1 (And.intro d2 (And.intro d3 d4)))); (repeat' (first | (refine ADr.nil ?_; try clear hgv) | refine GO ?_ | refine AW.ret ?_ | (refine GC ?_ ?_ <;> intro h <;> (try simp only [hsB] at h) <;> try (exfalso; first | omega | contradiction)) | (refine GD ?_ ?_ <;> intro h <;> (try intro hgv) <;> (try simp only [Bool.not_true, Bool.not_false] at h) <;> (try simp only [h]) <;> (try simp only [hsB] at h) <;> try (exfalso; first | omega | contradiction)) | (refine GL ?_ ?_ <;> intro h <;> (try simp only [Bool.not_true, Bool.not_false] at h) <;> (try simp only [h]) <;> (try simp only [hsB] at h) <;> try (exfalso; first | omega | contradiction)) | fail)); all_goals clear kxs)
    all_goals first | ((all_goals first | exact RetQ.fr 0 | exact RetQ.fn 0 | fail); done) | (exfalso; omega) | (exfalso; simp_all; done)
  have d4 : decide ((x.toks.length : Int) = y.toks.length) = true := decide_eq_true (by omega)
  have hxy : x = y ↔ x.toks = y.toks := ⟨fun h => by rw [h], fun h => of_decide_eq_true (by rw [mb_dec, d1, d2, d3, decide_eq_true h]; rfl)⟩
  have go : x = y → ∀ T' σ', keepT T' [0, 1, 4, 5] = [(0, .d (.l v.length (ringD v))), (1, .d (.l w.length (ringD w))), (4, bv false), (5, iv .i64 ((i : Int) + 1))] → J T' σ' := fun h T' σ' g1 =>
    hJ (i + 1) T' σ' (by omega) ⟨hil, by rw [hr, next_drop hd, next_drop he, hd, he, h]; simp⟩ g1 rfl
  clear hJ hr
  focus (have kxs := And.intro hcd (And.intro hce (And.intro d1 (And.intro d2 (And.intro d3 d4)))); (repeat' (first | (refine ADr.nil ?_; try clear hgv) | refine GO ?_ | refine AW.ret ?_ | (refine GC ?_ ?_ <;> intro h <;> (try simp only [hsB] at h) <;> try (exfalso; first | omega | contradiction)) | (refine GD ?_ ?_ <;> intro h <;> (try intro hgv) <;> (try simp only [Bool.not_true, Bool.not_false] at h) <;> (try simp only [h]) <;> (try simp only [hsB] at h) <;> try (exfalso; first | omega | contradiction)) | (refine GL ?_ ?_ <;> intro h <;> (try simp only [Bool.not_true, Bool.not_false] at h) <;> (try simp only [h]) <;> (try simp only [hsB] at h) <;> try (exfalso; first | omega | contradiction)) | fail)); all_goals clear kxs)
  all_goals first | (exfalso; omega) | (exfalso; simp_all; done) | skip
  refine AW.rounds [0, 1, 4, 5, 6] (fun j : Nat => [(0, .d (.l v.length (ringD v))), (1, .d (.l w.length (ringD w))), (4, bv false), (5, iv .i64 i), (6, iv .i64 j)]) (fun _ => [])
    (fun j => j ≤ x.toks.length ∧ (x.toks = y.toks ↔ x.toks.drop j = y.toks.drop j)) (fun j => x.toks.length - j) 0 ⟨Nat.zero_le _, by simp⟩ rfl rfl (fun _ _ => Nat.zero_le _) (fun _ _ => rfl) (fun _ _ => rfl) ?_
  rintro j ⟨hj, hq⟩ J2 hJ2
  by_cases hjl : j < x.toks.length
  case neg =>
    have hh := go (hxy.2 (by rw [hq, List.drop_eq_nil_of_le (by omega), List.drop_eq_nil_of_le (by omega)]))
    clear hJ2 hq go
    focus (have kxs := And.intro hcd hce; (repeat' (first | (refine ADr.nil ?_; try clear hgv) | refine GO ?_ | refine AW.ret ?_ | (refine GC ?_ ?_ <;> intro h <;> (try simp only [hsB] at h) <;> try (exfalso; first | omega | contradiction)) | (refine GD ?_ ?_ <;> intro h <;> (try intro hgv) <;> (try simp only [Bool.not_true, Bool.not_false] at h) <;> (try simp only [h]) <;> (try simp only [hsB] at h) <;> try (exfalso; first | omega | contradiction)) | (refine GL ?_ ?_ <;> intro h <;> (try simp only [Bool.not_true, Bool.not_false] at h) <;> (try simp only [h]) <;> (try simp only [hsB] at h) <;> try (exfalso; first | omega | contradiction)) | fail)); all_goals clear kxs)
    all_goals first | exact hh _ _ rfl | (exfalso; omega) | (exfalso; simp_all; done)
  obtain ⟨t, r2, hd2⟩ := next_at hjl
  obtain ⟨u, s2, he2⟩ := next_at (l := y.toks) (i := j) (by omega)
  have hcd2 := toks_drop hd2
  have hce2 := toks_drop he2
  by_cases htu : t = u
  · have hq2 : x.toks = y.toks ↔ x.toks.drop (j + 1) = y.toks.drop (j + 1) := by
      rw [hq, next_drop hd2, next_drop he2, hd2, he2, htu]; simp
    subst htu
    clear hq go
    focus (have kxs := And.intro hcd (And.intro hce (And.intro hcd2 (And.intro hce2 @Nat.mul_one))); (repeat' (first | (refine ADr.nil ?_; try clear hgv) | refine GO ?_ | refine AW.ret ?_ | (refine GC ?_ ?_ <;> intro h <;> (try simp only [hsB] at h) <;> try (exfalso; first | omega | contradiction)) | (refine GD ?_ ?_ <;> intro h <;> (try intro hgv) <;> (try simp only [Bool.not_true, Bool.not_false] at h) <;> (try simp only [h]) <;> (try simp only [hsB] at h) <;> try (exfalso; first | omega | contradiction)) | (refine GL ?_ ?_ <;> intro h <;> (try simp only [Bool.not_true, Bool.not_false] at h) <;> (try simp only [h]) <;> (try simp only [hsB] at h) <;> try (exfalso; first | omega | contradiction)) | fail)); all_goals clear kxs)
    all_goals first | (exact hJ2 (j + 1) _ _ (by omega) ⟨hjl, hq2⟩ rfl rfl) | (exfalso; omega) | (exfalso; simp_all; done)
  · have hc := hno fun h => htu (by
      have := hq.1 (hxy.1 h)
      rw [hd2, he2] at this
      exact (List.cons.inj this).1)
    rw [hc]
    have hti : ¬ (t : Int) = u := by omega
    clear hq go hJ2
    focus (have kxs := And.intro hcd (And.intro hce (And.intro hcd2 (And.intro hce2 @Nat.mul_one))); (repeat' (first | (refine ADr.nil ?_; try clear hgv) | refine GO ?_ | refine AW.ret ?_ | (refine GC ?_ ?_ <;> intro h <;> (try simp only [hsB] at h) <;> try (exfalso; first | omega | contradiction)) | (refine GD ?_ ?_ <;> intro h <;> (try intro hgv) <;> (try simp only [Bool.not_true, Bool.not_false] at h) <;> (try simp only [h]) <;> (try simp only [hsB] at h) <;> try (exfalso; first | omega | contradiction)) | (refine GL ?_ ?_ <;> intro h <;> (try simp only [Bool.not_true, Bool.not_false] at h) <;> (try simp only [h]) <;> (try simp only [hsB] at h) <;> try (exfalso; first | omega | contradiction)) | fail)); all_goals clear kxs)
    all_goals first | ((all_goals first | exact RetQ.fr 0 | exact RetQ.fn 0 | fail); done) | (exfalso; omega) | (exfalso; simp_all; done)
end Go.AW
/-
  old objects that are written: the program's and the document's.
-/
namespace Go.AW
open Go Go.Proofs
set_option maxHeartbeats 2000000
set_option maxRecDepth 10000
set_option linter.unusedSimpArgs false
set_option linter.unusedVariables false
attribute [local irreducible] thenQ blockQ RetQ AL AW AC AOp

end Go.AW
/-
  old objects: the document's: what is right, what is written.
-/
namespace Go.AW
open Go Go.Proofs
set_option maxHeartbeats 2000000
set_option maxRecDepth 10000
set_option linter.unusedSimpArgs false
set_option linter.unusedVariables false
attribute [local irreducible] thenQ blockQ RetQ AL AW AC AOp

end Go.AW
/-
  objects that are read: the program's.
-/
namespace Go.AW
open Go Go.Proofs
set_option maxHeartbeats 2000000
set_option maxRecDepth 10000
set_option linter.unusedSimpArgs false
set_option linter.unusedVariables false
attribute [local irreducible] thenQ blockQ RetQ AL AW AC AOp

abbrev jnext (_ : List UInt8) (x : Sb) : List UInt8 := eclk x.clk
/-- The sibling ahead, of a list that is being read. -/
def Slast (l : List Sb) (p : List UInt8) : Prop := (l = [] ∧ p = []) ∨ (0 < l.length ∧ ∃ y r, l.drop (l.length - 1) = y :: r ∧ gsib y ∧ skey y = p)
abbrev Jfam := Fam Cu.os2 jnext
end Go.AW
/-
  right pages: the program's and the document's.
-/
namespace Go.AW
open Go Go.Proofs
set_option maxHeartbeats 2000000
set_option maxRecDepth 10000
set_option linter.unusedSimpArgs false
set_option linter.unusedVariables false
attribute [local irreducible] thenQ blockQ RetQ AL AW AC AOp

/-- What is left of a page's items and slots to be looked at. -/
def Pg.rest (g : Pg) : Int := if itcheck g.pre none g.items ≠ 0 then itcheck g.pre none g.items else slcheck none g.slots
def sl1 (p : Option Nat) (x : Sl) : Int := if after p x.1 = false then 6 else if x.2.length ≠ 32 then 1 else 0
end Go.AW
/-
  right pages: the document's.
-/
namespace Go.AW
open Go Go.Proofs
set_option maxHeartbeats 2000000
set_option maxRecDepth 10000
set_option linter.unusedSimpArgs false
set_option linter.unusedVariables false
attribute [local irreducible] thenQ blockQ RetQ AL AW AC AOp

end Go.AW
/-
  a message's parts: how they are made, and checked.
-/
namespace Go.AW
open Go Go.Proofs
set_option maxHeartbeats 4000000
set_option maxRecDepth 10000
set_option linter.unusedSimpArgs false
set_option linter.unusedVariables false
attribute [local irreducible] thenQ blockQ RetQ AL AW AC AOp

theorem of_Key (cs : List V) (hcs : lts 1 cs = true) : AC Tryz.prog 150 [.p 0 0] [.box 38 cs] fun y σ => y = .p 0 2 ∧ σ = [.box 38 cs] := by
  refine AC.walk Tryz.func150 rfl (by decide) (of_decide_eq_true rfl) ?_
  focus (have kxs : 987654321 = 987654320 + 1 := rfl; (repeat' (first | refine G ?_ | refine AW.ret ?_ | (refine GC ?_ ?_ <;> intro h <;> (try simp only [hsB] at h) <;> try (exfalso; first | omega | contradiction)) | (refine GL ?_ ?_ <;> intro h <;> (try simp only [Bool.not_true, Bool.not_false] at h) <;> (try simp only [h]) <;> (try simp only [hsB] at h) <;> try (exfalso; first | omega | contradiction)) | fail)); all_goals clear kxs)
  all_goals exact RetQ.fr 1 (h3 := by show (lts 1 cs && true) = true; rw [hcs]; rfl)
theorem msg_text (n : Int) (b : Bool) (k : FuncId) : AC Tryz.prog 149 [iv .i64 n, bv b, .f (.func k) [] []] [] fun y σ => y = .a [.f (.func 214) [] [.p 1 0, .p 2 0, .p 0 0], .f (.func 216) [] [.p 0 0, .p 2 0], .f (.func 218) [] [.p 0 0, .p 2 0, .p 1 0], .f (.func 220) [] [.p 2 0]] ∧ σ = [.box 3 [iv .i64 n], .box 4 [bv b], .box 231 [.f (.func k) [] []]] := by
  refine AC.walk Tryz.func149 rfl (by decide) (of_decide_eq_true rfl) ?_
  focus (have kxs : 987654321 = 987654320 + 1 := rfl; (repeat' (first | refine G ?_ | refine AW.ret ?_ | (refine GC ?_ ?_ <;> intro h <;> (try simp only [hsB] at h) <;> try (exfalso; first | omega | contradiction)) | (refine GL ?_ ?_ <;> intro h <;> (try simp only [Bool.not_true, Bool.not_false] at h) <;> (try simp only [h]) <;> (try simp only [hsB] at h) <;> try (exfalso; first | omega | contradiction)) | fail)); all_goals clear kxs)
  all_goals first | (((all_goals first | refine RetQ.r 3 (xs := [.a [.f (.func 214) [] [.p 1 0, .p 2 0, .p 0 0], .f (.func 216) [] [.p 0 0, .p 2 0], .f (.func 218) [] [.p 0 0, .p 2 0, .p 1 0], .f (.func 220) [] [.p 2 0]]]) rfl (Nat.le_of_ble_eq_true rfl) rfl (by first | rfl | (simp only [go_sem, ↓reduceIte, Nat.reduceLT, Nat.lt_irrefl])) ⟨?_, ?_⟩ | refine RetQ.n 3 (xs := [.a [.f (.func 214) [] [.p 1 0, .p 2 0, .p 0 0], .f (.func 216) [] [.p 0 0, .p 2 0], .f (.func 218) [] [.p 0 0, .p 2 0, .p 1 0], .f (.func 220) [] [.p 2 0]]]) rfl (Nat.le_of_ble_eq_true rfl) rfl (by first | rfl | (simp only [go_sem, ↓reduceIte, Nat.reduceLT, Nat.lt_irrefl])) ⟨?_, ?_⟩); (all_goals first | rfl | (simp [*]; done) | ((simp only [go_sem, ↓reduceIte, Nat.reduceLT]; (repeat' split)) <;> first | rfl | (exfalso; omega) | (simp_all; done) | (simp_all; omega)))); done) | (exfalso; omega) | (exfalso; simp_all; done)
theorem msg_flag (k : FuncId) : AC Tryz.prog 151 [.f (.func k) [] []] [] fun y σ => y = .a [.f (.func 221) [] [], .f (.func 222) [] [.p 0 0], .f (.func 224) [] [.p 0 0], .f (.func 225) [] [.p 0 0]] ∧ σ = [.box 234 [.f (.func k) [] []]] := by
  refine AC.walk Tryz.func151 rfl (by decide) (of_decide_eq_true rfl) ?_
  focus (have kxs : 987654321 = 987654320 + 1 := rfl; (repeat' (first | refine G ?_ | refine AW.ret ?_ | (refine GC ?_ ?_ <;> intro h <;> (try simp only [hsB] at h) <;> try (exfalso; first | omega | contradiction)) | (refine GL ?_ ?_ <;> intro h <;> (try simp only [Bool.not_true, Bool.not_false] at h) <;> (try simp only [h]) <;> (try simp only [hsB] at h) <;> try (exfalso; first | omega | contradiction)) | fail)); all_goals clear kxs)
  all_goals first | (((all_goals first | refine RetQ.r 1 (xs := [.a [.f (.func 221) [] [], .f (.func 222) [] [.p 0 0], .f (.func 224) [] [.p 0 0], .f (.func 225) [] [.p 0 0]]]) rfl (Nat.le_of_ble_eq_true rfl) rfl (by first | rfl | (simp only [go_sem, ↓reduceIte, Nat.reduceLT, Nat.lt_irrefl])) ⟨?_, ?_⟩ | refine RetQ.n 1 (xs := [.a [.f (.func 221) [] [], .f (.func 222) [] [.p 0 0], .f (.func 224) [] [.p 0 0], .f (.func 225) [] [.p 0 0]]]) rfl (Nat.le_of_ble_eq_true rfl) rfl (by first | rfl | (simp only [go_sem, ↓reduceIte, Nat.reduceLT, Nat.lt_irrefl])) ⟨?_, ?_⟩); (all_goals first | rfl | (simp [*]; done) | ((simp only [go_sem, ↓reduceIte, Nat.reduceLT]; (repeat' split)) <;> first | rfl | (exfalso; omega) | (simp_all; done) | (simp_all; omega)))); done) | (exfalso; omega) | (exfalso; simp_all; done)
theorem msg_objectPart : AC Tryz.prog 156 [] [] fun y σ => y = .a [.f (.func 239) [] [], .f (.func 241) [] [], .f (.func 243) [] [], .f (.func 245) [] []] ∧ σ = [] := by
  refine AC.walk Tryz.func156 rfl (by decide) (of_decide_eq_true rfl) ?_
  focus (have kxs : 987654321 = 987654320 + 1 := rfl; (repeat' (first | refine G ?_ | refine AW.ret ?_ | (refine GC ?_ ?_ <;> intro h <;> (try simp only [hsB] at h) <;> try (exfalso; first | omega | contradiction)) | (refine GL ?_ ?_ <;> intro h <;> (try simp only [Bool.not_true, Bool.not_false] at h) <;> (try simp only [h]) <;> (try simp only [hsB] at h) <;> try (exfalso; first | omega | contradiction)) | fail)); all_goals clear kxs)
  all_goals first | (((all_goals first | refine RetQ.r 0 (xs := [.a [.f (.func 239) [] [], .f (.func 241) [] [], .f (.func 243) [] [], .f (.func 245) [] []]]) rfl (Nat.le_of_ble_eq_true rfl) rfl (by first | rfl | (simp only [go_sem, ↓reduceIte, Nat.reduceLT, Nat.lt_irrefl])) ⟨?_, ?_⟩ | refine RetQ.n 0 (xs := [.a [.f (.func 239) [] [], .f (.func 241) [] [], .f (.func 243) [] [], .f (.func 245) [] []]]) rfl (Nat.le_of_ble_eq_true rfl) rfl (by first | rfl | (simp only [go_sem, ↓reduceIte, Nat.reduceLT, Nat.lt_irrefl])) ⟨?_, ?_⟩); (all_goals first | rfl | (simp [*]; done) | ((simp only [go_sem, ↓reduceIte, Nat.reduceLT]; (repeat' split)) <;> first | rfl | (exfalso; omega) | (simp_all; done) | (simp_all; omega)))); done) | (exfalso; omega) | (exfalso; simp_all; done)
theorem msg_oldPart : AC Tryz.prog 155 [] [] fun y σ => y = .a [.f (.func 230) [] [], .f (.func 232) [] [], .f (.func 235) [] [], .f (.func 237) [] []] ∧ σ = [] := by
  refine AC.walk Tryz.func155 rfl (by decide) (of_decide_eq_true rfl) ?_
  focus (have kxs : 987654321 = 987654320 + 1 := rfl; (repeat' (first | refine G ?_ | refine AW.ret ?_ | (refine GC ?_ ?_ <;> intro h <;> (try simp only [hsB] at h) <;> try (exfalso; first | omega | contradiction)) | (refine GL ?_ ?_ <;> intro h <;> (try simp only [Bool.not_true, Bool.not_false] at h) <;> (try simp only [h]) <;> (try simp only [hsB] at h) <;> try (exfalso; first | omega | contradiction)) | fail)); all_goals clear kxs)
  all_goals first | (((all_goals first | refine RetQ.r 0 (xs := [.a [.f (.func 230) [] [], .f (.func 232) [] [], .f (.func 235) [] [], .f (.func 237) [] []]]) rfl (Nat.le_of_ble_eq_true rfl) rfl (by first | rfl | (simp only [go_sem, ↓reduceIte, Nat.reduceLT, Nat.lt_irrefl])) ⟨?_, ?_⟩ | refine RetQ.n 0 (xs := [.a [.f (.func 230) [] [], .f (.func 232) [] [], .f (.func 235) [] [], .f (.func 237) [] []]]) rfl (Nat.le_of_ble_eq_true rfl) rfl (by first | rfl | (simp only [go_sem, ↓reduceIte, Nat.reduceLT, Nat.lt_irrefl])) ⟨?_, ?_⟩); (all_goals first | rfl | (simp [*]; done) | ((simp only [go_sem, ↓reduceIte, Nat.reduceLT]; (repeat' split)) <;> first | rfl | (exfalso; omega) | (simp_all; done) | (simp_all; omega)))); done) | (exfalso; omega) | (exfalso; simp_all; done)
theorem msg_ctxPart : AC Tryz.prog 159 [] [] fun y σ => y = .a [.f (.func 252) [] [], .f (.func 254) [] [], .f (.func 256) [] [], .f (.func 257) [] []] ∧ σ = [] := by
  refine AC.walk Tryz.func159 rfl (by decide) (of_decide_eq_true rfl) ?_
  focus (have kxs : 987654321 = 987654320 + 1 := rfl; (repeat' (first | refine G ?_ | refine AW.ret ?_ | (refine GC ?_ ?_ <;> intro h <;> (try simp only [hsB] at h) <;> try (exfalso; first | omega | contradiction)) | (refine GL ?_ ?_ <;> intro h <;> (try simp only [Bool.not_true, Bool.not_false] at h) <;> (try simp only [h]) <;> (try simp only [hsB] at h) <;> try (exfalso; first | omega | contradiction)) | fail)); all_goals clear kxs)
  all_goals first | (((all_goals first | refine RetQ.r 0 (xs := [.a [.f (.func 252) [] [], .f (.func 254) [] [], .f (.func 256) [] [], .f (.func 257) [] []]]) rfl (Nat.le_of_ble_eq_true rfl) rfl (by first | rfl | (simp only [go_sem, ↓reduceIte, Nat.reduceLT, Nat.lt_irrefl])) ⟨?_, ?_⟩ | refine RetQ.n 0 (xs := [.a [.f (.func 252) [] [], .f (.func 254) [] [], .f (.func 256) [] [], .f (.func 257) [] []]]) rfl (Nat.le_of_ble_eq_true rfl) rfl (by first | rfl | (simp only [go_sem, ↓reduceIte, Nat.reduceLT, Nat.lt_irrefl])) ⟨?_, ?_⟩); (all_goals first | rfl | (simp [*]; done) | ((simp only [go_sem, ↓reduceIte, Nat.reduceLT]; (repeat' split)) <;> first | rfl | (exfalso; omega) | (simp_all; done) | (simp_all; omega)))); done) | (exfalso; omega) | (exfalso; simp_all; done)
theorem msg_metaPart : AC Tryz.prog 160 [] [] fun y σ => y = .a [.f (.func 258) [] [], .f (.func 260) [] [], .f (.func 262) [] [], .f (.func 263) [] []] ∧ σ = [] := by
  refine AC.walk Tryz.func160 rfl (by decide) (of_decide_eq_true rfl) ?_
  focus (have kxs : 987654321 = 987654320 + 1 := rfl; (repeat' (first | refine G ?_ | refine AW.ret ?_ | (refine GC ?_ ?_ <;> intro h <;> (try simp only [hsB] at h) <;> try (exfalso; first | omega | contradiction)) | (refine GL ?_ ?_ <;> intro h <;> (try simp only [Bool.not_true, Bool.not_false] at h) <;> (try simp only [h]) <;> (try simp only [hsB] at h) <;> try (exfalso; first | omega | contradiction)) | fail)); all_goals clear kxs)
  all_goals first | (((all_goals first | refine RetQ.r 0 (xs := [.a [.f (.func 258) [] [], .f (.func 260) [] [], .f (.func 262) [] [], .f (.func 263) [] []]]) rfl (Nat.le_of_ble_eq_true rfl) rfl (by first | rfl | (simp only [go_sem, ↓reduceIte, Nat.reduceLT, Nat.lt_irrefl])) ⟨?_, ?_⟩ | refine RetQ.n 0 (xs := [.a [.f (.func 258) [] [], .f (.func 260) [] [], .f (.func 262) [] [], .f (.func 263) [] []]]) rfl (Nat.le_of_ble_eq_true rfl) rfl (by first | rfl | (simp only [go_sem, ↓reduceIte, Nat.reduceLT, Nat.lt_irrefl])) ⟨?_, ?_⟩); (all_goals first | rfl | (simp [*]; done) | ((simp only [go_sem, ↓reduceIte, Nat.reduceLT]; (repeat' split)) <;> first | rfl | (exfalso; omega) | (simp_all; done) | (simp_all; omega)))); done) | (exfalso; omega) | (exfalso; simp_all; done)
theorem msg_pagePart : AC Tryz.prog 163 [] [] fun y σ => y = .a [.f (.func 265) [] [], .f (.func 267) [] [], .f (.func 269) [] [], .f (.func 270) [] []] ∧ σ = [] := by
  refine AC.walk Tryz.func163 rfl (by decide) (of_decide_eq_true rfl) ?_
  focus (have kxs : 987654321 = 987654320 + 1 := rfl; (repeat' (first | refine G ?_ | refine AW.ret ?_ | (refine GC ?_ ?_ <;> intro h <;> (try simp only [hsB] at h) <;> try (exfalso; first | omega | contradiction)) | (refine GL ?_ ?_ <;> intro h <;> (try simp only [Bool.not_true, Bool.not_false] at h) <;> (try simp only [h]) <;> (try simp only [hsB] at h) <;> try (exfalso; first | omega | contradiction)) | fail)); all_goals clear kxs)
  all_goals first | (((all_goals first | refine RetQ.r 0 (xs := [.a [.f (.func 265) [] [], .f (.func 267) [] [], .f (.func 269) [] [], .f (.func 270) [] []]]) rfl (Nat.le_of_ble_eq_true rfl) rfl (by first | rfl | (simp only [go_sem, ↓reduceIte, Nat.reduceLT, Nat.lt_irrefl])) ⟨?_, ?_⟩ | refine RetQ.n 0 (xs := [.a [.f (.func 265) [] [], .f (.func 267) [] [], .f (.func 269) [] [], .f (.func 270) [] []]]) rfl (Nat.le_of_ble_eq_true rfl) rfl (by first | rfl | (simp only [go_sem, ↓reduceIte, Nat.reduceLT, Nat.lt_irrefl])) ⟨?_, ?_⟩); (all_goals first | rfl | (simp [*]; done) | ((simp only [go_sem, ↓reduceIte, Nat.reduceLT]; (repeat' split)) <;> first | rfl | (exfalso; omega) | (simp_all; done) | (simp_all; omega)))); done) | (exfalso; omega) | (exfalso; simp_all; done)
theorem msg_ringPart : AC Tryz.prog 164 [] [] fun y σ => y = .a [.f (.func 273) [] [], .f (.func 275) [] [], .f (.func 278) [] [], .f (.func 279) [] []] ∧ σ = [] := by
  refine AC.walk Tryz.func164 rfl (by decide) (of_decide_eq_true rfl) ?_
  focus (have kxs : 987654321 = 987654320 + 1 := rfl; (repeat' (first | refine G ?_ | refine AW.ret ?_ | (refine GC ?_ ?_ <;> intro h <;> (try simp only [hsB] at h) <;> try (exfalso; first | omega | contradiction)) | (refine GL ?_ ?_ <;> intro h <;> (try simp only [Bool.not_true, Bool.not_false] at h) <;> (try simp only [h]) <;> (try simp only [hsB] at h) <;> try (exfalso; first | omega | contradiction)) | fail)); all_goals clear kxs)
  all_goals first | (((all_goals first | refine RetQ.r 0 (xs := [.a [.f (.func 273) [] [], .f (.func 275) [] [], .f (.func 278) [] [], .f (.func 279) [] []]]) rfl (Nat.le_of_ble_eq_true rfl) rfl (by first | rfl | (simp only [go_sem, ↓reduceIte, Nat.reduceLT, Nat.lt_irrefl])) ⟨?_, ?_⟩ | refine RetQ.n 0 (xs := [.a [.f (.func 273) [] [], .f (.func 275) [] [], .f (.func 278) [] [], .f (.func 279) [] []]]) rfl (Nat.le_of_ble_eq_true rfl) rfl (by first | rfl | (simp only [go_sem, ↓reduceIte, Nat.reduceLT, Nat.lt_irrefl])) ⟨?_, ?_⟩); (all_goals first | rfl | (simp [*]; done) | ((simp only [go_sem, ↓reduceIte, Nat.reduceLT]; (repeat' split)) <;> first | rfl | (exfalso; omega) | (simp_all; done) | (simp_all; omega)))); done) | (exfalso; omega) | (exfalso; simp_all; done)
theorem msg_codePart : AC Tryz.prog 157 [] [] fun y σ => y = .a [.f (.func 247) [] [], .f (.func 248) [] [], .f (.func 250) [] [], .f (.func 251) [] []] ∧ σ = [] := by
  refine AC.walk Tryz.func157 rfl (by decide) (of_decide_eq_true rfl) ?_
  focus (have kxs : 987654321 = 987654320 + 1 := rfl; (repeat' (first | refine G ?_ | refine AW.ret ?_ | (refine GC ?_ ?_ <;> intro h <;> (try simp only [hsB] at h) <;> try (exfalso; first | omega | contradiction)) | (refine GL ?_ ?_ <;> intro h <;> (try simp only [Bool.not_true, Bool.not_false] at h) <;> (try simp only [h]) <;> (try simp only [hsB] at h) <;> try (exfalso; first | omega | contradiction)) | fail)); all_goals clear kxs)
  all_goals first | (((all_goals first | refine RetQ.r 0 (xs := [.a [.f (.func 247) [] [], .f (.func 248) [] [], .f (.func 250) [] [], .f (.func 251) [] []]]) rfl (Nat.le_of_ble_eq_true rfl) rfl (by first | rfl | (simp only [go_sem, ↓reduceIte, Nat.reduceLT, Nat.lt_irrefl])) ⟨?_, ?_⟩ | refine RetQ.n 0 (xs := [.a [.f (.func 247) [] [], .f (.func 248) [] [], .f (.func 250) [] [], .f (.func 251) [] []]]) rfl (Nat.le_of_ble_eq_true rfl) rfl (by first | rfl | (simp only [go_sem, ↓reduceIte, Nat.reduceLT, Nat.lt_irrefl])) ⟨?_, ?_⟩); (all_goals first | rfl | (simp [*]; done) | ((simp only [go_sem, ↓reduceIte, Nat.reduceLT]; (repeat' split)) <;> first | rfl | (exfalso; omega) | (simp_all; done) | (simp_all; omega)))); done) | (exfalso; omega) | (exfalso; simp_all; done)
theorem msg_found_object : AC Tryz.prog 154 [.a [.f (.func 239) [] [], .f (.func 241) [] [], .f (.func 243) [] [], .f (.func 245) [] []]] [] fun y σ => y = .a [.f (.func 226) [] [.p 0 0], .f (.func 227) [] [.p 0 0], .f (.func 228) [] [.p 0 0], .f (.func 229) [] [.p 0 0]] ∧ σ = [.box 111 [.f (.func 239) [] [], .f (.func 241) [] [], .f (.func 243) [] [], .f (.func 245) [] []]] := by
  refine AC.walk Tryz.func154 rfl (by decide) (of_decide_eq_true rfl) ?_
  focus (have kxs : 987654321 = 987654320 + 1 := rfl; (repeat' (first | refine G ?_ | refine AW.ret ?_ | (refine GC ?_ ?_ <;> intro h <;> (try simp only [hsB] at h) <;> try (exfalso; first | omega | contradiction)) | (refine GL ?_ ?_ <;> intro h <;> (try simp only [Bool.not_true, Bool.not_false] at h) <;> (try simp only [h]) <;> (try simp only [hsB] at h) <;> try (exfalso; first | omega | contradiction)) | fail)); all_goals clear kxs)
  all_goals first | (((all_goals first | refine RetQ.r 1 (xs := [.a [.f (.func 226) [] [.p 0 0], .f (.func 227) [] [.p 0 0], .f (.func 228) [] [.p 0 0], .f (.func 229) [] [.p 0 0]]]) rfl (Nat.le_of_ble_eq_true rfl) rfl (by first | rfl | (simp only [go_sem, ↓reduceIte, Nat.reduceLT, Nat.lt_irrefl])) ⟨?_, ?_⟩ | refine RetQ.n 1 (xs := [.a [.f (.func 226) [] [.p 0 0], .f (.func 227) [] [.p 0 0], .f (.func 228) [] [.p 0 0], .f (.func 229) [] [.p 0 0]]]) rfl (Nat.le_of_ble_eq_true rfl) rfl (by first | rfl | (simp only [go_sem, ↓reduceIte, Nat.reduceLT, Nat.lt_irrefl])) ⟨?_, ?_⟩); (all_goals first | rfl | (simp [*]; done) | ((simp only [go_sem, ↓reduceIte, Nat.reduceLT]; (repeat' split)) <;> first | rfl | (exfalso; omega) | (simp_all; done) | (simp_all; omega)))); done) | (exfalso; omega) | (exfalso; simp_all; done)
theorem msg_found_old : AC Tryz.prog 154 [.a [.f (.func 230) [] [], .f (.func 232) [] [], .f (.func 235) [] [], .f (.func 237) [] []]] [] fun y σ => y = .a [.f (.func 226) [] [.p 0 0], .f (.func 227) [] [.p 0 0], .f (.func 228) [] [.p 0 0], .f (.func 229) [] [.p 0 0]] ∧ σ = [.box 111 [.f (.func 230) [] [], .f (.func 232) [] [], .f (.func 235) [] [], .f (.func 237) [] []]] := by
  refine AC.walk Tryz.func154 rfl (by decide) (of_decide_eq_true rfl) ?_
  focus (have kxs : 987654321 = 987654320 + 1 := rfl; (repeat' (first | refine G ?_ | refine AW.ret ?_ | (refine GC ?_ ?_ <;> intro h <;> (try simp only [hsB] at h) <;> try (exfalso; first | omega | contradiction)) | (refine GL ?_ ?_ <;> intro h <;> (try simp only [Bool.not_true, Bool.not_false] at h) <;> (try simp only [h]) <;> (try simp only [hsB] at h) <;> try (exfalso; first | omega | contradiction)) | fail)); all_goals clear kxs)
  all_goals first | (((all_goals first | refine RetQ.r 1 (xs := [.a [.f (.func 226) [] [.p 0 0], .f (.func 227) [] [.p 0 0], .f (.func 228) [] [.p 0 0], .f (.func 229) [] [.p 0 0]]]) rfl (Nat.le_of_ble_eq_true rfl) rfl (by first | rfl | (simp only [go_sem, ↓reduceIte, Nat.reduceLT, Nat.lt_irrefl])) ⟨?_, ?_⟩ | refine RetQ.n 1 (xs := [.a [.f (.func 226) [] [.p 0 0], .f (.func 227) [] [.p 0 0], .f (.func 228) [] [.p 0 0], .f (.func 229) [] [.p 0 0]]]) rfl (Nat.le_of_ble_eq_true rfl) rfl (by first | rfl | (simp only [go_sem, ↓reduceIte, Nat.reduceLT, Nat.lt_irrefl])) ⟨?_, ?_⟩); (all_goals first | rfl | (simp [*]; done) | ((simp only [go_sem, ↓reduceIte, Nat.reduceLT]; (repeat' split)) <;> first | rfl | (exfalso; omega) | (simp_all; done) | (simp_all; omega)))); done) | (exfalso; omega) | (exfalso; simp_all; done)
theorem msg_fits (s : List UInt8) (n : Nat) (hs : s.length ≤ 9223372036854775807) (hn : n ≤ 9223372036854775807) : AC Tryz.prog 215 [sv (bs s), iv .i64 (n : Nat)] [] fun y σ => y = iv .i64 (longchk s n) ∧ σ = [] := by
  refine AC.walk Tryz.func215 rfl (by decide) (of_decide_eq_true rfl) ?_
  unfold longchk
  by_cases h : n < s.length
  · rw [if_pos h]
    focus (have kxs : 987654321 = 987654320 + 1 := rfl; (repeat' (first | refine G ?_ | refine AW.ret ?_ | (refine GC ?_ ?_ <;> intro h <;> (try simp only [hsB] at h) <;> try (exfalso; first | omega | contradiction)) | (refine GL ?_ ?_ <;> intro h <;> (try simp only [Bool.not_true, Bool.not_false] at h) <;> (try simp only [h]) <;> (try simp only [hsB] at h) <;> try (exfalso; first | omega | contradiction)) | fail)); all_goals clear kxs)
    all_goals first | ((all_goals first | exact RetQ.fr 0 | exact RetQ.fn 0 | fail); done) | (exfalso; omega) | (exfalso; simp_all; done)
  · rw [if_neg h]
    focus (have kxs : 987654321 = 987654320 + 1 := rfl; (repeat' (first | refine G ?_ | refine AW.ret ?_ | (refine GC ?_ ?_ <;> intro h <;> (try simp only [hsB] at h) <;> try (exfalso; first | omega | contradiction)) | (refine GL ?_ ?_ <;> intro h <;> (try simp only [Bool.not_true, Bool.not_false] at h) <;> (try simp only [h]) <;> (try simp only [hsB] at h) <;> try (exfalso; first | omega | contradiction)) | fail)); all_goals clear kxs)
    all_goals first | ((all_goals first | exact RetQ.fr 0 | exact RetQ.fn 0 | fail); done) | (exfalso; omega) | (exfalso; simp_all; done)
theorem check_Key (m : Mg) (hf : m.fits) : AC Tryz.prog 214 [mgV m, .p 0 0, .p 1 0, .p 2 0] [.box 4 [bv true], .box 231 [.f (.func 150) [] []], .box 3 [iv .i64 128]] fun y σ => y = iv .i64 (keychk m.key) ∧ σ = [.box 4 [bv true], .box 231 [.f (.func 150) [] []], .box 3 [iv .i64 128]] := by
  refine AC.walk Tryz.func214 rfl (by decide) (of_decide_eq_true rfl) ?_
  have hl : m.key.length ≤ 9223372036854775807 := by obtain ⟨_, _, f1, _, _, _, _, f2, f3, _, _, _, f4⟩ := hf; assumption
  have hof := of_Key (mgC m) rfl
  have hft := msg_fits m.key 128 hl (by decide)
  have hk : keychk m.key = if m.key = [] then 14 else longchk m.key 128 := by
    unfold keychk longchk
    by_cases h : m.key = []
    · rw [h]; rfl
    · rw [if_neg h, if_neg h]
  rw [hk]
  by_cases h0 : m.key = []
  · rw [if_pos h0]
    focus (have kxs := h0; have kk1 := uN [3] (hof); (repeat' (first | (refine ADr.nil ?_; try clear hgv) | refine GO ?_ | refine AW.ret ?_ | (refine GC ?_ ?_ <;> intro h <;> (try simp only [hsB] at h) <;> try (exfalso; first | omega | contradiction)) | (refine GD ?_ ?_ <;> intro h <;> (try intro hgv) <;> (try simp only [Bool.not_true, Bool.not_false] at h) <;> (try simp only [h]) <;> (try simp only [hsB] at h) <;> try (exfalso; first | omega | contradiction)) | (refine GL ?_ ?_ <;> intro h <;> (try simp only [Bool.not_true, Bool.not_false] at h) <;> (try simp only [h]) <;> (try simp only [hsB] at h) <;> try (exfalso; first | omega | contradiction)) | fail)); all_goals clear kxs kk1)
    all_goals first | ((all_goals first | exact RetQ.fr 3 | exact RetQ.fn 3 | fail); done) | (exfalso; omega) | (exfalso; simp_all; done)
  · rw [if_neg h0]
    generalize longchk m.key 128 = r at *
    focus (have kxs : 987654321 = 987654320 + 1 := rfl; have kk1 := uN [3] (hof); have kk2 := uN [] (hft); (repeat' (first | (refine ADr.nil ?_; try clear hgv) | refine GO ?_ | refine AW.ret ?_ | (refine GC ?_ ?_ <;> intro h <;> (try simp only [hsB] at h) <;> try (exfalso; first | omega | contradiction)) | (refine GD ?_ ?_ <;> intro h <;> (try intro hgv) <;> (try simp only [Bool.not_true, Bool.not_false] at h) <;> (try simp only [h]) <;> (try simp only [hsB] at h) <;> try (exfalso; first | omega | contradiction)) | (refine GL ?_ ?_ <;> intro h <;> (try simp only [Bool.not_true, Bool.not_false] at h) <;> (try simp only [h]) <;> (try simp only [hsB] at h) <;> try (exfalso; first | omega | contradiction)) | fail)); all_goals clear kxs kk1 kk2)
    all_goals first | ((all_goals first | exact RetQ.fr 3 | exact RetQ.fn 3 | fail); done) | (exfalso; omega) | (exfalso; simp_all; done)
end Go.AW
