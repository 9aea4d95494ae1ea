/-
  Row 23: the laws about payloads.
-/
import Derived.Test.YtbedecfkincemaaGreatY19
import Derived.Test.YtbedecfkincemaaGreatY09
import Derived.Test.YtbedecfkincemaaGreatY04
import Derived.Test.YtbedecfkincemaaGreatY17
import Derived.Test.YtbedecfkincemaaGreatY12
import Derived.Test.YtbedecfkincemaaGreatY13
namespace Go.AW
open Go Go.Proofs
set_option maxHeartbeats 4000000
set_option maxRecDepth 10000
set_option linter.unusedSimpArgs false
set_option linter.unusedVariables false
attribute [local irreducible] thenQ blockQ RetQ AL AW AC AOp

theorem msg_Encode (v : Nat) (m : Mg) (hv : v < 256) (hf : m.fits) : AC Tryz.prog 19 [iv .u8 (v : Nat), mgV m] [] fun y σ => y = .t [sv (bs (msge v m).1), iv .i64 (msge v m).2] ∧ σ = [] := by
  cases hh : has v m.kind with
  | false => exact encode_none v m hv hf.1 hh
  | true =>
    rcases has_cases hh with ⟨rfl, h | h | h⟩ | ⟨rfl, h | h | h | h | h | h | h | h | h⟩
    · exact encode_11 m hf h
    · exact encode_12 m hf h
    · exact encode_18 m hf h
    · exact encode_21 m hf h
    · exact encode_22 m hf h
    · exact encode_23 m hf h
    · exact encode_24 m hf h
    · exact encode_25 m hf h
    · exact encode_26 m hf h
    · exact encode_27 m hf h
    · exact encode_28 m hf h
    · exact encode_29 m hf h
theorem od0_fits : od0.fits := ⟨by decide, by decide, fun x hx => (List.not_mem_nil hx).elim⟩
theorem vec0_fits : Vec.fits [] := ⟨by decide, fun x hx => (List.not_mem_nil hx).elim, fun x hx => (List.not_mem_nil hx).elim⟩
theorem prs0_fits : Prs.fits [] := ⟨by decide, fun x hx => (List.not_mem_nil hx).elim, fun x hx => (List.not_mem_nil hx).elim⟩
theorem pg0_fits : pg0.fits := ⟨by decide, ⟨by decide, fun x hx => (List.not_mem_nil hx).elim⟩, by decide, fun x hx => (List.not_mem_nil hx).elim⟩
def mgk : Mg := { mg0 with kind := 1, id := 5, key := [107] }
theorem mgk_fits : mgk.fits := ⟨by decide, by decide, by decide, oj0_fits, od0_fits, vec0_fits, prs0_fits, by decide, by decide, pg0_fits, Ring.fits_nil, ⟨by decide, by decide⟩, by decide⟩
theorem mgk_e : msge 2 mgk = ([5, 1, 107], 0) := by
  have h1 : vput 5 = [5] := by rw [vput_small (by decide)]; rfl
  have h2 : vput 1 = [1] := by rw [vput_small (by decide)]; rfl
  have he : encm 2 mgk = [5, 1, 107] := by
    show vput 5 ++ (vput 1 ++ [107]) = _
    rw [h1, h2]; rfl
  have h := msge_fit (v := 2) (m := mgk) rfl rfl ⟨mg0_lens.1, mg0_lens.2⟩ (by rw [he]; decide)
  rw [h, he]
theorem awake23 : AC Tryz.prog 15 [] [] fun x σ => x = bv true ∧ σ = [] := by
  have hen := encode_21 mgk mgk_fits rfl
  rw [mgk_e] at hen
  refine AC.walk Tryz.func15 rfl (by decide) (of_decide_eq_true rfl) ?_
  focus (have kxs : 987654321 = 987654320 + 1 := rfl; have kk1 := uN [] (hen); (repeat' (first | refine G ?_ | refine AW.ret ?_ | (refine GC ?_ ?_ <;> intro h <;> (try simp only [hsB] at h) <;> try (exfalso; first | omega | contradiction)) | (refine GL ?_ ?_ <;> intro h <;> (try simp only [Bool.not_true, Bool.not_false] at h) <;> (try simp only [h]) <;> (try simp only [hsB] at h) <;> try (exfalso; first | omega | contradiction)) | fail)); all_goals clear kxs kk1)
  all_goals first | ((all_goals first | exact RetQ.fr 0 | exact RetQ.fn 0 | fail); done) | (exfalso; simp_all; done)

end Go.AW
/-
  slices.SortStableFunc of few siblings; slices.Clone; strings.Compare.
-/
namespace Go.AW
open Go Go.Proofs
set_option maxHeartbeats 2000000
set_option maxRecDepth 10000
set_option linter.unusedSimpArgs false
set_option linter.unusedVariables false
attribute [local irreducible] thenQ blockQ RetQ AL AW AC AOp

theorem onesD_append : ∀ (l m : List D), onesD l = true → onesD m = true → onesD (l ++ m) = true
  | [], m, _, h => h
  | x :: l, m, h, h2 => by
    simp only [onesD, Bool.and_eq_true, List.cons_append] at h ⊢
    exact ⟨h.1, onesD_append l m h.2 h2⟩
theorem onesD_flat {α : Type} (f : α → List D) (h : ∀ x, onesD (f x) = true) : ∀ l : List α, onesD ((l.map f).flatten) = true
  | [] => rfl
  | x :: l => by
    rw [List.map_cons, List.flatten_cons]
    exact onesD_append _ _ (h x) (onesD_flat f h l)
theorem clone_En (v : Vec) (hv : v.length ≤ 1000000) : AC Tryz.prog 238 [.d (.l v.length (vecD v))] [] fun x σ => x = .d (.l v.length (vecD v)) ∧ σ = [] := by
  refine AC.walk Tryz.func238 rfl (by decide) (of_decide_eq_true rfl) ?_
  have hol : (vecD v).length = v.length * 2 := flat_len (f := enD) (sz := 2) (fun _ => rfl) v
  have hon : onesD (vecD v) = true := onesD_flat enD (fun _ => rfl) v
  focus (have kxs : 987654321 = 987654320 + 1 := rfl; (repeat' (first | refine G ?_ | refine AW.ret ?_ | (refine GC ?_ ?_ <;> intro h <;> (try simp only [hsB] at h) <;> try (exfalso; first | omega | contradiction)) | (refine GL ?_ ?_ <;> intro h <;> (try simp only [Bool.not_true, Bool.not_false] at h) <;> (try simp only [h]) <;> (try simp only [hsB] at h) <;> try (exfalso; first | omega | contradiction)) | fail)); all_goals clear kxs)
  refine AL.one (by decide) fun Kr hr => ?_
  (try simp only [ao, List.map_cons, List.map_nil]); simp (disch := omega) only [go_sem]
  intro b hb
  refine hr _ _ ?_
  clear hr Kr
  cases b with
  | true =>
    have h0 : v = [] := List.length_eq_zero_iff.1 (hb rfl)
    subst h0
    focus (have kxs : 987654321 = 987654320 + 1 := rfl; (repeat' (first | refine G ?_ | refine AW.ret ?_ | (refine GC ?_ ?_ <;> intro h <;> (try simp only [hsB] at h) <;> try (exfalso; first | omega | contradiction)) | (refine GL ?_ ?_ <;> intro h <;> (try simp only [Bool.not_true, Bool.not_false] at h) <;> (try simp only [h]) <;> (try simp only [hsB] at h) <;> try (exfalso; first | omega | contradiction)) | fail)); all_goals clear kxs)
    all_goals first | ((all_goals first | exact RetQ.fr 0 | exact RetQ.fn 0 | fail); done) | (exfalso; simp_all; done)
  | false =>
    focus (have kxs := hon; (repeat' (first | refine G ?_ | refine AW.ret ?_ | (refine GC ?_ ?_ <;> intro h <;> (try simp only [hsB] at h) <;> try (exfalso; first | omega | contradiction)) | (refine GL ?_ ?_ <;> intro h <;> (try simp only [Bool.not_true, Bool.not_false] at h) <;> (try simp only [h]) <;> (try simp only [hsB] at h) <;> try (exfalso; first | omega | contradiction)) | fail)); all_goals clear kxs)
    all_goals first | ((all_goals first | exact RetQ.fr 0 | exact RetQ.fn 0 | fail); done) | (exfalso; simp_all; done)
theorem clone_Pr (v : Prs) (hv : v.length ≤ 1000000) : AC Tryz.prog 264 [.d (.l v.length (prsD v))] [] fun x σ => x = .d (.l v.length (prsD v)) ∧ σ = [] := by
  refine AC.walk Tryz.func264 rfl (by decide) (of_decide_eq_true rfl) ?_
  have hol : (prsD v).length = v.length * 2 := flat_len (f := prD) (sz := 2) (fun _ => rfl) v
  have hon : onesD (prsD v) = true := onesD_flat prD (fun _ => rfl) v
  focus (have kxs : 987654321 = 987654320 + 1 := rfl; (repeat' (first | refine G ?_ | refine AW.ret ?_ | (refine GC ?_ ?_ <;> intro h <;> (try simp only [hsB] at h) <;> try (exfalso; first | omega | contradiction)) | (refine GL ?_ ?_ <;> intro h <;> (try simp only [Bool.not_true, Bool.not_false] at h) <;> (try simp only [h]) <;> (try simp only [hsB] at h) <;> try (exfalso; first | omega | contradiction)) | fail)); all_goals clear kxs)
  refine AL.one (by decide) fun Kr hr => ?_
  (try simp only [ao, List.map_cons, List.map_nil]); simp (disch := omega) only [go_sem]
  intro b hb
  refine hr _ _ ?_
  clear hr Kr
  cases b with
  | true =>
    have h0 : v = [] := List.length_eq_zero_iff.1 (hb rfl)
    subst h0
    focus (have kxs : 987654321 = 987654320 + 1 := rfl; (repeat' (first | refine G ?_ | refine AW.ret ?_ | (refine GC ?_ ?_ <;> intro h <;> (try simp only [hsB] at h) <;> try (exfalso; first | omega | contradiction)) | (refine GL ?_ ?_ <;> intro h <;> (try simp only [Bool.not_true, Bool.not_false] at h) <;> (try simp only [h]) <;> (try simp only [hsB] at h) <;> try (exfalso; first | omega | contradiction)) | fail)); all_goals clear kxs)
    all_goals first | ((all_goals first | exact RetQ.fr 0 | exact RetQ.fn 0 | fail); done) | (exfalso; simp_all; done)
  | false =>
    focus (have kxs := hon; (repeat' (first | refine G ?_ | refine AW.ret ?_ | (refine GC ?_ ?_ <;> intro h <;> (try simp only [hsB] at h) <;> try (exfalso; first | omega | contradiction)) | (refine GL ?_ ?_ <;> intro h <;> (try simp only [Bool.not_true, Bool.not_false] at h) <;> (try simp only [h]) <;> (try simp only [hsB] at h) <;> try (exfalso; first | omega | contradiction)) | fail)); all_goals clear kxs)
    all_goals first | ((all_goals first | exact RetQ.fr 0 | exact RetQ.fn 0 | fail); done) | (exfalso; simp_all; done)
theorem sibling_Copy (x : Sb) (h1 : x.clk.ctx.length ≤ 1000000) (h2 : x.meta_.length ≤ 1000000) : AC Tryz.prog 307 [sbV x] [] fun y σ => y = sbV x ∧ σ = [] := by
  refine AC.walk Tryz.func307 rfl (by decide) (of_decide_eq_true rfl) ?_
  focus (have kxs : 987654321 = 987654320 + 1 := rfl; have kk1 := uN [] (clone_En x.clk.ctx h1); have kk2 := uN [] (clone_Pr x.meta_ h2); (repeat' (first | refine G ?_ | refine AW.ret ?_ | (refine GC ?_ ?_ <;> intro h <;> (try simp only [hsB] at h) <;> try (exfalso; first | omega | contradiction)) | (refine GL ?_ ?_ <;> intro h <;> (try simp only [Bool.not_true, Bool.not_false] at h) <;> (try simp only [h]) <;> (try simp only [hsB] at h) <;> try (exfalso; first | omega | contradiction)) | fail)); all_goals clear kxs kk1 kk2)
  all_goals first | ((all_goals first | exact RetQ.fr 0 | exact RetQ.fn 0 | fail); done) | (exfalso; simp_all; done)

/-- What the sort has by its step i. -/
def part (l : List Sb) (i : Nat) : List Sb := ((l.take i).foldl (fun acc x => insR slt x acc) []).reverse ++ l.drop i
end Go.AW
/-
  Plain: rings that are joined.
-/
namespace Go.AW
set_option linter.unusedVariables false
set_option linter.unusedSimpArgs false

/-! ### Which of two members counts -/

def Mb.rest (x : Mb) : List UInt8 := estt x.st ++ etoks x.toks
def mless (x y : Mb) : Bool := decide (x.ep < y.ep) || (decide (x.ep = y.ep) && lessB x.rest y.rest)
def counts (x y : Mb) : Mb := if mless y x then x else y
/-- A member with a good rest. -/
def Mb.okr (x : Mb) : Prop := x.st ≤ 3 ∧ gtoks x.toks
/-! ### Rings that are joined -/

def joinm : Ring → Ring → Ring
  | [], b => b
  | x :: a, [] => x :: a
  | x :: a, y :: b => if lessB x.name y.name then x :: joinm a (y :: b) else if lessB y.name x.name then y :: joinm (x :: a) b else counts x y :: joinm a b
termination_by a b => a.length + b.length
decreasing_by all_goals (simp only [List.length_cons]; omega)
abbrev Up (l : Ring) : Prop := l.Pairwise (fun x y => lessB x.name y.name = true)
def findm (n : List UInt8) : Ring → Option Mb
  | [] => none
  | x :: r => if x.name = n then some x else findm n r
def oj : Option Mb → Option Mb → Option Mb
  | none, q => q
  | some x, none => some x
  | some x, some y => some (counts x y)
/-! ### Right ones -/

def Mb.fine (x : Mb) : Prop := x.name.length ≤ 32 ∧ x.name ≠ [] ∧ x.ep ≠ 0 ∧ x.st ≤ 3 ∧ x.toks.length ≤ 16 ∧ rises none x.toks = true
def ringj (a b : Ring) : Ring × Int := if Ring.check a ≠ 0 ∨ Ring.check b ≠ 0 then ([], 1) else if 32 < (joinm a b).length then ([], 3) else (joinm a b, 0)
end Go.AW
/-
  rings that are joined: the program's.
-/
namespace Go.AW
open Go Go.Proofs
set_option maxHeartbeats 4000000
set_option maxRecDepth 10000
set_option linter.unusedSimpArgs false
set_option linter.unusedVariables false
attribute [local irreducible] thenQ blockQ RetQ AL AW AC AOp

theorem toks_ones (l : List Nat) : onesD (toksD l) = true := by
  induction l with
  | nil => rfl
  | cons t l ih =>
    show (D.one _ && onesD (toksD l)) = true
    rw [ih]; rfl
theorem clone_64 (v : List Nat) (hv : v.length ≤ 1000000) : AC Tryz.prog 280 [.d (.l v.length (toksD v))] [] fun x σ => x = .d (.l v.length (toksD v)) ∧ σ = [] := by
  refine AC.walk Tryz.func280 rfl (by decide) (of_decide_eq_true rfl) ?_
  have hol : (toksD v).length = v.length := List.length_map _
  have hon : onesD (toksD v) = true := toks_ones v
  focus (have kxs : 987654321 = 987654320 + 1 := rfl; (repeat' (first | refine G ?_ | refine AW.ret ?_ | (refine GC ?_ ?_ <;> intro h <;> (try simp only [hsB] at h) <;> try (exfalso; first | omega | contradiction)) | (refine GL ?_ ?_ <;> intro h <;> (try simp only [Bool.not_true, Bool.not_false] at h) <;> (try simp only [h]) <;> (try simp only [hsB] at h) <;> try (exfalso; first | omega | contradiction)) | fail)); all_goals clear kxs)
  refine AL.one (by decide) fun Kr hr => ?_
  (try simp only [ao, List.map_cons, List.map_nil]); simp (disch := omega) only [go_sem]
  intro b hb
  refine hr _ _ ?_
  clear hr Kr
  cases b with
  | true =>
    have h0 : v = [] := List.length_eq_zero_iff.1 (hb rfl)
    subst h0
    focus (have kxs : 987654321 = 987654320 + 1 := rfl; (repeat' (first | refine G ?_ | refine AW.ret ?_ | (refine GC ?_ ?_ <;> intro h <;> (try simp only [hsB] at h) <;> try (exfalso; first | omega | contradiction)) | (refine GL ?_ ?_ <;> intro h <;> (try simp only [Bool.not_true, Bool.not_false] at h) <;> (try simp only [h]) <;> (try simp only [hsB] at h) <;> try (exfalso; first | omega | contradiction)) | fail)); all_goals clear kxs)
    all_goals first | ((all_goals first | exact RetQ.fr 0 | exact RetQ.fn 0 | fail); done) | (exfalso; simp_all; done)
  | false =>
    focus (have kxs := hon; (repeat' (first | refine G ?_ | refine AW.ret ?_ | (refine GC ?_ ?_ <;> intro h <;> (try simp only [hsB] at h) <;> try (exfalso; first | omega | contradiction)) | (refine GL ?_ ?_ <;> intro h <;> (try simp only [Bool.not_true, Bool.not_false] at h) <;> (try simp only [h]) <;> (try simp only [hsB] at h) <;> try (exfalso; first | omega | contradiction)) | fail)); all_goals clear kxs)
    all_goals first | ((all_goals first | exact RetQ.fr 0 | exact RetQ.fn 0 | fail); done) | (exfalso; simp_all; done)
end Go.AW
/-
  the object of siblings: the program's.
-/
namespace Go.AW
open Go Go.Proofs
set_option maxHeartbeats 2000000
set_option maxRecDepth 10000
set_option linter.unusedSimpArgs false
set_option linter.unusedVariables false
attribute [local irreducible] thenQ blockQ RetQ AL AW AC AOp

theorem Sb.small {x : Sb} (h : x.check = 0) : x.clk.ctx.length ≤ 64 ∧ x.meta_.length ≤ 8 := by
  obtain ⟨h1, h2, h3⟩ := Sb.check_parts h
  exact ⟨(Vec.check_len (Ck.check_parts h1).1).1, (Prs.check_len h2).1⟩

end Go.AW
/-
  a message's parts: how they are taken over.
-/
namespace Go.AW
open Go Go.Proofs
set_option maxHeartbeats 4000000
set_option maxRecDepth 10000
set_option linter.unusedSimpArgs false
set_option linter.unusedVariables false
attribute [local irreducible] thenQ blockQ RetQ AL AW AC AOp

theorem object_Copy (x : Oj) (hx : x.sibs.length ≤ 1000000) (hs : ∀ y ∈ x.sibs, y.clk.ctx.length ≤ 1000000 ∧ y.meta_.length ≤ 1000000) : AC Tryz.prog 246 [ojV x] [] fun y σ => y = ojV x ∧ σ = [] := by
  refine AC.walk Tryz.func246 rfl (by decide) (of_decide_eq_true rfl) ?_
  obtain ⟨key, l⟩ := x
  simp only at hx hs ⊢
  focus (have kxs : 987654321 = 987654320 + 1 := rfl; (repeat' (first | (refine ADr.nil ?_; try clear hgv) | refine GO ?_ | refine AW.ret ?_ | (refine GC ?_ ?_ <;> intro h <;> (try simp only [hsB] at h) <;> try (exfalso; first | omega | contradiction)) | (refine GD ?_ ?_ <;> intro h <;> (try intro hgv) <;> (try simp only [Bool.not_true, Bool.not_false] at h) <;> (try simp only [h]) <;> (try simp only [hsB] at h) <;> try (exfalso; first | omega | contradiction)) | (refine GL ?_ ?_ <;> intro h <;> (try simp only [Bool.not_true, Bool.not_false] at h) <;> (try simp only [h]) <;> (try simp only [hsB] at h) <;> try (exfalso; first | omega | contradiction)) | fail)); all_goals clear kxs)
  all_goals first | (exfalso; omega) | (exfalso; simp_all; done) | skip
  refine AW.birth 169 7 [] [(2, 1)] ?_
  refine AW.rounds [2, 3, 10, 11, 12] (fun i : Nat => [(2, .p 1 0), (3, .p 2 0), (10, .d (.l l.length (sbsD l))), (11, iv .i64 l.length), (12, iv .i64 i)])
    (fun i => [.box 26 [sv (bs key), .d (.l l.length (sbsD l))], .box 26 [sv (bs []), .d (.s (.slice none 0 0))], .box 26 [sv (bs key), .o 3 i], .row 169 7 i (sbsD (l.take i))])
    (fun i => i ≤ l.length) (fun i => l.length - i) 0 (Nat.zero_le _) rfl rfl (fun _ _ => Nat.zero_le _) (fun _ _ => rfl) (fun _ _ => rfl) ?_
  rintro i hi J hJ
  by_cases hil : i < l.length
  · obtain ⟨x, r, hd⟩ := next_at hil
    have hcd := sbs_drop hd
    obtain ⟨q1, q2⟩ := hs x (next_mem hd)
    have hcp := sibling_Copy x q1 q2
    have hsn := sbs_snoc (l.take i) x
    rw [← next_take hd] at hsn
    have hon : onesD [D.l x.clk.ctx.length (vecD x.clk.ctx), .s (.bool x.clk.dotted), .s (.string ⟨x.clk.dot.1.toArray⟩), .s (.int .u64 x.clk.dot.2), .l x.meta_.length (prsD x.meta_), .s (.bool x.dead), .s (.string ⟨x.val.toArray⟩)] = true := rfl
    focus (have kxs := And.intro hcd hon; have kk1 := uN [] (hcp); (repeat' (first | (refine ADr.nil ?_; try clear hgv) | refine GW ?_ | refine AW.ret ?_ | (refine GC ?_ ?_ <;> intro h <;> (try simp only [hsB] at h) <;> try (exfalso; first | omega | contradiction)) | (refine GD ?_ ?_ <;> intro h <;> (try intro hgv) <;> (try simp only [Bool.not_true, Bool.not_false] at h) <;> (try simp only [h]) <;> (try simp only [hsB] at h) <;> try (exfalso; first | omega | contradiction)) | (refine GL ?_ ?_ <;> intro h <;> (try simp only [Bool.not_true, Bool.not_false] at h) <;> (try simp only [h]) <;> (try simp only [hsB] at h) <;> try (exfalso; first | omega | contradiction)) | fail)); all_goals clear kxs kk1)
    all_goals first | (refine hJ (i + 1) _ _ (by omega) hil rfl ?_; rw [← hsn]; rfl) | (exfalso; simp_all; done)
  · have hi2 : i = l.length := by omega
    subst hi2
    rw [List.take_length]
    clear hJ
    focus (have kxs : 987654321 = 987654320 + 1 := rfl; (repeat' (first | (refine ADr.nil ?_; try clear hgv) | refine GO ?_ | refine AW.ret ?_ | (refine GC ?_ ?_ <;> intro h <;> (try simp only [hsB] at h) <;> try (exfalso; first | omega | contradiction)) | (refine GD ?_ ?_ <;> intro h <;> (try intro hgv) <;> (try simp only [Bool.not_true, Bool.not_false] at h) <;> (try simp only [h]) <;> (try simp only [hsB] at h) <;> try (exfalso; first | omega | contradiction)) | (refine GL ?_ ?_ <;> intro h <;> (try simp only [Bool.not_true, Bool.not_false] at h) <;> (try simp only [h]) <;> (try simp only [hsB] at h) <;> try (exfalso; first | omega | contradiction)) | fail)); all_goals clear kxs)
    all_goals first | (((all_goals first | refine RetQ.r 0 (xs := [.a [sv (bs key), .o 3 l.length]]) rfl (Nat.le_of_ble_eq_true rfl) rfl (by first | rfl | (simp only [go_sem, ↓reduceIte, Nat.reduceLT, Nat.lt_irrefl])) ⟨?_, ?_⟩ | refine RetQ.n 0 (xs := [.a [sv (bs key), .o 3 l.length]]) rfl (Nat.le_of_ble_eq_true rfl) rfl (by first | rfl | (simp only [go_sem, ↓reduceIte, Nat.reduceLT, Nat.lt_irrefl])) ⟨?_, ?_⟩); (all_goals first | rfl | (simp [*]; done) | ((simp only [go_sem, ↓reduceIte, Nat.reduceLT]; (repeat' split)) <;> first | rfl | (exfalso; omega) | (simp_all; done) | (simp_all; omega)))); done) | (exfalso; omega) | (exfalso; simp_all; done)
theorem over_Key (m : Mg) (d0 d1 d2 d3 d4 d5 d6 d7 d8 d9 d10 d11 d12 d13 d14 d15 d16 d17 d18 d19 : D) : AC Tryz.prog 220 [.p 0 0, mgV m, .p 1 0] [.box 38 [.d d0, .d d1, .d d2, .d d3, .d d4, .d d5, .d d6, .d d7, .d d8, .d d9, .d d10, .d d11, .d d12, .d d13, .d d14, .d d15, .d d16, .d d17, .d d18, .d d19], .box 231 [.f (.func 150) [] []]] fun y σ => y = .t [] ∧ σ = [.box 38 [.d d0, .d d1, sv (bs m.key), .d d3, .d d4, .d d5, .d d6, .d d7, .d d8, .d d9, .d d10, .d d11, .d d12, .d d13, .d d14, .d d15, .d d16, .d d17, .d d18, .d d19], .box 231 [.f (.func 150) [] []]] := by
  refine AC.walk Tryz.func220 rfl (by decide) (of_decide_eq_true rfl) ?_
  have ho1 := of_Key [.d d0, .d d1, .d d2, .d d3, .d d4, .d d5, .d d6, .d d7, .d d8, .d d9, .d d10, .d d11, .d d12, .d d13, .d d14, .d d15, .d d16, .d d17, .d d18, .d d19] rfl
  have ho2 := of_Key (mgC m) rfl
  focus (have kxs : 987654321 = 987654320 + 1 := rfl; have kk1 := uN [0] (ho1); have kk2 := uN [2] (ho2); (repeat' (first | (refine ADr.nil ?_; try clear hgv) | refine GW ?_ | refine AW.ret ?_ | (refine GC ?_ ?_ <;> intro h <;> (try simp only [hsB] at h) <;> try (exfalso; first | omega | contradiction)) | (refine GD ?_ ?_ <;> intro h <;> (try intro hgv) <;> (try simp only [Bool.not_true, Bool.not_false] at h) <;> (try simp only [h]) <;> (try simp only [hsB] at h) <;> try (exfalso; first | omega | contradiction)) | (refine GL ?_ ?_ <;> intro h <;> (try simp only [Bool.not_true, Bool.not_false] at h) <;> (try simp only [h]) <;> (try simp only [hsB] at h) <;> try (exfalso; first | omega | contradiction)) | fail)); all_goals clear kxs kk1 kk2)
  all_goals first | ((all_goals first | exact RetQ.fr 2 | exact RetQ.fn 2 | fail); done) | (exfalso; omega) | (exfalso; simp_all; done)
theorem over_Text (m : Mg) (d0 d1 d2 d3 d4 d5 d6 d7 d8 d9 d10 d11 d12 d13 d14 d15 d16 d17 d18 d19 : D) : AC Tryz.prog 220 [.p 0 0, mgV m, .p 1 0] [.box 38 [.d d0, .d d1, .d d2, .d d3, .d d4, .d d5, .d d6, .d d7, .d d8, .d d9, .d d10, .d d11, .d d12, .d d13, .d d14, .d d15, .d d16, .d d17, .d d18, .d d19], .box 231 [.f (.func 153) [] []]] fun y σ => y = .t [] ∧ σ = [.box 38 [.d d0, .d d1, .d d2, .d d3, .d d4, .d d5, .d d6, .d d7, .d d8, .d d9, .d d10, .d d11, .d d12, .d d13, .d d14, .d d15, .d d16, .d d17, .d d18, sv (bs m.txt)], .box 231 [.f (.func 153) [] []]] := by
  refine AC.walk Tryz.func220 rfl (by decide) (of_decide_eq_true rfl) ?_
  have ho1 := of_Text [.d d0, .d d1, .d d2, .d d3, .d d4, .d d5, .d d6, .d d7, .d d8, .d d9, .d d10, .d d11, .d d12, .d d13, .d d14, .d d15, .d d16, .d d17, .d d18, .d d19] rfl
  have ho2 := of_Text (mgC m) rfl
  focus (have kxs : 987654321 = 987654320 + 1 := rfl; have kk1 := uN [0] (ho1); have kk2 := uN [2] (ho2); (repeat' (first | (refine ADr.nil ?_; try clear hgv) | refine GW ?_ | refine AW.ret ?_ | (refine GC ?_ ?_ <;> intro h <;> (try simp only [hsB] at h) <;> try (exfalso; first | omega | contradiction)) | (refine GD ?_ ?_ <;> intro h <;> (try intro hgv) <;> (try simp only [Bool.not_true, Bool.not_false] at h) <;> (try simp only [h]) <;> (try simp only [hsB] at h) <;> try (exfalso; first | omega | contradiction)) | (refine GL ?_ ?_ <;> intro h <;> (try simp only [Bool.not_true, Bool.not_false] at h) <;> (try simp only [h]) <;> (try simp only [hsB] at h) <;> try (exfalso; first | omega | contradiction)) | fail)); all_goals clear kxs kk1 kk2)
  all_goals first | ((all_goals first | exact RetQ.fr 2 | exact RetQ.fn 2 | fail); done) | (exfalso; omega) | (exfalso; simp_all; done)
theorem over_Value (m : Mg) (d0 d1 d2 d3 d4 d5 d6 d7 d8 d9 d10 d11 d12 d13 d14 d15 d16 d17 d18 d19 : D) : AC Tryz.prog 220 [.p 0 0, mgV m, .p 1 0] [.box 38 [.d d0, .d d1, .d d2, .d d3, .d d4, .d d5, .d d6, .d d7, .d d8, .d d9, .d d10, .d d11, .d d12, .d d13, .d d14, .d d15, .d d16, .d d17, .d d18, .d d19], .box 231 [.f (.func 161) [] []]] fun y σ => y = .t [] ∧ σ = [.box 38 [.d d0, .d d1, .d d2, .d d3, .d d4, .d d5, .d d6, .d d7, .d d8, .d d9, .d d10, sv (bs m.val), .d d12, .d d13, .d d14, .d d15, .d d16, .d d17, .d d18, .d d19], .box 231 [.f (.func 161) [] []]] := by
  refine AC.walk Tryz.func220 rfl (by decide) (of_decide_eq_true rfl) ?_
  have ho1 := of_Value [.d d0, .d d1, .d d2, .d d3, .d d4, .d d5, .d d6, .d d7, .d d8, .d d9, .d d10, .d d11, .d d12, .d d13, .d d14, .d d15, .d d16, .d d17, .d d18, .d d19] rfl
  have ho2 := of_Value (mgC m) rfl
  focus (have kxs : 987654321 = 987654320 + 1 := rfl; have kk1 := uN [0] (ho1); have kk2 := uN [2] (ho2); (repeat' (first | (refine ADr.nil ?_; try clear hgv) | refine GW ?_ | refine AW.ret ?_ | (refine GC ?_ ?_ <;> intro h <;> (try simp only [hsB] at h) <;> try (exfalso; first | omega | contradiction)) | (refine GD ?_ ?_ <;> intro h <;> (try intro hgv) <;> (try simp only [Bool.not_true, Bool.not_false] at h) <;> (try simp only [h]) <;> (try simp only [hsB] at h) <;> try (exfalso; first | omega | contradiction)) | (refine GL ?_ ?_ <;> intro h <;> (try simp only [Bool.not_true, Bool.not_false] at h) <;> (try simp only [h]) <;> (try simp only [hsB] at h) <;> try (exfalso; first | omega | contradiction)) | fail)); all_goals clear kxs kk1 kk2)
  all_goals first | ((all_goals first | exact RetQ.fr 2 | exact RetQ.fn 2 | fail); done) | (exfalso; omega) | (exfalso; simp_all; done)
theorem over_Prefix (m : Mg) (d0 d1 d2 d3 d4 d5 d6 d7 d8 d9 d10 d11 d12 d13 d14 d15 d16 d17 d18 d19 : D) : AC Tryz.prog 220 [.p 0 0, mgV m, .p 1 0] [.box 38 [.d d0, .d d1, .d d2, .d d3, .d d4, .d d5, .d d6, .d d7, .d d8, .d d9, .d d10, .d d11, .d d12, .d d13, .d d14, .d d15, .d d16, .d d17, .d d18, .d d19], .box 231 [.f (.func 162) [] []]] fun y σ => y = .t [] ∧ σ = [.box 38 [.d d0, .d d1, .d d2, .d d3, .d d4, .d d5, .d d6, .d d7, .d d8, .d d9, .d d10, .d d11, sv (bs m.pre), .d d13, .d d14, .d d15, .d d16, .d d17, .d d18, .d d19], .box 231 [.f (.func 162) [] []]] := by
  refine AC.walk Tryz.func220 rfl (by decide) (of_decide_eq_true rfl) ?_
  have ho1 := of_Prefix [.d d0, .d d1, .d d2, .d d3, .d d4, .d d5, .d d6, .d d7, .d d8, .d d9, .d d10, .d d11, .d d12, .d d13, .d d14, .d d15, .d d16, .d d17, .d d18, .d d19] rfl
  have ho2 := of_Prefix (mgC m) rfl
  focus (have kxs : 987654321 = 987654320 + 1 := rfl; have kk1 := uN [0] (ho1); have kk2 := uN [2] (ho2); (repeat' (first | (refine ADr.nil ?_; try clear hgv) | refine GW ?_ | refine AW.ret ?_ | (refine GC ?_ ?_ <;> intro h <;> (try simp only [hsB] at h) <;> try (exfalso; first | omega | contradiction)) | (refine GD ?_ ?_ <;> intro h <;> (try intro hgv) <;> (try simp only [Bool.not_true, Bool.not_false] at h) <;> (try simp only [h]) <;> (try simp only [hsB] at h) <;> try (exfalso; first | omega | contradiction)) | (refine GL ?_ ?_ <;> intro h <;> (try simp only [Bool.not_true, Bool.not_false] at h) <;> (try simp only [h]) <;> (try simp only [hsB] at h) <;> try (exfalso; first | omega | contradiction)) | fail)); all_goals clear kxs kk1 kk2)
  all_goals first | ((all_goals first | exact RetQ.fr 2 | exact RetQ.fn 2 | fail); done) | (exfalso; omega) | (exfalso; simp_all; done)
theorem over_Found (m : Mg) (d0 d1 d2 d3 d4 d5 d6 d7 d8 d9 d10 d11 d12 d13 d14 d15 d16 d17 d18 d19 : D) : AC Tryz.prog 225 [.p 0 0, mgV m, .p 1 0] [.box 38 [.d d0, .d d1, .d d2, .d d3, .d d4, .d d5, .d d6, .d d7, .d d8, .d d9, .d d10, .d d11, .d d12, .d d13, .d d14, .d d15, .d d16, .d d17, .d d18, .d d19], .box 234 [.f (.func 152) [] []]] fun y σ => y = .t [] ∧ σ = [.box 38 [.d d0, .d d1, .d d2, bv m.found, .d d4, .d d5, .d d6, .d d7, .d d8, .d d9, .d d10, .d d11, .d d12, .d d13, .d d14, .d d15, .d d16, .d d17, .d d18, .d d19], .box 234 [.f (.func 152) [] []]] := by
  refine AC.walk Tryz.func225 rfl (by decide) (of_decide_eq_true rfl) ?_
  have ho1 := of_Found [.d d0, .d d1, .d d2, .d d3, .d d4, .d d5, .d d6, .d d7, .d d8, .d d9, .d d10, .d d11, .d d12, .d d13, .d d14, .d d15, .d d16, .d d17, .d d18, .d d19] rfl
  have ho2 := of_Found (mgC m) rfl
  focus (have kxs : 987654321 = 987654320 + 1 := rfl; have kk1 := uN [0] (ho1); have kk2 := uN [2] (ho2); (repeat' (first | (refine ADr.nil ?_; try clear hgv) | refine GW ?_ | refine AW.ret ?_ | (refine GC ?_ ?_ <;> intro h <;> (try simp only [hsB] at h) <;> try (exfalso; first | omega | contradiction)) | (refine GD ?_ ?_ <;> intro h <;> (try intro hgv) <;> (try simp only [Bool.not_true, Bool.not_false] at h) <;> (try simp only [h]) <;> (try simp only [hsB] at h) <;> try (exfalso; first | omega | contradiction)) | (refine GL ?_ ?_ <;> intro h <;> (try simp only [Bool.not_true, Bool.not_false] at h) <;> (try simp only [h]) <;> (try simp only [hsB] at h) <;> try (exfalso; first | omega | contradiction)) | fail)); all_goals clear kxs kk1 kk2)
  all_goals first | ((all_goals first | exact RetQ.fr 2 | exact RetQ.fn 2 | fail); done) | (exfalso; omega) | (exfalso; simp_all; done)
theorem over_Dead (m : Mg) (d0 d1 d2 d3 d4 d5 d6 d7 d8 d9 d10 d11 d12 d13 d14 d15 d16 d17 d18 d19 : D) : AC Tryz.prog 225 [.p 0 0, mgV m, .p 1 0] [.box 38 [.d d0, .d d1, .d d2, .d d3, .d d4, .d d5, .d d6, .d d7, .d d8, .d d9, .d d10, .d d11, .d d12, .d d13, .d d14, .d d15, .d d16, .d d17, .d d18, .d d19], .box 234 [.f (.func 158) [] []]] fun y σ => y = .t [] ∧ σ = [.box 38 [.d d0, .d d1, .d d2, .d d3, .d d4, .d d5, .d d6, .d d7, .d d8, .d d9, bv m.dead, .d d11, .d d12, .d d13, .d d14, .d d15, .d d16, .d d17, .d d18, .d d19], .box 234 [.f (.func 158) [] []]] := by
  refine AC.walk Tryz.func225 rfl (by decide) (of_decide_eq_true rfl) ?_
  have ho1 := of_Dead [.d d0, .d d1, .d d2, .d d3, .d d4, .d d5, .d d6, .d d7, .d d8, .d d9, .d d10, .d d11, .d d12, .d d13, .d d14, .d d15, .d d16, .d d17, .d d18, .d d19] rfl
  have ho2 := of_Dead (mgC m) rfl
  focus (have kxs : 987654321 = 987654320 + 1 := rfl; have kk1 := uN [0] (ho1); have kk2 := uN [2] (ho2); (repeat' (first | (refine ADr.nil ?_; try clear hgv) | refine GW ?_ | refine AW.ret ?_ | (refine GC ?_ ?_ <;> intro h <;> (try simp only [hsB] at h) <;> try (exfalso; first | omega | contradiction)) | (refine GD ?_ ?_ <;> intro h <;> (try intro hgv) <;> (try simp only [Bool.not_true, Bool.not_false] at h) <;> (try simp only [h]) <;> (try simp only [hsB] at h) <;> try (exfalso; first | omega | contradiction)) | (refine GL ?_ ?_ <;> intro h <;> (try simp only [Bool.not_true, Bool.not_false] at h) <;> (try simp only [h]) <;> (try simp only [hsB] at h) <;> try (exfalso; first | omega | contradiction)) | fail)); all_goals clear kxs kk1 kk2)
  all_goals first | ((all_goals first | exact RetQ.fr 2 | exact RetQ.fn 2 | fail); done) | (exfalso; omega) | (exfalso; simp_all; done)
theorem over_ctx (m : Mg) (d0 d1 d2 d3 d4 d5 d6 d7 d8 d9 d10 d11 d12 d13 d14 d15 d16 d17 d18 d19 : D) (h : m.ctx.length ≤ 1000000) : AC Tryz.prog 257 [.p 0 0, mgV m] [.box 38 [.d d0, .d d1, .d d2, .d d3, .d d4, .d d5, .d d6, .d d7, .d d8, .d d9, .d d10, .d d11, .d d12, .d d13, .d d14, .d d15, .d d16, .d d17, .d d18, .d d19]] fun y σ => y = .t [] ∧ σ = [.box 38 [.d d0, .d d1, .d d2, .d d3, .d d4, .d d5, .d d6, .d d7, .d (.l m.ctx.length (vecD m.ctx)), .d d9, .d d10, .d d11, .d d12, .d d13, .d d14, .d d15, .d d16, .d d17, .d d18, .d d19]] := by
  refine AC.walk Tryz.func257 rfl (by decide) (of_decide_eq_true rfl) ?_
  have hc := clone_En m.ctx h
  focus (have kxs : 987654321 = 987654320 + 1 := rfl; have kk1 := uN [] (hc); (repeat' (first | refine G ?_ | refine AW.ret ?_ | (refine GC ?_ ?_ <;> intro h <;> (try simp only [hsB] at h) <;> try (exfalso; first | omega | contradiction)) | (refine GL ?_ ?_ <;> intro h <;> (try simp only [Bool.not_true, Bool.not_false] at h) <;> (try simp only [h]) <;> (try simp only [hsB] at h) <;> try (exfalso; first | omega | contradiction)) | fail)); all_goals clear kxs kk1)
  all_goals first | ((all_goals first | exact RetQ.fr 1 | exact RetQ.fn 1 | fail); done) | (exfalso; omega) | (exfalso; simp_all; done)
theorem over_meta (m : Mg) (d0 d1 d2 d3 d4 d5 d6 d7 d8 d9 d10 d11 d12 d13 d14 d15 d16 d17 d18 d19 : D) (h : m.meta_.length ≤ 1000000) : AC Tryz.prog 263 [.p 0 0, mgV m] [.box 38 [.d d0, .d d1, .d d2, .d d3, .d d4, .d d5, .d d6, .d d7, .d d8, .d d9, .d d10, .d d11, .d d12, .d d13, .d d14, .d d15, .d d16, .d d17, .d d18, .d d19]] fun y σ => y = .t [] ∧ σ = [.box 38 [.d d0, .d d1, .d d2, .d d3, .d d4, .d d5, .d d6, .d d7, .d d8, .d (.l m.meta_.length (prsD m.meta_)), .d d10, .d d11, .d d12, .d d13, .d d14, .d d15, .d d16, .d d17, .d d18, .d d19]] := by
  refine AC.walk Tryz.func263 rfl (by decide) (of_decide_eq_true rfl) ?_
  have hc := clone_Pr m.meta_ h
  focus (have kxs : 987654321 = 987654320 + 1 := rfl; have kk1 := uN [] (hc); (repeat' (first | refine G ?_ | refine AW.ret ?_ | (refine GC ?_ ?_ <;> intro h <;> (try simp only [hsB] at h) <;> try (exfalso; first | omega | contradiction)) | (refine GL ?_ ?_ <;> intro h <;> (try simp only [Bool.not_true, Bool.not_false] at h) <;> (try simp only [h]) <;> (try simp only [hsB] at h) <;> try (exfalso; first | omega | contradiction)) | fail)); all_goals clear kxs kk1)
  all_goals first | ((all_goals first | exact RetQ.fr 1 | exact RetQ.fn 1 | fail); done) | (exfalso; omega) | (exfalso; simp_all; done)
theorem over_code (m : Mg) (d0 d1 d2 d3 d4 d5 d6 d7 d8 d9 d10 d11 d12 d13 d14 d15 d16 d17 d18 d19 : D)  : AC Tryz.prog 251 [.p 0 0, mgV m] [.box 38 [.d d0, .d d1, .d d2, .d d3, .d d4, .d d5, .d d6, .d d7, .d d8, .d d9, .d d10, .d d11, .d d12, .d d13, .d d14, .d d15, .d d16, .d d17, .d d18, .d d19]] fun y σ => y = .t [] ∧ σ = [.box 38 [.d d0, .d d1, .d d2, .d d3, .d d4, .d d5, .d d6, .d d7, .d d8, .d d9, .d d10, .d d11, .d d12, .d d13, .d d14, .d d15, .d d16, .d d17, iv .i64 m.code, .d d19]] := by
  refine AC.walk Tryz.func251 rfl (by decide) (of_decide_eq_true rfl) ?_
  focus (have kxs : 987654321 = 987654320 + 1 := rfl; (repeat' (first | refine G ?_ | refine AW.ret ?_ | (refine GC ?_ ?_ <;> intro h <;> (try simp only [hsB] at h) <;> try (exfalso; first | omega | contradiction)) | (refine GL ?_ ?_ <;> intro h <;> (try simp only [Bool.not_true, Bool.not_false] at h) <;> (try simp only [h]) <;> (try simp only [hsB] at h) <;> try (exfalso; first | omega | contradiction)) | fail)); all_goals clear kxs)
  all_goals first | ((all_goals first | exact RetQ.fr 1 | exact RetQ.fn 1 | fail); done) | (exfalso; omega) | (exfalso; simp_all; done)
theorem over_object (m : Mg) (d0 d1 d2 d3 d4 d5 d6 d7 d8 d9 d10 d11 d12 d13 d14 d15 d16 d17 d18 d19 : D) (h1 : m.obj.sibs.length ≤ 1000000) (h2 : ∀ y ∈ m.obj.sibs, y.clk.ctx.length ≤ 1000000 ∧ y.meta_.length ≤ 1000000) : AC Tryz.prog 245 [.p 0 0, mgV m] [.box 38 [.d d0, .d d1, .d d2, .d d3, .d d4, .d d5, .d d6, .d d7, .d d8, .d d9, .d d10, .d d11, .d d12, .d d13, .d d14, .d d15, .d d16, .d d17, .d d18, .d d19]] fun y σ => y = .t [] ∧ σ = [.box 38 [.d d0, .d d1, .d d2, .d d3, sv (bs m.obj.key), .d (.l m.obj.sibs.length (sbsD m.obj.sibs)), .d d6, .d d7, .d d8, .d d9, .d d10, .d d11, .d d12, .d d13, .d d14, .d d15, .d d16, .d d17, .d d18, .d d19]] := by
  refine AC.walk Tryz.func245 rfl (by decide) (of_decide_eq_true rfl) ?_
  have hc := object_Copy m.obj h1 h2
  focus (have kxs : 987654321 = 987654320 + 1 := rfl; have kk1 := uN [] (hc); (repeat' (first | refine G ?_ | refine AW.ret ?_ | (refine GC ?_ ?_ <;> intro h <;> (try simp only [hsB] at h) <;> try (exfalso; first | omega | contradiction)) | (refine GL ?_ ?_ <;> intro h <;> (try simp only [Bool.not_true, Bool.not_false] at h) <;> (try simp only [h]) <;> (try simp only [hsB] at h) <;> try (exfalso; first | omega | contradiction)) | fail)); all_goals clear kxs kk1)
  all_goals first | ((all_goals first | exact RetQ.fr 1 | exact RetQ.fn 1 | fail); done) | (exfalso; omega) | (exfalso; simp_all; done)
theorem clone_It (v : List It) (hv : v.length ≤ 1000000) : AC Tryz.prog 272 [.d (.l v.length (itsD v))] [] fun x σ => x = .d (.l v.length (itsD v)) ∧ σ = [] := by
  refine AC.walk Tryz.func272 rfl (by decide) (of_decide_eq_true rfl) ?_
  have hol : (itsD v).length = v.length * 2 := flat_len (f := itD) (sz := 2) (fun _ => rfl) v
  have hon : onesD (itsD v) = true := onesD_flat itD (fun _ => rfl) v
  focus (have kxs : 987654321 = 987654320 + 1 := rfl; (repeat' (first | refine G ?_ | refine AW.ret ?_ | (refine GC ?_ ?_ <;> intro h <;> (try simp only [hsB] at h) <;> try (exfalso; first | omega | contradiction)) | (refine GL ?_ ?_ <;> intro h <;> (try simp only [Bool.not_true, Bool.not_false] at h) <;> (try simp only [h]) <;> (try simp only [hsB] at h) <;> try (exfalso; first | omega | contradiction)) | fail)); all_goals clear kxs)
  refine AL.one (by decide) fun Kr hr => ?_
  (try simp only [ao, List.map_cons, List.map_nil]); simp (disch := omega) only [go_sem]
  intro b hb
  refine hr _ _ ?_
  clear hr Kr
  cases b with
  | true =>
    have h0 : v = [] := List.length_eq_zero_iff.1 (hb rfl)
    subst h0
    focus (have kxs : 987654321 = 987654320 + 1 := rfl; (repeat' (first | refine G ?_ | refine AW.ret ?_ | (refine GC ?_ ?_ <;> intro h <;> (try simp only [hsB] at h) <;> try (exfalso; first | omega | contradiction)) | (refine GL ?_ ?_ <;> intro h <;> (try simp only [Bool.not_true, Bool.not_false] at h) <;> (try simp only [h]) <;> (try simp only [hsB] at h) <;> try (exfalso; first | omega | contradiction)) | fail)); all_goals clear kxs)
    all_goals first | ((all_goals first | exact RetQ.fr 0 | exact RetQ.fn 0 | fail); done) | (exfalso; simp_all; done)
  | false =>
    focus (have kxs := hon; (repeat' (first | refine G ?_ | refine AW.ret ?_ | (refine GC ?_ ?_ <;> intro h <;> (try simp only [hsB] at h) <;> try (exfalso; first | omega | contradiction)) | (refine GL ?_ ?_ <;> intro h <;> (try simp only [Bool.not_true, Bool.not_false] at h) <;> (try simp only [h]) <;> (try simp only [hsB] at h) <;> try (exfalso; first | omega | contradiction)) | fail)); all_goals clear kxs)
    all_goals first | ((all_goals first | exact RetQ.fr 0 | exact RetQ.fn 0 | fail); done) | (exfalso; simp_all; done)
theorem clone_Sl (v : List Sl) (hv : v.length ≤ 1000000) : AC Tryz.prog 271 [.d (.l v.length (slsD v))] [] fun x σ => x = .d (.l v.length (slsD v)) ∧ σ = [] := by
  refine AC.walk Tryz.func271 rfl (by decide) (of_decide_eq_true rfl) ?_
  have hol : (slsD v).length = v.length * 2 := flat_len (f := slD) (sz := 2) (fun _ => rfl) v
  have hon : onesD (slsD v) = true := onesD_flat slD (fun _ => rfl) v
  focus (have kxs : 987654321 = 987654320 + 1 := rfl; (repeat' (first | refine G ?_ | refine AW.ret ?_ | (refine GC ?_ ?_ <;> intro h <;> (try simp only [hsB] at h) <;> try (exfalso; first | omega | contradiction)) | (refine GL ?_ ?_ <;> intro h <;> (try simp only [Bool.not_true, Bool.not_false] at h) <;> (try simp only [h]) <;> (try simp only [hsB] at h) <;> try (exfalso; first | omega | contradiction)) | fail)); all_goals clear kxs)
  refine AL.one (by decide) fun Kr hr => ?_
  (try simp only [ao, List.map_cons, List.map_nil]); simp (disch := omega) only [go_sem]
  intro b hb
  refine hr _ _ ?_
  clear hr Kr
  cases b with
  | true =>
    have h0 : v = [] := List.length_eq_zero_iff.1 (hb rfl)
    subst h0
    focus (have kxs : 987654321 = 987654320 + 1 := rfl; (repeat' (first | refine G ?_ | refine AW.ret ?_ | (refine GC ?_ ?_ <;> intro h <;> (try simp only [hsB] at h) <;> try (exfalso; first | omega | contradiction)) | (refine GL ?_ ?_ <;> intro h <;> (try simp only [Bool.not_true, Bool.not_false] at h) <;> (try simp only [h]) <;> (try simp only [hsB] at h) <;> try (exfalso; first | omega | contradiction)) | fail)); all_goals clear kxs)
    all_goals first | ((all_goals first | exact RetQ.fr 0 | exact RetQ.fn 0 | fail); done) | (exfalso; simp_all; done)
  | false =>
    focus (have kxs := hon; (repeat' (first | refine G ?_ | refine AW.ret ?_ | (refine GC ?_ ?_ <;> intro h <;> (try simp only [hsB] at h) <;> try (exfalso; first | omega | contradiction)) | (refine GL ?_ ?_ <;> intro h <;> (try simp only [Bool.not_true, Bool.not_false] at h) <;> (try simp only [h]) <;> (try simp only [hsB] at h) <;> try (exfalso; first | omega | contradiction)) | fail)); all_goals clear kxs)
    all_goals first | ((all_goals first | exact RetQ.fr 0 | exact RetQ.fn 0 | fail); done) | (exfalso; simp_all; done)
theorem over_page (m : Mg) (d0 d1 d2 d3 d4 d5 d6 d7 d8 d9 d10 d11 d12 d13 d14 d15 d16 d17 d18 d19 : D) (h1 : m.page.slots.length ≤ 1000000) (h2 : m.page.items.length ≤ 1000000) : AC Tryz.prog 270 [.p 0 0, mgV m] [.box 38 [.d d0, .d d1, .d d2, .d d3, .d d4, .d d5, .d d6, .d d7, .d d8, .d d9, .d d10, .d d11, .d d12, .d d13, .d d14, .d d15, .d d16, .d d17, .d d18, .d d19]] fun y σ => y = .t [] ∧ σ = [.box 38 [.d d0, .d d1, .d d2, .d d3, .d d4, .d d5, .d d6, .d d7, .d d8, .d d9, .d d10, .d d11, .d d12, sv (bs m.page.pre), bv m.page.leaf, .d (.l m.page.slots.length (slsD m.page.slots)), .d (.l m.page.items.length (itsD m.page.items)), .d d17, .d d18, .d d19]] := by
  refine AC.walk Tryz.func270 rfl (by decide) (of_decide_eq_true rfl) ?_
  have hc1 := clone_Sl m.page.slots h1
  have hc2 := clone_It m.page.items h2
  focus (have kxs : 987654321 = 987654320 + 1 := rfl; have kk1 := uN [] (hc1); have kk2 := uN [] (hc2); (repeat' (first | (refine ADr.nil ?_; try clear hgv) | refine GW ?_ | refine AW.ret ?_ | (refine GC ?_ ?_ <;> intro h <;> (try simp only [hsB] at h) <;> try (exfalso; first | omega | contradiction)) | (refine GD ?_ ?_ <;> intro h <;> (try intro hgv) <;> (try simp only [Bool.not_true, Bool.not_false] at h) <;> (try simp only [h]) <;> (try simp only [hsB] at h) <;> try (exfalso; first | omega | contradiction)) | (refine GL ?_ ?_ <;> intro h <;> (try simp only [Bool.not_true, Bool.not_false] at h) <;> (try simp only [h]) <;> (try simp only [hsB] at h) <;> try (exfalso; first | omega | contradiction)) | fail)); all_goals clear kxs kk1 kk2)
  all_goals first | ((all_goals first | exact RetQ.fr 1 | exact RetQ.fn 1 | fail); done) | (exfalso; omega) | (exfalso; simp_all; done)
end Go.AW
