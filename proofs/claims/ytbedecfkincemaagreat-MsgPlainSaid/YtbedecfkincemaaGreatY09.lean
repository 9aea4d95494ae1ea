/-
  objects: what is right: the program's and the document's.
-/
import Derived.Test.YtbedecfkincemaaGreatY08
import Derived.Test.YtbedecfkincemaaGreatY04
import Derived.Test.YtbedecfkincemaaGreatY05
import Derived.Test.YtbedecfkincemaaGreatY06
namespace Go.AW
open Go Go.Proofs
set_option maxHeartbeats 2000000
set_option maxRecDepth 10000
set_option linter.unusedSimpArgs false
set_option linter.unusedVariables false
attribute [local irreducible] thenQ blockQ RetQ AL AW AC AOp

abbrev ojV (o : Oj) : V := .a [sv (bs o.key), .d (.l o.sibs.length (sbsD o.sibs))]
def Oj.fits (o : Oj) : Prop := o.key.length ≤ 9223372036854775807 ∧ o.sibs.length ≤ 9223372036854775807 ∧ ∀ x ∈ o.sibs, x.fits
theorem Sb.key_of {x : Sb} (h : x.check = 0) (hf : x.fits) : (clke x.clk).1 = skey x := by
  rw [clke_good ⟨(Sb.check_parts h).1, hf.1.1.2.2, hf.1.2.2⟩]
theorem object_outside (key : List UInt8) (n : Nat) (hk : key.length ≤ 9223372036854775807) (hn : n ≤ 9223372036854775807) : AC Tryz.prog 302 [sv (bs key), iv .i64 n] [] fun x σ => x = iv .i64 (outside key n) ∧ σ = [] := by
  refine AC.walk Tryz.func302 rfl (by decide) (of_decide_eq_true rfl) ?_
  unfold outside
  have hke : key = [] ↔ key.length = 0 := List.length_eq_zero_iff.symm
  focus (have kxs : 987654321 = 987654320 + 1 := rfl; (repeat' (first | refine G ?_ | refine AW.ret ?_ | (refine GC ?_ ?_ <;> intro h <;> (try simp only [hsB] at h) <;> try (exfalso; first | omega | contradiction)) | (refine GL ?_ ?_ <;> intro h <;> (try simp only [Bool.not_true, Bool.not_false] at h) <;> (try simp only [h]) <;> (try simp only [hsB] at h) <;> try (exfalso; first | omega | contradiction)) | fail)); all_goals clear kxs)
  all_goals first
    | (rw [if_pos (by omega)]; (first | exact RetQ.zr 0 | exact RetQ.zn 0 | fail))
    | (rw [if_neg (by omega), if_pos (by first | assumption | (rw [hke]; omega))]; (first | exact RetQ.zr 0 | exact RetQ.zn 0 | fail))
    | (rw [if_neg (by omega), if_neg (by first | assumption | (rw [hke]; omega)), if_pos (by omega)]; (first | exact RetQ.zr 0 | exact RetQ.zn 0 | fail))
    | (rw [if_neg (by omega), if_neg (by first | assumption | (rw [hke]; omega)), if_neg (by omega), if_pos (by omega)]; (first | exact RetQ.zr 0 | exact RetQ.zn 0 | fail))
    | (rw [if_neg (by omega), if_neg (by first | assumption | (rw [hke]; omega)), if_neg (by omega), if_neg (by omega)]; (first | exact RetQ.zr 0 | exact RetQ.zn 0 | fail))
theorem object_clock (x : Sb) (hx : x.fits) : AC Tryz.prog 304 [sbV x] [] fun y σ => y = sv (bs (clke x.clk).1) ∧ σ = [] := by
  refine AC.walk Tryz.func304 rfl (by decide) (of_decide_eq_true rfl) ?_
  focus (have kxs : 987654321 = 987654320 + 1 := rfl; have kk1 := uN [] (dcode_Encode x.clk hx.1); (repeat' (first | refine G ?_ | refine AW.ret ?_ | (refine GC ?_ ?_ <;> intro h <;> (try simp only [hsB] at h) <;> try (exfalso; first | omega | contradiction)) | (refine GL ?_ ?_ <;> intro h <;> (try simp only [Bool.not_true, Bool.not_false] at h) <;> (try simp only [h]) <;> (try simp only [hsB] at h) <;> try (exfalso; first | omega | contradiction)) | fail)); all_goals clear kxs kk1)
  all_goals first | ((all_goals first | exact RetQ.fr 0 | exact RetQ.fn 0 | fail); done)
theorem object_key (x : Sb) (hx : x.fits) (hc : x.check = 0) : AC Tryz.prog 304 [sbV x] [] fun y σ => y = sv (bs (skey x)) ∧ σ = [] := by
  have := object_clock x hx
  rw [Sb.key_of hc hx] at this
  exact this
theorem jstep {last : List UInt8} {x : Sb} {r : List Sb} {R : Int} (h : jcheck last (x :: r) = R) : R = if x.check ≠ 0 then x.check else if lessB last (skey x) = false then 6 else jcheck (skey x) r := h.symm
theorem object_Check (o : Oj) (ho : o.fits) : AC Tryz.prog 240 [ojV o] [] fun x σ => x = iv .i64 o.check ∧ σ = [] := by
  obtain ⟨key, l⟩ := o
  obtain ⟨hk, hl, hf⟩ := ho
  simp only at hk hl hf
  refine AC.walk Tryz.func240 rfl (by decide) (of_decide_eq_true rfl) ?_
  by_cases ho : outside key l.length = 0
  case neg =>
    have hR : Oj.check ⟨key, l⟩ = outside key l.length := by unfold Oj.check; rw [if_pos ho]
    rw [hR]
    focus (have kxs : 987654321 = 987654320 + 1 := rfl; have kk1 := uN [] (object_outside key l.length hk hl); (repeat' (first | refine G ?_ | refine AW.ret ?_ | (refine GC ?_ ?_ <;> intro h <;> (try simp only [hsB] at h) <;> try (exfalso; first | omega | contradiction)) | (refine GL ?_ ?_ <;> intro h <;> (try simp only [Bool.not_true, Bool.not_false] at h) <;> (try simp only [h]) <;> (try simp only [hsB] at h) <;> try (exfalso; first | omega | contradiction)) | fail)); all_goals clear kxs kk1)
    all_goals first | ((all_goals first | exact RetQ.fr 0 | exact RetQ.fn 0 | fail); done) | (exfalso; simp_all; done)
  generalize hR : jcheck [] l = R
  have hc : Oj.check ⟨key, l⟩ = R := by unfold Oj.check; rw [if_neg (by simpa using ho), hR]
  rw [hc]
  focus (have kxs := ho; have kk1 := uN [] (object_outside key l.length hk hl); (repeat' (first | refine G ?_ | refine AW.ret ?_ | (refine GC ?_ ?_ <;> intro h <;> (try simp only [hsB] at h) <;> try (exfalso; first | omega | contradiction)) | (refine GL ?_ ?_ <;> intro h <;> (try simp only [Bool.not_true, Bool.not_false] at h) <;> (try simp only [h]) <;> (try simp only [hsB] at h) <;> try (exfalso; first | omega | contradiction)) | fail)); all_goals clear kxs kk1)
  all_goals first | (exfalso; simp_all; done) | skip
  refine AW.rounds [2, 4, 19, 20, 21] (fun x : Nat × List UInt8 => [(2, iv .i64 0), (4, sv (bs x.2)), (19, .d (.l l.length (sbsD l))), (20, iv .i64 l.length), (21, iv .i64 x.1)]) (fun _ => [])
    (fun x => x.1 ≤ l.length ∧ (x.1 = 0 → x.2 = []) ∧ jcheck x.2 (l.drop x.1) = R) (fun x => l.length - x.1) (0, []) ⟨Nat.zero_le _, fun _ => rfl, hR⟩ rfl rfl (fun _ _ => Nat.zero_le _) (fun _ _ => rfl) (fun _ _ => rfl) ?_
  rintro ⟨i, p⟩ ⟨hi, hp, hr⟩ J hJ
  simp only at hi hp hr ⊢
  by_cases hil : i < l.length
  case neg =>
    have h0 : l.drop i = [] := List.drop_eq_nil_of_le (by omega)
    rw [h0] at hr
    have hR0 : R = 0 := hr.symm
    rw [hR0]
    focus (have kxs : 987654321 = 987654320 + 1 := rfl; (repeat' (first | refine G ?_ | refine AW.ret ?_ | (refine GC ?_ ?_ <;> intro h <;> (try simp only [hsB] at h) <;> try (exfalso; first | omega | contradiction)) | (refine GL ?_ ?_ <;> intro h <;> (try simp only [Bool.not_true, Bool.not_false] at h) <;> (try simp only [h]) <;> (try simp only [hsB] at h) <;> try (exfalso; first | omega | contradiction)) | fail)); all_goals clear kxs)
    all_goals first | (first | exact RetQ.zr 0 | exact RetQ.zn 0 | fail) | (exfalso; simp_all; done)
  obtain ⟨x, r, hd⟩ := next_at hil
  have hcd := sbs_drop hd
  rw [hd] at hr
  have hR2 := jstep hr
  have hfx := hf x (next_mem hd)
  by_cases hxc : x.check = 0
  case neg =>
    rw [if_pos hxc] at hR2
    rw [hR2]
    focus (have kxs := hcd; have kk1 := uN [] (sibling_Check x hfx); (repeat' (first | refine G ?_ | refine AW.ret ?_ | (refine GC ?_ ?_ <;> intro h <;> (try simp only [hsB] at h) <;> try (exfalso; first | omega | contradiction)) | (refine GL ?_ ?_ <;> intro h <;> (try simp only [Bool.not_true, Bool.not_false] at h) <;> (try simp only [h]) <;> (try simp only [hsB] at h) <;> try (exfalso; first | omega | contradiction)) | fail)); all_goals clear kxs kk1)
    all_goals first | (first | exact RetQ.zr 0 | exact RetQ.zn 0 | fail) | (exfalso; simp_all; done)
  rw [if_neg (by simpa using hxc)] at hR2
  have htri := less_tri (skey x) p
  by_cases hls : lessB p (skey x) = true
  · have hls' : Op.bytesLess p (skey x) = true := hls
    rw [if_neg (by rw [hls]; decide)] at hR2
    focus (have kxs := And.intro hcd (And.intro hxc (And.intro htri hls')); have kk1 := uN [] (sibling_Check x hfx); have kk2 := uN [] (object_key x hfx hxc); (repeat' (first | refine G ?_ | refine AW.ret ?_ | (refine GC ?_ ?_ <;> intro h <;> (try simp only [hsB] at h) <;> try (exfalso; first | omega | contradiction)) | (refine GL ?_ ?_ <;> intro h <;> (try simp only [Bool.not_true, Bool.not_false] at h) <;> (try simp only [h]) <;> (try simp only [hsB] at h) <;> try (exfalso; first | omega | contradiction)) | fail)); all_goals clear kxs kk1 kk2)
    all_goals first | (refine hJ (i + 1, skey x) _ _ (by simp only; omega) ⟨hil, fun h => absurd h (Nat.succ_ne_zero i), by rw [next_drop hd]; exact hR2.symm⟩ rfl rfl) | (exfalso; simp_all; done)
  · have hls : lessB p (skey x) = false := by simpa using hls
    have hls' : Op.bytesLess p (skey x) = false := hls
    rw [if_pos hls] at hR2
    have hi0 : i ≠ 0 := fun h => by rw [hp h, skey_first] at hls; cases hls
    rw [hR2]
    focus (have kxs := And.intro hcd (And.intro hxc (And.intro htri hls')); have kk1 := uN [] (sibling_Check x hfx); have kk2 := uN [] (object_key x hfx hxc); (repeat' (first | refine G ?_ | refine AW.ret ?_ | (refine GC ?_ ?_ <;> intro h <;> (try simp only [hsB] at h) <;> try (exfalso; first | omega | contradiction)) | (refine GL ?_ ?_ <;> intro h <;> (try simp only [Bool.not_true, Bool.not_false] at h) <;> (try simp only [h]) <;> (try simp only [hsB] at h) <;> try (exfalso; first | omega | contradiction)) | fail)); all_goals clear kxs kk1 kk2)
    all_goals first | (first | exact RetQ.zr 0 | exact RetQ.zn 0 | fail) | (exfalso; omega) | (exfalso; simp_all; done)

/-- The sibling ahead of place i. -/
def sahead (l : List Sb) (i : Nat) (p : List UInt8) : Prop := (i = 0 ∧ p = []) ∨ (0 < i ∧ ∃ y r, l.drop (i - 1) = y :: r ∧ y.check = 0 ∧ skey y = p)
theorem ref16_Great (o : Oj) (ho : o.fits) : AC Tryz.prog 76 [ojV o] [] fun x σ => x = bv o.great ∧ σ = [] := by
  obtain ⟨key, l⟩ := o
  obtain ⟨hk, hl, hf⟩ := ho
  simp only at hk hl hf
  refine AC.walk Tryz.func76 rfl (by decide) (of_decide_eq_true rfl) ?_
  by_cases h0 : 200 < key.length ∨ 20 < l.length
  · have hc : Oj.great ⟨key, l⟩ = true := by unfold Oj.great; rcases h0 with h | h <;> simp [h]
    rw [hc]
    focus (have kxs : 987654321 = 987654320 + 1 := rfl; (repeat' (first | refine G ?_ | refine AW.ret ?_ | (refine GC ?_ ?_ <;> intro h <;> (try simp only [hsB] at h) <;> try (exfalso; first | omega | contradiction)) | (refine GL ?_ ?_ <;> intro h <;> (try simp only [Bool.not_true, Bool.not_false] at h) <;> (try simp only [h]) <;> (try simp only [hsB] at h) <;> try (exfalso; first | omega | contradiction)) | fail)); all_goals clear kxs)
    all_goals first | (exfalso; omega) | ((all_goals first | exact RetQ.fr 0 | exact RetQ.fn 0 | fail); done)
  generalize hR : l.any Sb.great = R
  have hc : Oj.great ⟨key, l⟩ = R := by
    unfold Oj.great
    simp only
    rw [hR, decide_eq_false (fun h => h0 (.inl h)), decide_eq_false (fun h => h0 (.inr h))]; rfl
  rw [hc]
  focus (have kxs : 987654321 = 987654320 + 1 := rfl; (repeat' (first | refine G ?_ | refine AW.ret ?_ | (refine GC ?_ ?_ <;> intro h <;> (try simp only [hsB] at h) <;> try (exfalso; first | omega | contradiction)) | (refine GL ?_ ?_ <;> intro h <;> (try simp only [Bool.not_true, Bool.not_false] at h) <;> (try simp only [h]) <;> (try simp only [hsB] at h) <;> try (exfalso; first | omega | contradiction)) | fail)); all_goals clear kxs)
  all_goals first | (exfalso; omega) | skip
  refine AW.rounds [1, 2, 3] (fun i : Nat => [(1, .p 0 0), (2, bv false), (3, iv .i64 i)]) (fun _ => [.box 26 [sv (bs key), .d (.l l.length (sbsD l))]])
    (fun i => i ≤ l.length ∧ (l.drop i).any Sb.great = R) (fun i => l.length - i) 0 ⟨Nat.zero_le _, hR⟩ rfl rfl (fun _ _ => Nat.zero_le _) (fun _ _ => rfl) (fun _ _ => rfl) ?_
  rintro i ⟨hi, hr⟩ J hJ
  by_cases hil : i < l.length
  · obtain ⟨x, r, hd⟩ := next_at hil
    have hcd := sbs_drop hd
    have hnd := next_drop hd
    rw [hd, List.any_cons] at hr
    have hfx := hf x (next_mem hd)
    by_cases hg : x.great = true
    · rw [hg, Bool.true_or] at hr
      rw [← hr]
      focus (have kxs := And.intro hcd hg; have kk1 := uN [] (ref15_Great x hfx); (repeat' (first | refine G ?_ | refine AW.ret ?_ | (refine GC ?_ ?_ <;> intro h <;> (try simp only [hsB] at h) <;> try (exfalso; first | omega | contradiction)) | (refine GL ?_ ?_ <;> intro h <;> (try simp only [Bool.not_true, Bool.not_false] at h) <;> (try simp only [h]) <;> (try simp only [hsB] at h) <;> try (exfalso; first | omega | contradiction)) | fail)); all_goals clear kxs kk1)
      all_goals first | ((all_goals first | exact RetQ.fr 0 | exact RetQ.fn 0 | fail); done) | (exfalso; simp_all; done)
    have hg : x.great = false := by simpa using hg
    rw [hg, Bool.false_or] at hr
    focus (have kxs := And.intro hcd hg; have kk1 := uN [] (ref15_Great x hfx); (repeat' (first | refine G ?_ | refine AW.ret ?_ | (refine GC ?_ ?_ <;> intro h <;> (try simp only [hsB] at h) <;> try (exfalso; first | omega | contradiction)) | (refine GL ?_ ?_ <;> intro h <;> (try simp only [Bool.not_true, Bool.not_false] at h) <;> (try simp only [h]) <;> (try simp only [hsB] at h) <;> try (exfalso; first | omega | contradiction)) | fail)); all_goals clear kxs kk1)
    all_goals first | (refine hJ (i + 1) _ _ (by omega) ⟨hil, by rw [hnd]; exact hr⟩ rfl rfl) | (exfalso; simp_all; done)
  · have h0 : l.drop i = [] := List.drop_eq_nil_of_le (by omega)
    rw [h0] at hr
    have hR0 : R = false := hr.symm
    rw [hR0]
    focus (have kxs : 987654321 = 987654320 + 1 := rfl; (repeat' (first | refine G ?_ | refine AW.ret ?_ | (refine GC ?_ ?_ <;> intro h <;> (try simp only [hsB] at h) <;> try (exfalso; first | omega | contradiction)) | (refine GL ?_ ?_ <;> intro h <;> (try simp only [Bool.not_true, Bool.not_false] at h) <;> (try simp only [h]) <;> (try simp only [hsB] at h) <;> try (exfalso; first | omega | contradiction)) | fail)); all_goals clear kxs)
    all_goals first | ((all_goals first | exact RetQ.fr 0 | exact RetQ.fn 0 | fail); done)

theorem oj_eq (k o : Oj) : (decide (k.key = o.key) && decide (k.sibs = o.sibs)) = true ↔ k = o := by
  obtain ⟨a, b⟩ := k
  obtain ⟨d, e⟩ := o
  simp
instance : DecidableEq Oj := fun k o => decidable_of_iff _ (oj_eq k o)
end Go.AW
/-
  Plain: rings: how they are read and written.
-/
namespace Go.AW
set_option linter.unusedVariables false

/-- A member: name, epoch, state, tokens. -/
structure Mb where
  name : List UInt8
  ep : Nat
  st : Nat
  toks : List Nat
abbrev Ring := List Mb

/-! ### Numbers of eight bytes -/

def val8 (l : List UInt8) : Nat := l.foldl (fun n b => n * 256 + b.toNat) 0
def enc8 (n : Nat) : List UInt8 := [UInt8.ofNat (n / 72057594037927936), UInt8.ofNat (n / 281474976710656), UInt8.ofNat (n / 1099511627776), UInt8.ofNat (n / 4294967296), UInt8.ofNat (n / 16777216), UInt8.ofNat (n / 65536), UInt8.ofNat (n / 256), UInt8.ofNat n]
def Cu.num8 (c : Cu) : Nat × Cu := (val8 (c.bytes 8).1, (c.bytes 8).2)
/-! ### Tokens -/

def after (p : Option Nat) (t : Nat) : Bool := match p with | none => true | some q => decide (q < t)
def rises : Option Nat → List Nat → Bool
  | _, [] => true
  | p, t :: r => after p t && rises (some t) r
def Cu.tok (p : Option Nat) (c : Cu) : Nat × Cu := (c.num8.1, gd (after p c.num8.1) 6 c.num8.2)
def Cu.toks (n : Nat) (p : Option Nat) (c : Cu) : List Nat × Cu := Cu.many Cu.tok (fun _ t => some t) n p c
def Cu.tokl (c : Cu) : List Nat × Cu := ((c.count 16).2.toks (c.count 16).1 none)
def etoks (l : List Nat) : List UInt8 := vput l.length ++ (l.map enc8).flatten
def gtok (p : Option Nat) (t : Nat) : Prop := t < 18446744073709551616 ∧ after p t = true
def gtoks (l : List Nat) : Prop := l.length ≤ 16 ∧ rises none l = true ∧ ∀ t ∈ l, t < 18446744073709551616
/-! ### Members -/

def Cu.stt (c : Cu) : Nat × Cu := (c.byte.1, gd (decide (c.byte.1 ≤ 3)) 13 c.byte.2)
def estt (n : Nat) : List UInt8 := [UInt8.ofNat n]
def Cu.mem0 (p : List UInt8) (c : Cu) : (List UInt8 × (Nat × (Nat × List Nat))) × Cu := rseq (Cu.actor 32 p) (fun _ => rseq Cu.vnz (fun _ => rseq Cu.stt (fun _ c => Cu.tokl c))) c
def Cu.mem (p : List UInt8) (c : Cu) : Mb × Cu := (⟨(c.mem0 p).1.1, (c.mem0 p).1.2.1, (c.mem0 p).1.2.2.1, (c.mem0 p).1.2.2.2⟩, (c.mem0 p).2)
def emem (x : Mb) : List UInt8 := eblob x.name ++ (vput x.ep ++ (estt x.st ++ etoks x.toks))
def gmem (p : List UInt8) (x : Mb) : Prop := (x.name.length ≤ 32 ∧ x.name ≠ [] ∧ lessB p x.name = true) ∧ (x.ep ≠ 0 ∧ x.ep < 18446744073709551616) ∧ x.st ≤ 3 ∧ gtoks x.toks
/-! ### Rings -/

def mcheck : List UInt8 → Ring → Int
  | _, [] => 0
  | p, x :: r => if 32 < x.name.length then 3 else if x.name = [] then 14 else if lessB p x.name = false then 6 else if x.ep = 0 then 7 else if 3 < x.st then 13 else if 16 < x.toks.length then 3 else if rises none x.toks = false then 6 else mcheck x.name r
def Ring.check (l : Ring) : Int := if 32 < l.length then 3 else mcheck [] l
def Ring.great (l : Ring) : Bool := decide (40 < l.length) || l.any fun x => decide (100 < x.name.length) || decide (30 < x.toks.length)
/-- Numbers that fit. -/
def Mb.fits (x : Mb) : Prop := x.ep < 18446744073709551616 ∧ x.st < 256 ∧ ∀ t ∈ x.toks, t < 18446744073709551616
def gring (l : Ring) : Prop := Ring.check l = 0 ∧ ∀ x ∈ l, x.fits
def Cu.mems (n : Nat) (p : List UInt8) (c : Cu) : Ring × Cu := Cu.many Cu.mem (fun _ x => x.name) n p c
def Cu.ring (c : Cu) : Ring × Cu :=
  (if ((c.count 32).2.mems (c.count 32).1 []).2.e ≠ 0 then [] else ((c.count 32).2.mems (c.count 32).1 []).1, ((c.count 32).2.mems (c.count 32).1 []).2)
def ering (l : Ring) : List UInt8 := vput l.length ++ (l.map emem).flatten
/-- What a text is read as; a ring's bytes. -/
abbrev ringw (s : List UInt8) : Ring × Int := rdw Cu.ring [] s
def ringe (l : Ring) : List UInt8 × Int := if Ring.check l ≠ 0 then ([], Ring.check l) else (ering l, 0)
theorem mcheck_parts : ∀ (l : Ring) (p : List UInt8), mcheck p l = 0 → ∀ x ∈ l, x.name.length ≤ 32 ∧ x.name ≠ [] ∧ x.ep ≠ 0 ∧ x.st ≤ 3 ∧ x.toks.length ≤ 16 ∧ rises none x.toks = true
  | [], p, h => by simp
  | x :: l, p, h => by
    unfold mcheck at h
    split at h
    · exact absurd h (by decide)
    split at h
    · exact absurd h (by decide)
    split at h
    · exact absurd h (by decide)
    split at h
    · exact absurd h (by decide)
    split at h
    · exact absurd h (by decide)
    split at h
    · exact absurd h (by decide)
    split at h
    · exact absurd h (by decide)
    rename_i a1 a2 a3 a4 a5 a6 a7
    intro y hy
    rcases List.mem_cons.1 hy with rfl | hy
    · exact ⟨by omega, a2, a4, by omega, by omega, by simpa using a7⟩
    · exact mcheck_parts l x.name h y hy
theorem Ring.check_parts {l : Ring} (h : Ring.check l = 0) : l.length ≤ 32 ∧ ∀ x ∈ l, x.name.length ≤ 32 ∧ x.name ≠ [] ∧ x.ep ≠ 0 ∧ x.st ≤ 3 ∧ x.toks.length ≤ 16 ∧ rises none x.toks = true := by
  unfold Ring.check at h
  split at h
  · exact absurd h (by decide)
  · exact ⟨by omega, mcheck_parts l [] h⟩
theorem enc8_flat : ∀ l : List Nat, ((l.map enc8).flatten).length = l.length * 8
  | [] => rfl
  | t :: l => by
    rw [List.map_cons, List.flatten_cons, List.length_append, enc8_flat l, List.length_cons]
    show 8 + _ = _
    omega
theorem emem_len {x : Mb} (h1 : x.name.length ≤ 32) (h2 : x.ep < 18446744073709551616) (h3 : x.toks.length ≤ 16) : (emem x).length ≤ 191 := by
  have e1 := vput_len10 (n := x.name.length) (by omega)
  have e2 := vput_len10 h2
  have e3 := vput_len10 (n := x.toks.length) (by omega)
  unfold emem eblob estt etoks
  simp only [List.length_append, List.length_cons, List.length_nil, enc8_flat]
  omega
theorem ering_len {l : Ring} (h : gring l) : (ering l).length ≤ 7000 := by
  obtain ⟨h1, h2⟩ := Ring.check_parts h.1
  have hb := flat_bound emem 191 l fun x hx => emem_len (h2 x hx).1 (h.2 x hx).1 (h2 x hx).2.2.2.2.1
  have : l.length * 191 ≤ 32 * 191 := Nat.mul_le_mul h1 (by decide)
  have e1 := vput_len10 (n := l.length) (by omega)
  unfold ering
  rw [List.length_append]
  omega
end Go.AW
/-
  Plain: pages: how they are read and written.
-/
namespace Go.AW
set_option linter.unusedVariables false
set_option linter.unusedSimpArgs false

abbrev It := List UInt8 × List UInt8
abbrev Sl := Nat × List UInt8
structure Pg where
  pre : List UInt8
  leaf : Bool
  slots : List Sl
  items : List It
deriving DecidableEq
def pg0 : Pg := ⟨[], false, [], []⟩

def begins (s w : List UInt8) : Bool := decide (w.length ≤ s.length) && decide (s.take w.length = w)
def afterL (p : Option (List UInt8)) (t : List UInt8) : Bool := match p with | none => true | some q => lessB q t
def itcheck (pre : List UInt8) : Option (List UInt8) → List It → Int
  | _, [] => 0
  | p, x :: r => if x.1.length ≠ 32 then 1 else if begins x.1 pre = false then 18 else if afterL p x.1 = false then 6 else if x.2.length ≠ 32 then 1 else itcheck pre (some x.1) r
def slcheck : Option Nat → List Sl → Int
  | _, [] => 0
  | p, x :: r => if after p x.1 = false then 6 else if x.2.length ≠ 32 then 1 else slcheck (some x.1) r
def Pg.check (g : Pg) : Int :=
  if 31 < g.pre.length then 3 else if g.leaf = true then (if g.slots ≠ [] then 1 else if 8 < g.items.length then 3 else itcheck g.pre none g.items)
  else (if g.items ≠ [] then 1 else if 256 < g.slots.length then 3 else if g.slots = [] then 7 else slcheck none g.slots)
def Pg.great (g : Pg) : Bool := decide (100 < g.pre.length) || decide (300 < g.slots.length) || decide (20 < g.items.length) || (g.slots.any fun x => decide (100 < x.2.length)) || g.items.any fun x => decide (100 < x.1.length) || decide (100 < x.2.length)

/-! ### Read -/

def Cu.ikey (pre : List UInt8) (p : Option (List UInt8)) (c : Cu) : List UInt8 × Cu := ((c.bytes 32).1, gd (afterL p (c.bytes 32).1) 6 (gd (begins (c.bytes 32).1 pre) 18 (c.bytes 32).2))
def Cu.item (pre : List UInt8) (p : Option (List UInt8)) (c : Cu) : It × Cu := rseq (Cu.ikey pre p) (fun _ c => Cu.bytes c 32) c
def Cu.sidx (p : Option Nat) (c : Cu) : Nat × Cu := (c.byte.1, gd (after p c.byte.1) 6 c.byte.2)
def Cu.slot (p : Option Nat) (c : Cu) : Sl × Cu := rseq (Cu.sidx p) (fun _ c => Cu.bytes c 32) c
def Cu.itemn (pre : List UInt8) (n : Nat) (c : Cu) : List It × Cu := Cu.many (Cu.item pre) (fun _ x => some x.1) n none c
def Cu.items (pre : List UInt8) (c : Cu) : List It × Cu := Cu.itemn pre (c.count 8).1 (c.count 8).2
def Cu.slotn (n : Nat) (c : Cu) : List Sl × Cu := Cu.many Cu.slot (fun _ x => some x.1) n none c
def Cu.count7 (c : Cu) : Nat × Cu := ((c.count 256).1, gd (decide ((c.count 256).1 ≠ 0)) 7 (c.count 256).2)
def Cu.slots (c : Cu) : List Sl × Cu := Cu.slotn c.count7.1 c.count7.2
def Cu.pbody (pre : List UInt8) (leaf : Bool) (c : Cu) : (List Sl × List It) × Cu := if leaf = true then (([], (c.items pre).1), (c.items pre).2) else ((c.slots.1, []), c.slots.2)
def Cu.page0 (c : Cu) : (List UInt8 × (Bool × (List Sl × List It))) × Cu := rseq (fun c => Cu.blob c 31) (fun pre => rseq Cu.flag (fun leaf => Cu.pbody pre leaf)) c
def Cu.page1 (c : Cu) : Pg × Cu := (⟨c.page0.1.1, c.page0.1.2.1, c.page0.1.2.2.1, c.page0.1.2.2.2⟩, c.page0.2)
def Cu.page (c : Cu) : Pg × Cu := (if c.page1.2.e ≠ 0 then pg0 else c.page1.1, c.page1.2)

def eit (x : It) : List UInt8 := x.1 ++ x.2
def esl (x : Sl) : List UInt8 := estt x.1 ++ x.2
def eits (l : List It) : List UInt8 := vput l.length ++ (l.map eit).flatten
def esls (l : List Sl) : List UInt8 := vput l.length ++ (l.map esl).flatten
def ebody (leaf : Bool) (x : List Sl × List It) : List UInt8 := if leaf = true then eits x.2 else esls x.1
def epage (g : Pg) : List UInt8 := eblob g.pre ++ (eflag g.leaf ++ ebody g.leaf (g.slots, g.items))
def git (pre : List UInt8) (p : Option (List UInt8)) (x : It) : Prop := ((x.1.length = 32 ∧ begins x.1 pre = true) ∧ afterL p x.1 = true) ∧ x.2.length = 32
def gsl (p : Option Nat) (x : Sl) : Prop := (x.1 < 256 ∧ after p x.1 = true) ∧ x.2.length = 32
def gits (pre : List UInt8) (l : List It) : Prop := l.length ≤ 8 ∧ itcheck pre none l = 0
def gsls (l : List Sl) : Prop := l.length ≤ 256 ∧ l ≠ [] ∧ slcheck none l = 0 ∧ ∀ x ∈ l, x.1 < 256
def gpage (g : Pg) : Prop := g.check = 0 ∧ ∀ x ∈ g.slots, x.1 < 256
/-! ### Written -/

def Pe.it (p : Pe) (x : It) : Pe := (p.text x.1).text x.2
def Pe.sl (p : Pe) (x : Sl) : Pe := (p.text (estt x.1)).text x.2
def Pe.its (p : Pe) (l : List It) : Pe := l.foldl Pe.it p
def Pe.sls (p : Pe) (l : List Sl) : Pe := l.foldl Pe.sl p
def Pe.pbody (p : Pe) (g : Pg) : Pe := if g.leaf = true then (p.count 8 g.items.length).its g.items else (p.count 256 g.slots.length).sls g.slots
def Pe.page (p : Pe) (g : Pg) : Pe := if g.check ≠ 0 then p.fail g.check else ((p.blob 31 g.pre).flag g.leaf).pbody g
theorem Pens.ite {α : Type} {W W' : Pe → α → Pe} {enc enc' : α → List UInt8} {ok ok' : α → Prop} (h : Pens W enc ok) (h' : Pens W' enc' ok') (b : α → Bool) :
    Pens (fun p x => if b x = true then W p x else W' p x) (fun x => if b x = true then enc x else enc' x) (fun x => if b x = true then ok x else ok' x) where
  stuck := fun p x => by show _ → (if b x = true then W p x else W' p x) = p; split <;> first | exact h.stuck p x | exact h'.stuck p x
  m := fun p x => by show (if b x = true then W p x else W' p x).m = p.m; split <;> first | exact h.m p x | exact h'.m p x
  len := fun p x => by show (if b x = true then W p x else W' p x).b.length ≤ p.b.length + (if b x = true then enc x else enc' x).length; split <;> first | exact h.len p x | exact h'.len p x
  cap := fun p x => by show ((if b x = true then W p x else W' p x).b.length : Int) ≤ p.m ∨ (if b x = true then W p x else W' p x).b.length ≤ p.b.length; split <;> first | exact h.cap p x | exact h'.cap p x
  yes := fun p x => by show (if b x = true then W p x else W' p x).e = 0 → p.e = 0 ∧ (if b x = true then W p x else W' p x).b = p.b ++ (if b x = true then enc x else enc' x) ∧ (if b x = true then ok x else ok' x); split <;> first | exact h.yes p x | exact h'.yes p x
  fit := fun p x => by show p.e = 0 → (if b x = true then ok x else ok' x) → ((p.b.length + (if b x = true then enc x else enc' x).length : Nat) : Int) ≤ p.m → (if b x = true then W p x else W' p x) = ⟨p.b ++ (if b x = true then enc x else enc' x), p.m, 0⟩; split <;> first | exact h.fit p x | exact h'.fit p x
theorem pens_it : Pens Pe.it eit (fun _ => True) := Pens.iff ((pens_text.on (Prod.fst (β := List UInt8))).seq (pens_text.on (Prod.snd (α := List UInt8)))) fun x => by simp
theorem pens_sl : Pens Pe.sl esl (fun _ => True) := Pens.iff ((pens_text.on (fun x : Sl => estt x.1)).seq (pens_text.on (Prod.snd (α := Nat)))) fun x => by simp
theorem Pg.check_parts {g : Pg} (h : g.check = 0) : g.pre.length ≤ 31 ∧ (if g.leaf = true then g.slots = [] ∧ g.items.length ≤ 8 ∧ itcheck g.pre none g.items = 0 else g.items = [] ∧ g.slots.length ≤ 256 ∧ g.slots ≠ [] ∧ slcheck none g.slots = 0) := by
  unfold Pg.check at h
  split at h
  · exact absurd h (by decide)
  refine ⟨by omega, ?_⟩
  split at h
  · rename_i hl
    rw [if_pos hl]
    split at h
    · exact absurd h (by decide)
    split at h
    · exact absurd h (by decide)
    rename_i h1 h2
    exact ⟨by simpa using h1, by omega, h⟩
  · rename_i hl
    rw [if_neg hl]
    split at h
    · exact absurd h (by decide)
    split at h
    · exact absurd h (by decide)
    split at h
    · exact absurd h (by decide)
    rename_i h1 h2 h3
    exact ⟨by simpa using h1, by omega, h3, h⟩
theorem pens_page : Pens Pe.page epage (fun g => g.check = 0) := by
  have h1 := (((pens_count 8).on (fun g : Pg => g.items.length)).seq (pens_it.fold.on Pg.items)).ite (((pens_count 256).on (fun g : Pg => g.slots.length)).seq (pens_sl.fold.on Pg.slots)) Pg.leaf
  have h2 := Pens.chk ((((pens_blob 31).on Pg.pre).seq (pens_flag.on Pg.leaf)).seq h1) Pg.check
  have e : (fun x : Pg => (eblob x.pre ++ eflag x.leaf) ++ if x.leaf = true then vput x.items.length ++ (x.items.map eit).flatten else vput x.slots.length ++ (x.slots.map esl).flatten) = epage := by
    funext x
    unfold epage ebody eits esls
    rw [List.append_assoc]
  rw [e] at h2
  refine Pens.iff h2 fun g => ⟨fun h => h.1, fun h => ⟨h, ?_⟩⟩
  obtain ⟨g1, g2⟩ := Pg.check_parts h
  refine ⟨⟨by simpa using g1, trivial⟩, ?_⟩
  split
  · rename_i hl
    rw [if_pos hl] at g2
    exact ⟨by simpa using g2.2.1, fun _ _ => trivial⟩
  · rename_i hl
    rw [if_neg hl] at g2
    exact ⟨by simpa using g2.2.1, fun _ _ => trivial⟩
theorem itcheck_len (pre : List UInt8) : ∀ (l : List It) (p : Option (List UInt8)), itcheck pre p l = 0 → ∀ x ∈ l, x.1.length = 32 ∧ x.2.length = 32
  | [], p, h => by simp
  | x :: l, p, h => by
    unfold itcheck at h
    split at h
    · exact absurd h (by decide)
    split at h
    · exact absurd h (by decide)
    split at h
    · exact absurd h (by decide)
    split at h
    · exact absurd h (by decide)
    intro y hy
    rcases List.mem_cons.1 hy with rfl | hy
    · omega
    · exact itcheck_len pre l _ h y hy
theorem slcheck_len : ∀ (l : List Sl) (p : Option Nat), slcheck p l = 0 → ∀ x ∈ l, x.2.length = 32
  | [], p, h => by simp
  | x :: l, p, h => by
    unfold slcheck at h
    split at h
    · exact absurd h (by decide)
    split at h
    · exact absurd h (by decide)
    intro y hy
    rcases List.mem_cons.1 hy with rfl | hy
    · omega
    · exact slcheck_len l _ h y hy
theorem epage_len {g : Pg} (h : g.check = 0) : (epage g).length ≤ 9000 := by
  obtain ⟨g1, g2⟩ := Pg.check_parts h
  have e1 := vput_len10 (n := g.pre.length) (by omega)
  unfold epage ebody eblob eflag
  split at g2
  · rename_i hl
    obtain ⟨h1, h2, h3⟩ := g2
    have hb := flat_bound eit 64 g.items fun x hx => by
      have := itcheck_len _ _ _ h3 x hx
      unfold eit; rw [List.length_append]; omega
    have := Nat.mul_le_mul_right 64 h2
    have e2 := vput_len10 (n := g.items.length) (by omega)
    simp only [if_pos hl]
    unfold eits
    simp only [List.length_append, List.length_cons, List.length_nil]
    omega
  · rename_i hl
    obtain ⟨h1, h2, h3, h4⟩ := g2
    have hb := flat_bound esl 33 g.slots fun x hx => by
      have := slcheck_len _ _ h4 x hx
      unfold esl estt; rw [List.length_append, List.length_cons, List.length_nil]; omega
    have := Nat.mul_le_mul_right 33 h2
    have e2 := vput_len10 (n := g.slots.length) (by omega)
    simp only [if_neg hl]
    unfold esls
    simp only [List.length_append, List.length_cons, List.length_nil]
    omega
end Go.AW
/-
  pages: their data; small functions; which pages are right: the program's and the document's.
-/
namespace Go.AW
open Go Go.Proofs
set_option maxHeartbeats 2000000
set_option maxRecDepth 10000
set_option linter.unusedSimpArgs false
set_option linter.unusedVariables false
attribute [local irreducible] thenQ blockQ RetQ AL AW AC AOp

def itD (x : It) : List D := [.s (.string ⟨x.1.toArray⟩), .s (.string ⟨x.2.toArray⟩)]
def slD (x : Sl) : List D := [.s (.int .u8 (x.1 : Nat)), .s (.string ⟨x.2.toArray⟩)]
abbrev itV (x : It) : V := .a [sv (bs x.1), sv (bs x.2)]
abbrev slV (x : Sl) : V := .a [iv .u8 (x.1 : Nat), sv (bs x.2)]
abbrev itsD (l : List It) : List D := (l.map itD).flatten
abbrev slsD (l : List Sl) : List D := (l.map slD).flatten
abbrev pgV (g : Pg) : V := .a [sv (bs g.pre), bv g.leaf, .d (.l g.slots.length (slsD g.slots)), .d (.l g.items.length (itsD g.items))]
theorem its_drop {l r : List It} {x : It} {i : Nat} (h : l.drop i = x :: r) : (itsD l).drop (i * 2) = .s (.string ⟨x.1.toArray⟩) :: .s (.string ⟨x.2.toArray⟩) :: itsD r := by
  rw [itsD, flat_drop (f := itD) (sz := 2) (fun _ => rfl), h]; rfl
theorem sls_drop {l r : List Sl} {x : Sl} {i : Nat} (h : l.drop i = x :: r) : (slsD l).drop (i * 2) = .s (.int .u8 (x.1 : Nat)) :: .s (.string ⟨x.2.toArray⟩) :: slsD r := by
  rw [slsD, flat_drop (f := slD) (sz := 2) (fun _ => rfl), h]; rfl
/-- What is known of any page: its numbers, its lengths. -/
def Pg.fits (g : Pg) : Prop := g.pre.length ≤ 9223372036854775807 ∧ (g.slots.length ≤ 9223372036854775807 ∧ ∀ x ∈ g.slots, x.1 < 256 ∧ x.2.length ≤ 9223372036854775807) ∧ g.items.length ≤ 9223372036854775807 ∧ ∀ x ∈ g.items, x.1.length ≤ 9223372036854775807 ∧ x.2.length ≤ 9223372036854775807

theorem stringslite_HasPrefix (s w : List UInt8) (hs : s.length ≤ 9223372036854775807) (hw : w.length ≤ 9223372036854775807) : AC Tryz.prog 325 [sv (bs s), sv (bs w)] [] fun x σ => x = bv (begins s w) ∧ σ = [] := by
  refine AC.walk Tryz.func325 rfl (by decide) (of_decide_eq_true rfl) ?_
  unfold begins
  by_cases h : w.length ≤ s.length
  · focus (have kxs := And.intro @Nat.sub_zero h; (repeat' (first | refine G ?_ | refine AW.ret ?_ | (refine GC ?_ ?_ <;> intro h <;> (try simp only [hsB] at h) <;> try (exfalso; first | omega | contradiction)) | (refine GL ?_ ?_ <;> intro h <;> (try simp only [Bool.not_true, Bool.not_false] at h) <;> (try simp only [h]) <;> (try simp only [hsB] at h) <;> try (exfalso; first | omega | contradiction)) | fail)); all_goals clear kxs)
    all_goals first | ((all_goals have kxf := h; first | exact RetQ.xr 0 | exact RetQ.xn 0 | fail); done) | (exfalso; omega) | (exfalso; simp_all; done)
  · focus (have kxs : 987654321 = 987654320 + 1 := rfl; (repeat' (first | refine G ?_ | refine AW.ret ?_ | (refine GC ?_ ?_ <;> intro h <;> (try simp only [hsB] at h) <;> try (exfalso; first | omega | contradiction)) | (refine GL ?_ ?_ <;> intro h <;> (try simp only [Bool.not_true, Bool.not_false] at h) <;> (try simp only [h]) <;> (try simp only [hsB] at h) <;> try (exfalso; first | omega | contradiction)) | fail)); all_goals clear kxs)
    all_goals first | ((all_goals have kxf := h; first | exact RetQ.xr 0 | exact RetQ.xn 0 | fail); done) | (exfalso; omega) | (exfalso; simp_all; done)
theorem strings_HasPrefix (s w : List UInt8) (hs : s.length ≤ 9223372036854775807) (hw : w.length ≤ 9223372036854775807) : AC Tryz.prog 314 [sv (bs s), sv (bs w)] [] fun x σ => x = bv (begins s w) ∧ σ = [] := by
  refine AC.walk Tryz.func314 rfl (by decide) (of_decide_eq_true rfl) ?_
  focus (have kxs : 987654321 = 987654320 + 1 := rfl; have kk1 := uN [] (stringslite_HasPrefix s w hs hw); (repeat' (first | refine G ?_ | refine AW.ret ?_ | (refine GC ?_ ?_ <;> intro h <;> (try simp only [hsB] at h) <;> try (exfalso; first | omega | contradiction)) | (refine GL ?_ ?_ <;> intro h <;> (try simp only [Bool.not_true, Bool.not_false] at h) <;> (try simp only [h]) <;> (try simp only [hsB] at h) <;> try (exfalso; first | omega | contradiction)) | fail)); all_goals clear kxs kk1)
  all_goals first | ((all_goals first | exact RetQ.fr 0 | exact RetQ.fn 0 | fail); done) | (exfalso; simp_all; done)
theorem digest_Right (s : List UInt8) (hs : s.length ≤ 9223372036854775807) : AC Tryz.prog 309 [sv (bs s)] [] fun x σ => x = bv (decide (s.length = 32)) ∧ σ = [] := by
  refine AC.walk Tryz.func309 rfl (by decide) (of_decide_eq_true rfl) ?_
  by_cases h : s.length = 32
  · focus (have kxs := h; (repeat' (first | refine G ?_ | refine AW.ret ?_ | (refine GC ?_ ?_ <;> intro h <;> (try simp only [hsB] at h) <;> try (exfalso; first | omega | contradiction)) | (refine GL ?_ ?_ <;> intro h <;> (try simp only [Bool.not_true, Bool.not_false] at h) <;> (try simp only [h]) <;> (try simp only [hsB] at h) <;> try (exfalso; first | omega | contradiction)) | fail)); all_goals clear kxs)
    all_goals first | ((all_goals have kxf := h; first | exact RetQ.xr 0 | exact RetQ.xn 0 | fail); done) | (exfalso; omega) | (exfalso; simp_all; done)
  · focus (have kxs : 987654321 = 987654320 + 1 := rfl; (repeat' (first | refine G ?_ | refine AW.ret ?_ | (refine GC ?_ ?_ <;> intro h <;> (try simp only [hsB] at h) <;> try (exfalso; first | omega | contradiction)) | (refine GL ?_ ?_ <;> intro h <;> (try simp only [Bool.not_true, Bool.not_false] at h) <;> (try simp only [h]) <;> (try simp only [hsB] at h) <;> try (exfalso; first | omega | contradiction)) | fail)); all_goals clear kxs)
    all_goals first | ((all_goals have kxf := h; first | exact RetQ.xr 0 | exact RetQ.xn 0 | fail); done) | (exfalso; omega) | (exfalso; simp_all; done)

def it1 (pre : List UInt8) (p : Option (List UInt8)) (x : It) : Int := if x.1.length ≠ 32 then 1 else if begins x.1 pre = false then 18 else if afterL p x.1 = false then 6 else if x.2.length ≠ 32 then 1 else 0
theorem itcheck_cons (pre : List UInt8) (p : Option (List UInt8)) (x : It) (r : List It) : itcheck pre p (x :: r) = if it1 pre p x ≠ 0 then it1 pre p x else itcheck pre (some x.1) r := by
  show (if _ then _ else _) = _
  unfold it1
  split
  · rfl
  split
  · rfl
  split
  · rfl
  split
  · rfl
  · rfl
/-- The key ahead. -/
def keyAhead (p : Option (List UInt8)) (last : List UInt8) (first : Bool) : Prop := (first = true ∧ p = none) ∨ (first = false ∧ p = some last)
theorem page_item (pre last : List UInt8) (p : Option (List UInt8)) (first : Bool) (x : It) (hk : keyAhead p last first) (h1 : pre.length ≤ 9223372036854775807) (h2 : x.1.length ≤ 9223372036854775807) (h3 : x.2.length ≤ 9223372036854775807) :
    AC Tryz.prog 308 [sv (bs pre), sv (bs last), bv first, itV x] [] fun y σ => y = iv .i64 (it1 pre p x) ∧ σ = [] := by
  refine AC.walk Tryz.func308 rfl (by decide) (of_decide_eq_true rfl) ?_
  obtain ⟨k, h⟩ := x
  simp only at h2 h3 ⊢
  have hr1 := digest_Right k h2
  have hr2 := digest_Right h h3
  have hp := strings_HasPrefix k pre h2 h1
  have htri := less_tri k last
  unfold it1
  simp only
  generalize begins k pre = bg at *
  by_cases a1 : k.length = 32
  case neg =>
    rw [if_pos a1]
    rw [decide_eq_false a1] at hr1
    focus (have kxs : 987654321 = 987654320 + 1 := rfl; have kk1 := uN [] (hr1); (repeat' (first | refine G ?_ | refine AW.ret ?_ | (refine GC ?_ ?_ <;> intro h <;> (try simp only [hsB] at h) <;> try (exfalso; first | omega | contradiction)) | (refine GL ?_ ?_ <;> intro h <;> (try simp only [Bool.not_true, Bool.not_false] at h) <;> (try simp only [h]) <;> (try simp only [hsB] at h) <;> try (exfalso; first | omega | contradiction)) | fail)); all_goals clear kxs kk1)
    all_goals first | ((all_goals first | exact RetQ.fr 0 | exact RetQ.fn 0 | fail); done) | (exfalso; omega) | (exfalso; simp_all; done)
  rw [if_neg (by simpa using a1)]
  rw [decide_eq_true a1] at hr1
  cases bg with
  | false =>
    rw [if_pos rfl]
    focus (have kxs : 987654321 = 987654320 + 1 := rfl; have kk1 := uN [] (hr1); have kk2 := uN [] (hp); (repeat' (first | refine G ?_ | refine AW.ret ?_ | (refine GC ?_ ?_ <;> intro h <;> (try simp only [hsB] at h) <;> try (exfalso; first | omega | contradiction)) | (refine GL ?_ ?_ <;> intro h <;> (try simp only [Bool.not_true, Bool.not_false] at h) <;> (try simp only [h]) <;> (try simp only [hsB] at h) <;> try (exfalso; first | omega | contradiction)) | fail)); all_goals clear kxs kk1 kk2)
    all_goals first | ((all_goals first | exact RetQ.fr 0 | exact RetQ.fn 0 | fail); done) | (exfalso; omega) | (exfalso; simp_all; done)
  | true =>
  rw [if_neg (by decide)]
  by_cases a4 : h.length = 32
  case' pos => rw [decide_eq_true a4] at hr2
  case' neg => rw [decide_eq_false a4] at hr2
  all_goals
    rcases hk with ⟨rfl, rfl⟩ | ⟨rfl, rfl⟩
    · rw [if_neg (show ¬ (afterL none k = false) from fun h => Bool.noConfusion h)]
      first | rw [if_neg (by simpa using a4)] | rw [if_pos a4]
      focus (have kxs : 987654321 = 987654320 + 1 := rfl; have kk1 := uN [] (hr1); have kk2 := uN [] (hp); have kk3 := uN [] (hr2); (repeat' (first | refine G ?_ | refine AW.ret ?_ | (refine GC ?_ ?_ <;> intro h <;> (try simp only [hsB] at h) <;> try (exfalso; first | omega | contradiction)) | (refine GL ?_ ?_ <;> intro h <;> (try simp only [Bool.not_true, Bool.not_false] at h) <;> (try simp only [h]) <;> (try simp only [hsB] at h) <;> try (exfalso; first | omega | contradiction)) | fail)); all_goals clear kxs kk1 kk2 kk3)
      all_goals first | ((all_goals first | exact RetQ.fr 0 | exact RetQ.fn 0 | fail); done) | (exfalso; omega) | (exfalso; simp_all; done)
    · show AW _ _ _ _ _ _ _
      cases a3 : lessB last k with
      | false =>
        have a3' : Op.bytesLess last k = false := a3
        rw [if_pos (by exact a3)]
        focus (have kxs := And.intro htri a3'; have kk1 := uN [] (hr1); have kk2 := uN [] (hp); have kk3 := uN [] (hr2); (repeat' (first | refine G ?_ | refine AW.ret ?_ | (refine GC ?_ ?_ <;> intro h <;> (try simp only [hsB] at h) <;> try (exfalso; first | omega | contradiction)) | (refine GL ?_ ?_ <;> intro h <;> (try simp only [Bool.not_true, Bool.not_false] at h) <;> (try simp only [h]) <;> (try simp only [hsB] at h) <;> try (exfalso; first | omega | contradiction)) | fail)); all_goals clear kxs kk1 kk2 kk3)
        all_goals first | ((all_goals first | exact RetQ.fr 0 | exact RetQ.fn 0 | fail); done) | (exfalso; omega) | (exfalso; simp_all; done)
      | true =>
        have a3' : Op.bytesLess last k = true := a3
        rw [if_neg (by show ¬ lessB last k = false; rw [a3]; decide)]
        first | rw [if_neg (by simpa using a4)] | rw [if_pos a4]
        focus (have kxs := And.intro htri a3'; have kk1 := uN [] (hr1); have kk2 := uN [] (hp); have kk3 := uN [] (hr2); (repeat' (first | refine G ?_ | refine AW.ret ?_ | (refine GC ?_ ?_ <;> intro h <;> (try simp only [hsB] at h) <;> try (exfalso; first | omega | contradiction)) | (refine GL ?_ ?_ <;> intro h <;> (try simp only [Bool.not_true, Bool.not_false] at h) <;> (try simp only [h]) <;> (try simp only [hsB] at h) <;> try (exfalso; first | omega | contradiction)) | fail)); all_goals clear kxs kk1 kk2 kk3)
        all_goals first | ((all_goals first | exact RetQ.fr 0 | exact RetQ.fn 0 | fail); done) | (exfalso; omega) | (exfalso; simp_all; done)
end Go.AW
