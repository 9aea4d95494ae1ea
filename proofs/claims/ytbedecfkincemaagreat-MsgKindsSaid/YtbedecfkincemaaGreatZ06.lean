/-
  objects: what is right: the program's and the document's.
-/
import Derived.Test.YtbedecfkincemaaGreatZ05
import Derived.Test.YtbedecfkincemaaGreatZ04
namespace Go.AW
open Go Go.Proofs
set_option maxHeartbeats 2000000
set_option maxRecDepth 10000
set_option linter.unusedSimpArgs false
set_option linter.unusedVariables false
attribute [local irreducible] thenQ blockQ RetQ AL AW AC AOp

abbrev ojV (o : Oj) : V := .a [sv (bs o.key), .d (.l o.sibs.length (sbsD o.sibs))]
def Oj.fits (o : Oj) : Prop := o.key.length ≤ 9223372036854775807 ∧ o.sibs.length ≤ 9223372036854775807 ∧ ∀ x ∈ o.sibs, x.fits
/-- The sibling ahead of place i. -/
def sahead (l : List Sb) (i : Nat) (p : List UInt8) : Prop := (i = 0 ∧ p = []) ∨ (0 < i ∧ ∃ y r, l.drop (i - 1) = y :: r ∧ y.check = 0 ∧ skey y = p)
theorem oj_eq (k o : Oj) : (decide (k.key = o.key) && decide (k.sibs = o.sibs)) = true ↔ k = o := by
  obtain ⟨a, b⟩ := k
  obtain ⟨d, e⟩ := o
  simp
instance : DecidableEq Oj := fun k o => decidable_of_iff _ (oj_eq k o)
theorem oj_dec (k o : Oj) : decide (k = o) = (decide (k.key = o.key) && decide (k.sibs = o.sibs)) := by
  rw [Bool.eq_iff_iff, decide_eq_true_eq]; exact (oj_eq k o).symm
theorem ref16_Same (k o : Oj) (hk : k.sibs.length ≤ 9223372036854775807) (hf : ∀ x ∈ k.sibs, x.clk.ctx.length ≤ 9223372036854775807 ∧ x.meta_.length ≤ 9223372036854775807) : AC Tryz.prog 66 [ojV k, ojV o] [] fun x σ => x = bv (decide (k = o)) ∧ σ = [] := by
  refine AC.walk Tryz.func66 rfl (by decide) (of_decide_eq_true rfl) ?_
  rw [oj_dec]
  obtain ⟨key, v⟩ := k
  obtain ⟨key2, w⟩ := o
  simp only at hk hf ⊢
  by_cases hkk : key = key2
  case neg =>
    rw [decide_eq_false hkk]
    focus (have kxs : 987654321 = 987654320 + 1 := rfl; (repeat' (first | (refine ADr.nil ?_; try clear hgv) | refine GO ?_ | refine AW.ret ?_ | (refine GC ?_ ?_ <;> intro h <;> (try simp only [hsB] at h) <;> try (exfalso; first | omega | contradiction)) | (refine GD ?_ ?_ <;> intro h <;> (try intro hgv) <;> (try simp only [Bool.not_true, Bool.not_false] at h) <;> (try simp only [h]) <;> (try simp only [hsB] at h) <;> try (exfalso; first | omega | contradiction)) | (refine GL ?_ ?_ <;> intro h <;> (try simp only [Bool.not_true, Bool.not_false] at h) <;> (try simp only [h]) <;> (try simp only [hsB] at h) <;> try (exfalso; first | omega | contradiction)) | fail)); all_goals clear kxs)
    all_goals first | ((all_goals first | exact RetQ.fr 0 | exact RetQ.fn 0 | fail); done) | (exfalso; simp_all; done)
  subst hkk
  rw [decide_eq_true rfl, Bool.true_and]
  by_cases hll : v.length = w.length
  case neg =>
    have hc : decide (v = w) = false := by simp; rintro rfl; exact hll rfl
    rw [hc]
    focus (have kxs : 987654321 = 987654320 + 1 := rfl; (repeat' (first | (refine ADr.nil ?_; try clear hgv) | refine GO ?_ | refine AW.ret ?_ | (refine GC ?_ ?_ <;> intro h <;> (try simp only [hsB] at h) <;> try (exfalso; first | omega | contradiction)) | (refine GD ?_ ?_ <;> intro h <;> (try intro hgv) <;> (try simp only [Bool.not_true, Bool.not_false] at h) <;> (try simp only [h]) <;> (try simp only [hsB] at h) <;> try (exfalso; first | omega | contradiction)) | (refine GL ?_ ?_ <;> intro h <;> (try simp only [Bool.not_true, Bool.not_false] at h) <;> (try simp only [h]) <;> (try simp only [hsB] at h) <;> try (exfalso; first | omega | contradiction)) | fail)); all_goals clear kxs)
    all_goals first | (exfalso; omega) | ((all_goals first | exact RetQ.fr 0 | exact RetQ.fn 0 | fail); done) | (exfalso; simp_all; done)
  focus (have kxs : 987654321 = 987654320 + 1 := rfl; (repeat' (first | (refine ADr.nil ?_; try clear hgv) | refine GO ?_ | refine AW.ret ?_ | (refine GC ?_ ?_ <;> intro h <;> (try simp only [hsB] at h) <;> try (exfalso; first | omega | contradiction)) | (refine GD ?_ ?_ <;> intro h <;> (try intro hgv) <;> (try simp only [Bool.not_true, Bool.not_false] at h) <;> (try simp only [h]) <;> (try simp only [hsB] at h) <;> try (exfalso; first | omega | contradiction)) | (refine GL ?_ ?_ <;> intro h <;> (try simp only [Bool.not_true, Bool.not_false] at h) <;> (try simp only [h]) <;> (try simp only [hsB] at h) <;> try (exfalso; first | omega | contradiction)) | fail)); all_goals clear kxs)
  all_goals first | (exfalso; simp_all; done) | skip
  refine AW.rounds [2, 3, 4, 5] (fun i : Nat => [(2, .p 0 0), (3, .p 1 0), (4, bv false), (5, iv .i64 i)]) (fun _ => [.box 26 [sv (bs key), .d (.l v.length (sbsD v))], .box 26 [sv (bs key), .d (.l w.length (sbsD w))]])
    (fun i => i ≤ v.length ∧ (v = w ↔ v.drop i = w.drop i)) (fun i => v.length - i) 0 ⟨Nat.zero_le _, by simp⟩ rfl rfl (fun _ _ => Nat.zero_le _) (fun _ _ => rfl) (fun _ _ => rfl) ?_
  rintro i ⟨hi, hr⟩ J hJ
  by_cases hil : i < v.length
  · obtain ⟨x, r, hd⟩ := next_at hil
    obtain ⟨y, s, he⟩ := next_at (l := w) (i := i) (by omega)
    have hcd := sbs_drop hd
    have hce := sbs_drop he
    have hfx := hf x (next_mem hd)
    by_cases hxy : x = y
    · have hd1 : decide (x = y) = true := decide_eq_true hxy
      have hJ2 : v = w ↔ v.drop (i + 1) = w.drop (i + 1) := by
        rw [hr, next_drop hd, next_drop he, hd, he, hxy]; simp
      focus (have kxs := And.intro hcd (And.intro hce hd1); have kk1 := uN [] (ref15_Same x y hfx.1 hfx.2); (repeat' (first | (refine ADr.nil ?_; try clear hgv) | refine GO ?_ | refine AW.ret ?_ | (refine GC ?_ ?_ <;> intro h <;> (try simp only [hsB] at h) <;> try (exfalso; first | omega | contradiction)) | (refine GD ?_ ?_ <;> intro h <;> (try intro hgv) <;> (try simp only [Bool.not_true, Bool.not_false] at h) <;> (try simp only [h]) <;> (try simp only [hsB] at h) <;> try (exfalso; first | omega | contradiction)) | (refine GL ?_ ?_ <;> intro h <;> (try simp only [Bool.not_true, Bool.not_false] at h) <;> (try simp only [h]) <;> (try simp only [hsB] at h) <;> try (exfalso; first | omega | contradiction)) | fail)); all_goals clear kxs kk1)
      all_goals first | (exact hJ (i + 1) _ _ (by omega) ⟨hil, hJ2⟩ rfl rfl) | (exfalso; simp_all; done)
    · have hd1 : decide (x = y) = false := decide_eq_false hxy
      have hc : decide (v = w) = false := by
        simp only [decide_eq_false_iff_not]
        rw [hr, hd, he]
        intro e
        exact hxy (List.cons.inj e).1
      rw [hc]
      focus (have kxs := And.intro hcd (And.intro hce hd1); have kk1 := uN [] (ref15_Same x y hfx.1 hfx.2); (repeat' (first | (refine ADr.nil ?_; try clear hgv) | refine GO ?_ | refine AW.ret ?_ | (refine GC ?_ ?_ <;> intro h <;> (try simp only [hsB] at h) <;> try (exfalso; first | omega | contradiction)) | (refine GD ?_ ?_ <;> intro h <;> (try intro hgv) <;> (try simp only [Bool.not_true, Bool.not_false] at h) <;> (try simp only [h]) <;> (try simp only [hsB] at h) <;> try (exfalso; first | omega | contradiction)) | (refine GL ?_ ?_ <;> intro h <;> (try simp only [Bool.not_true, Bool.not_false] at h) <;> (try simp only [h]) <;> (try simp only [hsB] at h) <;> try (exfalso; first | omega | contradiction)) | fail)); all_goals clear kxs kk1)
      all_goals first | ((all_goals first | exact RetQ.fr 0 | exact RetQ.fn 0 | fail); done) | (exfalso; simp_all; done)
  · have hc : decide (v = w) = true := by
      simp only [decide_eq_true_eq]
      rw [hr, List.drop_eq_nil_of_le (by omega), List.drop_eq_nil_of_le (by omega)]
    rw [hc]
    focus (have kxs : 987654321 = 987654320 + 1 := rfl; (repeat' (first | (refine ADr.nil ?_; try clear hgv) | refine GO ?_ | refine AW.ret ?_ | (refine GC ?_ ?_ <;> intro h <;> (try simp only [hsB] at h) <;> try (exfalso; first | omega | contradiction)) | (refine GD ?_ ?_ <;> intro h <;> (try intro hgv) <;> (try simp only [Bool.not_true, Bool.not_false] at h) <;> (try simp only [h]) <;> (try simp only [hsB] at h) <;> try (exfalso; first | omega | contradiction)) | (refine GL ?_ ?_ <;> intro h <;> (try simp only [Bool.not_true, Bool.not_false] at h) <;> (try simp only [h]) <;> (try simp only [hsB] at h) <;> try (exfalso; first | omega | contradiction)) | fail)); all_goals clear kxs)
    all_goals first | ((all_goals first | exact RetQ.fr 0 | exact RetQ.fn 0 | fail); done) | (exfalso; simp_all; done)
end Go.AW
/-
  Plain: rings: how they are read and written.
-/
namespace Go.AW
set_option linter.unusedVariables false

/-- A member: name, epoch, state, tokens. -/
structure Mb where
  name : List UInt8
  ep : Nat
  st : Nat
  toks : List Nat
abbrev Ring := List Mb

/-! ### Numbers of eight bytes -/

def val8 (l : List UInt8) : Nat := l.foldl (fun n b => n * 256 + b.toNat) 0
def enc8 (n : Nat) : List UInt8 := [UInt8.ofNat (n / 72057594037927936), UInt8.ofNat (n / 281474976710656), UInt8.ofNat (n / 1099511627776), UInt8.ofNat (n / 4294967296), UInt8.ofNat (n / 16777216), UInt8.ofNat (n / 65536), UInt8.ofNat (n / 256), UInt8.ofNat n]
def Cu.num8 (c : Cu) : Nat × Cu := (val8 (c.bytes 8).1, (c.bytes 8).2)
/-! ### Tokens -/

def after (p : Option Nat) (t : Nat) : Bool := match p with | none => true | some q => decide (q < t)
def rises : Option Nat → List Nat → Bool
  | _, [] => true
  | p, t :: r => after p t && rises (some t) r
def Cu.tok (p : Option Nat) (c : Cu) : Nat × Cu := (c.num8.1, gd (after p c.num8.1) 6 c.num8.2)
def Cu.toks (n : Nat) (p : Option Nat) (c : Cu) : List Nat × Cu := Cu.many Cu.tok (fun _ t => some t) n p c
def Cu.tokl (c : Cu) : List Nat × Cu := ((c.count 16).2.toks (c.count 16).1 none)
def etoks (l : List Nat) : List UInt8 := vput l.length ++ (l.map enc8).flatten
def gtok (p : Option Nat) (t : Nat) : Prop := t < 18446744073709551616 ∧ after p t = true
def gtoks (l : List Nat) : Prop := l.length ≤ 16 ∧ rises none l = true ∧ ∀ t ∈ l, t < 18446744073709551616
/-! ### Members -/

def Cu.stt (c : Cu) : Nat × Cu := (c.byte.1, gd (decide (c.byte.1 ≤ 3)) 13 c.byte.2)
def estt (n : Nat) : List UInt8 := [UInt8.ofNat n]
def Cu.mem0 (p : List UInt8) (c : Cu) : (List UInt8 × (Nat × (Nat × List Nat))) × Cu := rseq (Cu.actor 32 p) (fun _ => rseq Cu.vnz (fun _ => rseq Cu.stt (fun _ c => Cu.tokl c))) c
def Cu.mem (p : List UInt8) (c : Cu) : Mb × Cu := (⟨(c.mem0 p).1.1, (c.mem0 p).1.2.1, (c.mem0 p).1.2.2.1, (c.mem0 p).1.2.2.2⟩, (c.mem0 p).2)
def emem (x : Mb) : List UInt8 := eblob x.name ++ (vput x.ep ++ (estt x.st ++ etoks x.toks))
def gmem (p : List UInt8) (x : Mb) : Prop := (x.name.length ≤ 32 ∧ x.name ≠ [] ∧ lessB p x.name = true) ∧ (x.ep ≠ 0 ∧ x.ep < 18446744073709551616) ∧ x.st ≤ 3 ∧ gtoks x.toks
/-! ### Rings -/

def mcheck : List UInt8 → Ring → Int
  | _, [] => 0
  | p, x :: r => if 32 < x.name.length then 3 else if x.name = [] then 14 else if lessB p x.name = false then 6 else if x.ep = 0 then 7 else if 3 < x.st then 13 else if 16 < x.toks.length then 3 else if rises none x.toks = false then 6 else mcheck x.name r
def Ring.check (l : Ring) : Int := if 32 < l.length then 3 else mcheck [] l
def Ring.great (l : Ring) : Bool := decide (40 < l.length) || l.any fun x => decide (100 < x.name.length) || decide (30 < x.toks.length)
/-- Numbers that fit. -/
def Mb.fits (x : Mb) : Prop := x.ep < 18446744073709551616 ∧ x.st < 256 ∧ ∀ t ∈ x.toks, t < 18446744073709551616
def gring (l : Ring) : Prop := Ring.check l = 0 ∧ ∀ x ∈ l, x.fits
def Cu.mems (n : Nat) (p : List UInt8) (c : Cu) : Ring × Cu := Cu.many Cu.mem (fun _ x => x.name) n p c
def Cu.ring (c : Cu) : Ring × Cu :=
  (if ((c.count 32).2.mems (c.count 32).1 []).2.e ≠ 0 then [] else ((c.count 32).2.mems (c.count 32).1 []).1, ((c.count 32).2.mems (c.count 32).1 []).2)
def ering (l : Ring) : List UInt8 := vput l.length ++ (l.map emem).flatten
/-- What a text is read as; a ring's bytes. -/
abbrev ringw (s : List UInt8) : Ring × Int := rdw Cu.ring [] s
def ringe (l : Ring) : List UInt8 × Int := if Ring.check l ≠ 0 then ([], Ring.check l) else (ering l, 0)
theorem mcheck_parts : ∀ (l : Ring) (p : List UInt8), mcheck p l = 0 → ∀ x ∈ l, x.name.length ≤ 32 ∧ x.name ≠ [] ∧ x.ep ≠ 0 ∧ x.st ≤ 3 ∧ x.toks.length ≤ 16 ∧ rises none x.toks = true
  | [], p, h => by simp
  | x :: l, p, h => by
    unfold mcheck at h
    split at h
    · exact absurd h (by decide)
    split at h
    · exact absurd h (by decide)
    split at h
    · exact absurd h (by decide)
    split at h
    · exact absurd h (by decide)
    split at h
    · exact absurd h (by decide)
    split at h
    · exact absurd h (by decide)
    split at h
    · exact absurd h (by decide)
    rename_i a1 a2 a3 a4 a5 a6 a7
    intro y hy
    rcases List.mem_cons.1 hy with rfl | hy
    · exact ⟨by omega, a2, a4, by omega, by omega, by simpa using a7⟩
    · exact mcheck_parts l x.name h y hy
theorem Ring.check_parts {l : Ring} (h : Ring.check l = 0) : l.length ≤ 32 ∧ ∀ x ∈ l, x.name.length ≤ 32 ∧ x.name ≠ [] ∧ x.ep ≠ 0 ∧ x.st ≤ 3 ∧ x.toks.length ≤ 16 ∧ rises none x.toks = true := by
  unfold Ring.check at h
  split at h
  · exact absurd h (by decide)
  · exact ⟨by omega, mcheck_parts l [] h⟩
end Go.AW
/-
  Plain: pages: how they are read and written.
-/
namespace Go.AW
set_option linter.unusedVariables false
set_option linter.unusedSimpArgs false

abbrev It := List UInt8 × List UInt8
abbrev Sl := Nat × List UInt8
structure Pg where
  pre : List UInt8
  leaf : Bool
  slots : List Sl
  items : List It
deriving DecidableEq
def pg0 : Pg := ⟨[], false, [], []⟩

def begins (s w : List UInt8) : Bool := decide (w.length ≤ s.length) && decide (s.take w.length = w)
def afterL (p : Option (List UInt8)) (t : List UInt8) : Bool := match p with | none => true | some q => lessB q t
def itcheck (pre : List UInt8) : Option (List UInt8) → List It → Int
  | _, [] => 0
  | p, x :: r => if x.1.length ≠ 32 then 1 else if begins x.1 pre = false then 18 else if afterL p x.1 = false then 6 else if x.2.length ≠ 32 then 1 else itcheck pre (some x.1) r
def slcheck : Option Nat → List Sl → Int
  | _, [] => 0
  | p, x :: r => if after p x.1 = false then 6 else if x.2.length ≠ 32 then 1 else slcheck (some x.1) r
def Pg.check (g : Pg) : Int :=
  if 31 < g.pre.length then 3 else if g.leaf = true then (if g.slots ≠ [] then 1 else if 8 < g.items.length then 3 else itcheck g.pre none g.items)
  else (if g.items ≠ [] then 1 else if 256 < g.slots.length then 3 else if g.slots = [] then 7 else slcheck none g.slots)
def Pg.great (g : Pg) : Bool := decide (100 < g.pre.length) || decide (300 < g.slots.length) || decide (20 < g.items.length) || (g.slots.any fun x => decide (100 < x.2.length)) || g.items.any fun x => decide (100 < x.1.length) || decide (100 < x.2.length)

/-! ### Read -/

def Cu.ikey (pre : List UInt8) (p : Option (List UInt8)) (c : Cu) : List UInt8 × Cu := ((c.bytes 32).1, gd (afterL p (c.bytes 32).1) 6 (gd (begins (c.bytes 32).1 pre) 18 (c.bytes 32).2))
def Cu.item (pre : List UInt8) (p : Option (List UInt8)) (c : Cu) : It × Cu := rseq (Cu.ikey pre p) (fun _ c => Cu.bytes c 32) c
def Cu.sidx (p : Option Nat) (c : Cu) : Nat × Cu := (c.byte.1, gd (after p c.byte.1) 6 c.byte.2)
def Cu.slot (p : Option Nat) (c : Cu) : Sl × Cu := rseq (Cu.sidx p) (fun _ c => Cu.bytes c 32) c
def Cu.itemn (pre : List UInt8) (n : Nat) (c : Cu) : List It × Cu := Cu.many (Cu.item pre) (fun _ x => some x.1) n none c
def Cu.items (pre : List UInt8) (c : Cu) : List It × Cu := Cu.itemn pre (c.count 8).1 (c.count 8).2
def Cu.slotn (n : Nat) (c : Cu) : List Sl × Cu := Cu.many Cu.slot (fun _ x => some x.1) n none c
def Cu.count7 (c : Cu) : Nat × Cu := ((c.count 256).1, gd (decide ((c.count 256).1 ≠ 0)) 7 (c.count 256).2)
def Cu.slots (c : Cu) : List Sl × Cu := Cu.slotn c.count7.1 c.count7.2
def Cu.pbody (pre : List UInt8) (leaf : Bool) (c : Cu) : (List Sl × List It) × Cu := if leaf = true then (([], (c.items pre).1), (c.items pre).2) else ((c.slots.1, []), c.slots.2)
def Cu.page0 (c : Cu) : (List UInt8 × (Bool × (List Sl × List It))) × Cu := rseq (fun c => Cu.blob c 31) (fun pre => rseq Cu.flag (fun leaf => Cu.pbody pre leaf)) c
def Cu.page1 (c : Cu) : Pg × Cu := (⟨c.page0.1.1, c.page0.1.2.1, c.page0.1.2.2.1, c.page0.1.2.2.2⟩, c.page0.2)
def Cu.page (c : Cu) : Pg × Cu := (if c.page1.2.e ≠ 0 then pg0 else c.page1.1, c.page1.2)

def eit (x : It) : List UInt8 := x.1 ++ x.2
def esl (x : Sl) : List UInt8 := estt x.1 ++ x.2
def eits (l : List It) : List UInt8 := vput l.length ++ (l.map eit).flatten
def esls (l : List Sl) : List UInt8 := vput l.length ++ (l.map esl).flatten
def ebody (leaf : Bool) (x : List Sl × List It) : List UInt8 := if leaf = true then eits x.2 else esls x.1
def epage (g : Pg) : List UInt8 := eblob g.pre ++ (eflag g.leaf ++ ebody g.leaf (g.slots, g.items))
def git (pre : List UInt8) (p : Option (List UInt8)) (x : It) : Prop := ((x.1.length = 32 ∧ begins x.1 pre = true) ∧ afterL p x.1 = true) ∧ x.2.length = 32
def gsl (p : Option Nat) (x : Sl) : Prop := (x.1 < 256 ∧ after p x.1 = true) ∧ x.2.length = 32
def gits (pre : List UInt8) (l : List It) : Prop := l.length ≤ 8 ∧ itcheck pre none l = 0
def gsls (l : List Sl) : Prop := l.length ≤ 256 ∧ l ≠ [] ∧ slcheck none l = 0 ∧ ∀ x ∈ l, x.1 < 256
def gpage (g : Pg) : Prop := g.check = 0 ∧ ∀ x ∈ g.slots, x.1 < 256
/-! ### Written -/

def Pe.it (p : Pe) (x : It) : Pe := (p.text x.1).text x.2
def Pe.sl (p : Pe) (x : Sl) : Pe := (p.text (estt x.1)).text x.2
def Pe.its (p : Pe) (l : List It) : Pe := l.foldl Pe.it p
def Pe.sls (p : Pe) (l : List Sl) : Pe := l.foldl Pe.sl p
def Pe.pbody (p : Pe) (g : Pg) : Pe := if g.leaf = true then (p.count 8 g.items.length).its g.items else (p.count 256 g.slots.length).sls g.slots
def Pe.page (p : Pe) (g : Pg) : Pe := if g.check ≠ 0 then p.fail g.check else ((p.blob 31 g.pre).flag g.leaf).pbody g
theorem Pens.ite {α : Type} {W W' : Pe → α → Pe} {enc enc' : α → List UInt8} {ok ok' : α → Prop} (h : Pens W enc ok) (h' : Pens W' enc' ok') (b : α → Bool) :
    Pens (fun p x => if b x = true then W p x else W' p x) (fun x => if b x = true then enc x else enc' x) (fun x => if b x = true then ok x else ok' x) where
  stuck := fun p x => by show _ → (if b x = true then W p x else W' p x) = p; split <;> first | exact h.stuck p x | exact h'.stuck p x
  m := fun p x => by show (if b x = true then W p x else W' p x).m = p.m; split <;> first | exact h.m p x | exact h'.m p x
  len := fun p x => by show (if b x = true then W p x else W' p x).b.length ≤ p.b.length + (if b x = true then enc x else enc' x).length; split <;> first | exact h.len p x | exact h'.len p x
  cap := fun p x => by show ((if b x = true then W p x else W' p x).b.length : Int) ≤ p.m ∨ (if b x = true then W p x else W' p x).b.length ≤ p.b.length; split <;> first | exact h.cap p x | exact h'.cap p x
  yes := fun p x => by show (if b x = true then W p x else W' p x).e = 0 → p.e = 0 ∧ (if b x = true then W p x else W' p x).b = p.b ++ (if b x = true then enc x else enc' x) ∧ (if b x = true then ok x else ok' x); split <;> first | exact h.yes p x | exact h'.yes p x
  fit := fun p x => by show p.e = 0 → (if b x = true then ok x else ok' x) → ((p.b.length + (if b x = true then enc x else enc' x).length : Nat) : Int) ≤ p.m → (if b x = true then W p x else W' p x) = ⟨p.b ++ (if b x = true then enc x else enc' x), p.m, 0⟩; split <;> first | exact h.fit p x | exact h'.fit p x
theorem pens_it : Pens Pe.it eit (fun _ => True) := Pens.iff ((pens_text.on (Prod.fst (β := List UInt8))).seq (pens_text.on (Prod.snd (α := List UInt8)))) fun x => by simp
theorem pens_sl : Pens Pe.sl esl (fun _ => True) := Pens.iff ((pens_text.on (fun x : Sl => estt x.1)).seq (pens_text.on (Prod.snd (α := Nat)))) fun x => by simp
theorem Pg.check_parts {g : Pg} (h : g.check = 0) : g.pre.length ≤ 31 ∧ (if g.leaf = true then g.slots = [] ∧ g.items.length ≤ 8 ∧ itcheck g.pre none g.items = 0 else g.items = [] ∧ g.slots.length ≤ 256 ∧ g.slots ≠ [] ∧ slcheck none g.slots = 0) := by
  unfold Pg.check at h
  split at h
  · exact absurd h (by decide)
  refine ⟨by omega, ?_⟩
  split at h
  · rename_i hl
    rw [if_pos hl]
    split at h
    · exact absurd h (by decide)
    split at h
    · exact absurd h (by decide)
    rename_i h1 h2
    exact ⟨by simpa using h1, by omega, h⟩
  · rename_i hl
    rw [if_neg hl]
    split at h
    · exact absurd h (by decide)
    split at h
    · exact absurd h (by decide)
    split at h
    · exact absurd h (by decide)
    rename_i h1 h2 h3
    exact ⟨by simpa using h1, by omega, h3, h⟩
theorem pens_page : Pens Pe.page epage (fun g => g.check = 0) := by
  have h1 := (((pens_count 8).on (fun g : Pg => g.items.length)).seq (pens_it.fold.on Pg.items)).ite (((pens_count 256).on (fun g : Pg => g.slots.length)).seq (pens_sl.fold.on Pg.slots)) Pg.leaf
  have h2 := Pens.chk ((((pens_blob 31).on Pg.pre).seq (pens_flag.on Pg.leaf)).seq h1) Pg.check
  have e : (fun x : Pg => (eblob x.pre ++ eflag x.leaf) ++ if x.leaf = true then vput x.items.length ++ (x.items.map eit).flatten else vput x.slots.length ++ (x.slots.map esl).flatten) = epage := by
    funext x
    unfold epage ebody eits esls
    rw [List.append_assoc]
  rw [e] at h2
  refine Pens.iff h2 fun g => ⟨fun h => h.1, fun h => ⟨h, ?_⟩⟩
  obtain ⟨g1, g2⟩ := Pg.check_parts h
  refine ⟨⟨by simpa using g1, trivial⟩, ?_⟩
  split
  · rename_i hl
    rw [if_pos hl] at g2
    exact ⟨by simpa using g2.2.1, fun _ _ => trivial⟩
  · rename_i hl
    rw [if_neg hl] at g2
    exact ⟨by simpa using g2.2.1, fun _ _ => trivial⟩
end Go.AW
/-
  pages: their data; small functions; which pages are right: the program's and the document's.
-/
namespace Go.AW
open Go Go.Proofs
set_option maxHeartbeats 2000000
set_option maxRecDepth 10000
set_option linter.unusedSimpArgs false
set_option linter.unusedVariables false
attribute [local irreducible] thenQ blockQ RetQ AL AW AC AOp

def itD (x : It) : List D := [.s (.string ⟨x.1.toArray⟩), .s (.string ⟨x.2.toArray⟩)]
def slD (x : Sl) : List D := [.s (.int .u8 (x.1 : Nat)), .s (.string ⟨x.2.toArray⟩)]
abbrev itV (x : It) : V := .a [sv (bs x.1), sv (bs x.2)]
abbrev slV (x : Sl) : V := .a [iv .u8 (x.1 : Nat), sv (bs x.2)]
abbrev itsD (l : List It) : List D := (l.map itD).flatten
abbrev slsD (l : List Sl) : List D := (l.map slD).flatten
abbrev pgV (g : Pg) : V := .a [sv (bs g.pre), bv g.leaf, .d (.l g.slots.length (slsD g.slots)), .d (.l g.items.length (itsD g.items))]
theorem its_drop {l r : List It} {x : It} {i : Nat} (h : l.drop i = x :: r) : (itsD l).drop (i * 2) = .s (.string ⟨x.1.toArray⟩) :: .s (.string ⟨x.2.toArray⟩) :: itsD r := by
  rw [itsD, flat_drop (f := itD) (sz := 2) (fun _ => rfl), h]; rfl
theorem sls_drop {l r : List Sl} {x : Sl} {i : Nat} (h : l.drop i = x :: r) : (slsD l).drop (i * 2) = .s (.int .u8 (x.1 : Nat)) :: .s (.string ⟨x.2.toArray⟩) :: slsD r := by
  rw [slsD, flat_drop (f := slD) (sz := 2) (fun _ => rfl), h]; rfl
/-- What is known of any page: its numbers, its lengths. -/
def Pg.fits (g : Pg) : Prop := g.pre.length ≤ 9223372036854775807 ∧ (g.slots.length ≤ 9223372036854775807 ∧ ∀ x ∈ g.slots, x.1 < 256 ∧ x.2.length ≤ 9223372036854775807) ∧ g.items.length ≤ 9223372036854775807 ∧ ∀ x ∈ g.items, x.1.length ≤ 9223372036854775807 ∧ x.2.length ≤ 9223372036854775807

def it1 (pre : List UInt8) (p : Option (List UInt8)) (x : It) : Int := if x.1.length ≠ 32 then 1 else if begins x.1 pre = false then 18 else if afterL p x.1 = false then 6 else if x.2.length ≠ 32 then 1 else 0
/-- The key ahead. -/
def keyAhead (p : Option (List UInt8)) (last : List UInt8) (first : Bool) : Prop := (first = true ∧ p = none) ∨ (first = false ∧ p = some last)
end Go.AW
/-
  numbers of eight bytes that are read; rising tokens; right rings: the program's and the document's.
-/
namespace Go.AW
open Go Go.Proofs
set_option maxHeartbeats 2000000
set_option maxRecDepth 10000
set_option linter.unusedSimpArgs false
set_option linter.unusedVariables false
attribute [local irreducible] thenQ blockQ RetQ AL AW AC AOp

section
variable (s : List UInt8) (a : Nat) (e : Int)
end

/-! ### Tokens, members -/

abbrev toksD (l : List Nat) : List D := l.map fun t => D.s (.int .u64 (t : Nat))
theorem toks_drop {l r : List Nat} {t i : Nat} (h : l.drop i = t :: r) : (toksD l).drop i = .s (.int .u64 (t : Nat)) :: toksD r := by
  rw [toksD, ← List.map_drop, h]; rfl
end Go.AW
/-
  right rings: the program's and the document's.
-/
namespace Go.AW
open Go Go.Proofs
set_option maxHeartbeats 2000000
set_option maxRecDepth 10000
set_option linter.unusedSimpArgs false
set_option linter.unusedVariables false
attribute [local irreducible] thenQ blockQ RetQ AL AW AC AOp

def mbD (x : Mb) : List D := [.s (.string ⟨x.name.toArray⟩), .s (.int .u64 (x.ep : Nat)), .s (.int .u8 (x.st : Nat)), .l x.toks.length (toksD x.toks)]
abbrev mbV (x : Mb) : V := .a [sv (bs x.name), iv .u64 (x.ep : Nat), iv .u8 (x.st : Nat), .d (.l x.toks.length (toksD x.toks))]
abbrev ringD (l : Ring) : List D := (l.map mbD).flatten
theorem ring_drop {l r : Ring} {x : Mb} {i : Nat} (h : l.drop i = x :: r) : (ringD l).drop (i * 4) = .s (.string ⟨x.name.toArray⟩) :: .s (.int .u64 (x.ep : Nat)) :: .s (.int .u8 (x.st : Nat)) :: .l x.toks.length (toksD x.toks) :: ringD r := by
  rw [ringD, flat_drop (f := mbD) (sz := 4) (fun _ => rfl), h]; rfl
/-- What is known of any ring: its numbers, its lengths. -/
def Ring.fits (l : Ring) : Prop := l.length ≤ 9223372036854775807 ∧ ∀ x ∈ l, x.fits ∧ x.name.length ≤ 9223372036854775807 ∧ x.toks.length ≤ 9223372036854775807
/-- The name ahead of place i. -/
def Ring.ahead (l : Ring) (i : Nat) (p : List UInt8) : Prop := (i = 0 ∧ p = []) ∨ (0 < i ∧ p.length ≤ 32 ∧ ∃ y r, l.drop (i - 1) = y :: r ∧ y.name = p)
end Go.AW
/-
  Plain: messages as payloads.
-/
namespace Go.AW
set_option linter.unusedVariables false
set_option linter.unusedSimpArgs false

/-! ### A thing within a blob -/

section
variable {α : Type} {R : Cu → α × Cu} {W : Pe → α → Pe} {enc : α → List UInt8} {good ok : α → Prop} {d : α}
/-- A thing that is read of a blob. -/
def Cu.nest (R : Cu → α × Cu) (d : α) (c : Cu) : α × Cu := if (c.blob 65536).2.e = 0 then ((rdw R d (c.blob 65536).1).1, (c.blob 65536).2.fail (rdw R d (c.blob 65536).1).2) else (d, (c.blob 65536).2)
theorem Cu.fail_zero (c : Cu) : c.fail 0 = c := by
  unfold Cu.fail
  by_cases h : c.e = 0
  · rw [if_pos h, ← h]
  · rw [if_neg h]
/-- A thing that is written into a blob. -/
def Pe.nest (W : Pe → α → Pe) (p : Pe) (x : α) : Pe := (p.fail (wre W x).2).blob 65536 (wre W x).1
theorem Pe.fail_zero (p : Pe) : p.fail 0 = p := by
  unfold Pe.fail
  by_cases h : p.e = 0
  · rw [if_pos h, ← h]
  · rw [if_neg h]
theorem pens_nest (h : Pens W enc ok) : Pens (Pe.nest W) (fun x => eblob (enc x)) (fun x => ok x ∧ (enc x).length ≤ 65536) where
  stuck := fun p x hp => by
    unfold Pe.nest
    rw [Pe.fail_stuck hp, Pe.blob_stuck hp]
  m := fun p x => by
    show (Pe.blob _ _ _).m = p.m
    exact (pens_blob 65536).m (p.fail _) _
  len := fun p x => by
    by_cases h0 : (wre W x).2 = 0
    · obtain ⟨_, g2, _⟩ := wre_yes h h0
      unfold Pe.nest
      rw [h0, Pe.fail_zero, g2]
      exact (pens_blob 65536).len p (enc x)
    · unfold Pe.nest
      rw [Pe.blob_stuck (Pe.fail_e h0)]
      show p.b.length ≤ _
      omega
  cap := fun p x => (pens_blob 65536).cap (p.fail _) _
  yes := fun p x hp => by
    by_cases h0 : (wre W x).2 = 0
    · obtain ⟨g1, g2, g3⟩ := wre_yes h h0
      unfold Pe.nest at hp ⊢
      rw [h0, Pe.fail_zero, g2] at hp ⊢
      obtain ⟨k1, k2, _⟩ := (pens_blob 65536).yes p (enc x) hp
      exact ⟨k1, k2, g1, g3⟩
    · unfold Pe.nest at hp
      rw [Pe.blob_stuck (Pe.fail_e h0)] at hp
      exact absurd hp (Pe.fail_e h0)
  fit := fun p x hp hk hl => by
    unfold Pe.nest
    rw [wre_fit h hk.1 hk.2, Pe.fail_zero]
    exact (pens_blob 65536).fit p (enc x) hp hk.2 hl
end

/-! ### Messages -/

structure Mg where
  kind : Nat
  id : Nat
  key : List UInt8
  found : Bool
  obj : Oj
  old : Od
  ctx : Vec
  meta_ : Prs
  dead : Bool
  val : List UInt8
  pre : List UInt8
  page : Pg
  ring : Ring
  code : Int
  txt : List UInt8
def mg0 : Mg := ⟨0, 0, [], false, oj0, od0, [], [], false, [], [], pg0, [], 0, []⟩
def has (v k : Nat) : Bool := if v = 1 then decide (k = 1 ∨ k = 2 ∨ k = 8) else decide (v = 2 ∧ 1 ≤ k ∧ k ≤ 9)
def keychk (s : List UInt8) : Int := if 128 < s.length then 3 else if s = [] then 14 else 0
def longchk (s : List UInt8) (n : Nat) : Int := if n < s.length then 3 else 0
def codechk (n : Int) : Int := if n < 0 then 1 else if 255 < n then 3 else 0
def fst0 (a b : Int) : Int := if a ≠ 0 then a else b
/-- Why a message of a version that has its kind isn't right. -/
def Mg.chk (v : Nat) (m : Mg) : Int :=
  match m.kind with
  | 1 => keychk m.key
  | 2 => if m.found = true then (if v = 1 then m.old.check else m.obj.check) else 0
  | 3 => fst0 (keychk m.key) (fst0 (Vec.check m.ctx) (fst0 (Prs.check m.meta_) (longchk m.val 32768)))
  | 4 => Vec.check m.ctx
  | 5 => longchk m.pre 31
  | 6 => m.page.check
  | 7 => Ring.check m.ring
  | 8 => fst0 (codechk m.code) (longchk m.txt 64)
  | _ => m.obj.check
def Mg.check (v : Nat) (m : Mg) : Int := if v ≠ 1 ∧ v ≠ 2 then 10 else if has v m.kind = false then 11 else m.chk v
/-- What a kind has of a message. -/
def Mg.pl (v : Nat) (m : Mg) : Mg :=
  match m.kind with
  | 1 => { mg0 with kind := 1, id := m.id, key := m.key }
  | 2 => { mg0 with kind := 2, id := m.id, found := m.found, old := if m.found = true ∧ v = 1 then m.old else od0, obj := if m.found = true ∧ v = 2 then m.obj else oj0 }
  | 3 => { mg0 with kind := 3, id := m.id, key := m.key, ctx := m.ctx, meta_ := m.meta_, dead := m.dead, val := m.val }
  | 4 => { mg0 with kind := 4, id := m.id, ctx := m.ctx }
  | 5 => { mg0 with kind := 5, id := m.id, pre := m.pre }
  | 6 => { mg0 with kind := 6, id := m.id, page := m.page }
  | 7 => { mg0 with kind := 7, id := m.id, ring := m.ring }
  | 8 => { mg0 with kind := 8, id := m.id, code := m.code, txt := m.txt }
  | k => { mg0 with kind := k, id := m.id, obj := m.obj }
def Mg.plain (v : Nat) (m : Mg) : Mg := if has v m.kind = false then mg0 else m.pl v
/-- Numbers that fit. -/
def Mg.nums (m : Mg) : Prop := (∀ x ∈ m.ctx, x.2 < 18446744073709551616) ∧ (∀ x ∈ m.obj.sibs, gnum x) ∧ (∀ x ∈ m.old.sibs, ∀ y ∈ x.clk, y.2 < 18446744073709551616) ∧ (∀ x ∈ m.ring, x.fits) ∧ ∀ x ∈ m.page.slots, x.1 < 256

/-! ### Written -/

def Pe.ringp (p : Pe) (l : Ring) : Pe := if Ring.check l ≠ 0 then p.fail (Ring.check l) else p.text (ering l)
def Pe.mbody (v : Nat) (p : Pe) (m : Mg) : Pe :=
  match m.kind with
  | 1 => p.blob 128 m.key
  | 2 => if m.found = true then (if v = 1 then Pe.nest Pe.old (p.flag m.found) m.old else Pe.nest Pe.obj (p.flag m.found) m.obj) else p.flag m.found
  | 3 => ((((p.blob 128 m.key).vec m.ctx).prs m.meta_).flag m.dead).blob 32768 m.val
  | 4 => p.vec m.ctx
  | 5 => p.blob 31 m.pre
  | 6 => p.page m.page
  | 7 => p.ringp m.ring
  | 8 => (p.count 255 m.code).blob 64 m.txt
  | _ => Pe.nest Pe.obj p m.obj
def ebodym (v : Nat) (m : Mg) : List UInt8 :=
  match m.kind with
  | 1 => eblob m.key
  | 2 => eflag m.found ++ (if m.found = true then (if v = 1 then eblob (eold m.old) else eblob (eobj m.obj)) else [])
  | 3 => eblob m.key ++ (evec m.ctx ++ (eprs m.meta_ ++ (eflag m.dead ++ eblob m.val)))
  | 4 => evec m.ctx
  | 5 => eblob m.pre
  | 6 => epage m.page
  | 7 => ering m.ring
  | 8 => vput m.code.toNat ++ eblob m.txt
  | _ => eblob (eobj m.obj)
def encm (v : Nat) (m : Mg) : List UInt8 := vput m.id ++ ebodym v m
/-- A message's payload, or none, and why. -/
def msge (v : Nat) (m : Mg) : List UInt8 × Int := if m.check v ≠ 0 then ([], m.check v) else Pe.fin (Pe.mbody v (Pe.text ⟨[], 65536, 0⟩ (vput m.id)) m)

/-! ### Read -/

def Cu.mbody (v k : Nat) (id : Nat) (c : Cu) : Mg × Cu :=
  match k with
  | 1 => ({ mg0 with kind := 1, id := id, key := c.okey.1 }, c.okey.2)
  | 2 => if v = 1 then ({ mg0 with kind := 2, id := id, found := c.flag.1, old := (if c.flag.1 = true then (Cu.nest Cu.old od0 c.flag.2) else (od0, c.flag.2)).1 }, (if c.flag.1 = true then (Cu.nest Cu.old od0 c.flag.2) else (od0, c.flag.2)).2)
    else ({ mg0 with kind := 2, id := id, found := c.flag.1, obj := (if c.flag.1 = true then (Cu.nest Cu.obj oj0 c.flag.2) else (oj0, c.flag.2)).1 }, (if c.flag.1 = true then (Cu.nest Cu.obj oj0 c.flag.2) else (oj0, c.flag.2)).2)
  | 3 => ({ mg0 with kind := 3, id := id, key := c.okey.1, ctx := c.okey.2.vec.1, meta_ := c.okey.2.vec.2.prs.1, dead := c.okey.2.vec.2.prs.2.flag.1, val := (c.okey.2.vec.2.prs.2.flag.2.blob 32768).1 }, (c.okey.2.vec.2.prs.2.flag.2.blob 32768).2)
  | 4 => ({ mg0 with kind := 4, id := id, ctx := c.vec.1 }, c.vec.2)
  | 5 => ({ mg0 with kind := 5, id := id, pre := (c.blob 31).1 }, (c.blob 31).2)
  | 6 => ({ mg0 with kind := 6, id := id, page := c.page.1 }, c.page.2)
  | 7 => ({ mg0 with kind := 7, id := id, ring := c.ring.1 }, c.ring.2)
  | 8 => ({ mg0 with kind := 8, id := id, code := ((c.count 255).1 : Nat), txt := ((c.count 255).2.blob 64).1 }, ((c.count 255).2.blob 64).2)
  | k => ({ mg0 with kind := k, id := id, obj := (Cu.nest Cu.obj oj0 c).1 }, (Cu.nest Cu.obj oj0 c).2)
def Cu.msg (v k : Nat) (c : Cu) : Mg × Cu := Cu.mbody v k c.vtake.1 c.vtake.2
/-- The message of a payload, or none, and why. -/
def msgw (v k : Nat) (s : List UInt8) : Mg × Int := if v ≠ 1 ∧ v ≠ 2 then (mg0, 10) else if has v k = false then (mg0, 11) else rdw (Cu.msg v k) mg0 s

theorem longchk_zero {s : List UInt8} {n : Nat} : longchk s n = 0 ↔ s.length ≤ n := by
  unfold longchk
  split
  · exact ⟨fun h => absurd h (by decide), fun h => by omega⟩
  · exact ⟨fun _ => by omega, fun _ => rfl⟩
theorem keychk_zero {s : List UInt8} : keychk s = 0 ↔ s.length ≤ 128 ∧ s ≠ [] := by
  unfold keychk
  split
  · exact ⟨fun h => absurd h (by decide), fun h => by omega⟩
  split
  · rename_i h; exact ⟨fun h => absurd h (by decide), fun h2 => absurd h h2.2⟩
  · rename_i h; exact ⟨fun _ => ⟨by omega, h⟩, fun _ => rfl⟩
theorem codechk_zero {n : Int} : codechk n = 0 ↔ 0 ≤ n ∧ n ≤ 255 := by
  unfold codechk
  split
  · exact ⟨fun h => absurd h (by decide), fun h => by omega⟩
  split
  · exact ⟨fun h => absurd h (by decide), fun h => by omega⟩
  · exact ⟨fun _ => by omega, fun _ => rfl⟩
theorem fst0_zero {a b : Int} : fst0 a b = 0 ↔ a = 0 ∧ b = 0 := by
  unfold fst0
  by_cases h : a = 0
  · rw [if_neg (by simpa using h)]; exact ⟨fun g => ⟨h, g⟩, fun g => g.2⟩
  · rw [if_pos h]; exact ⟨fun g => absurd g h, fun g => absurd g.1 h⟩
/-- What a message must be, that its payload is read as it. -/
def goodm (v k : Nat) (m : Mg) : Prop := m.kind = k ∧ m.pl v = m ∧ m.chk v = 0 ∧ m.nums ∧ (eold m.old).length ≤ 65536 ∧ (eobj m.obj).length ≤ 65536
theorem has_cases {v k : Nat} (h : has v k = true) : (v = 1 ∧ (k = 1 ∨ k = 2 ∨ k = 8)) ∨ (v = 2 ∧ (k = 1 ∨ k = 2 ∨ k = 3 ∨ k = 4 ∨ k = 5 ∨ k = 6 ∨ k = 7 ∨ k = 8 ∨ k = 9)) := by
  unfold has at h
  split at h
  · simp only [decide_eq_true_eq] at h; exact .inl ⟨by assumption, h⟩
  · simp only [decide_eq_true_eq] at h; exact .inr ⟨h.1, by omega⟩
theorem vput_one_len : (vput 0).length = 1 := by rw [vput_small (by decide)]; rfl
theorem eold_zero : (eold od0).length ≤ 65536 := by
  show (eblob [] ++ (vput 0 ++ [])).length ≤ _
  simp only [eblob, List.length_append, List.length_nil, vput_one_len]; omega
theorem eobj_zero : (eobj oj0).length ≤ 65536 := by
  show (eblob [] ++ (vput 0 ++ [])).length ≤ _
  simp only [eblob, List.length_append, List.length_nil, vput_one_len]; omega
theorem mg0_lens : (eold mg0.old).length ≤ 65536 ∧ (eobj mg0.obj).length ≤ 65536 := ⟨eold_zero, eobj_zero⟩
theorem n21 : ¬ ((2 : Nat) = 1) := by decide
/-! ### What is written -/

theorem pens_skip {α : Type} : Pens (fun p (_ : α) => p) (fun _ => []) (fun _ => True) where
  stuck := fun p x h => rfl
  m := fun p x => rfl
  len := fun p x => Nat.le_refl _
  cap := fun p x => .inr (Nat.le_refl _)
  yes := fun p x h => ⟨h, by simp, trivial⟩
  fit := fun p x h _ _ => by
    obtain ⟨b, m, e⟩ := p
    simp only at h
    subst h
    simp
theorem pens_code : Pens (fun p (n : Int) => Pe.count p 255 n) (fun n => vput n.toNat) (fun n => 0 ≤ n ∧ n ≤ 255) := by
  have h := Pens.chk ((pens_count 255).on Int.toNat) (fun n : Int => if n < 0 then 1 else 0)
  have e : (fun p (n : Int) => Pe.count p 255 n) = fun p (n : Int) => if (if n < 0 then (1 : Int) else 0) ≠ 0 then p.fail (if n < 0 then 1 else 0) else Pe.count p 255 (n.toNat : Nat) := by
    funext p n
    by_cases hn : n < 0
    · rw [if_pos hn, if_pos (by decide)]; unfold Pe.count; rw [if_pos hn]
    · rw [if_neg hn, if_neg (by decide), show ((n.toNat : Nat) : Int) = n by omega]
  rw [e]
  refine Pens.iff h fun n => ?_
  simp only [Int.reduceToNat]
  constructor
  · rintro ⟨h1, h2⟩
    split at h1
    · exact absurd h1 (by decide)
    · omega
  · intro h1; exact ⟨by rw [if_neg (by omega)], by omega⟩
theorem pens_ringp : Pens Pe.ringp ering (fun l => Ring.check l = 0) := Pens.iff (Pens.chk (pens_text.on ering) Ring.check) fun l => ⟨fun h => h.1, fun h => ⟨h, trivial⟩⟩
/-- The things within blobs aren't too great. -/
def okl (v : Nat) (m : Mg) : Prop := (eold (m.pl v).old).length ≤ 65536 ∧ (eobj (m.pl v).obj).length ≤ 65536
/-- A kind's writer, by its parts' ones. -/
theorem body_of {v : Nat} {W : Pe → Mg → Pe} {enc : Mg → List UInt8} {ok : Mg → Prop} (h : Pens W enc ok) {m : Mg} (hw : ∀ p, Pe.mbody v p m = W p m) (he : ebodym v m = enc m) (h1 : ok m → okl v m) (h2 : m.chk v = 0 → okl v m → ok m) :
    (∀ p, (Pe.mbody v p m).e = 0 → p.e = 0 ∧ (Pe.mbody v p m).b = p.b ++ ebodym v m ∧ okl v m) ∧ (∀ p, p.e = 0 → m.chk v = 0 → okl v m → ((p.b.length + (ebodym v m).length : Nat) : Int) ≤ p.m → Pe.mbody v p m = ⟨p.b ++ ebodym v m, p.m, 0⟩) ∧ ∀ p, ((Pe.mbody v p m).b.length : Int) ≤ p.m ∨ (Pe.mbody v p m).b.length ≤ p.b.length := by
  refine ⟨fun p hp => ?_, fun p hp hc hk hl => ?_, fun p => ?_⟩
  · rw [hw] at hp ⊢
    obtain ⟨g1, g2, g3⟩ := h.yes p m hp
    rw [he]
    exact ⟨g1, g2, h1 g3⟩
  · rw [hw, he]
    rw [he] at hl
    exact h.fit p m hp (h2 hc hk) hl
  · rw [hw]; exact h.cap p m
theorem okl_zero {v : Nat} {m : Mg} (h1 : (m.pl v).old = od0) (h2 : (m.pl v).obj = oj0) : okl v m := ⟨by rw [h1]; exact eold_zero, by rw [h2]; exact eobj_zero⟩
theorem body_pens {v : Nat} {m : Mg} (hh : has v m.kind = true) :
    (∀ p, (Pe.mbody v p m).e = 0 → p.e = 0 ∧ (Pe.mbody v p m).b = p.b ++ ebodym v m ∧ okl v m) ∧ (∀ p, p.e = 0 → m.chk v = 0 → okl v m → ((p.b.length + (ebodym v m).length : Nat) : Int) ≤ p.m → Pe.mbody v p m = ⟨p.b ++ ebodym v m, p.m, 0⟩) ∧ ∀ p, ((Pe.mbody v p m).b.length : Int) ≤ p.m ∨ (Pe.mbody v p m).b.length ≤ p.b.length := by
  obtain ⟨kind, id, key, found, obj, old, ctx, meta_, dead, val, pre, page, ring, code, txt⟩ := m
  simp only at hh
  have c1 : kind = 1 → _ := fun h => by
    subst h
    exact body_of (v := v) (m := ⟨1, id, key, found, obj, old, ctx, meta_, dead, val, pre, page, ring, code, txt⟩) ((pens_blob 128).on Mg.key) (fun _ => rfl) rfl (fun _ => okl_zero rfl rfl) (fun hc _ => by simpa using (keychk_zero.1 hc).1)
  have c8 : kind = 8 → _ := fun h => by
    subst h
    exact body_of (v := v) (m := ⟨8, id, key, found, obj, old, ctx, meta_, dead, val, pre, page, ring, code, txt⟩) ((pens_code.on Mg.code).seq ((pens_blob 64).on Mg.txt)) (fun _ => rfl) rfl (fun _ => okl_zero rfl rfl) (fun hc _ => by
      obtain ⟨g1, g2⟩ := fst0_zero.1 hc
      exact ⟨codechk_zero.1 g1, by simpa using longchk_zero.1 g2⟩)
  rcases has_cases hh with ⟨hv, h | h | h⟩ | ⟨hv, h | h | h | h | h | h | h | h | h⟩
  · subst h; exact c1 rfl
  · subst h hv
    have hp := (pens_flag.on Mg.found).seq (Pens.ite ((pens_nest pens_old).on Mg.old) pens_skip Mg.found)
    refine body_of (v := 1) (m := ⟨2, id, key, found, obj, old, ctx, meta_, dead, val, pre, page, ring, code, txt⟩) hp (fun p => ?_) ?_ (fun h => ?_) (fun hc hk => ?_)
    · simp only [Pe.mbody, if_true]
    · simp only [ebodym, if_true]
    · obtain ⟨_, h⟩ := h
      refine ⟨?_, by show (eobj (if found = true ∧ 1 = 2 then obj else oj0)).length ≤ _; rw [if_neg (by simp)]; exact eobj_zero⟩
      show (eold (if found = true ∧ 1 = 1 then old else od0)).length ≤ _
      cases found with
      | true => simp only [if_true] at h; rw [if_pos ⟨rfl, rfl⟩]; exact h.2
      | false => rw [if_neg (by simp)]; exact eold_zero
    · refine ⟨trivial, ?_⟩
      cases found with
      | true =>
        simp only [if_true]
        have h1 := hk.1
        rw [show (Mg.pl 1 ⟨2, id, key, true, obj, old, ctx, meta_, dead, val, pre, page, ring, code, txt⟩).old = (if true = true ∧ 1 = 1 then old else od0) from rfl, if_pos ⟨rfl, rfl⟩] at h1
        exact ⟨hc, h1⟩
      | false => simp only [Bool.false_eq_true, if_false]
  · subst h; exact c8 rfl
  · subst h; exact c1 rfl
  · subst h hv
    have hp := (pens_flag.on Mg.found).seq (Pens.ite ((pens_nest pens_obj).on Mg.obj) pens_skip Mg.found)
    refine body_of (v := 2) (m := ⟨2, id, key, found, obj, old, ctx, meta_, dead, val, pre, page, ring, code, txt⟩) hp (fun p => ?_) ?_ (fun h => ?_) (fun hc hk => ?_)
    · simp only [Pe.mbody, if_neg n21]
    · simp only [ebodym, if_neg n21]
    · obtain ⟨_, h⟩ := h
      refine ⟨?_, ?_⟩
      · show (eold (if found = true ∧ 2 = 1 then old else od0)).length ≤ _
        rw [if_neg (by simp)]; exact eold_zero
      · show (eobj (if found = true ∧ 2 = 2 then obj else oj0)).length ≤ _
        cases found with
        | true => simp only [if_true] at h; rw [if_pos ⟨rfl, rfl⟩]; exact h.2
        | false => rw [if_neg (by simp)]; exact eobj_zero
    · refine ⟨trivial, ?_⟩
      cases found with
      | true =>
        simp only [if_true]
        have h1 := hk.2
        rw [show (Mg.pl 2 ⟨2, id, key, true, obj, old, ctx, meta_, dead, val, pre, page, ring, code, txt⟩).obj = (if true = true ∧ 2 = 2 then obj else oj0) from rfl, if_pos ⟨rfl, rfl⟩] at h1
        exact ⟨hc, h1⟩
      | false => simp only [Bool.false_eq_true, if_false]
  · subst h
    have hp := ((((pens_blob 128).on Mg.key).seq (pens_vec.on Mg.ctx)).seq (pens_prs.on Mg.meta_)).seq (pens_flag.on Mg.dead) |>.seq ((pens_blob 32768).on Mg.val)
    refine body_of (v := v) (m := ⟨3, id, key, found, obj, old, ctx, meta_, dead, val, pre, page, ring, code, txt⟩) hp (fun p => rfl) ?_ (fun _ => okl_zero rfl rfl) (fun hc _ => ?_)
    · simp only [ebodym, List.append_assoc]
    · obtain ⟨k1, k2⟩ := fst0_zero.1 hc
      obtain ⟨k2, k3⟩ := fst0_zero.1 k2
      obtain ⟨k3, k4⟩ := fst0_zero.1 k3
      exact ⟨⟨⟨⟨by simpa using (keychk_zero.1 k1).1, k2⟩, k3⟩, trivial⟩, by simpa using longchk_zero.1 k4⟩
  · subst h
    exact body_of (v := v) (m := ⟨4, id, key, found, obj, old, ctx, meta_, dead, val, pre, page, ring, code, txt⟩) (pens_vec.on Mg.ctx) (fun _ => rfl) rfl (fun _ => okl_zero rfl rfl) (fun hc _ => hc)
  · subst h
    exact body_of (v := v) (m := ⟨5, id, key, found, obj, old, ctx, meta_, dead, val, pre, page, ring, code, txt⟩) ((pens_blob 31).on Mg.pre) (fun _ => rfl) rfl (fun _ => okl_zero rfl rfl) (fun hc _ => by simpa using longchk_zero.1 hc)
  · subst h
    exact body_of (v := v) (m := ⟨6, id, key, found, obj, old, ctx, meta_, dead, val, pre, page, ring, code, txt⟩) (pens_page.on Mg.page) (fun _ => rfl) rfl (fun _ => okl_zero rfl rfl) (fun hc _ => hc)
  · subst h
    exact body_of (v := v) (m := ⟨7, id, key, found, obj, old, ctx, meta_, dead, val, pre, page, ring, code, txt⟩) (pens_ringp.on Mg.ring) (fun _ => rfl) rfl (fun _ => okl_zero rfl rfl) (fun hc _ => hc)
  · subst h; exact c8 rfl
  · subst h
    exact body_of (v := v) (m := ⟨9, id, key, found, obj, old, ctx, meta_, dead, val, pre, page, ring, code, txt⟩) ((pens_nest pens_obj).on Mg.obj) (fun _ => rfl) rfl (fun h => ⟨eold_zero, h.2⟩) (fun hc hk => ⟨hc, hk.2⟩)

theorem has_check {v : Nat} {m : Mg} (h : has v m.kind = true) : m.check v = m.chk v := by
  unfold Mg.check
  rcases has_cases h with ⟨rfl, _⟩ | ⟨rfl, _⟩
  · rw [if_neg (by simp), if_neg (by simp [h])]
  · rw [if_neg (by simp), if_neg (by simp [h])]
theorem msge_fit {v : Nat} {m : Mg} (hh : has v m.kind = true) (hk : m.chk v = 0) (hl : okl v m) (hs : (encm v m).length ≤ 65536) : msge v m = (encm v m, 0) := by
  obtain ⟨_, g2, _⟩ := body_pens hh
  unfold msge
  rw [if_neg (by rw [has_check hh]; simpa using hk)]
  have e1 : Pe.text ⟨[], 65536, 0⟩ (vput m.id) = ⟨vput m.id, 65536, 0⟩ := by
    have := pens_text.fit ⟨[], 65536, 0⟩ (vput m.id) rfl trivial (by
      unfold encm at hs
      rw [List.length_append] at hs
      show ((([] : List UInt8).length + (vput m.id).length : Nat) : Int) ≤ 65536
      simp only [List.length_nil]; omega)
    simpa using this
  rw [e1, g2 ⟨vput m.id, 65536, 0⟩ rfl hk hl (by
    show (((vput m.id).length + (ebodym v m).length : Nat) : Int) ≤ 65536
    unfold encm at hs
    rw [List.length_append] at hs
    omega)]
  rfl
end Go.AW
/-
  messages: their data; where their fields are.
-/
namespace Go.AW
open Go Go.Proofs
set_option maxHeartbeats 2000000
set_option maxRecDepth 10000
set_option linter.unusedSimpArgs false
set_option linter.unusedVariables false
attribute [local irreducible] thenQ blockQ RetQ AL AW AC AOp

def mgD (m : Mg) : List D := [.s (.int .u8 (m.kind : Nat)), .s (.int .u64 (m.id : Nat)), .s (.string ⟨m.key.toArray⟩), .s (.bool m.found), .s (.string ⟨m.obj.key.toArray⟩), .l m.obj.sibs.length (sbsD m.obj.sibs), .s (.string ⟨m.old.key.toArray⟩), .l m.old.sibs.length (ossD m.old.sibs), .l m.ctx.length (vecD m.ctx), .l m.meta_.length (prsD m.meta_), .s (.bool m.dead), .s (.string ⟨m.val.toArray⟩), .s (.string ⟨m.pre.toArray⟩), .s (.string ⟨m.page.pre.toArray⟩), .s (.bool m.page.leaf), .l m.page.slots.length (slsD m.page.slots), .l m.page.items.length (itsD m.page.items), .l m.ring.length (ringD m.ring), .s (.int .i64 m.code), .s (.string ⟨m.txt.toArray⟩)]
/-- A message's cells. -/
abbrev mgC (m : Mg) : List V := [iv .u8 (m.kind : Nat), iv .u64 (m.id : Nat), sv (bs m.key), bv m.found, sv (bs m.obj.key), .d (.l m.obj.sibs.length (sbsD m.obj.sibs)), sv (bs m.old.key), .d (.l m.old.sibs.length (ossD m.old.sibs)), .d (.l m.ctx.length (vecD m.ctx)), .d (.l m.meta_.length (prsD m.meta_)), bv m.dead, sv (bs m.val), sv (bs m.pre), sv (bs m.page.pre), bv m.page.leaf, .d (.l m.page.slots.length (slsD m.page.slots)), .d (.l m.page.items.length (itsD m.page.items)), .d (.l m.ring.length (ringD m.ring)), iv .i64 m.code, sv (bs m.txt)]
abbrev mgV (m : Mg) : V := .a (mgC m)
/-- What is known of any message. -/
def Mg.fits (m : Mg) : Prop := m.kind < 256 ∧ m.id < 18446744073709551616 ∧ m.key.length ≤ 9223372036854775807 ∧ m.obj.fits ∧ m.old.fits ∧ m.ctx.fits ∧ m.meta_.fits ∧ m.val.length ≤ 9223372036854775807 ∧ m.pre.length ≤ 9223372036854775807 ∧ m.page.fits ∧ m.ring.fits ∧ (-9223372036854775808 ≤ m.code ∧ m.code ≤ 9223372036854775807) ∧ m.txt.length ≤ 9223372036854775807
end Go.AW
