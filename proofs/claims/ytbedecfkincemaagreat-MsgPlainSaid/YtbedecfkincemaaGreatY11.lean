/-
  Plain: messages as payloads.
-/
import Derived.Test.YtbedecfkincemaaGreatY09
import Derived.Test.YtbedecfkincemaaGreatY04
import Derived.Test.YtbedecfkincemaaGreatY07
import Derived.Test.YtbedecfkincemaaGreatY10
namespace Go.AW
set_option linter.unusedVariables false
set_option linter.unusedSimpArgs false

/-! ### A thing within a blob -/

section
variable {α : Type} {R : Cu → α × Cu} {W : Pe → α → Pe} {enc : α → List UInt8} {good ok : α → Prop} {d : α}
/-- A thing that is read of a blob. -/
def Cu.nest (R : Cu → α × Cu) (d : α) (c : Cu) : α × Cu := if (c.blob 65536).2.e = 0 then ((rdw R d (c.blob 65536).1).1, (c.blob 65536).2.fail (rdw R d (c.blob 65536).1).2) else (d, (c.blob 65536).2)
theorem Cu.fail_zero (c : Cu) : c.fail 0 = c := by
  unfold Cu.fail
  by_cases h : c.e = 0
  · rw [if_pos h, ← h]
  · rw [if_neg h]
/-- A thing that is written into a blob. -/
def Pe.nest (W : Pe → α → Pe) (p : Pe) (x : α) : Pe := (p.fail (wre W x).2).blob 65536 (wre W x).1
theorem Pe.fail_zero (p : Pe) : p.fail 0 = p := by
  unfold Pe.fail
  by_cases h : p.e = 0
  · rw [if_pos h, ← h]
  · rw [if_neg h]
theorem pens_nest (h : Pens W enc ok) : Pens (Pe.nest W) (fun x => eblob (enc x)) (fun x => ok x ∧ (enc x).length ≤ 65536) where
  stuck := fun p x hp => by
    unfold Pe.nest
    rw [Pe.fail_stuck hp, Pe.blob_stuck hp]
  m := fun p x => by
    show (Pe.blob _ _ _).m = p.m
    exact (pens_blob 65536).m (p.fail _) _
  len := fun p x => by
    by_cases h0 : (wre W x).2 = 0
    · obtain ⟨_, g2, _⟩ := wre_yes h h0
      unfold Pe.nest
      rw [h0, Pe.fail_zero, g2]
      exact (pens_blob 65536).len p (enc x)
    · unfold Pe.nest
      rw [Pe.blob_stuck (Pe.fail_e h0)]
      show p.b.length ≤ _
      omega
  cap := fun p x => (pens_blob 65536).cap (p.fail _) _
  yes := fun p x hp => by
    by_cases h0 : (wre W x).2 = 0
    · obtain ⟨g1, g2, g3⟩ := wre_yes h h0
      unfold Pe.nest at hp ⊢
      rw [h0, Pe.fail_zero, g2] at hp ⊢
      obtain ⟨k1, k2, _⟩ := (pens_blob 65536).yes p (enc x) hp
      exact ⟨k1, k2, g1, g3⟩
    · unfold Pe.nest at hp
      rw [Pe.blob_stuck (Pe.fail_e h0)] at hp
      exact absurd hp (Pe.fail_e h0)
  fit := fun p x hp hk hl => by
    unfold Pe.nest
    rw [wre_fit h hk.1 hk.2, Pe.fail_zero]
    exact (pens_blob 65536).fit p (enc x) hp hk.2 hl
end

/-! ### Messages -/

structure Mg where
  kind : Nat
  id : Nat
  key : List UInt8
  found : Bool
  obj : Oj
  old : Od
  ctx : Vec
  meta_ : Prs
  dead : Bool
  val : List UInt8
  pre : List UInt8
  page : Pg
  ring : Ring
  code : Int
  txt : List UInt8
def mg0 : Mg := ⟨0, 0, [], false, oj0, od0, [], [], false, [], [], pg0, [], 0, []⟩
def has (v k : Nat) : Bool := if v = 1 then decide (k = 1 ∨ k = 2 ∨ k = 8) else decide (v = 2 ∧ 1 ≤ k ∧ k ≤ 9)
def keychk (s : List UInt8) : Int := if 128 < s.length then 3 else if s = [] then 14 else 0
def longchk (s : List UInt8) (n : Nat) : Int := if n < s.length then 3 else 0
def codechk (n : Int) : Int := if n < 0 then 1 else if 255 < n then 3 else 0
def fst0 (a b : Int) : Int := if a ≠ 0 then a else b
/-- Why a message of a version that has its kind isn't right. -/
def Mg.chk (v : Nat) (m : Mg) : Int :=
  match m.kind with
  | 1 => keychk m.key
  | 2 => if m.found = true then (if v = 1 then m.old.check else m.obj.check) else 0
  | 3 => fst0 (keychk m.key) (fst0 (Vec.check m.ctx) (fst0 (Prs.check m.meta_) (longchk m.val 32768)))
  | 4 => Vec.check m.ctx
  | 5 => longchk m.pre 31
  | 6 => m.page.check
  | 7 => Ring.check m.ring
  | 8 => fst0 (codechk m.code) (longchk m.txt 64)
  | _ => m.obj.check
def Mg.check (v : Nat) (m : Mg) : Int := if v ≠ 1 ∧ v ≠ 2 then 10 else if has v m.kind = false then 11 else m.chk v
/-- What a kind has of a message. -/
def Mg.pl (v : Nat) (m : Mg) : Mg :=
  match m.kind with
  | 1 => { mg0 with kind := 1, id := m.id, key := m.key }
  | 2 => { mg0 with kind := 2, id := m.id, found := m.found, old := if m.found = true ∧ v = 1 then m.old else od0, obj := if m.found = true ∧ v = 2 then m.obj else oj0 }
  | 3 => { mg0 with kind := 3, id := m.id, key := m.key, ctx := m.ctx, meta_ := m.meta_, dead := m.dead, val := m.val }
  | 4 => { mg0 with kind := 4, id := m.id, ctx := m.ctx }
  | 5 => { mg0 with kind := 5, id := m.id, pre := m.pre }
  | 6 => { mg0 with kind := 6, id := m.id, page := m.page }
  | 7 => { mg0 with kind := 7, id := m.id, ring := m.ring }
  | 8 => { mg0 with kind := 8, id := m.id, code := m.code, txt := m.txt }
  | k => { mg0 with kind := k, id := m.id, obj := m.obj }
def Mg.plain (v : Nat) (m : Mg) : Mg := if has v m.kind = false then mg0 else m.pl v
/-- Numbers that fit. -/
def Mg.nums (m : Mg) : Prop := (∀ x ∈ m.ctx, x.2 < 18446744073709551616) ∧ (∀ x ∈ m.obj.sibs, gnum x) ∧ (∀ x ∈ m.old.sibs, ∀ y ∈ x.clk, y.2 < 18446744073709551616) ∧ (∀ x ∈ m.ring, x.fits) ∧ ∀ x ∈ m.page.slots, x.1 < 256

/-! ### Written -/

def Pe.ringp (p : Pe) (l : Ring) : Pe := if Ring.check l ≠ 0 then p.fail (Ring.check l) else p.text (ering l)
def Pe.mbody (v : Nat) (p : Pe) (m : Mg) : Pe :=
  match m.kind with
  | 1 => p.blob 128 m.key
  | 2 => if m.found = true then (if v = 1 then Pe.nest Pe.old (p.flag m.found) m.old else Pe.nest Pe.obj (p.flag m.found) m.obj) else p.flag m.found
  | 3 => ((((p.blob 128 m.key).vec m.ctx).prs m.meta_).flag m.dead).blob 32768 m.val
  | 4 => p.vec m.ctx
  | 5 => p.blob 31 m.pre
  | 6 => p.page m.page
  | 7 => p.ringp m.ring
  | 8 => (p.count 255 m.code).blob 64 m.txt
  | _ => Pe.nest Pe.obj p m.obj
def ebodym (v : Nat) (m : Mg) : List UInt8 :=
  match m.kind with
  | 1 => eblob m.key
  | 2 => eflag m.found ++ (if m.found = true then (if v = 1 then eblob (eold m.old) else eblob (eobj m.obj)) else [])
  | 3 => eblob m.key ++ (evec m.ctx ++ (eprs m.meta_ ++ (eflag m.dead ++ eblob m.val)))
  | 4 => evec m.ctx
  | 5 => eblob m.pre
  | 6 => epage m.page
  | 7 => ering m.ring
  | 8 => vput m.code.toNat ++ eblob m.txt
  | _ => eblob (eobj m.obj)
def encm (v : Nat) (m : Mg) : List UInt8 := vput m.id ++ ebodym v m
/-- A message's payload, or none, and why. -/
def msge (v : Nat) (m : Mg) : List UInt8 × Int := if m.check v ≠ 0 then ([], m.check v) else Pe.fin (Pe.mbody v (Pe.text ⟨[], 65536, 0⟩ (vput m.id)) m)

/-! ### Read -/

def Cu.mbody (v k : Nat) (id : Nat) (c : Cu) : Mg × Cu :=
  match k with
  | 1 => ({ mg0 with kind := 1, id := id, key := c.okey.1 }, c.okey.2)
  | 2 => if v = 1 then ({ mg0 with kind := 2, id := id, found := c.flag.1, old := (if c.flag.1 = true then (Cu.nest Cu.old od0 c.flag.2) else (od0, c.flag.2)).1 }, (if c.flag.1 = true then (Cu.nest Cu.old od0 c.flag.2) else (od0, c.flag.2)).2)
    else ({ mg0 with kind := 2, id := id, found := c.flag.1, obj := (if c.flag.1 = true then (Cu.nest Cu.obj oj0 c.flag.2) else (oj0, c.flag.2)).1 }, (if c.flag.1 = true then (Cu.nest Cu.obj oj0 c.flag.2) else (oj0, c.flag.2)).2)
  | 3 => ({ mg0 with kind := 3, id := id, key := c.okey.1, ctx := c.okey.2.vec.1, meta_ := c.okey.2.vec.2.prs.1, dead := c.okey.2.vec.2.prs.2.flag.1, val := (c.okey.2.vec.2.prs.2.flag.2.blob 32768).1 }, (c.okey.2.vec.2.prs.2.flag.2.blob 32768).2)
  | 4 => ({ mg0 with kind := 4, id := id, ctx := c.vec.1 }, c.vec.2)
  | 5 => ({ mg0 with kind := 5, id := id, pre := (c.blob 31).1 }, (c.blob 31).2)
  | 6 => ({ mg0 with kind := 6, id := id, page := c.page.1 }, c.page.2)
  | 7 => ({ mg0 with kind := 7, id := id, ring := c.ring.1 }, c.ring.2)
  | 8 => ({ mg0 with kind := 8, id := id, code := ((c.count 255).1 : Nat), txt := ((c.count 255).2.blob 64).1 }, ((c.count 255).2.blob 64).2)
  | k => ({ mg0 with kind := k, id := id, obj := (Cu.nest Cu.obj oj0 c).1 }, (Cu.nest Cu.obj oj0 c).2)
def Cu.msg (v k : Nat) (c : Cu) : Mg × Cu := Cu.mbody v k c.vtake.1 c.vtake.2
/-- The message of a payload, or none, and why. -/
def msgw (v k : Nat) (s : List UInt8) : Mg × Int := if v ≠ 1 ∧ v ≠ 2 then (mg0, 10) else if has v k = false then (mg0, 11) else rdw (Cu.msg v k) mg0 s

theorem longchk_zero {s : List UInt8} {n : Nat} : longchk s n = 0 ↔ s.length ≤ n := by
  unfold longchk
  split
  · exact ⟨fun h => absurd h (by decide), fun h => by omega⟩
  · exact ⟨fun _ => by omega, fun _ => rfl⟩
theorem keychk_zero {s : List UInt8} : keychk s = 0 ↔ s.length ≤ 128 ∧ s ≠ [] := by
  unfold keychk
  split
  · exact ⟨fun h => absurd h (by decide), fun h => by omega⟩
  split
  · rename_i h; exact ⟨fun h => absurd h (by decide), fun h2 => absurd h h2.2⟩
  · rename_i h; exact ⟨fun _ => ⟨by omega, h⟩, fun _ => rfl⟩
theorem codechk_zero {n : Int} : codechk n = 0 ↔ 0 ≤ n ∧ n ≤ 255 := by
  unfold codechk
  split
  · exact ⟨fun h => absurd h (by decide), fun h => by omega⟩
  split
  · exact ⟨fun h => absurd h (by decide), fun h => by omega⟩
  · exact ⟨fun _ => by omega, fun _ => rfl⟩
theorem fst0_zero {a b : Int} : fst0 a b = 0 ↔ a = 0 ∧ b = 0 := by
  unfold fst0
  by_cases h : a = 0
  · rw [if_neg (by simpa using h)]; exact ⟨fun g => ⟨h, g⟩, fun g => g.2⟩
  · rw [if_pos h]; exact ⟨fun g => absurd g h, fun g => absurd g.1 h⟩
/-- What a message must be, that its payload is read as it. -/
def goodm (v k : Nat) (m : Mg) : Prop := m.kind = k ∧ m.pl v = m ∧ m.chk v = 0 ∧ m.nums ∧ (eold m.old).length ≤ 65536 ∧ (eobj m.obj).length ≤ 65536
theorem has_cases {v k : Nat} (h : has v k = true) : (v = 1 ∧ (k = 1 ∨ k = 2 ∨ k = 8)) ∨ (v = 2 ∧ (k = 1 ∨ k = 2 ∨ k = 3 ∨ k = 4 ∨ k = 5 ∨ k = 6 ∨ k = 7 ∨ k = 8 ∨ k = 9)) := by
  unfold has at h
  split at h
  · simp only [decide_eq_true_eq] at h; exact .inl ⟨by assumption, h⟩
  · simp only [decide_eq_true_eq] at h; exact .inr ⟨h.1, by omega⟩
theorem vput_one_len : (vput 0).length = 1 := by rw [vput_small (by decide)]; rfl
theorem eold_zero : (eold od0).length ≤ 65536 := by
  show (eblob [] ++ (vput 0 ++ [])).length ≤ _
  simp only [eblob, List.length_append, List.length_nil, vput_one_len]; omega
theorem eobj_zero : (eobj oj0).length ≤ 65536 := by
  show (eblob [] ++ (vput 0 ++ [])).length ≤ _
  simp only [eblob, List.length_append, List.length_nil, vput_one_len]; omega
theorem mg0_lens : (eold mg0.old).length ≤ 65536 ∧ (eobj mg0.obj).length ≤ 65536 := ⟨eold_zero, eobj_zero⟩
theorem n21 : ¬ ((2 : Nat) = 1) := by decide
/-! ### What is written -/

theorem pens_skip {α : Type} : Pens (fun p (_ : α) => p) (fun _ => []) (fun _ => True) where
  stuck := fun p x h => rfl
  m := fun p x => rfl
  len := fun p x => Nat.le_refl _
  cap := fun p x => .inr (Nat.le_refl _)
  yes := fun p x h => ⟨h, by simp, trivial⟩
  fit := fun p x h _ _ => by
    obtain ⟨b, m, e⟩ := p
    simp only at h
    subst h
    simp
theorem pens_code : Pens (fun p (n : Int) => Pe.count p 255 n) (fun n => vput n.toNat) (fun n => 0 ≤ n ∧ n ≤ 255) := by
  have h := Pens.chk ((pens_count 255).on Int.toNat) (fun n : Int => if n < 0 then 1 else 0)
  have e : (fun p (n : Int) => Pe.count p 255 n) = fun p (n : Int) => if (if n < 0 then (1 : Int) else 0) ≠ 0 then p.fail (if n < 0 then 1 else 0) else Pe.count p 255 (n.toNat : Nat) := by
    funext p n
    by_cases hn : n < 0
    · rw [if_pos hn, if_pos (by decide)]; unfold Pe.count; rw [if_pos hn]
    · rw [if_neg hn, if_neg (by decide), show ((n.toNat : Nat) : Int) = n by omega]
  rw [e]
  refine Pens.iff h fun n => ?_
  simp only [Int.reduceToNat]
  constructor
  · rintro ⟨h1, h2⟩
    split at h1
    · exact absurd h1 (by decide)
    · omega
  · intro h1; exact ⟨by rw [if_neg (by omega)], by omega⟩
theorem pens_ringp : Pens Pe.ringp ering (fun l => Ring.check l = 0) := Pens.iff (Pens.chk (pens_text.on ering) Ring.check) fun l => ⟨fun h => h.1, fun h => ⟨h, trivial⟩⟩
/-- The things within blobs aren't too great. -/
def okl (v : Nat) (m : Mg) : Prop := (eold (m.pl v).old).length ≤ 65536 ∧ (eobj (m.pl v).obj).length ≤ 65536
/-- A kind's writer, by its parts' ones. -/
theorem body_of {v : Nat} {W : Pe → Mg → Pe} {enc : Mg → List UInt8} {ok : Mg → Prop} (h : Pens W enc ok) {m : Mg} (hw : ∀ p, Pe.mbody v p m = W p m) (he : ebodym v m = enc m) (h1 : ok m → okl v m) (h2 : m.chk v = 0 → okl v m → ok m) :
    (∀ p, (Pe.mbody v p m).e = 0 → p.e = 0 ∧ (Pe.mbody v p m).b = p.b ++ ebodym v m ∧ okl v m) ∧ (∀ p, p.e = 0 → m.chk v = 0 → okl v m → ((p.b.length + (ebodym v m).length : Nat) : Int) ≤ p.m → Pe.mbody v p m = ⟨p.b ++ ebodym v m, p.m, 0⟩) ∧ ∀ p, ((Pe.mbody v p m).b.length : Int) ≤ p.m ∨ (Pe.mbody v p m).b.length ≤ p.b.length := by
  refine ⟨fun p hp => ?_, fun p hp hc hk hl => ?_, fun p => ?_⟩
  · rw [hw] at hp ⊢
    obtain ⟨g1, g2, g3⟩ := h.yes p m hp
    rw [he]
    exact ⟨g1, g2, h1 g3⟩
  · rw [hw, he]
    rw [he] at hl
    exact h.fit p m hp (h2 hc hk) hl
  · rw [hw]; exact h.cap p m
theorem okl_zero {v : Nat} {m : Mg} (h1 : (m.pl v).old = od0) (h2 : (m.pl v).obj = oj0) : okl v m := ⟨by rw [h1]; exact eold_zero, by rw [h2]; exact eobj_zero⟩
theorem body_pens {v : Nat} {m : Mg} (hh : has v m.kind = true) :
    (∀ p, (Pe.mbody v p m).e = 0 → p.e = 0 ∧ (Pe.mbody v p m).b = p.b ++ ebodym v m ∧ okl v m) ∧ (∀ p, p.e = 0 → m.chk v = 0 → okl v m → ((p.b.length + (ebodym v m).length : Nat) : Int) ≤ p.m → Pe.mbody v p m = ⟨p.b ++ ebodym v m, p.m, 0⟩) ∧ ∀ p, ((Pe.mbody v p m).b.length : Int) ≤ p.m ∨ (Pe.mbody v p m).b.length ≤ p.b.length := by
  obtain ⟨kind, id, key, found, obj, old, ctx, meta_, dead, val, pre, page, ring, code, txt⟩ := m
  simp only at hh
  have c1 : kind = 1 → _ := fun h => by
    subst h
    exact body_of (v := v) (m := ⟨1, id, key, found, obj, old, ctx, meta_, dead, val, pre, page, ring, code, txt⟩) ((pens_blob 128).on Mg.key) (fun _ => rfl) rfl (fun _ => okl_zero rfl rfl) (fun hc _ => by simpa using (keychk_zero.1 hc).1)
  have c8 : kind = 8 → _ := fun h => by
    subst h
    exact body_of (v := v) (m := ⟨8, id, key, found, obj, old, ctx, meta_, dead, val, pre, page, ring, code, txt⟩) ((pens_code.on Mg.code).seq ((pens_blob 64).on Mg.txt)) (fun _ => rfl) rfl (fun _ => okl_zero rfl rfl) (fun hc _ => by
      obtain ⟨g1, g2⟩ := fst0_zero.1 hc
      exact ⟨codechk_zero.1 g1, by simpa using longchk_zero.1 g2⟩)
  rcases has_cases hh with ⟨hv, h | h | h⟩ | ⟨hv, h | h | h | h | h | h | h | h | h⟩
  · subst h; exact c1 rfl
  · subst h hv
    have hp := (pens_flag.on Mg.found).seq (Pens.ite ((pens_nest pens_old).on Mg.old) pens_skip Mg.found)
    refine body_of (v := 1) (m := ⟨2, id, key, found, obj, old, ctx, meta_, dead, val, pre, page, ring, code, txt⟩) hp (fun p => ?_) ?_ (fun h => ?_) (fun hc hk => ?_)
    · simp only [Pe.mbody, if_true]
    · simp only [ebodym, if_true]
    · obtain ⟨_, h⟩ := h
      refine ⟨?_, by show (eobj (if found = true ∧ 1 = 2 then obj else oj0)).length ≤ _; rw [if_neg (by simp)]; exact eobj_zero⟩
      show (eold (if found = true ∧ 1 = 1 then old else od0)).length ≤ _
      cases found with
      | true => simp only [if_true] at h; rw [if_pos ⟨rfl, rfl⟩]; exact h.2
      | false => rw [if_neg (by simp)]; exact eold_zero
    · refine ⟨trivial, ?_⟩
      cases found with
      | true =>
        simp only [if_true]
        have h1 := hk.1
        rw [show (Mg.pl 1 ⟨2, id, key, true, obj, old, ctx, meta_, dead, val, pre, page, ring, code, txt⟩).old = (if true = true ∧ 1 = 1 then old else od0) from rfl, if_pos ⟨rfl, rfl⟩] at h1
        exact ⟨hc, h1⟩
      | false => simp only [Bool.false_eq_true, if_false]
  · subst h; exact c8 rfl
  · subst h; exact c1 rfl
  · subst h hv
    have hp := (pens_flag.on Mg.found).seq (Pens.ite ((pens_nest pens_obj).on Mg.obj) pens_skip Mg.found)
    refine body_of (v := 2) (m := ⟨2, id, key, found, obj, old, ctx, meta_, dead, val, pre, page, ring, code, txt⟩) hp (fun p => ?_) ?_ (fun h => ?_) (fun hc hk => ?_)
    · simp only [Pe.mbody, if_neg n21]
    · simp only [ebodym, if_neg n21]
    · obtain ⟨_, h⟩ := h
      refine ⟨?_, ?_⟩
      · show (eold (if found = true ∧ 2 = 1 then old else od0)).length ≤ _
        rw [if_neg (by simp)]; exact eold_zero
      · show (eobj (if found = true ∧ 2 = 2 then obj else oj0)).length ≤ _
        cases found with
        | true => simp only [if_true] at h; rw [if_pos ⟨rfl, rfl⟩]; exact h.2
        | false => rw [if_neg (by simp)]; exact eobj_zero
    · refine ⟨trivial, ?_⟩
      cases found with
      | true =>
        simp only [if_true]
        have h1 := hk.2
        rw [show (Mg.pl 2 ⟨2, id, key, true, obj, old, ctx, meta_, dead, val, pre, page, ring, code, txt⟩).obj = (if true = true ∧ 2 = 2 then obj else oj0) from rfl, if_pos ⟨rfl, rfl⟩] at h1
        exact ⟨hc, h1⟩
      | false => simp only [Bool.false_eq_true, if_false]
  · subst h
    have hp := ((((pens_blob 128).on Mg.key).seq (pens_vec.on Mg.ctx)).seq (pens_prs.on Mg.meta_)).seq (pens_flag.on Mg.dead) |>.seq ((pens_blob 32768).on Mg.val)
    refine body_of (v := v) (m := ⟨3, id, key, found, obj, old, ctx, meta_, dead, val, pre, page, ring, code, txt⟩) hp (fun p => rfl) ?_ (fun _ => okl_zero rfl rfl) (fun hc _ => ?_)
    · simp only [ebodym, List.append_assoc]
    · obtain ⟨k1, k2⟩ := fst0_zero.1 hc
      obtain ⟨k2, k3⟩ := fst0_zero.1 k2
      obtain ⟨k3, k4⟩ := fst0_zero.1 k3
      exact ⟨⟨⟨⟨by simpa using (keychk_zero.1 k1).1, k2⟩, k3⟩, trivial⟩, by simpa using longchk_zero.1 k4⟩
  · subst h
    exact body_of (v := v) (m := ⟨4, id, key, found, obj, old, ctx, meta_, dead, val, pre, page, ring, code, txt⟩) (pens_vec.on Mg.ctx) (fun _ => rfl) rfl (fun _ => okl_zero rfl rfl) (fun hc _ => hc)
  · subst h
    exact body_of (v := v) (m := ⟨5, id, key, found, obj, old, ctx, meta_, dead, val, pre, page, ring, code, txt⟩) ((pens_blob 31).on Mg.pre) (fun _ => rfl) rfl (fun _ => okl_zero rfl rfl) (fun hc _ => by simpa using longchk_zero.1 hc)
  · subst h
    exact body_of (v := v) (m := ⟨6, id, key, found, obj, old, ctx, meta_, dead, val, pre, page, ring, code, txt⟩) (pens_page.on Mg.page) (fun _ => rfl) rfl (fun _ => okl_zero rfl rfl) (fun hc _ => hc)
  · subst h
    exact body_of (v := v) (m := ⟨7, id, key, found, obj, old, ctx, meta_, dead, val, pre, page, ring, code, txt⟩) (pens_ringp.on Mg.ring) (fun _ => rfl) rfl (fun _ => okl_zero rfl rfl) (fun hc _ => hc)
  · subst h; exact c8 rfl
  · subst h
    exact body_of (v := v) (m := ⟨9, id, key, found, obj, old, ctx, meta_, dead, val, pre, page, ring, code, txt⟩) ((pens_nest pens_obj).on Mg.obj) (fun _ => rfl) rfl (fun h => ⟨eold_zero, h.2⟩) (fun hc hk => ⟨hc, hk.2⟩)

theorem pl_kind (v : Nat) (m : Mg) : (m.pl v).kind = m.kind := by unfold Mg.pl; split <;> first | (rename_i h; rw [h]) | rfl
theorem pl_id (v : Nat) (m : Mg) : (m.pl v).id = m.id := by unfold Mg.pl; split <;> rfl
/-- What a kind has is all that is looked at. -/
theorem pl_all {v : Nat} {m : Mg} (hh : has v m.kind = true) : (m.pl v).pl v = m.pl v ∧ (m.pl v).chk v = m.chk v ∧ ebodym v (m.pl v) = ebodym v m ∧ ∀ p, Pe.mbody v p (m.pl v) = Pe.mbody v p m := by
  obtain ⟨kind, id, key, found, obj, old, ctx, meta_, dead, val, pre, page, ring, code, txt⟩ := m
  simp only at hh
  rcases has_cases hh with ⟨rfl, rfl | rfl | rfl⟩ | ⟨rfl, rfl | rfl | rfl | rfl | rfl | rfl | rfl | rfl | rfl⟩
  all_goals first
    | (simp [Mg.pl, Mg.chk, ebodym, Pe.mbody]; done)
    | (cases found <;> (simp [Mg.pl, Mg.chk, ebodym, Pe.mbody]; done))
theorem has_check {v : Nat} {m : Mg} (h : has v m.kind = true) : m.check v = m.chk v := by
  unfold Mg.check
  rcases has_cases h with ⟨rfl, _⟩ | ⟨rfl, _⟩
  · rw [if_neg (by simp), if_neg (by simp [h])]
  · rw [if_neg (by simp), if_neg (by simp [h])]
theorem plain_has {v : Nat} {m : Mg} (h : has v m.kind = true) : m.plain v = m.pl v := by unfold Mg.plain; rw [if_neg (by simp [h])]
theorem msge_fit {v : Nat} {m : Mg} (hh : has v m.kind = true) (hk : m.chk v = 0) (hl : okl v m) (hs : (encm v m).length ≤ 65536) : msge v m = (encm v m, 0) := by
  obtain ⟨_, g2, _⟩ := body_pens hh
  unfold msge
  rw [if_neg (by rw [has_check hh]; simpa using hk)]
  have e1 : Pe.text ⟨[], 65536, 0⟩ (vput m.id) = ⟨vput m.id, 65536, 0⟩ := by
    have := pens_text.fit ⟨[], 65536, 0⟩ (vput m.id) rfl trivial (by
      unfold encm at hs
      rw [List.length_append] at hs
      show ((([] : List UInt8).length + (vput m.id).length : Nat) : Int) ≤ 65536
      simp only [List.length_nil]; omega)
    simpa using this
  rw [e1, g2 ⟨vput m.id, 65536, 0⟩ rfl hk hl (by
    show (((vput m.id).length + (ebodym v m).length : Nat) : Int) ≤ 65536
    unfold encm at hs
    rw [List.length_append] at hs
    omega)]
  rfl
theorem msge_plain {v : Nat} {m : Mg} (hh : has v m.kind = true) : msge v (m.pl v) = msge v m := by
  obtain ⟨_, h2, _, h4⟩ := pl_all hh
  unfold msge
  rw [has_check (by rw [pl_kind]; exact hh), has_check hh, h2, pl_id, h4]
end Go.AW
/-
  messages: their data; where their fields are.
-/
namespace Go.AW
open Go Go.Proofs
set_option maxHeartbeats 2000000
set_option maxRecDepth 10000
set_option linter.unusedSimpArgs false
set_option linter.unusedVariables false
attribute [local irreducible] thenQ blockQ RetQ AL AW AC AOp

def mgD (m : Mg) : List D := [.s (.int .u8 (m.kind : Nat)), .s (.int .u64 (m.id : Nat)), .s (.string ⟨m.key.toArray⟩), .s (.bool m.found), .s (.string ⟨m.obj.key.toArray⟩), .l m.obj.sibs.length (sbsD m.obj.sibs), .s (.string ⟨m.old.key.toArray⟩), .l m.old.sibs.length (ossD m.old.sibs), .l m.ctx.length (vecD m.ctx), .l m.meta_.length (prsD m.meta_), .s (.bool m.dead), .s (.string ⟨m.val.toArray⟩), .s (.string ⟨m.pre.toArray⟩), .s (.string ⟨m.page.pre.toArray⟩), .s (.bool m.page.leaf), .l m.page.slots.length (slsD m.page.slots), .l m.page.items.length (itsD m.page.items), .l m.ring.length (ringD m.ring), .s (.int .i64 m.code), .s (.string ⟨m.txt.toArray⟩)]
/-- A message's cells. -/
abbrev mgC (m : Mg) : List V := [iv .u8 (m.kind : Nat), iv .u64 (m.id : Nat), sv (bs m.key), bv m.found, sv (bs m.obj.key), .d (.l m.obj.sibs.length (sbsD m.obj.sibs)), sv (bs m.old.key), .d (.l m.old.sibs.length (ossD m.old.sibs)), .d (.l m.ctx.length (vecD m.ctx)), .d (.l m.meta_.length (prsD m.meta_)), bv m.dead, sv (bs m.val), sv (bs m.pre), sv (bs m.page.pre), bv m.page.leaf, .d (.l m.page.slots.length (slsD m.page.slots)), .d (.l m.page.items.length (itsD m.page.items)), .d (.l m.ring.length (ringD m.ring)), iv .i64 m.code, sv (bs m.txt)]
abbrev mgV (m : Mg) : V := .a (mgC m)
/-- What is known of any message. -/
def Mg.fits (m : Mg) : Prop := m.kind < 256 ∧ m.id < 18446744073709551616 ∧ m.key.length ≤ 9223372036854775807 ∧ m.obj.fits ∧ m.old.fits ∧ m.ctx.fits ∧ m.meta_.fits ∧ m.val.length ≤ 9223372036854775807 ∧ m.pre.length ≤ 9223372036854775807 ∧ m.page.fits ∧ m.ring.fits ∧ (-9223372036854775808 ≤ m.code ∧ m.code ≤ 9223372036854775807) ∧ m.txt.length ≤ 9223372036854775807
end Go.AW
/-
  rings that are the same; great ones.
-/
namespace Go.AW
open Go Go.Proofs
set_option maxHeartbeats 4000000
set_option maxRecDepth 10000
set_option linter.unusedSimpArgs false
set_option linter.unusedVariables false
attribute [local irreducible] thenQ blockQ RetQ AL AW AC AOp

deriving instance DecidableEq for Mb
theorem ref22_Great (l : Ring) (hf : l.fits) : AC Tryz.prog 81 [.d (.l l.length (ringD l))] [] fun x σ => x = bv (Ring.great l) ∧ σ = [] := by
  refine AC.walk Tryz.func81 rfl (by decide) (of_decide_eq_true rfl) ?_
  have hll := hf.1
  by_cases h40 : 40 < l.length
  · have hc : Ring.great l = true := by unfold Ring.great; simp [h40]
    rw [hc]
    focus (have kxs : 987654321 = 987654320 + 1 := rfl; (repeat' (first | refine G ?_ | refine AW.ret ?_ | (refine GC ?_ ?_ <;> intro h <;> (try simp only [hsB] at h) <;> try (exfalso; first | omega | contradiction)) | (refine GL ?_ ?_ <;> intro h <;> (try simp only [Bool.not_true, Bool.not_false] at h) <;> (try simp only [h]) <;> (try simp only [hsB] at h) <;> try (exfalso; first | omega | contradiction)) | fail)); all_goals clear kxs)
    all_goals first | ((all_goals first | exact RetQ.fr 0 | exact RetQ.fn 0 | fail); done) | (exfalso; omega) | (exfalso; simp_all; done)
  generalize hR : (l.any fun x => decide (100 < x.name.length) || decide (30 < x.toks.length)) = R
  have hc : Ring.great l = R := by unfold Ring.great; rw [hR]; simp [h40]
  rw [hc]
  focus (have kxs : 987654321 = 987654320 + 1 := rfl; (repeat' (first | refine G ?_ | refine AW.ret ?_ | (refine GC ?_ ?_ <;> intro h <;> (try simp only [hsB] at h) <;> try (exfalso; first | omega | contradiction)) | (refine GL ?_ ?_ <;> intro h <;> (try simp only [Bool.not_true, Bool.not_false] at h) <;> (try simp only [h]) <;> (try simp only [hsB] at h) <;> try (exfalso; first | omega | contradiction)) | fail)); all_goals clear kxs)
  all_goals first | (exfalso; omega) | (exfalso; simp_all; done) | skip
  refine AW.rounds [0, 2, 3] (fun i : Nat => [(0, .d (.l l.length (ringD l))), (2, bv false), (3, iv .i64 i)]) (fun _ => [])
    (fun i => i ≤ l.length ∧ ((l.drop i).any fun x => decide (100 < x.name.length) || decide (30 < x.toks.length)) = R) (fun i => l.length - i) 0 ⟨Nat.zero_le _, hR⟩ rfl rfl (fun _ _ => Nat.zero_le _) (fun _ _ => rfl) (fun _ _ => rfl) ?_
  rintro i ⟨hi, hr⟩ J hJ
  by_cases hil : i < l.length
  case neg =>
    rw [List.drop_eq_nil_of_le (by omega)] at hr
    have hR0 : R = false := hr.symm
    rw [hR0]
    focus (have kxs : 987654321 = 987654320 + 1 := rfl; (repeat' (first | refine G ?_ | refine AW.ret ?_ | (refine GC ?_ ?_ <;> intro h <;> (try simp only [hsB] at h) <;> try (exfalso; first | omega | contradiction)) | (refine GL ?_ ?_ <;> intro h <;> (try simp only [Bool.not_true, Bool.not_false] at h) <;> (try simp only [h]) <;> (try simp only [hsB] at h) <;> try (exfalso; first | omega | contradiction)) | fail)); all_goals clear kxs)
    all_goals first | ((all_goals first | exact RetQ.fr 0 | exact RetQ.fn 0 | fail); done) | (exfalso; omega) | (exfalso; simp_all; done)
  obtain ⟨x, r, hd⟩ := next_at hil
  have hcd := ring_drop hd
  have hnd := next_drop hd
  obtain ⟨_, f4, f5⟩ := hf.2 x (next_mem hd)
  rw [hd, List.any_cons] at hr
  by_cases h1 : 100 < x.name.length ∨ 30 < x.toks.length
  · have hR1 : R = true := by
      rw [← hr]
      rcases h1 with h1 | h1 <;> simp [h1]
    rw [hR1]
    focus (have kxs := hcd; (repeat' (first | refine G ?_ | refine AW.ret ?_ | (refine GC ?_ ?_ <;> intro h <;> (try simp only [hsB] at h) <;> try (exfalso; first | omega | contradiction)) | (refine GL ?_ ?_ <;> intro h <;> (try simp only [Bool.not_true, Bool.not_false] at h) <;> (try simp only [h]) <;> (try simp only [hsB] at h) <;> try (exfalso; first | omega | contradiction)) | fail)); all_goals clear kxs)
    all_goals first | ((all_goals first | exact RetQ.fr 0 | exact RetQ.fn 0 | fail); done) | (exfalso; omega) | (exfalso; simp_all; done)
  · have hx : (decide (100 < x.name.length) || decide (30 < x.toks.length)) = false := by
      simp only [Bool.or_eq_false_iff, decide_eq_false_iff_not]; omega
    rw [hx, Bool.false_or] at hr
    have go : ∀ T' σ', keepT T' [0, 2, 3] = [(0, .d (.l l.length (ringD l))), (2, bv false), (3, iv .i64 ((i : Int) + 1))] → J T' σ' := fun T' σ' g1 =>
      hJ (i + 1) T' σ' (by omega) ⟨hil, by rw [hnd]; exact hr⟩ g1 rfl
    clear hJ hr hR hnd hx
    focus (have kxs := hcd; (repeat' (first | refine G ?_ | refine AW.ret ?_ | (refine GC ?_ ?_ <;> intro h <;> (try simp only [hsB] at h) <;> try (exfalso; first | omega | contradiction)) | (refine GL ?_ ?_ <;> intro h <;> (try simp only [Bool.not_true, Bool.not_false] at h) <;> (try simp only [h]) <;> (try simp only [hsB] at h) <;> try (exfalso; first | omega | contradiction)) | fail)); all_goals clear kxs)
    all_goals first | exact go _ _ rfl | (exfalso; omega) | (exfalso; simp_all; done)

theorem slices_Equal64 (v w : List Nat) (hv : v.length ≤ 9223372036854775807) : AC Tryz.prog 182 [.d (.l v.length (toksD v)), .d (.l w.length (toksD w))] [] fun x σ => x = bv (decide (v = w)) ∧ σ = [] := by
  refine AC.walk Tryz.func182 rfl (by decide) (of_decide_eq_true rfl) ?_
  by_cases hl : v.length = w.length
  case neg =>
    have hc : decide (v = w) = false := by simp; rintro rfl; exact hl rfl
    focus (have kxs := hc; (repeat' (first | (refine ADr.nil ?_; try clear hgv) | refine GO ?_ | refine AW.ret ?_ | (refine GC ?_ ?_ <;> intro h <;> (try simp only [hsB] at h) <;> try (exfalso; first | omega | contradiction)) | (refine GD ?_ ?_ <;> intro h <;> (try intro hgv) <;> (try simp only [Bool.not_true, Bool.not_false] at h) <;> (try simp only [h]) <;> (try simp only [hsB] at h) <;> try (exfalso; first | omega | contradiction)) | (refine GL ?_ ?_ <;> intro h <;> (try simp only [Bool.not_true, Bool.not_false] at h) <;> (try simp only [h]) <;> (try simp only [hsB] at h) <;> try (exfalso; first | omega | contradiction)) | fail)); all_goals clear kxs)
    all_goals first | (exfalso; omega) | ((all_goals have kxf := hc; first | exact RetQ.xr 0 | exact RetQ.xn 0 | fail); done)
  focus (have kxs : 987654321 = 987654320 + 1 := rfl; (repeat' (first | (refine ADr.nil ?_; try clear hgv) | refine GO ?_ | refine AW.ret ?_ | (refine GC ?_ ?_ <;> intro h <;> (try simp only [hsB] at h) <;> try (exfalso; first | omega | contradiction)) | (refine GD ?_ ?_ <;> intro h <;> (try intro hgv) <;> (try simp only [Bool.not_true, Bool.not_false] at h) <;> (try simp only [h]) <;> (try simp only [hsB] at h) <;> try (exfalso; first | omega | contradiction)) | (refine GL ?_ ?_ <;> intro h <;> (try simp only [Bool.not_true, Bool.not_false] at h) <;> (try simp only [h]) <;> (try simp only [hsB] at h) <;> try (exfalso; first | omega | contradiction)) | fail)); all_goals clear kxs)
  all_goals first | (exfalso; omega) | (exfalso; simp_all; done) | skip
  refine AW.rounds [0, 1, 4, 12, 13] (fun i : Nat => [(0, .d (.l v.length (toksD v))), (1, .d (.l w.length (toksD w))), (4, bv false), (12, iv .i64 v.length), (13, iv .i64 i)]) (fun _ => [])
    (fun i => i ≤ v.length ∧ (v = w ↔ v.drop i = w.drop i)) (fun i => v.length - i) 0 ⟨Nat.zero_le _, by simp⟩ rfl rfl (fun _ _ => Nat.zero_le _) (fun _ _ => rfl) (fun _ _ => rfl) ?_
  rintro i ⟨hi, hr⟩ J hJ
  by_cases hil : i < v.length
  · obtain ⟨x, r, hd⟩ := next_at hil
    obtain ⟨y, s, he⟩ := next_at (l := w) (i := i) (by omega)
    have hcd := toks_drop hd
    have hce := toks_drop he
    by_cases hxy : x = y
    · have hJ2 : v = w ↔ v.drop (i + 1) = w.drop (i + 1) := by
        rw [hr, next_drop hd, next_drop he, hd, he, hxy]; simp
      subst hxy
      focus (have kxs := And.intro hcd (And.intro hce @Nat.mul_one); (repeat' (first | (refine ADr.nil ?_; try clear hgv) | refine GO ?_ | refine AW.ret ?_ | (refine GC ?_ ?_ <;> intro h <;> (try simp only [hsB] at h) <;> try (exfalso; first | omega | contradiction)) | (refine GD ?_ ?_ <;> intro h <;> (try intro hgv) <;> (try simp only [Bool.not_true, Bool.not_false] at h) <;> (try simp only [h]) <;> (try simp only [hsB] at h) <;> try (exfalso; first | omega | contradiction)) | (refine GL ?_ ?_ <;> intro h <;> (try simp only [Bool.not_true, Bool.not_false] at h) <;> (try simp only [h]) <;> (try simp only [hsB] at h) <;> try (exfalso; first | omega | contradiction)) | fail)); all_goals clear kxs)
      all_goals first | (exact hJ (i + 1) _ _ (by omega) ⟨hil, hJ2⟩ rfl rfl) | (exfalso; simp_all; done)
    · have hn : ¬ v = w := by
        rw [hr, hd, he]
        intro e
        exact hxy (List.cons.inj e).1
      have hc : decide (v = w) = false := by simp [hn]
      rw [hc]
      have hxi : ¬ (x : Int) = y := by omega
      focus (have kxs := And.intro hcd (And.intro hce @Nat.mul_one); (repeat' (first | (refine ADr.nil ?_; try clear hgv) | refine GO ?_ | refine AW.ret ?_ | (refine GC ?_ ?_ <;> intro h <;> (try simp only [hsB] at h) <;> try (exfalso; first | omega | contradiction)) | (refine GD ?_ ?_ <;> intro h <;> (try intro hgv) <;> (try simp only [Bool.not_true, Bool.not_false] at h) <;> (try simp only [h]) <;> (try simp only [hsB] at h) <;> try (exfalso; first | omega | contradiction)) | (refine GL ?_ ?_ <;> intro h <;> (try simp only [Bool.not_true, Bool.not_false] at h) <;> (try simp only [h]) <;> (try simp only [hsB] at h) <;> try (exfalso; first | omega | contradiction)) | fail)); all_goals clear kxs)
      all_goals first | ((all_goals first | exact RetQ.fr 0 | exact RetQ.fn 0 | fail); done) | (exfalso; omega) | (exfalso; simp_all; done)
  · have hc : decide (v = w) = true := by
      simp only [decide_eq_true_eq]
      rw [hr, List.drop_eq_nil_of_le (by omega), List.drop_eq_nil_of_le (by omega)]
    rw [hc]
    focus (have kxs : 987654321 = 987654320 + 1 := rfl; (repeat' (first | (refine ADr.nil ?_; try clear hgv) | refine GO ?_ | refine AW.ret ?_ | (refine GC ?_ ?_ <;> intro h <;> (try simp only [hsB] at h) <;> try (exfalso; first | omega | contradiction)) | (refine GD ?_ ?_ <;> intro h <;> (try intro hgv) <;> (try simp only [Bool.not_true, Bool.not_false] at h) <;> (try simp only [h]) <;> (try simp only [hsB] at h) <;> try (exfalso; first | omega | contradiction)) | (refine GL ?_ ?_ <;> intro h <;> (try simp only [Bool.not_true, Bool.not_false] at h) <;> (try simp only [h]) <;> (try simp only [hsB] at h) <;> try (exfalso; first | omega | contradiction)) | fail)); all_goals clear kxs)
    all_goals first | ((all_goals first | exact RetQ.fr 0 | exact RetQ.fn 0 | fail); done) | (exfalso; omega) | (exfalso; simp_all; done)

theorem mb_dec (x y : Mb) : decide (x = y) = (decide (x.name = y.name) && (decide ((x.ep : Int) = y.ep) && (decide ((x.st : Int) = y.st) && decide (x.toks = y.toks)))) := by
  obtain ⟨a, b, c, d⟩ := x
  obtain ⟨a', b', c', d'⟩ := y
  by_cases h1 : a = a' <;> by_cases h2 : b = b' <;> by_cases h3 : c = c' <;> by_cases h4 : d = d' <;> simp [h1, h2, h3, h4, Int.natCast_inj]
theorem ring_Same1 (x y : Mb) (hx : x.toks.length ≤ 9223372036854775807) : AC Tryz.prog 181 [mbV x, mbV y] [] fun z σ => z = bv (decide (x = y)) ∧ σ = [] := by
  refine AC.walk Tryz.func181 rfl (by decide) (of_decide_eq_true rfl) ?_
  have heq := slices_Equal64 x.toks y.toks hx
  rw [mb_dec]
  generalize decide (x.toks = y.toks) = b4 at *
  by_cases e1 : x.name = y.name
  case neg =>
    have d1 : decide (x.name = y.name) = false := decide_eq_false e1
    rw [d1]
    focus (have kxs := d1; have kk1 := uN [] (heq); (repeat' (first | refine G ?_ | refine AW.ret ?_ | (refine GC ?_ ?_ <;> intro h <;> (try simp only [hsB] at h) <;> try (exfalso; first | omega | contradiction)) | (refine GL ?_ ?_ <;> intro h <;> (try simp only [Bool.not_true, Bool.not_false] at h) <;> (try simp only [h]) <;> (try simp only [hsB] at h) <;> try (exfalso; first | omega | contradiction)) | fail)); all_goals clear kxs kk1)
    all_goals first | ((all_goals first | exact RetQ.fr 0 | exact RetQ.fn 0 | fail); done) | (exfalso; omega) | (exfalso; simp_all; done)
  have d1 : decide (x.name = y.name) = true := decide_eq_true e1
  by_cases e2 : (x.ep : Int) = y.ep
  case neg =>
    have d2 : decide ((x.ep : Int) = y.ep) = false := decide_eq_false e2
    rw [d1, d2]
    focus (have kxs := And.intro d1 d2; have kk1 := uN [] (heq); (repeat' (first | refine G ?_ | refine AW.ret ?_ | (refine GC ?_ ?_ <;> intro h <;> (try simp only [hsB] at h) <;> try (exfalso; first | omega | contradiction)) | (refine GL ?_ ?_ <;> intro h <;> (try simp only [Bool.not_true, Bool.not_false] at h) <;> (try simp only [h]) <;> (try simp only [hsB] at h) <;> try (exfalso; first | omega | contradiction)) | fail)); all_goals clear kxs kk1)
    all_goals first | ((all_goals first | exact RetQ.fr 0 | exact RetQ.fn 0 | fail); done) | (exfalso; omega) | (exfalso; simp_all; done)
  have d2 : decide ((x.ep : Int) = y.ep) = true := decide_eq_true e2
  by_cases e3 : (x.st : Int) = y.st
  case neg =>
    have d3 : decide ((x.st : Int) = y.st) = false := decide_eq_false e3
    rw [d1, d2, d3]
    focus (have kxs := And.intro d1 (And.intro d2 d3); have kk1 := uN [] (heq); (repeat' (first | refine G ?_ | refine AW.ret ?_ | (refine GC ?_ ?_ <;> intro h <;> (try simp only [hsB] at h) <;> try (exfalso; first | omega | contradiction)) | (refine GL ?_ ?_ <;> intro h <;> (try simp only [Bool.not_true, Bool.not_false] at h) <;> (try simp only [h]) <;> (try simp only [hsB] at h) <;> try (exfalso; first | omega | contradiction)) | fail)); all_goals clear kxs kk1)
    all_goals first | ((all_goals first | exact RetQ.fr 0 | exact RetQ.fn 0 | fail); done) | (exfalso; omega) | (exfalso; simp_all; done)
  have d3 : decide ((x.st : Int) = y.st) = true := decide_eq_true e3
  rw [d1, d2, d3]
  focus (have kxs := And.intro d1 (And.intro d2 d3); have kk1 := uN [] (heq); (repeat' (first | refine G ?_ | refine AW.ret ?_ | (refine GC ?_ ?_ <;> intro h <;> (try simp only [hsB] at h) <;> try (exfalso; first | omega | contradiction)) | (refine GL ?_ ?_ <;> intro h <;> (try simp only [Bool.not_true, Bool.not_false] at h) <;> (try simp only [h]) <;> (try simp only [hsB] at h) <;> try (exfalso; first | omega | contradiction)) | fail)); all_goals clear kxs kk1)
  all_goals first | ((all_goals first | exact RetQ.fr 0 | exact RetQ.fn 0 | fail); done) | (exfalso; omega) | (exfalso; simp_all; done)
theorem slices_EqualFuncMb (v w : Ring) (hv : v.length ≤ 9223372036854775807) (hf : ∀ x ∈ v, x.toks.length ≤ 9223372036854775807) : AC Tryz.prog 180 [.d (.l v.length (ringD v)), .d (.l w.length (ringD w)), .f (.func 181) [] []] [] fun x σ => x = bv (decide (v = w)) ∧ σ = [] := by
  refine AC.walk Tryz.func180 rfl (by decide) (of_decide_eq_true rfl) ?_
  by_cases hl : v.length = w.length
  case neg =>
    have hc : decide (v = w) = false := by simp; rintro rfl; exact hl rfl
    focus (have kxs := hc; (repeat' (first | refine G ?_ | refine AW.ret ?_ | (refine GC ?_ ?_ <;> intro h <;> (try simp only [hsB] at h) <;> try (exfalso; first | omega | contradiction)) | (refine GL ?_ ?_ <;> intro h <;> (try simp only [Bool.not_true, Bool.not_false] at h) <;> (try simp only [h]) <;> (try simp only [hsB] at h) <;> try (exfalso; first | omega | contradiction)) | fail)); all_goals clear kxs)
    all_goals first | (exfalso; omega) | ((all_goals have kxf := hc; first | exact RetQ.xr 0 | exact RetQ.xn 0 | fail); done)
  focus (have kxs : 987654321 = 987654320 + 1 := rfl; (repeat' (first | refine G ?_ | refine AW.ret ?_ | (refine GC ?_ ?_ <;> intro h <;> (try simp only [hsB] at h) <;> try (exfalso; first | omega | contradiction)) | (refine GL ?_ ?_ <;> intro h <;> (try simp only [Bool.not_true, Bool.not_false] at h) <;> (try simp only [h]) <;> (try simp only [hsB] at h) <;> try (exfalso; first | omega | contradiction)) | fail)); all_goals clear kxs)
  all_goals first | (exfalso; omega) | skip
  refine AW.rounds [1, 2, 6, 15, 16, 17] (fun i : Nat => [(1, .d (.l w.length (ringD w))), (2, .f (.func 181) [] []), (6, bv false), (15, .d (.l v.length (ringD v))), (16, iv .i64 v.length), (17, iv .i64 i)]) (fun _ => [])
    (fun i => i ≤ v.length ∧ (v = w ↔ v.drop i = w.drop i)) (fun i => v.length - i) 0 ⟨Nat.zero_le _, by simp⟩ rfl rfl (fun _ _ => Nat.zero_le _) (fun _ _ => rfl) (fun _ _ => rfl) ?_
  rintro i ⟨hi, hr⟩ J hJ
  by_cases hil : i < v.length
  · obtain ⟨x, r, hd⟩ := next_at hil
    obtain ⟨y, s, he⟩ := next_at (l := w) (i := i) (by omega)
    have hcd := ring_drop hd
    have hce := ring_drop he
    have hfx := hf x (next_mem hd)
    have h1 := ring_Same1 x y hfx
    by_cases hxy : x = y
    · have hJ2 : v = w ↔ v.drop (i + 1) = w.drop (i + 1) := by
        rw [hr, next_drop hd, next_drop he, hd, he, hxy]; simp
      rw [decide_eq_true hxy] at h1
      focus (have kxs := And.intro hcd hce; have kk1 := uN [] (h1); (repeat' (first | refine G ?_ | refine AW.ret ?_ | (refine GC ?_ ?_ <;> intro h <;> (try simp only [hsB] at h) <;> try (exfalso; first | omega | contradiction)) | (refine GL ?_ ?_ <;> intro h <;> (try simp only [Bool.not_true, Bool.not_false] at h) <;> (try simp only [h]) <;> (try simp only [hsB] at h) <;> try (exfalso; first | omega | contradiction)) | fail)); all_goals clear kxs kk1)
      all_goals first | (exact hJ (i + 1) _ _ (by omega) ⟨hil, hJ2⟩ rfl rfl) | (exfalso; simp_all; done)
    · have hc : decide (v = w) = false := by
        simp only [decide_eq_false_iff_not]
        rw [hr, hd, he]
        intro e
        exact hxy (List.cons.inj e).1
      rw [hc]
      rw [decide_eq_false hxy] at h1
      focus (have kxs := And.intro hcd hce; have kk1 := uN [] (h1); (repeat' (first | refine G ?_ | refine AW.ret ?_ | (refine GC ?_ ?_ <;> intro h <;> (try simp only [hsB] at h) <;> try (exfalso; first | omega | contradiction)) | (refine GL ?_ ?_ <;> intro h <;> (try simp only [Bool.not_true, Bool.not_false] at h) <;> (try simp only [h]) <;> (try simp only [hsB] at h) <;> try (exfalso; first | omega | contradiction)) | fail)); all_goals clear kxs kk1)
      all_goals first | ((all_goals first | exact RetQ.fr 0 | exact RetQ.fn 0 | fail); done) | (exfalso; simp_all; done)
  · have hc : decide (v = w) = true := by
      simp only [decide_eq_true_eq]
      rw [hr, List.drop_eq_nil_of_le (by omega), List.drop_eq_nil_of_le (by omega)]
    rw [hc]
    focus (have kxs : 987654321 = 987654320 + 1 := rfl; (repeat' (first | refine G ?_ | refine AW.ret ?_ | (refine GC ?_ ?_ <;> intro h <;> (try simp only [hsB] at h) <;> try (exfalso; first | omega | contradiction)) | (refine GL ?_ ?_ <;> intro h <;> (try simp only [Bool.not_true, Bool.not_false] at h) <;> (try simp only [h]) <;> (try simp only [hsB] at h) <;> try (exfalso; first | omega | contradiction)) | fail)); all_goals clear kxs)
    all_goals first | ((all_goals first | exact RetQ.fr 0 | exact RetQ.fn 0 | fail); done) | (exfalso; simp_all; done)
theorem ring_Same (v w : Ring) (hv : v.length ≤ 9223372036854775807) (hf : ∀ x ∈ v, x.toks.length ≤ 9223372036854775807) : AC Tryz.prog 102 [.d (.l v.length (ringD v)), .d (.l w.length (ringD w))] [] fun x σ => x = bv (decide (v = w)) ∧ σ = [] := by
  refine AC.walk Tryz.func102 rfl (by decide) (of_decide_eq_true rfl) ?_
  focus (have kxs : 987654321 = 987654320 + 1 := rfl; have kk1 := uN [] (slices_EqualFuncMb v w hv hf); (repeat' (first | refine G ?_ | refine AW.ret ?_ | (refine GC ?_ ?_ <;> intro h <;> (try simp only [hsB] at h) <;> try (exfalso; first | omega | contradiction)) | (refine GL ?_ ?_ <;> intro h <;> (try simp only [Bool.not_true, Bool.not_false] at h) <;> (try simp only [h]) <;> (try simp only [hsB] at h) <;> try (exfalso; first | omega | contradiction)) | fail)); all_goals clear kxs kk1)
  all_goals first | ((all_goals first | exact RetQ.fr 0 | exact RetQ.fn 0 | fail); done) | (exfalso; simp_all; done)

end Go.AW
