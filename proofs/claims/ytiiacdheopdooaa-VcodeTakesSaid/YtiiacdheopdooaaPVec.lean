/-
  Plain: lists that are read, thing by thing; vectors.
-/
import Derived.Test.YtiiacdheopdooaaPTrip
import Derived.Test.YtiiacdheopdooaaPRise
namespace Go.AW
set_option linter.unusedVariables false

/-- An error, unless something holds. -/
def gd (b : Bool) (f : Int) (c : Cu) : Cu := if b = true then c else c.fail f
theorem gd_s (b : Bool) (f : Int) (c : Cu) : (gd b f c).s = c.s := by unfold gd; split <;> rfl
theorem gd_stuck {c : Cu} (h : c.e ≠ 0) (b : Bool) (f : Int) : gd b f c = c := by unfold gd; rw [Cu.fail_stuck h, ite_self]
theorem gd_ok {c : Cu} {b : Bool} {f : Int} (h : c.Ok) : (gd b f c).Ok := by unfold gd; split <;> exact h
theorem gd_e {c : Cu} {b : Bool} {f : Int} (hf : f ≠ 0) (h : (gd b f c).e = 0) : b = true ∧ gd b f c = c := by
  unfold gd at h ⊢
  by_cases hb : b = true
  · rw [if_pos hb] at h ⊢; exact ⟨hb, rfl⟩
  · rw [if_neg hb] at h; exact absurd h (Cu.fail_e hf)

theorem Trip.guard {α : Type} {R : Cu → α × Cu} {enc : α → List UInt8} {good : α → Prop} (h : Trip R enc good) (ok : α → Bool) {f : Int} (hf : f ≠ 0) : Trip (fun c => ((R c).1, gd (ok (R c).1) f (R c).2)) enc (fun x => good x ∧ ok x = true) where
  stuck := fun c hc => by
    show gd _ f (R c).2 = c
    rw [h.stuck c hc, gd_stuck hc]
  text := fun c => by
    show (gd _ f (R c).2).s = c.s
    rw [gd_s, h.text]
  fore := fun c x r hx hc ha hd => by
    have := h.fore c x r hx.1 hc ha hd
    rw [this]
    simp only [hx.2, gd, if_true]
  back := fun c he => by
    obtain ⟨h1, h2⟩ := gd_e hf he
    simp only at he ⊢
    rw [h2] at he ⊢
    obtain ⟨g1, g2, g3⟩ := h.back c he
    exact ⟨⟨g1, h1⟩, g2, g3⟩
  cut := fun c x r hx hc ha hd hr => by
    have := h.cut c x r hx.1 hc ha hd hr
    show (gd _ f (R c).2).e = 2
    rw [gd_stuck (by rw [this]; decide), this]

/-- A number of things, one behind the other; each hangs on what was ahead. -/
def Cu.many {α κ : Type} (R : κ → Cu → α × Cu) (next : κ → α → κ) : Nat → κ → Cu → List α × Cu
  | 0, _, c => ([], c)
  | n + 1, k, c => ((R k c).1 :: (Cu.many R next n (next k (R k c).1) (R k c).2).1, (Cu.many R next n (next k (R k c).1) (R k c).2).2)
def goods {α κ : Type} (good : κ → α → Prop) (next : κ → α → κ) : κ → List α → Prop
  | _, [] => True
  | k, x :: l => good k x ∧ goods good next (next k x) l
section
variable {α κ : Type} {R : κ → Cu → α × Cu} {next : κ → α → κ} {enc : α → List UInt8} {good : κ → α → Prop}
theorem Cu.many_stuck (hst : ∀ k c, c.e ≠ 0 → (R k c).2 = c) : ∀ (n : Nat) (k : κ) (c : Cu), c.e ≠ 0 → (Cu.many R next n k c).2 = c
  | 0, k, c, h => rfl
  | n + 1, k, c, h => by
    show (Cu.many R next n _ (R k c).2).2 = c
    rw [hst k c h]
    exact Cu.many_stuck hst n _ c h
theorem Cu.many_s (htx : ∀ k c, (R k c).2.s = c.s) : ∀ (n : Nat) (k : κ) (c : Cu), (Cu.many R next n k c).2.s = c.s
  | 0, k, c => rfl
  | n + 1, k, c => by
    show (Cu.many R next n _ (R k c).2).2.s = c.s
    rw [Cu.many_s htx n, htx]
theorem Cu.many_ok (hok : ∀ k c, c.Ok → (R k c).2.Ok) : ∀ (n : Nat) (k : κ) (c : Cu), c.Ok → (Cu.many R next n k c).2.Ok
  | 0, k, c, h => h
  | n + 1, k, c, h => Cu.many_ok hok n _ _ (hok k c h)
theorem Cu.many_length : ∀ (n : Nat) (k : κ) (c : Cu), (Cu.many R next n k c).1.length = n
  | 0, k, c => rfl
  | n + 1, k, c => by
    show (_ :: (Cu.many R next n _ (R k c).2).1).length = n + 1
    rw [List.length_cons, Cu.many_length n]
theorem trip_many (h : ∀ k, Trip (R k) enc (good k)) : ∀ (n : Nat) (k : κ), Trip (Cu.many R next n k) (fun l => (l.map enc).flatten) (fun l => l.length = n ∧ goods good next k l)
  | 0, k => {
      stuck := fun c hc => rfl
      text := fun c => rfl
      fore := fun c x r hx hc ha hd => by
        obtain rfl := List.length_eq_zero_iff.1 hx.1
        obtain ⟨s, a, e⟩ := c
        simp only at hc
        subst hc
        simp [Cu.many]
      back := fun c he => by simp [Cu.many, goods]
      cut := fun c x r hx hc ha hd hr => by
        obtain rfl := List.length_eq_zero_iff.1 hx.1
        simp at hd
        exact absurd hd.2 hr }
  | n + 1, k => by
    have ih := trip_many h n
    have hst : ∀ k c, c.e ≠ 0 → (R k c).2 = c := fun k c => (h k).stuck c
    have htx : ∀ k c, (R k c).2.s = c.s := fun k => (h k).text
    have hn : ∀ a, Trip (fun c => (a :: (Cu.many R next n (next k a) c).1, (Cu.many R next n (next k a) c).2)) (fun l : List α => (l.tail.map enc).flatten) (fun l => ∃ t, l = a :: t ∧ t.length = n ∧ goods good next (next k a) t) := fun a => {
      stuck := fun c hc => (ih (next k a)).stuck c hc
      text := fun c => (ih (next k a)).text c
      fore := fun c x r hx hc ha hd => by
        obtain ⟨t, rfl, h1, h2⟩ := hx
        have := (ih (next k a)).fore c t r ⟨h1, h2⟩ hc ha hd
        simp only [this]
        rfl
      back := fun c he => by
        obtain ⟨g1, g2, g3⟩ := (ih (next k a)).back c he
        exact ⟨⟨_, rfl, g1.1, g1.2⟩, g2, g3⟩
      cut := fun c x r hx hc ha hd hr => by
        obtain ⟨t, rfl, h1, h2⟩ := hx
        exact (ih (next k a)).cut c t r ⟨h1, h2⟩ hc ha hd hr }
    have := Trip.bind (R := R k) (encR := enc) (goodR := good k) (S := fun a c => (a :: (Cu.many R next n (next k a) c).1, (Cu.many R next n (next k a) c).2)) (encS := fun _ l => (l.tail.map enc).flatten)
      (goodS := fun a l => ∃ t, l = a :: t ∧ t.length = n ∧ goods good next (next k a) t) (key := fun l => l.headD (R k ⟨[], 0, 1⟩).1) (enc := fun l => if l = [] then enc (R k ⟨[], 0, 1⟩).1 else (l.map enc).flatten) (good := fun l => l.length = n + 1 ∧ goods good next k l)
      (h k) (fun a _ => hn a) (fun a c hc => (hn a).stuck c hc) (fun a c => (hn a).text c)
      (fun b => by cases b <;> simp)
      (fun b => by
        cases b with
        | nil => simp
        | cons x t => simp [goods]; exact ⟨fun ⟨h1, h2, h3⟩ => ⟨h2, h1, h3⟩, fun ⟨h1, h2, h3⟩ => ⟨h2, h1, h3⟩⟩)
      (fun a b _ hb => by obtain ⟨t, rfl, _⟩ := hb; rfl)
    refine ⟨this.stuck, this.text, fun c x r hx hc ha hd => ?_, fun c he => ?_, fun c x r hx hc ha hd hr => ?_⟩
    · have hx2 : x ≠ [] := by rintro rfl; simp at hx
      have t := this.fore c x r hx hc ha (by rw [if_neg hx2]; exact hd)
      rw [if_neg hx2] at t
      exact t
    · have t := this.back c he
      rw [if_neg (List.cons_ne_nil _ _)] at t
      exact t
    · have hx2 : x ≠ [] := by rintro rfl; simp at hx
      exact this.cut c x r hx hc ha (by rw [if_neg hx2]; exact hd) hr
end

/-! ### Vectors -/

abbrev En := List UInt8 × Nat
abbrev Vec := List En

def vcheck : List UInt8 → Vec → Int
  | _, [] => 0
  | p, x :: r => if 32 < x.1.length then 3 else if x.1 = [] then 14 else if lessB p x.1 = false then 6 else if x.2 = 0 then 7 else vcheck x.1 r
def Vec.check (v : Vec) : Int := if 64 < v.length then 3 else vcheck [] v
def Vec.great (v : Vec) : Bool := decide (100 < v.length) || v.any fun x => decide (100 < x.1.length)

/-- A name that is read, behind another one. -/
def Cu.actor (max : Int) (p : List UInt8) (c : Cu) : List UInt8 × Cu := ((c.blob max).1, gd (lessB p (c.blob max).1) 6 (gd (decide ((c.blob max).1 ≠ [])) 14 (c.blob max).2))
/-- A number that isn't zero. -/
def Cu.vnz (c : Cu) : Nat × Cu := (c.vtake.1, gd (decide (c.vtake.1 ≠ 0)) 7 c.vtake.2)
def Cu.ent (p : List UInt8) (c : Cu) : En × Cu := (((c.actor 32 p).1, (c.actor 32 p).2.vnz.1), (c.actor 32 p).2.vnz.2)
def Cu.ents (n : Nat) (p : List UInt8) (c : Cu) : Vec × Cu := Cu.many Cu.ent (fun _ x => x.1) n p c
def Cu.vec (c : Cu) : Vec × Cu :=
  (if ((c.count 64).2.ents (c.count 64).1 []).2.e ≠ 0 then [] else ((c.count 64).2.ents (c.count 64).1 []).1, ((c.count 64).2.ents (c.count 64).1 []).2)
def eent (x : En) : List UInt8 := eblob x.1 ++ vput x.2
def evec (v : Vec) : List UInt8 := vput v.length ++ (v.map eent).flatten
def Pe.ent (p : Pe) (x : En) : Pe := (p.blob 32 x.1).text (vput x.2)
def Pe.ents (p : Pe) (v : Vec) : Pe := v.foldl Pe.ent p
def Pe.vec (p : Pe) (v : Vec) : Pe := if v.check ≠ 0 then p.fail v.check else (p.text (vput v.length)).ents v
def Pe.vecs (p : Pe) (l : List Vec) : Pe := l.foldl Pe.vec p

theorem Cu.actor_ok {c : Cu} {m : Int} {p : List UInt8} (h : c.Ok) : (c.actor m p).2.Ok := gd_ok (gd_ok (Cu.blob_ok h))
theorem Cu.vnz_ok {c : Cu} (h : c.Ok) : c.vnz.2.Ok := gd_ok (Cu.vtake_ok h)
theorem Cu.ent_ok {c : Cu} {p : List UInt8} (h : c.Ok) : (c.ent p).2.Ok := Cu.vnz_ok (Cu.actor_ok h)
theorem Cu.vec_ok {c : Cu} (h : c.Ok) : c.vec.2.Ok := Cu.many_ok (fun k c h => Cu.ent_ok h) _ _ _ (Cu.count_ok h)

theorem trip_actor (m : Int) (p : List UInt8) : Trip (fun c => Cu.actor m p c) eblob (fun a => ((a.length ≤ m.toNat ∧ a.length < 18446744073709551616) ∧ decide (a ≠ []) = true) ∧ lessB p a = true) :=
  Trip.guard (Trip.guard (trip_blob m) (fun a => decide (a ≠ [])) (by decide)) (fun a => lessB p a) (by decide)
theorem trip_vnz : Trip Cu.vnz vput (fun n => n < 18446744073709551616 ∧ decide (n ≠ 0) = true) := Trip.guard trip_v (fun n => decide (n ≠ 0)) (by decide)
theorem Trip.pair {α β : Type} {R : Cu → β × Cu} {enc : β → List UInt8} {good : β → Prop} (h : Trip R enc good) (a : α) : Trip (fun c => ((a, (R c).1), (R c).2)) (fun x => enc x.2) (fun x => x.1 = a ∧ good x.2) where
  stuck := fun c hc => h.stuck c hc
  text := fun c => h.text c
  fore := fun c x r hx hc ha hd => by
    obtain ⟨x, y⟩ := x
    obtain ⟨rfl, hy⟩ := hx
    have := h.fore c y r hy hc ha hd
    simp only [this]
  back := fun c he => by
    obtain ⟨g1, g2, g3⟩ := h.back c he
    exact ⟨⟨rfl, g1⟩, g2, g3⟩
  cut := fun c x r hx hc ha hd hr => h.cut c x.2 r hx.2 hc ha hd hr
theorem Trip.iff {α : Type} {R : Cu → α × Cu} {enc : α → List UInt8} {good good' : α → Prop} (h : Trip R enc good) (hg : ∀ x, good x ↔ good' x) : Trip R enc good' := by
  have : good = good' := funext fun x => propext (hg x)
  rw [← this]; exact h
def gent (p : List UInt8) (x : En) : Prop := x.1.length ≤ 32 ∧ x.1 ≠ [] ∧ lessB p x.1 = true ∧ x.2 ≠ 0 ∧ x.2 < 18446744073709551616
theorem trip_ent (p : List UInt8) : Trip (Cu.ent p) eent (gent p) := by
  refine Trip.iff (Trip.bind (trip_actor 32 p) (fun a _ => Trip.pair trip_vnz a) (fun a c h => (Trip.pair trip_vnz a).stuck c h) (fun a c => (Trip.pair trip_vnz a).text c) (key := Prod.fst) (enc := eent)
    (good := fun x => ((((x.1.length ≤ (32 : Int).toNat ∧ x.1.length < 18446744073709551616) ∧ decide (x.1 ≠ []) = true) ∧ lessB p x.1 = true) ∧ x.1 = x.1 ∧ (x.2 < 18446744073709551616 ∧ decide (x.2 ≠ 0) = true))) (fun b => rfl) (fun b => Iff.rfl) (fun a b _ h => h.1)) (fun x => ?_)
  simp only [gent, Int.reduceToNat, decide_eq_true_eq]
  constructor
  · rintro ⟨⟨⟨⟨h1, h2⟩, h3⟩, h4⟩, h5, h6, h7⟩
    exact ⟨h1, h3, h4, h7, h6⟩
  · rintro ⟨h1, h2, h3, h4, h5⟩
    exact ⟨⟨⟨⟨h1, by omega⟩, h2⟩, h3⟩, trivial, h5, h4⟩

/-- A vector that may be written. -/
def gvec (v : Vec) : Prop := v.check = 0 ∧ ∀ x ∈ v, x.2 < 18446744073709551616
theorem vcheck_goods : ∀ (v : Vec) (p : List UInt8), (goods gent (fun _ x => x.1) p v ↔ vcheck p v = 0 ∧ ∀ x ∈ v, x.2 < 18446744073709551616)
  | [], p => by simp [goods, vcheck]
  | x :: v, p => by
    have ih := vcheck_goods v x.1
    unfold goods vcheck
    rw [ih]
    unfold gent
    by_cases h1 : 32 < x.1.length
    · rw [if_pos h1]; constructor <;> (rintro ⟨h2, h3⟩; omega)
    rw [if_neg h1]
    by_cases h2 : x.1 = []
    · rw [if_pos h2]
      constructor
      · rintro ⟨⟨_, h, _⟩, _⟩; exact absurd h2 h
      · rintro ⟨h, _⟩; exact absurd h (by decide)
    rw [if_neg h2]
    cases h3 : lessB p x.1 with
    | false => simp
    | true =>
      rw [if_neg (by decide)]
      by_cases h4 : x.2 = 0
      · simp [h4]
      · rw [if_neg h4]
        simp only [List.mem_cons, forall_eq_or_imp]
        constructor
        · rintro ⟨⟨_, _, _, _, g⟩, g1, g2⟩; exact ⟨g1, g, g2⟩
        · rintro ⟨g1, g, g2⟩; exact ⟨⟨by omega, h2, trivial, h4, g⟩, g1, g2⟩
theorem trip_vec : Trip Cu.vec evec gvec := by
  have hR := trip_count 64
  have hm := fun n => trip_many (R := Cu.ent) (next := fun _ x => x.1) trip_ent n []
  have hS : ∀ n : Nat, Trip (fun c => (if (Cu.ents n [] c).2.e ≠ 0 then [] else (Cu.ents n [] c).1, (Cu.ents n [] c).2)) (fun l => (l.map eent).flatten) (fun l => l.length = n ∧ goods gent (fun _ x => x.1) [] l) := fun n => {
    stuck := fun c hc => (hm n).stuck c hc
    text := fun c => (hm n).text c
    fore := fun c x r hx hc ha hd => by
      have := (hm n).fore c x r hx hc ha hd
      unfold Cu.ents
      rw [this]
      simp
    back := fun c he => by
      have := (hm n).back c he
      simp only
      rw [if_neg (by simpa using he)]
      exact this
    cut := fun c x r hx hc ha hd hr => (hm n).cut c x r hx hc ha hd hr }
  refine Trip.iff (Trip.bind hR (fun n _ => hS n) (fun n c h => (hS n).stuck c h) (fun n c => (hS n).text c) (key := List.length) (enc := evec) (good := fun v => (v.length ≤ (64 : Int).toNat ∧ v.length < 18446744073709551616) ∧ v.length = v.length ∧ goods gent (fun _ x => x.1) [] v) (fun b => rfl) (fun b => Iff.rfl) (fun a b _ h => h.1)) (fun v => ?_)
  rw [vcheck_goods]
  unfold gvec Vec.check
  simp only [Int.reduceToNat]
  constructor
  · rintro ⟨h1, _, h2, h3⟩
    rw [if_neg (by omega)]
    exact ⟨h2, h3⟩
  · rintro ⟨h1, h2⟩
    by_cases h3 : 64 < v.length
    · rw [if_pos h3] at h1; exact absurd h1 (by decide)
    · rw [if_neg h3] at h1
      exact ⟨⟨by omega, by omega⟩, trivial, h1, h2⟩
theorem Pe.ent_yes {p : Pe} {x : En} (h : (p.ent x).e = 0) : p.e = 0 ∧ (p.ent x).b = p.b ++ eent x := by
  obtain ⟨h1, h2⟩ := Pe.text_yes (p := p.blob 32 x.1) h
  obtain ⟨g1, g2, _⟩ := Pe.blob_yes h1
  refine ⟨g1, ?_⟩
  show ((p.blob 32 x.1).text (vput x.2)).b = _
  rw [h2, g2, eent, List.append_assoc]
theorem Pe.ents_yes : ∀ {v : Vec} {p : Pe}, (p.ents v).e = 0 → p.e = 0 ∧ (p.ents v).b = p.b ++ (v.map eent).flatten
  | [], p, h => ⟨h, by simp [Pe.ents]⟩
  | x :: v, p, h => by
    obtain ⟨h1, h2⟩ := Pe.ents_yes (v := v) (p := p.ent x) h
    obtain ⟨g1, g2⟩ := Pe.ent_yes h1
    refine ⟨g1, ?_⟩
    show ((p.ent x).ents v).b = _
    rw [h2, g2]; simp
theorem Pe.vec_yes {p : Pe} {v : Vec} (h : (p.vec v).e = 0) : p.e = 0 ∧ (p.vec v).b = p.b ++ evec v ∧ v.check = 0 := by
  unfold Pe.vec at h ⊢
  by_cases hc : v.check = 0
  · rw [if_neg (by simpa using hc)] at h ⊢
    obtain ⟨h1, h2⟩ := Pe.ents_yes h
    obtain ⟨g1, g2⟩ := Pe.text_yes h1
    exact ⟨g1, by rw [h2, g2, evec, List.append_assoc], hc⟩
  · rw [if_pos hc] at h
    exact absurd h (Pe.fail_e hc)
end Go.AW
