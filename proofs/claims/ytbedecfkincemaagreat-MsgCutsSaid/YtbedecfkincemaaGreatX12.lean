/-
  Plain: pages: how they are read and written.
-/
import Derived.Test.YtbedecfkincemaaGreatX11
import Derived.Test.YtbedecfkincemaaGreatX06
import Derived.Test.YtbedecfkincemaaGreatX08
namespace Go.AW
set_option linter.unusedVariables false
set_option linter.unusedSimpArgs false

abbrev It := List UInt8 × List UInt8
abbrev Sl := Nat × List UInt8
structure Pg where
  pre : List UInt8
  leaf : Bool
  slots : List Sl
  items : List It
deriving DecidableEq
def pg0 : Pg := ⟨[], false, [], []⟩

def begins (s w : List UInt8) : Bool := decide (w.length ≤ s.length) && decide (s.take w.length = w)
def afterL (p : Option (List UInt8)) (t : List UInt8) : Bool := match p with | none => true | some q => lessB q t
def itcheck (pre : List UInt8) : Option (List UInt8) → List It → Int
  | _, [] => 0
  | p, x :: r => if x.1.length ≠ 32 then 1 else if begins x.1 pre = false then 18 else if afterL p x.1 = false then 6 else if x.2.length ≠ 32 then 1 else itcheck pre (some x.1) r
def slcheck : Option Nat → List Sl → Int
  | _, [] => 0
  | p, x :: r => if after p x.1 = false then 6 else if x.2.length ≠ 32 then 1 else slcheck (some x.1) r
def Pg.check (g : Pg) : Int :=
  if 31 < g.pre.length then 3 else if g.leaf = true then (if g.slots ≠ [] then 1 else if 8 < g.items.length then 3 else itcheck g.pre none g.items)
  else (if g.items ≠ [] then 1 else if 256 < g.slots.length then 3 else if g.slots = [] then 7 else slcheck none g.slots)
def Pg.great (g : Pg) : Bool := decide (100 < g.pre.length) || decide (300 < g.slots.length) || decide (20 < g.items.length) || (g.slots.any fun x => decide (100 < x.2.length)) || g.items.any fun x => decide (100 < x.1.length) || decide (100 < x.2.length)

/-! ### Read -/

theorem trip_byte : Trip Cu.byte estt (fun n => n < 256) := by
  have hb : ∀ c, Cu.byte c = (((Cu.bytes c 1).1.getD 0 0).toNat, (Cu.bytes c 1).2) := fun c => by unfold Cu.byte; rfl
  exact {
    stuck := fun c hc => by rw [hb]; exact (trip_bytes 1).stuck c hc
    text := fun c => by rw [hb]; exact (trip_bytes 1).text c
    fore := fun c x r hx hc ha hd => by
      have h2 : Cu.bytes c 1 = _ := (trip_bytes 1).fore c (estt x) r rfl hc ha hd
      rw [hb, h2]
      simp only [estt, List.getD_cons_zero, u8_ofNat hx]
      rfl
    back := fun c he => by
      rw [hb] at he ⊢
      obtain ⟨g1, g2, g3⟩ := (trip_bytes 1).back c he
      have g1 : (Cu.bytes c 1).1.length = 1 := g1
      have g2 : (Cu.bytes c 1).2.a = c.a + (Cu.bytes c 1).1.length := g2
      have g3 : c.s.drop c.a = (Cu.bytes c 1).1 ++ c.s.drop (Cu.bytes c 1).2.a := g3
      generalize Cu.bytes c 1 = z at *
      obtain ⟨b, hz⟩ := List.length_eq_one_iff.1 g1
      rw [hz] at g2 g3 ⊢
      have e : estt (([b] : List UInt8).getD 0 0).toNat = [b] := by
        simp only [List.getD_cons_zero, estt, UInt8.ofNat_toNat]
      simp only
      rw [e]
      exact ⟨b.toNat_lt, g2, g3⟩
    cut := fun c x r hx hc ha hd hr => by rw [hb]; exact (trip_bytes 1).cut c (estt x) r rfl hc ha hd hr }
def Cu.ikey (pre : List UInt8) (p : Option (List UInt8)) (c : Cu) : List UInt8 × Cu := ((c.bytes 32).1, gd (afterL p (c.bytes 32).1) 6 (gd (begins (c.bytes 32).1 pre) 18 (c.bytes 32).2))
def Cu.item (pre : List UInt8) (p : Option (List UInt8)) (c : Cu) : It × Cu := rseq (Cu.ikey pre p) (fun _ c => Cu.bytes c 32) c
def Cu.sidx (p : Option Nat) (c : Cu) : Nat × Cu := (c.byte.1, gd (after p c.byte.1) 6 c.byte.2)
def Cu.slot (p : Option Nat) (c : Cu) : Sl × Cu := rseq (Cu.sidx p) (fun _ c => Cu.bytes c 32) c
def Cu.itemn (pre : List UInt8) (n : Nat) (c : Cu) : List It × Cu := Cu.many (Cu.item pre) (fun _ x => some x.1) n none c
def Cu.items (pre : List UInt8) (c : Cu) : List It × Cu := Cu.itemn pre (c.count 8).1 (c.count 8).2
def Cu.slotn (n : Nat) (c : Cu) : List Sl × Cu := Cu.many Cu.slot (fun _ x => some x.1) n none c
def Cu.count7 (c : Cu) : Nat × Cu := ((c.count 256).1, gd (decide ((c.count 256).1 ≠ 0)) 7 (c.count 256).2)
def Cu.slots (c : Cu) : List Sl × Cu := Cu.slotn c.count7.1 c.count7.2
def Cu.pbody (pre : List UInt8) (leaf : Bool) (c : Cu) : (List Sl × List It) × Cu := if leaf = true then (([], (c.items pre).1), (c.items pre).2) else ((c.slots.1, []), c.slots.2)
def Cu.page0 (c : Cu) : (List UInt8 × (Bool × (List Sl × List It))) × Cu := rseq (fun c => Cu.blob c 31) (fun pre => rseq Cu.flag (fun leaf => Cu.pbody pre leaf)) c
def Cu.page1 (c : Cu) : Pg × Cu := (⟨c.page0.1.1, c.page0.1.2.1, c.page0.1.2.2.1, c.page0.1.2.2.2⟩, c.page0.2)
def Cu.page (c : Cu) : Pg × Cu := (if c.page1.2.e ≠ 0 then pg0 else c.page1.1, c.page1.2)

def eit (x : It) : List UInt8 := x.1 ++ x.2
def esl (x : Sl) : List UInt8 := estt x.1 ++ x.2
def eits (l : List It) : List UInt8 := vput l.length ++ (l.map eit).flatten
def esls (l : List Sl) : List UInt8 := vput l.length ++ (l.map esl).flatten
def ebody (leaf : Bool) (x : List Sl × List It) : List UInt8 := if leaf = true then eits x.2 else esls x.1
def epage (g : Pg) : List UInt8 := eblob g.pre ++ (eflag g.leaf ++ ebody g.leaf (g.slots, g.items))
def git (pre : List UInt8) (p : Option (List UInt8)) (x : It) : Prop := ((x.1.length = 32 ∧ begins x.1 pre = true) ∧ afterL p x.1 = true) ∧ x.2.length = 32
def gsl (p : Option Nat) (x : Sl) : Prop := (x.1 < 256 ∧ after p x.1 = true) ∧ x.2.length = 32
theorem trip_item (pre : List UInt8) (p : Option (List UInt8)) : Trip (Cu.item pre p) eit (git pre p) :=
  Trip.seq (Trip.guard (Trip.guard (trip_bytes 32) (fun k => begins k pre) (by decide)) (fun k => afterL p k) (by decide)) (fun _ _ => trip_bytes 32) (fun _ c => (trip_bytes 32).stuck c) (fun _ => (trip_bytes 32).text)
theorem trip_slot (p : Option Nat) : Trip (Cu.slot p) esl (gsl p) :=
  Trip.seq (Trip.guard trip_byte (fun n => after p n) (by decide)) (fun _ _ => trip_bytes 32) (fun _ c => (trip_bytes 32).stuck c) (fun _ => (trip_bytes 32).text)
theorem itcheck_goods (pre : List UInt8) : ∀ (l : List It) (p : Option (List UInt8)), (goods (git pre) (fun _ x => some x.1) p l ↔ itcheck pre p l = 0)
  | [], p => by simp [goods, itcheck]
  | x :: l, p => by
    have ih := itcheck_goods pre l (some x.1)
    unfold goods itcheck
    rw [ih]
    unfold git
    by_cases h1 : x.1.length = 32
    case neg => rw [if_pos h1]; exact ⟨fun h => absurd h.1.1.1.1 h1, fun h => absurd h (by decide)⟩
    rw [if_neg (by simpa using h1)]
    cases h2 : begins x.1 pre with
    | false => simp
    | true =>
      rw [if_neg (by decide)]
      cases h3 : afterL p x.1 with
      | false => simp
      | true =>
        rw [if_neg (by decide)]
        by_cases h4 : x.2.length = 32
        · rw [if_neg (by simpa using h4)]
          exact ⟨fun h => h.2, fun h => ⟨⟨⟨⟨h1, rfl⟩, rfl⟩, h4⟩, h⟩⟩
        · rw [if_pos h4]; exact ⟨fun h => absurd h.1.2 h4, fun h => absurd h (by decide)⟩
theorem slcheck_goods : ∀ (l : List Sl) (p : Option Nat), (goods gsl (fun _ x => some x.1) p l ↔ slcheck p l = 0 ∧ ∀ x ∈ l, x.1 < 256)
  | [], p => by simp [goods, slcheck]
  | x :: l, p => by
    have ih := slcheck_goods l (some x.1)
    unfold goods slcheck
    rw [ih]
    unfold gsl
    cases h3 : after p x.1 with
    | false => simp
    | true =>
      rw [if_neg (by decide)]
      by_cases h4 : x.2.length = 32
      · rw [if_neg (by simpa using h4)]
        simp only [List.mem_cons, forall_eq_or_imp, and_true]
        exact ⟨fun ⟨⟨g1, g2⟩, g3, g4⟩ => ⟨g3, g1, g4⟩, fun ⟨g1, g2, g3⟩ => ⟨⟨g2, h4⟩, g1, g3⟩⟩
      · rw [if_pos h4]; exact ⟨fun h => absurd h.1.2 h4, fun h => absurd h.1 (by decide)⟩
def gits (pre : List UInt8) (l : List It) : Prop := l.length ≤ 8 ∧ itcheck pre none l = 0
def gsls (l : List Sl) : Prop := l.length ≤ 256 ∧ l ≠ [] ∧ slcheck none l = 0 ∧ ∀ x ∈ l, x.1 < 256
theorem trip_items (pre : List UInt8) : Trip (Cu.items pre) eits (gits pre) := by
  have hm := fun n => trip_many (R := Cu.item pre) (next := fun _ x => some x.1) (trip_item pre) n none
  refine Trip.iff (Trip.bind (S := fun n c => Cu.itemn pre n c) (trip_count 8) (fun n _ => hm n) (fun n c h => (hm n).stuck c h) (fun n c => (hm n).text c) (key := List.length) (enc := eits)
    (good := fun v => (v.length ≤ (8 : Int).toNat ∧ v.length < 18446744073709551616) ∧ v.length = v.length ∧ goods (git pre) (fun _ x => some x.1) none v) (fun b => rfl) (fun b => Iff.rfl) (fun a b _ h => h.1)) fun v => ?_
  rw [itcheck_goods]
  unfold gits
  simp only [Int.reduceToNat]
  exact ⟨fun h => ⟨h.1.1, h.2.2⟩, fun h => ⟨⟨h.1, by omega⟩, trivial, h.2⟩⟩
theorem trip_slots : Trip Cu.slots esls gsls := by
  have hm := fun n => trip_many (R := Cu.slot) (next := fun _ x => some x.1) trip_slot n none
  refine Trip.iff (Trip.bind (R := Cu.count7) (S := fun n c => Cu.slotn n c) (Trip.guard (trip_count 256) (fun n => decide (n ≠ 0)) (by decide)) (fun n _ => hm n) (fun n c h => (hm n).stuck c h) (fun n c => (hm n).text c) (key := List.length) (enc := esls)
    (good := fun v => ((v.length ≤ (256 : Int).toNat ∧ v.length < 18446744073709551616) ∧ decide (v.length ≠ 0) = true) ∧ v.length = v.length ∧ goods gsl (fun _ x => some x.1) none v) (fun b => rfl) (fun b => Iff.rfl) (fun a b _ h => h.1)) fun v => ?_
  rw [slcheck_goods]
  unfold gsls
  simp only [Int.reduceToNat, decide_eq_true_eq, ne_eq, List.length_eq_zero_iff]
  exact ⟨fun h => ⟨h.1.1.1, h.1.2, h.2.2⟩, fun h => ⟨⟨⟨h.1, by omega⟩, h.2.1⟩, trivial, h.2.2⟩⟩
/-- What is read is put into something greater. -/
theorem Trip.emb {α γ : Type} {R : Cu → α × Cu} {enc : α → List UInt8} {good : α → Prop} (h : Trip R enc good) (f : α → γ) (g : γ → α) (hgf : ∀ x, g (f x) = x) : Trip (fun c => (f (R c).1, (R c).2)) (fun y => enc (g y)) (fun y => f (g y) = y ∧ good (g y)) where
  stuck := fun c hc => h.stuck c hc
  text := fun c => h.text c
  fore := fun c x r hx hc ha hd => by
    have := h.fore c (g x) r hx.2 hc ha hd
    simp only [this, hx.1]
  back := fun c he => by
    obtain ⟨g1, g2, g3⟩ := h.back c he
    simp only [hgf]
    exact ⟨⟨trivial, g1⟩, g2, g3⟩
  cut := fun c x r hx hc ha hd hr => h.cut c (g x) r hx.2 hc ha hd hr
theorem trip_pbody (pre : List UInt8) (leaf : Bool) : Trip (Cu.pbody pre leaf) (ebody leaf) (fun x => if leaf = true then x.1 = [] ∧ gits pre x.2 else x.2 = [] ∧ gsls x.1) := by
  cases leaf with
  | true =>
    have h := Trip.emb (trip_items pre) (fun i => (([] : List Sl), i)) Prod.snd (fun _ => rfl)
    refine Trip.iff h fun x => ?_
    obtain ⟨a, b⟩ := x
    simp only [Prod.mk.injEq, and_true, if_true]
    exact ⟨fun h => ⟨h.1.symm, h.2⟩, fun h => ⟨h.1.symm, h.2⟩⟩
  | false =>
    have h := Trip.emb trip_slots (fun s => (s, ([] : List It))) Prod.fst (fun _ => rfl)
    refine Trip.iff h fun x => ?_
    obtain ⟨a, b⟩ := x
    simp only [Prod.mk.injEq, true_and, Bool.false_eq_true, if_false]
    exact ⟨fun h => ⟨h.1.symm, h.2⟩, fun h => ⟨h.1.symm, h.2⟩⟩
def gpage (g : Pg) : Prop := g.check = 0 ∧ ∀ x ∈ g.slots, x.1 < 256
theorem trip_page : Trip Cu.page epage gpage := by
  have hb := fun pre leaf => trip_pbody pre leaf
  have h1 := fun pre => Trip.seq trip_flag (S := fun leaf => Cu.pbody pre leaf) (fun leaf _ => hb pre leaf) (fun leaf c => (hb pre leaf).stuck c) (fun leaf => (hb pre leaf).text)
  have h2 : Trip Cu.page0 _ _ := Trip.seq (trip_blob 31) (S := fun pre => rseq Cu.flag (fun leaf => Cu.pbody pre leaf)) (fun pre _ => h1 pre) (fun pre c => (h1 pre).stuck c) (fun pre => (h1 pre).text)
  have h3 : Trip Cu.page1 _ _ := Trip.map h2 (fun x => (⟨x.1, x.2.1, x.2.2.1, x.2.2.2⟩ : Pg)) (fun g => (g.pre, (g.leaf, (g.slots, g.items)))) (fun _ => rfl) (fun _ => rfl)
  refine Trip.iff (Trip.dflt h3 pg0) fun g => ?_
  obtain ⟨pre, leaf, slots, items⟩ := g
  simp only [gpage, Pg.check, Int.reduceToNat]
  by_cases hp : 31 < pre.length
  · rw [if_pos hp]
    exact ⟨fun h => absurd h.1.1 (by omega), fun h => absurd h.1 (by decide)⟩
  rw [if_neg hp]
  cases leaf with
  | true =>
    simp only [if_true, gits]
    by_cases hs : slots = []
    · subst hs
      simp only [ne_eq, not_true_eq_false, if_false, true_and]
      by_cases h8 : 8 < items.length
      · rw [if_pos h8]; exact ⟨fun h => absurd h.2.1 (by omega), fun h => absurd h.1 (by decide)⟩
      · rw [if_neg h8]
        exact ⟨fun h => ⟨h.2.2, fun x hx => (List.not_mem_nil hx).elim⟩, fun h => ⟨⟨by omega, by omega⟩, by omega, h.1⟩⟩
    · rw [if_pos hs]
      exact ⟨fun h => absurd h.2.2.1 hs, fun h => absurd h.1 (by decide)⟩
  | false =>
    simp only [Bool.false_eq_true, if_false, gsls]
    by_cases hs : items = []
    · subst hs
      simp only [ne_eq, not_true_eq_false, if_false, true_and]
      by_cases h8 : 256 < slots.length
      · rw [if_pos h8]; exact ⟨fun h => absurd h.2.1 (by omega), fun h => absurd h.1 (by decide)⟩
      · rw [if_neg h8]
        by_cases h0 : slots = []
        · rw [if_pos h0]; exact ⟨fun h => absurd h0 h.2.2.1, fun h => absurd h.1 (by decide)⟩
        · rw [if_neg h0]
          exact ⟨fun h => h.2.2.2, fun h => ⟨⟨by omega, by omega⟩, by omega, h0, h⟩⟩
    · rw [if_pos hs]
      exact ⟨fun h => absurd h.2.2.1 hs, fun h => absurd h.1 (by decide)⟩
theorem Cu.item_ok {c : Cu} {pre : List UInt8} {p : Option (List UInt8)} (h : c.Ok) : (c.item pre p).2.Ok := Cu.bytes_ok (gd_ok (gd_ok (Cu.bytes_ok h)))
theorem Cu.slot_ok {c : Cu} {p : Option Nat} (h : c.Ok) : (c.slot p).2.Ok := Cu.bytes_ok (gd_ok (Cu.byte_ok h))
theorem Cu.items_ok {c : Cu} {pre : List UInt8} (h : c.Ok) : (c.items pre).2.Ok := Cu.many_ok (fun k c h => Cu.item_ok h) _ _ _ (Cu.count_ok h)
theorem Cu.slots_ok {c : Cu} (h : c.Ok) : c.slots.2.Ok := Cu.many_ok (fun k c h => Cu.slot_ok h) _ _ _ (gd_ok (Cu.count_ok h))
theorem Cu.page_ok {c : Cu} (h : c.Ok) : c.page.2.Ok := by
  show (Cu.pbody _ _ _).2.Ok
  have h2 := Cu.flag_ok (Cu.blob_ok (max := 31) h)
  unfold Cu.pbody
  split
  · exact Cu.items_ok h2
  · exact Cu.slots_ok h2

/-! ### Written -/

def Pe.it (p : Pe) (x : It) : Pe := (p.text x.1).text x.2
def Pe.sl (p : Pe) (x : Sl) : Pe := (p.text (estt x.1)).text x.2
def Pe.its (p : Pe) (l : List It) : Pe := l.foldl Pe.it p
def Pe.sls (p : Pe) (l : List Sl) : Pe := l.foldl Pe.sl p
def Pe.pbody (p : Pe) (g : Pg) : Pe := if g.leaf = true then (p.count 8 g.items.length).its g.items else (p.count 256 g.slots.length).sls g.slots
def Pe.page (p : Pe) (g : Pg) : Pe := if g.check ≠ 0 then p.fail g.check else ((p.blob 31 g.pre).flag g.leaf).pbody g
theorem Pens.ite {α : Type} {W W' : Pe → α → Pe} {enc enc' : α → List UInt8} {ok ok' : α → Prop} (h : Pens W enc ok) (h' : Pens W' enc' ok') (b : α → Bool) :
    Pens (fun p x => if b x = true then W p x else W' p x) (fun x => if b x = true then enc x else enc' x) (fun x => if b x = true then ok x else ok' x) where
  stuck := fun p x => by show _ → (if b x = true then W p x else W' p x) = p; split <;> first | exact h.stuck p x | exact h'.stuck p x
  m := fun p x => by show (if b x = true then W p x else W' p x).m = p.m; split <;> first | exact h.m p x | exact h'.m p x
  len := fun p x => by show (if b x = true then W p x else W' p x).b.length ≤ p.b.length + (if b x = true then enc x else enc' x).length; split <;> first | exact h.len p x | exact h'.len p x
  cap := fun p x => by show ((if b x = true then W p x else W' p x).b.length : Int) ≤ p.m ∨ (if b x = true then W p x else W' p x).b.length ≤ p.b.length; split <;> first | exact h.cap p x | exact h'.cap p x
  yes := fun p x => by show (if b x = true then W p x else W' p x).e = 0 → p.e = 0 ∧ (if b x = true then W p x else W' p x).b = p.b ++ (if b x = true then enc x else enc' x) ∧ (if b x = true then ok x else ok' x); split <;> first | exact h.yes p x | exact h'.yes p x
  fit := fun p x => by show p.e = 0 → (if b x = true then ok x else ok' x) → ((p.b.length + (if b x = true then enc x else enc' x).length : Nat) : Int) ≤ p.m → (if b x = true then W p x else W' p x) = ⟨p.b ++ (if b x = true then enc x else enc' x), p.m, 0⟩; split <;> first | exact h.fit p x | exact h'.fit p x
theorem pens_it : Pens Pe.it eit (fun _ => True) := Pens.iff ((pens_text.on (Prod.fst (β := List UInt8))).seq (pens_text.on (Prod.snd (α := List UInt8)))) fun x => by simp
theorem pens_sl : Pens Pe.sl esl (fun _ => True) := Pens.iff ((pens_text.on (fun x : Sl => estt x.1)).seq (pens_text.on (Prod.snd (α := Nat)))) fun x => by simp
theorem Pg.check_parts {g : Pg} (h : g.check = 0) : g.pre.length ≤ 31 ∧ (if g.leaf = true then g.slots = [] ∧ g.items.length ≤ 8 ∧ itcheck g.pre none g.items = 0 else g.items = [] ∧ g.slots.length ≤ 256 ∧ g.slots ≠ [] ∧ slcheck none g.slots = 0) := by
  unfold Pg.check at h
  split at h
  · exact absurd h (by decide)
  refine ⟨by omega, ?_⟩
  split at h
  · rename_i hl
    rw [if_pos hl]
    split at h
    · exact absurd h (by decide)
    split at h
    · exact absurd h (by decide)
    rename_i h1 h2
    exact ⟨by simpa using h1, by omega, h⟩
  · rename_i hl
    rw [if_neg hl]
    split at h
    · exact absurd h (by decide)
    split at h
    · exact absurd h (by decide)
    split at h
    · exact absurd h (by decide)
    rename_i h1 h2 h3
    exact ⟨by simpa using h1, by omega, h3, h⟩
theorem pens_page : Pens Pe.page epage (fun g => g.check = 0) := by
  have h1 := (((pens_count 8).on (fun g : Pg => g.items.length)).seq (pens_it.fold.on Pg.items)).ite (((pens_count 256).on (fun g : Pg => g.slots.length)).seq (pens_sl.fold.on Pg.slots)) Pg.leaf
  have h2 := Pens.chk ((((pens_blob 31).on Pg.pre).seq (pens_flag.on Pg.leaf)).seq h1) Pg.check
  have e : (fun x : Pg => (eblob x.pre ++ eflag x.leaf) ++ if x.leaf = true then vput x.items.length ++ (x.items.map eit).flatten else vput x.slots.length ++ (x.slots.map esl).flatten) = epage := by
    funext x
    unfold epage ebody eits esls
    rw [List.append_assoc]
  rw [e] at h2
  refine Pens.iff h2 fun g => ⟨fun h => h.1, fun h => ⟨h, ?_⟩⟩
  obtain ⟨g1, g2⟩ := Pg.check_parts h
  refine ⟨⟨by simpa using g1, trivial⟩, ?_⟩
  split
  · rename_i hl
    rw [if_pos hl] at g2
    exact ⟨by simpa using g2.2.1, fun _ _ => trivial⟩
  · rename_i hl
    rw [if_neg hl] at g2
    exact ⟨by simpa using g2.2.1, fun _ _ => trivial⟩
theorem itcheck_len (pre : List UInt8) : ∀ (l : List It) (p : Option (List UInt8)), itcheck pre p l = 0 → ∀ x ∈ l, x.1.length = 32 ∧ x.2.length = 32
  | [], p, h => by simp
  | x :: l, p, h => by
    unfold itcheck at h
    split at h
    · exact absurd h (by decide)
    split at h
    · exact absurd h (by decide)
    split at h
    · exact absurd h (by decide)
    split at h
    · exact absurd h (by decide)
    intro y hy
    rcases List.mem_cons.1 hy with rfl | hy
    · omega
    · exact itcheck_len pre l _ h y hy
theorem slcheck_len : ∀ (l : List Sl) (p : Option Nat), slcheck p l = 0 → ∀ x ∈ l, x.2.length = 32
  | [], p, h => by simp
  | x :: l, p, h => by
    unfold slcheck at h
    split at h
    · exact absurd h (by decide)
    split at h
    · exact absurd h (by decide)
    intro y hy
    rcases List.mem_cons.1 hy with rfl | hy
    · omega
    · exact slcheck_len l _ h y hy
theorem epage_len {g : Pg} (h : g.check = 0) : (epage g).length ≤ 9000 := by
  obtain ⟨g1, g2⟩ := Pg.check_parts h
  have e1 := vput_len10 (n := g.pre.length) (by omega)
  unfold epage ebody eblob eflag
  split at g2
  · rename_i hl
    obtain ⟨h1, h2, h3⟩ := g2
    have hb := flat_bound eit 64 g.items fun x hx => by
      have := itcheck_len _ _ _ h3 x hx
      unfold eit; rw [List.length_append]; omega
    have := Nat.mul_le_mul_right 64 h2
    have e2 := vput_len10 (n := g.items.length) (by omega)
    simp only [if_pos hl]
    unfold eits
    simp only [List.length_append, List.length_cons, List.length_nil]
    omega
  · rename_i hl
    obtain ⟨h1, h2, h3, h4⟩ := g2
    have hb := flat_bound esl 33 g.slots fun x hx => by
      have := slcheck_len _ _ h4 x hx
      unfold esl estt; rw [List.length_append, List.length_cons, List.length_nil]; omega
    have := Nat.mul_le_mul_right 33 h2
    have e2 := vput_len10 (n := g.slots.length) (by omega)
    simp only [if_neg hl]
    unfold esls
    simp only [List.length_append, List.length_cons, List.length_nil]
    omega
end Go.AW
/-
  pages: their data; small functions; which pages are right: the program's and the document's.
-/
namespace Go.AW
open Go Go.Proofs
set_option maxHeartbeats 2000000
set_option maxRecDepth 10000
set_option linter.unusedSimpArgs false
set_option linter.unusedVariables false
attribute [local irreducible] thenQ blockQ RetQ AL AW AC AOp

def itD (x : It) : List D := [.s (.string ⟨x.1.toArray⟩), .s (.string ⟨x.2.toArray⟩)]
def slD (x : Sl) : List D := [.s (.int .u8 (x.1 : Nat)), .s (.string ⟨x.2.toArray⟩)]
abbrev itV (x : It) : V := .a [sv (bs x.1), sv (bs x.2)]
abbrev slV (x : Sl) : V := .a [iv .u8 (x.1 : Nat), sv (bs x.2)]
abbrev itsD (l : List It) : List D := (l.map itD).flatten
abbrev slsD (l : List Sl) : List D := (l.map slD).flatten
abbrev pgV (g : Pg) : V := .a [sv (bs g.pre), bv g.leaf, .d (.l g.slots.length (slsD g.slots)), .d (.l g.items.length (itsD g.items))]
theorem its_drop {l r : List It} {x : It} {i : Nat} (h : l.drop i = x :: r) : (itsD l).drop (i * 2) = .s (.string ⟨x.1.toArray⟩) :: .s (.string ⟨x.2.toArray⟩) :: itsD r := by
  rw [itsD, flat_drop (f := itD) (sz := 2) (fun _ => rfl), h]; rfl
theorem sls_drop {l r : List Sl} {x : Sl} {i : Nat} (h : l.drop i = x :: r) : (slsD l).drop (i * 2) = .s (.int .u8 (x.1 : Nat)) :: .s (.string ⟨x.2.toArray⟩) :: slsD r := by
  rw [slsD, flat_drop (f := slD) (sz := 2) (fun _ => rfl), h]; rfl
theorem its_snoc (l : List It) (x : It) : itsD l ++ [D.s (.string ⟨x.1.toArray⟩), .s (.string ⟨x.2.toArray⟩)] = itsD (l ++ [x]) := by
  rw [itsD, itsD, List.map_append, List.flatten_append]; rfl
theorem sls_snoc (l : List Sl) (x : Sl) : slsD l ++ [D.s (.int .u8 (x.1 : Nat)), .s (.string ⟨x.2.toArray⟩)] = slsD (l ++ [x]) := by
  rw [slsD, slsD, List.map_append, List.flatten_append]; rfl
/-- What is known of any page: its numbers, its lengths. -/
def Pg.fits (g : Pg) : Prop := g.pre.length ≤ 9223372036854775807 ∧ (g.slots.length ≤ 9223372036854775807 ∧ ∀ x ∈ g.slots, x.1 < 256 ∧ x.2.length ≤ 9223372036854775807) ∧ g.items.length ≤ 9223372036854775807 ∧ ∀ x ∈ g.items, x.1.length ≤ 9223372036854775807 ∧ x.2.length ≤ 9223372036854775807

theorem stringslite_HasPrefix (s w : List UInt8) (hs : s.length ≤ 9223372036854775807) (hw : w.length ≤ 9223372036854775807) : AC Tryz.prog 325 [sv (bs s), sv (bs w)] [] fun x σ => x = bv (begins s w) ∧ σ = [] := by
  refine AC.walk Tryz.func325 rfl (by decide) (of_decide_eq_true rfl) ?_
  unfold begins
  by_cases h : w.length ≤ s.length
  · focus (have kxs := And.intro @Nat.sub_zero h; (repeat' (first | refine G ?_ | refine AW.ret ?_ | (refine GC ?_ ?_ <;> intro h <;> (try simp only [hsB] at h) <;> try exact xf) | (refine GL ?_ ?_ <;> intro h <;> (try simp only [hsN] at h) <;> (try simp only [h]) <;> (try simp only [hsB] at h) <;> try exact xf) | fail)); all_goals clear kxs)
    all_goals first | ((all_goals have kxf := h; first | exact RetQ.xr 0 | exact RetQ.xn 0 | fail); done) | (exfalso; omega) | (exfalso; simp_all; done)
  · focus (have kxs := kx0; (repeat' (first | refine G ?_ | refine AW.ret ?_ | (refine GC ?_ ?_ <;> intro h <;> (try simp only [hsB] at h) <;> try exact xf) | (refine GL ?_ ?_ <;> intro h <;> (try simp only [hsN] at h) <;> (try simp only [h]) <;> (try simp only [hsB] at h) <;> try exact xf) | fail)); all_goals clear kxs)
    all_goals first | ((all_goals have kxf := h; first | exact RetQ.xr 0 | exact RetQ.xn 0 | fail); done) | (exfalso; omega) | (exfalso; simp_all; done)
theorem strings_HasPrefix (s w : List UInt8) (hs : s.length ≤ 9223372036854775807) (hw : w.length ≤ 9223372036854775807) : AC Tryz.prog 314 [sv (bs s), sv (bs w)] [] fun x σ => x = bv (begins s w) ∧ σ = [] := by
  refine AC.walk Tryz.func314 rfl (by decide) (of_decide_eq_true rfl) ?_
  focus (have kxs := kx0; have kk1 := uN [] (stringslite_HasPrefix s w hs hw); (repeat' (first | refine G ?_ | refine AW.ret ?_ | (refine GC ?_ ?_ <;> intro h <;> (try simp only [hsB] at h) <;> try exact xf) | (refine GL ?_ ?_ <;> intro h <;> (try simp only [hsN] at h) <;> (try simp only [h]) <;> (try simp only [hsB] at h) <;> try exact xf) | fail)); all_goals clear kxs kk1)
  all_goals first | exact RetQ.fr 0 | exact RetQ.fn 0 | (exfalso; simp_all; done)
theorem ref20_Begins (s w : List UInt8) (hs : s.length ≤ 9223372036854775807) (hw : w.length ≤ 9223372036854775807) : AC Tryz.prog 145 [sv (bs s), sv (bs w)] [] fun x σ => x = bv (begins s w) ∧ σ = [] := by
  refine AC.walk Tryz.func145 rfl (by decide) (of_decide_eq_true rfl) ?_
  unfold begins
  by_cases h : w.length ≤ s.length
  · focus (have kxs := And.intro @Nat.sub_zero h; (repeat' (first | refine G ?_ | refine AW.ret ?_ | (refine GC ?_ ?_ <;> intro h <;> (try simp only [hsB] at h) <;> try exact xf) | (refine GL ?_ ?_ <;> intro h <;> (try simp only [hsN] at h) <;> (try simp only [h]) <;> (try simp only [hsB] at h) <;> try exact xf) | fail)); all_goals clear kxs)
    all_goals first | ((all_goals have kxf := h; first | exact RetQ.xr 0 | exact RetQ.xn 0 | fail); done) | (exfalso; omega) | (exfalso; simp_all; done)
  · focus (have kxs := kx0; (repeat' (first | refine G ?_ | refine AW.ret ?_ | (refine GC ?_ ?_ <;> intro h <;> (try simp only [hsB] at h) <;> try exact xf) | (refine GL ?_ ?_ <;> intro h <;> (try simp only [hsN] at h) <;> (try simp only [h]) <;> (try simp only [hsB] at h) <;> try exact xf) | fail)); all_goals clear kxs)
    all_goals first | ((all_goals have kxf := h; first | exact RetQ.xr 0 | exact RetQ.xn 0 | fail); done) | (exfalso; omega) | (exfalso; simp_all; done)
def it1 (pre : List UInt8) (p : Option (List UInt8)) (x : It) : Int := if x.1.length ≠ 32 then 1 else if begins x.1 pre = false then 18 else if afterL p x.1 = false then 6 else if x.2.length ≠ 32 then 1 else 0
/-- The key ahead. -/
def keyAhead (p : Option (List UInt8)) (last : List UInt8) (first : Bool) : Prop := (first = true ∧ p = none) ∨ (first = false ∧ p = some last)
end Go.AW
/-
  numbers of eight bytes that are read; rising tokens; right rings: the program's and the document's.
-/
namespace Go.AW
open Go Go.Proofs
set_option maxHeartbeats 2000000
set_option maxRecDepth 10000
set_option linter.unusedSimpArgs false
set_option linter.unusedVariables false
attribute [local irreducible] thenQ blockQ RetQ AL AW AC AOp

theorem val8_snoc (l : List UInt8) (b : UInt8) : val8 (l ++ [b]) = val8 l * 256 + b.toNat := by simp [val8, List.foldl_append]
theorem val8_go : ∀ (l : List UInt8) (n : Nat), l.foldl (fun n b => n * 256 + b.toNat) n < (n + 1) * 256 ^ l.length
  | [], n => by simp
  | b :: l, n => by
    have ih := val8_go l (n * 256 + b.toNat)
    have hb := b.toNat_lt
    have h2 : (n * 256 + b.toNat + 1) * 256 ^ l.length ≤ ((n + 1) * 256) * 256 ^ l.length := Nat.mul_le_mul_right _ (by omega)
    rw [List.length_cons, Nat.pow_succ, List.foldl_cons]
    rw [show (n + 1) * (256 ^ l.length * 256) = ((n + 1) * 256) * 256 ^ l.length by rw [Nat.mul_comm (256 ^ l.length) 256, Nat.mul_assoc]]
    omega
theorem val8_lt (l : List UInt8) : val8 l < 256 ^ l.length := by
  have := val8_go l 0
  simpa [val8] using this
theorem lts_map (m : Nat) : ∀ l : List D, lts m (l.map V.d) = true
  | [] => rfl
  | x :: l => by
    show (true && lts m (l.map V.d)) = true
    rw [lts_map m l]; rfl
theorem or_byte {n x : Nat} (hn : n < 72057594037927936) (hx : x < 256) : bitI .or .u64 ((n : Int) * 256) (x : Int) = ((n * 256 + x : Nat) : Int) := by
  have h := or_u64 (x := n * 256) (y := x) (by omega) (by omega)
  rw [show ((n * 256 : Nat) : Int) = (n : Int) * 256 by push_cast; rfl] at h
  rw [h, Nat.or_comm, show n * 256 = n * 2 ^ 8 from rfl, or_high (by omega), Nat.add_comm]
theorem pow256 {i : Nat} (hi : i < 8) : 256 ^ i ≤ 72057594037927936 := by
  have : 256 ^ i ≤ 256 ^ 7 := Nat.pow_le_pow_right (by decide) (by omega)
  have e : 256 ^ 7 = 72057594037927936 := by decide
  omega

section
variable (s : List UInt8) (a : Nat) (e : Int)
theorem fixed_right : AC Tryz.prog 316 [iv .i64 8] [] fun x σ => x = bv true ∧ σ = [] := by
  refine AC.walk Tryz.func316 rfl (by decide) (of_decide_eq_true rfl) ?_
  focus (have kxs := kx0; (repeat' (first | refine G ?_ | refine AW.ret ?_ | (refine GC ?_ ?_ <;> intro h <;> (try simp only [hsB] at h) <;> try exact xf) | (refine GL ?_ ?_ <;> intro h <;> (try simp only [hsN] at h) <;> (try simp only [h]) <;> (try simp only [hsB] at h) <;> try exact xf) | fail)); all_goals clear kxs)
  all_goals first | exact RetQ.fr 0 | exact RetQ.fn 0 | (exfalso; simp_all; done)
theorem ref04_Width : AC Tryz.prog 205 [iv .i64 8] [] fun x σ => x = bv true ∧ σ = [] := by
  refine AC.walk Tryz.func205 rfl (by decide) (of_decide_eq_true rfl) ?_
  focus (have kxs := kx0; (repeat' (first | refine G ?_ | refine AW.ret ?_ | (refine GC ?_ ?_ <;> intro h <;> (try simp only [hsB] at h) <;> try exact xf) | (refine GL ?_ ?_ <;> intro h <;> (try simp only [hsN] at h) <;> (try simp only [h]) <;> (try simp only [hsB] at h) <;> try exact xf) | fail)); all_goals clear kxs)
  all_goals first | exact RetQ.fr 0 | exact RetQ.fn 0 | (exfalso; simp_all; done)

theorem fixed_Take (h : Cu.Ok ⟨s, a, e⟩) : AC Tryz.prog 295 [.p 0 0, iv .i64 8] [Cu.ob ⟨s, a, e⟩] fun x σ => x = iv .u64 (Cu.num8 ⟨s, a, e⟩).1 ∧ σ = [Cu.ob (Cu.num8 ⟨s, a, e⟩).2] := by
  refine AC.walk Tryz.func295 rfl (by decide) (of_decide_eq_true rfl) ?_
  have hb := cursor_Bytes s a e 8 h
  have hl : (Cu.bytes ⟨s, a, e⟩ 8).1 = [] ∨ (Cu.bytes ⟨s, a, e⟩ 8).1.length = 8 := by
    unfold Cu.bytes
    split
    · exact .inl rfl
    split
    · exact .inl rfl
    split
    · exact .inl rfl
    · right
      rw [List.length_take, List.length_drop]
      simp only at *
      omega
  unfold Cu.num8
  generalize Cu.bytes ⟨s, a, e⟩ 8 = z at *
  obtain ⟨l, c⟩ := z
  simp only at hl hb ⊢
  obtain ⟨w, hw8, hwv, hws⟩ : ∃ w : List UInt8, w.length = 8 ∧ val8 w = val8 l ∧ setAt [V.d (D.s (.int .u8 0)), V.d (D.s (.int .u8 0)), V.d (D.s (.int .u8 0)), V.d (D.s (.int .u8 0)), V.d (D.s (.int .u8 0)), V.d (D.s (.int .u8 0)), V.d (D.s (.int .u8 0)), V.d (D.s (.int .u8 0))] 0 ((bsD l).map V.d) = (bsD w).map V.d := by
    rcases hl with rfl | hl
    · exact ⟨List.replicate 8 0, rfl, rfl, rfl⟩
    · refine ⟨l, hl, rfl, ?_⟩
      match l, hl with
      | [b0, b1, b2, b3, b4, b5, b6, b7], _ => rfl
  have hll : l.length ≤ 8 := by rcases hl with rfl | hl <;> simp_all
  have hln : ((bsD w).map V.d).length = 8 := by rw [List.length_map, bsD, List.length_map, hw8]
  have htk : List.take 8 ((bsD w).map V.d) = (bsD w).map V.d := List.take_of_length_le (by rw [hln]; exact Nat.le_refl _)
  focus (have kxs := And.intro hws (And.intro hln htk); have kk1 := uN [] (fixed_right); have kk2 := uN [0] (hb); (repeat' (first | (refine ADr.nil ?_; try clear hgv) | refine GW ?_ | refine AW.ret ?_ | (refine GC ?_ ?_ <;> intro h <;> (try simp only [hsB] at h) <;> try exact xf) | (refine GD ?_ ?_ <;> intro h <;> (try intro hgv) <;> (try simp only [hsN] at h) <;> (try simp only [h]) <;> (try simp only [hsB] at h) <;> try exact xf) | (refine GL ?_ ?_ <;> intro h <;> (try simp only [hsN] at h) <;> (try simp only [h]) <;> (try simp only [hsB] at h) <;> try exact xf) | fail)); all_goals clear kxs kk1 kk2)
  all_goals first | (exfalso; simp_all; done) | skip
  rw [← hwv]
  refine AW.rounds [4, 6, 21, 22] (fun i : Nat => [(4, iv .u64 0), (6, iv .u64 (val8 (w.take i))), (21, .a ((bsD w).map V.d)), (22, iv .i64 i)]) (fun i => [Cu.ob c])
    (fun i => i ≤ 8) (fun i => 8 - i) 0 (Nat.zero_le _) rfl rfl (fun _ _ => Nat.le_of_ble_eq_true rfl) (fun _ _ => rfl) (fun _ _ => by simp [tLt, V.lt, lts_map]) ?_
  intro i hi J hJ
  have hlt := val8_lt (w.take i)
  rw [List.length_take, Nat.min_eq_left (by omega)] at hlt
  by_cases hil : i < 8
  · obtain ⟨b, r, hd⟩ := next_at (l := w) (i := i) (by omega)
    have hp := pow256 (i := i) hil
    have hbl := b.toNat_lt
    have hn := or_byte (n := val8 (w.take i)) (x := b.toNat) (by omega) hbl
    rw [← val8_snoc, ← next_take hd] at hn
    have hg : ((bsD w).map V.d)[i]? = some (.d (.s (.int .u8 b.toNat))) := by
      have := congrArg (fun y => y.head?) hd
      simp only [List.head?_drop, List.head?_cons] at this
      rw [List.getElem?_map, bsD, List.getElem?_map, this]; rfl
    have hbd : ((val8 (w.take i) : Nat) : Int) * 256 ≤ 18446744073709551615 := by omega
    have hsh : IntKind.wrap .u64 (((val8 (w.take i) : Nat) : Int) * 2 ^ (min 8 64)) = ((val8 (w.take i) : Nat) : Int) * 256 := by
      rw [show ((2 : Int) ^ (min 8 64)) = 256 from rfl]
      exact wrap_u64 (by omega) hbd
    focus (have kxs := And.intro hsh (And.intro hn hg); (repeat' (first | (refine ADr.nil ?_; try clear hgv) | refine GO ?_ | refine AW.ret ?_ | (refine GC ?_ ?_ <;> intro h <;> (try simp only [hsB] at h) <;> try exact xf) | (refine GD ?_ ?_ <;> intro h <;> (try intro hgv) <;> (try simp only [hsN] at h) <;> (try simp only [h]) <;> (try simp only [hsB] at h) <;> try exact xf) | (refine GL ?_ ?_ <;> intro h <;> (try simp only [hsN] at h) <;> (try simp only [h]) <;> (try simp only [hsB] at h) <;> try exact xf) | fail)); all_goals clear kxs)
    all_goals first | (refine hJ (i + 1) _ _ (by omega) hil rfl rfl) | (exfalso; simp_all; done)
  · have hi2 : i = 8 := by omega
    rw [hi2, List.take_of_length_le (by omega)]
    focus (have kxs := kx0; (repeat' (first | (refine ADr.nil ?_; try clear hgv) | refine GO ?_ | refine AW.ret ?_ | (refine GC ?_ ?_ <;> intro h <;> (try simp only [hsB] at h) <;> try exact xf) | (refine GD ?_ ?_ <;> intro h <;> (try intro hgv) <;> (try simp only [hsN] at h) <;> (try simp only [h]) <;> (try simp only [hsB] at h) <;> try exact xf) | (refine GL ?_ ?_ <;> intro h <;> (try simp only [hsN] at h) <;> (try simp only [h]) <;> (try simp only [hsB] at h) <;> try exact xf) | fail)); all_goals clear kxs)
    all_goals first | exact RetQ.fr 1 | exact RetQ.fn 1 | (exfalso; simp_all; done)

end

/-! ### Tokens, members -/

abbrev toksD (l : List Nat) : List D := l.map fun t => D.s (.int .u64 (t : Nat))
theorem toks_drop {l r : List Nat} {t i : Nat} (h : l.drop i = t :: r) : (toksD l).drop i = .s (.int .u64 (t : Nat)) :: toksD r := by
  rw [toksD, ← List.map_drop, h]; rfl
theorem ring_rising (l : List Nat) (hl : l.length ≤ 9223372036854775807) : AC Tryz.prog 310 [.d (.l l.length (toksD l))] [] fun x σ => x = bv (rises none l) ∧ σ = [] := by
  refine AC.walk Tryz.func310 rfl (by decide) (of_decide_eq_true rfl) ?_
  generalize hR : rises none l = R
  focus (have kxs := kx0; (repeat' (first | (refine ADr.nil ?_; try clear hgv) | refine GO ?_ | refine AW.ret ?_ | (refine GC ?_ ?_ <;> intro h <;> (try simp only [hsB] at h) <;> try exact xf) | (refine GD ?_ ?_ <;> intro h <;> (try intro hgv) <;> (try simp only [hsN] at h) <;> (try simp only [h]) <;> (try simp only [hsB] at h) <;> try exact xf) | (refine GL ?_ ?_ <;> intro h <;> (try simp only [hsN] at h) <;> (try simp only [h]) <;> (try simp only [hsB] at h) <;> try exact xf) | fail)); all_goals clear kxs)
  refine AW.rounds [0, 2, 3] (fun i : Nat => [(0, .d (.l l.length (toksD l))), (2, bv false), (3, iv .i64 i)]) (fun _ => [])
    (fun i => 1 ≤ i ∧ (i ≤ l.length ∨ l = []) ∧ (l ≠ [] → ∃ q, l.drop (i - 1) = q :: l.drop i ∧ rises (some q) (l.drop i) = R)) (fun i => l.length - i) 1
    ⟨Nat.le_refl _, by cases l <;> simp, fun h => by
      cases l with
      | nil => exact absurd rfl h
      | cons t r => exact ⟨t, rfl, hR⟩⟩ rfl rfl (fun _ _ => Nat.zero_le _) (fun _ _ => rfl) (fun _ _ => rfl) ?_
  rintro i ⟨h1, h2, h3⟩ J hJ
  by_cases hil : i < l.length
  · have hne : l ≠ [] := by rintro rfl; simp at hil
    obtain ⟨q, hq, hr⟩ := h3 hne
    obtain ⟨t, r, hd⟩ := next_at hil
    have hcd := toks_drop hd
    have hcq := toks_drop hq
    have hi1 : ((i : Int) - 1).toNat = i - 1 := by omega
    rw [hd] at hr
    have hr2 : (decide (q < t) && rises (some t) r) = R := hr
    have hnd := next_drop hd
    focus (have kxs := And.intro hcd (And.intro hcq (And.intro hi1 @Nat.mul_one)); (repeat' (first | (refine ADr.nil ?_; try clear hgv) | refine GO ?_ | refine AW.ret ?_ | (refine GC ?_ ?_ <;> intro h <;> (try simp only [hsB] at h) <;> try exact xf) | (refine GD ?_ ?_ <;> intro h <;> (try intro hgv) <;> (try simp only [hsN] at h) <;> (try simp only [h]) <;> (try simp only [hsB] at h) <;> try exact xf) | (refine GL ?_ ?_ <;> intro h <;> (try simp only [hsN] at h) <;> (try simp only [h]) <;> (try simp only [hsB] at h) <;> try exact xf) | fail)); all_goals clear kxs)
    all_goals first
      | (rw [show R = false from by rw [← hr2, decide_eq_false (by omega)]; rfl]; (all_goals first | exact RetQ.fr 0 | exact RetQ.fn 0 | fail); done)
      | (refine hJ (i + 1) _ _ (by omega) ⟨by omega, .inl hil, fun _ => ⟨t, ?_, ?_⟩⟩ rfl rfl
         · rw [hnd]; exact hd
         · rw [hnd, ← hr2, decide_eq_true (show q < t by omega)]; rfl)
      | (exfalso; clear hJ hr hr2 hR h3; simp_all; done)
  · have hR0 : R = true := by
      rcases h2 with h2 | rfl
      · by_cases hne : l = []
        · subst hne; exact hR.symm
        · obtain ⟨q, hq, hr⟩ := h3 hne
          rw [List.drop_eq_nil_of_le (by omega)] at hr
          exact hr.symm
      · exact hR.symm
    rw [hR0]
    focus (have kxs := kx0; (repeat' (first | (refine ADr.nil ?_; try clear hgv) | refine GO ?_ | refine AW.ret ?_ | (refine GC ?_ ?_ <;> intro h <;> (try simp only [hsB] at h) <;> try exact xf) | (refine GD ?_ ?_ <;> intro h <;> (try intro hgv) <;> (try simp only [hsN] at h) <;> (try simp only [h]) <;> (try simp only [hsB] at h) <;> try exact xf) | (refine GL ?_ ?_ <;> intro h <;> (try simp only [hsN] at h) <;> (try simp only [h]) <;> (try simp only [hsB] at h) <;> try exact xf) | fail)); all_goals clear kxs)
    all_goals first | exact RetQ.fr 0 | exact RetQ.fn 0 | (exfalso; simp_all; done)
end Go.AW
