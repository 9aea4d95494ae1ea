/-
  Plain: rings: how they are read and written.
-/
import Derived.Test.YtdjeilbhdleopaaGreatP00
set_option linter.unusedVariables false
set_option linter.unusedSimpArgs false
set_option maxHeartbeats 4000000
set_option maxRecDepth 10000
namespace Go.AW
structure Mb where
  name : List UInt8
  ep : Nat
  st : Nat
  toks : List Nat
abbrev Ring := List Mb
def val8 (l : List UInt8) : Nat := l.foldl (fun n b => n * 256 + b.toNat) 0
def enc8 (n : Nat) : List UInt8 := [UInt8.ofNat (n / 72057594037927936), UInt8.ofNat (n / 281474976710656), UInt8.ofNat (n / 1099511627776), UInt8.ofNat (n / 4294967296), UInt8.ofNat (n / 16777216), UInt8.ofNat (n / 65536), UInt8.ofNat (n / 256), UInt8.ofNat n]
theorem val8_enc8 {n : Nat} (h : n < 18446744073709551616) : val8 (enc8 n) = n := by
  simp only [val8, enc8, List.foldl_cons, List.foldl_nil, UInt8.toNat_ofNat']
  omega
theorem enc8_val8 {l : List UInt8} (h : l.length = 8) : enc8 (val8 l) = l ∧ val8 l < 18446744073709551616 := by
  match l, h with
  | [a, b, c, d, e, f, g, k], _ =>
    have := a.toNat_lt; have := b.toNat_lt; have := c.toNat_lt; have := d.toNat_lt
    have := e.toNat_lt; have := f.toNat_lt; have := g.toNat_lt; have := k.toNat_lt
    simp only [val8, enc8, List.foldl_cons, List.foldl_nil]
    refine ⟨?_, by omega⟩
    simp only [List.cons.injEq, ← UInt8.toNat_inj, UInt8.toNat_ofNat', and_true]
    refine ⟨by omega, by omega, by omega, by omega, by omega, by omega, by omega, by omega⟩
def Cu.num8 (c : Cu) : Nat × Cu := (val8 (c.bytes 8).1, (c.bytes 8).2)
theorem Cu.num8_ok {c : Cu} (h : c.Ok) : c.num8.2.Ok := Cu.bytes_ok h
theorem trip_num8 : Trip Cu.num8 enc8 (· < 18446744073709551616) where
  stuck := fun c hc => (trip_bytes 8).stuck c hc
  text := fun c => (trip_bytes 8).text c
  fore := fun c x r hx hc ha hd => by
    have := (trip_bytes 8).fore c (enc8 x) r rfl hc ha hd
    have h2 : Cu.bytes c 8 = (enc8 x, ⟨c.s, c.a + (enc8 x).length, 0⟩) := this
    unfold Cu.num8
    rw [h2]
    simp only
    rw [val8_enc8 hx]
  back := fun c he => by
    obtain ⟨g1, g2, g3⟩ := (trip_bytes 8).back c he
    have g1 : (Cu.bytes c 8).1.length = 8 := g1
    obtain ⟨k1, k2⟩ := enc8_val8 g1
    refine ⟨k2, ?_, ?_⟩
    · show (Cu.bytes c 8).2.a = c.a + (enc8 (val8 (Cu.bytes c 8).1)).length
      rw [k1]; exact g2
    · show c.s.drop c.a = enc8 (val8 (Cu.bytes c 8).1) ++ c.s.drop (Cu.bytes c 8).2.a
      rw [k1]; exact g3
  cut := fun c x r hx hc ha hd hr => (trip_bytes 8).cut c (enc8 x) r rfl hc ha hd hr
def after (p : Option Nat) (t : Nat) : Bool := match p with | none => true | some q => decide (q < t)
def rises : Option Nat → List Nat → Bool
  | _, [] => true
  | p, t :: r => after p t && rises (some t) r
def Cu.tok (p : Option Nat) (c : Cu) : Nat × Cu := (c.num8.1, gd (after p c.num8.1) 6 c.num8.2)
def Cu.toks (n : Nat) (p : Option Nat) (c : Cu) : List Nat × Cu := Cu.many Cu.tok (fun _ t => some t) n p c
def Cu.tokl (c : Cu) : List Nat × Cu := ((c.count 16).2.toks (c.count 16).1 none)
def etoks (l : List Nat) : List UInt8 := vput l.length ++ (l.map enc8).flatten
def gtok (p : Option Nat) (t : Nat) : Prop := t < 18446744073709551616 ∧ after p t = true
theorem trip_tok (p : Option Nat) : Trip (Cu.tok p) enc8 (gtok p) := Trip.guard trip_num8 (fun t => after p t) (by decide)
theorem toks_goods : ∀ (l : List Nat) (p : Option Nat), (goods gtok (fun _ t => some t) p l ↔ rises p l = true ∧ ∀ t ∈ l, t < 18446744073709551616)
  | [], p => by simp [goods, rises]
  | t :: l, p => by
    have ih := toks_goods l (some t)
    unfold goods rises
    rw [ih]
    unfold gtok
    simp only [Bool.and_eq_true, List.mem_cons, forall_eq_or_imp]
    constructor
    · rintro ⟨⟨h1, h2⟩, h3, h4⟩; exact ⟨⟨h2, h3⟩, h1, h4⟩
    · rintro ⟨⟨h2, h3⟩, h1, h4⟩; exact ⟨⟨h1, h2⟩, h3, h4⟩
def gtoks (l : List Nat) : Prop := l.length ≤ 16 ∧ rises none l = true ∧ ∀ t ∈ l, t < 18446744073709551616
theorem trip_tokl : Trip Cu.tokl etoks gtoks := by
  have hm := fun n => trip_many (R := Cu.tok) (next := fun _ t => some t) trip_tok n none
  refine Trip.iff (Trip.bind (S := fun n c => Cu.toks n none c) (trip_count 16) (fun n _ => hm n) (fun n c h => (hm n).stuck c h) (fun n c => (hm n).text c) (key := List.length) (enc := etoks)
    (good := fun v => (v.length ≤ (16 : Int).toNat ∧ v.length < 18446744073709551616) ∧ v.length = v.length ∧ goods gtok (fun _ t => some t) none v) (fun b => rfl) (fun b => Iff.rfl) (fun a b _ h => h.1)) fun v => ?_
  rw [toks_goods]
  unfold gtoks
  simp only [Int.reduceToNat]
  exact ⟨fun h => ⟨h.1.1, h.2.2⟩, fun h => ⟨⟨h.1, by omega⟩, trivial, h.2⟩⟩
theorem Cu.tok_ok {c : Cu} {p : Option Nat} (h : c.Ok) : (c.tok p).2.Ok := gd_ok (Cu.num8_ok h)
theorem Cu.tokl_ok {c : Cu} (h : c.Ok) : c.tokl.2.Ok := Cu.many_ok (fun _ _ h => Cu.tok_ok h) _ _ _ (Cu.count_ok h)
def Cu.stt (c : Cu) : Nat × Cu := (c.byte.1, gd (decide (c.byte.1 ≤ 3)) 13 c.byte.2)
def estt (n : Nat) : List UInt8 := [UInt8.ofNat n]
theorem trip_stt : Trip Cu.stt estt (fun n => n ≤ 3) := by
  have hb : ∀ c, Cu.byte c = (((Cu.bytes c 1).1.getD 0 0).toNat, (Cu.bytes c 1).2) := fun c => by unfold Cu.byte; rfl
  have h0 : Trip Cu.byte estt (fun n => n < 256) := {
    stuck := fun c hc => by rw [hb]; exact (trip_bytes 1).stuck c hc
    text := fun c => by rw [hb]; exact (trip_bytes 1).text c
    fore := fun c x r hx hc ha hd => by
      have h2 : Cu.bytes c 1 = _ := (trip_bytes 1).fore c (estt x) r rfl hc ha hd
      rw [hb, h2]
      simp only [estt, List.getD_cons_zero, u8_ofNat hx]
      rfl
    back := fun c he => by
      rw [hb] at he ⊢
      obtain ⟨g1, g2, g3⟩ := (trip_bytes 1).back c he
      have g1 : (Cu.bytes c 1).1.length = 1 := g1
      have g2 : (Cu.bytes c 1).2.a = c.a + (Cu.bytes c 1).1.length := g2
      have g3 : c.s.drop c.a = (Cu.bytes c 1).1 ++ c.s.drop (Cu.bytes c 1).2.a := g3
      generalize Cu.bytes c 1 = z at *
      obtain ⟨b, hz⟩ := List.length_eq_one_iff.1 g1
      rw [hz] at g2 g3 ⊢
      have e : estt (([b] : List UInt8).getD 0 0).toNat = [b] := by
        simp only [List.getD_cons_zero, estt, UInt8.ofNat_toNat]
      simp only
      rw [e]
      exact ⟨b.toNat_lt, g2, g3⟩
    cut := fun c x r hx hc ha hd hr => by rw [hb]; exact (trip_bytes 1).cut c (estt x) r rfl hc ha hd hr }
  refine Trip.iff (Trip.guard h0 (fun n => decide (n ≤ 3)) (by decide)) fun n => ?_
  simp only [decide_eq_true_eq]
  omega
def Cu.mem0 (p : List UInt8) (c : Cu) : (List UInt8 × (Nat × (Nat × List Nat))) × Cu := rseq (Cu.actor 32 p) (fun _ => rseq Cu.vnz (fun _ => rseq Cu.stt (fun _ c => Cu.tokl c))) c
def Cu.mem (p : List UInt8) (c : Cu) : Mb × Cu := (⟨(c.mem0 p).1.1, (c.mem0 p).1.2.1, (c.mem0 p).1.2.2.1, (c.mem0 p).1.2.2.2⟩, (c.mem0 p).2)
def emem (x : Mb) : List UInt8 := eblob x.name ++ (vput x.ep ++ (estt x.st ++ etoks x.toks))
def gmem (p : List UInt8) (x : Mb) : Prop := (x.name.length ≤ 32 ∧ x.name ≠ [] ∧ lessB p x.name = true) ∧ (x.ep ≠ 0 ∧ x.ep < 18446744073709551616) ∧ x.st ≤ 3 ∧ gtoks x.toks
theorem trip_mem (p : List UInt8) : Trip (Cu.mem p) emem (gmem p) := by
  have h1 : Trip (rseq Cu.stt (fun _ c => Cu.tokl c)) _ _ := Trip.seq trip_stt (fun _ _ => trip_tokl) (fun _ c => trip_tokl.stuck c) (fun _ => trip_tokl.text)
  have h2 : Trip (rseq Cu.vnz (fun _ => rseq Cu.stt (fun _ c => Cu.tokl c))) _ _ := Trip.seq trip_vnz (fun _ _ => h1) (fun _ c => h1.stuck c) (fun _ => h1.text)
  have h3 : Trip (Cu.mem0 p) _ _ := Trip.seq (trip_actor 32 p) (fun _ _ => h2) (fun _ c => h2.stuck c) (fun _ => h2.text)
  refine Trip.iff (Trip.map h3 (fun x => (⟨x.1, x.2.1, x.2.2.1, x.2.2.2⟩ : Mb)) (fun k => (k.name, (k.ep, (k.st, k.toks)))) (fun _ => rfl) (fun _ => rfl)) fun x => ?_
  simp only [gmem, Int.reduceToNat, decide_eq_true_eq]
  constructor
  · rintro ⟨⟨⟨⟨h1, h2⟩, h3⟩, h4⟩, ⟨h5, h6⟩, h7, h8⟩
    exact ⟨⟨h1, h3, h4⟩, ⟨h6, h5⟩, h7, h8⟩
  · rintro ⟨⟨h1, h3, h4⟩, ⟨h6, h5⟩, h7, h8⟩
    exact ⟨⟨⟨⟨h1, by omega⟩, h3⟩, h4⟩, ⟨h5, h6⟩, h7, h8⟩
theorem Cu.stt_ok {c : Cu} (h : c.Ok) : c.stt.2.Ok := gd_ok (Cu.byte_ok h)
theorem Cu.mem_ok {c : Cu} {p : List UInt8} (h : c.Ok) : (c.mem p).2.Ok := Cu.tokl_ok (Cu.stt_ok (Cu.vnz_ok (Cu.actor_ok h)))
def mcheck : List UInt8 → Ring → Int
  | _, [] => 0
  | p, x :: r => if 32 < x.name.length then 3 else if x.name = [] then 14 else if lessB p x.name = false then 6 else if x.ep = 0 then 7 else if 3 < x.st then 13 else if 16 < x.toks.length then 3 else if rises none x.toks = false then 6 else mcheck x.name r
def Ring.check (l : Ring) : Int := if 32 < l.length then 3 else mcheck [] l
def Ring.great (l : Ring) : Bool := decide (40 < l.length) || l.any fun x => decide (100 < x.name.length) || decide (30 < x.toks.length)
def Mb.fits (x : Mb) : Prop := x.ep < 18446744073709551616 ∧ x.st < 256 ∧ ∀ t ∈ x.toks, t < 18446744073709551616
def gring (l : Ring) : Prop := Ring.check l = 0 ∧ ∀ x ∈ l, x.fits
def Cu.mems (n : Nat) (p : List UInt8) (c : Cu) : Ring × Cu := Cu.many Cu.mem (fun _ x => x.name) n p c
def Cu.ring (c : Cu) : Ring × Cu :=
  (if ((c.count 32).2.mems (c.count 32).1 []).2.e ≠ 0 then [] else ((c.count 32).2.mems (c.count 32).1 []).1, ((c.count 32).2.mems (c.count 32).1 []).2)
def ering (l : Ring) : List UInt8 := vput l.length ++ (l.map emem).flatten
theorem Cu.ring_ok {c : Cu} (h : c.Ok) : c.ring.2.Ok := Cu.many_ok (fun k c h => Cu.mem_ok h) _ _ _ (Cu.count_ok h)
abbrev ringw (s : List UInt8) : Ring × Int := rdw Cu.ring [] s
def ringe (l : Ring) : List UInt8 × Int := if Ring.check l ≠ 0 then ([], Ring.check l) else (ering l, 0)
end Go.AW
namespace Go.AW
abbrev It := List UInt8 × List UInt8
abbrev Sl := Nat × List UInt8
structure Pg where
  pre : List UInt8
  leaf : Bool
  slots : List Sl
  items : List It
deriving DecidableEq
def pg0 : Pg := ⟨[], false, [], []⟩
def begins (s w : List UInt8) : Bool := decide (w.length ≤ s.length) && decide (s.take w.length = w)
def afterL (p : Option (List UInt8)) (t : List UInt8) : Bool := match p with | none => true | some q => lessB q t
def itcheck (pre : List UInt8) : Option (List UInt8) → List It → Int
  | _, [] => 0
  | p, x :: r => if x.1.length ≠ 32 then 1 else if begins x.1 pre = false then 18 else if afterL p x.1 = false then 6 else if x.2.length ≠ 32 then 1 else itcheck pre (some x.1) r
def slcheck : Option Nat → List Sl → Int
  | _, [] => 0
  | p, x :: r => if after p x.1 = false then 6 else if x.2.length ≠ 32 then 1 else slcheck (some x.1) r
def Pg.check (g : Pg) : Int :=
  if 31 < g.pre.length then 3 else if g.leaf = true then (if g.slots ≠ [] then 1 else if 8 < g.items.length then 3 else itcheck g.pre none g.items)
  else (if g.items ≠ [] then 1 else if 256 < g.slots.length then 3 else if g.slots = [] then 7 else slcheck none g.slots)
def Pg.great (g : Pg) : Bool := decide (100 < g.pre.length) || decide (300 < g.slots.length) || decide (20 < g.items.length) || (g.slots.any fun x => decide (100 < x.2.length)) || g.items.any fun x => decide (100 < x.1.length) || decide (100 < x.2.length)
theorem trip_byte : Trip Cu.byte estt (fun n => n < 256) := by
  have hb : ∀ c, Cu.byte c = (((Cu.bytes c 1).1.getD 0 0).toNat, (Cu.bytes c 1).2) := fun c => by unfold Cu.byte; rfl
  exact {
    stuck := fun c hc => by rw [hb]; exact (trip_bytes 1).stuck c hc
    text := fun c => by rw [hb]; exact (trip_bytes 1).text c
    fore := fun c x r hx hc ha hd => by
      have h2 : Cu.bytes c 1 = _ := (trip_bytes 1).fore c (estt x) r rfl hc ha hd
      rw [hb, h2]
      simp only [estt, List.getD_cons_zero, u8_ofNat hx]
      rfl
    back := fun c he => by
      rw [hb] at he ⊢
      obtain ⟨g1, g2, g3⟩ := (trip_bytes 1).back c he
      have g1 : (Cu.bytes c 1).1.length = 1 := g1
      have g2 : (Cu.bytes c 1).2.a = c.a + (Cu.bytes c 1).1.length := g2
      have g3 : c.s.drop c.a = (Cu.bytes c 1).1 ++ c.s.drop (Cu.bytes c 1).2.a := g3
      generalize Cu.bytes c 1 = z at *
      obtain ⟨b, hz⟩ := List.length_eq_one_iff.1 g1
      rw [hz] at g2 g3 ⊢
      have e : estt (([b] : List UInt8).getD 0 0).toNat = [b] := by
        simp only [List.getD_cons_zero, estt, UInt8.ofNat_toNat]
      simp only
      rw [e]
      exact ⟨b.toNat_lt, g2, g3⟩
    cut := fun c x r hx hc ha hd hr => by rw [hb]; exact (trip_bytes 1).cut c (estt x) r rfl hc ha hd hr }
def Cu.ikey (pre : List UInt8) (p : Option (List UInt8)) (c : Cu) : List UInt8 × Cu := ((c.bytes 32).1, gd (afterL p (c.bytes 32).1) 6 (gd (begins (c.bytes 32).1 pre) 18 (c.bytes 32).2))
def Cu.item (pre : List UInt8) (p : Option (List UInt8)) (c : Cu) : It × Cu := rseq (Cu.ikey pre p) (fun _ c => Cu.bytes c 32) c
def Cu.sidx (p : Option Nat) (c : Cu) : Nat × Cu := (c.byte.1, gd (after p c.byte.1) 6 c.byte.2)
def Cu.slot (p : Option Nat) (c : Cu) : Sl × Cu := rseq (Cu.sidx p) (fun _ c => Cu.bytes c 32) c
def Cu.itemn (pre : List UInt8) (n : Nat) (c : Cu) : List It × Cu := Cu.many (Cu.item pre) (fun _ x => some x.1) n none c
def Cu.items (pre : List UInt8) (c : Cu) : List It × Cu := Cu.itemn pre (c.count 8).1 (c.count 8).2
def Cu.slotn (n : Nat) (c : Cu) : List Sl × Cu := Cu.many Cu.slot (fun _ x => some x.1) n none c
def Cu.count7 (c : Cu) : Nat × Cu := ((c.count 256).1, gd (decide ((c.count 256).1 ≠ 0)) 7 (c.count 256).2)
def Cu.slots (c : Cu) : List Sl × Cu := Cu.slotn c.count7.1 c.count7.2
def Cu.pbody (pre : List UInt8) (leaf : Bool) (c : Cu) : (List Sl × List It) × Cu := if leaf = true then (([], (c.items pre).1), (c.items pre).2) else ((c.slots.1, []), c.slots.2)
def Cu.page0 (c : Cu) : (List UInt8 × (Bool × (List Sl × List It))) × Cu := rseq (fun c => Cu.blob c 31) (fun pre => rseq Cu.flag (fun leaf => Cu.pbody pre leaf)) c
def Cu.page1 (c : Cu) : Pg × Cu := (⟨c.page0.1.1, c.page0.1.2.1, c.page0.1.2.2.1, c.page0.1.2.2.2⟩, c.page0.2)
def Cu.page (c : Cu) : Pg × Cu := (if c.page1.2.e ≠ 0 then pg0 else c.page1.1, c.page1.2)
def eit (x : It) : List UInt8 := x.1 ++ x.2
def esl (x : Sl) : List UInt8 := estt x.1 ++ x.2
def eits (l : List It) : List UInt8 := vput l.length ++ (l.map eit).flatten
def esls (l : List Sl) : List UInt8 := vput l.length ++ (l.map esl).flatten
def ebody (leaf : Bool) (x : List Sl × List It) : List UInt8 := if leaf = true then eits x.2 else esls x.1
def epage (g : Pg) : List UInt8 := eblob g.pre ++ (eflag g.leaf ++ ebody g.leaf (g.slots, g.items))
def git (pre : List UInt8) (p : Option (List UInt8)) (x : It) : Prop := ((x.1.length = 32 ∧ begins x.1 pre = true) ∧ afterL p x.1 = true) ∧ x.2.length = 32
def gsl (p : Option Nat) (x : Sl) : Prop := (x.1 < 256 ∧ after p x.1 = true) ∧ x.2.length = 32
theorem trip_item (pre : List UInt8) (p : Option (List UInt8)) : Trip (Cu.item pre p) eit (git pre p) :=
  Trip.seq (Trip.guard (Trip.guard (trip_bytes 32) (fun k => begins k pre) (by decide)) (fun k => afterL p k) (by decide)) (fun _ _ => trip_bytes 32) (fun _ c => (trip_bytes 32).stuck c) (fun _ => (trip_bytes 32).text)
theorem trip_slot (p : Option Nat) : Trip (Cu.slot p) esl (gsl p) :=
  Trip.seq (Trip.guard trip_byte (fun n => after p n) (by decide)) (fun _ _ => trip_bytes 32) (fun _ c => (trip_bytes 32).stuck c) (fun _ => (trip_bytes 32).text)
def gits (pre : List UInt8) (l : List It) : Prop := l.length ≤ 8 ∧ itcheck pre none l = 0
def gsls (l : List Sl) : Prop := l.length ≤ 256 ∧ l ≠ [] ∧ slcheck none l = 0 ∧ ∀ x ∈ l, x.1 < 256
def gpage (g : Pg) : Prop := g.check = 0 ∧ ∀ x ∈ g.slots, x.1 < 256
theorem Cu.item_ok {c : Cu} {pre : List UInt8} {p : Option (List UInt8)} (h : c.Ok) : (c.item pre p).2.Ok := Cu.bytes_ok (gd_ok (gd_ok (Cu.bytes_ok h)))
theorem Cu.slot_ok {c : Cu} {p : Option Nat} (h : c.Ok) : (c.slot p).2.Ok := Cu.bytes_ok (gd_ok (Cu.byte_ok h))
theorem Cu.items_ok {c : Cu} {pre : List UInt8} (h : c.Ok) : (c.items pre).2.Ok := Cu.many_ok (fun k c h => Cu.item_ok h) _ _ _ (Cu.count_ok h)
theorem Cu.slots_ok {c : Cu} (h : c.Ok) : c.slots.2.Ok := Cu.many_ok (fun k c h => Cu.slot_ok h) _ _ _ (gd_ok (Cu.count_ok h))
theorem Cu.page_ok {c : Cu} (h : c.Ok) : c.page.2.Ok := by
  show (Cu.pbody _ _ _).2.Ok
  have h2 := Cu.flag_ok (Cu.blob_ok (max := 31) h)
  unfold Cu.pbody
  split
  · exact Cu.items_ok h2
  · exact Cu.slots_ok h2
def Pe.it (p : Pe) (x : It) : Pe := (p.text x.1).text x.2
def Pe.sl (p : Pe) (x : Sl) : Pe := (p.text (estt x.1)).text x.2
def Pe.its (p : Pe) (l : List It) : Pe := l.foldl Pe.it p
def Pe.sls (p : Pe) (l : List Sl) : Pe := l.foldl Pe.sl p
def Pe.pbody (p : Pe) (g : Pg) : Pe := if g.leaf = true then (p.count 8 g.items.length).its g.items else (p.count 256 g.slots.length).sls g.slots
def Pe.page (p : Pe) (g : Pg) : Pe := if g.check ≠ 0 then p.fail g.check else ((p.blob 31 g.pre).flag g.leaf).pbody g
end Go.AW
namespace Go.AW
section
variable {α : Type} {R : Cu → α × Cu} {W : Pe → α → Pe} {enc : α → List UInt8} {good ok : α → Prop} {d : α}
def Cu.nest (R : Cu → α × Cu) (d : α) (c : Cu) : α × Cu := if (c.blob 65536).2.e = 0 then ((rdw R d (c.blob 65536).1).1, (c.blob 65536).2.fail (rdw R d (c.blob 65536).1).2) else (d, (c.blob 65536).2)
def Pe.nest (W : Pe → α → Pe) (p : Pe) (x : α) : Pe := (p.fail (wre W x).2).blob 65536 (wre W x).1
end
structure Mg where
  kind : Nat
  id : Nat
  key : List UInt8
  found : Bool
  obj : Oj
  old : Od
  ctx : Vec
  meta_ : Prs
  dead : Bool
  val : List UInt8
  pre : List UInt8
  page : Pg
  ring : Ring
  code : Int
  txt : List UInt8
def mg0 : Mg := ⟨0, 0, [], false, oj0, od0, [], [], false, [], [], pg0, [], 0, []⟩
def has (v k : Nat) : Bool := if v = 1 then decide (k = 1 ∨ k = 2 ∨ k = 8) else decide (v = 2 ∧ 1 ≤ k ∧ k ≤ 9)
def keychk (s : List UInt8) : Int := if 128 < s.length then 3 else if s = [] then 14 else 0
def longchk (s : List UInt8) (n : Nat) : Int := if n < s.length then 3 else 0
def codechk (n : Int) : Int := if n < 0 then 1 else if 255 < n then 3 else 0
def fst0 (a b : Int) : Int := if a ≠ 0 then a else b
def Mg.chk (v : Nat) (m : Mg) : Int :=
  match m.kind with
  | 1 => keychk m.key
  | 2 => if m.found = true then (if v = 1 then m.old.check else m.obj.check) else 0
  | 3 => fst0 (keychk m.key) (fst0 (Vec.check m.ctx) (fst0 (Prs.check m.meta_) (longchk m.val 32768)))
  | 4 => Vec.check m.ctx
  | 5 => longchk m.pre 31
  | 6 => m.page.check
  | 7 => Ring.check m.ring
  | 8 => fst0 (codechk m.code) (longchk m.txt 64)
  | _ => m.obj.check
def Mg.check (v : Nat) (m : Mg) : Int := if v ≠ 1 ∧ v ≠ 2 then 10 else if has v m.kind = false then 11 else m.chk v
def Mg.pl (v : Nat) (m : Mg) : Mg :=
  match m.kind with
  | 1 => { mg0 with kind := 1, id := m.id, key := m.key }
  | 2 => { mg0 with kind := 2, id := m.id, found := m.found, old := if m.found = true ∧ v = 1 then m.old else od0, obj := if m.found = true ∧ v = 2 then m.obj else oj0 }
  | 3 => { mg0 with kind := 3, id := m.id, key := m.key, ctx := m.ctx, meta_ := m.meta_, dead := m.dead, val := m.val }
  | 4 => { mg0 with kind := 4, id := m.id, ctx := m.ctx }
  | 5 => { mg0 with kind := 5, id := m.id, pre := m.pre }
  | 6 => { mg0 with kind := 6, id := m.id, page := m.page }
  | 7 => { mg0 with kind := 7, id := m.id, ring := m.ring }
  | 8 => { mg0 with kind := 8, id := m.id, code := m.code, txt := m.txt }
  | k => { mg0 with kind := k, id := m.id, obj := m.obj }
def Mg.plain (v : Nat) (m : Mg) : Mg := if has v m.kind = false then mg0 else m.pl v
def Mg.nums (m : Mg) : Prop := (∀ x ∈ m.ctx, x.2 < 18446744073709551616) ∧ (∀ x ∈ m.obj.sibs, gnum x) ∧ (∀ x ∈ m.old.sibs, ∀ y ∈ x.clk, y.2 < 18446744073709551616) ∧ (∀ x ∈ m.ring, x.fits) ∧ ∀ x ∈ m.page.slots, x.1 < 256
def Pe.ringp (p : Pe) (l : Ring) : Pe := if Ring.check l ≠ 0 then p.fail (Ring.check l) else p.text (ering l)
def Pe.mbody (v : Nat) (p : Pe) (m : Mg) : Pe :=
  match m.kind with
  | 1 => p.blob 128 m.key
  | 2 => if m.found = true then (if v = 1 then Pe.nest Pe.old (p.flag m.found) m.old else Pe.nest Pe.obj (p.flag m.found) m.obj) else p.flag m.found
  | 3 => ((((p.blob 128 m.key).vec m.ctx).prs m.meta_).flag m.dead).blob 32768 m.val
  | 4 => p.vec m.ctx
  | 5 => p.blob 31 m.pre
  | 6 => p.page m.page
  | 7 => p.ringp m.ring
  | 8 => (p.count 255 m.code).blob 64 m.txt
  | _ => Pe.nest Pe.obj p m.obj
def ebodym (v : Nat) (m : Mg) : List UInt8 :=
  match m.kind with
  | 1 => eblob m.key
  | 2 => eflag m.found ++ (if m.found = true then (if v = 1 then eblob (eold m.old) else eblob (eobj m.obj)) else [])
  | 3 => eblob m.key ++ (evec m.ctx ++ (eprs m.meta_ ++ (eflag m.dead ++ eblob m.val)))
  | 4 => evec m.ctx
  | 5 => eblob m.pre
  | 6 => epage m.page
  | 7 => ering m.ring
  | 8 => vput m.code.toNat ++ eblob m.txt
  | _ => eblob (eobj m.obj)
def encm (v : Nat) (m : Mg) : List UInt8 := vput m.id ++ ebodym v m
def msge (v : Nat) (m : Mg) : List UInt8 × Int := if m.check v ≠ 0 then ([], m.check v) else Pe.fin (Pe.mbody v (Pe.text ⟨[], 65536, 0⟩ (vput m.id)) m)
def Cu.mbody (v k : Nat) (id : Nat) (c : Cu) : Mg × Cu :=
  match k with
  | 1 => ({ mg0 with kind := 1, id := id, key := c.okey.1 }, c.okey.2)
  | 2 => if v = 1 then ({ mg0 with kind := 2, id := id, found := c.flag.1, old := (if c.flag.1 = true then (Cu.nest Cu.old od0 c.flag.2) else (od0, c.flag.2)).1 }, (if c.flag.1 = true then (Cu.nest Cu.old od0 c.flag.2) else (od0, c.flag.2)).2)
    else ({ mg0 with kind := 2, id := id, found := c.flag.1, obj := (if c.flag.1 = true then (Cu.nest Cu.obj oj0 c.flag.2) else (oj0, c.flag.2)).1 }, (if c.flag.1 = true then (Cu.nest Cu.obj oj0 c.flag.2) else (oj0, c.flag.2)).2)
  | 3 => ({ mg0 with kind := 3, id := id, key := c.okey.1, ctx := c.okey.2.vec.1, meta_ := c.okey.2.vec.2.prs.1, dead := c.okey.2.vec.2.prs.2.flag.1, val := (c.okey.2.vec.2.prs.2.flag.2.blob 32768).1 }, (c.okey.2.vec.2.prs.2.flag.2.blob 32768).2)
  | 4 => ({ mg0 with kind := 4, id := id, ctx := c.vec.1 }, c.vec.2)
  | 5 => ({ mg0 with kind := 5, id := id, pre := (c.blob 31).1 }, (c.blob 31).2)
  | 6 => ({ mg0 with kind := 6, id := id, page := c.page.1 }, c.page.2)
  | 7 => ({ mg0 with kind := 7, id := id, ring := c.ring.1 }, c.ring.2)
  | 8 => ({ mg0 with kind := 8, id := id, code := ((c.count 255).1 : Nat), txt := ((c.count 255).2.blob 64).1 }, ((c.count 255).2.blob 64).2)
  | k => ({ mg0 with kind := k, id := id, obj := (Cu.nest Cu.obj oj0 c).1 }, (Cu.nest Cu.obj oj0 c).2)
def Cu.msg (v k : Nat) (c : Cu) : Mg × Cu := Cu.mbody v k c.vtake.1 c.vtake.2
def msgw (v k : Nat) (s : List UInt8) : Mg × Int := if v ≠ 1 ∧ v ≠ 2 then (mg0, 10) else if has v k = false then (mg0, 11) else rdw (Cu.msg v k) mg0 s
def goodm (v k : Nat) (m : Mg) : Prop := m.kind = k ∧ m.pl v = m ∧ m.chk v = 0 ∧ m.nums ∧ (eold m.old).length ≤ 65536 ∧ (eobj m.obj).length ≤ 65536
theorem has_cases {v k : Nat} (h : has v k = true) : (v = 1 ∧ (k = 1 ∨ k = 2 ∨ k = 8)) ∨ (v = 2 ∧ (k = 1 ∨ k = 2 ∨ k = 3 ∨ k = 4 ∨ k = 5 ∨ k = 6 ∨ k = 7 ∨ k = 8 ∨ k = 9)) := by
  unfold has at h
  split at h
  · simp only [decide_eq_true_eq] at h; exact .inl ⟨by assumption, h⟩
  · simp only [decide_eq_true_eq] at h; exact .inr ⟨h.1, by omega⟩
def okl (v : Nat) (m : Mg) : Prop := (eold (m.pl v).old).length ≤ 65536 ∧ (eobj (m.pl v).obj).length ≤ 65536
end Go.AW
namespace Go.AW
abbrev Spn := List UInt8 × (Nat × Nat)
abbrev Prd := List UInt8 × (Cu → Cu)
def spansr : List Prd → Cu → List Spn × Cu
  | [], c => ([], c)
  | x :: l, c => if (x.2 c).e ≠ 0 then ([], x.2 c) else ((x.1, (c.a, (x.2 c).a)) :: (spansr l (x.2 c)).1, (spansr l (x.2 c)).2)
def runs (l : List Prd) (c : Cu) : Cu := l.foldl (fun c x => x.2 c) c
def Stk (l : List Prd) : Prop := ∀ x ∈ l, ∀ c : Cu, c.e ≠ 0 → x.2 c = c
theorem runs_stuck : ∀ (l : List Prd) (c : Cu), Stk l → c.e ≠ 0 → runs l c = c
  | [], c, _, _ => rfl
  | x :: l, c, hs, h => by
    show runs l (x.2 c) = c
    rw [hs x (List.mem_cons_self ..) c h]
    exact runs_stuck l c (fun y hy => hs y (List.mem_cons_of_mem _ hy)) h
theorem spansr_end : ∀ (l : List Prd) (c : Cu), Stk l → (spansr l c).2 = runs l c
  | [], c, _ => rfl
  | x :: l, c, hs => by
    have hs' : Stk l := fun y hy => hs y (List.mem_cons_of_mem _ hy)
    show _ = runs l (x.2 c)
    unfold spansr
    split
    · rename_i h; rw [runs_stuck l _ hs' h]
    · exact spansr_end l _ hs'
def nId : List UInt8 := [105, 100]
def nKey : List UInt8 := [107, 101, 121]
def nFound : List UInt8 := [102, 111, 117, 110, 100]
def nOld : List UInt8 := [111, 108, 100]
def nObject : List UInt8 := [111, 98, 106, 101, 99, 116]
def nCtx : List UInt8 := [99, 116, 120]
def nMeta : List UInt8 := [109, 101, 116, 97]
def nDead : List UInt8 := [100, 101, 97, 100]
def nValue : List UInt8 := [118, 97, 108, 117, 101]
def nPrefix : List UInt8 := [112, 114, 101, 102, 105, 120]
def nPage : List UInt8 := [112, 97, 103, 101]
def nRing : List UInt8 := [114, 105, 110, 103]
def nCode : List UInt8 := [99, 111, 100, 101]
def nText : List UInt8 := [116, 101, 120, 116]
def kparts (v k : Nat) (found : Bool) : List Prd :=
  match k with
  | 1 => [(nKey, fun c => c.okey.2)]
  | 2 => (nFound, fun c => c.flag.2) :: if found = true then [(if v = 1 then nOld else nObject, fun c => (c.blob 65536).2)] else []
  | 3 => [(nKey, fun c => c.okey.2), (nCtx, fun c => c.vec.2), (nMeta, fun c => c.prs.2), (nDead, fun c => c.flag.2), (nValue, fun c => (c.blob 32768).2)]
  | 4 => [(nCtx, fun c => c.vec.2)]
  | 5 => [(nPrefix, fun c => (c.blob 31).2)]
  | 6 => [(nPage, fun c => c.page.2)]
  | 7 => [(nRing, fun c => c.ring.2)]
  | 8 => [(nCode, fun c => (c.count 255).2), (nText, fun c => (c.blob 64).2)]
  | _ => [(nObject, fun c => (c.blob 65536).2)]
def pparts (v k : Nat) (c : Cu) : List Prd := (nId, fun c => c.vtake.2) :: kparts v k c.vtake.2.flag.1
def partw (v k : Nat) (s : List UInt8) : List Spn × Int :=
  if v ≠ 1 ∧ v ≠ 2 then ([], 10) else if has v k = false then ([], 11) else ((spansr (pparts v k ⟨s, 0, 0⟩) ⟨s, 0, 0⟩).1, (spansr (pparts v k ⟨s, 0, 0⟩) ⟨s, 0, 0⟩).2.fin.e)
end Go.AW
