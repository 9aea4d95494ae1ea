/-
  a message's parts: the check of a whole message.
-/
import Derived.Test.YtdjeilbhdleopaaGreatP14
set_option linter.unusedVariables false
set_option linter.unusedSimpArgs false
set_option maxHeartbeats 4000000
set_option maxRecDepth 10000
namespace Go.AW
open Go Go.Proofs
attribute [local irreducible] thenQ blockQ RetQ AL AW AC AOp
theorem parts_none (v k : Nat) (hv : v < 256) (hk : k < 256) (h : has v k = false) : AC Tryz.prog 196 [iv .u8 (v : Nat), iv .u8 (k : Nat)] [] fun y σ => y = .t [.d (.l 0 []), bv false] ∧ σ = [] := by
  refine AC.wk Tryz.func196 ?_
  have hh : ¬ ((v = 1 ∧ (k = 1 ∨ k = 2 ∨ k = 8)) ∨ (v = 2 ∧ 1 ≤ k ∧ k ≤ 9)) := fun hc => by
    unfold has at h
    split at h
    · simp only [decide_eq_false_iff_not] at h; omega
    · simp only [decide_eq_false_iff_not] at h; omega
  (have kk1 := uN [] (msg_text 128 true 272); have kk2 := uN [] (msg_flag 274); have kk3 := uN [] (msg_text 64 false 275); exact Wd0)
theorem has_none (v k : Nat) (hv : v < 256) (hk : k < 256) (h : has v k = false) : AC Tryz.prog 95 [iv .u8 (v : Nat), iv .u8 (k : Nat)] [] fun y σ => y = bv false ∧ σ = [] := by
  refine AC.wk Tryz.func95 ?_
  have hp := parts_none v k hv hk h
  (have kk1 := uN [] hp; exact Wc0)
def ptexti (q : List UInt8) (g : Pg) (i : Nat) : List UInt8 := ((q ++ eblob g.pre) ++ eflag true) ++ vput g.items.length ++ ((g.items.take i).map eit).flatten
def ptexts (q : List UInt8) (g : Pg) (i : Nat) : List UInt8 := ((q ++ eblob g.pre) ++ eflag false) ++ vput g.slots.length ++ ((g.slots.take i).map esl).flatten
def wipD (l : List UInt8) (j : Nat) : List V := (bsD (l.take j ++ List.replicate (8 - j) 0)).map V.d
def rtext (l : Ring) (i : Nat) : List UInt8 := vput l.length ++ ((l.take i).map emem).flatten
theorem ref23_Has (v k : Nat) (hv : v < 256) (hk : k < 256) : AC Tryz.prog 103 [iv .u8 (v : Nat), iv .u8 (k : Nat)] [] fun y σ => y = bv (has v k) ∧ σ = [] := by
  refine AC.wk Tryz.func103 ?_
  obtain ⟨r, hr⟩ : ∃ r, r = has v k := ⟨_, rfl⟩
  rw [← hr]
  unfold has at hr
  by_cases h1 : v = 1
  · rw [if_pos h1] at hr
    by_cases h2 : k = 1 ∨ k = 2 ∨ k = 8
    · rw [decide_eq_true h2] at hr
      subst hr
      rcases h2 with rfl | rfl | rfl <;>
      (focus ((repeat' (first | refine G ?_ | refine AW.ret ?_ | (refine GC ?_ ?_ <;> intro h <;> (try simp only [hsB] at h) <;> try exact xf) | (refine GL ?_ ?_ <;> intro h <;> (try simp only [hsN] at h) <;> (try simp only [h]) <;> (try simp only [hsB] at h) <;> try exact xf) | fail))))
      all_goals first | exact RetQ.fr 0 | exact RetQ.fn 0 | exact xg
    · rw [decide_eq_false h2] at hr
      subst hr
      exact Wc0
  · rw [if_neg h1] at hr
    by_cases h2 : v = 2 ∧ 1 ≤ k ∧ k ≤ 9
    · rw [decide_eq_true h2] at hr
      subst hr
      obtain ⟨h3, h4, h5⟩ := h2
      exact Wc0
    · rw [decide_eq_false h2] at hr
      subst hr
      exact Wc0
abbrev nmD (l : List (List UInt8)) : List D := l.map fun s => .s (.string ⟨s.toArray⟩)
theorem names_1 : AC Tryz.prog 104 [iv .u8 1] [] fun y σ => y = .d (.l 1 (nmD [nKey])) ∧ σ = [] := by
  refine AC.wk Tryz.func104 ?_
  exact Wc0
theorem names_2 : AC Tryz.prog 104 [iv .u8 2] [] fun y σ => y = .d (.l 2 (nmD [nFound, nObject])) ∧ σ = [] := by
  refine AC.wk Tryz.func104 ?_
  exact Wc0
theorem names_3 : AC Tryz.prog 104 [iv .u8 3] [] fun y σ => y = .d (.l 5 (nmD [nKey, nCtx, nMeta, nDead, nValue])) ∧ σ = [] := by
  refine AC.wk Tryz.func104 ?_
  exact Wc0
theorem names_4 : AC Tryz.prog 104 [iv .u8 4] [] fun y σ => y = .d (.l 1 (nmD [nCtx])) ∧ σ = [] := by
  refine AC.wk Tryz.func104 ?_
  exact Wc0
theorem names_5 : AC Tryz.prog 104 [iv .u8 5] [] fun y σ => y = .d (.l 1 (nmD [nPrefix])) ∧ σ = [] := by
  refine AC.wk Tryz.func104 ?_
  exact Wc0
theorem names_6 : AC Tryz.prog 104 [iv .u8 6] [] fun y σ => y = .d (.l 1 (nmD [nPage])) ∧ σ = [] := by
  refine AC.wk Tryz.func104 ?_
  exact Wc0
theorem names_7 : AC Tryz.prog 104 [iv .u8 7] [] fun y σ => y = .d (.l 1 (nmD [nRing])) ∧ σ = [] := by
  refine AC.wk Tryz.func104 ?_
  exact Wc0
theorem names_8 : AC Tryz.prog 104 [iv .u8 8] [] fun y σ => y = .d (.l 2 (nmD [nCode, nText])) ∧ σ = [] := by
  refine AC.wk Tryz.func104 ?_
  exact Wc0
theorem names_9 : AC Tryz.prog 104 [iv .u8 9] [] fun y σ => y = .d (.l 1 (nmD [nObject])) ∧ σ = [] := by
  refine AC.wk Tryz.func104 ?_
  exact Wc0
theorem r31_Id (c : Cu) (hok : c.Ok) : AC Tryz.prog 105 [.p 0 0, sv (bs nId)] [Cu.ro c] fun y σ => y = bv false ∧ σ = [Cu.ro (Cu.vtake c).2] := by
  refine AC.wk Tryz.func105 ?_
  have hb := ref03_Take c.s c.a c.e hok
  rw [show Cu.vtake ⟨c.s, c.a, c.e⟩ = Cu.vtake c from rfl] at hb
  generalize Cu.vtake c = z at *
  obtain ⟨t, c1⟩ := z
  simp only at hb ⊢
  unfold nId
  (have kk1 := uN [0] hb; exact Wc1)
theorem r31_Object (c : Cu) (hok : c.Ok) : AC Tryz.prog 105 [.p 0 0, sv (bs nObject)] [Cu.ro c] fun y σ => y = bv false ∧ σ = [Cu.ro (Cu.blob c 65536).2] := by
  refine AC.wk Tryz.func105 ?_
  have hb := ref06_Take c.s c.a c.e 65536 hok (by decide)
  rw [show Cu.blob ⟨c.s, c.a, c.e⟩ 65536 = Cu.blob c 65536 from rfl] at hb
  generalize Cu.blob c 65536 = z at *
  obtain ⟨t, c1⟩ := z
  simp only at hb ⊢
  unfold nObject
  (have kk1 := uN [0] hb; exact Wc1)
theorem r31_Ctx (c : Cu) (hok : c.Ok) : AC Tryz.prog 105 [.p 0 0, sv (bs nCtx)] [Cu.ro c] fun y σ => y = bv false ∧ σ = [Cu.ro (Cu.vec c).2] := by
  refine AC.wk Tryz.func105 ?_
  have hb := ref11_Take c.s c.a c.e hok
  rw [show Cu.vec ⟨c.s, c.a, c.e⟩ = Cu.vec c from rfl] at hb
  generalize Cu.vec c = z at *
  obtain ⟨t, c1⟩ := z
  simp only at hb ⊢
  unfold nCtx
  (have kk1 := uN [0] hb; exact Wc1)
theorem r31_Meta (c : Cu) (hok : c.Ok) : AC Tryz.prog 105 [.p 0 0, sv (bs nMeta)] [Cu.ro c] fun y σ => y = bv false ∧ σ = [Cu.ro (Cu.prs c).2] := by
  refine AC.wk Tryz.func105 ?_
  have hb := ref14_Take c.s c.a c.e hok
  rw [show Cu.prs ⟨c.s, c.a, c.e⟩ = Cu.prs c from rfl] at hb
  generalize Cu.prs c = z at *
  obtain ⟨t, c1⟩ := z
  simp only at hb ⊢
  unfold nMeta
  (have kk1 := uN [0] hb; exact Wc1)
theorem r31_Value (c : Cu) (hok : c.Ok) : AC Tryz.prog 105 [.p 0 0, sv (bs nValue)] [Cu.ro c] fun y σ => y = bv false ∧ σ = [Cu.ro (Cu.blob c 32768).2] := by
  refine AC.wk Tryz.func105 ?_
  have hb := ref06_Take c.s c.a c.e 32768 hok (by decide)
  rw [show Cu.blob ⟨c.s, c.a, c.e⟩ 32768 = Cu.blob c 32768 from rfl] at hb
  generalize Cu.blob c 32768 = z at *
  obtain ⟨t, c1⟩ := z
  simp only at hb ⊢
  unfold nValue
  (have kk1 := uN [0] hb; exact Wc1)
theorem r31_Prefix (c : Cu) (hok : c.Ok) : AC Tryz.prog 105 [.p 0 0, sv (bs nPrefix)] [Cu.ro c] fun y σ => y = bv false ∧ σ = [Cu.ro (Cu.blob c 31).2] := by
  refine AC.wk Tryz.func105 ?_
  have hb := ref06_Take c.s c.a c.e 31 hok (by decide)
  rw [show Cu.blob ⟨c.s, c.a, c.e⟩ 31 = Cu.blob c 31 from rfl] at hb
  generalize Cu.blob c 31 = z at *
  obtain ⟨t, c1⟩ := z
  simp only at hb ⊢
  unfold nPrefix
  (have kk1 := uN [0] hb; exact Wc1)
theorem r31_Page (c : Cu) (hok : c.Ok) : AC Tryz.prog 105 [.p 0 0, sv (bs nPage)] [Cu.ro c] fun y σ => y = bv false ∧ σ = [Cu.ro (Cu.page c).2] := by
  refine AC.wk Tryz.func105 ?_
  have hb := ref20_Take c.s c.a c.e hok
  rw [show Cu.page ⟨c.s, c.a, c.e⟩ = Cu.page c from rfl] at hb
  generalize Cu.page c = z at *
  obtain ⟨t, c1⟩ := z
  simp only at hb ⊢
  unfold nPage
  (have kk1 := uN [0] hb; exact Wc1)
theorem r31_Ring (c : Cu) (hok : c.Ok) : AC Tryz.prog 105 [.p 0 0, sv (bs nRing)] [Cu.ro c] fun y σ => y = bv false ∧ σ = [Cu.ro (Cu.ring c).2] := by
  refine AC.wk Tryz.func105 ?_
  have hb := ref22_Take c.s c.a c.e hok
  rw [show Cu.ring ⟨c.s, c.a, c.e⟩ = Cu.ring c from rfl] at hb
  generalize Cu.ring c = z at *
  obtain ⟨t, c1⟩ := z
  simp only at hb ⊢
  unfold nRing
  (have kk1 := uN [0] hb; exact Wc1)
theorem r31_Code (c : Cu) (hok : c.Ok) : AC Tryz.prog 105 [.p 0 0, sv (bs nCode)] [Cu.ro c] fun y σ => y = bv false ∧ σ = [Cu.ro (Cu.count c 255).2] := by
  refine AC.wk Tryz.func105 ?_
  have hb := ref06_Count c.s c.a c.e 255 hok (by decide)
  rw [show Cu.count ⟨c.s, c.a, c.e⟩ 255 = Cu.count c 255 from rfl] at hb
  generalize Cu.count c 255 = z at *
  obtain ⟨t, c1⟩ := z
  simp only at hb ⊢
  unfold nCode
  (have kk1 := uN [0] hb; exact Wc1)
theorem r31_Text (c : Cu) (hok : c.Ok) : AC Tryz.prog 105 [.p 0 0, sv (bs nText)] [Cu.ro c] fun y σ => y = bv false ∧ σ = [Cu.ro (Cu.blob c 64).2] := by
  refine AC.wk Tryz.func105 ?_
  have hb := ref06_Take c.s c.a c.e 64 hok (by decide)
  rw [show Cu.blob ⟨c.s, c.a, c.e⟩ 64 = Cu.blob c 64 from rfl] at hb
  generalize Cu.blob c 64 = z at *
  obtain ⟨t, c1⟩ := z
  simp only at hb ⊢
  unfold nText
  (have kk1 := uN [0] hb; exact Wc1)
theorem r31_Found (c : Cu) (hok : c.Ok) : AC Tryz.prog 105 [.p 0 0, sv (bs nFound)] [Cu.ro c] fun y σ => y = bv (Cu.flag c).1 ∧ σ = [Cu.ro (Cu.flag c).2] := by
  refine AC.wk Tryz.func105 ?_
  have hb := ref06_Flag c.s c.a c.e hok
  rw [show Cu.flag ⟨c.s, c.a, c.e⟩ = Cu.flag c from rfl] at hb
  generalize Cu.flag c = z at *
  obtain ⟨t, c1⟩ := z
  simp only at hb ⊢
  unfold nFound
  (have kk1 := uN [0] hb; exact Wc1)
theorem r31_Dead (c : Cu) (hok : c.Ok) : AC Tryz.prog 105 [.p 0 0, sv (bs nDead)] [Cu.ro c] fun y σ => y = bv (Cu.flag c).1 ∧ σ = [Cu.ro (Cu.flag c).2] := by
  refine AC.wk Tryz.func105 ?_
  have hb := ref06_Flag c.s c.a c.e hok
  rw [show Cu.flag ⟨c.s, c.a, c.e⟩ = Cu.flag c from rfl] at hb
  generalize Cu.flag c = z at *
  obtain ⟨t, c1⟩ := z
  simp only at hb ⊢
  unfold nDead
  (have kk1 := uN [0] hb; exact Wc1)
theorem r31_Key (c : Cu) (hok : c.Ok) : AC Tryz.prog 105 [.p 0 0, sv (bs nKey)] [Cu.ro c] fun y σ => y = bv false ∧ σ = [Cu.ro (Cu.okey c).2] := by
  refine AC.wk Tryz.func105 ?_
  have hb := ref06_Take c.s c.a c.e 128 hok (by decide)
  obtain ⟨R, hR⟩ : ∃ R, R = Cu.okey c := ⟨_, rfl⟩
  rw [← hR]
  unfold Cu.okey at hR
  have he : Cu.blob c 128 = Cu.blob ⟨c.s, c.a, c.e⟩ 128 := rfl
  rw [he] at hR
  generalize Cu.blob ⟨c.s, c.a, c.e⟩ 128 = z at *
  obtain ⟨t, c1⟩ := z
  simp only at hb hR
  unfold nKey
  by_cases h0 : t = []
  · subst h0
    rw [decide_eq_false (by simp)] at hR
    have hR : R = ([], c1.fail 14) := hR
    subst hR
    by_cases he : c1.e = 0
    · have hf : c1.fail 14 = ⟨c1.s, c1.a, 14⟩ := by unfold Cu.fail; rw [if_pos he]
      simp only
      rw [hf]
      (have kxs := he; have kk1 := uN [0] hb; exact Wc1)
    · have hf : c1.fail 14 = c1 := Cu.fail_stuck he _
      simp only
      rw [hf]
      (have kxs := he; have kk1 := uN [0] hb; exact Wc1)
  · rw [decide_eq_true h0] at hR
    have hR : R = (t, c1) := hR
    subst hR
    have hl : ¬ (t.length : Int) = 0 := by have := List.length_pos_iff.2 h0; omega
    (have kxs := hl; have kk1 := uN [0] hb; exact Wc1)
attribute [go_sem] apB srcB
theorem pt_id (c : Cu) (hok : c.Ok) : AC Tryz.prog 99 [.p 0 0] [Cu.ob c] fun y σ => y = .t [] ∧ σ = [Cu.ob (Cu.vtake c).2] := by
  refine AC.wk Tryz.func99 ?_
  have hb := varint_Take c.s c.a c.e hok
  have he : Cu.vtake c = Cu.vtake ⟨c.s, c.a, c.e⟩ := rfl
  rw [he]
  generalize Cu.vtake ⟨c.s, c.a, c.e⟩ = z at *
  obtain ⟨t, c1⟩ := z
  simp only at hb ⊢
  (have kk1 := uN [0] hb; exact Wc1)
theorem pt_text (c : Cu) (hok : c.Ok) (n : Int) (hn : n ≤ 9223372036854775807) : AC Tryz.prog 288 [.p 0 0, .p 1 0] [Cu.ob c, .box 3 [iv .i64 n]] fun y σ => y = .t [] ∧ σ = [Cu.ob (Cu.blob c n).2, .box 3 [iv .i64 n]] := by
  refine AC.wk Tryz.func288 ?_
  have hb := blob_Take c.s c.a c.e n hok hn
  have he : Cu.blob c n = Cu.blob ⟨c.s, c.a, c.e⟩ n := rfl
  rw [he]
  generalize Cu.blob ⟨c.s, c.a, c.e⟩ n = z at *
  obtain ⟨t, c1⟩ := z
  simp only at hb ⊢
  (have kk1 := uN [0] hb; exact Wc2)
theorem pt_flag (c : Cu) (hok : c.Ok) : AC Tryz.prog 290 [.p 0 0] [Cu.ob c] fun y σ => y = .t [] ∧ σ = [Cu.ob (Cu.flag c).2] := by
  refine AC.wk Tryz.func290 ?_
  have hb := blob_Flag c.s c.a c.e hok
  have he : Cu.flag c = Cu.flag ⟨c.s, c.a, c.e⟩ := rfl
  rw [he]
  generalize Cu.flag ⟨c.s, c.a, c.e⟩ = z at *
  obtain ⟨t, c1⟩ := z
  simp only at hb ⊢
  (have kk1 := uN [0] hb; exact Wc1)
theorem pt_ctx (c : Cu) (hok : c.Ok) : AC Tryz.prog 199 [.p 0 0] [Cu.ob c] fun y σ => y = .t [] ∧ σ = [Cu.ob (Cu.vec c).2] := by
  refine AC.wk Tryz.func199 ?_
  have hb := vcode_Take c.s c.a c.e hok
  have he : Cu.vec c = Cu.vec ⟨c.s, c.a, c.e⟩ := rfl
  rw [he]
  generalize Cu.vec ⟨c.s, c.a, c.e⟩ = z at *
  obtain ⟨t, c1⟩ := z
  simp only at hb ⊢
  (have kk1 := uN [0] hb; exact Wc1)
theorem pt_meta (c : Cu) (hok : c.Ok) : AC Tryz.prog 204 [.p 0 0] [Cu.ob c] fun y σ => y = .t [] ∧ σ = [Cu.ob (Cu.prs c).2] := by
  refine AC.wk Tryz.func204 ?_
  have hb := pairs_Take c.s c.a c.e hok
  have he : Cu.prs c = Cu.prs ⟨c.s, c.a, c.e⟩ := rfl
  rw [he]
  generalize Cu.prs ⟨c.s, c.a, c.e⟩ = z at *
  obtain ⟨t, c1⟩ := z
  simp only at hb ⊢
  (have kk1 := uN [0] hb; exact Wc1)
theorem pt_page (c : Cu) (hok : c.Ok) : AC Tryz.prog 206 [.p 0 0] [Cu.ob c] fun y σ => y = .t [] ∧ σ = [Cu.ob (Cu.page c).2] := by
  refine AC.wk Tryz.func206 ?_
  have hb := page_Take c.s c.a c.e hok
  have he : Cu.page c = Cu.page ⟨c.s, c.a, c.e⟩ := rfl
  rw [he]
  generalize Cu.page ⟨c.s, c.a, c.e⟩ = z at *
  obtain ⟨t, c1⟩ := z
  simp only at hb ⊢
  (have kk1 := uN [0] hb; exact Wc1)
theorem pt_ring (c : Cu) (hok : c.Ok) : AC Tryz.prog 208 [.p 0 0] [Cu.ob c] fun y σ => y = .t [] ∧ σ = [Cu.ob (Cu.ring c).2] := by
  refine AC.wk Tryz.func208 ?_
  have hb := ring_Take c.s c.a c.e hok
  have he : Cu.ring c = Cu.ring ⟨c.s, c.a, c.e⟩ := rfl
  rw [he]
  generalize Cu.ring ⟨c.s, c.a, c.e⟩ = z at *
  obtain ⟨t, c1⟩ := z
  simp only at hb ⊢
  (have kk1 := uN [0] hb; exact Wc1)
theorem pt_code (c : Cu) (hok : c.Ok) : AC Tryz.prog 210 [.p 0 0] [Cu.ob c] fun y σ => y = .t [] ∧ σ = [Cu.ob (Cu.count c 255).2] := by
  refine AC.wk Tryz.func210 ?_
  have hb := blob_Count c.s c.a c.e 255 hok (by decide)
  have he : Cu.count c 255 = Cu.count ⟨c.s, c.a, c.e⟩ 255 := rfl
  rw [he]
  generalize Cu.count ⟨c.s, c.a, c.e⟩ 255 = z at *
  obtain ⟨t, c1⟩ := z
  simp only at hb ⊢
  (have kk1 := uN [0] hb; exact Wc1)
theorem pt_key (c : Cu) (hok : c.Ok) : AC Tryz.prog 289 [.p 0 0] [Cu.ob c] fun y σ => y = .t [] ∧ σ = [Cu.ob (Cu.okey c).2] := by
  refine AC.wk Tryz.func289 ?_
  have hb := blob_Take c.s c.a c.e 128 hok (by decide)
  obtain ⟨R, hR⟩ : ∃ R, R = Cu.okey c := ⟨_, rfl⟩
  rw [← hR]
  unfold Cu.okey at hR
  have he : Cu.blob c 128 = Cu.blob ⟨c.s, c.a, c.e⟩ 128 := rfl
  rw [he] at hR
  generalize Cu.blob ⟨c.s, c.a, c.e⟩ 128 = z at *
  obtain ⟨t, c1⟩ := z
  simp only at hb hR
  have hfl := cursor_Fail c1.s c1.a c1.e 14
  by_cases h0 : t = []
  · subst h0
    rw [decide_eq_false (by simp)] at hR
    have hR : R = ([], c1.fail 14) := hR
    subst hR
    (have kk1 := uN [0] hb; have kk2 := uN [0] hfl; exact Wc1)
  · rw [decide_eq_true h0] at hR
    have hR : R = (t, c1) := hR
    subst hR
    (have kxs := h0; have kk1 := uN [0] hb; have kk2 := uN [0] hfl; exact Wc1)
end Go.AW
