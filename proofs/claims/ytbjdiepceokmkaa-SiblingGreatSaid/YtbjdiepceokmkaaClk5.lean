/-
  clocks: the document's writer; whole texts.
-/
import Derived.Test.YtbjdiepceokmkaaClk4
namespace Go.AW
open Go Go.Proofs
set_option maxHeartbeats 2000000
set_option maxRecDepth 10000
set_option linter.unusedSimpArgs false
set_option linter.unusedVariables false
attribute [local irreducible] thenQ blockQ RetQ AL AW AC AOp

section
variable (b : List UInt8) (m e : Int)
theorem dcode_Put1 (ok : Pe.Ok ⟨b, m, e⟩) (k : Ck) (hf : k.fits) (hl : m ≤ 140737488355328 ∨ b.length + (eclk k).length + 40 ≤ 140737488355328) :
    AC Try.prog 95 [.p 0 0, .d (.l 1 (ckD k))] (Pe.obs ⟨b, m, e⟩) fun x σ => x = .t [] ∧ σ = Pe.obs (Pe.clk ⟨b, m, e⟩ k) := by
  have := dcode_Put b m e ok [k] (by simpa using hf) (by simp) (by simpa using hl)
  rw [show cksD [k] = ckD k from List.append_nil _] at this
  exact this

theorem ref13_Put (q : Pe) (ok : q.Ok) (k : Ck) (hfk : k.fits) (hl : q.m ≤ 140737488355328 ∨ q.b.length + (eclk k).length + 40 ≤ 140737488355328) :
    AC Try.prog 105 [.p 0 0, ckV k] [Pe.ro q] fun x σ => x = .t [] ∧ σ = [Pe.ro (Pe.clk q k)] := by
  refine AC.walk Try.func105 rfl (by decide) (of_decide_eq_true rfl) ?_
  by_cases hc : k.check = 0
  case neg =>
    have hv : q.clk k = q.fail k.check := by unfold Pe.clk; rw [if_pos hc]
    rw [hv]
    focus (have kxs : 987654321 = 987654320 + 1 := rfl; have kk1 := uN [] (ref12_Check k hfk); have kua1 := fun za => uN [0] (ref02_Fail q.b q.m q.e za); (repeat' (first | refine G ?_ | refine AW.ret ?_ | (refine GC ?_ ?_ <;> intro h <;> (try simp only [hsB] at h) <;> try (exfalso; first | omega | contradiction)) | (refine GL ?_ ?_ <;> intro h <;> (try simp only [Bool.not_true, Bool.not_false] at h) <;> (try simp only [h]) <;> (try simp only [hsB] at h) <;> try (exfalso; first | omega | contradiction)) | fail)); all_goals clear kxs kk1 kua1)
    all_goals first | ((all_goals first | exact RetQ.fr 1 | exact RetQ.fn 1 | fail); done) | (exfalso; simp_all; done)
  obtain ⟨hcv, hct⟩ := Ck.check_parts hc
  have hel : (eclk k).length = (evec k.ctx).length + 1 + (if k.dotted = true then (eent k.dot).length else 0) := by
    unfold eclk eflag
    cases k.dotted <;> simp <;> omega
  have hclk : q.clk k = ((q.vec k.ctx).flag k.dotted).dotq k := by unfold Pe.clk; rw [if_neg (by simpa using hc)]
  have hvo := pens_vec.keep (p := q) (x := k.ctx) ok (by omega)
  have hvm := pens_vec.m q k.ctx
  have hvl := pens_vec.len q k.ctx
  generalize hv0 : q.vec k.ctx = p1 at *
  have hv' : Pe.vec ⟨q.b, q.m, q.e⟩ k.ctx = p1 := hv0
  have hfo := pens_flag.keep (p := p1) (x := k.dotted) hvo (by simp only [eflag, List.length_cons, List.length_nil]; omega)
  have hfm := pens_flag.m p1 k.dotted
  have hfl := pens_flag.len p1 k.dotted
  have hf1 : (eflag k.dotted).length = 1 := rfl
  generalize hf0 : p1.flag k.dotted = p2 at *
  have hf' : Pe.flag ⟨p1.b, p1.m, p1.e⟩ k.dotted = p2 := hf0
  obtain ⟨v, f, t, n⟩ := k
  simp only at *
  cases f with
  | false =>
    have hz : p2.dotq ⟨v, false, (t, n)⟩ = p2 := rfl
    rw [hclk, hz]
    focus (have kxs := And.intro hc (And.intro hv' hf'); have kk1 := uN [] (ref12_Check ⟨v, false, (t, n)⟩ hfk); have kk2 := uN [0] (ref11_Put q.b q.m q.e ok v hfk.1 (by omega)); have kk3 := uN [0] (ref06_PutFlag p1.b p1.m p1.e hvo false (by omega)); (repeat' (first | refine G ?_ | refine AW.ret ?_ | (refine GC ?_ ?_ <;> intro h <;> (try simp only [hsB] at h) <;> try (exfalso; first | omega | contradiction)) | (refine GL ?_ ?_ <;> intro h <;> (try simp only [Bool.not_true, Bool.not_false] at h) <;> (try simp only [h]) <;> (try simp only [hsB] at h) <;> try (exfalso; first | omega | contradiction)) | fail)); all_goals clear kxs kk1 kk2 kk3)
    all_goals first | ((all_goals first | exact RetQ.fr 1 | exact RetQ.fn 1 | fail); done) | (exfalso; simp_all; done)
  | true =>
    have hz : p2.dotq ⟨v, true, (t, n)⟩ = (p2.blob 32 t).text (vput n) := rfl
    rw [hclk, hz]
    simp only [if_true] at hel
    have hee : (eent (t, n)).length = (vput t.length).length + t.length + (vput n).length := by unfold eent eblob; simp only [List.length_append]
    have ht32 := hct rfl
    have hbo := Pe.blob_ok (p := p2) (max := 32) (s := t) hfo (by omega) (by omega)
    have hbm := Pe.blob_m p2 32 t
    have hbl := Pe.blob_len p2 32 t (by omega)
    generalize hb0 : p2.blob 32 t = p3 at *
    have hb' : Pe.blob ⟨p2.b, p2.m, p2.e⟩ 32 t = p3 := hb0
    focus (have kxs := And.intro hc (And.intro hv' (And.intro hf' hb')); have kk1 := uN [] (ref12_Check ⟨v, true, (t, n)⟩ hfk); have kk2 := uN [0] (ref11_Put q.b q.m q.e ok v hfk.1 (by omega)); have kk3 := uN [0] (ref06_PutFlag p1.b p1.m p1.e hvo true (by omega)); have kk4 := uN [0] (ref06_Put p2.b t p2.m p2.e 32 hfo (by omega) (by omega)); have kk5 := uN [0] (ref03_Put p3.b p3.m p3.e hbo n hfk.2.2 (by omega)); (repeat' (first | refine G ?_ | refine AW.ret ?_ | (refine GC ?_ ?_ <;> intro h <;> (try simp only [hsB] at h) <;> try (exfalso; first | omega | contradiction)) | (refine GL ?_ ?_ <;> intro h <;> (try simp only [Bool.not_true, Bool.not_false] at h) <;> (try simp only [h]) <;> (try simp only [hsB] at h) <;> try (exfalso; first | omega | contradiction)) | fail)); all_goals clear kxs kk1 kk2 kk3 kk4 kk5)
    all_goals first | ((all_goals first | exact RetQ.fr 1 | exact RetQ.fn 1 | fail); done) | (exfalso; simp_all; done)
end

theorem dcode_Encode (k : Ck) (hf : k.fits) : AC Try.prog 115 [ckV k] [] fun x σ => x = .t [sv (bs (clke k).1), iv .i64 (clke k).2] ∧ σ = [] := by
  have hq := pens_clk.keep (x := k) pe0_ok (.inl (by decide))
  refine AC.walk Try.func115 rfl (by decide) (of_decide_eq_true rfl) ?_
  unfold clke
  generalize hp : Pe.clk ⟨[], 65536, 0⟩ k = q at *
  focus (have kxs := hp; have kk1 := uN [] (pen_New 65536 (by decide)); have kk2 := uN [1, 2] (dcode_Put1 [] 65536 0 pe0_ok k hf (.inl (by decide))); have kk3 := uN [1, 2] (pen_End q.b q.m q.e hq); (repeat' (first | refine G ?_ | refine AW.ret ?_ | (refine GC ?_ ?_ <;> intro h <;> (try simp only [hsB] at h) <;> try (exfalso; first | omega | contradiction)) | (refine GL ?_ ?_ <;> intro h <;> (try simp only [Bool.not_true, Bool.not_false] at h) <;> (try simp only [h]) <;> (try simp only [hsB] at h) <;> try (exfalso; first | omega | contradiction)) | fail)); all_goals clear kxs kk1 kk2 kk3)
  all_goals first | ((all_goals first | exact RetQ.fr 0 | exact RetQ.fn 0 | fail); done) | (exfalso; simp_all; done)
theorem ref13_Encode (k : Ck) (hf : k.fits) : AC Try.prog 116 [ckV k] [] fun x σ => x = .t [sv (bs (clke k).1), iv .i64 (clke k).2] ∧ σ = [] := by
  refine AC.walk Try.func116 rfl (by decide) (of_decide_eq_true rfl) ?_
  unfold clke
  generalize hp : Pe.clk ⟨[], 65536, 0⟩ k = q at *
  focus (have kxs := hp; have kk1 := uN [] (ref02_New 65536); have kk2 := uN [1] (ref13_Put ⟨[], 65536, 0⟩ pe0_ok k hf (.inl (by decide))); have kk3 := uN [1] (ref02_End q.b q.m q.e); (repeat' (first | refine G ?_ | refine AW.ret ?_ | (refine GC ?_ ?_ <;> intro h <;> (try simp only [hsB] at h) <;> try (exfalso; first | omega | contradiction)) | (refine GL ?_ ?_ <;> intro h <;> (try simp only [Bool.not_true, Bool.not_false] at h) <;> (try simp only [h]) <;> (try simp only [hsB] at h) <;> try (exfalso; first | omega | contradiction)) | fail)); all_goals clear kxs kk1 kk2 kk3)
  all_goals first | ((all_goals first | exact RetQ.fr 0 | exact RetQ.fn 0 | fail); done) | (exfalso; simp_all; done)
end Go.AW
