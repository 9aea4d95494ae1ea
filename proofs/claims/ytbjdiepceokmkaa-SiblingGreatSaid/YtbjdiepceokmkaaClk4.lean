/-
  clocks that are written, whole texts: the program's and the document's.
-/
import Derived.Test.YtbjdiepceokmkaaClk3
import Derived.Test.YtbjdiepceokmkaaMc
namespace Go.AW
open Go Go.Proofs
set_option maxHeartbeats 2000000
set_option maxRecDepth 10000
set_option linter.unusedSimpArgs false
set_option linter.unusedVariables false
attribute [local irreducible] thenQ blockQ RetQ AL AW AC AOp

def ckD (k : Ck) : List D := [.l k.ctx.length (vecD k.ctx), .s (.bool k.dotted), .s (.string ⟨k.dot.1.toArray⟩), .s (.int .u64 k.dot.2)]
abbrev cksD (l : List Ck) : List D := (l.map ckD).flatten
theorem cks_drop {l r : List Ck} {k : Ck} {i : Nat} (h : l.drop i = k :: r) : (cksD l).drop (i * 4) = .l k.ctx.length (vecD k.ctx) :: .s (.bool k.dotted) :: .s (.string ⟨k.dot.1.toArray⟩) :: .s (.int .u64 k.dot.2) :: cksD r := by
  rw [cksD, flat_drop (f := ckD) (sz := 4) (fun _ => rfl), h]; rfl
theorem Pe.clks_snoc (p : Pe) (l : List Ck) (v : Ck) : p.clks (l ++ [v]) = (p.clks l).clk v := by simp [Pe.clks, List.foldl_append]
theorem Pe.clks_append (p : Pe) (l r : List Ck) : p.clks (l ++ r) = (p.clks l).clks r := List.foldl_append ..
section
variable (b : List UInt8) (m e : Int)

theorem dcode_Put (ok : Pe.Ok ⟨b, m, e⟩) (l : List Ck) (hf : ∀ k ∈ l, k.fits) (hn : l.length ≤ 140737488355328) (hl : m ≤ 140737488355328 ∨ b.length + (l.map eclk).flatten.length + 40 ≤ 140737488355328) :
    AC Try.prog 95 [.p 0 0, .d (.l l.length (cksD l))] (Pe.obs ⟨b, m, e⟩) fun x σ => x = .t [] ∧ σ = Pe.obs (Pe.clks ⟨b, m, e⟩ l) := by
  refine AC.walk Try.func95 rfl (by decide) (of_decide_eq_true rfl) ?_
  focus (have kxs : 987654321 = 987654320 + 1 := rfl; (repeat' (first | refine G ?_ | refine AW.ret ?_ | (refine GC ?_ ?_ <;> intro h <;> (try simp only [hsB] at h) <;> try (exfalso; first | omega | contradiction)) | (refine GL ?_ ?_ <;> intro h <;> (try simp only [Bool.not_true, Bool.not_false] at h) <;> (try simp only [h]) <;> (try simp only [hsB] at h) <;> try (exfalso; first | omega | contradiction)) | fail)); all_goals clear kxs)
  refine AW.rounds [0, 7, 8, 9] (fun i : Nat => [(0, .p 0 0), (7, .d (.l l.length (cksD l))), (8, iv .i64 l.length), (9, iv .i64 i)]) (fun i => Pe.obs (Pe.clks ⟨b, m, e⟩ (l.take i)))
    (fun i => i ≤ l.length) (fun i => l.length - i) 0 (Nat.zero_le _) rfl rfl (fun _ _ => Nat.le_of_ble_eq_true rfl) (fun _ _ => rfl) (fun _ _ => rfl) ?_
  intro i hi J hJ
  generalize hq : Pe.clks ⟨b, m, e⟩ (l.take i) = q
  have hqo : q.Ok ∧ q.m = m ∧ q.b.length ≤ b.length + ((l.take i).map eclk).flatten.length := by
    have h1 := take_flat eclk l i
    rw [← hq]
    exact ⟨pens_clks.keep ok (by simp only; omega), pens_clks.m _ _, pens_clks.len _ _⟩
  obtain ⟨hok, hqm, hqb⟩ := hqo
  by_cases hil : i < l.length
  case neg =>
    have hi2 : i = l.length := by omega
    rw [hi2, List.take_length] at hq
    subst hq
    focus (have kxs : 987654321 = 987654320 + 1 := rfl; (repeat' (first | refine G ?_ | refine AW.ret ?_ | (refine GC ?_ ?_ <;> intro h <;> (try simp only [hsB] at h) <;> try (exfalso; first | omega | contradiction)) | (refine GL ?_ ?_ <;> intro h <;> (try simp only [Bool.not_true, Bool.not_false] at h) <;> (try simp only [h]) <;> (try simp only [hsB] at h) <;> try (exfalso; first | omega | contradiction)) | fail)); all_goals clear kxs)
    (all_goals first | exact RetQ.fr 2 | exact RetQ.fn 2 | fail)
  obtain ⟨k, r, hd⟩ := next_at hil
  have hcd := cks_drop hd
  have hn2 : Pe.clks ⟨b, m, e⟩ (l.take (i + 1)) = q.clk k := by rw [next_take hd, Pe.clks_snoc, hq]
  have hfk := hf k (next_mem hd)
  have htf := take_flat eclk l i
  rw [hd] at htf
  simp only [List.map_cons, List.flatten_cons, List.length_append] at htf
  by_cases hc : k.check = 0
  case neg =>
    have hv : q.clk k = q.fail k.check := by unfold Pe.clk; rw [if_pos hc]
    have hall : Pe.clks ⟨b, m, e⟩ l = q.fail k.check := by
      conv => lhs; rw [← List.take_append_drop (i + 1) l]
      rw [Pe.clks_append, hn2, hv]
      exact pens_clks.stuck _ _ (Pe.fail_e hc)
    rw [hall]
    focus (have kxs := hcd; have kk1 := uN [] (dotted_Check k hfk); have kud1 := fun za zb zc zd => uN [0, 1] (pen_Fail za zb zc zd); (repeat' (first | refine G ?_ | refine AW.ret ?_ | (refine GC ?_ ?_ <;> intro h <;> (try simp only [hsB] at h) <;> try (exfalso; first | omega | contradiction)) | (refine GL ?_ ?_ <;> intro h <;> (try simp only [Bool.not_true, Bool.not_false] at h) <;> (try simp only [h]) <;> (try simp only [hsB] at h) <;> try (exfalso; first | omega | contradiction)) | fail)); all_goals clear kxs kk1 kud1)
    all_goals first | ((all_goals first | exact RetQ.fr 2 | exact RetQ.fn 2 | fail); done) | (exfalso; simp_all; done)
  obtain ⟨hcv, hct⟩ := Ck.check_parts hc
  have hel : (eclk k).length = (evec k.ctx).length + 1 + (if k.dotted = true then (eent k.dot).length else 0) := by
    unfold eclk eflag
    cases k.dotted <;> simp <;> omega
  have hclk : q.clk k = ((q.vec k.ctx).flag k.dotted).dotq k := by unfold Pe.clk; rw [if_neg (by simpa using hc)]
  have hvo := pens_vec.keep (p := q) (x := k.ctx) hok (by omega)
  have hvm := pens_vec.m q k.ctx
  have hvl := pens_vec.len q k.ctx
  generalize hv0 : q.vec k.ctx = p1 at *
  have hv' : Pe.vec ⟨q.b, q.m, q.e⟩ k.ctx = p1 := hv0
  have hfo := pens_flag.keep (p := p1) (x := k.dotted) hvo (by simp only [eflag, List.length_cons, List.length_nil]; omega)
  have hfm := pens_flag.m p1 k.dotted
  have hfl := pens_flag.len p1 k.dotted
  have hf1 : (eflag k.dotted).length = 1 := rfl
  generalize hf0 : p1.flag k.dotted = p2 at *
  have hf' : Pe.flag ⟨p1.b, p1.m, p1.e⟩ k.dotted = p2 := hf0
  obtain ⟨v, f, t, n⟩ := k
  simp only at *
  cases f with
  | false =>
    have hz : p2.dotq ⟨v, false, (t, n)⟩ = p2 := rfl
    rw [hz] at hclk
    focus (have kxs := And.intro hcd (And.intro hc (And.intro hv' hf')); have kk1 := uN [] (dotted_Check ⟨v, false, (t, n)⟩ hfk); have kk2 := uN [0, 1] (vcode_Put1 q.b q.m q.e hok v hfk.1 (by omega)); have kk3 := uN [0, 1] (blob_PutFlag p1.b p1.m p1.e hvo false (by omega)); (repeat' (first | refine G ?_ | refine AW.ret ?_ | (refine GC ?_ ?_ <;> intro h <;> (try simp only [hsB] at h) <;> try (exfalso; first | omega | contradiction)) | (refine GL ?_ ?_ <;> intro h <;> (try simp only [Bool.not_true, Bool.not_false] at h) <;> (try simp only [h]) <;> (try simp only [hsB] at h) <;> try (exfalso; first | omega | contradiction)) | fail)); all_goals clear kxs kk1 kk2 kk3)
    all_goals first | (refine hJ (i + 1) _ _ (by omega) hil rfl ?_; rw [hn2, hclk]; rfl) | (exfalso; simp_all; done)
  | true =>
    have hz : p2.dotq ⟨v, true, (t, n)⟩ = (p2.blob 32 t).text (vput n) := rfl
    rw [hz] at hclk
    simp only [if_true] at hel
    have hee : (eent (t, n)).length = (vput t.length).length + t.length + (vput n).length := by unfold eent eblob; simp only [List.length_append]
    have ht32 := hct rfl
    have hbo := Pe.blob_ok (p := p2) (max := 32) (s := t) hfo (by omega) (by omega)
    have hbm := Pe.blob_m p2 32 t
    have hbl := Pe.blob_len p2 32 t (by omega)
    generalize hb0 : p2.blob 32 t = p3 at *
    have hb' : Pe.blob ⟨p2.b, p2.m, p2.e⟩ 32 t = p3 := hb0
    focus (have kxs := And.intro hcd (And.intro hc (And.intro hv' (And.intro hf' hb'))); have kk1 := uN [] (dotted_Check ⟨v, true, (t, n)⟩ hfk); have kk2 := uN [0, 1] (vcode_Put1 q.b q.m q.e hok v hfk.1 (by omega)); have kk3 := uN [0, 1] (blob_PutFlag p1.b p1.m p1.e hvo true (by omega)); have kk4 := uN [0, 1] (blob_Put1 p2.b t p2.m p2.e 32 hfo (by omega) (by omega)); have kk5 := uN [0, 1] (varint_Put1 p3.b p3.m p3.e hbo n hfk.2.2 (by omega)); (repeat' (first | refine G ?_ | refine AW.ret ?_ | (refine GC ?_ ?_ <;> intro h <;> (try simp only [hsB] at h) <;> try (exfalso; first | omega | contradiction)) | (refine GL ?_ ?_ <;> intro h <;> (try simp only [Bool.not_true, Bool.not_false] at h) <;> (try simp only [h]) <;> (try simp only [hsB] at h) <;> try (exfalso; first | omega | contradiction)) | fail)); all_goals clear kxs kk1 kk2 kk3 kk4 kk5)
    all_goals first | (refine hJ (i + 1) _ _ (by omega) hil rfl ?_; rw [hn2, hclk]; rfl) | (exfalso; simp_all; done)
end
end Go.AW
