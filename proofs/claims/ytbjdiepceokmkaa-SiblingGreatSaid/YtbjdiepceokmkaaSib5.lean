/-
  siblings that are written: the program's and the document's; whole texts.
-/
import Derived.Test.YtbjdiepceokmkaaSib4
namespace Go.AW
open Go Go.Proofs
set_option maxHeartbeats 2000000
set_option maxRecDepth 10000
set_option linter.unusedSimpArgs false
set_option linter.unusedVariables false
attribute [local irreducible] thenQ blockQ RetQ AL AW AC AOp

theorem Pe.sibs_snoc (p : Pe) (l : List Sb) (v : Sb) : p.sibs (l ++ [v]) = (p.sibs l).sib v := by simp [Pe.sibs, List.foldl_append]
theorem Pe.sibs_append (p : Pe) (l r : List Sb) : p.sibs (l ++ r) = (p.sibs l).sibs r := List.foldl_append ..
/-- What is known on the way through a sibling. -/
theorem Pe.sib_way {q : Pe} {x : Sb} (hc : x.check = 0) (hok : q.Ok) (hl : q.m ≤ 140737488355328 ∨ q.b.length + (esib x).length + 80 ≤ 140737488355328) :
    ∃ p1 p2 p3 : Pe, q.clk x.clk = p1 ∧ p1.prs x.meta_ = p2 ∧ p2.flag x.dead = p3 ∧ q.sib x = p3.blob 32768 x.val ∧ p1.Ok ∧ p2.Ok ∧ p3.Ok ∧
      (q.m ≤ 140737488355328 ∨ q.b.length + (eclk x.clk).length + 40 ≤ 140737488355328) ∧ (p1.m ≤ 140737488355328 ∨ p1.b.length + (eprs x.meta_).length + 40 ≤ 140737488355328) ∧
      (p2.m ≤ 140737488355328 ∨ p2.b.length + 1 ≤ 140737488355328) ∧ (p3.m ≤ 140737488355328 ∨ p3.b.length + 10 + x.val.length ≤ 140737488355328) := by
  have hel : (esib x).length = (eclk x.clk).length + ((eprs x.meta_).length + (1 + ((vput x.val.length).length + x.val.length))) := by
    unfold esib eblob eflag; simp only [List.length_append, List.length_cons, List.length_nil]
  have hsib : q.sib x = (((q.clk x.clk).prs x.meta_).flag x.dead).blob 32768 x.val := by unfold Pe.sib; rw [if_neg (by simpa using hc)]
  have k1 := pens_clk.keep (p := q) (x := x.clk) hok (by omega)
  have m1 := pens_clk.m q x.clk
  have l1 := pens_clk.len q x.clk
  refine ⟨q.clk x.clk, (q.clk x.clk).prs x.meta_, ((q.clk x.clk).prs x.meta_).flag x.dead, rfl, rfl, rfl, hsib, ?_⟩
  generalize q.clk x.clk = p1 at *
  have k2 := pens_prs.keep (p := p1) (x := x.meta_) k1 (by omega)
  have m2 := pens_prs.m p1 x.meta_
  have l2 := pens_prs.len p1 x.meta_
  generalize p1.prs x.meta_ = p2 at *
  have hf1 : (eflag x.dead).length = 1 := rfl
  have k3 := pens_flag.keep (p := p2) (x := x.dead) k2 (by omega)
  have m3 := pens_flag.m p2 x.dead
  have l3 := pens_flag.len p2 x.dead
  generalize p2.flag x.dead = p3 at *
  exact ⟨k1, k2, k3, by omega, by omega, by omega, by omega⟩

section
variable (b : List UInt8) (m e : Int)
theorem sibling_Put (ok : Pe.Ok ⟨b, m, e⟩) (l : List Sb) (hf : ∀ k ∈ l, k.fits) (hn : l.length ≤ 140737488355328) (hl : m ≤ 140737488355328 ∨ b.length + (l.map esib).flatten.length + 80 ≤ 140737488355328) :
    AC Try.prog 56 [.p 0 0, .d (.l l.length (sbsD l))] (Pe.obs ⟨b, m, e⟩) fun x σ => x = .t [] ∧ σ = Pe.obs (Pe.sibs ⟨b, m, e⟩ l) := by
  refine AC.walk Try.func56 rfl (by decide) (of_decide_eq_true rfl) ?_
  focus (have kxs : 987654321 = 987654320 + 1 := rfl; (repeat' (first | refine G ?_ | refine AW.ret ?_ | (refine GC ?_ ?_ <;> intro h <;> (try simp only [hsB] at h) <;> try (exfalso; first | omega | contradiction)) | (refine GL ?_ ?_ <;> intro h <;> (try simp only [Bool.not_true, Bool.not_false] at h) <;> (try simp only [h]) <;> (try simp only [hsB] at h) <;> try (exfalso; first | omega | contradiction)) | fail)); all_goals clear kxs)
  refine AW.rounds [0, 4, 10, 11, 12] (fun i : Nat => [(0, .p 0 0), (4, .f (.func 73) [.p 0 0] []), (10, .d (.l l.length (sbsD l))), (11, iv .i64 l.length), (12, iv .i64 i)]) (fun i => Pe.obs (Pe.sibs ⟨b, m, e⟩ (l.take i)))
    (fun i => i ≤ l.length) (fun i => l.length - i) 0 (Nat.zero_le _) rfl rfl (fun _ _ => Nat.le_of_ble_eq_true rfl) (fun _ _ => rfl) (fun _ _ => rfl) ?_
  intro i hi J hJ
  generalize hq : Pe.sibs ⟨b, m, e⟩ (l.take i) = q
  have hqo : q.Ok ∧ q.m = m ∧ q.b.length ≤ b.length + ((l.take i).map esib).flatten.length := by
    have h1 := take_flat esib l i
    rw [← hq]
    exact ⟨pens_sibs.keep ok (by simp only; omega), pens_sibs.m _ _, pens_sibs.len _ _⟩
  obtain ⟨hok, hqm, hqb⟩ := hqo
  by_cases hil : i < l.length
  case neg =>
    have hi2 : i = l.length := by omega
    rw [hi2, List.take_length] at hq
    subst hq
    focus (have kxs : 987654321 = 987654320 + 1 := rfl; (repeat' (first | refine G ?_ | refine AW.ret ?_ | (refine GC ?_ ?_ <;> intro h <;> (try simp only [hsB] at h) <;> try (exfalso; first | omega | contradiction)) | (refine GL ?_ ?_ <;> intro h <;> (try simp only [Bool.not_true, Bool.not_false] at h) <;> (try simp only [h]) <;> (try simp only [hsB] at h) <;> try (exfalso; first | omega | contradiction)) | fail)); all_goals clear kxs)
    (all_goals first | exact RetQ.fr 2 | exact RetQ.fn 2 | fail)
  obtain ⟨x, r, hd⟩ := next_at hil
  have hcd := sbs_drop hd
  have hn2 : Pe.sibs ⟨b, m, e⟩ (l.take (i + 1)) = q.sib x := by rw [next_take hd, Pe.sibs_snoc, hq]
  have hfx := hf x (next_mem hd)
  have htf := take_flat esib l i
  rw [hd] at htf
  simp only [List.map_cons, List.flatten_cons, List.length_append] at htf
  by_cases hc : x.check = 0
  case neg =>
    have hv : q.sib x = q.fail x.check := by unfold Pe.sib; rw [if_pos hc]
    have hall : Pe.sibs ⟨b, m, e⟩ l = q.fail x.check := by
      conv => lhs; rw [← List.take_append_drop (i + 1) l]
      rw [Pe.sibs_append, hn2, hv]
      exact pens_sibs.stuck _ _ (Pe.fail_e hc)
    rw [hall]
    focus (have kxs := hcd; have kk1 := uN [] (sibling_Check x hfx); have kud1 := fun za zb zc zd => uN [0, 1] (pen_Fail za zb zc zd); (repeat' (first | refine G ?_ | refine AW.ret ?_ | (refine GC ?_ ?_ <;> intro h <;> (try simp only [hsB] at h) <;> try (exfalso; first | omega | contradiction)) | (refine GL ?_ ?_ <;> intro h <;> (try simp only [Bool.not_true, Bool.not_false] at h) <;> (try simp only [h]) <;> (try simp only [hsB] at h) <;> try (exfalso; first | omega | contradiction)) | fail)); all_goals clear kxs kk1 kud1)
    all_goals first | ((all_goals first | exact RetQ.fr 2 | exact RetQ.fn 2 | fail); done) | (exfalso; simp_all; done)
  obtain ⟨p1, p2, p3, g1, g2, g3, g4, o1, o2, o3, b0, b1, b2, b3⟩ := Pe.sib_way hc hok (by omega)
  have g2' : Pe.prs ⟨p1.b, p1.m, p1.e⟩ x.meta_ = p2 := g2
  have g3' : Pe.flag ⟨p2.b, p2.m, p2.e⟩ x.dead = p3 := g3
  have g1' : Pe.clk ⟨q.b, q.m, q.e⟩ x.clk = p1 := g1
  focus (have kxs := And.intro hcd (And.intro hc (And.intro g1' (And.intro g2' g3'))); have kk1 := uN [] (sibling_Check x hfx); have kk2 := uN [0, 1] (dcode_Put1 q.b q.m q.e hok x.clk hfx.1 b0); have kk3 := uN [0, 1] (pairs_Put p1.b p1.m p1.e o1 x.meta_ hfx.2.1 b1); have kk4 := uN [0, 1] (blob_PutFlag p2.b p2.m p2.e o2 x.dead b2); have kk5 := uN [0, 1] (blob_Put1 p3.b x.val p3.m p3.e 32768 o3 hfx.2.2 b3); (repeat' (first | refine G ?_ | refine AW.ret ?_ | (refine GC ?_ ?_ <;> intro h <;> (try simp only [hsB] at h) <;> try (exfalso; first | omega | contradiction)) | (refine GL ?_ ?_ <;> intro h <;> (try simp only [Bool.not_true, Bool.not_false] at h) <;> (try simp only [h]) <;> (try simp only [hsB] at h) <;> try (exfalso; first | omega | contradiction)) | fail)); all_goals clear kxs kk1 kk2 kk3 kk4 kk5)
  all_goals first | (refine hJ (i + 1) _ _ (by omega) hil rfl ?_; rw [hn2, g4]; rfl) | (exfalso; simp_all; done)

theorem sibling_Put1 (ok : Pe.Ok ⟨b, m, e⟩) (k : Sb) (hf : k.fits) (hl : m ≤ 140737488355328 ∨ b.length + (esib k).length + 80 ≤ 140737488355328) :
    AC Try.prog 56 [.p 0 0, .d (.l 1 (sbD k))] (Pe.obs ⟨b, m, e⟩) fun x σ => x = .t [] ∧ σ = Pe.obs (Pe.sib ⟨b, m, e⟩ k) := by
  have := sibling_Put b m e ok [k] (by simpa using hf) (by simp) (by simpa using hl)
  rw [show sbsD [k] = sbD k from List.append_nil _] at this
  exact this

theorem ref15_Put (ok : Pe.Ok ⟨b, m, e⟩) (x : Sb) (hfx : x.fits) (hl : m ≤ 140737488355328 ∨ b.length + (esib x).length + 80 ≤ 140737488355328) :
    AC Try.prog 66 [.p 0 0, sbV x] [Pe.ro ⟨b, m, e⟩] fun y σ => y = .t [] ∧ σ = [Pe.ro (Pe.sib ⟨b, m, e⟩ x)] := by
  refine AC.walk Try.func66 rfl (by decide) (of_decide_eq_true rfl) ?_
  by_cases hc : x.check = 0
  case neg =>
    have hv : Pe.sib ⟨b, m, e⟩ x = Pe.fail ⟨b, m, e⟩ x.check := by unfold Pe.sib; rw [if_pos hc]
    rw [hv]
    focus (have kxs : 987654321 = 987654320 + 1 := rfl; have kk1 := uN [] (ref15_Check x hfx); have kua1 := fun za => uN [0] (ref02_Fail b m e za); (repeat' (first | refine G ?_ | refine AW.ret ?_ | (refine GC ?_ ?_ <;> intro h <;> (try simp only [hsB] at h) <;> try (exfalso; first | omega | contradiction)) | (refine GL ?_ ?_ <;> intro h <;> (try simp only [Bool.not_true, Bool.not_false] at h) <;> (try simp only [h]) <;> (try simp only [hsB] at h) <;> try (exfalso; first | omega | contradiction)) | fail)); all_goals clear kxs kk1 kua1)
    all_goals first | ((all_goals first | exact RetQ.fr 1 | exact RetQ.fn 1 | fail); done) | (exfalso; simp_all; done)
  obtain ⟨hcc, hcm, hcv⟩ := Sb.check_parts hc
  obtain ⟨p1, p2, p3, g1, g2, g3, g4, o1, o2, o3, b0, b1, b2, b3⟩ := Pe.sib_way hc ok hl
  have g2' : Pe.prs ⟨p1.b, p1.m, p1.e⟩ x.meta_ = p2 := g2
  have g3' : Pe.flag ⟨p2.b, p2.m, p2.e⟩ x.dead = p3 := g3
  rw [g4]
  focus (have kxs := And.intro hc (And.intro g1 (And.intro g2' g3')); have kk1 := uN [] (ref15_Check x hfx); have kk2 := uN [0] (ref13_Put ⟨b, m, e⟩ ok x.clk hfx.1 b0); have kk3 := uN [0] (ref14_Put p1.b p1.m p1.e o1 x.meta_ hfx.2.1 b1); have kk4 := uN [0] (ref06_PutFlag p2.b p2.m p2.e o2 x.dead b2); have kk5 := uN [0] (ref06_Put p3.b x.val p3.m p3.e 32768 o3 (by omega) b3); (repeat' (first | refine G ?_ | refine AW.ret ?_ | (refine GC ?_ ?_ <;> intro h <;> (try simp only [hsB] at h) <;> try (exfalso; first | omega | contradiction)) | (refine GL ?_ ?_ <;> intro h <;> (try simp only [Bool.not_true, Bool.not_false] at h) <;> (try simp only [h]) <;> (try simp only [hsB] at h) <;> try (exfalso; first | omega | contradiction)) | fail)); all_goals clear kxs kk1 kk2 kk3 kk4 kk5)
  all_goals first | ((all_goals first | exact RetQ.fr 1 | exact RetQ.fn 1 | fail); done) | (exfalso; simp_all; done)
end

theorem sibling_Encode (k : Sb) (hf : k.fits) : AC Try.prog 15 [sbV k] [] fun x σ => x = .t [sv (bs (sibe k).1), iv .i64 (sibe k).2] ∧ σ = [] := by
  have hq := pens_sib.keep (x := k) pe0_ok (.inl (by decide))
  refine AC.walk Try.func15 rfl (by decide) (of_decide_eq_true rfl) ?_
  unfold sibe wre
  generalize hp : Pe.sib ⟨[], 65536, 0⟩ k = q at *
  focus (have kxs := hp; have kk1 := uN [] (pen_New 65536 (by decide)); have kk2 := uN [1, 2] (sibling_Put1 [] 65536 0 pe0_ok k hf (.inl (by decide))); have kk3 := uN [1, 2] (pen_End q.b q.m q.e hq); (repeat' (first | refine G ?_ | refine AW.ret ?_ | (refine GC ?_ ?_ <;> intro h <;> (try simp only [hsB] at h) <;> try (exfalso; first | omega | contradiction)) | (refine GL ?_ ?_ <;> intro h <;> (try simp only [Bool.not_true, Bool.not_false] at h) <;> (try simp only [h]) <;> (try simp only [hsB] at h) <;> try (exfalso; first | omega | contradiction)) | fail)); all_goals clear kxs kk1 kk2 kk3)
  all_goals first | ((all_goals first | exact RetQ.fr 0 | exact RetQ.fn 0 | fail); done) | (exfalso; simp_all; done)
theorem ref15_Encode (k : Sb) (hf : k.fits) : AC Try.prog 20 [sbV k] [] fun x σ => x = .t [sv (bs (sibe k).1), iv .i64 (sibe k).2] ∧ σ = [] := by
  refine AC.walk Try.func20 rfl (by decide) (of_decide_eq_true rfl) ?_
  unfold sibe wre
  generalize hp : Pe.sib ⟨[], 65536, 0⟩ k = q at *
  focus (have kxs := hp; have kk1 := uN [] (ref02_New 65536); have kk2 := uN [1] (ref15_Put [] 65536 0 pe0_ok k hf (.inl (by decide))); have kk3 := uN [1] (ref02_End q.b q.m q.e); (repeat' (first | refine G ?_ | refine AW.ret ?_ | (refine GC ?_ ?_ <;> intro h <;> (try simp only [hsB] at h) <;> try (exfalso; first | omega | contradiction)) | (refine GL ?_ ?_ <;> intro h <;> (try simp only [Bool.not_true, Bool.not_false] at h) <;> (try simp only [h]) <;> (try simp only [hsB] at h) <;> try (exfalso; first | omega | contradiction)) | fail)); all_goals clear kxs kk1 kk2 kk3)
  all_goals first | ((all_goals first | exact RetQ.fr 0 | exact RetQ.fn 0 | fail); done) | (exfalso; simp_all; done)
theorem sibling_Decode (s : List UInt8) (hs : s.length ≤ 140737488351232) : AC Try.prog 17 [sv (bs s)] [] fun x σ => x = .t [sbV (sibw s).1, iv .i64 (sibw s).2] ∧ σ = [] := by
  have h0 : Cu.Ok ⟨s, 0, 0⟩ := ⟨hs, Nat.zero_le _⟩
  have hq := Cu.sib_ok h0
  refine AC.walk Try.func17 rfl (by decide) (of_decide_eq_true rfl) ?_
  unfold sibw rdw
  generalize hp : Cu.sib ⟨s, 0, 0⟩ = z at *
  obtain ⟨v, c⟩ := z
  have hfe : Cu.fin ⟨c.s, c.a, c.e⟩ = c.fin := rfl
  simp only
  generalize hc : c.fin = d at *
  by_cases he : d.e = 0
  · rw [if_neg (by simpa using he), he]
    focus (have kxs := And.intro hp (And.intro hc hfe); have kk1 := uN [] (cursor_New s); have kk2 := uN [1] (sibling_Take ⟨s, 0, 0⟩ h0); have kk3 := uN [1] (cursor_End c.s c.a c.e hq); (repeat' (first | refine G ?_ | refine AW.ret ?_ | (refine GC ?_ ?_ <;> intro h <;> (try simp only [hsB] at h) <;> try (exfalso; first | omega | contradiction)) | (refine GL ?_ ?_ <;> intro h <;> (try simp only [Bool.not_true, Bool.not_false] at h) <;> (try simp only [h]) <;> (try simp only [hsB] at h) <;> try (exfalso; first | omega | contradiction)) | fail)); all_goals clear kxs kk1 kk2 kk3)
    all_goals first | ((all_goals first | exact RetQ.fr 0 | exact RetQ.fn 0 | fail); done) | (exfalso; simp_all; done)
  · rw [if_pos he]
    focus (have kxs := And.intro hp (And.intro hc hfe); have kk1 := uN [] (cursor_New s); have kk2 := uN [1] (sibling_Take ⟨s, 0, 0⟩ h0); have kk3 := uN [1] (cursor_End c.s c.a c.e hq); (repeat' (first | refine G ?_ | refine AW.ret ?_ | (refine GC ?_ ?_ <;> intro h <;> (try simp only [hsB] at h) <;> try (exfalso; first | omega | contradiction)) | (refine GL ?_ ?_ <;> intro h <;> (try simp only [Bool.not_true, Bool.not_false] at h) <;> (try simp only [h]) <;> (try simp only [hsB] at h) <;> try (exfalso; first | omega | contradiction)) | fail)); all_goals clear kxs kk1 kk2 kk3)
    all_goals first | (((all_goals first | refine RetQ.r 0 rfl (Nat.le_of_ble_eq_true rfl) rfl (by first | rfl | (simp only [go_sem, ↓reduceIte, Nat.reduceLT, Nat.lt_irrefl])) ⟨?_, ?_⟩ | refine RetQ.n 0 rfl (Nat.le_of_ble_eq_true rfl) rfl (by first | rfl | (simp only [go_sem, ↓reduceIte, Nat.reduceLT, Nat.lt_irrefl])) ⟨?_, ?_⟩); (all_goals first | rfl | (simp [sb0, ck0, *]; done) | ((simp only [go_sem, ↓reduceIte, Nat.reduceLT, sb0, ck0]; (repeat' split)) <;> first | rfl | (exfalso; omega) | (simp_all; done) | (simp_all; omega)))); done) | (exfalso; simp_all; done)
end Go.AW
