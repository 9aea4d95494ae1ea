/-
  old objects that are written: the program's and the document's.
-/
import Derived.Test.YtbjdiepceokmkaaLeg1
import Derived.Test.YtbjdiepceokmkaaMc
namespace Go.AW
open Go Go.Proofs
set_option maxHeartbeats 2000000
set_option maxRecDepth 10000
set_option linter.unusedSimpArgs false
set_option linter.unusedVariables false
attribute [local irreducible] thenQ blockQ RetQ AL AW AC AOp

theorem Pe.olds_snoc (p : Pe) (l : List Os1) (x : Os1) : p.olds (l ++ [x]) = (p.olds l).os1 x := by simp [Pe.olds, List.foldl_append]
theorem pens_olds : Pens Pe.olds (fun l => (l.map eos1).flatten) (fun l => ∀ x ∈ l, x.clk.check = 0 ∧ x.val.length ≤ 32768) := pens_os1.fold

theorem legacy_Encode (o : Od) (ho : o.fits) : AC Try.prog 11 [odV o] [] fun x σ => x = .t [sv (bs (olde o).1), iv .i64 (olde o).2] ∧ σ = [] := by
  refine AC.walk Try.func11 rfl (by decide) (of_decide_eq_true rfl) ?_
  by_cases hc : o.check = 0
  case neg =>
    rw [olde_bad hc]
    focus (have kxs : 987654321 = 987654320 + 1 := rfl; have kk1 := uN [] (pen_New 65536 (by decide)); have kk2 := uN [] (legacy_Check o ho); (repeat' (first | refine G ?_ | refine AW.ret ?_ | (refine GC ?_ ?_ <;> intro h <;> (try simp only [hsB] at h) <;> try (exfalso; first | omega | contradiction)) | (refine GL ?_ ?_ <;> intro h <;> (try simp only [Bool.not_true, Bool.not_false] at h) <;> (try simp only [h]) <;> (try simp only [hsB] at h) <;> try (exfalso; first | omega | contradiction)) | fail)); all_goals clear kxs kk1 kk2)
    all_goals first | ((all_goals first | exact RetQ.fr 0 | exact RetQ.fn 0 | fail); done) | (exfalso; simp_all; done)
  rw [olde_good hc]
  obtain ⟨hout, hoc⟩ := Od.check_parts hc
  obtain ⟨hk1, hk2, hl1, hl2⟩ := outside_zero.1 hout
  have hparts := (ocheck_parts _ _ hoc).1
  have hbo := (pens_blob 128).keep (p := ⟨[], 65536, 0⟩) (x := o.key) pe0_ok (.inl (by decide))
  have hbm := (pens_blob 128).m ⟨[], 65536, 0⟩ o.key
  try simp only at hbo hbm
  generalize hb0 : Pe.blob ⟨[], 65536, 0⟩ 128 o.key = p1 at *
  have hco := (pens_count 16).keep (p := p1) (x := o.sibs.length) hbo (.inl (by omega))
  have hcm := (pens_count 16).m p1 o.sibs.length
  try simp only at hco hcm
  generalize hc0 : p1.count 16 (o.sibs.length : Nat) = p2 at *
  have hc' : Pe.count ⟨p1.b, p1.m, p1.e⟩ 16 (o.sibs.length : Nat) = p2 := hc0
  focus (have kxs := And.intro hc (And.intro hb0 hc'); have kk1 := uN [] (pen_New 65536 (by decide)); have kk2 := uN [] (legacy_Check o ho); have kk3 := uN [1, 2] (blob_Put1 [] o.key 65536 0 128 pe0_ok ho.1 (.inl (by decide))); have kk4 := uN [1, 2] (blob_PutCount p1.b p1.m p1.e 16 hbo (o.sibs.length : Nat) (by omega) (.inl (by omega))); (repeat' (first | refine G ?_ | refine AW.ret ?_ | (refine GC ?_ ?_ <;> intro h <;> (try simp only [hsB] at h) <;> try (exfalso; first | omega | contradiction)) | (refine GL ?_ ?_ <;> intro h <;> (try simp only [Bool.not_true, Bool.not_false] at h) <;> (try simp only [h]) <;> (try simp only [hsB] at h) <;> try (exfalso; first | omega | contradiction)) | fail)); all_goals clear kxs kk1 kk2 kk3 kk4)
  all_goals first | (exfalso; simp_all; done) | skip
  refine AW.rounds [2, 3, 4, 25, 26, 27] (fun i : Nat => [(2, sv (bs [])), (3, iv .i64 0), (4, .p 1 0), (25, .d (.l o.sibs.length (ossD o.sibs))), (26, iv .i64 o.sibs.length), (27, iv .i64 i)])
    (fun i => [.box 24 [sv (bs o.key), .d (.l o.sibs.length (ossD o.sibs))], .box 114 [.o 2 (p2.olds (o.sibs.take i)).b.length, iv .i64 (p2.olds (o.sibs.take i)).m, iv .i64 (p2.olds (o.sibs.take i)).e], .row 5 1 (p2.olds (o.sibs.take i)).b.length (bsD (p2.olds (o.sibs.take i)).b)])
    (fun i => i ≤ o.sibs.length) (fun i => o.sibs.length - i) 0 (Nat.zero_le _) rfl rfl (fun _ _ => Nat.zero_le _) (fun _ _ => rfl) (fun _ _ => rfl) ?_
  intro i hi J hJ
  have hqo := pens_olds.keep (p := p2) (x := o.sibs.take i) hco (.inl (by omega))
  have hqm := pens_olds.m p2 (o.sibs.take i)
  generalize hq : p2.olds (o.sibs.take i) = q at *
  by_cases hil : i < o.sibs.length
  case neg =>
    have hi2 : i = o.sibs.length := by omega
    rw [hi2, List.take_length] at hq
    rw [hq]
    focus (have kxs : 987654321 = 987654320 + 1 := rfl; have kk1 := uN [1, 2] (pen_End q.b q.m q.e hqo); (repeat' (first | refine G ?_ | refine AW.ret ?_ | (refine GC ?_ ?_ <;> intro h <;> (try simp only [hsB] at h) <;> try (exfalso; first | omega | contradiction)) | (refine GL ?_ ?_ <;> intro h <;> (try simp only [Bool.not_true, Bool.not_false] at h) <;> (try simp only [h]) <;> (try simp only [hsB] at h) <;> try (exfalso; first | omega | contradiction)) | fail)); all_goals clear kxs kk1)
    all_goals first | ((all_goals first | exact RetQ.fr 0 | exact RetQ.fn 0 | fail); done) | (exfalso; simp_all; done)
  obtain ⟨x, r, hd⟩ := next_at hil
  have hcd := oss_drop hd
  have hn2 : p2.olds (o.sibs.take (i + 1)) = q.os1 x := by rw [next_take hd, Pe.olds_snoc, hq]
  have hfx := ho.2.2 x (next_mem hd)
  have hvo := pens_vec.keep (p := q) (x := x.clk) hqo (.inl (by omega))
  have hvm := pens_vec.m q x.clk
  generalize hv0 : q.vec x.clk = q1 at *
  have hv' : Pe.vec ⟨q.b, q.m, q.e⟩ x.clk = q1 := hv0
  have hfo := pens_flag.keep (p := q1) (x := x.dead) hvo (.inl (by omega))
  have hfm := pens_flag.m q1 x.dead
  generalize hf0 : q1.flag x.dead = q2 at *
  have hf' : Pe.flag ⟨q1.b, q1.m, q1.e⟩ x.dead = q2 := hf0
  have hos : q.os1 x = q2.blob 32768 x.val := by unfold Pe.os1; rw [hv0, hf0]
  focus (have kxs := And.intro hcd (And.intro hv' hf'); have kk1 := uN [1, 2] (vcode_Put1 q.b q.m q.e hqo x.clk hfx.1 (.inl (by omega))); have kk2 := uN [1, 2] (blob_PutFlag q1.b q1.m q1.e hvo x.dead (.inl (by omega))); have kk3 := uN [1, 2] (blob_Put1 q2.b x.val q2.m q2.e 32768 hfo hfx.2 (.inl (by omega))); (repeat' (first | refine G ?_ | refine AW.ret ?_ | (refine GC ?_ ?_ <;> intro h <;> (try simp only [hsB] at h) <;> try (exfalso; first | omega | contradiction)) | (refine GL ?_ ?_ <;> intro h <;> (try simp only [Bool.not_true, Bool.not_false] at h) <;> (try simp only [h]) <;> (try simp only [hsB] at h) <;> try (exfalso; first | omega | contradiction)) | fail)); all_goals clear kxs kk1 kk2 kk3)
  all_goals first | (refine hJ (i + 1) _ _ (by omega) hil rfl ?_; rw [hn2, hos]; rfl) | (exfalso; simp_all; done)
end Go.AW
