/-
  rings that are the same; great ones.
-/
import Derived.Test.YtbedecfkincemaaGreatX13
import Derived.Test.YtbedecfkincemaaGreatX08
import Derived.Test.YtbedecfkincemaaGreatX04
import Derived.Test.YtbedecfkincemaaGreatX11
import Derived.Test.YtbedecfkincemaaGreatX12
namespace Go.AW
open Go Go.Proofs
set_option maxHeartbeats 4000000
set_option maxRecDepth 10000
set_option linter.unusedSimpArgs false
set_option linter.unusedVariables false
attribute [local irreducible] thenQ blockQ RetQ AL AW AC AOp

deriving instance DecidableEq for Mb
theorem ref22_Great (l : Ring) (hf : l.fits) : AC Tryz.prog 81 [.d (.l l.length (ringD l))] [] fun x σ => x = bv (Ring.great l) ∧ σ = [] := by
  refine AC.walk Tryz.func81 rfl (by decide) (of_decide_eq_true rfl) ?_
  have hll := hf.1
  by_cases h40 : 40 < l.length
  · have hc : Ring.great l = true := by unfold Ring.great; simp [h40]
    rw [hc]
    focus (have kxs := kx0; (repeat' (first | refine G ?_ | refine AW.ret ?_ | (refine GC ?_ ?_ <;> intro h <;> (try simp only [hsB] at h) <;> try exact xf) | (refine GL ?_ ?_ <;> intro h <;> (try simp only [hsN] at h) <;> (try simp only [h]) <;> (try simp only [hsB] at h) <;> try exact xf) | fail)); all_goals clear kxs)
    all_goals first | exact RetQ.fr 0 | exact RetQ.fn 0 | (exfalso; omega) | (exfalso; simp_all; done)
  generalize hR : (l.any fun x => decide (100 < x.name.length) || decide (30 < x.toks.length)) = R
  have hc : Ring.great l = R := by unfold Ring.great; rw [hR]; simp [h40]
  rw [hc]
  focus (have kxs := kx0; (repeat' (first | refine G ?_ | refine AW.ret ?_ | (refine GC ?_ ?_ <;> intro h <;> (try simp only [hsB] at h) <;> try exact xf) | (refine GL ?_ ?_ <;> intro h <;> (try simp only [hsN] at h) <;> (try simp only [h]) <;> (try simp only [hsB] at h) <;> try exact xf) | fail)); all_goals clear kxs)
  all_goals first | (exfalso; omega) | (exfalso; simp_all; done) | skip
  refine AW.rounds [0, 2, 3] (fun i : Nat => [(0, .d (.l l.length (ringD l))), (2, bv false), (3, iv .i64 i)]) (fun _ => [])
    (fun i => i ≤ l.length ∧ ((l.drop i).any fun x => decide (100 < x.name.length) || decide (30 < x.toks.length)) = R) (fun i => l.length - i) 0 ⟨Nat.zero_le _, hR⟩ rfl rfl (fun _ _ => Nat.zero_le _) (fun _ _ => rfl) (fun _ _ => rfl) ?_
  rintro i ⟨hi, hr⟩ J hJ
  by_cases hil : i < l.length
  case neg =>
    rw [List.drop_eq_nil_of_le (by omega)] at hr
    have hR0 : R = false := hr.symm
    rw [hR0]
    focus (have kxs := kx0; (repeat' (first | refine G ?_ | refine AW.ret ?_ | (refine GC ?_ ?_ <;> intro h <;> (try simp only [hsB] at h) <;> try exact xf) | (refine GL ?_ ?_ <;> intro h <;> (try simp only [hsN] at h) <;> (try simp only [h]) <;> (try simp only [hsB] at h) <;> try exact xf) | fail)); all_goals clear kxs)
    all_goals first | exact RetQ.fr 0 | exact RetQ.fn 0 | (exfalso; omega) | (exfalso; simp_all; done)
  obtain ⟨x, r, hd⟩ := next_at hil
  have hcd := ring_drop hd
  have hnd := next_drop hd
  obtain ⟨_, f4, f5⟩ := hf.2 x (next_mem hd)
  rw [hd, List.any_cons] at hr
  by_cases h1 : 100 < x.name.length ∨ 30 < x.toks.length
  · have hR1 : R = true := by
      rw [← hr]
      rcases h1 with h1 | h1 <;> simp [h1]
    rw [hR1]
    focus (have kxs := hcd; (repeat' (first | refine G ?_ | refine AW.ret ?_ | (refine GC ?_ ?_ <;> intro h <;> (try simp only [hsB] at h) <;> try exact xf) | (refine GL ?_ ?_ <;> intro h <;> (try simp only [hsN] at h) <;> (try simp only [h]) <;> (try simp only [hsB] at h) <;> try exact xf) | fail)); all_goals clear kxs)
    all_goals first | exact RetQ.fr 0 | exact RetQ.fn 0 | (exfalso; omega) | (exfalso; simp_all; done)
  · have hx : (decide (100 < x.name.length) || decide (30 < x.toks.length)) = false := by
      simp only [Bool.or_eq_false_iff, decide_eq_false_iff_not]; omega
    rw [hx, Bool.false_or] at hr
    have go : ∀ T' σ', keepT T' [0, 2, 3] = [(0, .d (.l l.length (ringD l))), (2, bv false), (3, iv .i64 ((i : Int) + 1))] → J T' σ' := fun T' σ' g1 =>
      hJ (i + 1) T' σ' (by omega) ⟨hil, by rw [hnd]; exact hr⟩ g1 rfl
    clear hJ hr hR hnd hx
    focus (have kxs := hcd; (repeat' (first | refine G ?_ | refine AW.ret ?_ | (refine GC ?_ ?_ <;> intro h <;> (try simp only [hsB] at h) <;> try exact xf) | (refine GL ?_ ?_ <;> intro h <;> (try simp only [hsN] at h) <;> (try simp only [h]) <;> (try simp only [hsB] at h) <;> try exact xf) | fail)); all_goals clear kxs)
    all_goals first | exact go _ _ rfl | (exfalso; omega) | (exfalso; simp_all; done)

end Go.AW
/-
  old objects that are written: the program's and the document's.
-/
namespace Go.AW
open Go Go.Proofs
set_option maxHeartbeats 2000000
set_option maxRecDepth 10000
set_option linter.unusedSimpArgs false
set_option linter.unusedVariables false
attribute [local irreducible] thenQ blockQ RetQ AL AW AC AOp

theorem Pe.olds_snoc (p : Pe) (l : List Os1) (x : Os1) : p.olds (l ++ [x]) = (p.olds l).os1 x := by simp [Pe.olds, List.foldl_append]
theorem pens_olds : Pens Pe.olds (fun l => (l.map eos1).flatten) (fun l => ∀ x ∈ l, x.clk.check = 0 ∧ x.val.length ≤ 32768) := pens_os1.fold

end Go.AW
/-
  old objects: the document's: what is right, what is written.
-/
namespace Go.AW
open Go Go.Proofs
set_option maxHeartbeats 2000000
set_option maxRecDepth 10000
set_option linter.unusedSimpArgs false
set_option linter.unusedVariables false
attribute [local irreducible] thenQ blockQ RetQ AL AW AC AOp

theorem mem_take {α : Type} {l r : List α} {y : α} {k i : Nat} (h : l.drop k = y :: r) (hk : k < i) : y ∈ l.take i := by
  have h1 : y ∈ l.take (k + 1) := by rw [next_take h]; simp
  have h2 : l.take (k + 1) = (l.take i).take (k + 1) := by rw [List.take_take, Nat.min_eq_left (by omega)]
  rw [h2] at h1
  exact List.mem_of_mem_take h1

theorem ref17_Check (o : Od) (ho : o.fits) : AC Tryz.prog 104 [odV o] [] fun x σ => x = iv .i64 o.check ∧ σ = [] := by
  obtain ⟨key, l⟩ := o
  obtain ⟨hk, hl, hf⟩ := ho
  simp only at hk hl hf
  refine AC.walk Tryz.func104 rfl (by decide) (of_decide_eq_true rfl) ?_
  by_cases ho : outside key l.length = 0
  case neg =>
    have hR : Od.check ⟨key, l⟩ = outside key l.length := by unfold Od.check; rw [if_pos ho]
    rw [hR]
    unfold outside at ho ⊢
    have hke : key = [] ↔ key.length = 0 := List.length_eq_zero_iff.symm
    focus (have kxs := kx0; (repeat' (first | (refine ADr.nil ?_; try clear hgv) | refine GO ?_ | refine AW.ret ?_ | (refine GC ?_ ?_ <;> intro h <;> (try simp only [hsB] at h) <;> try exact xf) | (refine GD ?_ ?_ <;> intro h <;> (try intro hgv) <;> (try simp only [hsN] at h) <;> (try simp only [h]) <;> (try simp only [hsB] at h) <;> try exact xf) | (refine GL ?_ ?_ <;> intro h <;> (try simp only [hsN] at h) <;> (try simp only [h]) <;> (try simp only [hsB] at h) <;> try exact xf) | fail)); all_goals clear kxs)
    all_goals first
      | (rw [if_pos (by omega)]; (first | exact RetQ.zr 0 | exact RetQ.zn 0 | fail))
      | (rw [if_neg (by omega), if_pos (hke.2 (by omega))]; (first | exact RetQ.zr 0 | exact RetQ.zn 0 | fail))
      | (rw [if_neg (by omega), if_neg (fun e => absurd (hke.1 e) (by omega)), if_pos (by omega)]; (first | exact RetQ.zr 0 | exact RetQ.zn 0 | fail))
      | (rw [if_neg (by omega), if_neg (fun e => absurd (hke.1 e) (by omega)), if_neg (by omega), if_pos (by omega)]; (first | exact RetQ.zr 0 | exact RetQ.zn 0 | fail))
      | (exfalso; rw [if_neg (by omega), if_neg (fun e => absurd (hke.1 e) (by omega)), if_neg (by omega), if_neg (by omega)] at ho; exact ho rfl)
      | trace_state
  generalize hR : ocheck [] l = R
  have hc : Od.check ⟨key, l⟩ = R := by unfold Od.check; rw [if_neg (by simpa using ho), hR]
  rw [hc]
  obtain ⟨ho1, ho2, ho3, ho4⟩ := outside_zero.1 ho
  have ho2' : key.length ≠ 0 := fun e => ho2 (List.length_eq_zero_iff.1 e)
  focus (have kxs := kx0; (repeat' (first | (refine ADr.nil ?_; try clear hgv) | refine GO ?_ | refine AW.ret ?_ | (refine GC ?_ ?_ <;> intro h <;> (try simp only [hsB] at h) <;> try exact xf) | (refine GD ?_ ?_ <;> intro h <;> (try intro hgv) <;> (try simp only [hsN] at h) <;> (try simp only [h]) <;> (try simp only [hsB] at h) <;> try exact xf) | (refine GL ?_ ?_ <;> intro h <;> (try simp only [hsN] at h) <;> (try simp only [h]) <;> (try simp only [hsB] at h) <;> try exact xf) | fail)); all_goals clear kxs)
  all_goals first | (exfalso; omega) | (exfalso; simp_all; done) | skip
  refine AW.rounds [1, 2, 3] (fun i : Nat => [(1, .p 0 0), (2, iv .i64 0), (3, iv .i64 i)]) (fun _ => [.box 29 [sv (bs key), .d (.l l.length (ossD l))]])
    (fun i => i ≤ l.length ∧ ocheck ((l.take i).map Os1.clk) (l.drop i) = R) (fun i => l.length - i) 0 ⟨Nat.zero_le _, hR⟩ rfl rfl (fun _ _ => Nat.zero_le _) (fun _ _ => rfl) (fun _ _ => rfl) ?_
  rintro i ⟨hi, hr⟩ J hJ
  by_cases hil : i < l.length
  · obtain ⟨x, r, hd⟩ := next_at hil
    have hcd := oss_drop hd
    rw [hd] at hr
    have hR2 := ostep hr
    have hfx := hf x (next_mem hd)
    by_cases hcc : x.clk.check = 0
    case neg =>
      rw [if_pos hcc] at hR2
      rw [hR2]
      focus (have kxs := hcd; have kk1 := uN [] (ref10_Check x.clk hfx.1); (repeat' (first | (refine ADr.nil ?_; try clear hgv) | refine GO ?_ | refine AW.ret ?_ | (refine GC ?_ ?_ <;> intro h <;> (try simp only [hsB] at h) <;> try exact xf) | (refine GD ?_ ?_ <;> intro h <;> (try intro hgv) <;> (try simp only [hsN] at h) <;> (try simp only [h]) <;> (try simp only [hsB] at h) <;> try exact xf) | (refine GL ?_ ?_ <;> intro h <;> (try simp only [hsN] at h) <;> (try simp only [h]) <;> (try simp only [hsB] at h) <;> try exact xf) | fail)); all_goals clear kxs kk1)
      all_goals first | (first | exact RetQ.zr 0 | exact RetQ.zn 0 | fail) | (exfalso; simp_all; done)
    rw [if_neg (by simpa using hcc)] at hR2
    by_cases hvl : 32768 < x.val.length
    · rw [if_pos hvl] at hR2
      rw [hR2]
      focus (have kxs := And.intro hcd hcc; have kk1 := uN [] (ref10_Check x.clk hfx.1); (repeat' (first | (refine ADr.nil ?_; try clear hgv) | refine GO ?_ | refine AW.ret ?_ | (refine GC ?_ ?_ <;> intro h <;> (try simp only [hsB] at h) <;> try exact xf) | (refine GD ?_ ?_ <;> intro h <;> (try intro hgv) <;> (try simp only [hsN] at h) <;> (try simp only [h]) <;> (try simp only [hsB] at h) <;> try exact xf) | (refine GL ?_ ?_ <;> intro h <;> (try simp only [hsN] at h) <;> (try simp only [h]) <;> (try simp only [hsB] at h) <;> try exact xf) | fail)); all_goals clear kxs kk1)
      all_goals first | (first | exact RetQ.zr 0 | exact RetQ.zn 0 | fail) | (exfalso; omega) | (exfalso; simp_all; done)
    rw [if_neg hvl] at hR2
    focus (have kxs := And.intro hcd hcc; have kk1 := uN [] (ref10_Check x.clk hfx.1); (repeat' (first | (refine ADr.nil ?_; try clear hgv) | refine GO ?_ | refine AW.ret ?_ | (refine GC ?_ ?_ <;> intro h <;> (try simp only [hsB] at h) <;> try exact xf) | (refine GD ?_ ?_ <;> intro h <;> (try intro hgv) <;> (try simp only [hsN] at h) <;> (try simp only [h]) <;> (try simp only [hsB] at h) <;> try exact xf) | (refine GL ?_ ?_ <;> intro h <;> (try simp only [hsN] at h) <;> (try simp only [h]) <;> (try simp only [hsB] at h) <;> try exact xf) | fail)); all_goals clear kxs kk1)
    all_goals first | (exfalso; omega) | (exfalso; simp_all; done) | skip
    refine AW.rounds [1, 2, 3, 5] (fun k : Nat => [(1, .p 0 0), (2, iv .i64 0), (3, iv .i64 i), (5, iv .i64 k)]) (fun _ => [.box 29 [sv (bs key), .d (.l l.length (ossD l))]])
      (fun k => k ≤ i ∧ x.clk ∉ (l.take k).map Os1.clk) (fun k => i - k) 0 ⟨Nat.zero_le _, by simp⟩ rfl rfl (fun _ _ => Nat.zero_le _) (fun _ _ => rfl) (fun _ _ => rfl) ?_
    rintro k ⟨hki, hkr⟩ J' hJ'
    by_cases hkl : k < i
    · obtain ⟨y, r', hd'⟩ := next_at (show k < l.length by omega)
      have hcd' := oss_drop hd'
      have hfy := hf y (next_mem hd')
      by_cases hyx : y.clk = x.clk
      · have hm : x.clk ∈ (l.take i).map Os1.clk := List.mem_map.2 ⟨y, mem_take hd' hkl, hyx⟩
        rw [if_pos hm] at hR2
        rw [hR2]
        have hyd : decide (y.clk = x.clk) = true := decide_eq_true hyx
        focus (have kxs := And.intro hcd (And.intro hcd' hyd); have kk1 := uN [] (ref10_Same y.clk x.clk hfy.1.1); (repeat' (first | (refine ADr.nil ?_; try clear hgv) | refine GO ?_ | refine AW.ret ?_ | (refine GC ?_ ?_ <;> intro h <;> (try simp only [hsB] at h) <;> try exact xf) | (refine GD ?_ ?_ <;> intro h <;> (try intro hgv) <;> (try simp only [hsN] at h) <;> (try simp only [h]) <;> (try simp only [hsB] at h) <;> try exact xf) | (refine GL ?_ ?_ <;> intro h <;> (try simp only [hsN] at h) <;> (try simp only [h]) <;> (try simp only [hsB] at h) <;> try exact xf) | fail)); all_goals clear kxs kk1)
        all_goals first | (first | exact RetQ.zr 0 | exact RetQ.zn 0 | fail) | (exfalso; omega) | (exfalso; simp_all; done)
      · have hne : x.clk ∉ (l.take (k + 1)).map Os1.clk := by
          rw [next_take hd', List.map_append]
          intro h
          rcases List.mem_append.1 h with h | h
          · exact hkr h
          · exact hyx (List.mem_singleton.1 h).symm
        have hyd : decide (y.clk = x.clk) = false := decide_eq_false hyx
        focus (have kxs := And.intro hcd (And.intro hcd' hyd); have kk1 := uN [] (ref10_Same y.clk x.clk hfy.1.1); (repeat' (first | (refine ADr.nil ?_; try clear hgv) | refine GO ?_ | refine AW.ret ?_ | (refine GC ?_ ?_ <;> intro h <;> (try simp only [hsB] at h) <;> try exact xf) | (refine GD ?_ ?_ <;> intro h <;> (try intro hgv) <;> (try simp only [hsN] at h) <;> (try simp only [h]) <;> (try simp only [hsB] at h) <;> try exact xf) | (refine GL ?_ ?_ <;> intro h <;> (try simp only [hsN] at h) <;> (try simp only [h]) <;> (try simp only [hsB] at h) <;> try exact xf) | fail)); all_goals clear kxs kk1)
        all_goals first
          | (exact hJ' (k + 1) _ _ (by omega) ⟨hkl, hne⟩ rfl rfl)
          | (exfalso; omega) | (exfalso; simp_all; done)
    · have hki' : k = i := by omega
      subst hki'
      rw [if_neg hkr] at hR2
      focus (have kxs := kx0; (repeat' (first | (refine ADr.nil ?_; try clear hgv) | refine GO ?_ | refine AW.ret ?_ | (refine GC ?_ ?_ <;> intro h <;> (try simp only [hsB] at h) <;> try exact xf) | (refine GD ?_ ?_ <;> intro h <;> (try intro hgv) <;> (try simp only [hsN] at h) <;> (try simp only [h]) <;> (try simp only [hsB] at h) <;> try exact xf) | (refine GL ?_ ?_ <;> intro h <;> (try simp only [hsN] at h) <;> (try simp only [h]) <;> (try simp only [hsB] at h) <;> try exact xf) | fail)); all_goals clear kxs)
      all_goals first
        | (refine hJ (k + 1) _ _ (by omega) ⟨hil, ?_⟩ rfl rfl; rw [next_drop hd, next_take hd, List.map_append, hR2]; rfl)
        | (exfalso; omega) | (exfalso; simp_all; done)
  · have h0 : l.drop i = [] := List.drop_eq_nil_of_le (by omega)
    rw [h0] at hr
    have hR0 : R = 0 := hr.symm
    rw [hR0]
    focus (have kxs := kx0; (repeat' (first | (refine ADr.nil ?_; try clear hgv) | refine GO ?_ | refine AW.ret ?_ | (refine GC ?_ ?_ <;> intro h <;> (try simp only [hsB] at h) <;> try exact xf) | (refine GD ?_ ?_ <;> intro h <;> (try intro hgv) <;> (try simp only [hsN] at h) <;> (try simp only [h]) <;> (try simp only [hsB] at h) <;> try exact xf) | (refine GL ?_ ?_ <;> intro h <;> (try simp only [hsN] at h) <;> (try simp only [h]) <;> (try simp only [hsB] at h) <;> try exact xf) | fail)); all_goals clear kxs)
    all_goals first | (first | exact RetQ.zr 0 | exact RetQ.zn 0 | fail) | exact RetQ.fr 0 | exact RetQ.fn 0

theorem ref17_Encode (o : Od) (ho : o.fits) : AC Tryz.prog 86 [odV o] [] fun x σ => x = .t [sv (bs (olde o).1), iv .i64 (olde o).2] ∧ σ = [] := by
  refine AC.walk Tryz.func86 rfl (by decide) (of_decide_eq_true rfl) ?_
  by_cases hc : o.check = 0
  case neg =>
    rw [olde_bad hc]
    focus (have kxs := kx0; have kk1 := uN [] (ref17_Check o ho); (repeat' (first | refine G ?_ | refine AW.ret ?_ | (refine GC ?_ ?_ <;> intro h <;> (try simp only [hsB] at h) <;> try exact xf) | (refine GL ?_ ?_ <;> intro h <;> (try simp only [hsN] at h) <;> (try simp only [h]) <;> (try simp only [hsB] at h) <;> try exact xf) | fail)); all_goals clear kxs kk1)
    all_goals first | exact RetQ.fr 0 | exact RetQ.fn 0 | (exfalso; simp_all; done)
  rw [olde_good hc]
  obtain ⟨hout, hoc⟩ := Od.check_parts hc
  obtain ⟨hk1, hk2, hl1, hl2⟩ := outside_zero.1 hout
  have hparts := (ocheck_parts _ _ hoc).1
  have hbo := (pens_blob 128).keep (p := ⟨[], 65536, 0⟩) (x := o.key) pe0_ok (.inl (by decide))
  have hbm := (pens_blob 128).m ⟨[], 65536, 0⟩ o.key
  try simp only at hbo hbm
  generalize hb0 : Pe.blob ⟨[], 65536, 0⟩ 128 o.key = p1 at *
  have hco := (pens_count 16).keep (p := p1) (x := o.sibs.length) hbo (.inl (by omega))
  have hcm := (pens_count 16).m p1 o.sibs.length
  generalize hc0 : p1.count 16 (o.sibs.length : Nat) = p2 at *
  have hc' : Pe.count ⟨p1.b, p1.m, p1.e⟩ 16 (o.sibs.length : Nat) = p2 := hc0
  focus (have kxs := And.intro hc (And.intro hb0 hc'); have kk1 := uN [] (ref02_New 65536); have kk2 := uN [] (ref17_Check o ho); have kk3 := uN [1] (ref06_Put [] o.key 65536 0 128 pe0_ok (by omega) (.inl (by decide))); have kk4 := uN [1] (ref06_PutCount p1.b p1.m p1.e 16 hbo (o.sibs.length : Nat) (by omega) (.inl (by omega))); (repeat' (first | refine G ?_ | refine AW.ret ?_ | (refine GC ?_ ?_ <;> intro h <;> (try simp only [hsB] at h) <;> try exact xf) | (refine GL ?_ ?_ <;> intro h <;> (try simp only [hsN] at h) <;> (try simp only [h]) <;> (try simp only [hsB] at h) <;> try exact xf) | fail)); all_goals clear kxs kk1 kk2 kk3 kk4)
  all_goals first | (exfalso; simp_all; done) | skip
  refine AW.rounds [1, 2, 3, 5, 6] (fun i : Nat => [(1, .p 0 0), (2, sv (bs [])), (3, iv .i64 0), (5, .p 1 0), (6, iv .i64 i)])
    (fun i => [.box 29 [sv (bs o.key), .d (.l o.sibs.length (ossD o.sibs))], Pe.ro (p2.olds (o.sibs.take i))])
    (fun i => i ≤ o.sibs.length) (fun i => o.sibs.length - i) 0 (Nat.zero_le _) rfl rfl (fun _ _ => Nat.zero_le _) (fun _ _ => rfl) (fun _ _ => rfl) ?_
  intro i hi J hJ
  have hqo := pens_olds.keep (p := p2) (x := o.sibs.take i) hco (.inl (by omega))
  have hqm := pens_olds.m p2 (o.sibs.take i)
  generalize hq : p2.olds (o.sibs.take i) = q at *
  by_cases hil : i < o.sibs.length
  case neg =>
    have hi2 : i = o.sibs.length := by omega
    rw [hi2, List.take_length] at hq
    rw [hq]
    focus (have kxs := kx0; have kk1 := uN [1] (ref02_End q.b q.m q.e); (repeat' (first | refine G ?_ | refine AW.ret ?_ | (refine GC ?_ ?_ <;> intro h <;> (try simp only [hsB] at h) <;> try exact xf) | (refine GL ?_ ?_ <;> intro h <;> (try simp only [hsN] at h) <;> (try simp only [h]) <;> (try simp only [hsB] at h) <;> try exact xf) | fail)); all_goals clear kxs kk1)
    all_goals first | exact RetQ.fr 0 | exact RetQ.fn 0 | (exfalso; simp_all; done)
  obtain ⟨x, r, hd⟩ := next_at hil
  have hcd := oss_drop hd
  have hn2 : p2.olds (o.sibs.take (i + 1)) = q.os1 x := by rw [next_take hd, Pe.olds_snoc, hq]
  have hfx := ho.2.2 x (next_mem hd)
  have hvo := pens_vec.keep (p := q) (x := x.clk) hqo (.inl (by omega))
  have hvm := pens_vec.m q x.clk
  generalize hv0 : q.vec x.clk = q1 at *
  have hv' : Pe.vec ⟨q.b, q.m, q.e⟩ x.clk = q1 := hv0
  have hfo := pens_flag.keep (p := q1) (x := x.dead) hvo (.inl (by omega))
  have hfm := pens_flag.m q1 x.dead
  generalize hf0 : q1.flag x.dead = q2 at *
  have hf' : Pe.flag ⟨q1.b, q1.m, q1.e⟩ x.dead = q2 := hf0
  have hos : q.os1 x = q2.blob 32768 x.val := by unfold Pe.os1; rw [hv0, hf0]
  focus (have kxs := And.intro hcd (And.intro hv' hf'); have kk1 := uN [1] (ref11_Put q.b q.m q.e hqo x.clk hfx.1 (.inl (by omega))); have kk2 := uN [1] (ref06_PutFlag q1.b q1.m q1.e hvo x.dead (.inl (by omega))); have kk3 := uN [1] (ref06_Put q2.b x.val q2.m q2.e 32768 hfo (Nat.le_trans (hparts x (next_mem hd)).2.1 (by decide)) (.inl (by omega))); (repeat' (first | refine G ?_ | refine AW.ret ?_ | (refine GC ?_ ?_ <;> intro h <;> (try simp only [hsB] at h) <;> try exact xf) | (refine GL ?_ ?_ <;> intro h <;> (try simp only [hsN] at h) <;> (try simp only [h]) <;> (try simp only [hsB] at h) <;> try exact xf) | fail)); all_goals clear kxs kk1 kk2 kk3)
  all_goals first | (refine hJ (i + 1) _ _ (by omega) hil rfl ?_; rw [hn2, hos]; rfl) | (exfalso; simp_all; done)
end Go.AW
/-
  objects that are read: the program's.
-/
namespace Go.AW
open Go Go.Proofs
set_option maxHeartbeats 2000000
set_option maxRecDepth 10000
set_option linter.unusedSimpArgs false
set_option linter.unusedVariables false
attribute [local irreducible] thenQ blockQ RetQ AL AW AC AOp

theorem Sb.fits_of {x : Sb} (hg : gsib x) : x.fits := by
  obtain ⟨h1, h2, h3⟩ := Sb.check_parts hg.1
  have hv := Vec.check_len (Ck.check_parts h1).1
  have hp := Prs.check_len h2
  exact ⟨⟨⟨by omega, fun x hx => Nat.le_trans (hv.2 x hx) (by decide), hg.2.1⟩, Nat.le_trans (Ck.dot_len h1) (by decide), hg.2.2⟩, ⟨by omega, fun x hx => Nat.le_trans (hp.2 x hx).1 (by decide), fun x hx => Nat.le_trans (hp.2 x hx).2 (by decide)⟩, by omega⟩
abbrev jnext (_ : List UInt8) (x : Sb) : List UInt8 := eclk x.clk
theorem sbs_snoc (l : List Sb) (x : Sb) : sbsD l ++ [.l x.clk.ctx.length (vecD x.clk.ctx), .s (.bool x.clk.dotted), .s (.string ⟨x.clk.dot.1.toArray⟩), .s (.int .u64 x.clk.dot.2), .l x.meta_.length (prsD x.meta_), .s (.bool x.dead), .s (.string ⟨x.val.toArray⟩)] = sbsD (l ++ [x]) := by
  simp only [sbsD, List.map_append, List.flatten_append, List.map_cons, List.map_nil, List.flatten_cons, List.flatten_nil, List.append_nil]; rfl
theorem obj_eq {c : Cu} {key : List UInt8} {c1 q1 c2 q2 : Cu} {n : Nat} (hb : Cu.blob c 128 = (key, c1)) (h1 : gd (decide (key ≠ [])) 14 c1 = q1) (hn : q1.count 16 = (n, c2)) (h2 : gd (decide (n ≠ 0)) 7 c2 = q2) :
    Cu.obj c = (if (Cu.objs n [] q2).2.e ≠ 0 then oj0 else ⟨key, (Cu.objs n [] q2).1⟩, (Cu.objs n [] q2).2) := by
  have e1 : Cu.okey c = (key, q1) := by unfold Cu.okey; rw [hb, ← h1]
  have e2 : q1.ocnt = (n, q2) := by unfold Cu.ocnt; rw [hn, ← h2]
  unfold Cu.obj Cu.obj0 rseq
  rw [e1]
  simp only
  unfold Cu.objl
  rw [e2]
/-- The sibling ahead, of a list that is being read. -/
def Slast (l : List Sb) (p : List UInt8) : Prop := (l = [] ∧ p = []) ∨ (0 < l.length ∧ ∃ y r, l.drop (l.length - 1) = y :: r ∧ gsib y ∧ skey y = p)
theorem Slast.snoc (l : List Sb) {x : Sb} (h : gsib x) : Slast (l ++ [x]) (skey x) := .inr ⟨by simp, x, [], by simp, h, rfl⟩
abbrev Jfam := Fam Cu.os2 jnext
/-- The next sibling, whatever it is. -/
theorem os2_step {p : List UInt8} {c c1 : Cu} {x : Sb} (h : c.sib = (x, c1)) : Cu.os2 p c = (x, gd (lessB p (skey x)) 6 c1) := by unfold Cu.os2; rw [h]

theorem object_Take (c0 : Cu) (h0 : c0.Ok) : AC Tryz.prog 306 [.p 0 0] [Cu.ob c0] fun x σ => x = ojV c0.obj.1 ∧ σ = [Cu.ob c0.obj.2] := by
  refine AC.walk Tryz.func306 rfl (by decide) (of_decide_eq_true rfl) ?_
  have hok1 := Cu.blob_ok (max := 128) h0
  cases hb : Cu.blob c0 128 with
  | mk key c1 =>
  have hb' : Cu.blob ⟨c0.s, c0.a, c0.e⟩ 128 = (key, c1) := hb
  rw [hb] at hok1
  obtain ⟨q1, hq1⟩ : ∃ q, gd (decide (key ≠ [])) 14 c1 = q := ⟨_, rfl⟩
  have hok2 : q1.Ok := by rw [← hq1]; exact gd_ok hok1
  have hok3 := Cu.count_ok (max := 16) hok2
  cases hn : q1.count 16 with
  | mk n c2 =>
  rw [hn] at hok3
  have hn' : Cu.count ⟨q1.s, q1.a, q1.e⟩ 16 = (n, c2) := hn
  have hnl : n ≤ 16 := by have := Cu.count_max q1 16; rw [hn] at this; exact this
  obtain ⟨q2, hq2⟩ : ∃ q, gd (decide (n ≠ 0)) 7 c2 = q := ⟨_, rfl⟩
  have hok4 : q2.Ok := by rw [← hq2]; exact gd_ok hok3
  have hobj := obj_eq hb hq1 hn hq2
  rw [hobj]
  clear hobj
  have k1 : (key = [] ∧ Cu.fail ⟨c1.s, c1.a, c1.e⟩ 14 = q1) ∨ (key ≠ [] ∧ c1 = q1) := by
    by_cases hk : key = []
    · exact .inl ⟨hk, by rw [← hq1, hk]; rfl⟩
    · exact .inr ⟨hk, by rw [← hq1]; unfold gd; rw [if_pos (by simpa using hk)]⟩
  have k2 : (n = 0 ∧ Cu.fail ⟨c2.s, c2.a, c2.e⟩ 7 = q2) ∨ (n ≠ 0 ∧ c2 = q2) := by
    by_cases hk : n = 0
    · exact .inl ⟨hk, by rw [← hq2, hk]; rfl⟩
    · exact .inr ⟨hk, by rw [← hq2]; unfold gd; rw [if_pos (by simpa using hk)]⟩
  clear hq1 hq2
  rcases k1 with ⟨hk, h1⟩ | ⟨hk, h1⟩ <;> rcases k2 with ⟨hn0, h2⟩ | ⟨hn0, h2⟩
  all_goals
    focus (have kxs := And.intro hb' (And.intro h1 (And.intro hn' h2)); have kk1 := uN [0] (blob_Take c0.s c0.a c0.e 128 h0 (by decide)); have kud1 := fun za zb zc zd => uN [0] (cursor_Fail za zb zc zd); have kk2 := uN [0] (blob_Count q1.s q1.a q1.e 16 hok2 (by decide)); (repeat' (first | (refine ADr.nil ?_; try clear hgv) | refine GO ?_ | refine AW.ret ?_ | (refine GC ?_ ?_ <;> intro h <;> (try simp only [hsB] at h) <;> try exact xf) | (refine GD ?_ ?_ <;> intro h <;> (try intro hgv) <;> (try simp only [hsN] at h) <;> (try simp only [h]) <;> (try simp only [hsB] at h) <;> try exact xf) | (refine GL ?_ ?_ <;> intro h <;> (try simp only [hsN] at h) <;> (try simp only [h]) <;> (try simp only [hsB] at h) <;> try exact xf) | fail)); all_goals clear kxs kk1 kud1 kk2)
    all_goals first | (exfalso; exact hk (by assumption)) | (exfalso; omega) | (exfalso; simp_all; done) | skip
    refine AW.birth 169 7 [] [(2, 1)] ?_
    refine AW.rounds [0, 2, 3, 4] (fun x : List Sb × List UInt8 × Cu => [(0, .p 0 0), (2, .p 1 0), (3, .p 2 0), (4, iv .i64 n)])
      (fun x => [Cu.ob x.2.2, .box 26 [sv (bs []), .d (.s (.slice none 0 0))], .box 26 [sv (bs key), .o 3 x.1.length], .row 169 7 x.1.length (sbsD x.1)])
      (fun x => x.2.2.Ok ∧ (x.2.2.e = 0 → Slast x.1 x.2.1) ∧ Jfam n [] q2 x.1 x.2.1 x.2.2) (fun x => n - x.1.length) ([], [], q2) ⟨hok4, fun _ => .inl ⟨rfl, rfl⟩, Fam.start n [] q2⟩ rfl (by subst h2; rfl) (fun _ _ => Nat.le_of_ble_eq_true rfl) (fun _ _ => rfl) (fun _ _ => rfl) ?_
    clear h1 h2 hb hb' hn hn' hn0 hk hok1 hok2 hok3 hok4
    rintro ⟨out, p, c⟩ ⟨hok, hlast, hf⟩ J hJ
    simp only at hok hlast hf ⊢
    by_cases hce : c.e = 0
    case neg =>
      have hbad : (Cu.objs n [] q2).2 = c := Fam.bad (fun k c h => (trip_os2 k).stuck c h) hf hce
      rw [hbad, if_pos hce]
      focus (have kxs := kx0; have kk1 := uN [0] (cursor_Err c.s c.a c.e); (repeat' (first | (refine ADr.nil ?_; try clear hgv) | refine GO ?_ | refine AW.ret ?_ | (refine GC ?_ ?_ <;> intro h <;> (try simp only [hsB] at h) <;> try exact xf) | (refine GD ?_ ?_ <;> intro h <;> (try intro hgv) <;> (try simp only [hsN] at h) <;> (try simp only [h]) <;> (try simp only [hsB] at h) <;> try exact xf) | (refine GL ?_ ?_ <;> intro h <;> (try simp only [hsN] at h) <;> (try simp only [h]) <;> (try simp only [hsB] at h) <;> try exact xf) | fail)); all_goals clear kxs kk1)
      all_goals first | (((all_goals first | refine RetQ.r 1 rfl (Nat.le_of_ble_eq_true rfl) rfl (by first | rfl | (simp only [go_sem, ↓reduceIte, Nat.reduceLT, Nat.lt_irrefl])) ⟨?_, ?_⟩ | refine RetQ.n 1 rfl (Nat.le_of_ble_eq_true rfl) rfl (by first | rfl | (simp only [go_sem, ↓reduceIte, Nat.reduceLT, Nat.lt_irrefl])) ⟨?_, ?_⟩); (all_goals first | rfl | (simp [oj0, *]; done) | ((simp only [go_sem, ↓reduceIte, Nat.reduceLT, oj0]; (repeat' split)) <;> first | rfl | (exfalso; omega) | (simp_all; done) | (simp_all; omega)))); done) | (exfalso; simp_all; done)
    by_cases hlen : out.length < n
    case neg =>
      have hdone : Cu.objs n [] q2 = (out, c) := Fam.done hf hce hlen
      rw [hdone]
      simp only
      rw [if_neg (by simpa using hce)]
      focus (have kxs := kx0; have kk1 := uN [0] (cursor_Err c.s c.a c.e); (repeat' (first | (refine ADr.nil ?_; try clear hgv) | refine GO ?_ | refine AW.ret ?_ | (refine GC ?_ ?_ <;> intro h <;> (try simp only [hsB] at h) <;> try exact xf) | (refine GD ?_ ?_ <;> intro h <;> (try intro hgv) <;> (try simp only [hsN] at h) <;> (try simp only [h]) <;> (try simp only [hsB] at h) <;> try exact xf) | (refine GL ?_ ?_ <;> intro h <;> (try simp only [hsN] at h) <;> (try simp only [h]) <;> (try simp only [hsB] at h) <;> try exact xf) | fail)); all_goals clear kxs kk1)
      all_goals first | (((all_goals first | refine RetQ.r 1 (xs := [.a [sv (bs key), .o 3 out.length]]) rfl (Nat.le_of_ble_eq_true rfl) rfl (by first | rfl | (simp only [go_sem, ↓reduceIte, Nat.reduceLT, Nat.lt_irrefl])) ⟨?_, ?_⟩ | refine RetQ.n 1 (xs := [.a [sv (bs key), .o 3 out.length]]) rfl (Nat.le_of_ble_eq_true rfl) rfl (by first | rfl | (simp only [go_sem, ↓reduceIte, Nat.reduceLT, Nat.lt_irrefl])) ⟨?_, ?_⟩); (all_goals first | rfl | (simp [*]; done) | ((simp only [go_sem, ↓reduceIte, Nat.reduceLT]; (repeat' split)) <;> first | rfl | (exfalso; omega) | (simp_all; done) | (simp_all; omega)))); done) | (exfalso; simp_all; done)
    have hstep := Fam.step hf hce hlen
    have hg1 := Cu.sib_ok hok
    have hbk := trip_sib.back c
    cases hv : c.sib with
    | mk x g1 =>
    rw [hv] at hg1 hbk
    have hv' : Cu.sib ⟨c.s, c.a, c.e⟩ = (x, g1) := hv
    simp only at hg1 hbk
    rw [os2_step hv] at hstep
    have hsn := sbs_snoc out x
    have hln : (out ++ [x]).length = out.length + 1 := by simp
    have hlast := hlast hce
    by_cases hge : g1.e = 0
    case neg =>
      rw [gd_stuck hge] at hstep
      focus (have kxs := hv; have kk1 := uN [0] (sibling_Take c hok); have kuc1 := fun za zb zc => uN [0] (cursor_Err za zb zc); (repeat' (first | (refine ADr.nil ?_; try clear hgv) | refine GO ?_ | refine AW.ret ?_ | (refine GC ?_ ?_ <;> intro h <;> (try simp only [hsB] at h) <;> try exact xf) | (refine GD ?_ ?_ <;> intro h <;> (try intro hgv) <;> (try simp only [hsN] at h) <;> (try simp only [h]) <;> (try simp only [hsB] at h) <;> try exact xf) | (refine GL ?_ ?_ <;> intro h <;> (try simp only [hsN] at h) <;> (try simp only [h]) <;> (try simp only [hsB] at h) <;> try exact xf) | fail)); all_goals clear kxs kk1 kuc1)
      all_goals first | (refine hJ (out ++ [x], skey x, g1) _ _ (by simp only [hln]; omega) ⟨hg1, fun h => absurd h hge, hstep⟩ rfl ?_; simp only [← hsn, hln]; rfl) | (exfalso; simp_all; done)
    have hgx := (hbk hge).1
    have hfx := Sb.fits_of hgx
    have hnl : Slast (out ++ [x]) (skey x) := Slast.snoc out hgx
    rcases hlast with ⟨rfl, rfl⟩ | ⟨hlo, y, r, hyd, hgy, rfl⟩
    · rw [skey_first] at hstep
      have hgd : gd true 6 g1 = g1 := rfl
      rw [hgd] at hstep
      focus (have kxs := hv; have kk1 := uN [0] (sibling_Take c hok); have kuc1 := fun za zb zc => uN [0] (cursor_Err za zb zc); (repeat' (first | (refine ADr.nil ?_; try clear hgv) | refine GO ?_ | refine AW.ret ?_ | (refine GC ?_ ?_ <;> intro h <;> (try simp only [hsB] at h) <;> try exact xf) | (refine GD ?_ ?_ <;> intro h <;> (try intro hgv) <;> (try simp only [hsN] at h) <;> (try simp only [h]) <;> (try simp only [hsB] at h) <;> try exact xf) | (refine GL ?_ ?_ <;> intro h <;> (try simp only [hsN] at h) <;> (try simp only [h]) <;> (try simp only [hsB] at h) <;> try exact xf) | fail)); all_goals clear kxs kk1 kuc1)
      all_goals first | (refine hJ ([x], skey x, g1) _ _ (by simp only [List.length_cons, List.length_nil] at *; omega) ⟨hg1, fun _ => hnl, hstep⟩ rfl ?_; simp only [List.nil_append] at hsn; simp only [← hsn]; rfl) | (exfalso; simp_all; done)
    have hcd := sbs_drop hyd
    have hi1 : ((out.length : Int) - 1).toNat = out.length - 1 := by omega
    have htri := less_tri (skey x) (skey y)
    have hfy := Sb.fits_of hgy
    by_cases hls : lessB (skey y) (skey x) = true
    · have hls' : Op.bytesLess (skey y) (skey x) = true := hls
      rw [hls] at hstep
      have hgd : gd true 6 g1 = g1 := rfl
      rw [hgd] at hstep
      focus (have kxs := And.intro hv (And.intro hcd (And.intro hi1 (And.intro htri hls'))); have kk1 := uN [0] (sibling_Take c hok); have kuc1 := fun za zb zc => uN [0] (cursor_Err za zb zc); have kk2 := uN [] (object_key x hfx hgx.1); have kk3 := uN [] (object_key y hfy hgy.1); (repeat' (first | (refine ADr.nil ?_; try clear hgv) | refine GO ?_ | refine AW.ret ?_ | (refine GC ?_ ?_ <;> intro h <;> (try simp only [hsB] at h) <;> try exact xf) | (refine GD ?_ ?_ <;> intro h <;> (try intro hgv) <;> (try simp only [hsN] at h) <;> (try simp only [h]) <;> (try simp only [hsB] at h) <;> try exact xf) | (refine GL ?_ ?_ <;> intro h <;> (try simp only [hsN] at h) <;> (try simp only [h]) <;> (try simp only [hsB] at h) <;> try exact xf) | fail)); all_goals clear kxs kk1 kuc1 kk2 kk3)
      all_goals first | (refine hJ (out ++ [x], skey x, g1) _ _ (by simp only [hln]; omega) ⟨hg1, fun _ => hnl, hstep⟩ rfl ?_; simp only [← hsn, hln]; rfl) | (exfalso; simp_all; done)
    · have hls : lessB (skey y) (skey x) = false := by simpa using hls
      have hls' : Op.bytesLess (skey y) (skey x) = false := hls
      rw [hls] at hstep
      have hgd : gd false 6 g1 = g1.fail 6 := rfl
      rw [hgd] at hstep
      focus (have kxs := And.intro hv (And.intro hcd (And.intro hi1 (And.intro htri hls'))); have kk1 := uN [0] (sibling_Take c hok); have kuc1 := fun za zb zc => uN [0] (cursor_Err za zb zc); have kk2 := uN [] (object_key x hfx hgx.1); have kk3 := uN [] (object_key y hfy hgy.1); have kk4 := uN [0] (cursor_Fail g1.s g1.a g1.e 6); (repeat' (first | (refine ADr.nil ?_; try clear hgv) | refine GO ?_ | refine AW.ret ?_ | (refine GC ?_ ?_ <;> intro h <;> (try simp only [hsB] at h) <;> try exact xf) | (refine GD ?_ ?_ <;> intro h <;> (try intro hgv) <;> (try simp only [hsN] at h) <;> (try simp only [h]) <;> (try simp only [hsB] at h) <;> try exact xf) | (refine GL ?_ ?_ <;> intro h <;> (try simp only [hsN] at h) <;> (try simp only [h]) <;> (try simp only [hsB] at h) <;> try exact xf) | fail)); all_goals clear kxs kk1 kuc1 kk2 kk3 kk4)
      all_goals first | (refine hJ (out ++ [x], skey x, g1.fail 6) _ _ (by simp only [hln]; omega) ⟨hg1, fun h => absurd h (Cu.fail_e (by decide)), hstep⟩ rfl ?_; simp only [← hsn, hln]; rfl) | (exfalso; simp_all; done)
end Go.AW
/-
  right pages: the program's and the document's.
-/
namespace Go.AW
open Go Go.Proofs
set_option maxHeartbeats 2000000
set_option maxRecDepth 10000
set_option linter.unusedSimpArgs false
set_option linter.unusedVariables false
attribute [local irreducible] thenQ blockQ RetQ AL AW AC AOp

/-- What is left of a page's items and slots to be looked at. -/
def Pg.rest (g : Pg) : Int := if itcheck g.pre none g.items ≠ 0 then itcheck g.pre none g.items else slcheck none g.slots
def sl1 (p : Option Nat) (x : Sl) : Int := if after p x.1 = false then 6 else if x.2.length ≠ 32 then 1 else 0
theorem slcheck_step {p : Option Nat} {x : Sl} {r : List Sl} {R : Int} (h : slcheck p (x :: r) = R) : (after p x.1 = false → R = 6) ∧ (after p x.1 = true → (¬ x.2.length = 32 → R = 1) ∧ (x.2.length = 32 → slcheck (some x.1) r = R)) := by
  unfold slcheck at h
  refine ⟨fun h1 => ?_, fun h1 => ⟨fun h2 => ?_, fun h2 => ?_⟩⟩
  · rw [if_pos h1] at h; exact h.symm
  · rw [if_neg (by rw [h1]; decide), if_pos h2] at h; exact h.symm
  · rw [if_neg (by rw [h1]; decide), if_neg (fun h3 => h3 h2)] at h; exact h
end Go.AW
