/-
  pages that are read: the program's.
-/
import Derived.Test.YtdjeilbhdleopaaGreatP08
set_option linter.unusedVariables false
set_option linter.unusedSimpArgs false
set_option maxHeartbeats 4000000
set_option maxRecDepth 10000
namespace Go.AW
open Go Go.Proofs
attribute [local irreducible] thenQ blockQ RetQ AL AW AC AOp
section
variable {α κ : Type} {R : κ → Cu → α × Cu} {next : κ → α → κ}
def Cu.manyg {α κ : Type} (R : κ → Cu → α × Cu) (next : κ → α → κ) : Nat → κ → Cu → List α × Cu
  | 0, _, c => ([], c)
  | n + 1, k, c => if c.e ≠ 0 then ([], c) else ((R k c).1 :: (Cu.manyg R next n (next k (R k c).1) (R k c).2).1, (Cu.manyg R next n (next k (R k c).1) (R k c).2).2)
theorem manyg_stuck {c : Cu} (h : c.e ≠ 0) (k : κ) : ∀ n, Cu.manyg R next n k c = ([], c)
  | 0 => rfl
  | n + 1 => by unfold Cu.manyg; rw [if_pos h]
theorem manyg_many (hst : ∀ k c, c.e ≠ 0 → (R k c).2 = c) : ∀ (n : Nat) (k : κ) (c : Cu), (Cu.manyg R next n k c).2 = (Cu.many R next n k c).2 ∧ ((Cu.many R next n k c).2.e = 0 → (Cu.manyg R next n k c).1 = (Cu.many R next n k c).1)
  | 0, k, c => ⟨rfl, fun _ => rfl⟩
  | n + 1, k, c => by
    by_cases h : c.e = 0
    · unfold Cu.manyg
      rw [if_neg (by simpa using h)]
      obtain ⟨h1, h2⟩ := manyg_many hst n (next k (R k c).1) (R k c).2
      exact ⟨h1, fun h3 => by
        show _ :: _ = _ :: _
        rw [h2 h3]⟩
    · rw [manyg_stuck h]
      have hs : (Cu.many R next (n + 1) k c).2 = c := Cu.many_stuck hst _ _ _ h
      exact ⟨hs.symm, fun h2 => by rw [hs] at h2; exact absurd h2 h⟩
end
def lastK (l : List It) : Option (List UInt8) := l.getLast?.map Prod.fst
def lastS (l : List Sl) : Option Nat := l.getLast?.map Prod.fst
theorem bytes_le (c : Cu) (n : Nat) : (c.bytes n).1.length ≤ n := by
  unfold Cu.bytes
  split
  · simp
  split
  · simp
  split
  · simp
  · simp only [List.length_take]; omega
theorem its_last {l : List It} (h : 0 < l.length) : ∃ y : It, lastK l = some y.1 ∧ (itsD l).drop ((l.length - 1) * 2) = [.s (.string ⟨y.1.toArray⟩), .s (.string ⟨y.2.toArray⟩)] ∧ y ∈ l := by
  obtain ⟨y, r, hd⟩ := next_at (l := l) (i := l.length - 1) (by omega)
  have hr : r = [] := by
    have := congrArg List.length hd
    simp only [List.length_drop, List.length_cons] at this
    exact List.length_eq_zero_iff.1 (by omega)
  subst hr
  refine ⟨y, ?_, its_drop hd, next_mem hd⟩
  have hg : l.getLast? = some y := by
    rw [← List.take_append_drop (l.length - 1) l, hd, List.getLast?_append]
    simp
  unfold lastK
  rw [hg]; rfl
theorem sls_last {l : List Sl} (h : 0 < l.length) : ∃ y : Sl, lastS l = some y.1 ∧ (slsD l).drop ((l.length - 1) * 2) = [.s (.int .u8 (y.1 : Nat)), .s (.string ⟨y.2.toArray⟩)] ∧ y ∈ l := by
  obtain ⟨y, r, hd⟩ := next_at (l := l) (i := l.length - 1) (by omega)
  have hr : r = [] := by
    have := congrArg List.length hd
    simp only [List.length_drop, List.length_cons] at this
    exact List.length_eq_zero_iff.1 (by omega)
  subst hr
  refine ⟨y, ?_, sls_drop hd, next_mem hd⟩
  have hg : l.getLast? = some y := by
    rw [← List.take_append_drop (l.length - 1) l, hd, List.getLast?_append]
    simp
  unfold lastS
  rw [hg]; rfl
theorem lastK_snoc (l : List It) (x : It) : lastK (l ++ [x]) = some x.1 := by unfold lastK; simp
theorem lastS_snoc (l : List Sl) (x : Sl) : lastS (l ++ [x]) = some x.1 := by unfold lastS; simp
theorem lastK_nil {l : List It} (h : ¬ 0 < l.length) : lastK l = none := by
  obtain rfl := List.length_eq_zero_iff.1 (show l.length = 0 by omega); rfl
theorem lastS_nil {l : List Sl} (h : ¬ 0 < l.length) : lastS l = none := by
  obtain rfl := List.length_eq_zero_iff.1 (show l.length = 0 by omega); rfl
def Cu.itemsg (pre : List UInt8) (c : Cu) : List It × Cu := Cu.manyg (Cu.item pre) (fun _ x => some x.1) (c.count 8).1 none (c.count 8).2
theorem itemsg_items (pre : List UInt8) (c : Cu) : (c.itemsg pre).2 = (c.items pre).2 ∧ ((c.items pre).2.e = 0 → c.itemsg pre = c.items pre) := by
  obtain ⟨h1, h2⟩ := manyg_many (R := Cu.item pre) (next := fun _ x => some x.1) (fun k c h => (trip_item pre k).stuck c h) (c.count 8).1 none (c.count 8).2
  exact ⟨h1, fun h => Prod.ext (h2 h) h1⟩
def Cu.slotsg (c : Cu) : List Sl × Cu := Cu.manyg Cu.slot (fun _ x => some x.1) c.count7.1 none c.count7.2
theorem slotsg_slots (c : Cu) : c.slotsg.2 = c.slots.2 ∧ (c.slots.2.e = 0 → c.slotsg = c.slots) := by
  obtain ⟨h1, h2⟩ := manyg_many (R := Cu.slot) (next := fun _ x => some x.1) (fun k c h => (trip_slot k).stuck c h) c.count7.1 none c.count7.2
  exact ⟨h1, fun h => Prod.ext (h2 h) h1⟩
theorem page_items (s : List UInt8) (a : Nat) (e : Int) (h : Cu.Ok ⟨s, a, e⟩) (pre : List UInt8) (hpre : pre.length ≤ 9223372036854775807) : AC Tryz.prog 291 [.p 0 0, sv (bs pre)] [Cu.ob ⟨s, a, e⟩] fun x σ => x = .d (.l (Cu.itemsg pre ⟨s, a, e⟩).1.length (itsD (Cu.itemsg pre ⟨s, a, e⟩).1)) ∧ σ = [Cu.ob (Cu.itemsg pre ⟨s, a, e⟩).2] := by
  refine AC.wk Tryz.func291 ?_
  have hlt : (Cu.count ⟨s, a, e⟩ 8).1 ≤ 8 := Cu.count_max ⟨s, a, e⟩ 8
  have hok0 := Cu.count_ok (max := 8) h
  generalize hR : Cu.itemsg pre ⟨s, a, e⟩ = R
  unfold Cu.itemsg at hR
  generalize hz : Cu.count ⟨s, a, e⟩ 8 = z at *
  obtain ⟨n, c0⟩ := z
  simp only at hlt hok0 hR
  obtain ⟨ts, cf⟩ := R
  simp only
  focus (have kxs := hz; have kk1 := uN [0] (blob_Count s a e 8 h (by decide)); (repeat' (first | (refine ADr.nil ?_; try clear hgv) | refine GO ?_ | refine AW.ret ?_ | (refine GC ?_ ?_ <;> intro h <;> (try simp only [hsB] at h) <;> try exact xf) | (refine GD ?_ ?_ <;> intro h <;> (try intro hgv) <;> (try simp only [hsN] at h) <;> (try simp only [h]) <;> (try simp only [hsB] at h) <;> try exact xf) | (refine GL ?_ ?_ <;> intro h <;> (try simp only [hsN] at h) <;> (try simp only [h]) <;> (try simp only [hsB] at h) <;> try exact xf) | fail)); all_goals clear kxs kk1)
  refine AW.birth 149 2 [6] [] ?_
  refine AW.rounds [0, 1, 4, 5, 6] (fun x : List It × Cu => [(0, .p 0 0), (1, sv (bs pre)), (4, .d (.s (.slice none 0 0))), (5, iv .i64 n), (6, .o 1 x.1.length)]) (fun x => [Cu.ob x.2, .row 149 2 x.1.length (itsD x.1)])
    (fun x => x.2.Ok ∧ x.1.length ≤ n ∧ (ts, cf) = (x.1 ++ (Cu.manyg (Cu.item pre) (fun _ x => some x.1) (n - x.1.length) (lastK x.1) x.2).1, (Cu.manyg (Cu.item pre) (fun _ x => some x.1) (n - x.1.length) (lastK x.1) x.2).2)) (fun x => n - x.1.length) ([], c0)
    ⟨hok0, Nat.zero_le _, hR.symm⟩ rfl rfl (fun _ _ => by show 1 ≤ 2; decide) (fun _ _ => rfl) (fun _ _ => rfl) ?_
  rintro ⟨out, c⟩ ⟨hok, hol, hR⟩ J hJ
  simp only at hok hol hR ⊢
  have herr := cursor_Err c.s c.a c.e
  by_cases hce : c.e = 0
  case neg =>
    rw [manyg_stuck hce, List.append_nil] at hR
    obtain ⟨rfl, rfl⟩ := Prod.mk.inj hR
    (have kk1 := uN [0] herr; exact Wd1)
  by_cases hlen : out.length < n
  case neg =>
    rw [show n - out.length = 0 by omega] at hR
    unfold Cu.manyg at hR
    rw [List.append_nil] at hR
    obtain ⟨rfl, rfl⟩ := Prod.mk.inj hR
    (have kk1 := uN [0] herr; exact Wd1)
  obtain ⟨m, hm⟩ : ∃ m, n - out.length = m + 1 := ⟨n - out.length - 1, by omega⟩
  rw [hm] at hR
  unfold Cu.manyg at hR
  rw [if_neg (by simpa using hce)] at hR
  have hbk := cursor_Bytes c.s c.a c.e 32 hok
  have hok1 : (Cu.bytes ⟨c.s, c.a, c.e⟩ 32).2.Ok := Cu.bytes_ok hok
  have hkl : (Cu.bytes ⟨c.s, c.a, c.e⟩ 32).1.length ≤ 32 := bytes_le _ 32
  have hit : Cu.item pre (lastK out) c = (((Cu.bytes ⟨c.s, c.a, c.e⟩ 32).1, (Cu.bytes (gd (afterL (lastK out) (Cu.bytes ⟨c.s, c.a, c.e⟩ 32).1) 6 (gd (begins (Cu.bytes ⟨c.s, c.a, c.e⟩ 32).1 pre) 18 (Cu.bytes ⟨c.s, c.a, c.e⟩ 32).2)) 32).1), (Cu.bytes (gd (afterL (lastK out) (Cu.bytes ⟨c.s, c.a, c.e⟩ 32).1) 6 (gd (begins (Cu.bytes ⟨c.s, c.a, c.e⟩ 32).1 pre) 18 (Cu.bytes ⟨c.s, c.a, c.e⟩ 32).2)) 32).2) := rfl
  rw [hit] at hR
  clear hit
  generalize Cu.bytes ⟨c.s, c.a, c.e⟩ 32 = z at *
  obtain ⟨k, c1⟩ := z
  simp only at hbk hok1 hkl hR
  have hpf := strings_HasPrefix k pre (by omega) hpre
  have hf18 := cursor_Fail c1.s c1.a c1.e 18
  have hf6 := cursor_Fail c1.s c1.a c1.e 6
  obtain ⟨q, hq⟩ : ∃ q, q = gd (afterL (lastK out) k) 6 (gd (begins k pre) 18 c1) := ⟨_, rfl⟩
  rw [← hq] at hR
  have hqo : q.Ok := by rw [hq]; exact gd_ok (gd_ok hok1)
  have hbh := cursor_Bytes q.s q.a q.e 32 hqo
  have hok2 : (Cu.bytes ⟨q.s, q.a, q.e⟩ 32).2.Ok := Cu.bytes_ok hqo
  have hqe : Cu.bytes q 32 = Cu.bytes ⟨q.s, q.a, q.e⟩ 32 := rfl
  rw [hqe] at hR
  generalize Cu.bytes ⟨q.s, q.a, q.e⟩ 32 = z at *
  obtain ⟨hh, c2⟩ := z
  simp only at hbh hok2 hR
  have go : ∀ T' σ', keepT T' [0, 1, 4, 5, 6] = [(0, .p 0 0), (1, sv (bs pre)), (4, .d (.s (.slice none 0 0))), (5, iv .i64 n), (6, .o 1 (out.length + 1))] → σ'.take 2 = [Cu.ob c2, .row 149 2 (out.length + 1) (itsD out ++ [D.s (.string ⟨k.toArray⟩), .s (.string ⟨hh.toArray⟩)])] → J T' σ' := fun T' σ' g1 g2 => by
    have hl : (out ++ [(k, hh)]).length = out.length + 1 := by simp
    refine hJ (out ++ [(k, hh)], c2) T' σ' (by simp only [hl]; omega) ⟨hok2, by simp only [hl]; omega, ?_⟩ (by simp only [hl]; exact g1) (by simp only [hl]; rw [← its_snoc]; exact g2)
    simp only [hl, lastK_snoc]
    rw [hR, show n - (out.length + 1) = m by omega]
    simp only [List.append_assoc, List.cons_append, List.nil_append]
  clear hJ hR
  have hlk : (out.length : Int) < n := by omega
  cases hb : begins k pre with
  | false =>
    rw [hb] at hpf hq
    have hq' : q = c1.fail 18 := by
      rw [hq]
      show gd _ 6 (c1.fail 18) = _
      exact gd_stuck (Cu.fail_e (by decide)) _ _
    clear hq
    subst hq'
    (have kk1 := uN [0] herr; have kk2 := uN [0] hbk; have kk3 := uN [] hpf; have kk4 := uN [0] hf18; have kk5 := uN [0] hbh; exact Wdg)
  | true =>
    rw [hb] at hpf hq
    have hq : q = gd (afterL (lastK out) k) 6 c1 := hq
    by_cases h0 : 0 < out.length
    · obtain ⟨y, hy1, hy2, hy3⟩ := its_last h0
      rw [hy1] at hq
      have hi1 : ((out.length : Int) - 1).toNat = out.length - 1 := by omega
      have htri := less_tri k y.1
      cases ha : lessB y.1 k with
      | false =>
        have ha' : Op.bytesLess y.1 k = false := ha
        have hq' : q = c1.fail 6 := by
          rw [hq]
          show gd (lessB y.1 k) 6 c1 = _
          rw [ha]; rfl
        clear hq
        subst hq'
        (have kxs := And.intro hi1 (And.intro hy2 (And.intro htri (And.intro ha' @Bool.not_not))); have kk1 := uN [0] herr; have kk2 := uN [0] hbk; have kk3 := uN [] hpf; have kk4 := uN [0] hf6; have kk5 := uN [0] hbh; exact Wdg)
      | true =>
        have ha' : Op.bytesLess y.1 k = true := ha
        have hq' : q = c1 := by
          rw [hq]
          show gd (lessB y.1 k) 6 c1 = _
          rw [ha]; rfl
        clear hq
        subst hq'
        (have kxs := And.intro hi1 (And.intro hy2 (And.intro htri (And.intro ha' @Bool.not_not))); have kk1 := uN [0] herr; have kk2 := uN [0] hbk; have kk3 := uN [] hpf; have kk4 := uN [0] hf6; have kk5 := uN [0] hbh; exact Wdg)
    · rw [lastK_nil h0] at hq
      have hq' : q = c1 := hq
      clear hq
      subst hq'
      (have kk1 := uN [0] herr; have kk2 := uN [0] hbk; have kk3 := uN [] hpf; have kk4 := uN [0] hf6; have kk5 := uN [0] hbh; exact Wdg)
theorem page_slots (s : List UInt8) (a : Nat) (e : Int) (h : Cu.Ok ⟨s, a, e⟩) : AC Tryz.prog 292 [.p 0 0] [Cu.ob ⟨s, a, e⟩] fun x σ => x = .d (.l (Cu.slotsg ⟨s, a, e⟩).1.length (slsD (Cu.slotsg ⟨s, a, e⟩).1)) ∧ σ = [Cu.ob (Cu.slotsg ⟨s, a, e⟩).2] := by
  refine AC.wk Tryz.func292 ?_
  have hlt : (Cu.count ⟨s, a, e⟩ 256).1 ≤ 256 := Cu.count_max ⟨s, a, e⟩ 256
  have hok0 := Cu.count_ok (max := 256) h
  generalize hR : Cu.slotsg ⟨s, a, e⟩ = R
  unfold Cu.slotsg Cu.count7 at hR
  have hct := blob_Count s a e 256 h (by decide)
  generalize Cu.count ⟨s, a, e⟩ 256 = z at *
  obtain ⟨n, c9⟩ := z
  simp only at hlt hok0 hR hct
  obtain ⟨c0, hc0⟩ : ∃ c0, c0 = gd (decide (n ≠ 0)) 7 c9 := ⟨_, rfl⟩
  rw [← hc0] at hR
  have hok0 : c0.Ok := by rw [hc0]; exact gd_ok hok0
  obtain ⟨ts, cf⟩ := R
  simp only
  have hf7 := cursor_Fail c9.s c9.a c9.e 7
  by_cases hn : n = 0
  case' pos =>
    have hc0' : c0 = c9.fail 7 := by rw [hc0, decide_eq_false (by simpa using hn)]; rfl
    clear hc0
    subst hc0'
    focus (have kk1 := uN [0] hct; have kk2 := uN [0] hf7; (repeat' (first | (refine ADr.nil ?_; try clear hgv) | refine GO ?_ | refine AW.ret ?_ | (refine GC ?_ ?_ <;> intro h <;> (try simp only [hsB] at h) <;> try exact xf) | (refine GD ?_ ?_ <;> intro h <;> (try intro hgv) <;> (try simp only [hsN] at h) <;> (try simp only [h]) <;> (try simp only [hsB] at h) <;> try exact xf) | (refine GL ?_ ?_ <;> intro h <;> (try simp only [hsN] at h) <;> (try simp only [h]) <;> (try simp only [hsB] at h) <;> try exact xf) | fail)); all_goals clear kk1 kk2)
    all_goals first | exact xg | skip
  case' neg =>
    have hc0' : c0 = c9 := by rw [hc0, decide_eq_true hn]; rfl
    clear hc0
    subst hc0'
    focus (have kk1 := uN [0] hct; have kk2 := uN [0] hf7; (repeat' (first | (refine ADr.nil ?_; try clear hgv) | refine GO ?_ | refine AW.ret ?_ | (refine GC ?_ ?_ <;> intro h <;> (try simp only [hsB] at h) <;> try exact xf) | (refine GD ?_ ?_ <;> intro h <;> (try intro hgv) <;> (try simp only [hsN] at h) <;> (try simp only [h]) <;> (try simp only [hsB] at h) <;> try exact xf) | (refine GL ?_ ?_ <;> intro h <;> (try simp only [hsN] at h) <;> (try simp only [h]) <;> (try simp only [hsB] at h) <;> try exact xf) | fail)); all_goals clear kk1 kk2)
    all_goals first | exact xg | skip
  all_goals
    clear hct hf7
    refine AW.birth 311 2 [4] [] ?_
    refine AW.rounds [0, 2, 3, 4] (fun x : List Sl × Cu => [(0, .p 0 0), (2, .d (.s (.slice none 0 0))), (3, iv .i64 n), (4, .o 1 x.1.length)]) (fun x => [Cu.ob x.2, .row 311 2 x.1.length (slsD x.1)])
      (fun x => x.2.Ok ∧ x.1.length ≤ n ∧ (ts, cf) = (x.1 ++ (Cu.manyg Cu.slot (fun _ x => some x.1) (n - x.1.length) (lastS x.1) x.2).1, (Cu.manyg Cu.slot (fun _ x => some x.1) (n - x.1.length) (lastS x.1) x.2).2)) (fun x => n - x.1.length) ([], _)
      ⟨hok0, Nat.zero_le _, hR.symm⟩ rfl rfl (fun _ _ => by show 1 ≤ 2; decide) (fun _ _ => rfl) (fun _ _ => rfl) ?_
    clear hR hok0
    rintro ⟨out, c⟩ ⟨hok, hol, hR⟩ J hJ
    simp only at hok hol hR ⊢
    have herr := cursor_Err c.s c.a c.e
    by_cases hce : c.e = 0
    case neg =>
      rw [manyg_stuck hce, List.append_nil] at hR
      obtain ⟨rfl, rfl⟩ := Prod.mk.inj hR
      (have kk1 := uN [0] herr; exact Wd1)
    by_cases hlen : out.length < n
    case neg =>
      rw [show n - out.length = 0 by omega] at hR
      unfold Cu.manyg at hR
      rw [List.append_nil] at hR
      obtain ⟨rfl, rfl⟩ := Prod.mk.inj hR
      (have kk1 := uN [0] herr; exact Wd1)
    obtain ⟨m, hm⟩ : ∃ m, n - out.length = m + 1 := ⟨n - out.length - 1, by omega⟩
    rw [hm] at hR
    unfold Cu.manyg at hR
    rw [if_neg (by simpa using hce)] at hR
    have hbk := cursor_Byte c.s c.a c.e hok
    have hok1 : (Cu.byte ⟨c.s, c.a, c.e⟩).2.Ok := Cu.byte_ok hok
    have hkl : (Cu.byte ⟨c.s, c.a, c.e⟩).1 < 256 := by unfold Cu.byte; exact (UInt8.toNat_lt _)
    have hit : Cu.slot (lastS out) c = (((Cu.byte ⟨c.s, c.a, c.e⟩).1, (Cu.bytes (gd (after (lastS out) (Cu.byte ⟨c.s, c.a, c.e⟩).1) 6 (Cu.byte ⟨c.s, c.a, c.e⟩).2) 32).1), (Cu.bytes (gd (after (lastS out) (Cu.byte ⟨c.s, c.a, c.e⟩).1) 6 (Cu.byte ⟨c.s, c.a, c.e⟩).2) 32).2) := rfl
    rw [hit] at hR
    clear hit
    generalize Cu.byte ⟨c.s, c.a, c.e⟩ = z at *
    obtain ⟨k, c1⟩ := z
    simp only at hbk hok1 hkl hR
    have hf6 := cursor_Fail c1.s c1.a c1.e 6
    obtain ⟨q, hq⟩ : ∃ q, q = gd (after (lastS out) k) 6 c1 := ⟨_, rfl⟩
    rw [← hq] at hR
    have hqo : q.Ok := by rw [hq]; exact gd_ok hok1
    have hbh := cursor_Bytes q.s q.a q.e 32 hqo
    have hok2 : (Cu.bytes ⟨q.s, q.a, q.e⟩ 32).2.Ok := Cu.bytes_ok hqo
    have hqe : Cu.bytes q 32 = Cu.bytes ⟨q.s, q.a, q.e⟩ 32 := rfl
    rw [hqe] at hR
    generalize Cu.bytes ⟨q.s, q.a, q.e⟩ 32 = z at *
    obtain ⟨hh, c2⟩ := z
    simp only at hbh hok2 hR
    have go : ∀ T' σ', keepT T' [0, 2, 3, 4] = [(0, .p 0 0), (2, .d (.s (.slice none 0 0))), (3, iv .i64 n), (4, .o 1 (out.length + 1))] → σ'.take 2 = [Cu.ob c2, .row 311 2 (out.length + 1) (slsD out ++ [D.s (.int .u8 (k : Nat)), .s (.string ⟨hh.toArray⟩)])] → J T' σ' := fun T' σ' g1 g2 => by
      have hl : (out ++ [(k, hh)]).length = out.length + 1 := by simp
      refine hJ (out ++ [(k, hh)], c2) T' σ' (by simp only [hl]; omega) ⟨hok2, by simp only [hl]; omega, ?_⟩ (by simp only [hl]; exact g1) (by simp only [hl]; rw [← sls_snoc]; exact g2)
      simp only [hl, lastS_snoc]
      rw [hR, show n - (out.length + 1) = m by omega]
      simp only [List.append_assoc, List.cons_append, List.nil_append]
    clear hJ hR
    have hlk : (out.length : Int) < n := by omega
    by_cases h0 : 0 < out.length
    · obtain ⟨y, hy1, hy2, hy3⟩ := sls_last h0
      rw [hy1] at hq
      have hi1 : ((out.length : Int) - 1).toNat = out.length - 1 := by omega
      by_cases ha : y.1 < k
      case neg =>
        have hq' : q = c1.fail 6 := by
          rw [hq]
          show gd (decide (y.1 < k)) 6 c1 = _
          rw [decide_eq_false ha]; rfl
        clear hq
        subst hq'
        (have kxs := And.intro hi1 hy2; have kk1 := uN [0] herr; have kk2 := uN [0] hbk; have kk3 := uN [0] hf6; have kk4 := uN [0] hbh; exact Wdg)
      case pos =>
        have hq' : q = c1 := by
          rw [hq]
          show gd (decide (y.1 < k)) 6 c1 = _
          rw [decide_eq_true ha]; rfl
        clear hq
        subst hq'
        (have kxs := And.intro hi1 hy2; have kk1 := uN [0] herr; have kk2 := uN [0] hbk; have kk3 := uN [0] hf6; have kk4 := uN [0] hbh; exact Wdg)
    · rw [lastS_nil h0] at hq
      have hq' : q = c1 := hq
      clear hq
      subst hq'
      (have kk1 := uN [0] herr; have kk2 := uN [0] hbk; have kk3 := uN [0] hf6; have kk4 := uN [0] hbh; exact Wdg)
theorem page_Take (s : List UInt8) (a : Nat) (e : Int) (h : Cu.Ok ⟨s, a, e⟩) : AC Tryz.prog 207 [.p 0 0] [Cu.ob ⟨s, a, e⟩] fun x σ => x = pgV (Cu.page ⟨s, a, e⟩).1 ∧ σ = [Cu.ob (Cu.page ⟨s, a, e⟩).2] := by
  refine AC.wk Tryz.func207 ?_
  have hbt := blob_Take s a e 31 h (by decide)
  have hok1 : (Cu.blob ⟨s, a, e⟩ 31).2.Ok := Cu.blob_ok h
  have hpl : (Cu.blob ⟨s, a, e⟩ 31).1.length ≤ 9223372036854775807 := by
    have h1 : (Cu.blob ⟨s, a, e⟩ 31).1.length ≤ (Cu.count ⟨s, a, e⟩ 31).1 := by unfold Cu.blob; exact bytes_le (Cu.count ⟨s, a, e⟩ 31).2 (Cu.count ⟨s, a, e⟩ 31).1
    have h2 := Cu.count_max ⟨s, a, e⟩ 31
    omega
  obtain ⟨R, hR⟩ : ∃ R, R = Cu.page ⟨s, a, e⟩ := ⟨_, rfl⟩
  rw [← hR]
  unfold Cu.page Cu.page1 Cu.page0 rseq at hR
  simp only at hR
  generalize Cu.blob ⟨s, a, e⟩ 31 = z at *
  obtain ⟨pre, c1⟩ := z
  simp only at hbt hok1 hpl hR
  have hft := blob_Flag c1.s c1.a c1.e hok1
  have hok2 : (Cu.flag ⟨c1.s, c1.a, c1.e⟩).2.Ok := Cu.flag_ok hok1
  have hfe : Cu.flag c1 = Cu.flag ⟨c1.s, c1.a, c1.e⟩ := rfl
  rw [hfe] at hR
  generalize Cu.flag ⟨c1.s, c1.a, c1.e⟩ = z at *
  obtain ⟨leaf, c2⟩ := z
  simp only at hft hok2 hR
  cases leaf with
  | true =>
    have hit := page_items c2.s c2.a c2.e hok2 pre hpl
    obtain ⟨i1, i2⟩ := itemsg_items pre ⟨c2.s, c2.a, c2.e⟩
    have hpb : Cu.pbody pre true c2 = (([], (Cu.items pre ⟨c2.s, c2.a, c2.e⟩).1), (Cu.items pre ⟨c2.s, c2.a, c2.e⟩).2) := rfl
    rw [hpb] at hR
    simp only at hR
    generalize Cu.items pre ⟨c2.s, c2.a, c2.e⟩ = y at *
    generalize Cu.itemsg pre ⟨c2.s, c2.a, c2.e⟩ = z at *
    obtain ⟨l, c3⟩ := y
    obtain ⟨l', c4⟩ := z
    simp only at hit i1 i2 hR
    subst i1
    have herr := cursor_Err c4.s c4.a c4.e
    by_cases hce : c4.e = 0
    · obtain ⟨rfl, _⟩ := Prod.mk.inj (i2 hce)
      rw [if_neg (by simpa using hce)] at hR
      rw [hR]
      (have kk1 := uN [0] hbt; have kk2 := uN [0] hft; have kk3 := uN [0] hit; have kk4 := uN [0] herr; exact Wc1)
    · rw [if_pos hce] at hR
      rw [hR]
      focus (have kk1 := uN [0] hbt; have kk2 := uN [0] hft; have kk3 := uN [0] hit; have kk4 := uN [0] herr; (repeat' (first | refine G ?_ | refine AW.ret ?_ | (refine GC ?_ ?_ <;> intro h <;> (try simp only [hsB] at h) <;> try exact xf) | (refine GL ?_ ?_ <;> intro h <;> (try simp only [hsN] at h) <;> (try simp only [h]) <;> (try simp only [hsB] at h) <;> try exact xf) | fail)); all_goals clear kk1 kk2 kk3 kk4)
      all_goals first | exact RetQ.fr 1 | exact RetQ.fn 1 | (((all_goals first | refine RetQ.yr 1 ⟨?_, ?_⟩ | refine RetQ.yn 1 ⟨?_, ?_⟩); (all_goals first | rfl | (simp [pg0, *]; done) | ((simp only [go_sem, ↓reduceIte, Nat.reduceLT, pg0]; (repeat' split)) <;> first | rfl | (exfalso; omega) | (simp_all; done) | (simp_all; omega)))); done) | exact xg
  | false =>
    have hit := page_slots c2.s c2.a c2.e hok2
    obtain ⟨i1, i2⟩ := slotsg_slots ⟨c2.s, c2.a, c2.e⟩
    have hpb : Cu.pbody pre false c2 = (((Cu.slots ⟨c2.s, c2.a, c2.e⟩).1, []), (Cu.slots ⟨c2.s, c2.a, c2.e⟩).2) := rfl
    rw [hpb] at hR
    simp only at hR
    generalize Cu.slots ⟨c2.s, c2.a, c2.e⟩ = y at *
    generalize Cu.slotsg ⟨c2.s, c2.a, c2.e⟩ = z at *
    obtain ⟨l, c3⟩ := y
    obtain ⟨l', c4⟩ := z
    simp only at hit i1 i2 hR
    subst i1
    have herr := cursor_Err c4.s c4.a c4.e
    by_cases hce : c4.e = 0
    · obtain ⟨rfl, _⟩ := Prod.mk.inj (i2 hce)
      rw [if_neg (by simpa using hce)] at hR
      rw [hR]
      (have kk1 := uN [0] hbt; have kk2 := uN [0] hft; have kk3 := uN [0] hit; have kk4 := uN [0] herr; exact Wc1)
    · rw [if_pos hce] at hR
      rw [hR]
      focus (have kk1 := uN [0] hbt; have kk2 := uN [0] hft; have kk3 := uN [0] hit; have kk4 := uN [0] herr; (repeat' (first | refine G ?_ | refine AW.ret ?_ | (refine GC ?_ ?_ <;> intro h <;> (try simp only [hsB] at h) <;> try exact xf) | (refine GL ?_ ?_ <;> intro h <;> (try simp only [hsN] at h) <;> (try simp only [h]) <;> (try simp only [hsB] at h) <;> try exact xf) | fail)); all_goals clear kk1 kk2 kk3 kk4)
      all_goals first | exact RetQ.fr 1 | exact RetQ.fn 1 | (((all_goals first | refine RetQ.yr 1 ⟨?_, ?_⟩ | refine RetQ.yn 1 ⟨?_, ?_⟩); (all_goals first | rfl | (simp [pg0, *]; done) | ((simp only [go_sem, ↓reduceIte, Nat.reduceLT, pg0]; (repeat' split)) <;> first | rfl | (exfalso; omega) | (simp_all; done) | (simp_all; omega)))); done) | exact xg
end Go.AW
