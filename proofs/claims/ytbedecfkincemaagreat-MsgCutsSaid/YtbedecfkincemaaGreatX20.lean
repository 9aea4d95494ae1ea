/-
  members that are read: the program's.
-/
import Derived.Test.YtbedecfkincemaaGreatX09
import Derived.Test.YtbedecfkincemaaGreatX13
import Derived.Test.YtbedecfkincemaaGreatX15
namespace Go.AW
open Go Go.Proofs
set_option maxHeartbeats 4000000
set_option maxRecDepth 10000
set_option linter.unusedSimpArgs false
set_option linter.unusedVariables false
attribute [local irreducible] thenQ blockQ RetQ AL AW AC AOp

/-- Tokens as far as they are read. -/
def Cu.tokg : Nat → Option Nat → Cu → List Nat × Cu
  | 0, _, c => ([], c)
  | n + 1, p, c => if c.e ≠ 0 then ([], c) else ((c.tok p).1 :: (Cu.tokg n (some (c.tok p).1) (c.tok p).2).1, (Cu.tokg n (some (c.tok p).1) (c.tok p).2).2)
theorem tokg_stuck {c : Cu} (h : c.e ≠ 0) (p : Option Nat) : ∀ n, Cu.tokg n p c = ([], c)
  | 0 => rfl
  | n + 1 => by unfold Cu.tokg; rw [if_pos h]
theorem tokg_toks : ∀ (n : Nat) (p : Option Nat) (c : Cu), (Cu.tokg n p c).2 = (Cu.toks n p c).2 ∧ ((Cu.toks n p c).2.e = 0 → (Cu.tokg n p c).1 = (Cu.toks n p c).1)
  | 0, p, c => ⟨rfl, fun _ => rfl⟩
  | n + 1, p, c => by
    by_cases h : c.e = 0
    · unfold Cu.tokg
      rw [if_neg (by simpa using h)]
      obtain ⟨h1, h2⟩ := tokg_toks n (some (c.tok p).1) (c.tok p).2
      exact ⟨h1, fun h3 => by
        show _ :: _ = _ :: _
        rw [h2 h3]; rfl⟩
    · rw [tokg_stuck h]
      have hs : (Cu.toks (n + 1) p c).2 = c := Cu.many_stuck (fun k c h => (trip_tok k).stuck c h) _ _ _ h
      exact ⟨hs.symm, fun h2 => by rw [hs] at h2; exact absurd h2 h⟩
/-- A member as far as it is read. -/
def Cu.memg (p : List UInt8) (c : Cu) : Mb × Cu :=
  (⟨(c.actor 32 p).1, (c.actor 32 p).2.vnz.1, (c.actor 32 p).2.vnz.2.stt.1, (Cu.tokg ((c.actor 32 p).2.vnz.2.stt.2.count 16).1 none ((c.actor 32 p).2.vnz.2.stt.2.count 16).2).1⟩,
   (Cu.tokg ((c.actor 32 p).2.vnz.2.stt.2.count 16).1 none ((c.actor 32 p).2.vnz.2.stt.2.count 16).2).2)
theorem memg_mem (p : List UInt8) (c : Cu) : (c.memg p).2 = (c.mem p).2 ∧ ((c.mem p).2.e = 0 → c.memg p = c.mem p) := by
  obtain ⟨h1, h2⟩ := tokg_toks ((c.actor 32 p).2.vnz.2.stt.2.count 16).1 none ((c.actor 32 p).2.vnz.2.stt.2.count 16).2
  refine ⟨h1, fun h => ?_⟩
  have h3 := h2 h
  unfold Cu.memg
  rw [h3, h1]; rfl
theorem rises_snoc : ∀ (l : List Nat) (p : Option Nat) (t : Nat), rises p (l ++ [t]) = (rises p l && after (match l.getLast? with | some q => some q | none => p) t)
  | [], p, t => by simp [rises]
  | x :: l, p, t => by
    have ih := rises_snoc l (some x) t
    show (after p x && rises (some x) (l ++ [t])) = _
    rw [ih]
    cases l with
    | nil => simp [rises]
    | cons y l =>
      rw [List.getLast?_cons_cons]
      show _ = ((after p x && rises (some x) (y :: l)) && _)
      rw [Bool.and_assoc]
      obtain ⟨z, hz⟩ := Option.isSome_iff_exists.1 (show ((y :: l).getLast?).isSome = true by simp)
      rw [hz]
theorem rises_snoc0 (l : List Nat) (t : Nat) (h : rises none l = true) : rises none (l ++ [t]) = after l.getLast? t := by
  rw [rises_snoc, h, Bool.true_and]
  cases l.getLast? <;> rfl
theorem toks_snoc (l : List Nat) (t : Nat) : toksD l ++ [D.s (.int .u64 (t : Nat))] = toksD (l ++ [t]) := by simp [toksD]
theorem rg_empty (p : List UInt8) (c : Cu) : gd (lessB p []) 6 (gd (decide (([] : List UInt8) ≠ [])) 14 c) = c.fail 14 := by
  have h1 : lessB p [] = false := less_nil p
  have h2 : decide (([] : List UInt8) ≠ []) = false := by simp
  rw [h1, h2]
  show Cu.fail (Cu.fail c 14) 6 = Cu.fail c 14
  refine Cu.fail_stuck ?_ 6
  exact Cu.fail_e (by decide)
theorem rg_order {p t : List UInt8} {c : Cu} (ht : t ≠ []) (h : lessB p t = false) : gd (lessB p t) 6 (gd (decide (t ≠ [])) 14 c) = c.fail 6 := by
  have h2 : decide (t ≠ []) = true := by simpa using ht
  rw [h, h2]; rfl
theorem rg_ok {p t : List UInt8} {c : Cu} (ht : t ≠ []) (h : lessB p t = true) : gd (lessB p t) 6 (gd (decide (t ≠ [])) 14 c) = c := by
  have h2 : decide (t ≠ []) = true := by simpa using ht
  rw [h, h2]; rfl
/-- What a member's name, epoch, state come to. -/
theorem mem_ways (p : List UInt8) (c : Cu) (hok : c.Ok) : ∃ t c1 q n c2 r b c3 u k c4, Cu.blob ⟨c.s, c.a, c.e⟩ 32 = (t, c1) ∧ Cu.vtake ⟨q.s, q.a, q.e⟩ = (n, c2) ∧ Cu.byte ⟨r.s, r.a, r.e⟩ = (b, c3) ∧ Cu.count ⟨u.s, u.a, u.e⟩ 16 = (k, c4) ∧
    q.Ok ∧ r.Ok ∧ u.Ok ∧ c4.Ok ∧ k ≤ 16 ∧ b < 256 ∧ n < 18446744073709551616 ∧
    ((t = [] ∧ q = c1.fail 14) ∨ (t ≠ [] ∧ lessB p t = false ∧ q = c1.fail 6) ∨ (t ≠ [] ∧ lessB p t = true ∧ q = c1)) ∧ ((n = 0 ∧ r = c2.fail 7) ∨ (n ≠ 0 ∧ r = c2)) ∧ ((3 < b ∧ u = c3.fail 13) ∨ (¬ 3 < b ∧ u = c3)) ∧
    c.memg p = (⟨t, n, b, (Cu.tokg k none c4).1⟩, (Cu.tokg k none c4).2) := by
  refine ⟨_, _, (c.actor 32 p).2, _, _, (c.actor 32 p).2.vnz.2, _, _, (c.actor 32 p).2.vnz.2.stt.2, _, _, rfl, rfl, rfl, rfl, Cu.actor_ok hok, Cu.vnz_ok (Cu.actor_ok hok), Cu.stt_ok (Cu.vnz_ok (Cu.actor_ok hok)), Cu.count_ok (Cu.stt_ok (Cu.vnz_ok (Cu.actor_ok hok))), ?_, ?_, ?_, ?_, ?_, ?_, rfl⟩
  · exact Cu.count_max _ 16
  · unfold Cu.byte; exact (UInt8.toNat_lt _)
  · exact Cu.vtake_lt _
  · show ((c.blob 32).1 = [] ∧ gd (lessB p (c.blob 32).1) 6 (gd (decide ((c.blob 32).1 ≠ [])) 14 (c.blob 32).2) = _) ∨ _ ∨ _
    by_cases h : (c.blob 32).1 = []
    · exact .inl ⟨h, by rw [h]; exact rg_empty p _⟩
    · cases h2 : lessB p (c.blob 32).1 with
      | false => exact .inr (.inl ⟨h, rfl, by show gd (lessB p (c.blob 32).1) 6 (gd (decide ((c.blob 32).1 ≠ [])) 14 (c.blob 32).2) = _; rw [rg_order h h2]⟩)
      | true => exact .inr (.inr ⟨h, rfl, by show gd (lessB p (c.blob 32).1) 6 (gd (decide ((c.blob 32).1 ≠ [])) 14 (c.blob 32).2) = _; rw [rg_ok h h2]⟩)
  · generalize (c.actor 32 p).2 = q
    show (q.vtake.1 = 0 ∧ gd (decide (q.vtake.1 ≠ 0)) 7 q.vtake.2 = _) ∨ _
    by_cases h : q.vtake.1 = 0
    · exact .inl ⟨h, by rw [h]; rfl⟩
    · exact .inr ⟨h, by show gd (decide (q.vtake.1 ≠ 0)) 7 q.vtake.2 = _; rw [decide_eq_true h]; rfl⟩
  · generalize (c.actor 32 p).2.vnz.2 = r
    show (3 < r.byte.1 ∧ gd (decide (r.byte.1 ≤ 3)) 13 r.byte.2 = _) ∨ _
    by_cases h : 3 < r.byte.1
    · exact .inl ⟨h, by rw [decide_eq_false (by omega)]; rfl⟩
    · exact .inr ⟨h, by show gd (decide (r.byte.1 ≤ 3)) 13 r.byte.2 = _; rw [decide_eq_true (by omega)]; rfl⟩

theorem ring_member (c : Cu) (hok : c.Ok) (p : List UInt8) (first : Bool) (hfp : first = true → p = []) : AC Tryz.prog 291 [.p 0 0, sv (bs p), bv first] [Cu.ob c] fun x σ => x = mbV (c.memg p).1 ∧ σ = [Cu.ob (c.memg p).2] := by
  refine AC.walk Tryz.func291 rfl (by decide) (of_decide_eq_true rfl) ?_
  obtain ⟨t, c1, q, n, c2, r, b, c3, u, k, c4, hb, hv, hby, hc, hqo, hro, huo, h4o, hk, hb2, hn2, w1, w2, w3, hm⟩ := mem_ways p c hok
  rw [hm]
  generalize hR : Cu.tokg k none c4 = R
  obtain ⟨ts, cf⟩ := R
  simp only
  have htri := less_tri t p
  have f1 : first = true → lessB p t = false → t = [] := fun h1 h2 => by
    cases hx : t with
    | nil => rfl
    | cons y z =>
      have h9 : lessB [] (y :: z) = true := less_nil_cons y z
      rw [hfp h1, hx, h9] at h2; cases h2
  have hbt := blob_Take c.s c.a c.e 32 hok (by decide)
  have hvt := varint_Take q.s q.a q.e hqo
  have hbyt := cursor_Byte r.s r.a r.e hro
  have hct := blob_Count u.s u.a u.e 16 huo (by decide)
  rw [hb] at hbt
  rw [hv] at hvt
  rw [hby] at hbyt
  rw [hc] at hct
  simp only at hbt hvt hbyt hct
  have hfa := fun f => cursor_Fail c1.s c1.a c1.e f
  have hfb := cursor_Fail c2.s c2.a c2.e 7
  have hfc := cursor_Fail c3.s c3.a c3.e 13
  clear hm hb hv hby hc hfp
  have h0R : (ts, cf) = ([] ++ (Cu.tokg (k - ([] : List Nat).length) ([] : List Nat).getLast? c4).1, (Cu.tokg (k - ([] : List Nat).length) ([] : List Nat).getLast? c4).2) := by
    rw [← hR]; rfl
  clear hR
  rcases w1 with ⟨a1, rfl⟩ | ⟨a1, a2, rfl⟩ | ⟨a1, a2, rfl⟩
  case' inl =>
    rcases w2 with ⟨a3, rfl⟩ | ⟨a3, rfl⟩ <;> rcases w3 with ⟨a4, rfl⟩ | ⟨a4, rfl⟩ <;>
    (focus (have kxs := kx0; have kk1 := uN [0] (hbt); have kk2 := uN [0] (hvt); have kk3 := uN [0] (hbyt); have kk4 := uN [0] (hct); have kk5 := uN [0] (hfa 14); have kk6 := uN [0] (hfb); have kk7 := uN [0] (hfc); (repeat' (first | (refine ADr.nil ?_; try clear hgv) | refine GW ?_ | refine AW.ret ?_ | (refine GC ?_ ?_ <;> intro h <;> (try simp only [hsB] at h) <;> try exact xf) | (refine GD ?_ ?_ <;> intro h <;> (try intro hgv) <;> (try simp only [hsN] at h) <;> (try simp only [h]) <;> (try simp only [hsB] at h) <;> try exact xf) | (refine GL ?_ ?_ <;> intro h <;> (try simp only [hsN] at h) <;> (try simp only [h]) <;> (try simp only [hsB] at h) <;> try exact xf) | fail)); all_goals clear kxs kk1 kk2 kk3 kk4 kk5 kk6 kk7))
  case' inr.inl =>
    have a2' : Op.bytesLess p t = false := a2
    obtain rfl : first = false := by
      cases first with
      | false => rfl
      | true => exact absurd (f1 rfl a2) a1
    rcases w2 with ⟨a3, rfl⟩ | ⟨a3, rfl⟩ <;> rcases w3 with ⟨a4, rfl⟩ | ⟨a4, rfl⟩ <;>
    (focus (have kxs := And.intro a1 (And.intro htri a2'); have kk1 := uN [0] (hbt); have kk2 := uN [0] (hvt); have kk3 := uN [0] (hbyt); have kk4 := uN [0] (hct); have kk5 := uN [0] (hfa 6); have kk6 := uN [0] (hfb); have kk7 := uN [0] (hfc); (repeat' (first | (refine ADr.nil ?_; try clear hgv) | refine GW ?_ | refine AW.ret ?_ | (refine GC ?_ ?_ <;> intro h <;> (try simp only [hsB] at h) <;> try exact xf) | (refine GD ?_ ?_ <;> intro h <;> (try intro hgv) <;> (try simp only [hsN] at h) <;> (try simp only [h]) <;> (try simp only [hsB] at h) <;> try exact xf) | (refine GL ?_ ?_ <;> intro h <;> (try simp only [hsN] at h) <;> (try simp only [h]) <;> (try simp only [hsB] at h) <;> try exact xf) | fail)); all_goals clear kxs kk1 kk2 kk3 kk4 kk5 kk6 kk7))
  case' inr.inr =>
    have a2' : Op.bytesLess p t = true := a2
    rcases w2 with ⟨a3, rfl⟩ | ⟨a3, rfl⟩ <;> rcases w3 with ⟨a4, rfl⟩ | ⟨a4, rfl⟩ <;>
    (focus (have kxs := And.intro a1 (And.intro htri a2'); have kk1 := uN [0] (hbt); have kk2 := uN [0] (hvt); have kk3 := uN [0] (hbyt); have kk4 := uN [0] (hct); have kk5 := uN [0] (hfb); have kk6 := uN [0] (hfc); (repeat' (first | (refine ADr.nil ?_; try clear hgv) | refine GW ?_ | refine AW.ret ?_ | (refine GC ?_ ?_ <;> intro h <;> (try simp only [hsB] at h) <;> try exact xf) | (refine GD ?_ ?_ <;> intro h <;> (try intro hgv) <;> (try simp only [hsN] at h) <;> (try simp only [h]) <;> (try simp only [hsB] at h) <;> try exact xf) | (refine GL ?_ ?_ <;> intro h <;> (try simp only [hsN] at h) <;> (try simp only [h]) <;> (try simp only [hsB] at h) <;> try exact xf) | fail)); all_goals clear kxs kk1 kk2 kk3 kk4 kk5 kk6))
  all_goals clear hbt hvt hbyt hct hfa hfb hfc f1 htri
  all_goals first | (exfalso; omega) | (exfalso; simp_all; done) | skip
  all_goals
    refine AW.birth 23 1 [] [(2, 3)] ?_
    refine AW.rounds [0, 6, 7, 8] (fun z : List Nat × Cu => [(0, .p 0 0), (6, .p 1 0), (7, .p 2 0), (8, iv .i64 k)])
      (fun z => [Cu.ob z.2, .box 226 [sv (bs []), iv .u64 0, iv .u8 0, .d (.s (.slice none 0 0))], .box 226 [sv (bs t), iv .u64 n, iv .u8 b, .o 3 z.1.length], .row 23 1 z.1.length (toksD z.1)])
      (fun z => z.1.length ≤ k ∧ z.2.Ok ∧ (z.2.e = 0 → rises none z.1 = true) ∧ (ts, cf) = (z.1 ++ (Cu.tokg (k - z.1.length) z.1.getLast? z.2).1, (Cu.tokg (k - z.1.length) z.1.getLast? z.2).2)) (fun z => k - z.1.length) ([], c4) ⟨Nat.zero_le _, h4o, fun _ => rfl, h0R⟩ rfl rfl (fun _ _ => by show 1 ≤ 4; decide) (fun _ _ => rfl) (fun _ _ => rfl) ?_
    rintro ⟨out, cu⟩ ⟨hol, hcok, hri, hRo⟩ J hJ
    simp only at hol hcok hri hRo
    clear h0R
    have herr := cursor_Err cu.s cu.a cu.e
    by_cases hce : cu.e = 0
    · by_cases hlen : out.length < k
      · have hri := hri hce
        obtain ⟨m, hm⟩ : ∃ m, k - out.length = m + 1 := ⟨k - out.length - 1, by omega⟩
        rw [hm] at hRo
        unfold Cu.tokg at hRo
        rw [if_neg (by simpa using hce)] at hRo
        have hft := fixed_Take cu.s cu.a cu.e hcok
        have hnum : Cu.tok out.getLast? cu = ((Cu.num8 ⟨cu.s, cu.a, cu.e⟩).1, gd (after out.getLast? (Cu.num8 ⟨cu.s, cu.a, cu.e⟩).1) 6 (Cu.num8 ⟨cu.s, cu.a, cu.e⟩).2) := rfl
        rw [hnum] at hRo
        have hn8 : (Cu.num8 ⟨cu.s, cu.a, cu.e⟩).2.Ok := Cu.num8_ok hcok
        generalize Cu.num8 ⟨cu.s, cu.a, cu.e⟩ = y at *
        obtain ⟨v, d⟩ := y
        simp only at hft hRo hn8
        have hl2 : (out ++ [v]).length = out.length + 1 := by simp
        have hrs := ring_rising (out ++ [v]) (by rw [hl2]; omega)
        rw [hl2, ← toks_snoc, rises_snoc0 out v hri] at hrs
        have hfd := cursor_Fail d.s d.a d.e 6
        have go : ∀ T' σ', keepT T' [0, 6, 7, 8] = [(0, .p 0 0), (6, .p 1 0), (7, .p 2 0), (8, iv .i64 k)] → σ'.take 4 = [Cu.ob (gd (after out.getLast? v) 6 d), .box 226 [sv (bs []), iv .u64 0, iv .u8 0, .d (.s (.slice none 0 0))], .box 226 [sv (bs t), iv .u64 n, iv .u8 b, .o 3 (out.length + 1)], .row 23 1 (out.length + 1) (toksD out ++ [D.s (.int .u64 (v : Nat))])] → J T' σ' := fun T' σ' g1 g2 => by
          refine hJ (out ++ [v], gd (after out.getLast? v) 6 d) T' σ' (by simp only [hl2]; omega) ⟨by simp only [hl2]; omega, gd_ok hn8, fun h => ?_, ?_⟩ g1 (by simp only [hl2, ← toks_snoc]; exact g2)
          · rw [rises_snoc0 out v hri]; exact (gd_e (by decide) h).1
          · simp only [hl2, List.getLast?_append, List.getLast?_singleton, Option.some_or]
            rw [hRo, show k - (out.length + 1) = m by omega]
            simp only [List.append_assoc, List.cons_append, List.nil_append]
        clear hJ hRo hnum hri
        have hlk : (out.length : Int) < k := by omega
        cases haf : after out.getLast? v with
        | true =>
          rw [haf] at hrs go
          focus (have kxs := kx0; have kk1 := uN [0] (herr); have kk2 := uN [0] (hft); have kk3 := uL (hrs); have kk4 := uN [0] (hfd); (repeat' (first | (refine ADr.nil ?_; try clear hgv) | refine GW ?_ | refine AW.ret ?_ | (refine GC ?_ ?_ <;> intro h <;> (try simp only [hsB] at h) <;> try exact xf) | (refine GD ?_ ?_ <;> intro h <;> (try intro hgv) <;> (try simp only [hsN] at h) <;> (try simp only [h]) <;> (try simp only [hsB] at h) <;> try exact xf) | (refine GL ?_ ?_ <;> intro h <;> (try simp only [hsN] at h) <;> (try simp only [h]) <;> (try simp only [hsB] at h) <;> try exact xf) | fail)); all_goals clear kxs kk1 kk2 kk3 kk4)
          all_goals first | exact go _ _ rfl rfl | (exfalso; omega) | (exfalso; simp_all; done)
        | false =>
          rw [haf] at hrs go
          focus (have kxs := kx0; have kk1 := uN [0] (herr); have kk2 := uN [0] (hft); have kk3 := uL (hrs); have kk4 := uN [0] (hfd); (repeat' (first | (refine ADr.nil ?_; try clear hgv) | refine GW ?_ | refine AW.ret ?_ | (refine GC ?_ ?_ <;> intro h <;> (try simp only [hsB] at h) <;> try exact xf) | (refine GD ?_ ?_ <;> intro h <;> (try intro hgv) <;> (try simp only [hsN] at h) <;> (try simp only [h]) <;> (try simp only [hsB] at h) <;> try exact xf) | (refine GL ?_ ?_ <;> intro h <;> (try simp only [hsN] at h) <;> (try simp only [h]) <;> (try simp only [hsB] at h) <;> try exact xf) | fail)); all_goals clear kxs kk1 kk2 kk3 kk4)
          all_goals first | exact go _ _ rfl rfl | (exfalso; omega) | (exfalso; simp_all; done)
      · rw [show k - out.length = 0 by omega] at hRo
        unfold Cu.tokg at hRo
        simp only [List.append_nil] at hRo
        obtain ⟨rfl, rfl⟩ := Prod.mk.inj hRo
        clear hJ
        focus (have kxs := kx0; have kk1 := uN [0] (herr); (repeat' (first | (refine ADr.nil ?_; try clear hgv) | refine GO ?_ | refine AW.ret ?_ | (refine GC ?_ ?_ <;> intro h <;> (try simp only [hsB] at h) <;> try exact xf) | (refine GD ?_ ?_ <;> intro h <;> (try intro hgv) <;> (try simp only [hsN] at h) <;> (try simp only [h]) <;> (try simp only [hsB] at h) <;> try exact xf) | (refine GL ?_ ?_ <;> intro h <;> (try simp only [hsN] at h) <;> (try simp only [h]) <;> (try simp only [hsB] at h) <;> try exact xf) | fail)); all_goals clear kxs kk1)
        all_goals first | (((all_goals first | refine RetQ.r 1 (xs := [.a [sv (bs t), iv .u64 n, iv .u8 b, .o 3 ts.length]]) rfl (Nat.le_of_ble_eq_true rfl) rfl (by first | rfl | (simp only [go_sem, ↓reduceIte, Nat.reduceLT, Nat.lt_irrefl])) ⟨?_, ?_⟩ | refine RetQ.n 1 (xs := [.a [sv (bs t), iv .u64 n, iv .u8 b, .o 3 ts.length]]) rfl (Nat.le_of_ble_eq_true rfl) rfl (by first | rfl | (simp only [go_sem, ↓reduceIte, Nat.reduceLT, Nat.lt_irrefl])) ⟨?_, ?_⟩); (all_goals first | rfl | (simp [*]; done) | ((simp only [go_sem, ↓reduceIte, Nat.reduceLT]; (repeat' split)) <;> first | rfl | (exfalso; omega) | (simp_all; done) | (simp_all; omega)))); done) | (exfalso; omega) | (exfalso; simp_all; done)
    · rw [tokg_stuck hce] at hRo
      simp only [List.append_nil] at hRo
      obtain ⟨rfl, rfl⟩ := Prod.mk.inj hRo
      clear hJ
      focus (have kxs := kx0; have kk1 := uN [0] (herr); (repeat' (first | (refine ADr.nil ?_; try clear hgv) | refine GO ?_ | refine AW.ret ?_ | (refine GC ?_ ?_ <;> intro h <;> (try simp only [hsB] at h) <;> try exact xf) | (refine GD ?_ ?_ <;> intro h <;> (try intro hgv) <;> (try simp only [hsN] at h) <;> (try simp only [h]) <;> (try simp only [hsB] at h) <;> try exact xf) | (refine GL ?_ ?_ <;> intro h <;> (try simp only [hsN] at h) <;> (try simp only [h]) <;> (try simp only [hsB] at h) <;> try exact xf) | fail)); all_goals clear kxs kk1)
      all_goals first | (((all_goals first | refine RetQ.r 1 (xs := [.a [sv (bs t), iv .u64 n, iv .u8 b, .o 3 ts.length]]) rfl (Nat.le_of_ble_eq_true rfl) rfl (by first | rfl | (simp only [go_sem, ↓reduceIte, Nat.reduceLT, Nat.lt_irrefl])) ⟨?_, ?_⟩ | refine RetQ.n 1 (xs := [.a [sv (bs t), iv .u64 n, iv .u8 b, .o 3 ts.length]]) rfl (Nat.le_of_ble_eq_true rfl) rfl (by first | rfl | (simp only [go_sem, ↓reduceIte, Nat.reduceLT, Nat.lt_irrefl])) ⟨?_, ?_⟩); (all_goals first | rfl | (simp [*]; done) | ((simp only [go_sem, ↓reduceIte, Nat.reduceLT]; (repeat' split)) <;> first | rfl | (exfalso; omega) | (simp_all; done) | (simp_all; omega)))); done) | (exfalso; omega) | (exfalso; simp_all; done)
end Go.AW
/-
  rings that are read: the program's; whole texts.
-/
namespace Go.AW
open Go Go.Proofs
set_option maxHeartbeats 2000000
set_option maxRecDepth 10000
set_option linter.unusedSimpArgs false
set_option linter.unusedVariables false
attribute [local irreducible] thenQ blockQ RetQ AL AW AC AOp

abbrev Mfam := Fam Cu.mem (fun (_ : List UInt8) (x : Mb) => x.name)
theorem ring_snoc (l : Ring) (x : Mb) : ringD l ++ [D.s (.string ⟨x.name.toArray⟩), .s (.int .u64 (x.ep : Nat)), .s (.int .u8 (x.st : Nat)), .l x.toks.length (toksD x.toks)] = ringD (l ++ [x]) := by
  rw [ringD, ringD, List.map_append, List.flatten_append]; rfl
/-- One member more, whatever came of it. -/
theorem mem_step {n : Nat} {c0 c : Cu} {out : Ring} {p : List UInt8} (hf : Mfam n [] c0 out p c) (hce : c.e = 0) (hlen : out.length < n) :
    ((c.memg p).2.e = 0 → Mfam n [] c0 (out ++ [(c.memg p).1]) (c.memg p).1.name (c.memg p).2) ∧ ((c.memg p).2.e ≠ 0 → (Cu.mems n [] c0).2 = (c.memg p).2) := by
  have hstep := Fam.step hf hce hlen
  obtain ⟨h1, h2⟩ := memg_mem p c
  refine ⟨fun h => ?_, fun h => ?_⟩
  · rw [h1] at h
    rw [h2 h]
    exact hstep
  · rw [h1] at h ⊢
    exact Fam.bad (fun k c h => (trip_mem k).stuck c h) hstep h
theorem Cu.memg_ok {c : Cu} {p : List UInt8} (h : c.Ok) : (c.memg p).2.Ok := by rw [(memg_mem p c).1]; exact Cu.mem_ok h

theorem ring_Take (s : List UInt8) (a : Nat) (e : Int) (h : Cu.Ok ⟨s, a, e⟩) : AC Tryz.prog 196 [.p 0 0] [Cu.ob ⟨s, a, e⟩] fun x σ => x = .d (.l (Cu.ring ⟨s, a, e⟩).1.length (ringD (Cu.ring ⟨s, a, e⟩).1)) ∧ σ = [Cu.ob (Cu.ring ⟨s, a, e⟩).2] := by
  refine AC.walk Tryz.func196 rfl (by decide) (of_decide_eq_true rfl) ?_
  have hlt : (Cu.count ⟨s, a, e⟩ 32).1 ≤ 32 := Cu.count_max ⟨s, a, e⟩ 32
  have hok0 := Cu.count_ok (max := 32) h
  have hvec : Cu.ring ⟨s, a, e⟩ = (if ((Cu.count ⟨s, a, e⟩ 32).2.mems (Cu.count ⟨s, a, e⟩ 32).1 []).2.e ≠ 0 then [] else ((Cu.count ⟨s, a, e⟩ 32).2.mems (Cu.count ⟨s, a, e⟩ 32).1 []).1, ((Cu.count ⟨s, a, e⟩ 32).2.mems (Cu.count ⟨s, a, e⟩ 32).1 []).2) := rfl
  rw [hvec]
  generalize hz : Cu.count ⟨s, a, e⟩ 32 = z at *
  obtain ⟨n, c0⟩ := z
  simp only at hlt hok0 ⊢
  clear hvec
  focus (have kxs := hz; have kk1 := uN [0] (blob_Count s a e 32 h (by decide)); (repeat' (first | refine G ?_ | refine AW.ret ?_ | (refine GC ?_ ?_ <;> intro h <;> (try simp only [hsB] at h) <;> try exact xf) | (refine GL ?_ ?_ <;> intro h <;> (try simp only [hsN] at h) <;> (try simp only [h]) <;> (try simp only [hsB] at h) <;> try exact xf) | fail)); all_goals clear kxs kk1)
  refine AW.birth 226 4 [4] [] ?_
  refine AW.rounds [0, 2, 3, 4, 5] (fun x : Ring × List UInt8 × Cu => [(0, .p 0 0), (2, .d (.s (.slice none 0 0))), (3, iv .i64 n), (4, .o 1 x.1.length), (5, sv (bs x.2.1))]) (fun x => [Cu.ob x.2.2, .row 226 4 x.1.length (ringD x.1)])
    (fun x => x.2.2.Ok ∧ x.1.length ≤ n ∧ (x.1 = [] → x.2.1 = []) ∧ (x.2.2.e = 0 → Mfam n [] c0 x.1 x.2.1 x.2.2) ∧ (x.2.2.e ≠ 0 → (Cu.mems n [] c0).2 = x.2.2)) (fun x => n - x.1.length) ([], [], c0)
    ⟨hok0, Nat.zero_le _, fun _ => rfl, fun _ => Fam.start n [] c0, fun h => Cu.many_stuck (fun k c h => (trip_mem k).stuck c h) _ _ _ h⟩ rfl rfl (fun _ _ => Nat.le_of_ble_eq_true rfl) (fun _ _ => rfl) (fun _ _ => rfl) ?_
  rintro ⟨out, p, c⟩ ⟨hok, hol, hfp, hf, hbad⟩ J hJ
  simp only at hok hol hfp hf hbad ⊢
  have herr := cursor_Err c.s c.a c.e
  by_cases hce : c.e = 0
  case neg =>
    rw [hbad hce, if_pos hce]
    focus (have kxs := kx0; have kk1 := uN [0] (herr); (repeat' (first | refine G ?_ | refine AW.ret ?_ | (refine GC ?_ ?_ <;> intro h <;> (try simp only [hsB] at h) <;> try exact xf) | (refine GL ?_ ?_ <;> intro h <;> (try simp only [hsN] at h) <;> (try simp only [h]) <;> (try simp only [hsB] at h) <;> try exact xf) | fail)); all_goals clear kxs kk1)
    all_goals first | exact RetQ.fr 1 | exact RetQ.fn 1 | (exfalso; omega) | (exfalso; simp_all; done)
  have hf := hf hce
  by_cases hlen : out.length < n
  case neg =>
    have hdone := Fam.done hf hce hlen
    have hb2 : Cu.mems n [] c0 = (out, c) := hdone
    rw [hb2]
    simp only
    rw [if_neg (by simpa using hce)]
    focus (have kxs := kx0; have kk1 := uN [0] (herr); (repeat' (first | refine G ?_ | refine AW.ret ?_ | (refine GC ?_ ?_ <;> intro h <;> (try simp only [hsB] at h) <;> try exact xf) | (refine GL ?_ ?_ <;> intro h <;> (try simp only [hsN] at h) <;> (try simp only [h]) <;> (try simp only [hsB] at h) <;> try exact xf) | fail)); all_goals clear kxs kk1)
    all_goals first | exact RetQ.fr 1 | exact RetQ.fn 1 | (exfalso; omega) | (exfalso; simp_all; done)
  obtain ⟨hs1, hs2⟩ := mem_step hf hce hlen
  have hgo := Cu.memg_ok (p := p) hok
  have hmb := ring_member c hok p (decide ((out.length : Int) = 0)) (fun h => hfp (List.length_eq_zero_iff.1 (by have := of_decide_eq_true h; omega)))
  generalize c.memg p = g at *
  obtain ⟨x, c'⟩ := g
  simp only at hs1 hs2 hgo hmb
  have go : ∀ T' σ', keepT T' [0, 2, 3, 4, 5] = [(0, .p 0 0), (2, .d (.s (.slice none 0 0))), (3, iv .i64 n), (4, .o 1 (out.length + 1)), (5, sv (bs x.name))] → σ'.take 2 = [Cu.ob c', .row 226 4 (out.length + 1) (ringD out ++ [D.s (.string ⟨x.name.toArray⟩), .s (.int .u64 (x.ep : Nat)), .s (.int .u8 (x.st : Nat)), .l x.toks.length (toksD x.toks)])] → J T' σ' := fun T' σ' g1 g2 => by
    have hl : (out ++ [x]).length = out.length + 1 := by simp
    refine hJ (out ++ [x], x.name, c') T' σ' (by simp only [hl]; omega) ⟨hgo, by simp only [hl]; omega, fun h => by simp at h, hs1, hs2⟩ (by simp only [hl]; exact g1) (by simp only [hl]; rw [← ring_snoc]; exact g2)
  clear hJ hs1 hs2 hf hbad hfp
  have hlk : (out.length : Int) < n := by omega
  focus (have kxs := kx0; have kk1 := uN [0] (herr); have kk2 := uN [0] (hmb); (repeat' (first | refine G ?_ | refine AW.ret ?_ | (refine GC ?_ ?_ <;> intro h <;> (try simp only [hsB] at h) <;> try exact xf) | (refine GL ?_ ?_ <;> intro h <;> (try simp only [hsN] at h) <;> (try simp only [h]) <;> (try simp only [hsB] at h) <;> try exact xf) | fail)); all_goals clear kxs kk1 kk2)
  all_goals first | exact go _ _ rfl rfl | (exfalso; omega) | (exfalso; simp_all; done)

end Go.AW
/-
  old objects that are read: the program's.
-/
namespace Go.AW
open Go Go.Proofs
set_option maxHeartbeats 2000000
set_option maxRecDepth 10000
set_option linter.unusedSimpArgs false
set_option linter.unusedVariables false
attribute [local irreducible] thenQ blockQ RetQ AL AW AC AOp

def onext (seen : List Vec) (x : Os1) : List Vec := seen ++ [x.clk]
theorem oss_snoc (l : List Os1) (x : Os1) : ossD l ++ [.l x.clk.length (vecD x.clk), .s (.bool x.dead), .s (.string ⟨x.val.toArray⟩)] = ossD (l ++ [x]) := by
  simp only [ossD, List.map_append, List.flatten_append, List.map_cons, List.map_nil, List.flatten_cons, List.flatten_nil, List.append_nil]; rfl
theorem snoc_len {α : Type} (l : List α) (x : α) : (l ++ [x]).length = l.length + 1 := by simp
theorem old_eq {s key : List UInt8} {c1 q1 c2 q2 : Cu} {n : Nat} (hb : Cu.blob ⟨s, 0, 0⟩ 128 = (key, c1)) (h1 : gd (decide (key ≠ [])) 14 c1 = q1) (hn : q1.count 16 = (n, c2)) (h2 : gd (decide (n ≠ 0)) 7 c2 = q2) :
    Cu.old ⟨s, 0, 0⟩ = (⟨key, (Cu.olds n [] q2).1⟩, (Cu.olds n [] q2).2) := by
  have e1 : Cu.okey ⟨s, 0, 0⟩ = (key, q1) := by unfold Cu.okey; rw [hb, ← h1]
  have e2 : q1.ocnt = (n, q2) := by unfold Cu.ocnt; rw [hn, ← h2]
  unfold Cu.old Cu.old0 rseq
  rw [e1]
  simp only
  unfold Cu.oldl
  rw [e2]
theorem oldw_eq {s key : List UInt8} {c : Cu} {l : List Os1} (h : Cu.old ⟨s, 0, 0⟩ = (⟨key, l⟩, c)) : oldw s = (if c.fin.e ≠ 0 then od0 else ⟨key, l⟩, c.fin.e) := by
  unfold oldw
  rw [h]
theorem os1_eq {c c1 c2 c3 q : Cu} {v : Vec} {f : Bool} {t : List UInt8} {seen : List Vec} (h1 : c.vec = (v, c1)) (h2 : c1.flag = (f, c2)) (h3 : c2.blob 32768 = (t, c3)) (h4 : gd (decide (v ∉ seen)) 6 c3 = q) : Cu.os1 seen c = (⟨v, f, t⟩, q) := by
  unfold Cu.os1 Cu.os0 rseq
  simp only [h1, h2, h3, h4]
theorem any_clk (l : List Os1) (v : Vec) : (l.any fun y => decide (y.clk = v)) = decide (v ∈ l.map Os1.clk) := by
  rw [Bool.eq_iff_iff, List.any_eq_true, decide_eq_true_eq, List.mem_map]
  simp only [decide_eq_true_eq]

theorem legacy_Decode (s : List UInt8) (hs : s.length ≤ 140737488351232) : AC Tryz.prog 236 [sv (bs s)] [] fun x σ => x = .t [odV (oldw s).1, iv .i64 (oldw s).2] ∧ σ = [] := by
  have h0 : Cu.Ok ⟨s, 0, 0⟩ := ⟨hs, Nat.zero_le _⟩
  refine AC.walk Tryz.func236 rfl (by decide) (of_decide_eq_true rfl) ?_
  have hok1 := Cu.blob_ok (max := 128) h0
  cases hb : Cu.blob ⟨s, 0, 0⟩ 128 with
  | mk key c1 =>
  rw [hb] at hok1
  obtain ⟨q1, hq1⟩ : ∃ q, gd (decide (key ≠ [])) 14 c1 = q := ⟨_, rfl⟩
  have hok2 : q1.Ok := by rw [← hq1]; exact gd_ok hok1
  have hok3 := Cu.count_ok (max := 16) hok2
  cases hn : q1.count 16 with
  | mk n c2 =>
  rw [hn] at hok3
  have hn' : Cu.count ⟨q1.s, q1.a, q1.e⟩ 16 = (n, c2) := hn
  have hnl : n ≤ 16 := by have := Cu.count_max q1 16; rw [hn] at this; exact this
  obtain ⟨q2, hq2⟩ : ∃ q, gd (decide (n ≠ 0)) 7 c2 = q := ⟨_, rfl⟩
  have hok4 : q2.Ok := by rw [← hq2]; exact gd_ok hok3
  have hold := old_eq hb hq1 hn hq2
  have k1 : (key = [] ∧ Cu.fail ⟨c1.s, c1.a, c1.e⟩ 14 = q1) ∨ (key ≠ [] ∧ c1 = q1) := by
    by_cases hk : key = []
    · exact .inl ⟨hk, by rw [← hq1, hk]; rfl⟩
    · exact .inr ⟨hk, by rw [← hq1]; unfold gd; rw [if_pos (by simpa using hk)]⟩
  have k2 : (n = 0 ∧ Cu.fail ⟨c2.s, c2.a, c2.e⟩ 7 = q2) ∨ (n ≠ 0 ∧ c2 = q2) := by
    by_cases hk : n = 0
    · exact .inl ⟨hk, by rw [← hq2, hk]; rfl⟩
    · exact .inr ⟨hk, by rw [← hq2]; unfold gd; rw [if_pos (by simpa using hk)]⟩
  clear hq1 hq2
  rcases k1 with ⟨hk, h1⟩ | ⟨hk, h1⟩ <;> rcases k2 with ⟨hn0, h2⟩ | ⟨hn0, h2⟩
  all_goals
    focus (have kxs := And.intro hb (And.intro h1 (And.intro hn' h2)); have kk1 := uN [] (cursor_New s); have kk2 := uN [1] (blob_Take s 0 0 128 h0 (by decide)); have kud1 := fun za zb zc zd => uN [1] (cursor_Fail za zb zc zd); have kk3 := uN [1] (blob_Count q1.s q1.a q1.e 16 hok2 (by decide)); (repeat' (first | refine G ?_ | refine AW.ret ?_ | (refine GC ?_ ?_ <;> intro h <;> (try simp only [hsB] at h) <;> try exact xf) | (refine GL ?_ ?_ <;> intro h <;> (try simp only [hsN] at h) <;> (try simp only [h]) <;> (try simp only [hsB] at h) <;> try exact xf) | fail)); all_goals clear kxs kk1 kk2 kud1 kk3)
    all_goals first | (exfalso; exact hk (by assumption)) | (exfalso; omega) | (exfalso; simp_all; done) | skip
    refine AW.birth 215 3 [] [(2, 1)] ?_
    refine AW.rounds [2, 3, 4, 5, 6] (fun x : List Os1 × Cu => [(2, .p 0 0), (3, iv .i64 0), (4, .p 1 0), (5, .p 2 0), (6, iv .i64 n)])
      (fun x => [.box 29 [sv (bs []), .d (.s (.slice none 0 0))], Cu.ob x.2, .box 29 [sv (bs key), .o 3 x.1.length], .row 215 3 x.1.length (ossD x.1)])
      (fun x => x.2.Ok ∧ (∀ y ∈ x.1, y.clk.length ≤ 64) ∧ Fam Cu.os1 onext n [] q2 x.1 (x.1.map Os1.clk) x.2) (fun x => n - x.1.length) ([], q2) ⟨hok4, fun y hy => (List.not_mem_nil hy).elim, Fam.start n [] q2⟩ rfl rfl (fun _ _ => Nat.zero_le _) (fun _ _ => rfl) (fun _ _ => rfl) ?_
    clear h1 h2 hb hn hn' hn0 hk hok1 hok2 hok3 hok4
    rintro ⟨out, c⟩ ⟨hok, h64, hf⟩ J hJ
    simp only at hok h64 hf ⊢
    by_cases hce : c.e = 0
    case neg =>
      have hbad : (Cu.olds n [] q2).2 = c := Fam.bad (fun k c h => (trip_os1 k).stuck c h) hf hce
      rw [hbad] at hold
      rw [oldw_eq hold]
      have hfe : c.fin.e ≠ 0 := by unfold Cu.fin; simp [hce]
      rw [if_pos hfe]
      generalize hfd : c.fin = d at *
      have hfe' : Cu.fin ⟨c.s, c.a, c.e⟩ = d := hfd
      focus (have kxs := hfe'; have kk1 := uN [1] (cursor_Err c.s c.a c.e); have kk2 := uN [1] (cursor_End c.s c.a c.e hok); (repeat' (first | refine G ?_ | refine AW.ret ?_ | (refine GC ?_ ?_ <;> intro h <;> (try simp only [hsB] at h) <;> try exact xf) | (refine GL ?_ ?_ <;> intro h <;> (try simp only [hsN] at h) <;> (try simp only [h]) <;> (try simp only [hsB] at h) <;> try exact xf) | fail)); all_goals clear kxs kk1 kk2)
      all_goals first | (((all_goals first | refine RetQ.r 0 rfl (Nat.le_of_ble_eq_true rfl) rfl (by first | rfl | (simp only [go_sem, ↓reduceIte, Nat.reduceLT, Nat.lt_irrefl])) ⟨?_, ?_⟩ | refine RetQ.n 0 rfl (Nat.le_of_ble_eq_true rfl) rfl (by first | rfl | (simp only [go_sem, ↓reduceIte, Nat.reduceLT, Nat.lt_irrefl])) ⟨?_, ?_⟩); (all_goals first | rfl | (simp [od0, *]; done) | ((simp only [go_sem, ↓reduceIte, Nat.reduceLT, od0]; (repeat' split)) <;> first | rfl | (exfalso; omega) | (simp_all; done) | (simp_all; omega)))); done) | (exfalso; simp_all; done)
    by_cases hlen : out.length < n
    case neg =>
      have hdone : Cu.olds n [] q2 = (out, c) := Fam.done hf hce hlen
      rw [hdone] at hold
      rw [oldw_eq hold]
      generalize hfd : c.fin = d at *
      have hfe' : Cu.fin ⟨c.s, c.a, c.e⟩ = d := hfd
      by_cases hde : d.e = 0
      · rw [if_neg (by simpa using hde), hde]
        focus (have kxs := hfe'; have kk1 := uN [1] (cursor_Err c.s c.a c.e); have kk2 := uN [1] (cursor_End c.s c.a c.e hok); (repeat' (first | refine G ?_ | refine AW.ret ?_ | (refine GC ?_ ?_ <;> intro h <;> (try simp only [hsB] at h) <;> try exact xf) | (refine GL ?_ ?_ <;> intro h <;> (try simp only [hsN] at h) <;> (try simp only [h]) <;> (try simp only [hsB] at h) <;> try exact xf) | fail)); all_goals clear kxs kk1 kk2)
        all_goals first | (((all_goals first | refine RetQ.r 0 (xs := [.a [sv (bs key), .o 3 out.length], iv .i64 0]) rfl (Nat.le_of_ble_eq_true rfl) rfl (by first | rfl | (simp only [go_sem, ↓reduceIte, Nat.reduceLT, Nat.lt_irrefl])) ⟨?_, ?_⟩ | refine RetQ.n 0 (xs := [.a [sv (bs key), .o 3 out.length], iv .i64 0]) rfl (Nat.le_of_ble_eq_true rfl) rfl (by first | rfl | (simp only [go_sem, ↓reduceIte, Nat.reduceLT, Nat.lt_irrefl])) ⟨?_, ?_⟩); (all_goals first | rfl | (simp [*]; done) | ((simp only [go_sem, ↓reduceIte, Nat.reduceLT]; (repeat' split)) <;> first | rfl | (exfalso; omega) | (simp_all; done) | (simp_all; omega)))); done) | (exfalso; simp_all; done)
      · rw [if_pos hde]
        focus (have kxs := hfe'; have kk1 := uN [1] (cursor_Err c.s c.a c.e); have kk2 := uN [1] (cursor_End c.s c.a c.e hok); (repeat' (first | refine G ?_ | refine AW.ret ?_ | (refine GC ?_ ?_ <;> intro h <;> (try simp only [hsB] at h) <;> try exact xf) | (refine GL ?_ ?_ <;> intro h <;> (try simp only [hsN] at h) <;> (try simp only [h]) <;> (try simp only [hsB] at h) <;> try exact xf) | fail)); all_goals clear kxs kk1 kk2)
        all_goals first | (((all_goals first | refine RetQ.r 0 rfl (Nat.le_of_ble_eq_true rfl) rfl (by first | rfl | (simp only [go_sem, ↓reduceIte, Nat.reduceLT, Nat.lt_irrefl])) ⟨?_, ?_⟩ | refine RetQ.n 0 rfl (Nat.le_of_ble_eq_true rfl) rfl (by first | rfl | (simp only [go_sem, ↓reduceIte, Nat.reduceLT, Nat.lt_irrefl])) ⟨?_, ?_⟩); (all_goals first | rfl | (simp [od0, *]; done) | ((simp only [go_sem, ↓reduceIte, Nat.reduceLT, od0]; (repeat' split)) <;> first | rfl | (exfalso; omega) | (simp_all; done) | (simp_all; omega)))); done) | (exfalso; simp_all; done)
    have hstep := Fam.step hf hce hlen
    have hv64 := Cu.vec_len c
    have hg1 := Cu.vec_ok hok
    cases hv : c.vec with
    | mk v g1 =>
    rw [hv] at hv64 hg1
    have hv' : Cu.vec ⟨c.s, c.a, c.e⟩ = (v, g1) := hv
    have hg2 := Cu.flag_ok hg1
    cases hw : g1.flag with
    | mk f g2 =>
    rw [hw] at hg2
    have hw' : Cu.flag ⟨g1.s, g1.a, g1.e⟩ = (f, g2) := hw
    have hg3 := Cu.blob_ok (max := 32768) hg2
    cases hx : g2.blob 32768 with
    | mk t g3 =>
    rw [hx] at hg3
    have hx' : Cu.blob ⟨g2.s, g2.a, g2.e⟩ 32768 = (t, g3) := hx
    simp only at hv64 hg1 hg2 hg3
    have h64' : ∀ y ∈ out ++ [(⟨v, f, t⟩ : Os1)], y.clk.length ≤ 64 := fun y hy => by
      rcases List.mem_append.1 hy with h | h
      · exact h64 y h
      · rw [List.mem_singleton.1 h]; exact hv64
    have hnx : onext (out.map Os1.clk) ⟨v, f, t⟩ = (out ++ [(⟨v, f, t⟩ : Os1)]).map Os1.clk := by simp [onext]
    have hsn := oss_snoc out ⟨v, f, t⟩
    have hln := snoc_len out (⟨v, f, t⟩ : Os1)
    by_cases hm : v ∈ out.map Os1.clk
    · have hany : (out.any fun y => decide (y.clk = v)) = true := by rw [any_clk]; exact decide_eq_true hm
      rw [os1_eq hv hw hx (q := g3.fail 6) (by unfold gd; rw [if_neg (by simpa using hm)])] at hstep
      simp only [hnx] at hstep
      focus (have kxs := And.intro hv' (And.intro hw' (And.intro hx' hany)); have kk1 := uN [1] (cursor_Err c.s c.a c.e); have kk2 := uN [1] (vcode_Take c.s c.a c.e hok); have kk3 := uN [1] (blob_Flag g1.s g1.a g1.e hg1); have kk4 := uN [1] (blob_Take g2.s g2.a g2.e 32768 hg2 (by decide)); have kk5 := uL (legacy_twice out v (by omega) (fun x hx => Nat.le_trans (h64 x hx) (by decide))); have kk6 := uN [1] (cursor_Fail g3.s g3.a g3.e 6); (repeat' (first | refine G ?_ | refine AW.ret ?_ | (refine GC ?_ ?_ <;> intro h <;> (try simp only [hsB] at h) <;> try exact xf) | (refine GL ?_ ?_ <;> intro h <;> (try simp only [hsN] at h) <;> (try simp only [h]) <;> (try simp only [hsB] at h) <;> try exact xf) | fail)); all_goals clear kxs kk1 kk2 kk3 kk4 kk5 kk6)
      all_goals first | (refine hJ (out ++ [⟨v, f, t⟩], g3.fail 6) _ _ (by simp only [hln]; omega) ⟨hg3, h64', hstep⟩ rfl ?_; simp only [← hsn, hln]; rfl) | (exfalso; simp_all; done)
    · have hany : (out.any fun y => decide (y.clk = v)) = false := by rw [any_clk]; exact decide_eq_false hm
      rw [os1_eq hv hw hx (q := g3) (by unfold gd; rw [if_pos (by simpa using hm)])] at hstep
      simp only [hnx] at hstep
      focus (have kxs := And.intro hv' (And.intro hw' (And.intro hx' hany)); have kk1 := uN [1] (cursor_Err c.s c.a c.e); have kk2 := uN [1] (vcode_Take c.s c.a c.e hok); have kk3 := uN [1] (blob_Flag g1.s g1.a g1.e hg1); have kk4 := uN [1] (blob_Take g2.s g2.a g2.e 32768 hg2 (by decide)); have kk5 := uL (legacy_twice out v (by omega) (fun x hx => Nat.le_trans (h64 x hx) (by decide))); (repeat' (first | refine G ?_ | refine AW.ret ?_ | (refine GC ?_ ?_ <;> intro h <;> (try simp only [hsB] at h) <;> try exact xf) | (refine GL ?_ ?_ <;> intro h <;> (try simp only [hsN] at h) <;> (try simp only [h]) <;> (try simp only [hsB] at h) <;> try exact xf) | fail)); all_goals clear kxs kk1 kk2 kk3 kk4 kk5)
      all_goals first | (refine hJ (out ++ [⟨v, f, t⟩], g3) _ _ (by simp only [hln]; omega) ⟨hg3, h64', hstep⟩ rfl ?_; simp only [← hsn, hln]; rfl) | (exfalso; simp_all; done)
end Go.AW
/-
  objects that are read: the document's; objects that are written; whole texts.
-/
namespace Go.AW
open Go Go.Proofs
set_option maxHeartbeats 2000000
set_option maxRecDepth 10000
set_option linter.unusedSimpArgs false
set_option linter.unusedVariables false
attribute [local irreducible] thenQ blockQ RetQ AL AW AC AOp

end Go.AW
