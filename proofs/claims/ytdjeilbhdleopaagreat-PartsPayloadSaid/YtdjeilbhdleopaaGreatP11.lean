/-
  members that are read: the program's.
-/
import Derived.Test.YtdjeilbhdleopaaGreatP10
set_option linter.unusedVariables false
set_option linter.unusedSimpArgs false
set_option maxHeartbeats 4000000
set_option maxRecDepth 10000
namespace Go.AW
open Go Go.Proofs
attribute [local irreducible] thenQ blockQ RetQ AL AW AC AOp
def Cu.tokg : Nat → Option Nat → Cu → List Nat × Cu
  | 0, _, c => ([], c)
  | n + 1, p, c => if c.e ≠ 0 then ([], c) else ((c.tok p).1 :: (Cu.tokg n (some (c.tok p).1) (c.tok p).2).1, (Cu.tokg n (some (c.tok p).1) (c.tok p).2).2)
theorem tokg_stuck {c : Cu} (h : c.e ≠ 0) (p : Option Nat) : ∀ n, Cu.tokg n p c = ([], c)
  | 0 => rfl
  | n + 1 => by unfold Cu.tokg; rw [if_pos h]
theorem tokg_toks : ∀ (n : Nat) (p : Option Nat) (c : Cu), (Cu.tokg n p c).2 = (Cu.toks n p c).2 ∧ ((Cu.toks n p c).2.e = 0 → (Cu.tokg n p c).1 = (Cu.toks n p c).1)
  | 0, p, c => ⟨rfl, fun _ => rfl⟩
  | n + 1, p, c => by
    by_cases h : c.e = 0
    · unfold Cu.tokg
      rw [if_neg (by simpa using h)]
      obtain ⟨h1, h2⟩ := tokg_toks n (some (c.tok p).1) (c.tok p).2
      exact ⟨h1, fun h3 => by
        show _ :: _ = _ :: _
        rw [h2 h3]; rfl⟩
    · rw [tokg_stuck h]
      have hs : (Cu.toks (n + 1) p c).2 = c := Cu.many_stuck (fun k c h => (trip_tok k).stuck c h) _ _ _ h
      exact ⟨hs.symm, fun h2 => by rw [hs] at h2; exact absurd h2 h⟩
def Cu.memg (p : List UInt8) (c : Cu) : Mb × Cu :=
  (⟨(c.actor 32 p).1, (c.actor 32 p).2.vnz.1, (c.actor 32 p).2.vnz.2.stt.1, (Cu.tokg ((c.actor 32 p).2.vnz.2.stt.2.count 16).1 none ((c.actor 32 p).2.vnz.2.stt.2.count 16).2).1⟩,
   (Cu.tokg ((c.actor 32 p).2.vnz.2.stt.2.count 16).1 none ((c.actor 32 p).2.vnz.2.stt.2.count 16).2).2)
theorem memg_mem (p : List UInt8) (c : Cu) : (c.memg p).2 = (c.mem p).2 ∧ ((c.mem p).2.e = 0 → c.memg p = c.mem p) := by
  obtain ⟨h1, h2⟩ := tokg_toks ((c.actor 32 p).2.vnz.2.stt.2.count 16).1 none ((c.actor 32 p).2.vnz.2.stt.2.count 16).2
  refine ⟨h1, fun h => ?_⟩
  have h3 := h2 h
  unfold Cu.memg
  rw [h3, h1]; rfl
theorem rises_snoc : ∀ (l : List Nat) (p : Option Nat) (t : Nat), rises p (l ++ [t]) = (rises p l && after (match l.getLast? with | some q => some q | none => p) t)
  | [], p, t => by simp [rises]
  | x :: l, p, t => by
    have ih := rises_snoc l (some x) t
    show (after p x && rises (some x) (l ++ [t])) = _
    rw [ih]
    cases l with
    | nil => simp [rises]
    | cons y l =>
      rw [List.getLast?_cons_cons]
      show _ = ((after p x && rises (some x) (y :: l)) && _)
      rw [Bool.and_assoc]
      obtain ⟨z, hz⟩ := Option.isSome_iff_exists.1 (show ((y :: l).getLast?).isSome = true by simp)
      rw [hz]
theorem rises_snoc0 (l : List Nat) (t : Nat) (h : rises none l = true) : rises none (l ++ [t]) = after l.getLast? t := by
  rw [rises_snoc, h, Bool.true_and]
  cases l.getLast? <;> rfl
theorem toks_snoc (l : List Nat) (t : Nat) : toksD l ++ [D.s (.int .u64 (t : Nat))] = toksD (l ++ [t]) := by simp [toksD]
theorem rg_empty (p : List UInt8) (c : Cu) : gd (lessB p []) 6 (gd (decide (([] : List UInt8) ≠ [])) 14 c) = c.fail 14 := by
  have h1 : lessB p [] = false := less_nil p
  have h2 : decide (([] : List UInt8) ≠ []) = false := by simp
  rw [h1, h2]
  show Cu.fail (Cu.fail c 14) 6 = Cu.fail c 14
  refine Cu.fail_stuck ?_ 6
  exact Cu.fail_e (by decide)
theorem rg_order {p t : List UInt8} {c : Cu} (ht : t ≠ []) (h : lessB p t = false) : gd (lessB p t) 6 (gd (decide (t ≠ [])) 14 c) = c.fail 6 := by
  have h2 : decide (t ≠ []) = true := by simpa using ht
  rw [h, h2]; rfl
theorem rg_ok {p t : List UInt8} {c : Cu} (ht : t ≠ []) (h : lessB p t = true) : gd (lessB p t) 6 (gd (decide (t ≠ [])) 14 c) = c := by
  have h2 : decide (t ≠ []) = true := by simpa using ht
  rw [h, h2]; rfl
theorem mem_ways (p : List UInt8) (c : Cu) (hok : c.Ok) : ∃ t c1 q n c2 r b c3 u k c4, Cu.blob ⟨c.s, c.a, c.e⟩ 32 = (t, c1) ∧ Cu.vtake ⟨q.s, q.a, q.e⟩ = (n, c2) ∧ Cu.byte ⟨r.s, r.a, r.e⟩ = (b, c3) ∧ Cu.count ⟨u.s, u.a, u.e⟩ 16 = (k, c4) ∧
    q.Ok ∧ r.Ok ∧ u.Ok ∧ c4.Ok ∧ k ≤ 16 ∧ b < 256 ∧ n < 18446744073709551616 ∧
    ((t = [] ∧ q = c1.fail 14) ∨ (t ≠ [] ∧ lessB p t = false ∧ q = c1.fail 6) ∨ (t ≠ [] ∧ lessB p t = true ∧ q = c1)) ∧ ((n = 0 ∧ r = c2.fail 7) ∨ (n ≠ 0 ∧ r = c2)) ∧ ((3 < b ∧ u = c3.fail 13) ∨ (¬ 3 < b ∧ u = c3)) ∧
    c.memg p = (⟨t, n, b, (Cu.tokg k none c4).1⟩, (Cu.tokg k none c4).2) := by
  refine ⟨_, _, (c.actor 32 p).2, _, _, (c.actor 32 p).2.vnz.2, _, _, (c.actor 32 p).2.vnz.2.stt.2, _, _, rfl, rfl, rfl, rfl, Cu.actor_ok hok, Cu.vnz_ok (Cu.actor_ok hok), Cu.stt_ok (Cu.vnz_ok (Cu.actor_ok hok)), Cu.count_ok (Cu.stt_ok (Cu.vnz_ok (Cu.actor_ok hok))), ?_, ?_, ?_, ?_, ?_, ?_, rfl⟩
  · exact Cu.count_max _ 16
  · unfold Cu.byte; exact (UInt8.toNat_lt _)
  · exact Cu.vtake_lt _
  · show ((c.blob 32).1 = [] ∧ gd (lessB p (c.blob 32).1) 6 (gd (decide ((c.blob 32).1 ≠ [])) 14 (c.blob 32).2) = _) ∨ _ ∨ _
    by_cases h : (c.blob 32).1 = []
    · exact .inl ⟨h, by rw [h]; exact rg_empty p _⟩
    · cases h2 : lessB p (c.blob 32).1 with
      | false => exact .inr (.inl ⟨h, rfl, by show gd (lessB p (c.blob 32).1) 6 (gd (decide ((c.blob 32).1 ≠ [])) 14 (c.blob 32).2) = _; rw [rg_order h h2]⟩)
      | true => exact .inr (.inr ⟨h, rfl, by show gd (lessB p (c.blob 32).1) 6 (gd (decide ((c.blob 32).1 ≠ [])) 14 (c.blob 32).2) = _; rw [rg_ok h h2]⟩)
  · generalize (c.actor 32 p).2 = q
    show (q.vtake.1 = 0 ∧ gd (decide (q.vtake.1 ≠ 0)) 7 q.vtake.2 = _) ∨ _
    by_cases h : q.vtake.1 = 0
    · exact .inl ⟨h, by rw [h]; rfl⟩
    · exact .inr ⟨h, by show gd (decide (q.vtake.1 ≠ 0)) 7 q.vtake.2 = _; rw [decide_eq_true h]; rfl⟩
  · generalize (c.actor 32 p).2.vnz.2 = r
    show (3 < r.byte.1 ∧ gd (decide (r.byte.1 ≤ 3)) 13 r.byte.2 = _) ∨ _
    by_cases h : 3 < r.byte.1
    · exact .inl ⟨h, by rw [decide_eq_false (by omega)]; rfl⟩
    · exact .inr ⟨h, by show gd (decide (r.byte.1 ≤ 3)) 13 r.byte.2 = _; rw [decide_eq_true (by omega)]; rfl⟩
theorem ring_member (c : Cu) (hok : c.Ok) (p : List UInt8) (first : Bool) (hfp : first = true → p = []) : AC Tryz.prog 293 [.p 0 0, sv (bs p), bv first] [Cu.ob c] fun x σ => x = mbV (c.memg p).1 ∧ σ = [Cu.ob (c.memg p).2] := by
  refine AC.wk Tryz.func293 ?_
  obtain ⟨t, c1, q, n, c2, r, b, c3, u, k, c4, hb, hv, hby, hc, hqo, hro, huo, h4o, hk, hb2, hn2, w1, w2, w3, hm⟩ := mem_ways p c hok
  rw [hm]
  generalize hR : Cu.tokg k none c4 = R
  obtain ⟨ts, cf⟩ := R
  simp only
  have htri := less_tri t p
  have f1 : first = true → lessB p t = false → t = [] := fun h1 h2 => by
    cases hx : t with
    | nil => rfl
    | cons y z =>
      have h9 : lessB [] (y :: z) = true := less_nil_cons y z
      rw [hfp h1, hx, h9] at h2; cases h2
  have hbt := blob_Take c.s c.a c.e 32 hok (by decide)
  have hvt := varint_Take q.s q.a q.e hqo
  have hbyt := cursor_Byte r.s r.a r.e hro
  have hct := blob_Count u.s u.a u.e 16 huo (by decide)
  rw [hb] at hbt
  rw [hv] at hvt
  rw [hby] at hbyt
  rw [hc] at hct
  simp only at hbt hvt hbyt hct
  have hfa := fun f => cursor_Fail c1.s c1.a c1.e f
  have hfb := cursor_Fail c2.s c2.a c2.e 7
  have hfc := cursor_Fail c3.s c3.a c3.e 13
  clear hm hb hv hby hc hfp
  have h0R : (ts, cf) = ([] ++ (Cu.tokg (k - ([] : List Nat).length) ([] : List Nat).getLast? c4).1, (Cu.tokg (k - ([] : List Nat).length) ([] : List Nat).getLast? c4).2) := by
    rw [← hR]; rfl
  clear hR
  rcases w1 with ⟨a1, rfl⟩ | ⟨a1, a2, rfl⟩ | ⟨a1, a2, rfl⟩
  case' inl =>
    rcases w2 with ⟨a3, rfl⟩ | ⟨a3, rfl⟩ <;> rcases w3 with ⟨a4, rfl⟩ | ⟨a4, rfl⟩ <;>
    (focus (have kxs : 987654321 = 987654320 + 1 := rfl; have kk1 := uN [0] (hbt); have kk2 := uN [0] (hvt); have kk3 := uN [0] (hbyt); have kk4 := uN [0] (hct); have kk5 := uN [0] (hfa 14); have kk6 := uN [0] (hfb); have kk7 := uN [0] (hfc); (repeat' (first | (refine ADr.nil ?_; try clear hgv) | refine GW ?_ | refine AW.ret ?_ | (refine GC ?_ ?_ <;> intro h <;> (try simp only [hsB] at h) <;> try (exfalso; first | omega | contradiction)) | (refine GD ?_ ?_ <;> intro h <;> (try intro hgv) <;> (try simp only [Bool.not_true, Bool.not_false] at h) <;> (try simp only [h]) <;> (try simp only [hsB] at h) <;> try (exfalso; first | omega | contradiction)) | (refine GL ?_ ?_ <;> intro h <;> (try simp only [Bool.not_true, Bool.not_false] at h) <;> (try simp only [h]) <;> (try simp only [hsB] at h) <;> try (exfalso; first | omega | contradiction)) | fail)); all_goals clear kxs kk1 kk2 kk3 kk4 kk5 kk6 kk7))
  case' inr.inl =>
    have a2' : Op.bytesLess p t = false := a2
    obtain rfl : first = false := by
      cases first with
      | false => rfl
      | true => exact absurd (f1 rfl a2) a1
    rcases w2 with ⟨a3, rfl⟩ | ⟨a3, rfl⟩ <;> rcases w3 with ⟨a4, rfl⟩ | ⟨a4, rfl⟩ <;>
    (focus (have kxs := And.intro a1 (And.intro htri a2'); have kk1 := uN [0] (hbt); have kk2 := uN [0] (hvt); have kk3 := uN [0] (hbyt); have kk4 := uN [0] (hct); have kk5 := uN [0] (hfa 6); have kk6 := uN [0] (hfb); have kk7 := uN [0] (hfc); (repeat' (first | (refine ADr.nil ?_; try clear hgv) | refine GW ?_ | refine AW.ret ?_ | (refine GC ?_ ?_ <;> intro h <;> (try simp only [hsB] at h) <;> try (exfalso; first | omega | contradiction)) | (refine GD ?_ ?_ <;> intro h <;> (try intro hgv) <;> (try simp only [Bool.not_true, Bool.not_false] at h) <;> (try simp only [h]) <;> (try simp only [hsB] at h) <;> try (exfalso; first | omega | contradiction)) | (refine GL ?_ ?_ <;> intro h <;> (try simp only [Bool.not_true, Bool.not_false] at h) <;> (try simp only [h]) <;> (try simp only [hsB] at h) <;> try (exfalso; first | omega | contradiction)) | fail)); all_goals clear kxs kk1 kk2 kk3 kk4 kk5 kk6 kk7))
  case' inr.inr =>
    have a2' : Op.bytesLess p t = true := a2
    rcases w2 with ⟨a3, rfl⟩ | ⟨a3, rfl⟩ <;> rcases w3 with ⟨a4, rfl⟩ | ⟨a4, rfl⟩ <;>
    (focus (have kxs := And.intro a1 (And.intro htri a2'); have kk1 := uN [0] (hbt); have kk2 := uN [0] (hvt); have kk3 := uN [0] (hbyt); have kk4 := uN [0] (hct); have kk5 := uN [0] (hfb); have kk6 := uN [0] (hfc); (repeat' (first | (refine ADr.nil ?_; try clear hgv) | refine GW ?_ | refine AW.ret ?_ | (refine GC ?_ ?_ <;> intro h <;> (try simp only [hsB] at h) <;> try (exfalso; first | omega | contradiction)) | (refine GD ?_ ?_ <;> intro h <;> (try intro hgv) <;> (try simp only [Bool.not_true, Bool.not_false] at h) <;> (try simp only [h]) <;> (try simp only [hsB] at h) <;> try (exfalso; first | omega | contradiction)) | (refine GL ?_ ?_ <;> intro h <;> (try simp only [Bool.not_true, Bool.not_false] at h) <;> (try simp only [h]) <;> (try simp only [hsB] at h) <;> try (exfalso; first | omega | contradiction)) | fail)); all_goals clear kxs kk1 kk2 kk3 kk4 kk5 kk6))
  all_goals clear hbt hvt hbyt hct hfa hfb hfc f1 htri
  all_goals first | (exfalso; omega) | (exfalso; simp_all; done) | skip
  all_goals
    refine AW.birth 33 1 [] [(2, 3)] ?_
    refine AW.rounds [0, 6, 7, 8] (fun z : List Nat × Cu => [(0, .p 0 0), (6, .p 1 0), (7, .p 2 0), (8, iv .i64 k)])
      (fun z => [Cu.ob z.2, .box 314 [sv (bs []), iv .u64 0, iv .u8 0, .d (.s (.slice none 0 0))], .box 314 [sv (bs t), iv .u64 n, iv .u8 b, .o 3 z.1.length], .row 33 1 z.1.length (toksD z.1)])
      (fun z => z.1.length ≤ k ∧ z.2.Ok ∧ (z.2.e = 0 → rises none z.1 = true) ∧ (ts, cf) = (z.1 ++ (Cu.tokg (k - z.1.length) z.1.getLast? z.2).1, (Cu.tokg (k - z.1.length) z.1.getLast? z.2).2)) (fun z => k - z.1.length) ([], c4) ⟨Nat.zero_le _, h4o, fun _ => rfl, h0R⟩ rfl rfl (fun _ _ => by show 1 ≤ 4; decide) (fun _ _ => rfl) (fun _ _ => rfl) ?_
    rintro ⟨out, cu⟩ ⟨hol, hcok, hri, hRo⟩ J hJ
    simp only at hol hcok hri hRo
    clear h0R
    have herr := cursor_Err cu.s cu.a cu.e
    by_cases hce : cu.e = 0
    · by_cases hlen : out.length < k
      · have hri := hri hce
        obtain ⟨m, hm⟩ : ∃ m, k - out.length = m + 1 := ⟨k - out.length - 1, by omega⟩
        rw [hm] at hRo
        unfold Cu.tokg at hRo
        rw [if_neg (by simpa using hce)] at hRo
        have hft := fixed_Take cu.s cu.a cu.e hcok
        have hnum : Cu.tok out.getLast? cu = ((Cu.num8 ⟨cu.s, cu.a, cu.e⟩).1, gd (after out.getLast? (Cu.num8 ⟨cu.s, cu.a, cu.e⟩).1) 6 (Cu.num8 ⟨cu.s, cu.a, cu.e⟩).2) := rfl
        rw [hnum] at hRo
        have hn8 : (Cu.num8 ⟨cu.s, cu.a, cu.e⟩).2.Ok := Cu.num8_ok hcok
        generalize Cu.num8 ⟨cu.s, cu.a, cu.e⟩ = y at *
        obtain ⟨v, d⟩ := y
        simp only at hft hRo hn8
        have hl2 : (out ++ [v]).length = out.length + 1 := by simp
        have hrs := ring_rising (out ++ [v]) (by rw [hl2]; omega)
        rw [hl2, ← toks_snoc, rises_snoc0 out v hri] at hrs
        have hfd := cursor_Fail d.s d.a d.e 6
        have go : ∀ T' σ', keepT T' [0, 6, 7, 8] = [(0, .p 0 0), (6, .p 1 0), (7, .p 2 0), (8, iv .i64 k)] → σ'.take 4 = [Cu.ob (gd (after out.getLast? v) 6 d), .box 314 [sv (bs []), iv .u64 0, iv .u8 0, .d (.s (.slice none 0 0))], .box 314 [sv (bs t), iv .u64 n, iv .u8 b, .o 3 (out.length + 1)], .row 33 1 (out.length + 1) (toksD out ++ [D.s (.int .u64 (v : Nat))])] → J T' σ' := fun T' σ' g1 g2 => by
          refine hJ (out ++ [v], gd (after out.getLast? v) 6 d) T' σ' (by simp only [hl2]; omega) ⟨by simp only [hl2]; omega, gd_ok hn8, fun h => ?_, ?_⟩ g1 (by simp only [hl2, ← toks_snoc]; exact g2)
          · rw [rises_snoc0 out v hri]; exact (gd_e (by decide) h).1
          · simp only [hl2, List.getLast?_append, List.getLast?_singleton, Option.some_or]
            rw [hRo, show k - (out.length + 1) = m by omega]
            simp only [List.append_assoc, List.cons_append, List.nil_append]
        clear hJ hRo hnum hri
        have hlk : (out.length : Int) < k := by omega
        cases haf : after out.getLast? v with
        | true =>
          rw [haf] at hrs go
          focus (have kxs : 987654321 = 987654320 + 1 := rfl; have kk1 := uN [0] (herr); have kk2 := uN [0] (hft); have kk3 := uL (hrs); have kk4 := uN [0] (hfd); (repeat' (first | (refine ADr.nil ?_; try clear hgv) | refine GW ?_ | refine AW.ret ?_ | (refine GC ?_ ?_ <;> intro h <;> (try simp only [hsB] at h) <;> try (exfalso; first | omega | contradiction)) | (refine GD ?_ ?_ <;> intro h <;> (try intro hgv) <;> (try simp only [Bool.not_true, Bool.not_false] at h) <;> (try simp only [h]) <;> (try simp only [hsB] at h) <;> try (exfalso; first | omega | contradiction)) | (refine GL ?_ ?_ <;> intro h <;> (try simp only [Bool.not_true, Bool.not_false] at h) <;> (try simp only [h]) <;> (try simp only [hsB] at h) <;> try (exfalso; first | omega | contradiction)) | fail)); all_goals clear kxs kk1 kk2 kk3 kk4)
          all_goals first | exact go _ _ rfl rfl | (exfalso; omega) | (exfalso; simp_all; done)
        | false =>
          rw [haf] at hrs go
          focus (have kxs : 987654321 = 987654320 + 1 := rfl; have kk1 := uN [0] (herr); have kk2 := uN [0] (hft); have kk3 := uL (hrs); have kk4 := uN [0] (hfd); (repeat' (first | (refine ADr.nil ?_; try clear hgv) | refine GW ?_ | refine AW.ret ?_ | (refine GC ?_ ?_ <;> intro h <;> (try simp only [hsB] at h) <;> try (exfalso; first | omega | contradiction)) | (refine GD ?_ ?_ <;> intro h <;> (try intro hgv) <;> (try simp only [Bool.not_true, Bool.not_false] at h) <;> (try simp only [h]) <;> (try simp only [hsB] at h) <;> try (exfalso; first | omega | contradiction)) | (refine GL ?_ ?_ <;> intro h <;> (try simp only [Bool.not_true, Bool.not_false] at h) <;> (try simp only [h]) <;> (try simp only [hsB] at h) <;> try (exfalso; first | omega | contradiction)) | fail)); all_goals clear kxs kk1 kk2 kk3 kk4)
          all_goals first | exact go _ _ rfl rfl | (exfalso; omega) | (exfalso; simp_all; done)
      · rw [show k - out.length = 0 by omega] at hRo
        unfold Cu.tokg at hRo
        simp only [List.append_nil] at hRo
        obtain ⟨rfl, rfl⟩ := Prod.mk.inj hRo
        clear hJ
        focus (have kxs : 987654321 = 987654320 + 1 := rfl; have kk1 := uN [0] (herr); (repeat' (first | (refine ADr.nil ?_; try clear hgv) | refine GO ?_ | refine AW.ret ?_ | (refine GC ?_ ?_ <;> intro h <;> (try simp only [hsB] at h) <;> try (exfalso; first | omega | contradiction)) | (refine GD ?_ ?_ <;> intro h <;> (try intro hgv) <;> (try simp only [Bool.not_true, Bool.not_false] at h) <;> (try simp only [h]) <;> (try simp only [hsB] at h) <;> try (exfalso; first | omega | contradiction)) | (refine GL ?_ ?_ <;> intro h <;> (try simp only [Bool.not_true, Bool.not_false] at h) <;> (try simp only [h]) <;> (try simp only [hsB] at h) <;> try (exfalso; first | omega | contradiction)) | fail)); all_goals clear kxs kk1)
        all_goals first | (((all_goals first | refine RetQ.yr 1 (xs := [.a [sv (bs t), iv .u64 n, iv .u8 b, .o 3 ts.length]]) ⟨?_, ?_⟩ | refine RetQ.yn 1 (xs := [.a [sv (bs t), iv .u64 n, iv .u8 b, .o 3 ts.length]]) ⟨?_, ?_⟩); (all_goals exact fx)); done) | (exfalso; omega) | (exfalso; simp_all; done)
    · rw [tokg_stuck hce] at hRo
      simp only [List.append_nil] at hRo
      obtain ⟨rfl, rfl⟩ := Prod.mk.inj hRo
      clear hJ
      focus (have kxs : 987654321 = 987654320 + 1 := rfl; have kk1 := uN [0] (herr); (repeat' (first | (refine ADr.nil ?_; try clear hgv) | refine GO ?_ | refine AW.ret ?_ | (refine GC ?_ ?_ <;> intro h <;> (try simp only [hsB] at h) <;> try (exfalso; first | omega | contradiction)) | (refine GD ?_ ?_ <;> intro h <;> (try intro hgv) <;> (try simp only [Bool.not_true, Bool.not_false] at h) <;> (try simp only [h]) <;> (try simp only [hsB] at h) <;> try (exfalso; first | omega | contradiction)) | (refine GL ?_ ?_ <;> intro h <;> (try simp only [Bool.not_true, Bool.not_false] at h) <;> (try simp only [h]) <;> (try simp only [hsB] at h) <;> try (exfalso; first | omega | contradiction)) | fail)); all_goals clear kxs kk1)
      all_goals first | (((all_goals first | refine RetQ.yr 1 (xs := [.a [sv (bs t), iv .u64 n, iv .u8 b, .o 3 ts.length]]) ⟨?_, ?_⟩ | refine RetQ.yn 1 (xs := [.a [sv (bs t), iv .u64 n, iv .u8 b, .o 3 ts.length]]) ⟨?_, ?_⟩); (all_goals exact fx)); done) | (exfalso; omega) | (exfalso; simp_all; done)
end Go.AW
