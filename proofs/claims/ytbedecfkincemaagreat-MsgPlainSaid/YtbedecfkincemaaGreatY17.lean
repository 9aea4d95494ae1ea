/-
  rings that are written: the program's and the document's.
-/
import Derived.Test.YtbedecfkincemaaGreatY16
import Derived.Test.YtbedecfkincemaaGreatY04
import Derived.Test.YtbedecfkincemaaGreatY13
import Derived.Test.YtbedecfkincemaaGreatY12
import Derived.Test.YtbedecfkincemaaGreatY06
import Derived.Test.YtbedecfkincemaaGreatY08
namespace Go.AW
open Go Go.Proofs
set_option maxHeartbeats 4000000
set_option maxRecDepth 10000
set_option linter.unusedSimpArgs false
set_option linter.unusedVariables false
attribute [local irreducible] thenQ blockQ RetQ AL AW AC AOp

theorem pe_blob {b s : List UInt8} (hs : s.length ≤ 32) (hm : b.length + (eblob s).length ≤ 65536) : Pe.blob ⟨b, 65536, 0⟩ 32 s = ⟨b ++ eblob s, 65536, 0⟩ :=
  (pens_blob 32).fit ⟨b, 65536, 0⟩ s rfl hs (by show ((b.length + (eblob s).length : Nat) : Int) ≤ (65536 : Int); omega)
theorem pe_count {b : List UInt8} {n : Nat} (k : Nat) (hs : n ≤ k) (hm : b.length + (vput n).length ≤ 65536) : Pe.count ⟨b, 65536, 0⟩ (k : Int) n = ⟨b ++ vput n, 65536, 0⟩ :=
  (pens_count (k : Int)).fit ⟨b, 65536, 0⟩ n rfl (by simpa using hs) (by show ((b.length + (vput n).length : Nat) : Int) ≤ (65536 : Int); omega)
theorem pe_text {b s : List UInt8} (hm : b.length + s.length ≤ 65536) : Pe.text ⟨b, 65536, 0⟩ s = ⟨b ++ s, 65536, 0⟩ :=
  pens_text.fit ⟨b, 65536, 0⟩ s rfl trivial (by show ((b.length + s.length : Nat) : Int) ≤ (65536 : Int); omega)
theorem pe_ok {b : List UInt8} (h : b.length ≤ 65536) : Pe.Ok ⟨b, 65536, 0⟩ := ⟨by show (0 : Int) ≤ 65536; decide, by show (65536 : Int) ≤ _; decide, by show b.length ≤ _; omega⟩

theorem ring_rest (b : List UInt8) (x : Mb) (hst : x.st < 256) (ht : x.toks.length ≤ 16) (hf : ∀ t ∈ x.toks, t < 18446744073709551616) (hm : b.length + (estt x.st ++ etoks x.toks).length ≤ 65536) :
    AC Tryz.prog 311 [.p 0 0, mbV x] (Pe.obs ⟨b, 65536, 0⟩) fun y σ => y = .t [] ∧ σ = Pe.obs ⟨b ++ (estt x.st ++ etoks x.toks), 65536, 0⟩ := by
  refine AC.walk Tryz.func311 rfl (by decide) (of_decide_eq_true rfl) ?_
  obtain ⟨nm, ep, st, tk⟩ := x
  simp only at hst ht hf hm ⊢
  have hl : (estt st ++ etoks tk).length = 1 + ((vput tk.length).length + tk.length * 8) := by
    unfold estt etoks; simp only [List.length_append, enc8_flat, List.length_cons, List.length_nil]; try omega
  rw [hl] at hm
  have h1 := pen_Byte1 b 65536 0 (pe_ok (by omega)) (.inl (by decide)) (UInt8.ofNat st)
  rw [u8_ofNat hst, pe_text (by simp only [List.length_cons, List.length_nil]; omega)] at h1
  have hl1 : (b ++ [UInt8.ofNat st]).length = b.length + 1 := by simp
  have h2 := blob_PutCount (b ++ [UInt8.ofNat st]) 65536 0 16 (pe_ok (by omega)) tk.length (by omega) (.inl (by decide))
  rw [show Pe.count ⟨b ++ [UInt8.ofNat st], 65536, 0⟩ 16 tk.length = _ from pe_count 16 ht (by omega)] at h2
  have hl2 : ((b ++ [UInt8.ofNat st]) ++ vput tk.length).length = b.length + 1 + (vput tk.length).length := by simp only [List.length_append, List.length_cons, List.length_nil]; try omega
  have h3 := fixed_Put ((b ++ [UInt8.ofNat st]) ++ vput tk.length) 65536 tk hf (by omega) (by rw [hl2]; omega) (by decide)
  have e : ((b ++ [UInt8.ofNat st]) ++ vput tk.length) ++ (tk.map enc8).flatten = b ++ (estt st ++ etoks tk) := by unfold estt etoks; simp only [List.append_assoc]
  rw [e] at h3
  generalize b ++ (estt st ++ etoks tk) = b3 at *
  generalize b ++ [UInt8.ofNat st] ++ vput tk.length = b2 at *
  generalize b ++ [UInt8.ofNat st] = b1 at *
  focus (have kxs : 987654321 = 987654320 + 1 := rfl; have kk1 := uN [0, 1] (h1); have kk2 := uN [0, 1] (h2); have kk3 := uN [0, 1] (h3); (repeat' (first | refine G ?_ | refine AW.ret ?_ | (refine GC ?_ ?_ <;> intro h <;> (try simp only [hsB] at h) <;> try (exfalso; first | omega | contradiction)) | (refine GL ?_ ?_ <;> intro h <;> (try simp only [Bool.not_true, Bool.not_false] at h) <;> (try simp only [h]) <;> (try simp only [hsB] at h) <;> try (exfalso; first | omega | contradiction)) | fail)); all_goals clear kxs kk1 kk2 kk3)
  all_goals first | ((all_goals first | exact RetQ.fr 2 | exact RetQ.fn 2 | fail); done) | (exfalso; omega) | (exfalso; simp_all; done)
/-- A right ring's text, as far as place i. -/
def rtext (l : Ring) (i : Nat) : List UInt8 := vput l.length ++ ((l.take i).map emem).flatten
theorem rtext_next {l r : Ring} {x : Mb} {i : Nat} (h : l.drop i = x :: r) : rtext l (i + 1) = rtext l i ++ emem x := by
  unfold rtext
  rw [next_take h, List.map_append, List.flatten_append, List.append_assoc]; simp
theorem rtext_all (l : Ring) {i : Nat} (h : l.length ≤ i) : rtext l i = ering l := by
  unfold rtext ering; rw [List.take_of_length_le h]
theorem rtext_len (l : Ring) (i : Nat) : (rtext l i).length ≤ (ering l).length := by
  have : ering l = rtext l i ++ ((l.drop i).map emem).flatten := by
    unfold ering rtext
    rw [List.append_assoc, ← List.flatten_append, ← List.map_append, List.take_append_drop]
  rw [this, List.length_append]; omega
theorem ring_Encode (l : Ring) (hf : l.fits) : AC Tryz.prog 276 [.d (.l l.length (ringD l))] [] fun x σ => x = .t [sv (bs (ringe l).1), iv .i64 (ringe l).2] ∧ σ = [] := by
  refine AC.walk Tryz.func276 rfl (by decide) (of_decide_eq_true rfl) ?_
  have hck := ring_Check l hf
  unfold ringe
  by_cases hc : Ring.check l = 0
  case neg =>
    rw [if_pos hc]
    generalize Ring.check l = f at *
    focus (have kxs : 987654321 = 987654320 + 1 := rfl; have kk1 := uN [] (hck); (repeat' (first | refine G ?_ | refine AW.ret ?_ | (refine GC ?_ ?_ <;> intro h <;> (try simp only [hsB] at h) <;> try (exfalso; first | omega | contradiction)) | (refine GL ?_ ?_ <;> intro h <;> (try simp only [Bool.not_true, Bool.not_false] at h) <;> (try simp only [h]) <;> (try simp only [hsB] at h) <;> try (exfalso; first | omega | contradiction)) | fail)); all_goals clear kxs kk1)
    all_goals first | ((all_goals first | exact RetQ.fr 0 | exact RetQ.fn 0 | fail); done) | (exfalso; omega) | (exfalso; simp_all; done)
  rw [if_neg (by simpa using hc)]
  rw [hc] at hck
  obtain ⟨p1, p2⟩ := Ring.check_parts hc
  have hg : gring l := ⟨hc, fun x hx => (hf.2 x hx).1⟩
  have hel := ering_len hg
  have hnew := pen_New 65536 (by decide)
  rw [if_neg (by decide)] at hnew
  have hvl := vput_len10 (n := l.length) (by omega)
  have hcnt := blob_PutCount [] 65536 0 32 (pe_ok (by decide)) l.length (by omega) (.inl (by decide))
  rw [show Pe.count ⟨[], 65536, 0⟩ 32 l.length = _ from pe_count 32 p1 (by simp only [List.length_nil]; omega), List.nil_append] at hcnt
  have hr0 : vput l.length = rtext l 0 := by unfold rtext; simp
  rw [hr0] at hcnt
  have hrl := rtext_len l
  focus (have kxs : 987654321 = 987654320 + 1 := rfl; have kk1 := uN [] (hck); have kk2 := uN [] (hnew); have kk3 := uN [0, 1] (hcnt); (repeat' (first | refine G ?_ | refine AW.ret ?_ | (refine GC ?_ ?_ <;> intro h <;> (try simp only [hsB] at h) <;> try (exfalso; first | omega | contradiction)) | (refine GL ?_ ?_ <;> intro h <;> (try simp only [Bool.not_true, Bool.not_false] at h) <;> (try simp only [h]) <;> (try simp only [hsB] at h) <;> try (exfalso; first | omega | contradiction)) | fail)); all_goals clear kxs kk1 kk2 kk3)
  all_goals first | (exfalso; omega) | (exfalso; simp_all; done) | skip
  refine AW.rounds [2, 3, 5, 18, 19, 20] (fun i : Nat => [(2, sv (bs [])), (3, iv .i64 0), (5, .p 0 0), (18, .d (.l l.length (ringD l))), (19, iv .i64 l.length), (20, iv .i64 i)]) (fun i => Pe.obs ⟨rtext l i, 65536, 0⟩)
    (fun i => i ≤ l.length) (fun i => l.length - i) 0 (Nat.zero_le _) rfl rfl (fun _ _ => Nat.le_of_ble_eq_true rfl) (fun _ _ => rfl) (fun _ _ => rfl) ?_
  intro i hi J hJ
  by_cases hil : i < l.length
  case neg =>
    have hend := pen_End (rtext l i) 65536 0 (pe_ok (by have := hrl i; omega))
    have hfin : Pe.fin ⟨rtext l i, 65536, 0⟩ = (rtext l i, 0) := by unfold Pe.fin; rw [if_neg (by simp)]
    rw [hfin] at hend
    rw [← rtext_all l (i := i) (by omega)]
    generalize rtext l i = q at *
    simp only at hend
    focus (have kxs : 987654321 = 987654320 + 1 := rfl; have kk1 := uN [0, 1] (hend); (repeat' (first | refine G ?_ | refine AW.ret ?_ | (refine GC ?_ ?_ <;> intro h <;> (try simp only [hsB] at h) <;> try (exfalso; first | omega | contradiction)) | (refine GL ?_ ?_ <;> intro h <;> (try simp only [Bool.not_true, Bool.not_false] at h) <;> (try simp only [h]) <;> (try simp only [hsB] at h) <;> try (exfalso; first | omega | contradiction)) | fail)); all_goals clear kxs kk1)
    all_goals first | ((all_goals first | exact RetQ.fr 0 | exact RetQ.fn 0 | fail); done) | (exfalso; omega) | (exfalso; simp_all; done)
  obtain ⟨x, r, hd⟩ := next_at hil
  have hcd := ring_drop hd
  obtain ⟨q1, q2, q3, q4, q5, q6⟩ := p2 x (next_mem hd)
  obtain ⟨⟨f1, f2, f3⟩, f4, f5⟩ := hf.2 x (next_mem hd)
  have hnx := rtext_next hd
  have go : ∀ T' σ', keepT T' [2, 3, 5, 18, 19, 20] = [(2, sv (bs [])), (3, iv .i64 0), (5, .p 0 0), (18, .d (.l l.length (ringD l))), (19, iv .i64 l.length), (20, iv .i64 ((i : Int) + 1))] → σ'.take 2 = Pe.obs ⟨rtext l i ++ emem x, 65536, 0⟩ → J T' σ' := fun T' σ' g1 g2 =>
    hJ (i + 1) T' σ' (by omega) hil g1 (by rw [hnx]; exact g2)
  have hlen : (rtext l i).length + (emem x).length ≤ 7000 := by have := hrl (i + 1); rw [hnx, List.length_append] at this; omega
  clear hJ hnx hrl
  have hml : (emem x).length = (eblob x.name).length + ((vput x.ep).length + (estt x.st ++ etoks x.toks).length) := by unfold emem; simp only [List.length_append]
  generalize rtext l i = q at *
  have h1 := blob_Put1 q x.name 65536 0 32 (pe_ok (by omega)) f4 (.inl (by decide))
  rw [pe_blob q1 (by omega)] at h1
  have hl1 : (q ++ eblob x.name).length = q.length + (eblob x.name).length := List.length_append
  have h2 := varint_Put1 (q ++ eblob x.name) 65536 0 (pe_ok (by omega)) x.ep f1 (.inl (by decide))
  rw [pe_text (by omega)] at h2
  have hl2 : ((q ++ eblob x.name) ++ vput x.ep).length = q.length + (eblob x.name).length + (vput x.ep).length := by simp only [List.length_append]
  have h3 := ring_rest ((q ++ eblob x.name) ++ vput x.ep) x f2 q5 f3 (by omega)
  have e : ((q ++ eblob x.name) ++ vput x.ep) ++ (estt x.st ++ etoks x.toks) = q ++ emem x := by unfold emem; simp only [List.append_assoc]
  rw [e] at h3
  generalize q ++ emem x = b3 at *
  generalize (q ++ eblob x.name) ++ vput x.ep = b2 at *
  generalize q ++ eblob x.name = b1 at *
  focus (have kxs := hcd; have kk1 := uN [0, 1] (h1); have kk2 := uN [0, 1] (h2); have kk3 := uN [0, 1] (h3); (repeat' (first | refine G ?_ | refine AW.ret ?_ | (refine GC ?_ ?_ <;> intro h <;> (try simp only [hsB] at h) <;> try (exfalso; first | omega | contradiction)) | (refine GL ?_ ?_ <;> intro h <;> (try simp only [Bool.not_true, Bool.not_false] at h) <;> (try simp only [h]) <;> (try simp only [hsB] at h) <;> try (exfalso; first | omega | contradiction)) | fail)); all_goals clear kxs kk1 kk2 kk3)
  all_goals first | exact go _ _ rfl rfl | (exfalso; omega) | (exfalso; simp_all; done)

end Go.AW
/-
  a message's parts: how they are written.
-/
namespace Go.AW
open Go Go.Proofs
set_option maxHeartbeats 4000000
set_option maxRecDepth 10000
set_option linter.unusedSimpArgs false
set_option linter.unusedVariables false
attribute [local irreducible] thenQ blockQ RetQ AL AW AC AOp

theorem m_len (m : Mg) (hf : m.fits) : m.key.length ≤ 9223372036854775807 ∧ m.val.length ≤ 9223372036854775807 ∧ m.pre.length ≤ 9223372036854775807 ∧ m.txt.length ≤ 9223372036854775807 := by
  obtain ⟨_, _, f1, _, _, _, _, f2, f3, _, _, _, f4⟩ := hf
  exact ⟨f1, f2, f3, f4⟩
theorem put_Key (m : Mg) (hf : m.fits) (b : List UInt8) (e : Int) (ok : Pe.Ok ⟨b, 65536, e⟩) : AC Tryz.prog 216 [.p 0 0, mgV m, .p 2 0, .p 3 0] (Pe.obs ⟨b, 65536, e⟩ ++ [.box 3 [iv .i64 128], .box 231 [.f (.func 150) [] []]]) fun y σ => y = .t [] ∧ σ = Pe.obs (Pe.blob ⟨b, 65536, e⟩ 128 m.key) ++ [.box 3 [iv .i64 128], .box 231 [.f (.func 150) [] []]] := by
  refine AC.walk Tryz.func216 rfl (by decide) (of_decide_eq_true rfl) ?_
  have hof := of_Key (mgC m) rfl
  have hb := blob_Put1 b m.key 65536 e 128 ok (m_len m hf).1 (.inl (by decide))
  generalize Pe.blob ⟨b, 65536, e⟩ 128 m.key = r at *
  focus (have kxs : 987654321 = 987654320 + 1 := rfl; have kk1 := uN [4] (hof); have kk2 := uN [0, 1] (hb); (repeat' (first | (refine ADr.nil ?_; try clear hgv) | refine GW ?_ | refine AW.ret ?_ | (refine GC ?_ ?_ <;> intro h <;> (try simp only [hsB] at h) <;> try (exfalso; first | omega | contradiction)) | (refine GD ?_ ?_ <;> intro h <;> (try intro hgv) <;> (try simp only [Bool.not_true, Bool.not_false] at h) <;> (try simp only [h]) <;> (try simp only [hsB] at h) <;> try (exfalso; first | omega | contradiction)) | (refine GL ?_ ?_ <;> intro h <;> (try simp only [Bool.not_true, Bool.not_false] at h) <;> (try simp only [h]) <;> (try simp only [hsB] at h) <;> try (exfalso; first | omega | contradiction)) | fail)); all_goals clear kxs kk1 kk2)
  all_goals first | ((all_goals first | exact RetQ.fr 4 | exact RetQ.fn 4 | fail); done) | (exfalso; omega) | (exfalso; simp_all; done)
theorem put_Text (m : Mg) (hf : m.fits) (b : List UInt8) (e : Int) (ok : Pe.Ok ⟨b, 65536, e⟩) : AC Tryz.prog 216 [.p 0 0, mgV m, .p 2 0, .p 3 0] (Pe.obs ⟨b, 65536, e⟩ ++ [.box 3 [iv .i64 64], .box 231 [.f (.func 153) [] []]]) fun y σ => y = .t [] ∧ σ = Pe.obs (Pe.blob ⟨b, 65536, e⟩ 64 m.txt) ++ [.box 3 [iv .i64 64], .box 231 [.f (.func 153) [] []]] := by
  refine AC.walk Tryz.func216 rfl (by decide) (of_decide_eq_true rfl) ?_
  have hof := of_Text (mgC m) rfl
  have hb := blob_Put1 b m.txt 65536 e 64 ok (m_len m hf).2.2.2 (.inl (by decide))
  generalize Pe.blob ⟨b, 65536, e⟩ 64 m.txt = r at *
  focus (have kxs : 987654321 = 987654320 + 1 := rfl; have kk1 := uN [4] (hof); have kk2 := uN [0, 1] (hb); (repeat' (first | (refine ADr.nil ?_; try clear hgv) | refine GW ?_ | refine AW.ret ?_ | (refine GC ?_ ?_ <;> intro h <;> (try simp only [hsB] at h) <;> try (exfalso; first | omega | contradiction)) | (refine GD ?_ ?_ <;> intro h <;> (try intro hgv) <;> (try simp only [Bool.not_true, Bool.not_false] at h) <;> (try simp only [h]) <;> (try simp only [hsB] at h) <;> try (exfalso; first | omega | contradiction)) | (refine GL ?_ ?_ <;> intro h <;> (try simp only [Bool.not_true, Bool.not_false] at h) <;> (try simp only [h]) <;> (try simp only [hsB] at h) <;> try (exfalso; first | omega | contradiction)) | fail)); all_goals clear kxs kk1 kk2)
  all_goals first | ((all_goals first | exact RetQ.fr 4 | exact RetQ.fn 4 | fail); done) | (exfalso; omega) | (exfalso; simp_all; done)
theorem put_Value (m : Mg) (hf : m.fits) (b : List UInt8) (e : Int) (ok : Pe.Ok ⟨b, 65536, e⟩) : AC Tryz.prog 216 [.p 0 0, mgV m, .p 2 0, .p 3 0] (Pe.obs ⟨b, 65536, e⟩ ++ [.box 3 [iv .i64 32768], .box 231 [.f (.func 161) [] []]]) fun y σ => y = .t [] ∧ σ = Pe.obs (Pe.blob ⟨b, 65536, e⟩ 32768 m.val) ++ [.box 3 [iv .i64 32768], .box 231 [.f (.func 161) [] []]] := by
  refine AC.walk Tryz.func216 rfl (by decide) (of_decide_eq_true rfl) ?_
  have hof := of_Value (mgC m) rfl
  have hb := blob_Put1 b m.val 65536 e 32768 ok (m_len m hf).2.1 (.inl (by decide))
  generalize Pe.blob ⟨b, 65536, e⟩ 32768 m.val = r at *
  focus (have kxs : 987654321 = 987654320 + 1 := rfl; have kk1 := uN [4] (hof); have kk2 := uN [0, 1] (hb); (repeat' (first | (refine ADr.nil ?_; try clear hgv) | refine GW ?_ | refine AW.ret ?_ | (refine GC ?_ ?_ <;> intro h <;> (try simp only [hsB] at h) <;> try (exfalso; first | omega | contradiction)) | (refine GD ?_ ?_ <;> intro h <;> (try intro hgv) <;> (try simp only [Bool.not_true, Bool.not_false] at h) <;> (try simp only [h]) <;> (try simp only [hsB] at h) <;> try (exfalso; first | omega | contradiction)) | (refine GL ?_ ?_ <;> intro h <;> (try simp only [Bool.not_true, Bool.not_false] at h) <;> (try simp only [h]) <;> (try simp only [hsB] at h) <;> try (exfalso; first | omega | contradiction)) | fail)); all_goals clear kxs kk1 kk2)
  all_goals first | ((all_goals first | exact RetQ.fr 4 | exact RetQ.fn 4 | fail); done) | (exfalso; omega) | (exfalso; simp_all; done)
theorem put_Prefix (m : Mg) (hf : m.fits) (b : List UInt8) (e : Int) (ok : Pe.Ok ⟨b, 65536, e⟩) : AC Tryz.prog 216 [.p 0 0, mgV m, .p 2 0, .p 3 0] (Pe.obs ⟨b, 65536, e⟩ ++ [.box 3 [iv .i64 31], .box 231 [.f (.func 162) [] []]]) fun y σ => y = .t [] ∧ σ = Pe.obs (Pe.blob ⟨b, 65536, e⟩ 31 m.pre) ++ [.box 3 [iv .i64 31], .box 231 [.f (.func 162) [] []]] := by
  refine AC.walk Tryz.func216 rfl (by decide) (of_decide_eq_true rfl) ?_
  have hof := of_Prefix (mgC m) rfl
  have hb := blob_Put1 b m.pre 65536 e 31 ok (m_len m hf).2.2.1 (.inl (by decide))
  generalize Pe.blob ⟨b, 65536, e⟩ 31 m.pre = r at *
  focus (have kxs : 987654321 = 987654320 + 1 := rfl; have kk1 := uN [4] (hof); have kk2 := uN [0, 1] (hb); (repeat' (first | (refine ADr.nil ?_; try clear hgv) | refine GW ?_ | refine AW.ret ?_ | (refine GC ?_ ?_ <;> intro h <;> (try simp only [hsB] at h) <;> try (exfalso; first | omega | contradiction)) | (refine GD ?_ ?_ <;> intro h <;> (try intro hgv) <;> (try simp only [Bool.not_true, Bool.not_false] at h) <;> (try simp only [h]) <;> (try simp only [hsB] at h) <;> try (exfalso; first | omega | contradiction)) | (refine GL ?_ ?_ <;> intro h <;> (try simp only [Bool.not_true, Bool.not_false] at h) <;> (try simp only [h]) <;> (try simp only [hsB] at h) <;> try (exfalso; first | omega | contradiction)) | fail)); all_goals clear kxs kk1 kk2)
  all_goals first | ((all_goals first | exact RetQ.fr 4 | exact RetQ.fn 4 | fail); done) | (exfalso; omega) | (exfalso; simp_all; done)
theorem put_Found (m : Mg) (b : List UInt8) (e : Int) (ok : Pe.Ok ⟨b, 65536, e⟩) : AC Tryz.prog 222 [.p 0 0, mgV m, .p 2 0] (Pe.obs ⟨b, 65536, e⟩ ++ [.box 234 [.f (.func 152) [] []]]) fun y σ => y = .t [] ∧ σ = Pe.obs (Pe.flag ⟨b, 65536, e⟩ m.found) ++ [.box 234 [.f (.func 152) [] []]] := by
  refine AC.walk Tryz.func222 rfl (by decide) (of_decide_eq_true rfl) ?_
  have hof := of_Found (mgC m) rfl
  have hb := blob_PutFlag b 65536 e ok m.found (.inl (by decide))
  generalize Pe.flag ⟨b, 65536, e⟩ m.found = r at *
  focus (have kxs : 987654321 = 987654320 + 1 := rfl; have kk1 := uN [3] (hof); have kk2 := uN [0, 1] (hb); (repeat' (first | refine G ?_ | refine AW.ret ?_ | (refine GC ?_ ?_ <;> intro h <;> (try simp only [hsB] at h) <;> try (exfalso; first | omega | contradiction)) | (refine GL ?_ ?_ <;> intro h <;> (try simp only [Bool.not_true, Bool.not_false] at h) <;> (try simp only [h]) <;> (try simp only [hsB] at h) <;> try (exfalso; first | omega | contradiction)) | fail)); all_goals clear kxs kk1 kk2)
  all_goals first | ((all_goals first | exact RetQ.fr 3 | exact RetQ.fn 3 | fail); done) | (exfalso; omega) | (exfalso; simp_all; done)
theorem put_Dead (m : Mg) (b : List UInt8) (e : Int) (ok : Pe.Ok ⟨b, 65536, e⟩) : AC Tryz.prog 222 [.p 0 0, mgV m, .p 2 0] (Pe.obs ⟨b, 65536, e⟩ ++ [.box 234 [.f (.func 158) [] []]]) fun y σ => y = .t [] ∧ σ = Pe.obs (Pe.flag ⟨b, 65536, e⟩ m.dead) ++ [.box 234 [.f (.func 158) [] []]] := by
  refine AC.walk Tryz.func222 rfl (by decide) (of_decide_eq_true rfl) ?_
  have hof := of_Dead (mgC m) rfl
  have hb := blob_PutFlag b 65536 e ok m.dead (.inl (by decide))
  generalize Pe.flag ⟨b, 65536, e⟩ m.dead = r at *
  focus (have kxs : 987654321 = 987654320 + 1 := rfl; have kk1 := uN [3] (hof); have kk2 := uN [0, 1] (hb); (repeat' (first | refine G ?_ | refine AW.ret ?_ | (refine GC ?_ ?_ <;> intro h <;> (try simp only [hsB] at h) <;> try (exfalso; first | omega | contradiction)) | (refine GL ?_ ?_ <;> intro h <;> (try simp only [Bool.not_true, Bool.not_false] at h) <;> (try simp only [h]) <;> (try simp only [hsB] at h) <;> try (exfalso; first | omega | contradiction)) | fail)); all_goals clear kxs kk1 kk2)
  all_goals first | ((all_goals first | exact RetQ.fr 3 | exact RetQ.fn 3 | fail); done) | (exfalso; omega) | (exfalso; simp_all; done)
theorem put_ctx (m : Mg) (hf : m.fits) (b : List UInt8) (e : Int) (ok : Pe.Ok ⟨b, 65536, e⟩) : AC Tryz.prog 254 [.p 0 0, mgV m] (Pe.obs ⟨b, 65536, e⟩) fun y σ => y = .t [] ∧ σ = Pe.obs (Pe.vec ⟨b, 65536, e⟩ m.ctx) := by
  refine AC.walk Tryz.func254 rfl (by decide) (of_decide_eq_true rfl) ?_
  have hb := vcode_Put1 b 65536 e ok m.ctx hf.2.2.2.2.2.1 (.inl (by decide))
  generalize Pe.vec ⟨b, 65536, e⟩ m.ctx = r at *
  focus (have kxs : 987654321 = 987654320 + 1 := rfl; have kk1 := uN [0, 1] (hb); (repeat' (first | refine G ?_ | refine AW.ret ?_ | (refine GC ?_ ?_ <;> intro h <;> (try simp only [hsB] at h) <;> try (exfalso; first | omega | contradiction)) | (refine GL ?_ ?_ <;> intro h <;> (try simp only [Bool.not_true, Bool.not_false] at h) <;> (try simp only [h]) <;> (try simp only [hsB] at h) <;> try (exfalso; first | omega | contradiction)) | fail)); all_goals clear kxs kk1)
  all_goals first | ((all_goals first | exact RetQ.fr 2 | exact RetQ.fn 2 | fail); done) | (exfalso; omega) | (exfalso; simp_all; done)
theorem put_meta (m : Mg) (hf : m.fits) (b : List UInt8) (e : Int) (ok : Pe.Ok ⟨b, 65536, e⟩) : AC Tryz.prog 260 [.p 0 0, mgV m] (Pe.obs ⟨b, 65536, e⟩) fun y σ => y = .t [] ∧ σ = Pe.obs (Pe.prs ⟨b, 65536, e⟩ m.meta_) := by
  refine AC.walk Tryz.func260 rfl (by decide) (of_decide_eq_true rfl) ?_
  have hb := pairs_Put b 65536 e ok m.meta_ hf.2.2.2.2.2.2.1 (.inl (by decide))
  generalize Pe.prs ⟨b, 65536, e⟩ m.meta_ = r at *
  focus (have kxs : 987654321 = 987654320 + 1 := rfl; have kk1 := uN [0, 1] (hb); (repeat' (first | refine G ?_ | refine AW.ret ?_ | (refine GC ?_ ?_ <;> intro h <;> (try simp only [hsB] at h) <;> try (exfalso; first | omega | contradiction)) | (refine GL ?_ ?_ <;> intro h <;> (try simp only [Bool.not_true, Bool.not_false] at h) <;> (try simp only [h]) <;> (try simp only [hsB] at h) <;> try (exfalso; first | omega | contradiction)) | fail)); all_goals clear kxs kk1)
  all_goals first | ((all_goals first | exact RetQ.fr 2 | exact RetQ.fn 2 | fail); done) | (exfalso; omega) | (exfalso; simp_all; done)
theorem put_code (m : Mg) (hf : m.fits) (b : List UInt8) (e : Int) (ok : Pe.Ok ⟨b, 65536, e⟩) : AC Tryz.prog 248 [.p 0 0, mgV m] (Pe.obs ⟨b, 65536, e⟩) fun y σ => y = .t [] ∧ σ = Pe.obs (Pe.count ⟨b, 65536, e⟩ 255 m.code) := by
  refine AC.walk Tryz.func248 rfl (by decide) (of_decide_eq_true rfl) ?_
  have hb := blob_PutCount b 65536 e 255 ok m.code hf.2.2.2.2.2.2.2.2.2.2.2.1.2 (.inl (by decide))
  generalize Pe.count ⟨b, 65536, e⟩ 255 m.code = r at *
  focus (have kxs : 987654321 = 987654320 + 1 := rfl; have kk1 := uN [0, 1] (hb); (repeat' (first | refine G ?_ | refine AW.ret ?_ | (refine GC ?_ ?_ <;> intro h <;> (try simp only [hsB] at h) <;> try (exfalso; first | omega | contradiction)) | (refine GL ?_ ?_ <;> intro h <;> (try simp only [Bool.not_true, Bool.not_false] at h) <;> (try simp only [h]) <;> (try simp only [hsB] at h) <;> try (exfalso; first | omega | contradiction)) | fail)); all_goals clear kxs kk1)
  all_goals first | ((all_goals first | exact RetQ.fr 2 | exact RetQ.fn 2 | fail); done) | (exfalso; omega) | (exfalso; simp_all; done)
theorem put_page (m : Mg) (hf : m.fits) (hc : m.page.check = 0) (q : List UInt8) (hq : q.length ≤ 1000) : AC Tryz.prog 267 [.p 0 0, mgV m] (Pe.obs ⟨q, 65536, 0⟩) fun y σ => y = .t [] ∧ σ = Pe.obs ⟨q ++ epage m.page, 65536, 0⟩ := by
  refine AC.walk Tryz.func267 rfl (by decide) (of_decide_eq_true rfl) ?_
  have hb := page_Put q hq m.page hf.2.2.2.2.2.2.2.2.2.1 hc
  generalize q ++ epage m.page = r at *
  focus (have kxs : 987654321 = 987654320 + 1 := rfl; have kk1 := uN [0, 1] (hb); (repeat' (first | refine G ?_ | refine AW.ret ?_ | (refine GC ?_ ?_ <;> intro h <;> (try simp only [hsB] at h) <;> try (exfalso; first | omega | contradiction)) | (refine GL ?_ ?_ <;> intro h <;> (try simp only [Bool.not_true, Bool.not_false] at h) <;> (try simp only [h]) <;> (try simp only [hsB] at h) <;> try (exfalso; first | omega | contradiction)) | fail)); all_goals clear kxs kk1)
  all_goals first | ((all_goals first | exact RetQ.fr 2 | exact RetQ.fn 2 | fail); done) | (exfalso; omega) | (exfalso; simp_all; done)
theorem put_ring (m : Mg) (hf : m.fits) (hc : Ring.check m.ring = 0) (b : List UInt8) (e : Int) (ok : Pe.Ok ⟨b, 65536, e⟩) : AC Tryz.prog 275 [.p 0 0, mgV m] (Pe.obs ⟨b, 65536, e⟩) fun y σ => y = .t [] ∧ σ = Pe.obs (Pe.text ⟨b, 65536, e⟩ (ering m.ring)) := by
  refine AC.walk Tryz.func275 rfl (by decide) (of_decide_eq_true rfl) ?_
  have he := ring_Encode m.ring hf.2.2.2.2.2.2.2.2.2.2.1
  rw [show ringe m.ring = (ering m.ring, 0) by unfold ringe; rw [if_neg (by simpa using hc)]] at he
  have hfl := pen_Fail b 65536 e 0
  rw [Pe.fail_zero] at hfl
  have hb := pen_Text1 b (ering m.ring) 65536 e ok (.inl (by decide))
  generalize Pe.text ⟨b, 65536, e⟩ (ering m.ring) = r at *
  generalize ering m.ring = t at *
  focus (have kxs : 987654321 = 987654320 + 1 := rfl; have kk1 := uN [] (he); have kk2 := uN [0, 1] (hfl); have kk3 := uN [0, 1] (hb); (repeat' (first | refine G ?_ | refine AW.ret ?_ | (refine GC ?_ ?_ <;> intro h <;> (try simp only [hsB] at h) <;> try (exfalso; first | omega | contradiction)) | (refine GL ?_ ?_ <;> intro h <;> (try simp only [Bool.not_true, Bool.not_false] at h) <;> (try simp only [h]) <;> (try simp only [hsB] at h) <;> try (exfalso; first | omega | contradiction)) | fail)); all_goals clear kxs kk1 kk2 kk3)
  all_goals first | ((all_goals first | exact RetQ.fr 2 | exact RetQ.fn 2 | fail); done) | (exfalso; omega) | (exfalso; simp_all; done)
theorem msg_inner (b s : List UInt8) (e f : Int) (ok : Pe.Ok ⟨b, 65536, e⟩) (hs : s.length ≤ 9223372036854775807) : AC Tryz.prog 234 [.p 0 0, sv (bs s), iv .i64 f] (Pe.obs ⟨b, 65536, e⟩) fun y σ => y = .t [] ∧ σ = Pe.obs (Pe.blob (Pe.fail ⟨b, 65536, e⟩ f) 65536 s) := by
  refine AC.walk Tryz.func234 rfl (by decide) (of_decide_eq_true rfl) ?_
  have hfl := pen_Fail b 65536 e f
  have hm : (Pe.fail ⟨b, 65536, e⟩ f).m = 65536 := rfl
  have hk : Pe.Ok (Pe.fail ⟨b, 65536, e⟩ f) := ok
  generalize Pe.fail ⟨b, 65536, e⟩ f = z at *
  obtain ⟨b2, m2, e2⟩ := z
  simp only at hm
  subst hm
  have hb := blob_Put1 b2 s 65536 e2 65536 hk hs (.inl (by decide))
  generalize Pe.blob ⟨b2, 65536, e2⟩ 65536 s = r at *
  focus (have kxs : 987654321 = 987654320 + 1 := rfl; have kk1 := uN [0, 1] (hfl); have kk2 := uN [0, 1] (hb); (repeat' (first | refine G ?_ | refine AW.ret ?_ | (refine GC ?_ ?_ <;> intro h <;> (try simp only [hsB] at h) <;> try (exfalso; first | omega | contradiction)) | (refine GL ?_ ?_ <;> intro h <;> (try simp only [Bool.not_true, Bool.not_false] at h) <;> (try simp only [h]) <;> (try simp only [hsB] at h) <;> try (exfalso; first | omega | contradiction)) | fail)); all_goals clear kxs kk1 kk2)
  all_goals first | ((all_goals first | exact RetQ.fr 2 | exact RetQ.fn 2 | fail); done) | (exfalso; omega) | (exfalso; simp_all; done)
theorem put_object (m : Mg) (hf : m.fits) (hl : (obje m.obj).1.length ≤ 9223372036854775807) (b : List UInt8) (e : Int) (ok : Pe.Ok ⟨b, 65536, e⟩) : AC Tryz.prog 241 [.p 0 0, mgV m] (Pe.obs ⟨b, 65536, e⟩) fun y σ => y = .t [] ∧ σ = Pe.obs (Pe.blob (Pe.fail ⟨b, 65536, e⟩ (obje m.obj).2) 65536 (obje m.obj).1) := by
  refine AC.walk Tryz.func241 rfl (by decide) (of_decide_eq_true rfl) ?_
  have he := object_Encode m.obj hf.2.2.2.1
  generalize obje m.obj = z at *
  obtain ⟨s, f⟩ := z
  simp only at he hl
  have hi := msg_inner b s e f ok hl
  generalize Pe.blob (Pe.fail ⟨b, 65536, e⟩ f) 65536 s = r at *
  focus (have kxs : 987654321 = 987654320 + 1 := rfl; have kk1 := uN [] (he); have kk2 := uN [0, 1] (hi); (repeat' (first | refine G ?_ | refine AW.ret ?_ | (refine GC ?_ ?_ <;> intro h <;> (try simp only [hsB] at h) <;> try (exfalso; first | omega | contradiction)) | (refine GL ?_ ?_ <;> intro h <;> (try simp only [Bool.not_true, Bool.not_false] at h) <;> (try simp only [h]) <;> (try simp only [hsB] at h) <;> try (exfalso; first | omega | contradiction)) | fail)); all_goals clear kxs kk1 kk2)
  all_goals first | ((all_goals first | exact RetQ.fr 2 | exact RetQ.fn 2 | fail); done) | (exfalso; omega) | (exfalso; simp_all; done)
theorem put_found_object (m : Mg) (hf : m.fits) (hl : (obje m.obj).1.length ≤ 9223372036854775807) (b : List UInt8) (e : Int) (ok : Pe.Ok ⟨b, 65536, e⟩) : AC Tryz.prog 227 [.p 0 0, mgV m, .p 2 0] (Pe.obs ⟨b, 65536, e⟩ ++ [.box 111 [.f (.func 239) [] [], .f (.func 241) [] [], .f (.func 243) [] [], .f (.func 245) [] []]]) fun y σ => y = .t [] ∧ σ = Pe.obs (if m.found = true then Pe.blob (Pe.fail ⟨b, 65536, e⟩ (obje m.obj).2) 65536 (obje m.obj).1 else ⟨b, 65536, e⟩) ++ [.box 111 [.f (.func 239) [] [], .f (.func 241) [] [], .f (.func 243) [] [], .f (.func 245) [] []]] := by
  refine AC.walk Tryz.func227 rfl (by decide) (of_decide_eq_true rfl) ?_
  have hc := put_object m hf hl b e ok
  generalize Pe.blob (Pe.fail ⟨b, 65536, e⟩ (obje m.obj).2) 65536 (obje m.obj).1 = r at *
  cases h : m.found with
  | true =>
    rw [if_pos rfl]
    rw [show mgV m = mgV { m with found := true } by rw [← h]] at hc
    focus (have kxs := h; have kk1 := uN [0, 1] (hc); (repeat' (first | refine G ?_ | refine AW.ret ?_ | (refine GC ?_ ?_ <;> intro h <;> (try simp only [hsB] at h) <;> try (exfalso; first | omega | contradiction)) | (refine GL ?_ ?_ <;> intro h <;> (try simp only [Bool.not_true, Bool.not_false] at h) <;> (try simp only [h]) <;> (try simp only [hsB] at h) <;> try (exfalso; first | omega | contradiction)) | fail)); all_goals clear kxs kk1)
    all_goals first | ((all_goals first | exact RetQ.fr 3 | exact RetQ.fn 3 | fail); done) | (exfalso; omega) | (exfalso; simp_all; done)
  | false =>
    rw [if_neg (by decide)]
    focus (have kxs := h; (repeat' (first | refine G ?_ | refine AW.ret ?_ | (refine GC ?_ ?_ <;> intro h <;> (try simp only [hsB] at h) <;> try (exfalso; first | omega | contradiction)) | (refine GL ?_ ?_ <;> intro h <;> (try simp only [Bool.not_true, Bool.not_false] at h) <;> (try simp only [h]) <;> (try simp only [hsB] at h) <;> try (exfalso; first | omega | contradiction)) | fail)); all_goals clear kxs)
    all_goals first | ((all_goals first | exact RetQ.fr 3 | exact RetQ.fn 3 | fail); done) | (exfalso; omega) | (exfalso; simp_all; done)
theorem put_old (m : Mg) (hf : m.fits) (hl : (olde m.old).1.length ≤ 9223372036854775807) (b : List UInt8) (e : Int) (ok : Pe.Ok ⟨b, 65536, e⟩) : AC Tryz.prog 232 [.p 0 0, mgV m] (Pe.obs ⟨b, 65536, e⟩) fun y σ => y = .t [] ∧ σ = Pe.obs (Pe.blob (Pe.fail ⟨b, 65536, e⟩ (olde m.old).2) 65536 (olde m.old).1) := by
  refine AC.walk Tryz.func232 rfl (by decide) (of_decide_eq_true rfl) ?_
  have he := legacy_Encode m.old hf.2.2.2.2.1
  generalize olde m.old = z at *
  obtain ⟨s, f⟩ := z
  simp only at he hl
  have hi := msg_inner b s e f ok hl
  generalize Pe.blob (Pe.fail ⟨b, 65536, e⟩ f) 65536 s = r at *
  focus (have kxs : 987654321 = 987654320 + 1 := rfl; have kk1 := uN [] (he); have kk2 := uN [0, 1] (hi); (repeat' (first | refine G ?_ | refine AW.ret ?_ | (refine GC ?_ ?_ <;> intro h <;> (try simp only [hsB] at h) <;> try (exfalso; first | omega | contradiction)) | (refine GL ?_ ?_ <;> intro h <;> (try simp only [Bool.not_true, Bool.not_false] at h) <;> (try simp only [h]) <;> (try simp only [hsB] at h) <;> try (exfalso; first | omega | contradiction)) | fail)); all_goals clear kxs kk1 kk2)
  all_goals first | ((all_goals first | exact RetQ.fr 2 | exact RetQ.fn 2 | fail); done) | (exfalso; omega) | (exfalso; simp_all; done)
theorem put_found_old (m : Mg) (hf : m.fits) (hl : (olde m.old).1.length ≤ 9223372036854775807) (b : List UInt8) (e : Int) (ok : Pe.Ok ⟨b, 65536, e⟩) : AC Tryz.prog 227 [.p 0 0, mgV m, .p 2 0] (Pe.obs ⟨b, 65536, e⟩ ++ [.box 111 [.f (.func 230) [] [], .f (.func 232) [] [], .f (.func 235) [] [], .f (.func 237) [] []]]) fun y σ => y = .t [] ∧ σ = Pe.obs (if m.found = true then Pe.blob (Pe.fail ⟨b, 65536, e⟩ (olde m.old).2) 65536 (olde m.old).1 else ⟨b, 65536, e⟩) ++ [.box 111 [.f (.func 230) [] [], .f (.func 232) [] [], .f (.func 235) [] [], .f (.func 237) [] []]] := by
  refine AC.walk Tryz.func227 rfl (by decide) (of_decide_eq_true rfl) ?_
  have hc := put_old m hf hl b e ok
  generalize Pe.blob (Pe.fail ⟨b, 65536, e⟩ (olde m.old).2) 65536 (olde m.old).1 = r at *
  cases h : m.found with
  | true =>
    rw [if_pos rfl]
    rw [show mgV m = mgV { m with found := true } by rw [← h]] at hc
    focus (have kxs := h; have kk1 := uN [0, 1] (hc); (repeat' (first | refine G ?_ | refine AW.ret ?_ | (refine GC ?_ ?_ <;> intro h <;> (try simp only [hsB] at h) <;> try (exfalso; first | omega | contradiction)) | (refine GL ?_ ?_ <;> intro h <;> (try simp only [Bool.not_true, Bool.not_false] at h) <;> (try simp only [h]) <;> (try simp only [hsB] at h) <;> try (exfalso; first | omega | contradiction)) | fail)); all_goals clear kxs kk1)
    all_goals first | ((all_goals first | exact RetQ.fr 3 | exact RetQ.fn 3 | fail); done) | (exfalso; omega) | (exfalso; simp_all; done)
  | false =>
    rw [if_neg (by decide)]
    focus (have kxs := h; (repeat' (first | refine G ?_ | refine AW.ret ?_ | (refine GC ?_ ?_ <;> intro h <;> (try simp only [hsB] at h) <;> try (exfalso; first | omega | contradiction)) | (refine GL ?_ ?_ <;> intro h <;> (try simp only [Bool.not_true, Bool.not_false] at h) <;> (try simp only [h]) <;> (try simp only [hsB] at h) <;> try (exfalso; first | omega | contradiction)) | fail)); all_goals clear kxs)
    all_goals first | ((all_goals first | exact RetQ.fr 3 | exact RetQ.fn 3 | fail); done) | (exfalso; omega) | (exfalso; simp_all; done)
end Go.AW
