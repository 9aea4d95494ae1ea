/-
  rings that are written: the program's and the document's.
-/
import Derived.Test.YtidkhiomlljfiaaRng6
import Derived.Test.YtidkhiomlljfiaaMc
namespace Go.AW
open Go Go.Proofs
set_option maxHeartbeats 4000000
set_option maxRecDepth 10000
set_option linter.unusedSimpArgs false
set_option linter.unusedVariables false
attribute [local irreducible] thenQ blockQ RetQ AL AW AC AOp

theorem pe_blob {b s : List UInt8} (hs : s.length ≤ 32) (hm : b.length + (eblob s).length ≤ 65536) : Pe.blob ⟨b, 65536, 0⟩ 32 s = ⟨b ++ eblob s, 65536, 0⟩ :=
  (pens_blob 32).fit ⟨b, 65536, 0⟩ s rfl hs (by show ((b.length + (eblob s).length : Nat) : Int) ≤ (65536 : Int); omega)
theorem pe_count {b : List UInt8} {n : Nat} (k : Nat) (hs : n ≤ k) (hm : b.length + (vput n).length ≤ 65536) : Pe.count ⟨b, 65536, 0⟩ (k : Int) n = ⟨b ++ vput n, 65536, 0⟩ :=
  (pens_count (k : Int)).fit ⟨b, 65536, 0⟩ n rfl (by simpa using hs) (by show ((b.length + (vput n).length : Nat) : Int) ≤ (65536 : Int); omega)
theorem pe_text {b s : List UInt8} (hm : b.length + s.length ≤ 65536) : Pe.text ⟨b, 65536, 0⟩ s = ⟨b ++ s, 65536, 0⟩ :=
  pens_text.fit ⟨b, 65536, 0⟩ s rfl trivial (by show ((b.length + s.length : Nat) : Int) ≤ (65536 : Int); omega)
theorem pe_ok {b : List UInt8} (h : b.length ≤ 65536) : Pe.Ok ⟨b, 65536, 0⟩ := ⟨by show (0 : Int) ≤ 65536; decide, by show (65536 : Int) ≤ _; decide, by show b.length ≤ _; omega⟩

theorem ring_rest (b : List UInt8) (x : Mb) (hst : x.st < 256) (ht : x.toks.length ≤ 16) (hf : ∀ t ∈ x.toks, t < 18446744073709551616) (hm : b.length + (estt x.st ++ etoks x.toks).length ≤ 65536) :
    AC Try.prog 52 [.p 0 0, mbV x] (Pe.obs ⟨b, 65536, 0⟩) fun y σ => y = .t [] ∧ σ = Pe.obs ⟨b ++ (estt x.st ++ etoks x.toks), 65536, 0⟩ := by
  refine AC.walk Try.func52 rfl (by decide) (of_decide_eq_true rfl) ?_
  obtain ⟨nm, ep, st, tk⟩ := x
  simp only at hst ht hf hm ⊢
  have hl : (estt st ++ etoks tk).length = 1 + ((vput tk.length).length + tk.length * 8) := by
    unfold estt etoks; simp only [List.length_append, enc8_flat, List.length_cons, List.length_nil]; try omega
  rw [hl] at hm
  have h1 := pen_Byte1 b 65536 0 (pe_ok (by omega)) (.inl (by decide)) (UInt8.ofNat st)
  rw [u8_ofNat hst, pe_text (by simp only [List.length_cons, List.length_nil]; omega)] at h1
  have hl1 : (b ++ [UInt8.ofNat st]).length = b.length + 1 := by simp
  have h2 := blob_PutCount (b ++ [UInt8.ofNat st]) 65536 0 16 (pe_ok (by omega)) tk.length (by omega) (.inl (by decide))
  rw [show Pe.count ⟨b ++ [UInt8.ofNat st], 65536, 0⟩ 16 tk.length = _ from pe_count 16 ht (by omega)] at h2
  have hl2 : ((b ++ [UInt8.ofNat st]) ++ vput tk.length).length = b.length + 1 + (vput tk.length).length := by simp only [List.length_append, List.length_cons, List.length_nil]; try omega
  have h3 := fixed_Put ((b ++ [UInt8.ofNat st]) ++ vput tk.length) 65536 tk hf (by omega) (by rw [hl2]; omega) (by decide)
  have e : ((b ++ [UInt8.ofNat st]) ++ vput tk.length) ++ (tk.map enc8).flatten = b ++ (estt st ++ etoks tk) := by unfold estt etoks; simp only [List.append_assoc]
  rw [e] at h3
  generalize b ++ (estt st ++ etoks tk) = b3 at *
  generalize b ++ [UInt8.ofNat st] ++ vput tk.length = b2 at *
  generalize b ++ [UInt8.ofNat st] = b1 at *
  focus (have kxs : 987654321 = 987654320 + 1 := rfl; have kk1 := uN [0, 1] (h1); have kk2 := uN [0, 1] (h2); have kk3 := uN [0, 1] (h3); (repeat' (first | refine G ?_ | refine AW.ret ?_ | (refine GC ?_ ?_ <;> intro h <;> (try simp only [hsB] at h) <;> try (exfalso; first | omega | contradiction)) | (refine GL ?_ ?_ <;> intro h <;> (try simp only [Bool.not_true, Bool.not_false] at h) <;> (try simp only [h]) <;> (try simp only [hsB] at h) <;> try (exfalso; first | omega | contradiction)) | fail)); all_goals clear kxs kk1 kk2 kk3)
  all_goals first | ((all_goals first | exact RetQ.fr 2 | exact RetQ.fn 2 | fail); done) | (exfalso; omega) | (exfalso; simp_all; done)
/-- A right ring's text, as far as place i. -/
def rtext (l : Ring) (i : Nat) : List UInt8 := vput l.length ++ ((l.take i).map emem).flatten
theorem rtext_next {l r : Ring} {x : Mb} {i : Nat} (h : l.drop i = x :: r) : rtext l (i + 1) = rtext l i ++ emem x := by
  unfold rtext
  rw [next_take h, List.map_append, List.flatten_append, List.append_assoc]; simp
theorem rtext_all (l : Ring) {i : Nat} (h : l.length ≤ i) : rtext l i = ering l := by
  unfold rtext ering; rw [List.take_of_length_le h]
theorem rtext_len (l : Ring) (i : Nat) : (rtext l i).length ≤ (ering l).length := by
  have : ering l = rtext l i ++ ((l.drop i).map emem).flatten := by
    unfold ering rtext
    rw [List.append_assoc, ← List.flatten_append, ← List.map_append, List.take_append_drop]
  rw [this, List.length_append]; omega
theorem ring_Encode (l : Ring) (hf : l.fits) : AC Try.prog 23 [.d (.l l.length (ringD l))] [] fun x σ => x = .t [sv (bs (ringe l).1), iv .i64 (ringe l).2] ∧ σ = [] := by
  refine AC.walk Try.func23 rfl (by decide) (of_decide_eq_true rfl) ?_
  have hck := ring_Check l hf
  unfold ringe
  by_cases hc : Ring.check l = 0
  case neg =>
    rw [if_pos hc]
    generalize Ring.check l = f at *
    focus (have kxs : 987654321 = 987654320 + 1 := rfl; have kk1 := uN [] (hck); (repeat' (first | refine G ?_ | refine AW.ret ?_ | (refine GC ?_ ?_ <;> intro h <;> (try simp only [hsB] at h) <;> try (exfalso; first | omega | contradiction)) | (refine GL ?_ ?_ <;> intro h <;> (try simp only [Bool.not_true, Bool.not_false] at h) <;> (try simp only [h]) <;> (try simp only [hsB] at h) <;> try (exfalso; first | omega | contradiction)) | fail)); all_goals clear kxs kk1)
    all_goals first | ((all_goals first | exact RetQ.fr 0 | exact RetQ.fn 0 | fail); done) | (exfalso; omega) | (exfalso; simp_all; done)
  rw [if_neg (by simpa using hc)]
  rw [hc] at hck
  obtain ⟨p1, p2⟩ := Ring.check_parts hc
  have hg : gring l := ⟨hc, fun x hx => (hf.2 x hx).1⟩
  have hel := ering_len hg
  have hnew := pen_New 65536 (by decide)
  rw [if_neg (by decide)] at hnew
  have hvl := vput_len10 (n := l.length) (by omega)
  have hcnt := blob_PutCount [] 65536 0 32 (pe_ok (by decide)) l.length (by omega) (.inl (by decide))
  rw [show Pe.count ⟨[], 65536, 0⟩ 32 l.length = _ from pe_count 32 p1 (by simp only [List.length_nil]; omega), List.nil_append] at hcnt
  have hr0 : vput l.length = rtext l 0 := by unfold rtext; simp
  rw [hr0] at hcnt
  have hrl := rtext_len l
  focus (have kxs : 987654321 = 987654320 + 1 := rfl; have kk1 := uN [] (hck); have kk2 := uN [] (hnew); have kk3 := uN [0, 1] (hcnt); (repeat' (first | refine G ?_ | refine AW.ret ?_ | (refine GC ?_ ?_ <;> intro h <;> (try simp only [hsB] at h) <;> try (exfalso; first | omega | contradiction)) | (refine GL ?_ ?_ <;> intro h <;> (try simp only [Bool.not_true, Bool.not_false] at h) <;> (try simp only [h]) <;> (try simp only [hsB] at h) <;> try (exfalso; first | omega | contradiction)) | fail)); all_goals clear kxs kk1 kk2 kk3)
  all_goals first | (exfalso; omega) | (exfalso; simp_all; done) | skip
  refine AW.rounds [2, 3, 5, 18, 19, 20] (fun i : Nat => [(2, sv (bs [])), (3, iv .i64 0), (5, .p 0 0), (18, .d (.l l.length (ringD l))), (19, iv .i64 l.length), (20, iv .i64 i)]) (fun i => Pe.obs ⟨rtext l i, 65536, 0⟩)
    (fun i => i ≤ l.length) (fun i => l.length - i) 0 (Nat.zero_le _) rfl rfl (fun _ _ => Nat.le_of_ble_eq_true rfl) (fun _ _ => rfl) (fun _ _ => rfl) ?_
  intro i hi J hJ
  by_cases hil : i < l.length
  case neg =>
    have hend := pen_End (rtext l i) 65536 0 (pe_ok (by have := hrl i; omega))
    have hfin : Pe.fin ⟨rtext l i, 65536, 0⟩ = (rtext l i, 0) := by unfold Pe.fin; rw [if_neg (by simp)]
    rw [hfin] at hend
    rw [← rtext_all l (i := i) (by omega)]
    generalize rtext l i = q at *
    simp only at hend
    focus (have kxs : 987654321 = 987654320 + 1 := rfl; have kk1 := uN [0, 1] (hend); (repeat' (first | refine G ?_ | refine AW.ret ?_ | (refine GC ?_ ?_ <;> intro h <;> (try simp only [hsB] at h) <;> try (exfalso; first | omega | contradiction)) | (refine GL ?_ ?_ <;> intro h <;> (try simp only [Bool.not_true, Bool.not_false] at h) <;> (try simp only [h]) <;> (try simp only [hsB] at h) <;> try (exfalso; first | omega | contradiction)) | fail)); all_goals clear kxs kk1)
    all_goals first | ((all_goals first | exact RetQ.fr 0 | exact RetQ.fn 0 | fail); done) | (exfalso; omega) | (exfalso; simp_all; done)
  obtain ⟨x, r, hd⟩ := next_at hil
  have hcd := ring_drop hd
  obtain ⟨q1, q2, q3, q4, q5, q6⟩ := p2 x (next_mem hd)
  obtain ⟨⟨f1, f2, f3⟩, f4, f5⟩ := hf.2 x (next_mem hd)
  have hnx := rtext_next hd
  have go : ∀ T' σ', keepT T' [2, 3, 5, 18, 19, 20] = [(2, sv (bs [])), (3, iv .i64 0), (5, .p 0 0), (18, .d (.l l.length (ringD l))), (19, iv .i64 l.length), (20, iv .i64 ((i : Int) + 1))] → σ'.take 2 = Pe.obs ⟨rtext l i ++ emem x, 65536, 0⟩ → J T' σ' := fun T' σ' g1 g2 =>
    hJ (i + 1) T' σ' (by omega) hil g1 (by rw [hnx]; exact g2)
  have hlen : (rtext l i).length + (emem x).length ≤ 7000 := by have := hrl (i + 1); rw [hnx, List.length_append] at this; omega
  clear hJ hnx hrl
  have hml : (emem x).length = (eblob x.name).length + ((vput x.ep).length + (estt x.st ++ etoks x.toks).length) := by unfold emem; simp only [List.length_append]
  generalize rtext l i = q at *
  have h1 := blob_Put1 q x.name 65536 0 32 (pe_ok (by omega)) f4 (.inl (by decide))
  rw [pe_blob q1 (by omega)] at h1
  have hl1 : (q ++ eblob x.name).length = q.length + (eblob x.name).length := List.length_append
  have h2 := varint_Put1 (q ++ eblob x.name) 65536 0 (pe_ok (by omega)) x.ep f1 (.inl (by decide))
  rw [pe_text (by omega)] at h2
  have hl2 : ((q ++ eblob x.name) ++ vput x.ep).length = q.length + (eblob x.name).length + (vput x.ep).length := by simp only [List.length_append]
  have h3 := ring_rest ((q ++ eblob x.name) ++ vput x.ep) x f2 q5 f3 (by omega)
  have e : ((q ++ eblob x.name) ++ vput x.ep) ++ (estt x.st ++ etoks x.toks) = q ++ emem x := by unfold emem; simp only [List.append_assoc]
  rw [e] at h3
  generalize q ++ emem x = b3 at *
  generalize (q ++ eblob x.name) ++ vput x.ep = b2 at *
  generalize q ++ eblob x.name = b1 at *
  focus (have kxs := hcd; have kk1 := uN [0, 1] (h1); have kk2 := uN [0, 1] (h2); have kk3 := uN [0, 1] (h3); (repeat' (first | refine G ?_ | refine AW.ret ?_ | (refine GC ?_ ?_ <;> intro h <;> (try simp only [hsB] at h) <;> try (exfalso; first | omega | contradiction)) | (refine GL ?_ ?_ <;> intro h <;> (try simp only [Bool.not_true, Bool.not_false] at h) <;> (try simp only [h]) <;> (try simp only [hsB] at h) <;> try (exfalso; first | omega | contradiction)) | fail)); all_goals clear kxs kk1 kk2 kk3)
  all_goals first | exact go _ _ rfl rfl | (exfalso; omega) | (exfalso; simp_all; done)

theorem ref22_Rest (x : Mb) (hst : x.st < 256) (ht : x.toks.length ≤ 16) (hf : ∀ t ∈ x.toks, t < 18446744073709551616) :
    AC Try.prog 41 [mbV x] [] fun y σ => y = sv (bs (estt x.st ++ etoks x.toks)) ∧ σ = [] := by
  refine AC.walk Try.func41 rfl (by decide) (of_decide_eq_true rfl) ?_
  obtain ⟨nm, ep, st, tk⟩ := x
  simp only at hst ht hf ⊢
  have hvl := vput_len10 (n := tk.length) (by omega)
  have hnew := @ref02_New 65536
  rw [if_neg (by decide)] at hnew
  have h1 := ref02_Byte [] 65536 0 (pe_ok (by decide)) (.inl (by decide)) (UInt8.ofNat st)
  rw [u8_ofNat hst, pe_text (by simp only [List.length_cons, List.length_nil]; omega), List.nil_append] at h1
  have h2 := ref06_PutCount [UInt8.ofNat st] 65536 0 16 (pe_ok (by simp only [List.length_cons, List.length_nil]; omega)) tk.length (by omega) (.inl (by decide))
  rw [show Pe.count ⟨[UInt8.ofNat st], 65536, 0⟩ 16 tk.length = _ from pe_count 16 ht (by simp only [List.length_cons, List.length_nil]; omega)] at h2
  have e : ([UInt8.ofNat st] ++ vput tk.length) ++ (tk.map enc8).flatten = estt st ++ etoks tk := by unfold estt etoks; simp only [List.append_assoc]
  rw [← e]
  have hl2 : ([UInt8.ofNat st] ++ vput tk.length).length = 1 + (vput tk.length).length := by simp only [List.length_append, List.length_cons, List.length_nil]
  generalize [UInt8.ofNat st] ++ vput tk.length = b at *
  generalize [UInt8.ofNat st] = b1 at *
  focus (have kxs : 987654321 = 987654320 + 1 := rfl; have kk1 := uN [] (hnew); have kk2 := uN [1] (h1); have kk3 := uN [1] (h2); (repeat' (first | refine G ?_ | refine AW.ret ?_ | (refine GC ?_ ?_ <;> intro h <;> (try simp only [hsB] at h) <;> try (exfalso; first | omega | contradiction)) | (refine GL ?_ ?_ <;> intro h <;> (try simp only [Bool.not_true, Bool.not_false] at h) <;> (try simp only [h]) <;> (try simp only [hsB] at h) <;> try (exfalso; first | omega | contradiction)) | fail)); all_goals clear kxs kk1 kk2 kk3)
  all_goals first | (exfalso; omega) | (exfalso; simp_all; done) | skip
  refine AW.rounds [1, 2, 3, 4] (fun i : Nat => [(1, .p 0 0), (2, sv (bs [])), (3, .p 1 0), (4, iv .i64 i)]) (fun i => [.box 55 [sv (bs nm), iv .u64 ep, iv .u8 st, .d (.l tk.length (toksD tk))], Pe.ro ⟨b ++ ((tk.take i).map enc8).flatten, 65536, 0⟩])
    (fun i => i ≤ tk.length) (fun i => tk.length - i) 0 (Nat.zero_le _) rfl (by simp) (fun _ _ => Nat.le_of_ble_eq_true rfl) (fun _ _ => rfl) (fun _ _ => rfl) ?_
  intro i hi J hJ
  by_cases hil : i < tk.length
  case neg =>
    have hi2 : i = tk.length := by omega
    rw [hi2, List.take_length]
    focus (have kxs : 987654321 = 987654320 + 1 := rfl; (repeat' (first | refine G ?_ | refine AW.ret ?_ | (refine GC ?_ ?_ <;> intro h <;> (try simp only [hsB] at h) <;> try (exfalso; first | omega | contradiction)) | (refine GL ?_ ?_ <;> intro h <;> (try simp only [Bool.not_true, Bool.not_false] at h) <;> (try simp only [h]) <;> (try simp only [hsB] at h) <;> try (exfalso; first | omega | contradiction)) | fail)); all_goals clear kxs)
    all_goals first | ((all_goals first | exact RetQ.fr 0 | exact RetQ.fn 0 | fail); done) | (exfalso; omega) | (exfalso; simp_all; done)
  obtain ⟨t, r, hd⟩ := next_at hil
  have hcd := toks_drop hd
  have ht2 := hf t (next_mem hd)
  have hq : b ++ ((tk.take (i + 1)).map enc8).flatten = (b ++ ((tk.take i).map enc8).flatten) ++ enc8 t := by
    rw [next_take hd, List.map_append, List.flatten_append, List.append_assoc]; simp
  have hql : (b ++ ((tk.take i).map enc8).flatten).length = b.length + i * 8 := by
    rw [List.length_append, enc8_flat, List.length_take, Nat.min_eq_left (by omega)]
  have hpt := ref04_Put (b ++ ((tk.take i).map enc8).flatten) 65536 t ht2 (by omega) (by decide)
  have go : ∀ T' σ', keepT T' [1, 2, 3, 4] = [(1, .p 0 0), (2, sv (bs [])), (3, .p 1 0), (4, iv .i64 ((i : Int) + 1))] → σ'.take 2 = [.box 55 [sv (bs nm), iv .u64 ep, iv .u8 st, .d (.l tk.length (toksD tk))], Pe.ro ⟨(b ++ ((tk.take i).map enc8).flatten) ++ enc8 t, 65536, 0⟩] → J T' σ' := fun T' σ' g1 g2 =>
    hJ (i + 1) T' σ' (by omega) hil g1 (by rw [hq]; exact g2)
  clear hJ hq
  generalize (b ++ ((tk.take i).map enc8).flatten) ++ enc8 t = b5 at *
  generalize b ++ ((tk.take i).map enc8).flatten = b4 at *
  focus (have kxs := And.intro hcd @Nat.mul_one; have kk1 := uN [1] (hpt); (repeat' (first | refine G ?_ | refine AW.ret ?_ | (refine GC ?_ ?_ <;> intro h <;> (try simp only [hsB] at h) <;> try (exfalso; first | omega | contradiction)) | (refine GL ?_ ?_ <;> intro h <;> (try simp only [Bool.not_true, Bool.not_false] at h) <;> (try simp only [h]) <;> (try simp only [hsB] at h) <;> try (exfalso; first | omega | contradiction)) | fail)); all_goals clear kxs kk1)
  all_goals first | exact go _ _ rfl rfl | (exfalso; omega) | (exfalso; simp_all; done)

theorem ref22_Encode (l : Ring) (hf : l.fits) : AC Try.prog 15 [.d (.l l.length (ringD l))] [] fun x σ => x = .t [sv (bs (ringe l).1), iv .i64 (ringe l).2] ∧ σ = [] := by
  refine AC.walk Try.func15 rfl (by decide) (of_decide_eq_true rfl) ?_
  have hck := ref22_Check l hf
  unfold ringe
  by_cases hc : Ring.check l = 0
  case neg =>
    rw [if_pos hc]
    generalize Ring.check l = f at *
    focus (have kxs : 987654321 = 987654320 + 1 := rfl; have kk1 := uN [] (hck); (repeat' (first | refine G ?_ | refine AW.ret ?_ | (refine GC ?_ ?_ <;> intro h <;> (try simp only [hsB] at h) <;> try (exfalso; first | omega | contradiction)) | (refine GL ?_ ?_ <;> intro h <;> (try simp only [Bool.not_true, Bool.not_false] at h) <;> (try simp only [h]) <;> (try simp only [hsB] at h) <;> try (exfalso; first | omega | contradiction)) | fail)); all_goals clear kxs kk1)
    all_goals first | ((all_goals first | exact RetQ.fr 0 | exact RetQ.fn 0 | fail); done) | (exfalso; omega) | (exfalso; simp_all; done)
  rw [if_neg (by simpa using hc)]
  rw [hc] at hck
  obtain ⟨p1, p2⟩ := Ring.check_parts hc
  have hg : gring l := ⟨hc, fun x hx => (hf.2 x hx).1⟩
  have hel := ering_len hg
  have hnew := @ref02_New 65536
  rw [if_neg (by decide)] at hnew
  have hvl := vput_len10 (n := l.length) (by omega)
  have hcnt := ref06_PutCount [] 65536 0 32 (pe_ok (by decide)) l.length (by omega) (.inl (by decide))
  rw [show Pe.count ⟨[], 65536, 0⟩ 32 l.length = _ from pe_count 32 p1 (by simp only [List.length_nil]; omega), List.nil_append] at hcnt
  have hr0 : vput l.length = rtext l 0 := by unfold rtext; simp
  rw [hr0] at hcnt
  have hrl := rtext_len l
  focus (have kxs : 987654321 = 987654320 + 1 := rfl; have kk1 := uN [] (hck); have kk2 := uN [] (hnew); have kk3 := uN [0] (hcnt); (repeat' (first | refine G ?_ | refine AW.ret ?_ | (refine GC ?_ ?_ <;> intro h <;> (try simp only [hsB] at h) <;> try (exfalso; first | omega | contradiction)) | (refine GL ?_ ?_ <;> intro h <;> (try simp only [Bool.not_true, Bool.not_false] at h) <;> (try simp only [h]) <;> (try simp only [hsB] at h) <;> try (exfalso; first | omega | contradiction)) | fail)); all_goals clear kxs kk1 kk2 kk3)
  all_goals first | (exfalso; omega) | (exfalso; simp_all; done) | skip
  refine AW.rounds [0, 2, 3, 5, 6] (fun i : Nat => [(0, .d (.l l.length (ringD l))), (2, sv (bs [])), (3, iv .i64 0), (5, .p 0 0), (6, iv .i64 i)]) (fun i => [Pe.ro ⟨rtext l i, 65536, 0⟩])
    (fun i => i ≤ l.length) (fun i => l.length - i) 0 (Nat.zero_le _) rfl rfl (fun _ _ => Nat.le_of_ble_eq_true rfl) (fun _ _ => rfl) (fun _ _ => rfl) ?_
  intro i hi J hJ
  by_cases hil : i < l.length
  case neg =>
    rw [← rtext_all l (i := i) (by omega)]
    generalize rtext l i = q at *
    focus (have kxs : 987654321 = 987654320 + 1 := rfl; (repeat' (first | refine G ?_ | refine AW.ret ?_ | (refine GC ?_ ?_ <;> intro h <;> (try simp only [hsB] at h) <;> try (exfalso; first | omega | contradiction)) | (refine GL ?_ ?_ <;> intro h <;> (try simp only [Bool.not_true, Bool.not_false] at h) <;> (try simp only [h]) <;> (try simp only [hsB] at h) <;> try (exfalso; first | omega | contradiction)) | fail)); all_goals clear kxs)
    all_goals first | ((all_goals first | exact RetQ.fr 0 | exact RetQ.fn 0 | fail); done) | (exfalso; omega) | (exfalso; simp_all; done)
  obtain ⟨x, r, hd⟩ := next_at hil
  have hcd := ring_drop hd
  obtain ⟨q1, q2, q3, q4, q5, q6⟩ := p2 x (next_mem hd)
  obtain ⟨⟨f1, f2, f3⟩, f4, f5⟩ := hf.2 x (next_mem hd)
  have hnx := rtext_next hd
  have go : ∀ T' σ', keepT T' [0, 2, 3, 5, 6] = [(0, .d (.l l.length (ringD l))), (2, sv (bs [])), (3, iv .i64 0), (5, .p 0 0), (6, iv .i64 ((i : Int) + 1))] → σ'.take 1 = [Pe.ro ⟨rtext l i ++ emem x, 65536, 0⟩] → J T' σ' := fun T' σ' g1 g2 =>
    hJ (i + 1) T' σ' (by omega) hil g1 (by rw [hnx]; exact g2)
  have hlen : (rtext l i).length + (emem x).length ≤ 7000 := by have := hrl (i + 1); rw [hnx, List.length_append] at this; omega
  clear hJ hnx hrl
  have hml : (emem x).length = (eblob x.name).length + ((vput x.ep).length + (estt x.st ++ etoks x.toks).length) := by unfold emem; simp only [List.length_append]
  generalize rtext l i = q at *
  have h1 := ref06_Put q x.name 65536 0 32 (pe_ok (by omega)) (by omega) (.inl (by decide))
  rw [pe_blob q1 (by omega)] at h1
  have hl1 : (q ++ eblob x.name).length = q.length + (eblob x.name).length := List.length_append
  have h2 := ref03_Put (q ++ eblob x.name) 65536 0 (pe_ok (by omega)) x.ep f1 (.inl (by decide))
  rw [pe_text (by omega)] at h2
  have hl2 : ((q ++ eblob x.name) ++ vput x.ep).length = q.length + (eblob x.name).length + (vput x.ep).length := by simp only [List.length_append]
  have h3 := ref22_Rest x f2 q5 f3
  have h4 := ref02_Text ((q ++ eblob x.name) ++ vput x.ep) (estt x.st ++ etoks x.toks) 65536 0 (pe_ok (by omega)) (.inl (by decide)) (by omega)
  rw [pe_text (by omega)] at h4
  have e : ((q ++ eblob x.name) ++ vput x.ep) ++ (estt x.st ++ etoks x.toks) = q ++ emem x := by unfold emem; simp only [List.append_assoc]
  rw [e] at h4
  generalize q ++ emem x = b3 at *
  generalize (q ++ eblob x.name) ++ vput x.ep = b2 at *
  generalize q ++ eblob x.name = b1 at *
  generalize estt x.st ++ etoks x.toks = rs at *
  focus (have kxs := hcd; have kk1 := uN [0] (h1); have kk2 := uN [0] (h2); have kk3 := uN [] (h3); have kk4 := uN [0] (h4); (repeat' (first | refine G ?_ | refine AW.ret ?_ | (refine GC ?_ ?_ <;> intro h <;> (try simp only [hsB] at h) <;> try (exfalso; first | omega | contradiction)) | (refine GL ?_ ?_ <;> intro h <;> (try simp only [Bool.not_true, Bool.not_false] at h) <;> (try simp only [h]) <;> (try simp only [hsB] at h) <;> try (exfalso; first | omega | contradiction)) | fail)); all_goals clear kxs kk1 kk2 kk3 kk4)
  all_goals first | exact go _ _ rfl rfl | (exfalso; omega) | (exfalso; simp_all; done)
end Go.AW
