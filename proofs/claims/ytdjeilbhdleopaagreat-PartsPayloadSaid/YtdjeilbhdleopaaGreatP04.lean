/-
  The calculus: each operation does what its condition says.
-/
import Derived.Laws.MakeOwn
import Derived.Laws.IdiomCopy
import Derived.Below
import Derived.WideShapes
import Derived.Test.YtdjeilbhdleopaaGreatP02
set_option linter.unusedVariables false
set_option linter.unusedSimpArgs false
set_option maxHeartbeats 4000000
set_option maxRecDepth 10000
namespace Go.AW
open Go
section
variable {P : Program} {N k B : Nat} {F : Nat → Prop} {T : Tm} {σ : List Ob} {μ : List Value} {w : World} {Q : V → List Ob → Prop} {a : Act} {ty : TypeId} {pos : String} {af : Array Edge} {gd : Option (Nat × Bool)} {dst : Option Tmp}
theorem run_val {s : Sem Value} {w' : World} {r : Value} (h : s.run P w = .ok r w') : (do pure (Next.value (← s)) : Sem Next).run P w = .ok (.value r) w' := by simp [h]
theorem run_unit {s : Sem Unit} {w' : World} (h : s.run P w = .ok () w') : (do s; pure Next.skip : Sem Next).run P w = .ok .skip w' := by simp [Sem.run_bind, h]
theorem AOp.val {o : Oper} (h : ∀ B F μ w (a : Act), St k B F σ μ w → TR N F σ μ w T a.tmps → ∃ x v, Q x σ ∧ (execOp a.eval o).run P w = .ok (.value v) w ∧ VR F σ μ w x v) : AOp P N k o T σ Q := by
  intro B F μ w a st tr next X hn
  obtain ⟨x, v, hq, hr, hv⟩ := h B F μ w a st tr
  unfold Oper.wp
  rw [hr]
  exact hn v w (Lift.here st hq hv)
theorem onB_ok {x : V} {K : Bool → Prop} {v : Value} (h : onB x K) (hv : VR F σ μ w x v) : ∃ b, v = .bool b ∧ K b := by
  unfold onB at h
  split at h
  · simp only [VR, DR] at hv; exact ⟨_, hv, h⟩
  · exact h.elim
theorem onI_ok {x : V} {K : IntKind → Int → Prop} {v : Value} (h : onI x K) (hv : VR F σ μ w x v) : ∃ k n, v = .int k n ∧ K k n := by
  unfold onI at h
  split at h
  · simp only [VR, DR] at hv; exact ⟨_, _, hv, h⟩
  · exact h.elim
theorem s_move {x : Operand} (h : Q (ev T x) σ) : AOp P N k ⟨dst, .move x, ty, pos, af, gd⟩ T σ Q :=
  AOp.val fun B F μ w a st tr => ⟨_, a.eval x, h, by simp [execOp], ev_ok tr x⟩
theorem s_assign {x : Operand} (h : Q (ev T x) σ) : AOp P N k ⟨dst, .assign x, ty, pos, af, gd⟩ T σ Q :=
  AOp.val fun B F μ w a st tr => ⟨_, a.eval x, h, by simp [execOp], ev_ok tr x⟩
theorem s_pick {c x y : Operand} (h : onB (ev T c) fun t => Q (if t = true then ev T x else ev T y) σ) : AOp P N k ⟨dst, .pick c x y, ty, pos, af, gd⟩ T σ Q :=
  AOp.val fun B F μ w a st tr => by
    obtain ⟨b, hb, hq⟩ := onB_ok h (ev_ok tr c)
    refine ⟨_, if b = true then a.eval x else a.eval y, hq, by simp [execOp, hb, asBool], ?_⟩
    cases b
    · simpa using ev_ok tr y
    · simpa using ev_ok tr x
theorem s_bin {op : BinOp} {t t' : TypeId} {x y : Operand} (h : bin P op t (ev T x) (ev T y) fun z => Q z σ) : AOp P N k ⟨dst, .binOp op t x y t', ty, pos, af, gd⟩ T σ Q :=
  AOp.val fun B F μ w a st tr => by
    obtain ⟨z, r, hq, hr, hv⟩ := run_bin h (ev_ok tr x) (ev_ok tr y) x y
    exact ⟨z, r, hq, run_val hr, hv⟩
theorem s_not {t : TypeId} {x : Operand} (h : onB (ev T x) fun b => Q (bv (!b)) σ) : AOp P N k ⟨dst, .unOp .not t x, ty, pos, af, gd⟩ T σ Q :=
  AOp.val fun B F μ w a st tr => by
    obtain ⟨b, hb, hq⟩ := onB_ok h (ev_ok tr x)
    exact ⟨_, _, hq, by simp [execOp, hb, Op.unary], rfl⟩
theorem s_neg {t : TypeId} {x : Operand} (h : onI (ev T x) fun k n => Q (iv k (k.wrap (0 - n))) σ) : AOp P N k ⟨dst, .unOp .neg t x, ty, pos, af, gd⟩ T σ Q :=
  AOp.val fun B F μ w a st tr => by
    obtain ⟨j, n, hb, hq⟩ := onI_ok h (ev_ok tr x)
    exact ⟨_, .int j (j.wrap (0 - n)), hq, by simp [execOp, hb, Op.unary, Op.intArith], rfl⟩
theorem s_xor {t : TypeId} {x : Operand} (h : onI (ev T x) fun k n => Q (iv k (bitI .xor k (if k.signed = true then -1 else k.max) n)) σ) : AOp P N k ⟨dst, .unOp .xor t x, ty, pos, af, gd⟩ T σ Q :=
  AOp.val fun B F μ w a st tr => by
    obtain ⟨j, n, hb, hq⟩ := onI_ok h (ev_ok tr x)
    exact ⟨_, _, hq, by simp [execOp, hb, Op.unary, Op.intBits, bitI]; try rfl, rfl⟩
theorem toDs_ok : ∀ {xs : List V} {ys : List D}, toDs xs = some ys → xs = ys.map .d
  | [], ys, h => by simp [toDs] at h; subst h; rfl
  | x :: xs, ys, h => by
    cases x with
    | d z =>
      simp only [toDs] at h
      cases hr : toDs xs with
      | none => simp [hr] at h
      | some zs =>
        simp [hr] at h
        subst h
        rw [toDs_ok hr]
        rfl
    | _ => simp [toDs] at h
theorem elems_ok {x : V} {n : Nat} {l : List D} {v : Value} (st : St k B F σ μ w) (h : elems σ x = some (n, l)) (hv : VR F σ μ w x v) :
    (∃ A cap, v = .slice A n cap ∧ l = [] ∧ n = 0) ∨ ∃ b off cap vs, v = .slice (some ⟨b, off, none⟩) n cap ∧ n ≤ cap ∧ w.rangeAt b off vs ∧ DRs F w l vs := by
  unfold elems at h
  split at h
  · rename_i m ys
    simp at h
    obtain ⟨rfl, rfl⟩ := h
    simp only [VR, DR] at hv
    obtain ⟨A, cap, rfl, hn, h | ⟨b, off, vs, rfl, _, _, hc, hd⟩⟩ := hv
    · exact .inl ⟨A, cap, rfl, h.1, h.2⟩
    · exact .inr ⟨b, off, cap, vs, rfl, hn, hc, hd⟩
  · simp at h
    obtain ⟨rfl, rfl⟩ := h
    simp only [VR, DR] at hv
    exact .inl ⟨_, _, hv, rfl, rfl⟩
  · rename_i j m
    split at h
    · rename_i E sz n' cs hs
      split at h
      · rename_i hm
        subst hm
        simp at h
        obtain ⟨rfl, rfl⟩ := h
        obtain ⟨_, vs, hown, hd, _⟩ := own_hdr st hs hv
        rcases hown.2 with ⟨rfl, rfl⟩ | ⟨g, cap, cur, rfl, _, _, hc, _⟩
        · have : vs = [] := List.eq_nil_of_length_eq_zero (by simpa using hown.1)
          subst this
          have := DRs.length hd
          exact .inl ⟨none, 0, rfl, List.eq_nil_of_length_eq_zero (by simpa using this.symm), rfl⟩
        · exact .inr ⟨g, 0, cap, vs, rfl, hc, row_range hown rfl, hd⟩
      · simp at h
    · simp at h
  · rename_i j off m
    split at h
    · rename_i T' cs hs
      obtain ⟨l', hl, he⟩ := Option.map_eq_some_iff.1 h
      simp at he
      obtain ⟨rfl, rfl⟩ := he
      simp only [VR] at hv
      obtain ⟨b, T2, cs2, h1, h2, cap, rfl, hn⟩ := hv
      obtain ⟨b', arr, e1, e2, ⟨l, tl, e6, e3⟩, e4, e5⟩ := st.obj j _ _ hs h2
      simp at e1
      subst e1
      have hvs := VRs.take (VRs.drop e3 off) m
      rw [toDs_ok hl] at hvs
      have hr := rangeAt_take (rangeAt_drop (rangeAt_block' e2 e6) off) m
      rw [Nat.zero_add] at hr
      exact .inr ⟨b, off, cap, _, rfl, Nat.le_of_eq hn.symm, hr, DRs.ofV _ _ hvs⟩
    · simp at h
  · simp at h
theorem intT_ok {t : TypeId} {j : IntKind} (h : intT P t = some j) : P.underlying t = some (.int j) := by
  unfold intT at h
  split at h <;> simp_all
theorem isS_ok {t : TypeId} (h : isS P t = true) : P.underlying t = some .string := by
  unfold isS at h
  split at h <;> simp_all
theorem isK_ok {t : TypeId} (h : isK P t = true) : ∃ d, P.underlying t = some d := by
  unfold isK at h
  exact Option.isSome_iff_exists.1 h
theorem run_bytes {s d e sz by_ n : Nat} {l : List D} {ns : List Int} {v : Value} {x : V} (st : St k B F σ μ w) (hs : sliT P s = some (e, sz, by_)) (he : intT P e = some .u8) (hd : isS P d = true)
    (hx : elems σ x = some (n, l)) (hl : l = ns.map (fun n => .s (.int .u8 n))) (hn : n = ns.length) (hv : VR F σ μ w x v) : (convert s d v).run P w = .ok (.string (strOfNums ns)) w := by
  have hu := (sliT_ok hs).1
  rcases elems_ok st hx hv with ⟨A, cap, rfl, h1, h2⟩ | ⟨b, off, cap, vs, rfl, _, hr, hds⟩
  · have : ns = [] := List.eq_nil_of_length_eq_zero (by omega)
    subst this
    subst h2
    cases A with
    | none => rw [run_convert_bytes_nil w s e hu (intT_ok he) 0 cap d (isS_ok hd)]; rfl
    | some a =>
      rw [run_convert_bytes_string w s d e _ 0 cap hu (intT_ok he) (isS_ok hd)]
      rw [run_bytesToString w a 0 cap [] (by simp [loadCells, loadCellsFrom])]
      rfl
  · refine run_convert_bytes_arg w s e hu (intT_ok he) b off n cap ns hn.symm (fun i hi => ?_) d (isS_ok hd)
    subst hl
    have hlen := DRs.length hds
    simp at hlen
    have hiv : i < vs.length := by omega
    have key : ∀ (l : List Int) (us : List Value), DRs F w (l.map (fun n => D.s (.int .u8 n))) us → us = l.map (Value.int .u8) := by
      intro l
      induction l with
      | nil => intro us h; simpa [DRs] using h
      | cons y l ih =>
        intro us h
        simp only [List.map_cons, DRs, DR] at h
        obtain ⟨v, us', rfl, rfl, h2⟩ := h
        rw [ih us' h2]
        simp
    have hvs := key ns vs hds
    refine hr i _ ?_
    rw [hvs, List.getElem?_map, List.getD_eq_getElem?_getD]
    rw [List.getElem?_eq_getElem (by omega)]
    rfl
theorem s_convert {s d : TypeId} {x : Operand} (h : ao P T σ Q (.convert s d x)) : AOp P N k ⟨dst, .convert s d x, ty, pos, af, gd⟩ T σ Q :=
  AOp.val fun B F μ w a st tr => by
    have hx := ev_ok tr x
    simp only [ao] at h
    split at h
    · rename_i n he
      obtain ⟨j, h1, h2, hq⟩ := h
      rw [he] at hx
      simp only [VR, DR] at hx
      obtain ⟨ds, hs⟩ := isK_ok h1
      exact ⟨_, _, hq, by simp [execOp, hx, convert, run_underlying hs, run_underlying (intT_ok h2), Conv.intToInt], rfl⟩
    · rename_i b he
      obtain ⟨h1, h2, hq⟩ := h
      rw [he] at hx
      simp only [VR, DR] at hx
      obtain ⟨ds, hs⟩ := isK_ok h1
      exact ⟨_, _, hq, by simp [execOp, hx, convert, run_underlying hs, run_underlying (isS_ok h2)], rfl⟩
    · obtain ⟨e, sz, by_, n, l, h1, h2, h3, h4, ns, h5, h6, hq⟩ := h
      exact ⟨_, _, hq, run_val (run_bytes st h1 h2 h3 h4 h5 h6 hx), rfl⟩
theorem getD_getElem? (s : ByteArray) (n : Nat) (h : n < s.size) : s[n]? = some (s.data.toList.getD n 0) := by
  have h' : n < s.data.toList.length := by rw [Array.length_toList]; exact h
  rw [List.getD_eq_getElem?_getD, List.getElem?_eq_getElem h']
  simp only [Option.getD_some, Array.getElem_toList]
  rw [getElem?_pos s n h]
  rfl
theorem arrS_ok {t m : Nat} (h : arrS P t = some m) : ∃ e i d, P.underlying t = some (.array m e) ∧ P.info? e = some i ∧ i.size = 1 ∧ P.underlying e = some d ∧ d.isRow = false := by
  unfold arrS at h
  split at h
  · rename_i n e hu
    split at h
    · rename_i hs
      obtain ⟨d, i, k1, k2, k3, k4⟩ := shp_one hs
      simp at h
      subst h
      exact ⟨e, i, d, hu, k3, k4, k1, k2⟩
    · simp at h
  · simp at h
theorem run_index_arr {t m : Nat} {n : Int} {c : Array Value} {v : Value} {kk : IntKind} (h : arrS P t = some m) (h0 : 0 ≤ n ∧ n < (m : Int)) (hv : c.toList[n.toNat]? = some v) : (Instr.index t (.agg c) (.int kk n)).run P w = .ok v w := by
  obtain ⟨e, i, d, hu, hi, hs, k1, k2⟩ := arrS_ok h
  have hc : c[n.toNat]? = some v := by rw [← hv]; simp
  simp [Instr.index, asIntOf, run_underlying hu, h0.1, h0.2, sizeOf, typeInfo, hi, hs, part, run_isAgg_one k1 k2, hc]
theorem run_slice_arr {t m b l : Nat} {lo : Option Value} (h : arrS P t = some m) (hb : (Instr.sliceBounds false m m lo none none).run P w = .ok (l, m, m) w) (hl : l < m) :
    (Instr.sliceAt t (.pointer (some ⟨b, 0, none⟩)) lo none none).run P w = .ok (.slice (some ⟨b, l, none⟩) (m - l) (m - l)) w := by
  obtain ⟨e, i, d, hu, hi, hs, k1, k2⟩ := arrS_ok h
  have hadd : (⟨b, 0, none⟩ : Addr).add l = ⟨b, l, none⟩ := by unfold Addr.add; split <;> simp_all
  have hne : ¬ m = l := by omega
  simp [Instr.sliceAt, run_underlying hu, Instr.sureAddr, hb, sizeOf, typeInfo, hi, hs, hne, hadd]
theorem s_index {t : TypeId} {x i : Operand} (h : ao P T σ Q (.index t x i)) : AOp P N k ⟨dst, .index t x i, ty, pos, af, gd⟩ T σ Q :=
  AOp.val fun B F μ w a st tr => by
    have hx := ev_ok tr x
    have hi := ev_ok tr i
    simp only [ao] at h
    split at h
    · rename_i s kk n e1 e2
      obtain ⟨h1, h2, hq⟩ := h
      rw [e1] at hx
      rw [e2] at hi
      simp only [VR, DR] at hx hi
      have := getD_getElem? s n.toNat (by omega)
      exact ⟨_, _, hq, by simp [execOp, hx, hi, Instr.index, asIntOf, run_underlying (isS_ok h1), h2.1, this], rfl⟩
    · rename_i cs kk n e1 e2
      obtain ⟨m, y, h1, h2, h3, hq⟩ := h
      rw [e1] at hx
      rw [e2] at hi
      simp only [VR, DR] at hx hi
      obtain ⟨c, hv, hx⟩ := hx
      obtain ⟨v, g1, g2⟩ := VRs.get hx n.toNat y h2
      exact ⟨y, v, hq, run_val (by rw [hv, hi]; exact run_index_arr h1 h3 g1), g2⟩
    · exact h.elim
theorem s_nilCheck {x : Operand} (h : ao P T σ Q (.nilCheck x)) : AOp P N k ⟨dst, .nilCheck x, ty, pos, af, gd⟩ T σ Q :=
  AOp.val fun B F μ w a st tr => by
    have hx := ev_ok tr x
    simp only [ao] at h
    split at h
    · rename_i e1
      rw [e1] at hx
      have hx' := hx
      simp only [VR] at hx
      obtain ⟨b, _, _, _, _, hv⟩ := hx
      exact ⟨_, a.eval x, h, by simp [execOp, hv], hx'⟩
    · rename_i e1
      rw [e1] at hx
      have hx' := hx
      simp only [VR] at hx
      obtain ⟨_, _, _, _, _, b, _, _, hv, _⟩ := hx
      exact ⟨_, a.eval x, h, by simp [execOp, hv], hx'⟩
    · rename_i e1
      rw [e1] at hx
      have hx' := hx
      simp only [VR] at hx
      obtain ⟨b, off, vs, hv, _⟩ := hx
      exact ⟨_, a.eval x, h, by simp [execOp, hv], hx'⟩
    · rename_i e1
      rw [e1] at hx
      have hx' := hx
      simp only [VR] at hx
      obtain ⟨y, z, hv, _⟩ := hx
      exact ⟨_, a.eval x, h, by simp [execOp, hv], hx'⟩
    · exact h.elim
theorem add_ok {x : V} {n : Nat} {K : V → Prop} {v : Value} (h : add x n K) (hv : VR F σ μ w x v) : ∃ y b off, K y ∧ v = .pointer (some ⟨b, off, none⟩) ∧ VR F σ μ w y (.pointer (some ⟨b, off + n, none⟩)) := by
  unfold add at h
  split at h
  · simp only [VR] at hv
    obtain ⟨b, T', cs, h1, h2, rfl⟩ := hv
    exact ⟨_, b, _, h, rfl, ⟨b, T', cs, h1, h2, rfl⟩⟩
  · simp only [VR] at hv
    obtain ⟨E, sz, m, cs, u, b, h1, h2, rfl, h3, h4⟩ := hv
    exact ⟨_, b, _, h, rfl, ⟨E, sz, m, cs, u, b, h1, h2, rfl, h3, h4⟩⟩
  · simp only [VR] at hv
    obtain ⟨b, off, vs, rfl, h1, h2, h3, h4⟩ := hv
    exact ⟨_, b, off, h, rfl, ⟨b, off + n, vs.drop n, rfl, h1, h2, rangeAt_drop h3 n, DRs.drop h4 n⟩⟩
  · exact h.elim
theorem s_fieldAddr {t j : Nat} {x : Operand} (h : ao P T σ Q (.fieldAddr t x j)) : AOp P N k ⟨dst, .fieldAddr t x j, ty, pos, af, gd⟩ T σ Q :=
  AOp.val fun B F μ w a st tr => by
    have hx := ev_ok tr x
    simp only [ao] at h
    obtain ⟨n, h1, h2⟩ := h
    obtain ⟨y, b, off, hq, hv, hy⟩ := add_ok h2 hx
    refine ⟨y, _, hq, ?_, hy⟩
    unfold fldOff at h1
    split at h1
    · rename_i fs hu
      split at h1
      · rename_i f hf
        split at h1
        · rename_i i hi
          split at h1
          · simp at h1
          · rename_i hz
            simp at h1
            subst h1
            simp [execOp, hv, Instr.fieldAt, run_underlying hu, hf, Instr.sureAddr, fieldPlace, sizeOf, typeInfo, hi, hz, Addr.add_mid]
        · simp at h1
      · simp at h1
    · simp at h1
theorem s_load {t : TypeId} {x : Operand} (h : ao P T σ Q (.load t x)) : AOp P N k ⟨dst, .load t x, ty, pos, af, gd⟩ T σ Q :=
  AOp.val fun B F μ w a st tr => by
    simp only [ao] at h
    obtain ⟨y, h1, hq⟩ := h
    obtain ⟨u, hr, hu⟩ := run_rdx (P := P) st h1 (ev_ok tr x)
    exact ⟨y, u, hq, run_val hr, hu⟩
theorem arrT_ok {t m sz : Nat} (h : arrT P t = some (m, sz)) : ∃ e i, P.underlying t = some (.array m e) ∧ P.info? e = some i ∧ i.size = sz ∧ 2 ≤ m := by
  unfold arrT at h
  split at h
  · rename_i n e hu
    split at h
    · rename_i i hi
      split at h
      · rename_i h2
        simp at h
        obtain ⟨rfl, rfl⟩ := h
        exact ⟨e, i, hu, hi, rfl, h2⟩
      · simp at h
    · simp at h
  · simp at h
theorem s_indexAddr {t : TypeId} {x i : Operand} (h : ao P T σ Q (.indexAddr t x i)) : AOp P N k ⟨dst, .indexAddr t x i, ty, pos, af, gd⟩ T σ Q :=
  AOp.val fun B F μ w a st tr => by
    have hx := ev_ok tr x
    simp only [ao] at h
    obtain ⟨kk, n, hi, h⟩ := onI_ok h (ev_ok tr i)
    split at h
    · rename_i m ys e1
      obtain ⟨e, sz, by_, h1, h2, hq⟩ := h
      obtain ⟨hu, ii, z, hii, _, hs, _⟩ := sliT_ok h1
      rw [e1] at hx
      simp only [VR, DR] at hx
      obtain ⟨A, cap, hv, hn, h0 | ⟨b, off, vs, rfl, hb, hF, hc, hd⟩⟩ := hx
      · omega
      · refine ⟨_, _, hq, ?_, ⟨b, off + n.toNat * sz, vs.drop (n.toNat * sz), rfl, hb, hF, rangeAt_drop hc _, DRs.drop hd _⟩⟩
        simp [execOp, hi, hv, Instr.indexAt, asIntOf, run_underlying hu, sizeOf, typeInfo, hii, hs, h2.1, h2.2, Addr.add_mid]
    · rename_i j m e1
      obtain ⟨e, sz, by_, cs, h1, hs', h2, hq⟩ := h
      obtain ⟨hu, ii, z, hii, _, hs, _⟩ := sliT_ok h1
      rw [e1] at hx
      obtain ⟨hμ, vs, hown, hd, _⟩ := own_hdr st hs' hx
      rcases hown.2 with ⟨hv, rfl⟩ | ⟨g, cap, cur, hv, hr⟩
      · omega
      · refine ⟨_, .pointer (some ⟨g, n.toNat * sz, none⟩), hq, ?_, ⟨e, sz, m, cs, a.eval x, g, hs', hμ, rfl, Nat.le_refl _, fun _ => by rw [hv]; rfl⟩⟩
        simp [execOp, hi, hv, Instr.indexAt, asIntOf, run_underlying hu, sizeOf, typeInfo, hii, hs, h2.1, h2.2, Addr.add_mid]
    · rename_i j off e1
      obtain ⟨m, sz, h1, h2, hq⟩ := h
      obtain ⟨e, ii, hu, hii, hs, hm⟩ := arrT_ok h1
      rw [e1] at hx
      simp only [VR] at hx
      obtain ⟨b, T', cs, g1, g2, hv⟩ := hx
      refine ⟨_, .pointer (some ⟨b, off + n.toNat * sz, none⟩), hq, ?_, ⟨b, T', cs, g1, g2, rfl⟩⟩
      simp [execOp, hi, hv, Instr.indexAt, asIntOf, run_underlying hu, sizeOf, typeInfo, hii, hs, h2.1, h2.2, Addr.add_mid, Instr.sureAddr]
    · rename_i j off m e1
      obtain ⟨e, sz, by_, h1, h2, hq⟩ := h
      obtain ⟨hu, ii, z, hii, _, hs, _⟩ := sliT_ok h1
      rw [e1] at hx
      simp only [VR] at hx
      obtain ⟨b, T', cs, g1, g2, cap, hv, _⟩ := hx
      refine ⟨_, .pointer (some ⟨b, off + n.toNat * sz, none⟩), hq, ?_, ⟨b, T', cs, g1, g2, rfl⟩⟩
      simp [execOp, hi, hv, Instr.indexAt, asIntOf, run_underlying hu, sizeOf, typeInfo, hii, hs, h2.1, h2.2, Addr.add_mid]
    · rename_i j m e1
      obtain ⟨e, sz, by_, h1, h2, hq⟩ := h
      obtain ⟨hu, ii, z, hii, _, hs, _⟩ := sliT_ok h1
      rw [e1] at hx
      simp only [VR] at hx
      obtain ⟨b, T', cs, g1, g2, cap, hv, _⟩ := hx
      refine ⟨_, .pointer (some ⟨b, n.toNat * sz, none⟩), hq, ?_, ⟨b, T', cs, g1, g2, rfl⟩⟩
      simp [execOp, hi, hv, Instr.indexAt, asIntOf, run_underlying hu, sizeOf, typeInfo, hii, hs, h2.1, h2.2, Addr.add_mid]
    · exact h.elim
theorem s_extract {j : Nat} {x : Operand} (h : ao P T σ Q (.extract x j)) : AOp P N k ⟨dst, .extract x j, ty, pos, af, gd⟩ T σ Q :=
  AOp.val fun B F μ w a st tr => by
    have hx := ev_ok tr x
    simp only [ao] at h
    split at h
    · rename_i vs e1
      obtain ⟨y, h1, hq⟩ := h
      rw [e1] at hx
      simp only [VR] at hx
      obtain ⟨cs, hv, hvs⟩ := hx
      obtain ⟨u, hu, hy⟩ := VRs.get hvs j y h1
      have hu' : cs[j]? = some u := by simpa using hu
      exact ⟨y, u, hq, by simp [execOp, hv, Instr.extract, hu'], hy⟩
    · exact h.elim
theorem s_makeFunc {fn : Fn} {fi ca : Array Operand} (h : ao P T σ Q (.makeFunc fn fi ca)) : AOp P N k ⟨dst, .makeFunc fn fi ca, ty, pos, af, gd⟩ T σ Q :=
  AOp.val fun B F μ w a st tr => by
    simp only [ao] at h
    refine ⟨_, .func fn (fi.map a.eval) (ca.map a.eval), h, by simp [execOp, Instr.makeFunc], ⟨_, _, rfl, ?_, ?_⟩⟩
    · rw [Array.toList_map]; exact evs_ok tr _
    · rw [Array.toList_map]; exact evs_ok tr _
theorem VRp_ev {a : Act} (tr : TR N F σ μ w T a.tmps) : ∀ l : List (Nat × Operand), VRp F σ μ w (l.map fun p => (p.1, ev T p.2)) (l.map fun p => (p.1, a.eval p.2))
  | [] => rfl
  | (i, x) :: l => ⟨_, _, rfl, ev_ok tr x, VRp_ev tr l⟩
theorem s_build {t : TypeId} {ps : Array (Nat × Operand)} (h : ao P T σ Q (.build t ps)) : AOp P N k ⟨dst, .build t ps, ty, pos, af, gd⟩ T σ Q :=
  AOp.val fun B F μ w a st tr => by
    simp only [ao] at h
    obtain ⟨zs, pl, cs, h1, h2, hq⟩ := h
    obtain ⟨v, hr, hv⟩ := run_build_V (P := P) h1 h2 (VRp_ev tr ps.toList)
    refine ⟨_, v, hq, ?_, hv⟩
    have e : (ps.map fun x => (x.1, a.eval x.2)) = (ps.toList.map fun p => (p.1, a.eval p.2)).toArray := by
      apply Array.ext'
      simp
    simp only [execOp]
    rw [e]
    exact run_val hr
theorem AOp.val2 {o : Oper} (h : ∀ B F μ w (a : Act), St k B F σ μ w → TR N F σ μ w T a.tmps → ∃ v w', (execOp a.eval o).run P w = .ok (.value v) w' ∧ Lift k B F σ μ w Q v w') : AOp P N k o T σ Q := by
  intro B F μ w a st tr next X hn
  obtain ⟨v, w', hr, hl⟩ := h B F μ w a st tr
  unfold Oper.wp
  rw [hr]
  exact hn v w' hl
theorem s_store {t : TypeId} {x y : Operand} (h : ao P T σ Q (.store t x y)) : AOp P N k ⟨dst, .store t x y, ty, pos, af, gd⟩ T σ Q := by
  intro B F μ w a st tr next X hn
  have hx := ev_ok tr x
  have hy := ev_ok tr y
  simp only [ao] at h
  split at h
  · rename_i i off e1
    obtain ⟨T', cs, h1, h2, h3, h4, hq⟩ := h
    rw [e1] at hx
    obtain ⟨w', hr, g1, g2, g3⟩ := store_box (P := P) (t := t) st h1 hx hy h2 h3 h4
    unfold Oper.wp
    simp only [execOp]
    rw [run_unit hr]
    exact hn undef w' ⟨_, F, _, μ, hq, g2, g1, g3, ⟨#[], rfl, rfl⟩, fun _ h => h⟩
  · rename_i i n off e1
    obtain ⟨E, sz, cs, ys, h1, h2, h3, h4, h5, hq⟩ := h
    rw [e1] at hx
    obtain ⟨w', hr, g1, g2, g3⟩ := store_row (P := P) (t := t) st h1 hx hy (toDs_ok h2) h3 h4 h5
    unfold Oper.wp
    simp only [execOp]
    rw [run_unit hr]
    exact hn undef w' ⟨_, F, _, μ, hq, g2, g1, g3, ⟨#[], rfl, rfl⟩, fun _ h => h⟩
  · exact h.elim
theorem s_alloc {t : TypeId} (h : ao P T σ Q (.alloc t)) : AOp P N k ⟨dst, .alloc t, ty, pos, af, gd⟩ T σ Q :=
  AOp.val2 fun B F μ w a st tr => by
    simp only [ao] at h
    obtain ⟨z, hz, hq⟩ := h
    unfold zr at hz
    split at hz
    · rename_i i hi
      split at hz
      · rename_i v hv
        simp at hz
        subst hz
        obtain ⟨F', μ', g1, g2, g3, g4, g5⟩ := new_box (T := t) (arr := v.cells) st (cvs_ok v.cells.toList)
        exact ⟨.pointer (some ⟨w.heap.size, 0, none⟩), _, by simp [execOp, Instr.alloc, zeroValue, typeInfo, hi, hv, newVar, newRow], ⟨_, F', _, μ', hq, g2, g1, g3, g4, g5⟩⟩
      · simp at hz
    · simp at hz
theorem s_box {t : TypeId} {x : Operand} (h : ao P T σ Q (.box t x)) : AOp P N k ⟨dst, .box t x, ty, pos, af, gd⟩ T σ Q :=
  AOp.val2 fun B F μ w a st tr => by
    simp only [ao] at h
    obtain ⟨h1, hq⟩ := h
    obtain ⟨F', μ', g1, g2, g3, g4, g5⟩ := new_box (T := t) (arr := (a.eval x).cells) st (flat_ok (ev_ok tr x) h1)
    exact ⟨.pointer (some ⟨w.heap.size, 0, none⟩), _, by simp [execOp, Instr.box, newVar, newRow], ⟨_, F', _, μ', hq, g2, g1, g3, g4, g5⟩⟩
theorem new_imm {E sz n : Nat} {ys : List D} {arr : Array Value} (st : St k B F σ μ w) (hv : DRs F w ys arr.toList) :
    St k B F σ μ (w.alloc (.cells arr E)) ∧ Stp k B F σ μ w F σ μ (w.alloc (.cells arr E)) ∧ VR F σ μ (w.alloc (.cells arr E)) (.d (.l n ys)) (.slice (some ⟨w.heap.size, 0, none⟩) n n) := by
  have hsz : (w.alloc (.cells arr E)).heap.size = w.heap.size + 1 := by simp
  have hmem : ∀ b, b < w.heap.size → (w.alloc (.cells arr E)).heap[b]? = w.heap[b]? := fun b hb => heap_alloc_old w _ hb
  have hm : Mem F w F (w.alloc (.cells arr E)) := ⟨by omega, fun b hb hF => ⟨hmem b hb, hF⟩⟩
  refine ⟨⟨st.len, fun i ob h h1 h2 => ?_, st.sep, fun b hb => by have := st.lt b hb; omega, by have := st.base; omega⟩,
    ⟨rfl, rfl, rfl, by omega, fun b hb _ => hmem b hb, fun _ h => .inl h, fun _ _ h => h, fun _ h => .inl h, Keep.refl _ _ _, fun _ _ _ _ _ _ _ _ _ _ _ _ _ h1 _ h2 b hb => by
      rw [h1] at h2; obtain rfl := Option.some.inj h2; exact .inl hb⟩, ?_⟩
  · exact ObOk.mono hm st.len (Keep.refl _ _ _) (fun b hb => ⟨hmem b (st.none_high h1 h2 hb), fun h => h⟩) (st.obj i ob h h1 h2)
  · refine ⟨_, n, rfl, Nat.le_refl _, .inr ⟨w.heap.size, 0, arr.toList, rfl, by omega, fun hF => ?_, rangeAt_block (heap_alloc_new w _), DRs.mem hm hv⟩⟩
    have := st.lt _ hF
    omega
theorem new_row0 {E sz : Nat} (st : St k B F σ μ w) :
    ∃ F' μ', St k B F' (σ ++ [.row E sz 0 []]) μ' (w.alloc (.cells #[] E)) ∧ Stp k B F σ μ w F' (σ ++ [.row E sz 0 []]) μ' (w.alloc (.cells #[] E)) ∧ Keep σ.length σ μ (σ ++ [.row E sz 0 []]) μ' ∧
      VR F' (σ ++ [.row E sz 0 []]) μ' (w.alloc (.cells #[] E)) (.o σ.length 0) (.slice (some ⟨w.heap.size, 0, none⟩) 0 0) ∧ ∀ b, F b → F' b := by
  have hsz : (w.alloc (.cells #[] E)).heap.size = w.heap.size + 1 := by simp
  have hmem : ∀ b, b < w.heap.size → (w.alloc (.cells #[] E)).heap[b]? = w.heap[b]? := fun b hb => heap_alloc_old w _ hb
  let F' : Nat → Prop := fun b => F b ∨ b = w.heap.size
  obtain ⟨g1, g2, g3, g4⟩ := St.push (ob' := .row E sz 0 []) (h' := .slice (some ⟨w.heap.size, 0, none⟩) 0 0) (F' := F') (w' := w.alloc (.cells #[] E)) st rfl rfl rfl (by omega) hmem (fun _ h => .inl h)
    (fun b hb => hb.imp id (fun e => ⟨by omega, by omega⟩)) (fun b hb => by simp [blk] at hb; omega)
    ⟨[], ⟨by simp, .inr ⟨w.heap.size, 0, #[], rfl, by split <;> first | exact st.base | exact Nat.zero_le _, heap_alloc_new w _, Nat.le_refl _, Nat.zero_le _, by simp, by simp⟩⟩, by simp [DRs], fun b hb => by simp [Value.ownBlock] at hb; exact .inr hb.symm⟩
  exact ⟨F', _, g1, g2, g3, ⟨E, sz, 0, [], .slice (some ⟨w.heap.size, 0, none⟩) 0 0, some ⟨w.heap.size, 0, none⟩, 0, by simp, by rw [← st.len]; simp, rfl, Nat.le_refl _, fun _ => rfl⟩, fun _ h => .inl h⟩
theorem s_buildSlice {t n : Nat} {ps : Array (Nat × Operand)} (h : ao P T σ Q (.buildSlice t n ps)) : AOp P N k ⟨dst, .buildSlice t n ps, ty, pos, af, gd⟩ T σ Q :=
  AOp.val2 fun B F μ w a st tr => by
    simp only [ao] at h
    split at h
    · rename_i h0
      obtain ⟨rfl, e, sz, by_, h1, hq⟩ := h
      have hps : ps = #[] := Array.eq_empty_of_size_eq_zero h0
      subst hps
      obtain ⟨arr, hr, _, ha⟩ := run_buildSlice_V (P := P) (w := w) (F := F) (σ := σ) (μ := μ) (t := t) (parts := []) (ps := []) (cs := []) h1 rfl (by simp [VRp]) (by simp)
      have ha0 : arr = #[] := Array.eq_empty_of_size_eq_zero (by simpa using ha)
      subst ha0
      obtain ⟨F', μ', g1, g2, g3, g4, g5⟩ := new_row0 (E := e) (sz := sz) st
      refine ⟨.slice (some ⟨w.heap.size, 0, none⟩) 0 0, _, ?_, ⟨_, F', _, μ', hq, g2, g1, g3, g4, g5⟩⟩
      simp only [execOp]
      rw [show Array.map (fun x : Nat × Operand => (x.1, a.eval x.2)) #[] = #[] from by simp]
      exact run_val hr
    obtain ⟨e, sz, by_, cs, h1, h2, h3, h4, hq⟩ := h
    subst h2
    obtain ⟨arr, hr, hv, _⟩ := run_buildSlice_V (P := P) h1 h4 (VRp_ev tr ps.toList) (by simpa using h3)
    have e1 : (ps.map fun x => (x.1, a.eval x.2)) = (ps.toList.map fun p => (p.1, a.eval p.2)).toArray := by
      apply Array.ext'
      simp
    simp only [List.length_map, Array.length_toList] at hr
    split at hq
    · rename_i ys h5
      have hd := DRs.ofV ys arr.toList (by rw [← toDs_ok h5]; exact hv)
      obtain ⟨g1, g2, g3⟩ := new_imm (E := e) (n := ps.size) (sz := sz) st hd
      refine ⟨.slice (some ⟨w.heap.size, 0, none⟩) ps.size ps.size, _, ?_, ⟨_, F, σ, μ, hq, g2, g1, Keep.refl _ _ _, g3, fun _ h => h⟩⟩
      simp only [execOp]
      rw [e1]
      exact run_val hr
    · obtain ⟨F', μ', g1, g2, g3, g4, g5⟩ := new_box (T := e) (arr := arr) st hv
      obtain ⟨b, T', cs', k1, k2, k3⟩ := g4
      refine ⟨.slice (some ⟨w.heap.size, 0, none⟩) ps.size ps.size, _, ?_, ⟨_, F', _, μ', hq, g2, g1, g3, ⟨b, T', cs', k1, k2, ps.size, ?_, rfl⟩, g5⟩⟩
      · simp only [execOp]
        rw [e1]
        exact run_val hr
      · simp only [Value.pointer.injEq, Option.some.injEq, Addr.mk.injEq, true_and, and_true] at k3
        rw [k3]
theorem new_rowz {E n : Nat} {z : Value} (arr : Array Value) (hn : n ≤ maxLen) (ha : arr.toList = List.replicate n z) (st : St k B F σ μ w) :
    ∃ F' μ', St k B F' (σ ++ [.row E 1 n (List.replicate n (.s z))]) μ' (w.alloc (.cells arr E)) ∧ Stp k B F σ μ w F' (σ ++ [.row E 1 n (List.replicate n (.s z))]) μ' (w.alloc (.cells arr E)) ∧ Keep σ.length σ μ (σ ++ [.row E 1 n (List.replicate n (.s z))]) μ' ∧
      VR F' (σ ++ [.row E 1 n (List.replicate n (.s z))]) μ' (w.alloc (.cells arr E)) (.o σ.length n) (.slice (some ⟨w.heap.size, 0, none⟩) n n) ∧ ∀ b, F b → F' b := by
  have hsz : (w.alloc (.cells arr E)).heap.size = w.heap.size + 1 := by simp
  have hmem : ∀ b, b < w.heap.size → (w.alloc (.cells arr E)).heap[b]? = w.heap[b]? := fun b hb => heap_alloc_old w _ hb
  let F' : Nat → Prop := fun b => F b ∨ b = w.heap.size
  have hal : arr.size = n := by rw [← Array.length_toList, ha, List.length_replicate]
  have hd : DRs F' (w.alloc (.cells arr E)) (List.replicate n (.s z)) (List.replicate n z) := by
    clear hn ha hal
    induction n with
    | zero => simp [DRs]
    | succ n ih => rw [List.replicate_succ, List.replicate_succ]; exact ⟨_, _, rfl, rfl, ih⟩
  obtain ⟨g1, g2, g3, g4⟩ := St.push (ob' := .row E 1 n (List.replicate n (.s z))) (h' := .slice (some ⟨w.heap.size, 0, none⟩) n n) (F' := F') (w' := w.alloc (.cells arr E)) st rfl rfl rfl (by omega) hmem (fun _ h => .inl h)
    (fun b hb => hb.imp id (fun e => ⟨by omega, by omega⟩)) (fun b hb => by simp [blk] at hb; omega)
    ⟨List.replicate n z, ⟨by simp, .inr ⟨w.heap.size, n, arr, rfl, by split <;> first | exact st.base | exact Nat.zero_le _, heap_alloc_new w _, Nat.le_refl _, hn, by omega, by rw [Nat.mul_one, ha]; simp⟩⟩, hd, fun b hb => by simp [Value.ownBlock] at hb; exact .inr hb.symm⟩
  exact ⟨F', _, g1, g2, g3, ⟨E, 1, n, List.replicate n (.s z), .slice (some ⟨w.heap.size, 0, none⟩) n n, some ⟨w.heap.size, 0, none⟩, n, by simp, by rw [← st.len]; simp, rfl, Nat.le_refl _, fun _ => rfl⟩, fun _ h => .inl h⟩
theorem s_makeSlice {t : Nat} {l c : Operand} (h : ao P T σ Q (.makeSlice t l c)) : AOp P N k ⟨dst, .makeSlice t l c, ty, pos, af, gd⟩ T σ Q :=
  AOp.val2 fun B F μ w a st tr => by
    simp only [ao] at h
    obtain ⟨k1, n1, e1, h⟩ := onI_ok h (ev_ok tr l)
    obtain ⟨k2, n2, e2, h⟩ := onI_ok h (ev_ok tr c)
    obtain ⟨e, by_, z, h1, h2, ⟨h3, h4, h5⟩, hq⟩ := h
    subst h4
    obtain ⟨hu, i, zz, hi, hz, hs, hb, hzs, hsz, _⟩ := sliT_ok h1
    have hzc : zz.cells.toList = [z] := by
      unfold zr at h2
      rw [hi] at h2
      simp only [hz] at h2
      exact Option.some.inj h2
    have hr := run_make (P := P) w t e i zz hu hi hz k1 k2 n2 n2 h3 (Int.le_refl _) (by rw [hb]; exact h5) (by
      have : (1 : Int) ≤ by_ := by omega
      have := Int.mul_le_mul_of_nonneg_right this h3
      omega)
    have hcl : (madeCells zz.cells (n2.toNat * i.size)).toList = List.replicate n2.toNat z := by
      have hz1 : zz.cells = #[z] := Array.ext' (by simpa using hzc)
      rw [hz1, hs, Nat.mul_one]
      unfold madeCells
      apply List.ext_getElem
      · simp
      · intro j h6 h7
        simp [Nat.mod_one]
    obtain ⟨F', μ', g1, g2, g3, g4, g5⟩ := new_rowz (E := e) (n := n2.toNat) (z := z) (madeCells zz.cells (n2.toNat * i.size)) (by
      have : (1 : Int) ≤ by_ := by omega
      have := Int.mul_le_mul_of_nonneg_right this h3
      simp only [maxLen]
      omega) hcl st
    refine ⟨.slice (some ⟨w.heap.size, 0, none⟩) n2.toNat n2.toNat, _, ?_, ⟨_, F', _, μ', hq, g2, g1, g3, g4, g5⟩⟩
    simp only [execOp, e1, e2]
    exact run_val hr
theorem fldT_ok {t j f : Nat} (h : ao.fldT P t j = some f) : ∃ fs fd, P.underlying t = some (.struct fs) ∧ fs[j]? = some fd ∧ fd.type = f := by
  unfold ao.fldT at h
  split at h
  · rename_i fs hu
    obtain ⟨fd, h1, h2⟩ := Option.map_eq_some_iff.1 h
    exact ⟨fs, fd, hu, h1, h2⟩
  · simp at h
theorem s_field {t j : Nat} {x : Operand} (h : ao P T σ Q (.field t x j)) : AOp P N k ⟨dst, .field t x j, ty, pos, af, gd⟩ T σ Q :=
  AOp.val fun B F μ w a st tr => by
    have hx := ev_ok tr x
    simp only [ao] at h
    split at h
    · rename_i cs e1
      obtain ⟨n, f, h1, h2, y, h3, hq⟩ := h
      rw [e1] at hx
      simp only [VR] at hx
      obtain ⟨arr, hv, hvs⟩ := hx
      obtain ⟨fs, fd, hu, hf, rfl⟩ := fldT_ok h2
      have hoff : fd.offset = n := by
        unfold fldOff at h1
        rw [hu] at h1
        simp only [hf] at h1
        split at h1
        · split at h1 <;> simp_all
        · simp at h1
      have hd := VRs.drop hvs n
      unfold rdV at h3
      split at h3
      · rename_i sz hs
        split at h3
        · rename_i hl
          simp at h3
          subst h3
          obtain ⟨d, hu', hr', hi'⟩ := shp_row hs
          obtain ⟨i, hi, hsz⟩ := Option.map_eq_some_iff.1 hi'
          have hag : (isAgg fd.type).run P w = .ok true w := by
            unfold isAgg
            rw [Sem.run_bind, run_underlying hu' w]
            cases d <;> simp_all
          refine ⟨_, .agg (arr.extract n (n + sz)), hq, ?_, ⟨_, rfl, ?_⟩⟩
          · simp [execOp, hv, Instr.field, run_underlying hu, hf, asAgg, part, hag, sizeOf, typeInfo, hi, hsz, hoff]
          · have := VRs.take hd sz
            simpa [List.take_drop, Nat.add_comm] using this
        · simp at h3
      · rename_i hs
        obtain ⟨d, i, hu', hr', hi, hsz⟩ := shp_one hs
        cases hc : cs.drop n with
        | nil => simp [hc] at h3
        | cons y' ys =>
          simp [hc] at h3
          subst h3
          rw [hc] at hd
          simp only [VRs] at hd
          obtain ⟨v, us, hvs', hy, _⟩ := hd
          have hget : arr[n]? = some v := by
            have := congrArg (fun l => l[0]?) hvs'
            simpa using this
          exact ⟨_, v, hq, by simp [execOp, hv, Instr.field, run_underlying hu, hf, asAgg, part, run_isAgg_one hu' hr', hoff, hget], hy⟩
      · simp at h3
    · exact h.elim
theorem run_bound {n : Nat} {j : IntKind} {i : Int} {c : BoundsCode} (h : 0 ≤ i ∧ i ≤ n) : (Instr.sliceBound (.int j i) n c).run P w = .ok i.toNat w := by
  simp [Instr.sliceBound, asIntOf, h.1, h.2]
theorem sliceAt_not_array {t : TypeId} {x : Value} {lo hi mx : Option Value} {d : TypeDesc} (hu : P.underlying t = some d) (hd : ∀ n e, d ≠ .array n e) :
    (Instr.sliceAt t x lo hi mx).run P w = (Instr.slice t x lo hi mx).run P w := by
  unfold Instr.sliceAt
  rw [Sem.run_bind, run_underlying hu w]
  cases d <;> simp_all
theorem run_slice_str {t : TypeId} {s : ByteArray} {lo hi : Option Value} {l r m : Nat} (hu : P.underlying t = some .string) (hb : (Instr.sliceBounds false s.size s.size lo hi none).run P w = .ok (l, r, m) w) :
    (Instr.sliceAt t (.string s) lo hi none).run P w = .ok (.string (s.extract l r)) w := by
  rw [sliceAt_not_array hu (by simp)]
  simp [Instr.slice, run_underlying hu, hb]
theorem run_slice_imm {t e sz by_ n cap : Nat} {A : Option Addr} {lo hi : Option Value} {l r : Nat} (ht : sliT P t = some (e, sz, by_)) (hb : (Instr.sliceBounds true n cap lo hi none).run P w = .ok (l, r, cap) w) :
    (Instr.sliceAt t (.slice A n cap) lo hi none).run P w = .ok (.slice (if cap = l then A else A.map (·.add (l * sz))) (r - l) (cap - l)) w := by
  obtain ⟨hu, i, z, hi, _, hs, _⟩ := sliT_ok ht
  rw [sliceAt_not_array hu (by simp)]
  simp [Instr.slice, run_underlying hu, hb, sizeOf, typeInfo, hi, hs]
theorem part_imm {A : Option Addr} {n cap sz l r : Nat} {ys : List D} (hv : VR F σ μ w (.d (.l n ys)) (.slice A n cap)) (hlr : l ≤ r) (hrn : r ≤ n) :
    VR F σ μ w (.d (.l (r - l) ((ys.drop (l * sz)).take ((r - l) * sz)))) (.slice (if cap = l then A else A.map (·.add (l * sz))) (r - l) (cap - l)) := by
  simp only [VR, DR] at hv ⊢
  obtain ⟨A', cap', hv, hn, h⟩ := hv
  simp at hv
  obtain ⟨rfl, rfl⟩ := hv
  refine ⟨_, _, rfl, by omega, ?_⟩
  rcases h with ⟨rfl, rfl⟩ | ⟨b, off, vs, rfl, hb, hF, hc, hd⟩
  · exact .inl ⟨by simp, by omega⟩
  · by_cases e : r - l = 0
    · exact .inl ⟨by simp [e], e⟩
    · refine .inr ⟨b, off + l * sz, (vs.drop (l * sz)).take ((r - l) * sz), ?_, hb, hF, rangeAt_take (rangeAt_drop hc _) _, DRs.take (DRs.drop hd _) _⟩
      rw [if_neg (by omega)]
      simp [Addr.add_mid]
theorem s_slice {t : TypeId} {x : Operand} {lo hi : Option Operand} (h : ao P T σ Q (.slice t x lo hi none)) : AOp P N k ⟨dst, .slice t x lo hi none, ty, pos, af, gd⟩ T σ Q :=
  AOp.val fun B F μ w a st tr => by
    have hx := ev_ok tr x
    simp only [ao] at h
    split at h
    · rename_i s e1
      obtain ⟨h1, h⟩ := h
      have hu := isS_ok h1
      rw [e1] at hx
      simp only [VR, DR] at hx
      have key : ∀ l r m : Nat, (Instr.sliceBounds false s.size s.size (lo.map a.eval) (hi.map a.eval) none).run P w = .ok (l, r, m) w → Q (sv (s.extract l r)) σ →
          ∃ x1 v, Q x1 σ ∧ (execOp a.eval ⟨dst, .slice t x lo hi none, ty, pos, af, gd⟩).run P w = .ok (.value v) w ∧ VR F σ μ w x1 v := fun l r m hb hq =>
        ⟨_, _, hq, run_val (by rw [hx]; exact run_slice_str hu hb), rfl⟩
      rcases lo with _ | l <;> rcases hi with _ | r
      · refine key 0 s.size s.size (by simp [Instr.sliceBounds]) ?_
        have e : s.extract 0 s.size = s := by apply ByteArray.ext; rw [ByteArray.data_extract]; exact Array.extract_size
        rw [e]; exact h
      · obtain ⟨j, m, hm, hb, hq⟩ := onI_ok h (ev_ok tr r)
        exact key 0 m.toNat s.size (by simp [Instr.sliceBounds, hm, run_bound hb]) hq
      · obtain ⟨j, m, hm, hb, hq⟩ := onI_ok h (ev_ok tr l)
        exact key m.toNat s.size s.size (by simp [Instr.sliceBounds, hm, run_bound hb]) hq
      · obtain ⟨j, m, hm, h⟩ := onI_ok h (ev_ok tr l)
        obtain ⟨j2, m2, hm2, hb, hq⟩ := onI_ok h (ev_ok tr r)
        exact key m.toNat m2.toNat s.size (by simp [Instr.sliceBounds, hm, hm2, run_bound (show 0 ≤ m2 ∧ m2 ≤ (s.size : Int) from by omega), run_bound (n := m2.toNat) (show 0 ≤ m ∧ m ≤ ((m2.toNat : Nat) : Int) from by omega)]) hq
    · rename_i n ys e1
      obtain ⟨e, sz, by_, h1, h⟩ := h
      rw [e1] at hx
      obtain ⟨A, cap, hv, hn⟩ : ∃ A cap, a.eval x = .slice A n cap ∧ n ≤ cap := by simp only [VR, DR] at hx; obtain ⟨A, cap, hv, hn, _⟩ := hx; exact ⟨A, cap, hv, hn⟩
      rw [hv] at hx
      have key : ∀ l r : Nat, ∀ zs, (Instr.sliceBounds true n cap (lo.map a.eval) (hi.map a.eval) none).run P w = .ok (l, r, cap) w → l ≤ r → r ≤ n → zs = (ys.drop (l * sz)).take ((r - l) * sz) → Q (.d (.l (r - l) zs)) σ →
          ∃ x1 v, Q x1 σ ∧ (execOp a.eval ⟨dst, .slice t x lo hi none, ty, pos, af, gd⟩).run P w = .ok (.value v) w ∧ VR F σ μ w x1 v := fun l r zs hb h2 h3 hz hq => by
        subst hz
        exact ⟨_, _, hq, run_val (by rw [hv]; exact run_slice_imm h1 hb), part_imm hx h2 h3⟩
      rcases lo with _ | l <;> rcases hi with _ | r
      · obtain ⟨hl, hq⟩ := h
        exact key 0 n ys (by simp [Instr.sliceBounds]) (Nat.zero_le _) (Nat.le_refl _) (by simp; rw [List.take_of_length_le (by omega)]) (by simpa using hq)
      · obtain ⟨j, m, hm, hb, hq⟩ := onI_ok h (ev_ok tr r)
        exact key 0 m.toNat _ (by simp [Instr.sliceBounds, hm, run_bound (show 0 ≤ m ∧ m ≤ (cap : Int) from by omega)]) (Nat.zero_le _) (by omega) rfl (by simpa using hq)
      · obtain ⟨j, m, hm, hb, hl, hq⟩ := onI_ok h (ev_ok tr l)
        refine key m.toNat n _ (by simp [Instr.sliceBounds, hm, run_bound hb]) (by omega) (Nat.le_refl _) rfl ?_
        rw [List.take_of_length_le (by rw [List.length_drop, hl, Nat.sub_mul]; exact Nat.le_refl _)]
        exact hq
      · obtain ⟨j, m, hm, h⟩ := onI_ok h (ev_ok tr l)
        obtain ⟨j2, m2, hm2, hb, hq⟩ := onI_ok h (ev_ok tr r)
        exact key m.toNat m2.toNat _ (by simp [Instr.sliceBounds, hm, hm2, run_bound (show 0 ≤ m2 ∧ m2 ≤ (cap : Int) from by omega), run_bound (n := m2.toNat) (show 0 ≤ m ∧ m ≤ ((m2.toNat : Nat) : Int) from by omega)]) (by omega) (by omega) rfl hq
    · rename_i i off e1
      obtain ⟨rfl, m, h1, h⟩ := h
      rw [e1] at hx
      simp only [VR] at hx
      obtain ⟨b, T', cs, g1, g2, hv⟩ := hx
      rcases lo with _ | l <;> rcases hi with _ | r
      · obtain ⟨h2, hq⟩ := h
        refine ⟨_, .slice (some ⟨b, 0, none⟩) m m, hq, run_val (by rw [hv]; exact run_slice_arr h1 (by simp [Instr.sliceBounds]) h2), ⟨b, T', cs, g1, g2, m, rfl, rfl⟩⟩
      · exact h.elim
      · obtain ⟨j, n, hm, hb, hq⟩ := onI_ok h (ev_ok tr l)
        refine ⟨_, .slice (some ⟨b, n.toNat, none⟩) (m - n.toNat) (m - n.toNat), hq, run_val (by rw [hv]; exact run_slice_arr h1 (by simp [Instr.sliceBounds, hm, run_bound (show 0 ≤ n ∧ n ≤ (m : Int) from by omega)]) (by omega)), ⟨b, T', cs, g1, g2, _, rfl, rfl⟩⟩
      · exact h.elim
    · exact h.elim
theorem s_len {args : Array Operand} {ts : Array TypeId} (h : ao P T σ Q (.call { callee := .builtin .len, args := args, argTypes := ts })) :
    AOp P N k ⟨dst, .call { callee := .builtin .len, args := args, argTypes := ts }, ty, pos, af, gd⟩ T σ Q :=
  AOp.val fun B F μ w a st tr => by
    simp only [ao] at h
    split at h
    · rename_i x t e1 e2
      have ea : args = #[x] := by apply Array.ext'; simpa using e1
      have et : ts = #[t] := by apply Array.ext'; simpa using e2
      subst ea; subst et
      have hx := ev_ok tr x
      have key : ∀ n : Int, (Builtin.len_ #[t] ty #[a.eval x]).run P w = .ok (.int .i64 n) w → Q (iv .i64 n) σ →
          ∃ x1 v, Q x1 σ ∧ (execOp a.eval ⟨dst, .call { callee := .builtin .len, args := #[x], argTypes := #[t] }, ty, pos, af, gd⟩).run P w = .ok (.value v) w ∧ VR F σ μ w x1 v := fun n hr hq =>
        ⟨_, _, hq, by simp [execOp, resolve, invoke, builtin, hr], rfl⟩
      split at h
      · rename_i s e3
        obtain ⟨h1, hq⟩ := h
        rw [e3] at hx
        simp only [VR, DR] at hx
        exact key _ (by simp [Builtin.len_, run_underlying (isS_ok h1), hx, goInt]) hq
      · rename_i n ys e3
        obtain ⟨h1, hq⟩ := h
        obtain ⟨⟨e, sz, by_⟩, h1⟩ := Option.isSome_iff_exists.1 h1
        rw [e3] at hx
        simp only [VR, DR] at hx
        obtain ⟨A, cap, hv, _⟩ := hx
        exact key _ (by simp [Builtin.len_, run_underlying (sliT_ok h1).1, hv, goInt]) hq
      · rename_i e3
        obtain ⟨h1, hq⟩ := h
        obtain ⟨⟨e, sz, by_⟩, h1⟩ := Option.isSome_iff_exists.1 h1
        rw [e3] at hx
        simp only [VR, DR] at hx
        exact key _ (by simp [Builtin.len_, run_underlying (sliT_ok h1).1, hx, goInt]) hq
      · rename_i i n e3
        obtain ⟨h1, hq⟩ := h
        obtain ⟨⟨e, sz, by_⟩, h1⟩ := Option.isSome_iff_exists.1 h1
        rw [e3] at hx
        simp only [VR] at hx
        obtain ⟨_, _, _, _, _, A, cap, _, _, hv, _⟩ := hx
        exact key _ (by simp [Builtin.len_, run_underlying (sliT_ok h1).1, hv, goInt]) hq
      · rename_i i off n e3
        obtain ⟨h1, hq⟩ := h
        obtain ⟨⟨e, sz, by_⟩, h1⟩ := Option.isSome_iff_exists.1 h1
        rw [e3] at hx
        simp only [VR] at hx
        obtain ⟨_, _, _, _, _, cap, hv, _⟩ := hx
        exact key _ (by simp [Builtin.len_, run_underlying (sliT_ok h1).1, hv, goInt]) hq
      · rename_i i n e3
        obtain ⟨h1, hq⟩ := h
        obtain ⟨⟨e, sz, by_⟩, h1⟩ := Option.isSome_iff_exists.1 h1
        rw [e3] at hx
        simp only [VR] at hx
        obtain ⟨_, _, _, _, _, cap, hv, _⟩ := hx
        exact key _ (by simp [Builtin.len_, run_underlying (sliT_ok h1).1, hv, goInt]) hq
      · exact h.elim
    · exact h.elim
theorem run_copy_str {dT sT ty elem b o dLen dCap : Nat} {x : ByteArray} {arr : Array Value} {T : TypeId}
    (hu : P.underlying dT = some (.slice elem)) (hz : (Go.sizeOf elem).run P w = .ok 1 w) (hle : x.size ≤ dLen) (hb : w.heap[b]? = some (.cells arr T (0, 0))) (hfit : o + x.size ≤ arr.size) :
    (Builtin.copy_ #[dT, sT] ty #[.slice (some ⟨b, o, none⟩) dLen dCap, .string x]).run P w = .ok (goInt x.size) (w.setCells b o (x.data.toList.map fun y => Value.int .u8 (y.toNat : Int))) := by
  have hmin : Nat.min x.size dLen = x.size := Nat.min_eq_left hle
  have hl : (x.data.toList.map fun y => Value.int .u8 (y.toNat : Int)).length = x.size := by rw [List.length_map]; simp
  have hst := run_storeCells_cells (P := P) b o (x.data.toList.map fun y => Value.int .u8 (y.toNat : Int)) 0 w (fun j hj => by
      rw [hl] at hj
      rw [cell_of_row w b (o + 0 + j) arr T (0, 0) hb, Array.getElem?_eq_getElem (by omega)]
      rfl) (fun j hj => by
      rw [hl] at hj
      exact frozen_of_row w b (o + 0 + j) arr T hb) (by
    intro v hv
    obtain ⟨y, _, rfl⟩ := List.mem_map.1 hv
    rfl)
  simp [Builtin.copy_, run_underlying hu, Builtin.lenOf, Builtin.firstCells, hz, hmin]
  rw [List.take_of_length_le (by rw [hl]; exact Nat.le_refl _), hst]
  rfl
theorem strD_V (s : ByteArray) : VRs F σ μ w ((strD s).map .d) (s.data.toList.map fun y => Value.int .u8 (y.toNat : Int)) := by
  unfold strD
  generalize s.data.toList = l
  induction l with
  | nil => simp [VRs]
  | cons y l ih => exact ⟨_, _, rfl, rfl, ih⟩
theorem s_copy {args : Array Operand} {ts : Array TypeId} (h : ao P T σ Q (.call { callee := .builtin .copy, args := args, argTypes := ts })) :
    AOp P N k ⟨dst, .call { callee := .builtin .copy, args := args, argTypes := ts }, ty, pos, af, gd⟩ T σ Q :=
  AOp.val2 fun B F μ w a st tr => by
    simp only [ao] at h
    split at h
    · rename_i d s t u e1 e2
      have ea : args = #[d, s] := by apply Array.ext'; simpa using e1
      have et : ts = #[t, u] := by apply Array.ext'; simpa using e2
      subst ea; subst et
      obtain ⟨e, by_, h1, h⟩ := h
      obtain ⟨hu, i, z, hi, hz, hs, hb, hzs, hsz, _⟩ := sliT_ok h1
      have hd := ev_ok tr d
      have hx := ev_ok tr s
      split at h
      · rename_i j off n x e3 e4
        obtain ⟨T', cs, g1, ⟨g2, g3⟩, hq⟩ := h
        rw [e3] at hd
        rw [e4] at hx
        simp only [VR, DR] at hd hx
        obtain ⟨b, T2, cs2, k1, k2, cap, hv, hn⟩ := hd
        obtain ⟨b', arr, q1, q2, ⟨l, tl, q6, q3⟩, q4, q5⟩ := st.obj j _ _ g1 k2
        simp at q1
        subst q1
        have hal : cs.length ≤ arr.size := by rw [← Array.length_toList, q6, List.length_append, VRs.length q3]; omega
        have hr := run_copy_str (P := P) (w := w) (sT := u) (ty := ty) (o := off) (dLen := n) (dCap := cap) (x := x) hu (by simp [Go.sizeOf, typeInfo, hi, hs]) g2 q2 (by omega)
        obtain ⟨m1, m2, m3⟩ := set_box (off := off) st g1 k2 (strD_V (F := F) (σ := σ) (μ := μ) (w := w) x) (by rw [List.length_map, Array.length_toList]; exact g3)
        refine ⟨goInt x.size, _, ?_, ⟨_, F, _, μ, hq, m2, m1, m3, rfl, fun _ h => h⟩⟩
        simp [execOp, resolve, invoke, builtin, hv, hx, hr]
      · exact h.elim
    · exact h.elim
theorem s_min {args : Array Operand} {ts : Array TypeId} (h : ao P T σ Q (.call { callee := .builtin .min, args := args, argTypes := ts })) :
    AOp P N k ⟨dst, .call { callee := .builtin .min, args := args, argTypes := ts }, ty, pos, af, gd⟩ T σ Q :=
  AOp.val fun B F μ w a st tr => by
    simp only [ao] at h
    split at h
    · rename_i x y e1
      have ea : args = #[x, y] := by apply Array.ext'; simpa using e1
      subst ea
      obtain ⟨j, m, hx, h⟩ := onI_ok h (ev_ok tr x)
      obtain ⟨j2, m2, hy, hq⟩ := onI_ok h (ev_ok tr y)
      exact ⟨_, _, hq, by simp [execOp, resolve, invoke, builtin, Builtin.min_, Builtin.min2, hx, hy], rfl⟩
    · exact h.elim
theorem s_max {args : Array Operand} {ts : Array TypeId} (h : ao P T σ Q (.call { callee := .builtin .max, args := args, argTypes := ts })) :
    AOp P N k ⟨dst, .call { callee := .builtin .max, args := args, argTypes := ts }, ty, pos, af, gd⟩ T σ Q :=
  AOp.val fun B F μ w a st tr => by
    simp only [ao] at h
    split at h
    · rename_i x y e1
      have ea : args = #[x, y] := by apply Array.ext'; simpa using e1
      subst ea
      obtain ⟨j, m, hx, h⟩ := onI_ok h (ev_ok tr x)
      obtain ⟨j2, m2, hy, hq⟩ := onI_ok h (ev_ok tr y)
      exact ⟨_, _, hq, by simp [execOp, resolve, invoke, builtin, Builtin.max_, Builtin.max2, hx, hy], rfl⟩
    · exact h.elim
theorem strD_ok (s : ByteArray) : DRs F w (strD s) (Lib.strCells s) := by
  unfold strD Lib.strCells
  induction s.data.toList with
  | nil => simp [DRs]
  | cons b l ih => exact ⟨_, _, rfl, rfl, ih⟩
theorem srcOf_ok {x : V} {u m sz : Nat} {ys : List D} {v : Value} (st : St k B F σ μ w) (h : srcOf P u sz σ x = some (m, ys)) (hl : ys.length = m * sz) (h1 : onesD ys = true) (hv : VR F σ μ w x v) :
    ∃ news, Src P w u sz v m news ∧ DRs F w ys news := by
  have slices : (sliT P u).isSome = true → elems σ x = some (m, ys) → ∃ news, Src P w u sz v m news ∧ DRs F w ys news := by
    intro h2 h3
    obtain ⟨⟨e, sz', by_⟩, h2⟩ := Option.isSome_iff_exists.1 h2
    have hu := (sliT_ok h2).1
    rcases elems_ok st h3 hv with ⟨A, cap, rfl, rfl, rfl⟩ | ⟨b, off, cap, vs, rfl, _, hr, hd⟩
    · exact ⟨[], Src.none A cap hu, by simp [DRs]⟩
    · exact ⟨vs, Src.slice hu hr (onesD_ok _ _ hd h1) (by rw [DRs.length hd, hl]), hd⟩
  unfold srcOf at h
  split at h
  · rename_i s
    split at h
    · rename_i hs
      simp at h
      obtain ⟨rfl, rfl⟩ := h
      obtain ⟨hs, rfl⟩ := hs
      simp only [VR, DR] at hv
      subst hv
      exact ⟨_, Src.string s (isS_ok hs), strD_ok s⟩
    · simp at h
  · split at h
    · rename_i hs
      exact slices hs h
    · simp at h
theorem srcB_ok {x : V} {m : Nat} {ys : List V} {v : Value} (st : St k B F σ μ w) (h : srcB σ x = some (m, ys)) (hv : VR F σ μ w x v) :
    ∃ b off cap vs, v = .slice (some ⟨b, off, none⟩) m cap ∧ m ≤ cap ∧ CellsAt w b off vs ∧ VRs F σ μ w ys vs := by
  unfold srcB at h
  split at h
  · rename_i j off m'
    split at h
    · rename_i T' cs hs
      simp only [Option.some.injEq, Prod.mk.injEq] at h
      obtain ⟨rfl, rfl⟩ := h
      simp only [VR] at hv
      obtain ⟨b, T2, cs2, h1, h2, cap, rfl, hn⟩ := hv
      obtain ⟨b', arr, e1, e2, ⟨l, tl, e6, e3⟩, e4, e5⟩ := st.obj j _ _ hs h2
      simp at e1
      subst e1
      have hr := rangeAt_drop (rangeAt_block' e2 e6) off
      rw [Nat.zero_add] at hr
      exact ⟨b, off, cap, _, rfl, Nat.le_of_eq hn.symm, hr, VRs.drop e3 off⟩
    · simp at h
  · rename_i j m'
    split at h
    · rename_i T' cs hs
      simp only [Option.some.injEq, Prod.mk.injEq] at h
      obtain ⟨rfl, rfl⟩ := h
      simp only [VR] at hv
      obtain ⟨b, T2, cs2, h1, h2, cap, rfl, hn⟩ := hv
      obtain ⟨b', arr, e1, e2, ⟨l, tl, e6, e3⟩, e4, e5⟩ := st.obj j _ _ hs h2
      simp at e1
      subst e1
      exact ⟨b, 0, cap, _, rfl, hn, rangeAt_block' e2 e6, e3⟩
    · simp at h
  · simp at h
theorem append_box {i off n : Nat} {x : V} {t u ty : TypeId} {vs vx : Value} (st : St k B F σ μ w) (h : apB P σ Q i off n x t u) (hs : VR F σ μ w (.b i off n) vs) (hx : VR F σ μ w x vx) :
    ∃ v' w' F' σ' μ' x', (Builtin.append_ #[t, u] ty #[vs, vx]).run P w = .ok v' w' ∧ Q x' σ' ∧ St k B F' σ' μ' w' ∧ Stp k B F σ μ w F' σ' μ' w' ∧ Keep σ.length σ μ σ' μ' ∧ VR F' σ' μ' w' x' v' ∧ ∀ b, F b → F' b := by
  obtain ⟨e, sz, by_, m, ys, T', cs, ht, hu', hsrc, hi', hm, hys, hcs, hbytes, hq⟩ := h
  obtain ⟨hu, ii, z, hi, hz, rfl, rfl, hzs, hsz, hby⟩ := sliT_ok ht
  obtain ⟨⟨e2, sz2, by2⟩, hu2⟩ := Option.isSome_iff_exists.1 hu'
  have hu2 := (sliT_ok hu2).1
  obtain ⟨b1, off1, cap1, ws, rfl, hc1, hr1, hv1⟩ := srcB_ok st hsrc hx
  obtain ⟨b, off', cap, us, rfl, hcap, hr, hv⟩ := srcB_ok (x := .b i off n) (m := n) (ys := cs.drop off) st (by simp only [srcB, hi']) hs
  simp only [VR] at hs
  obtain ⟨_, _, _, _, _, cap', hs1, hs2⟩ := hs
  simp only [Value.slice.injEq, Option.some.injEq] at hs1
  have hcn : n = cap := by omega
  subst hcn
  have hnm : n + m ≤ 140737488355328 := Nat.le_trans (Nat.le_mul_of_pos_right _ hby) hbytes
  have h63' : ¬ (9223372036854775807 < ((n : Int) + (m : Int))) := by omega
  have hroom : ¬ (n + m ≤ n) := by omega
  have h48' : ¬ (281474976710656 < Builtin.nextslicecap (n + m) n * ii.bytes) := by have := growslice_fits (need := n + m) (old := n) (by omega) hbytes; omega
  have hul : us.length = cs.length - off := by rw [VRs.length hv, List.length_drop]
  have hwl : ws.length = ys.length := VRs.length hv1
  have hfo := run_firstCells_some (P := P) w.drew ii.size n ⟨b, off', none⟩ n n (us.take (n * ii.size)) (by rw [List.length_take]; omega) (fun j v hj => by
    rw [Addr.add_mid]; exact rangeAt_take hr (n * ii.size) j v hj)
  have hfx := run_firstCells_some (P := P) w.drew ii.size m ⟨b1, off1, none⟩ m cap1 (ws.take (m * ii.size)) (by rw [List.length_take]; omega) (fun j v hj => by
    rw [Addr.add_mid]; exact rangeAt_take hr1 (m * ii.size) j v hj)
  let arr : Array Value := (us.take (n * ii.size)).toArray ++ (ws.take (m * ii.size)).toArray ++ Builtin.zeroCells z.cells (grownCap w (n + m) n e - (n + m))
  have hrun : (Builtin.append_ #[t, u] ty #[.slice (some ⟨b, off', none⟩) n n, .slice (some ⟨b1, off1, none⟩) m cap1]).run P w = .ok (.slice (some ⟨w.heap.size, 0, none⟩) (n + m) (grownCap w (n + m) n e)) (w.drew.alloc (.cells arr e)) := by
    simp [Builtin.append_, run_underlying hu, run_underlying hu2, sizeOf, typeInfo, zeroValue, hi, hz, Builtin.lenOf, hroom, h63', h48', Question.forced, hfo, hfx, newRow, grownCap, arr]
  have hge := grownCap_ge w (n + m) n e
  have hsz' : (w.drew.alloc (.cells arr e)).heap.size = w.heap.size + 1 := by simp
  have hmem : ∀ b, b < w.heap.size → (w.drew.alloc (.cells arr e)).heap[b]? = w.heap[b]? := fun b hb => heap_alloc_old w.drew _ hb
  let F' : Nat → Prop := fun b => F b ∨ b = w.heap.size
  have hm' : Mem F w F' (w.drew.alloc (.cells arr e)) := ⟨by omega, fun b hb hF => ⟨hmem b hb, fun h => h.elim hF (by omega)⟩⟩
  let cs' : List V := (cs.drop off).take (n * ii.size) ++ ys.take (m * ii.size)
  have hkeep : Keep σ.length σ μ (σ ++ [.box e cs']) (μ ++ [.pointer (some ⟨w.heap.size, 0, none⟩)]) :=
    ⟨fun i T1 c1 u hi e1 e2 => ⟨⟨c1, (List.getElem?_append_left hi).trans e1⟩, (List.getElem?_append_left (by rw [st.len]; exact hi)).trans e2⟩,
      fun i E sz m c1 u hi e1 e2 => ⟨m, c1, u, (List.getElem?_append_left hi).trans e1, (List.getElem?_append_left (by rw [st.len]; exact hi)).trans e2, Nat.le_refl _, fun _ => rfl⟩⟩
  have hva : VRx F σ μ w cs' arr.toList := ⟨us.take (n * ii.size) ++ ws.take (m * ii.size), (Builtin.zeroCells z.cells (grownCap w (n + m) n e - (n + m))).toList, by simp only [arr, Array.toList_append], VRs.append (VRs.take hv _) (VRs.take hv1 _)⟩
  obtain ⟨g1, g2, g3, g4⟩ := St.push (ob' := .box e cs') (h' := .pointer (some ⟨w.heap.size, 0, none⟩)) (F' := F') (w' := w.drew.alloc (.cells arr e)) st rfl rfl rfl (by omega) hmem (fun _ h => .inl h)
    (fun b hb => hb.imp id (fun e => ⟨by omega, by omega⟩)) (fun b hb => by simp [blk] at hb; omega)
    ⟨w.heap.size, arr, rfl, heap_alloc_new w.drew _, hva.imp fun _ => VRs.mono hm' st.len hkeep _ _, .inr rfl, fun _ => st.base⟩
  exact ⟨_, _, F', _, _, .g σ.length (n + m), hrun, hq, g1, g2, g3, ⟨w.heap.size, e, cs', by rw [List.getElem?_append_right (Nat.le_refl _), Nat.sub_self]; rfl, by rw [← st.len]; simp, _, rfl, hge⟩, fun _ h => .inl h⟩
theorem s_append {args : Array Operand} {ts : Array TypeId} (h : ao P T σ Q (.call { callee := .builtin .append, args := args, argTypes := ts })) :
    AOp P N k ⟨dst, .call { callee := .builtin .append, args := args, argTypes := ts }, ty, pos, af, gd⟩ T σ Q :=
  AOp.val2 fun B F μ w a st tr => by
    simp only [ao] at h
    split at h
    · rename_i s x t u e1 e2
      have ea : args = #[s, x] := by apply Array.ext'; simpa using e1
      have et : ts = #[t, u] := by apply Array.ext'; simpa using e2
      subst ea; subst et
      have hs := ev_ok tr s
      have fin : ∀ v w', (Builtin.append_ #[t, u] t #[a.eval s, a.eval x]).run P w = .ok v w' → (execOp a.eval ⟨dst, .call { callee := .builtin .append, args := #[s, x], argTypes := #[t, u] }, ty, pos, af, gd⟩).run P w = .ok (.value v) w' := by
        intro v w' hr
        have hr' : (Builtin.append_ #[t, u] ty #[a.eval s, a.eval x]).run P w = .ok v w' := hr
        simp [execOp, resolve, invoke, builtin, hr']
      split at h
      · rename_i i off n e3
        rw [e3] at hs
        obtain ⟨v', w', F', σ', μ', x', hr, hq, k1, k2, k3, k4, k5⟩ := append_box (P := P) (ty := t) st h hs (ev_ok tr x)
        exact ⟨v', w', fin _ _ hr, ⟨x', F', σ', μ', hq, k2, k1, k3, k4, k5⟩⟩
      obtain ⟨e, sz, by_, m, ys, h1, h2, h3, h4, h⟩ := h
      obtain ⟨news, src, hn⟩ := srcOf_ok st h2 h3 h4 (ev_ok tr x)
      split at h
      · rename_i i n e3
        obtain ⟨cs, g1, g2, hq⟩ := h
        rw [e3] at hs
        obtain ⟨v', w', F', μ', hr, k1, k2, k3, k4, k5⟩ := append_row (P := P) h1 st g1 hs src hn g2
        exact ⟨v', w', fin _ _ hr, ⟨_, F', _, μ', hq, k2, k1, k3, k4, k5⟩⟩
      · rename_i e3
        obtain ⟨g2, hq⟩ := h
        rw [e3] at hs
        simp only [VR, DR] at hs
        obtain ⟨m1, m2, m3, m4⟩ := nil_row e sz st
        rw [hs] at fin
        obtain ⟨v', w', F', μ', hr, k1, k2, k3, k4, k5⟩ := append_row (P := P) (i := σ.length) (n := 0) (cs := []) h1 m1 (by simp) m4 src hn (by rw [Nat.zero_add]; exact g2)
        have e4 : (σ ++ [Ob.row e sz 0 []]).set σ.length (.row e sz (0 + m) ([] ++ ys)) = σ ++ [.row e sz m ys] := by
          rw [List.set_append_right _ _ (Nat.le_refl _)]
          simp
        rw [e4] at k1 k2 k3 k4
        rw [Nat.zero_add] at k4
        exact ⟨v', w', fin _ _ hr, ⟨_, F', _, μ', hq, m2.trans k2, k1, m3.trans (k3.mono (by simp)), k4, k5⟩⟩
      · exact h.elim
    · exact h.elim
theorem ao_sound (o : Oper) (h : ao P T σ Q o.op) : AOp P N k o T σ Q := by
  obtain ⟨dst, op, ty, pos, af, gd⟩ := o
  simp only at h
  cases op with
  | move x => exact s_move h
  | assign x => exact s_assign h
  | pick c x y => exact s_pick h
  | binOp op t x y t' => exact s_bin h
  | unOp u t x => cases u with
    | not => exact s_not h
    | neg => exact s_neg h
    | xor => exact s_xor h
    | plus => exact h.elim
  | convert s d x => exact s_convert h
  | index t x i => exact s_index h
  | nilCheck x => exact s_nilCheck h
  | fieldAddr t x j => exact s_fieldAddr h
  | indexAddr t x i => exact s_indexAddr h
  | load t x => exact s_load h
  | store t x y => exact s_store h
  | alloc t => exact s_alloc h
  | box t x => exact s_box h
  | build t ps => exact s_build h
  | buildSlice t n ps => exact s_buildSlice h
  | makeSlice t l c => exact s_makeSlice h
  | slice t x lo hi mx => cases mx with
    | none => exact s_slice h
    | some m => exact h.elim
  | extract x j => exact s_extract h
  | field t x j => exact s_field h
  | makeFunc fn fi ca => exact s_makeFunc h
  | call c =>
    obtain ⟨callee, args, ts⟩ := c
    cases callee with
    | builtin b => cases b with
      | len => exact s_len h
      | append => exact s_append h
      | copy => exact s_copy h
      | min => exact s_min h
      | max => exact s_max h
      | _ => exact h.elim
    | _ => exact h.elim
  | _ => exact h.elim
end
end Go.AW
namespace Go.AW
open Go
inductive Ex where
  | normal
  | exit (id : Nat)
  | ret
def Cfg (k B N : Nat) (F : Nat → Prop) (σ : List Ob) (μ : List Value) (w : World) (Q : Tm → List Ob → Prop) (a' : Act) (w' : World) : Prop :=
  ∃ F' σ' μ' T', Q T' σ' ∧ Stp k B F σ μ w F' σ' μ' w' ∧ St k B F' σ' μ' w' ∧ TR N F' σ' μ' w' T' a'.tmps ∧ a'.defers = []
def AL (P : Program) (N k : Nat) (ops : Array Oper) (rest : List Oper) (Q : Tm → List Ob → Prop) (T : Tm) (σ : List Ob) : Prop :=
  ∀ B F μ w (a : Act), St k B F σ μ w → TR N F σ μ w T a.tmps → a.defers = [] → ∀ (X : Exit → Act → World → Prop), (∀ a' w', Cfg k B N F σ μ w Q a' w' → X .normal a' w') → wpList P ops X rest a w
def APost (k B N : Nat) (F : Nat → Prop) (σ : List Ob) (μ : List Value) (w : World) (Q : Ex → Tm → List Ob → Prop) : Exit → Act → World → Prop
  | .normal, a', w' => Cfg k B N F σ μ w (Q .normal) a' w'
  | .exit id, a', w' => Cfg k B N F σ μ w (Q (.exit id)) a' w'
  | .ret, a', w' => Cfg k B N F σ μ w (Q .ret) a' w'
  | _, _, _ => False
def AW (P : Program) (N k : Nat) (c : Code) (Q : Ex → Tm → List Ob → Prop) (T : Tm) (σ : List Ob) : Prop :=
  ∀ B F μ w (a : Act), St k B F σ μ w → TR N F σ μ w T a.tmps → a.defers = [] → c.wp P (APost k B N F σ μ w Q) a w
section
variable {P : Program} {N k : Nat} {T : Tm} {σ : List Ob}
theorem Cfg.trans {B : Nat} {F F1 : Nat → Prop} {σ1 : List Ob} {μ μ1 : List Value} {w w1 : World} {Q : Tm → List Ob → Prop} {a' : Act} {w' : World} (h : Stp k B F σ μ w F1 σ1 μ1 w1) (g : Cfg k B N F1 σ1 μ1 w1 Q a' w') : Cfg k B N F σ μ w Q a' w' := by
  obtain ⟨F', σ', μ', T', q, g1, g2⟩ := g
  exact ⟨F', σ', μ', T', q, h.trans g1, g2⟩
theorem Cfg.mono {B : Nat} {F : Nat → Prop} {μ : List Value} {w : World} {Q Q' : Tm → List Ob → Prop} {a' : Act} {w' : World} (g : Cfg k B N F σ μ w Q a' w') (hq : ∀ T σ, Q T σ → Q' T σ) : Cfg k B N F σ μ w Q' a' w' := by
  obtain ⟨F', σ', μ', T', q, g1⟩ := g
  exact ⟨F', σ', μ', T', hq _ _ q, g1⟩
theorem APost.trans {B : Nat} {F F1 : Nat → Prop} {σ1 : List Ob} {μ μ1 : List Value} {w w1 : World} {Q : Ex → Tm → List Ob → Prop} (h : Stp k B F σ μ w F1 σ1 μ1 w1) (e : Exit) (a' : Act) (w' : World)
    (g : APost k B N F1 σ1 μ1 w1 Q e a' w') : APost k B N F σ μ w Q e a' w' := by
  cases e <;> first | exact Cfg.trans h g | exact g
theorem AW.mono {c : Code} {Q Q' : Ex → Tm → List Ob → Prop} (h : AW P N k c Q T σ) (hq : ∀ e T σ, Q e T σ → Q' e T σ) : AW P N k c Q' T σ := by
  intro B F μ w a st tr hd
  refine wp_mono (h B F μ w a st tr hd) fun e a' w' g => ?_
  cases e <;> first | exact Cfg.mono g (hq _) | exact g
theorem AL.nil {ops : Array Oper} {Q : Tm → List Ob → Prop} (h : Q T σ) : AL P N k ops [] Q T σ :=
  fun B F μ w a st tr hd X hX => wpList_nil (hX a w ⟨F, σ, μ, T, h, Stp.refl _ _ _ _ _ _, st, tr, hd⟩)
theorem put_defers (a : Act) (d : Option Tmp) (v : Value) : (a.put d v).defers = a.defers := by cases d <;> rfl
theorem AL.step {ops : Array Oper} {o : Oper} {rest : List Oper} {Q : Tm → List Ob → Prop} (hd : dstOk N o.dst = true) (h : AOp P N k o T σ fun x σ' => AL P N k ops rest Q (put T o.dst x) σ')
    {B : Nat} {F : Nat → Prop} {μ : List Value} {w : World} {a : Act} (st : St k B F σ μ w) (tr : TR N F σ μ w T a.tmps) (hdf : a.defers = []) (X : Exit → Act → World → Prop)
    (hX : ∀ a' w', Cfg k B N F σ μ w Q a' w' → X .normal a' w') : o.wp P a w (wpList P ops X rest) X := by
  refine h B F μ w a st tr _ X fun v w' hl => ?_
  obtain ⟨x, F', σ', μ', q, g1, g2, g3, g4, _⟩ := hl
  refine q B F' μ' w' _ g2 (TR.put (TR.mono tr (g1.memF st) st.len g3) hd g4) (by rw [put_defers]; exact hdf) X fun a'' w'' hc => hX a'' w'' (Cfg.trans g1 hc)
theorem AL.cons {ops : Array Oper} {o : Oper} {rest : List Oper} {Q : Tm → List Ob → Prop} (hg : o.guard = none) (hd : dstOk N o.dst = true)
    (h : ∀ K : V → List Ob → Prop, (∀ x σ', AL P N k ops rest Q (put T o.dst x) σ' → K x σ') → AOp P N k o T σ K) : AL P N k ops (o :: rest) Q T σ :=
  fun B F μ w a st tr hdf X hX => by
    unfold wpList
    rw [if_pos (by simp [Region.wanted, hg])]
    exact .inl (AL.step hd (h _ fun _ _ h => h) st tr hdf X hX)
def gv (ops : Array Oper) (T : Tm) (j : Nat) : V :=
  match (ops[j]?).bind (·.dst) with
  | some d => look T d
  | none => .u
theorem yielded_of {ops : Array Oper} {F : Nat → Prop} {μ : List Value} {w : World} {a : Act} {j : Nat} {b : Bool} (tr : TR N F σ μ w T a.tmps) (h : gv ops T j = bv b) : yielded ops a.tmps j = some b := by
  unfold gv at h
  unfold yielded
  split at h
  · rename_i d hd
    have := tr.2 d
    rw [h] at this
    simp only [VR, DR] at this
    have hs : a.tmps[d]? = some (.bool b) := by
      rw [Array.getD_eq_getD_getElem?] at this
      cases hc : a.tmps[d]? with
      | none => rw [hc] at this; simp [undef] at this
      | some v => rw [hc] at this; simp at this; rw [this]
    simp [hd, hs]
  · simp at h
theorem yielded_not {ops : Array Oper} {F : Nat → Prop} {μ : List Value} {w : World} {a : Act} {j : Nat} {xs : List V} (tr : TR N F σ μ w T a.tmps) (h : gv ops T j = .t xs) : yielded ops a.tmps j = none := by
  unfold gv at h
  unfold yielded
  split at h
  · rename_i d hd
    have := tr.2 d
    rw [h] at this
    simp only [VR] at this
    obtain ⟨cs, hv, _⟩ := this
    rw [Array.getD_eq_getD_getElem?] at hv
    cases hc : a.tmps[d]? with
    | none => simp [hd, hc]
    | some v => rw [hc] at hv; simp at hv; subst hv; simp [hd, hc]
  · simp at h
theorem AL.skip {ops : Array Oper} {o : Oper} {rest : List Oper} {Q : Tm → List Ob → Prop} (hd : dstOk N o.dst = true) (hw : ∀ F μ w (a : Act), TR N F σ μ w T a.tmps → Region.wanted o (yielded ops a.tmps) = false)
    (h : AL P N k ops rest Q (put T o.dst (.t [])) σ) : AL P N k ops (o :: rest) Q T σ :=
  fun B F μ w a st tr hdf X hX => by
    unfold wpList
    rw [if_neg (by simp [hw F μ w a tr])]
    exact h B F μ w _ st (TR.put tr hd ⟨#[], rfl, rfl⟩) (by rw [put_defers]; exact hdf) X hX
theorem AL.guard {ops : Array Oper} {o : Oper} {rest : List Oper} {Q : Tm → List Ob → Prop} {j : Nat} {p b : Bool} (hg : o.guard = some (j, p)) (hv : gv ops T j = bv b) (hd : dstOk N o.dst = true)
    (h1 : b = p → ∀ K : V → List Ob → Prop, (∀ x σ', AL P N k ops rest Q (put T o.dst x) σ' → K x σ') → AOp P N k o T σ K)
    (h2 : b = !p → AL P N k ops rest Q (put T o.dst (.t [])) σ) : AL P N k ops (o :: rest) Q T σ := by
  by_cases e : b = p
  · intro B F μ w a st tr hdf X hX
    unfold wpList
    rw [if_pos (by simp [Region.wanted, hg, yielded_of tr hv, e])]
    exact .inl (AL.step hd (h1 e _ fun _ _ h => h) st tr hdf X hX)
  · refine AL.skip hd (fun F μ w a tr => ?_) (h2 (by cases b <;> cases p <;> simp_all))
    simp [Region.wanted, hg, yielded_of tr hv, e]
theorem AL.unguard {ops : Array Oper} {o : Oper} {rest : List Oper} {Q : Tm → List Ob → Prop} {j : Nat} {p : Bool} {xs : List V} (hg : o.guard = some (j, p)) (hv : gv ops T j = .t xs) (hd : dstOk N o.dst = true)
    (h2 : AL P N k ops rest Q (put T o.dst (.t [])) σ) : AL P N k ops (o :: rest) Q T σ :=
  AL.skip hd (fun F μ w a tr => by simp [Region.wanted, hg, yielded_not tr hv]) h2
theorem AW.region {id : Nat} {l : List Oper} {Q : Ex → Tm → List Ob → Prop} (h : AL P N k l.toArray l (Q .normal) T σ) : AW P N k (.region id l.toArray false) Q T σ :=
  fun B F μ w a st tr hd => wp_region_lit (h B F μ w a st tr hd _ fun _ _ hc => hc)
def thenQ (K : Tm → List Ob → Prop) (Q : Ex → Tm → List Ob → Prop) : Ex → Tm → List Ob → Prop
  | .normal, T, σ => K T σ
  | e, T, σ => Q e T σ
theorem AW.seq {x y : Code} {Q : Ex → Tm → List Ob → Prop} (h : ∀ K : Tm → List Ob → Prop, (∀ T' σ', AW P N k y Q T' σ' → K T' σ') → AW P N k x (thenQ K Q) T σ) : AW P N k (.seq x y) Q T σ := by
  intro B F μ w a st tr hd
  refine wp_seq (wp_mono (h _ (fun _ _ h => h) B F μ w a st tr hd) fun e a' w' g => ?_)
  cases e with
  | normal =>
    obtain ⟨F', σ', μ', T', q, g1, g2, g3, g4⟩ := g
    exact wp_mono (q B F' μ' w' a' g2 g3 g4) (APost.trans g1)
  | exit id => exact g
  | ret => exact g
  | goto l => exact g
  | panic c => exact g
  | outgrown => exact g
theorem AW.skip {Q : Ex → Tm → List Ob → Prop} (h : Q .normal T σ) : AW P N k .skip Q T σ :=
  fun B F μ w a st tr hd => wp_skip ⟨F, σ, μ, T, h, Stp.refl _ _ _ _ _ _, st, tr, hd⟩
theorem AW.exit {id : Nat} {Q : Ex → Tm → List Ob → Prop} (h : Q (.exit id) T σ) : AW P N k (.exit id) Q T σ :=
  fun B F μ w a st tr hd => wp_exit ⟨F, σ, μ, T, h, Stp.refl _ _ _ _ _ _, st, tr, hd⟩
theorem AW.ret {Q : Ex → Tm → List Ob → Prop} (h : Q .ret T σ) : AW P N k .ret Q T σ :=
  fun B F μ w a st tr hd => wp_ret ⟨F, σ, μ, T, h, Stp.refl _ _ _ _ _ _, st, tr, hd⟩
theorem AW.cond {c : Operand} {x y : Code} {b : Bool} {Q : Ex → Tm → List Ob → Prop} (hc : ev T c = bv b) (h1 : b = true → AW P N k x Q T σ) (h2 : b = false → AW P N k y Q T σ) : AW P N k (.cond c x y) Q T σ :=
  fun B F μ w a st tr hd => by
    have := ev_ok tr c
    rw [hc] at this
    simp only [VR, DR] at this
    exact wp_cond_split this (fun e => h1 e B F μ w a st tr hd) (fun e => h2 e B F μ w a st tr hd)
def blockQ (id : Nat) (Q : Ex → Tm → List Ob → Prop) : Ex → Tm → List Ob → Prop
  | .exit i, T, σ => if i = id then Q .normal T σ else Q (.exit i) T σ
  | e, T, σ => Q e T σ
theorem AW.block {id : Nat} {c : Code} {Q : Ex → Tm → List Ob → Prop} (h : AW P N k c (blockQ id Q) T σ) : AW P N k (.block id c) Q T σ :=
  fun B F μ w a st tr hd => wp_block (wp_mono (h B F μ w a st tr hd) fun e a' w' g => by
    cases e with
    | exit i =>
      simp only [Exit.inBlock]
      split
      · rename_i e
        exact Cfg.mono g fun T σ q => by simpa [blockQ, e] using q
      · rename_i e
        exact Cfg.mono g fun T σ q => by simpa [blockQ, e] using q
    | normal => exact g
    | ret => exact g
    | goto l => exact g
    | panic c => exact g
    | outgrown => exact g)
theorem AW.loop {c : Code} {Q : Ex → Tm → List Ob → Prop} (I : Nat → Tm → List Ob → Prop) (n : Nat) (h0 : I n T σ)
    (round : ∀ n T σ, I n T σ → ∀ J : Tm → List Ob → Prop, (∀ m T' σ', m < n → I m T' σ' → J T' σ') → AW P N k c (thenQ J Q) T σ) : AW P N k (.loop c) Q T σ := by
  intro B F μ w a st tr hd
  refine wp_loop_ghost (fun n a' w' => Cfg k B N F σ μ w (I n) a' w') n ⟨F, σ, μ, T, h0, Stp.refl _ _ _ _ _ _, st, tr, hd⟩ ?_
  intro n a' w' hI
  obtain ⟨F', σ', μ', T', q, g1, g2, g3, g4⟩ := hI
  refine wp_mono (round n T' σ' q (fun T σ => ∃ m, m < n ∧ I m T σ) (fun m T' σ' h1 h2 => ⟨m, h1, h2⟩) B F' μ' w' a' g2 g3 g4) fun e a2 w2 g => ?_
  cases e with
  | normal =>
    obtain ⟨F2, σ2, μ2, T2, ⟨m, hm, q2⟩, k1, k2⟩ := g
    exact ⟨m, hm, F2, σ2, μ2, T2, q2, g1.trans k1, k2⟩
  | exit i => exact Cfg.trans g1 g
  | ret => exact Cfg.trans g1 g
  | goto l => exact g
  | panic c => exact g
  | outgrown => exact g
def Ent (P : Program) (f : FuncId) : Prop := ∃ fn c, P.funcs[f]? = some fn ∧ fn.body = some c ∧ fn.name ≠ "runtime.NumGoroutine"
def AC (P : Program) (f : FuncId) (args : List V) (σ : List Ob) (Q : V → List Ob → Prop) : Prop :=
  Ent P f ∧ ∀ F μ w (vals : List Value), St σ.length w.heap.size F σ μ w → VRs F σ μ w args vals → Calls P f vals.toArray w fun e w' =>
    ∃ v x F' σ' μ', e = .returned v ∧ Q x σ' ∧ Stp σ.length w.heap.size F σ μ w F' σ' μ' w' ∧ St σ.length w.heap.size F' σ' μ' w' ∧ VR F' σ' μ' w' x v
theorem AC.mono {f : FuncId} {args : List V} {Q Q' : V → List Ob → Prop} (h : AC P f args σ Q) (hq : ∀ x σ', Q x σ' → Q' x σ') : AC P f args σ Q' :=
  ⟨h.1, fun F μ w vals st hv => (h.2 F μ w vals st hv).mono fun e w' ⟨v, x, F', σ', μ', he, q, r⟩ => ⟨v, x, F', σ', μ', he, hq _ _ q, r⟩⟩
theorem St.lower {B : Nat} {F : Nat → Prop} {μ : List Value} {w : World} (st : St k B F σ μ w) : St σ.length w.heap.size F σ μ w := by
  refine ⟨st.len, fun i ob h h1 h2 => ?_, st.sep, st.lt, Nat.le_refl _⟩
  have hi : i < σ.length := (List.getElem?_eq_some_iff.1 h1).1
  have := st.obj i ob h h1 h2
  cases ob with
  | box T cs =>
    obtain ⟨b, arr, e1, e2, e3, e4, _⟩ := this
    exact ⟨b, arr, e1, e2, e3, e4, fun h => absurd hi (by omega)⟩
  | row E sz n cs =>
    obtain ⟨vs, ho, hd, hF⟩ := this
    refine ⟨vs, ?_, hd, hF⟩
    rw [if_neg (by omega)]
    refine ⟨ho.1, ?_⟩
    rcases ho.2 with h2 | ⟨g, cap, cur, e1, _, r⟩
    · exact .inl h2
    · exact .inr ⟨g, cap, cur, e1, Nat.zero_le _, r⟩
theorem St.raise {B : Nat} {F F' : Nat → Prop} {σ' : List Ob} {μ μ' : List Value} {w w' : World} (st : St k B F σ μ w) (st' : St σ.length w.heap.size F' σ' μ' w') (h : Stp σ.length w.heap.size F σ μ w F' σ' μ' w') :
    St k B F' σ' μ' w' ∧ Stp k B F σ μ w F' σ' μ' w' := by
  have rows : ∀ (i E sz m : Nat) (cs : List D) (u : Value) (E' sz' m' : Nat) (cs' : List D) (u' : Value), i < k → σ[i]? = some (.row E sz m cs) → μ[i]? = some u → σ'[i]? = some (.row E' sz' m' cs') → μ'[i]? = some u' →
      ∀ b, u'.ownBlock = some b → u.ownBlock = some b ∨ w.heap.size ≤ b := fun i E sz m cs u E' sz' m' cs' u' _ a1 => h.rows i E sz m cs u E' sz' m' cs' u' (List.getElem?_eq_some_iff.1 a1).1 a1
  refine ⟨⟨st'.len, fun i ob u h1 h2 => ?_, st'.sep, st'.lt, Nat.le_trans st.base h.size⟩,
    ⟨h.os, h.tape, h.output, h.size, h.mem, h.fnew, fun b hb hF => h.fold b (Nat.lt_of_lt_of_le hb st.base) hF, h.live, h.keep.any, rows⟩⟩
  have := st'.obj i ob u h1 h2
  cases ob with
  | box T cs =>
    obtain ⟨b, arr, rfl, e2, e3, e4, e5⟩ := this
    refine ⟨b, arr, rfl, e2, e3, e4, fun hi => ?_⟩
    rcases Nat.lt_or_ge i σ.length with hl | hl
    · have h0 : σ[i]? = some σ[i] := List.getElem?_eq_getElem hl
      have hm0 : μ[i]? = some (μ[i]'(by rw [st.len]; exact hl)) := List.getElem?_eq_getElem _
      cases ho : σ[i] with
      | box T0 c0 =>
        rw [ho] at h0
        obtain ⟨_, g2⟩ := h.keep.box i T0 c0 _ hl h0 hm0
        rw [h2] at g2
        obtain ⟨b0, _, d1, _, _, _, d2⟩ := st.obj i _ _ h0 hm0
        rw [d1] at g2
        simp at g2
        subst g2
        exact d2 hi
      | row E0 s0 n0 c0 =>
        rw [ho] at h0
        obtain ⟨_, _, _, g1, _⟩ := h.keep.row i E0 s0 n0 c0 _ hl h0 hm0
        rw [h1] at g1
        simp at g1
    · exact Nat.le_trans st.base (e5 hl)
  | row E sz n cs =>
    obtain ⟨vs, ho, hd, hF⟩ := this
    refine ⟨vs, ⟨ho.1, ?_⟩, hd, hF⟩
    rcases ho.2 with h3 | ⟨g, cap, cur, rfl, hb, r⟩
    · exact .inl h3
    · refine .inr ⟨g, cap, cur, rfl, ?_, r⟩
      split
      · rename_i hi
        rcases Nat.lt_or_ge i σ.length with hl | hl
        · have h0 : σ[i]? = some σ[i] := List.getElem?_eq_getElem hl
          have hm0 : μ[i]? = some (μ[i]'(by rw [st.len]; exact hl)) := List.getElem?_eq_getElem _
          cases ho0 : σ[i] with
          | box T0 c0 =>
            rw [ho0] at h0
            obtain ⟨⟨_, g1⟩, _⟩ := h.keep.box i T0 c0 _ hl h0 hm0
            rw [h1] at g1
            simp at g1
          | row E0 s0 n0 c0 =>
            rw [ho0] at h0
            rcases h.rows i E0 s0 n0 c0 _ E sz n cs _ hl h0 hm0 h1 h2 g rfl with e | e
            · obtain ⟨vs0, d1, _, _⟩ := st.obj i _ _ h0 hm0
              rw [if_pos hi] at d1
              exact (d1.lt g e).1
            · exact Nat.le_trans st.base e
        · rw [if_pos hl] at hb
          exact Nat.le_trans st.base hb
      · exact Nat.zero_le _
end
end Go.AW
namespace Go.AW
open Go
mutual
def V.ren (g : Nat → Nat) : V → V
  | .d x => .d x
  | .a xs => .a (rens g xs)
  | .t xs => .t (rens g xs)
  | .p i off => .p (g i) off
  | .c xs => .c xs
  | .o i n => .o (g i) n
  | .e i n off => .e (g i) n off
  | .b i off n => .b (g i) off n
  | .g i n => .g (g i) n
  | .f fn a b => .f fn (rens g a) (rens g b)
  | .u => .u
def rens (g : Nat → Nat) : List V → List V
  | [] => []
  | x :: xs => x.ren g :: rens g xs
end
def Ob.ren (g : Nat → Nat) : Ob → Ob
  | .box T cs => .box T (rens g cs)
  | .row E sz n cs => .row E sz n cs
mutual
def V.lt (m : Nat) : V → Bool
  | .d _ => true
  | .a xs => lts m xs
  | .t xs => lts m xs
  | .p i _ => decide (i < m)
  | .c _ => true
  | .o i _ => decide (i < m)
  | .e i _ _ => decide (i < m)
  | .b i _ _ => decide (i < m)
  | .g i _ => decide (i < m)
  | .f _ a b => lts m a && lts m b
  | .u => true
def lts (m : Nat) : List V → Bool
  | [] => true
  | x :: xs => x.lt m && lts m xs
end
def Ob.lt (m : Nat) : Ob → Bool
  | .box _ cs => lts m cs
  | _ => true
def obsLt (m : Nat) : List Ob → Bool
  | [] => true
  | x :: xs => x.lt m && obsLt m xs
mutual
def nz : V → V
  | .d (.s (.slice none 0 0)) => .d (.l 0 [])
  | .a xs => .a (nzs xs)
  | x => x
def nzs : List V → List V
  | [] => []
  | x :: xs => nz x :: nzs xs
end
mutual
def fz (σ : List Ob) (m : Nat) : V → V
  | .d (.s (.slice none 0 0)) => .d (.l 0 [])
  | .o i n => if i < m then .o i n else match σ[i]? with
    | some (.row _ _ n' cs) => if n = n' then .d (.l n cs) else .u
    | _ => .u
  | .a xs => .a (fzs σ m xs)
  | .t xs => .t (fzs σ m xs)
  | x => x
def fzs (σ : List Ob) (m : Nat) : List V → List V
  | [] => []
  | x :: xs => fz σ m x :: fzs σ m xs
end
section
variable {P : Program} {N k B : Nat} {T : Tm} {F F' : Nat → Prop} {σ σ' : List Ob} {μ μ' : List Value} {w w' : World}
mutual
theorem nz_ok : ∀ (x : V) (v : Value), VR F σ μ w x v → VR F σ μ w (nz x) v
  | .d x, v, h => by
    unfold nz
    split
    · rename_i e
      rw [e] at h
      simp only [VR, DR] at h
      exact ⟨none, 0, h, Nat.le_refl _, .inl ⟨rfl, rfl⟩⟩
    · rename_i e; cases e
    · exact h
  | .a xs, v, h => by
    simp only [nz, VR] at h ⊢
    obtain ⟨cs, hv, h⟩ := h
    exact ⟨cs, hv, nzs_ok xs _ h⟩
  | .t xs, v, h => by simpa only [nz] using h
  | .p i off, v, h => by simpa only [nz] using h
  | .c xs, v, h => by simpa only [nz] using h
  | .o i n, v, h => by simpa only [nz] using h
  | .e i n off, v, h => by simpa only [nz] using h
  | .b i off n, v, h => by simpa only [nz] using h
  | .g i n, v, h => by simpa only [nz] using h
  | .f fn a b, v, h => by simpa only [nz] using h
  | .u, v, h => by simpa only [nz] using h
theorem nzs_ok : ∀ (xs : List V) (vs : List Value), VRs F σ μ w xs vs → VRs F σ μ w (nzs xs) vs
  | [], vs, h => by simpa [nzs, VRs] using h
  | x :: xs, vs, h => by
    simp only [nzs, VRs] at h ⊢
    obtain ⟨v, us, hv, h1, h2⟩ := h
    exact ⟨v, us, hv, nz_ok x v h1, nzs_ok xs us h2⟩
end
structure Sub (m : Nat) (F : Nat → Prop) (σ : List Ob) (μ : List Value) (w : World) (F' : Nat → Prop) (σ' : List Ob) (μ' : List Value) (w' : World) : Prop where
  mem : Mem F w F' w'
  obs : ∀ i, i < m → σ'[i]? = σ[i]? ∧ μ'[i]? = μ[i]?
mutual
theorem VR.sub {m : Nat} (h : Sub m F σ μ w F' σ' μ' w') : ∀ (x : V) (v : Value), x.lt m = true → VR F σ μ w x v → VR F' σ' μ' w' x v
  | .d x, v, _, hv => by simp only [VR] at hv ⊢; exact DR.mono h.mem x v hv
  | .a xs, v, hl, hv => by
    simp only [VR, V.lt] at hv hl ⊢
    obtain ⟨cs, e, hv⟩ := hv
    exact ⟨cs, e, VRs.sub h xs _ hl hv⟩
  | .t xs, v, hl, hv => by
    simp only [VR, V.lt] at hv hl ⊢
    obtain ⟨cs, e, hv⟩ := hv
    exact ⟨cs, e, VRs.sub h xs _ hl hv⟩
  | .p i off, v, hl, hv => by
    simp only [VR, V.lt, decide_eq_true_eq] at hv hl ⊢
    rw [(h.obs i hl).1, (h.obs i hl).2]
    exact hv
  | .c xs, v, _, hv => by
    simp only [VR] at hv ⊢
    obtain ⟨b, off, vs, e, hb, hF, hc, hd⟩ := hv
    have := h.mem.2 b hb hF
    exact ⟨b, off, vs, e, Nat.lt_of_lt_of_le hb h.mem.1, this.2, cellsAt_of_block this.1 hc, DRs.mono h.mem xs vs hd⟩
  | .o i n, v, hl, hv => by
    simp only [VR, V.lt, decide_eq_true_eq] at hv hl ⊢
    rw [(h.obs i hl).1, (h.obs i hl).2]
    exact hv
  | .e i n off, v, hl, hv => by
    simp only [VR, V.lt, decide_eq_true_eq] at hv hl ⊢
    rw [(h.obs i hl).1, (h.obs i hl).2]
    exact hv
  | .b i off n, v, hl, hv => by
    simp only [VR, V.lt, decide_eq_true_eq] at hv hl ⊢
    rw [(h.obs i hl).1, (h.obs i hl).2]
    exact hv
  | .g i n, v, hl, hv => by
    simp only [VR, V.lt, decide_eq_true_eq] at hv hl ⊢
    rw [(h.obs i hl).1, (h.obs i hl).2]
    exact hv
  | .f fn a b, v, hl, hv => by
    simp only [VR, V.lt, Bool.and_eq_true] at hv hl ⊢
    obtain ⟨x, y, e, h1, h2⟩ := hv
    exact ⟨x, y, e, VRs.sub h a _ hl.1 h1, VRs.sub h b _ hl.2 h2⟩
  | .u, v, _, hv => by simp [VR]
theorem VRs.sub {m : Nat} (h : Sub m F σ μ w F' σ' μ' w') : ∀ (xs : List V) (vs : List Value), lts m xs = true → VRs F σ μ w xs vs → VRs F' σ' μ' w' xs vs
  | [], vs, _, hv => by simpa [VRs] using hv
  | x :: xs, vs, hl, hv => by
    simp only [VRs, lts, Bool.and_eq_true] at hv hl ⊢
    obtain ⟨v, us, e, h1, h2⟩ := hv
    exact ⟨v, us, e, VR.sub h x v hl.1 h1, VRs.sub h xs us hl.2 h2⟩
end
theorem obsLt_get {m : Nat} : ∀ {l : List Ob} {i : Nat} {ob : Ob}, obsLt m l = true → l[i]? = some ob → ob.lt m = true
  | [], i, ob, _, h => by simp at h
  | x :: l, i, ob, hl, h => by
    simp only [obsLt, Bool.and_eq_true] at hl
    cases i with
    | zero => simp at h; subst h; exact hl.1
    | succ i => exact obsLt_get hl.2 (by simpa using h)
theorem St.cut (st : St k B F σ μ w) {m : Nat} (hk : k ≤ m) (ho : obsLt m (σ.take m) = true) :
    ∃ F', (∀ b, F' b ↔ F b ∧ (b < B ∨ Live (σ.take m) (μ.take m) b)) ∧ St k B F' (σ.take m) (μ.take m) w ∧ Stp k B F σ μ w F' (σ.take m) (μ.take m) w ∧ Sub m F σ μ w F' (σ.take m) (μ.take m) w := by
  let F' : Nat → Prop := fun b => F b ∧ (b < B ∨ Live (σ.take m) (μ.take m) b)
  have hs : ∀ i ob, (σ.take m)[i]? = some ob → i < m ∧ σ[i]? = some ob := fun i ob h => by
    rw [List.getElem?_take] at h
    split at h
    · exact ⟨by assumption, h⟩
    · simp at h
  have hm : ∀ i v, (μ.take m)[i]? = some v → i < m ∧ μ[i]? = some v := fun i ob h => by
    rw [List.getElem?_take] at h
    split at h
    · exact ⟨by assumption, h⟩
    · simp at h
  have obs : ∀ i, i < m → (σ.take m)[i]? = σ[i]? ∧ (μ.take m)[i]? = μ[i]? := fun i hi => by
    rw [List.getElem?_take, List.getElem?_take, if_pos hi, if_pos hi]; exact ⟨rfl, rfl⟩
  have mem : Mem F w F' w := ⟨Nat.le_refl _, fun b _ hf => ⟨rfl, fun h => hf h.1⟩⟩
  have sub : Sub m F σ μ w F' (σ.take m) (μ.take m) w := ⟨mem, obs⟩
  refine ⟨F', fun b => Iff.rfl, ⟨by simp [st.len], fun i ob u h1 h2 => ?_, fun i j ob u ob' u' b h1 h2 h3 h4 => st.sep i j ob u ob' u' b (hs i ob h1).2 (hm i u h2).2 (hs j ob' h3).2 (hm j u' h4).2, fun b hb => st.lt b hb.1, st.base⟩,
    ⟨rfl, rfl, rfl, Nat.le_refl _, fun _ _ _ => rfl, fun b hb => .inl hb.1, fun b hb hf => ⟨hf, .inl hb⟩, fun b hb => ?_, ?_, fun i E sz n cs u E' sz' n' cs' u' hi a1 a2 a3 a4 b hb => ?_⟩, sub⟩
  · have hlt := obsLt_get ho h1
    have live : ∀ b, blk ob u = some b → Live (σ.take m) (μ.take m) b := fun b hb => ⟨i, ob, u, h1, h2, hb⟩
    have := st.obj i ob u (hs i ob h1).2 (hm i u h2).2
    cases ob with
    | box T cs =>
      obtain ⟨b, arr, rfl, e2, e3, e4, e5⟩ := this
      exact ⟨b, arr, rfl, e2, e3.imp fun _ => VRs.sub sub cs _ hlt, ⟨e4, .inr (live b rfl)⟩, e5⟩
    | row E sz n cs =>
      obtain ⟨vs, e1, e2, e3⟩ := this
      exact ⟨vs, e1, DRs.mono mem _ _ e2, fun b hb => ⟨e3 b hb, .inr (live b ((blk_row u (row_no_ptr e1)).trans hb))⟩⟩
  · obtain ⟨i, ob, u, h1, h2, h3⟩ := hb
    exact .inl ⟨i, ob, u, (hs i ob h1).2, (hm i u h2).2, h3⟩
  · refine ⟨fun i T cs u hi a1 a2 => ?_, fun i E sz n cs u hi a1 a2 => ?_⟩
    · have := obs i (by omega)
      exact ⟨⟨cs, this.1.trans a1⟩, this.2.trans a2⟩
    · have := obs i (by omega)
      exact ⟨n, cs, u, this.1.trans a1, this.2.trans a2, Nat.le_refl _, fun _ => rfl⟩
  · have := obs i (by omega)
    rw [this.2, a2] at a4
    obtain rfl := Option.some.inj a4
    exact .inl hb
mutual
theorem fz_ok (st : St k B F σ μ w) {m : Nat} (hk : k ≤ m) (hF : ∀ b, F' b → F b ∧ (b < B ∨ Live (σ.take m) (μ.take m) b)) (hs : Sub m F σ μ w F' (σ.take m) (μ.take m) w) :
    ∀ (x : V) (v : Value), (fz σ m x).lt m = true → VR F σ μ w x v → VR F' (σ.take m) (μ.take m) w (fz σ m x) v
  | .d x, v, hl, hv => by
    unfold fz
    split
    · rename_i e
      rw [e] at hv
      simp only [VR, DR] at hv
      exact ⟨none, 0, hv, Nat.le_refl _, .inl ⟨rfl, rfl⟩⟩
    · rename_i e; cases e
    · rename_i e; cases e
    · rename_i e; cases e
    · exact VR.sub hs _ v (by simp [V.lt]) hv
  | .a xs, v, hl, hv => by
    simp only [fz, VR, V.lt] at hl hv ⊢
    obtain ⟨cs, e, hv⟩ := hv
    exact ⟨cs, e, fzs_ok st hk hF hs xs _ hl hv⟩
  | .t xs, v, hl, hv => by
    simp only [fz, VR, V.lt] at hl hv ⊢
    obtain ⟨cs, e, hv⟩ := hv
    exact ⟨cs, e, fzs_ok st hk hF hs xs _ hl hv⟩
  | .o i n, v, hl, hv => by
    simp only [fz] at hl ⊢
    split
    · rename_i hi
      exact VR.sub hs _ v (by simp [V.lt, hi]) hv
    · rename_i hi
      split
      · rename_i E sz n' cs hr
        split
        · rename_i hn
          subst hn
          obtain ⟨hμ, vs, hown, hd, hF0⟩ := own_hdr st hr hv
          rcases hown.2 with ⟨rfl, rfl⟩ | ⟨g, cap, cur, rfl, hb, hh, hc, _⟩
          · have h0 : vs = [] := List.eq_nil_of_length_eq_zero (by simpa using hown.1)
            subst h0
            have h1 := DRs.length hd
            have h2 : cs = [] := List.eq_nil_of_length_eq_zero (by simpa using h1.symm)
            subst h2
            exact ⟨none, 0, rfl, Nat.le_refl _, .inl ⟨rfl, rfl⟩⟩
          · have hg : g < w.heap.size := (Array.getElem?_eq_some_iff.1 hh).1
            rw [if_pos (by omega)] at hb
            refine ⟨_, cap, rfl, hc, .inr ⟨g, 0, vs, rfl, hg, fun hf => ?_, row_range hown rfl, DRs.mono hs.mem _ _ hd⟩⟩
            rcases (hF g hf).2 with h1 | ⟨j, ob, u, h1, h2, h3⟩
            · omega
            · rw [List.getElem?_take] at h1 h2
              split at h1
              · rename_i hj
                rw [if_pos hj] at h2
                have := st.sep j i ob u _ _ g h1 h2 hr hμ h3 rfl
                omega
              · simp at h1
        · exact trivial
      · exact trivial
  | .p i off, v, hl, hv => by simp only [fz] at hl ⊢; exact VR.sub hs _ v hl hv
  | .c xs, v, hl, hv => by simp only [fz] at hl ⊢; exact VR.sub hs _ v hl hv
  | .e i n off, v, hl, hv => by simp only [fz] at hl ⊢; exact VR.sub hs _ v hl hv
  | .b i off n, v, hl, hv => by simp only [fz] at hl ⊢; exact VR.sub hs _ v hl hv
  | .g i n, v, hl, hv => by simp only [fz] at hl ⊢; exact VR.sub hs _ v hl hv
  | .f fn a b, v, hl, hv => by simp only [fz] at hl ⊢; exact VR.sub hs _ v hl hv
  | .u, v, hl, hv => by simp only [fz] at hl ⊢; exact VR.sub hs _ v hl hv
theorem fzs_ok (st : St k B F σ μ w) {m : Nat} (hk : k ≤ m) (hF : ∀ b, F' b → F b ∧ (b < B ∨ Live (σ.take m) (μ.take m) b)) (hs : Sub m F σ μ w F' (σ.take m) (μ.take m) w) :
    ∀ (xs : List V) (vs : List Value), lts m (fzs σ m xs) = true → VRs F σ μ w xs vs → VRs F' (σ.take m) (μ.take m) w (fzs σ m xs) vs
  | [], vs, _, hv => by simpa [fzs, VRs] using hv
  | x :: xs, vs, hl, hv => by
    simp only [fzs, VRs, lts, Bool.and_eq_true] at hv hl ⊢
    obtain ⟨v, us, e, h1, h2⟩ := hv
    exact ⟨v, us, e, fz_ok st hk hF hs x v hl.1 h1, fzs_ok st hk hF hs xs us hl.2 h2⟩
end
def tLt (m : Nat) : Tm → Bool
  | [] => true
  | (_, x) :: T => x.lt m && tLt m T
theorem look_lt {m : Nat} : ∀ {T : Tm} (t : Nat), tLt m T = true → (look T t).lt m = true
  | [], t, _ => rfl
  | (n, x) :: T, t, h => by
    simp only [tLt, Bool.and_eq_true] at h
    simp only [look]
    split
    · exact h.1
    · exact look_lt t h.2
def keepT (T : Tm) : List Nat → Tm
  | [] => []
  | t :: ts => (t, look T t) :: keepT T ts
theorem look_keepT (T : Tm) : ∀ (ts : List Nat) (t : Nat), look (keepT T ts) t = .u ∨ look (keepT T ts) t = look T t
  | [], t => .inl rfl
  | s :: ts, t => by
    simp only [keepT, look]
    split
    · rename_i e; subst e; exact .inr rfl
    · exact look_keepT T ts t
theorem AW.forget {c : Code} {Q : Ex → Tm → List Ob → Prop} (ts : List Nat) (m : Nat) (hk : k ≤ m) (ho : obsLt m (σ.take m) = true) (ht : tLt m (keepT T ts) = true)
    (h : AW P N k c Q (keepT T ts) (σ.take m)) : AW P N k c Q T σ := by
  intro B F μ w a st tr hd
  obtain ⟨F', _, g1, g2, g3⟩ := St.cut st hk ho
  refine wp_mono (h B F' (μ.take m) w a g1 ⟨tr.1, fun t => ?_⟩ hd) (APost.trans g2)
  refine VR.sub g3 _ _ (look_lt t ht) ?_
  rcases look_keepT T ts t with e | e
  · rw [e]; trivial
  · rw [e]; exact tr.2 t
def resV (P : Program) (σ : List Ob) (T : Tm) : List ResultVar → Option (List V)
  | [] => some []
  | .tmp t :: r => (resV P σ T r).map (look T t :: ·)
  | .cell a t :: r => match look T a with
    | .p i off => match rdx P t σ (.p i off) with
      | some y => (resV P σ T r).map (y :: ·)
      | none => none
    | _ => none
def one1 : List V → V
  | [x] => x
  | xs => .t xs
theorem resV_ok (st : St k B F σ μ w) {tm : Array Value} (tr : TR N F σ μ w T tm) : ∀ (rs : List ResultVar) (xs : List V), resV P σ T rs = some xs →
    ∃ vs : List Value, (rs.mapM (fun | .tmp t => pure (tm.getD t undef) | .cell a t => do loadVar t (← asAddr (tm.getD a undef)) : ResultVar → Sem Value)).run P w = .ok vs w ∧ VRs F σ μ w xs vs
  | [], xs, h => by
    simp only [resV, Option.some.injEq] at h
    subst h
    exact ⟨[], by simp, rfl⟩
  | .tmp t :: r, xs, h => by
    simp only [resV] at h
    cases hr : resV P σ T r with
    | none => simp [hr] at h
    | some ys =>
      simp [hr] at h
      subst h
      obtain ⟨vs, g1, g2⟩ := resV_ok st tr r ys hr
      exact ⟨_ :: vs, by simp only [List.mapM_cons, Sem.run_bind, Sem.run_pure, Result.andThen_ok, g1], ⟨_, _, rfl, tr.2 t, g2⟩⟩
  | .cell a t :: r, xs, h => by
    simp only [resV] at h
    split at h
    · rename_i i off e1
      split at h
      · rename_i y hy
        cases hr : resV P σ T r with
        | none => simp [hr] at h
        | some ys =>
          simp [hr] at h
          subst h
          obtain ⟨vs, g1, g2⟩ := resV_ok st tr r ys hr
          have ha := tr.2 a
          rw [e1] at ha
          obtain ⟨u, k1, k2⟩ := run_rdx (P := P) st hy ha
          have ha' := ha
          simp only [VR] at ha'
          obtain ⟨b, _, _, _, _, hv⟩ := ha'
          rw [hv] at k1
          refine ⟨u :: vs, ?_, ⟨_, _, rfl, k2, g2⟩⟩
          simp only [Instr.loadAt, Instr.sureAddr, Sem.run_bind, Sem.run_pure, Result.andThen_ok] at k1
          have hh : (do loadVar t (← asAddr (tm.getD a undef)) : Sem Value).run P w = .ok u w := by
            rw [hv]
            simp [asAddr, k1]
          rw [List.mapM_cons, Sem.run_bind, hh]
          simp only [Result.andThen_ok]
          rw [Sem.run_bind, g1]
          rfl
      · simp at h
    · simp at h
theorem run_results (st : St k B F σ μ w) {tm : Array Value} {fn : Func} {xs : List V} (tr : TR N F σ μ w T tm) (h : resV P σ T fn.results.toList = some xs) :
    ∃ v, (results fn tm).run P w = .ok v w ∧ VR F σ μ w (one1 xs) v := by
  obtain ⟨vs, g1, g2⟩ := resV_ok st tr _ xs h
  have hr : (results fn tm).run P w = .ok (if h : vs.toArray.size = 1 then vs.toArray[0] else .tuple vs.toArray) w := by
    unfold results
    rw [Sem.run_bind, Array.mapM_eq_mapM_toList, Sem.run_map]
    erw [g1]
    rfl
  refine ⟨_, hr, ?_⟩
  cases xs with
  | nil =>
    simp only [VRs] at g2
    subst g2
    exact ⟨#[], rfl, rfl⟩
  | cons x xs =>
    simp only [VRs] at g2
    obtain ⟨v, us, rfl, h1, h2⟩ := g2
    cases xs with
    | nil =>
      simp only [VRs] at h2
      subst h2
      exact h1
    | cons y ys =>
      have h2' := h2
      simp only [VRs] at h2
      obtain ⟨v2, us2, rfl, _⟩ := h2
      exact ⟨(v :: v2 :: us2).toArray, by simp, ⟨v, _, rfl, h1, h2'⟩⟩
def ent : Nat → List V → Tm
  | _, [] => []
  | i, x :: xs => (i, x) :: ent (i + 1) xs
theorem look_ent : ∀ (xs : List V) (vs : List Value) (i t : Nat), VRs F σ μ w xs vs → VR F σ μ w (look (ent i xs) t) ((vs[t - i]?).getD undef) ∨ look (ent i xs) t = .u
  | [], vs, i, t, h => .inr rfl
  | x :: xs, vs, i, t, h => by
    simp only [VRs] at h
    obtain ⟨v, us, rfl, h1, h2⟩ := h
    simp only [ent, look]
    split
    · rename_i e
      subst e
      exact .inl (by simpa using h1)
    · rename_i e
      rcases look_ent xs us (i + 1) t h2 with g | g
      · rcases Nat.lt_or_ge t i with hlt | hge
        · right
          have : ∀ (xs : List V) (j : Nat), t < j → look (ent j xs) t = .u := by
            intro xs
            induction xs with
            | nil => intro j _; rfl
            | cons y ys ih =>
              intro j hj
              simp only [ent, look]
              rw [if_neg (by omega)]
              exact ih (j + 1) (by omega)
          exact this xs (i + 1) (by omega)
        · left
          have : t - i = (t - (i + 1)) + 1 := by omega
          rw [this]
          simpa using g
      · exact .inr g
theorem AC.intro {f : FuncId} {fn : Func} {c : Code} {args : List V} {Q : V → List Ob → Prop} (hf : P.funcs[f]? = some fn) (hb : fn.body = some c) (hname : fn.name ≠ "runtime.NumGoroutine") (hN : args.length ≤ fn.ntmps)
    (h : AW P fn.ntmps σ.length c (fun e T' σ' => (match e with | .exit _ => False | _ => True) ∧ ∃ xs m, resV P σ' T' fn.results.toList = some xs ∧ σ.length ≤ m ∧ obsLt m (σ'.take m) = true ∧ (fz σ' m (one1 xs)).lt m = true ∧ Q (fz σ' m (one1 xs)) (σ'.take m)) (ent 0 args) σ) :
    AC P f args σ Q := by
  refine ⟨⟨fn, c, hf, hb, hname⟩, fun F μ w vals st hv => ?_⟩
  refine calls_of_wp hf hb ?_
  have hlen := VRs.length hv
  have tr : TR fn.ntmps F σ μ w (ent 0 args) (vals.toArray ++ Array.replicate (fn.ntmps - vals.toArray.size) undef) := by
    refine ⟨by simp; omega, fun t => ?_⟩
    rcases look_ent args vals 0 t hv with g | g
    · have e : (vals.toArray ++ Array.replicate (fn.ntmps - vals.toArray.size) undef).getD t undef = (vals[t - 0]?).getD undef := by
        rw [Array.getD_eq_getD_getElem?, Array.getElem?_append]
        simp only [List.size_toArray, Nat.sub_zero]
        split
        · simp
        · rename_i hlt
          rw [List.getElem?_eq_none (by omega), Array.getElem?_replicate]
          split <;> rfl
      rw [e]
      exact g
    · rw [g]; trivial
  refine wp_mono (h w.heap.size F μ w _ st tr rfl) fun e a' w' g => ?_
  have key : ∀ a' w', Cfg σ.length w.heap.size fn.ntmps F σ μ w (fun T' σ' => ∃ xs m, resV P σ' T' fn.results.toList = some xs ∧ σ.length ≤ m ∧ obsLt m (σ'.take m) = true ∧ (fz σ' m (one1 xs)).lt m = true ∧ Q (fz σ' m (one1 xs)) (σ'.take m)) a' w' →
      a'.defers = [] ∧ ∃ v, (results fn a'.tmps).run P w' = .ok v w' ∧ ∃ v1 x F' σ' μ', Ending.returned v = .returned v1 ∧ Q x σ' ∧ Stp σ.length w.heap.size F σ μ w F' σ' μ' w' ∧ St σ.length w.heap.size F' σ' μ' w' ∧ VR F' σ' μ' w' x v1 := by
    rintro a' w' ⟨F', σ', μ', T', ⟨xs, m, h1, h2, h3, h4, hq⟩, g1, g2, g3, g4⟩
    obtain ⟨v, hr, hv⟩ := run_results g2 g3 h1
    obtain ⟨F2, hF2, k1, k2, k3⟩ := St.cut g2 h2 h3
    exact ⟨g4, v, hr, v, _, F2, _, _, rfl, hq, g1.trans k2, k1, fz_ok g2 h2 (fun b hb => (hF2 b).1 hb) k3 _ v h4 hv⟩
  cases e with
  | normal => exact key a' w' (Cfg.mono g fun T σ q => q.2)
  | ret => exact key a' w' (Cfg.mono g fun T σ q => q.2)
  | exit id =>
    obtain ⟨_, _, _, _, q, _⟩ := g
    exact q.1.elim
  | goto l => exact g.elim
  | panic c => exact g.elim
  | outgrown => exact g.elim
end
end Go.AW
namespace Go.AW
open Go
def gm (ι : List Nat) (n : Nat) (j : Nat) : Nat := if j < ι.length then ι.getD j 0 else n + (j - ι.length)
def mrg {α : Type} : List α → List Nat → List α → List α
  | σ, [], news => σ ++ news
  | σ, i :: ι, ob :: obs => mrg (σ.set i ob) ι obs
  | σ, _ :: _, [] => σ
section lists
variable {α : Type}
theorem mrg_length : ∀ (ι : List Nat) (σ obs : List α), ι.length ≤ obs.length → (mrg σ ι obs).length = σ.length + (obs.length - ι.length)
  | [], σ, obs, _ => by simp [mrg]
  | i :: ι, σ, [], h => by simp at h
  | i :: ι, σ, ob :: obs, h => by
    simp only [mrg, List.length_cons] at h ⊢
    rw [mrg_length ι _ obs (by omega)]
    simp
theorem mrg_out : ∀ (ι : List Nat) (σ obs : List α) (i : Nat), i ∉ ι → i < σ.length → (mrg σ ι obs)[i]? = σ[i]?
  | [], σ, obs, i, _, hi => by simp only [mrg]; exact List.getElem?_append_left hi
  | j :: ι, σ, [], i, _, hi => rfl
  | j :: ι, σ, ob :: obs, i, h, hi => by
    simp only [mrg]
    rw [mrg_out ι _ obs i (fun hm => h (List.mem_cons_of_mem _ hm)) (by simpa using hi), List.getElem?_set_ne (fun e => h (by rw [e]; exact List.mem_cons_self))]
theorem mrg_at : ∀ (ι : List Nat) (σ obs : List α) (j i : Nat), ι.Nodup → (∀ i ∈ ι, i < σ.length) → ι.length ≤ obs.length → ι[j]? = some i → (mrg σ ι obs)[i]? = obs[j]?
  | [], σ, obs, j, i, _, _, _, h => by simp at h
  | a :: ι, σ, [], j, i, _, _, hl, _ => by simp at hl
  | a :: ι, σ, ob :: obs, j, i, hn, hlt, hl, h => by
    simp only [mrg]
    obtain ⟨h1, h2⟩ := List.nodup_cons.1 hn
    cases j with
    | zero =>
      simp at h
      subst h
      rw [mrg_out ι _ obs a h1 (by simpa using hlt a List.mem_cons_self), List.getElem?_set_self (hlt a List.mem_cons_self)]
      rfl
    | succ j =>
      have := mrg_at ι (σ.set a ob) obs j i h2 (fun i hi => by simpa using hlt i (List.mem_cons_of_mem _ hi)) (by simpa using hl) (by simpa using h)
      simpa using this
theorem mrg_new : ∀ (ι : List Nat) (σ obs : List α) (j : Nat), ι.length ≤ obs.length → (mrg σ ι obs)[σ.length + j]? = obs[ι.length + j]?
  | [], σ, obs, j, _ => by
    simp only [mrg]
    rw [List.getElem?_append_right (by omega)]
    simp
  | i :: ι, σ, [], j, h => by simp at h
  | i :: ι, σ, ob :: obs, j, h => by
    simp only [mrg]
    have := mrg_new ι (σ.set i ob) obs j (by simpa using h)
    simp only [List.length_set] at this
    rw [this, List.length_cons]
    rw [show ι.length + 1 + j = ι.length + j + 1 from by omega]
    rfl
end lists
section
variable {P : Program} {N k B : Nat} {T : Tm} {F F' : Nat → Prop} {σ σ' σs : List Ob} {μ μ' μs : List Value} {w w' : World} {g : Nat → Nat}
mutual
theorem VR.unren (h : ∀ i ob, σ[g i]? = some ob → ∃ ob', σs[i]? = some ob' ∧ ob = ob'.ren g ∧ μs[i]? = μ[g i]?) : ∀ (x : V) (v : Value), VR F σ μ w (x.ren g) v → VR F σs μs w x v
  | .d x, v, hv => by simpa only [V.ren, VR] using hv
  | .a xs, v, hv => by
    simp only [V.ren, VR] at hv ⊢
    obtain ⟨cs, e, hv⟩ := hv
    exact ⟨cs, e, VRs.unren h xs _ hv⟩
  | .t xs, v, hv => by
    simp only [V.ren, VR] at hv ⊢
    obtain ⟨cs, e, hv⟩ := hv
    exact ⟨cs, e, VRs.unren h xs _ hv⟩
  | .p i off, v, hv => by
    simp only [V.ren, VR] at hv ⊢
    obtain ⟨b, T, cs, h1, h2, h3⟩ := hv
    obtain ⟨ob', g1, g2, g3⟩ := h i _ h1
    cases ob' with
    | box T' cs' =>
      simp [Ob.ren] at g2
      obtain ⟨rfl, rfl⟩ := g2
      exact ⟨b, T, cs', g1, g3.trans h2, h3⟩
    | row E sz n cs' => simp [Ob.ren] at g2
  | .b i off n, v, hv => by
    simp only [V.ren, VR] at hv ⊢
    obtain ⟨b, T, cs, h1, h2, h3⟩ := hv
    obtain ⟨ob', g1, g2, g3⟩ := h i _ h1
    cases ob' with
    | box T' cs' =>
      simp [Ob.ren] at g2
      obtain ⟨rfl, rfl⟩ := g2
      exact ⟨b, T, cs', g1, g3.trans h2, h3⟩
    | row E sz n cs' => simp [Ob.ren] at g2
  | .g i n, v, hv => by
    simp only [V.ren, VR] at hv ⊢
    obtain ⟨b, T, cs, h1, h2, h3⟩ := hv
    obtain ⟨ob', g1, g2, g3⟩ := h i _ h1
    cases ob' with
    | box T' cs' =>
      simp [Ob.ren] at g2
      obtain ⟨rfl, rfl⟩ := g2
      exact ⟨b, T, cs', g1, g3.trans h2, h3⟩
    | row E sz n cs' => simp [Ob.ren] at g2
  | .c xs, v, hv => by simpa only [V.ren, VR] using hv
  | .o i n, v, hv => by
    simp only [V.ren, VR] at hv ⊢
    obtain ⟨E, sz, m, cs, u, A, cap, h1, h2, h3⟩ := hv
    obtain ⟨ob', g1, g2, g3⟩ := h i _ h1
    cases ob' with
    | row E' sz' n' cs' =>
      simp [Ob.ren] at g2
      obtain ⟨rfl, rfl, rfl, rfl⟩ := g2
      exact ⟨E, sz, m, cs, u, A, cap, g1, g3.trans h2, h3⟩
    | box E cs' => simp [Ob.ren] at g2
  | .e i n off, v, hv => by
    simp only [V.ren, VR] at hv ⊢
    obtain ⟨E, sz, m, cs, u, b, h1, h2, h3⟩ := hv
    obtain ⟨ob', g1, g2, g3⟩ := h i _ h1
    cases ob' with
    | row E' sz' n' cs' =>
      simp [Ob.ren] at g2
      obtain ⟨rfl, rfl, rfl, rfl⟩ := g2
      exact ⟨E, sz, m, cs, u, b, g1, g3.trans h2, h3⟩
    | box E cs' => simp [Ob.ren] at g2
  | .f fn a b, v, hv => by
    simp only [V.ren, VR] at hv ⊢
    obtain ⟨x, y, e, h1, h2⟩ := hv
    exact ⟨x, y, e, VRs.unren h a _ h1, VRs.unren h b _ h2⟩
  | .u, v, hv => by simp [VR]
theorem VRs.unren (h : ∀ i ob, σ[g i]? = some ob → ∃ ob', σs[i]? = some ob' ∧ ob = ob'.ren g ∧ μs[i]? = μ[g i]?) : ∀ (xs : List V) (vs : List Value), VRs F σ μ w (rens g xs) vs → VRs F σs μs w xs vs
  | [], vs, hv => by simpa [rens, VRs] using hv
  | x :: xs, vs, hv => by
    simp only [rens, VRs] at hv ⊢
    obtain ⟨v, us, e, h1, h2⟩ := hv
    exact ⟨v, us, e, VR.unren h x v h1, VRs.unren h xs us h2⟩
end
mutual
theorem VR.toren (h : ∀ i ob, σs[i]? = some ob → σ[g i]? = some (ob.ren g) ∧ μ[g i]? = μs[i]?) : ∀ (x : V) (v : Value), VR F σs μs w x v → VR F σ μ w (x.ren g) v
  | .d x, v, hv => by simpa only [V.ren, VR] using hv
  | .a xs, v, hv => by
    simp only [V.ren, VR] at hv ⊢
    obtain ⟨cs, e, hv⟩ := hv
    exact ⟨cs, e, VRs.toren h xs _ hv⟩
  | .t xs, v, hv => by
    simp only [V.ren, VR] at hv ⊢
    obtain ⟨cs, e, hv⟩ := hv
    exact ⟨cs, e, VRs.toren h xs _ hv⟩
  | .p i off, v, hv => by
    simp only [V.ren, VR] at hv ⊢
    obtain ⟨b, T, cs, h1, h2, h3⟩ := hv
    have := h i _ h1
    exact ⟨b, T, rens g cs, this.1, this.2.trans h2, h3⟩
  | .b i off n, v, hv => by
    simp only [V.ren, VR] at hv ⊢
    obtain ⟨b, T, cs, h1, h2, h3⟩ := hv
    have := h i _ h1
    exact ⟨b, T, rens g cs, this.1, this.2.trans h2, h3⟩
  | .g i n, v, hv => by
    simp only [V.ren, VR] at hv ⊢
    obtain ⟨b, T, cs, h1, h2, h3⟩ := hv
    have := h i _ h1
    exact ⟨b, T, rens g cs, this.1, this.2.trans h2, h3⟩
  | .c xs, v, hv => by simpa only [V.ren, VR] using hv
  | .o i n, v, hv => by
    simp only [V.ren, VR] at hv ⊢
    obtain ⟨E, sz, m, cs, u, A, cap, h1, h2, h3⟩ := hv
    have := h i _ h1
    exact ⟨E, sz, m, cs, u, A, cap, this.1, this.2.trans h2, h3⟩
  | .e i n off, v, hv => by
    simp only [V.ren, VR] at hv ⊢
    obtain ⟨E, sz, m, cs, u, b, h1, h2, h3⟩ := hv
    have := h i _ h1
    exact ⟨E, sz, m, cs, u, b, this.1, this.2.trans h2, h3⟩
  | .f fn a b, v, hv => by
    simp only [V.ren, VR] at hv ⊢
    obtain ⟨x, y, e, h1, h2⟩ := hv
    exact ⟨x, y, e, VRs.toren h a _ h1, VRs.toren h b _ h2⟩
  | .u, v, hv => by simp [V.ren, VR]
theorem VRs.toren (h : ∀ i ob, σs[i]? = some ob → σ[g i]? = some (ob.ren g) ∧ μ[g i]? = μs[i]?) : ∀ (xs : List V) (vs : List Value), VRs F σs μs w xs vs → VRs F σ μ w (rens g xs) vs
  | [], vs, hv => by simpa [rens, VRs] using hv
  | x :: xs, vs, hv => by
    simp only [rens, VRs] at hv ⊢
    obtain ⟨v, us, e, h1, h2⟩ := hv
    exact ⟨v, us, e, VR.toren h x v h1, VRs.toren h xs us h2⟩
end
theorem blk_ren (ob : Ob) (v : Value) : blk (ob.ren g) v = blk ob v := by
  cases ob with
  | row E sz n cs => rfl
  | box T cs =>
    cases v with
    | pointer a => cases a <;> rfl
    | slice a l c => cases a <;> rfl
    | _ => rfl
theorem Keep.grows {m : Nat} (h : Keep m σ μ σ' μ') (hm : σ.length = m) (hl : μ.length = σ.length) : σ.length ≤ σ'.length := by
  rcases Nat.eq_zero_or_pos σ.length with e | e
  · omega
  · have h0 : σ[σ.length - 1]? = some σ[σ.length - 1] := List.getElem?_eq_getElem (by omega)
    have h1 : μ[σ.length - 1]? = some (μ[σ.length - 1]'(by omega)) := List.getElem?_eq_getElem _
    cases ho : σ[σ.length - 1] with
    | box T cs =>
      rw [ho] at h0
      obtain ⟨⟨c, g1⟩, _⟩ := h.box _ T cs _ (by omega) h0 h1
      have := (List.getElem?_eq_some_iff.1 g1).1
      omega
    | row E sz n cs =>
      rw [ho] at h0
      obtain ⟨_, c, _, g1, _⟩ := h.row _ E sz n cs _ (by omega) h0 h1
      have := (List.getElem?_eq_some_iff.1 g1).1
      omega
structure Emb (ι : List Nat) (σs σ : List Ob) : Prop where
  len : ι.length = σs.length
  nodup : ι.Nodup
  at_ : ∀ (j i : Nat), ι[j]? = some i → σ[i]? = (σs[j]?).map (Ob.ren (gm ι σ.length))
theorem AC.frame {f : FuncId} {args : List V} {Q : V → List Ob → Prop} {ι : List Nat} (hemb : Emb ι σs σ) (h : AC P f args σs Q) :
    AC P f (rens (gm ι σ.length) args) σ fun x σ' => ∃ y obs, Q y obs ∧ σs.length ≤ obs.length ∧ x = y.ren (gm ι σ.length) ∧ σ' = mrg σ ι (obs.map (Ob.ren (gm ι σ.length))) := by
  refine ⟨h.1, fun F μ w vals st hv => ?_⟩
  let g := gm ι σ.length
  let μs : List Value := ι.map fun i => (μ[i]?).getD undef
  have hlt : ∀ (j i : Nat), ι[j]? = some i → i < σ.length := fun j i hj => by
    have h1 := hemb.at_ j i hj
    have hjl : j < σs.length := by rw [← hemb.len]; exact (List.getElem?_eq_some_iff.1 hj).1
    rw [List.getElem?_eq_getElem hjl] at h1
    exact (List.getElem?_eq_some_iff.1 h1).1
  have hmem : ∀ i ∈ ι, i < σ.length := fun i hi => by
    obtain ⟨j, hj⟩ := List.mem_iff_getElem?.1 hi
    exact hlt j i hj
  have hμs : ∀ (j i : Nat), ι[j]? = some i → μs[j]? = μ[i]? := fun j i hj => by
    have : i < μ.length := by rw [st.len]; exact hlt j i hj
    show (ι.map fun i => (μ[i]?).getD undef)[j]? = μ[i]?
    rw [List.getElem?_map, hj, List.getElem?_eq_getElem this]
    simp [List.getElem?_eq_getElem this]
  have hg : ∀ (j i : Nat), ι[j]? = some i → g j = i := fun j i hj => by
    have hjl := (List.getElem?_eq_some_iff.1 hj).1
    simp only [g, gm, if_pos hjl]
    rw [List.getD_eq_getElem?_getD, hj]
    rfl
  have un : ∀ (i : Nat) (ob : Ob), σ[g i]? = some ob → ∃ ob', σs[i]? = some ob' ∧ ob = ob'.ren g ∧ μs[i]? = μ[g i]? := by
    intro i ob hi
    rcases Nat.lt_or_ge i ι.length with hl | hl
    · have hj : ι[i]? = some ι[i] := List.getElem?_eq_getElem hl
      rw [hg i _ hj] at hi ⊢
      have h1 := hemb.at_ i _ hj
      rw [hi] at h1
      obtain ⟨ob', g1, g2⟩ := Option.map_eq_some_iff.1 h1.symm
      exact ⟨ob', g1, g2.symm, hμs i _ hj⟩
    · have := (List.getElem?_eq_some_iff.1 hi).1
      simp only [g, gm] at this
      rw [if_neg (by omega)] at this
      omega
  have hs : ∀ (j : Nat) (ob : Ob), σs[j]? = some ob → ∃ i : Nat, ι[j]? = some i ∧ σ[i]? = some (ob.ren g) := fun j ob hj => by
    have hjl : j < ι.length := by rw [hemb.len]; exact (List.getElem?_eq_some_iff.1 hj).1
    have h0 : ι[j]? = some ι[j] := List.getElem?_eq_getElem hjl
    have h1 := hemb.at_ j _ h0
    rw [hj] at h1
    exact ⟨_, h0, h1⟩
  have sts : St σs.length w.heap.size F σs μs w := by
    refine ⟨by simp [μs, hemb.len], fun j ob u h1 h2 => ?_, fun j l ob u ob' u' b h1 h2 h3 h4 h5 h6 => ?_, st.lt, Nat.le_refl _⟩
    · obtain ⟨i, hi, hi2⟩ := hs j ob h1
      rw [hμs j i hi] at h2
      have := st.obj i _ u hi2 h2
      have hjl := (List.getElem?_eq_some_iff.1 h1).1
      have hil := hlt j i hi
      cases ob with
      | box T cs =>
        obtain ⟨b, arr, e1, e2, e3, e4, _⟩ := this
        exact ⟨b, arr, e1, e2, e3.imp fun _ => VRs.unren un _ _, e4, fun h => absurd hjl (by omega)⟩
      | row E sz n cs =>
        obtain ⟨vs, e1, e2, e3⟩ := this
        rw [if_neg (by omega)] at e1
        exact ⟨vs, by rw [if_neg (by omega)]; exact e1, e2, e3⟩
    · obtain ⟨i, hi, hi2⟩ := hs j ob h1
      obtain ⟨i', hi', hi2'⟩ := hs l ob' h3
      rw [hμs j i hi] at h2
      rw [hμs l i' hi'] at h4
      have := st.sep i i' _ u _ u' b hi2 h2 hi2' h4 (by rw [blk_ren]; exact h5) (by rw [blk_ren]; exact h6)
      subst this
      exact (List.getElem?_inj (List.getElem?_eq_some_iff.1 hi).1 hemb.nodup).1 (hi.trans hi'.symm)
  have livs : ∀ b, Live σs μs b → Live σ μ b := by
    rintro b ⟨j, ob, u, h1, h2, h3⟩
    obtain ⟨i, hi, hi2⟩ := hs j ob h1
    rw [hμs j i hi] at h2
    exact ⟨i, _, u, hi2, h2, by rw [blk_ren]; exact h3⟩
  refine (h.2 F μs w vals sts (VRs.unren un _ _ hv)).mono fun e w' hq => ?_
  obtain ⟨v, y, F', obs, μo, he, hq, sp, st', hy⟩ := hq
  have hgrow : σs.length ≤ obs.length := sp.keep.grows rfl sts.len
  have hrl : ι.length ≤ (obs.map (Ob.ren g)).length := by rw [List.length_map, hemb.len]; exact hgrow
  have hml : ι.length ≤ μo.length := by rw [st'.len, hemb.len]; exact hgrow
  have hmμ : ∀ i ∈ ι, i < μ.length := fun i hi => by rw [st.len]; exact hmem i hi
  let σ' := mrg σ ι (obs.map (Ob.ren g))
  let μ' := mrg μ ι μo
  -- the new store, number by number
  have num : ∀ i, i < σ'.length → (∃ j, g j = i ∧ j < obs.length ∧ σ'[i]? = (obs[j]?).map (Ob.ren g) ∧ μ'[i]? = μo[j]?) ∨ (i ∉ ι ∧ i < σ.length ∧ σ'[i]? = σ[i]? ∧ μ'[i]? = μ[i]?) := by
    intro i hi
    rcases Nat.lt_or_ge i σ.length with hl | hl
    · by_cases hm : i ∈ ι
      · obtain ⟨j, hj⟩ := List.mem_iff_getElem?.1 hm
        left
        refine ⟨j, hg j i hj, ?_, ?_, ?_⟩
        · have := (List.getElem?_eq_some_iff.1 hj).1
          simp at hrl; omega
        · rw [mrg_at ι σ _ j i hemb.nodup hmem hrl hj, List.getElem?_map]
        · exact mrg_at ι μ μo j i hemb.nodup hmμ hml hj
      · exact .inr ⟨hm, hl, mrg_out ι σ _ i hm hl, mrg_out ι μ _ i hm (by rw [st.len]; exact hl)⟩
    · left
      have hlen := mrg_length ι σ _ hrl
      have hi' : i < σ.length + ((obs.map (Ob.ren g)).length - ι.length) := hlen ▸ hi
      simp only [List.length_map] at hi' hrl
      refine ⟨ι.length + (i - σ.length), ?_, by omega, ?_, ?_⟩
      · simp only [g, gm]
        rw [if_neg (by omega)]
        omega
      · have := mrg_new ι σ (obs.map (Ob.ren g)) (i - σ.length) (by simpa using hrl)
        rw [show σ.length + (i - σ.length) = i from by omega, List.getElem?_map] at this
        exact this
      · have := mrg_new ι μ μo (i - σ.length) hml
        rw [show μ.length + (i - σ.length) = i from by rw [st.len]; omega] at this
        exact this
  have atg : ∀ (j : Nat) (ob : Ob), obs[j]? = some ob → σ'[g j]? = some (ob.ren g) ∧ μ'[g j]? = μo[j]? := by
    intro j ob hj
    have hjl := (List.getElem?_eq_some_iff.1 hj).1
    rcases Nat.lt_or_ge j ι.length with hl | hl
    · have h0 : ι[j]? = some ι[j] := List.getElem?_eq_getElem hl
      rw [hg j _ h0]
      refine ⟨?_, mrg_at ι μ μo j _ hemb.nodup hmμ hml h0⟩
      rw [mrg_at ι σ _ j _ hemb.nodup hmem hrl h0, List.getElem?_map, hj]
      rfl
    · have e : g j = σ.length + (j - ι.length) := by simp only [g, gm]; rw [if_neg (by omega)]
      rw [e]
      refine ⟨?_, ?_⟩
      · rw [mrg_new ι σ _ _ hrl, List.getElem?_map, show ι.length + (j - ι.length) = j from by omega, hj]
        rfl
      · rw [← st.len, mrg_new ι μ μo _ hml, show ι.length + (j - ι.length) = j from by omega]
  have ginj : ∀ j l, j < obs.length → l < obs.length → g j = g l → j = l := by
    intro j l hj hl e
    have val : ∀ j : Nat, (∃ i : Nat, ι[j]? = some i ∧ g j = i ∧ i < σ.length) ∨ (ι.length ≤ j ∧ g j = σ.length + (j - ι.length)) := by
      intro j
      rcases Nat.lt_or_ge j ι.length with h | h
      · have h0 : ι[j]? = some ι[j] := List.getElem?_eq_getElem h
        exact .inl ⟨_, h0, hg j _ h0, hlt j _ h0⟩
      · exact .inr ⟨h, by simp only [g, gm]; rw [if_neg (by omega)]⟩
    rcases val j with ⟨i, a1, a2, a3⟩ | ⟨a1, a2⟩ <;> rcases val l with ⟨i', b1, b2, b3⟩ | ⟨b1, b2⟩
    · rw [a2, b2] at e
      subst e
      exact (List.getElem?_inj (List.getElem?_eq_some_iff.1 a1).1 hemb.nodup).1 (a1.trans b1.symm)
    · omega
    · omega
    · omega
  have keep : Keep σ.length σ μ σ' μ' := by
    refine ⟨fun i T cs u hi h1 h2 => ?_, fun i E sz m cs u hi h1 h2 => ?_⟩
    · by_cases hm : i ∈ ι
      · obtain ⟨j, hj⟩ := List.mem_iff_getElem?.1 hm
        have hjl : j < σs.length := by rw [← hemb.len]; exact (List.getElem?_eq_some_iff.1 hj).1
        have h3 := hemb.at_ j i hj
        rw [h1] at h3
        obtain ⟨ob, e1, e2⟩ := Option.map_eq_some_iff.1 h3.symm
        cases ob with
        | box T' cs' =>
          simp [Ob.ren] at e2
          obtain ⟨rfl, rfl⟩ := e2
          obtain ⟨⟨c2, k1⟩, k2⟩ := sp.keep.box j T' cs' u hjl e1 ((hμs j i hj).trans h2)
          have := atg j _ k1
          rw [hg j i hj] at this
          exact ⟨⟨_, this.1⟩, this.2.trans k2⟩
        | row E sz n c => simp [Ob.ren] at e2
      · exact ⟨⟨cs, (mrg_out ι σ _ i hm hi).trans h1⟩, (mrg_out ι μ _ i hm (by rw [st.len]; exact hi)).trans h2⟩
    · by_cases hm : i ∈ ι
      · obtain ⟨j, hj⟩ := List.mem_iff_getElem?.1 hm
        have hjl : j < σs.length := by rw [← hemb.len]; exact (List.getElem?_eq_some_iff.1 hj).1
        have h3 := hemb.at_ j i hj
        rw [h1] at h3
        obtain ⟨ob, e1, e2⟩ := Option.map_eq_some_iff.1 h3.symm
        cases ob with
        | row E' sz' m' cs' =>
          simp [Ob.ren] at e2
          obtain ⟨rfl, rfl, rfl, rfl⟩ := e2
          obtain ⟨m2, c2, u2, k1, k2, k3⟩ := sp.keep.row j E' sz' m' cs' u hjl e1 ((hμs j i hj).trans h2)
          have := atg j _ k1
          rw [hg j i hj] at this
          exact ⟨m2, c2, u2, this.1, this.2.trans k2, k3⟩
        | box T c => simp [Ob.ren] at e2
      · exact ⟨m, cs, u, (mrg_out ι σ _ i hm hi).trans h1, (mrg_out ι μ _ i hm (by rw [st.len]; exact hi)).trans h2, Nat.le_refl _, fun _ => rfl⟩
  have mem : Mem F w F' w' := sp.memF sts
  have frameB : ∀ (i : Nat) (ob : Ob) (u : Value) (b : Nat), i ∉ ι → σ[i]? = some ob → μ[i]? = some u → blk ob u = some b → b < w.heap.size ∧ w'.heap[b]? = w.heap[b]? ∧ ¬ Live σs μs b := by
    intro i ob u b hm h1 h2 h3
    have hb := st.lt b (st.live_F ⟨i, ob, u, h1, h2, h3⟩)
    have hnl : ¬ Live σs μs b := by
      rintro ⟨j, ob', u', e1, e2, e3⟩
      obtain ⟨i', hi', hi2'⟩ := hs j ob' e1
      rw [hμs j i' hi'] at e2
      have := st.sep i i' ob u _ u' b h1 h2 hi2' e2 h3 (by rw [blk_ren]; exact e3)
      subst this
      exact hm (List.mem_of_getElem? hi')
    exact ⟨hb, sp.mem b hb hnl, hnl⟩
  have newB : ∀ (j : Nat) (ob : Ob) (u : Value) (b : Nat), obs[j]? = some ob → μo[j]? = some u → blk ob u = some b → Live σs μs b ∨ w.heap.size ≤ b := fun j ob u b h1 h2 h3 => sp.live b ⟨j, ob, u, h1, h2, h3⟩
  refine ⟨v, _, F', σ', μ', he, ⟨y, obs, hq, hgrow, rfl, rfl⟩, ?_, ?_, VR.toren (fun i ob hi => atg i ob hi) y v hy⟩
  · refine ⟨sp.os, sp.tape, sp.output, sp.size, fun b hb hl => sp.mem b hb fun h => hl (livs b h), sp.fnew, sp.fold, ?_, keep, ?_⟩
    · rintro b ⟨i, ob, u, h1, h2, h3⟩
      rcases num i (List.getElem?_eq_some_iff.1 h1).1 with ⟨j, _, hj, e1, e2⟩ | ⟨hm, hl, e1, e2⟩
      · rw [e1] at h1
        rw [e2] at h2
        obtain ⟨ob', k1, rfl⟩ := Option.map_eq_some_iff.1 h1
        rw [blk_ren] at h3
        exact (newB j ob' u b k1 h2 h3).imp (livs b) id
      · rw [e1] at h1
        rw [e2] at h2
        exact .inl ⟨i, ob, u, h1, h2, h3⟩
    · intro i E sz m cs u E' sz' m' cs' u' hi a1 a2 a3 a4 b hb
      by_cases hm : i ∈ ι
      · obtain ⟨j, hj⟩ := List.mem_iff_getElem?.1 hm
        have hjl : j < σs.length := by rw [← hemb.len]; exact (List.getElem?_eq_some_iff.1 hj).1
        have h3 := hemb.at_ j i hj
        rw [a1] at h3
        obtain ⟨ob, e1, e2⟩ := Option.map_eq_some_iff.1 h3.symm
        cases ob with
        | row E1 sz1 m1 cs1 =>
          have q1 : σ'[i]? = (obs[j]?).map (Ob.ren g) := by rw [mrg_at ι σ _ j i hemb.nodup hmem hrl hj, List.getElem?_map]
          have q2 : μ'[i]? = μo[j]? := mrg_at ι μ μo j i hemb.nodup hmμ hml hj
          rw [q1] at a3
          rw [q2] at a4
          obtain ⟨ob2, k1, k2⟩ := Option.map_eq_some_iff.1 a3
          cases ob2 with
          | row E2 sz2 m2 cs2 => exact sp.rows j E1 sz1 m1 cs1 u E2 sz2 m2 cs2 u' hjl e1 ((hμs j i hj).trans a2) k1 a4 b hb
          | box T c => simp [Ob.ren] at k2
        | box T c => simp [Ob.ren] at e2
      · rw [show μ'[i]? = μ[i]? from mrg_out ι μ _ i hm (by rw [st.len]; exact hi), a2] at a4
        obtain rfl := Option.some.inj a4
        exact .inl hb
  · refine ⟨?_, fun i ob u h1 h2 => ?_, fun i l ob u ob' u' b h1 h2 h3 h4 h5 h6 => ?_, st'.lt, sp.size⟩
    · show (mrg μ ι μo).length = (mrg σ ι (obs.map (Ob.ren g))).length
      rw [mrg_length ι μ μo hml, mrg_length ι σ _ hrl, st.len, st'.len, List.length_map]
    · rcases num i (List.getElem?_eq_some_iff.1 h1).1 with ⟨j, hgj, hj, e1, e2⟩ | ⟨hm, hl, e1, e2⟩
      · rw [e1] at h1
        rw [e2] at h2
        obtain ⟨ob', k1, rfl⟩ := Option.map_eq_some_iff.1 h1
        have hi_or : i < σ.length ∨ σs.length ≤ j := by
          rcases Nat.lt_or_ge j ι.length with h | h
          · have h0 : ι[j]? = some ι[j] := List.getElem?_eq_getElem h
            rw [hg j _ h0] at hgj
            exact .inl (hgj ▸ hlt j _ h0)
          · exact .inr (by rw [← hemb.len]; exact h)
        have := st'.obj j ob' u k1 h2
        cases ob' with
        | box T cs =>
          obtain ⟨b, arr, d1, d2, d3, d4, d5⟩ := this
          exact ⟨b, arr, d1, d2, d3.imp fun _ => VRs.toren (fun i ob hi => atg i ob hi) _ _, d4, fun h => d5 (by omega)⟩
        | row E sz n cs =>
          obtain ⟨vs, d1, d2, d3⟩ := this
          refine ⟨vs, ⟨d1.1, ?_⟩, d2, d3⟩
          rcases d1.2 with h | ⟨gg, cap, cur, r1, r2, r3⟩
          · exact .inl h
          · refine .inr ⟨gg, cap, cur, r1, ?_, r3⟩
            split
            · rw [if_pos (by omega)] at r2
              exact r2
            · exact Nat.zero_le _
      · rw [e1] at h1
        rw [e2] at h2
        refine ObOk.mono mem st.len keep (fun b hb => ?_) (st.obj i ob u h1 h2)
        obtain ⟨r1, r2, _⟩ := frameB i ob u b hm h1 h2 hb
        exact ⟨r2, fun hF => sp.fold b r1 hF⟩
    · rcases num i (List.getElem?_eq_some_iff.1 h1).1 with ⟨j, hgj, hj, e1, e2⟩ | ⟨hm, hl, e1, e2⟩ <;>
        rcases num l (List.getElem?_eq_some_iff.1 h3).1 with ⟨j', hgj', hj', e1', e2'⟩ | ⟨hm', hl', e1', e2'⟩
      · rw [e1] at h1; rw [e2] at h2; rw [e1'] at h3; rw [e2'] at h4
        obtain ⟨ob1, k1, rfl⟩ := Option.map_eq_some_iff.1 h1
        obtain ⟨ob2, k2, rfl⟩ := Option.map_eq_some_iff.1 h3
        rw [blk_ren] at h5 h6
        have := st'.sep j j' ob1 u ob2 u' b k1 h2 k2 h4 h5 h6
        rw [← hgj, ← hgj', this]
      · rw [e1] at h1; rw [e2] at h2; rw [e1'] at h3; rw [e2'] at h4
        obtain ⟨ob1, k1, rfl⟩ := Option.map_eq_some_iff.1 h1
        rw [blk_ren] at h5
        obtain ⟨r1, _, r3⟩ := frameB l ob' u' b hm' h3 h4 h6
        rcases newB j ob1 u b k1 h2 h5 with h | h
        · exact (r3 h).elim
        · omega
      · rw [e1] at h1; rw [e2] at h2; rw [e1'] at h3; rw [e2'] at h4
        obtain ⟨ob2, k2, rfl⟩ := Option.map_eq_some_iff.1 h3
        rw [blk_ren] at h6
        obtain ⟨r1, _, r3⟩ := frameB i ob u b hm h1 h2 h5
        rcases newB j' ob2 u' b k2 h4 h6 with h | h
        · exact (r3 h).elim
        · omega
      · rw [e1] at h1; rw [e2] at h2; rw [e1'] at h3; rw [e2'] at h4
        exact st.sep i l ob u ob' u' b h1 h2 h3 h4 h5 h6
theorem run_call {f : FuncId} {fv : Operand} {args : Array Operand} {ts : Array TypeId} {ty : TypeId} {pos : String} {af : Array Edge} {gd : Option (Nat × Bool)} {dst : Option Tmp} {a : Act} {fi ca : Array Value}
    (he : Ent P f) (hf : a.eval fv = .func (.func f) fi ca) :
    (execOp a.eval ⟨dst, .call { callee := .value fv, args := args, argTypes := ts }, ty, pos, af, gd⟩).run P w = .ok (.enter f (fi ++ args.map a.eval ++ ca)) w := by
  obtain ⟨fn, c, h1, h2, h3⟩ := he
  simp [execOp, resolve, Deferred.ofValue, hf, invoke, callFunc, program, Sem.run, h1, h2, h3]
theorem AOp.call {Q : V → List Ob → Prop} {f : FuncId} {fv : Operand} {args : Array Operand} {ts : Array TypeId} {ty : TypeId} {pos : String} {af : Array Edge} {gd : Option (Nat × Bool)} {dst : Option Tmp} {fi ca : List V}
    (hf : ev T fv = .f (.func f) fi ca) (h : AC P f (nzs (fi ++ args.toList.map (ev T) ++ ca)) σ Q) : AOp P N k ⟨dst, .call { callee := .value fv, args := args, argTypes := ts }, ty, pos, af, gd⟩ T σ Q := by
  intro B F μ w a st tr next X hn
  have hx := ev_ok tr fv
  rw [hf] at hx
  simp only [VR] at hx
  obtain ⟨x, y, hv, h1, h2⟩ := hx
  unfold Oper.wp
  rw [run_call h.1 hv]
  show Calls P f _ w _
  have hargs : VRs F σ μ w (fi ++ args.toList.map (ev T) ++ ca) (x ++ args.map a.eval ++ y).toList := by
    simp only [Array.toList_append, Array.toList_map]
    exact VRs.append (VRs.append h1 (evs_ok tr _)) h2
  have hc := h.2 F μ w _ st.lower (nzs_ok _ _ hargs)
  simp only [Array.toArray_toList] at hc
  refine hc.mono fun e w' ⟨v, z, F', σ', μ', he, hq, sp, st', hz⟩ => ?_
  subst he
  obtain ⟨g1, g2⟩ := St.raise st st' sp
  exact hn v w' ⟨z, F', σ', μ', hq, g2, g1, sp.keep, hz, fun b hb => sp.fold b (st.lt b hb) hb⟩
theorem AOp.callι {Q Qs : V → List Ob → Prop} {f : FuncId} {fv : Operand} {args : Array Operand} {ts : Array TypeId} {ty : TypeId} {pos : String} {af : Array Edge} {gd : Option (Nat × Bool)} {dst : Option Tmp} {fi ca as : List V}
    (ι : List Nat) (hf : ev T fv = .f (.func f) fi ca) (hc : AC P f as σs Qs) (hemb : Emb ι σs σ) (has : nzs (fi ++ args.toList.map (ev T) ++ ca) = rens (gm ι σ.length) as)
    (h : ∀ y obs, Qs y obs → Q (y.ren (gm ι σ.length)) (mrg σ ι (obs.map (Ob.ren (gm ι σ.length))))) : AOp P N k ⟨dst, .call { callee := .value fv, args := args, argTypes := ts }, ty, pos, af, gd⟩ T σ Q := by
  refine AOp.call hf ?_
  rw [has]
  exact (AC.frame hemb hc).mono fun x σ' ⟨y, obs, hq, _, hx, hs⟩ => by rw [hx, hs]; exact h y obs hq
end
end Go.AW
namespace Go.AW
open Go
def anc (ops : Array Oper) : Nat → Nat → List Nat
  | 0, _ => []
  | n + 1, i => match ops[i]? with
    | some o => (o.after.toList.filter (Region.binds .any)).flatMap fun e => e.on :: anc ops n e.on
    | none => []
def writes (ops : Array Oper) (j : Nat) (t : Tmp) : Bool := ((ops[j]?).bind (·.dst)) == some t
def looks (ops : Array Oper) (i : Nat) : List Tmp := match ops[i]? with | some o => o.looksAt ops | none => []
def drawB (ops : Array Oper) : Bool :=
  let n := ops.size
  (List.range n).all fun i =>
    ((match ops[i]? with | some o => (o.after.toList.filter (Region.binds .any)).all (fun e => decide (e.on < i)) && (match o.op with | .select .. => false | _ => true) | none => false)) &&
    (List.range n).all fun j =>
      (i == j) || ((looks ops i ++ ((ops[i]?).bind (·.dst)).toList).all fun t => !writes ops j t || (if j < i then (anc ops n i).contains j else (anc ops n j).contains i))
def CalmAt (P : Program) (N k : Nat) (o : Oper) (T : Tm) (x : V) (σ : List Ob) : Prop := AOp P N k o T σ fun y σ' => y = x ∧ σ' = σ
def wants (ops : Array Oper) (T : Tm) (o : Oper) : Option Bool :=
  match o.guard with
  | none => some true
  | some (j, p) => match gv ops T j with
    | .d (.s (.bool b)) => some (b == p)
    | .t _ => some false
    | _ => none
def mayEff : Op → Bool
  | .move _ | .assign _ | .pick _ _ _ | .binOp _ _ _ _ _ | .unOp _ _ _ | .convert _ _ _ | .index _ _ _ | .nilCheck _ | .fieldAddr _ _ _ | .indexAddr _ _ _ | .load _ _ | .extract _ _ | .field _ _ _ | .slice _ _ _ _ _ | .makeFunc _ _ _ => false
  | _ => true
def directB (ops : Array Oper) (j i : Nat) : Bool := match ops[j]? with
  | some o => (o.after.toList.filter (Region.binds .any)).any fun e => e.on == i
  | none => false
def lateB (ops : Array Oper) (i : Nat) : Bool := (List.range ops.size).all fun j => decide (j ≤ i) || !((ops[j]?).any fun o => mayEff o.op) || directB ops j i
theorem direct_anc {ops : Array Oper} {j i : Nat} (h : directB ops j i = true) : i ∈ anc ops ops.size j := by
  unfold directB at h
  split at h
  · rename_i o ho
    have hj := (Array.getElem?_eq_some_iff.1 ho).1
    obtain ⟨n, hn⟩ : ∃ n, ops.size = n + 1 := ⟨ops.size - 1, by omega⟩
    rw [hn]
    unfold anc
    rw [ho]
    obtain ⟨e, he, h2⟩ := List.any_eq_true.1 h
    have : e.on = i := by simpa using h2
    exact List.mem_flatMap.2 ⟨e, he, by rw [this]; exact List.mem_cons_self⟩
  · cases h
theorem late_anc {ops : Array Oper} {j i : Nat} {o : Oper} (h : lateB ops i = true) (ho : ops[j]? = some o) (hm : mayEff o.op = true) (hij : i < j) : i ∈ anc ops ops.size j := by
  have hj := (Array.getElem?_eq_some_iff.1 ho).1
  have := List.all_eq_true.1 h j (List.mem_range.2 hj)
  rw [ho] at this
  simp only [Option.any_some, hm, Bool.not_true, Bool.or_false, Bool.or_eq_true, decide_eq_true_eq] at this
  rcases this with h1 | h1
  · omega
  · exact direct_anc h1
def chainB (ops : Array Oper) : List Nat → Bool
  | [] => true
  | e :: E => E.all (fun e' => (anc ops ops.size e).contains e') && chainB ops E
theorem chainB_ok {ops : Array Oper} : ∀ {E : List Nat}, chainB ops E = true → ∀ a b e e' : Nat, E[a]? = some e → E[b]? = some e' → a < b → e' ∈ anc ops ops.size e
  | [], _, a, b, e, e', h1, _, _ => by simp at h1
  | x :: E, h, a, b, e, e', h1, h2, hab => by
    simp only [chainB, Bool.and_eq_true, List.all_eq_true] at h
    cases b with
    | zero => omega
    | succ b =>
      simp at h2
      cases a with
      | zero =>
        simp at h1
        subst h1
        simpa using h.1 e' (List.mem_of_getElem? h2)
      | succ a => exact chainB_ok h.2 a b e e' (by simpa using h1) h2 (by omega)
def looseB (ops : Array Oper) (p : Nat) (E : List Nat) : Bool := (List.range ops.size).all fun i => !(anc ops ops.size i).contains p || E.all fun e => (anc ops ops.size i).contains e
theorem looseB_ok {ops : Array Oper} {p : Nat} {E : List Nat} (h : looseB ops p E = true) {i : Nat} (hi : i < ops.size) (hp : p ∈ anc ops ops.size i) {e : Nat} (he : e ∈ E) : e ∈ anc ops ops.size i := by
  have := List.all_eq_true.1 h i (List.mem_range.2 hi)
  have hc : (anc ops ops.size i).contains p = true := by simpa using hp
  rw [hc] at this
  simp only [Bool.not_true, Bool.false_or, List.all_eq_true] at this
  simpa using this e he
inductive ADr (P : Program) (N k : Nat) (ops : Array Oper) (Q : Tm → List Ob → Prop) : Nat → List Oper → Tm → List (List Ob) → List Nat → List (Nat × (List Ob → Prop)) → Prop
  | nil {i : Nat} {T : Tm} {σ : List Ob} {S : List (List Ob)} {E : List Nat} {pc : List (Nat × (List Ob → Prop))} : Q T σ → ADr P N k ops Q i [] T (σ :: S) E pc
  | skip {i : Nat} {o : Oper} {rest : List Oper} {T : Tm} {S : List (List Ob)} {E : List Nat} {pc : List (Nat × (List Ob → Prop))} : dstOk N o.dst = true → wants ops T o = some false →
      ADr P N k ops Q (i + 1) rest (put T o.dst (.t [])) S E pc → ADr P N k ops Q i (o :: rest) T S E pc
  | calm {i : Nat} {o : Oper} {rest : List Oper} {T : Tm} {S : List (List Ob)} {E : List Nat} {pc : List (Nat × (List Ob → Prop))} (x : V) (p : List Ob → Prop) : dstOk N o.dst = true → wants ops T o = some true →
      (∀ σ, p σ → CalmAt P N k o (keepT T (o.looksAt ops)) x σ) → (∀ σ, σ ∈ S → p σ) →
      ADr P N k ops Q (i + 1) rest (put T o.dst x) S E ((i, p) :: pc) → ADr P N k ops Q i (o :: rest) T S E pc
  | calmw {i : Nat} {o : Oper} {rest : List Oper} {T : Tm} {S : List (List Ob)} {E : List Nat} {pc : List (Nat × (List Ob → Prop))} (x : V) (p : List Ob → Prop) (n e : Nat) : dstOk N o.dst = true → wants ops T o = some true →
      (∀ σ, p σ → CalmAt P N k o (keepT T (o.looksAt ops)) x σ) → E[n]? = some e → e ∈ anc ops ops.size i → (∀ σ, σ ∈ S.take (n + 1) → p σ) →
      ADr P N k ops Q (i + 1) rest (put T o.dst x) S E ((i, p) :: pc) → ADr P N k ops Q i (o :: rest) T S E pc
  | calml {i : Nat} {o : Oper} {rest : List Oper} {T : Tm} {S : List (List Ob)} {E : List Nat} {pc : List (Nat × (List Ob → Prop))} (x : V) : dstOk N o.dst = true → wants ops T o = some true →
      lateB ops i = true → (∀ σ, σ ∈ S → CalmAt P N k o (keepT T (o.looksAt ops)) x σ) →
      ADr P N k ops Q (i + 1) rest (put T o.dst x) S E pc → ADr P N k ops Q i (o :: rest) T S E pc
  | eff {i : Nat} {o : Oper} {rest : List Oper} {T : Tm} {σ : List Ob} {S : List (List Ob)} {E : List Nat} {pc : List (Nat × (List Ob → Prop))} (x : V) (σ' : List Ob) : dstOk N o.dst = true → wants ops T o = some true → mayEff o.op = true →
      (E.all fun e => (anc ops ops.size i).contains e) = true → AOp P N k o (keepT T (o.looksAt ops)) σ (fun y τ => y = x ∧ τ = σ') → (∀ q : Nat × (List Ob → Prop), q ∈ pc → directB ops i q.1 = true ∨ q.2 σ') →
      ADr P N k ops Q (i + 1) rest (put T o.dst x) (σ' :: σ :: S) (i :: E) pc → ADr P N k ops Q i (o :: rest) T (σ :: S) E pc
  | late {i : Nat} {o : Oper} {rest : List Oper} {T : Tm} {σ : List Ob} {S : List (List Ob)} {E : List Nat} {pc : List (Nat × (List Ob → Prop))} (t d : Nat) (z : List Value) : o.op = .alloc t → o.guard = none → o.dst = some d → dstOk N o.dst = true → zr P t = some z → look T d = .u →
      chainB ops E = true → looseB ops i E = true → (∀ q : Nat × (List Ob → Prop), q ∈ pc → directB ops i q.1 = true ∨ q.2 (σ ++ [.box t (z.map fun v => .d (.s v))])) →
      ADr P N k ops Q (i + 1) rest (put T o.dst (.p σ.length 0)) ((σ ++ [.box t (z.map fun v => .d (.s v))]) :: σ :: S) (i :: E) pc → ADr P N k ops Q i (o :: rest) T (σ :: S) E pc
section
variable {P : Program} {N k : Nat} {ops : Array Oper} {Q : Tm → List Ob → Prop}
def Tset (ops : Array Oper) (X : Nat → V) (L : Nat → Bool) (T : Tm) : Nat → Tm
  | 0 => T
  | n + 1 => if L n = true then put (Tset ops X L T n) ((ops[n]?).bind (·.dst)) (X n) else Tset ops X L T n
theorem look_put (T : Tm) (d : Option Tmp) (x : V) (t : Nat) : look (put T d x) t = if d = some t then x else look T t := by
  cases d with
  | none => simp [put]
  | some s =>
    simp only [put, look]
    by_cases e : t = s
    · subst e; simp
    · rw [if_neg e, if_neg (by simpa using Ne.symm e)]
theorem Tset_look (X : Nat → V) (L L' : Nat → Bool) (T : Tm) (t : Nat) : ∀ n, (∀ j, j < n → writes ops j t = true → L j = L' j) → look (Tset ops X L T n) t = look (Tset ops X L' T n) t
  | 0, _ => rfl
  | n + 1, h => by
    have ih := Tset_look X L L' T t n fun j hj => h j (by omega)
    simp only [Tset]
    by_cases hw : writes ops n t = true
    · rw [h n (by omega) hw]
      split
      · rw [look_put, look_put, ih]
      · exact ih
    · have hw' : (ops[n]?).bind (·.dst) ≠ some t := by simpa [writes] using hw
      split <;> split <;> simp [look_put, hw', ih]
def Shut (ops : Array Oper) (L : Nat → Bool) : Prop := ∀ (i : Nat) (o : Oper), ops[i]? = some o → L i = true → ∀ e ∈ o.after.toList, Region.binds .any e = true → L e.on = true
theorem Shut.mem_anc {L : Nat → Bool} (h : Shut ops L) : ∀ (n i j : Nat), L i = true → j ∈ anc ops n i → L j = true
  | 0, i, j, _, hj => by simp [anc] at hj
  | n + 1, i, j, hi, hj => by
    simp only [anc] at hj
    split at hj
    · rename_i o ho
      obtain ⟨e, he, hj⟩ := List.mem_flatMap.1 hj
      obtain ⟨h1, h2⟩ := List.mem_filter.1 he
      have := h i o ho hi e h1 h2
      rcases List.mem_cons.1 hj with rfl | hj
      · exact this
      · exact Shut.mem_anc h n e.on j this hj
    · simp at hj
theorem Shut.anc_ready {L : Nat → Bool} (h : Shut ops L) {i : Nat} {o : Oper} (ho : ops[i]? = some o) (hr : ∀ e ∈ o.after.toList, Region.binds .any e = true → L e.on = true) (n j : Nat) (hj : j ∈ anc ops n i) : L j = true := by
  cases n with
  | zero => simp [anc] at hj
  | succ n =>
    simp only [anc, ho] at hj
    obtain ⟨e, he, hj⟩ := List.mem_flatMap.1 hj
    obtain ⟨h1, h2⟩ := List.mem_filter.1 he
    have := hr e h1 h2
    rcases List.mem_cons.1 hj with rfl | hj
    · exact this
    · exact Shut.mem_anc h n e.on j this hj
structure DrawOk (ops : Array Oper) : Prop where
  back : ∀ (i : Nat) (o : Oper), ops[i]? = some o → ∀ e ∈ o.after.toList, Region.binds .any e = true → e.on < i
  sel : ∀ (i : Nat) (o : Oper) (cs : Array SelectCase) (b : Bool), ops[i]? = some o → o.op ≠ .select cs b
  meet : ∀ (i j t : Nat), i < ops.size → j < ops.size → i ≠ j → t ∈ looks ops i ++ ((ops[i]?).bind (·.dst)).toList → writes ops j t = true → (j < i → j ∈ anc ops ops.size i) ∧ (i < j → i ∈ anc ops ops.size j)
theorem drawB_ok (h : drawB ops = true) : DrawOk ops := by
  unfold drawB at h
  simp only [List.all_eq_true, List.mem_range, Bool.and_eq_true, Bool.or_eq_true, beq_iff_eq] at h
  refine ⟨fun i o ho e he hb => ?_, fun i o cs b ho hs => ?_, fun i j t hi hj hne ht hw => ?_⟩
  · have hi := (Array.getElem?_eq_some_iff.1 ho).1
    have := (h i hi).1
    rw [ho] at this
    simp only [Bool.and_eq_true, List.all_eq_true, decide_eq_true_eq] at this
    exact this.1 e (List.mem_filter.2 ⟨he, hb⟩)
  · have hi := (Array.getElem?_eq_some_iff.1 ho).1
    have := (h i hi).1
    rw [ho] at this
    simp [hs] at this
  · rcases (h i hi).2 j hj with e | e
    · exact absurd e hne
    · have := e t ht
      simp only [hw] at this
      refine ⟨fun hlt => ?_, fun hlt => ?_⟩
      · rw [if_pos hlt] at this; simpa using this
      · rw [if_neg (by omega)] at this; simpa using this
def Tall (ops : Array Oper) (X : Nat → V) (T : Tm) : Nat → Tm
  | 0 => T
  | n + 1 => put (Tall ops X T n) ((ops[n]?).bind (·.dst)) (X n)
theorem Tall_congr {X X' : Nat → V} (T : Tm) : ∀ n, (∀ j, j < n → X j = X' j) → Tall ops X T n = Tall ops X' T n
  | 0, _ => rfl
  | n + 1, h => by simp only [Tall]; rw [Tall_congr T n fun j hj => h j (by omega), h n (by omega)]
theorem Tset_all (X : Nat → V) (T : Tm) (i : Nat) : ∀ n, i ≤ n → Tset ops X (fun j => decide (j < i)) T n = Tall ops X T i
  | 0, h => by obtain rfl : i = 0 := by omega
               rfl
  | n + 1, h => by
    simp only [Tset]
    by_cases e : n < i
    · obtain rfl : i = n + 1 := by omega
      rw [if_pos (by simp)]
      simp only [Tall]
      congr 1
      have : ∀ m, m ≤ n → Tset ops X (fun j => decide (j < n + 1)) T m = Tall ops X T m := by
        intro m
        induction m with
        | zero => intro _; rfl
        | succ m ih => intro hm; simp only [Tset, Tall]; rw [if_pos (by simp; omega), ih (by omega)]
      exact this n (Nat.le_refl _)
    · rw [if_neg (by simpa using e)]
      exact Tset_all X T i n (by omega)
theorem Tset_last (X : Nat → V) (L : Nat → Bool) (T : Tm) (t i : Nat) (hi : L i = true) (hw : writes ops i t = true) : ∀ n, i < n → (∀ j, i < j → j < n → writes ops j t = true → L j = false) → look (Tset ops X L T n) t = X i
  | 0, h, _ => by omega
  | n + 1, h, hl => by
    simp only [Tset]
    by_cases e : i = n
    · subst e
      rw [if_pos hi, look_put, if_pos (by simpa [writes] using hw)]
    · have ih := Tset_last X L T t i hi hw n (by omega) fun j h1 h2 => hl j h1 (by omega)
      by_cases hwn : writes ops n t = true
      · rw [hl n (by omega) (by omega) hwn]
        exact ih
      · have : (ops[n]?).bind (·.dst) ≠ some t := by simpa [writes] using hwn
        split <;> simp [look_put, this, ih]
def LateOk (P : Program) (ops : Array Oper) (T : Tm) (X : Nat → V) (E : List Nat) (S : List (List Ob)) (p : Nat) (Ep : List Nat) : Prop :=
  ∃ (E1 : List Nat) (o : Oper) (t d : Nat) (z : List Value) (s : List Ob), E = E1 ++ p :: Ep ∧ looseB ops p Ep = true ∧ ops[p]? = some o ∧ o.op = .alloc t ∧ o.guard = none ∧ o.dst = some d ∧ zr P t = some z ∧ look (Tall ops X T p) d = .u ∧
    X p = .p s.length 0 ∧ S[E1.length + 1]? = some s ∧ S[E1.length]? = some (s ++ [.box t (z.map fun v => .d (.s v))])
theorem LateOk.same {T : Tm} {X X' : Nat → V} {E : List Nat} {S : List (List Ob)} {p : Nat} {Ep : List Nat} (h : LateOk P ops T X E S p Ep) (hT : Tall ops X' T p = Tall ops X T p) (hX : X' p = X p) : LateOk P ops T X' E S p Ep := by
  obtain ⟨E1, o, t, d, z, s, h1, h2, h3, h4, h5, h6, h7, h8, h9, h10⟩ := h
  exact ⟨E1, o, t, d, z, s, h1, h2, h3, h4, h5, h6, h7, by rw [hT]; exact h8, by rw [hX]; exact h9, h10⟩
theorem LateOk.cons {T : Tm} {X : Nat → V} {E : List Nat} {S : List (List Ob)} {p : Nat} {Ep : List Nat} (h : LateOk P ops T X E S p Ep) (i : Nat) (σ' : List Ob) : LateOk P ops T X (i :: E) (σ' :: S) p Ep := by
  obtain ⟨E1, o, t, d, z, s, rfl, h2, h3, h4, h5, h6, h7, h8, h9, h10, h11⟩ := h
  exact ⟨i :: E1, o, t, d, z, s, rfl, h2, h3, h4, h5, h6, h7, h8, h9, by simpa using h10, by simpa using h11⟩
theorem LateOk.mem {T : Tm} {X : Nat → V} {E : List Nat} {S : List (List Ob)} {p : Nat} {Ep : List Nat} (h : LateOk P ops T X E S p Ep) : p ∈ E := by
  obtain ⟨E1, o, t, d, z, s, rfl, _⟩ := h
  simp
structure Plan (P : Program) (N k : Nat) (ops : Array Oper) (T : Tm) (σ : List Ob) (n : Nat) (X : Nat → V) (E : List Nat) (S : List (List Ob)) (pc : List (Nat × (List Ob → Prop))) (la : Option (Nat × List Nat)) : Prop where
  len : S.length = E.length + 1
  first : S[E.length]? = some σ
  lt : ∀ e ∈ E, e < n
  nodup : E.Nodup
  chain : ∀ a b e e' : Nat, E[a]? = some e → E[b]? = some e' → a < b → e' ∈ anc ops ops.size e ∨ ∃ Ep, la = some (e, Ep)
  late : ∀ p Ep, la = some (p, Ep) → LateOk P ops T X E S p Ep
  step : ∀ i, i < n → ∃ o, ops[i]? = some o ∧ dstOk N o.dst = true ∧
    ((i ∉ E ∧ wants ops (Tall ops X T i) o = some false ∧ X i = .t []) ∨
     (i ∉ E ∧ wants ops (Tall ops X T i) o = some true ∧ (∀ (a : Nat) (s : List Ob), S[a]? = some s → (∀ b e : Nat, b < a → E[b]? = some e → e ∉ anc ops ops.size i) → (∀ b e : Nat, a ≤ b → E[b]? = some e → i ∉ anc ops ops.size e) → CalmAt P N k o (keepT (Tall ops X T i) (o.looksAt ops)) (X i) s) ∧
       ((∃ p, (i, p) ∈ pc ∧ ∀ s, p s → CalmAt P N k o (keepT (Tall ops X T i) (o.looksAt ops)) (X i) s) ∨ lateB ops i = true)) ∨
     (∃ a s s', E[a]? = some i ∧ S[a]? = some s' ∧ S[a + 1]? = some s ∧ wants ops (Tall ops X T i) o = some true ∧
       AOp P N k o (keepT (Tall ops X T i) (o.looksAt ops)) s fun y τ => y = X i ∧ τ = s'))
theorem ADr.plan {T0 : Tm} {σ0 : List Ob} : ∀ {i : Nat} {rest : List Oper} {T : Tm} {S : List (List Ob)} {E : List Nat} {pc : List (Nat × (List Ob → Prop))}, ADr P N k ops Q i rest T S E pc → (∀ j, rest[j]? = ops[i + j]?) → i + rest.length = ops.size →
    ∀ X la, T = Tall ops X T0 i → Plan P N k ops T0 σ0 i X E S pc la → ∃ X' E' S' pc' σ' la', Plan P N k ops T0 σ0 ops.size X' E' S' pc' la' ∧ S'[0]? = some σ' ∧ Q (Tall ops X' T0 ops.size) σ' := by
  intro i rest T S E pc h
  have upd : ∀ (X : Nat → V) (i : Nat) (x : V), ∀ j, j ≤ i → Tall ops (fun j => if j = i then x else X j) T0 j = Tall ops X T0 j := fun X i x j hj => Tall_congr T0 j fun l hl => by simp; omega
  induction h with
  | nil hq =>
    rename_i i T σ S E pc
    intro hr hl X la hT pl
    simp at hl
    subst hl
    exact ⟨X, E, σ :: S, pc, σ, la, pl, rfl, by rw [← hT]; exact hq⟩
  | skip hd hw hrest ih =>
    rename_i i o rest T S E pc
    intro hr hl X la hT pl
    have ho : ops[i]? = some o := by simpa using (hr 0).symm
    let X' : Nat → V := fun j => if j = i then .t [] else X j
    have hi : i ∉ E := fun hm => by have := pl.lt i hm; omega
    refine ih (fun j => by have := hr (j + 1); simpa [Nat.add_assoc, Nat.add_comm 1 j] using this) (by simp at hl; omega) X' la ?_ ⟨pl.len, pl.first, fun e he => by have := pl.lt e he; omega, pl.nodup, pl.chain, fun p Ep hp => (pl.late p Ep hp).same (upd X i _ p (Nat.le_of_lt (pl.lt p (pl.late p Ep hp).mem))) (if_neg (by have := pl.lt p (pl.late p Ep hp).mem; omega)), fun j hj => ?_⟩
    · simp only [Tall, ho, Option.bind_some]
      rw [upd X i _ i (Nat.le_refl _), ← hT]
      simp [X']
    · by_cases e : j = i
      · subst e
        refine ⟨o, ho, hd, .inl ⟨hi, ?_, by simp [X']⟩⟩
        rw [upd X j _ j (Nat.le_refl _), ← hT]
        exact hw
      · have hX : X' j = X j := by simp [X', e]
        obtain ⟨o', h1, h2, h3⟩ := pl.step j (by omega)
        refine ⟨o', h1, h2, ?_⟩
        rw [upd X i _ j (by omega), hX]
        exact h3
  | calm x p hd hw hpc hc hrest ih =>
    rename_i i o rest T S E pc
    intro hr hl X la hT pl
    have ho : ops[i]? = some o := by simpa using (hr 0).symm
    let X' : Nat → V := fun j => if j = i then x else X j
    have hi : i ∉ E := fun hm => by have := pl.lt i hm; omega
    refine ih (fun j => by have := hr (j + 1); simpa [Nat.add_assoc, Nat.add_comm 1 j] using this) (by simp at hl; omega) X' la ?_ ⟨pl.len, pl.first, fun e he => by have := pl.lt e he; omega, pl.nodup, pl.chain, fun p Ep hp => (pl.late p Ep hp).same (upd X i _ p (Nat.le_of_lt (pl.lt p (pl.late p Ep hp).mem))) (if_neg (by have := pl.lt p (pl.late p Ep hp).mem; omega)), fun j hj => ?_⟩
    · simp only [Tall, ho, Option.bind_some]
      rw [upd X i _ i (Nat.le_refl _), ← hT]
      simp [X']
    · by_cases e : j = i
      · subst e
        refine ⟨o, ho, hd, .inr (.inl ⟨hi, ?_⟩)⟩
        rw [upd X j _ j (Nat.le_refl _), ← hT]
        have : X' j = x := by simp [X']
        rw [this]
        exact ⟨hw, fun a s hs _ _ => hpc s (hc s (List.mem_of_getElem? hs)), .inl ⟨p, List.mem_cons_self, hpc⟩⟩
      · have hX : X' j = X j := by simp [X', e]
        obtain ⟨o', h1, h2, h3⟩ := pl.step j (by omega)
        refine ⟨o', h1, h2, ?_⟩
        rw [upd X i _ j (by omega), hX]
        rcases h3 with h3 | ⟨a1, a2, a3, ⟨p4, a4, a5⟩ | a4⟩ | h3
        · exact .inl h3
        · exact .inr (.inl ⟨a1, a2, a3, .inl ⟨p4, List.mem_cons_of_mem _ a4, a5⟩⟩)
        · exact .inr (.inl ⟨a1, a2, a3, .inr a4⟩)
        · exact .inr (.inr h3)
  | calmw x p n en hd hw hpc hen hea hc hrest ih =>
    rename_i i o rest T S E pc
    intro hr hl X la hT pl
    have ho : ops[i]? = some o := by simpa using (hr 0).symm
    let X' : Nat → V := fun j => if j = i then x else X j
    have hi : i ∉ E := fun hm => by have := pl.lt i hm; omega
    refine ih (fun j => by have := hr (j + 1); simpa [Nat.add_assoc, Nat.add_comm 1 j] using this) (by simp at hl; omega) X' la ?_ ⟨pl.len, pl.first, fun e he => by have := pl.lt e he; omega, pl.nodup, pl.chain, fun p Ep hp => (pl.late p Ep hp).same (upd X i _ p (Nat.le_of_lt (pl.lt p (pl.late p Ep hp).mem))) (if_neg (by have := pl.lt p (pl.late p Ep hp).mem; omega)), fun j hj => ?_⟩
    · simp only [Tall, ho, Option.bind_some]
      rw [upd X i _ i (Nat.le_refl _), ← hT]
      simp [X']
    · by_cases e : j = i
      · subst e
        refine ⟨o, ho, hd, .inr (.inl ⟨hi, ?_⟩)⟩
        rw [upd X j _ j (Nat.le_refl _), ← hT]
        have : X' j = x := by simp [X']
        rw [this]
        refine ⟨hw, fun a s hs hb _ => hpc s (hc s ?_), .inl ⟨p, List.mem_cons_self, hpc⟩⟩
        rcases Nat.lt_or_ge n a with hlt | hge
        · exact absurd hea (hb n en hlt hen)
        · exact List.mem_of_getElem? (i := a) (by rw [List.getElem?_take, if_pos (by omega)]; exact hs)
      · have hX : X' j = X j := by simp [X', e]
        obtain ⟨o', h1, h2, h3⟩ := pl.step j (by omega)
        refine ⟨o', h1, h2, ?_⟩
        rw [upd X i _ j (by omega), hX]
        rcases h3 with h3 | ⟨a1, a2, a3, ⟨p4, a4, a5⟩ | a4⟩ | h3
        · exact .inl h3
        · exact .inr (.inl ⟨a1, a2, a3, .inl ⟨p4, List.mem_cons_of_mem _ a4, a5⟩⟩)
        · exact .inr (.inl ⟨a1, a2, a3, .inr a4⟩)
        · exact .inr (.inr h3)
  | calml x hd hw hlate hc hrest ih =>
    rename_i i o rest T S E pc
    intro hr hl X la hT pl
    have ho : ops[i]? = some o := by simpa using (hr 0).symm
    let X' : Nat → V := fun j => if j = i then x else X j
    have hi : i ∉ E := fun hm => by have := pl.lt i hm; omega
    refine ih (fun j => by have := hr (j + 1); simpa [Nat.add_assoc, Nat.add_comm 1 j] using this) (by simp at hl; omega) X' la ?_ ⟨pl.len, pl.first, fun e he => by have := pl.lt e he; omega, pl.nodup, pl.chain, fun p Ep hp => (pl.late p Ep hp).same (upd X i _ p (Nat.le_of_lt (pl.lt p (pl.late p Ep hp).mem))) (if_neg (by have := pl.lt p (pl.late p Ep hp).mem; omega)), fun j hj => ?_⟩
    · simp only [Tall, ho, Option.bind_some]
      rw [upd X i _ i (Nat.le_refl _), ← hT]
      simp [X']
    · by_cases e : j = i
      · subst e
        refine ⟨o, ho, hd, .inr (.inl ⟨hi, ?_⟩)⟩
        rw [upd X j _ j (Nat.le_refl _), ← hT]
        have : X' j = x := by simp [X']
        rw [this]
        exact ⟨hw, fun a s hs _ _ => hc s (List.mem_of_getElem? hs), .inr hlate⟩
      · have hX : X' j = X j := by simp [X', e]
        obtain ⟨o', h1, h2, h3⟩ := pl.step j (by omega)
        refine ⟨o', h1, h2, ?_⟩
        rw [upd X i _ j (by omega), hX]
        exact h3
  | eff x σ' hd hw hme hch ha hp hrest ih =>
    rename_i i o rest T σ S E pc
    intro hr hl X la hT pl
    have ho : ops[i]? = some o := by simpa using (hr 0).symm
    let X' : Nat → V := fun j => if j = i then x else X j
    have hi : i ∉ E := fun hm => by have := pl.lt i hm; omega
    refine ih (fun j => by have := hr (j + 1); simpa [Nat.add_assoc, Nat.add_comm 1 j] using this) (by simp at hl; omega) X' la ?_ ⟨?_, ?_, fun e he => ?_, List.nodup_cons.2 ⟨hi, pl.nodup⟩, fun a b e e' h1 h2 hab => ?_, fun p Ep hp => ((pl.late p Ep hp).same (X' := X') (upd X i _ p (Nat.le_of_lt (pl.lt p (pl.late p Ep hp).mem))) (if_neg (by have := pl.lt p (pl.late p Ep hp).mem; omega))).cons i σ', fun j hj => ?_⟩
    · simp only [Tall, ho, Option.bind_some]
      rw [upd X i _ i (Nat.le_refl _), ← hT]
      simp [X']
    · have := pl.len; simp at this ⊢; omega
    · have := pl.first; simpa using this
    · rcases List.mem_cons.1 he with rfl | he
      · omega
      · have := pl.lt e he; omega
    · cases b with
      | zero => omega
      | succ b =>
        simp at h2
        cases a with
        | zero =>
          simp at h1
          subst h1
          have := List.all_eq_true.1 hch e' (List.mem_of_getElem? h2)
          exact .inl (by simpa using this)
        | succ a => exact pl.chain a b e e' (by simpa using h1) h2 (by omega)
    · by_cases e : j = i
      · subst e
        refine ⟨o, ho, hd, .inr (.inr ⟨0, σ, σ', rfl, rfl, rfl, ?_⟩)⟩
        rw [upd X j _ j (Nat.le_refl _), ← hT]
        have : X' j = x := by simp [X']
        rw [this]
        exact ⟨hw, ha⟩
      · have hX : X' j = X j := by simp [X', e]
        obtain ⟨o', h1, h2, h3⟩ := pl.step j (by omega)
        refine ⟨o', h1, h2, ?_⟩
        rw [upd X i _ j (by omega), hX]
        rcases h3 with ⟨a1, a2⟩ | ⟨a1, a2, a3, h4⟩ | ⟨a, s, s', a1, a2, a3, a4⟩
        · exact .inl ⟨fun hm => (List.mem_cons.1 hm).elim (fun e' => e e') a1, a2⟩
        · refine .inr (.inl ⟨fun hm => (List.mem_cons.1 hm).elim (fun e' => e e') a1, a2, fun a s hs hb hf => ?_, h4⟩)
          cases a with
          | zero =>
            simp at hs
            subst hs
            rcases h4 with ⟨p4, a4, a5⟩ | h4
            · rcases hp _ a4 with hdi | hp4
              · exact absurd (direct_anc hdi) (hf 0 i (Nat.le_refl 0) rfl)
              · exact a5 _ hp4
            · exact absurd (late_anc h4 ho hme (by omega)) (hf 0 i (Nat.le_refl 0) rfl)
          | succ a => exact a3 a s (by simpa using hs) (fun b e hba he => hb (b + 1) e (by omega) (by simpa using he)) (fun b e hba he => hf (b + 1) e (by omega) (by simpa using he))
        · exact .inr (.inr ⟨a + 1, s, s', by simpa using a1, by simpa using a2, by simpa using a3, a4⟩)
  | late t d z hop hgd hdd hd hz hu hch hlo hp hrest ih =>
    rename_i i o rest T σ S E pc
    intro hr hl X la hT pl
    have ho : ops[i]? = some o := by simpa using (hr 0).symm
    let σ' : List Ob := σ ++ [.box t (z.map fun v => .d (.s v))]
    let x : V := .p σ.length 0
    have hme : mayEff o.op = true := by rw [hop]; rfl
    have hw : wants ops T o = some true := by simp [wants, hgd]
    have ha : AOp P N k o (keepT T (o.looksAt ops)) σ (fun y τ => y = x ∧ τ = σ') := ao_sound o (by rw [hop]; exact ⟨z, hz, rfl, rfl⟩)
    let X' : Nat → V := fun j => if j = i then x else X j
    have hi : i ∉ E := fun hm => by have := pl.lt i hm; omega
    refine ih (fun j => by have := hr (j + 1); simpa [Nat.add_assoc, Nat.add_comm 1 j] using this) (by simp at hl; omega) X' (some (i, E)) ?_ ⟨?_, ?_, fun e he => ?_, List.nodup_cons.2 ⟨hi, pl.nodup⟩, fun a b e e' h1 h2 hab => ?_, fun p Ep hp => ?_, fun j hj => ?_⟩
    · simp only [Tall, ho, Option.bind_some]
      rw [upd X i _ i (Nat.le_refl _), ← hT]
      simp [X', x]
    · have := pl.len; simp at this ⊢; omega
    · have := pl.first; simpa using this
    · rcases List.mem_cons.1 he with rfl | he
      · omega
      · have := pl.lt e he; omega
    · cases b with
      | zero => omega
      | succ b =>
        simp at h2
        cases a with
        | zero =>
          simp at h1
          subst h1
          exact .inr ⟨E, rfl⟩
        | succ a => exact .inl (chainB_ok hch a b e e' (by simpa using h1) h2 (by omega))
    · have hpp := Option.some.inj hp
      obtain ⟨rfl, rfl⟩ := Prod.mk.inj hpp
      refine ⟨[], o, t, d, z, σ, rfl, hlo, ho, hop, hgd, hdd, hz, ?_, by simp [X', x], rfl, rfl⟩
      rw [upd X i _ i (Nat.le_refl _), ← hT]
      exact hu
    · by_cases e : j = i
      · subst e
        refine ⟨o, ho, hd, .inr (.inr ⟨0, σ, σ', rfl, rfl, rfl, ?_⟩)⟩
        rw [upd X j _ j (Nat.le_refl _), ← hT]
        have : X' j = x := by simp [X']
        rw [this]
        exact ⟨hw, ha⟩
      · have hX : X' j = X j := by simp [X', e]
        obtain ⟨o', h1, h2, h3⟩ := pl.step j (by omega)
        refine ⟨o', h1, h2, ?_⟩
        rw [upd X i _ j (by omega), hX]
        rcases h3 with ⟨a1, a2⟩ | ⟨a1, a2, a3, h4⟩ | ⟨a, s, s', a1, a2, a3, a4⟩
        · exact .inl ⟨fun hm => (List.mem_cons.1 hm).elim (fun e' => e e') a1, a2⟩
        · refine .inr (.inl ⟨fun hm => (List.mem_cons.1 hm).elim (fun e' => e e') a1, a2, fun a s hs hb hf => ?_, h4⟩)
          cases a with
          | zero =>
            simp at hs
            subst hs
            rcases h4 with ⟨p4, a4, a5⟩ | h4
            · rcases hp _ a4 with hdi | hp4
              · exact absurd (direct_anc hdi) (hf 0 i (Nat.le_refl 0) rfl)
              · exact a5 _ hp4
            · exact absurd (late_anc h4 ho hme (by omega)) (hf 0 i (Nat.le_refl 0) rfl)
          | succ a => exact a3 a s (by simpa using hs) (fun b e hba he => hb (b + 1) e (by omega) (by simpa using he)) (fun b e hba he => hf (b + 1) e (by omega) (by simpa using he))
        · exact .inr (.inr ⟨a + 1, s, s', by simpa using a1, by simpa using a2, by simpa using a3, a4⟩)
theorem keepT_look (T : Tm) : ∀ (ts : List Nat) (t : Nat), look (keepT T ts) t = if t ∈ ts then look T t else .u
  | [], t => by simp [keepT, look]
  | s :: ts, t => by
    simp only [keepT, look]
    by_cases e : t = s
    · subst e; simp
    · rw [if_neg e, keepT_look T ts t]
      simp [e]
def Lof (listed : Array Bool) (j : Nat) : Bool := listed.getD j false
theorem mem_ready_iff {listed : Array Bool} {i : Nat} : i ∈ Region.ready .any ops listed ↔ ∃ o, ops[i]? = some o ∧ listed.getD i true = false ∧ ∀ e ∈ o.after.toList, Region.binds .any e = true → listed.getD e.on false = true := by
  unfold Region.ready
  rw [List.mem_filter, List.mem_range]
  constructor
  · rintro ⟨h1, h2⟩
    rw [Array.getElem?_eq_getElem h1] at h2
    simp only [Bool.and_eq_true, Bool.not_eq_true', Option.map_some, Option.getD_some, Array.all_eq_true_iff_forall_mem] at h2
    refine ⟨_, Array.getElem?_eq_getElem h1, h2.1, fun e he hb => ?_⟩
    have := h2.2 e (by simpa using he)
    simpa [hb] using this
  · rintro ⟨o, ho, h1, h2⟩
    refine ⟨(Array.getElem?_eq_some_iff.1 ho).1, ?_⟩
    rw [ho]
    simp only [Bool.and_eq_true, Bool.not_eq_true', Option.map_some, Option.getD_some, Array.all_eq_true_iff_forall_mem]
    refine ⟨h1, fun e he => ?_⟩
    cases hb : Region.binds .any e with
    | false => simp
    | true => simp [h2 e (by simpa using he) hb]
def Lv (listed : Array Bool) (la : Option (Nat × List Nat)) (j : Nat) : Bool := Lof listed j && (match la with | some (p, Ep) => !(j == p) || Ep.all (Lof listed) | none => true)
def Limbo (t d : Nat) (z : List Value) (w : World) (F' : Nat → Prop) (s : List Ob) (μ' : List Value) (w' : World) (a : Act) : Prop :=
  ∃ b arr, a.tmps.getD d undef = .pointer (some ⟨b, 0, none⟩) ∧ w.heap.size ≤ b ∧ b < w'.heap.size ∧ w'.heap[b]? = some (.cells arr t (0, 0)) ∧ arr.toList = z ∧ F' b ∧ ¬ Live s μ' b
theorem Limbo.step {B t d : Nat} {z : List Value} {w w' w2 : World} {F' F2 : Nat → Prop} {s s2 : List Ob} {μ' μ2 : List Value} {a : Act} {dst : Option Tmp} {v : Value} (h : Limbo t d z w F' s μ' w' a) (g : Stp k B F' s μ' w' F2 s2 μ2 w2) (gF : ∀ b, F' b → F2 b) (hd : dst ≠ some d) :
    Limbo t d z w F2 s2 μ2 w2 (a.put dst v) := by
  obtain ⟨b, arr, h1, h2, h3, h4, h5, h6, h7⟩ := h
  refine ⟨b, arr, ?_, h2, Nat.lt_of_lt_of_le h3 g.size, (g.mem b h3 h7).trans h4, h5, gF b h6, fun hl => ?_⟩
  · cases dst with
    | none => exact h1
    | some t' =>
      have e : t' ≠ d := fun e => hd (by rw [e])
      have : (a.tmps.setIfInBounds t' v).getD d undef = a.tmps.getD d undef := by
        simp [Array.getD_eq_getD_getElem?, Array.getElem?_setIfInBounds_ne e]
      simp only [Act.put]
      rw [this]; exact h1
  · rcases g.live b hl with h8 | h8
    · exact h7 h8
    · omega
theorem alloc_run {P : Program} {t : Nat} {z : List Value} (hz : zr P t = some z) (o : Oper) (ho : o.op = .alloc t) (a : Act) (w : World) :
    ∃ arr : Array Value, arr.toList = z ∧ (execOp a.eval o).run P w = .ok (.value (.pointer (some ⟨w.heap.size, 0, none⟩))) (w.alloc (.cells arr t)) := by
  obtain ⟨dst, op, ty, pos, af, gd⟩ := o
  simp only at ho
  subst ho
  unfold zr at hz
  split at hz
  · rename_i i hi
    split at hz
    · rename_i v hv
      simp at hz
      exact ⟨v.cells, hz, by simp [execOp, Instr.alloc, zeroValue, typeInfo, hi, hv, newVar, newRow]⟩
    · simp at hz
  · simp at hz
theorem new_limbo {B : Nat} {F : Nat → Prop} {σ : List Ob} {μ : List Value} {w : World} (st : St k B F σ μ w) (arr : Array Value) (t : Nat) :
    St k B (fun b => F b ∨ b = w.heap.size) σ μ (w.alloc (.cells arr t)) ∧ Stp k B F σ μ w (fun b => F b ∨ b = w.heap.size) σ μ (w.alloc (.cells arr t)) ∧ ¬ Live σ μ w.heap.size := by
  have hsz : (w.alloc (.cells arr t)).heap.size = w.heap.size + 1 := by simp
  have hmem : ∀ b, b < w.heap.size → (w.alloc (.cells arr t)).heap[b]? = w.heap[b]? := fun b hb => heap_alloc_old w _ hb
  have hm : Mem F w (fun b => F b ∨ b = w.heap.size) (w.alloc (.cells arr t)) := ⟨by omega, fun b hb hF => ⟨hmem b hb, fun h => h.elim hF (by omega)⟩⟩
  refine ⟨⟨st.len, fun i ob h h1 h2 => ?_, st.sep, fun b hb => Or.elim hb (fun hb => by have := st.lt b hb; omega) (fun hb => by omega), by have := st.base; omega⟩,
    ⟨rfl, rfl, rfl, by omega, fun b hb _ => hmem b hb, fun _ h => h.imp id (fun e => by omega), fun _ _ h => .inl h, fun _ h => .inl h, Keep.refl _ _ _, fun _ _ _ _ _ _ _ _ _ _ _ _ _ h1 _ h2 b hb => by
      rw [h1] at h2; obtain rfl := Option.some.inj h2; exact .inl hb⟩, fun hl => ?_⟩
  · exact ObOk.mono hm st.len (Keep.refl _ _ _) (fun b hb => ⟨hmem b (st.none_high h1 h2 hb), fun h => .inl h⟩) (st.obj i ob h h1 h2)
  · have := st.lt _ (st.live_F hl)
    omega
theorem keep_push {σ : List Ob} {μ : List Value} (hl : μ.length = σ.length) (ob : Ob) (h : Value) : Keep σ.length σ μ (σ ++ [ob]) (μ ++ [h]) :=
  ⟨fun i T1 c1 u hi e1 e2 => ⟨⟨c1, (List.getElem?_append_left hi).trans e1⟩, (List.getElem?_append_left (by rw [hl]; exact hi)).trans e2⟩,
   fun i E sz m c1 u hi e1 e2 => ⟨m, c1, u, (List.getElem?_append_left hi).trans e1, (List.getElem?_append_left (by rw [hl]; exact hi)).trans e2, Nat.le_refl _, fun _ => rfl⟩⟩
theorem adopt {B b t : Nat} {F0 F : Nat → Prop} {σ0 s : List Ob} {μ0 μ : List Value} {w0 w : World} {arr : Array Value} (st0 : St k B F0 σ0 μ0 w0) (sp : Stp k B F0 σ0 μ0 w0 F s μ w) (st : St k B F s μ w)
    (hge : w0.heap.size ≤ b) (hb : w.heap[b]? = some (.cells arr t (0, 0))) (hF : F b) (hL : ¬ Live s μ b) :
    Stp k B F0 σ0 μ0 w0 F (s ++ [.box t (arr.toList.map fun v => .d (.s v))]) (μ ++ [.pointer (some ⟨b, 0, none⟩)]) w ∧ St k B F (s ++ [.box t (arr.toList.map fun v => .d (.s v))]) (μ ++ [.pointer (some ⟨b, 0, none⟩)]) w := by
  have hk := keep_push st.len (.box t (arr.toList.map fun v => .d (.s v))) (.pointer (some ⟨b, 0, none⟩))
  have hbB : B ≤ b := Nat.le_trans st0.base hge
  have hat : ∀ (i : Nat) (ob : Ob) (h : Value), (s ++ [Ob.box t (arr.toList.map fun v => V.d (.s v))])[i]? = some ob → (μ ++ [Value.pointer (some ⟨b, 0, none⟩)])[i]? = some h →
      (i < s.length ∧ s[i]? = some ob ∧ μ[i]? = some h) ∨ (i = s.length ∧ ob = .box t (arr.toList.map fun v => .d (.s v)) ∧ h = .pointer (some ⟨b, 0, none⟩)) := by
    intro i ob h h1 h2
    rcases Nat.lt_or_ge i s.length with hi | hi
    · rw [List.getElem?_append_left hi] at h1
      rw [List.getElem?_append_left (by rw [st.len]; exact hi)] at h2
      exact .inl ⟨hi, h1, h2⟩
    · have : i < s.length + 1 := by simpa using (List.getElem?_eq_some_iff.1 h1).1
      obtain rfl : i = s.length := by omega
      rw [List.getElem?_append_right (Nat.le_refl _)] at h1
      rw [List.getElem?_append_right (by rw [st.len]; exact Nat.le_refl _)] at h2
      simp [st.len] at h1 h2
      exact .inr ⟨rfl, h1.symm, h2.symm⟩
  refine ⟨⟨sp.os, sp.tape, sp.output, sp.size, sp.mem, sp.fnew, sp.fold, fun b' hl => ?_, sp.keep.trans hk.any, fun i E sz m cs u E' sz' m' cs' u' hi a1 a2 a3 a4 b' hb' => ?_⟩,
    ⟨by simp [st.len], fun i ob h h1 h2 => ?_, fun i j ob h ob' h' b' h1 h2 h3 h4 h5 h6 => ?_, st.lt, st.base⟩⟩
  · obtain ⟨i, ob, h, h1, h2, h3⟩ := hl
    rcases hat i ob h h1 h2 with ⟨_, e1, e2⟩ | ⟨_, rfl, rfl⟩
    · exact sp.live b' ⟨i, ob, h, e1, e2, h3⟩
    · simp [blk] at h3
      exact .inr (by omega)
  · rcases hat i _ u' a3 a4 with ⟨_, e1, e2⟩ | ⟨_, e1, _⟩
    · exact sp.rows i E sz m cs u E' sz' m' cs' u' hi a1 a2 e1 e2 b' hb'
    · cases e1
  · rcases hat i ob h h1 h2 with ⟨_, e1, e2⟩ | ⟨rfl, rfl, rfl⟩
    · exact ObOk.mono ⟨Nat.le_refl _, fun _ _ h => ⟨rfl, h⟩⟩ st.len hk (fun _ _ => ⟨rfl, id⟩) (st.obj i ob h e1 e2)
    · exact ⟨b, arr, rfl, hb, VRx.of (cvs_ok arr.toList), hF, fun _ => hbB⟩
  · rcases hat i ob h h1 h2 with ⟨_, e1, e2⟩ | ⟨rfl, rfl, rfl⟩ <;> rcases hat j ob' h' h3 h4 with ⟨_, e3, e4⟩ | ⟨rfl, rfl, rfl⟩
    · exact st.sep i j ob h ob' h' b' e1 e2 e3 e4 h5 h6
    · simp [blk] at h6
      subst h6
      exact (hL ⟨i, ob, h, e1, e2, h5⟩).elim
    · simp [blk] at h5
      subst h5
      exact (hL ⟨j, ob', h', e3, e4, h6⟩).elim
    · rfl
structure Mid (k B N : Nat) (ops : Array Oper) (P : Program) (T : Tm) (X : Nat → V) (E : List Nat) (S : List (List Ob)) (la : Option (Nat × List Nat)) (F : Nat → Prop) (σ : List Ob) (μ : List Value) (w : World) (listed : Array Bool) (a : Act) (w' : World) : Prop where
  size : listed.size = ops.size
  shut : Shut ops (Lof listed)
  start : St k B F σ μ w
  now : ∃ m s F' μ', m ≤ E.length ∧ (∀ b e : Nat, E[b]? = some e → (Lv listed la e = true ↔ m ≤ b)) ∧ S[m]? = some s ∧ Stp k B F σ μ w F' s μ' w' ∧ St k B F' s μ' w' ∧ TR N F' s μ' w' (Tset ops X (Lv listed la) T ops.size) a.tmps ∧
    ∀ p Ep o t d z, la = some (p, Ep) → ops[p]? = some o → o.op = .alloc t → o.dst = some d → zr P t = some z → Lof listed p = true → Lv listed la p = false → Limbo t d z w F' s μ' w' a
  defers : a.defers = []
theorem Lof_set {listed : Array Bool} {i : Nat} (hi : i < listed.size) (j : Nat) : Lof (listed.setIfInBounds i true) j = if j = i then true else Lof listed j := by
  unfold Lof
  by_cases e : j = i
  · subst e
    simp [Array.getD_eq_getD_getElem?, hi]
  · rw [if_neg e]
    simp [Array.getD_eq_getD_getElem?, Array.getElem?_setIfInBounds_ne (Ne.symm e)]
theorem Lv_le {listed : Array Bool} {la : Option (Nat × List Nat)} {j : Nat} (h : Lv listed la j = true) : Lof listed j = true := by
  simp only [Lv, Bool.and_eq_true] at h; exact h.1
theorem Lv_of {listed : Array Bool} {la : Option (Nat × List Nat)} {j : Nat} (h : Lof listed j = true) (h2 : ∀ p Ep, la = some (p, Ep) → j = p → ∀ e ∈ Ep, Lof listed e = true) : Lv listed la j = true := by
  unfold Lv
  rw [h, Bool.true_and]
  cases la with
  | none => rfl
  | some q =>
    obtain ⟨p, Ep⟩ := q
    simp only [Bool.or_eq_true, List.all_eq_true, Bool.not_eq_true', beq_eq_false_iff_ne]
    by_cases e : j = p
    · exact .inr (h2 p Ep rfl e)
    · exact .inl e
theorem Lv_set {listed : Array Bool} {la : Option (Nat × List Nat)} {i : Nat} (hi : i < listed.size)
    (h : ∀ p Ep, la = some (p, Ep) → (i = p → Ep.all (Lof (listed.setIfInBounds i true)) = true) ∧ (i ≠ p → Lof listed p = true → Ep.all (Lof (listed.setIfInBounds i true)) = Ep.all (Lof listed))) (j : Nat) :
    Lv (listed.setIfInBounds i true) la j = if j = i then true else Lv listed la j := by
  by_cases e : j = i
  · subst e
    rw [if_pos rfl]
    refine Lv_of (by rw [Lof_set hi]; simp) fun p Ep hla hp x hx => ?_
    exact List.all_eq_true.1 ((h p Ep hla).1 hp) x hx
  · rw [if_neg e]
    unfold Lv
    rw [Lof_set hi, if_neg e]
    cases la with
    | none => rfl
    | some q =>
      obtain ⟨p, Ep⟩ := q
      simp only
      by_cases e2 : j = p
      · subst e2
        cases hL : Lof listed j with
        | false => simp
        | true => rw [(h j Ep rfl).2 (Ne.symm e) hL]
      · have : (j == p) = false := by simpa using e2
        simp [this]
theorem Mid.step {B : Nat} {T : Tm} {X : Nat → V} {E : List Nat} {S : List (List Ob)} {pc : List (Nat × (List Ob → Prop))} {la : Option (Nat × List Nat)} {F : Nat → Prop} {σ : List Ob} {μ : List Value} {w : World} {listed : Array Bool} {a : Act} {w' : World} (dok : DrawOk ops)
    (pl : Plan P N k ops T σ ops.size X E S pc la) (mid : Mid k B N ops P T X E S la F σ μ w listed a w') {i : Nat} (hi : i ∈ Region.ready .any ops listed) (Z : Exit → Act → World → Prop) (K : Act → World → Prop)
    (hK : ∀ a' w'', Mid k B N ops P T X E S la F σ μ w (listed.setIfInBounds i true) a' w'' → K a' w'') : wpOp P ops Z i K a w' := by
  obtain ⟨o, ho, hli, haf⟩ := mem_ready_iff.1 hi
  have hin := (Array.getElem?_eq_some_iff.1 ho).1
  have hls : i < listed.size := by rw [mid.size]; exact hin
  have hLi : Lof listed i = false := by
    unfold Lof
    rw [Array.getD_eq_getD_getElem?, Array.getElem?_eq_getElem hls] at hli ⊢
    simpa using hli
  have hVi : Lv listed la i = false := by simp [Lv, hLi]
  obtain ⟨m, s, F', μ', hm, hE, hs, sp, st', tr, hlim⟩ := mid.now
  obtain ⟨o', ho', hd, hstep⟩ := pl.step i hin
  rw [ho] at ho'
  obtain rfl := Option.some.inj ho'
  have ancL : ∀ j, j ∈ anc ops ops.size i → Lof listed j = true := fun j hj => mid.shut.anc_ready ho haf _ j hj
  have loose : ∀ p Ep, la = some (p, Ep) → looseB ops p Ep = true := fun p Ep h => by
    obtain ⟨_, _, _, _, _, _, _, h2, _⟩ := pl.late p Ep h; exact h2
  have ancV : ∀ j, j ∈ anc ops ops.size i → Lv listed la j = true := fun j hj => Lv_of (ancL j hj) fun p Ep h e x hx => by
    subst e
    exact ancL x (looseB_ok (loose _ Ep h) hin hj hx)
  -- a slot that the operation looks at, or writes
  have same : ∀ t, t ∈ looks ops i ++ ((ops[i]?).bind (·.dst)).toList → ∀ j, j < ops.size → writes ops j t = true → Lv listed la j = decide (j < i) := by
    intro t ht j hj hw
    by_cases e : j = i
    · subst e; simp [hVi]
    · have := dok.meet i j t hin hj (Ne.symm e) ht hw
      rcases Nat.lt_or_ge j i with h | h
      · simp [h, ancV j (this.1 h)]
      · have h' : i < j := by omega
        have h2 : ¬ j < i := by omega
        simp only [h2, decide_false]
        cases hL : Lv listed la j with
        | false => rfl
        | true =>
          have := mid.shut.mem_anc _ j i (Lv_le hL) (this.2 h')
          rw [hLi] at this
          exact this.symm
  have lookSame : ∀ t, t ∈ looks ops i ++ ((ops[i]?).bind (·.dst)).toList → look (Tset ops X (Lv listed la) T ops.size) t = look (Tall ops X T i) t := by
    intro t ht
    rw [Tset_look X (Lv listed la) (fun j => decide (j < i)) T t ops.size (fun j hj hw => same t ht j hj hw), Tset_all X T i ops.size (by omega)]
  have hlo : looks ops i = o.looksAt ops := by simp [looks, ho]
  have trk : TR N F' s μ' w' (keepT (Tall ops X T i) (o.looksAt ops)) a.tmps := tr.sub fun t => by
    rw [keepT_look]
    split
    · rename_i ht; exact .inr (lookSame t (List.mem_append_left _ (by rw [hlo]; exact ht))).symm
    · exact .inl rfl
  have wantE : ∀ b, wants ops (Tall ops X T i) o = some b → Region.wanted o (yielded ops a.tmps) = b := by
    intro b hb
    unfold wants at hb
    unfold Region.wanted
    cases hgd : o.guard with
    | none => rw [hgd] at hb; simpa using hb
    | some gp =>
      obtain ⟨j, p⟩ := gp
      rw [hgd] at hb
      simp only at hb ⊢
      have hgv : gv ops (Tset ops X (Lv listed la) T ops.size) j = gv ops (Tall ops X T i) j := by
        unfold gv
        cases hdj : (ops[j]?).bind (·.dst) with
        | none => rfl
        | some d =>
          simp only
          refine lookSame d (List.mem_append_left _ ?_)
          rw [hlo]
          unfold Oper.looksAt
          rw [hgd]
          simp [hdj]
      split at hb
      · rename_i b' hv
        rw [yielded_of tr (hgv.trans hv)]
        simpa using hb
      · rename_i xs hv
        rw [yielded_not tr (hgv.trans hv)]
        simpa using hb
      · simp at hb
  -- what the frame is behind it
  have behind : ∀ (V' : Nat → Bool), V' i = true → (∀ j, j ≠ i → V' j = Lv listed la j) → ∀ (F2 : Nat → Prop) (s2 : List Ob) (μ2 : List Value) (w2 : World) (v : Value), TR N F2 s2 μ2 w2 (Tset ops X (Lv listed la) T ops.size) a.tmps → VR F2 s2 μ2 w2 (X i) v →
      TR N F2 s2 μ2 w2 (Tset ops X V' T ops.size) (a.put o.dst v).tmps := by
    intro V' hV1 hV2 F2 s2 μ2 w2 v h1 h2
    have h3 := TR.put h1 hd h2
    refine ⟨h3.1, fun t => ?_⟩
    have h4 := h3.2 t
    rw [look_put] at h4
    by_cases e : o.dst = some t
    · rw [if_pos e] at h4
      rw [Tset_last X _ T t i hV1 (by simp [writes, ho, e]) ops.size hin fun j h5 h6 hw => ?_]
      · exact h4
      · rw [hV2 j (by omega)]
        have := same t (List.mem_append_right _ (by simp [ho, e])) j h6 hw
        rw [this]
        simp; omega
    · rw [if_neg e] at h4
      rw [Tset_look X _ (Lv listed la) T t ops.size fun j hj hw => ?_]
      · exact h4
      · by_cases e2 : j = i
        · subst e2
          simp [writes, ho] at hw
          exact absurd hw e
        · exact hV2 j e2
  have shut' : Shut ops (Lof (listed.setIfInBounds i true)) := by
    intro j oj hj hL e he hb
    rw [Lof_set hls] at hL ⊢
    split
    · rfl
    · split at hL
      · rename_i e2
        subst e2
        rw [ho] at hj
        obtain rfl := Option.some.inj hj
        exact haf e he hb
      · exact mid.shut j oj hj hL e he hb
  -- the slot of a late alloc that has no place yet is nobody else's
  have free : ∀ p Ep op d, la = some (p, Ep) → ops[p]? = some op → op.dst = some d → Lof listed p = true → Lv listed la p = false → o.dst ≠ some d := by
    intro p Ep op d hla hop hdp hLp hVp hod
    have hpn := (Array.getElem?_eq_some_iff.1 hop).1
    have hpi : i ≠ p := fun e => by rw [e, hLp] at hLi; cases hLi
    have := dok.meet i p d hin hpn hpi (List.mem_append_right _ (by simp [ho, hod])) (by simp [writes, hop, hdp])
    rcases Nat.lt_or_ge p i with h | h
    · have := ancV p (this.1 h)
      rw [hVp] at this; cases this
    · have := mid.shut.mem_anc _ p i hLp (this.2 (by omega))
      rw [hLi] at this; cases this
  have limbo' : ∀ {F2 : Nat → Prop} {s2 : List Ob} {μ2 : List Value} {w2 : World} (v : Value), Stp k B F' s μ' w' F2 s2 μ2 w2 → (∀ b, F' b → F2 b) → (∀ j, Lv (listed.setIfInBounds i true) la j = if j = i then true else Lv listed la j) →
      ∀ p Ep op t d z, la = some (p, Ep) → ops[p]? = some op → op.op = .alloc t → op.dst = some d → zr P t = some z → Lof (listed.setIfInBounds i true) p = true → Lv (listed.setIfInBounds i true) la p = false → Limbo t d z w F2 s2 μ2 w2 (a.put o.dst v) := by
    intro F2 s2 μ2 w2 v g gF hV p Ep op t d z h1 h2 h3 h4 h5 h6 h7
    rw [hV] at h7
    rw [Lof_set hls] at h6
    by_cases e : p = i
    · rw [if_pos e] at h7; cases h7
    · rw [if_neg e] at h6 h7
      exact (hlim p Ep op t d z h1 h2 h3 h4 h5 h6 h7).step g gF (free p Ep op d h1 h2 h4 h6 h7)
  unfold wpOp
  rw [ho]
  simp only
  by_cases hni : i ∉ E
  · -- no change
    have hV : ∀ j, Lv (listed.setIfInBounds i true) la j = if j = i then true else Lv listed la j := by
      refine Lv_set hls fun p Ep hla => ?_
      obtain ⟨E1, _, _, _, _, _, hEe, _⟩ := pl.late p Ep hla
      refine ⟨fun e => absurd (by rw [hEe, e]; simp) hni, fun _ _ => ?_⟩
      rw [Bool.eq_iff_iff, List.all_eq_true, List.all_eq_true]
      have hn : ∀ x, x ∈ Ep → Lof (listed.setIfInBounds i true) x = Lof listed x := fun x hx => by
        rw [Lof_set hls, if_neg (fun e => hni (by rw [hEe, ← e]; simp [hx]))]
      exact ⟨fun h x hx => by rw [← hn x hx]; exact h x hx, fun h x hx => by rw [hn x hx]; exact h x hx⟩
    have noE : ∀ b e : Nat, E[b]? = some e → (Lv (listed.setIfInBounds i true) la e = true ↔ m ≤ b) := by
      intro b e hb
      rw [hV, if_neg (fun h : e = i => hni (h ▸ List.mem_of_getElem? hb))]
      exact hE b e hb
    have hVi' : Lv (listed.setIfInBounds i true) la i = true := by rw [hV, if_pos rfl]
    have hVj : ∀ j, j ≠ i → Lv (listed.setIfInBounds i true) la j = Lv listed la j := fun j h => by rw [hV, if_neg h]
    rcases hstep with ⟨_, hw, hx⟩ | ⟨_, hw, hc, _⟩ | ⟨a', s0, s1, hEa, _⟩
    · rw [if_neg (by simp [wantE false hw])]
      refine hK _ _ ⟨by simp [mid.size], shut', mid.start, ⟨m, s, F', μ', hm, noE, hs, sp, st', behind _ hVi' hVj F' s μ' w' undef tr ?_, limbo' undef (Stp.refl _ _ _ _ _ _) (fun _ h => h) hV⟩, by rw [put_defers]; exact mid.defers⟩
      rw [hx]
      exact ⟨#[], rfl, rfl⟩
    · rw [if_pos (wantE true hw)]
      refine .inl (hc m s hs (fun b e hbm he hin => by have := (hE b e he).1 (ancV e hin); omega) (fun b e hbm he hia => by have := mid.shut.mem_anc _ e i (Lv_le ((hE b e he).2 hbm)) hia; rw [hLi] at this; cases this) B F' μ' w' a st' trk _ Z fun v w2 hl => ?_)
      obtain ⟨x, F2, σ2, μ2, ⟨rfl, rfl⟩, g1, g2, g3, g4, g5⟩ := hl
      exact hK _ _ ⟨by simp [mid.size], shut', mid.start, ⟨m, σ2, F2, μ2, hm, noE, hs, sp.trans g1, g2, behind _ hVi' hVj F2 σ2 μ2 w2 v (TR.mono tr (g1.memF st') st'.len g3) g4, limbo' v g1 g5 hV⟩, by rw [put_defers]; exact mid.defers⟩
    · exact absurd (List.mem_of_getElem? hEa) hni
  rcases hstep with ⟨h, _⟩ | ⟨h, _⟩ | ⟨a', s0, s1, hEa, hs1, hs0, hw, ha⟩
  · exact absurd h hni
  · exact absurd h hni
  rw [if_pos (wantE true hw)]
  have ham : a' < m := by
    rcases Nat.lt_or_ge a' m with h | h
    · exact h
    · have := (hE a' i hEa).2 h
      rw [hVi] at this
      simp at this
  have idx : ∀ b e, E[b]? = some e → ∀ c, E[c]? = some e → b = c := fun b e hb c hc => (List.getElem?_inj (List.getElem?_eq_some_iff.1 hb).1 pl.nodup).1 (hb.trans hc.symm)
  by_cases hA : ∃ Ep, la = some (i, Ep) ∧ Ep.all (Lof listed) = false
  · -- a late alloc runs ahead of its place
    obtain ⟨Ep, hla, hEp⟩ := hA
    obtain ⟨E1, o1, t, d, z, s1', hEe, h2, h3, h4, h5, h6, h7, h8, h9, h10, h11⟩ := pl.late i Ep hla
    rw [ho] at h3
    obtain rfl := Option.some.inj h3
    have hiE : i ∉ Ep := fun h => by
      have := pl.nodup
      rw [hEe, List.nodup_append] at this
      exact (List.nodup_cons.1 this.2.1).1 h
    have hEp' : Ep.all (Lof (listed.setIfInBounds i true)) = false := by
      rw [← hEp, Bool.eq_iff_iff, List.all_eq_true, List.all_eq_true]
      have hn : ∀ x, x ∈ Ep → Lof (listed.setIfInBounds i true) x = Lof listed x := fun x hx => by
        rw [Lof_set hls, if_neg (fun e => hiE (by rw [← e]; exact hx))]
      exact ⟨fun h x hx => by rw [← hn x hx]; exact h x hx, fun h x hx => by rw [hn x hx]; exact h x hx⟩
    have hV : Lv (listed.setIfInBounds i true) la = Lv listed la := by
      funext j
      subst hla
      unfold Lv
      simp only [hEp, hEp']
      by_cases e : j = i
      · subst e; simp
      · rw [Lof_set hls, if_neg e]
    obtain ⟨arr, hz, hr⟩ := alloc_run h7 o h4 a w'
    obtain ⟨k1, k2, k3⟩ := new_limbo st' arr t
    refine .inl ?_
    unfold Oper.wp
    rw [hr]
    have hmem := k2.memF st'
    have trp := TR.put (x := V.u) (TR.mono tr hmem st'.len (Keep.refl _ _ _)) hd (v := .pointer (some ⟨w'.heap.size, 0, none⟩)) trivial
    refine hK _ _ ⟨by simp [mid.size], shut', mid.start, ⟨m, s, _, μ', hm, by rw [hV]; exact hE, hs, sp.trans k2, k1, ?_, ?_⟩, by rw [put_defers]; exact mid.defers⟩
    · rw [hV]
      refine trp.sub fun t' => ?_
      rw [look_put]
      by_cases e : o.dst = some t'
      · rw [h6] at e
        obtain rfl := Option.some.inj e
        left
        rw [lookSame d (List.mem_append_right _ (by simp [ho, h6]))]
        exact h8
      · rw [if_neg e]; exact .inr rfl
    · intro p Ep2 op t2 d2 z2 q1 q2 q3 q4 q5 q6 q7
      rw [hla] at q1
      obtain ⟨rfl, rfl⟩ := Prod.mk.inj (Option.some.inj q1)
      rw [ho] at q2
      obtain rfl := Option.some.inj q2
      rw [h4] at q3
      cases q3
      rw [h6] at q4
      cases q4
      rw [h7] at q5
      cases q5
      have hdN : d < a.tmps.size := by
        have : d < N := by simpa [dstOk, h6] using hd
        exact Nat.lt_of_lt_of_le this tr.1
      refine ⟨w'.heap.size, arr, ?_, sp.size, by simp, heap_alloc_new w' _, hz, .inr rfl, k3⟩
      rw [h6]
      simp [Act.put, hdN]
  have hma : m = a' + 1 := by
    rcases Nat.lt_or_ge (a' + 1) m with h | h
    · exfalso
      have hb : m - 1 < E.length := by omega
      have h0 : E[m - 1]? = some E[m - 1] := List.getElem?_eq_getElem hb
      have hne : E[m - 1] ≠ i := fun e => by
        have := idx (m - 1) _ h0 a' (by rw [hEa, e]); omega
      have hv : Lv listed la E[m - 1] = true := by
        rcases pl.chain a' (m - 1) i _ hEa h0 (by omega) with h1 | ⟨Ep, h1⟩
        · exact ancV _ h1
        · obtain ⟨E1, _, _, _, _, _, hEe, _⟩ := pl.late i Ep h1
          have hall : Ep.all (Lof listed) = true := by
            cases hc : Ep.all (Lof listed) with
            | true => rfl
            | false => exact absurd ⟨Ep, h1, hc⟩ hA
          have h1a : E1.length = a' := idx E1.length i (by rw [hEe]; simp) a' hEa
          have hmem : E[m - 1] ∈ Ep := by
            have h0' := h0
            generalize E[m - 1] = y at h0'
            rw [hEe, List.getElem?_append_right (by omega)] at h0'
            obtain ⟨q, hq⟩ : ∃ q, m - 1 - E1.length = q + 1 := ⟨m - 1 - E1.length - 1, by omega⟩
            rw [hq, List.getElem?_cons_succ] at h0'
            exact List.mem_of_getElem? h0'
          refine Lv_of (List.all_eq_true.1 hall _ hmem) fun p Ep2 h2 e => ?_
          rw [h1] at h2
          obtain ⟨rfl, rfl⟩ := Prod.mk.inj (Option.some.inj h2)
          exact absurd e hne
      have := (hE (m - 1) _ h0).1 hv
      omega
    · omega
  subst hma
  rw [hs0] at hs
  obtain rfl := Option.some.inj hs
  refine .inl (ha B F' μ' w' a st' trk _ Z fun v w2 hl => ?_)
  obtain ⟨x, F2, σ2, μ2, ⟨rfl, rfl⟩, g1, g2, g3, g4, g5⟩ := hl
  by_cases hB : ∃ p Ep, la = some (p, Ep) ∧ i ≠ p ∧ Lof listed p = true ∧ Ep.all (Lof listed) = false ∧ Ep.all (Lof (listed.setIfInBounds i true)) = true
  · -- a late alloc comes into its place
    obtain ⟨p, Ep, hla, hip, hLp, hEp, hEp'⟩ := hB
    obtain ⟨E1, op, t, d, z, s1', hEe, h2, h3, h4, h5, h6, h7, h8, h9, h10, h11⟩ := pl.late p Ep hla
    have hpn := (Array.getElem?_eq_some_iff.1 h3).1
    have hVp : Lv listed la p = false := by simp [Lv, hla, hEp]
    have hEq1 : E[E1.length]? = some p := by rw [hEe]; simp
    have hEat : ∀ q, E[E1.length + 1 + q]? = Ep[q]? := fun q => by
      rw [hEe, List.getElem?_append_right (by omega), show E1.length + 1 + q - E1.length = q + 1 from by omega, List.getElem?_cons_succ]
    have hiEp : i ∈ Ep := by
      apply Classical.byContradiction
      intro hn
      have : Ep.all (Lof listed) = true := List.all_eq_true.2 fun x hx => by
        have := List.all_eq_true.1 hEp' x hx
        rw [Lof_set hls, if_neg (fun e => hn (by rw [← e]; exact hx))] at this
        exact this
      rw [hEp] at this; cases this
    obtain ⟨q, hq⟩ := List.mem_iff_getElem?.1 hiEp
    have haq : a' = E1.length + 1 + q := idx a' i hEa _ (by rw [hEat]; exact hq)
    have hq0 : q = 0 := by
      rcases Nat.eq_zero_or_pos q with e | e
      · exact e
      exfalso
      have hql := (List.getElem?_eq_some_iff.1 hq).1
      have h0 : Ep[0]? = some Ep[0] := List.getElem?_eq_getElem (by omega)
      have hE0 : E[E1.length + 1 + 0]? = some Ep[0] := by rw [hEat]; exact h0
      have hne : Ep[0] ≠ i := fun e2 => by
        have := idx _ _ hE0 a' (by rw [hEa, e2]); omega
      have hnp : Ep[0] ≠ p := fun e2 => by
        have := idx _ _ hE0 E1.length (by rw [hEq1, e2]); omega
      have hL0 : Lof listed Ep[0] = true := by
        have := List.all_eq_true.1 hEp' Ep[0] (List.getElem_mem _)
        rw [Lof_set hls, if_neg hne] at this
        exact this
      have := (hE _ _ hE0).1 (Lv_of hL0 fun p2 Ep2 h e2 => by
        rw [hla] at h
        obtain ⟨rfl, rfl⟩ := Prod.mk.inj (Option.some.inj h)
        exact absurd e2 hnp)
      omega
    subst hq0
    have haE : a' = E1.length + 1 := by omega
    subst haE
    rw [h10] at hs1
    obtain rfl := Option.some.inj hs1
    obtain ⟨b, arr, l1, l2, l3, l4, rfl, l6, l7⟩ := hlim p Ep op t d z hla h3 h4 h6 h7 hLp hVp
    have hod := free p Ep op d hla h3 h6 hLp hVp
    obtain ⟨b', arr', l1', _, l3', l4', l5', l6', l7'⟩ := Limbo.step (dst := o.dst) (v := v) ⟨b, arr, l1, l2, l3, l4, rfl, l6, l7⟩ g1 g5 hod
    have hb' : w.heap.size ≤ b' := by assumption
    have hsp := sp.trans g1
    obtain ⟨k1, k2⟩ := adopt (arr := arr') mid.start hsp g2 hb' l4' l6' l7'
    rw [l5'] at k1 k2
    have hV' : ∀ j, Lv (listed.setIfInBounds i true) la j = if j = p then true else if j = i then true else Lv listed la j := by
      intro j
      by_cases e : j = p
      · subst e
        rw [if_pos rfl]
        refine Lv_of (by rw [Lof_set hls, if_neg (Ne.symm hip)]; exact hLp) fun p2 Ep2 h e2 x hx => ?_
        rw [hla] at h
        obtain ⟨rfl, rfl⟩ := Prod.mk.inj (Option.some.inj h)
        exact List.all_eq_true.1 hEp' x hx
      · rw [if_neg e]
        unfold Lv
        have e3 : (j == p) = false := by simpa using e
        subst hla
        simp only [e3, Bool.not_false, Bool.true_or, Bool.and_true]
        rw [Lof_set hls]
    have tr1 := behind (fun j => if j = i then true else Lv listed la j) (by simp) (fun j h => by simp [h]) F2 s1' μ2 w2 v (TR.mono tr (g1.memF st') st'.len g3) g4
    have hk := keep_push g2.len (.box t (arr.toList.map fun v => .d (.s v))) (.pointer (some ⟨b', 0, none⟩))
    have tr2 := TR.mono tr1 ⟨Nat.le_refl _, fun _ _ h => ⟨rfl, h⟩⟩ g2.len hk
    refine hK _ _ ⟨by simp [mid.size], shut', mid.start, ⟨E1.length, _, F2, _, by rw [hEe]; simp, fun c e hc => ?_, h11, k1, k2, ⟨tr2.1, fun t' => ?_⟩, fun p2 Ep2 _ _ _ _ q1 _ _ _ _ _ q7 => ?_⟩, by rw [put_defers]; exact mid.defers⟩
    · rw [hV']
      by_cases e1 : e = p
      · subst e1
        have := idx c _ hc E1.length hEq1
        simp [this]
      · rw [if_neg e1]
        by_cases e2 : e = i
        · subst e2
          have := idx c _ hc _ hEa
          simp; omega
        · rw [if_neg e2, hE c e hc]
          have n1 : c ≠ E1.length := fun h => by subst h; rw [hEq1] at hc; exact e1 (Option.some.inj hc).symm
          have n2 : c ≠ E1.length + 1 := fun h => by subst h; rw [hEa] at hc; exact e2 (Option.some.inj hc).symm
          omega
    · by_cases e : t' = d
      · subst e
        rw [Tset_last X _ T t' p (by rw [hV', if_pos rfl]) (by simp [writes, h3, h6]) ops.size hpn fun j h12 h13 hwj => ?_]
        · rw [h9, l1']
          exact ⟨b', t, arr.toList.map fun v => .d (.s v), by simp, by rw [← g2.len]; simp, rfl⟩
        · have hjp : j ≠ p := by omega
          have hji : j ≠ i := fun e => by
            subst e
            simp [writes, ho] at hwj
            exact hod hwj
          rw [hV', if_neg hjp, if_neg hji]
          cases hL : Lv listed la j with
          | false => rfl
          | true =>
            exfalso
            have hm2 := (dok.meet p j t' hpn h13 (by omega) (List.mem_append_right _ (by simp [h3, h6])) hwj).2 h12
            have := mid.shut.mem_anc _ j i (Lv_le hL) (looseB_ok h2 h13 hm2 hiEp)
            rw [hLi] at this; cases this
      · have h14 := tr2.2 t'
        rw [Tset_look X _ (fun j => if j = i then true else Lv listed la j) T t' ops.size fun j hj hwj => ?_]
        · exact h14
        · rw [hV', if_neg]
          rintro rfl
          simp [writes, h3, h6] at hwj
          exact e hwj.symm
    · rw [hla] at q1
      obtain ⟨rfl, rfl⟩ := Prod.mk.inj (Option.some.inj q1)
      rw [hV', if_pos rfl] at q7; cases q7
  -- a change in its place
  have hV : ∀ j, Lv (listed.setIfInBounds i true) la j = if j = i then true else Lv listed la j := by
    have hmono : ∀ x, Lof listed x = true → Lof (listed.setIfInBounds i true) x = true := fun x hx => by
      rw [Lof_set hls]; split
      · rfl
      · exact hx
    refine Lv_set hls fun p Ep hla => ⟨fun e => ?_, fun hne hLp => ?_⟩
    · subst e
      cases hc : Ep.all (Lof listed) with
      | false => exact absurd ⟨Ep, hla, hc⟩ hA
      | true => exact List.all_eq_true.2 fun x hx => hmono x (List.all_eq_true.1 hc x hx)
    · cases hc : Ep.all (Lof listed) with
      | true => exact List.all_eq_true.2 fun x hx => hmono x (List.all_eq_true.1 hc x hx)
      | false =>
        cases hc2 : Ep.all (Lof (listed.setIfInBounds i true)) with
        | false => rfl
        | true => exact absurd ⟨p, Ep, hla, hne, hLp, hc, hc2⟩ hB
  refine hK _ _ ⟨by simp [mid.size], shut', mid.start, ⟨a', σ2, F2, μ2, by omega, fun b e hb => ?_, hs1, sp.trans g1, g2, behind _ (by rw [hV, if_pos rfl]) (fun j h => by rw [hV, if_neg h]) F2 σ2 μ2 w2 v (TR.mono tr (g1.memF st') st'.len g3) g4, limbo' v g1 g5 hV⟩, by rw [put_defers]; exact mid.defers⟩
  rw [hV]
  split
  · rename_i e2
    subst e2
    have := idx b _ hb a' hEa
    simp [this]
  · rename_i e2
    rw [hE b e hb]
    constructor
    · intro h; omega
    · intro h
      rcases Nat.lt_or_ge a' b with h' | h'
      · omega
      · exfalso
        have : b = a' := by omega
        subst this
        rw [hEa] at hb
        exact e2 (Option.some.inj hb).symm
def todo (ops : Array Oper) (listed : Array Bool) : Nat := ((List.range ops.size).filter fun j => !Lof listed j).length
theorem filter_less {α : Type} (p q : α → Bool) : ∀ l : List α, (∀ x, x ∈ l → q x = true → p x = true) → (∃ x, x ∈ l ∧ p x = true ∧ q x = false) → (l.filter q).length < (l.filter p).length
  | [], _, h => by obtain ⟨x, hx, _⟩ := h; simp at hx
  | y :: l, h1, h2 => by
    have le : ∀ l : List α, (∀ x, x ∈ l → q x = true → p x = true) → (l.filter q).length ≤ (l.filter p).length := by
      intro l
      induction l with
      | nil => intro _; simp
      | cons z l ih =>
        intro h
        have := ih fun x hx => h x (List.mem_cons_of_mem _ hx)
        simp only [List.filter_cons]
        by_cases e : q z = true
        · rw [if_pos e, if_pos (h z List.mem_cons_self e)]; simp; exact this
        · rw [if_neg e]; split <;> simp <;> omega
    obtain ⟨x, hx, hp, hq⟩ := h2
    simp only [List.filter_cons]
    have hl := le l fun x hx => h1 x (List.mem_cons_of_mem _ hx)
    rcases List.mem_cons.1 hx with e | hx
    · subst e
      rw [if_pos hp, if_neg (by simp [hq])]
      simp; omega
    · have := filter_less p q l (fun x hx => h1 x (List.mem_cons_of_mem _ hx)) ⟨x, hx, hp, hq⟩
      by_cases e : q y = true
      · rw [if_pos e, if_pos (h1 y List.mem_cons_self e)]; simp; exact this
      · rw [if_neg e]; split <;> simp <;> omega
theorem all_done (dok : DrawOk ops) {listed : Array Bool} (hs : listed.size = ops.size) (h : Region.ready .any ops listed = []) : ∀ i, i < ops.size → Lof listed i = true := by
  intro i
  induction i using Nat.strongRecOn with
  | _ i ih =>
    intro hi
    cases hL : Lof listed i with
    | true => rfl
    | false =>
      exfalso
      have ho : ops[i]? = some ops[i] := Array.getElem?_eq_getElem hi
      have : i ∈ Region.ready .any ops listed := by
        refine mem_ready_iff.2 ⟨_, ho, ?_, fun e he hb => ?_⟩
        · unfold Lof at hL
          rw [Array.getD_eq_getD_getElem?, Array.getElem?_eq_getElem (by omega)] at hL ⊢
          simpa using hL
        · have hlt := dok.back i _ ho e he hb
          exact ih e.on hlt (by omega)
      rw [h] at this
      simp at this
theorem Mid.any {B : Nat} {T : Tm} {X : Nat → V} {E : List Nat} {S : List (List Ob)} {pc : List (Nat × (List Ob → Prop))} {la : Option (Nat × List Nat)} {F : Nat → Prop} {σ : List Ob} {μ : List Value} {w : World} (dok : DrawOk ops)
    (pl : Plan P N k ops T σ ops.size X E S pc la) (Z : Exit → Act → World → Prop) (hZ : ∀ a' w', Cfg k B N F σ μ w (fun T' s => T' = Tall ops X T ops.size ∧ S[0]? = some s) a' w' → Z .normal a' w') :
    ∀ (fuel : Nat) (listed : Array Bool) (a : Act) (w' : World), todo ops listed ≤ fuel → Mid k B N ops P T X E S la F σ μ w listed a w' → wpAny P .any ops Z fuel listed a w' := by
  have done : ∀ (listed : Array Bool) (a : Act) (w' : World), Region.ready .any ops listed = [] → Mid k B N ops P T X E S la F σ μ w listed a w' → Z .normal a w' := by
    intro listed a w' hr mid
    have hall := all_done dok mid.size hr
    obtain ⟨m, s, F', μ', hm, hE, hs, sp, st', tr, _⟩ := mid.now
    have hallV : ∀ i, i < ops.size → Lv listed la i = true := fun i h => Lv_of (hall i h) fun p Ep hla _ e he => by
      obtain ⟨E1, _, _, _, _, _, hEe, _⟩ := pl.late p Ep hla
      exact hall e (pl.lt e (by rw [hEe]; simp [he]))
    have hm0 : m = 0 := by
      rcases Nat.eq_zero_or_pos E.length with e | e
      · omega
      · have h0 : E[0]? = some E[0] := List.getElem?_eq_getElem e
        have := (hE 0 _ h0).1 (hallV _ (pl.lt _ (List.getElem_mem e)))
        omega
    subst hm0
    refine hZ a w' ⟨F', s, μ', Tall ops X T ops.size, ⟨rfl, hs⟩, sp, st', ⟨tr.1, fun t => ?_⟩, mid.defers⟩
    have := tr.2 t
    rw [Tset_look X (Lv listed la) (fun j => decide (j < ops.size)) T t ops.size fun j hj _ => by rw [hallV j hj]; simp [hj], Tset_all X T ops.size ops.size (Nat.le_refl _)] at this
    exact this
  intro fuel
  induction fuel with
  | zero =>
    intro listed a w' ht mid
    have hr : Region.ready .any ops listed = [] := by
      cases hc : Region.ready .any ops listed with
      | nil => rfl
      | cons i rs =>
        exfalso
        have hi : i ∈ Region.ready .any ops listed := by rw [hc]; exact List.mem_cons_self
        obtain ⟨o, ho, hl, _⟩ := mem_ready_iff.1 hi
        have hin := (Array.getElem?_eq_some_iff.1 ho).1
        have h0 : (List.range ops.size).filter (fun j => !Lof listed j) = [] := List.eq_nil_of_length_eq_zero (by unfold todo at ht; omega)
        have hm : i ∈ (List.range ops.size).filter (fun j => !Lof listed j) := by
          refine List.mem_filter.2 ⟨List.mem_range.2 hin, ?_⟩
          unfold Lof
          rw [Array.getD_eq_getD_getElem?] at hl ⊢
          rw [Array.getElem?_eq_getElem (by rw [mid.size]; exact hin)] at hl ⊢
          simpa using hl
        rw [h0] at hm
        simp at hm
    exact ⟨hr, done listed a w' hr mid⟩
  | succ fuel ih =>
    intro listed a w' ht mid
    refine ⟨fun hr => done listed a w' hr mid, fun i hi => ?_⟩
    refine Mid.step dok pl mid hi Z _ fun a2 w2 mid2 => ih _ a2 w2 ?_ mid2
    obtain ⟨o, ho, hl, _⟩ := mem_ready_iff.1 hi
    have hin := (Array.getElem?_eq_some_iff.1 ho).1
    have hls : i < listed.size := by rw [mid.size]; exact hin
    have : todo ops (listed.setIfInBounds i true) < todo ops listed := by
      unfold todo
      refine filter_less _ _ _ (fun x _ hx => ?_) ⟨i, List.mem_range.2 hin, ?_, ?_⟩
      · rw [Lof_set hls] at hx
        split at hx
        · simp at hx
        · exact hx
      · unfold Lof
        rw [Array.getD_eq_getD_getElem?] at hl ⊢
        rw [Array.getElem?_eq_getElem hls] at hl ⊢
        simpa using hl
      · rw [Lof_set hls]; simp
    omega
theorem AW.draw {id : Nat} {l : List Oper} {Q : Ex → Tm → List Ob → Prop} {T : Tm} {σ : List Ob} (hm : P.follows .mixedOrders = true) (hB : drawB l.toArray = true)
    (h : ADr P N k l.toArray (Q .normal) 0 l T [σ] [] []) : AW P N k (.region id l.toArray true) Q T σ := by
  intro B F μ w a st tr hd
  obtain ⟨X, E, S, pc, σ', la, pl, hs, hq⟩ := ADr.plan (σ0 := σ) h (fun j => by simp) (by simp) (fun _ => .u) none rfl
    ⟨by simp, by simp, by simp, by simp, by simp, by simp, by simp⟩
  refine wp_region_any hm ?_
  refine Mid.any (drawB_ok hB) pl _ (fun a' w' hc => ?_) l.toArray.size _ a _ ?_ ?_ (B := B) (F := F) (σ := σ) (μ := μ) (w := w)
  · refine Cfg.mono hc fun T' s ⟨h1, h2⟩ => ?_
    rw [hs] at h2
    obtain rfl := Option.some.inj h2
    rw [h1]
    exact hq
  · unfold todo
    exact Nat.le_trans (List.length_filter_le _ _) (by simp)
  · have hLf : ∀ j, Lof (Array.replicate l.toArray.size false) j = false := fun j => by
      unfold Lof
      rw [Array.getD_eq_getD_getElem?, Array.getElem?_replicate]
      split <;> rfl
    have hLv : ∀ j, Lv (Array.replicate l.toArray.size false) la j = false := fun j => by unfold Lv; rw [hLf]; rfl
    have hT : ∀ n, Tset l.toArray X (Lv (Array.replicate l.toArray.size false) la) T n = T := by
      intro n
      induction n with
      | zero => rfl
      | succ n ih => simp only [Tset]; rw [if_neg (by rw [hLv]; simp), ih]
    refine ⟨by simp, fun i o _ hL => by rw [hLf] at hL; simp at hL, st, ⟨E.length, σ, F, μ, Nat.le_refl _, fun b e hb => ?_, pl.first, ?_, ?_, ?_, fun p Ep _ _ _ _ _ _ _ _ _ q6 _ => by rw [hLf] at q6; cases q6⟩, hd⟩
    · rw [hLv]
      have := (List.getElem?_eq_some_iff.1 hb).1
      simp; omega
    · exact Stp.same rfl rfl rfl rfl
    · exact st.same rfl
    · rw [hT]
      have hm : Mem F w F { w with drawn := w.drawn + 1 } := ⟨Nat.le_refl _, fun b _ hf => ⟨rfl, hf⟩⟩
      exact TR.mono tr hm st.len (Keep.refl _ _ _)
end
end Go.AW
namespace Go.AW
open Go
section
variable {P : Program} {N k : Nat} {T : Tm} {σ : List Ob} {Q : Ex → Tm → List Ob → Prop} {K : Tm → List Ob → Prop}
theorem ao_congr {T' : Tm} {R : V → List Ob → Prop} (op : Op) (h : ∀ x ∈ op.operands, ev T x = ev T' x) (ha : ao P T σ R op) : ao P T' σ R op := by
  cases op with
  | move x => simpa only [ao, h x (by simp [Op.operands])] using ha
  | assign x => simpa only [ao, h x (by simp [Op.operands])] using ha
  | pick c x y => simpa only [ao, h c (by simp [Op.operands]), h x (by simp [Op.operands]), h y (by simp [Op.operands])] using ha
  | binOp op t x y t' => simpa only [ao, h x (by simp [Op.operands]), h y (by simp [Op.operands])] using ha
  | unOp u t x => cases u <;> first | exact ha.elim | (simp only [ao] at ha ⊢; rw [← h x (by simp [Op.operands])]; exact ha)
  | convert s d x => simpa only [ao, h x (by simp [Op.operands])] using ha
  | index t x i => simpa only [ao, h x (by simp [Op.operands]), h i (by simp [Op.operands])] using ha
  | nilCheck x => simpa only [ao, h x (by simp [Op.operands])] using ha
  | fieldAddr t x j => simpa only [ao, h x (by simp [Op.operands])] using ha
  | indexAddr t x i => simpa only [ao, h x (by simp [Op.operands]), h i (by simp [Op.operands])] using ha
  | load t x => simpa only [ao, h x (by simp [Op.operands])] using ha
  | store t x y => simpa only [ao, h x (by simp [Op.operands]), h y (by simp [Op.operands])] using ha
  | alloc t => exact ha
  | box t x => simpa only [ao, h x (by simp [Op.operands])] using ha
  | build t ps =>
    have e : (ps.toList.map fun p => (p.1, ev T p.2)) = ps.toList.map fun p => (p.1, ev T' p.2) := List.map_congr_left fun p hp => by rw [h p.2 (by simp [Op.operands]; exact ⟨p.1, by simpa using hp⟩)]
    simpa only [ao, e] using ha
  | makeSlice t l c => simpa only [ao, h l (by simp [Op.operands]), h c (by simp [Op.operands])] using ha
  | buildSlice t n ps =>
    have e : (ps.toList.map fun p => (p.1, ev T p.2)) = ps.toList.map fun p => (p.1, ev T' p.2) := List.map_congr_left fun p hp => by rw [h p.2 (by simp [Op.operands]; exact ⟨p.1, by simpa using hp⟩)]
    simpa only [ao, e] using ha
  | slice t x lo hi mx =>
    cases mx with
    | some m => exact ha
    | none =>
      cases lo <;> cases hi <;> simp only [ao] at ha ⊢ <;> (try rw [← h x (by simp [Op.operands])]) <;> (try rename_i l r; rw [← h l (by simp [Op.operands]), ← h r (by simp [Op.operands])]) <;> (try rename_i l; rw [← h l (by simp [Op.operands])]) <;> exact ha
  | extract x j => simpa only [ao, h x (by simp [Op.operands])] using ha
  | field t x j => simpa only [ao, h x (by simp [Op.operands])] using ha
  | makeFunc fn fi ca =>
    have e1 : fi.toList.map (ev T) = fi.toList.map (ev T') := List.map_congr_left fun p hp => h p (by simp [Op.operands]; exact .inl (by simpa using hp))
    have e2 : ca.toList.map (ev T) = ca.toList.map (ev T') := List.map_congr_left fun p hp => h p (by simp [Op.operands]; exact .inr (by simpa using hp))
    simpa only [ao, e1, e2] using ha
  | call c =>
    obtain ⟨callee, args, ts⟩ := c
    have hm : ∀ x, x ∈ args.toList → ev T x = ev T' x := fun x hx => h x (by simp [Op.operands, Call.operands]; exact .inr (by simpa using hx))
    cases callee with
    | builtin b =>
      rcases hl : args.toList with _ | ⟨x, _ | ⟨y, _ | ⟨z, zs⟩⟩⟩
      all_goals rcases ht : ts.toList with _ | ⟨t, _ | ⟨u, _ | ⟨v, vs⟩⟩⟩
      all_goals
        cases b <;> (try exact ha) <;> (unfold ao at ha ⊢; simp only [hl, ht] at ha ⊢) <;> (try exact ha)
      all_goals
        (try rw [← hm x (by rw [hl]; exact List.mem_cons_self)])
      all_goals
        (try rw [← hm y (by rw [hl]; exact List.mem_cons_of_mem _ List.mem_cons_self)])
      all_goals exact ha
    | value f => exact ha
    | invoke r m => exact ha
  | _ => exact ha
theorem ev_keep {ops : Array Oper} (o : Oper) (x : Operand) (h : x ∈ o.op.operands) : ev T x = ev (keepT T (o.looksAt ops)) x := by
  cases x with
  | tmp t =>
    simp only [ev]
    rw [keepT_look, if_pos]
    unfold Oper.looksAt
    refine List.mem_append_left _ (List.mem_filterMap.2 ⟨_, by simpa using h, rfl⟩)
  | const v => rfl
  | global g => rfl
  | func f => rfl
theorem AL.one {ops : Array Oper} {op : Op} {t : Tmp} {ty : TypeId} {pos : String} {af : Array Edge} {rest : List Oper} {Q : Tm → List Ob → Prop} (hd : t < N)
    (h : ∀ K : V → List Ob → Prop, (∀ x σ', AL P N k ops rest Q ((t, x) :: T) σ' → K x σ') → ao P T σ K op) : AL P N k ops (⟨some t, op, ty, pos, af, none⟩ :: rest) Q T σ :=
  AL.cons rfl (by simpa [dstOk] using hd) fun K hK => ao_sound _ (h K hK)
theorem AL.one0 {ops : Array Oper} {op : Op} {ty : TypeId} {pos : String} {af : Array Edge} {rest : List Oper} {Q : Tm → List Ob → Prop}
    (h : ∀ K : V → List Ob → Prop, (∀ x σ', AL P N k ops rest Q T σ' → K x σ') → ao P T σ K op) : AL P N k ops (⟨none, op, ty, pos, af, none⟩ :: rest) Q T σ :=
  AL.cons rfl rfl fun K hK => ao_sound _ (h K hK)
theorem AL.call {ops : Array Oper} {op : Op} {t : Tmp} {ty : TypeId} {pos : String} {af : Array Edge} {rest : List Oper} {Q : Tm → List Ob → Prop} (hd : t < N)
    (h : ∀ K : V → List Ob → Prop, (∀ x σ', AL P N k ops rest Q ((t, x) :: T) σ' → K x σ') → AOp P N k ⟨some t, op, ty, pos, af, none⟩ T σ K) : AL P N k ops (⟨some t, op, ty, pos, af, none⟩ :: rest) Q T σ :=
  AL.cons rfl (by simpa [dstOk] using hd) fun K hK => h K hK
theorem AL.call0 {ops : Array Oper} {op : Op} {ty : TypeId} {pos : String} {af : Array Edge} {rest : List Oper} {Q : Tm → List Ob → Prop}
    (h : ∀ K : V → List Ob → Prop, (∀ x σ', AL P N k ops rest Q T σ' → K x σ') → AOp P N k ⟨none, op, ty, pos, af, none⟩ T σ K) : AL P N k ops (⟨none, op, ty, pos, af, none⟩ :: rest) Q T σ :=
  AL.cons rfl rfl fun K hK => h K hK
theorem AL.g1 {ops : Array Oper} {op : Op} {t j : Nat} {p : Bool} {ty : TypeId} {pos : String} {af : Array Edge} {rest : List Oper} {Q : Tm → List Ob → Prop} (hd : t < N) (hv : gv ops T j = bv p)
    (h : ∀ K : V → List Ob → Prop, (∀ x σ', AL P N k ops rest Q ((t, x) :: T) σ' → K x σ') → ao P T σ K op) : AL P N k ops (⟨some t, op, ty, pos, af, some (j, p)⟩ :: rest) Q T σ :=
  AL.guard rfl hv (by simpa [dstOk] using hd) (fun _ K hK => ao_sound _ (h K hK)) (fun e => by cases p <;> simp at e)
theorem AL.g0 {ops : Array Oper} {op : Op} {t j : Nat} {p b : Bool} {ty : TypeId} {pos : String} {af : Array Edge} {rest : List Oper} {Q : Tm → List Ob → Prop} (hd : t < N) (hv : gv ops T j = bv b) (hb : b ≠ p)
    (h : AL P N k ops rest Q ((t, .t []) :: T) σ) : AL P N k ops (⟨some t, op, ty, pos, af, some (j, p)⟩ :: rest) Q T σ :=
  AL.guard rfl hv (by simpa [dstOk] using hd) (fun e => absurd e hb) (fun _ => h)
theorem AL.gt {ops : Array Oper} {op : Op} {t j : Nat} {p : Bool} {xs : List V} {ty : TypeId} {pos : String} {af : Array Edge} {rest : List Oper} {Q : Tm → List Ob → Prop} (hd : t < N) (hv : gv ops T j = .t xs)
    (h : AL P N k ops rest Q ((t, .t []) :: T) σ) : AL P N k ops (⟨some t, op, ty, pos, af, some (j, p)⟩ :: rest) Q T σ :=
  AL.unguard rfl hv (by simpa [dstOk] using hd) h
theorem AL.g {ops : Array Oper} {op : Op} {t j : Nat} {p b : Bool} {ty : TypeId} {pos : String} {af : Array Edge} {rest : List Oper} {Q : Tm → List Ob → Prop} (hd : t < N) (hv : gv ops T j = bv b)
    (h1 : b = p → AL P N k ops (⟨some t, op, ty, pos, af, none⟩ :: rest) Q T σ) (h2 : b = !p → AL P N k ops rest Q ((t, .t []) :: T) σ) : AL P N k ops (⟨some t, op, ty, pos, af, some (j, p)⟩ :: rest) Q T σ := by
  by_cases e : b = p
  · intro B F μ w a st tr hdf X hX
    have := h1 e B F μ w a st tr hdf X hX
    unfold wpList at this ⊢
    rw [if_pos (by simp [Region.wanted])] at this
    rw [if_pos (by simp [Region.wanted, yielded_of tr hv, e])]
    exact this
  · exact AL.g0 hd hv e (h2 (by cases b <;> cases p <;> simp_all))
def allS (p : List Ob → Prop) : List (List Ob) → Prop
  | [] => True
  | s :: S => p s ∧ allS p S
theorem allS_mem {p : List Ob → Prop} : ∀ {S : List (List Ob)}, allS p S → ∀ s ∈ S, p s
  | [], _, s, h => by simp at h
  | x :: S, ⟨h1, h2⟩, s, h => by
    rcases List.mem_cons.1 h with rfl | h
    · exact h1
    · exact allS_mem h2 s h
def allP (ops : Array Oper) (i : Nat) (σ : List Ob) : List (Nat × (List Ob → Prop)) → Prop
  | [] => True
  | q :: S => (directB ops i q.1 = true ∨ q.2 σ) ∧ allP ops i σ S
theorem allP_mem {ops : Array Oper} {i : Nat} : ∀ {S : List (Nat × (List Ob → Prop))}, allP ops i σ S → ∀ q ∈ S, directB ops i q.1 = true ∨ q.2 σ
  | [], _, s, h => by simp at h
  | x :: S, ⟨h1, h2⟩, s, h => by
    rcases List.mem_cons.1 h with rfl | h
    · exact h1
    · exact allP_mem h2 s h
theorem tells {ops : Array Oper} {o : Oper} {x : V} (h : ∀ K : V → List Ob → Prop, K x σ → ao P T σ K o.op) : CalmAt P N k o (keepT T (o.looksAt ops)) x σ :=
  ao_sound o (ao_congr o.op (fun y hy => ev_keep o y hy) (h _ ⟨rfl, rfl⟩))
theorem ADr.c {ops : Array Oper} {op : Op} {t : Tmp} {ty : TypeId} {pos : String} {af : Array Edge} {R : Tm → List Ob → Prop} {i : Nat} {rest : List Oper} {S : List (List Ob)} {E : List Nat} {pc : List (Nat × (List Ob → Prop))} (x : V) (hd : t < N)
    (h : allS (fun s => ∀ K : V → List Ob → Prop, K x s → ao P T s K op) S) (h2 : ADr P N k ops R (i + 1) rest ((t, x) :: T) S E ((i, fun s => ∀ K : V → List Ob → Prop, K x s → ao P T s K op) :: pc)) : ADr P N k ops R i (⟨some t, op, ty, pos, af, none⟩ :: rest) T S E pc :=
  .calm x _ (by simpa [dstOk] using hd) (by simp [wants]) (fun s hs => tells hs) (fun s hs => allS_mem h s hs) h2
theorem ADr.cc {ops : Array Oper} {op : Op} {t : Tmp} {ty : TypeId} {pos : String} {af : Array Edge} {R : Tm → List Ob → Prop} {i : Nat} {rest : List Oper} {S : List (List Ob)} {E : List Nat} {pc : List (Nat × (List Ob → Prop))} (x : V) (hd : t < N)
    (h : allS (fun s => ∀ K : V → List Ob → Prop, K x s → AOp P N k ⟨some t, op, ty, pos, af, none⟩ (keepT T (Oper.looksAt ops ⟨some t, op, ty, pos, af, none⟩)) s K) S) (h2 : ADr P N k ops R (i + 1) rest ((t, x) :: T) S E ((i, fun s => ∀ K : V → List Ob → Prop, K x s → AOp P N k ⟨some t, op, ty, pos, af, none⟩ (keepT T (Oper.looksAt ops ⟨some t, op, ty, pos, af, none⟩)) s K) :: pc)) : ADr P N k ops R i (⟨some t, op, ty, pos, af, none⟩ :: rest) T S E pc :=
  .calm x _ (by simpa [dstOk] using hd) (by simp [wants]) (fun s hs => hs _ ⟨rfl, rfl⟩) (fun s hs => allS_mem h s hs) h2
theorem ADr.gc {ops : Array Oper} {op : Op} {t : Tmp} {ty : TypeId} {pos : String} {af : Array Edge} {R : Tm → List Ob → Prop} {i : Nat} {rest : List Oper} {S : List (List Ob)} {E : List Nat} {pc : List (Nat × (List Ob → Prop))} {j : Nat} {p : Bool} (x : V) (hd : t < N) (hv : gv ops T j = bv p)
    (h : allS (fun s => ∀ K : V → List Ob → Prop, K x s → ao P T s K op) S) (h2 : ADr P N k ops R (i + 1) rest ((t, x) :: T) S E ((i, fun s => ∀ K : V → List Ob → Prop, K x s → ao P T s K op) :: pc)) : ADr P N k ops R i (⟨some t, op, ty, pos, af, some (j, p)⟩ :: rest) T S E pc :=
  .calm x _ (by simpa [dstOk] using hd) (by simp [wants, hv]) (fun s hs => tells hs) (fun s hs => allS_mem h s hs) h2
theorem ADr.gcc {ops : Array Oper} {op : Op} {t : Tmp} {ty : TypeId} {pos : String} {af : Array Edge} {R : Tm → List Ob → Prop} {i : Nat} {rest : List Oper} {S : List (List Ob)} {E : List Nat} {pc : List (Nat × (List Ob → Prop))} {j : Nat} {p : Bool} (x : V) (hd : t < N) (hv : gv ops T j = bv p)
    (h : allS (fun s => ∀ K : V → List Ob → Prop, K x s → AOp P N k ⟨some t, op, ty, pos, af, some (j, p)⟩ (keepT T (Oper.looksAt ops ⟨some t, op, ty, pos, af, some (j, p)⟩)) s K) S) (h2 : ADr P N k ops R (i + 1) rest ((t, x) :: T) S E ((i, fun s => ∀ K : V → List Ob → Prop, K x s → AOp P N k ⟨some t, op, ty, pos, af, some (j, p)⟩ (keepT T (Oper.looksAt ops ⟨some t, op, ty, pos, af, some (j, p)⟩)) s K) :: pc)) : ADr P N k ops R i (⟨some t, op, ty, pos, af, some (j, p)⟩ :: rest) T S E pc :=
  .calm x _ (by simpa [dstOk] using hd) (by simp [wants, hv]) (fun s hs => hs _ ⟨rfl, rfl⟩) (fun s hs => allS_mem h s hs) h2
theorem ADr.l {ops : Array Oper} {op : Op} {t : Tmp} {ty : TypeId} {pos : String} {af : Array Edge} {R : Tm → List Ob → Prop} {i : Nat} {rest : List Oper} {S : List (List Ob)} {E : List Nat} {pc : List (Nat × (List Ob → Prop))} (x : V) (hd : t < N) (hl : lateB ops i = true)
    (h : allS (fun s => ∀ K : V → List Ob → Prop, K x s → ao P T s K op) S) (h2 : ADr P N k ops R (i + 1) rest ((t, x) :: T) S E pc) : ADr P N k ops R i (⟨some t, op, ty, pos, af, none⟩ :: rest) T S E pc :=
  .calml x (by simpa [dstOk] using hd) (by simp [wants]) hl (fun s hs => tells (allS_mem h s hs)) h2
theorem ADr.gl {ops : Array Oper} {op : Op} {t : Tmp} {ty : TypeId} {pos : String} {af : Array Edge} {R : Tm → List Ob → Prop} {i : Nat} {rest : List Oper} {S : List (List Ob)} {E : List Nat} {pc : List (Nat × (List Ob → Prop))} {j : Nat} {p : Bool} (x : V) (hd : t < N) (hv : gv ops T j = bv p) (hl : lateB ops i = true)
    (h : allS (fun s => ∀ K : V → List Ob → Prop, K x s → ao P T s K op) S) (h2 : ADr P N k ops R (i + 1) rest ((t, x) :: T) S E pc) : ADr P N k ops R i (⟨some t, op, ty, pos, af, some (j, p)⟩ :: rest) T S E pc :=
  .calml x (by simpa [dstOk] using hd) (by simp [wants, hv]) hl (fun s hs => tells (allS_mem h s hs)) h2
theorem ADr.gs {ops : Array Oper} {op : Op} {t : Tmp} {ty : TypeId} {pos : String} {af : Array Edge} {R : Tm → List Ob → Prop} {i : Nat} {rest : List Oper} {S : List (List Ob)} {E : List Nat} {pc : List (Nat × (List Ob → Prop))} {j : Nat} {p b : Bool} (hd : t < N) (hv : gv ops T j = bv b) (hb : b ≠ p)
    (h2 : ADr P N k ops R (i + 1) rest ((t, .t []) :: T) S E pc) : ADr P N k ops R i (⟨some t, op, ty, pos, af, some (j, p)⟩ :: rest) T S E pc :=
  .skip (by simpa [dstOk] using hd) (by simp [wants, hv, hb]) h2
theorem ADr.gt {ops : Array Oper} {op : Op} {t : Tmp} {ty : TypeId} {pos : String} {af : Array Edge} {R : Tm → List Ob → Prop} {i : Nat} {rest : List Oper} {S : List (List Ob)} {E : List Nat} {pc : List (Nat × (List Ob → Prop))} {j : Nat} {p : Bool} {xs : List V} (hd : t < N) (hv : gv ops T j = .t xs)
    (h2 : ADr P N k ops R (i + 1) rest ((t, .t []) :: T) S E pc) : ADr P N k ops R i (⟨some t, op, ty, pos, af, some (j, p)⟩ :: rest) T S E pc :=
  .skip (by simpa [dstOk] using hd) (by simp [wants, hv]) h2
theorem ADr.gb {ops : Array Oper} {op : Op} {t : Tmp} {ty : TypeId} {pos : String} {af : Array Edge} {R : Tm → List Ob → Prop} {i : Nat} {rest : List Oper} {S : List (List Ob)} {E : List Nat} {pc : List (Nat × (List Ob → Prop))} {j : Nat} {p b : Bool} (hd : t < N) (hv : gv ops T j = bv b)
    (h1 : b = p → gv ops T j = bv p → ADr P N k ops R i (⟨some t, op, ty, pos, af, some (j, p)⟩ :: rest) T S E pc) (h2 : b = !p → ADr P N k ops R (i + 1) rest ((t, .t []) :: T) S E pc) : ADr P N k ops R i (⟨some t, op, ty, pos, af, some (j, p)⟩ :: rest) T S E pc := by
  by_cases e : b = p
  · exact h1 e (by rw [hv, e])
  · exact ADr.gs hd hv e (h2 (by cases b <;> cases p <;> simp_all))
theorem ADr.e {ops : Array Oper} {op : Op} {t : Tmp} {ty : TypeId} {pos : String} {af : Array Edge} {R : Tm → List Ob → Prop} {i : Nat} {rest : List Oper} {S : List (List Ob)} {E : List Nat} {pc : List (Nat × (List Ob → Prop))} (x : V) (σ' : List Ob) (hd : t < N) (hc : (E.all fun e => (anc ops ops.size i).contains e) = true) (h : ∀ K : V → List Ob → Prop, K x σ' → ao P T σ K op) (hp : allP ops i σ' pc)
    (h2 : ADr P N k ops R (i + 1) rest ((t, x) :: T) (σ' :: σ :: S) (i :: E) pc) (hme : mayEff op = true := by rfl) : ADr P N k ops R i (⟨some t, op, ty, pos, af, none⟩ :: rest) T (σ :: S) E pc :=
  .eff x σ' (by simpa [dstOk] using hd) (by simp [wants]) hme hc (ao_sound _ (ao_congr op (fun y hy => ev_keep (⟨some t, op, ty, pos, af, none⟩ : Oper) y hy) (h _ ⟨rfl, rfl⟩))) (fun p hp' => allP_mem hp p hp') h2
theorem ADr.e0 {ops : Array Oper} {op : Op} {ty : TypeId} {pos : String} {af : Array Edge} {R : Tm → List Ob → Prop} {i : Nat} {rest : List Oper} {S : List (List Ob)} {E : List Nat} {pc : List (Nat × (List Ob → Prop))} (x : V) (σ' : List Ob) (hc : (E.all fun e => (anc ops ops.size i).contains e) = true) (h : ∀ K : V → List Ob → Prop, K x σ' → ao P T σ K op) (hp : allP ops i σ' pc)
    (h2 : ADr P N k ops R (i + 1) rest T (σ' :: σ :: S) (i :: E) pc) (hme : mayEff op = true := by rfl) : ADr P N k ops R i (⟨none, op, ty, pos, af, none⟩ :: rest) T (σ :: S) E pc :=
  .eff x σ' rfl (by simp [wants]) hme hc (ao_sound _ (ao_congr op (fun y hy => ev_keep (⟨none, op, ty, pos, af, none⟩ : Oper) y hy) (h _ ⟨rfl, rfl⟩))) (fun p hp' => allP_mem hp p hp') h2
theorem ADr.ec {ops : Array Oper} {op : Op} {t : Tmp} {ty : TypeId} {pos : String} {af : Array Edge} {R : Tm → List Ob → Prop} {i : Nat} {rest : List Oper} {S : List (List Ob)} {E : List Nat} {pc : List (Nat × (List Ob → Prop))} (x : V) (σ' : List Ob) (hd : t < N) (hc : (E.all fun e => (anc ops ops.size i).contains e) = true) (h : ∀ K : V → List Ob → Prop, K x σ' → AOp P N k ⟨some t, op, ty, pos, af, none⟩ (keepT T (Oper.looksAt ops ⟨some t, op, ty, pos, af, none⟩)) σ K) (hp : allP ops i σ' pc)
    (h2 : ADr P N k ops R (i + 1) rest ((t, x) :: T) (σ' :: σ :: S) (i :: E) pc) (hme : mayEff op = true := by rfl) : ADr P N k ops R i (⟨some t, op, ty, pos, af, none⟩ :: rest) T (σ :: S) E pc :=
  .eff x σ' (by simpa [dstOk] using hd) (by simp [wants]) hme hc (h _ ⟨rfl, rfl⟩) (fun p hp' => allP_mem hp p hp') h2
theorem ADr.la {ops : Array Oper} {ta : TypeId} {t : Tmp} {ty : TypeId} {pos : String} {af : Array Edge} {R : Tm → List Ob → Prop} {i : Nat} {rest : List Oper} {S : List (List Ob)} {E : List Nat} {pc : List (Nat × (List Ob → Prop))} (x : V) (σ' : List Ob) (hd : t < N) (hu : look T t = .u) (hc : (chainB ops E && looseB ops i E) = true)
    (h : ∀ K : V → List Ob → Prop, K x σ' → ao P T σ K (.alloc ta)) (hp : allP ops i σ' pc)
    (h2 : ADr P N k ops R (i + 1) rest ((t, x) :: T) (σ' :: σ :: S) (i :: E) pc) : ADr P N k ops R i (⟨some t, .alloc ta, ty, pos, af, none⟩ :: rest) T (σ :: S) E pc := by
  obtain ⟨z, hz, rfl, rfl⟩ := h (fun y τ => x = y ∧ σ' = τ) ⟨rfl, rfl⟩
  simp only [Bool.and_eq_true] at hc
  exact .late ta t z rfl rfl rfl (by simpa [dstOk] using hd) hz hu hc.1 hc.2 (fun p hp' => allP_mem hp p hp') h2
theorem AOp.cι {T' : Tm} {R Qs : V → List Ob → Prop} {σs : List Ob} {f : FuncId} {fv : Operand} {args : Array Operand} {ts : Array TypeId} {ty : TypeId} {pos : String} {af : Array Edge} {gd : Option (Nat × Bool)} {dst : Option Tmp} {fi ca as : List V}
    (hT : ∀ x ∈ (Op.call { callee := .value fv, args := args, argTypes := ts }).operands, ev T x = ev T' x) (ι : List Nat) (hf : ev T fv = .f (.func f) fi ca) (hc : AC P f as σs Qs) (hemb : Emb ι σs σ) (has : nzs (fi ++ args.toList.map (ev T) ++ ca) = rens (gm ι σ.length) as)
    (h : ∀ y obs, Qs y obs → R (y.ren (gm ι σ.length)) (mrg σ ι (obs.map (Ob.ren (gm ι σ.length))))) : AOp P N k ⟨dst, .call { callee := .value fv, args := args, argTypes := ts }, ty, pos, af, gd⟩ T' σ R := by
  have e : args.toList.map (ev T) = args.toList.map (ev T') := List.map_congr_left fun x hx => hT x (by simp [Op.operands, Call.operands]; exact .inr (by simpa using hx))
  refine AOp.callι ι (by rw [← hT fv (by simp [Op.operands, Call.operands])]; exact hf) hc hemb (by rw [← e]; exact has) h
theorem AL.callv {ops : Array Oper} {c : Call} {t : Tmp} {ty : TypeId} {pos : String} {af : Array Edge} {rest : List Oper} {Q : Tm → List Ob → Prop} (hd : t < N)
    (h : ∀ K : V → List Ob → Prop, (∀ x σ', AL P N k ops rest Q ((t, x) :: T) σ' → K x σ') → AOp P N k ⟨some t, .call c, ty, pos, af, none⟩ T σ K) : AL P N k ops (⟨some t, .call c, ty, pos, af, none⟩ :: rest) Q T σ :=
  AL.call hd h
theorem AL.callv0 {ops : Array Oper} {c : Call} {ty : TypeId} {pos : String} {af : Array Edge} {rest : List Oper} {Q : Tm → List Ob → Prop}
    (h : ∀ K : V → List Ob → Prop, (∀ x σ', AL P N k ops rest Q T σ' → K x σ') → AOp P N k ⟨none, .call c, ty, pos, af, none⟩ T σ K) : AL P N k ops (⟨none, .call c, ty, pos, af, none⟩ :: rest) Q T σ :=
  AL.call0 h
theorem ADr.ccv {ops : Array Oper} {c : Call} {t : Tmp} {ty : TypeId} {pos : String} {af : Array Edge} {R : Tm → List Ob → Prop} {i : Nat} {rest : List Oper} {S : List (List Ob)} {E : List Nat} {pc : List (Nat × (List Ob → Prop))} (x : V) (hd : t < N)
    (h : allS (fun s => ∀ K : V → List Ob → Prop, K x s → AOp P N k ⟨some t, .call c, ty, pos, af, none⟩ (keepT T (Oper.looksAt ops ⟨some t, .call c, ty, pos, af, none⟩)) s K) S) (h2 : ADr P N k ops R (i + 1) rest ((t, x) :: T) S E ((i, fun s => ∀ K : V → List Ob → Prop, K x s → AOp P N k ⟨some t, .call c, ty, pos, af, none⟩ (keepT T (Oper.looksAt ops ⟨some t, .call c, ty, pos, af, none⟩)) s K) :: pc)) : ADr P N k ops R i (⟨some t, .call c, ty, pos, af, none⟩ :: rest) T S E pc :=
  ADr.cc x hd h h2
theorem ADr.gccv {ops : Array Oper} {c : Call} {t : Tmp} {ty : TypeId} {pos : String} {af : Array Edge} {R : Tm → List Ob → Prop} {i : Nat} {rest : List Oper} {S : List (List Ob)} {E : List Nat} {pc : List (Nat × (List Ob → Prop))} {j : Nat} {p : Bool} (x : V) (hd : t < N) (hv : gv ops T j = bv p)
    (h : allS (fun s => ∀ K : V → List Ob → Prop, K x s → AOp P N k ⟨some t, .call c, ty, pos, af, some (j, p)⟩ (keepT T (Oper.looksAt ops ⟨some t, .call c, ty, pos, af, some (j, p)⟩)) s K) S) (h2 : ADr P N k ops R (i + 1) rest ((t, x) :: T) S E ((i, fun s => ∀ K : V → List Ob → Prop, K x s → AOp P N k ⟨some t, .call c, ty, pos, af, some (j, p)⟩ (keepT T (Oper.looksAt ops ⟨some t, .call c, ty, pos, af, some (j, p)⟩)) s K) :: pc)) : ADr P N k ops R i (⟨some t, .call c, ty, pos, af, some (j, p)⟩ :: rest) T S E pc :=
  ADr.gcc x hd hv h h2
theorem Emb.of {ι : List Nat} {σs : List Ob} (h1 : ι.length = σs.length) (h2 : ι.Nodup) (h3 : ∀ j, j < ι.length → σ[ι.getD j 0]? = (σs[j]?).map (Ob.ren (gm ι σ.length))) : Emb ι σs σ :=
  ⟨h1, h2, fun j i hj => by
    have hl := (List.getElem?_eq_some_iff.1 hj).1
    have := h3 j hl
    rw [List.getD_eq_getElem?_getD, hj] at this
    exact this⟩
theorem Emb.nil : Emb [] [] σ := ⟨rfl, List.nodup_nil, fun j i hj => by simp at hj⟩
theorem Emb.one {i : Nat} {ob : Ob} (h : σ[i]? = some (ob.ren (gm [i] σ.length))) : Emb [i] [ob] σ :=
  ⟨rfl, by simp, fun j l hj => by
    cases j with
    | zero => simp at hj; subst hj; simpa using h
    | succ j => simp at hj⟩
theorem Emb.two {i j : Nat} {ob ob' : Ob} (hij : i ≠ j) (h : σ[i]? = some (ob.ren (gm [i, j] σ.length))) (h' : σ[j]? = some (ob'.ren (gm [i, j] σ.length))) : Emb [i, j] [ob, ob'] σ :=
  ⟨rfl, by simpa using hij, fun m l hj => by
    cases m with
    | zero => simp at hj; subst hj; simpa using h
    | succ m =>
      cases m with
      | zero => simp at hj; subst hj; simpa using h'
      | succ m => simp at hj⟩
end
end Go.AW
namespace Go.AW
open Go
def bV (j : Nat) : V → V
  | .d (.s (.slice none 0 0)) => .o j 0
  | x => x
def bT (ts : List Nat) (j : Nat) : Tm → Tm
  | [] => []
  | (t, x) :: T => (t, bif ts.contains t then bV j x else x) :: bT ts j T
def bC (ps : List (Nat × Nat)) (j i c : Nat) : List V → List V
  | [] => []
  | x :: xs => (bif ps.contains (i, c) then bV j x else x) :: bC ps j i (c + 1) xs
def bO (ps : List (Nat × Nat)) (j i : Nat) : List Ob → List Ob
  | [] => []
  | .box T cs :: σ => .box T (bC ps j i 0 cs) :: bO ps j (i + 1) σ
  | ob :: σ => ob :: bO ps j (i + 1) σ
section
variable {P : Program} {N k B : Nat} {F : Nat → Prop} {T : Tm} {σ : List Ob} {μ : List Value} {w : World}
def bOb (ps : List (Nat × Nat)) (j i : Nat) : Ob → Ob
  | .box T cs => .box T (bC ps j i 0 cs)
  | ob => ob
theorem bO_get (ps : List (Nat × Nat)) (j : Nat) : ∀ (σ : List Ob) (i n : Nat), (bO ps j i σ)[n]? = (σ[n]?).map (bOb ps j (i + n))
  | [], i, n => by simp [bO]
  | .box T cs :: σ, i, 0 => by simp [bO, bOb]
  | .row E sz m cs :: σ, i, 0 => by simp [bO, bOb]
  | .box T cs :: σ, i, n + 1 => by simp only [bO, List.getElem?_cons_succ]; rw [bO_get ps j σ (i + 1) n, show i + 1 + n = i + (n + 1) by omega]
  | .row E sz m cs :: σ, i, n + 1 => by simp only [bO, List.getElem?_cons_succ]; rw [bO_get ps j σ (i + 1) n, show i + 1 + n = i + (n + 1) by omega]
theorem bO_len (ps : List (Nat × Nat)) (j : Nat) : ∀ (σ : List Ob) (i : Nat), (bO ps j i σ).length = σ.length
  | [], i => rfl
  | .box T cs :: σ, i => by simp [bO, bO_len ps j σ]
  | .row E sz m cs :: σ, i => by simp [bO, bO_len ps j σ]
theorem Mem.refl (F : Nat → Prop) (w : World) : Mem F w F w := ⟨Nat.le_refl _, fun _ _ h => ⟨rfl, h⟩⟩
theorem bO_get' {ps : List (Nat × Nat)} {E sz i : Nat} (hi : i < σ.length) : (bO ps σ.length 0 σ ++ [Ob.row E sz 0 []])[i]? = (σ[i]?).map (bOb ps σ.length i) := by
  rw [List.getElem?_append_left (by rw [bO_len]; exact hi), bO_get, Nat.zero_add]
theorem bO_get_new {ps : List (Nat × Nat)} {E sz : Nat} : (bO ps σ.length 0 σ ++ [Ob.row E sz 0 []])[σ.length]? = some (.row E sz 0 []) := by
  rw [List.getElem?_append_right (by rw [bO_len]; exact Nat.le_refl _), bO_len]; simp
theorem keep_birth (hl : μ.length = σ.length) (ps : List (Nat × Nat)) (E sz n : Nat) : Keep n σ μ (bO ps σ.length 0 σ ++ [.row E sz 0 []]) (μ ++ [.slice none 0 0]) := by
  refine ⟨fun i T cs h hn hs hm => ?_, fun i E' sz' m cs h hn hs hm => ?_⟩
  · have hi := (List.getElem?_eq_some_iff.1 hs).1
    rw [bO_get' hi, hs, List.getElem?_append_left (by omega)]
    exact ⟨⟨_, rfl⟩, hm⟩
  · have hi := (List.getElem?_eq_some_iff.1 hs).1
    rw [bO_get' hi, hs, List.getElem?_append_left (by omega)]
    exact ⟨m, cs, h, rfl, hm, Nat.le_refl _, fun _ => rfl⟩
theorem VR.birth (hl : μ.length = σ.length) (ps : List (Nat × Nat)) (E sz : Nat) (b : Bool) (x : V) (v : Value) (h : VR F σ μ w x v) :
    VR F (bO ps σ.length 0 σ ++ [.row E sz 0 []]) (μ ++ [.slice none 0 0]) w (bif b then bV σ.length x else x) v := by
  have g := VR.mono (Mem.refl F w) hl (keep_birth hl ps E sz σ.length) x v h
  cases b with
  | false => exact g
  | true =>
    simp only [cond_true]
    unfold bV
    split
    · simp only [VR, DR] at h
      subst h
      exact ⟨E, sz, 0, [], .slice none 0 0, none, 0, bO_get_new, by rw [List.getElem?_append_right (by omega), hl]; simp, rfl, Nat.le_refl _, fun _ => rfl⟩
    · exact g
theorem VRs.birth (hl : μ.length = σ.length) (ps : List (Nat × Nat)) (E sz i : Nat) : ∀ (c : Nat) (xs : List V) (vs : List Value), VRs F σ μ w xs vs →
    VRs F (bO ps σ.length 0 σ ++ [.row E sz 0 []]) (μ ++ [.slice none 0 0]) w (bC ps σ.length i c xs) vs
  | c, [], vs, h => by simpa [bC, VRs] using h
  | c, x :: xs, vs, h => by
    simp only [bC, VRs] at h ⊢
    obtain ⟨v, us, e, h1, h2⟩ := h
    exact ⟨v, us, e, VR.birth hl ps E sz _ x v h1, VRs.birth hl ps E sz i (c + 1) xs us h2⟩
theorem look_bT (ts : List Nat) (j : Nat) : ∀ (T : Tm) (t : Nat), look (bT ts j T) t = (bif ts.contains t then bV j (look T t) else look T t)
  | [], t => by
    simp only [bT, look]
    cases ts.contains t <;> rfl
  | (n, x) :: T, t => by
    simp only [bT, look]
    split
    · rename_i e; subst e; rfl
    · exact look_bT ts j T t
theorem blk_bOb {ps : List (Nat × Nat)} {j i : Nat} (ob : Ob) (h : Value) : blk (bOb ps j i ob) h = blk ob h := by
  cases ob <;> cases h <;> (try rfl) <;> first | (rename_i a; cases a <;> rfl) | (rename_i a _ _; cases a <;> rfl)
theorem live_birth {ps : List (Nat × Nat)} {E sz b : Nat} (hl : μ.length = σ.length) (h : Live (bO ps σ.length 0 σ ++ [.row E sz 0 []]) (μ ++ [.slice none 0 0]) b) : Live σ μ b := by
  obtain ⟨i, ob, u, h1, h2, h3⟩ := h
  by_cases hi : i < σ.length
  · rw [bO_get' hi] at h1
    rw [List.getElem?_append_left (by omega)] at h2
    cases e : σ[i]? with
    | none => rw [e] at h1; simp at h1
    | some o =>
      rw [e] at h1
      obtain rfl := Option.some.inj h1
      rw [blk_bOb] at h3
      exact ⟨i, o, u, e, h2, h3⟩
  · have hi2 : i = σ.length := by
      have := (List.getElem?_eq_some_iff.1 h1).1
      simp [bO_len] at this; omega
    subst hi2
    rw [bO_get_new] at h1
    obtain rfl := Option.some.inj h1
    rw [List.getElem?_append_right (by omega), hl] at h2
    simp at h2
    subst h2
    simp [blk] at h3
theorem St.birth (st : St k B F σ μ w) (ps : List (Nat × Nat)) (E sz : Nat) : St k B F (bO ps σ.length 0 σ ++ [.row E sz 0 []]) (μ ++ [.slice none 0 0]) w := by
  have hl := st.len
  have old : ∀ {i : Nat} {ob : Ob} {u : Value}, (bO ps σ.length 0 σ ++ [.row E sz 0 []])[i]? = some ob → (μ ++ [.slice none 0 0])[i]? = some u → (∃ o, σ[i]? = some o ∧ μ[i]? = some u ∧ ob = bOb ps σ.length i o) ∨ (i = σ.length ∧ ob = .row E sz 0 [] ∧ u = .slice none 0 0) := by
    intro i ob u h1 h2
    by_cases hi : i < σ.length
    · rw [bO_get' hi] at h1
      rw [List.getElem?_append_left (by omega)] at h2
      cases e : σ[i]? with
      | none => rw [e] at h1; simp at h1
      | some o =>
        rw [e] at h1
        obtain rfl := Option.some.inj h1
        exact .inl ⟨o, rfl, h2, rfl⟩
    · have hi2 : i = σ.length := by
        have := (List.getElem?_eq_some_iff.1 h1).1
        simp [bO_len] at this; omega
      subst hi2
      rw [bO_get_new] at h1
      obtain rfl := Option.some.inj h1
      rw [List.getElem?_append_right (by omega), hl] at h2
      simp at h2
      exact .inr ⟨rfl, rfl, h2.symm⟩
  refine ⟨by simp [bO_len, hl], fun i ob u h1 h2 => ?_, fun i j ob u ob' u' b h1 h2 h3 h4 h5 h6 => ?_, st.lt, st.base⟩
  · rcases old h1 h2 with ⟨o, g1, g2, rfl⟩ | ⟨rfl, rfl, rfl⟩
    · have := st.obj i o u g1 g2
      cases o with
      | box T cs =>
        obtain ⟨b, arr, e1, e2, e3, e4⟩ := this
        exact ⟨b, arr, e1, e2, e3.imp fun _ => VRs.birth hl ps E sz i 0 cs _, e4⟩
      | row E' sz' n cs => exact this
    · exact ⟨[], ⟨by simp, .inl ⟨rfl, rfl⟩⟩, rfl, fun b hb => by simp [Value.ownBlock] at hb⟩
  · rcases old h1 h2 with ⟨o, g1, g2, rfl⟩ | ⟨rfl, rfl, rfl⟩
    · rcases old h3 h4 with ⟨o', k1, k2, rfl⟩ | ⟨rfl, rfl, rfl⟩
      · rw [blk_bOb] at h5 h6
        exact st.sep i j o u o' u' b g1 g2 k1 k2 h5 h6
      · simp [blk] at h6
    · simp [blk] at h5
theorem AW.birth {c : Code} {Q : Ex → Tm → List Ob → Prop} (E sz : Nat) (ts : List Nat) (ps : List (Nat × Nat)) (h : AW P N k c Q (bT ts σ.length T) (bO ps σ.length 0 σ ++ [.row E sz 0 []])) : AW P N k c Q T σ := by
  intro B F μ w a st tr hd
  have hl := st.len
  refine wp_mono (h B F (μ ++ [.slice none 0 0]) w a (st.birth ps E sz) ⟨tr.1, fun t => ?_⟩ hd) (APost.trans ?_)
  · rw [look_bT]
    exact VR.birth hl ps E sz _ _ _ (tr.2 t)
  · refine ⟨rfl, rfl, rfl, Nat.le_refl _, fun _ _ _ => rfl, fun _ h => .inl h, fun _ _ h => h, fun _ h => .inl (live_birth hl h), keep_birth hl ps E sz k, fun i E1 sz1 m cs u E' sz' m' cs' u' hi a1 a2 a3 a4 b hb => ?_⟩
    have hi' := (List.getElem?_eq_some_iff.1 a1).1
    rw [bO_get' hi', a1] at a3
    rw [List.getElem?_append_left (by omega), a2] at a4
    obtain rfl := Option.some.inj a4
    exact .inl hb
theorem AL.birth {ops : Array Oper} {l : List Oper} {Q : Tm → List Ob → Prop} (E sz : Nat) (ts : List Nat) (ps : List (Nat × Nat)) (h : AL P N k ops l Q (bT ts σ.length T) (bO ps σ.length 0 σ ++ [.row E sz 0 []])) : AL P N k ops l Q T σ := by
  intro B F μ w a st tr hd X hX
  have hl := st.len
  refine h B F (μ ++ [.slice none 0 0]) w a (st.birth ps E sz) ⟨tr.1, fun t => ?_⟩ hd X fun a' w' g => hX a' w' (Cfg.trans ?_ g)
  · rw [look_bT]
    exact VR.birth hl ps E sz _ _ _ (tr.2 t)
  · refine ⟨rfl, rfl, rfl, Nat.le_refl _, fun _ _ _ => rfl, fun _ h => .inl h, fun _ _ h => h, fun _ h => .inl (live_birth hl h), keep_birth hl ps E sz k, fun i E1 sz1 m cs u E' sz' m' cs' u' hi a1 a2 a3 a4 b hb => ?_⟩
    have hi' := (List.getElem?_eq_some_iff.1 a1).1
    rw [bO_get' hi', a1] at a3
    rw [List.getElem?_append_left (by omega), a2] at a4
    obtain rfl := Option.some.inj a4
    exact .inl hb
end
end Go.AW
namespace Go.AW
open Go
mutual
def V.flat1 : V → Bool
  | .d (.s _) => true
  | .t xs => flats1 xs
  | .a xs => flats1 xs
  | _ => false
def flats1 : List V → Bool
  | [] => true
  | x :: xs => x.flat1 && flats1 xs
end
section
variable {P : Program} {N k B : Nat} {T : Tm} {F F' : Nat → Prop} {σ σ' : List Ob} {μ μ' : List Value} {w w' : World}
mutual
theorem VR.flat1 : ∀ (x : V) (v : Value), x.flat1 = true → VR F σ μ w x v → VR F' σ' μ' w' x v
  | .d (.s u), v, _, h => by simpa only [VR, DR] using h
  | .d (.l _ _), v, hf, h => by simp [V.flat1] at hf
  | .a xs, v, hf, h => by
    simp only [VR, V.flat1] at h hf ⊢
    obtain ⟨cs, e, h⟩ := h
    exact ⟨cs, e, VRs.flat1 xs _ hf h⟩
  | .t xs, v, hf, h => by
    simp only [VR, V.flat1] at h hf ⊢
    obtain ⟨cs, e, h⟩ := h
    exact ⟨cs, e, VRs.flat1 xs _ hf h⟩
  | .p _ _, v, hf, h => by simp [V.flat1] at hf
  | .c _, v, hf, h => by simp [V.flat1] at hf
  | .o _ _, v, hf, h => by simp [V.flat1] at hf
  | .e _ _ _, v, hf, h => by simp [V.flat1] at hf
  | .b _ _ _, v, hf, h => by simp [V.flat1] at hf
  | .g _ _, v, hf, h => by simp [V.flat1] at hf
  | .f _ _ _, v, hf, h => by simp [V.flat1] at hf
  | .u, v, hf, h => by simp [V.flat1] at hf
theorem VRs.flat1 : ∀ (xs : List V) (vs : List Value), flats1 xs = true → VRs F σ μ w xs vs → VRs F' σ' μ' w' xs vs
  | [], vs, _, h => by simpa [VRs] using h
  | x :: xs, vs, hf, h => by
    simp only [VRs, flats1, Bool.and_eq_true] at h hf ⊢
    obtain ⟨v, us, e, h1, h2⟩ := h
    exact ⟨v, us, e, VR.flat1 x v hf.1 h1, VRs.flat1 xs us hf.2 h2⟩
end
theorem AC.lend {f : FuncId} {args as : List V} {Qs Q : V → List Ob → Prop} (h : AC P f as [] Qs) (has : fzs σ 0 args = as) (hlt : lts 0 as = true) (hq : ∀ y obs, Qs y obs → y.flat1 = true ∧ Q y σ) : AC P f args σ Q := by
  refine ⟨h.1, fun F μ w vals st hv => ?_⟩
  subst has
  have st0 : St 0 0 F σ μ w := by
    refine ⟨st.len, fun i ob u h1 h2 => ?_, st.sep, st.lt, Nat.zero_le _⟩
    have := st.obj i ob u h1 h2
    have hi := (List.getElem?_eq_some_iff.1 h1).1
    cases ob with
    | box T cs =>
      obtain ⟨b, arr, e1, e2, e3, e4, _⟩ := this
      exact ⟨b, arr, e1, e2, e3, e4, fun _ => Nat.zero_le _⟩
    | row E sz n cs =>
      obtain ⟨vs, e1, e2, e3⟩ := this
      rw [if_neg (by omega)] at e1
      exact ⟨vs, by rw [if_pos (Nat.zero_le _)]; exact e1, e2, e3⟩
  have hs : Sub 0 F σ μ w (fun _ => False) (σ.take 0) (μ.take 0) w := ⟨⟨Nat.le_refl _, fun b _ _ => ⟨rfl, fun h => h⟩⟩, fun i hi => by omega⟩
  have hv2 := fzs_ok st0 (Nat.le_refl 0) (fun b hb => hb.elim) hs _ _ hlt hv
  simp only [List.take_zero] at hv2
  have stl : St 0 w.heap.size (fun _ => False) [] [] w := ⟨rfl, fun i ob u h1 => by simp at h1, fun i j ob u ob' u' b h1 => by simp at h1, fun b h => h.elim, Nat.le_refl _⟩
  refine (h.2 (fun _ => False) [] w vals stl hv2).mono fun e w' ⟨v, x, F', σ', μ', he, q, sp, st', hx⟩ => ?_
  obtain ⟨hf, hq⟩ := hq x σ' q
  have same : ∀ b, b < w.heap.size → w'.heap[b]? = w.heap[b]? := fun b hb => sp.mem b hb fun ⟨i, ob, u, h1, _⟩ => by simp at h1
  refine ⟨v, x, F, σ, μ, he, hq, ⟨sp.os, sp.tape, sp.output, sp.size, fun b hb _ => same b hb, fun b hb => .inl hb, fun b _ hb => hb, fun b hb => .inl hb, Keep.refl _ _ _, fun i E sz m cs u E' sz' m' cs' u' _ a1 a2 a3 a4 b hb => ?_⟩, ⟨st.len, fun i ob u h1 h2 => ?_, st.sep, fun b hb => Nat.lt_of_lt_of_le (st.lt b hb) sp.size, sp.size⟩, VR.flat1 x v hf hx⟩
  · rw [a2] at a4; obtain rfl := Option.some.inj a4; exact .inl hb
  · exact ObOk.mono ⟨sp.size, fun b hb hF => ⟨same b hb, hF⟩⟩ st.len (Keep.refl _ _ _) (fun b hb => ⟨same b (st.lt b (st.live_F ⟨i, ob, u, h1, h2, hb⟩)), id⟩) (st.obj i ob u h1 h2)
theorem AOp.cL {T' : Tm} {R Qs : V → List Ob → Prop} {f : FuncId} {fv : Operand} {args : Array Operand} {ts : Array TypeId} {ty : TypeId} {pos : String} {af : Array Edge} {gd : Option (Nat × Bool)} {dst : Option Tmp} {fi ca as : List V}
    (hT : ∀ x ∈ (Op.call { callee := .value fv, args := args, argTypes := ts }).operands, ev T x = ev T' x) (hf : ev T fv = .f (.func f) fi ca) (hc : AC P f as [] Qs) (has : fzs σ 0 (nzs (fi ++ args.toList.map (ev T) ++ ca)) = as) (hlt : lts 0 as = true)
    (h : ∀ y obs, Qs y obs → y.flat1 = true ∧ R y σ) : AOp P N k ⟨dst, .call { callee := .value fv, args := args, argTypes := ts }, ty, pos, af, gd⟩ T' σ R := by
  have e : args.toList.map (ev T) = args.toList.map (ev T') := List.map_congr_left fun x hx => hT x (by simp [Op.operands, Call.operands]; exact .inr (by simpa using hx))
  refine AOp.call (by rw [← hT fv (by simp [Op.operands, Call.operands])]; exact hf) ?_
  rw [← e]
  exact AC.lend hc has hlt h
theorem ADr.ecv {ops : Array Oper} {c : Call} {t : Tmp} {ty : TypeId} {pos : String} {af : Array Edge} {R : Tm → List Ob → Prop} {i : Nat} {rest : List Oper} {S : List (List Ob)} {E : List Nat} {pc : List (Nat × (List Ob → Prop))} (x : V) (σ' : List Ob) (hd : t < N) (hc : (E.all fun e => (anc ops ops.size i).contains e) = true) (h : ∀ K : V → List Ob → Prop, K x σ' → AOp P N k ⟨some t, .call c, ty, pos, af, none⟩ (keepT T (Oper.looksAt ops ⟨some t, .call c, ty, pos, af, none⟩)) σ K) (hp : allP ops i σ' pc)
    (h2 : ADr P N k ops R (i + 1) rest ((t, x) :: T) (σ' :: σ :: S) (i :: E) pc) : ADr P N k ops R i (⟨some t, .call c, ty, pos, af, none⟩ :: rest) T (σ :: S) E pc :=
  ADr.ec x σ' hd hc h hp h2
theorem ADr.ecv0 {ops : Array Oper} {c : Call} {ty : TypeId} {pos : String} {af : Array Edge} {R : Tm → List Ob → Prop} {i : Nat} {rest : List Oper} {S : List (List Ob)} {E : List Nat} {pc : List (Nat × (List Ob → Prop))} (x : V) (σ' : List Ob) (hc : (E.all fun e => (anc ops ops.size i).contains e) = true) (h : ∀ K : V → List Ob → Prop, K x σ' → AOp P N k ⟨none, .call c, ty, pos, af, none⟩ (keepT T (Oper.looksAt ops ⟨none, .call c, ty, pos, af, none⟩)) σ K) (hp : allP ops i σ' pc)
    (h2 : ADr P N k ops R (i + 1) rest T (σ' :: σ :: S) (i :: E) pc) : ADr P N k ops R i (⟨none, .call c, ty, pos, af, none⟩ :: rest) T (σ :: S) E pc :=
  .eff x σ' rfl (by simp [wants]) rfl hc (h _ ⟨rfl, rfl⟩) (fun p hp' => allP_mem hp p hp') h2
theorem ADr.gecv {ops : Array Oper} {c : Call} {t : Tmp} {ty : TypeId} {pos : String} {af : Array Edge} {R : Tm → List Ob → Prop} {i : Nat} {rest : List Oper} {S : List (List Ob)} {E : List Nat} {pc : List (Nat × (List Ob → Prop))} {j : Nat} {p : Bool} (x : V) (σ' : List Ob) (hd : t < N) (hv : gv ops T j = bv p) (hc : (E.all fun e => (anc ops ops.size i).contains e) = true) (h : ∀ K : V → List Ob → Prop, K x σ' → AOp P N k ⟨some t, .call c, ty, pos, af, some (j, p)⟩ (keepT T (Oper.looksAt ops ⟨some t, .call c, ty, pos, af, some (j, p)⟩)) σ K) (hp : allP ops i σ' pc)
    (h2 : ADr P N k ops R (i + 1) rest ((t, x) :: T) (σ' :: σ :: S) (i :: E) pc) : ADr P N k ops R i (⟨some t, .call c, ty, pos, af, some (j, p)⟩ :: rest) T (σ :: S) E pc :=
  .eff x σ' (by simpa [dstOk] using hd) (by simp [wants, hv]) rfl hc (h _ ⟨rfl, rfl⟩) (fun p hp' => allP_mem hp p hp') h2
theorem AL.g1v {ops : Array Oper} {c : Call} {t j : Nat} {p : Bool} {ty : TypeId} {pos : String} {af : Array Edge} {rest : List Oper} {Q : Tm → List Ob → Prop} (hd : t < N) (hv : gv ops T j = bv p)
    (h : ∀ K : V → List Ob → Prop, (∀ x σ', AL P N k ops rest Q ((t, x) :: T) σ' → K x σ') → AOp P N k ⟨some t, .call c, ty, pos, af, some (j, p)⟩ T σ K) : AL P N k ops (⟨some t, .call c, ty, pos, af, some (j, p)⟩ :: rest) Q T σ :=
  AL.guard rfl hv (by simpa [dstOk] using hd) (fun _ K hK => h K hK) (fun e => by cases p <;> simp at e)
theorem ADr.cw {ops : Array Oper} {op : Op} {t : Tmp} {ty : TypeId} {pos : String} {af : Array Edge} {R : Tm → List Ob → Prop} {i e : Nat} {rest : List Oper} {S : List (List Ob)} {E : List Nat} {pc : List (Nat × (List Ob → Prop))} (x : V) (hd : t < N) (ha : (anc ops ops.size i).contains e = true) (h : ∀ K : V → List Ob → Prop, K x σ → ao P T σ K op)
    (h2 : ADr P N k ops R (i + 1) rest ((t, x) :: T) (σ :: S) (e :: E) ((i, fun s => ∀ K : V → List Ob → Prop, K x s → ao P T s K op) :: pc)) : ADr P N k ops R i (⟨some t, op, ty, pos, af, none⟩ :: rest) T (σ :: S) (e :: E) pc :=
  .calmw x (fun s => ∀ K : V → List Ob → Prop, K x s → ao P T s K op) 0 e (by simpa [dstOk] using hd) (by simp [wants]) (fun s hs => tells hs) rfl (by simpa using ha) (fun s hs => by simp at hs; subst hs; exact h) h2
theorem ADr.gcw {ops : Array Oper} {op : Op} {t : Tmp} {ty : TypeId} {pos : String} {af : Array Edge} {R : Tm → List Ob → Prop} {i e : Nat} {rest : List Oper} {S : List (List Ob)} {E : List Nat} {pc : List (Nat × (List Ob → Prop))} {j : Nat} {p : Bool} (x : V) (hd : t < N) (hv : gv ops T j = bv p) (ha : (anc ops ops.size i).contains e = true) (h : ∀ K : V → List Ob → Prop, K x σ → ao P T σ K op)
    (h2 : ADr P N k ops R (i + 1) rest ((t, x) :: T) (σ :: S) (e :: E) ((i, fun s => ∀ K : V → List Ob → Prop, K x s → ao P T s K op) :: pc)) : ADr P N k ops R i (⟨some t, op, ty, pos, af, some (j, p)⟩ :: rest) T (σ :: S) (e :: E) pc :=
  .calmw x (fun s => ∀ K : V → List Ob → Prop, K x s → ao P T s K op) 0 e (by simpa [dstOk] using hd) (by simp [wants, hv]) (fun s hs => tells hs) rfl (by simpa using ha) (fun s hs => by simp at hs; subst hs; exact h) h2
theorem ADr.ccw {ops : Array Oper} {c : Call} {t : Tmp} {ty : TypeId} {pos : String} {af : Array Edge} {R : Tm → List Ob → Prop} {i e : Nat} {rest : List Oper} {S : List (List Ob)} {E : List Nat} {pc : List (Nat × (List Ob → Prop))} (x : V) (hd : t < N) (ha : (anc ops ops.size i).contains e = true) (h : ∀ K : V → List Ob → Prop, K x σ → AOp P N k ⟨some t, .call c, ty, pos, af, none⟩ (keepT T (Oper.looksAt ops ⟨some t, .call c, ty, pos, af, none⟩)) σ K)
    (h2 : ADr P N k ops R (i + 1) rest ((t, x) :: T) (σ :: S) (e :: E) ((i, fun s => ∀ K : V → List Ob → Prop, K x s → AOp P N k ⟨some t, .call c, ty, pos, af, none⟩ (keepT T (Oper.looksAt ops ⟨some t, .call c, ty, pos, af, none⟩)) s K) :: pc)) : ADr P N k ops R i (⟨some t, .call c, ty, pos, af, none⟩ :: rest) T (σ :: S) (e :: E) pc :=
  .calmw x (fun s => ∀ K : V → List Ob → Prop, K x s → AOp P N k ⟨some t, .call c, ty, pos, af, none⟩ (keepT T (Oper.looksAt ops ⟨some t, .call c, ty, pos, af, none⟩)) s K) 0 e (by simpa [dstOk] using hd) (by simp [wants]) (fun s hs => hs _ ⟨rfl, rfl⟩) rfl (by simpa using ha) (fun s hs => by simp at hs; subst hs; exact h) h2
theorem ADr.gccw {ops : Array Oper} {c : Call} {t : Tmp} {ty : TypeId} {pos : String} {af : Array Edge} {R : Tm → List Ob → Prop} {i e : Nat} {rest : List Oper} {S : List (List Ob)} {E : List Nat} {pc : List (Nat × (List Ob → Prop))} {j : Nat} {p : Bool} (x : V) (hd : t < N) (hv : gv ops T j = bv p) (ha : (anc ops ops.size i).contains e = true) (h : ∀ K : V → List Ob → Prop, K x σ → AOp P N k ⟨some t, .call c, ty, pos, af, some (j, p)⟩ (keepT T (Oper.looksAt ops ⟨some t, .call c, ty, pos, af, some (j, p)⟩)) σ K)
    (h2 : ADr P N k ops R (i + 1) rest ((t, x) :: T) (σ :: S) (e :: E) ((i, fun s => ∀ K : V → List Ob → Prop, K x s → AOp P N k ⟨some t, .call c, ty, pos, af, some (j, p)⟩ (keepT T (Oper.looksAt ops ⟨some t, .call c, ty, pos, af, some (j, p)⟩)) s K) :: pc)) : ADr P N k ops R i (⟨some t, .call c, ty, pos, af, some (j, p)⟩ :: rest) T (σ :: S) (e :: E) pc :=
  .calmw x (fun s => ∀ K : V → List Ob → Prop, K x s → AOp P N k ⟨some t, .call c, ty, pos, af, some (j, p)⟩ (keepT T (Oper.looksAt ops ⟨some t, .call c, ty, pos, af, some (j, p)⟩)) s K) 0 e (by simpa [dstOk] using hd) (by simp [wants, hv]) (fun s hs => hs _ ⟨rfl, rfl⟩) rfl (by simpa using ha) (fun s hs => by simp at hs; subst hs; exact h) h2
end
end Go.AW
namespace Go.AW
open Go Go.RowKit
def Rd {H : Type} (enc : TypeId × Value → H) (P : Program) (w : World) (t : TypeId) (S : List D → Prop) : Prop :=
  ∀ fuel cs d ps, DataW.trod enc P w 0 (fun _ => true) true fuel t cs = some (d, ps) → ∃ xs, S xs ∧ DRs (fun _ => False) w xs cs
section
variable {H : Type} {enc : TypeId × Value → H} {P : Program} {w : World} {t : TypeId}
theorem Rd.mono {S S' : List D → Prop} (h : Rd enc P w t S) (hs : ∀ xs, S xs → S' xs) : Rd enc P w t S' := fun fuel cs d ps e => by
  obtain ⟨xs, h1, h2⟩ := h fuel cs d ps e
  exact ⟨xs, hs xs h1, h2⟩
theorem Rd.int {k : IntKind} (hu : P.underlying t = some (.int k)) : Rd enc P w t fun xs => ∃ n, xs = [.s (.int k n)] ∧ (Lit.int k n).wf = true := by
  intro fuel cs d ps h
  cases fuel with
  | zero => simp [DataW.trod] at h
  | succ f =>
    unfold DataW.trod at h
    rw [hu] at h
    rcases cs with _ | ⟨c, _ | ⟨c2, cs⟩⟩
    · simp at h
    · cases c <;> simp at h
      rename_i k' n
      obtain ⟨⟨rfl, hw⟩, _⟩ := h
      exact ⟨_, ⟨n, rfl, hw⟩, by simp [DRs, DR]⟩
    · simp at h
theorem Rd.bool (hu : P.underlying t = some .bool) : Rd enc P w t fun xs => ∃ b, xs = [.s (.bool b)] := by
  intro fuel cs d ps h
  cases fuel with
  | zero => simp [DataW.trod] at h
  | succ f =>
    unfold DataW.trod at h
    rw [hu] at h
    rcases cs with _ | ⟨c, _ | ⟨c2, cs⟩⟩
    · simp at h
    · cases c <;> simp at h
      rename_i b
      exact ⟨_, ⟨b, rfl⟩, by simp [DRs, DR]⟩
    · simp at h
theorem Rd.str (hu : P.underlying t = some .string) : Rd enc P w t fun xs => ∃ l : List UInt8, xs = [.s (.string ⟨l.toArray⟩)] ∧ l.length ≤ maxLen := by
  intro fuel cs d ps h
  cases fuel with
  | zero => simp [DataW.trod] at h
  | succ f =>
    unfold DataW.trod at h
    rw [hu] at h
    rcases cs with _ | ⟨c, _ | ⟨c2, cs⟩⟩
    · simp at h
    · cases c with
      | string s =>
        simp only at h
        split at h
        · rename_i hs
          exact ⟨_, ⟨s.data.toList, rfl, hs⟩, by simp [DRs, DR]⟩
        · cases h
      | _ => cases h
    · simp at h
theorem DRs.append_of {F : Nat → Prop} : ∀ {xs ys : List D} {us vs : List Value}, DRs F w xs us → DRs F w ys vs → DRs F w (xs ++ ys) (us ++ vs)
  | [], ys, us, vs, h1, h2 => by simp only [DRs] at h1; subst h1; exact h2
  | x :: xs, ys, us, vs, h1, h2 => by
    simp only [DRs] at h1
    obtain ⟨v, us', rfl, h3, h4⟩ := h1
    exact ⟨v, us' ++ vs, rfl, h3, DRs.append_of h4 h2⟩
theorem mapM_some {α β : Type} {f : α → Option β} : ∀ {l : List α} {r : List β}, l.mapM f = some r → r.length = l.length ∧ ∀ (i : Nat) (a : α), l[i]? = some a → ∃ b, f a = some b ∧ r[i]? = some b
  | [], r, h => by simp at h; subst h; exact ⟨rfl, fun i a h => by simp at h⟩
  | x :: l, r, h => by
    rw [List.mapM_cons] at h
    cases hx : f x with
    | none => rw [hx] at h; simp at h
    | some b =>
      rw [hx] at h
      cases hl : l.mapM f with
      | none => rw [hl] at h; simp at h
      | some bs =>
        rw [hl] at h
        simp at h
        subst h
        obtain ⟨h1, h2⟩ := mapM_some hl
        refine ⟨by simp [h1], fun i a ha => ?_⟩
        cases i with
        | zero => simp at ha; subst ha; exact ⟨b, hx, rfl⟩
        | succ i => simp at ha ⊢; exact h2 i a ha
theorem addr_add_add (a : Addr) (m j : Nat) : (a.add m).add j = a.add (m + j) := by
  unfold Addr.add
  by_cases h1 : m = 0
  · subst h1; simp
  · by_cases h2 : j = 0
    · subst h2; simp
    · rw [if_neg h1, if_neg h2, if_neg (by omega)]; simp [Nat.add_assoc]
theorem cells_some {a : Addr} {n : Nat} {vs : List Value} (h : w.cells? 0 a n = some vs) : vs.length = n ∧ ∀ j v, vs[j]? = some v → w.cell? (a.add j) = some v := by
  unfold World.cells? at h
  rw [if_pos (Nat.zero_le _)] at h
  obtain ⟨h1, h2⟩ := mapM_some h
  rw [List.length_range] at h1
  refine ⟨h1, fun j v hj => ?_⟩
  have hjn : j < n := by rw [← h1]; exact (List.getElem?_eq_some_iff.1 hj).1
  obtain ⟨b, hb, hr⟩ := h2 j j (by rw [List.getElem?_range hjn])
  rw [hj] at hr
  obtain rfl := Option.some.inj hr
  exact hb
theorem cell_spot {a : Addr} {v : Value} (h : w.cell? a = some v) : a.block < w.heap.size ∧ a.spot = none := by
  unfold World.cell? at h
  split at h
  · rename_i c t f hh
    refine ⟨(Array.getElem?_eq_some_iff.1 hh).1, ?_⟩
    cases hs : a.spot with
    | none => rfl
    | some x => rw [hs] at h; simp at h
  · cases h
theorem Rd.slice {e sz : Nat} {S : List D → Prop} (hu : P.underlying t = some (.slice e)) (hsz : P.cellsOf e = sz) (h0 : 0 < sz) (hS : Rd enc P w e S) :
    Rd enc P w t fun xs => ∃ yss : List (List D), (∀ ys ∈ yss, S ys ∧ ys.length = sz) ∧ xs = [.l yss.length yss.flatten] ∧ yss.length ≤ maxLen := by
  intro fuel cs d ps h
  cases fuel with
  | zero => simp [DataW.trod] at h
  | succ f =>
    unfold DataW.trod at h
    rw [hu] at h
    rcases cs with _ | ⟨c, _ | ⟨c2, cs⟩⟩
    · simp at h
    · cases c with
      | slice A len cap =>
        cases A with
        | none =>
          cases len <;> cases cap <;> simp at h
          exact ⟨_, ⟨[], by simp, rfl, Nat.zero_le _⟩, by simp [DRs, DR]⟩
        | some a =>
          simp only [hsz] at h
          split at h
          · rename_i hc
            obtain ⟨_, hc1, hc2⟩ := hc
            cases hm : (List.range len).mapM (fun i => (w.cells? 0 (a.add (i * sz)) sz).bind (DataW.trod enc P w 0 (fun _ => true) true f e)) with
            | none => rw [hm] at h; simp at h
            | some el =>
              obtain ⟨hl, hg⟩ := mapM_some hm
              rw [List.length_range] at hl
              have hel : ∀ i, i < len → ∃ vs ys, w.cells? 0 (a.add (i * sz)) sz = some vs ∧ S ys ∧ DRs (fun _ => False) w ys vs := by
                intro i hi
                obtain ⟨b, hb, _⟩ := hg i i (by rw [List.getElem?_range hi])
                cases hv : w.cells? 0 (a.add (i * sz)) sz with
                | none => rw [hv] at hb; simp at hb
                | some vs =>
                  rw [hv] at hb
                  simp only [Option.bind_some] at hb
                  obtain ⟨ys, h1, h2⟩ := hS f vs b.1 b.2 hb
                  exact ⟨vs, ys, rfl, h1, h2⟩
              have hpre : ∀ m, m ≤ len → ∃ (yss : List (List D)) (vs : List Value), yss.length = m ∧ (∀ ys ∈ yss, S ys ∧ ys.length = sz) ∧ vs.length = m * sz ∧ DRs (fun _ => False) w yss.flatten vs ∧ ∀ j v, vs[j]? = some v → w.cell? (a.add j) = some v := by
                intro m
                induction m with
                | zero => intro _; exact ⟨[], [], rfl, by simp, by simp, by simp [DRs], by simp⟩
                | succ m ih =>
                  intro hm
                  obtain ⟨yss, vs, h1, h2, h3, h4, h5⟩ := ih (by omega)
                  obtain ⟨us, ys, g1, g2, g3⟩ := hel m (by omega)
                  obtain ⟨k1, k2⟩ := cells_some g1
                  refine ⟨yss ++ [ys], vs ++ us, by simp [h1], ?_, by simp [h3, k1, Nat.succ_mul], by simpa using DRs.append_of h4 g3, fun j v hj => ?_⟩
                  · intro zs hz
                    rcases List.mem_append.1 hz with hz | hz
                    · exact h2 zs hz
                    · simp at hz; subst hz
                      exact ⟨g2, by rw [← DRs.length g3, k1]⟩
                  · by_cases hjv : j < vs.length
                    · rw [List.getElem?_append_left hjv] at hj
                      exact h5 j v hj
                    · rw [List.getElem?_append_right (by omega)] at hj
                      have := k2 (j - vs.length) v hj
                      rw [addr_add_add, h3, show m * sz + (j - m * sz) = j by omega] at this
                      exact this
              obtain ⟨yss, vs, h1, h2, h3, h4, h5⟩ := hpre len (Nat.le_refl _)
              refine ⟨[.l yss.length yss.flatten], ⟨yss, h2, rfl, by omega⟩, ?_⟩
              refine ⟨_, _, rfl, ?_, rfl⟩
              rw [h1]
              refine ⟨some a, cap, rfl, hc1, ?_⟩
              rcases Nat.eq_zero_or_pos len with h0' | hpos
              · subst h0'
                exact .inl ⟨by rw [List.length_eq_zero_iff.1 h1]; rfl, rfl⟩
              · have hv0 : ∃ v, vs[0]? = some v := ⟨vs[0]'(by rw [h3]; exact Nat.mul_pos hpos h0), by rw [List.getElem?_eq_getElem]⟩
                obtain ⟨v0, hv0⟩ := hv0
                have hc0 := h5 0 v0 hv0
                obtain ⟨hb, hs⟩ := cell_spot hc0
                obtain ⟨b, o, sp⟩ := a
                simp [Addr.add] at hb hs
                subst hs
                exact .inr ⟨b, o, vs, rfl, hb, fun h => h, fun j v hj => by have := h5 j v hj; rw [Addr.add_mid] at this; exact this, h4⟩
          · cases h
      | _ => cases h
    · simp at h
def layF (P : Program) : List Field → Nat → Nat → Bool
  | [], off, tot => decide (off = tot)
  | f :: fs, off, tot => decide (f.offset = off) && layF P fs (off + P.cellsOf f.type) tot
def RdF {H : Type} (enc : TypeId × Value → H) (P : Program) (w : World) : List Field → List (List D → Prop) → Prop
  | [], [] => True
  | f :: fs, S :: Ss => Rd enc P w f.type S ∧ RdF enc P w fs Ss
  | _, _ => False
def catS : List (List D → Prop) → List D → Prop
  | [], xs => xs = []
  | S :: Ss, xs => ∃ a b, S a ∧ catS Ss b ∧ xs = a ++ b
theorem RdF.read {fuel tot : Nat} {cs : List Value} (hc : cs.length = tot) : ∀ {fs : List Field} {Ss : List (List D → Prop)} {off : Nat} {r : List (DataW H × List MemPlace)}, layF P fs off tot = true → RdF enc P w fs Ss →
    fs.mapM (fun f => DataW.trod enc P w 0 (fun _ => true) true fuel f.type ((cs.drop f.offset).take (P.cellsOf f.type))) = some r → ∃ xs, catS Ss xs ∧ DRs (fun _ => False) w xs (cs.drop off)
  | [], [], off, r, hl, _, _ => by
    simp only [layF, decide_eq_true_eq] at hl
    exact ⟨[], rfl, by simp only [DRs]; exact List.drop_eq_nil_of_le (by omega)⟩
  | [], S :: Ss, off, r, hl, h, _ => h.elim
  | f :: fs, [], off, r, hl, h, _ => h.elim
  | f :: fs, S :: Ss, off, r, hl, h, hm => by
    simp only [layF, Bool.and_eq_true, decide_eq_true_eq] at hl
    rw [List.mapM_cons] at hm
    cases hx : DataW.trod enc P w 0 (fun _ => true) true fuel f.type ((cs.drop f.offset).take (P.cellsOf f.type)) with
    | none => rw [hx] at hm; simp at hm
    | some b =>
      rw [hx] at hm
      cases hr : fs.mapM (fun f => DataW.trod enc P w 0 (fun _ => true) true fuel f.type ((cs.drop f.offset).take (P.cellsOf f.type))) with
      | none => rw [hr] at hm; simp at hm
      | some bs =>
        obtain ⟨xs, h1, h2⟩ := h.1 fuel _ b.1 b.2 hx
        obtain ⟨ys, h3, h4⟩ := RdF.read hc hl.2 h.2 hr
        refine ⟨xs ++ ys, ⟨xs, ys, h1, h3, rfl⟩, ?_⟩
        rw [hl.1] at h2
        have := DRs.append_of h2 h4
        rw [← List.drop_drop, List.take_append_drop] at this
        exact this
theorem Rd.struct {fs : Array Field} {Ss : List (List D → Prop)} (hu : P.underlying t = some (.struct fs)) (hl : layF P fs.toList 0 (P.cellsOf t) = true) (hF : RdF enc P w fs.toList Ss) : Rd enc P w t (catS Ss) := by
  intro fuel cs d ps h
  cases fuel with
  | zero => simp [DataW.trod] at h
  | succ f =>
    unfold DataW.trod at h
    rw [hu] at h
    simp only at h
    split at h
    · rename_i hc
      cases hm : fs.toList.mapM (fun g => DataW.trod enc P w 0 (fun _ => true) true f g.type ((cs.drop g.offset).take (P.cellsOf g.type))) with
      | none => rw [hm] at h; simp at h
      | some r =>
        have := RdF.read hc hl hF hm
        simpa using this
    · cases h
theorem St.law (w : World) : St 0 w.heap.size (fun _ => False) [] [] w :=
  ⟨rfl, fun i ob h h1 => by simp at h1, fun i j ob h ob' h' b h1 => by simp at h1, fun b h => h.elim, Nat.le_refl _⟩
theorem AC.law {f : FuncId} {args : List V} {vals : List Value} {Q : V → List Ob → Prop} (h : AC P f args [] Q) (hq : ∀ x σ, Q x σ → x = bv true) (hv : VRs (fun _ => False) [] [] w args vals) :
    Calls P f vals.toArray w fun e w' => e = .returned (.bool true) ∧ Below w.heap.size w w' :=
  (h.2 (fun _ => False) [] w vals (St.law w) hv).mono fun e w' ⟨v, x, F', σ', μ', he, q, st, _, hx⟩ => by
    rw [hq x σ' q] at hx
    simp only [VR, DR] at hx
    subst hx
    refine ⟨he, st.os, st.tape, st.output, st.size, fun k hk => st.mem k hk ?_⟩
    rintro ⟨i, ob, u, h1, _⟩
    simp at h1
end
end Go.AW
namespace Go.AW
open Go Go.RowKit
section
variable {H : Type} {enc : TypeId × Value → H} {P : Program} {w : World} {t : TypeId} {F : Nat → Prop} {σ : List Ob} {μ : List Value}
theorem VR_one {x : D} {v : Value} (h : DRs F w [x] [v]) : VR F σ μ w (.d x) v := by
  simp only [DRs] at h
  obtain ⟨v', us, e, h1, rfl⟩ := h
  obtain ⟨rfl, _⟩ := List.cons.inj e
  exact h1
theorem wf_u8 {n : Int} (h : (Lit.int .u8 n).wf = true) : 0 ≤ n ∧ n ≤ 255 := by
  simp [Lit.wf, IntKind.min, IntKind.max, IntKind.bits, IntKind.signed] at h
  omega
end
end Go.AW
