/-
  The calculus: each operation does what its condition says.
-/
import Derived.Test.YtiiacdheopdooaaAwAo
namespace Go.AW
open Go

set_option linter.unusedSimpArgs false
set_option linter.unusedVariables false

section
variable {P : Program} {N k B : Nat} {F : Nat → Prop} {T : Tm} {σ : List Ob} {μ : List Value} {w : World} {Q : V → List Ob → Prop} {a : Act} {ty : TypeId} {pos : String} {af : Array Edge} {gd : Option (Nat × Bool)} {dst : Option Tmp}

theorem run_val {s : Sem Value} {w' : World} {r : Value} (h : s.run P w = .ok r w') : (do pure (Next.value (← s)) : Sem Next).run P w = .ok (.value r) w' := by simp [h]
theorem run_unit {s : Sem Unit} {w' : World} (h : s.run P w = .ok () w') : (do s; pure Next.skip : Sem Next).run P w = .ok .skip w' := by simp [Sem.run_bind, h]

theorem AOp.val {o : Oper} (h : ∀ B F μ w (a : Act), St k B F σ μ w → TR N F σ μ w T a.tmps → ∃ x v, Q x σ ∧ (execOp a.eval o).run P w = .ok (.value v) w ∧ VR F σ μ w x v) : AOp P N k o T σ Q := by
  intro B F μ w a st tr next X hn
  obtain ⟨x, v, hq, hr, hv⟩ := h B F μ w a st tr
  unfold Oper.wp
  rw [hr]
  exact hn v w (Lift.here st hq hv)

theorem onB_ok {x : V} {K : Bool → Prop} {v : Value} (h : onB x K) (hv : VR F σ μ w x v) : ∃ b, v = .bool b ∧ K b := by
  unfold onB at h
  split at h
  · simp only [VR, DR] at hv; exact ⟨_, hv, h⟩
  · exact h.elim
theorem onI_ok {x : V} {K : IntKind → Int → Prop} {v : Value} (h : onI x K) (hv : VR F σ μ w x v) : ∃ k n, v = .int k n ∧ K k n := by
  unfold onI at h
  split at h
  · simp only [VR, DR] at hv; exact ⟨_, _, hv, h⟩
  · exact h.elim

theorem s_move {x : Operand} (h : Q (ev T x) σ) : AOp P N k ⟨dst, .move x, ty, pos, af, gd⟩ T σ Q :=
  AOp.val fun B F μ w a st tr => ⟨_, a.eval x, h, by simp [execOp], ev_ok tr x⟩
theorem s_assign {x : Operand} (h : Q (ev T x) σ) : AOp P N k ⟨dst, .assign x, ty, pos, af, gd⟩ T σ Q :=
  AOp.val fun B F μ w a st tr => ⟨_, a.eval x, h, by simp [execOp], ev_ok tr x⟩
theorem s_pick {c x y : Operand} (h : onB (ev T c) fun t => Q (if t = true then ev T x else ev T y) σ) : AOp P N k ⟨dst, .pick c x y, ty, pos, af, gd⟩ T σ Q :=
  AOp.val fun B F μ w a st tr => by
    obtain ⟨b, hb, hq⟩ := onB_ok h (ev_ok tr c)
    refine ⟨_, if b = true then a.eval x else a.eval y, hq, by simp [execOp, hb, asBool], ?_⟩
    cases b
    · simpa using ev_ok tr y
    · simpa using ev_ok tr x
theorem s_bin {op : BinOp} {t t' : TypeId} {x y : Operand} (h : bin P op t (ev T x) (ev T y) fun z => Q z σ) : AOp P N k ⟨dst, .binOp op t x y t', ty, pos, af, gd⟩ T σ Q :=
  AOp.val fun B F μ w a st tr => by
    obtain ⟨z, r, hq, hr, hv⟩ := run_bin h (ev_ok tr x) (ev_ok tr y) x y
    exact ⟨z, r, hq, run_val hr, hv⟩
theorem s_not {t : TypeId} {x : Operand} (h : onB (ev T x) fun b => Q (bv (!b)) σ) : AOp P N k ⟨dst, .unOp .not t x, ty, pos, af, gd⟩ T σ Q :=
  AOp.val fun B F μ w a st tr => by
    obtain ⟨b, hb, hq⟩ := onB_ok h (ev_ok tr x)
    exact ⟨_, _, hq, by simp [execOp, hb, Op.unary], rfl⟩
theorem s_neg {t : TypeId} {x : Operand} (h : onI (ev T x) fun k n => Q (iv k (k.wrap (0 - n))) σ) : AOp P N k ⟨dst, .unOp .neg t x, ty, pos, af, gd⟩ T σ Q :=
  AOp.val fun B F μ w a st tr => by
    obtain ⟨j, n, hb, hq⟩ := onI_ok h (ev_ok tr x)
    exact ⟨_, .int j (j.wrap (0 - n)), hq, by simp [execOp, hb, Op.unary, Op.intArith], rfl⟩
theorem s_xor {t : TypeId} {x : Operand} (h : onI (ev T x) fun k n => Q (iv k (bitI .xor k (if k.signed = true then -1 else k.max) n)) σ) : AOp P N k ⟨dst, .unOp .xor t x, ty, pos, af, gd⟩ T σ Q :=
  AOp.val fun B F μ w a st tr => by
    obtain ⟨j, n, hb, hq⟩ := onI_ok h (ev_ok tr x)
    exact ⟨_, _, hq, by simp [execOp, hb, Op.unary, Op.intBits, bitI]; try rfl, rfl⟩

theorem elems_ok {x : V} {n : Nat} {l : List D} {v : Value} (st : St k B F σ μ w) (h : elems σ x = some (n, l)) (hv : VR F σ μ w x v) :
    (∃ A cap, v = .slice A n cap ∧ l = [] ∧ n = 0) ∨ ∃ b off cap vs, v = .slice (some ⟨b, off, none⟩) n cap ∧ n ≤ cap ∧ w.rangeAt b off vs ∧ DRs F w l vs := by
  unfold elems at h
  split at h
  · rename_i m ys
    simp at h
    obtain ⟨rfl, rfl⟩ := h
    simp only [VR, DR] at hv
    obtain ⟨A, cap, rfl, hn, h | ⟨b, off, vs, rfl, _, _, hc, hd⟩⟩ := hv
    · exact .inl ⟨A, cap, rfl, h.1, h.2⟩
    · exact .inr ⟨b, off, cap, vs, rfl, hn, hc, hd⟩
  · simp at h
    obtain ⟨rfl, rfl⟩ := h
    simp only [VR, DR] at hv
    exact .inl ⟨_, _, hv, rfl, rfl⟩
  · rename_i j m
    split at h
    · rename_i E sz n' cs hs
      split at h
      · rename_i hm
        subst hm
        simp at h
        obtain ⟨rfl, rfl⟩ := h
        obtain ⟨_, vs, hown, hd, _⟩ := own_hdr st hs hv
        rcases hown.2 with ⟨rfl, rfl⟩ | ⟨g, cap, cur, rfl, _, _, hc, _⟩
        · have : vs = [] := List.eq_nil_of_length_eq_zero (by simpa using hown.1)
          subst this
          have := DRs.length hd
          exact .inl ⟨none, 0, rfl, List.eq_nil_of_length_eq_zero (by simpa using this.symm), rfl⟩
        · exact .inr ⟨g, 0, cap, vs, rfl, hc, row_range hown rfl, hd⟩
      · simp at h
    · simp at h
  · simp at h

theorem intT_ok {t : TypeId} {j : IntKind} (h : intT P t = some j) : P.underlying t = some (.int j) := by
  unfold intT at h
  split at h <;> simp_all
theorem isS_ok {t : TypeId} (h : isS P t = true) : P.underlying t = some .string := by
  unfold isS at h
  split at h <;> simp_all
theorem isK_ok {t : TypeId} (h : isK P t = true) : ∃ d, P.underlying t = some d := by
  unfold isK at h
  exact Option.isSome_iff_exists.1 h

theorem run_bytes {s d e sz by_ n : Nat} {l : List D} {ns : List Int} {v : Value} {x : V} (st : St k B F σ μ w) (hs : sliT P s = some (e, sz, by_)) (he : intT P e = some .u8) (hd : isS P d = true)
    (hx : elems σ x = some (n, l)) (hl : l = ns.map (fun n => .s (.int .u8 n))) (hn : n = ns.length) (hv : VR F σ μ w x v) : (convert s d v).run P w = .ok (.string (strOfNums ns)) w := by
  have hu := (sliT_ok hs).1
  rcases elems_ok st hx hv with ⟨A, cap, rfl, h1, h2⟩ | ⟨b, off, cap, vs, rfl, _, hr, hds⟩
  · have : ns = [] := List.eq_nil_of_length_eq_zero (by omega)
    subst this
    subst h2
    cases A with
    | none => rw [run_convert_bytes_nil w s e hu (intT_ok he) 0 cap d (isS_ok hd)]; rfl
    | some a =>
      rw [run_convert_bytes_string w s d e _ 0 cap hu (intT_ok he) (isS_ok hd)]
      rw [run_bytesToString w a 0 cap [] (by simp [loadCells, loadCellsFrom])]
      rfl
  · refine run_convert_bytes_arg w s e hu (intT_ok he) b off n cap ns hn.symm (fun i hi => ?_) d (isS_ok hd)
    subst hl
    have hlen := DRs.length hds
    simp at hlen
    have hiv : i < vs.length := by omega
    have key : ∀ (l : List Int) (us : List Value), DRs F w (l.map (fun n => D.s (.int .u8 n))) us → us = l.map (Value.int .u8) := by
      intro l
      induction l with
      | nil => intro us h; simpa [DRs] using h
      | cons y l ih =>
        intro us h
        simp only [List.map_cons, DRs, DR] at h
        obtain ⟨v, us', rfl, rfl, h2⟩ := h
        rw [ih us' h2]
        simp
    have hvs := key ns vs hds
    refine hr i _ ?_
    rw [hvs, List.getElem?_map, List.getD_eq_getElem?_getD]
    rw [List.getElem?_eq_getElem (by omega)]
    rfl

theorem s_convert {s d : TypeId} {x : Operand} (h : ao P T σ Q (.convert s d x)) : AOp P N k ⟨dst, .convert s d x, ty, pos, af, gd⟩ T σ Q :=
  AOp.val fun B F μ w a st tr => by
    have hx := ev_ok tr x
    simp only [ao] at h
    split at h
    · rename_i n he
      obtain ⟨j, h1, h2, hq⟩ := h
      rw [he] at hx
      simp only [VR, DR] at hx
      obtain ⟨ds, hs⟩ := isK_ok h1
      exact ⟨_, _, hq, by simp [execOp, hx, convert, run_underlying hs, run_underlying (intT_ok h2), Conv.intToInt], rfl⟩
    · rename_i b he
      obtain ⟨h1, h2, hq⟩ := h
      rw [he] at hx
      simp only [VR, DR] at hx
      obtain ⟨ds, hs⟩ := isK_ok h1
      exact ⟨_, _, hq, by simp [execOp, hx, convert, run_underlying hs, run_underlying (isS_ok h2)], rfl⟩
    · obtain ⟨e, sz, by_, n, l, h1, h2, h3, h4, ns, h5, h6, hq⟩ := h
      exact ⟨_, _, hq, run_val (run_bytes st h1 h2 h3 h4 h5 h6 hx), rfl⟩

theorem getD_getElem? (s : ByteArray) (n : Nat) (h : n < s.size) : s[n]? = some (s.data.toList.getD n 0) := by
  have h' : n < s.data.toList.length := by rw [Array.length_toList]; exact h
  rw [List.getD_eq_getElem?_getD, List.getElem?_eq_getElem h']
  simp only [Option.getD_some, Array.getElem_toList]
  rw [getElem?_pos s n h]
  rfl

theorem s_index {t : TypeId} {x i : Operand} (h : ao P T σ Q (.index t x i)) : AOp P N k ⟨dst, .index t x i, ty, pos, af, gd⟩ T σ Q :=
  AOp.val fun B F μ w a st tr => by
    have hx := ev_ok tr x
    have hi := ev_ok tr i
    simp only [ao] at h
    split at h
    · rename_i s kk n e1 e2
      obtain ⟨h1, h2, hq⟩ := h
      rw [e1] at hx
      rw [e2] at hi
      simp only [VR, DR] at hx hi
      have := getD_getElem? s n.toNat (by omega)
      exact ⟨_, _, hq, by simp [execOp, hx, hi, Instr.index, asIntOf, run_underlying (isS_ok h1), h2.1, this], rfl⟩
    · exact h.elim

theorem s_nilCheck {x : Operand} (h : ao P T σ Q (.nilCheck x)) : AOp P N k ⟨dst, .nilCheck x, ty, pos, af, gd⟩ T σ Q :=
  AOp.val fun B F μ w a st tr => by
    have hx := ev_ok tr x
    simp only [ao] at h
    split at h
    · rename_i e1
      rw [e1] at hx
      have hx' := hx
      simp only [VR] at hx
      obtain ⟨b, _, _, _, _, hv⟩ := hx
      exact ⟨_, a.eval x, h, by simp [execOp, hv], hx'⟩
    · rename_i e1
      rw [e1] at hx
      have hx' := hx
      simp only [VR] at hx
      obtain ⟨_, _, _, _, _, b, _, _, hv, _⟩ := hx
      exact ⟨_, a.eval x, h, by simp [execOp, hv], hx'⟩
    · rename_i e1
      rw [e1] at hx
      have hx' := hx
      simp only [VR] at hx
      obtain ⟨b, off, vs, hv, _⟩ := hx
      exact ⟨_, a.eval x, h, by simp [execOp, hv], hx'⟩
    · rename_i e1
      rw [e1] at hx
      have hx' := hx
      simp only [VR] at hx
      obtain ⟨y, z, hv, _⟩ := hx
      exact ⟨_, a.eval x, h, by simp [execOp, hv], hx'⟩
    · exact h.elim

theorem add_ok {x : V} {n : Nat} {K : V → Prop} {v : Value} (h : add x n K) (hv : VR F σ μ w x v) : ∃ y b off, K y ∧ v = .pointer (some ⟨b, off, none⟩) ∧ VR F σ μ w y (.pointer (some ⟨b, off + n, none⟩)) := by
  unfold add at h
  split at h
  · simp only [VR] at hv
    obtain ⟨b, T', cs, h1, h2, rfl⟩ := hv
    exact ⟨_, b, _, h, rfl, ⟨b, T', cs, h1, h2, rfl⟩⟩
  · simp only [VR] at hv
    obtain ⟨E, sz, m, cs, u, b, h1, h2, rfl, h3, h4⟩ := hv
    exact ⟨_, b, _, h, rfl, ⟨E, sz, m, cs, u, b, h1, h2, rfl, h3, h4⟩⟩
  · simp only [VR] at hv
    obtain ⟨b, off, vs, rfl, h1, h2, h3, h4⟩ := hv
    exact ⟨_, b, off, h, rfl, ⟨b, off + n, vs.drop n, rfl, h1, h2, rangeAt_drop h3 n, DRs.drop h4 n⟩⟩
  · exact h.elim

theorem s_fieldAddr {t j : Nat} {x : Operand} (h : ao P T σ Q (.fieldAddr t x j)) : AOp P N k ⟨dst, .fieldAddr t x j, ty, pos, af, gd⟩ T σ Q :=
  AOp.val fun B F μ w a st tr => by
    have hx := ev_ok tr x
    simp only [ao] at h
    obtain ⟨n, h1, h2⟩ := h
    obtain ⟨y, b, off, hq, hv, hy⟩ := add_ok h2 hx
    refine ⟨y, _, hq, ?_, hy⟩
    unfold fldOff at h1
    split at h1
    · rename_i fs hu
      split at h1
      · rename_i f hf
        split at h1
        · rename_i i hi
          split at h1
          · simp at h1
          · rename_i hz
            simp at h1
            subst h1
            simp [execOp, hv, Instr.fieldAt, run_underlying hu, hf, Instr.sureAddr, fieldPlace, sizeOf, typeInfo, hi, hz, Addr.add_mid]
        · simp at h1
      · simp at h1
    · simp at h1

theorem s_load {t : TypeId} {x : Operand} (h : ao P T σ Q (.load t x)) : AOp P N k ⟨dst, .load t x, ty, pos, af, gd⟩ T σ Q :=
  AOp.val fun B F μ w a st tr => by
    simp only [ao] at h
    obtain ⟨y, h1, hq⟩ := h
    obtain ⟨u, hr, hu⟩ := run_rdx (P := P) st h1 (ev_ok tr x)
    exact ⟨y, u, hq, run_val hr, hu⟩

theorem arrT_ok {t m sz : Nat} (h : arrT P t = some (m, sz)) : ∃ e i, P.underlying t = some (.array m e) ∧ P.info? e = some i ∧ i.size = sz ∧ 2 ≤ m := by
  unfold arrT at h
  split at h
  · rename_i n e hu
    split at h
    · rename_i i hi
      split at h
      · rename_i h2
        simp at h
        obtain ⟨rfl, rfl⟩ := h
        exact ⟨e, i, hu, hi, rfl, h2⟩
      · simp at h
    · simp at h
  · simp at h

theorem s_indexAddr {t : TypeId} {x i : Operand} (h : ao P T σ Q (.indexAddr t x i)) : AOp P N k ⟨dst, .indexAddr t x i, ty, pos, af, gd⟩ T σ Q :=
  AOp.val fun B F μ w a st tr => by
    have hx := ev_ok tr x
    simp only [ao] at h
    obtain ⟨kk, n, hi, h⟩ := onI_ok h (ev_ok tr i)
    split at h
    · rename_i m ys e1
      obtain ⟨e, sz, by_, h1, h2, hq⟩ := h
      obtain ⟨hu, ii, z, hii, _, hs, _⟩ := sliT_ok h1
      rw [e1] at hx
      simp only [VR, DR] at hx
      obtain ⟨A, cap, hv, hn, h0 | ⟨b, off, vs, rfl, hb, hF, hc, hd⟩⟩ := hx
      · omega
      · refine ⟨_, _, hq, ?_, ⟨b, off + n.toNat * sz, vs.drop (n.toNat * sz), rfl, hb, hF, rangeAt_drop hc _, DRs.drop hd _⟩⟩
        simp [execOp, hi, hv, Instr.indexAt, asIntOf, run_underlying hu, sizeOf, typeInfo, hii, hs, h2.1, h2.2, Addr.add_mid]
    · rename_i j m e1
      obtain ⟨e, sz, by_, cs, h1, hs', h2, hq⟩ := h
      obtain ⟨hu, ii, z, hii, _, hs, _⟩ := sliT_ok h1
      rw [e1] at hx
      obtain ⟨hμ, vs, hown, hd, _⟩ := own_hdr st hs' hx
      rcases hown.2 with ⟨hv, rfl⟩ | ⟨g, cap, cur, hv, hr⟩
      · omega
      · refine ⟨_, .pointer (some ⟨g, n.toNat * sz, none⟩), hq, ?_, ⟨e, sz, m, cs, a.eval x, g, hs', hμ, rfl, Nat.le_refl _, fun _ => by rw [hv]; rfl⟩⟩
        simp [execOp, hi, hv, Instr.indexAt, asIntOf, run_underlying hu, sizeOf, typeInfo, hii, hs, h2.1, h2.2, Addr.add_mid]
    · rename_i j off e1
      obtain ⟨m, sz, h1, h2, hq⟩ := h
      obtain ⟨e, ii, hu, hii, hs, hm⟩ := arrT_ok h1
      rw [e1] at hx
      simp only [VR] at hx
      obtain ⟨b, T', cs, g1, g2, hv⟩ := hx
      refine ⟨_, .pointer (some ⟨b, off + n.toNat * sz, none⟩), hq, ?_, ⟨b, T', cs, g1, g2, rfl⟩⟩
      simp [execOp, hi, hv, Instr.indexAt, asIntOf, run_underlying hu, sizeOf, typeInfo, hii, hs, h2.1, h2.2, Addr.add_mid, Instr.sureAddr]
    · exact h.elim

theorem s_extract {j : Nat} {x : Operand} (h : ao P T σ Q (.extract x j)) : AOp P N k ⟨dst, .extract x j, ty, pos, af, gd⟩ T σ Q :=
  AOp.val fun B F μ w a st tr => by
    have hx := ev_ok tr x
    simp only [ao] at h
    split at h
    · rename_i vs e1
      obtain ⟨y, h1, hq⟩ := h
      rw [e1] at hx
      simp only [VR] at hx
      obtain ⟨cs, hv, hvs⟩ := hx
      obtain ⟨u, hu, hy⟩ := VRs.get hvs j y h1
      have hu' : cs[j]? = some u := by simpa using hu
      exact ⟨y, u, hq, by simp [execOp, hv, Instr.extract, hu'], hy⟩
    · exact h.elim

theorem s_makeFunc {fn : Fn} {fi ca : Array Operand} (h : ao P T σ Q (.makeFunc fn fi ca)) : AOp P N k ⟨dst, .makeFunc fn fi ca, ty, pos, af, gd⟩ T σ Q :=
  AOp.val fun B F μ w a st tr => by
    simp only [ao] at h
    refine ⟨_, .func fn (fi.map a.eval) (ca.map a.eval), h, by simp [execOp, Instr.makeFunc], ⟨_, _, rfl, ?_, ?_⟩⟩
    · rw [Array.toList_map]; exact evs_ok tr _
    · rw [Array.toList_map]; exact evs_ok tr _

theorem VRp_ev {a : Act} (tr : TR N F σ μ w T a.tmps) : ∀ l : List (Nat × Operand), VRp F σ μ w (l.map fun p => (p.1, ev T p.2)) (l.map fun p => (p.1, a.eval p.2))
  | [] => rfl
  | (i, x) :: l => ⟨_, _, rfl, ev_ok tr x, VRp_ev tr l⟩

theorem s_build {t : TypeId} {ps : Array (Nat × Operand)} (h : ao P T σ Q (.build t ps)) : AOp P N k ⟨dst, .build t ps, ty, pos, af, gd⟩ T σ Q :=
  AOp.val fun B F μ w a st tr => by
    simp only [ao] at h
    obtain ⟨zs, pl, cs, h1, h2, hq⟩ := h
    obtain ⟨v, hr, hv⟩ := run_build_V (P := P) h1 h2 (VRp_ev tr ps.toList)
    refine ⟨_, v, hq, ?_, hv⟩
    have e : (ps.map fun x => (x.1, a.eval x.2)) = (ps.toList.map fun p => (p.1, a.eval p.2)).toArray := by
      apply Array.ext'
      simp
    simp only [execOp]
    rw [e]
    exact run_val hr

theorem AOp.val2 {o : Oper} (h : ∀ B F μ w (a : Act), St k B F σ μ w → TR N F σ μ w T a.tmps → ∃ v w', (execOp a.eval o).run P w = .ok (.value v) w' ∧ Lift k B F σ μ w Q v w') : AOp P N k o T σ Q := by
  intro B F μ w a st tr next X hn
  obtain ⟨v, w', hr, hl⟩ := h B F μ w a st tr
  unfold Oper.wp
  rw [hr]
  exact hn v w' hl

theorem toDs_ok : ∀ {xs : List V} {ys : List D}, toDs xs = some ys → xs = ys.map .d
  | [], ys, h => by simp [toDs] at h; subst h; rfl
  | x :: xs, ys, h => by
    cases x with
    | d z =>
      simp only [toDs] at h
      cases hr : toDs xs with
      | none => simp [hr] at h
      | some zs =>
        simp [hr] at h
        subst h
        rw [toDs_ok hr]
        rfl
    | _ => simp [toDs] at h

theorem s_store {t : TypeId} {x y : Operand} (h : ao P T σ Q (.store t x y)) : AOp P N k ⟨dst, .store t x y, ty, pos, af, gd⟩ T σ Q := by
  intro B F μ w a st tr next X hn
  have hx := ev_ok tr x
  have hy := ev_ok tr y
  simp only [ao] at h
  split at h
  · rename_i i off e1
    obtain ⟨T', cs, h1, h2, h3, h4, hq⟩ := h
    rw [e1] at hx
    obtain ⟨w', hr, g1, g2, g3⟩ := store_box (P := P) (t := t) st h1 hx hy h2 h3 h4
    unfold Oper.wp
    simp only [execOp]
    rw [run_unit hr]
    exact hn undef w' ⟨_, F, _, μ, hq, g2, g1, g3, ⟨#[], rfl, rfl⟩⟩
  · rename_i i n off e1
    obtain ⟨E, sz, cs, ys, h1, h2, h3, h4, h5, hq⟩ := h
    rw [e1] at hx
    obtain ⟨w', hr, g1, g2, g3⟩ := store_row (P := P) (t := t) st h1 hx hy (toDs_ok h2) h3 h4 h5
    unfold Oper.wp
    simp only [execOp]
    rw [run_unit hr]
    exact hn undef w' ⟨_, F, _, μ, hq, g2, g1, g3, ⟨#[], rfl, rfl⟩⟩
  · exact h.elim

theorem s_alloc {t : TypeId} (h : ao P T σ Q (.alloc t)) : AOp P N k ⟨dst, .alloc t, ty, pos, af, gd⟩ T σ Q :=
  AOp.val2 fun B F μ w a st tr => by
    simp only [ao] at h
    obtain ⟨z, hz, hq⟩ := h
    unfold zr at hz
    split at hz
    · rename_i i hi
      split at hz
      · rename_i v hv
        simp at hz
        subst hz
        obtain ⟨F', μ', g1, g2, g3, g4⟩ := new_box (T := t) (arr := v.cells) st (cvs_ok v.cells.toList)
        exact ⟨.pointer (some ⟨w.heap.size, 0, none⟩), _, by simp [execOp, Instr.alloc, zeroValue, typeInfo, hi, hv, newVar, newRow], ⟨_, F', _, μ', hq, g2, g1, g3, g4⟩⟩
      · simp at hz
    · simp at hz

theorem s_box {t : TypeId} {x : Operand} (h : ao P T σ Q (.box t x)) : AOp P N k ⟨dst, .box t x, ty, pos, af, gd⟩ T σ Q :=
  AOp.val2 fun B F μ w a st tr => by
    simp only [ao] at h
    obtain ⟨h1, hq⟩ := h
    obtain ⟨F', μ', g1, g2, g3, g4⟩ := new_box (T := t) (arr := (a.eval x).cells) st (flat_ok (ev_ok tr x) h1)
    exact ⟨.pointer (some ⟨w.heap.size, 0, none⟩), _, by simp [execOp, Instr.box, newVar, newRow], ⟨_, F', _, μ', hq, g2, g1, g3, g4⟩⟩

/-- A new block that nobody writes. -/
theorem new_imm {E sz n : Nat} {ys : List D} {arr : Array Value} (st : St k B F σ μ w) (hv : DRs F w ys arr.toList) :
    St k B F σ μ (w.alloc (.cells arr E)) ∧ Stp k B F σ μ w F σ μ (w.alloc (.cells arr E)) ∧ VR F σ μ (w.alloc (.cells arr E)) (.d (.l n ys)) (.slice (some ⟨w.heap.size, 0, none⟩) n n) := by
  have hsz : (w.alloc (.cells arr E)).heap.size = w.heap.size + 1 := by simp
  have hmem : ∀ b, b < w.heap.size → (w.alloc (.cells arr E)).heap[b]? = w.heap[b]? := fun b hb => heap_alloc_old w _ hb
  have hm : Mem F w F (w.alloc (.cells arr E)) := ⟨by omega, fun b hb hF => ⟨hmem b hb, hF⟩⟩
  refine ⟨⟨st.len, fun i ob h h1 h2 => ?_, st.sep, fun b hb => by have := st.lt b hb; omega, by have := st.base; omega⟩,
    ⟨rfl, rfl, rfl, by omega, fun b hb _ => hmem b hb, fun _ h => .inl h, fun _ _ h => h, fun _ h => .inl h, Keep.refl _ _ _, fun _ _ _ _ _ _ _ _ _ _ _ _ _ h1 _ h2 b hb => by
      rw [h1] at h2; obtain rfl := Option.some.inj h2; exact .inl hb⟩, ?_⟩
  · exact ObOk.mono hm st.len (Keep.refl _ _ _) (fun b hb => ⟨hmem b (st.none_high h1 h2 hb), fun h => h⟩) (st.obj i ob h h1 h2)
  · refine ⟨_, n, rfl, Nat.le_refl _, .inr ⟨w.heap.size, 0, arr.toList, rfl, by omega, fun hF => ?_, rangeAt_block (heap_alloc_new w _), DRs.mem hm hv⟩⟩
    have := st.lt _ hF
    omega

theorem s_buildSlice {t n : Nat} {ps : Array (Nat × Operand)} (h : ao P T σ Q (.buildSlice t n ps)) : AOp P N k ⟨dst, .buildSlice t n ps, ty, pos, af, gd⟩ T σ Q :=
  AOp.val2 fun B F μ w a st tr => by
    simp only [ao] at h
    obtain ⟨e, sz, by_, cs, ys, h1, h2, h3, h4, h5, hq⟩ := h
    subst h2
    obtain ⟨arr, hr, hv, _⟩ := run_buildSlice_V (P := P) h1 h4 (VRp_ev tr ps.toList) (by simpa using h3)
    have hd := DRs.ofV ys arr.toList (by rw [← toDs_ok h5]; exact hv)
    obtain ⟨g1, g2, g3⟩ := new_imm (E := e) (n := ps.size) (sz := sz) st hd
    have e1 : (ps.map fun x => (x.1, a.eval x.2)) = (ps.toList.map fun p => (p.1, a.eval p.2)).toArray := by
      apply Array.ext'
      simp
    simp only [List.length_map, Array.length_toList] at hr
    refine ⟨.slice (some ⟨w.heap.size, 0, none⟩) ps.size ps.size, _, ?_, ⟨_, F, σ, μ, hq, g2, g1, Keep.refl _ _ _, g3⟩⟩
    simp only [execOp]
    rw [e1]
    exact run_val hr

theorem fldT_ok {t j f : Nat} (h : ao.fldT P t j = some f) : ∃ fs fd, P.underlying t = some (.struct fs) ∧ fs[j]? = some fd ∧ fd.type = f := by
  unfold ao.fldT at h
  split at h
  · rename_i fs hu
    obtain ⟨fd, h1, h2⟩ := Option.map_eq_some_iff.1 h
    exact ⟨fs, fd, hu, h1, h2⟩
  · simp at h

theorem s_field {t j : Nat} {x : Operand} (h : ao P T σ Q (.field t x j)) : AOp P N k ⟨dst, .field t x j, ty, pos, af, gd⟩ T σ Q :=
  AOp.val fun B F μ w a st tr => by
    have hx := ev_ok tr x
    simp only [ao] at h
    split at h
    · rename_i cs e1
      obtain ⟨n, f, h1, h2, y, h3, hq⟩ := h
      rw [e1] at hx
      simp only [VR] at hx
      obtain ⟨arr, hv, hvs⟩ := hx
      obtain ⟨fs, fd, hu, hf, rfl⟩ := fldT_ok h2
      have hoff : fd.offset = n := by
        unfold fldOff at h1
        rw [hu] at h1
        simp only [hf] at h1
        split at h1
        · split at h1 <;> simp_all
        · simp at h1
      have hd := VRs.drop hvs n
      unfold rdV at h3
      split at h3
      · rename_i sz hs
        split at h3
        · rename_i hl
          simp at h3
          subst h3
          obtain ⟨d, hu', hr', hi'⟩ := shp_row hs
          obtain ⟨i, hi, hsz⟩ := Option.map_eq_some_iff.1 hi'
          have hag : (isAgg fd.type).run P w = .ok true w := by
            unfold isAgg
            rw [Sem.run_bind, run_underlying hu' w]
            cases d <;> simp_all
          refine ⟨_, .agg (arr.extract n (n + sz)), hq, ?_, ⟨_, rfl, ?_⟩⟩
          · simp [execOp, hv, Instr.field, run_underlying hu, hf, asAgg, part, hag, sizeOf, typeInfo, hi, hsz, hoff]
          · have := VRs.take hd sz
            simpa [List.take_drop, Nat.add_comm] using this
        · simp at h3
      · rename_i hs
        obtain ⟨d, i, hu', hr', hi, hsz⟩ := shp_one hs
        cases hc : cs.drop n with
        | nil => simp [hc] at h3
        | cons y' ys =>
          simp [hc] at h3
          subst h3
          rw [hc] at hd
          simp only [VRs] at hd
          obtain ⟨v, us, hvs', hy, _⟩ := hd
          have hget : arr[n]? = some v := by
            have := congrArg (fun l => l[0]?) hvs'
            simpa using this
          exact ⟨_, v, hq, by simp [execOp, hv, Instr.field, run_underlying hu, hf, asAgg, part, run_isAgg_one hu' hr', hoff, hget], hy⟩
      · simp at h3
    · exact h.elim

theorem run_bound {n : Nat} {j : IntKind} {i : Int} {c : BoundsCode} (h : 0 ≤ i ∧ i ≤ n) : (Instr.sliceBound (.int j i) n c).run P w = .ok i.toNat w := by
  simp [Instr.sliceBound, asIntOf, h.1, h.2]

theorem sliceAt_not_array {t : TypeId} {x : Value} {lo hi mx : Option Value} {d : TypeDesc} (hu : P.underlying t = some d) (hd : ∀ n e, d ≠ .array n e) :
    (Instr.sliceAt t x lo hi mx).run P w = (Instr.slice t x lo hi mx).run P w := by
  unfold Instr.sliceAt
  rw [Sem.run_bind, run_underlying hu w]
  cases d <;> simp_all

theorem run_slice_str {t : TypeId} {s : ByteArray} {lo hi : Option Value} {l r m : Nat} (hu : P.underlying t = some .string) (hb : (Instr.sliceBounds false s.size s.size lo hi none).run P w = .ok (l, r, m) w) :
    (Instr.sliceAt t (.string s) lo hi none).run P w = .ok (.string (s.extract l r)) w := by
  rw [sliceAt_not_array hu (by simp)]
  simp [Instr.slice, run_underlying hu, hb]

theorem run_slice_imm {t e sz by_ n cap : Nat} {A : Option Addr} {lo hi : Option Value} {l r : Nat} (ht : sliT P t = some (e, sz, by_)) (hb : (Instr.sliceBounds true n cap lo hi none).run P w = .ok (l, r, cap) w) :
    (Instr.sliceAt t (.slice A n cap) lo hi none).run P w = .ok (.slice (if cap = l then A else A.map (·.add (l * sz))) (r - l) (cap - l)) w := by
  obtain ⟨hu, i, z, hi, _, hs, _⟩ := sliT_ok ht
  rw [sliceAt_not_array hu (by simp)]
  simp [Instr.slice, run_underlying hu, hb, sizeOf, typeInfo, hi, hs]

/-- A part of a slice that nobody writes. -/
theorem part_imm {A : Option Addr} {n cap sz l r : Nat} {ys : List D} (hv : VR F σ μ w (.d (.l n ys)) (.slice A n cap)) (hlr : l ≤ r) (hrn : r ≤ n) :
    VR F σ μ w (.d (.l (r - l) ((ys.drop (l * sz)).take ((r - l) * sz)))) (.slice (if cap = l then A else A.map (·.add (l * sz))) (r - l) (cap - l)) := by
  simp only [VR, DR] at hv ⊢
  obtain ⟨A', cap', hv, hn, h⟩ := hv
  simp at hv
  obtain ⟨rfl, rfl⟩ := hv
  refine ⟨_, _, rfl, by omega, ?_⟩
  rcases h with ⟨rfl, rfl⟩ | ⟨b, off, vs, rfl, hb, hF, hc, hd⟩
  · exact .inl ⟨by simp, by omega⟩
  · by_cases e : r - l = 0
    · exact .inl ⟨by simp [e], e⟩
    · refine .inr ⟨b, off + l * sz, (vs.drop (l * sz)).take ((r - l) * sz), ?_, hb, hF, rangeAt_take (rangeAt_drop hc _) _, DRs.take (DRs.drop hd _) _⟩
      rw [if_neg (by omega)]
      simp [Addr.add_mid]

theorem s_slice {t : TypeId} {x : Operand} {lo hi : Option Operand} (h : ao P T σ Q (.slice t x lo hi none)) : AOp P N k ⟨dst, .slice t x lo hi none, ty, pos, af, gd⟩ T σ Q :=
  AOp.val fun B F μ w a st tr => by
    have hx := ev_ok tr x
    simp only [ao] at h
    split at h
    · rename_i s e1
      obtain ⟨h1, h⟩ := h
      have hu := isS_ok h1
      rw [e1] at hx
      simp only [VR, DR] at hx
      have key : ∀ l r m : Nat, (Instr.sliceBounds false s.size s.size (lo.map a.eval) (hi.map a.eval) none).run P w = .ok (l, r, m) w → Q (sv (s.extract l r)) σ →
          ∃ x1 v, Q x1 σ ∧ (execOp a.eval ⟨dst, .slice t x lo hi none, ty, pos, af, gd⟩).run P w = .ok (.value v) w ∧ VR F σ μ w x1 v := fun l r m hb hq =>
        ⟨_, _, hq, run_val (by rw [hx]; exact run_slice_str hu hb), rfl⟩
      rcases lo with _ | l <;> rcases hi with _ | r
      · refine key 0 s.size s.size (by simp [Instr.sliceBounds]) ?_
        have e : s.extract 0 s.size = s := by apply ByteArray.ext; rw [ByteArray.data_extract]; exact Array.extract_size
        rw [e]; exact h
      · obtain ⟨j, m, hm, hb, hq⟩ := onI_ok h (ev_ok tr r)
        exact key 0 m.toNat s.size (by simp [Instr.sliceBounds, hm, run_bound hb]) hq
      · obtain ⟨j, m, hm, hb, hq⟩ := onI_ok h (ev_ok tr l)
        exact key m.toNat s.size s.size (by simp [Instr.sliceBounds, hm, run_bound hb]) hq
      · obtain ⟨j, m, hm, h⟩ := onI_ok h (ev_ok tr l)
        obtain ⟨j2, m2, hm2, hb, hq⟩ := onI_ok h (ev_ok tr r)
        exact key m.toNat m2.toNat s.size (by simp [Instr.sliceBounds, hm, hm2, run_bound (show 0 ≤ m2 ∧ m2 ≤ (s.size : Int) from by omega), run_bound (n := m2.toNat) (show 0 ≤ m ∧ m ≤ ((m2.toNat : Nat) : Int) from by omega)]) hq
    · rename_i n ys e1
      obtain ⟨e, sz, by_, h1, h⟩ := h
      rw [e1] at hx
      obtain ⟨A, cap, hv, hn⟩ : ∃ A cap, a.eval x = .slice A n cap ∧ n ≤ cap := by simp only [VR, DR] at hx; obtain ⟨A, cap, hv, hn, _⟩ := hx; exact ⟨A, cap, hv, hn⟩
      rw [hv] at hx
      have key : ∀ l r : Nat, ∀ zs, (Instr.sliceBounds true n cap (lo.map a.eval) (hi.map a.eval) none).run P w = .ok (l, r, cap) w → l ≤ r → r ≤ n → zs = (ys.drop (l * sz)).take ((r - l) * sz) → Q (.d (.l (r - l) zs)) σ →
          ∃ x1 v, Q x1 σ ∧ (execOp a.eval ⟨dst, .slice t x lo hi none, ty, pos, af, gd⟩).run P w = .ok (.value v) w ∧ VR F σ μ w x1 v := fun l r zs hb h2 h3 hz hq => by
        subst hz
        exact ⟨_, _, hq, run_val (by rw [hv]; exact run_slice_imm h1 hb), part_imm hx h2 h3⟩
      rcases lo with _ | l <;> rcases hi with _ | r
      · obtain ⟨hl, hq⟩ := h
        exact key 0 n ys (by simp [Instr.sliceBounds]) (Nat.zero_le _) (Nat.le_refl _) (by simp; rw [List.take_of_length_le (by omega)]) (by simpa using hq)
      · obtain ⟨j, m, hm, hb, hq⟩ := onI_ok h (ev_ok tr r)
        exact key 0 m.toNat _ (by simp [Instr.sliceBounds, hm, run_bound (show 0 ≤ m ∧ m ≤ (cap : Int) from by omega)]) (Nat.zero_le _) (by omega) rfl (by simpa using hq)
      · obtain ⟨j, m, hm, hb, hl, hq⟩ := onI_ok h (ev_ok tr l)
        refine key m.toNat n _ (by simp [Instr.sliceBounds, hm, run_bound hb]) (by omega) (Nat.le_refl _) rfl ?_
        rw [List.take_of_length_le (by rw [List.length_drop, hl, Nat.sub_mul]; exact Nat.le_refl _)]
        exact hq
      · obtain ⟨j, m, hm, h⟩ := onI_ok h (ev_ok tr l)
        obtain ⟨j2, m2, hm2, hb, hq⟩ := onI_ok h (ev_ok tr r)
        exact key m.toNat m2.toNat _ (by simp [Instr.sliceBounds, hm, hm2, run_bound (show 0 ≤ m2 ∧ m2 ≤ (cap : Int) from by omega), run_bound (n := m2.toNat) (show 0 ≤ m ∧ m ≤ ((m2.toNat : Nat) : Int) from by omega)]) (by omega) (by omega) rfl hq
    · exact h.elim

theorem run_builtin {b : Builtin} {c : Array Operand} {ts : Array TypeId} {a : Act} (hb : b ≠ .panic ∧ b ≠ .print ∧ b ≠ .println ∧ b ≠ .recover) :
    (execOp a.eval ⟨dst, .call { callee := .builtin b, args := c, argTypes := ts }, ty, pos, af, gd⟩) = builtin b ts ty (c.map fun | .const _ => true | _ => false) (c.map a.eval) := rfl

theorem s_len {args : Array Operand} {ts : Array TypeId} (h : ao P T σ Q (.call { callee := .builtin .len, args := args, argTypes := ts })) :
    AOp P N k ⟨dst, .call { callee := .builtin .len, args := args, argTypes := ts }, ty, pos, af, gd⟩ T σ Q :=
  AOp.val fun B F μ w a st tr => by
    simp only [ao] at h
    split at h
    · rename_i x t e1 e2
      have ea : args = #[x] := by apply Array.ext'; simpa using e1
      have et : ts = #[t] := by apply Array.ext'; simpa using e2
      subst ea; subst et
      have hx := ev_ok tr x
      have key : ∀ n : Int, (Builtin.len_ #[t] ty #[a.eval x]).run P w = .ok (.int .i64 n) w → Q (iv .i64 n) σ →
          ∃ x1 v, Q x1 σ ∧ (execOp a.eval ⟨dst, .call { callee := .builtin .len, args := #[x], argTypes := #[t] }, ty, pos, af, gd⟩).run P w = .ok (.value v) w ∧ VR F σ μ w x1 v := fun n hr hq =>
        ⟨_, _, hq, by simp [execOp, resolve, invoke, builtin, hr], rfl⟩
      split at h
      · rename_i s e3
        obtain ⟨h1, hq⟩ := h
        rw [e3] at hx
        simp only [VR, DR] at hx
        exact key _ (by simp [Builtin.len_, run_underlying (isS_ok h1), hx, goInt]) hq
      · rename_i n ys e3
        obtain ⟨h1, hq⟩ := h
        obtain ⟨⟨e, sz, by_⟩, h1⟩ := Option.isSome_iff_exists.1 h1
        rw [e3] at hx
        simp only [VR, DR] at hx
        obtain ⟨A, cap, hv, _⟩ := hx
        exact key _ (by simp [Builtin.len_, run_underlying (sliT_ok h1).1, hv, goInt]) hq
      · rename_i e3
        obtain ⟨h1, hq⟩ := h
        obtain ⟨⟨e, sz, by_⟩, h1⟩ := Option.isSome_iff_exists.1 h1
        rw [e3] at hx
        simp only [VR, DR] at hx
        exact key _ (by simp [Builtin.len_, run_underlying (sliT_ok h1).1, hx, goInt]) hq
      · rename_i i n e3
        obtain ⟨h1, hq⟩ := h
        obtain ⟨⟨e, sz, by_⟩, h1⟩ := Option.isSome_iff_exists.1 h1
        rw [e3] at hx
        simp only [VR] at hx
        obtain ⟨_, _, _, _, _, A, cap, _, _, hv, _⟩ := hx
        exact key _ (by simp [Builtin.len_, run_underlying (sliT_ok h1).1, hv, goInt]) hq
      · exact h.elim
    · exact h.elim

theorem s_min {args : Array Operand} {ts : Array TypeId} (h : ao P T σ Q (.call { callee := .builtin .min, args := args, argTypes := ts })) :
    AOp P N k ⟨dst, .call { callee := .builtin .min, args := args, argTypes := ts }, ty, pos, af, gd⟩ T σ Q :=
  AOp.val fun B F μ w a st tr => by
    simp only [ao] at h
    split at h
    · rename_i x y e1
      have ea : args = #[x, y] := by apply Array.ext'; simpa using e1
      subst ea
      obtain ⟨j, m, hx, h⟩ := onI_ok h (ev_ok tr x)
      obtain ⟨j2, m2, hy, hq⟩ := onI_ok h (ev_ok tr y)
      exact ⟨_, _, hq, by simp [execOp, resolve, invoke, builtin, Builtin.min_, Builtin.min2, hx, hy], rfl⟩
    · exact h.elim

theorem s_max {args : Array Operand} {ts : Array TypeId} (h : ao P T σ Q (.call { callee := .builtin .max, args := args, argTypes := ts })) :
    AOp P N k ⟨dst, .call { callee := .builtin .max, args := args, argTypes := ts }, ty, pos, af, gd⟩ T σ Q :=
  AOp.val fun B F μ w a st tr => by
    simp only [ao] at h
    split at h
    · rename_i x y e1
      have ea : args = #[x, y] := by apply Array.ext'; simpa using e1
      subst ea
      obtain ⟨j, m, hx, h⟩ := onI_ok h (ev_ok tr x)
      obtain ⟨j2, m2, hy, hq⟩ := onI_ok h (ev_ok tr y)
      exact ⟨_, _, hq, by simp [execOp, resolve, invoke, builtin, Builtin.max_, Builtin.max2, hx, hy], rfl⟩
    · exact h.elim

theorem strD_ok (s : ByteArray) : DRs F w (strD s) (Lib.strCells s) := by
  unfold strD Lib.strCells
  induction s.data.toList with
  | nil => simp [DRs]
  | cons b l ih => exact ⟨_, _, rfl, rfl, ih⟩

/-- What an append takes from. -/
theorem srcOf_ok {x : V} {u m sz : Nat} {ys : List D} {v : Value} (st : St k B F σ μ w) (h : srcOf P u sz σ x = some (m, ys)) (hl : ys.length = m * sz) (h1 : onesD ys = true) (hv : VR F σ μ w x v) :
    ∃ news, Src P w u sz v m news ∧ DRs F w ys news := by
  have slices : (sliT P u).isSome = true → elems σ x = some (m, ys) → ∃ news, Src P w u sz v m news ∧ DRs F w ys news := by
    intro h2 h3
    obtain ⟨⟨e, sz', by_⟩, h2⟩ := Option.isSome_iff_exists.1 h2
    have hu := (sliT_ok h2).1
    rcases elems_ok st h3 hv with ⟨A, cap, rfl, rfl, rfl⟩ | ⟨b, off, cap, vs, rfl, _, hr, hd⟩
    · exact ⟨[], Src.none A cap hu, by simp [DRs]⟩
    · exact ⟨vs, Src.slice hu hr (onesD_ok _ _ hd h1) (by rw [DRs.length hd, hl]), hd⟩
  unfold srcOf at h
  split at h
  · rename_i s
    split at h
    · rename_i hs
      simp at h
      obtain ⟨rfl, rfl⟩ := h
      obtain ⟨hs, rfl⟩ := hs
      simp only [VR, DR] at hv
      subst hv
      exact ⟨_, Src.string s (isS_ok hs), strD_ok s⟩
    · simp at h
  · split at h
    · rename_i hs
      exact slices hs h
    · simp at h

theorem s_append {args : Array Operand} {ts : Array TypeId} (h : ao P T σ Q (.call { callee := .builtin .append, args := args, argTypes := ts })) :
    AOp P N k ⟨dst, .call { callee := .builtin .append, args := args, argTypes := ts }, ty, pos, af, gd⟩ T σ Q :=
  AOp.val2 fun B F μ w a st tr => by
    simp only [ao] at h
    split at h
    · rename_i s x t u e1 e2
      have ea : args = #[s, x] := by apply Array.ext'; simpa using e1
      have et : ts = #[t, u] := by apply Array.ext'; simpa using e2
      subst ea; subst et
      obtain ⟨e, sz, by_, m, ys, h1, h2, h3, h4, h⟩ := h
      obtain ⟨news, src, hn⟩ := srcOf_ok st h2 h3 h4 (ev_ok tr x)
      have hs := ev_ok tr s
      have fin : ∀ v w', (Builtin.append_ #[t, u] t #[a.eval s, a.eval x]).run P w = .ok v w' → (execOp a.eval ⟨dst, .call { callee := .builtin .append, args := #[s, x], argTypes := #[t, u] }, ty, pos, af, gd⟩).run P w = .ok (.value v) w' := by
        intro v w' hr
        have hr' : (Builtin.append_ #[t, u] ty #[a.eval s, a.eval x]).run P w = .ok v w' := hr
        simp [execOp, resolve, invoke, builtin, hr']
      split at h
      · rename_i i n e3
        obtain ⟨cs, g1, g2, hq⟩ := h
        rw [e3] at hs
        obtain ⟨v', w', F', μ', hr, k1, k2, k3, k4⟩ := append_row (P := P) h1 st g1 hs src hn g2
        exact ⟨v', w', fin _ _ hr, ⟨_, F', _, μ', hq, k2, k1, k3, k4⟩⟩
      · rename_i e3
        obtain ⟨g2, hq⟩ := h
        rw [e3] at hs
        simp only [VR, DR] at hs
        obtain ⟨m1, m2, m3, m4⟩ := nil_row e sz st
        rw [hs] at fin
        obtain ⟨v', w', F', μ', hr, k1, k2, k3, k4⟩ := append_row (P := P) (i := σ.length) (n := 0) (cs := []) h1 m1 (by simp) m4 src hn (by rw [Nat.zero_add]; exact g2)
        have e4 : (σ ++ [Ob.row e sz 0 []]).set σ.length (.row e sz (0 + m) ([] ++ ys)) = σ ++ [.row e sz m ys] := by
          rw [List.set_append_right _ _ (Nat.le_refl _)]
          simp
        rw [e4] at k1 k2 k3 k4
        rw [Nat.zero_add] at k4
        exact ⟨v', w', fin _ _ hr, ⟨_, F', _, μ', hq, m2.trans k2, k1, m3.trans (k3.mono (by simp)), k4⟩⟩
      · exact h.elim
    · exact h.elim

/-- Every operation that is no call of a Go function. -/
theorem ao_sound (o : Oper) (h : ao P T σ Q o.op) : AOp P N k o T σ Q := by
  obtain ⟨dst, op, ty, pos, af, gd⟩ := o
  simp only at h
  cases op with
  | move x => exact s_move h
  | assign x => exact s_assign h
  | pick c x y => exact s_pick h
  | binOp op t x y t' => exact s_bin h
  | unOp u t x => cases u with
    | not => exact s_not h
    | neg => exact s_neg h
    | xor => exact s_xor h
    | plus => exact h.elim
  | convert s d x => exact s_convert h
  | index t x i => exact s_index h
  | nilCheck x => exact s_nilCheck h
  | fieldAddr t x j => exact s_fieldAddr h
  | indexAddr t x i => exact s_indexAddr h
  | load t x => exact s_load h
  | store t x y => exact s_store h
  | alloc t => exact s_alloc h
  | box t x => exact s_box h
  | build t ps => exact s_build h
  | buildSlice t n ps => exact s_buildSlice h
  | slice t x lo hi mx => cases mx with
    | none => exact s_slice h
    | some m => exact h.elim
  | extract x j => exact s_extract h
  | field t x j => exact s_field h
  | makeFunc fn fi ca => exact s_makeFunc h
  | call c =>
    obtain ⟨callee, args, ts⟩ := c
    cases callee with
    | builtin b => cases b with
      | len => exact s_len h
      | append => exact s_append h
      | min => exact s_min h
      | max => exact s_max h
      | _ => exact h.elim
    | _ => exact h.elim
  | _ => exact h.elim
end
end Go.AW
