/-
  The calculus: own rows that nobody writes any more become data; loops over such; strings compared by the runtime.
-/
import Derived.Laws.Externs
import Derived.Lib.Bytealg
import Derived.Test.YtdjeilbhdleopaaGreatP16
set_option linter.unusedVariables false
set_option linter.unusedSimpArgs false
set_option maxHeartbeats 4000000
set_option maxRecDepth 10000
namespace Go.AW
open Go
def fzT (σ : List Ob) (m : Nat) : Tm → Tm
  | [] => []
  | (n, x) :: T => (n, fz σ m x) :: fzT σ m T
attribute [go_sem] fzT
end Go.AW
namespace Go.AW
open Go
mutual
def nzD : D → D
  | .s (.slice none 0 0) => .l 0 []
  | .l n xs => .l n (nzDs xs)
  | x => x
def nzDs : List D → List D
  | [] => []
  | x :: xs => nzD x :: nzDs xs
end
mutual
theorem nzD_ok {F : Nat → Prop} {w : World} : ∀ (x : D) (v : Value), DR F w x v → DR F w (nzD x) v
  | .s u, v, h => by
    unfold nzD
    split
    · rename_i e
      cases e
      simp only [DR] at h ⊢
      exact ⟨none, 0, h, Nat.le_refl _, .inl (by simp)⟩
    · rename_i e; cases e
    · exact h
  | .l n xs, v, h => by
    simp only [nzD, DR] at h ⊢
    obtain ⟨A, cap, hv, hn, ⟨rfl, h⟩ | ⟨b, off, vs, hA, hb, hF, hc, hd⟩⟩ := h
    · exact ⟨A, cap, hv, hn, .inl ⟨rfl, h⟩⟩
    · exact ⟨A, cap, hv, hn, .inr ⟨b, off, vs, hA, hb, hF, hc, nzDs_ok xs vs hd⟩⟩
theorem nzDs_ok {F : Nat → Prop} {w : World} : ∀ (xs : List D) (vs : List Value), DRs F w xs vs → DRs F w (nzDs xs) vs
  | [], vs, h => h
  | x :: xs, vs, h => by
    simp only [nzDs, DRs] at h ⊢
    obtain ⟨v, us, hv, h1, h2⟩ := h
    exact ⟨v, us, hv, nzD_ok x v h1, nzDs_ok xs us h2⟩
end
mutual
def nzV : V → V
  | .d x => .d (nzD x)
  | .a xs => .a (nzVs xs)
  | x => x
def nzVs : List V → List V
  | [] => []
  | x :: xs => nzV x :: nzVs xs
end
mutual
theorem nzV_ok {F : Nat → Prop} {σ : List Ob} {μ : List Value} {w : World} : ∀ (x : V) (v : Value), VR F σ μ w x v → VR F σ μ w (nzV x) v
  | .d x, v, h => by simp only [nzV, VR] at h ⊢; exact nzD_ok x v h
  | .a xs, v, h => by
    simp only [nzV, VR] at h ⊢
    obtain ⟨cs, hv, h⟩ := h
    exact ⟨cs, hv, nzVs_ok xs _ h⟩
  | .t _, v, h => h
  | .p _ _, v, h => h
  | .c _, v, h => h
  | .o _ _, v, h => h
  | .e _ _ _, v, h => h
  | .b _ _ _, v, h => h
  | .g _ _, v, h => h
  | .f _ _ _, v, h => h
  | .u, v, h => h
theorem nzVs_ok {F : Nat → Prop} {σ : List Ob} {μ : List Value} {w : World} : ∀ (xs : List V) (vs : List Value), VRs F σ μ w xs vs → VRs F σ μ w (nzVs xs) vs
  | [], vs, h => h
  | x :: xs, vs, h => by
    simp only [nzVs, VRs] at h ⊢
    obtain ⟨v, us, hv, h1, h2⟩ := h
    exact ⟨v, us, hv, nzV_ok x v h1, nzVs_ok xs us h2⟩
end
def nzOb : Ob → Ob
  | .row E sz n cs => .row E sz n (nzDs cs)
  | ob => ob
attribute [go_sem] nzOb nzDs nzD
end Go.AW
namespace Go.AW
open Go
section
variable {P : Program} {N k : Nat} {T : Tm} {σ : List Ob} {Q : V → List Ob → Prop} {B : Nat} {F : Nat → Prop} {μ : List Value} {w : World} {a : Act} {ty : TypeId} {pos : String} {af : Array Edge} {gd : Option (Nat × Bool)} {dst : Option Tmp}
theorem AOp.buildB {t n : Nat} {ps : Array (Nat × Operand)} (e sz by_ : Nat) (cs : List V) (h1 : sliT P t = some (e, sz, by_)) (h2 : n = ps.size) (h3 : ps.size * sz ≤ 16777216) (h4 : buildCells sz 0 (ps.toList.map fun p => (p.1, ev T p.2)) = some cs)
    (hq : Q (.b σ.length 0 n) (σ ++ [.box e cs])) : AOp P N k ⟨dst, .buildSlice t n ps, ty, pos, af, gd⟩ T σ Q :=
  AOp.val2 fun B F μ w a st tr => by
    subst h2
    obtain ⟨arr, hr, hv, _⟩ := run_buildSlice_V (P := P) h1 h4 (VRp_ev tr ps.toList) (by simpa using h3)
    have e1 : (ps.map fun x => (x.1, a.eval x.2)) = (ps.toList.map fun p => (p.1, a.eval p.2)).toArray := by
      apply Array.ext'
      simp
    simp only [List.length_map, Array.length_toList] at hr
    obtain ⟨F', μ', g1, g2, g3, g4, g5⟩ := new_box (T := e) (arr := arr) st hv
    obtain ⟨b, T', cs', k1, k2, k3⟩ := g4
    refine ⟨.slice (some ⟨w.heap.size, 0, none⟩) ps.size ps.size, _, ?_, ⟨_, F', _, μ', hq, g2, g1, g3, ⟨b, T', cs', k1, k2, ps.size, ?_, rfl⟩, g5⟩⟩
    · simp only [execOp]
      rw [e1]
      exact run_val hr
    · simp only [Value.pointer.injEq, Option.some.injEq, Addr.mk.injEq, true_and, and_true] at k3
      rw [k3]
theorem append_data {i off n : Nat} {x : V} {t u ty : TypeId} {vs vx : Value} {e sz by_ m : Nat} {ys : List D} {T' : TypeId} {cs : List V} (st : St k B F σ μ w) (ht : sliT P t = some (e, sz, by_)) (hu' : (sliT P u).isSome = true) (hsrc : elems σ x = some (m, ys)) (hi' : σ[i]? = some (.box T' cs)) (hm : 0 < m) (hys : m * sz ≤ ys.length) (hcs : off + n * sz ≤ cs.length) (hbytes : (n + m) * by_ ≤ 140737488355328)
    (hq : Q (.g σ.length (n + m)) (σ ++ [.box e ((cs.drop off).take (n * sz) ++ (ys.map V.d).take (m * sz))])) (hs : VR F σ μ w (.b i off n) vs) (hx : VR F σ μ w x vx) :
    ∃ v' w' F' σ' μ' x', (Builtin.append_ #[t, u] ty #[vs, vx]).run P w = .ok v' w' ∧ Q x' σ' ∧ St k B F' σ' μ' w' ∧ Stp k B F σ μ w F' σ' μ' w' ∧ Keep σ.length σ μ σ' μ' ∧ VR F' σ' μ' w' x' v' ∧ ∀ b, F b → F' b := by
  obtain ⟨hu, ii, z, hi, hz, rfl, rfl, hzs, hsz, hby⟩ := sliT_ok ht
  obtain ⟨⟨e2, sz2, by2⟩, hu2⟩ := Option.isSome_iff_exists.1 hu'
  have hu2 := (sliT_ok hu2).1
  rcases elems_ok st hsrc hx with ⟨_, _, _, _, h0⟩ | ⟨b1, off1, cap1, ws, rfl, hc1, hr1, hd1⟩
  · omega
  have hv1 : VRs F σ μ w (ys.map V.d) ws := DRs.toV hd1
  have hys' : m * ii.size ≤ (ys.map V.d).length := by rw [List.length_map]; exact hys
  generalize ys.map V.d = ys at *
  obtain ⟨b, off', cap, us, rfl, hcap, hr, hv⟩ := srcB_ok (x := .b i off n) (m := n) (ys := cs.drop off) st (by simp only [srcB, hi']) hs
  simp only [VR] at hs
  obtain ⟨_, _, _, _, _, cap', hs1, hs2⟩ := hs
  simp only [Value.slice.injEq, Option.some.injEq] at hs1
  have hcn : n = cap := by omega
  subst hcn
  have hnm : n + m ≤ 140737488355328 := Nat.le_trans (Nat.le_mul_of_pos_right _ hby) hbytes
  have h63' : ¬ (9223372036854775807 < ((n : Int) + (m : Int))) := by omega
  have hroom : ¬ (n + m ≤ n) := by omega
  have h48' : ¬ (281474976710656 < Builtin.nextslicecap (n + m) n * ii.bytes) := by have := growslice_fits (need := n + m) (old := n) (by omega) hbytes; omega
  have hul : us.length = cs.length - off := by rw [VRs.length hv, List.length_drop]
  have hwl : ws.length = ys.length := VRs.length hv1
  have hfo := run_firstCells_some (P := P) w.drew ii.size n ⟨b, off', none⟩ n n (us.take (n * ii.size)) (by rw [List.length_take]; omega) (fun j v hj => by
    rw [Addr.add_mid]; exact rangeAt_take hr (n * ii.size) j v hj)
  have hfx := run_firstCells_some (P := P) w.drew ii.size m ⟨b1, off1, none⟩ m cap1 (ws.take (m * ii.size)) (by rw [List.length_take]; omega) (fun j v hj => by
    rw [Addr.add_mid]; exact rangeAt_take hr1 (m * ii.size) j v hj)
  let arr : Array Value := (us.take (n * ii.size)).toArray ++ (ws.take (m * ii.size)).toArray ++ Builtin.zeroCells z.cells (grownCap w (n + m) n e - (n + m))
  have hrun : (Builtin.append_ #[t, u] ty #[.slice (some ⟨b, off', none⟩) n n, .slice (some ⟨b1, off1, none⟩) m cap1]).run P w = .ok (.slice (some ⟨w.heap.size, 0, none⟩) (n + m) (grownCap w (n + m) n e)) (w.drew.alloc (.cells arr e)) := by
    simp [Builtin.append_, run_underlying hu, run_underlying hu2, sizeOf, typeInfo, zeroValue, hi, hz, Builtin.lenOf, hroom, h63', h48', Question.forced, hfo, hfx, newRow, grownCap, arr]
  have hge := grownCap_ge w (n + m) n e
  have hsz' : (w.drew.alloc (.cells arr e)).heap.size = w.heap.size + 1 := by simp
  have hmem : ∀ b, b < w.heap.size → (w.drew.alloc (.cells arr e)).heap[b]? = w.heap[b]? := fun b hb => heap_alloc_old w.drew _ hb
  let F' : Nat → Prop := fun b => F b ∨ b = w.heap.size
  have hm' : Mem F w F' (w.drew.alloc (.cells arr e)) := ⟨by omega, fun b hb hF => ⟨hmem b hb, fun h => h.elim hF (by omega)⟩⟩
  let cs' : List V := (cs.drop off).take (n * ii.size) ++ ys.take (m * ii.size)
  have hkeep : Keep σ.length σ μ (σ ++ [.box e cs']) (μ ++ [.pointer (some ⟨w.heap.size, 0, none⟩)]) :=
    ⟨fun i T1 c1 u hi e1 e2 => ⟨⟨c1, (List.getElem?_append_left hi).trans e1⟩, (List.getElem?_append_left (by rw [st.len]; exact hi)).trans e2⟩,
      fun i E sz m c1 u hi e1 e2 => ⟨m, c1, u, (List.getElem?_append_left hi).trans e1, (List.getElem?_append_left (by rw [st.len]; exact hi)).trans e2, Nat.le_refl _, fun _ => rfl⟩⟩
  have hva : VRx F σ μ w cs' arr.toList := ⟨us.take (n * ii.size) ++ ws.take (m * ii.size), (Builtin.zeroCells z.cells (grownCap w (n + m) n e - (n + m))).toList, by simp only [arr, Array.toList_append], VRs.append (VRs.take hv _) (VRs.take hv1 _)⟩
  obtain ⟨g1, g2, g3, g4⟩ := St.push (ob' := .box e cs') (h' := .pointer (some ⟨w.heap.size, 0, none⟩)) (F' := F') (w' := w.drew.alloc (.cells arr e)) st rfl rfl rfl (by omega) hmem (fun _ h => .inl h)
    (fun b hb => hb.imp id (fun e => ⟨by omega, by omega⟩)) (fun b hb => by simp [blk] at hb; omega)
    ⟨w.heap.size, arr, rfl, heap_alloc_new w.drew _, hva.imp fun _ => VRs.mono hm' st.len hkeep _ _, .inr rfl, fun _ => st.base⟩
  exact ⟨_, _, F', _, _, .g σ.length (n + m), hrun, hq, g1, g2, g3, ⟨w.heap.size, e, cs', by rw [List.getElem?_append_right (Nat.le_refl _), Nat.sub_self]; rfl, by rw [← st.len]; simp, _, rfl, hge⟩, fun _ h => .inl h⟩
theorem AOp.appD {s x : Operand} {t u : TypeId} {i off n : Nat} {e sz by_ m : Nat} {ys : List D} {T' : TypeId} {cs cs2 : List V} (es : ev T s = .b i off n) (ht : sliT P t = some (e, sz, by_)) (hu' : (sliT P u).isSome = true) (hsrc : elems σ (ev T x) = some (m, ys)) (hi' : σ[i]? = some (.box T' cs)) (hm : 0 < m) (hys : m * sz ≤ ys.length) (hcs : off + n * sz ≤ cs.length) (hbytes : (n + m) * by_ ≤ 140737488355328)
    (he : (cs.drop off).take (n * sz) ++ (ys.map V.d).take (m * sz) = cs2) (hq : Q (.g σ.length (n + m)) (σ ++ [.box e cs2])) :
    AOp P N k ⟨dst, .call { callee := .builtin .append, args := #[s, x], argTypes := #[t, u] }, ty, pos, af, gd⟩ T σ Q :=
  AOp.val2 fun B F μ w a st tr => by
    subst he
    have hs := ev_ok tr s
    rw [es] at hs
    obtain ⟨v', w', F', σ', μ', x', hr, hq, k1, k2, k3, k4, k5⟩ := append_data (P := P) (ty := ty) st ht hu' hsrc hi' hm hys hcs hbytes hq hs (ev_ok tr x)
    exact ⟨v', w', by simp [execOp, resolve, invoke, builtin, hr], ⟨x', F', σ', μ', hq, k2, k1, k3, k4, k5⟩⟩
end
theorem AC.nzret {P : Program} {f : FuncId} {args : List V} {σ : List Ob} {Q : V → List Ob → Prop} (h : AC P f args σ fun y σ' => Q (nzV y) σ') : AC P f args σ Q :=
  ⟨h.1, fun F μ w vals st hv => (h.2 F μ w vals st hv).mono fun e w' ⟨v, x, F', σ', μ', he, q, s1, s2, s3⟩ => ⟨v, nzV x, F', σ', μ', he, q, s1, s2, nzV_ok _ _ s3⟩⟩
end Go.AW
namespace Go.AW
open Go Go.Proofs
attribute [local irreducible] thenQ blockQ RetQ AL AW AC AOp
abbrev nmC (l : List (List UInt8)) : List V := l.map fun s => sv (bs s)
theorem nmC_app (a : List UInt8) (l : List (List UInt8)) : (([sv (bs a)] : List V).drop 0).take (1 * 1) ++ ((nmD l).map V.d).take (l.length * 1) = nmC (a :: l) := by
  have : ((nmD l).map V.d) = nmC l := by simp [nmC, nmD]
  rw [this, List.take_of_length_le (l := nmC l) (by simp [nmC])]
  rfl
theorem bC_none (j i : Nat) : ∀ (c : Nat) (l : List V), bC [] j i c l = l
  | _, [] => rfl
  | c, x :: l => by
    show x :: bC [] j i (c + 1) l = _
    rw [bC_none j i (c + 1) l]
theorem nmC_lts (m : Nat) : ∀ l : List (List UInt8), lts m (nmC l) = true
  | [] => rfl
  | s :: l => by
    show (V.lt m (sv (bs s)) && lts m (nmC l)) = true
    rw [nmC_lts m l]; rfl
theorem nm_drop {l r : List Prd} {x : Prd} {i : Nat} (h : l.drop i = x :: r) : (nmC (l.map fun x => x.1)).drop i = sv (bs x.1) :: nmC (r.map fun x => x.1) := by
  rw [nmC, ← List.map_drop, ← List.map_drop, h]; rfl
abbrev R31 (x : Prd) : Prop := ∀ c : Cu, c.Ok → (x.2 c).Ok ∧ ∃ b : Bool, AC Tryz.prog 105 [.p 0 0, sv (bs x.1)] [Cu.ro c] fun y σ => y = bv b ∧ σ = [Cu.ro (x.2 c)]
theorem r31_pay (v k : Nat) (hv : v = 1 ∨ v = 2) (hk : k < 256) (hk2 : k ≠ 2) (hh : AC Tryz.prog 103 [iv .u8 (v : Nat), iv .u8 (k : Nat)] [] fun y σ => y = bv true ∧ σ = []) (ps : List Prd) (hp0 : 0 < ps.length) (hpl : ps.length ≤ 6)
    (hn : AC Tryz.prog 104 [iv .u8 (k : Nat)] [] fun y σ => y = .d (.l ps.length (nmD (ps.map fun x => x.1))) ∧ σ = []) (id : Cu → Cu) (hrd : ∀ x ∈ (nId, id) :: ps, R31 x) (s : List UInt8) (hs : s.length ≤ 140737488351232) :
    AC Tryz.prog 38 [iv .u8 (v : Nat), iv .u8 (k : Nat), sv (bs s)] [] fun y σ => y = .t [.d (.l (spansr ((nId, id) :: ps) ⟨s, 0, 0⟩).1.length (spnsD (spansr ((nId, id) :: ps) ⟨s, 0, 0⟩).1)), iv .i64 (spansr ((nId, id) :: ps) ⟨s, 0, 0⟩).2.fin.e] ∧ σ = [] := by
  refine AC.wk Tryz.func38 ?_
  have hv1 : ((v : Nat) : Int) = 1 ∨ ((v : Nat) : Int) = 2 := by omega
  have hkk : ¬ ((k : Nat) : Int) = 2 := by omega
  focus (have kxs : 987654322 = 987654321 + 1 := rfl; have kk1 := uN [] (hh); (repeat' ((fail_if_success (change AL _ _ _ _ (Oper.mk (some 28) _ _ _ _ _ :: _) _ _ _)); first | (refine ADr.nil ?_; try clear hgv) | refine GO ?_ | refine AW.ret ?_ | (refine GC ?_ ?_ <;> intro h <;> (try simp only [hsB] at h) <;> try exact xf) | (refine GD ?_ ?_ <;> intro h <;> (try intro hgv) <;> (try simp only [hsN] at h) <;> (try simp only [h]) <;> (try simp only [hsB] at h) <;> try exact xf) | (refine GL ?_ ?_ <;> intro h <;> (try simp only [hsN] at h) <;> (try simp only [h]) <;> (try simp only [hsB] at h) <;> try exact xf) | fail)); all_goals clear kxs kk1)
  all_goals first | (exfalso; omega) | skip
  all_goals
    refine AL.call (by decide) fun K hK => ?_
    refine AOp.buildB 9 1 16 [sv (bs nId)] (by kernel_rfl) rfl (by decide) rfl ?_
    refine hK _ _ ?_
    clear hK K
    focus (have kxs : 987654322 = 987654321 + 1 := rfl; have kk1 := uN [] (hn); (repeat' ((fail_if_success (change AL _ _ _ _ (Oper.mk (some 31) _ _ _ _ _ :: _) _ _ _)); first | (refine ADr.nil ?_; try clear hgv) | refine GO ?_ | refine AW.ret ?_ | (refine GC ?_ ?_ <;> intro h <;> (try simp only [hsB] at h) <;> try exact xf) | (refine GD ?_ ?_ <;> intro h <;> (try intro hgv) <;> (try simp only [hsN] at h) <;> (try simp only [h]) <;> (try simp only [hsB] at h) <;> try exact xf) | (refine GL ?_ ?_ <;> intro h <;> (try simp only [hsN] at h) <;> (try simp only [h]) <;> (try simp only [hsB] at h) <;> try exact xf) | fail)); all_goals clear kxs kk1)
    refine AL.call (by decide) fun K hK => ?_
    refine AOp.appD (e := 9) (sz := 1) (by_ := 16) (cs2 := nmC (nId :: ps.map fun x => x.1)) rfl (by kernel_rfl) (by kernel_rfl) rfl rfl hp0 (by simp [nmD]) (by decide) (by omega) (by have h := nmC_app nId (ps.map fun x => x.1); rw [List.length_map] at h; exact h) ?_
    refine hK _ _ ?_
    clear hK K
    obtain ⟨L, hL⟩ : ∃ L, L = (nId, id) :: ps := ⟨_, rfl⟩
    have hLl : L.length = 1 + ps.length := by rw [hL]; simp; omega
    have hLn : nmC (nId :: ps.map fun x => x.1) = nmC (L.map fun x => x.1) := by rw [hL]; rfl
    rw [← hL] at hrd ⊢
    rw [hLn, ← hLl]
    obtain ⟨R, hR⟩ : ∃ R, spansr L ⟨s, 0, 0⟩ = R := ⟨_, rfl⟩
    rw [hR]
    have hL6 : L.length ≤ 7 := by omega
    have hok0 : Cu.Ok ⟨s, 0, 0⟩ := ⟨hs, Nat.zero_le _⟩
    clear hL hLn hLl hn hp0 hpl hh
    focus ((repeat' (first | (refine ADr.nil ?_; try clear hgv) | refine GO ?_ | refine AW.ret ?_ | (refine GC ?_ ?_ <;> intro h <;> (try simp only [hsB] at h) <;> try exact xf) | (refine GD ?_ ?_ <;> intro h <;> (try intro hgv) <;> (try simp only [hsN] at h) <;> (try simp only [h]) <;> (try simp only [hsB] at h) <;> try exact xf) | (refine GL ?_ ?_ <;> intro h <;> (try simp only [hsN] at h) <;> (try simp only [h]) <;> (try simp only [hsB] at h) <;> try exact xf) | fail)))
    refine AW.birth 103 3 [9] [] ?_
    refine AW.rounds [0, 1, 6, 7, 8, 9, 10, 11, 12] (fun x : (Nat × Bool) × (List Spn × Cu) => [(0, iv .u8 (v : Nat)), (1, iv .u8 (k : Nat)), (6, .d (.s (.slice none 0 0))), (7, iv .i64 0), (8, .p 0 0), (9, .o 3 x.2.1.length), (10, .g 2 L.length), (11, bv x.1.2), (12, iv .i64 (x.1.1 : Nat))]) (fun x => [Cu.ro x.2.2, .box 9 [sv (bs nId)], .box 9 (nmC (L.map fun x => x.1)), .row 103 3 x.2.1.length (spnsD x.2.1)])
      (fun x => x.1.1 ≤ L.length ∧ x.2.1.length = x.1.1 ∧ x.2.2.Ok ∧ x.2.2.e = 0 ∧ (x.2.1 ++ (spansr (L.drop x.1.1) x.2.2).1, (spansr (L.drop x.1.1) x.2.2).2) = R) (fun x => L.length - x.1.1) ((0, true), ([], ⟨s, 0, 0⟩))
      ⟨Nat.zero_le _, rfl, hok0, rfl, hR⟩ rfl (by simp only [bO, bC_none]; rfl) (fun _ _ => Nat.le_of_ble_eq_true rfl) (fun _ _ => by simp only [obsLt, Ob.lt, nmC_lts, Bool.and_true, Bool.true_and]; rfl) (fun _ _ => rfl) ?_
    rintro ⟨⟨i, f⟩, out, c⟩ ⟨hi, hol, hok, he0, hr⟩ J hJ
    simp only at hi hol hok he0 hr ⊢
    by_cases hil : i < L.length
    case neg =>
      rw [List.drop_eq_nil_of_le (by omega)] at hr
      simp only [spansr, List.append_nil] at hr
      subst hr
      clear hJ
      have hen := ref01_End c.s c.a c.e hok
      rw [show Cu.fin ⟨c.s, c.a, c.e⟩ = Cu.fin c from rfl] at hen
      generalize Cu.fin c = d at *
      (have kk1 := uN [0] hen; exact Wd0)
    obtain ⟨x, r, hd⟩ := next_at hil
    have hcd := nm_drop hd
    have hnd := next_drop hd
    obtain ⟨hok2, b, hrx⟩ := hrd x (next_mem hd) c hok
    rw [hd, spansr_cons] at hr
    obtain ⟨nm, rd⟩ := x
    simp only at hcd hok2 hrx hr
    generalize rd c = c1 at *
    by_cases he : c1.e = 0
    · rw [if_neg (by simpa using he)] at hr
      have go : ∀ T' σ', keepT T' [0, 1, 6, 7, 8, 9, 10, 11, 12] = [(0, iv .u8 (v : Nat)), (1, iv .u8 (k : Nat)), (6, .d (.s (.slice none 0 0))), (7, iv .i64 0), (8, .p 0 0), (9, .o 3 (out.length + 1)), (10, .g 2 L.length), (11, bv b), (12, iv .i64 ((i : Int) + 1))] → σ'.take 4 = [Cu.ro c1, .box 9 [sv (bs nId)], .box 9 (nmC (L.map fun x => x.1)), .row 103 3 (out.length + 1) (spnsD out ++ [D.s (.string ⟨nm.toArray⟩), .s (.int .i64 (c.a : Nat)), .s (.int .i64 (c1.a : Nat))])] → J T' σ' := fun T' σ' g1 g2 => by
        have hl : (out ++ [(nm, (c.a, c1.a))]).length = out.length + 1 := by simp
        refine hJ ((i + 1, b), (out ++ [(nm, (c.a, c1.a))], c1)) T' σ' (by simp only; omega) ⟨by simp only; omega, by simp only [hl, hol], hok2, he, by simp only; rw [hnd, ← hr]; simp [List.append_assoc]⟩ (by simpa using g1) (by simp only [hl]; rw [spns_snoc]; exact g2)
      clear hJ hr hrd hR hnd hd
      generalize nmC (L.map fun x => x.1) = cells at *
      (have kxs := And.intro hcd (And.intro hkk @Nat.mul_one); have kk1 := uN [0] hrx; exact Wdg)
    · rw [if_pos he] at hr
      simp only [List.append_nil] at hr
      subst hr
      clear hJ hrd hR hnd hd
      have hfe : (Cu.fin c1).e = c1.e := by unfold Cu.fin; rw [if_neg (fun h => he h.1)]
      simp only [hfe]
      generalize nmC (L.map fun x => x.1) = cells at *
      (have kxs := And.intro hcd (And.intro hkk (And.intro he @Nat.mul_one)); have kk1 := uN [0] hrx; exact We0)
theorem parts_text (nm : List UInt8) (n : Int) : AC Tryz.prog 201 [sv (bs nm), iv .i64 n] [] fun y σ => y = .a [sv (bs nm), .f (.func 288) [] [.p 0 0]] ∧ σ = [.box 3 [iv .i64 n]] := by
  refine AC.wk Tryz.func201 ?_
  focus ((repeat' (first | refine G ?_ | refine AW.ret ?_ | (refine GC ?_ ?_ <;> intro h <;> (try simp only [hsB] at h) <;> try exact xf) | (refine GL ?_ ?_ <;> intro h <;> (try simp only [hsN] at h) <;> (try simp only [h]) <;> (try simp only [hsB] at h) <;> try exact xf) | fail)))
  all_goals first | (((all_goals first | refine RetQ.yr 1 (xs := [.a [sv (bs nm), .f (.func 288) [] [.p 0 0]]]) ⟨?_, ?_⟩ | refine RetQ.yn 1 (xs := [.a [sv (bs nm), .f (.func 288) [] [.p 0 0]]]) ⟨?_, ?_⟩); (all_goals exact fx)); done) | (exfalso; omega)
theorem parts_flag (nm : List UInt8) : AC Tryz.prog 203 [sv (bs nm)] [] fun y σ => y = .a [sv (bs nm), .f (.func 290) [] []] ∧ σ = [] := by
  refine AC.wk Tryz.func203 ?_
  focus ((repeat' (first | refine G ?_ | refine AW.ret ?_ | (refine GC ?_ ?_ <;> intro h <;> (try simp only [hsB] at h) <;> try exact xf) | (refine GL ?_ ?_ <;> intro h <;> (try simp only [hsN] at h) <;> (try simp only [h]) <;> (try simp only [hsB] at h) <;> try exact xf) | fail)))
  all_goals first | (((all_goals first | refine RetQ.yr 0 (xs := [.a [sv (bs nm), .f (.func 290) [] []]]) ⟨?_, ?_⟩ | refine RetQ.yn 0 (xs := [.a [sv (bs nm), .f (.func 290) [] []]]) ⟨?_, ?_⟩); (all_goals exact fx)); done) | (exfalso; omega)
theorem parts_key : AC Tryz.prog 202 [] [] fun y σ => y = .a [sv (bs nKey), .f (.func 289) [] []] ∧ σ = [] := by
  refine AC.wk Tryz.func202 ?_
  focus ((repeat' (first | refine G ?_ | refine AW.ret ?_ | (refine GC ?_ ?_ <;> intro h <;> (try simp only [hsB] at h) <;> try exact xf) | (refine GL ?_ ?_ <;> intro h <;> (try simp only [hsN] at h) <;> (try simp only [h]) <;> (try simp only [hsB] at h) <;> try exact xf) | fail)))
  all_goals first | (((all_goals first | refine RetQ.yr 0 (xs := [.a [sv (bs nKey), .f (.func 289) [] []]]) ⟨?_, ?_⟩ | refine RetQ.yn 0 (xs := [.a [sv (bs nKey), .f (.func 289) [] []]]) ⟨?_, ?_⟩); (all_goals exact fx)); done) | (exfalso; omega)
theorem list_1 (v : Int) (b : Bool) : AC Tryz.prog 100 [iv .u8 v, iv .u8 1, bv b] [] fun y σ => y = .b 3 0 1 ∧ σ = [.box 186 [sv (bs nCtx), .f (.func 199) [] []], .box 3 [iv .i64 65536], .box 186 [sv (bs nObject), .f (.func 288) [] [.p 1 0]], .box 186 [sv (bs nKey), .f (.func 289) [] []]] := by
  refine AC.wk Tryz.func100 ?_
  (have kk1 := uN [] (parts_text nObject 65536); have kk2 := uN [] parts_key; exact Wd4)
theorem list_2n (v : Int) : AC Tryz.prog 100 [iv .u8 v, iv .u8 2, bv false] [] fun y σ => y = .b 3 0 1 ∧ σ = [.box 186 [sv (bs nCtx), .f (.func 199) [] []], .box 3 [iv .i64 65536], .box 186 [sv (bs nObject), .f (.func 288) [] [.p 1 0]], .box 186 [sv (bs nFound), .f (.func 290) [] []]] := by
  refine AC.wk Tryz.func100 ?_
  (have kk1 := uN [] (parts_text nObject 65536); have kk2 := uN [] (parts_flag nFound); exact Wd4)
theorem list_2f1 : AC Tryz.prog 100 [iv .u8 1, iv .u8 2, bv true] [] fun y σ => y = .g 5 2 ∧ σ = [.box 186 [sv (bs nCtx), .f (.func 199) [] []], .box 3 [iv .i64 65536], .box 186 [sv (bs nOld), .f (.func 288) [] [.p 1 0]], .box 186 [sv (bs nFound), .f (.func 290) [] []], .box 186 [sv (bs nOld), .f (.func 288) [] [.p 1 0]], .box 186 [sv (bs nFound), .f (.func 290) [] [], sv (bs nOld), .f (.func 288) [] [.p 1 0]]] := by
  refine AC.wk Tryz.func100 ?_
  (have kk1 := uN [] (parts_text nObject 65536); have kk2 := uN [] (parts_flag nFound); exact Wd6)
theorem list_2f2 : AC Tryz.prog 100 [iv .u8 2, iv .u8 2, bv true] [] fun y σ => y = .g 5 2 ∧ σ = [.box 186 [sv (bs nCtx), .f (.func 199) [] []], .box 3 [iv .i64 65536], .box 186 [sv (bs nObject), .f (.func 288) [] [.p 1 0]], .box 186 [sv (bs nFound), .f (.func 290) [] []], .box 186 [sv (bs nObject), .f (.func 288) [] [.p 1 0]], .box 186 [sv (bs nFound), .f (.func 290) [] [], sv (bs nObject), .f (.func 288) [] [.p 1 0]]] := by
  refine AC.wk Tryz.func100 ?_
  (have kk1 := uN [] (parts_text nObject 65536); have kk2 := uN [] (parts_flag nFound); exact Wd6)
theorem list_3 (v : Int) (b : Bool) : AC Tryz.prog 100 [iv .u8 v, iv .u8 3, bv b] [] fun y σ => y = .b 4 0 5 ∧ σ = [.box 186 [sv (bs nCtx), .f (.func 199) [] []], .box 3 [iv .i64 65536], .box 186 [sv (bs nObject), .f (.func 288) [] [.p 1 0]], .box 3 [iv .i64 32768], .box 186 [sv (bs nKey), .f (.func 289) [] [], sv (bs nCtx), .f (.func 199) [] [], sv (bs nMeta), .f (.func 204) [] [], sv (bs nDead), .f (.func 290) [] [], sv (bs nValue), .f (.func 288) [] [.p 3 0]]] := by
  refine AC.wk Tryz.func100 ?_
  (have kk1 := uN [] (parts_text nObject 65536); have kk2 := uN [] parts_key; have kk3 := uN [] (parts_flag nDead); have kk4 := uN [] (parts_text nValue 32768); exact We5)
theorem list_4 (v : Int) (b : Bool) : AC Tryz.prog 100 [iv .u8 v, iv .u8 4, bv b] [] fun y σ => y = .b 3 0 1 ∧ σ = [.box 186 [sv (bs nCtx), .f (.func 199) [] []], .box 3 [iv .i64 65536], .box 186 [sv (bs nObject), .f (.func 288) [] [.p 1 0]], .box 186 [sv (bs nCtx), .f (.func 199) [] []]] := by
  refine AC.wk Tryz.func100 ?_
  (have kk1 := uN [] (parts_text nObject 65536); exact Wd4)
theorem list_5 (v : Int) (b : Bool) : AC Tryz.prog 100 [iv .u8 v, iv .u8 5, bv b] [] fun y σ => y = .b 4 0 1 ∧ σ = [.box 186 [sv (bs nCtx), .f (.func 199) [] []], .box 3 [iv .i64 65536], .box 186 [sv (bs nObject), .f (.func 288) [] [.p 1 0]], .box 3 [iv .i64 31], .box 186 [sv (bs nPrefix), .f (.func 288) [] [.p 3 0]]] := by
  refine AC.wk Tryz.func100 ?_
  (have kk1 := uN [] (parts_text nObject 65536); have kk2 := uN [] (parts_text nPrefix 31); exact Wd5)
theorem list_6 (v : Int) (b : Bool) : AC Tryz.prog 100 [iv .u8 v, iv .u8 6, bv b] [] fun y σ => y = .b 3 0 1 ∧ σ = [.box 186 [sv (bs nCtx), .f (.func 199) [] []], .box 3 [iv .i64 65536], .box 186 [sv (bs nObject), .f (.func 288) [] [.p 1 0]], .box 186 [sv (bs nPage), .f (.func 206) [] []]] := by
  refine AC.wk Tryz.func100 ?_
  (have kk1 := uN [] (parts_text nObject 65536); exact Wd4)
theorem list_7 (v : Int) (b : Bool) : AC Tryz.prog 100 [iv .u8 v, iv .u8 7, bv b] [] fun y σ => y = .b 3 0 1 ∧ σ = [.box 186 [sv (bs nCtx), .f (.func 199) [] []], .box 3 [iv .i64 65536], .box 186 [sv (bs nObject), .f (.func 288) [] [.p 1 0]], .box 186 [sv (bs nRing), .f (.func 208) [] []]] := by
  refine AC.wk Tryz.func100 ?_
  (have kk1 := uN [] (parts_text nObject 65536); exact Wd4)
theorem list_8 (v : Int) (b : Bool) : AC Tryz.prog 100 [iv .u8 v, iv .u8 8, bv b] [] fun y σ => y = .b 4 0 2 ∧ σ = [.box 186 [sv (bs nCtx), .f (.func 199) [] []], .box 3 [iv .i64 65536], .box 186 [sv (bs nObject), .f (.func 288) [] [.p 1 0]], .box 3 [iv .i64 64], .box 186 [sv (bs nCode), .f (.func 210) [] [], sv (bs nText), .f (.func 288) [] [.p 3 0]]] := by
  refine AC.wk Tryz.func100 ?_
  (have kk1 := uN [] (parts_text nObject 65536); have kk2 := uN [] (parts_text nText 64); exact Wd5)
theorem list_9 (v : Int) (b : Bool) : AC Tryz.prog 100 [iv .u8 v, iv .u8 9, bv b] [] fun y σ => y = .b 3 0 1 ∧ σ = [.box 186 [sv (bs nCtx), .f (.func 199) [] []], .box 3 [iv .i64 65536], .box 186 [sv (bs nObject), .f (.func 288) [] [.p 1 0]], .box 186 [sv (bs nObject), .f (.func 288) [] [.p 1 0]]] := by
  refine AC.wk Tryz.func100 ?_
  (have kk1 := uN [] (parts_text nObject 65536); exact Wd4)
end Go.AW
