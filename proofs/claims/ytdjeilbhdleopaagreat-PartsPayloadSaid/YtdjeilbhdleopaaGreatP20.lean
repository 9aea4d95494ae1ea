/-
  The calculus: functions that are deferred.
-/
import Derived.Defers
import Derived.Tactics
import Derived.Tactics2
import Derived.Laws.Pointers
import Derived.RegionTactic
import Derived.RegionCalls
import Derived.Test.YtdjeilbhdleopaaGreatP19
set_option linter.unusedVariables false
set_option linter.unusedSimpArgs false
set_option maxHeartbeats 4000000
set_option maxRecDepth 10000
namespace Go.AW
open Go
section
variable {P : Program} {N k B : Nat} {T : Tm} {F F' : Nat → Prop} {σ σ' : List Ob} {μ μ' : List Value} {w w' : World}
def ACd (P : Program) (f : FuncId) (args : List V) (σ : List Ob) (Q : V → List Ob → Prop) : Prop :=
  ∀ F μ w (vals : List Value) (u : FrameMode), St σ.length w.heap.size F σ μ w → VRs F σ μ w args vals → CallsD P f vals.toArray u w fun e u' w' => u' = u ∧
    ∃ v x F' σ' μ', e = .returned v ∧ Q x σ' ∧ Stp σ.length w.heap.size F σ μ w F' σ' μ' w' ∧ St σ.length w.heap.size F' σ' μ' w' ∧ VR F' σ' μ' w' x v
theorem ACd.intro {f : FuncId} {fn : Func} {c : Code} {args : List V} {Q : V → List Ob → Prop} (hf : P.funcs[f]? = some fn) (hb : fn.body = some c) (hname : fn.name ≠ "runtime.NumGoroutine") (hN : args.length ≤ fn.ntmps)
    (h : AW P fn.ntmps σ.length c (fun e T' σ' => (match e with | .exit _ => False | _ => True) ∧ ∃ xs m, resV P σ' T' fn.results.toList = some xs ∧ σ.length ≤ m ∧ obsLt m (σ'.take m) = true ∧ (fz σ' m (one1 xs)).lt m = true ∧ Q (fz σ' m (one1 xs)) (σ'.take m)) (ent 0 args) σ) :
    ACd P f args σ Q := by
  intro F μ w vals u st hv
  refine callsD_of_wp hf hb ?_
  have hlen := VRs.length hv
  have tr : TR fn.ntmps F σ μ w (ent 0 args) (vals.toArray ++ Array.replicate (fn.ntmps - vals.toArray.size) undef) := by
    refine ⟨by simp; omega, fun t => ?_⟩
    rcases look_ent args vals 0 t hv with g | g
    · have e : (vals.toArray ++ Array.replicate (fn.ntmps - vals.toArray.size) undef).getD t undef = (vals[t - 0]?).getD undef := by
        rw [Array.getD_eq_getD_getElem?, Array.getElem?_append]
        simp only [List.size_toArray, Nat.sub_zero]
        split
        · simp
        · rename_i hlt
          rw [List.getElem?_eq_none (by omega), Array.getElem?_replicate]
          split <;> rfl
      rw [e]
      exact g
    · rw [g]; trivial
  refine wp_mono (h w.heap.size F μ w _ st tr rfl) fun e a' w' g => ?_
  have key : ∀ a' w', Cfg σ.length w.heap.size fn.ntmps F σ μ w (fun T' σ' => ∃ xs m, resV P σ' T' fn.results.toList = some xs ∧ σ.length ≤ m ∧ obsLt m (σ'.take m) = true ∧ (fz σ' m (one1 xs)).lt m = true ∧ Q (fz σ' m (one1 xs)) (σ'.take m)) a' w' →
      a'.defers = [] ∧ ∃ v, (results fn a'.tmps).run P w' = .ok v w' ∧ ∃ v1 x F' σ' μ', Ending.returned v = .returned v1 ∧ Q x σ' ∧ Stp σ.length w.heap.size F σ μ w F' σ' μ' w' ∧ St σ.length w.heap.size F' σ' μ' w' ∧ VR F' σ' μ' w' x v1 := by
    rintro a' w' ⟨F', σ', μ', T', ⟨xs, m, h1, h2, h3, h4, hq⟩, g1, g2, g3, g4⟩
    obtain ⟨v, hr, hv⟩ := run_results g2 g3 h1
    obtain ⟨F2, hF2, k1, k2, k3⟩ := St.cut g2 h2 h3
    exact ⟨g4, v, hr, v, _, F2, _, _, rfl, hq, g1.trans k2, k1, fz_ok g2 h2 (fun b hb => (hF2 b).1 hb) k3 _ v h4 hv⟩
  cases e with
  | normal => exact key a' w' (Cfg.mono g fun T σ q => q.2)
  | ret => exact key a' w' (Cfg.mono g fun T σ q => q.2)
  | exit id =>
    obtain ⟨_, _, _, _, q, _⟩ := g
    exact q.1.elim
  | goto l => exact g.elim
  | panic c => exact g.elim
  | outgrown => exact g.elim
theorem ACd.walk {f : FuncId} {fn : Func} {c : Code} {args : List V} {R : V → List Ob → Prop} (hf : P.funcs[f]? = some fn) (hb : fn.body = some c) (hname : fn.name ≠ "runtime.NumGoroutine") (hN : args.length ≤ fn.ntmps)
    (h : AW P fn.ntmps σ.length c (RetQ P σ.length fn.results.toList R) (ent 0 args) σ) : ACd P f args σ R :=
  ACd.intro hf hb hname hN (AW.mono h fun e T σ q => by cases e <;> first | exact q.elim | exact ⟨trivial, q⟩)
theorem AC.run {vals : List Value} {f : FuncId} {args : List V} {Q : V → List Ob → Prop} (h : AC P f args σ Q) {k B : Nat} (st : St k B F σ μ w) (hv : VRs F σ μ w args vals) {X : Ending → World → Prop}
    (hX : ∀ v x F' σ' μ' w', Q x σ' → Stp k B F σ μ w F' σ' μ' w' → St k B F' σ' μ' w' → VR F' σ' μ' w' x v → X (.returned v) w') : Calls P f vals.toArray w X :=
  (h.2 F μ w vals st.lower hv).mono fun e w' ⟨v, x, F', σ', μ', he, q, g1, g2, g3⟩ => by
    subst he
    obtain ⟨r1, r2⟩ := St.raise st g2 g1
    first | exact hX v x F' σ' μ' w' q r1 r2 g3 | exact hX v x F' σ' μ' w' q r2 r1 g3
theorem ACd.run {vals : List Value} {f : FuncId} {args : List V} {Q : V → List Ob → Prop} (h : ACd P f args σ Q) {k B : Nat} (st : St k B F σ μ w) (hv : VRs F σ μ w args vals) {u : FrameMode} {X : Ending → FrameMode → World → Prop}
    (hX : ∀ v x F' σ' μ' w', Q x σ' → Stp k B F σ μ w F' σ' μ' w' → St k B F' σ' μ' w' → VR F' σ' μ' w' x v → X (.returned v) u w') : CallsD P f vals.toArray u w X :=
  (h F μ w vals u st.lower hv).mono fun e u' w' ⟨hu, v, x, F', σ', μ', he, q, g1, g2, g3⟩ => by
    subst he; subst hu
    obtain ⟨r1, r2⟩ := St.raise st g2 g1
    first | exact hX v x F' σ' μ' w' q r1 r2 g3 | exact hX v x F' σ' μ' w' q r2 r1 g3
end
end Go.AW
namespace Go.AW
open Go Go.Proofs
attribute [local irreducible] thenQ blockQ RetQ AL AW AC AOp
theorem lts_set : ∀ (cs : List V) (m off : Nat) (x : V), lts m cs = true → x.lt m = true → lts m (cs.set off x) = true
  | [], m, off, x, h, hx => h
  | c :: cs, m, 0, x, h, hx => by
    simp only [List.set_cons_zero, lts, Bool.and_eq_true] at h ⊢
    exact ⟨hx, h.2⟩
  | c :: cs, m, off + 1, x, h, hx => by
    simp only [List.set_cons_succ, lts, Bool.and_eq_true] at h ⊢
    exact ⟨h.1, lts_set cs m off x h.2 hx⟩
theorem bool_Load (Ty : TypeId) (cs : List V) (off : Nat) (n : Int) (h0 : cs[off]? = some (iv .u32 n)) (hcs : lts 1 cs = true) : AC Tryz.prog 422 [.p 0 off] [.box Ty cs] fun y σ => y = bv (!decide (n = 0)) ∧ σ = [.box Ty cs] := by
  refine AC.wk Tryz.func422 ?_
  focus ((repeat' (first | refine GF ?_ | refine AW.ret ?_ | (refine GC ?_ ?_ <;> intro h <;> (try simp only [hsB] at h) <;> try exact xf) | (refine GL ?_ ?_ <;> intro h <;> (try simp only [hsN] at h) <;> (try simp only [h]) <;> (try simp only [hsB] at h) <;> try exact xf) | fail)))
  refine AL.callv (by decide) fun Kr hr => ?_
  refine AOp.ald Tryz.func433 (by kernel_rfl) (by kernel_rfl) (by kernel_rfl) (by kernel_rfl) rfl rfl h0 ?_
  refine hr _ _ ?_
  clear hr Kr
  focus ((repeat' (first | refine GF ?_ | refine AW.ret ?_ | (refine GC ?_ ?_ <;> intro h <;> (try simp only [hsB] at h) <;> try exact xf) | (refine GL ?_ ?_ <;> intro h <;> (try simp only [hsN] at h) <;> (try simp only [h]) <;> (try simp only [hsB] at h) <;> try exact xf) | fail)))
  all_goals first | exact RetQ.fr 1 (h3 := by show (lts 1 cs && true) = true; rw [hcs]; rfl) | exact RetQ.fn 1 (h3 := by show (lts 1 cs && true) = true; rw [hcs]; rfl)
theorem b32_true : AC Tryz.prog 437 [bv true] [] fun y σ => y = iv .u32 1 ∧ σ = [] := by
  refine AC.wk Tryz.func437 ?_
  exact Wa0
theorem mu_Lock (Ty : TypeId) (cs : List V) (off : Nat) (h0 : cs[off]? = some (iv .i32 0)) (hcs : lts 1 cs = true) : AC Tryz.prog 439 [.p 0 off] [.box Ty cs] fun y σ => y = .t [] ∧ σ = [.box Ty (cs.set off (iv .i32 1))] := by
  refine AC.wk Tryz.func439 ?_
  have hlt : off < cs.length := (List.getElem?_eq_some_iff.1 h0).1
  have h2 : (cs.set off (iv .i32 1))[off]? = some (iv .i32 1) := List.getElem?_set_self hlt
  have hcs2 := lts_set cs 1 off (iv .i32 1) hcs rfl
  focus ((repeat' (first | refine GF ?_ | refine AW.ret ?_ | (refine GC ?_ ?_ <;> intro h <;> (try simp only [hsB] at h) <;> try exact xf) | (refine GL ?_ ?_ <;> intro h <;> (try simp only [hsN] at h) <;> (try simp only [h]) <;> (try simp only [hsB] at h) <;> try exact xf) | fail)))
  first | refine AL.callv (by decide) fun Kr hr => ?_ | refine AL.callv0 fun Kr hr => ?_
  refine AOp.mark0 Tryz.func441 (by kernel_rfl) (by kernel_rfl) (by kernel_rfl) (mk := .disable) (by kernel_rfl) ?_
  refine hr _ _ ?_
  clear hr Kr
  focus ((repeat' (first | refine GF ?_ | refine AW.ret ?_ | (refine GC ?_ ?_ <;> intro h <;> (try simp only [hsB] at h) <;> try exact xf) | (refine GL ?_ ?_ <;> intro h <;> (try simp only [hsN] at h) <;> (try simp only [h]) <;> (try simp only [hsB] at h) <;> try exact xf) | fail)))
  first | refine AL.callv (by decide) fun Kr hr => ?_ | refine AL.callv0 fun Kr hr => ?_
  refine AOp.acas Tryz.func442 (by kernel_rfl) (by kernel_rfl) (by kernel_rfl) (by kernel_rfl) rfl rfl rfl rfl h0 ?_
  refine hr _ _ ?_
  clear hr Kr
  focus ((repeat' (first | refine GF ?_ | refine AW.ret ?_ | (refine GC ?_ ?_ <;> intro h <;> (try simp only [hsB] at h) <;> try exact xf) | (refine GL ?_ ?_ <;> intro h <;> (try simp only [hsN] at h) <;> (try simp only [h]) <;> (try simp only [hsB] at h) <;> try exact xf) | fail)))
  all_goals first | (exfalso; simp_all; done) | skip
  first | refine AL.callv (by decide) fun Kr hr => ?_ | refine AL.callv0 fun Kr hr => ?_
  refine AOp.mark0 Tryz.func443 (by kernel_rfl) (by kernel_rfl) (by kernel_rfl) (mk := .enable) (by kernel_rfl) ?_
  refine hr _ _ ?_
  clear hr Kr
  focus ((repeat' (first | refine GF ?_ | refine AW.ret ?_ | (refine GC ?_ ?_ <;> intro h <;> (try simp only [hsB] at h) <;> try exact xf) | (refine GL ?_ ?_ <;> intro h <;> (try simp only [hsN] at h) <;> (try simp only [h]) <;> (try simp only [hsB] at h) <;> try exact xf) | fail)))
  refine AL.call (by decide) fun Kr hr => ?_
  refine AOp.cvu (by kernel_rfl) (by kernel_rfl) (by kernel_rfl) rfl rfl h2 ?_
  refine hr _ _ ?_
  clear hr Kr
  first | refine AL.callv (by decide) fun Kr hr => ?_ | refine AL.callv0 fun Kr hr => ?_
  refine AOp.marked Tryz.func444 (by kernel_rfl) (by kernel_rfl) (by kernel_rfl) (mk := .acquire) (by kernel_rfl) rfl ?_
  refine hr _ _ ?_
  clear hr Kr
  focus ((repeat' (first | refine GF ?_ | refine AW.ret ?_ | (refine GC ?_ ?_ <;> intro h <;> (try simp only [hsB] at h) <;> try exact xf) | (refine GL ?_ ?_ <;> intro h <;> (try simp only [hsN] at h) <;> (try simp only [h]) <;> (try simp only [hsB] at h) <;> try exact xf) | fail)))
  all_goals first | exact RetQ.fr 1 (h3 := by show (lts 1 (cs.set off (iv .i32 1)) && true) = true; rw [hcs2]; rfl) | exact RetQ.fn 1 (h3 := by show (lts 1 (cs.set off (iv .i32 1)) && true) = true; rw [hcs2]; rfl)
theorem at_drop {cs : List V} {off : Nat} {x : V} (h : cs[off]? = some x) : cs.drop off = x :: cs.drop (off + 1) := by
  obtain ⟨h1, h2⟩ := List.getElem?_eq_some_iff.1 h
  rw [List.drop_eq_getElem_cons h1, h2]
theorem mu_Unlock (Ty : TypeId) (cs : List V) (off : Nat) (h0 : cs[off]? = some (iv .i32 1)) (hcs : lts 1 cs = true) : AC Tryz.prog 440 [.p 0 off] [.box Ty cs] fun y σ => y = .t [] ∧ σ = [.box Ty (cs.set off (iv .i32 0))] := by
  refine AC.wk Tryz.func440 ?_
  have hcd := at_drop h0
  have hcs2 := lts_set cs 1 off (iv .i32 0) hcs rfl
  focus (have kxs := hcd; (repeat' (first | refine GF ?_ | refine AW.ret ?_ | (refine GC ?_ ?_ <;> intro h <;> (try simp only [hsB] at h) <;> try exact xf) | (refine GL ?_ ?_ <;> intro h <;> (try simp only [hsN] at h) <;> (try simp only [h]) <;> (try simp only [hsB] at h) <;> try exact xf) | fail)); all_goals clear kxs)
  refine AL.call (by decide) fun Kr hr => ?_
  refine AOp.cvu (by kernel_rfl) (by kernel_rfl) (by kernel_rfl) rfl rfl h0 ?_
  refine hr _ _ ?_
  clear hr Kr
  first | refine AL.callv (by decide) fun Kr hr => ?_ | refine AL.callv0 fun Kr hr => ?_
  refine AOp.marked Tryz.func446 (by kernel_rfl) (by kernel_rfl) (by kernel_rfl) (mk := .releaseMerge) (by kernel_rfl) rfl ?_
  refine hr _ _ ?_
  clear hr Kr
  focus ((repeat' (first | refine GF ?_ | refine AW.ret ?_ | (refine GC ?_ ?_ <;> intro h <;> (try simp only [hsB] at h) <;> try exact xf) | (refine GL ?_ ?_ <;> intro h <;> (try simp only [hsN] at h) <;> (try simp only [h]) <;> (try simp only [hsB] at h) <;> try exact xf) | fail)))
  first | refine AL.callv (by decide) fun Kr hr => ?_ | refine AL.callv0 fun Kr hr => ?_
  refine AOp.mark0 Tryz.func441 (by kernel_rfl) (by kernel_rfl) (by kernel_rfl) (mk := .disable) (by kernel_rfl) ?_
  refine hr _ _ ?_
  clear hr Kr
  focus ((repeat' (first | refine GF ?_ | refine AW.ret ?_ | (refine GC ?_ ?_ <;> intro h <;> (try simp only [hsB] at h) <;> try exact xf) | (refine GL ?_ ?_ <;> intro h <;> (try simp only [hsN] at h) <;> (try simp only [h]) <;> (try simp only [hsB] at h) <;> try exact xf) | fail)))
  first | refine AL.callv (by decide) fun Kr hr => ?_ | refine AL.callv0 fun Kr hr => ?_
  refine AOp.aadd Tryz.func447 (by kernel_rfl) (by kernel_rfl) (by kernel_rfl) (by kernel_rfl) (n := 1) (m := -1) (s := 0) (fun w => rfl) rfl rfl rfl h0 ?_
  refine hr _ _ ?_
  clear hr Kr
  focus ((repeat' (first | refine GF ?_ | refine AW.ret ?_ | (refine GC ?_ ?_ <;> intro h <;> (try simp only [hsB] at h) <;> try exact xf) | (refine GL ?_ ?_ <;> intro h <;> (try simp only [hsN] at h) <;> (try simp only [h]) <;> (try simp only [hsB] at h) <;> try exact xf) | fail)))
  all_goals first | (exfalso; simp_all; done) | skip
  first | refine AL.callv (by decide) fun Kr hr => ?_ | refine AL.callv0 fun Kr hr => ?_
  refine AOp.mark0 Tryz.func443 (by kernel_rfl) (by kernel_rfl) (by kernel_rfl) (mk := .enable) (by kernel_rfl) ?_
  refine hr _ _ ?_
  clear hr Kr
  focus ((repeat' (first | refine GF ?_ | refine AW.ret ?_ | (refine GC ?_ ?_ <;> intro h <;> (try simp only [hsB] at h) <;> try exact xf) | (refine GL ?_ ?_ <;> intro h <;> (try simp only [hsN] at h) <;> (try simp only [h]) <;> (try simp only [hsB] at h) <;> try exact xf) | fail)))
  all_goals first | exact RetQ.fr 1 (h3 := by show (lts 1 (cs.set off (iv .i32 0)) && true) = true; rw [hcs2]; rfl) | exact RetQ.fn 1 (h3 := by show (lts 1 (cs.set off (iv .i32 0)) && true) = true; rw [hcs2]; rfl)
theorem sync_Lock (Ty : TypeId) (cs : List V) (off : Nat) (h0 : cs[off]? = some (iv .i32 0)) (hcs : lts 1 cs = true) : AC Tryz.prog 434 [.p 0 off] [.box Ty cs] fun y σ => y = .t [] ∧ σ = [.box Ty (cs.set off (iv .i32 1))] := by
  refine AC.wk Tryz.func434 ?_
  have hcs2 := lts_set cs 1 off (iv .i32 1) hcs rfl
  have hl := mu_Lock Ty cs off h0 hcs
  focus (have kk1 := uS hl; (repeat' (first | refine GF ?_ | refine AW.ret ?_ | (refine GC ?_ ?_ <;> intro h <;> (try simp only [hsB] at h) <;> try exact xf) | (refine GL ?_ ?_ <;> intro h <;> (try simp only [hsN] at h) <;> (try simp only [h]) <;> (try simp only [hsB] at h) <;> try exact xf) | fail)); all_goals clear kk1)
  all_goals first | exact RetQ.fr 1 (h3 := by show (lts 1 (cs.set off (iv .i32 1)) && true) = true; rw [hcs2]; rfl) | exact RetQ.fn 1 (h3 := by show (lts 1 (cs.set off (iv .i32 1)) && true) = true; rw [hcs2]; rfl)
theorem sync_Unlock (Ty : TypeId) (cs : List V) (off : Nat) (h0 : cs[off]? = some (iv .i32 1)) (hcs : lts 1 cs = true) : ACd Tryz.prog 435 [.p 0 off] [.box Ty cs] fun y σ => y = .t [] ∧ σ = [.box Ty (cs.set off (iv .i32 0))] := by
  refine ACd.walk Tryz.func435 rfl (by decide) (of_decide_eq_true rfl) ?_
  have hcs2 := lts_set cs 1 off (iv .i32 0) hcs rfl
  have hl := mu_Unlock Ty cs off h0 hcs
  focus (have kk1 := uS hl; (repeat' (first | refine GF ?_ | refine AW.ret ?_ | (refine GC ?_ ?_ <;> intro h <;> (try simp only [hsB] at h) <;> try exact xf) | (refine GL ?_ ?_ <;> intro h <;> (try simp only [hsN] at h) <;> (try simp only [h]) <;> (try simp only [hsB] at h) <;> try exact xf) | fail)); all_goals clear kk1)
  all_goals first | exact RetQ.fr 1 (h3 := by show (lts 1 (cs.set off (iv .i32 0)) && true) = true; rw [hcs2]; rfl) | exact RetQ.fn 1 (h3 := by show (lts 1 (cs.set off (iv .i32 0)) && true) = true; rw [hcs2]; rfl)
theorem bool_Store (Ty : TypeId) (cs : List V) (off : Nat) (x : V) (h0 : cs[off]? = some x) (hcs : lts 1 cs = true) : AC Tryz.prog 425 [.p 0 off, bv true] [.box Ty cs] fun y σ => y = .t [] ∧ σ = [.box Ty (cs.set off (iv .u32 1))] := by
  refine AC.wk Tryz.func425 ?_
  have hcs2 := lts_set cs 1 off (iv .u32 1) hcs rfl
  have hb := b32_true
  focus (have kk1 := uN [] hb; (repeat' (first | (refine ADr.nil ?_; try clear hgv) | refine GWF ?_ | refine AW.ret ?_ | (refine GC ?_ ?_ <;> intro h <;> (try simp only [hsB] at h) <;> try exact xf) | (refine GD ?_ ?_ <;> intro h <;> (try intro hgv) <;> (try simp only [hsN] at h) <;> (try simp only [h]) <;> (try simp only [hsB] at h) <;> try exact xf) | (refine GL ?_ ?_ <;> intro h <;> (try simp only [hsN] at h) <;> (try simp only [h]) <;> (try simp only [hsB] at h) <;> try exact xf) | fail)); all_goals clear kk1)
  refine ADr.ecv ?_ ?_ (by decide) rfl ?_ ?_ ?_
  rotate_left 2
  · intro Kr hr
    refine AOp.ast Tryz.func436 (by kernel_rfl) (by kernel_rfl) (by kernel_rfl) (by kernel_rfl) rfl rfl rfl h0 ?_
    exact hr
  · (repeat' (first | exact trivial | refine And.intro ?_ ?_)) <;> (first | exact Or.inl (by dsimp only; decide +kernel) | (refine Or.inr ?_; intro Kr hr; (try simp only [ao, List.map_cons, List.map_nil]); (try simp (disch := omega) only [go_sem]); exact hr))
  focus ((repeat' (first | (refine ADr.nil ?_; try clear hgv) | refine GWF ?_ | refine AW.ret ?_ | (refine GC ?_ ?_ <;> intro h <;> (try simp only [hsB] at h) <;> try exact xf) | (refine GD ?_ ?_ <;> intro h <;> (try intro hgv) <;> (try simp only [hsN] at h) <;> (try simp only [h]) <;> (try simp only [hsB] at h) <;> try exact xf) | (refine GL ?_ ?_ <;> intro h <;> (try simp only [hsN] at h) <;> (try simp only [h]) <;> (try simp only [hsB] at h) <;> try exact xf) | fail)))
  all_goals first | exact RetQ.fr 1 (h3 := by show (lts 1 (cs.set off (iv .u32 1)) && true) = true; rw [hcs2]; rfl) | exact RetQ.fn 1 (h3 := by show (lts 1 (cs.set off (iv .u32 1)) && true) = true; rw [hcs2]; rfl)
theorem bool_StoreD (Ty : TypeId) (cs : List V) (off : Nat) (x : V) (h0 : cs[off]? = some x) (hcs : lts 1 cs = true)   : ACd Tryz.prog 425 [.p 0 off, bv true] [.box Ty cs] fun y σ => y = .t [] ∧ σ = [.box Ty (cs.set off (iv .u32 1))] := by
  refine ACd.walk Tryz.func425 rfl (by decide) (of_decide_eq_true rfl) ?_
  have hcs2 := lts_set cs 1 off (iv .u32 1) hcs rfl
  have hb := b32_true
  focus (have kk1 := uN [] hb; (repeat' (first | (refine ADr.nil ?_; try clear hgv) | refine GWF ?_ | refine AW.ret ?_ | (refine GC ?_ ?_ <;> intro h <;> (try simp only [hsB] at h) <;> try exact xf) | (refine GD ?_ ?_ <;> intro h <;> (try intro hgv) <;> (try simp only [hsN] at h) <;> (try simp only [h]) <;> (try simp only [hsB] at h) <;> try exact xf) | (refine GL ?_ ?_ <;> intro h <;> (try simp only [hsN] at h) <;> (try simp only [h]) <;> (try simp only [hsB] at h) <;> try exact xf) | fail)); all_goals clear kk1)
  refine ADr.ecv ?_ ?_ (by decide) rfl ?_ ?_ ?_
  rotate_left 2
  · intro Kr hr
    refine AOp.ast Tryz.func436 (by kernel_rfl) (by kernel_rfl) (by kernel_rfl) (by kernel_rfl) rfl rfl rfl h0 ?_
    exact hr
  · (repeat' (first | exact trivial | refine And.intro ?_ ?_)) <;> (first | exact Or.inl (by dsimp only; decide +kernel) | (refine Or.inr ?_; intro Kr hr; (try simp only [ao, List.map_cons, List.map_nil]); (try simp (disch := omega) only [go_sem]); exact hr))
  focus ((repeat' (first | (refine ADr.nil ?_; try clear hgv) | refine GWF ?_ | refine AW.ret ?_ | (refine GC ?_ ?_ <;> intro h <;> (try simp only [hsB] at h) <;> try exact xf) | (refine GD ?_ ?_ <;> intro h <;> (try intro hgv) <;> (try simp only [hsN] at h) <;> (try simp only [h]) <;> (try simp only [hsB] at h) <;> try exact xf) | (refine GL ?_ ?_ <;> intro h <;> (try simp only [hsN] at h) <;> (try simp only [h]) <;> (try simp only [hsB] at h) <;> try exact xf) | fail)))
  all_goals first | exact RetQ.fr 1 (h3 := by show (lts 1 (cs.set off (iv .u32 1)) && true) = true; rw [hcs2]; rfl) | exact RetQ.fn 1 (h3 := by show (lts 1 (cs.set off (iv .u32 1)) && true) = true; rw [hcs2]; rfl)
def mkT (cs : List V) : Nat → List V
  | 0 => cs
  | i + 1 => (mkT cs i).set (4 + i) (iv .u32 (hvn 8 i : Nat))
theorem mkT_len (cs : List V) : ∀ i, (mkT cs i).length = cs.length
  | 0 => rfl
  | i + 1 => by unfold mkT; rw [List.length_set]; exact mkT_len cs i
theorem mkT_lts {cs : List V} (h : lts 1 cs = true) : ∀ i, lts 1 (mkT cs i) = true
  | 0 => h
  | i + 1 => lts_set _ _ _ _ (mkT_lts h i) rfl
theorem mkT_head (cs : List V) (j : Nat) (hj : j < 4) : ∀ i, (mkT cs i)[j]? = cs[j]?
  | 0 => rfl
  | i + 1 => by unfold mkT; rw [List.getElem?_set_ne (by omega)]; exact mkT_head cs j hj i
theorem crc_make (cs : List V) (hl : cs.length = 260) (hcs : lts 1 cs = true) : AC Tryz.prog 407 [.p 0 0] [.box 399 cs] fun y σ => y = .t [] ∧ σ = [.box 399 ((mkT cs 256).set 3 (iv .u32 1))] := by
  refine AC.wk Tryz.func407 ?_
  focus ((repeat' (first | (refine ADr.nil ?_; try clear hgv) | refine GOF ?_ | refine AW.ret ?_ | (refine GC ?_ ?_ <;> intro h <;> (try simp only [hsB] at h) <;> try exact xf) | (refine GD ?_ ?_ <;> intro h <;> (try intro hgv) <;> (try simp only [hsN] at h) <;> (try simp only [h]) <;> (try simp only [hsB] at h) <;> try exact xf) | (refine GL ?_ ?_ <;> intro h <;> (try simp only [hsN] at h) <;> (try simp only [h]) <;> (try simp only [hsB] at h) <;> try exact xf) | fail)))
  refine AW.rounds [0, 3] (fun i : Nat => [(0, .p 0 0), (3, iv .i64 (i : Nat))]) (fun i => [.box 399 (mkT cs i)]) (fun i => i ≤ 256) (fun i => 256 - i) 0 (Nat.zero_le _) rfl rfl (fun _ _ => Nat.le_refl _) (fun i _ => by show (lts 1 (mkT cs i) && true) = true; rw [mkT_lts hcs]; rfl) (fun _ _ => rfl) ?_
  rintro i hi J hJ
  have hll : (mkT cs i).length = 260 := by rw [mkT_len, hl]
  by_cases h256 : i < 256
  · have hh := crc_halve i (by omega)
    have hw : IntKind.wrap .u32 (i : Int) = (i : Int) := wrap_u32 (by omega) (by omega)
    have go : ∀ T' σ', keepT T' [0, 3] = [(0, .p 0 0), (3, iv .i64 ((i : Int) + 1))] → σ'.take 1 = [.box 399 ((mkT cs i).set (4 + i) (iv .u32 (hvn 8 i : Nat)))] → J T' σ' := fun T' σ' g1 g2 =>
      hJ (i + 1) T' σ' (by omega) (by omega) g1 g2
    clear hJ
    generalize hvn 8 i = q at *
    generalize mkT cs i = ds at *
    (have kxs := And.intro hw hll; have kk1 := uN [] hh; exact Wfg)
  · have h9 : i = 256 := by omega
    subst h9
    obtain ⟨x, hx⟩ : ∃ x, (mkT cs 256)[3]? = some x := by
      rw [mkT_head cs 3 (by decide)]
      exact ⟨_, List.getElem?_eq_getElem (by omega)⟩
    have hlt := mkT_lts hcs 256
    have hst := bool_Store 399 (mkT cs 256) 3 x hx hlt
    have hcs2 := lts_set _ 1 3 (iv .u32 1) hlt rfl
    clear hJ
    generalize mkT cs 256 = ds at *
    focus (have kk1 := uS hst; (repeat' (first | (refine ADr.nil ?_; try clear hgv) | refine GOF ?_ | refine AW.ret ?_ | (refine GC ?_ ?_ <;> intro h <;> (try simp only [hsB] at h) <;> try exact xf) | (refine GD ?_ ?_ <;> intro h <;> (try intro hgv) <;> (try simp only [hsN] at h) <;> (try simp only [h]) <;> (try simp only [hsB] at h) <;> try exact xf) | (refine GL ?_ ?_ <;> intro h <;> (try simp only [hsN] at h) <;> (try simp only [h]) <;> (try simp only [hsB] at h) <;> try exact xf) | fail)); all_goals clear kk1)
    all_goals first | exact RetQ.fr 1 (h3 := by show (lts 1 (ds.set 3 (iv .u32 1)) && true) = true; rw [hcs2]; rfl) | exact RetQ.fn 1 (h3 := by show (lts 1 (ds.set 3 (iv .u32 1)) && true) = true; rw [hcs2]; rfl) | exact xg
end Go.AW
namespace Go.AW
open Go Go.Proofs
set_option maxRecDepth 100000 in
set_option maxHeartbeats 1600000 in
theorem once_slow (cs : List V) (hl : cs.length = 260) (hcs : lts 1 cs = true) (h0 : cs[0]? = some (iv .u32 0)) (h1 : cs[1]? = some (iv .i32 0)) :
    AC Tryz.prog 423 [.p 0 0, .f (.func 407) [.p 0 0] []] [.box 399 cs] fun y σ => y = .t [] ∧ σ = [.box 399 ((((mkT (cs.set 1 (iv .i32 1)) 256).set 3 (iv .u32 1)).set 0 (iv .u32 1)).set 1 (iv .i32 0))] := by
  refine ⟨⟨_, _, Tryz.func423, rfl, by decide⟩, fun F μ w vals st hv => ?_⟩
  simp only [VRs] at hv
  obtain ⟨v1, us, rfl, hp, v2, us2, rfl, hf, rfl⟩ := hv
  obtain ⟨b, u0, rfl, hm, _, _, _⟩ := box_cell st hp rfl h0
  have hp0 := hp
  simp only [VR, VRs] at hf
  obtain ⟨x, y, rfl, ⟨v3, us3, hx, ⟨b3, T3, cs3, e1, e2, e3⟩, hus⟩, hy⟩ := hf
  rw [hm] at e2
  simp at e2
  subst e2; subst e3; subst hus
  obtain rfl : x = #[.pointer (some ⟨b, 0, none⟩)] := by apply Array.ext'; simpa using hx
  obtain rfl : y = #[] := by apply Array.ext'; simpa using hy
  have pv : ∀ {F1 : Nat → Prop} {μ1 : List Value} {w1 : World} {cs1 : List V} (off : Nat), μ1[0]? = some (.pointer (some ⟨b, 0, none⟩)) → VR F1 [.box 399 cs1] μ1 w1 (.p 0 off) (.pointer (some ⟨b, off, none⟩)) := fun off hm1 => ⟨b, _, _, rfl, hm1, rfl⟩
  have km : ∀ {F1 F2 : Nat → Prop} {μ1 μ2 : List Value} {w1 w2 : World} {cs1 : List V} {s2 : List Ob}, Stp 1 w.heap.size F1 [.box 399 cs1] μ1 w1 F2 s2 μ2 w2 → μ1[0]? = some (.pointer (some ⟨b, 0, none⟩)) → μ2[0]? = some (.pointer (some ⟨b, 0, none⟩)) := fun sp hm1 => (sp.keep.box 0 _ _ _ (by decide) rfl hm1).2
  have hlk := sync_Lock 399 cs 1 h1 hcs
  have hcs1 := lts_set cs 1 1 (iv .i32 1) hcs rfl
  have h01 : (cs.set 1 (iv .i32 1))[0]? = some (iv .u32 0) := by rw [List.getElem?_set_ne (by decide)]; exact h0
  have h11 : (cs.set 1 (iv .i32 1))[1]? = some (iv .i32 1) := List.getElem?_set_self (by omega)
  have hld := bool_Load 399 (cs.set 1 (iv .i32 1)) 0 0 h01 hcs1
  rw [show (!decide ((0 : Int) = 0)) = false from rfl] at hld
  have hl1 : (cs.set 1 (iv .i32 1)).length = 260 := by rw [List.length_set]; exact hl
  have hmk := crc_make (cs.set 1 (iv .i32 1)) hl1 hcs1
  generalize cs.set 1 (iv .i32 1) = c1 at *
  have hl2 : ((mkT c1 256).set 3 (iv .u32 1)).length = 260 := by rw [List.length_set, mkT_len]; exact hl1
  have hcs2 := lts_set _ 1 3 (iv .u32 1) (mkT_lts hcs1 256) rfl
  have h02 : ((mkT c1 256).set 3 (iv .u32 1))[0]? = some (iv .u32 0) := by rw [List.getElem?_set_ne (by decide), mkT_head c1 0 (by decide)]; exact h01
  have h12 : ((mkT c1 256).set 3 (iv .u32 1))[1]? = some (iv .i32 1) := by rw [List.getElem?_set_ne (by decide), mkT_head c1 1 (by decide)]; exact h11
  generalize (mkT c1 256).set 3 (iv .u32 1) = c2 at *
  have hsd := bool_StoreD 399 c2 0 _ h02 hcs2
  have hcs3 := lts_set _ 1 0 (iv .u32 1) hcs2 rfl
  have h13 : (c2.set 0 (iv .u32 1))[1]? = some (iv .i32 1) := by rw [List.getElem?_set_ne (by decide)]; exact h12
  have hud := sync_Unlock 399 (c2.set 0 (iv .u32 1)) 1 h13 hcs3
  generalize c2.set 0 (iv .u32 1) = c3 at *
  have hnot : ∀ (x : Bool) (w : World), (Op.unary .not (.bool x)).run Tryz.prog w = .ok (.bool (!x)) w := fun _ _ => rfl
  go_enter_defers Tryz.func423, Tryz.ntmps423
  go_wp2_with (go_at_call 434; refine AC.run hlk (vals := [.pointer (some ⟨b, 1, none⟩)]) st ⟨_, [], rfl, pv 1 hm, rfl⟩ ?_; rintro v x F1 σ1 μ1 w1 ⟨rfl, rfl⟩ sp1 st1 hv1)
  go_wp2_with (go_at_call 422; refine AC.run hld (vals := [.pointer (some ⟨b, 0, none⟩)]) st1 ⟨_, [], rfl, pv 0 (km sp1 hm), rfl⟩ ?_; rintro v x F2 σ2 μ2 w2 ⟨rfl, rfl⟩ sp2 st2 hv2; simp only [VR, DR] at hv2; subst hv2)
  go_wp2_with (go_at_call 407; refine AC.run hmk (vals := [.pointer (some ⟨b, 0, none⟩)]) st2 ⟨_, [], rfl, pv 0 (km sp2 (km sp1 hm)), rfl⟩ ?_; rintro v x F3 σ3 μ3 w3 ⟨rfl, rfl⟩ sp3 st3 hv3)
  have m3 := km sp3 (km sp2 (km sp1 hm))
  refine leaves_cons (f := 425) (args := #[.pointer (some ⟨b, 0, none⟩), .bool true]) (by simp) (by simp [go_sem]) ?_
  refine ACd.run hsd (vals := [.pointer (some ⟨b, 0, none⟩), .bool true]) st3 ⟨_, _, rfl, pv 0 m3, _, [], rfl, rfl, rfl⟩ ?_
  rintro v4 x F4 σ4 μ4 w4 ⟨rfl, rfl⟩ sp4 st4 hv4
  have m4 := km sp4 m3
  refine leaves_cons (f := 435) (args := #[.pointer (some ⟨b, 1, none⟩)]) (by simp [settle]) (by simp [go_sem]) ?_
  refine ACd.run hud (vals := [.pointer (some ⟨b, 1, none⟩)]) st4 ⟨_, [], rfl, pv 1 m4, rfl⟩ ?_
  rintro v5 x F5 σ5 μ5 w5 ⟨rfl, rfl⟩ sp5 st5 hv5
  refine ⟨.tuple #[], ?_, .tuple #[], _, F5, _, μ5, rfl, ⟨rfl, rfl⟩, (((sp1.trans sp2).trans sp3).trans sp4).trans sp5, st5, ⟨#[], rfl, rfl⟩⟩
  simp [results, Tryz.results423]
end Go.AW
namespace Go.AW
open Go Go.Proofs
attribute [local irreducible] thenQ blockQ RetQ AL AW AC AOp
def tbl : List V := (List.range 256).map fun i => iv .u32 (hvn 8 i : Nat)
def SM0 : List V := iv .u32 0 :: iv .i32 0 :: iv .u32 0 :: iv .u32 0 :: List.replicate 256 (iv .u32 0)
def SM1 : List V := iv .u32 1 :: iv .i32 0 :: iv .u32 0 :: iv .u32 1 :: tbl
theorem SM0_lts (m : Nat) : lts m SM0 = true := by
  have h : ∀ k, lts m (List.replicate k (iv .u32 0)) = true := fun k => by
    induction k with
    | zero => rfl
    | succ k ih => rw [List.replicate_succ]; exact ih
  exact h 256
theorem SM1_lts (m : Nat) : lts m SM1 = true := by
  have h : ∀ l : List Nat, lts m (l.map fun i => iv .u32 (hvn 8 i : Nat)) = true := fun l => by
    induction l with
    | nil => rfl
    | cons k l ih => rw [List.map_cons]; exact ih
  exact h _
theorem SM1_at (n : Nat) (h : n < 256) : SM1.drop (4 + n) = iv .u32 (hvn 8 n : Nat) :: SM1.drop (5 + n) := by
  have hl : tbl.length = 256 := by simp [tbl]
  have e1 : SM1.drop (4 + n) = tbl.drop n := by rw [Nat.add_comm]; rfl
  have e2 : SM1.drop (5 + n) = tbl.drop (n + 1) := by rw [show 5 + n = (n + 1) + 4 from by omega]; rfl
  rw [e1, e2, List.drop_eq_getElem_cons (by omega)]
  simp [tbl]
theorem SM_made : ((((mkT (SM0.set 1 (iv .i32 1)) 256).set 3 (iv .u32 1)).set 0 (iv .u32 1)).set 1 (iv .i32 0)) = SM1 := by kernel_rfl
theorem once_Do0 : AC Tryz.prog 406 [.p 0 0, .f (.func 407) [.p 0 0] []] [.box 399 SM0] fun y σ => y = .t [] ∧ σ = [.box 399 SM1] := by
  refine AC.wk Tryz.func406 ?_
  have hld := bool_Load 399 SM0 0 0 rfl (SM0_lts 1)
  rw [show (!decide ((0 : Int) = 0)) = false from rfl] at hld
  have hsl := once_slow SM0 (by simp [SM0]) (SM0_lts 1) rfl rfl
  rw [SM_made] at hsl
  focus (have kk1 := uS hld; have kk2 := uS hsl; (repeat' (first | refine GF ?_ | refine AW.ret ?_ | (refine GC ?_ ?_ <;> intro h <;> (try simp only [hsB] at h) <;> try exact xf) | (refine GL ?_ ?_ <;> intro h <;> (try simp only [hsN] at h) <;> (try simp only [h]) <;> (try simp only [hsB] at h) <;> try exact xf) | fail)); all_goals clear kk1 kk2)
  all_goals first | exact RetQ.fr 1 (h3 := by show (lts 1 SM1 && true) = true; rw [SM1_lts]; rfl) | exact RetQ.fn 1 (h3 := by show (lts 1 SM1 && true) = true; rw [SM1_lts]; rfl) | (exfalso; simp_all; done)
theorem once_Do1 : AC Tryz.prog 406 [.p 0 0, .f (.func 407) [.p 0 0] []] [.box 399 SM1] fun y σ => y = .t [] ∧ σ = [.box 399 SM1] := by
  refine AC.wk Tryz.func406 ?_
  have hld := bool_Load 399 SM1 0 1 rfl (SM1_lts 1)
  rw [show (!decide ((1 : Int) = 0)) = true from rfl] at hld
  focus (have kk1 := uS hld; (repeat' (first | refine GF ?_ | refine AW.ret ?_ | (refine GC ?_ ?_ <;> intro h <;> (try simp only [hsB] at h) <;> try exact xf) | (refine GL ?_ ?_ <;> intro h <;> (try simp only [hsN] at h) <;> (try simp only [h]) <;> (try simp only [hsB] at h) <;> try exact xf) | fail)); all_goals clear kk1)
  all_goals first | exact RetQ.fr 1 (h3 := by show (lts 1 SM1 && true) = true; rw [SM1_lts]; rfl) | exact RetQ.fn 1 (h3 := by show (lts 1 SM1 && true) = true; rw [SM1_lts]; rfl) | (exfalso; simp_all; done)
theorem wrapB (s : Nat) : IntKind.wrap .u8 (s : Int) = ((s % 256 : Nat) : Int) := by
  simp only [IntKind.wrap, IntKind.bits, IntKind.signed]
  simp
theorem crc_More (S : List V) (hS : S = SM0 ∨ S = SM1) (l : List UInt8) (hl : l.length ≤ 9223372036854775807) : AC Tryz.prog 395 [.p 0 0, iv .u32 0, .d (.l 1 [.s (.string ⟨l.toArray⟩)])] [.box 399 S] fun y σ => y = iv .u32 (csum l : Nat) ∧ σ = [.box 399 SM1] := by
  refine AC.wk Tryz.func395 ?_
  have hd : AC Tryz.prog 406 [.p 0 0, .f (.func 407) [.p 0 0] []] [.box 399 S] fun y σ => y = .t [] ∧ σ = [.box 399 SM1] := by
    rcases hS with rfl | rfl
    · exact once_Do0
    · exact once_Do1
  have hx0 := bitx32 (a := 4294967295) (b := 0) (by decide) (by decide)
  rw [show ((4294967295 : Nat) : Int) = 4294967295 from rfl, show ((0 : Nat) : Int) = 0 from rfl, show (((4294967295 ^^^ 0 : Nat)) : Int) = 4294967295 from rfl] at hx0
  obtain ⟨R, hR⟩ : ∃ R, cputs 4294967295 l = R := ⟨_, rfl⟩
  have hRl : R < 4294967296 := by rw [← hR]; exact cputs_lt l _ (by decide)
  rw [show csum l = 4294967295 - R by unfold csum; rw [hR]]
  clear hS
  focus (have kxs := hx0; have kk1 := uS hd; (repeat' (first | (refine ADr.nil ?_; try clear hgv) | refine GOF ?_ | refine AW.ret ?_ | (refine GC ?_ ?_ <;> intro h <;> (try simp only [hsB] at h) <;> try exact xf) | (refine GD ?_ ?_ <;> intro h <;> (try intro hgv) <;> (try simp only [hsN] at h) <;> (try simp only [h]) <;> (try simp only [hsB] at h) <;> try exact xf) | (refine GL ?_ ?_ <;> intro h <;> (try simp only [hsN] at h) <;> (try simp only [h]) <;> (try simp only [hsB] at h) <;> try exact xf) | fail)); all_goals clear kxs kk1)
  all_goals first | (exfalso; simp_all; done) | skip
  refine AW.rounds [0, 1, 6, 22, 23, 24] (fun x : Nat × Nat => [(0, .p 0 0), (1, iv .u32 (x.2 : Nat)), (6, iv .u32 0), (22, .d (.l 1 [.s (.string ⟨l.toArray⟩)])), (23, iv .i64 1), (24, iv .i64 (x.1 : Nat))]) (fun _ => [.box 399 SM1])
    (fun x => (x.1 = 0 ∧ x.2 = 4294967295) ∨ (x.1 = 1 ∧ x.2 = R)) (fun x => 1 - x.1) (0, 4294967295) (.inl ⟨rfl, rfl⟩) rfl rfl (fun _ _ => Nat.le_refl _) (fun _ _ => by show (lts 1 SM1 && true) = true; rw [SM1_lts]; rfl) (fun _ _ => rfl) ?_
  rintro ⟨i, s⟩ hi J hJ
  simp only at hi ⊢
  rcases hi with ⟨rfl, rfl⟩ | ⟨rfl, rfl⟩
  · focus ((repeat' (first | (refine ADr.nil ?_; try clear hgv) | refine GOF ?_ | refine AW.ret ?_ | (refine GC ?_ ?_ <;> intro h <;> (try simp only [hsB] at h) <;> try exact xf) | (refine GD ?_ ?_ <;> intro h <;> (try intro hgv) <;> (try simp only [hsN] at h) <;> (try simp only [h]) <;> (try simp only [hsB] at h) <;> try exact xf) | (refine GL ?_ ?_ <;> intro h <;> (try simp only [hsN] at h) <;> (try simp only [h]) <;> (try simp only [hsB] at h) <;> try exact xf) | fail)))
    all_goals first | (exfalso; omega) | skip
    refine AW.rounds [0, 1, 6, 8, 22, 23, 24, 29, 30] (fun x : Nat × Nat => [(0, .p 0 0), (1, iv .u32 (x.2 : Nat)), (6, iv .u32 0), (8, sv (bs l)), (22, .d (.l 1 [.s (.string ⟨l.toArray⟩)])), (23, iv .i64 1), (24, iv .i64 0), (29, iv .i64 l.length), (30, iv .i64 (x.1 : Nat))]) (fun _ => [.box 399 SM1])
      (fun x => x.1 ≤ l.length ∧ x.2 < 4294967296 ∧ cputs x.2 (l.drop x.1) = R) (fun x => l.length - x.1) (0, 4294967295) ⟨Nat.zero_le _, by decide, hR⟩ rfl rfl (fun _ _ => Nat.le_refl _) (fun _ _ => by show (lts 1 SM1 && true) = true; rw [SM1_lts]; rfl) (fun _ _ => rfl) ?_
    rintro ⟨j, s⟩ ⟨hj, hs, hr⟩ J2 hJ2
    simp only at hj hs hr ⊢
    by_cases hjl : j < l.length
    case neg =>
      rw [List.drop_eq_nil_of_le (by omega)] at hr
      have hr : s = R := hr
      subst hr
      clear hJ2
      focus ((repeat' (first | (refine ADr.nil ?_; try clear hgv) | refine GOF ?_ | refine AW.ret ?_ | (refine GC ?_ ?_ <;> intro h <;> (try simp only [hsB] at h) <;> try exact xf) | (refine GD ?_ ?_ <;> intro h <;> (try intro hgv) <;> (try simp only [hsN] at h) <;> (try simp only [h]) <;> (try simp only [hsB] at h) <;> try exact xf) | (refine GL ?_ ?_ <;> intro h <;> (try simp only [hsN] at h) <;> (try simp only [h]) <;> (try simp only [hsB] at h) <;> try exact xf) | fail)))
      all_goals first | (refine hJ (1, s) _ _ (by simp) (.inr ⟨rfl, rfl⟩) rfl rfl; done) | exact xg
    obtain ⟨b, r, hdr⟩ := next_at hjl
    have hnd := next_drop hdr
    have hgd : l.getD j 0 = b := by
      have := List.drop_eq_getElem_cons hjl
      rw [hdr] at this
      rw [List.getD_eq_getElem?_getD, List.getElem?_eq_getElem hjl]
      exact (List.cons.inj this).1.symm
    rw [hdr] at hr
    have hb := b.toNat_lt
    have hw := wrapB s
    have hx8 := bitx8 (a := s % 256) (b := b.toNat) (by omega) (by omega)
    have hn : s % 256 ^^^ b.toNat < 256 := Nat.xor_lt_two_pow (n := 8) (by omega) (by omega)
    have hsh := shr8 s
    have hx := bitx32 (a := hvn 8 (s % 256 ^^^ b.toNat)) (b := s / 256) (hvn_lt 8 _ (by omega)) (by omega)
    rw [← cput_table] at hx
    have hlt := cput_lt hs (show b.toNat < 256 by omega)
    have hat := SM1_at _ hn
    have go : ∀ T' σ', keepT T' [0, 1, 6, 8, 22, 23, 24, 29, 30] = [(0, .p 0 0), (1, iv .u32 (cput s b.toNat : Nat)), (6, iv .u32 0), (8, sv (bs l)), (22, .d (.l 1 [.s (.string ⟨l.toArray⟩)])), (23, iv .i64 1), (24, iv .i64 0), (29, iv .i64 l.length), (30, iv .i64 ((j : Int) + 1))] → σ'.take 1 = [.box 399 SM1] → J2 T' σ' := fun T' σ' g1 g2 =>
      hJ2 (j + 1, cput s b.toNat) T' σ' (by simp only; omega) ⟨by simp only; omega, hlt, by rw [hnd]; exact hr⟩ g1 g2
    clear hJ2 hJ hr hd
    generalize cput s b.toNat = q at *
    generalize hvn 8 (s % 256 ^^^ b.toNat) = p at *
    generalize s % 256 ^^^ b.toNat = n at *
    focus (have kxs := And.intro hgd (And.intro hw (And.intro hx8 (And.intro hsh (And.intro hat hx)))); (repeat' (first | (refine ADr.nil ?_; try clear hgv) | refine GOF ?_ | refine AW.ret ?_ | (refine GC ?_ ?_ <;> intro h <;> (try simp only [hsB] at h) <;> try exact xf) | (refine GD ?_ ?_ <;> intro h <;> (try intro hgv) <;> (try simp only [hsN] at h) <;> (try simp only [h]) <;> (try simp only [hsB] at h) <;> try exact xf) | (refine GL ?_ ?_ <;> intro h <;> (try simp only [hsN] at h) <;> (try simp only [h]) <;> (try simp only [hsB] at h) <;> try exact xf) | fail)); all_goals clear kxs)
    all_goals first | exact go _ _ rfl rfl | (exfalso; omega) | skip
  · have hxR := bitx32 (a := 4294967295) (b := s) (by decide) hRl
    rw [xor_max hRl, show ((4294967295 : Nat) : Int) = 4294967295 from rfl] at hxR
    have hxm : bitI BinOp.xor IntKind.u32 (if IntKind.u32.signed = true then -1 else IntKind.u32.max) (s : Int) = ((4294967295 - s : Nat) : Int) := hxR
    clear hJ
    focus (have kxs := hxm; (repeat' (first | (refine ADr.nil ?_; try clear hgv) | refine GOF ?_ | refine AW.ret ?_ | (refine GC ?_ ?_ <;> intro h <;> (try simp only [hsB] at h) <;> try exact xf) | (refine GD ?_ ?_ <;> intro h <;> (try intro hgv) <;> (try simp only [hsN] at h) <;> (try simp only [h]) <;> (try simp only [hsB] at h) <;> try exact xf) | (refine GL ?_ ?_ <;> intro h <;> (try simp only [hsN] at h) <;> (try simp only [h]) <;> (try simp only [hsB] at h) <;> try exact xf) | fail)); all_goals clear kxs)
    all_goals first | exact RetQ.fr 1 (h3 := by show (lts 1 SM1 && true) = true; rw [SM1_lts]; rfl) | exact RetQ.fn 1 (h3 := by show (lts 1 SM1 && true) = true; rw [SM1_lts]; rfl) | (exfalso; omega) | skip
theorem crc_Sum (S : List V) (hS : S = SM0 ∨ S = SM1) (l : List UInt8) (hl : l.length ≤ 9223372036854775807) : AC Tryz.prog 376 [.p 0 0, sv (bs l)] [.box 399 S] fun y σ => y = iv .u32 (csum l : Nat) ∧ σ = [.box 399 SM1] := by
  refine AC.wk Tryz.func376 ?_
  have hm := crc_More S hS l hl
  generalize csum l = q at *
  focus (have kk1 := uS hm; (repeat' (first | refine GF ?_ | refine AW.ret ?_ | (refine GC ?_ ?_ <;> intro h <;> (try simp only [hsB] at h) <;> try exact xf) | (refine GL ?_ ?_ <;> intro h <;> (try simp only [hsN] at h) <;> (try simp only [h]) <;> (try simp only [hsB] at h) <;> try exact xf) | fail)); all_goals clear kk1)
  all_goals first | exact RetQ.fr 1 (h3 := by show (lts 1 SM1 && true) = true; rw [SM1_lts]; rfl) | exact RetQ.fn 1 (h3 := by show (lts 1 SM1 && true) = true; rw [SM1_lts]; rfl) | (exfalso; omega) | skip
end Go.AW
namespace Go.AW
abbrev Fm := Nat × Nat × List UInt8
def Cu.num4 (c : Cu) : Nat × Cu := (val8 (c.bytes 4).1, (c.bytes 4).2)
theorem Cu.num4_ok {c : Cu} (h : c.Ok) : c.num4.2.Ok := Cu.bytes_ok h
def mgc (w : Nat) (c : Cu) : Cu := gd (decide (c.byte.1 = w)) 9 c.byte.2
def Cu.fmv (c : Cu) : Nat × Cu := (c.byte.1, gd (decide (c.byte.1 = 1 ∨ c.byte.1 = 2)) 10 c.byte.2)
def Cu.fmb (c : Cu) : Fm × Cu :=
  let z := (c.fmv.2.byte.2.blob 65536)
  ((c.fmv.1, c.fmv.2.byte.1, z.1), gd (decide (z.2.num4.1 = csum ((z.2.s.drop c.a).take (z.2.a - c.a)))) 12 z.2.num4.2)
def Cu.frame (c : Cu) : Fm × Cu :=
  let z := (mgc 78 (mgc 215 c)).fmb
  (if z.2.e ≠ 0 then (0, 0, []) else z.1, z.2)
theorem mgc_ok {w : Nat} {c : Cu} (h : c.Ok) : (mgc w c).Ok := gd_ok (Cu.byte_ok h)
theorem Cu.fmv_ok {c : Cu} (h : c.Ok) : c.fmv.2.Ok := gd_ok (Cu.byte_ok h)
theorem Cu.bytes_a (c : Cu) (n : Int) : c.a ≤ (c.bytes n).2.a := by
  unfold Cu.bytes; split
  · exact Nat.le_refl _
  · split
    · exact Nat.le_refl _
    · split
      · exact Nat.le_refl _
      · exact Nat.le_add_right _ _
theorem Cu.byte_a (c : Cu) : c.a ≤ c.byte.2.a := by unfold Cu.byte; exact Cu.bytes_a c 1
theorem gd_a (b : Bool) (f : Int) (c : Cu) : (gd b f c).a = c.a := by unfold gd; split <;> rfl
theorem Cu.vgo_a : ∀ (k i n : Nat) (c : Cu), c.a ≤ (Cu.vgo k i n c).2.a
  | 0, _, _, c => Nat.le_refl _
  | k + 1, i, n, c => by
    unfold Cu.vgo
    split
    · exact Nat.le_refl _
    · split
      · exact Nat.le_refl _
      · split
        · exact Nat.le_refl _
        · split
          · exact Nat.le_succ _
          · exact Nat.le_trans (Nat.le_succ _) (Cu.vgo_a k _ _ ⟨c.s, c.a + 1, c.e⟩)
theorem Cu.vtake_a (c : Cu) : c.a ≤ c.vtake.2.a := by
  unfold Cu.vtake; split
  · exact Nat.le_refl _
  · exact Cu.vgo_a _ _ _ _
theorem Cu.count_a (c : Cu) (m : Int) : c.a ≤ (c.count m).2.a := by
  unfold Cu.count; split
  · exact Cu.vtake_a c
  · split
    · exact Cu.vtake_a c
    · exact Cu.vtake_a c
theorem Cu.blob_a (c : Cu) (m : Int) : c.a ≤ (c.blob m).2.a := by
  unfold Cu.blob; exact Nat.le_trans (Cu.count_a c m) (Cu.bytes_a _ _)
theorem Cu.fmb_ok {c : Cu} (h : c.Ok) : c.fmb.2.Ok := gd_ok (Cu.num4_ok (Cu.blob_ok (Cu.byte_ok (Cu.fmv_ok h))))
end Go.AW
