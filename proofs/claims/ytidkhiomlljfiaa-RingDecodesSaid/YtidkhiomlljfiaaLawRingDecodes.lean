/-
  RingDecodes returns true for every input, and leaves the input as it was.
-/
import Derived.Test.YtidkhiomlljfiaaRows
import Derived.Test.YtidkhiomlljfiaaLaw22
import Derived.Test.YtidkhiomlljfiaaReads22
import Derived.Test.YtidkhiomlljfiaaMb
import Derived.Test.YtidkhiomlljfiaaAwHead
import Derived.WalkKit
import Derived.ProofKit
import Derived.OpenShut
import Derived.ShutString
import Derived.ChangeOld
import Derived.Below
import Derived.SizedLaws
namespace Go.Proofs.Ytidkhiomlljfiaa.ringDecodes
open Go.ChangeShapes Go.WideShapes Go.ChangeAt Go.RowKit Go.AW
open Go.ChangeMaps (open_string shut_string)
set_option linter.unusedVariables false
theorem own : ownKnob Try.prog.godebug = none := by kernel_rfl
theorem laidOut : laidOutB Try.prog = true := head_laid
set_option maxRecDepth 100000 in
theorem lifted (os : Os) (started : os.Started) (H : Type) (enc : TypeId × Value → H) :
    ReturnsInHanded {} Try.checked os 5 .any (Rows.ringDecodesSpec.pre6 enc Try.prog Try.f5 Rows.ringDecodesRow.domain false) (Rows.ringDecodesSpec.post enc Try.prog Try.f5 false true false false) := by
  refine returnsInHanded_of_change_sized (C := Try.checked) own started (by kernel_rfl) Try.func5
    (ChangeSpec.witness6 (enc := enc) (C := Try.checked) false ⟨#[], #[.string ByteArray.empty], []⟩ 8 (by kernel_rfl) (by kernel_rfl) (by kernel_rfl) (by kernel_rfl)) ?_
  intro W base args ds gs before hval0 hW hcnd hsz0 _
  have hval : ∀ (j : Nat) t v, Try.f5.params[j]? = some t → args[j]? = some v → Value.okWide Try.prog W .any base t v := hval0
  have hW' := hW
  obtain ⟨p, q, hA0, hV, rfl, hfz, hnd⟩ := hW
  have hA : DataW.TrodAll enc Try.prog W 0 (fun _ => true) true Try.f5.params.toList args.toList ds p := hA0
  rw [Try.params5] at hA hval
  obtain ⟨v0, vs0, d0, ds0, p0, q0, hargs, rfl, rfl, h0, r0⟩ := trodAll_cons hA
  obtain ⟨rfl, rfl, rfl⟩ := trodAll_nil r0
  obtain rfl : args = #[v0] := by cases args; simp_all
  obtain ⟨rfl, rfl⟩ := trodVars_none hV
  have k0 := h0
  have lt0 : ∀ x ∈ p0, x.block < W.heap.size := by obtain ⟨m, hm⟩ := k0; exact DataW.trod_lt m _ _ _ hm
  obtain ⟨a0, rfl⟩ := okWide_string Try.underlying9 (hval 0 9 v0 rfl rfl)
  obtain ⟨fuel0, hf0⟩ := h0
  obtain ⟨xs0, ⟨l0, rfl, hl0⟩, hD0⟩ := (Rd.str Try.underlying9) fuel0 _ _ _ hf0
  clear hA0 hval0 hsz0
  refine (AC.law (w := W) (vals := [.string a0]) (ringDecodes l0 hl0) (fun x σ h => h.1) ?_).mono fun e W' ⟨he, bel⟩ => ?_
  · exact ⟨_, _, rfl, VR_one hD0, rfl⟩
  subst he
  exact ⟨_, rfl, _, _, _, [], _, [], hW', trodAll_mk1 (shut_bool Try.underlying4 _), (trodAll_cons_mk (Below.trod laidOut (by kernel_rfl) (of_decide_eq_true (by kernel_rfl)) k0 bel lt0) trodAll_mk0), rfl, bel.frame _, fun h => by cases h⟩
theorem k1 : (Rows.ringDecodesRow.inPlace == Try.prog.inPlace 5) = true := by kernel_rfl
theorem k2 : (Rows.ringDecodesRow.unfollowed == Try.prog.unfollowed 5) = true := by kernel_rfl
theorem k3 : (Rows.ringDecodesRow.recurses == Try.prog.recurses 5) = true := by kernel_rfl
theorem k4 : (Rows.ringDecodesRow.named == Try.prog.varsNamed 5) = true := by kernel_rfl
theorem closed : joinedFacts Try.prog 5 Try.f5 Rows.ringDecodesSpec Rows.ringDecodesRow = true := joined_of head_laid head_maps head_stops head_knobs k1 k2 k3 k4 head_heard head_enter head_final head_make head_keys (by kernel_rfl)
theorem over : Rows.ringDecodesRow.holds Try.pinned (OpenSpec.ofChange Rows.ringDecodesSpec) :=
  OpenClaim.holds_of_wide 5 Try.f5 rfl rfl rfl rfl rfl rfl rfl ⟨rfl, rfl, rfl, rfl, rfl⟩ rfl rfl rfl rfl rfl (by kernel_rfl) Try.func5
    closed (of_decide_eq_true (by kernel_rfl)) (by unfold Func.isWrapper; first | (rw [if_pos (by decide +kernel)]; kernel_rfl) | (rw [if_neg (by decide +kernel)]; exact ⟨rfl, rfl⟩))
    (fun os started H enc _ => lifted os started H enc)
theorem proved : Rows.RingDecodesSaid := over
#print axioms proved
end Go.Proofs.Ytidkhiomlljfiaa.ringDecodes
namespace Go.Proofs.Ytidkhiomlljfiaa
/-- The row, under a short name, for the claim. -/
theorem ringDecodes_holds : Rows.RingDecodesSaid := ringDecodes.proved
end Go.Proofs.Ytidkhiomlljfiaa
