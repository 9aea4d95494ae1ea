/-
  RingEncodes returns true for every input, and leaves the input as it was.
-/
import Derived.Test.YtidkhiomlljfiaaRows
import Derived.Test.YtidkhiomlljfiaaLaw22
import Derived.Test.YtidkhiomlljfiaaReads22
import Derived.Test.YtidkhiomlljfiaaMb
import Derived.Test.YtidkhiomlljfiaaAwHead
import Derived.WalkKit
import Derived.ProofKit
import Derived.OpenShut
import Derived.ShutString
import Derived.ChangeOld
import Derived.Below
import Derived.SizedLaws
namespace Go.Proofs.Ytidkhiomlljfiaa.ringEncodes
open Go.ChangeShapes Go.WideShapes Go.ChangeAt Go.RowKit Go.AW
open Go.ChangeMaps (open_string shut_string)
set_option linter.unusedVariables false
theorem own : ownKnob Try.prog.godebug = none := by kernel_rfl
theorem laidOut : laidOutB Try.prog = true := head_laid
set_option maxRecDepth 100000 in
theorem lifted (os : Os) (started : os.Started) (H : Type) (enc : TypeId × Value → H) :
    ReturnsInHanded {} Try.checked os 6 .any (Rows.ringEncodesSpec.pre6 enc Try.prog Try.f6 Rows.ringEncodesRow.domain false) (Rows.ringEncodesSpec.post enc Try.prog Try.f6 false true false false) := by
  refine returnsInHanded_of_change_sized (C := Try.checked) own started (by kernel_rfl) Try.func6
    (ChangeSpec.witness6 (enc := enc) (C := Try.checked) false ⟨#[], #[.slice none 0 0, .slice none 0 0], []⟩ 8 (by kernel_rfl) (by kernel_rfl) (by kernel_rfl) (by kernel_rfl)) ?_
  intro W base args ds gs before hval0 hW hcnd hsz0 _
  have hval : ∀ (j : Nat) t v, Try.f6.params[j]? = some t → args[j]? = some v → Value.okWide Try.prog W .any base t v := hval0
  have hW' := hW
  obtain ⟨p, q, hA0, hV, rfl, hfz, hnd⟩ := hW
  have hA : DataW.TrodAll enc Try.prog W 0 (fun _ => true) true Try.f6.params.toList args.toList ds p := hA0
  rw [Try.params6] at hA hval
  obtain ⟨v0, vs0, d0, ds0, p0, q0, hargs, rfl, rfl, h0, r0⟩ := trodAll_cons hA
  obtain ⟨v1, vs1, d1, ds1, p1, q1, rfl, rfl, rfl, h1, r1⟩ := trodAll_cons r0
  obtain ⟨rfl, rfl, rfl⟩ := trodAll_nil r1
  obtain rfl : args = #[v0, v1] := by cases args; simp_all
  obtain ⟨rfl, rfl⟩ := trodVars_none hV
  have k0 := h0
  have lt0 : ∀ x ∈ p0, x.block < W.heap.size := by obtain ⟨m, hm⟩ := k0; exact DataW.trod_lt m _ _ _ hm
  obtain ⟨a0, len0, cap0, rfl⟩ := okWide_slice Try.underlying22 (hval 0 22 v0 rfl rfl)
  obtain ⟨fuel0, hf0⟩ := h0
  obtain ⟨xs0, ⟨l0, rfl, hl0⟩, hD0⟩ := (rd_ring) fuel0 _ _ _ hf0
  have k1 := h1
  have lt1 : ∀ x ∈ p1, x.block < W.heap.size := by obtain ⟨m, hm⟩ := k1; exact DataW.trod_lt m _ _ _ hm
  obtain ⟨a1, len1, cap1, rfl⟩ := okWide_slice Try.underlying22 (hval 1 22 v1 rfl rfl)
  obtain ⟨fuel1, hf1⟩ := h1
  obtain ⟨xs1, ⟨l1, rfl, hl1⟩, hD1⟩ := (rd_ring) fuel1 _ _ _ hf1
  clear hA0 hval0 hsz0
  refine (AC.law (w := W) (vals := [.slice a0 len0 cap0, .slice a1 len1 cap1]) (ringEncodes l0 l1 hl0 hl1) (fun x σ h => h.1) ?_).mono fun e W' ⟨he, bel⟩ => ?_
  · exact ⟨_, _, rfl, VR_one hD0, ⟨_, _, rfl, VR_one hD1, rfl⟩⟩
  subst he
  exact ⟨_, rfl, _, _, _, [], _, [], hW', trodAll_mk1 (shut_bool Try.underlying4 _), (trodAll_cons_mk (Below.trod laidOut (by kernel_rfl) (of_decide_eq_true (by kernel_rfl)) k0 bel lt0) (trodAll_cons_mk (Below.trod laidOut (by kernel_rfl) (of_decide_eq_true (by kernel_rfl)) k1 bel lt1) trodAll_mk0)), rfl, bel.frame _, fun h => by cases h⟩
theorem k1 : (Rows.ringEncodesRow.inPlace == Try.prog.inPlace 6) = true := by kernel_rfl
theorem k2 : (Rows.ringEncodesRow.unfollowed == Try.prog.unfollowed 6) = true := by kernel_rfl
theorem k3 : (Rows.ringEncodesRow.recurses == Try.prog.recurses 6) = true := by kernel_rfl
theorem k4 : (Rows.ringEncodesRow.named == Try.prog.varsNamed 6) = true := by kernel_rfl
theorem closed : joinedFacts Try.prog 6 Try.f6 Rows.ringEncodesSpec Rows.ringEncodesRow = true := joined_of head_laid head_maps head_stops head_knobs k1 k2 k3 k4 head_heard head_enter head_final head_make head_keys (by kernel_rfl)
theorem over : Rows.ringEncodesRow.holds Try.pinned (OpenSpec.ofChange Rows.ringEncodesSpec) :=
  OpenClaim.holds_of_wide 6 Try.f6 rfl rfl rfl rfl rfl rfl rfl ⟨rfl, rfl, rfl, rfl, rfl⟩ rfl rfl rfl rfl rfl (by kernel_rfl) Try.func6
    closed (of_decide_eq_true (by kernel_rfl)) (by unfold Func.isWrapper; first | (rw [if_pos (by decide +kernel)]; kernel_rfl) | (rw [if_neg (by decide +kernel)]; exact ⟨rfl, rfl⟩))
    (fun os started H enc _ => lifted os started H enc)
theorem proved : Rows.RingEncodesSaid := over
#print axioms proved
end Go.Proofs.Ytidkhiomlljfiaa.ringEncodes
namespace Go.Proofs.Ytidkhiomlljfiaa
/-- The row, under a short name, for the claim. -/
theorem ringEncodes_holds : Rows.RingEncodesSaid := ringEncodes.proved
end Go.Proofs.Ytidkhiomlljfiaa
