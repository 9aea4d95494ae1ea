/-
  PartsPayload returns true for every input, and leaves the input as it was.
-/
import Derived.Test.YtdjeilbhdleopaaGreatRows
import Derived.WalkKit
import Derived.ProofKit
import Derived.OpenShut
import Derived.ShutString
import Derived.ChangeOld
import Derived.Below
import Derived.SizedLaws
import Derived.Test.YtdjeilbhdleopaaGreatP24
namespace Go.Proofs.YtdjeilbhdleopaaGreat.partsPayload
open Go.ChangeShapes Go.WideShapes Go.ChangeAt Go.RowKit Go.AW
open Go.ChangeMaps (open_string shut_string)
theorem own : ownKnob Tryz.prog.godebug = none := by kernel_rfl
theorem laidOut : laidOutB Tryz.prog = true := head_laid
set_option maxRecDepth 100000 in
theorem lifted (os : Os) (started : os.Started) (H : Type) (enc : TypeId × Value → H) :
    ReturnsInHanded {} Tryz.checked os 8 .any (Rows.partsPayloadSpec.pre6 enc Tryz.prog Tryz.f8 Rows.partsPayloadRow.domain false) (Rows.partsPayloadSpec.post enc Tryz.prog Tryz.f8 false true false false) := by
  refine returnsInHanded_of_change_sized (C := Tryz.checked) own started (by kernel_rfl) Tryz.func8
    (ChangeSpec.witness6 (enc := enc) (C := Tryz.checked) false ⟨#[], #[.int .u8 0, .int .u8 0, .string ByteArray.empty], []⟩ 8 (by kernel_rfl) (by kernel_rfl) (by kernel_rfl) (by kernel_rfl)) ?_
  intro W base args ds gs before hval0 hW hcnd hsz0 _
  have hval : ∀ (j : Nat) t v, Tryz.f8.params[j]? = some t → args[j]? = some v → Value.okWide Tryz.prog W .any base t v := hval0
  have hW' := hW
  obtain ⟨p, q, hA0, hV, rfl, hfz, hnd⟩ := hW
  have hA : DataW.TrodAll enc Tryz.prog W 0 (fun _ => true) true Tryz.f8.params.toList args.toList ds p := hA0
  rw [Tryz.params8] at hA hval
  obtain ⟨v0, vs0, d0, ds0, p0, q0, hargs, rfl, rfl, h0, r0⟩ := trodAll_cons hA
  obtain ⟨v1, vs1, d1, ds1, p1, q1, rfl, rfl, rfl, h1, r1⟩ := trodAll_cons r0
  obtain ⟨v2, vs2, d2, ds2, p2, q2, rfl, rfl, rfl, h2, r2⟩ := trodAll_cons r1
  obtain ⟨rfl, rfl, rfl⟩ := trodAll_nil r2
  obtain rfl : args = #[v0, v1, v2] := by cases args; simp_all
  obtain ⟨rfl, rfl⟩ := trodVars_none hV
  have k0 := h0
  have lt0 : ∀ x ∈ p0, x.block < W.heap.size := by obtain ⟨m, hm⟩ := k0; exact DataW.trod_lt m _ _ _ hm
  obtain ⟨a0, rfl⟩ := okWide_int Tryz.underlying5 (hval 0 5 v0 rfl rfl)
  obtain ⟨fuel0, hf0⟩ := h0
  obtain ⟨xs0, ⟨n0, rfl, hn0⟩, hD0⟩ := (Rd.int Tryz.underlying5) fuel0 _ _ _ hf0
  have k1 := h1
  have lt1 : ∀ x ∈ p1, x.block < W.heap.size := by obtain ⟨m, hm⟩ := k1; exact DataW.trod_lt m _ _ _ hm
  obtain ⟨a1, rfl⟩ := okWide_int Tryz.underlying5 (hval 1 5 v1 rfl rfl)
  obtain ⟨fuel1, hf1⟩ := h1
  obtain ⟨xs1, ⟨n1, rfl, hn1⟩, hD1⟩ := (Rd.int Tryz.underlying5) fuel1 _ _ _ hf1
  have k2 := h2
  have lt2 : ∀ x ∈ p2, x.block < W.heap.size := by obtain ⟨m, hm⟩ := k2; exact DataW.trod_lt m _ _ _ hm
  obtain ⟨a2, rfl⟩ := okWide_string Tryz.underlying9 (hval 2 9 v2 rfl rfl)
  obtain ⟨fuel2, hf2⟩ := h2
  obtain ⟨xs2, ⟨l2, rfl, hl2⟩, hD2⟩ := (Rd.str Tryz.underlying9) fuel2 _ _ _ hf2
  clear hA0 hval0 hsz0
  refine (AC.law (w := W) (vals := [.int .u8 a0, .int .u8 a1, .string a2]) (partsPayloadI n0 n1 (wf_u8 hn0) (wf_u8 hn1) l2 hl2) (fun x σ h => h.1) ?_).mono fun e W' ⟨he, bel⟩ => ?_
  · exact ⟨_, _, rfl, VR_one hD0, ⟨_, _, rfl, VR_one hD1, ⟨_, _, rfl, VR_one hD2, rfl⟩⟩⟩
  subst he
  exact ⟨_, rfl, _, _, _, [], _, [], hW', trodAll_mk1 (shut_bool Tryz.underlying4 _), (trodAll_cons_mk (Below.trod laidOut (by kernel_rfl) (of_decide_eq_true (by kernel_rfl)) k0 bel lt0) (trodAll_cons_mk (Below.trod laidOut (by kernel_rfl) (of_decide_eq_true (by kernel_rfl)) k1 bel lt1) (trodAll_cons_mk (Below.trod laidOut (by kernel_rfl) (of_decide_eq_true (by kernel_rfl)) k2 bel lt2) trodAll_mk0))), rfl, bel.frame _, fun h => by cases h⟩
theorem k1 : (Rows.partsPayloadRow.inPlace == Tryz.prog.inPlace 8) = true := by kernel_rfl
theorem k2 : (Rows.partsPayloadRow.unfollowed == Tryz.prog.unfollowed 8) = true := by kernel_rfl
theorem k3 : (Rows.partsPayloadRow.recurses == Tryz.prog.recurses 8) = true := by kernel_rfl
theorem k4 : (Rows.partsPayloadRow.named == Tryz.prog.varsNamed 8) = true := by kernel_rfl
theorem closed : joinedFacts Tryz.prog 8 Tryz.f8 Rows.partsPayloadSpec Rows.partsPayloadRow = true := joined_of head_laid head_maps head_stops head_knobs k1 k2 k3 k4 head_heard head_enter head_final head_make head_keys (by kernel_rfl)
theorem over : Rows.partsPayloadRow.holds Tryz.pinned (OpenSpec.ofChange Rows.partsPayloadSpec) :=
  OpenClaim.holds_of_wide 8 Tryz.f8 rfl rfl rfl rfl rfl rfl rfl ⟨rfl, rfl, rfl, rfl, rfl⟩ rfl rfl rfl rfl rfl (by kernel_rfl) Tryz.func8
    closed (of_decide_eq_true (by kernel_rfl)) (by unfold Func.isWrapper; first | (rw [if_pos (by decide +kernel)]; kernel_rfl) | (rw [if_neg (by decide +kernel)]; exact ⟨rfl, rfl⟩))
    (fun os started H enc _ => lifted os started H enc)
theorem proved : Rows.PartsPayloadSaid := over
#print axioms proved
end Go.Proofs.YtdjeilbhdleopaaGreat.partsPayload
namespace Go.Proofs.YtdjeilbhdleopaaGreat
theorem partsPayload_holds : Rows.PartsPayloadSaid := partsPayload.proved
end Go.Proofs.YtdjeilbhdleopaaGreat

