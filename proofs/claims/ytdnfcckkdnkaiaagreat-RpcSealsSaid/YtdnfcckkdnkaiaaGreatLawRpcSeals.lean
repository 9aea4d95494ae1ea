/-
  RpcSeals returns true for every input, and leaves the input as it was.
-/
import Derived.Test.YtdnfcckkdnkaiaaGreatRows
import Derived.WalkKit
import Derived.ProofKit
import Derived.OpenShut
import Derived.ShutString
import Derived.ChangeOld
import Derived.Below
import Derived.SizedLaws
import Derived.Test.YtdnfcckkdnkaiaaGreatU57
namespace Go.Proofs.YtdnfcckkdnkaiaaGreat.rpcSeals
open Go.ChangeShapes Go.WideShapes Go.ChangeAt Go.RowKit Go.AW
open Go.ChangeMaps (open_string shut_string)
theorem own:ownKnob Tryz.prog.godebug=none:=by kernel_rfl
theorem laidOut:laidOutB Tryz.prog=true:=head_laid
set_option maxRecDepth 100000 in
theorem lifted(os:Os)(started:os.Started)(H:Type)(enc:TypeId × Value→H) :
  ReturnsInHanded {} Tryz.checked os 4 .any (Rows.rpcSealsSpec.pre6 enc Tryz.prog Tryz.f4 Rows.rpcSealsRow.domain false) (Rows.rpcSealsSpec.post enc Tryz.prog Tryz.f4 false true false false):=by
 refine returnsInHanded_of_change_sized (C:=Tryz.checked) own started (by kernel_rfl) Tryz.func4
  (ChangeSpec.witness6 (enc:=enc) (C:=Tryz.checked) false ⟨#[],#[.int .u8 0,.agg #[.int .u8 0,.int .u64 0,.string ByteArray.empty,.bool false,.string ByteArray.empty,.slice none 0 0,.string ByteArray.empty,.slice none 0 0,.slice none 0 0,.slice none 0 0,.bool false,.string ByteArray.empty,.string ByteArray.empty,.string ByteArray.empty,.bool false,.slice none 0 0,.slice none 0 0,.slice none 0 0,.int .i64 0,.string ByteArray.empty],.agg #[.int .u8 0,.int .u8 0,.string ByteArray.empty],.int .u8 0],[]⟩ 8 (by kernel_rfl) (by kernel_rfl) (by kernel_rfl) (by kernel_rfl)) ?_
 intro W base args ds gs before hval0 hW hcnd hsz0 _
 have hval:∀ (j:Nat) t v,Tryz.f4.params[j]? = some t→args[j]? = some v→Value.okWide Tryz.prog W .any base t v:=hval0
 have hW':=hW
 obtain ⟨p,q,hA0,hV,rfl,hfz,hnd⟩:=hW
 have hA:DataW.TrodAll enc Tryz.prog W 0 (fun _=>true) true Tryz.f4.params.toList args.toList ds p:=hA0
 rw [Tryz.params4] at hA hval
 obtain ⟨v0,vs0,d0,ds0,p0,q0,hargs,rfl,rfl,h0,r0⟩:=trodAll_cons hA
 obtain ⟨v1,vs1,d1,ds1,p1,q1,rfl,rfl,rfl,h1,r1⟩:=trodAll_cons r0
 obtain ⟨v2,vs2,d2,ds2,p2,q2,rfl,rfl,rfl,h2,r2⟩:=trodAll_cons r1
 obtain ⟨v3,vs3,d3,ds3,p3,q3,rfl,rfl,rfl,h3,r3⟩:=trodAll_cons r2
 obtain ⟨rfl,rfl,rfl⟩:=trodAll_nil r3
 obtain rfl:args=#[v0,v1,v2,v3]:=by cases args;simp_all
 obtain ⟨rfl,rfl⟩:=trodVars_none hV
 have k0:=h0
 have lt0:∀ x ∈ p0,x.block<W.heap.size:=by obtain ⟨m,hm⟩:=k0;exact DataW.trod_lt m _ _ _ hm
 obtain ⟨a0,rfl⟩:=okWide_int Tryz.underlying5 (hval 0 5 v0 rfl rfl)
 obtain ⟨fuel0,hf0⟩:=h0
 obtain ⟨xs0,⟨n0,rfl,hn0⟩,hD0⟩:=(Rd.int Tryz.underlying5) fuel0 _ _ _ hf0
 have k1:=h1
 have lt1:∀ x ∈ p1,x.block<W.heap.size:=by obtain ⟨m,hm⟩:=k1;exact DataW.trod_lt m _ _ _ hm
 obtain ⟨a1,rfl⟩:=okWide_agg Tryz.underlying38 (hval 1 38 v1 rfl rfl)
 obtain ⟨fuel1,hf1⟩:=h1
 obtain ⟨xs1,⟨y1,rfl,hy1⟩,hD1⟩:=(rd_mg) fuel1 _ _ _ hf1
 have k2:=h2
 have lt2:∀ x ∈ p2,x.block<W.heap.size:=by obtain ⟨m,hm⟩:=k2;exact DataW.trod_lt m _ _ _ hm
 obtain ⟨a2,rfl⟩:=okWide_agg Tryz.underlying50 (hval 2 50 v2 rfl rfl)
 obtain ⟨fuel2,hf2⟩:=h2
 obtain ⟨xs2,⟨y2,rfl,hy2⟩,hD2⟩:=(rd_fr) fuel2 _ _ _ hf2
 have k3:=h3
 have lt3:∀ x ∈ p3,x.block<W.heap.size:=by obtain ⟨m,hm⟩:=k3;exact DataW.trod_lt m _ _ _ hm
 obtain ⟨a3,rfl⟩:=okWide_int Tryz.underlying5 (hval 3 5 v3 rfl rfl)
 obtain ⟨fuel3,hf3⟩:=h3
 obtain ⟨xs3,⟨n3,rfl,hn3⟩,hD3⟩:=(Rd.int Tryz.underlying5) fuel3 _ _ _ hf3
 clear hA0 hval0 hsz0
 refine (AC.law (w:=W) (vals:=[.int .u8 a0,.agg a1,.agg a2,.int .u8 a3]) (rpcSealsI n0 (wf_u8 hn0) y1 hy1 y2 hy2 n3 (wf_u8 hn3)) (fun x σ h=>h.1) ?_).mono fun e W' ⟨he,bel⟩=>?_
 ·exact ⟨_,_,rfl,VR_one hD0,⟨_,_,rfl,VR_agg hD1,⟨_,_,rfl,VR_agg hD2,⟨_,_,rfl,VR_one hD3,rfl⟩⟩⟩⟩
 subst he
 exact ⟨_,rfl,_,_,_,[],_,[],hW',trodAll_mk1 (shut_bool Tryz.underlying4 _),(trodAll_cons_mk (Below.trod laidOut (by kernel_rfl) (of_decide_eq_true (by kernel_rfl)) k0 bel lt0) (trodAll_cons_mk (Below.trod laidOut (by kernel_rfl) (of_decide_eq_true (by kernel_rfl)) k1 bel lt1) (trodAll_cons_mk (Below.trod laidOut (by kernel_rfl) (of_decide_eq_true (by kernel_rfl)) k2 bel lt2) (trodAll_cons_mk (Below.trod laidOut (by kernel_rfl) (of_decide_eq_true (by kernel_rfl)) k3 bel lt3) trodAll_mk0)))),rfl,bel.frame _,fun h=>by cases h⟩
theorem k1:(Rows.rpcSealsRow.inPlace == Tryz.prog.inPlace 4)=true:=by kernel_rfl
theorem k2:(Rows.rpcSealsRow.unfollowed == Tryz.prog.unfollowed 4)=true:=by kernel_rfl
theorem k3:(Rows.rpcSealsRow.recurses == Tryz.prog.recurses 4)=true:=by kernel_rfl
theorem k4:(Rows.rpcSealsRow.named == Tryz.prog.varsNamed 4)=true:=by kernel_rfl
theorem closed:joinedFacts Tryz.prog 4 Tryz.f4 Rows.rpcSealsSpec Rows.rpcSealsRow=true:=joined_of head_laid head_maps head_stops head_knobs k1 k2 k3 k4 head_heard head_enter head_final head_make head_keys (by kernel_rfl)
theorem over:Rows.rpcSealsRow.holds Tryz.pinned (OpenSpec.ofChange Rows.rpcSealsSpec):=
 OpenClaim.holds_of_wide 4 Tryz.f4 rfl rfl rfl rfl rfl rfl rfl ⟨rfl,rfl,rfl,rfl,rfl⟩ rfl rfl rfl rfl rfl (by kernel_rfl) Tryz.func4
  closed (of_decide_eq_true (by kernel_rfl)) (by unfold Func.isWrapper;first|(rw [if_pos (by decide +kernel)];kernel_rfl)|(rw [if_neg (by decide +kernel)];exact ⟨rfl,rfl⟩))
  (fun os started H enc _=>lifted os started H enc)
theorem proved:Rows.RpcSealsSaid:=over
#print axioms proved
end Go.Proofs.YtdnfcckkdnkaiaaGreat.rpcSeals
namespace Go.Proofs.YtdnfcckkdnkaiaaGreat
theorem rpcSeals_holds:Rows.RpcSealsSaid:=rpcSeals.proved
end Go.Proofs.YtdnfcckkdnkaiaaGreat
