/-
  a message's parts: how they are read.
-/
import Derived.Test.YtdnfcckkdnkaiaaGreatU14
import Derived.Test.YtdnfcckkdnkaiaaGreatU16
set_option linter.unusedVariables false
set_option linter.unusedSimpArgs false
set_option maxHeartbeats 4000000
set_option maxRecDepth 10000
namespace Go.AW
open Go Go.Proofs
attribute [local irreducible] thenQ blockQ RetQ AL AW AC AOp
theorem take_Key(c:Cu)(hok:c.Ok)(d0 d1 d2 d3 d4 d5 d6 d7 d8 d9 d10 d11 d12 d13 d14 d15 d16 d17 d18 d19:D):AC Tryz.prog 172 [.p 0 0,.p 1 0,.p 2 0,.p 3 0,.p 4 0] [Cu.ob c,.box 38 [.d d0,.d d1,.d d2,.d d3,.d d4,.d d5,.d d6,.d d7,.d d8,.d d9,.d d10,.d d11,.d d12,.d d13,.d d14,.d d15,.d d16,.d d17,.d d18,.d d19],qo29,qo22,.box 4 [bv true]] fun y σ=>y=.t []∧σ=[Cu.ob (Cu.okey c).2,.box 38 [.d d0,.d d1,sv (bs (Cu.okey c).1),.d d3,.d d4,.d d5,.d d6,.d d7,.d d8,.d d9,.d d10,.d d11,.d d12,.d d13,.d d14,.d d15,.d d16,.d d17,.d d18,.d d19],qo29,qo22,.box 4 [bv true]]:=by
 refine AC.wk Tryz.func172 ?_
 have hof:=of_Key [.d d0,.d d1,.d d2,.d d3,.d d4,.d d5,.d d6,.d d7,.d d8,.d d9,.d d10,.d d11,.d d12,.d d13,.d d14,.d d15,.d d16,.d d17,.d d18,.d d19] rfl
 have hb:=blob_Take c.s c.a c.e 128 hok (by decide)
 obtain ⟨R,hR⟩:∃ R,R=Cu.okey c:=⟨_,rfl⟩
 rw [←hR]
 unfold Cu.okey at hR
 have he:Cu.blob c 128=Cu.blob ⟨c.s,c.a,c.e⟩ 128:=rfl
 rw [he] at hR
 generalize Cu.blob ⟨c.s,c.a,c.e⟩ 128=z at *
 obtain ⟨t,c1⟩:=z
 simp only at hb hR
 have hof2:=of_Key [.d d0,.d d1,.d (.s (.string ⟨t.toArray⟩)),.d d3,.d d4,.d d5,.d d6,.d d7,.d d8,.d d9,.d d10,.d d11,.d d12,.d d13,.d d14,.d d15,.d d16,.d d17,.d d18,.d d19] rfl
 have hfl:=cursor_Fail c1.s c1.a c1.e 14
 by_cases h0:t=[]
 ·rw [decide_eq_false (by simpa using h0)] at hR
  have hR:R=(t,c1.fail 14):=hR
  subst hR
  subst h0
  (have kk1:=uN [1] hof;have kk2:=uN [1] hof2;have kk3:=uN [0] hb;have kk4:=uN [0] hfl;exact Wf5)
 ·rw [decide_eq_true h0] at hR
  have hR:R=(t,c1):=hR
  subst hR
  (have kk1:=uN [1] hof;have kk2:=uN [1] hof2;have kk3:=uN [0] hb;have kk4:=uN [0] hfl;exact Wf5)
theorem take_Text(c:Cu)(hok:c.Ok)(d0 d1 d2 d3 d4 d5 d6 d7 d8 d9 d10 d11 d12 d13 d14 d15 d16 d17 d18 d19:D):AC Tryz.prog 172 [.p 0 0,.p 1 0,.p 2 0,.p 3 0,.p 4 0] [Cu.ob c,.box 38 [.d d0,.d d1,.d d2,.d d3,.d d4,.d d5,.d d6,.d d7,.d d8,.d d9,.d d10,.d d11,.d d12,.d d13,.d d14,.d d15,.d d16,.d d17,.d d18,.d d19],qo30,qo23,.box 4 [bv false]] fun y σ=>y=.t []∧σ=[Cu.ob (Cu.blob c 64).2,.box 38 [.d d0,.d d1,.d d2,.d d3,.d d4,.d d5,.d d6,.d d7,.d d8,.d d9,.d d10,.d d11,.d d12,.d d13,.d d14,.d d15,.d d16,.d d17,.d d18,sv (bs (Cu.blob c 64).1)],qo30,qo23,.box 4 [bv false]]:=by
 refine AC.wk Tryz.func172 ?_
 have hof:=of_Text [.d d0,.d d1,.d d2,.d d3,.d d4,.d d5,.d d6,.d d7,.d d8,.d d9,.d d10,.d d11,.d d12,.d d13,.d d14,.d d15,.d d16,.d d17,.d d18,.d d19] rfl
 have hb:=blob_Take c.s c.a c.e 64 hok (by decide)
 have he:Cu.blob c 64=Cu.blob ⟨c.s,c.a,c.e⟩ 64:=rfl
 rw [he]
 generalize Cu.blob ⟨c.s,c.a,c.e⟩ 64=z at *
 obtain ⟨t,c1⟩:=z
 simp only at hb ⊢
 (have kk1:=uN [1] hof;have kk2:=uN [0] hb;exact Wf5)
theorem take_Value(c:Cu)(hok:c.Ok)(d0 d1 d2 d3 d4 d5 d6 d7 d8 d9 d10 d11 d12 d13 d14 d15 d16 d17 d18 d19:D):AC Tryz.prog 172 [.p 0 0,.p 1 0,.p 2 0,.p 3 0,.p 4 0] [Cu.ob c,.box 38 [.d d0,.d d1,.d d2,.d d3,.d d4,.d d5,.d d6,.d d7,.d d8,.d d9,.d d10,.d d11,.d d12,.d d13,.d d14,.d d15,.d d16,.d d17,.d d18,.d d19],qo28,qo24,.box 4 [bv false]] fun y σ=>y=.t []∧σ=[Cu.ob (Cu.blob c 32768).2,.box 38 [.d d0,.d d1,.d d2,.d d3,.d d4,.d d5,.d d6,.d d7,.d d8,.d d9,.d d10,sv (bs (Cu.blob c 32768).1),.d d12,.d d13,.d d14,.d d15,.d d16,.d d17,.d d18,.d d19],qo28,qo24,.box 4 [bv false]]:=by
 refine AC.wk Tryz.func172 ?_
 have hof:=of_Value [.d d0,.d d1,.d d2,.d d3,.d d4,.d d5,.d d6,.d d7,.d d8,.d d9,.d d10,.d d11,.d d12,.d d13,.d d14,.d d15,.d d16,.d d17,.d d18,.d d19] rfl
 have hb:=blob_Take c.s c.a c.e 32768 hok (by decide)
 have he:Cu.blob c 32768=Cu.blob ⟨c.s,c.a,c.e⟩ 32768:=rfl
 rw [he]
 generalize Cu.blob ⟨c.s,c.a,c.e⟩ 32768=z at *
 obtain ⟨t,c1⟩:=z
 simp only at hb ⊢
 (have kk1:=uN [1] hof;have kk2:=uN [0] hb;exact Wf5)
theorem take_Prefix(c:Cu)(hok:c.Ok)(d0 d1 d2 d3 d4 d5 d6 d7 d8 d9 d10 d11 d12 d13 d14 d15 d16 d17 d18 d19:D):AC Tryz.prog 172 [.p 0 0,.p 1 0,.p 2 0,.p 3 0,.p 4 0] [Cu.ob c,.box 38 [.d d0,.d d1,.d d2,.d d3,.d d4,.d d5,.d d6,.d d7,.d d8,.d d9,.d d10,.d d11,.d d12,.d d13,.d d14,.d d15,.d d16,.d d17,.d d18,.d d19],qo31,qo25,.box 4 [bv false]] fun y σ=>y=.t []∧σ=[Cu.ob (Cu.blob c 31).2,.box 38 [.d d0,.d d1,.d d2,.d d3,.d d4,.d d5,.d d6,.d d7,.d d8,.d d9,.d d10,.d d11,sv (bs (Cu.blob c 31).1),.d d13,.d d14,.d d15,.d d16,.d d17,.d d18,.d d19],qo31,qo25,.box 4 [bv false]]:=by
 refine AC.wk Tryz.func172 ?_
 have hof:=of_Prefix [.d d0,.d d1,.d d2,.d d3,.d d4,.d d5,.d d6,.d d7,.d d8,.d d9,.d d10,.d d11,.d d12,.d d13,.d d14,.d d15,.d d16,.d d17,.d d18,.d d19] rfl
 have hb:=blob_Take c.s c.a c.e 31 hok (by decide)
 have he:Cu.blob c 31=Cu.blob ⟨c.s,c.a,c.e⟩ 31:=rfl
 rw [he]
 generalize Cu.blob ⟨c.s,c.a,c.e⟩ 31=z at *
 obtain ⟨t,c1⟩:=z
 simp only at hb ⊢
 (have kk1:=uN [1] hof;have kk2:=uN [0] hb;exact Wf5)
theorem take_Found(c:Cu)(hok:c.Ok)(d0 d1 d2 d3 d4 d5 d6 d7 d8 d9 d10 d11 d12 d13 d14 d15 d16 d17 d18 d19:D):AC Tryz.prog 178 [.p 0 0,.p 1 0,.p 2 0] [Cu.ob c,.box 38 [.d d0,.d d1,.d d2,.d d3,.d d4,.d d5,.d d6,.d d7,.d d8,.d d9,.d d10,.d d11,.d d12,.d d13,.d d14,.d d15,.d d16,.d d17,.d d18,.d d19],qo26] fun y σ=>y=.t []∧σ=[Cu.ob (Cu.flag c).2,.box 38 [.d d0,.d d1,.d d2,bv (Cu.flag c).1,.d d4,.d d5,.d d6,.d d7,.d d8,.d d9,.d d10,.d d11,.d d12,.d d13,.d d14,.d d15,.d d16,.d d17,.d d18,.d d19],qo26]:=by
 refine AC.wk Tryz.func178 ?_
 have hof:=of_Found [.d d0,.d d1,.d d2,.d d3,.d d4,.d d5,.d d6,.d d7,.d d8,.d d9,.d d10,.d d11,.d d12,.d d13,.d d14,.d d15,.d d16,.d d17,.d d18,.d d19] rfl
 have hb:=blob_Flag c.s c.a c.e hok
 have he:Cu.flag c=Cu.flag ⟨c.s,c.a,c.e⟩:=rfl
 rw [he]
 generalize Cu.flag ⟨c.s,c.a,c.e⟩=z at *
 obtain ⟨t,c1⟩:=z
 simp only at hb ⊢
 (have kk1:=uN [1] hof;have kk2:=uN [0] hb;exact Wf3)
theorem take_Dead(c:Cu)(hok:c.Ok)(d0 d1 d2 d3 d4 d5 d6 d7 d8 d9 d10 d11 d12 d13 d14 d15 d16 d17 d18 d19:D):AC Tryz.prog 178 [.p 0 0,.p 1 0,.p 2 0] [Cu.ob c,.box 38 [.d d0,.d d1,.d d2,.d d3,.d d4,.d d5,.d d6,.d d7,.d d8,.d d9,.d d10,.d d11,.d d12,.d d13,.d d14,.d d15,.d d16,.d d17,.d d18,.d d19],qo27] fun y σ=>y=.t []∧σ=[Cu.ob (Cu.flag c).2,.box 38 [.d d0,.d d1,.d d2,.d d3,.d d4,.d d5,.d d6,.d d7,.d d8,.d d9,bv (Cu.flag c).1,.d d11,.d d12,.d d13,.d d14,.d d15,.d d16,.d d17,.d d18,.d d19],qo27]:=by
 refine AC.wk Tryz.func178 ?_
 have hof:=of_Dead [.d d0,.d d1,.d d2,.d d3,.d d4,.d d5,.d d6,.d d7,.d d8,.d d9,.d d10,.d d11,.d d12,.d d13,.d d14,.d d15,.d d16,.d d17,.d d18,.d d19] rfl
 have hb:=blob_Flag c.s c.a c.e hok
 have he:Cu.flag c=Cu.flag ⟨c.s,c.a,c.e⟩:=rfl
 rw [he]
 generalize Cu.flag ⟨c.s,c.a,c.e⟩=z at *
 obtain ⟨t,c1⟩:=z
 simp only at hb ⊢
 (have kk1:=uN [1] hof;have kk2:=uN [0] hb;exact Wf3)
theorem take_ctx(c:Cu)(hok:c.Ok)(d0 d1 d2 d3 d4 d5 d6 d7 d8 d9 d10 d11 d12 d13 d14 d15 d16 d17 d18 d19:D):AC Tryz.prog 210 [.p 0 0,.p 1 0] [Cu.ob c,.box 38 [.d d0,.d d1,.d d2,.d d3,.d d4,.d d5,.d d6,.d d7,.d d8,.d d9,.d d10,.d d11,.d d12,.d d13,.d d14,.d d15,.d d16,.d d17,.d d18,.d d19]] fun y σ=>y=.t []∧σ=[Cu.ob (Cu.vec c).2,.box 38 [.d d0,.d d1,.d d2,.d d3,.d d4,.d d5,.d d6,.d d7,.d (.l (Cu.vec c).1.length (vecD (Cu.vec c).1)),.d d9,.d d10,.d d11,.d d12,.d d13,.d d14,.d d15,.d d16,.d d17,.d d18,.d d19]]:=by
 refine AC.wk Tryz.func210 ?_
 have hb:=vcode_Take c.s c.a c.e hok
 have he:Cu.vec c=Cu.vec ⟨c.s,c.a,c.e⟩:=rfl
 rw [he]
 generalize Cu.vec ⟨c.s,c.a,c.e⟩=z at *
 obtain ⟨t,c1⟩:=z
 simp only at hb ⊢
 (have kk1:=uN [0] hb;exact Wd2)
theorem take_meta(c:Cu)(hok:c.Ok)(d0 d1 d2 d3 d4 d5 d6 d7 d8 d9 d10 d11 d12 d13 d14 d15 d16 d17 d18 d19:D):AC Tryz.prog 216 [.p 0 0,.p 1 0] [Cu.ob c,.box 38 [.d d0,.d d1,.d d2,.d d3,.d d4,.d d5,.d d6,.d d7,.d d8,.d d9,.d d10,.d d11,.d d12,.d d13,.d d14,.d d15,.d d16,.d d17,.d d18,.d d19]] fun y σ=>y=.t []∧σ=[Cu.ob (Cu.prs c).2,.box 38 [.d d0,.d d1,.d d2,.d d3,.d d4,.d d5,.d d6,.d d7,.d d8,.d (.l (Cu.prs c).1.length (prsD (Cu.prs c).1)),.d d10,.d d11,.d d12,.d d13,.d d14,.d d15,.d d16,.d d17,.d d18,.d d19]]:=by
 refine AC.wk Tryz.func216 ?_
 have hb:=pairs_Take c.s c.a c.e hok
 have he:Cu.prs c=Cu.prs ⟨c.s,c.a,c.e⟩:=rfl
 rw [he]
 generalize Cu.prs ⟨c.s,c.a,c.e⟩=z at *
 obtain ⟨t,c1⟩:=z
 simp only at hb ⊢
 (have kk1:=uN [0] hb;exact Wd2)
theorem take_ring(c:Cu)(hok:c.Ok)(d0 d1 d2 d3 d4 d5 d6 d7 d8 d9 d10 d11 d12 d13 d14 d15 d16 d17 d18 d19:D):AC Tryz.prog 232 [.p 0 0,.p 1 0] [Cu.ob c,.box 38 [.d d0,.d d1,.d d2,.d d3,.d d4,.d d5,.d d6,.d d7,.d d8,.d d9,.d d10,.d d11,.d d12,.d d13,.d d14,.d d15,.d d16,.d d17,.d d18,.d d19]] fun y σ=>y=.t []∧σ=[Cu.ob (Cu.ring c).2,.box 38 [.d d0,.d d1,.d d2,.d d3,.d d4,.d d5,.d d6,.d d7,.d d8,.d d9,.d d10,.d d11,.d d12,.d d13,.d d14,.d d15,.d d16,.d (.l (Cu.ring c).1.length (ringD (Cu.ring c).1)),.d d18,.d d19]]:=by
 refine AC.wk Tryz.func232 ?_
 have hb:=ring_Take c.s c.a c.e hok
 have he:Cu.ring c=Cu.ring ⟨c.s,c.a,c.e⟩:=rfl
 rw [he]
 generalize Cu.ring ⟨c.s,c.a,c.e⟩=z at *
 obtain ⟨t,c1⟩:=z
 simp only at hb ⊢
 (have kk1:=uN [0] hb;exact Wd2)
theorem take_code(c:Cu)(hok:c.Ok)(d0 d1 d2 d3 d4 d5 d6 d7 d8 d9 d10 d11 d12 d13 d14 d15 d16 d17 d18 d19:D):AC Tryz.prog 204 [.p 0 0,.p 1 0] [Cu.ob c,.box 38 [.d d0,.d d1,.d d2,.d d3,.d d4,.d d5,.d d6,.d d7,.d d8,.d d9,.d d10,.d d11,.d d12,.d d13,.d d14,.d d15,.d d16,.d d17,.d d18,.d d19]] fun y σ=>y=.t []∧σ=[Cu.ob (Cu.count c 255).2,.box 38 [.d d0,.d d1,.d d2,.d d3,.d d4,.d d5,.d d6,.d d7,.d d8,.d d9,.d d10,.d d11,.d d12,.d d13,.d d14,.d d15,.d d16,.d d17,iv .i64 ((Cu.count c 255).1:Nat),.d d19]]:=by
 refine AC.wk Tryz.func204 ?_
 have hb:=blob_Count c.s c.a c.e 255 hok (by decide)
 have he:Cu.count c 255=Cu.count ⟨c.s,c.a,c.e⟩ 255:=rfl
 rw [he]
 generalize Cu.count ⟨c.s,c.a,c.e⟩ 255=z at *
 obtain ⟨t,c1⟩:=z
 simp only at hb ⊢
 (have kk1:=uN [0] hb;exact Wd2)
theorem take_page(c:Cu)(hok:c.Ok)(d0 d1 d2 d3 d4 d5 d6 d7 d8 d9 d10 d11 d12 d13 d14 d15 d16 d17 d18 d19:D):AC Tryz.prog 223 [.p 0 0,.p 1 0] [Cu.ob c,.box 38 [.d d0,.d d1,.d d2,.d d3,.d d4,.d d5,.d d6,.d d7,.d d8,.d d9,.d d10,.d d11,.d d12,.d d13,.d d14,.d d15,.d d16,.d d17,.d d18,.d d19]] fun y σ=>y=.t []∧σ=[Cu.ob (Cu.page c).2,.box 38 [.d d0,.d d1,.d d2,.d d3,.d d4,.d d5,.d d6,.d d7,.d d8,.d d9,.d d10,.d d11,.d d12,sv (bs (Cu.page c).1.pre),bv (Cu.page c).1.leaf,.d (.l (Cu.page c).1.slots.length (slsD (Cu.page c).1.slots)),.d (.l (Cu.page c).1.items.length (itsD (Cu.page c).1.items)),.d d17,.d d18,.d d19]]:=by
 refine AC.wk Tryz.func223 ?_
 have hb:=page_Take c.s c.a c.e hok
 have he:Cu.page c=Cu.page ⟨c.s,c.a,c.e⟩:=rfl
 rw [he]
 generalize Cu.page ⟨c.s,c.a,c.e⟩=z at *
 obtain ⟨t,c1⟩:=z
 simp only at hb ⊢
 (have kk1:=uN [0] hb;exact Wd2)
theorem take_object(c:Cu)(hok:c.Ok)(d0 d1 d2 d3 d4 d5 d6 d7 d8 d9 d10 d11 d12 d13 d14 d15 d16 d17 d18 d19:D)(hl:(Cu.blob c 65536).1.length≤65536)(h0:(Cu.blob c 65536).2.e=0):AC Tryz.prog 197 [.p 0 0,.p 1 0] [Cu.ob c,.box 38 [.d d0,.d d1,.d d2,.d d3,.d d4,.d d5,.d d6,.d d7,.d d8,.d d9,.d d10,.d d11,.d d12,.d d13,.d d14,.d d15,.d d16,.d d17,.d d18,.d d19]] fun y σ=>y=.t []∧σ=[Cu.ob ((Cu.blob c 65536).2.fail (objw (Cu.blob c 65536).1).2),.box 38 [.d d0,.d d1,.d d2,.d d3,sv (bs (objw (Cu.blob c 65536).1).1.key),.d (.l (objw (Cu.blob c 65536).1).1.sibs.length (sbsD (objw (Cu.blob c 65536).1).1.sibs)),.d d6,.d d7,.d d8,.d d9,.d d10,.d d11,.d d12,.d d13,.d d14,.d d15,.d d16,.d d17,.d d18,.d d19]]:=by
 refine AC.wk Tryz.func197 ?_
 have hb:=blob_Take c.s c.a c.e 65536 hok (by decide)
 have he:Cu.blob c 65536=Cu.blob ⟨c.s,c.a,c.e⟩ 65536:=rfl
 rw [he] at hl h0 ⊢
 generalize Cu.blob ⟨c.s,c.a,c.e⟩ 65536=z at *
 obtain ⟨t,c1⟩:=z
 simp only at hb hl h0 ⊢
 have herr:=cursor_Err c1.s c1.a c1.e
 have hd:=object_Decode t (by omega)
 have hfl:=cursor_Fail c1.s c1.a c1.e (objw t).2
 generalize objw t=w at *
 obtain ⟨o,f⟩:=w
 simp only at hd hfl ⊢
 (have kk1:=uN [0] hb;have kk2:=uN [0] herr;have kk3:=uN [] hd;have kk4:=uN [0] hfl;exact Wd2)
theorem takf_object(c:Cu)(hok:c.Ok)(d0 d1 d2 d3 d4 d5 d6 d7 d8 d9 d10 d11 d12 d13 d14 d15 d16 d17 d18 d19:D)(h0:(Cu.blob c 65536).2.e≠0):AC Tryz.prog 197 [.p 0 0,.p 1 0] [Cu.ob c,.box 38 [.d d0,.d d1,.d d2,.d d3,.d d4,.d d5,.d d6,.d d7,.d d8,.d d9,.d d10,.d d11,.d d12,.d d13,.d d14,.d d15,.d d16,.d d17,.d d18,.d d19]] fun y σ=>y=.t []∧σ=[Cu.ob (Cu.blob c 65536).2,.box 38 [.d d0,.d d1,.d d2,.d d3,.d d4,.d d5,.d d6,.d d7,.d d8,.d d9,.d d10,.d d11,.d d12,.d d13,.d d14,.d d15,.d d16,.d d17,.d d18,.d d19]]:=by
 refine AC.wk Tryz.func197 ?_
 have hb:=blob_Take c.s c.a c.e 65536 hok (by decide)
 have he:Cu.blob c 65536=Cu.blob ⟨c.s,c.a,c.e⟩ 65536:=rfl
 rw [he] at h0 ⊢
 generalize Cu.blob ⟨c.s,c.a,c.e⟩ 65536=z at *
 obtain ⟨t,c1⟩:=z
 simp only at hb h0 ⊢
 have herr:=cursor_Err c1.s c1.a c1.e
 (have kk1:=uN [0] hb;have kk2:=uN [0] herr;exact Wd2)
theorem take_found_object(c:Cu)(hok:c.Ok)(d0 d1 d2 d4 d5 d6 d7 d8 d9 d10 d11 d12 d13 d14 d15 d16 d17 d18 d19:D)(hl:(Cu.blob c 65536).1.length≤65536)(h0:(Cu.blob c 65536).2.e=0):AC Tryz.prog 182 [.p 0 0,.p 1 0,.p 2 0] [Cu.ob c,.box 38 [.d d0,.d d1,.d d2,bv true,.d d4,.d d5,.d d6,.d d7,.d d8,.d d9,.d d10,.d d11,.d d12,.d d13,.d d14,.d d15,.d d16,.d d17,.d d18,.d d19],qo17] fun y σ=>y=.t []∧σ=[Cu.ob ((Cu.blob c 65536).2.fail (objw (Cu.blob c 65536).1).2),.box 38 [.d d0,.d d1,.d d2,bv true,sv (bs (objw (Cu.blob c 65536).1).1.key),.d (.l (objw (Cu.blob c 65536).1).1.sibs.length (sbsD (objw (Cu.blob c 65536).1).1.sibs)),.d d6,.d d7,.d d8,.d d9,.d d10,.d d11,.d d12,.d d13,.d d14,.d d15,.d d16,.d d17,.d d18,.d d19],qo17]:=by
 refine AC.wk Tryz.func182 ?_
 have hc:=take_object c hok d0 d1 d2 (.s (.bool true)) d4 d5 d6 d7 d8 d9 d10 d11 d12 d13 d14 d15 d16 d17 d18 d19 hl h0
 generalize objw (Cu.blob c 65536).1=w at *
 generalize Cu.blob c 65536=z at *
 (have kk1:=uN [0,1] hc;exact Wd3)
theorem takf_found_object(c:Cu)(hok:c.Ok)(d0 d1 d2 d4 d5 d6 d7 d8 d9 d10 d11 d12 d13 d14 d15 d16 d17 d18 d19:D)(h0:(Cu.blob c 65536).2.e≠0):AC Tryz.prog 182 [.p 0 0,.p 1 0,.p 2 0] [Cu.ob c,.box 38 [.d d0,.d d1,.d d2,bv true,.d d4,.d d5,.d d6,.d d7,.d d8,.d d9,.d d10,.d d11,.d d12,.d d13,.d d14,.d d15,.d d16,.d d17,.d d18,.d d19],qo17] fun y σ=>y=.t []∧σ=[Cu.ob (Cu.blob c 65536).2,.box 38 [.d d0,.d d1,.d d2,bv true,.d d4,.d d5,.d d6,.d d7,.d d8,.d d9,.d d10,.d d11,.d d12,.d d13,.d d14,.d d15,.d d16,.d d17,.d d18,.d d19],qo17]:=by
 refine AC.wk Tryz.func182 ?_
 have hc:=takf_object c hok d0 d1 d2 (.s (.bool true)) d4 d5 d6 d7 d8 d9 d10 d11 d12 d13 d14 d15 d16 d17 d18 d19 h0
 generalize Cu.blob c 65536=z at *
 (have kk1:=uN [0,1] hc;exact Wd3)
theorem takn_found_object(c:Cu)(d0 d1 d2 d4 d5 d6 d7 d8 d9 d10 d11 d12 d13 d14 d15 d16 d17 d18 d19:D):AC Tryz.prog 182 [.p 0 0,.p 1 0,.p 2 0] [Cu.ob c,.box 38 [.d d0,.d d1,.d d2,bv false,.d d4,.d d5,.d d6,.d d7,.d d8,.d d9,.d d10,.d d11,.d d12,.d d13,.d d14,.d d15,.d d16,.d d17,.d d18,.d d19],qo17] fun y σ=>y=.t []∧σ=[Cu.ob c,.box 38 [.d d0,.d d1,.d d2,bv false,.d d4,.d d5,.d d6,.d d7,.d d8,.d d9,.d d10,.d d11,.d d12,.d d13,.d d14,.d d15,.d d16,.d d17,.d d18,.d d19],qo17]:=by
 refine AC.wk Tryz.func182 ?_
 exact Wd3
theorem take_old(c:Cu)(hok:c.Ok)(d0 d1 d2 d3 d4 d5 d6 d7 d8 d9 d10 d11 d12 d13 d14 d15 d16 d17 d18 d19:D)(hl:(Cu.blob c 65536).1.length≤65536)(h0:(Cu.blob c 65536).2.e=0):AC Tryz.prog 189 [.p 0 0,.p 1 0] [Cu.ob c,.box 38 [.d d0,.d d1,.d d2,.d d3,.d d4,.d d5,.d d6,.d d7,.d d8,.d d9,.d d10,.d d11,.d d12,.d d13,.d d14,.d d15,.d d16,.d d17,.d d18,.d d19]] fun y σ=>y=.t []∧σ=[Cu.ob ((Cu.blob c 65536).2.fail (oldw (Cu.blob c 65536).1).2),.box 38 [.d d0,.d d1,.d d2,.d d3,.d d4,.d d5,sv (bs (oldw (Cu.blob c 65536).1).1.key),.d (.l (oldw (Cu.blob c 65536).1).1.sibs.length (ossD (oldw (Cu.blob c 65536).1).1.sibs)),.d d8,.d d9,.d d10,.d d11,.d d12,.d d13,.d d14,.d d15,.d d16,.d d17,.d d18,.d d19]]:=by
 refine AC.wk Tryz.func189 ?_
 have hb:=blob_Take c.s c.a c.e 65536 hok (by decide)
 have he:Cu.blob c 65536=Cu.blob ⟨c.s,c.a,c.e⟩ 65536:=rfl
 rw [he] at hl h0 ⊢
 generalize Cu.blob ⟨c.s,c.a,c.e⟩ 65536=z at *
 obtain ⟨t,c1⟩:=z
 simp only at hb hl h0 ⊢
 have herr:=cursor_Err c1.s c1.a c1.e
 have hd:=legacy_Decode t (by omega)
 have hfl:=cursor_Fail c1.s c1.a c1.e (oldw t).2
 generalize oldw t=w at *
 obtain ⟨o,f⟩:=w
 simp only at hd hfl ⊢
 (have kk1:=uN [0] hb;have kk2:=uN [0] herr;have kk3:=uN [] hd;have kk4:=uN [0] hfl;exact Wd2)
theorem takf_old(c:Cu)(hok:c.Ok)(d0 d1 d2 d3 d4 d5 d6 d7 d8 d9 d10 d11 d12 d13 d14 d15 d16 d17 d18 d19:D)(h0:(Cu.blob c 65536).2.e≠0):AC Tryz.prog 189 [.p 0 0,.p 1 0] [Cu.ob c,.box 38 [.d d0,.d d1,.d d2,.d d3,.d d4,.d d5,.d d6,.d d7,.d d8,.d d9,.d d10,.d d11,.d d12,.d d13,.d d14,.d d15,.d d16,.d d17,.d d18,.d d19]] fun y σ=>y=.t []∧σ=[Cu.ob (Cu.blob c 65536).2,.box 38 [.d d0,.d d1,.d d2,.d d3,.d d4,.d d5,.d d6,.d d7,.d d8,.d d9,.d d10,.d d11,.d d12,.d d13,.d d14,.d d15,.d d16,.d d17,.d d18,.d d19]]:=by
 refine AC.wk Tryz.func189 ?_
 have hb:=blob_Take c.s c.a c.e 65536 hok (by decide)
 have he:Cu.blob c 65536=Cu.blob ⟨c.s,c.a,c.e⟩ 65536:=rfl
 rw [he] at h0 ⊢
 generalize Cu.blob ⟨c.s,c.a,c.e⟩ 65536=z at *
 obtain ⟨t,c1⟩:=z
 simp only at hb h0 ⊢
 have herr:=cursor_Err c1.s c1.a c1.e
 (have kk1:=uN [0] hb;have kk2:=uN [0] herr;exact Wd2)
theorem take_found_old(c:Cu)(hok:c.Ok)(d0 d1 d2 d4 d5 d6 d7 d8 d9 d10 d11 d12 d13 d14 d15 d16 d17 d18 d19:D)(hl:(Cu.blob c 65536).1.length≤65536)(h0:(Cu.blob c 65536).2.e=0):AC Tryz.prog 182 [.p 0 0,.p 1 0,.p 2 0] [Cu.ob c,.box 38 [.d d0,.d d1,.d d2,bv true,.d d4,.d d5,.d d6,.d d7,.d d8,.d d9,.d d10,.d d11,.d d12,.d d13,.d d14,.d d15,.d d16,.d d17,.d d18,.d d19],qo18] fun y σ=>y=.t []∧σ=[Cu.ob ((Cu.blob c 65536).2.fail (oldw (Cu.blob c 65536).1).2),.box 38 [.d d0,.d d1,.d d2,bv true,.d d4,.d d5,sv (bs (oldw (Cu.blob c 65536).1).1.key),.d (.l (oldw (Cu.blob c 65536).1).1.sibs.length (ossD (oldw (Cu.blob c 65536).1).1.sibs)),.d d8,.d d9,.d d10,.d d11,.d d12,.d d13,.d d14,.d d15,.d d16,.d d17,.d d18,.d d19],qo18]:=by
 refine AC.wk Tryz.func182 ?_
 have hc:=take_old c hok d0 d1 d2 (.s (.bool true)) d4 d5 d6 d7 d8 d9 d10 d11 d12 d13 d14 d15 d16 d17 d18 d19 hl h0
 generalize oldw (Cu.blob c 65536).1=w at *
 generalize Cu.blob c 65536=z at *
 (have kk1:=uN [0,1] hc;exact Wd3)
theorem takf_found_old(c:Cu)(hok:c.Ok)(d0 d1 d2 d4 d5 d6 d7 d8 d9 d10 d11 d12 d13 d14 d15 d16 d17 d18 d19:D)(h0:(Cu.blob c 65536).2.e≠0):AC Tryz.prog 182 [.p 0 0,.p 1 0,.p 2 0] [Cu.ob c,.box 38 [.d d0,.d d1,.d d2,bv true,.d d4,.d d5,.d d6,.d d7,.d d8,.d d9,.d d10,.d d11,.d d12,.d d13,.d d14,.d d15,.d d16,.d d17,.d d18,.d d19],qo18] fun y σ=>y=.t []∧σ=[Cu.ob (Cu.blob c 65536).2,.box 38 [.d d0,.d d1,.d d2,bv true,.d d4,.d d5,.d d6,.d d7,.d d8,.d d9,.d d10,.d d11,.d d12,.d d13,.d d14,.d d15,.d d16,.d d17,.d d18,.d d19],qo18]:=by
 refine AC.wk Tryz.func182 ?_
 have hc:=takf_old c hok d0 d1 d2 (.s (.bool true)) d4 d5 d6 d7 d8 d9 d10 d11 d12 d13 d14 d15 d16 d17 d18 d19 h0
 generalize Cu.blob c 65536=z at *
 (have kk1:=uN [0,1] hc;exact Wd3)
theorem takn_found_old(c:Cu)(d0 d1 d2 d4 d5 d6 d7 d8 d9 d10 d11 d12 d13 d14 d15 d16 d17 d18 d19:D):AC Tryz.prog 182 [.p 0 0,.p 1 0,.p 2 0] [Cu.ob c,.box 38 [.d d0,.d d1,.d d2,bv false,.d d4,.d d5,.d d6,.d d7,.d d8,.d d9,.d d10,.d d11,.d d12,.d d13,.d d14,.d d15,.d d16,.d d17,.d d18,.d d19],qo18] fun y σ=>y=.t []∧σ=[Cu.ob c,.box 38 [.d d0,.d d1,.d d2,bv false,.d d4,.d d5,.d d6,.d d7,.d d8,.d d9,.d d10,.d d11,.d d12,.d d13,.d d14,.d d15,.d d16,.d d17,.d d18,.d d19],qo18]:=by
 refine AC.wk Tryz.func182 ?_
 exact Wd3
end Go.AW
