/-
  cursor: each function does what its plain form says.
-/
import Derived.Test.YtdnfcckkdnkaiaaGreatU19
set_option linter.unusedVariables false
set_option linter.unusedSimpArgs false
set_option maxHeartbeats 4000000
set_option maxRecDepth 10000
namespace Go.AW
open Go Go.Proofs
attribute [local irreducible] thenQ blockQ RetQ AL AW AC AOp
section
variable (s : List UInt8) (a : Nat) (e f n : Int)
theorem cursor_At:AC Tryz.prog 163 [.p 0 0] [Cu.ob ⟨s,a,e⟩] fun x σ=>x=iv .i64 a∧σ=[Cu.ob ⟨s,a,e⟩]:=by
 refine AC.wk Tryz.func163 ?_
 focus ((repeat' (first|refine GF ?_|refine AW.ret ?_|(refine GC ?_ ?_<;>intro h<;>(try simp only [hsB] at h)<;>try exact xf)|(refine GL ?_ ?_<;>intro h<;>(try simp only [hsN] at h)<;>(try simp only [h])<;>(try simp only [hsB] at h)<;>try exact xf)|fail)))
 (all_goals first|exact RetQ.fr 1|exact RetQ.fn 1|fail)
end
end Go.AW
namespace Go.AW
open Go Go.Proofs
attribute [local irreducible] thenQ blockQ RetQ AL AW AC AOp
theorem has_11:AC Tryz.prog 93 [iv .u8 1,iv .u8 1] [] fun y σ=>y=bv true∧σ=[]:=by
 refine AC.wk Tryz.func93 ?_
 have hp:=parts_11
 (have kk1:=uN [] hp;exact Wd0)
theorem has_12:AC Tryz.prog 93 [iv .u8 1,iv .u8 2] [] fun y σ=>y=bv true∧σ=[]:=by
 refine AC.wk Tryz.func93 ?_
 have hp:=parts_12
 (have kk1:=uN [] hp;exact Wd0)
theorem has_18:AC Tryz.prog 93 [iv .u8 1,iv .u8 8] [] fun y σ=>y=bv true∧σ=[]:=by
 refine AC.wk Tryz.func93 ?_
 have hp:=parts_18
 (have kk1:=uN [] hp;exact Wd0)
theorem has_21:AC Tryz.prog 93 [iv .u8 2,iv .u8 1] [] fun y σ=>y=bv true∧σ=[]:=by
 refine AC.wk Tryz.func93 ?_
 have hp:=parts_21
 (have kk1:=uN [] hp;exact Wd0)
theorem has_22:AC Tryz.prog 93 [iv .u8 2,iv .u8 2] [] fun y σ=>y=bv true∧σ=[]:=by
 refine AC.wk Tryz.func93 ?_
 have hp:=parts_22
 (have kk1:=uN [] hp;exact Wd0)
theorem has_23:AC Tryz.prog 93 [iv .u8 2,iv .u8 3] [] fun y σ=>y=bv true∧σ=[]:=by
 refine AC.wk Tryz.func93 ?_
 have hp:=parts_23
 (have kk1:=uN [] hp;exact Wd0)
theorem has_24:AC Tryz.prog 93 [iv .u8 2,iv .u8 4] [] fun y σ=>y=bv true∧σ=[]:=by
 refine AC.wk Tryz.func93 ?_
 have hp:=parts_24
 (have kk1:=uN [] hp;exact Wd0)
theorem has_25:AC Tryz.prog 93 [iv .u8 2,iv .u8 5] [] fun y σ=>y=bv true∧σ=[]:=by
 refine AC.wk Tryz.func93 ?_
 have hp:=parts_25
 (have kk1:=uN [] hp;exact Wd0)
theorem has_26:AC Tryz.prog 93 [iv .u8 2,iv .u8 6] [] fun y σ=>y=bv true∧σ=[]:=by
 refine AC.wk Tryz.func93 ?_
 have hp:=parts_26
 (have kk1:=uN [] hp;exact Wd0)
theorem has_27:AC Tryz.prog 93 [iv .u8 2,iv .u8 7] [] fun y σ=>y=bv true∧σ=[]:=by
 refine AC.wk Tryz.func93 ?_
 have hp:=parts_27
 (have kk1:=uN [] hp;exact Wd0)
theorem has_28:AC Tryz.prog 93 [iv .u8 2,iv .u8 8] [] fun y σ=>y=bv true∧σ=[]:=by
 refine AC.wk Tryz.func93 ?_
 have hp:=parts_28
 (have kk1:=uN [] hp;exact Wd0)
theorem has_29:AC Tryz.prog 93 [iv .u8 2,iv .u8 9] [] fun y σ=>y=bv true∧σ=[]:=by
 refine AC.wk Tryz.func93 ?_
 have hp:=parts_29
 (have kk1:=uN [] hp;exact Wd0)
theorem has_none(v k:Nat)(hv:v<256)(hk:k<256)(h:has v k=false):AC Tryz.prog 93 [iv .u8 (v:Nat),iv .u8 (k:Nat)] [] fun y σ=>y=bv false∧σ=[]:=by
 refine AC.wk Tryz.func93 ?_
 have hp:=parts_none v k hv hk h
 (have kk1:=uN [] hp;exact Wd0)
theorem msg_Has(v k:Nat)(hv:v<256)(hk:k<256):AC Tryz.prog 93 [iv .u8 (v:Nat),iv .u8 (k:Nat)] [] fun y σ=>y=bv (has v k)∧σ=[]:=by
 cases hh:has v k with
 | false=>exact has_none v k hv hk hh
 | true=>
  rcases has_cases hh with ⟨rfl,rfl|rfl|rfl⟩|⟨rfl,rfl|rfl|rfl|rfl|rfl|rfl|rfl|rfl|rfl⟩
  ·exact has_11
  ·exact has_12
  ·exact has_18
  ·exact has_21
  ·exact has_22
  ·exact has_23
  ·exact has_24
  ·exact has_25
  ·exact has_26
  ·exact has_27
  ·exact has_28
  ·exact has_29
attribute [go_sem] apB srcB
theorem pt_id(c:Cu)(hok:c.Ok):AC Tryz.prog 95 [.p 0 0] [Cu.ob c] fun y σ=>y=.t []∧σ=[Cu.ob (Cu.vtake c).2]:=by
 refine AC.wk Tryz.func95 ?_
 have hb:=varint_Take c.s c.a c.e hok
 have he:Cu.vtake c=Cu.vtake ⟨c.s,c.a,c.e⟩:=rfl
 rw [he]
 generalize Cu.vtake ⟨c.s,c.a,c.e⟩=z at *
 obtain ⟨t,c1⟩:=z
 simp only at hb ⊢
 (have kk1:=uN [0] hb;exact Wd1)
theorem pt_text(c:Cu)(hok:c.Ok)(n:Int)(hn:n≤9223372036854775807):AC Tryz.prog 241 [.p 0 0,.p 1 0] [Cu.ob c,.box 3 [iv .i64 n]] fun y σ=>y=.t []∧σ=[Cu.ob (Cu.blob c n).2,.box 3 [iv .i64 n]]:=by
 refine AC.wk Tryz.func241 ?_
 have hb:=blob_Take c.s c.a c.e n hok hn
 have he:Cu.blob c n=Cu.blob ⟨c.s,c.a,c.e⟩ n:=rfl
 rw [he]
 generalize Cu.blob ⟨c.s,c.a,c.e⟩ n=z at *
 obtain ⟨t,c1⟩:=z
 simp only at hb ⊢
 (have kk1:=uN [0] hb;exact Wd2)
theorem pt_flag(c:Cu)(hok:c.Ok):AC Tryz.prog 243 [.p 0 0] [Cu.ob c] fun y σ=>y=.t []∧σ=[Cu.ob (Cu.flag c).2]:=by
 refine AC.wk Tryz.func243 ?_
 have hb:=blob_Flag c.s c.a c.e hok
 have he:Cu.flag c=Cu.flag ⟨c.s,c.a,c.e⟩:=rfl
 rw [he]
 generalize Cu.flag ⟨c.s,c.a,c.e⟩=z at *
 obtain ⟨t,c1⟩:=z
 simp only at hb ⊢
 (have kk1:=uN [0] hb;exact Wd1)
theorem pt_ctx(c:Cu)(hok:c.Ok):AC Tryz.prog 150 [.p 0 0] [Cu.ob c] fun y σ=>y=.t []∧σ=[Cu.ob (Cu.vec c).2]:=by
 refine AC.wk Tryz.func150 ?_
 have hb:=vcode_Take c.s c.a c.e hok
 have he:Cu.vec c=Cu.vec ⟨c.s,c.a,c.e⟩:=rfl
 rw [he]
 generalize Cu.vec ⟨c.s,c.a,c.e⟩=z at *
 obtain ⟨t,c1⟩:=z
 simp only at hb ⊢
 (have kk1:=uN [0] hb;exact Wd1)
theorem pt_meta(c:Cu)(hok:c.Ok):AC Tryz.prog 155 [.p 0 0] [Cu.ob c] fun y σ=>y=.t []∧σ=[Cu.ob (Cu.prs c).2]:=by
 refine AC.wk Tryz.func155 ?_
 have hb:=pairs_Take c.s c.a c.e hok
 have he:Cu.prs c=Cu.prs ⟨c.s,c.a,c.e⟩:=rfl
 rw [he]
 generalize Cu.prs ⟨c.s,c.a,c.e⟩=z at *
 obtain ⟨t,c1⟩:=z
 simp only at hb ⊢
 (have kk1:=uN [0] hb;exact Wd1)
theorem pt_page(c:Cu)(hok:c.Ok):AC Tryz.prog 157 [.p 0 0] [Cu.ob c] fun y σ=>y=.t []∧σ=[Cu.ob (Cu.page c).2]:=by
 refine AC.wk Tryz.func157 ?_
 have hb:=page_Take c.s c.a c.e hok
 have he:Cu.page c=Cu.page ⟨c.s,c.a,c.e⟩:=rfl
 rw [he]
 generalize Cu.page ⟨c.s,c.a,c.e⟩=z at *
 obtain ⟨t,c1⟩:=z
 simp only at hb ⊢
 (have kk1:=uN [0] hb;exact Wd1)
theorem pt_ring(c:Cu)(hok:c.Ok):AC Tryz.prog 159 [.p 0 0] [Cu.ob c] fun y σ=>y=.t []∧σ=[Cu.ob (Cu.ring c).2]:=by
 refine AC.wk Tryz.func159 ?_
 have hb:=ring_Take c.s c.a c.e hok
 have he:Cu.ring c=Cu.ring ⟨c.s,c.a,c.e⟩:=rfl
 rw [he]
 generalize Cu.ring ⟨c.s,c.a,c.e⟩=z at *
 obtain ⟨t,c1⟩:=z
 simp only at hb ⊢
 (have kk1:=uN [0] hb;exact Wd1)
theorem pt_code(c:Cu)(hok:c.Ok):AC Tryz.prog 161 [.p 0 0] [Cu.ob c] fun y σ=>y=.t []∧σ=[Cu.ob (Cu.count c 255).2]:=by
 refine AC.wk Tryz.func161 ?_
 have hb:=blob_Count c.s c.a c.e 255 hok (by decide)
 have he:Cu.count c 255=Cu.count ⟨c.s,c.a,c.e⟩ 255:=rfl
 rw [he]
 generalize Cu.count ⟨c.s,c.a,c.e⟩ 255=z at *
 obtain ⟨t,c1⟩:=z
 simp only at hb ⊢
 (have kk1:=uN [0] hb;exact Wd1)
theorem pt_key(c:Cu)(hok:c.Ok):AC Tryz.prog 242 [.p 0 0] [Cu.ob c] fun y σ=>y=.t []∧σ=[Cu.ob (Cu.okey c).2]:=by
 refine AC.wk Tryz.func242 ?_
 have hb:=blob_Take c.s c.a c.e 128 hok (by decide)
 obtain ⟨R,hR⟩:∃ R,R=Cu.okey c:=⟨_,rfl⟩
 rw [←hR]
 unfold Cu.okey at hR
 have he:Cu.blob c 128=Cu.blob ⟨c.s,c.a,c.e⟩ 128:=rfl
 rw [he] at hR
 generalize Cu.blob ⟨c.s,c.a,c.e⟩ 128=z at *
 obtain ⟨t,c1⟩:=z
 simp only at hb hR
 have hfl:=cursor_Fail c1.s c1.a c1.e 14
 by_cases h0:t=[]
 ·subst h0
  rw [decide_eq_false (by simp)] at hR
  have hR:R=([],c1.fail 14):=hR
  subst hR
  (have kk1:=uN [0] hb;have kk2:=uN [0] hfl;exact Wd1)
 ·rw [decide_eq_true h0] at hR
  have hR:R=(t,c1):=hR
  subst hR
  (have kxs:=h0;have kk1:=uN [0] hb;have kk2:=uN [0] hfl;exact Wd1)
end Go.AW
namespace Go.AW
abbrev Spn:=List UInt8 × (Nat × Nat)
abbrev Prd:=List UInt8 × (Cu→Cu)
def spansr:List Prd→Cu→List Spn × Cu
 | [],c=>([],c)
 | x::l,c=>if (x.2 c).e≠0 then ([],x.2 c) else ((x.1,(c.a,(x.2 c).a))::(spansr l (x.2 c)).1,(spansr l (x.2 c)).2)
def runs(l:List Prd)(c:Cu):Cu:=l.foldl (fun c x=>x.2 c) c
def Stk(l:List Prd):Prop:=∀ x ∈ l,∀ c:Cu,c.e≠0→x.2 c=c
theorem runs_stuck:∀ (l:List Prd) (c:Cu),Stk l→c.e≠0→runs l c=c
 | [],c,_,_=>rfl
 | x::l,c,hs,h=>by
  show runs l (x.2 c)=c
  rw [hs x (List.mem_cons_self ..) c h]
  exact runs_stuck l c (fun y hy=>hs y (List.mem_cons_of_mem _ hy)) h
theorem spansr_end:∀ (l:List Prd) (c:Cu),Stk l→(spansr l c).2=runs l c
 | [],c,_=>rfl
 | x::l,c,hs=>by
  have hs':Stk l:=fun y hy=>hs y (List.mem_cons_of_mem _ hy)
  show _=runs l (x.2 c)
  unfold spansr
  split
  ·rename_i h;rw [runs_stuck l _ hs' h]
  ·exact spansr_end l _ hs'
def nId:List UInt8:=[105,100]
def nKey:List UInt8:=[107,101,121]
def nFound:List UInt8:=[102,111,117,110,100]
def nOld:List UInt8:=[111,108,100]
def nObject:List UInt8:=[111,98,106,101,99,116]
def nCtx:List UInt8:=[99,116,120]
def nMeta:List UInt8:=[109,101,116,97]
def nDead:List UInt8:=[100,101,97,100]
def nValue:List UInt8:=[118,97,108,117,101]
def nPrefix:List UInt8:=[112,114,101,102,105,120]
def nPage:List UInt8:=[112,97,103,101]
def nRing:List UInt8:=[114,105,110,103]
def nCode:List UInt8:=[99,111,100,101]
def nText:List UInt8:=[116,101,120,116]
def kparts(v k:Nat)(found:Bool):List Prd:=
 match k with
 | 1=>[(nKey,fun c=>c.okey.2)]
 | 2=>(nFound,fun c=>c.flag.2)::if found=true then [(if v=1 then nOld else nObject,fun c=>(c.blob 65536).2)] else []
 | 3=>[(nKey,fun c=>c.okey.2),(nCtx,fun c=>c.vec.2),(nMeta,fun c=>c.prs.2),(nDead,fun c=>c.flag.2),(nValue,fun c=>(c.blob 32768).2)]
 | 4=>[(nCtx,fun c=>c.vec.2)]
 | 5=>[(nPrefix,fun c=>(c.blob 31).2)]
 | 6=>[(nPage,fun c=>c.page.2)]
 | 7=>[(nRing,fun c=>c.ring.2)]
 | 8=>[(nCode,fun c=>(c.count 255).2),(nText,fun c=>(c.blob 64).2)]
 | _=>[(nObject,fun c=>(c.blob 65536).2)]
def pparts(v k:Nat)(c:Cu):List Prd:=(nId,fun c=>c.vtake.2)::kparts v k c.vtake.2.flag.1
def partw(v k:Nat)(s:List UInt8):List Spn × Int:=
 if v≠1∧v≠2 then ([],10) else if has v k=false then ([],11) else ((spansr (pparts v k ⟨s,0,0⟩) ⟨s,0,0⟩).1,(spansr (pparts v k ⟨s,0,0⟩) ⟨s,0,0⟩).2.fin.e)
theorem vtake_stk(c:Cu)(h:c.e≠0):c.vtake.2=c:=trip_v.stuck c h
theorem kparts_stk(v k:Nat)(f:Bool):Stk (kparts v k f):=by
 have hk:=fun c (h:c.e≠0)=>trip_okey.stuck c h
 have hf:=fun c (h:c.e≠0)=>trip_flag.stuck c h
 have hb:=fun n c (h:c.e≠0)=>(trip_blob n).stuck c h
 have hn:=fun n c (h:c.e≠0)=>(trip_count n).stuck c h
 have hp:=fun c (h:c.e≠0)=>trip_page.stuck c h
 have hr:=fun c (h:c.e≠0)=>trip_ring.stuck c h
 have hv:=fun c (h:c.e≠0)=>trip_vec.stuck c h
 have hq:=fun c (h:c.e≠0)=>trip_prs.stuck c h
 intro x hx c h
 unfold kparts at hx
 split at hx
 all_goals simp only [List.mem_cons,List.not_mem_nil,or_false] at hx
 ·subst hx;exact hk c h
 ·rcases hx with rfl|hx
  ·exact hf c h
  ·split at hx
   ·simp only [List.mem_cons,List.not_mem_nil,or_false] at hx
    subst hx;exact hb 65536 c h
   ·exact absurd hx (List.not_mem_nil)
 ·rcases hx with rfl|rfl|rfl|rfl|rfl
  ·exact hk c h
  ·exact hv c h
  ·exact hq c h
  ·exact hf c h
  ·exact hb 32768 c h
 ·subst hx;exact hv c h
 ·subst hx;exact hb 31 c h
 ·subst hx;exact hp c h
 ·subst hx;exact hr c h
 ·rcases hx with rfl|rfl
  ·exact hn 255 c h
  ·exact hb 64 c h
 ·subst hx;exact hb 65536 c h
theorem pparts_stk(v k:Nat)(c:Cu):Stk (pparts v k c):=by
 intro x hx c' h
 rcases List.mem_cons.1 hx with rfl|hx
 ·exact vtake_stk c' h
 ·exact kparts_stk _ _ _ x hx c' h
theorem nest_e{α:Type}{R:Cu→α × Cu}{d:α}{c:Cu}(h:(Cu.nest R d c).2.e=0):(Cu.nest R d c).2=(c.blob 65536).2:=by
 unfold Cu.nest at h ⊢
 by_cases h0:(c.blob 65536).2.e=0
 ·rw [if_pos h0] at h ⊢
  by_cases h1:(rdw R d (c.blob 65536).1).2=0
  ·show Cu.fail _ _=_
   rw [h1,Cu.fail_zero]
  ·exact absurd h (Cu.fail_e h1)
 ·rw [if_neg h0]
theorem fin_e0{c:Cu}(h:c.fin.e=0):c.e=0:=by
 by_cases h0:c.e=0
 ·exact h0
 ·have h2:c.fin.e=c.e:=if_neg (fun h1=>h0 h1.1)
  rw [h2] at h;exact h
theorem tell_other{v k:Nat}(hh:has v k=true)(h2:k≠2)(h9:k≠9)(c:Cu):runs (pparts v k c) c=(Cu.msg v k c).2:=by
 have hc:=has_cases hh
 have:k=1∨k=3∨k=4∨k=5∨k=6∨k=7∨k=8:=by omega
 rcases this with rfl|rfl|rfl|rfl|rfl|rfl|rfl<;>rfl
theorem tell_object{v k:Nat}(hh:has v k=true)(h2:k=2∨k=9)(c:Cu)(h:(Cu.msg v k c).2.e=0):runs (pparts v k c) c=(Cu.msg v k c).2:=by
 have hc:=has_cases hh
 rcases h2 with rfl|rfl
 ·show runs (kparts v 2 c.vtake.2.flag.1) c.vtake.2=(Cu.mbody v 2 c.vtake.1 c.vtake.2).2
  change (Cu.mbody v 2 c.vtake.1 c.vtake.2).2.e=0 at h
  generalize c.vtake.1=id at *
  generalize c.vtake.2=q at *
  unfold Cu.mbody at h ⊢
  unfold kparts
  simp only at h ⊢
  generalize hq:q.flag=z at *
  obtain ⟨b,q2⟩:=z
  simp only at h ⊢
  show runs _ q.flag.2=_
  rw [hq]
  rcases hc with ⟨rfl,_⟩|⟨rfl,_⟩
  ·simp only [if_true] at h ⊢
   cases b with
   | false=>rfl
   | true=>simp only [if_true] at h ⊢;exact (nest_e h).symm
  ·simp only [n21,if_false] at h ⊢
   cases b with
   | false=>rfl
   | true=>simp only [if_true] at h ⊢;exact (nest_e h).symm
 ·exact (nest_e h).symm
theorem partw_has{v k:Nat}(hh:has v k=true)(s:List UInt8):partw v k s=((spansr (pparts v k ⟨s,0,0⟩) ⟨s,0,0⟩).1,(runs (pparts v k ⟨s,0,0⟩) ⟨s,0,0⟩).fin.e):=by
 unfold partw
 rw [←spansr_end _ _ (pparts_stk _ _ _)]
 rcases has_cases hh with ⟨rfl,_⟩|⟨rfl,_⟩
 ·rw [if_neg (by simp),if_neg (by simp [hh])]
 ·rw [if_neg (by simp),if_neg (by simp [hh])]
theorem tells_eq{v k:Nat}{s:List UInt8}(h2:k≠2)(h9:k≠9):(partw v k s).2=(msgw v k s).2:=by
 by_cases hh:has v k=true
 ·rw [partw_has hh,msgw_has hh,tell_other hh h2 h9]
  rfl
 ·unfold partw msgw
  by_cases hv:v≠1∧v≠2
  ·rw [if_pos hv,if_pos hv]
  ·have hf:has v k=false:=by simpa using hh
   rw [if_neg hv,if_neg hv,if_pos hf,if_pos hf]
theorem tells_obj{v k:Nat}{s:List UInt8}(hk:k=2∨k=9):(msgw v k s).2≠0∨(partw v k s).2=0:=by
 by_cases hh:has v k=true
 ·by_cases h0:(msgw v k s).2=0
  ·right
   rw [msgw_has hh] at h0
   have h1:(Cu.msg v k ⟨s,0,0⟩).2.fin.e=0:=h0
   rw [partw_has hh,tell_object hh hk _ (fin_e0 h1)]
   exact h1
  ·exact .inl h0
 ·left
  unfold msgw
  by_cases hv:v≠1∧v≠2
  ·rw [if_pos hv];decide
  ·have hf:has v k=false:=by simpa using hh
   rw [if_neg hv,if_pos hf];decide
end Go.AW
namespace Go.AW
open Go
abbrev Sp:=List UInt8 × (Int × Int)
def spD(x:Sp):List D:=[.s (.string ⟨x.1.toArray⟩),.s (.int .i64 x.2.1),.s (.int .i64 x.2.2)]
abbrev spsD(l:List Sp):List D:=(l.map spD).flatten
theorem sps_drop{v r:List Sp}{x:Sp}{i:Nat}(h:v.drop i=x::r):(spsD v).drop (i*3)=.s (.string ⟨x.1.toArray⟩)::.s (.int .i64 x.2.1)::.s (.int .i64 x.2.2)::spsD r:=by
 rw [spsD,flat_drop (f:=spD) (sz:=3) (fun _=>rfl),h];rfl
def upS(x:Spn):Sp:=(x.1,((x.2.1:Nat):Int),((x.2.2:Nat):Int))
abbrev spnsD(l:List Spn):List D:=spsD (l.map upS)
theorem spns_snoc(l:List Spn)(x:Spn):spnsD (l++[x])=spnsD l++[D.s (.string ⟨x.1.toArray⟩),.s (.int .i64 (x.2.1:Nat)),.s (.int .i64 (x.2.2:Nat))]:=by
 simp [spnsD,spsD,upS,spD]
def cutS(s:List UInt8)(x:Sp):List UInt8:=if x.2.1<0∨(s.length:Int)<x.2.2∨x.2.2<x.2.1 then [] else (s.drop x.2.1.toNat).take (x.2.2.toNat-x.2.1.toNat)
def strsD(l:List (List UInt8)):List D:=l.map fun s=>.s (.string ⟨s.toArray⟩)
def findS(nm:List UInt8):List Sp→Sp × Bool
 | []=>(([],0,0),false)
 | x::l=>if x.1=nm then (x,true) else findS nm l
end Go.AW
