/-
  pages that are the same; great ones.
-/
import Derived.Test.YtdnfcckkdnkaiaaGreatU45
set_option linter.unusedVariables false
set_option linter.unusedSimpArgs false
set_option maxHeartbeats 4000000
set_option maxRecDepth 10000
namespace Go.AW
open Go Go.Proofs
attribute [local irreducible] thenQ blockQ RetQ AL AW AC AOp
theorem ref20_Great(g:Pg)(hf:g.fits):AC Tryz.prog 60 [pgV g] [] fun x σ=>x=bv g.great∧σ=[]:=by
 refine AC.wk Tryz.func60 ?_
 obtain ⟨f1,⟨f2,f3⟩,f4,f5⟩:=hf
 obtain ⟨pre,leaf,slots,items⟩:=g
 simp only at f1 f2 f3 f4 f5 ⊢
 by_cases h0:100<pre.length∨300<slots.length∨20<items.length
 ·have hc:Pg.great ⟨pre,leaf,slots,items⟩=true:=by
    unfold Pg.great
    rcases h0 with h|h|h<;>simp [h]
  rw [hc]
  exact Wd0
 generalize hR:((slots.any fun x=>decide (100<x.2.length))||items.any fun x=>decide (100<x.1.length)||decide (100<x.2.length))=R
 have hc:Pg.great ⟨pre,leaf,slots,items⟩=R:=by
  rw [←hR]
  unfold Pg.great
  have a1:¬ 100<pre.length:=fun h=>h0 (.inl h)
  have a2:¬ 300<slots.length:=fun h=>h0 (.inr (.inl h))
  have a3:¬ 20<items.length:=fun h=>h0 (.inr (.inr h))
  simp [a1,a2,a3]
 rw [hc]
 clear hc
 focus ((repeat' (first|refine G ?_|refine AW.ret ?_|(refine GC ?_ ?_<;>intro h<;>(try simp only [hsB] at h)<;>try exact xf)|(refine GL ?_ ?_<;>intro h<;>(try simp only [hsN] at h)<;>(try simp only [h])<;>(try simp only [hsB] at h)<;>try exact xf)|fail)))
 all_goals first|exact xg|skip
 refine AW.rounds [1,2,3] (fun i:Nat=>[(1,.p 0 0),(2,bv false),(3,iv .i64 i)]) (fun _=>[.box 35 [sv (bs pre),bv leaf,.d (.l slots.length (slsD slots)),.d (.l items.length (itsD items))]])
  (fun i=>i≤slots.length∧(((slots.drop i).any fun x=>decide (100<x.2.length))||items.any fun x=>decide (100<x.1.length)||decide (100<x.2.length))=R) (fun i=>slots.length-i) 0 ⟨Nat.zero_le _,hR⟩ rfl rfl (fun _ _=>Nat.zero_le _) (fun _ _=>rfl) (fun _ _=>rfl) ?_
 clear hR
 rintro i ⟨hi,hr⟩ J hJ
 by_cases hil:i<slots.length
 case pos=>
  obtain ⟨x,r,hd⟩:=next_at hil
  have hcd:=sls_drop hd
  have hnd:=next_drop hd
  have g2:=(f3 x (next_mem hd)).2
  rw [hd,List.any_cons] at hr
  by_cases h1:100<x.2.length
  ·have hR1:R=true:=by rw [←hr];simp [h1]
   rw [hR1]
   (have kxs:=hcd;exact Wd0)
  ·rw [decide_eq_false h1,Bool.false_or] at hr
   have go:∀ T' σ',keepT T' [1,2,3]=[(1,.p 0 0),(2,bv false),(3,iv .i64 ((i:Int)+1))]→σ'.take 1=[.box 35 [sv (bs pre),bv leaf,.d (.l slots.length (slsD slots)),.d (.l items.length (itsD items))]]→J T' σ':=fun T' σ' g1 g2=>
    hJ (i+1) T' σ' (by omega) ⟨hil,by rw [hnd];exact hr⟩ g1 g2
   clear hJ hr hnd
   (have kxs:=hcd;exact Wdg)
 case neg=>
  rw [List.drop_eq_nil_of_le (by omega)] at hr
  have hr:(items.any fun x=>decide (100<x.1.length)||decide (100<x.2.length))=R:=hr
  clear hJ
  focus ((repeat' (first|refine G ?_|refine AW.ret ?_|(refine GC ?_ ?_<;>intro h<;>(try simp only [hsB] at h)<;>try exact xf)|(refine GL ?_ ?_<;>intro h<;>(try simp only [hsN] at h)<;>(try simp only [h])<;>(try simp only [hsB] at h)<;>try exact xf)|fail)))
  all_goals first|exact xg|skip
  refine AW.rounds [1,2,4] (fun i:Nat=>[(1,.p 0 0),(2,bv false),(4,iv .i64 i)]) (fun _=>[.box 35 [sv (bs pre),bv leaf,.d (.l slots.length (slsD slots)),.d (.l items.length (itsD items))]])
   (fun i=>i≤items.length∧((items.drop i).any fun x=>decide (100<x.1.length)||decide (100<x.2.length))=R) (fun i=>items.length-i) 0 ⟨Nat.zero_le _,hr⟩ rfl rfl (fun _ _=>Nat.zero_le _) (fun _ _=>rfl) (fun _ _=>rfl) ?_
  clear hr
  rintro j ⟨hj,hr⟩ J hJ
  by_cases hjl:j<items.length
  case pos=>
   obtain ⟨x,r,hd⟩:=next_at hjl
   have hcd:=its_drop hd
   have hnd:=next_drop hd
   obtain ⟨g1,g2⟩:=f5 x (next_mem hd)
   rw [hd,List.any_cons] at hr
   by_cases h1:100<x.1.length∨100<x.2.length
   ·have hR1:R=true:=by
      rw [←hr]
      rcases h1 with h1|h1<;>simp [h1]
    rw [hR1]
    (have kxs:=hcd;exact Wd0)
   ·have hx:(decide (100<x.1.length)||decide (100<x.2.length))=false:=by
      simp only [Bool.or_eq_false_iff,decide_eq_false_iff_not];omega
    rw [hx,Bool.false_or] at hr
    have go:∀ T' σ',keepT T' [1,2,4]=[(1,.p 0 0),(2,bv false),(4,iv .i64 ((j:Int)+1))]→σ'.take 1=[.box 35 [sv (bs pre),bv leaf,.d (.l slots.length (slsD slots)),.d (.l items.length (itsD items))]]→J T' σ':=fun T' σ' g1 g2=>
     hJ (j+1) T' σ' (by omega) ⟨hjl,by rw [hnd];exact hr⟩ g1 g2
    clear hJ hr hnd hx
    (have kxs:=hcd;exact Wdg)
  case neg=>
   rw [List.drop_eq_nil_of_le (by omega)] at hr
   have hR0:R=false:=hr.symm
   rw [hR0]
   exact Wd0
theorem ref17_Great(o:Od)(ho:o.fits):AC Tryz.prog 57 [odV o] [] fun x σ=>x=bv o.great∧σ=[]:=by
 obtain ⟨key,l⟩:=o
 obtain ⟨hk,hl,hf⟩:=ho
 simp only at hk hl hf
 refine AC.wk Tryz.func57 ?_
 by_cases h0:200<key.length∨20<l.length
 ·have hc:Od.great ⟨key,l⟩=true:=by unfold Od.great;rcases h0 with h|h<;>simp [h]
  rw [hc]
  exact Wd0
 generalize hR:(l.any fun x=>x.clk.great||decide (200<x.val.length))=R
 have hc:Od.great ⟨key,l⟩=R:=by
  unfold Od.great
  simp only
  rw [hR,decide_eq_false (fun h=>h0 (.inl h)),decide_eq_false (fun h=>h0 (.inr h))];rfl
 rw [hc]
 focus ((repeat' (first|refine G ?_|refine AW.ret ?_|(refine GC ?_ ?_<;>intro h<;>(try simp only [hsB] at h)<;>try exact xf)|(refine GL ?_ ?_<;>intro h<;>(try simp only [hsN] at h)<;>(try simp only [h])<;>(try simp only [hsB] at h)<;>try exact xf)|fail)))
 all_goals first|(exfalso;omega)|skip
 refine AW.rounds [1,2,3] (fun i:Nat=>[(1,.p 0 0),(2,bv false),(3,iv .i64 i)]) (fun _=>[.box 29 [sv (bs key),.d (.l l.length (ossD l))]])
  (fun i=>i≤l.length∧((l.drop i).any fun x=>x.clk.great||decide (200<x.val.length))=R) (fun i=>l.length-i) 0 ⟨Nat.zero_le _,hR⟩ rfl rfl (fun _ _=>Nat.zero_le _) (fun _ _=>rfl) (fun _ _=>rfl) ?_
 rintro i ⟨hi,hr⟩ J hJ
 by_cases hil:i<l.length
 ·obtain ⟨x,r,hd⟩:=next_at hil
  have hcd:=oss_drop hd
  have hnd:=next_drop hd
  rw [hd,List.any_cons] at hr
  have hfx:=hf x (next_mem hd)
  by_cases hg:x.clk.great=true
  ·rw [hg,Bool.true_or,Bool.true_or] at hr
   rw [←hr]
   (have kxs:=And.intro hcd hg;have kk1:=uN [] (ref10_Great x.clk hfx.1);exact Wd0)
  have hg:x.clk.great=false:=by simpa using hg
  rw [hg,Bool.false_or] at hr
  by_cases hv:200<x.val.length
  ·rw [decide_eq_true hv,Bool.true_or] at hr
   rw [←hr]
   (have kxs:=And.intro hcd hg;have kk1:=uN [] (ref10_Great x.clk hfx.1);exact Wd0)
  rw [decide_eq_false hv,Bool.false_or] at hr
  focus (have kxs:=And.intro hcd hg;have kk1:=uN [] (ref10_Great x.clk hfx.1);(repeat' (first|refine G ?_|refine AW.ret ?_|(refine GC ?_ ?_<;>intro h<;>(try simp only [hsB] at h)<;>try exact xf)|(refine GL ?_ ?_<;>intro h<;>(try simp only [hsN] at h)<;>(try simp only [h])<;>(try simp only [hsB] at h)<;>try exact xf)|fail));all_goals clear kxs kk1)
  all_goals first|(exfalso;omega)|(refine hJ (i+1) _ _ (by omega) ⟨hil,by rw [hnd];exact hr⟩ rfl rfl)|(exfalso;simp_all;done)
 ·have h0:l.drop i=[]:=List.drop_eq_nil_of_le (by omega)
  rw [h0] at hr
  have hR0:R=false:=hr.symm
  rw [hR0]
  exact Wd0
end Go.AW
namespace Go.AW
open Go Go.Proofs Go.RowKit
attribute [local irreducible] thenQ blockQ RetQ AL AW AC AOp
theorem Oj.good_of{o:Oj}(h:o.check=0)(hf:o.fits):gobj o:=⟨h,fun x hx=>⟨(hf.2.2 x hx).1.1.2.2,(hf.2.2 x hx).1.2.2⟩⟩
end Go.AW
namespace Go.AW
open Go Go.Proofs
attribute [local irreducible] thenQ blockQ RetQ AL AW AC AOp
theorem ref23_Great(m:Mg)(hf:m.fits):AC Tryz.prog 15 [mgV m] [] fun y σ=>y=bv m.great∧σ=[]:=by
 refine AC.wk Tryz.func15 ?_
 obtain ⟨_,_,k1,f1,f2,f3,f4,k2,k3,f5,f6,_,k4⟩:=hf
 have s1:=ref16_Great m.obj f1
 have s2:=ref17_Great m.old f2
 have s3:=ref10_Great m.ctx f3
 have s4:=ref14_Great m.meta_ f4
 have s5:=ref20_Great m.page f5
 have s6:=ref22_Great m.ring f6
 unfold Mg.great
 generalize m.obj.great=g1 at *
 generalize m.old.great=g2 at *
 generalize Vec.great m.ctx=g3 at *
 generalize Prs.great m.meta_=g4 at *
 generalize m.page.great=g5 at *
 generalize Ring.great m.ring=g6 at *
 cases g1 with
 | true=>
  (have kk1:=uN [] s1;exact Wd0)
 | false=>
 cases g2 with
 | true=>
  (have kk1:=uN [] s1;have kk2:=uN [] s2;exact Wd0)
 | false=>
 cases g3 with
 | true=>
  (have kk1:=uN [] s1;have kk2:=uN [] s2;have kk3:=uN [] s3;exact Wd0)
 | false=>
 cases g4 with
 | true=>
  (have kk1:=uN [] s1;have kk2:=uN [] s2;have kk3:=uN [] s3;have kk4:=uN [] s4;exact Wd0)
 | false=>
 cases g5 with
 | true=>
  (have kk1:=uN [] s1;have kk2:=uN [] s2;have kk3:=uN [] s3;have kk4:=uN [] s4;have kk5:=uN [] s5;exact Wd0)
 | false=>
 cases g6 with
 | true=>
  (have kk1:=uN [] s1;have kk2:=uN [] s2;have kk3:=uN [] s3;have kk4:=uN [] s4;have kk5:=uN [] s5;have kk6:=uN [] s6;exact Wd0)
 | false=>
 by_cases h:200<m.key.length∨200<m.val.length∨200<m.pre.length∨200<m.txt.length
 ·rw [show (false||false||false||false||false||false||decide (200<m.key.length)||decide (200<m.val.length)||decide (200<m.pre.length)||decide (200<m.txt.length))=true by rcases h with h|h|h|h<;>simp [h]]
  (have kk1:=uN [] s1;have kk2:=uN [] s2;have kk3:=uN [] s3;have kk4:=uN [] s4;have kk5:=uN [] s5;have kk6:=uN [] s6;exact Wd0)
 ·have e1:¬ 200<m.key.length:=fun x=>h (.inl x)
  have e2:¬ 200<m.val.length:=fun x=>h (.inr (.inl x))
  have e3:¬ 200<m.pre.length:=fun x=>h (.inr (.inr (.inl x)))
  have e4:¬ 200<m.txt.length:=fun x=>h (.inr (.inr (.inr x)))
  rw [show (false||false||false||false||false||false||decide (200<m.key.length)||decide (200<m.val.length)||decide (200<m.pre.length)||decide (200<m.txt.length))=false by simp [e1,e2,e3,e4]]
  (have kk1:=uN [] s1;have kk2:=uN [] s2;have kk3:=uN [] s3;have kk4:=uN [] s4;have kk5:=uN [] s5;have kk6:=uN [] s6;exact Wd0)
theorem ref23_Encode(v:Nat)(m:Mg)(hv:v<256)(hf:m.fits):AC Tryz.prog 21 [iv .u8 (v:Nat),mgV m] [] fun y σ=>y=.t [sv (bs (msge v m).1),iv .i64 (msge v m).2]∧σ=[]:=by
 cases hh:has v m.kind with
 | false=>exact rencode_none v m hv hf.1 hh
 | true=>
  rcases has_cases hh with ⟨rfl,h|h|h⟩|⟨rfl,h|h|h|h|h|h|h|h|h⟩
  ·exact rencode_11 m hf h
  ·exact rencode_12 m hf h
  ·exact rencode_18 m hf h
  ·exact rencode_21 m hf h
  ·exact rencode_22 m hf h
  ·exact rencode_23 m hf h
  ·exact rencode_24 m hf h
  ·exact rencode_25 m hf h
  ·exact rencode_26 m hf h
  ·exact rencode_27 m hf h
  ·exact rencode_28 m hf h
  ·exact rencode_29 m hf h
end Go.AW
namespace Go.AW
open Go Go.Proofs Go.RowKit
section
variable {H : Type} {enc : TypeId × Value → H} {w : World}
theorem rd_en:Rd enc Tryz.prog w 151 fun xs=>∃ x:En,xs=enD x∧x.1.length≤9223372036854775807∧x.2<18446744073709551616:=by
 refine Rd.mono (Rd.struct (Ss:=[_,_]) Tryz.underlying151 (by kernel_rfl) ⟨Rd.str Tryz.underlying9,Rd.int Tryz.underlying23,trivial⟩) fun xs h=>?_
 obtain ⟨_,_,⟨s,rfl,hs⟩,⟨_,_,⟨n,rfl,hn⟩,rfl,rfl⟩,rfl⟩:=h
 have h1:=wf_u64 hn
 refine ⟨(s,n.toNat),?_,hs,by simp only;omega⟩
 have:((n.toNat:Nat):Int)=n:=by omega
 simp [enD,this]
theorem rd_vec:Rd enc Tryz.prog w 30 fun xs=>∃ v:Vec,xs=[.l v.length (vecD v)]∧v.fits:=by
 refine Rd.mono (Rd.list (f:=enD) Tryz.underlying30 (sz:=2) (by kernel_rfl) (by decide) rd_en) fun xs h=>?_
 obtain ⟨v,rfl,h1,h2⟩:=h
 exact ⟨v,rfl,h2,fun x hx=>(h1 x hx).1,fun x hx=>(h1 x hx).2⟩
end
end Go.AW
namespace Go.AW
open Go Go.Proofs Go.RowKit
section
variable {H : Type} {enc : TypeId × Value → H} {w : World}
theorem rd_ck:Rd enc Tryz.prog w 153 fun xs=>∃ k:Ck,xs=ckD k∧k.fits:=by
 refine Rd.mono (Rd.struct (Ss:=[_,_,_]) Tryz.underlying153 (by kernel_rfl) ⟨rd_vec,Rd.bool Tryz.underlying4,rd_en,trivial⟩) fun xs h=>?_
 obtain ⟨_,_,⟨v,rfl,hv⟩,⟨_,_,⟨f,rfl⟩,⟨_,_,⟨x,rfl,hx⟩,rfl,rfl⟩,rfl⟩,rfl⟩:=h
 exact ⟨⟨v,f,x⟩,rfl,hv,hx.1,hx.2⟩
end
end Go.AW
namespace Go.AW
open Go Go.Proofs Go.RowKit
section
variable {H : Type} {enc : TypeId × Value → H} {w : World}
theorem rd_pr:Rd enc Tryz.prog w 176 fun xs=>∃ x:Pr,xs=prD x∧x.1.length≤9223372036854775807∧x.2.length≤9223372036854775807:=by
 refine Rd.mono (Rd.struct (Ss:=[_,_]) Tryz.underlying176 (by kernel_rfl) ⟨Rd.str Tryz.underlying9,Rd.str Tryz.underlying9,trivial⟩) fun xs h=>?_
 obtain ⟨_,_,⟨s,rfl,hs⟩,⟨_,_,⟨n,rfl,hn⟩,rfl,rfl⟩,rfl⟩:=h
 exact ⟨(s,n),rfl,hs,hn⟩
theorem rd_prs:Rd enc Tryz.prog w 31 fun xs=>∃ v:Prs,xs=[.l v.length (prsD v)]∧v.fits:=by
 refine Rd.mono (Rd.list (f:=prD) Tryz.underlying31 (sz:=2) (by kernel_rfl) (by decide) rd_pr) fun xs h=>?_
 obtain ⟨v,rfl,h1,h2⟩:=h
 exact ⟨v,rfl,h2,fun x hx=>(h1 x hx).1,fun x hx=>(h1 x hx).2⟩
theorem rd_sb:Rd enc Tryz.prog w 155 fun xs=>∃ x:Sb,xs=sbD x∧x.fits:=by
 refine Rd.mono (Rd.struct (Ss:=[_,_,_,_]) Tryz.underlying155 (by kernel_rfl) ⟨rd_ck,rd_prs,Rd.bool Tryz.underlying4,Rd.str Tryz.underlying9,trivial⟩) fun xs h=>?_
 obtain ⟨_,_,⟨k,rfl,hk⟩,⟨_,_,⟨m,rfl,hm⟩,⟨_,_,⟨f,rfl⟩,⟨_,_,⟨t,rfl,ht⟩,rfl,rfl⟩,rfl⟩,rfl⟩,rfl⟩:=h
 exact ⟨⟨k,m,f,t⟩,rfl,hk,hm,ht⟩
theorem rd_sbs:Rd enc Tryz.prog w 24 fun xs=>∃ l:List Sb,xs=[.l l.length (sbsD l)]∧l.length≤9223372036854775807∧∀ k ∈ l,k.fits:=by
 refine Rd.mono (Rd.list (f:=sbD) Tryz.underlying24 (sz:=7) (by kernel_rfl) (by decide) rd_sb) fun xs h=>?_
 obtain ⟨l,rfl,h1,h2⟩:=h
 exact ⟨l,rfl,h2,h1⟩
end
end Go.AW
namespace Go.AW
open Go Go.Proofs Go.RowKit
section
variable {H : Type} {enc : TypeId × Value → H} {w : World}
theorem rd_oj:Rd enc Tryz.prog w 26 fun xs=>∃ o:Oj,xs=[.s (.string ⟨o.key.toArray⟩),.l o.sibs.length (sbsD o.sibs)]∧o.fits:=by
 refine Rd.mono (Rd.struct (Ss:=[_,_]) Tryz.underlying26 (by kernel_rfl) ⟨Rd.str Tryz.underlying9,rd_sbs,trivial⟩) fun xs h=>?_
 obtain ⟨_,_,⟨t,rfl,ht⟩,⟨_,_,⟨l,rfl,h1,h2⟩,rfl,rfl⟩,rfl⟩:=h
 exact ⟨⟨t,l⟩,rfl,ht,h1,h2⟩
end
end Go.AW
namespace Go.AW
open Go Go.Proofs Go.RowKit
section
variable {H : Type} {enc : TypeId × Value → H} {w : World}
theorem rd_os:Rd enc Tryz.prog w 172 fun xs=>∃ x:Os1,xs=osD x∧x.fits:=by
 refine Rd.mono (Rd.struct (Ss:=[_,_,_]) Tryz.underlying172 (by kernel_rfl) ⟨rd_vec,Rd.bool Tryz.underlying4,Rd.str Tryz.underlying9,trivial⟩) fun xs h=>?_
 obtain ⟨_,_,⟨v,rfl,hv⟩,⟨_,_,⟨f,rfl⟩,⟨_,_,⟨t,rfl,ht⟩,rfl,rfl⟩,rfl⟩,rfl⟩:=h
 exact ⟨⟨v,f,t⟩,rfl,hv,ht⟩
theorem rd_oss:Rd enc Tryz.prog w 27 fun xs=>∃ l:List Os1,xs=[.l l.length (ossD l)]∧l.length≤9223372036854775807∧∀ k ∈ l,k.fits:=by
 refine Rd.mono (Rd.list (f:=osD) Tryz.underlying27 (sz:=3) (by kernel_rfl) (by decide) rd_os) fun xs h=>?_
 obtain ⟨l,rfl,h1,h2⟩:=h
 exact ⟨l,rfl,h2,h1⟩
theorem rd_od:Rd enc Tryz.prog w 29 fun xs=>∃ o:Od,xs=[.s (.string ⟨o.key.toArray⟩),.l o.sibs.length (ossD o.sibs)]∧o.fits:=by
 refine Rd.mono (Rd.struct (Ss:=[_,_]) Tryz.underlying29 (by kernel_rfl) ⟨Rd.str Tryz.underlying9,rd_oss,trivial⟩) fun xs h=>?_
 obtain ⟨_,_,⟨t,rfl,ht⟩,⟨_,_,⟨l,rfl,h1,h2⟩,rfl,rfl⟩,rfl⟩:=h
 exact ⟨⟨t,l⟩,rfl,ht,h1,h2⟩
end
end Go.AW
namespace Go.AW
open Go Go.Proofs Go.RowKit
section
variable {H : Type} {enc : TypeId × Value → H} {w : World}
theorem toks_flat(l:List Nat):(l.map fun t=>[D.s (.int .u64 (t:Nat))]).flatten=toksD l:=by
 induction l with
 | nil=>rfl
 | cons s l ih=>simp only [List.map_cons,List.flatten_cons,ih];rfl
theorem rd_toks:Rd enc Tryz.prog w 181 fun xs=>∃ l:List Nat,xs=[.l l.length (toksD l)]∧l.length≤9223372036854775807∧∀ t ∈ l,t<18446744073709551616:=by
 refine Rd.mono (Rd.list (f:=fun t:Nat=>[D.s (.int .u64 (t:Nat))]) (ok:=fun t=>t<18446744073709551616) Tryz.underlying181 (by kernel_rfl) Nat.one_pos (Rd.mono (Rd.int Tryz.underlying23) fun xs h=>?_)) fun xs h=>?_
 ·obtain ⟨n,rfl,hn⟩:=h
  have h1:=wf_u64 hn
  refine ⟨n.toNat,?_,by omega⟩
  have:((n.toNat:Nat):Int)=n:=by omega
  rw [this]
 ·obtain ⟨l,rfl,h1,h2⟩:=h
  exact ⟨l,by rw [toks_flat],h2,h1⟩
theorem rd_mb:Rd enc Tryz.prog w 183 fun xs=>∃ x:Mb,xs=mbD x∧x.fits∧x.name.length≤9223372036854775807∧x.toks.length≤9223372036854775807:=by
 refine Rd.mono (Rd.struct (Ss:=[_,_,_,_]) Tryz.underlying183 (by kernel_rfl) ⟨Rd.str Tryz.underlying9,Rd.int Tryz.underlying23,Rd.int Tryz.underlying5,rd_toks,trivial⟩) fun xs h=>?_
 obtain ⟨_,_,⟨s,rfl,hs⟩,⟨_,_,⟨n,rfl,hn⟩,⟨_,_,⟨b,rfl,hb⟩,⟨_,_,⟨l,rfl,h1,h2⟩,rfl,rfl⟩,rfl⟩,rfl⟩,rfl⟩:=h
 have g1:=wf_u64 hn
 have g2:=wf_u8 hb
 refine ⟨⟨s,n.toNat,b.toNat,l⟩,?_,⟨by show n.toNat<_;omega,by show b.toNat<_;omega,h2⟩,hs,h1⟩
 have e1:((n.toNat:Nat):Int)=n:=by omega
 have e2:((b.toNat:Nat):Int)=b:=by omega
 simp [mbD,e1,e2]
theorem rd_ring:Rd enc Tryz.prog w 36 fun xs=>∃ l:Ring,xs=[.l l.length (ringD l)]∧l.fits:=by
 refine Rd.mono (Rd.list (f:=mbD) Tryz.underlying36 (sz:=4) (by kernel_rfl) (by decide) rd_mb) fun xs h=>?_
 obtain ⟨l,rfl,h1,h2⟩:=h
 exact ⟨l,rfl,h2,h1⟩
end
end Go.AW
namespace Go.AW
open Go Go.Proofs Go.RowKit
section
variable {H : Type} {enc : TypeId × Value → H} {w : World}
theorem rd_it:Rd enc Tryz.prog w 178 fun xs=>∃ x:It,xs=itD x∧x.1.length≤9223372036854775807∧x.2.length≤9223372036854775807:=by
 refine Rd.mono (Rd.struct (Ss:=[_,_]) Tryz.underlying178 (by kernel_rfl) ⟨Rd.str Tryz.underlying9,Rd.str Tryz.underlying9,trivial⟩) fun xs h=>?_
 obtain ⟨_,_,⟨s,rfl,hs⟩,⟨_,_,⟨n,rfl,hn⟩,rfl,rfl⟩,rfl⟩:=h
 exact ⟨(s,n),rfl,hs,hn⟩
theorem rd_sl:Rd enc Tryz.prog w 180 fun xs=>∃ x:Sl,xs=slD x∧x.1<256∧x.2.length≤9223372036854775807:=by
 refine Rd.mono (Rd.struct (Ss:=[_,_]) Tryz.underlying180 (by kernel_rfl) ⟨Rd.int Tryz.underlying5,Rd.str Tryz.underlying9,trivial⟩) fun xs h=>?_
 obtain ⟨_,_,⟨b,rfl,hb⟩,⟨_,_,⟨n,rfl,hn⟩,rfl,rfl⟩,rfl⟩:=h
 have g2:=wf_u8 hb
 refine ⟨(b.toNat,n),?_,by show b.toNat<_;omega,hn⟩
 have e2:((b.toNat:Nat):Int)=b:=by omega
 simp [slD,e2]
theorem rd_its:Rd enc Tryz.prog w 33 fun xs=>∃ l:List It,xs=[.l l.length (itsD l)]∧l.length≤9223372036854775807∧∀ x ∈ l,x.1.length≤9223372036854775807∧x.2.length≤9223372036854775807:=by
 refine Rd.mono (Rd.list (f:=itD) Tryz.underlying33 (sz:=2) (by kernel_rfl) (by decide) rd_it) fun xs h=>?_
 obtain ⟨l,rfl,h1,h2⟩:=h
 exact ⟨l,rfl,h2,h1⟩
theorem rd_sls:Rd enc Tryz.prog w 32 fun xs=>∃ l:List Sl,xs=[.l l.length (slsD l)]∧l.length≤9223372036854775807∧∀ x ∈ l,x.1<256∧x.2.length≤9223372036854775807:=by
 refine Rd.mono (Rd.list (f:=slD) Tryz.underlying32 (sz:=2) (by kernel_rfl) (by decide) rd_sl) fun xs h=>?_
 obtain ⟨l,rfl,h1,h2⟩:=h
 exact ⟨l,rfl,h2,h1⟩
theorem rd_pg:Rd enc Tryz.prog w 35 fun xs=>∃ g:Pg,xs=[.s (.string ⟨g.pre.toArray⟩),.s (.bool g.leaf),.l g.slots.length (slsD g.slots),.l g.items.length (itsD g.items)]∧g.fits:=by
 refine Rd.mono (Rd.struct (Ss:=[_,_,_,_]) Tryz.underlying35 (by kernel_rfl) ⟨Rd.str Tryz.underlying9,Rd.bool Tryz.underlying4,rd_sls,rd_its,trivial⟩) fun xs h=>?_
 obtain ⟨_,_,⟨t,rfl,ht⟩,⟨_,_,⟨f,rfl⟩,⟨_,_,⟨l,rfl,h1,h2⟩,⟨_,_,⟨m,rfl,h3,h4⟩,rfl,rfl⟩,rfl⟩,rfl⟩,rfl⟩:=h
 exact ⟨⟨t,f,l,m⟩,rfl,ht,⟨h1,h2⟩,h3,h4⟩
theorem rd_mg:Rd enc Tryz.prog w 38 fun xs=>∃ m:Mg,xs=mgD m∧m.fits:=by
 refine Rd.mono (Rd.struct (Ss:=[_,_,_,_,_,_,_,_,_,_,_,_,_,_,_]) Tryz.underlying38 (by kernel_rfl)
  ⟨Rd.int Tryz.underlying5,Rd.int Tryz.underlying23,Rd.str Tryz.underlying9,Rd.bool Tryz.underlying4,rd_oj,rd_od,rd_vec,rd_prs,Rd.bool Tryz.underlying4,Rd.str Tryz.underlying9,Rd.str Tryz.underlying9,rd_pg,rd_ring,Rd.int Tryz.underlying3,Rd.str Tryz.underlying9,trivial⟩) fun xs h=>?_
 obtain ⟨_,_,⟨k,rfl,hk⟩,⟨_,_,⟨i,rfl,hi⟩,⟨_,_,⟨ky,rfl,hky⟩,⟨_,_,⟨fo,rfl⟩,⟨_,_,⟨o,rfl,ho⟩,⟨_,_,⟨q,rfl,hq⟩,⟨_,_,⟨cx,rfl,hcx⟩,⟨_,_,⟨mt,rfl,hmt⟩,⟨_,_,⟨dd,rfl⟩,⟨_,_,⟨vl,rfl,hvl⟩,⟨_,_,⟨px,rfl,hpx⟩,⟨_,_,⟨pg,rfl,hpg⟩,⟨_,_,⟨rg,rfl,hrg⟩,⟨_,_,⟨cd,rfl,hcd⟩,⟨_,_,⟨tx,rfl,htx⟩,rfl,rfl⟩,rfl⟩,rfl⟩,rfl⟩,rfl⟩,rfl⟩,rfl⟩,rfl⟩,rfl⟩,rfl⟩,rfl⟩,rfl⟩,rfl⟩,rfl⟩,rfl⟩:=h
 have g1:=wf_u8 hk
 have g2:=wf_u64 hi
 refine ⟨⟨k.toNat,i.toNat,ky,fo,o,q,cx,mt,dd,vl,px,pg,rg,cd,tx⟩,?_,⟨by show k.toNat<_;omega,by show i.toNat<_;omega,hky,ho,hq,hcx,hmt,hvl,hpx,hpg,hrg,⟨(wf_i64 hcd).1,(wf_i64 hcd).2⟩,htx⟩⟩
 have e1:((k.toNat:Nat):Int)=k:=by omega
 have e2:((i.toNat:Nat):Int)=i:=by omega
 simp [mgD,e1,e2]
end
end Go.AW
