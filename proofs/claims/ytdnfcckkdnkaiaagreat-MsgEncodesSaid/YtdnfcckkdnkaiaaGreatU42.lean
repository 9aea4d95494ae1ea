/-
  objects: what is right: the program's and the document's.
-/
import Derived.Test.YtdnfcckkdnkaiaaGreatU25
import Derived.Test.YtdnfcckkdnkaiaaGreatU41
set_option linter.unusedVariables false
set_option linter.unusedSimpArgs false
set_option maxHeartbeats 4000000
set_option maxRecDepth 10000
namespace Go.AW
open Go Go.Proofs
attribute [local irreducible] thenQ blockQ RetQ AL AW AC AOp
theorem Sb.good_of{x:Sb}(h:x.check=0)(hf:x.fits):gsib x:=⟨h,hf.1.1.2.2,hf.1.2.2⟩
theorem ref16_outside(key:List UInt8)(n:Nat)(hk:key.length≤9223372036854775807)(hn:n≤9223372036854775807):AC Tryz.prog 137 [sv (bs key),iv .i64 n] [] fun x σ=>x=iv .i64 (outside key n)∧σ=[]:=by
 refine AC.wk Tryz.func137 ?_
 unfold outside
 have hke:key=[]↔key.length=0:=List.length_eq_zero_iff.symm
 focus ((repeat' (first|refine G ?_|refine AW.ret ?_|(refine GC ?_ ?_<;>intro h<;>(try simp only [hsB] at h)<;>try exact xf)|(refine GL ?_ ?_<;>intro h<;>(try simp only [hsN] at h)<;>(try simp only [h])<;>(try simp only [hsB] at h)<;>try exact xf)|fail)))
 all_goals first
  | (rw [if_pos (by omega)];(first|exact RetQ.zr 0|exact RetQ.zn 0|fail))
  | (rw [if_neg (by omega),if_pos (by first|assumption|(rw [hke];omega))];(first|exact RetQ.zr 0|exact RetQ.zn 0|fail))
  | (rw [if_neg (by omega),if_neg (by first|assumption|(rw [hke];omega)),if_pos (by omega)];(first|exact RetQ.zr 0|exact RetQ.zn 0|fail))
  | (rw [if_neg (by omega),if_neg (by first|assumption|(rw [hke];omega)),if_neg (by omega),if_pos (by omega)];(first|exact RetQ.zr 0|exact RetQ.zn 0|fail))
  | (rw [if_neg (by omega),if_neg (by first|assumption|(rw [hke];omega)),if_neg (by omega),if_neg (by omega)];(first|exact RetQ.zr 0|exact RetQ.zn 0|fail))
theorem ref16_Check(o:Oj)(ho:o.fits):AC Tryz.prog 78 [ojV o] [] fun x σ=>x=iv .i64 o.check∧σ=[]:=by
 obtain ⟨key,l⟩:=o
 obtain ⟨hk,hl,hf⟩:=ho
 simp only at hk hl hf
 refine AC.wk Tryz.func78 ?_
 by_cases ho:outside key l.length=0
 case neg=>
  have hR:Oj.check ⟨key,l⟩=outside key l.length:=by unfold Oj.check;rw [if_pos ho]
  rw [hR]
  (have kk1:=uN [] (ref16_outside key l.length hk hl);exact We0)
 generalize hR:jcheck [] l=R
 have hc:Oj.check ⟨key,l⟩=R:=by unfold Oj.check;rw [if_neg (by simpa using ho),hR]
 rw [hc]
 focus (have kxs:=ho;have kk1:=uN [] (ref16_outside key l.length hk hl);(repeat' (first|(refine ADr.nil ?_;try clear hgv)|refine GO ?_|refine AW.ret ?_|(refine GC ?_ ?_<;>intro h<;>(try simp only [hsB] at h)<;>try exact xf)|(refine GD ?_ ?_<;>intro h<;>(try intro hgv)<;>(try simp only [hsN] at h)<;>(try simp only [h])<;>(try simp only [hsB] at h)<;>try exact xf)|(refine GL ?_ ?_<;>intro h<;>(try simp only [hsN] at h)<;>(try simp only [h])<;>(try simp only [hsB] at h)<;>try exact xf)|fail));all_goals clear kxs kk1)
 all_goals first|(exfalso;simp_all;done)|skip
 refine AW.rounds [1,2,4] (fun i:Nat=>[(1,.p 0 0),(2,iv .i64 0),(4,iv .i64 i)]) (fun _=>[.box 26 [sv (bs key),.d (.l l.length (sbsD l))]])
  (fun i=>i≤l.length∧∃ p,sahead l i p∧jcheck p (l.drop i)=R) (fun i=>l.length-i) 0 ⟨Nat.zero_le _,[],.inl ⟨rfl,rfl⟩,hR⟩ rfl rfl (fun _ _=>Nat.zero_le _) (fun _ _=>rfl) (fun _ _=>rfl) ?_
 rintro i ⟨hi,p,hp,hr⟩ J hJ
 by_cases hil:i<l.length
 case neg=>
  have h0:l.drop i=[]:=List.drop_eq_nil_of_le (by omega)
  rw [h0] at hr
  have hR0:R=0:=hr.symm
  rw [hR0]
  focus ((repeat' (first|(refine ADr.nil ?_;try clear hgv)|refine GO ?_|refine AW.ret ?_|(refine GC ?_ ?_<;>intro h<;>(try simp only [hsB] at h)<;>try exact xf)|(refine GD ?_ ?_<;>intro h<;>(try intro hgv)<;>(try simp only [hsN] at h)<;>(try simp only [h])<;>(try simp only [hsB] at h)<;>try exact xf)|(refine GL ?_ ?_<;>intro h<;>(try simp only [hsN] at h)<;>(try simp only [h])<;>(try simp only [hsB] at h)<;>try exact xf)|fail)))
  all_goals first|(first|exact RetQ.zr 0|exact RetQ.zn 0|fail)|(exfalso;simp_all;done)
 obtain ⟨x,r,hd⟩:=next_at hil
 have hcd:=sbs_drop hd
 rw [hd] at hr
 have hR2:=jstep hr
 have hfx:=hf x (next_mem hd)
 by_cases hxc:x.check=0
 case neg=>
  rw [if_pos hxc] at hR2
  rw [hR2]
  focus (have kxs:=hcd;have kk1:=uN [] (ref15_Check x hfx);(repeat' (first|(refine ADr.nil ?_;try clear hgv)|refine GO ?_|refine AW.ret ?_|(refine GC ?_ ?_<;>intro h<;>(try simp only [hsB] at h)<;>try exact xf)|(refine GD ?_ ?_<;>intro h<;>(try intro hgv)<;>(try simp only [hsN] at h)<;>(try simp only [h])<;>(try simp only [hsB] at h)<;>try exact xf)|(refine GL ?_ ?_<;>intro h<;>(try simp only [hsN] at h)<;>(try simp only [h])<;>(try simp only [hsB] at h)<;>try exact xf)|fail));all_goals clear kxs kk1)
  all_goals first|(first|exact RetQ.zr 0|exact RetQ.zn 0|fail)|(exfalso;simp_all;done)
 rw [if_neg (by simpa using hxc)] at hR2
 have hnx:sahead l (i+1) (skey x):=.inr ⟨Nat.succ_pos i,x,r,by simpa using hd,hxc,rfl⟩
 have hnd:=next_drop hd
 have hkl:=Sb.key_len (Sb.good_of hxc hfx)
 rcases hp with ⟨rfl,rfl⟩|⟨h0,y,r',hy,hyc,rfl⟩
 ·rw [if_neg (by rw [skey_first];decide)] at hR2
  focus (have kxs:=And.intro hcd hxc;have kk1:=uN [] (ref15_Check x hfx);(repeat' (first|(refine ADr.nil ?_;try clear hgv)|refine GO ?_|refine AW.ret ?_|(refine GC ?_ ?_<;>intro h<;>(try simp only [hsB] at h)<;>try exact xf)|(refine GD ?_ ?_<;>intro h<;>(try intro hgv)<;>(try simp only [hsN] at h)<;>(try simp only [h])<;>(try simp only [hsB] at h)<;>try exact xf)|(refine GL ?_ ?_<;>intro h<;>(try simp only [hsN] at h)<;>(try simp only [h])<;>(try simp only [hsB] at h)<;>try exact xf)|fail));all_goals clear kxs kk1)
  all_goals first|(refine hJ 1 _ _ (by omega) ⟨hil,_,hnx,by rw [hnd];exact hR2.symm⟩ rfl rfl)|(exfalso;simp_all;done)
 have hcp:=sbs_drop hy
 have hi1:((i:Int)-1).toNat=i-1:=by omega
 have hfy:=hf y (next_mem hy)
 have hyl:=Sb.key_len (Sb.good_of hyc hfy)
 by_cases hls:lessB (skey y) (skey x)=true
 ·have hls':Op.bytesLess (skey y) (skey x)=true:=hls
  rw [if_neg (by rw [hls];decide)] at hR2
  focus (have kxs:=And.intro hcd (And.intro hcp (And.intro hi1 (And.intro hxc hls')));have kk1:=uN [] (ref15_Check x hfx);have kk2:=uN [] (ref16_key x hfx hxc);have kk3:=uN [] (ref16_key y hfy hyc);have kk4:=uN [] (ref06_Below (skey y) (skey x) (by omega) (by omega));(repeat' (first|(refine ADr.nil ?_;try clear hgv)|refine GO ?_|refine AW.ret ?_|(refine GC ?_ ?_<;>intro h<;>(try simp only [hsB] at h)<;>try exact xf)|(refine GD ?_ ?_<;>intro h<;>(try intro hgv)<;>(try simp only [hsN] at h)<;>(try simp only [h])<;>(try simp only [hsB] at h)<;>try exact xf)|(refine GL ?_ ?_<;>intro h<;>(try simp only [hsN] at h)<;>(try simp only [h])<;>(try simp only [hsB] at h)<;>try exact xf)|fail));all_goals clear kxs kk1 kk2 kk3 kk4)
  all_goals first|(refine hJ (i+1) _ _ (by omega) ⟨hil,_,hnx,by rw [hnd];exact hR2.symm⟩ rfl rfl)|(exfalso;simp_all;done)
 ·have hls:lessB (skey y) (skey x)=false:=by simpa using hls
  have hls':Op.bytesLess (skey y) (skey x)=false:=hls
  rw [if_pos hls] at hR2
  rw [hR2]
  focus (have kxs:=And.intro hcd (And.intro hcp (And.intro hi1 (And.intro hxc hls')));have kk1:=uN [] (ref15_Check x hfx);have kk2:=uN [] (ref16_key x hfx hxc);have kk3:=uN [] (ref16_key y hfy hyc);have kk4:=uN [] (ref06_Below (skey y) (skey x) (by omega) (by omega));(repeat' (first|(refine ADr.nil ?_;try clear hgv)|refine GO ?_|refine AW.ret ?_|(refine GC ?_ ?_<;>intro h<;>(try simp only [hsB] at h)<;>try exact xf)|(refine GD ?_ ?_<;>intro h<;>(try intro hgv)<;>(try simp only [hsN] at h)<;>(try simp only [h])<;>(try simp only [hsB] at h)<;>try exact xf)|(refine GL ?_ ?_<;>intro h<;>(try simp only [hsN] at h)<;>(try simp only [h])<;>(try simp only [hsB] at h)<;>try exact xf)|fail));all_goals clear kxs kk1 kk2 kk3 kk4)
  all_goals first|(first|exact RetQ.zr 0|exact RetQ.zn 0|fail)|(exfalso;simp_all;done)
theorem ref16_Great(o:Oj)(ho:o.fits):AC Tryz.prog 56 [ojV o] [] fun x σ=>x=bv o.great∧σ=[]:=by
 obtain ⟨key,l⟩:=o
 obtain ⟨hk,hl,hf⟩:=ho
 simp only at hk hl hf
 refine AC.wk Tryz.func56 ?_
 by_cases h0:200<key.length∨20<l.length
 ·have hc:Oj.great ⟨key,l⟩=true:=by unfold Oj.great;rcases h0 with h|h<;>simp [h]
  rw [hc]
  exact Wd0
 generalize hR:l.any Sb.great=R
 have hc:Oj.great ⟨key,l⟩=R:=by
  unfold Oj.great
  simp only
  rw [hR,decide_eq_false (fun h=>h0 (.inl h)),decide_eq_false (fun h=>h0 (.inr h))];rfl
 rw [hc]
 focus ((repeat' (first|refine G ?_|refine AW.ret ?_|(refine GC ?_ ?_<;>intro h<;>(try simp only [hsB] at h)<;>try exact xf)|(refine GL ?_ ?_<;>intro h<;>(try simp only [hsN] at h)<;>(try simp only [h])<;>(try simp only [hsB] at h)<;>try exact xf)|fail)))
 all_goals first|(exfalso;omega)|skip
 refine AW.rounds [1,2,3] (fun i:Nat=>[(1,.p 0 0),(2,bv false),(3,iv .i64 i)]) (fun _=>[.box 26 [sv (bs key),.d (.l l.length (sbsD l))]])
  (fun i=>i≤l.length∧(l.drop i).any Sb.great=R) (fun i=>l.length-i) 0 ⟨Nat.zero_le _,hR⟩ rfl rfl (fun _ _=>Nat.zero_le _) (fun _ _=>rfl) (fun _ _=>rfl) ?_
 rintro i ⟨hi,hr⟩ J hJ
 by_cases hil:i<l.length
 ·obtain ⟨x,r,hd⟩:=next_at hil
  have hcd:=sbs_drop hd
  have hnd:=next_drop hd
  rw [hd,List.any_cons] at hr
  have hfx:=hf x (next_mem hd)
  by_cases hg:x.great=true
  ·rw [hg,Bool.true_or] at hr
   rw [←hr]
   (have kxs:=And.intro hcd hg;have kk1:=uN [] (ref15_Great x hfx);exact Wd0)
  have hg:x.great=false:=by simpa using hg
  rw [hg,Bool.false_or] at hr
  focus (have kxs:=And.intro hcd hg;have kk1:=uN [] (ref15_Great x hfx);(repeat' (first|refine G ?_|refine AW.ret ?_|(refine GC ?_ ?_<;>intro h<;>(try simp only [hsB] at h)<;>try exact xf)|(refine GL ?_ ?_<;>intro h<;>(try simp only [hsN] at h)<;>(try simp only [h])<;>(try simp only [hsB] at h)<;>try exact xf)|fail));all_goals clear kxs kk1)
  all_goals first|(refine hJ (i+1) _ _ (by omega) ⟨hil,by rw [hnd];exact hr⟩ rfl rfl)|(exfalso;simp_all;done)
 ·have h0:l.drop i=[]:=List.drop_eq_nil_of_le (by omega)
  rw [h0] at hr
  have hR0:R=false:=hr.symm
  rw [hR0]
  exact Wd0
theorem ref22_Check(l:Ring)(hf:l.fits):AC Tryz.prog 84 [.d (.l l.length (ringD l))] [] fun x σ=>x=iv .i64 (Ring.check l)∧σ=[]:=by
 refine AC.wk Tryz.func84 ?_
 have hll:=hf.1
 by_cases h32:32<l.length
 ·have hc:Ring.check l=3:=by unfold Ring.check;rw [if_pos h32]
  rw [hc]
  focus ((repeat' (first|(refine ADr.nil ?_;try clear hgv)|refine GO ?_|refine AW.ret ?_|(refine GC ?_ ?_<;>intro h<;>(try simp only [hsB] at h)<;>try exact xf)|(refine GD ?_ ?_<;>intro h<;>(try intro hgv)<;>(try simp only [hsN] at h)<;>(try simp only [h])<;>(try simp only [hsB] at h)<;>try exact xf)|(refine GL ?_ ?_<;>intro h<;>(try simp only [hsN] at h)<;>(try simp only [h])<;>(try simp only [hsB] at h)<;>try exact xf)|fail)))
  all_goals first|(exfalso;omega)|exact RetQ.fr 0|exact RetQ.fn 0
 generalize hR:mcheck [] l=R
 have hc:Ring.check l=R:=by unfold Ring.check;rw [if_neg h32,hR]
 rw [hc]
 focus ((repeat' (first|(refine ADr.nil ?_;try clear hgv)|refine GO ?_|refine AW.ret ?_|(refine GC ?_ ?_<;>intro h<;>(try simp only [hsB] at h)<;>try exact xf)|(refine GD ?_ ?_<;>intro h<;>(try intro hgv)<;>(try simp only [hsN] at h)<;>(try simp only [h])<;>(try simp only [hsB] at h)<;>try exact xf)|(refine GL ?_ ?_<;>intro h<;>(try simp only [hsN] at h)<;>(try simp only [h])<;>(try simp only [hsB] at h)<;>try exact xf)|fail)))
 all_goals first|(exfalso;omega)|skip
 refine AW.rounds [0,2,3] (fun i:Nat=>[(0,.d (.l l.length (ringD l))),(2,iv .i64 0),(3,iv .i64 i)]) (fun _=>[])
  (fun i=>i≤l.length∧∃ p,l.ahead i p∧mcheck p (l.drop i)=R) (fun i=>l.length-i) 0 ⟨Nat.zero_le _,[],.inl ⟨rfl,rfl⟩,hR⟩ rfl rfl (fun _ _=>Nat.zero_le _) (fun _ _=>rfl) (fun _ _=>rfl) ?_
 rintro i ⟨hi,p,hp,hr⟩ J hJ
 by_cases hil:i<l.length
 case neg=>
  focus ((repeat' (first|(refine ADr.nil ?_;try clear hgv)|refine GO ?_|refine AW.ret ?_|(refine GC ?_ ?_<;>intro h<;>(try simp only [hsB] at h)<;>try exact xf)|(refine GD ?_ ?_<;>intro h<;>(try intro hgv)<;>(try simp only [hsN] at h)<;>(try simp only [h])<;>(try simp only [hsB] at h)<;>try exact xf)|(refine GL ?_ ?_<;>intro h<;>(try simp only [hsN] at h)<;>(try simp only [h])<;>(try simp only [hsB] at h)<;>try exact xf)|fail)))
  have h0:l.drop i=[]:=List.drop_eq_nil_of_le (by omega)
  rw [h0] at hr
  have hR0:R=0:=hr.symm
  rw [hR0]
  (all_goals first|exact RetQ.fr 0|exact RetQ.fn 0|fail)
 obtain ⟨x,r,hd⟩:=next_at hil
 have hcd:=ring_drop hd
 rw [hd] at hr
 obtain ⟨c1,c2,c3,c4⟩:=mcheck_step hr
 obtain ⟨⟨hep,hst,_⟩,hxl,htl⟩:=hf.2 x (next_mem hd)
 have hnx:∀ hx:¬ 32<x.name.length,l.ahead (i+1) x.name:=fun hx=>.inr ⟨by omega,by omega,x,r,by simpa using hd,rfl⟩
 have hnd:=next_drop hd
 have go:¬ 32<x.name.length→mcheck x.name r=R→∀ T' σ',keepT T' [0,2,3]=[(0,.d (.l l.length (ringD l))),(2,iv .i64 0),(3,iv .i64 ((i:Int)+1))]→J T' σ':=fun h1 h2 T' σ' h3=>
  hJ (i+1) T' σ' (by omega) ⟨hil,x.name,hnx h1,by rw [hnd];exact h2⟩ h3 rfl
 clear hJ hr hR
 generalize hrr:rises none x.toks=rr at *
 by_cases a1:32<x.name.length
 ·rw [c1 a1]
  focus (have kxs:=hcd;(repeat' (first|(refine ADr.nil ?_;try clear hgv)|refine GO ?_|refine AW.ret ?_|(refine GC ?_ ?_<;>intro h<;>(try simp only [hsB] at h)<;>try exact xf)|(refine GD ?_ ?_<;>intro h<;>(try intro hgv)<;>(try simp only [hsN] at h)<;>(try simp only [h])<;>(try simp only [hsB] at h)<;>try exact xf)|(refine GL ?_ ?_<;>intro h<;>(try simp only [hsN] at h)<;>(try simp only [h])<;>(try simp only [hsB] at h)<;>try exact xf)|fail));all_goals clear kxs)
  all_goals first|exact RetQ.fr 0|exact RetQ.fn 0|exact xg
 by_cases a2:x.name=[]
 ·rw [c2 a1 a2]
  focus (have kxs:=And.intro hcd a2;(repeat' (first|(refine ADr.nil ?_;try clear hgv)|refine GO ?_|refine AW.ret ?_|(refine GC ?_ ?_<;>intro h<;>(try simp only [hsB] at h)<;>try exact xf)|(refine GD ?_ ?_<;>intro h<;>(try intro hgv)<;>(try simp only [hsN] at h)<;>(try simp only [h])<;>(try simp only [hsB] at h)<;>try exact xf)|(refine GL ?_ ?_<;>intro h<;>(try simp only [hsN] at h)<;>(try simp only [h])<;>(try simp only [hsB] at h)<;>try exact xf)|fail));all_goals clear kxs)
  all_goals first|exact RetQ.fr 0|exact RetQ.fn 0|exact xg
 cases a3:lessB p x.name with
 | false=>
  rw [c3 a1 a2 a3]
  rcases hp with ⟨rfl,rfl⟩|⟨h0,hpl,y,r',hp,rfl⟩
  ·exfalso
   cases hx:x.name with
   | nil=>exact a2 hx
   | cons b t=>
    have h9:lessB [] (b::t)=true:=less_nil_cons b t
    rw [hx,h9] at a3;cases a3
  ·have hcp:=ring_drop hp
   have hi1:((i:Int)-1).toNat=i-1:=by omega
   have hbe:=ref06_Below y.name x.name (by omega) (by omega)
   rw [show Op.bytesLess y.name x.name=_ from a3] at hbe
   focus (have kxs:=And.intro hcd (And.intro hcp hi1);have kk1:=uN [] (hbe);(repeat' (first|(refine ADr.nil ?_;try clear hgv)|refine GO ?_|refine AW.ret ?_|(refine GC ?_ ?_<;>intro h<;>(try simp only [hsB] at h)<;>try exact xf)|(refine GD ?_ ?_<;>intro h<;>(try intro hgv)<;>(try simp only [hsN] at h)<;>(try simp only [h])<;>(try simp only [hsB] at h)<;>try exact xf)|(refine GL ?_ ?_<;>intro h<;>(try simp only [hsN] at h)<;>(try simp only [h])<;>(try simp only [hsB] at h)<;>try exact xf)|fail));all_goals clear kxs kk1)
   all_goals first|exact RetQ.fr 0|exact RetQ.fn 0|exact xg
 | true=>
  obtain ⟨c5,c6⟩:=c4 a1 a2 a3
  by_cases a4:x.ep=0
  ·rw [c5 a4]
   rcases hp with ⟨rfl,rfl⟩|⟨h0,hpl,y,r',hp,rfl⟩
   ·focus (have kxs:=And.intro hcd a4;(repeat' (first|(refine ADr.nil ?_;try clear hgv)|refine GO ?_|refine AW.ret ?_|(refine GC ?_ ?_<;>intro h<;>(try simp only [hsB] at h)<;>try exact xf)|(refine GD ?_ ?_<;>intro h<;>(try intro hgv)<;>(try simp only [hsN] at h)<;>(try simp only [h])<;>(try simp only [hsB] at h)<;>try exact xf)|(refine GL ?_ ?_<;>intro h<;>(try simp only [hsN] at h)<;>(try simp only [h])<;>(try simp only [hsB] at h)<;>try exact xf)|fail));all_goals clear kxs)
    all_goals first|exact RetQ.fr 0|exact RetQ.fn 0|exact xg
   ·have hcp:=ring_drop hp
    have hi1:((i:Int)-1).toNat=i-1:=by omega
    have hbe:=ref06_Below y.name x.name (by omega) (by omega)
    rw [show Op.bytesLess y.name x.name=_ from a3] at hbe
    focus (have kxs:=And.intro hcd (And.intro hcp (And.intro hi1 a4));have kk1:=uN [] (hbe);(repeat' (first|(refine ADr.nil ?_;try clear hgv)|refine GO ?_|refine AW.ret ?_|(refine GC ?_ ?_<;>intro h<;>(try simp only [hsB] at h)<;>try exact xf)|(refine GD ?_ ?_<;>intro h<;>(try intro hgv)<;>(try simp only [hsN] at h)<;>(try simp only [h])<;>(try simp only [hsB] at h)<;>try exact xf)|(refine GL ?_ ?_<;>intro h<;>(try simp only [hsN] at h)<;>(try simp only [h])<;>(try simp only [hsB] at h)<;>try exact xf)|fail));all_goals clear kxs kk1)
    all_goals first|exact RetQ.fr 0|exact RetQ.fn 0|exact xg
  obtain ⟨c7,c8⟩:=c6 a4
  by_cases a5:3<x.st
  ·rw [c7 a5]
   rcases hp with ⟨rfl,rfl⟩|⟨h0,hpl,y,r',hp,rfl⟩
   ·focus (have kxs:=hcd;(repeat' (first|(refine ADr.nil ?_;try clear hgv)|refine GO ?_|refine AW.ret ?_|(refine GC ?_ ?_<;>intro h<;>(try simp only [hsB] at h)<;>try exact xf)|(refine GD ?_ ?_<;>intro h<;>(try intro hgv)<;>(try simp only [hsN] at h)<;>(try simp only [h])<;>(try simp only [hsB] at h)<;>try exact xf)|(refine GL ?_ ?_<;>intro h<;>(try simp only [hsN] at h)<;>(try simp only [h])<;>(try simp only [hsB] at h)<;>try exact xf)|fail));all_goals clear kxs)
    all_goals first|exact RetQ.fr 0|exact RetQ.fn 0|exact xg
   ·have hcp:=ring_drop hp
    have hi1:((i:Int)-1).toNat=i-1:=by omega
    have hbe:=ref06_Below y.name x.name (by omega) (by omega)
    rw [show Op.bytesLess y.name x.name=_ from a3] at hbe
    focus (have kxs:=And.intro hcd (And.intro hcp hi1);have kk1:=uN [] (hbe);(repeat' (first|(refine ADr.nil ?_;try clear hgv)|refine GO ?_|refine AW.ret ?_|(refine GC ?_ ?_<;>intro h<;>(try simp only [hsB] at h)<;>try exact xf)|(refine GD ?_ ?_<;>intro h<;>(try intro hgv)<;>(try simp only [hsN] at h)<;>(try simp only [h])<;>(try simp only [hsB] at h)<;>try exact xf)|(refine GL ?_ ?_<;>intro h<;>(try simp only [hsN] at h)<;>(try simp only [h])<;>(try simp only [hsB] at h)<;>try exact xf)|fail));all_goals clear kxs kk1)
    all_goals first|exact RetQ.fr 0|exact RetQ.fn 0|exact xg
  obtain ⟨c9,c10⟩:=c8 a5
  by_cases a6:16<x.toks.length
  ·rw [c9 a6]
   rcases hp with ⟨rfl,rfl⟩|⟨h0,hpl,y,r',hp,rfl⟩
   ·focus (have kxs:=hcd;(repeat' (first|(refine ADr.nil ?_;try clear hgv)|refine GO ?_|refine AW.ret ?_|(refine GC ?_ ?_<;>intro h<;>(try simp only [hsB] at h)<;>try exact xf)|(refine GD ?_ ?_<;>intro h<;>(try intro hgv)<;>(try simp only [hsN] at h)<;>(try simp only [h])<;>(try simp only [hsB] at h)<;>try exact xf)|(refine GL ?_ ?_<;>intro h<;>(try simp only [hsN] at h)<;>(try simp only [h])<;>(try simp only [hsB] at h)<;>try exact xf)|fail));all_goals clear kxs)
    all_goals first|exact RetQ.fr 0|exact RetQ.fn 0|exact xg
   ·have hcp:=ring_drop hp
    have hi1:((i:Int)-1).toNat=i-1:=by omega
    have hbe:=ref06_Below y.name x.name (by omega) (by omega)
    rw [show Op.bytesLess y.name x.name=_ from a3] at hbe
    focus (have kxs:=And.intro hcd (And.intro hcp hi1);have kk1:=uN [] (hbe);(repeat' (first|(refine ADr.nil ?_;try clear hgv)|refine GO ?_|refine AW.ret ?_|(refine GC ?_ ?_<;>intro h<;>(try simp only [hsB] at h)<;>try exact xf)|(refine GD ?_ ?_<;>intro h<;>(try intro hgv)<;>(try simp only [hsN] at h)<;>(try simp only [h])<;>(try simp only [hsB] at h)<;>try exact xf)|(refine GL ?_ ?_<;>intro h<;>(try simp only [hsN] at h)<;>(try simp only [h])<;>(try simp only [hsB] at h)<;>try exact xf)|fail));all_goals clear kxs kk1)
    all_goals first|exact RetQ.fr 0|exact RetQ.fn 0|exact xg
  obtain ⟨c11,c12⟩:=c10 a6
  have hstart:1≤1∧(1≤x.toks.length∨x.toks=[])∧(x.toks≠[]→∃ q,x.toks.drop (1-1)=q::x.toks.drop 1∧rises (some q) (x.toks.drop 1)=rr):=by
   cases hx:x.toks with
   | nil=>exact ⟨Nat.le_refl _,.inr rfl,fun h=>absurd rfl h⟩
   | cons q u=>exact ⟨Nat.le_refl _,.inl (by simp),fun _=>⟨q,rfl,by rw [←hrr,hx];rfl⟩⟩
  have hemp:x.toks=[]→rr=true:=fun h=>by rw [←hrr,h];rfl
  clear hrr
  rcases hp with ⟨h0,rfl⟩|⟨h0,hpl,y,r',hp,rfl⟩
  ·focus (have kxs:=hcd;(repeat' (first|(refine ADr.nil ?_;try clear hgv)|refine GO ?_|refine AW.ret ?_|(refine GC ?_ ?_<;>intro h<;>(try simp only [hsB] at h)<;>try exact xf)|(refine GD ?_ ?_<;>intro h<;>(try intro hgv)<;>(try simp only [hsN] at h)<;>(try simp only [h])<;>(try simp only [hsB] at h)<;>try exact xf)|(refine GL ?_ ?_<;>intro h<;>(try simp only [hsN] at h)<;>(try simp only [h])<;>(try simp only [hsB] at h)<;>try exact xf)|fail));all_goals clear kxs)
   all_goals first|exact xg|skip
   refine AW.rounds [0,2,3,4,5] (fun j:Nat=>[(0,.d (.l l.length (ringD l))),(2,iv .i64 0),(3,iv .i64 i),(4,.p 0 0),(5,iv .i64 j)]) (fun _=>[.box 183 [sv (bs x.name),iv .u64 (x.ep:Nat),iv .u8 (x.st:Nat),.d (.l x.toks.length (toksD x.toks))]])
    (fun j=>1≤j∧(j≤x.toks.length∨x.toks=[])∧(x.toks≠[]→∃ q,x.toks.drop (j-1)=q::x.toks.drop j∧rises (some q) (x.toks.drop j)=rr)) (fun j=>x.toks.length-j) 1 hstart rfl rfl (fun _ _=>Nat.zero_le _) (fun _ _=>rfl) (fun _ _=>rfl) ?_
   rintro j ⟨g1,g2,g3⟩ J2 hJ2
   by_cases hjl:j<x.toks.length
   ·have hne:x.toks≠[]:=by intro e;rw [e] at hjl;simp at hjl
    obtain ⟨q,hq,hr⟩:=g3 hne
    obtain ⟨u,r2,hd2⟩:=next_at hjl
    have hcd2:=toks_drop hd2
    have hcq2:=toks_drop hq
    have hj1:((j:Int)-1).toNat=j-1:=by omega
    rw [hd2] at hr
    have hr2:(decide (q<u)&&rises (some u) r2)=rr:=hr
    have hnd2:=next_drop hd2
    clear hcd go
    focus (have kxs:=And.intro hcd2 (And.intro hcq2 (And.intro hj1 @Nat.mul_one));(repeat' (first|(refine ADr.nil ?_;try clear hgv)|refine GO ?_|refine AW.ret ?_|(refine GC ?_ ?_<;>intro h<;>(try simp only [hsB] at h)<;>try exact xf)|(refine GD ?_ ?_<;>intro h<;>(try intro hgv)<;>(try simp only [hsN] at h)<;>(try simp only [h])<;>(try simp only [hsB] at h)<;>try exact xf)|(refine GL ?_ ?_<;>intro h<;>(try simp only [hsN] at h)<;>(try simp only [h])<;>(try simp only [hsB] at h)<;>try exact xf)|fail));all_goals clear kxs)
    all_goals first
     | (rw [c11 (by rw [←hr2,decide_eq_false (by omega)];rfl)];(all_goals first|exact RetQ.fr 0|exact RetQ.fn 0|fail);done)
     | (refine hJ2 (j+1) _ _ (by omega) ⟨by omega,.inl hjl,fun _=>⟨u,?_,?_⟩⟩ rfl rfl
        ·rw [hnd2];exact hd2
        ·rw [hnd2,←hr2,decide_eq_true (show q<u by omega)];rfl)
     | (exfalso;clear hJ2 hr hr2 g3 c11 c12;simp_all;done)
   ·have hR0:rr=true:=by
      by_cases hne:x.toks=[]
      ·exact hemp hne
      ·obtain ⟨q,hq,hr⟩:=g3 hne
       rw [List.drop_eq_nil_of_le (by omega)] at hr
       exact hr.symm
    have go:=go a1 (c12 hR0)
    clear hcd hJ2 g3
    focus ((repeat' (first|(refine ADr.nil ?_;try clear hgv)|refine GO ?_|refine AW.ret ?_|(refine GC ?_ ?_<;>intro h<;>(try simp only [hsB] at h)<;>try exact xf)|(refine GD ?_ ?_<;>intro h<;>(try intro hgv)<;>(try simp only [hsN] at h)<;>(try simp only [h])<;>(try simp only [hsB] at h)<;>try exact xf)|(refine GL ?_ ?_<;>intro h<;>(try simp only [hsN] at h)<;>(try simp only [h])<;>(try simp only [hsB] at h)<;>try exact xf)|fail)))
    all_goals first|exact go _ _ rfl|exact xg
  ·have hcp:=ring_drop hp
   have hi1:((i:Int)-1).toNat=i-1:=by omega
   have hbe:=ref06_Below y.name x.name (by omega) (by omega)
   rw [show Op.bytesLess y.name x.name=_ from a3] at hbe
   focus (have kxs:=And.intro hcd (And.intro hcp hi1);have kk1:=uN [] (hbe);(repeat' (first|(refine ADr.nil ?_;try clear hgv)|refine GO ?_|refine AW.ret ?_|(refine GC ?_ ?_<;>intro h<;>(try simp only [hsB] at h)<;>try exact xf)|(refine GD ?_ ?_<;>intro h<;>(try intro hgv)<;>(try simp only [hsN] at h)<;>(try simp only [h])<;>(try simp only [hsB] at h)<;>try exact xf)|(refine GL ?_ ?_<;>intro h<;>(try simp only [hsN] at h)<;>(try simp only [h])<;>(try simp only [hsB] at h)<;>try exact xf)|fail));all_goals clear kxs kk1)
   all_goals first|exact xg|skip
   refine AW.rounds [0,2,3,4,5] (fun j:Nat=>[(0,.d (.l l.length (ringD l))),(2,iv .i64 0),(3,iv .i64 i),(4,.p 0 0),(5,iv .i64 j)]) (fun _=>[.box 183 [sv (bs x.name),iv .u64 (x.ep:Nat),iv .u8 (x.st:Nat),.d (.l x.toks.length (toksD x.toks))]])
    (fun j=>1≤j∧(j≤x.toks.length∨x.toks=[])∧(x.toks≠[]→∃ q,x.toks.drop (j-1)=q::x.toks.drop j∧rises (some q) (x.toks.drop j)=rr)) (fun j=>x.toks.length-j) 1 hstart rfl rfl (fun _ _=>Nat.zero_le _) (fun _ _=>rfl) (fun _ _=>rfl) ?_
   rintro j ⟨g1,g2,g3⟩ J2 hJ2
   by_cases hjl:j<x.toks.length
   ·have hne:x.toks≠[]:=by intro e;rw [e] at hjl;simp at hjl
    obtain ⟨q,hq,hr⟩:=g3 hne
    obtain ⟨u,r2,hd2⟩:=next_at hjl
    have hcd2:=toks_drop hd2
    have hcq2:=toks_drop hq
    have hj1:((j:Int)-1).toNat=j-1:=by omega
    rw [hd2] at hr
    have hr2:(decide (q<u)&&rises (some u) r2)=rr:=hr
    have hnd2:=next_drop hd2
    clear hcd go
    focus (have kxs:=And.intro hcd2 (And.intro hcq2 (And.intro hj1 @Nat.mul_one));(repeat' (first|(refine ADr.nil ?_;try clear hgv)|refine GO ?_|refine AW.ret ?_|(refine GC ?_ ?_<;>intro h<;>(try simp only [hsB] at h)<;>try exact xf)|(refine GD ?_ ?_<;>intro h<;>(try intro hgv)<;>(try simp only [hsN] at h)<;>(try simp only [h])<;>(try simp only [hsB] at h)<;>try exact xf)|(refine GL ?_ ?_<;>intro h<;>(try simp only [hsN] at h)<;>(try simp only [h])<;>(try simp only [hsB] at h)<;>try exact xf)|fail));all_goals clear kxs)
    all_goals first
     | (rw [c11 (by rw [←hr2,decide_eq_false (by omega)];rfl)];(all_goals first|exact RetQ.fr 0|exact RetQ.fn 0|fail);done)
     | (refine hJ2 (j+1) _ _ (by omega) ⟨by omega,.inl hjl,fun _=>⟨u,?_,?_⟩⟩ rfl rfl
        ·rw [hnd2];exact hd2
        ·rw [hnd2,←hr2,decide_eq_true (show q<u by omega)];rfl)
     | (exfalso;clear hJ2 hr hr2 g3 c11 c12;simp_all;done)
   ·have hR0:rr=true:=by
      by_cases hne:x.toks=[]
      ·exact hemp hne
      ·obtain ⟨q,hq,hr⟩:=g3 hne
       rw [List.drop_eq_nil_of_le (by omega)] at hr
       exact hr.symm
    have go:=go a1 (c12 hR0)
    clear hcd hJ2 g3
    focus ((repeat' (first|(refine ADr.nil ?_;try clear hgv)|refine GO ?_|refine AW.ret ?_|(refine GC ?_ ?_<;>intro h<;>(try simp only [hsB] at h)<;>try exact xf)|(refine GD ?_ ?_<;>intro h<;>(try intro hgv)<;>(try simp only [hsN] at h)<;>(try simp only [h])<;>(try simp only [hsB] at h)<;>try exact xf)|(refine GL ?_ ?_<;>intro h<;>(try simp only [hsN] at h)<;>(try simp only [h])<;>(try simp only [hsB] at h)<;>try exact xf)|fail)))
    all_goals first|exact go _ _ rfl|exact xg
theorem ref22_Great(l:Ring)(hf:l.fits):AC Tryz.prog 61 [.d (.l l.length (ringD l))] [] fun x σ=>x=bv (Ring.great l)∧σ=[]:=by
 refine AC.wk Tryz.func61 ?_
 have hll:=hf.1
 by_cases h40:40<l.length
 ·have hc:Ring.great l=true:=by unfold Ring.great;simp [h40]
  rw [hc]
  exact Wd0
 generalize hR:(l.any fun x=>decide (100<x.name.length)||decide (30<x.toks.length))=R
 have hc:Ring.great l=R:=by unfold Ring.great;rw [hR];simp [h40]
 rw [hc]
 focus ((repeat' (first|refine G ?_|refine AW.ret ?_|(refine GC ?_ ?_<;>intro h<;>(try simp only [hsB] at h)<;>try exact xf)|(refine GL ?_ ?_<;>intro h<;>(try simp only [hsN] at h)<;>(try simp only [h])<;>(try simp only [hsB] at h)<;>try exact xf)|fail)))
 all_goals first|exact xg|skip
 refine AW.rounds [0,2,3] (fun i:Nat=>[(0,.d (.l l.length (ringD l))),(2,bv false),(3,iv .i64 i)]) (fun _=>[])
  (fun i=>i≤l.length∧((l.drop i).any fun x=>decide (100<x.name.length)||decide (30<x.toks.length))=R) (fun i=>l.length-i) 0 ⟨Nat.zero_le _,hR⟩ rfl rfl (fun _ _=>Nat.zero_le _) (fun _ _=>rfl) (fun _ _=>rfl) ?_
 rintro i ⟨hi,hr⟩ J hJ
 by_cases hil:i<l.length
 case neg=>
  rw [List.drop_eq_nil_of_le (by omega)] at hr
  have hR0:R=false:=hr.symm
  rw [hR0]
  exact Wd0
 obtain ⟨x,r,hd⟩:=next_at hil
 have hcd:=ring_drop hd
 have hnd:=next_drop hd
 obtain ⟨_,f4,f5⟩:=hf.2 x (next_mem hd)
 rw [hd,List.any_cons] at hr
 by_cases h1:100<x.name.length∨30<x.toks.length
 ·have hR1:R=true:=by
    rw [←hr]
    rcases h1 with h1|h1<;>simp [h1]
  rw [hR1]
  (have kxs:=hcd;exact Wd0)
 ·have hx:(decide (100<x.name.length)||decide (30<x.toks.length))=false:=by
    simp only [Bool.or_eq_false_iff,decide_eq_false_iff_not];omega
  rw [hx,Bool.false_or] at hr
  have go:∀ T' σ',keepT T' [0,2,3]=[(0,.d (.l l.length (ringD l))),(2,bv false),(3,iv .i64 ((i:Int)+1))]→J T' σ':=fun T' σ' g1=>
   hJ (i+1) T' σ' (by omega) ⟨hil,by rw [hnd];exact hr⟩ g1 rfl
  clear hJ hr hR hnd hx
  (have kxs:=hcd;exact Wdh)
end Go.AW
