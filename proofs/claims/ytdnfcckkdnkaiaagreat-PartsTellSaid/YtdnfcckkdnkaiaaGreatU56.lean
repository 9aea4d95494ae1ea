/-
  spans: what is cut by them, which is found, whether two lists are the same.
-/
import Derived.Test.YtdnfcckkdnkaiaaGreatU55
set_option linter.unusedVariables false
set_option linter.unusedSimpArgs false
set_option maxHeartbeats 4000000
set_option maxRecDepth 10000
namespace Go.AW
open Go Go.Proofs
attribute [local irreducible] thenQ blockQ RetQ AL AW AC AOp
theorem ref31_Same(v w:List Sp)(hv:v.length≤1000000):AC Tryz.prog 92 [.d (.l v.length (spsD v)),.d (.l w.length (spsD w))] [] fun x σ=>x=bv (decide (v=w))∧σ=[]:=by
 refine AC.wk Tryz.func92 ?_
 by_cases hl:v.length=w.length
 case neg=>
  have hc:decide (v=w)=false:=by simp;rintro rfl;exact hl rfl
  focus (have kxs:=hc;(repeat' (first|(refine ADr.nil ?_;try clear hgv)|refine GO ?_|refine AW.ret ?_|(refine GC ?_ ?_<;>intro h<;>(try simp only [hsB] at h)<;>try exact xf)|(refine GD ?_ ?_<;>intro h<;>(try intro hgv)<;>(try simp only [hsN] at h)<;>(try simp only [h])<;>(try simp only [hsB] at h)<;>try exact xf)|(refine GL ?_ ?_<;>intro h<;>(try simp only [hsN] at h)<;>(try simp only [h])<;>(try simp only [hsB] at h)<;>try exact xf)|fail));all_goals clear kxs)
  all_goals first|(exfalso;omega)|((all_goals have kxf:=hc;first|exact RetQ.xr 0|exact RetQ.xn 0|fail);done)
 focus ((repeat' (first|(refine ADr.nil ?_;try clear hgv)|refine GO ?_|refine AW.ret ?_|(refine GC ?_ ?_<;>intro h<;>(try simp only [hsB] at h)<;>try exact xf)|(refine GD ?_ ?_<;>intro h<;>(try intro hgv)<;>(try simp only [hsN] at h)<;>(try simp only [h])<;>(try simp only [hsB] at h)<;>try exact xf)|(refine GL ?_ ?_<;>intro h<;>(try simp only [hsN] at h)<;>(try simp only [h])<;>(try simp only [hsB] at h)<;>try exact xf)|fail)))
 all_goals first|(exfalso;omega)|skip
 refine AW.rounds [0,1,4,5] (fun i:Nat=>[(0,.d (.l v.length (spsD v))),(1,.d (.l w.length (spsD w))),(4,bv false),(5,iv .i64 i)]) (fun _=>[])
  (fun i=>i≤v.length∧(v=w↔v.drop i=w.drop i)) (fun i=>v.length-i) 0 ⟨Nat.zero_le _,by simp⟩ rfl rfl (fun _ _=>Nat.zero_le _) (fun _ _=>rfl) (fun _ _=>rfl) ?_
 rintro i ⟨hi,hr⟩ J hJ
 by_cases hil:i<v.length
 case neg=>
  have hc:decide (v=w)=true:=by
   simp only [decide_eq_true_eq]
   rw [hr,List.drop_eq_nil_of_le (by omega),List.drop_eq_nil_of_le (by omega)]
  rw [hc]
  exact We0
 obtain ⟨x,r,hd⟩:=next_at hil
 obtain ⟨y,s,he⟩:=next_at (l:=w) (i:=i) (by omega)
 have hcd:=sps_drop hd
 have hce:=sps_drop he
 by_cases hxy:x=y
 ·have hdd:(decide (x.1=y.1)&&(decide (x.2.1=y.2.1)&&decide (x.2.2=y.2.2)))=true:=by rw [hxy];simp
  have go:∀ T' σ',keepT T' [0,1,4,5]=[(0,.d (.l v.length (spsD v))),(1,.d (.l w.length (spsD w))),(4,bv false),(5,iv .i64 ((i:Int)+1))]→σ'.take 0=[]→J T' σ':=fun T' σ' g1 g2=>
   hJ (i+1) T' σ' (by omega) ⟨by omega,by rw [next_drop hd,next_drop he,hr,hd,he,hxy];simp⟩ g1 g2
  clear hJ hr
  generalize (decide (x.1=y.1)&&(decide (x.2.1=y.2.1)&&decide (x.2.2=y.2.2)))=zz at *
  (have kxs:=And.intro hcd (And.intro hce hdd);exact Weg)
 ·have hdd:(decide (x.1=y.1)&&(decide (x.2.1=y.2.1)&&decide (x.2.2=y.2.2)))=false:=by
    cases hq:(decide (x.1=y.1)&&(decide (x.2.1=y.2.1)&&decide (x.2.2=y.2.2))) with
    | false=>rfl
    | true=>
     exfalso;apply hxy
     simp only [Bool.and_eq_true,decide_eq_true_eq] at hq
     exact Prod.ext hq.1 (Prod.ext hq.2.1 hq.2.2)
  have hc:decide (v=w)=false:=by
   simp only [decide_eq_false_iff_not]
   rw [hr,hd,he]
   intro e
   exact hxy (List.cons.inj e).1
  rw [hc]
  clear hJ hr
  (have kxs:=And.intro hcd (And.intro hce hdd);exact We0)
theorem awk_sp:spansr [(nId,fun c=>(Cu.vtake c).2),(nKey,fun c=>(Cu.okey c).2)] ⟨[5,1,107],0,0⟩=([(nId,(0,1)),(nKey,(1,3))],⟨[5,1,107],3,0⟩):=by
 have h5:vput 5=[5]:=by rw [vput_small (by decide)];rfl
 have h1:vput 1=[1]:=by rw [vput_small (by decide)];rfl
 have g1:Cu.vtake ⟨[5,1,107],0,0⟩=(5,⟨[5,1,107],1,0⟩):=by
  have h:=trip_v.fore ⟨[5,1,107],0,0⟩ 5 [1,107] (by decide) rfl (by decide) (by rw [h5];rfl)
  rw [h5] at h;exact h
 have g2:Cu.okey ⟨[5,1,107],1,0⟩=([107],⟨[5,1,107],3,0⟩):=by
  have he:eblob [107]=[1,107]:=by show vput 1++[107]=_;rw [h1];rfl
  have h:=trip_okey.fore ⟨[5,1,107],1,0⟩ [107] [] ⟨⟨by decide,by decide⟩,by decide⟩ rfl (by decide) (by rw [he];rfl)
  rw [he] at h;exact h
 simp only [spansr_cons,g1,g2]
 rfl
theorem awake31:AC Tryz.prog 26 [] [] fun x σ=>x=bv true∧σ=[]:=by
 have hp:=pay_1 2 (.inr rfl) has_21 [5,1,107] (by decide)
 rw [awk_sp] at hp
 have hs:=ref31_Same [(nId,(0,1)),(nKey,(1,3))] [(nId,(0,1)),(nKey,(1,3))] (by decide)
 rw [show decide (([(nId,(0,1)),(nKey,(1,3))]:List Sp)=[(nId,(0,1)),(nKey,(1,3))])=true from decide_eq_true rfl] at hs
 refine AC.wk Tryz.func26 ?_
 (have kk1:=uN [] hp;have kk2:=uN [] hs;exact Wd0)
theorem partw_in{v k:Nat}(h:has v k=true)(s:List UInt8):partw v k s=((spansr (pparts v k ⟨s,0,0⟩) ⟨s,0,0⟩).1,(spansr (pparts v k ⟨s,0,0⟩) ⟨s,0,0⟩).2.fin.e):=by
 unfold partw
 rcases has_cases h with ⟨rfl,_⟩|⟨rfl,_⟩
 ·rw [if_neg (by simp),if_neg (by simp [h])]
 ·rw [if_neg (by simp),if_neg (by simp [h])]
theorem pp2(v:Nat)(c:Cu)(b:Bool)(h:(Cu.vtake c).2.flag.1=b):pparts v 2 c=(nId,fun c=>(Cu.vtake c).2)::(nFound,fun c=>(Cu.flag c).2)::(if b=true then [(if v=1 then nOld else nObject,fun c=>(Cu.blob c 65536).2)] else []):=by
 rw [←h];rfl
theorem parts_Payload(v k:Nat)(hv:v<256)(hk:k<256)(s:List UInt8)(hs:s.length≤140737488351232):AC Tryz.prog 29 [iv .u8 (v:Nat),iv .u8 (k:Nat),sv (bs s)] [] fun y σ=>y=.t [.d (.l (partw v k s).1.length (spnsD (partw v k s).1)),iv .i64 (partw v k s).2]∧σ=[]:=by
 have hh:=msg_Has v k hv hk
 by_cases hv2:v≠1∧v≠2
 ·have e:partw v k s=([],10):=if_pos hv2
  rw [e]
  obtain ⟨g1,g2⟩:=hv2
  refine AC.wk Tryz.func29 ?_
  exact Wd0
 cases h:has v k with
 | false=>
  have e:partw v k s=([],11):=by unfold partw;rw [if_neg hv2,if_pos h]
  rw [e]
  rw [h] at hh
  refine AC.wk Tryz.func29 ?_
  (have kk1:=uN [] hh;exact Wd0)
 | true=>
  rw [h] at hh
  rw [partw_in h]
  rcases has_cases h with ⟨rfl,rfl|rfl|rfl⟩|⟨rfl,rfl|rfl|rfl|rfl|rfl|rfl|rfl|rfl|rfl⟩
  ·exact pay_1 1 (.inl rfl) hh s hs
  ·cases hb:(Cu.vtake ⟨s,0,0⟩).2.flag.1 with
   | false=>rw [pp2 1 _ _ hb];exact pay_2n 1 (.inl rfl) hh s hs hb
   | true=>rw [pp2 1 _ _ hb];exact pay_2f1 hh s hs hb
  ·exact pay_8 1 (.inl rfl) hh s hs
  ·exact pay_1 2 (.inr rfl) hh s hs
  ·cases hb:(Cu.vtake ⟨s,0,0⟩).2.flag.1 with
   | false=>rw [pp2 2 _ _ hb];exact pay_2n 2 (.inr rfl) hh s hs hb
   | true=>rw [pp2 2 _ _ hb];exact pay_2f2 hh s hs hb
  ·exact pay_3 2 (.inr rfl) hh s hs
  ·exact pay_4 2 (.inr rfl) hh s hs
  ·exact pay_5 2 (.inr rfl) hh s hs
  ·exact pay_6 2 (.inr rfl) hh s hs
  ·exact pay_7 2 (.inr rfl) hh s hs
  ·exact pay_8 2 (.inr rfl) hh s hs
  ·exact pay_9 2 (.inr rfl) hh s hs
theorem partsTell(v k:Nat)(hv:v<256)(hk:k<256)(s:List UInt8)(hs:s.length≤9223372036854775807):AC Tryz.prog 7 [iv .u8 (v:Nat),iv .u8 (k:Nat),sv (bs s)] [] fun x σ=>x=bv true∧σ=[]:=by
 refine AC.wk Tryz.func7 ?_
 by_cases h3:s.length≤5000
 case neg=>
  (have kk1:=uN [] awake31;exact Wd0)
 have hp:=parts_Payload v k hv hk s (by omega)
 have hde:=msg_Decode v k s hv hk (by omega)
 have ht:=@tells_eq v k s
 have ho:=@tells_obj v k s
 generalize partw v k s=z at *
 obtain ⟨sp,e⟩:=z
 generalize msgw v k s=z at *
 obtain ⟨m,f⟩:=z
 simp only at hp hde ht ho
 by_cases hk2:k=2∨k=9
 ·have ho:=ho hk2
  by_cases hf0:f=0
  ·have he:e=0:=by rcases ho with h|h
                   ·exact absurd hf0 h
                   ·exact h
   subst he;subst hf0
   rcases hk2 with rfl|rfl
   ·(have kk1:=uN [] awake31;have kk2:=uN [] hp;have kk3:=uN [] hde;exact Wd0)
   ·(have kk1:=uN [] awake31;have kk2:=uN [] hp;have kk3:=uN [] hde;exact Wd0)
  ·rcases hk2 with rfl|rfl
   ·(have kk1:=uN [] awake31;have kk2:=uN [] hp;have kk3:=uN [] hde;exact Wd0)
   ·(have kk1:=uN [] awake31;have kk2:=uN [] hp;have kk3:=uN [] hde;exact Wd0)
 ·have h2:k≠2:=fun h=>hk2 (.inl h)
  have h9:k≠9:=fun h=>hk2 (.inr h)
  have ht:=ht h2 h9
  subst ht
  (have kk1:=uN [] awake31;have kk2:=uN [] hp;have kk3:=uN [] hde;exact Wd0)
theorem partsTellI(v k:Int)(hv:0≤v∧v≤255)(hk:0≤k∧k≤255)(s:List UInt8)(hs:s.length≤9223372036854775807):AC Tryz.prog 7 [iv .u8 v,iv .u8 k,sv (bs s)] [] fun x σ=>x=bv true∧σ=[]:=by
 obtain ⟨v,rfl⟩:=Int.eq_ofNat_of_zero_le hv.1
 obtain ⟨k,rfl⟩:=Int.eq_ofNat_of_zero_le hk.1
 exact partsTell v k (by omega) (by omega) s hs
end Go.AW
