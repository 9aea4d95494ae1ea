/-
  messages, the document's: its check, its payload.
-/
import Derived.Test.YtdnfcckkdnkaiaaGreatU30
set_option linter.unusedVariables false
set_option linter.unusedSimpArgs false
set_option maxHeartbeats 4000000
set_option maxRecDepth 10000
namespace Go.AW
open Go Go.Proofs
attribute [local irreducible] thenQ blockQ RetQ AL AW AC AOp
theorem ref23_Has(v k:Nat)(hv:v<256)(hk:k<256):AC Tryz.prog 34 [iv .u8 (v:Nat),iv .u8 (k:Nat)] [] fun y σ=>y=bv (has v k)∧σ=[]:=by
 refine AC.wk Tryz.func34 ?_
 obtain ⟨r,hr⟩:∃ r,r=has v k:=⟨_,rfl⟩
 rw [←hr]
 unfold has at hr
 by_cases h1:v=1
 ·rw [if_pos h1] at hr
  by_cases h2:k=1∨k=2∨k=8
  ·rw [decide_eq_true h2] at hr
   subst hr
   rcases h2 with rfl|rfl|rfl<;>
   (focus ((repeat' (first|refine G ?_|refine AW.ret ?_|(refine GC ?_ ?_<;>intro h<;>(try simp only [hsB] at h)<;>try exact xf)|(refine GL ?_ ?_<;>intro h<;>(try simp only [hsN] at h)<;>(try simp only [h])<;>(try simp only [hsB] at h)<;>try exact xf)|fail))))
   all_goals first|exact RetQ.fr 0|exact RetQ.fn 0|exact xg
  ·rw [decide_eq_false h2] at hr
   subst hr
   exact Wd0
 ·rw [if_neg h1] at hr
  by_cases h2:v=2∧1≤k∧k≤9
  ·rw [decide_eq_true h2] at hr
   subst hr
   obtain ⟨h3,h4,h5⟩:=h2
   exact Wd0
  ·rw [decide_eq_false h2] at hr
   subst hr
   exact Wd0
theorem sls_eq{x y:Sl}(h1:x.1=y.1)(h2:x.2=y.2):x=y:=Prod.ext h1 h2
theorem ref20_Same(a b:Pg)(ha:a.slots.length≤9223372036854775807)(hb:a.items.length≤9223372036854775807):AC Tryz.prog 50 [pgV a,pgV b] [] fun y σ=>y=bv (decide (a=b))∧σ=[]:=by
 refine AC.wk Tryz.func50 ?_
 obtain ⟨pre,leaf,slots,items⟩:=a
 obtain ⟨pre',leaf',slots',items'⟩:=b
 simp only at ha hb ⊢
 have no:∀ h:¬ (pre=pre'∧leaf=leaf'∧slots=slots'∧items=items'),decide ((⟨pre,leaf,slots,items⟩:Pg)=⟨pre',leaf',slots',items'⟩)=false:=fun h=>by
  apply decide_eq_false
  intro e
  injection e with e1 e2 e3 e4
  exact h ⟨e1,e2,e3,e4⟩
 by_cases h1:pre=pre'
 case neg=>
  rw [no (fun h=>h1 h.1)]
  exact We0
 subst h1
 by_cases h2:leaf=leaf'
 case neg=>
  rw [no (fun h=>h2 h.2.1)]
  have h2':leaf'=!leaf:=by cases leaf<;>cases leaf'<;>simp_all
  subst h2'
  cases leaf<;>
  (focus ((repeat' (first|(refine ADr.nil ?_;try clear hgv)|refine GO ?_|refine AW.ret ?_|(refine GC ?_ ?_<;>intro h<;>(try simp only [hsB] at h)<;>try exact xf)|(refine GD ?_ ?_<;>intro h<;>(try intro hgv)<;>(try simp only [hsN] at h)<;>(try simp only [h])<;>(try simp only [hsB] at h)<;>try exact xf)|(refine GL ?_ ?_<;>intro h<;>(try simp only [hsN] at h)<;>(try simp only [h])<;>(try simp only [hsB] at h)<;>try exact xf)|fail))))
  all_goals first|exact RetQ.fr 0|exact RetQ.fn 0|exact xg
 subst h2
 by_cases h3:slots.length=slots'.length
 case neg=>
  rw [no (fun h=>h3 (by rw [h.2.2.1]))]
  cases leaf<;>
  (focus ((repeat' (first|(refine ADr.nil ?_;try clear hgv)|refine GO ?_|refine AW.ret ?_|(refine GC ?_ ?_<;>intro h<;>(try simp only [hsB] at h)<;>try exact xf)|(refine GD ?_ ?_<;>intro h<;>(try intro hgv)<;>(try simp only [hsN] at h)<;>(try simp only [h])<;>(try simp only [hsB] at h)<;>try exact xf)|(refine GL ?_ ?_<;>intro h<;>(try simp only [hsN] at h)<;>(try simp only [h])<;>(try simp only [hsB] at h)<;>try exact xf)|fail))))
  all_goals first|exact RetQ.fr 0|exact RetQ.fn 0|exact xg
 by_cases h4:items.length=items'.length
 case neg=>
  rw [no (fun h=>h4 (by rw [h.2.2.2]))]
  cases leaf<;>
  (focus ((repeat' (first|(refine ADr.nil ?_;try clear hgv)|refine GO ?_|refine AW.ret ?_|(refine GC ?_ ?_<;>intro h<;>(try simp only [hsB] at h)<;>try exact xf)|(refine GD ?_ ?_<;>intro h<;>(try intro hgv)<;>(try simp only [hsN] at h)<;>(try simp only [h])<;>(try simp only [hsB] at h)<;>try exact xf)|(refine GL ?_ ?_<;>intro h<;>(try simp only [hsN] at h)<;>(try simp only [h])<;>(try simp only [hsB] at h)<;>try exact xf)|fail))))
  all_goals first|exact RetQ.fr 0|exact RetQ.fn 0|exact xg
 have hd0:decide ((⟨pre,leaf,slots,items⟩:Pg)=⟨pre,leaf,slots',items'⟩)=decide (slots=slots'∧items=items'):=by
  apply decide_eq_decide.2
  constructor
  ·intro e;injection e with e1 e2 e3 e4;exact ⟨e3,e4⟩
  ·rintro ⟨rfl,rfl⟩;rfl
 rw [hd0]
 clear hd0 no
 cases leaf with
 | true=>
  focus ((repeat' (first|(refine ADr.nil ?_;try clear hgv)|refine GO ?_|refine AW.ret ?_|(refine GC ?_ ?_<;>intro h<;>(try simp only [hsB] at h)<;>try exact xf)|(refine GD ?_ ?_<;>intro h<;>(try intro hgv)<;>(try simp only [hsN] at h)<;>(try simp only [h])<;>(try simp only [hsB] at h)<;>try exact xf)|(refine GL ?_ ?_<;>intro h<;>(try simp only [hsN] at h)<;>(try simp only [h])<;>(try simp only [hsB] at h)<;>try exact xf)|fail)))
  all_goals first|exact xg|skip
  refine AW.rounds [2,3,4,5] (fun i:Nat=>[(2,.p 0 0),(3,.p 1 0),(4,bv false),(5,iv .i64 i)]) (fun _=>[.box 35 [sv (bs pre),bv true,.d (.l slots.length (slsD slots)),.d (.l items.length (itsD items))],.box 35 [sv (bs pre),bv true,.d (.l slots'.length (slsD slots')),.d (.l items'.length (itsD items'))]])
   (fun i=>i≤slots.length∧(slots=slots'↔slots.drop i=slots'.drop i)) (fun i=>slots.length-i) 0 ⟨Nat.zero_le _,by simp⟩ rfl rfl (fun _ _=>Nat.zero_le _) (fun _ _=>rfl) (fun _ _=>rfl) ?_
  rintro i ⟨hi,hr⟩ J hJ
  by_cases hil:i<slots.length
  case pos=>
   obtain ⟨x,r,hd⟩:=next_at hil
   obtain ⟨y,s,he⟩:=next_at (l:=slots') (i:=i) (by omega)
   have hcd:=sls_drop hd
   have hce:=sls_drop he
   by_cases hxy:x=y
   ·subst hxy
    have go:∀ T' σ',keepT T' [2,3,4,5]=[(2,.p 0 0),(3,.p 1 0),(4,bv false),(5,iv .i64 ((i:Int)+1))]→σ'.take 2=[.box 35 [sv (bs pre),bv true,.d (.l slots.length (slsD slots)),.d (.l items.length (itsD items))],.box 35 [sv (bs pre),bv true,.d (.l slots'.length (slsD slots')),.d (.l items'.length (itsD items'))]]→J T' σ':=fun T' σ' g1 g2=>
     hJ (i+1) T' σ' (by omega) ⟨hil,by rw [hr,next_drop hd,next_drop he,hd,he];simp⟩ g1 g2
    clear hJ
    (have kxs:=And.intro hcd hce;exact Weg)
   ·rw [decide_eq_false (fun h=>by rw [h.1] at hd;rw [hd] at he;exact hxy (List.cons.inj he).1)]
    have hne:¬ (x.1=y.1∧x.2=y.2):=fun h=>hxy (sls_eq h.1 h.2)
    focus (have kxs:=And.intro hcd hce;(repeat' (first|(refine ADr.nil ?_;try clear hgv)|refine GO ?_|refine AW.ret ?_|(refine GC ?_ ?_<;>intro h<;>(try simp only [hsB] at h)<;>try exact xf)|(refine GD ?_ ?_<;>intro h<;>(try intro hgv)<;>(try simp only [hsN] at h)<;>(try simp only [h])<;>(try simp only [hsB] at h)<;>try exact xf)|(refine GL ?_ ?_<;>intro h<;>(try simp only [hsN] at h)<;>(try simp only [h])<;>(try simp only [hsB] at h)<;>try exact xf)|fail));all_goals clear kxs)
    all_goals first|exact RetQ.fr 0|exact RetQ.fn 0|(exfalso;omega)|(exfalso;apply hne;constructor;omega;simp_all;done)|(exfalso;simp_all;omega)|(exfalso;simp_all;done)
  case neg=>
   have hs:slots=slots':=by rw [hr,List.drop_eq_nil_of_le (by omega),List.drop_eq_nil_of_le (by omega)]
   subst hs
   clear hJ hr
   focus ((repeat' (first|(refine ADr.nil ?_;try clear hgv)|refine GO ?_|refine AW.ret ?_|(refine GC ?_ ?_<;>intro h<;>(try simp only [hsB] at h)<;>try exact xf)|(refine GD ?_ ?_<;>intro h<;>(try intro hgv)<;>(try simp only [hsN] at h)<;>(try simp only [h])<;>(try simp only [hsB] at h)<;>try exact xf)|(refine GL ?_ ?_<;>intro h<;>(try simp only [hsN] at h)<;>(try simp only [h])<;>(try simp only [hsB] at h)<;>try exact xf)|fail)))
   all_goals first|exact xg|skip
   refine AW.rounds [2,3,4,6] (fun i:Nat=>[(2,.p 0 0),(3,.p 1 0),(4,bv false),(6,iv .i64 i)]) (fun _=>[.box 35 [sv (bs pre),bv true,.d (.l slots.length (slsD slots)),.d (.l items.length (itsD items))],.box 35 [sv (bs pre),bv true,.d (.l slots.length (slsD slots)),.d (.l items'.length (itsD items'))]])
    (fun i=>i≤items.length∧(items=items'↔items.drop i=items'.drop i)) (fun i=>items.length-i) 0 ⟨Nat.zero_le _,by simp⟩ rfl rfl (fun _ _=>Nat.zero_le _) (fun _ _=>rfl) (fun _ _=>rfl) ?_
   rintro j ⟨hj,hr⟩ J hJ
   by_cases hjl:j<items.length
   case pos=>
    obtain ⟨x,r,hd⟩:=next_at hjl
    obtain ⟨y,s,he⟩:=next_at (l:=items') (i:=j) (by omega)
    have hcd:=its_drop hd
    have hce:=its_drop he
    by_cases hxy:x=y
    ·subst hxy
     have go:∀ T' σ',keepT T' [2,3,4,6]=[(2,.p 0 0),(3,.p 1 0),(4,bv false),(6,iv .i64 ((j:Int)+1))]→σ'.take 2=[.box 35 [sv (bs pre),bv true,.d (.l slots.length (slsD slots)),.d (.l items.length (itsD items))],.box 35 [sv (bs pre),bv true,.d (.l slots.length (slsD slots)),.d (.l items'.length (itsD items'))]]→J T' σ':=fun T' σ' g1 g2=>
      hJ (j+1) T' σ' (by omega) ⟨hjl,by rw [hr,next_drop hd,next_drop he,hd,he];simp⟩ g1 g2
     clear hJ
     (have kxs:=And.intro hcd hce;exact Weg)
    ·rw [decide_eq_false (fun h=>by rw [h.2] at hd;rw [hd] at he;exact hxy (List.cons.inj he).1)]
     have hne:¬ (x.1=y.1∧x.2=y.2):=fun h=>hxy (Prod.ext h.1 h.2)
     (have kxs:=And.intro hcd hce;exact We0)
   case neg=>
    have hs:items=items':=by rw [hr,List.drop_eq_nil_of_le (by omega),List.drop_eq_nil_of_le (by omega)]
    rw [decide_eq_true ⟨rfl,hs⟩]
    exact We0
 | false=>
  focus ((repeat' (first|(refine ADr.nil ?_;try clear hgv)|refine GO ?_|refine AW.ret ?_|(refine GC ?_ ?_<;>intro h<;>(try simp only [hsB] at h)<;>try exact xf)|(refine GD ?_ ?_<;>intro h<;>(try intro hgv)<;>(try simp only [hsN] at h)<;>(try simp only [h])<;>(try simp only [hsB] at h)<;>try exact xf)|(refine GL ?_ ?_<;>intro h<;>(try simp only [hsN] at h)<;>(try simp only [h])<;>(try simp only [hsB] at h)<;>try exact xf)|fail)))
  all_goals first|exact xg|skip
  refine AW.rounds [2,3,4,5] (fun i:Nat=>[(2,.p 0 0),(3,.p 1 0),(4,bv false),(5,iv .i64 i)]) (fun _=>[.box 35 [sv (bs pre),bv false,.d (.l slots.length (slsD slots)),.d (.l items.length (itsD items))],.box 35 [sv (bs pre),bv false,.d (.l slots'.length (slsD slots')),.d (.l items'.length (itsD items'))]])
   (fun i=>i≤slots.length∧(slots=slots'↔slots.drop i=slots'.drop i)) (fun i=>slots.length-i) 0 ⟨Nat.zero_le _,by simp⟩ rfl rfl (fun _ _=>Nat.zero_le _) (fun _ _=>rfl) (fun _ _=>rfl) ?_
  rintro i ⟨hi,hr⟩ J hJ
  by_cases hil:i<slots.length
  case pos=>
   obtain ⟨x,r,hd⟩:=next_at hil
   obtain ⟨y,s,he⟩:=next_at (l:=slots') (i:=i) (by omega)
   have hcd:=sls_drop hd
   have hce:=sls_drop he
   by_cases hxy:x=y
   ·subst hxy
    have go:∀ T' σ',keepT T' [2,3,4,5]=[(2,.p 0 0),(3,.p 1 0),(4,bv false),(5,iv .i64 ((i:Int)+1))]→σ'.take 2=[.box 35 [sv (bs pre),bv false,.d (.l slots.length (slsD slots)),.d (.l items.length (itsD items))],.box 35 [sv (bs pre),bv false,.d (.l slots'.length (slsD slots')),.d (.l items'.length (itsD items'))]]→J T' σ':=fun T' σ' g1 g2=>
     hJ (i+1) T' σ' (by omega) ⟨hil,by rw [hr,next_drop hd,next_drop he,hd,he];simp⟩ g1 g2
    clear hJ
    (have kxs:=And.intro hcd hce;exact Weg)
   ·rw [decide_eq_false (fun h=>by rw [h.1] at hd;rw [hd] at he;exact hxy (List.cons.inj he).1)]
    have hne:¬ (x.1=y.1∧x.2=y.2):=fun h=>hxy (sls_eq h.1 h.2)
    focus (have kxs:=And.intro hcd hce;(repeat' (first|(refine ADr.nil ?_;try clear hgv)|refine GO ?_|refine AW.ret ?_|(refine GC ?_ ?_<;>intro h<;>(try simp only [hsB] at h)<;>try exact xf)|(refine GD ?_ ?_<;>intro h<;>(try intro hgv)<;>(try simp only [hsN] at h)<;>(try simp only [h])<;>(try simp only [hsB] at h)<;>try exact xf)|(refine GL ?_ ?_<;>intro h<;>(try simp only [hsN] at h)<;>(try simp only [h])<;>(try simp only [hsB] at h)<;>try exact xf)|fail));all_goals clear kxs)
    all_goals first|exact RetQ.fr 0|exact RetQ.fn 0|(exfalso;omega)|(exfalso;apply hne;constructor;omega;simp_all;done)|(exfalso;simp_all;omega)|(exfalso;simp_all;done)
  case neg=>
   have hs:slots=slots':=by rw [hr,List.drop_eq_nil_of_le (by omega),List.drop_eq_nil_of_le (by omega)]
   subst hs
   clear hJ hr
   focus ((repeat' (first|(refine ADr.nil ?_;try clear hgv)|refine GO ?_|refine AW.ret ?_|(refine GC ?_ ?_<;>intro h<;>(try simp only [hsB] at h)<;>try exact xf)|(refine GD ?_ ?_<;>intro h<;>(try intro hgv)<;>(try simp only [hsN] at h)<;>(try simp only [h])<;>(try simp only [hsB] at h)<;>try exact xf)|(refine GL ?_ ?_<;>intro h<;>(try simp only [hsN] at h)<;>(try simp only [h])<;>(try simp only [hsB] at h)<;>try exact xf)|fail)))
   all_goals first|exact xg|skip
   refine AW.rounds [2,3,4,6] (fun i:Nat=>[(2,.p 0 0),(3,.p 1 0),(4,bv false),(6,iv .i64 i)]) (fun _=>[.box 35 [sv (bs pre),bv false,.d (.l slots.length (slsD slots)),.d (.l items.length (itsD items))],.box 35 [sv (bs pre),bv false,.d (.l slots.length (slsD slots)),.d (.l items'.length (itsD items'))]])
    (fun i=>i≤items.length∧(items=items'↔items.drop i=items'.drop i)) (fun i=>items.length-i) 0 ⟨Nat.zero_le _,by simp⟩ rfl rfl (fun _ _=>Nat.zero_le _) (fun _ _=>rfl) (fun _ _=>rfl) ?_
   rintro j ⟨hj,hr⟩ J hJ
   by_cases hjl:j<items.length
   case pos=>
    obtain ⟨x,r,hd⟩:=next_at hjl
    obtain ⟨y,s,he⟩:=next_at (l:=items') (i:=j) (by omega)
    have hcd:=its_drop hd
    have hce:=its_drop he
    by_cases hxy:x=y
    ·subst hxy
     have go:∀ T' σ',keepT T' [2,3,4,6]=[(2,.p 0 0),(3,.p 1 0),(4,bv false),(6,iv .i64 ((j:Int)+1))]→σ'.take 2=[.box 35 [sv (bs pre),bv false,.d (.l slots.length (slsD slots)),.d (.l items.length (itsD items))],.box 35 [sv (bs pre),bv false,.d (.l slots.length (slsD slots)),.d (.l items'.length (itsD items'))]]→J T' σ':=fun T' σ' g1 g2=>
      hJ (j+1) T' σ' (by omega) ⟨hjl,by rw [hr,next_drop hd,next_drop he,hd,he];simp⟩ g1 g2
     clear hJ
     (have kxs:=And.intro hcd hce;exact Weg)
    ·rw [decide_eq_false (fun h=>by rw [h.2] at hd;rw [hd] at he;exact hxy (List.cons.inj he).1)]
     have hne:¬ (x.1=y.1∧x.2=y.2):=fun h=>hxy (Prod.ext h.1 h.2)
     (have kxs:=And.intro hcd hce;exact We0)
   case neg=>
    have hs:items=items':=by rw [hr,List.drop_eq_nil_of_le (by omega),List.drop_eq_nil_of_le (by omega)]
    rw [decide_eq_true ⟨rfl,hs⟩]
    exact We0
theorem os_dec(k o:Os1):decide (k=o)=(decide (k.clk=o.clk)&&(decide (k.dead=o.dead)&&decide (k.val=o.val))):=by
 obtain ⟨a,b,c⟩:=k
 obtain ⟨d,e,f⟩:=o
 rw [Bool.eq_iff_iff]
 simp
theorem ref17_One(k o:Os1)(hk:k.clk.length≤9223372036854775807):AC Tryz.prog 111 [osV k,osV o] [] fun x σ=>x=bv (decide (k=o))∧σ=[]:=by
 refine AC.wk Tryz.func111 ?_
 rw [os_dec]
 rcases Bool.eq_false_or_eq_true (decide (k.clk=o.clk)) with e1|e1<;>rcases Bool.eq_false_or_eq_true (decide (k.dead=o.dead)) with e2|e2
 all_goals
  rw [e1,e2]
  (have kxs:=And.intro e1 e2;have kk1:=uN [] (ref10_Same k.clk o.clk hk);exact Wd0)
theorem od_dec(k o:Od):decide (k=o)=(decide (k.key=o.key)&&decide (k.sibs=o.sibs)):=by
 rw [Bool.eq_iff_iff,decide_eq_true_eq];exact (od_eq k o).symm
theorem ref17_Same(k o:Od)(hk:k.fits):AC Tryz.prog 47 [odV k,odV o] [] fun x σ=>x=bv (decide (k=o))∧σ=[]:=by
 refine AC.wk Tryz.func47 ?_
 rw [od_dec]
 obtain ⟨key,v⟩:=k
 obtain ⟨key2,w⟩:=o
 obtain ⟨_,hl,hf⟩:=hk
 simp only at hl hf ⊢
 by_cases hkk:key=key2
 case neg=>
  rw [decide_eq_false hkk]
  exact We0
 subst hkk
 rw [decide_eq_true rfl,Bool.true_and]
 by_cases hll:v.length=w.length
 case neg=>
  have hc:decide (v=w)=false:=by simp;rintro rfl;exact hll rfl
  rw [hc]
  exact We0
 focus ((repeat' (first|(refine ADr.nil ?_;try clear hgv)|refine GO ?_|refine AW.ret ?_|(refine GC ?_ ?_<;>intro h<;>(try simp only [hsB] at h)<;>try exact xf)|(refine GD ?_ ?_<;>intro h<;>(try intro hgv)<;>(try simp only [hsN] at h)<;>(try simp only [h])<;>(try simp only [hsB] at h)<;>try exact xf)|(refine GL ?_ ?_<;>intro h<;>(try simp only [hsN] at h)<;>(try simp only [h])<;>(try simp only [hsB] at h)<;>try exact xf)|fail)))
 all_goals first|(exfalso;simp_all;done)|skip
 refine AW.rounds [2,3,4,5] (fun i:Nat=>[(2,.p 0 0),(3,.p 1 0),(4,bv false),(5,iv .i64 i)]) (fun _=>[.box 29 [sv (bs key),.d (.l v.length (ossD v))],.box 29 [sv (bs key),.d (.l w.length (ossD w))]])
  (fun i=>i≤v.length∧(v=w↔v.drop i=w.drop i)) (fun i=>v.length-i) 0 ⟨Nat.zero_le _,by simp⟩ rfl rfl (fun _ _=>Nat.zero_le _) (fun _ _=>rfl) (fun _ _=>rfl) ?_
 rintro i ⟨hi,hr⟩ J hJ
 by_cases hil:i<v.length
 ·obtain ⟨x,r,hd⟩:=next_at hil
  obtain ⟨y,s,he⟩:=next_at (l:=w) (i:=i) (by omega)
  have hcd:=oss_drop hd
  have hce:=oss_drop he
  have hfx:=hf x (next_mem hd)
  by_cases hxy:x=y
  ·have hd1:decide (x=y)=true:=decide_eq_true hxy
   have hJ2:v=w↔v.drop (i+1)=w.drop (i+1):=by
    rw [hr,next_drop hd,next_drop he,hd,he,hxy];simp
   focus (have kxs:=And.intro hcd (And.intro hce hd1);have kk1:=uN [] (ref17_One x y hfx.1.1);(repeat' (first|(refine ADr.nil ?_;try clear hgv)|refine GO ?_|refine AW.ret ?_|(refine GC ?_ ?_<;>intro h<;>(try simp only [hsB] at h)<;>try exact xf)|(refine GD ?_ ?_<;>intro h<;>(try intro hgv)<;>(try simp only [hsN] at h)<;>(try simp only [h])<;>(try simp only [hsB] at h)<;>try exact xf)|(refine GL ?_ ?_<;>intro h<;>(try simp only [hsN] at h)<;>(try simp only [h])<;>(try simp only [hsB] at h)<;>try exact xf)|fail));all_goals clear kxs kk1)
   all_goals first|(exact hJ (i+1) _ _ (by omega) ⟨hil,hJ2⟩ rfl rfl)|(exfalso;simp_all;done)
  ·have hd1:decide (x=y)=false:=decide_eq_false hxy
   have hc:decide (v=w)=false:=by
    simp only [decide_eq_false_iff_not]
    rw [hr,hd,he]
    intro e
    exact hxy (List.cons.inj e).1
   rw [hc]
   (have kxs:=And.intro hcd (And.intro hce hd1);have kk1:=uN [] (ref17_One x y hfx.1.1);exact We0)
 ·have hc:decide (v=w)=true:=by
    simp only [decide_eq_true_eq]
    rw [hr,List.drop_eq_nil_of_le (by omega),List.drop_eq_nil_of_le (by omega)]
  rw [hc]
  exact We0
end Go.AW
namespace Go.AW
open Go Go.Proofs Go.RowKit
attribute [local irreducible] thenQ blockQ RetQ AL AW AC AOp
theorem Oj.fits_len{o:Oj}(h:o.fits):∀ x ∈ o.sibs,x.clk.ctx.length≤9223372036854775807∧x.meta_.length≤9223372036854775807:=fun x hx=>⟨(h.2.2 x hx).1.1.1,(h.2.2 x hx).2.1.1⟩
end Go.AW
namespace Go.AW
open Go Go.Proofs
attribute [local irreducible] thenQ blockQ RetQ AL AW AC AOp
theorem ref23_SameR(m:Mg)(hf:m.fits):AC Tryz.prog 11 [mgV m,mgV m] [] fun y σ=>y=bv true∧σ=[]:=by
 refine AC.wk Tryz.func11 ?_
 obtain ⟨_,_,_,f1,f2,f3,f4,_,_,f5,f6,_,_⟩:=hf
 have s1:=ref16_Same m.obj m.obj f1.2.1 (Oj.fits_len f1)
 have s2:=ref17_Same m.old m.old f2
 have s3:=ref10_Same m.ctx m.ctx f3.1
 have s4:=ref14_Same m.meta_ m.meta_ f4.1
 have s5:=ref20_Same m.page m.page f5.2.1.1 f5.2.2.1
 have s6:=ref22_Same m.ring m.ring f6.1 (fun x hx=>(f6.2 x hx).2.2)
 rw [show decide (m.obj=m.obj)=true by simp] at s1
 rw [show decide (m.old=m.old)=true by simp] at s2
 rw [show decide (m.ctx=m.ctx)=true by simp] at s3
 rw [show decide (m.meta_=m.meta_)=true by simp] at s4
 rw [show decide (m.page=m.page)=true by simp] at s5
 rw [show decide (m.ring=m.ring)=true by simp] at s6
 (have kk1:=uN [] s1;have kk2:=uN [] s2;have kk3:=uN [] s3;have kk4:=uN [] s4;have kk5:=uN [] s5;have kk6:=uN [] s6;exact Wd0)
theorem msg_Encode(v:Nat)(m:Mg)(hv:v<256)(hf:m.fits):AC Tryz.prog 12 [iv .u8 (v:Nat),mgV m] [] fun y σ=>y=.t [sv (bs (msge v m).1),iv .i64 (msge v m).2]∧σ=[]:=by
 cases hh:has v m.kind with
 | false=>exact encode_none v m hv hf.1 hh
 | true=>
  rcases has_cases hh with ⟨rfl,h|h|h⟩|⟨rfl,h|h|h|h|h|h|h|h|h⟩
  ·exact encode_11 m hf h
  ·exact encode_12 m hf h
  ·exact encode_18 m hf h
  ·exact encode_21 m hf h
  ·exact encode_22 m hf h
  ·exact encode_23 m hf h
  ·exact encode_24 m hf h
  ·exact encode_25 m hf h
  ·exact encode_26 m hf h
  ·exact encode_27 m hf h
  ·exact encode_28 m hf h
  ·exact encode_29 m hf h
theorem mg0_fits:mg0.fits:=⟨by decide,by decide,by decide,oj0_fits,od0_fits,vec0_fits,prs0_fits,by decide,by decide,pg0_fits,Ring.fits_nil,⟨by decide,by decide⟩,by decide⟩
end Go.AW
