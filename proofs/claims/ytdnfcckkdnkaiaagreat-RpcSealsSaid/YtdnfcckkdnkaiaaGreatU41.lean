/-
  The calculus: each operation does what its condition says.
-/
import Derived.Laws.MakeOwn
import Derived.Laws.IdiomCopy
import Derived.Below
import Derived.WideShapes
import Derived.Test.YtdnfcckkdnkaiaaGreatU22
set_option linter.unusedVariables false
set_option linter.unusedSimpArgs false
set_option maxHeartbeats 4000000
set_option maxRecDepth 10000
namespace Go.AW
open Go
section
variable {P : Program} {N k : Nat} {T : Tm} {σ : List Ob}
end
end Go.AW
namespace Go.AW
open Go
section
variable {P : Program} {N k B : Nat} {T : Tm} {F F' : Nat → Prop} {σ σ' : List Ob} {μ μ' : List Value} {w w' : World}
end
end Go.AW
namespace Go.AW
open Go
section lists
variable {α : Type}
end lists
section
variable {P : Program} {N k B : Nat} {T : Tm} {F F' : Nat → Prop} {σ σ' σs : List Ob} {μ μ' μs : List Value} {w w' : World} {g : Nat → Nat}
end
end Go.AW
namespace Go.AW
open Go
section
variable {P : Program} {N k : Nat} {T : Tm} {σ : List Ob} {Q : Ex → Tm → List Ob → Prop} {K : Tm → List Ob → Prop}
end
end Go.AW
namespace Go.AW
open Go Go.RowKit
section
variable {H : Type} {enc : TypeId × Value → H} {P : Program} {w : World} {t : TypeId} {F : Nat → Prop} {σ : List Ob} {μ : List Value}
theorem VR_agg{xs:List D}{cs:Array Value}(h:DRs F w xs cs.toList):VR F σ μ w (.a (xs.map .d)) (.agg cs):=by
 refine ⟨cs,rfl,?_⟩
 have:∀ (xs:List D) (vs:List Value),DRs F w xs vs→VRs F σ μ w (xs.map .d) vs:=by
  intro xs
  induction xs with
  | nil=>intro vs h;simpa [DRs,VRs] using h
  | cons x xs ih=>
   intro vs h
   simp only [DRs] at h
   obtain ⟨v,us,rfl,h1,h2⟩:=h
   exact ⟨v,us,rfl,h1,ih us h2⟩
 exact this xs _ h
theorem okWide_agg{r:Reach}{base:Nat}{v:Value}{fs:Array Field}(ht:P.underlying t=some (.struct fs))(h:Value.okWide P w r base t v):∃ cs,v=.agg cs:=by
 unfold Value.okWide at h
 rw [ht] at h
 obtain ⟨cs,h,_⟩:=h
 exact ⟨cs,h⟩
theorem wf_i64{n:Int}(h:(Lit.int .i64 n).wf=true):-9223372036854775808≤n∧n≤9223372036854775807:=by
 simp [Lit.wf,IntKind.min,IntKind.max,IntKind.bits,IntKind.signed] at h
 omega
theorem wf_u64{n:Int}(h:(Lit.int .u64 n).wf=true):0≤n∧n≤18446744073709551615:=by
 simp [Lit.wf,IntKind.min,IntKind.max,IntKind.bits,IntKind.signed] at h
 omega
theorem Rd.list{α:Type}{e sz:Nat}{f:α→List D}{ok:α→Prop}(hu:P.underlying t=some (.slice e))(hsz:P.cellsOf e=sz)(h0:0<sz)(hS:Rd enc P w e fun xs=>∃ x,xs=f x∧ok x) :
  Rd enc P w t fun xs=>∃ l:List α,xs=[.l l.length (l.map f).flatten]∧(∀ x ∈ l,ok x)∧l.length≤maxLen:=by
 refine Rd.mono (Rd.slice hu hsz h0 hS) fun xs h=>?_
 obtain ⟨yss,h1,rfl,h2⟩:=h
 suffices H:∃ l:List α,l.map f=yss∧∀ x ∈ l,ok x by
  obtain ⟨l,rfl,e2⟩:=H
  exact ⟨l,by simp,e2,by simpa using h2⟩
 clear h2
 induction yss with
 | nil=>exact ⟨[],rfl,by simp⟩
 | cons ys yss ih=>
  obtain ⟨l,e1,e2⟩:=ih fun z hz=>h1 z (List.mem_cons_of_mem _ hz)
  obtain ⟨⟨x,rfl,hx⟩,_⟩:=h1 ys List.mem_cons_self
  refine ⟨x::l,by simp [e1],fun y hy=>?_⟩
  rcases List.mem_cons.1 hy with rfl|hy
  ·exact hx
  ·exact e2 y hy
end
end Go.AW
namespace Go.AW
open Go Go.Proofs
attribute [local irreducible] thenQ blockQ RetQ AL AW AC AOp
section
variable (b s : List UInt8) (m e max : Int)
theorem ref06_PutCount(ok:Pe.Ok ⟨b,m,e⟩)(n:Int)(hn:n≤9223372036854775807)(hl:m≤140737488355328∨b.length+10≤140737488355328) :
  AC Tryz.prog 74 [.p 0 0,iv .i64 max,iv .i64 n] [Pe.ro ⟨b,m,e⟩] fun x σ=>x=.t []∧σ=[Pe.ro (Pe.count ⟨b,m,e⟩ max n)]:=by
 refine AC.wk Tryz.func74 ?_
 by_cases h0:n<0
 ·have hb:Pe.count ⟨b,m,e⟩ max n=Pe.fail ⟨b,m,e⟩ 1:=by unfold Pe.count;rw [if_pos h0]
  focus (have kud1:=fun za zb zc zd=>uN [0] (ref02_Fail za zb zc zd);(repeat' (first|refine G ?_|refine AW.ret ?_|(refine GC ?_ ?_<;>intro h<;>(try simp only [hsB] at h)<;>try exact xf)|(refine GL ?_ ?_<;>intro h<;>(try simp only [hsN] at h)<;>(try simp only [h])<;>(try simp only [hsB] at h)<;>try exact xf)|fail));all_goals clear kud1)
  all_goals first|(exfalso;omega)|(rw [hb];(all_goals first|exact RetQ.fr 1|exact RetQ.fn 1|fail);done)
 obtain ⟨k,rfl⟩:∃ k:Nat,n=k:=⟨n.toNat,by omega⟩
 by_cases hc:max.toNat<(k:Int)
 ·have hb:Pe.count ⟨b,m,e⟩ max k=Pe.fail ⟨b,m,e⟩ 3:=by unfold Pe.count;rw [if_neg h0,if_pos hc]
  focus (have kud1:=fun za zb zc zd=>uN [0] (ref02_Fail za zb zc zd);(repeat' (first|refine G ?_|refine AW.ret ?_|(refine GC ?_ ?_<;>intro h<;>(try simp only [hsB] at h)<;>try exact xf)|(refine GL ?_ ?_<;>intro h<;>(try simp only [hsN] at h)<;>(try simp only [h])<;>(try simp only [hsB] at h)<;>try exact xf)|fail));all_goals clear kud1)
  all_goals first|(exfalso;omega)|(rw [hb];(all_goals first|exact RetQ.fr 1|exact RetQ.fn 1|fail);done)
 ·have hb:Pe.count ⟨b,m,e⟩ max k=Pe.text ⟨b,m,e⟩ (vput k):=by unfold Pe.count;rw [if_neg h0,if_neg hc];rfl
  focus (have kk1:=uN [0] (ref03_Put b m e ok k (by omega) (by omega));(repeat' (first|refine G ?_|refine AW.ret ?_|(refine GC ?_ ?_<;>intro h<;>(try simp only [hsB] at h)<;>try exact xf)|(refine GL ?_ ?_<;>intro h<;>(try simp only [hsN] at h)<;>(try simp only [h])<;>(try simp only [hsB] at h)<;>try exact xf)|fail));all_goals clear kk1)
  all_goals first|(exfalso;omega)|(rw [hb];(all_goals first|exact RetQ.fr 1|exact RetQ.fn 1|fail);done)
end
end Go.AW
namespace Go.AW
open Go Go.Proofs
attribute [local irreducible] thenQ blockQ RetQ AL AW AC AOp
theorem ref10_Great(v:Vec)(hv:v.fits):AC Tryz.prog 58 [.d (.l v.length (vecD v))] [] fun x σ=>x=bv v.great∧σ=[]:=by
 refine AC.wk Tryz.func58 ?_
 by_cases h64:100<v.length
 ·have hc:v.great=true:=by unfold Vec.great;simp [h64]
  focus (have kxs:=hc;(repeat' (first|refine G ?_|refine AW.ret ?_|(refine GC ?_ ?_<;>intro h<;>(try simp only [hsB] at h)<;>try exact xf)|(refine GL ?_ ?_<;>intro h<;>(try simp only [hsN] at h)<;>(try simp only [h])<;>(try simp only [hsB] at h)<;>try exact xf)|fail));all_goals clear kxs)
  all_goals first|(exfalso;omega)|((all_goals have kxf:=hc;first|exact RetQ.xr 0|exact RetQ.xn 0|fail);done)
 generalize hR:(v.any fun x=>decide (100<x.1.length))=R
 have hc:v.great=R:=by unfold Vec.great;rw [hR];simp [h64]
 rw [hc]
 focus ((repeat' (first|refine G ?_|refine AW.ret ?_|(refine GC ?_ ?_<;>intro h<;>(try simp only [hsB] at h)<;>try exact xf)|(refine GL ?_ ?_<;>intro h<;>(try simp only [hsN] at h)<;>(try simp only [h])<;>(try simp only [hsB] at h)<;>try exact xf)|fail)))
 refine AW.rounds [0,2,3] (fun i:Nat=>[(0,.d (.l v.length (vecD v))),(2,bv false),(3,iv .i64 i)]) (fun _=>[])
  (fun i=>i≤v.length∧((v.drop i).any fun x=>decide (100<x.1.length))=R) (fun i=>v.length-i) 0 ⟨Nat.zero_le _,hR⟩ rfl rfl (fun _ _=>Nat.zero_le _) (fun _ _=>rfl) (fun _ _=>rfl) ?_
 rintro i ⟨hi,hr⟩ J hJ
 by_cases hil:i<v.length
 ·obtain ⟨x,r,hd⟩:=next_at hil
  have hcd:=vec_drop hd
  have hnd:=next_drop hd
  rw [hd,List.any_cons] at hr
  focus (have kxs:=hcd;(repeat' (first|refine G ?_|refine AW.ret ?_|(refine GC ?_ ?_<;>intro h<;>(try simp only [hsB] at h)<;>try exact xf)|(refine GL ?_ ?_<;>intro h<;>(try simp only [hsN] at h)<;>(try simp only [h])<;>(try simp only [hsB] at h)<;>try exact xf)|fail));all_goals clear kxs)
  ·have hR1:R=true:=by rw [←hr];simp;left;omega
   rw [hR1]
   (all_goals first|exact RetQ.fr 0|exact RetQ.fn 0|fail)
  ·refine hJ (i+1) _ _ (by omega) ⟨hil,?_⟩ rfl rfl
   have hx:decide (100<x.1.length)=false:=by simp;omega
   rw [hx,Bool.false_or] at hr
   rw [hnd];exact hr
 ·focus ((repeat' (first|refine G ?_|refine AW.ret ?_|(refine GC ?_ ?_<;>intro h<;>(try simp only [hsB] at h)<;>try exact xf)|(refine GL ?_ ?_<;>intro h<;>(try simp only [hsN] at h)<;>(try simp only [h])<;>(try simp only [hsB] at h)<;>try exact xf)|fail)))
  have h0:v.drop i=[]:=List.drop_eq_nil_of_le (by omega)
  rw [h0] at hr
  have hR0:R=false:=hr.symm
  rw [hR0]
  (all_goals first|exact RetQ.fr 0|exact RetQ.fn 0|fail)
theorem ref12_Great(k:Ck)(hk:k.fits):AC Tryz.prog 236 [ckV k] [] fun x σ=>x=bv k.great∧σ=[]:=by
 refine AC.wk Tryz.func236 ?_
 unfold Ck.great
 cases hg:k.ctx.great
 all_goals
  (have kxs:=hg;have kk1:=uN [] (ref10_Great k.ctx hk.1);exact Wd0)
theorem ref14_Check(v:Prs)(hv:v.fits):AC Tryz.prog 81 [.d (.l v.length (prsD v))] [] fun x σ=>x=iv .i64 v.check∧σ=[]:=by
 refine AC.wk Tryz.func81 ?_
 by_cases h8:8<v.length
 ·have hc:v.check=3:=by unfold Prs.check;rw [if_pos h8]
  focus (have kxs:=hc;(repeat' (first|(refine ADr.nil ?_;try clear hgv)|refine GO ?_|refine AW.ret ?_|(refine GC ?_ ?_<;>intro h<;>(try simp only [hsB] at h)<;>try exact xf)|(refine GD ?_ ?_<;>intro h<;>(try intro hgv)<;>(try simp only [hsN] at h)<;>(try simp only [h])<;>(try simp only [hsB] at h)<;>try exact xf)|(refine GL ?_ ?_<;>intro h<;>(try simp only [hsN] at h)<;>(try simp only [h])<;>(try simp only [hsB] at h)<;>try exact xf)|fail));all_goals clear kxs)
  all_goals first|(exfalso;omega)|((all_goals have kxf:=hc;first|exact RetQ.xr 0|exact RetQ.xn 0|fail);done)
 generalize hR:pcheck [] v=R
 have hc:v.check=R:=by unfold Prs.check;rw [if_neg h8,hR]
 rw [hc]
 focus ((repeat' (first|(refine ADr.nil ?_;try clear hgv)|refine GO ?_|refine AW.ret ?_|(refine GC ?_ ?_<;>intro h<;>(try simp only [hsB] at h)<;>try exact xf)|(refine GD ?_ ?_<;>intro h<;>(try intro hgv)<;>(try simp only [hsN] at h)<;>(try simp only [h])<;>(try simp only [hsB] at h)<;>try exact xf)|(refine GL ?_ ?_<;>intro h<;>(try simp only [hsN] at h)<;>(try simp only [h])<;>(try simp only [hsB] at h)<;>try exact xf)|fail)))
 refine AW.rounds [0,2,3] (fun i:Nat=>[(0,.d (.l v.length (prsD v))),(2,iv .i64 0),(3,iv .i64 i)]) (fun _=>[])
  (fun i=>i≤v.length∧∃ p,v.ahead i p∧pcheck p (v.drop i)=R) (fun i=>v.length-i) 0 ⟨Nat.zero_le _,[],.inl ⟨rfl,rfl⟩,hR⟩ rfl rfl (fun _ _=>Nat.zero_le _) (fun _ _=>rfl) (fun _ _=>rfl) ?_
 rintro i ⟨hi,p,hp,hr⟩ J hJ
 by_cases hil:i<v.length
 ·obtain ⟨x,r,hd⟩:=next_at hil
  have hcd:=prs_drop hd
  rw [hd] at hr
  have hR2:=pcheck_step hr
  have hxl:=hv.2.1 x (next_mem hd)
  have hyl:=hv.2.2 x (next_mem hd)
  have hnx:∀ hx:¬ 32<x.1.length,v.ahead (i+1) x.1:=fun hx=>.inr ⟨by omega,by omega,x.2,r,by simpa using hd⟩
  have hnd:=next_drop hd
  have hxe:x.1=[]↔x.1.length=0:=by simp
  rcases hp with ⟨rfl,rfl⟩|⟨h0,hpl,n,r',hp⟩
  ·have hl0:x.1≠[]→lessB [] x.1=true:=fun h=>by
     cases hx:x.1 with
     | nil=>exact absurd hx h
     | cons b t=>exact less_nil_cons b t
   focus (have kxs:=hcd;(repeat' (first|(refine ADr.nil ?_;try clear hgv)|refine GO ?_|refine AW.ret ?_|(refine GC ?_ ?_<;>intro h<;>(try simp only [hsB] at h)<;>try exact xf)|(refine GD ?_ ?_<;>intro h<;>(try intro hgv)<;>(try simp only [hsN] at h)<;>(try simp only [h])<;>(try simp only [hsB] at h)<;>try exact xf)|(refine GL ?_ ?_<;>intro h<;>(try simp only [hsN] at h)<;>(try simp only [h])<;>(try simp only [hsB] at h)<;>try exact xf)|fail));all_goals clear kxs)
   all_goals first
    | (rw [show R=3 from by rw [hR2,if_pos (by omega)]];(first|exact RetQ.zr 0|exact RetQ.zn 0|fail))
    | (rw [show R=14 from by rw [hR2,if_neg (by omega),if_pos (by first|assumption|(rw [hxe];omega))]];(first|exact RetQ.zr 0|exact RetQ.zn 0|fail))
    | (rw [show R=6 from by rw [hR2,if_neg (by omega),if_neg (by first|assumption|(rw [hxe];omega)),if_pos (by first|assumption|(clear hR2 hr hJ;simp_all;done))]];(first|exact RetQ.zr 0|exact RetQ.zn 0|fail))
    | (rw [show R=3 from by rw [hR2,if_neg (by omega),if_neg (by first|assumption|(rw [hxe];omega)),if_neg (by first|(rw [hl0 (by first|assumption|(rw [ne_eq,hxe];omega))];decide)|(clear hR2 hr hJ;simp_all;done)),if_pos (by omega)]];(first|exact RetQ.zr 0|exact RetQ.zn 0|fail))
    | (refine hJ 1 _ _ (by omega) ⟨hil,x.1,hnx (by omega),?_⟩ rfl rfl;rw [hnd,hR2,if_neg (by omega),if_neg (by rw [hxe];omega),if_neg (by rw [hl0 (by rw [ne_eq,hxe];omega)];decide),if_neg (by omega)])
    | (exfalso;clear hR2 hr hJ;simp_all;done)
  ·have hcp:=prs_drop hp
   have hi1:((i:Int)-1).toNat=i-1:=by omega
   focus (have kxs:=And.intro hcd (And.intro hcp hi1);have kpb1:=fun za zb=>uN [] (ref06_Below p x.1 za zb);(repeat' (first|(refine ADr.nil ?_;try clear hgv)|refine GO ?_|refine AW.ret ?_|(refine GC ?_ ?_<;>intro h<;>(try simp only [hsB] at h)<;>try exact xf)|(refine GD ?_ ?_<;>intro h<;>(try intro hgv)<;>(try simp only [hsN] at h)<;>(try simp only [h])<;>(try simp only [hsB] at h)<;>try exact xf)|(refine GL ?_ ?_<;>intro h<;>(try simp only [hsN] at h)<;>(try simp only [h])<;>(try simp only [hsB] at h)<;>try exact xf)|fail));all_goals clear kxs kpb1)
   all_goals first
    | (rw [show R=3 from by rw [hR2,if_pos (by omega)]];(first|exact RetQ.zr 0|exact RetQ.zn 0|fail))
    | (rw [show R=14 from by rw [hR2,if_neg (by omega),if_pos (by first|assumption|(rw [hxe];omega))]];(first|exact RetQ.zr 0|exact RetQ.zn 0|fail))
    | (rw [show R=6 from by rw [hR2,if_neg (by omega),if_neg (by first|assumption|(rw [hxe];omega)),if_pos (by first|assumption|(clear hR2 hr hJ;simp_all;done))]];(first|exact RetQ.zr 0|exact RetQ.zn 0|fail))
    | (rw [show R=3 from by rw [hR2,if_neg (by omega),if_neg (by first|assumption|(rw [hxe];omega)),if_neg (by clear hR2 hr hJ;simp_all;done),if_pos (by omega)]];(first|exact RetQ.zr 0|exact RetQ.zn 0|fail))
    | (refine hJ (i+1) _ _ (by omega) ⟨hil,x.1,hnx (by omega),?_⟩ rfl rfl;rw [hnd,hR2,if_neg (by omega),if_neg (by rw [hxe];omega),if_neg (by clear hR2 hr hJ;simp_all;done),if_neg (by omega)])
    | (exfalso;clear hR2 hr hJ;simp_all;done)
 ·focus ((repeat' (first|(refine ADr.nil ?_;try clear hgv)|refine GO ?_|refine AW.ret ?_|(refine GC ?_ ?_<;>intro h<;>(try simp only [hsB] at h)<;>try exact xf)|(refine GD ?_ ?_<;>intro h<;>(try intro hgv)<;>(try simp only [hsN] at h)<;>(try simp only [h])<;>(try simp only [hsB] at h)<;>try exact xf)|(refine GL ?_ ?_<;>intro h<;>(try simp only [hsN] at h)<;>(try simp only [h])<;>(try simp only [hsB] at h)<;>try exact xf)|fail)))
  have h0:v.drop i=[]:=List.drop_eq_nil_of_le (by omega)
  rw [h0] at hr
  have hR0:R=0:=hr.symm
  rw [hR0]
  (all_goals first|exact RetQ.fr 0|exact RetQ.fn 0|fail)
theorem ref14_Great(v:Prs)(hv:v.fits):AC Tryz.prog 59 [.d (.l v.length (prsD v))] [] fun x σ=>x=bv v.great∧σ=[]:=by
 refine AC.wk Tryz.func59 ?_
 by_cases h8:20<v.length
 ·have hc:v.great=true:=by unfold Prs.great;simp [h8]
  focus (have kxs:=hc;(repeat' (first|refine G ?_|refine AW.ret ?_|(refine GC ?_ ?_<;>intro h<;>(try simp only [hsB] at h)<;>try exact xf)|(refine GL ?_ ?_<;>intro h<;>(try simp only [hsN] at h)<;>(try simp only [h])<;>(try simp only [hsB] at h)<;>try exact xf)|fail));all_goals clear kxs)
  all_goals first|(exfalso;omega)|((all_goals have kxf:=hc;first|exact RetQ.xr 0|exact RetQ.xn 0|fail);done)
 generalize hR:(v.any fun x=>(decide (100<x.1.length)||decide (100<x.2.length)))=R
 have hc:v.great=R:=by unfold Prs.great;rw [hR];simp [h8]
 rw [hc]
 focus ((repeat' (first|refine G ?_|refine AW.ret ?_|(refine GC ?_ ?_<;>intro h<;>(try simp only [hsB] at h)<;>try exact xf)|(refine GL ?_ ?_<;>intro h<;>(try simp only [hsN] at h)<;>(try simp only [h])<;>(try simp only [hsB] at h)<;>try exact xf)|fail)))
 refine AW.rounds [0,2,3] (fun i:Nat=>[(0,.d (.l v.length (prsD v))),(2,bv false),(3,iv .i64 i)]) (fun _=>[])
  (fun i=>i≤v.length∧((v.drop i).any fun x=>(decide (100<x.1.length)||decide (100<x.2.length)))=R) (fun i=>v.length-i) 0 ⟨Nat.zero_le _,hR⟩ rfl rfl (fun _ _=>Nat.zero_le _) (fun _ _=>rfl) (fun _ _=>rfl) ?_
 rintro i ⟨hi,hr⟩ J hJ
 by_cases hil:i<v.length
 ·obtain ⟨x,r,hd⟩:=next_at hil
  have hcd:=prs_drop hd
  have hnd:=next_drop hd
  rw [hd,List.any_cons] at hr
  by_cases hx:100<x.1.length∨100<x.2.length
  ·have hR1:R=true:=by rw [←hr];rcases hx with h|h<;>simp [h]
   rw [hR1]
   (have kxs:=hcd;exact Wd0)
  ·have h1:decide (100<x.1.length)=false:=decide_eq_false fun h=>hx (.inl h)
   have h2:decide (100<x.2.length)=false:=decide_eq_false fun h=>hx (.inr h)
   rw [h1,h2,Bool.false_or,Bool.false_or] at hr
   focus (have kxs:=hcd;(repeat' (first|refine G ?_|refine AW.ret ?_|(refine GC ?_ ?_<;>intro h<;>(try simp only [hsB] at h)<;>try exact xf)|(refine GL ?_ ?_<;>intro h<;>(try simp only [hsN] at h)<;>(try simp only [h])<;>(try simp only [hsB] at h)<;>try exact xf)|fail));all_goals clear kxs)
   all_goals first|(exfalso;omega)|(refine hJ (i+1) _ _ (by omega) ⟨hil,by rw [hnd];exact hr⟩ rfl rfl)
 ·focus ((repeat' (first|refine G ?_|refine AW.ret ?_|(refine GC ?_ ?_<;>intro h<;>(try simp only [hsB] at h)<;>try exact xf)|(refine GL ?_ ?_<;>intro h<;>(try simp only [hsN] at h)<;>(try simp only [h])<;>(try simp only [hsB] at h)<;>try exact xf)|fail)))
  have h0:v.drop i=[]:=List.drop_eq_nil_of_le (by omega)
  rw [h0] at hr
  have hR0:R=false:=hr.symm
  rw [hR0]
  (all_goals first|exact RetQ.fr 0|exact RetQ.fn 0|fail)
section
variable (b : List UInt8) (m e : Int)
theorem ref14_Put(ok:Pe.Ok ⟨b,m,e⟩)(v:Prs)(hfv:v.fits)(hl:m≤140737488355328∨b.length+(eprs v).length+40≤140737488355328) :
  AC Tryz.prog 70 [.p 0 0,.d (.l v.length (prsD v))] [Pe.ro ⟨b,m,e⟩] fun x σ=>x=.t []∧σ=[Pe.ro (Pe.prs ⟨b,m,e⟩ v)]:=by
 refine AC.wk Tryz.func70 ?_
 by_cases hc:v.check=0
 case neg=>
  have hv:Pe.prs ⟨b,m,e⟩ v=Pe.fail ⟨b,m,e⟩ v.check:=by unfold Pe.prs;rw [if_pos hc]
  rw [hv]
  (have kk1:=uN [] (ref14_Check v hfv);have kua1:=fun za=>uN [0] (ref02_Fail b m e za);exact Wd1)
 have hvec:Pe.prs ⟨b,m,e⟩ v=(Pe.text ⟨b,m,e⟩ (vput v.length)).pairs v:=by unfold Pe.prs;rw [if_neg (by simpa using hc)]
 obtain ⟨hv8,hv32⟩:=Prs.check_len hc
 have hcnt:Pe.count ⟨b,m,e⟩ 8 (v.length:Nat)=Pe.text ⟨b,m,e⟩ (vput v.length):=Pe.count_ok8 hv8
 have hvl:=vput_len10 (n:=v.length) (by omega)
 have hpl:=Pe.text_len ⟨b,m,e⟩ (vput v.length)
 have hpm:=Pe.text_m ⟨b,m,e⟩ (vput v.length)
 have hevl:(eprs v).length=(vput v.length).length+(v.map epair).flatten.length:=by unfold eprs;rw [List.length_append]
 have hpo:=Pe.text_ok (s:=vput v.length) ok (by simp only;omega)
 simp only at hpl hpm
 generalize hp:Pe.text ⟨b,m,e⟩ (vput v.length)=p at *
 focus (have kxs:=And.intro hc hcnt;have kk1:=uN [] (ref14_Check v hfv);have kk2:=uN [0] (ref06_PutCount b m e 8 ok (v.length:Nat) (by omega) (by omega));(repeat' (first|refine G ?_|refine AW.ret ?_|(refine GC ?_ ?_<;>intro h<;>(try simp only [hsB] at h)<;>try exact xf)|(refine GL ?_ ?_<;>intro h<;>(try simp only [hsN] at h)<;>(try simp only [h])<;>(try simp only [hsB] at h)<;>try exact xf)|fail));all_goals clear kxs kk1 kk2)
 all_goals first|(exfalso;simp_all;done)|skip
 refine AW.rounds [0,1,5] (fun j:Nat=>[(0,.p 0 0),(1,.d (.l v.length (prsD v))),(5,iv .i64 j)]) (fun j=>[Pe.ro (Pe.pairs p (v.take j))])
  (fun j=>j≤v.length) (fun j=>v.length-j) 0 (Nat.zero_le _) rfl rfl (fun _ _=>Nat.le_of_ble_eq_true rfl) (fun _ _=>rfl) (fun _ _=>rfl) ?_
 intro j hj J2 hJ2
 obtain ⟨hok2,hqm2,way⟩:=Pe.pairs_way hpo hpm hv8 hv32 hpl hl hj
 generalize hq2:Pe.pairs p (v.take j)=p2 at *
 by_cases hjl:j<v.length
 case neg=>
  have hj2:j=v.length:=by omega
  rw [hj2,List.take_length] at hq2
  rw [hvec,hq2]
  exact Wd1
 obtain ⟨x,r2,hd2⟩:=next_at hjl
 have hcd2:=prs_drop hd2
 have hn3:Pe.pairs p (v.take (j+1))=p2.pair x:=by rw [next_take hd2,Pe.pairs_snoc,hq2]
 obtain ⟨w1,hbo,hbm,w2⟩:=way x r2 hd2
 have hx:=hv32 x (next_mem hd2)
 generalize hp3:p2.blob 32 x.1=p3 at *
 have hp3':Pe.blob ⟨p2.b,p2.m,p2.e⟩ 32 x.1=p3:=hp3
 have hent:p2.pair x=p3.blob 32768 x.2:=by unfold Pe.pair;rw [hp3]
 focus (have kxs:=And.intro hcd2 hp3';have kk1:=uN [0] (ref06_Put p2.b x.1 p2.m p2.e 32 hok2 (by omega) (by omega));have kk2:=uN [0] (ref06_Put p3.b x.2 p3.m p3.e 32768 hbo (by omega) (by omega));(repeat' (first|refine G ?_|refine AW.ret ?_|(refine GC ?_ ?_<;>intro h<;>(try simp only [hsB] at h)<;>try exact xf)|(refine GL ?_ ?_<;>intro h<;>(try simp only [hsN] at h)<;>(try simp only [h])<;>(try simp only [hsB] at h)<;>try exact xf)|fail));all_goals clear kxs kk1 kk2)
 all_goals first
  | (refine hJ2 (j+1) _ _ (by omega) hjl rfl ?_;rw [hn3,hent];rfl)
  | (exfalso;simp_all;done)
end
theorem ref15_Check(x:Sb)(hx:x.fits):AC Tryz.prog 138 [sbV x] [] fun y σ=>y=iv .i64 x.check∧σ=[]:=by
 refine AC.wk Tryz.func138 ?_
 generalize hR:x.check=R
 have hR2:=sb_check hR
 clear hR
 focus (have kk1:=uN [] (ref12_Check x.clk hx.1);have kk2:=uN [] (ref14_Check x.meta_ hx.2.1);(repeat' (first|refine G ?_|refine AW.ret ?_|(refine GC ?_ ?_<;>intro h<;>(try simp only [hsB] at h)<;>try exact xf)|(refine GL ?_ ?_<;>intro h<;>(try simp only [hsN] at h)<;>(try simp only [h])<;>(try simp only [hsB] at h)<;>try exact xf)|fail));all_goals clear kk1 kk2)
 all_goals first
  | (rw [show R=x.clk.check from by rw [hR2,if_pos (by assumption)]];(first|exact RetQ.zr 0|exact RetQ.zn 0|fail))
  | (rw [show R=x.meta_.check from by rw [hR2,if_neg (by simp only [ne_eq,Decidable.not_not];assumption),if_pos (by assumption)]];(first|exact RetQ.zr 0|exact RetQ.zn 0|fail))
  | (rw [show R=3 from by rw [hR2,if_neg (by simp only [ne_eq,Decidable.not_not];assumption),if_neg (by simp only [ne_eq,Decidable.not_not];assumption),if_pos (by omega)]];(first|exact RetQ.zr 0|exact RetQ.zn 0|fail))
  | (rw [show R=0 from by rw [hR2,if_neg (by simp only [ne_eq,Decidable.not_not];assumption),if_neg (by simp only [ne_eq,Decidable.not_not];assumption),if_neg (by omega)]];(first|exact RetQ.zr 0|exact RetQ.zn 0|fail))
  | trace_state
theorem ref15_Great(k:Sb)(hk:k.fits):AC Tryz.prog 131 [sbV k] [] fun x σ=>x=bv k.great∧σ=[]:=by
 refine AC.wk Tryz.func131 ?_
 unfold Sb.great
 cases hg:k.clk.great<;>cases hg2:k.meta_.great
 all_goals
  (have kxs:=And.intro hg hg2;have kk1:=uN [] (ref12_Great k.clk hk.1);have kk2:=uN [] (ref14_Great k.meta_ hk.2.1);exact Wd0)
section
variable (b : List UInt8) (m e : Int)
theorem ref15_Put(ok:Pe.Ok ⟨b,m,e⟩)(x:Sb)(hfx:x.fits)(hl:m≤140737488355328∨b.length+(esib x).length+80≤140737488355328) :
  AC Tryz.prog 237 [.p 0 0,sbV x] [Pe.ro ⟨b,m,e⟩] fun y σ=>y=.t []∧σ=[Pe.ro (Pe.sib ⟨b,m,e⟩ x)]:=by
 refine AC.wk Tryz.func237 ?_
 by_cases hc:x.check=0
 case neg=>
  have hv:Pe.sib ⟨b,m,e⟩ x=Pe.fail ⟨b,m,e⟩ x.check:=by unfold Pe.sib;rw [if_pos hc]
  rw [hv]
  (have kk1:=uN [] (ref15_Check x hfx);have kua1:=fun za=>uN [0] (ref02_Fail b m e za);exact Wd1)
 obtain ⟨hcc,hcm,hcv⟩:=Sb.check_parts hc
 obtain ⟨p1,p2,p3,g1,g2,g3,g4,o1,o2,o3,b0,b1,b2,b3⟩:=Pe.sib_way hc ok hl
 have g2':Pe.prs ⟨p1.b,p1.m,p1.e⟩ x.meta_=p2:=g2
 have g3':Pe.flag ⟨p2.b,p2.m,p2.e⟩ x.dead=p3:=g3
 rw [g4]
 (have kxs:=And.intro hc (And.intro g1 (And.intro g2' g3'));have kk1:=uN [] (ref15_Check x hfx);have kk2:=uN [0] (ref13_Put ⟨b,m,e⟩ ok x.clk hfx.1 b0);have kk3:=uN [0] (ref14_Put p1.b p1.m p1.e o1 x.meta_ hfx.2.1 b1);have kk4:=uN [0] (ref06_PutFlag p2.b p2.m p2.e o2 x.dead b2);have kk5:=uN [0] (ref06_Put p3.b x.val p3.m p3.e 32768 o3 (by omega) b3);exact Wd1)
end
end Go.AW
