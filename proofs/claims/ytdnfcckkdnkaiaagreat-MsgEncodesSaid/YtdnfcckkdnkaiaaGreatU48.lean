/-
  Plain: bytes that are read from the left.
-/
import GoSem.Op.String
import Derived.Test.YtdnfcckkdnkaiaaGreatU32
import Derived.Test.YtdnfcckkdnkaiaaGreatU46
set_option linter.unusedVariables false
set_option linter.unusedSimpArgs false
set_option maxHeartbeats 4000000
set_option maxRecDepth 10000
namespace Go.AW
theorem flat_len{α β:Type}{f:α→List β}{sz:Nat}(hf:∀ x,(f x).length=sz):∀ (l:List α),((l.map f).flatten).length=l.length*sz
 | []=>by simp
 | x::l=>by
  simp only [List.map_cons,List.flatten_cons,List.length_append,List.length_cons,Nat.succ_mul]
  rw [hf x,flat_len hf l,Nat.add_comm]
end Go.AW
namespace Go.AW
theorem Sb.great_parts{x:Sb}(h:x.great=false):x.clk.great=false∧x.meta_.great=false∧x.val.length≤200:=by
 unfold Sb.great at h
 simp only [Bool.or_eq_false_iff,decide_eq_false_iff_not] at h
 exact ⟨h.1.1,h.1.2,by omega⟩
end Go.AW
namespace Go.AW
open Go Go.Proofs
attribute [local irreducible] thenQ blockQ RetQ AL AW AC AOp
theorem slices_EqualPr(v w:Prs)(hv:v.length≤9223372036854775807):AC Tryz.prog 144 [.d (.l v.length (prsD v)),.d (.l w.length (prsD w))] [] fun x σ=>x=bv (decide (v=w))∧σ=[]:=by
 refine AC.wk Tryz.func144 ?_
 by_cases hl:v.length=w.length
 case neg=>
  have hc:decide (v=w)=false:=by simp;rintro rfl;exact hl rfl
  focus (have kxs:=hc;(repeat' (first|(refine ADr.nil ?_;try clear hgv)|refine GO ?_|refine AW.ret ?_|(refine GC ?_ ?_<;>intro h<;>(try simp only [hsB] at h)<;>try exact xf)|(refine GD ?_ ?_<;>intro h<;>(try intro hgv)<;>(try simp only [hsN] at h)<;>(try simp only [h])<;>(try simp only [hsB] at h)<;>try exact xf)|(refine GL ?_ ?_<;>intro h<;>(try simp only [hsN] at h)<;>(try simp only [h])<;>(try simp only [hsB] at h)<;>try exact xf)|fail));all_goals clear kxs)
  all_goals first|(exfalso;omega)|((all_goals have kxf:=hc;first|exact RetQ.xr 0|exact RetQ.xn 0|fail);done)
 focus ((repeat' (first|(refine ADr.nil ?_;try clear hgv)|refine GO ?_|refine AW.ret ?_|(refine GC ?_ ?_<;>intro h<;>(try simp only [hsB] at h)<;>try exact xf)|(refine GD ?_ ?_<;>intro h<;>(try intro hgv)<;>(try simp only [hsN] at h)<;>(try simp only [h])<;>(try simp only [hsB] at h)<;>try exact xf)|(refine GL ?_ ?_<;>intro h<;>(try simp only [hsN] at h)<;>(try simp only [h])<;>(try simp only [hsB] at h)<;>try exact xf)|fail)))
 refine AW.rounds [0,1,4,12,13] (fun i:Nat=>[(0,.d (.l v.length (prsD v))),(1,.d (.l w.length (prsD w))),(4,bv false),(12,iv .i64 v.length),(13,iv .i64 i)]) (fun _=>[])
  (fun i=>i≤v.length∧(v=w↔v.drop i=w.drop i)) (fun i=>v.length-i) 0 ⟨Nat.zero_le _,by simp⟩ rfl rfl (fun _ _=>Nat.zero_le _) (fun _ _=>rfl) (fun _ _=>rfl) ?_
 rintro i ⟨hi,hr⟩ J hJ
 by_cases hil:i<v.length
 ·obtain ⟨x,r,hd⟩:=next_at hil
  obtain ⟨y,s,he⟩:=next_at (l:=w) (i:=i) (by omega)
  have hcd:=prs_drop hd
  have hce:=prs_drop he
  focus (have kxs:=And.intro hcd hce;(repeat' (first|(refine ADr.nil ?_;try clear hgv)|refine GO ?_|refine AW.ret ?_|(refine GC ?_ ?_<;>intro h<;>(try simp only [hsB] at h)<;>try exact xf)|(refine GD ?_ ?_<;>intro h<;>(try intro hgv)<;>(try simp only [hsN] at h)<;>(try simp only [h])<;>(try simp only [hsB] at h)<;>try exact xf)|(refine GL ?_ ?_<;>intro h<;>(try simp only [hsN] at h)<;>(try simp only [h])<;>(try simp only [hsB] at h)<;>try exact xf)|fail));all_goals clear kxs)
  ·have hn:¬ v=w:=by
     rw [hr,hd,he]
     intro e
     obtain ⟨rfl,_⟩:=List.cons.inj e
     simp at h
   have hc:decide (v=w)=false:=by simp [hn]
   rw [hc]
   (all_goals first|exact RetQ.fr 0|exact RetQ.fn 0|fail)
  ·refine hJ (i+1) _ _ (by omega) ⟨hil,?_⟩ rfl rfl
   have hxy:x=y:=Prod.ext h.1 h.2
   rw [hr,next_drop hd,next_drop he,hd,he,hxy]
   simp
 ·focus ((repeat' (first|(refine ADr.nil ?_;try clear hgv)|refine GO ?_|refine AW.ret ?_|(refine GC ?_ ?_<;>intro h<;>(try simp only [hsB] at h)<;>try exact xf)|(refine GD ?_ ?_<;>intro h<;>(try intro hgv)<;>(try simp only [hsN] at h)<;>(try simp only [h])<;>(try simp only [hsB] at h)<;>try exact xf)|(refine GL ?_ ?_<;>intro h<;>(try simp only [hsN] at h)<;>(try simp only [h])<;>(try simp only [hsB] at h)<;>try exact xf)|fail)))
  have hc:decide (v=w)=true:=by
   simp only [decide_eq_true_eq]
   rw [hr,List.drop_eq_nil_of_le (by omega),List.drop_eq_nil_of_le (by omega)]
  rw [hc]
  (all_goals first|exact RetQ.fr 0|exact RetQ.fn 0|fail)
theorem pairs_Same(v w:Prs)(hv:v.length≤9223372036854775807):AC Tryz.prog 89 [.d (.l v.length (prsD v)),.d (.l w.length (prsD w))] [] fun x σ=>x=bv (decide (v=w))∧σ=[]:=by
 refine AC.wk Tryz.func89 ?_
 focus (have kk1:=uN [] (slices_EqualPr v w hv);(repeat' (first|refine G ?_|refine AW.ret ?_|(refine GC ?_ ?_<;>intro h<;>(try simp only [hsB] at h)<;>try exact xf)|(refine GL ?_ ?_<;>intro h<;>(try simp only [hsN] at h)<;>(try simp only [h])<;>(try simp only [hsB] at h)<;>try exact xf)|fail));all_goals clear kk1)
 (all_goals first|exact RetQ.fr 0|exact RetQ.fn 0|fail)
theorem dotted_Same(k o:Ck)(hk:k.ctx.length≤9223372036854775807):AC Tryz.prog 140 [ckV k,ckV o] [] fun x σ=>x=bv (decide (k=o))∧σ=[]:=by
 refine AC.wk Tryz.func140 ?_
 have hR:decide (k=o)=(decide (k.ctx=o.ctx)&&(decide (k.dotted=o.dotted)&&(decide (k.dot.1=o.dot.1)&&(decide ((k.dot.2:Int)=o.dot.2)&&true)))):=by
  rw [Bool.eq_iff_iff,decide_eq_true_eq];exact (ck_eq k o).symm
 rw [hR]
 clear hR
 rcases Bool.eq_false_or_eq_true (decide (k.ctx=o.ctx)) with e1|e1<;>rcases Bool.eq_false_or_eq_true (decide (k.dotted=o.dotted)) with e2|e2
 all_goals
  rw [e1,e2]
  (have kxs:=And.intro e1 e2;have kk1:=uN [] (slices_EqualEn k.ctx o.ctx hk);exact Wd0)
theorem sibling_Same(k o:Sb)(hk:k.clk.ctx.length≤9223372036854775807)(hm:k.meta_.length≤9223372036854775807):AC Tryz.prog 86 [sbV k,sbV o] [] fun x σ=>x=bv (decide (k=o))∧σ=[]:=by
 refine AC.wk Tryz.func86 ?_
 rw [sb_dec]
 rcases Bool.eq_false_or_eq_true (decide (k.clk=o.clk)) with e1|e1<;>rcases Bool.eq_false_or_eq_true (decide (k.meta_=o.meta_)) with e2|e2<;>rcases Bool.eq_false_or_eq_true (decide (k.dead=o.dead)) with e3|e3
 all_goals
  rw [e1,e2,e3]
  (have kxs:=And.intro e1 (And.intro e2 e3);have kk1:=uN [] (dotted_Same k.clk o.clk hk);have kk2:=uN [] (pairs_Same k.meta_ o.meta_ hm);exact Wd0)
end Go.AW
namespace Go.AW
theorem pl_kind(v:Nat)(m:Mg):(m.pl v).kind=m.kind:=by unfold Mg.pl;split<;>first|(rename_i h;rw [h])|rfl
theorem pl_id(v:Nat)(m:Mg):(m.pl v).id=m.id:=by unfold Mg.pl;split<;>rfl
theorem pl_all{v:Nat}{m:Mg}(hh:has v m.kind=true):(m.pl v).pl v=m.pl v∧(m.pl v).chk v=m.chk v∧ebodym v (m.pl v)=ebodym v m∧∀ p,Pe.mbody v p (m.pl v)=Pe.mbody v p m:=by
 obtain ⟨kind,id,key,found,obj,old,ctx,meta_,dead,val,pre,page,ring,code,txt⟩:=m
 simp only at hh
 rcases has_cases hh with ⟨rfl,rfl|rfl|rfl⟩|⟨rfl,rfl|rfl|rfl|rfl|rfl|rfl|rfl|rfl|rfl⟩
 all_goals first
  | (simp [Mg.pl,Mg.chk,ebodym,Pe.mbody];done)
  | (cases found<;>(simp [Mg.pl,Mg.chk,ebodym,Pe.mbody];done))
theorem encm_pl{v:Nat}{m:Mg}(hh:has v m.kind=true):encm v (m.pl v)=encm v m:=by
 unfold encm;rw [pl_id,(pl_all hh).2.2.1]
theorem check_has{v:Nat}{m:Mg}(h:m.check v=0):has v m.kind=true∧m.chk v=0:=by
 unfold Mg.check at h
 split at h
 ·exact absurd h (by decide)
 split at h
 ·exact absurd h (by decide)
 rename_i h2
 exact ⟨by simpa using h2,h⟩
theorem plain_has{v:Nat}{m:Mg}(h:has v m.kind=true):m.plain v=m.pl v:=by unfold Mg.plain;rw [if_neg (by simp [h])]
theorem msge_yes{v:Nat}{m:Mg}(h:(msge v m).2=0):has v m.kind=true∧m.chk v=0∧msge v m=(encm v m,0)∧okl v m∧(encm v m).length≤65536:=by
 unfold msge at h ⊢
 by_cases hc:m.check v=0
 case neg=>rw [if_pos hc] at h;exact absurd h hc
 rw [if_neg (by simpa using hc)] at h ⊢
 obtain ⟨hh,hk⟩:=check_has hc
 obtain ⟨g1,_,g3⟩:=body_pens hh
 have g3:=g3 (Pe.text ⟨[],65536,0⟩ (vput m.id))
 unfold Pe.fin at h ⊢
 by_cases hz:(Pe.mbody v (Pe.text ⟨[],65536,0⟩ (vput m.id)) m).e=0
 case neg=>rw [if_pos hz] at h;exact absurd h hz
 rw [if_neg (by simpa using hz)]
 obtain ⟨k1,k2,k3⟩:=g1 _ hz
 obtain ⟨_,k4,_⟩:=pens_text.yes _ _ k1
 have k5:(Pe.text ⟨[],65536,0⟩ (vput m.id)).b=vput m.id:=by simpa using k4
 have k6:(Pe.text ⟨[],65536,0⟩ (vput m.id)).m=65536:=Pe.text_m _ _
 rw [k5] at k2 g3
 rw [k6] at g3
 have k7:=pens_text.cap ⟨[],65536,0⟩ (vput m.id)
 rw [k5] at k7
 simp only [List.length_nil] at k7
 rw [k2] at g3 ⊢
 have e:vput m.id++ebodym v m=encm v m:=rfl
 rw [e] at g3 ⊢
 exact ⟨hh,hk,rfl,k3,by omega⟩
theorem pl_nums{v:Nat}{m:Mg}(hh:has v m.kind=true)(hn:m.nums):(m.pl v).nums:=by
 obtain ⟨kind,id,key,found,obj,old,ctx,meta_,dead,val,pre,page,ring,code,txt⟩:=m
 obtain ⟨n1,n2,n3,n4,n5⟩:=hn
 simp only at hh n1 n2 n3 n4 n5
 rcases has_cases hh with ⟨rfl,rfl|rfl|rfl⟩|⟨rfl,rfl|rfl|rfl|rfl|rfl|rfl|rfl|rfl|rfl⟩
 all_goals first
  | exact ⟨no_mem,no_mem,no_mem,no_mem,no_mem⟩
  | exact ⟨n1,no_mem,no_mem,no_mem,no_mem⟩
  | exact ⟨no_mem,n2,no_mem,no_mem,no_mem⟩
  | exact ⟨no_mem,no_mem,no_mem,n4,no_mem⟩
  | exact ⟨no_mem,no_mem,no_mem,no_mem,n5⟩
  | (cases found<;>first|exact ⟨no_mem,no_mem,no_mem,no_mem,no_mem⟩|exact ⟨no_mem,no_mem,n3,no_mem,no_mem⟩|exact ⟨no_mem,n2,no_mem,no_mem,no_mem⟩)
theorem plain_good{v:Nat}{m:Mg}(hh:has v m.kind=true)(hk:m.chk v=0)(hn:m.nums)(hl:okl v m):goodm v m.kind (m.pl v):=by
 obtain ⟨h1,h2,_,_⟩:=pl_all hh
 exact ⟨pl_kind v m,h1,by rw [h2];exact hk,pl_nums hh hn,hl.1,hl.2⟩
theorem msgw_fore{v:Nat}{m:Mg}(hi:m.id<18446744073709551616)(hn:m.nums)(h:(msge v m).2=0):msgw v m.kind (msge v m).1=(m.plain v,0):=by
 obtain ⟨hh,hk,he,hl,_⟩:=msge_yes h
 rw [he,msgw_has hh,plain_has hh]
 show rdw _ _ (encm v m)=_
 rw [←encm_pl hh]
 exact rdw_fore (trip_msg hh) ⟨by rw [pl_id];exact hi,plain_good hh hk hn hl⟩
end Go.AW
namespace Go.AW
open Go Go.Proofs
attribute [local irreducible] thenQ blockQ RetQ AL AW AC AOp
theorem slices_Equal64(v w:List Nat)(hv:v.length≤9223372036854775807):AC Tryz.prog 149 [.d (.l v.length (toksD v)),.d (.l w.length (toksD w))] [] fun x σ=>x=bv (decide (v=w))∧σ=[]:=by
 refine AC.wk Tryz.func149 ?_
 by_cases hl:v.length=w.length
 case neg=>
  have hc:decide (v=w)=false:=by simp;rintro rfl;exact hl rfl
  focus (have kxs:=hc;(repeat' (first|(refine ADr.nil ?_;try clear hgv)|refine GO ?_|refine AW.ret ?_|(refine GC ?_ ?_<;>intro h<;>(try simp only [hsB] at h)<;>try exact xf)|(refine GD ?_ ?_<;>intro h<;>(try intro hgv)<;>(try simp only [hsN] at h)<;>(try simp only [h])<;>(try simp only [hsB] at h)<;>try exact xf)|(refine GL ?_ ?_<;>intro h<;>(try simp only [hsN] at h)<;>(try simp only [h])<;>(try simp only [hsB] at h)<;>try exact xf)|fail));all_goals clear kxs)
  all_goals first|(exfalso;omega)|((all_goals have kxf:=hc;first|exact RetQ.xr 0|exact RetQ.xn 0|fail);done)
 focus ((repeat' (first|(refine ADr.nil ?_;try clear hgv)|refine GO ?_|refine AW.ret ?_|(refine GC ?_ ?_<;>intro h<;>(try simp only [hsB] at h)<;>try exact xf)|(refine GD ?_ ?_<;>intro h<;>(try intro hgv)<;>(try simp only [hsN] at h)<;>(try simp only [h])<;>(try simp only [hsB] at h)<;>try exact xf)|(refine GL ?_ ?_<;>intro h<;>(try simp only [hsN] at h)<;>(try simp only [h])<;>(try simp only [hsB] at h)<;>try exact xf)|fail)))
 all_goals first|exact xg|skip
 refine AW.rounds [0,1,4,12,13] (fun i:Nat=>[(0,.d (.l v.length (toksD v))),(1,.d (.l w.length (toksD w))),(4,bv false),(12,iv .i64 v.length),(13,iv .i64 i)]) (fun _=>[])
  (fun i=>i≤v.length∧(v=w↔v.drop i=w.drop i)) (fun i=>v.length-i) 0 ⟨Nat.zero_le _,by simp⟩ rfl rfl (fun _ _=>Nat.zero_le _) (fun _ _=>rfl) (fun _ _=>rfl) ?_
 rintro i ⟨hi,hr⟩ J hJ
 by_cases hil:i<v.length
 ·obtain ⟨x,r,hd⟩:=next_at hil
  obtain ⟨y,s,he⟩:=next_at (l:=w) (i:=i) (by omega)
  have hcd:=toks_drop hd
  have hce:=toks_drop he
  by_cases hxy:x=y
  ·have hJ2:v=w↔v.drop (i+1)=w.drop (i+1):=by
     rw [hr,next_drop hd,next_drop he,hd,he,hxy];simp
   subst hxy
   focus (have kxs:=And.intro hcd (And.intro hce @Nat.mul_one);(repeat' (first|(refine ADr.nil ?_;try clear hgv)|refine GO ?_|refine AW.ret ?_|(refine GC ?_ ?_<;>intro h<;>(try simp only [hsB] at h)<;>try exact xf)|(refine GD ?_ ?_<;>intro h<;>(try intro hgv)<;>(try simp only [hsN] at h)<;>(try simp only [h])<;>(try simp only [hsB] at h)<;>try exact xf)|(refine GL ?_ ?_<;>intro h<;>(try simp only [hsN] at h)<;>(try simp only [h])<;>(try simp only [hsB] at h)<;>try exact xf)|fail));all_goals clear kxs)
   all_goals first|(exact hJ (i+1) _ _ (by omega) ⟨hil,hJ2⟩ rfl rfl)|(exfalso;simp_all;done)
  ·have hn:¬ v=w:=by
     rw [hr,hd,he]
     intro e
     exact hxy (List.cons.inj e).1
   have hc:decide (v=w)=false:=by simp [hn]
   rw [hc]
   have hxi:¬ (x:Int)=y:=by omega
   (have kxs:=And.intro hcd (And.intro hce @Nat.mul_one);exact We0)
 ·have hc:decide (v=w)=true:=by
    simp only [decide_eq_true_eq]
    rw [hr,List.drop_eq_nil_of_le (by omega),List.drop_eq_nil_of_le (by omega)]
  rw [hc]
  exact We0
theorem ring_Same1(x y:Mb)(hx:x.toks.length≤9223372036854775807):AC Tryz.prog 148 [mbV x,mbV y] [] fun z σ=>z=bv (decide (x=y))∧σ=[]:=by
 refine AC.wk Tryz.func148 ?_
 have heq:=slices_Equal64 x.toks y.toks hx
 rw [mb_dec]
 generalize decide (x.toks=y.toks)=b4 at *
 by_cases e1:x.name=y.name
 case neg=>
  have d1:decide (x.name=y.name)=false:=decide_eq_false e1
  rw [d1]
  (have kxs:=d1;have kk1:=uN [] heq;exact Wd0)
 have d1:decide (x.name=y.name)=true:=decide_eq_true e1
 by_cases e2:(x.ep:Int)=y.ep
 case neg=>
  have d2:decide ((x.ep:Int)=y.ep)=false:=decide_eq_false e2
  rw [d1,d2]
  (have kxs:=And.intro d1 d2;have kk1:=uN [] heq;exact Wd0)
 have d2:decide ((x.ep:Int)=y.ep)=true:=decide_eq_true e2
 by_cases e3:(x.st:Int)=y.st
 case neg=>
  have d3:decide ((x.st:Int)=y.st)=false:=decide_eq_false e3
  rw [d1,d2,d3]
  (have kxs:=And.intro d1 (And.intro d2 d3);have kk1:=uN [] heq;exact Wd0)
 have d3:decide ((x.st:Int)=y.st)=true:=decide_eq_true e3
 rw [d1,d2,d3]
 (have kxs:=And.intro d1 (And.intro d2 d3);have kk1:=uN [] heq;exact Wd0)
theorem slices_EqualFuncMb(v w:Ring)(hv:v.length≤9223372036854775807)(hf:∀ x ∈ v,x.toks.length≤9223372036854775807):AC Tryz.prog 147 [.d (.l v.length (ringD v)),.d (.l w.length (ringD w)),.f (.func 148) [] []] [] fun x σ=>x=bv (decide (v=w))∧σ=[]:=by
 refine AC.wk Tryz.func147 ?_
 by_cases hl:v.length=w.length
 case neg=>
  have hc:decide (v=w)=false:=by simp;rintro rfl;exact hl rfl
  focus (have kxs:=hc;(repeat' (first|refine G ?_|refine AW.ret ?_|(refine GC ?_ ?_<;>intro h<;>(try simp only [hsB] at h)<;>try exact xf)|(refine GL ?_ ?_<;>intro h<;>(try simp only [hsN] at h)<;>(try simp only [h])<;>(try simp only [hsB] at h)<;>try exact xf)|fail));all_goals clear kxs)
  all_goals first|(exfalso;omega)|((all_goals have kxf:=hc;first|exact RetQ.xr 0|exact RetQ.xn 0|fail);done)
 focus ((repeat' (first|refine G ?_|refine AW.ret ?_|(refine GC ?_ ?_<;>intro h<;>(try simp only [hsB] at h)<;>try exact xf)|(refine GL ?_ ?_<;>intro h<;>(try simp only [hsN] at h)<;>(try simp only [h])<;>(try simp only [hsB] at h)<;>try exact xf)|fail)))
 all_goals first|(exfalso;omega)|skip
 refine AW.rounds [1,2,6,15,16,17] (fun i:Nat=>[(1,.d (.l w.length (ringD w))),(2,.f (.func 148) [] []),(6,bv false),(15,.d (.l v.length (ringD v))),(16,iv .i64 v.length),(17,iv .i64 i)]) (fun _=>[])
  (fun i=>i≤v.length∧(v=w↔v.drop i=w.drop i)) (fun i=>v.length-i) 0 ⟨Nat.zero_le _,by simp⟩ rfl rfl (fun _ _=>Nat.zero_le _) (fun _ _=>rfl) (fun _ _=>rfl) ?_
 rintro i ⟨hi,hr⟩ J hJ
 by_cases hil:i<v.length
 ·obtain ⟨x,r,hd⟩:=next_at hil
  obtain ⟨y,s,he⟩:=next_at (l:=w) (i:=i) (by omega)
  have hcd:=ring_drop hd
  have hce:=ring_drop he
  have hfx:=hf x (next_mem hd)
  have h1:=ring_Same1 x y hfx
  by_cases hxy:x=y
  ·have hJ2:v=w↔v.drop (i+1)=w.drop (i+1):=by
     rw [hr,next_drop hd,next_drop he,hd,he,hxy];simp
   rw [decide_eq_true hxy] at h1
   focus (have kxs:=And.intro hcd hce;have kk1:=uN [] h1;(repeat' (first|refine G ?_|refine AW.ret ?_|(refine GC ?_ ?_<;>intro h<;>(try simp only [hsB] at h)<;>try exact xf)|(refine GL ?_ ?_<;>intro h<;>(try simp only [hsN] at h)<;>(try simp only [h])<;>(try simp only [hsB] at h)<;>try exact xf)|fail));all_goals clear kxs kk1)
   all_goals first|(exact hJ (i+1) _ _ (by omega) ⟨hil,hJ2⟩ rfl rfl)|(exfalso;simp_all;done)
  ·have hc:decide (v=w)=false:=by
     simp only [decide_eq_false_iff_not]
     rw [hr,hd,he]
     intro e
     exact hxy (List.cons.inj e).1
   rw [hc]
   rw [decide_eq_false hxy] at h1
   (have kxs:=And.intro hcd hce;have kk1:=uN [] h1;exact Wd0)
 ·have hc:decide (v=w)=true:=by
    simp only [decide_eq_true_eq]
    rw [hr,List.drop_eq_nil_of_le (by omega),List.drop_eq_nil_of_le (by omega)]
  rw [hc]
  exact Wd0
theorem ring_Same(v w:Ring)(hv:v.length≤9223372036854775807)(hf:∀ x ∈ v,x.toks.length≤9223372036854775807):AC Tryz.prog 91 [.d (.l v.length (ringD v)),.d (.l w.length (ringD w))] [] fun x σ=>x=bv (decide (v=w))∧σ=[]:=by
 refine AC.wk Tryz.func91 ?_
 (have kk1:=uN [] (slices_EqualFuncMb v w hv hf);exact Wd0)
theorem legacy_same(k o:Os1)(hk:k.clk.length≤9223372036854775807):AC Tryz.prog 142 [osV k,osV o] [] fun x σ=>x=bv (decide (k=o))∧σ=[]:=by
 refine AC.wk Tryz.func142 ?_
 rw [os_dec]
 rcases Bool.eq_false_or_eq_true (decide (k.clk=o.clk)) with e1|e1<;>rcases Bool.eq_false_or_eq_true (decide (k.dead=o.dead)) with e2|e2
 all_goals
  rw [e1,e2]
  (have kxs:=And.intro e1 e2;have kk1:=uN [] (vector_Same k.clk o.clk hk);exact Wd0)
theorem slices_EqualFuncOs(v w:List Os1)(hv:v.length≤9223372036854775807)(hf:∀ x ∈ v,x.fits):AC Tryz.prog 141 [.d (.l v.length (ossD v)),.d (.l w.length (ossD w)),.f (.func 142) [] []] [] fun x σ=>x=bv (decide (v=w))∧σ=[]:=by
 refine AC.wk Tryz.func141 ?_
 by_cases hl:v.length=w.length
 case neg=>
  have hc:decide (v=w)=false:=by simp;rintro rfl;exact hl rfl
  focus (have kxs:=hc;(repeat' (first|refine G ?_|refine AW.ret ?_|(refine GC ?_ ?_<;>intro h<;>(try simp only [hsB] at h)<;>try exact xf)|(refine GL ?_ ?_<;>intro h<;>(try simp only [hsN] at h)<;>(try simp only [h])<;>(try simp only [hsB] at h)<;>try exact xf)|fail));all_goals clear kxs)
  all_goals first|(exfalso;omega)|((all_goals have kxf:=hc;first|exact RetQ.xr 0|exact RetQ.xn 0|fail);done)
 focus ((repeat' (first|refine G ?_|refine AW.ret ?_|(refine GC ?_ ?_<;>intro h<;>(try simp only [hsB] at h)<;>try exact xf)|(refine GL ?_ ?_<;>intro h<;>(try simp only [hsN] at h)<;>(try simp only [h])<;>(try simp only [hsB] at h)<;>try exact xf)|fail)))
 all_goals first|(exfalso;omega)|skip
 refine AW.rounds [1,2,6,15,16,17] (fun i:Nat=>[(1,.d (.l w.length (ossD w))),(2,.f (.func 142) [] []),(6,bv false),(15,.d (.l v.length (ossD v))),(16,iv .i64 v.length),(17,iv .i64 i)]) (fun _=>[])
  (fun i=>i≤v.length∧(v=w↔v.drop i=w.drop i)) (fun i=>v.length-i) 0 ⟨Nat.zero_le _,by simp⟩ rfl rfl (fun _ _=>Nat.zero_le _) (fun _ _=>rfl) (fun _ _=>rfl) ?_
 rintro i ⟨hi,hr⟩ J hJ
 by_cases hil:i<v.length
 ·obtain ⟨x,r,hd⟩:=next_at hil
  obtain ⟨y,s,he⟩:=next_at (l:=w) (i:=i) (by omega)
  have hcd:=oss_drop hd
  have hce:=oss_drop he
  have hfx:=hf x (next_mem hd)
  by_cases hxy:x=y
  ·have hd1:decide (x=y)=true:=decide_eq_true hxy
   have hJ2:v=w↔v.drop (i+1)=w.drop (i+1):=by
    rw [hr,next_drop hd,next_drop he,hd,he,hxy];simp
   focus (have kxs:=And.intro hcd (And.intro hce hd1);have kk1:=uN [] (legacy_same x y hfx.1.1);(repeat' (first|refine G ?_|refine AW.ret ?_|(refine GC ?_ ?_<;>intro h<;>(try simp only [hsB] at h)<;>try exact xf)|(refine GL ?_ ?_<;>intro h<;>(try simp only [hsN] at h)<;>(try simp only [h])<;>(try simp only [hsB] at h)<;>try exact xf)|fail));all_goals clear kxs kk1)
   all_goals first|(exact hJ (i+1) _ _ (by omega) ⟨hil,hJ2⟩ rfl rfl)|(exfalso;simp_all;done)
  ·have hd1:decide (x=y)=false:=decide_eq_false hxy
   have hc:decide (v=w)=false:=by
    simp only [decide_eq_false_iff_not]
    rw [hr,hd,he]
    intro e
    exact hxy (List.cons.inj e).1
   rw [hc]
   (have kxs:=And.intro hcd (And.intro hce hd1);have kk1:=uN [] (legacy_same x y hfx.1.1);exact Wd0)
 ·have hc:decide (v=w)=true:=by
    simp only [decide_eq_true_eq]
    rw [hr,List.drop_eq_nil_of_le (by omega),List.drop_eq_nil_of_le (by omega)]
  rw [hc]
  exact Wd0
theorem legacy_Same(k o:Od)(hk:k.fits):AC Tryz.prog 87 [odV k,odV o] [] fun x σ=>x=bv (decide (k=o))∧σ=[]:=by
 refine AC.wk Tryz.func87 ?_
 rw [od_dec]
 rcases Bool.eq_false_or_eq_true (decide (k.key=o.key)) with e1|e1
 all_goals
  rw [e1]
  (have kxs:=e1;have kk1:=uN [] (slices_EqualFuncOs k.sibs o.sibs hk.2.1 hk.2.2);exact Wd0)
theorem Mg.nums_of{m:Mg}(h:m.fits):m.nums:=by
 obtain ⟨_,_,_,f1,f2,f3,_,_,_,f5,f6,_,_⟩:=h
 exact ⟨f3.2.2,fun x hx=>⟨(f1.2.2 x hx).1.1.2.2,(f1.2.2 x hx).1.2.2⟩,fun x hx=>(f2.2.2 x hx).1.2.2,fun x hx=>(f6.2 x hx).1,fun x hx=>(f5.2.1.2 x hx).1⟩
theorem onesD_append:∀ (l m:List D),onesD l=true→onesD m=true→onesD (l++m)=true
 | [],m,_,h=>h
 | x::l,m,h,h2=>by
  simp only [onesD,Bool.and_eq_true,List.cons_append] at h ⊢
  exact ⟨h.1,onesD_append l m h.2 h2⟩
theorem onesD_flat{α:Type}(f:α→List D)(h:∀ x,onesD (f x)=true):∀ l:List α,onesD ((l.map f).flatten)=true
 | []=>rfl
 | x::l=>by
  rw [List.map_cons,List.flatten_cons]
  exact onesD_append _ _ (h x) (onesD_flat f h l)
theorem clone_En(v:Vec)(hv:v.length≤1000000):AC Tryz.prog 192 [.d (.l v.length (vecD v))] [] fun x σ=>x=.d (.l v.length (vecD v))∧σ=[]:=by
 refine AC.wk Tryz.func192 ?_
 have hol:(vecD v).length=v.length*2:=flat_len (f:=enD) (sz:=2) (fun _=>rfl) v
 have hon:onesD (vecD v)=true:=onesD_flat enD (fun _=>rfl) v
 focus ((repeat' (first|refine G ?_|refine AW.ret ?_|(refine GC ?_ ?_<;>intro h<;>(try simp only [hsB] at h)<;>try exact xf)|(refine GL ?_ ?_<;>intro h<;>(try simp only [hsN] at h)<;>(try simp only [h])<;>(try simp only [hsB] at h)<;>try exact xf)|fail)))
 refine AL.one (by decide) fun Kr hr=>?_
 (try simp only [ao,List.map_cons,List.map_nil]);simp (disch:=omega) only [go_sem]
 intro b hb
 refine hr _ _ ?_
 clear hr Kr
 cases b with
 | true=>
  have h0:v=[]:=List.length_eq_zero_iff.1 (hb rfl)
  subst h0
  exact Wd0
 | false=>
  (have kxs:=hon;exact Wd0)
theorem clone_Pr(v:Prs)(hv:v.length≤1000000):AC Tryz.prog 218 [.d (.l v.length (prsD v))] [] fun x σ=>x=.d (.l v.length (prsD v))∧σ=[]:=by
 refine AC.wk Tryz.func218 ?_
 have hol:(prsD v).length=v.length*2:=flat_len (f:=prD) (sz:=2) (fun _=>rfl) v
 have hon:onesD (prsD v)=true:=onesD_flat prD (fun _=>rfl) v
 focus ((repeat' (first|refine G ?_|refine AW.ret ?_|(refine GC ?_ ?_<;>intro h<;>(try simp only [hsB] at h)<;>try exact xf)|(refine GL ?_ ?_<;>intro h<;>(try simp only [hsN] at h)<;>(try simp only [h])<;>(try simp only [hsB] at h)<;>try exact xf)|fail)))
 refine AL.one (by decide) fun Kr hr=>?_
 (try simp only [ao,List.map_cons,List.map_nil]);simp (disch:=omega) only [go_sem]
 intro b hb
 refine hr _ _ ?_
 clear hr Kr
 cases b with
 | true=>
  have h0:v=[]:=List.length_eq_zero_iff.1 (hb rfl)
  subst h0
  exact Wd0
 | false=>
  (have kxs:=hon;exact Wd0)
theorem sibling_Copy(x:Sb)(h1:x.clk.ctx.length≤1000000)(h2:x.meta_.length≤1000000):AC Tryz.prog 257 [sbV x] [] fun y σ=>y=sbV x∧σ=[]:=by
 refine AC.wk Tryz.func257 ?_
 (have kk1:=uN [] (clone_En x.clk.ctx h1);have kk2:=uN [] (clone_Pr x.meta_ h2);exact Wd0)
def part(l:List Sb)(i:Nat):List Sb:=((l.take i).foldl (fun acc x=>insR slt x acc) []).reverse++l.drop i
end Go.AW
namespace Go.AW
def Mb.rest(x:Mb):List UInt8:=estt x.st++etoks x.toks
def mless(x y:Mb):Bool:=decide (x.ep<y.ep)||(decide (x.ep=y.ep)&&lessB x.rest y.rest)
def counts(x y:Mb):Mb:=if mless y x then x else y
def Mb.okr(x:Mb):Prop:=x.st≤3∧gtoks x.toks
def joinm:Ring→Ring→Ring
 | [],b=>b
 | x::a,[]=>x::a
 | x::a,y::b=>if lessB x.name y.name then x::joinm a (y::b) else if lessB y.name x.name then y::joinm (x::a) b else counts x y::joinm a b
termination_by a b=>a.length+b.length
decreasing_by all_goals (simp only [List.length_cons];omega)
abbrev Up(l:Ring):Prop:=l.Pairwise (fun x y=>lessB x.name y.name=true)
def findm(n:List UInt8):Ring→Option Mb
 | []=>none
 | x::r=>if x.name=n then some x else findm n r
def oj:Option Mb→Option Mb→Option Mb
 | none,q=>q
 | some x,none=>some x
 | some x,some y=>some (counts x y)
def Mb.fine(x:Mb):Prop:=x.name.length≤32∧x.name≠[]∧x.ep≠0∧x.st≤3∧x.toks.length≤16∧rises none x.toks=true
def ringj(a b:Ring):Ring × Int:=if Ring.check a≠0∨Ring.check b≠0 then ([],1) else if 32<(joinm a b).length then ([],3) else (joinm a b,0)
end Go.AW
namespace Go.AW
open Go Go.Proofs
attribute [local irreducible] thenQ blockQ RetQ AL AW AC AOp
theorem toks_ones(l:List Nat):onesD (toksD l)=true:=by
 induction l with
 | nil=>rfl
 | cons t l ih=>
  show (D.one _&&onesD (toksD l))=true
  rw [ih];rfl
theorem clone_64(v:List Nat)(hv:v.length≤1000000):AC Tryz.prog 234 [.d (.l v.length (toksD v))] [] fun x σ=>x=.d (.l v.length (toksD v))∧σ=[]:=by
 refine AC.wk Tryz.func234 ?_
 have hol:(toksD v).length=v.length:=List.length_map _
 have hon:onesD (toksD v)=true:=toks_ones v
 focus ((repeat' (first|refine G ?_|refine AW.ret ?_|(refine GC ?_ ?_<;>intro h<;>(try simp only [hsB] at h)<;>try exact xf)|(refine GL ?_ ?_<;>intro h<;>(try simp only [hsN] at h)<;>(try simp only [h])<;>(try simp only [hsB] at h)<;>try exact xf)|fail)))
 refine AL.one (by decide) fun Kr hr=>?_
 (try simp only [ao,List.map_cons,List.map_nil]);simp (disch:=omega) only [go_sem]
 intro b hb
 refine hr _ _ ?_
 clear hr Kr
 cases b with
 | true=>
  have h0:v=[]:=List.length_eq_zero_iff.1 (hb rfl)
  subst h0
  exact Wd0
 | false=>
  (have kxs:=hon;exact Wd0)
theorem Sb.small{x:Sb}(h:x.check=0):x.clk.ctx.length≤64∧x.meta_.length≤8:=by
 obtain ⟨h1,h2,h3⟩:=Sb.check_parts h
 exact ⟨(Vec.check_len (Ck.check_parts h1).1).1,(Prs.check_len h2).1⟩
end Go.AW
