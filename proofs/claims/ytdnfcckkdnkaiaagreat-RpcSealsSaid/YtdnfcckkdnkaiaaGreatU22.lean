/-
  metadata: what is right, the same, too great: the program's and the document's.
-/
import Derived.Test.YtdnfcckkdnkaiaaGreatU21
set_option linter.unusedVariables false
set_option linter.unusedSimpArgs false
set_option maxHeartbeats 4000000
set_option maxRecDepth 10000
namespace Go.AW
open Go Go.Proofs
attribute [local irreducible] thenQ blockQ RetQ AL AW AC AOp
theorem pcheck_step{p:List UInt8}{x:Pr}{r:Prs}{R:Int}(h:pcheck p (x::r)=R):R=if 32<x.1.length then 3 else if x.1=[] then 14 else if lessB p x.1=false then 6 else if 32768<x.2.length then 3 else pcheck x.1 r:=h.symm
theorem pairs_Check(v:Prs)(hv:v.fits):AC Tryz.prog 213 [.d (.l v.length (prsD v))] [] fun x σ=>x=iv .i64 v.check∧σ=[]:=by
 refine AC.wk Tryz.func213 ?_
 by_cases h8:8<v.length
 ·have hc:v.check=3:=by unfold Prs.check;rw [if_pos h8]
  focus (have kxs:=hc;(repeat' (first|(refine ADr.nil ?_;try clear hgv)|refine GO ?_|refine AW.ret ?_|(refine GC ?_ ?_<;>intro h<;>(try simp only [hsB] at h)<;>try exact xf)|(refine GD ?_ ?_<;>intro h<;>(try intro hgv)<;>(try simp only [hsN] at h)<;>(try simp only [h])<;>(try simp only [hsB] at h)<;>try exact xf)|(refine GL ?_ ?_<;>intro h<;>(try simp only [hsN] at h)<;>(try simp only [h])<;>(try simp only [hsB] at h)<;>try exact xf)|fail));all_goals clear kxs)
  all_goals first|(exfalso;omega)|((all_goals have kxf:=hc;first|exact RetQ.xr 0|exact RetQ.xn 0|fail);done)
 generalize hR:pcheck [] v=R
 have hc:v.check=R:=by unfold Prs.check;rw [if_neg h8,hR]
 rw [hc]
 focus ((repeat' (first|(refine ADr.nil ?_;try clear hgv)|refine GO ?_|refine AW.ret ?_|(refine GC ?_ ?_<;>intro h<;>(try simp only [hsB] at h)<;>try exact xf)|(refine GD ?_ ?_<;>intro h<;>(try intro hgv)<;>(try simp only [hsN] at h)<;>(try simp only [h])<;>(try simp only [hsB] at h)<;>try exact xf)|(refine GL ?_ ?_<;>intro h<;>(try simp only [hsN] at h)<;>(try simp only [h])<;>(try simp only [hsB] at h)<;>try exact xf)|fail)))
 refine AW.rounds [0,2,8,9,10] (fun i:Nat=>[(0,.d (.l v.length (prsD v))),(2,iv .i64 0),(8,.d (.l v.length (prsD v))),(9,iv .i64 v.length),(10,iv .i64 i)]) (fun _=>[])
  (fun i=>i≤v.length∧∃ p,v.ahead i p∧pcheck p (v.drop i)=R) (fun i=>v.length-i) 0 ⟨Nat.zero_le _,[],.inl ⟨rfl,rfl⟩,hR⟩ rfl rfl (fun _ _=>Nat.zero_le _) (fun _ _=>rfl) (fun _ _=>rfl) ?_
 rintro i ⟨hi,p,hp,hr⟩ J hJ
 by_cases hil:i<v.length
 ·obtain ⟨x,r,hd⟩:=next_at hil
  have hcd:=prs_drop hd
  rw [hd] at hr
  have hR2:=pcheck_step hr
  have hxl:=hv.2.1 x (next_mem hd)
  have hyl:=hv.2.2 x (next_mem hd)
  have hnx:∀ hx:¬ 32<x.1.length,v.ahead (i+1) x.1:=fun hx=>.inr ⟨by omega,by omega,x.2,r,by simpa using hd⟩
  have hnd:=next_drop hd
  have hxe:x.1=[]↔x.1.length=0:=by simp
  rcases hp with ⟨rfl,rfl⟩|⟨h0,hpl,n,r',hp⟩
  ·have hl0:x.1≠[]→lessB [] x.1=true:=fun h=>by
     cases hx:x.1 with
     | nil=>exact absurd hx h
     | cons b t=>exact less_nil_cons b t
   focus (have kxs:=hcd;(repeat' (first|(refine ADr.nil ?_;try clear hgv)|refine GO ?_|refine AW.ret ?_|(refine GC ?_ ?_<;>intro h<;>(try simp only [hsB] at h)<;>try exact xf)|(refine GD ?_ ?_<;>intro h<;>(try intro hgv)<;>(try simp only [hsN] at h)<;>(try simp only [h])<;>(try simp only [hsB] at h)<;>try exact xf)|(refine GL ?_ ?_<;>intro h<;>(try simp only [hsN] at h)<;>(try simp only [h])<;>(try simp only [hsB] at h)<;>try exact xf)|fail));all_goals clear kxs)
   all_goals first
    | (rw [show R=3 from by rw [hR2,if_pos (by omega)]];(first|exact RetQ.zr 0|exact RetQ.zn 0|fail))
    | (rw [show R=14 from by rw [hR2,if_neg (by omega),if_pos (by first|assumption|(rw [hxe];omega))]];(first|exact RetQ.zr 0|exact RetQ.zn 0|fail))
    | (rw [show R=6 from by rw [hR2,if_neg (by omega),if_neg (by first|assumption|(rw [hxe];omega)),if_pos (by first|assumption|(clear hR2 hr hJ;simp_all;done))]];(first|exact RetQ.zr 0|exact RetQ.zn 0|fail))
    | (rw [show R=3 from by rw [hR2,if_neg (by omega),if_neg (by first|assumption|(rw [hxe];omega)),if_neg (by first|(rw [hl0 (by first|assumption|(rw [ne_eq,hxe];omega))];decide)|(clear hR2 hr hJ;simp_all;done)),if_pos (by omega)]];(first|exact RetQ.zr 0|exact RetQ.zn 0|fail))
    | (refine hJ 1 _ _ (by omega) ⟨hil,x.1,hnx (by omega),?_⟩ rfl rfl;rw [hnd,hR2,if_neg (by omega),if_neg (by assumption),if_neg (by rw [hl0 (by assumption)];decide),if_neg (by omega)])
    | (exfalso;clear hR2 hr hJ;simp_all;done)
  ·have hcp:=prs_drop hp
   have hi1:((i:Int)-1).toNat=i-1:=by omega
   have htri:=less_tri x.1 p
   focus (have kxs:=And.intro hcd (And.intro hcp (And.intro hi1 htri));(repeat' (first|(refine ADr.nil ?_;try clear hgv)|refine GO ?_|refine AW.ret ?_|(refine GC ?_ ?_<;>intro h<;>(try simp only [hsB] at h)<;>try exact xf)|(refine GD ?_ ?_<;>intro h<;>(try intro hgv)<;>(try simp only [hsN] at h)<;>(try simp only [h])<;>(try simp only [hsB] at h)<;>try exact xf)|(refine GL ?_ ?_<;>intro h<;>(try simp only [hsN] at h)<;>(try simp only [h])<;>(try simp only [hsB] at h)<;>try exact xf)|fail));all_goals clear kxs)
   all_goals first
    | (rw [show R=3 from by rw [hR2,if_pos (by omega)]];(first|exact RetQ.zr 0|exact RetQ.zn 0|fail))
    | (rw [show R=14 from by rw [hR2,if_neg (by omega),if_pos (by first|assumption|(rw [hxe];omega))]];(first|exact RetQ.zr 0|exact RetQ.zn 0|fail))
    | (rw [show R=6 from by rw [hR2,if_neg (by omega),if_neg (by first|assumption|(rw [hxe];omega)),if_pos (by first|assumption|(clear hR2 hr hJ;simp_all;done))]];(first|exact RetQ.zr 0|exact RetQ.zn 0|fail))
    | (rw [show R=3 from by rw [hR2,if_neg (by omega),if_neg (by first|assumption|(rw [hxe];omega)),if_neg (by clear hR2 hr hJ;simp_all;done),if_pos (by omega)]];(first|exact RetQ.zr 0|exact RetQ.zn 0|fail))
    | (refine hJ (i+1) _ _ (by omega) ⟨hil,x.1,hnx (by omega),?_⟩ rfl rfl;rw [hnd,hR2,if_neg (by omega),if_neg (by assumption),if_neg (by clear hR2 hr hJ;simp_all;done),if_neg (by omega)])
    | (exfalso;clear hR2 hr hJ;simp_all;done)
 ·focus ((repeat' (first|(refine ADr.nil ?_;try clear hgv)|refine GO ?_|refine AW.ret ?_|(refine GC ?_ ?_<;>intro h<;>(try simp only [hsB] at h)<;>try exact xf)|(refine GD ?_ ?_<;>intro h<;>(try intro hgv)<;>(try simp only [hsN] at h)<;>(try simp only [h])<;>(try simp only [hsB] at h)<;>try exact xf)|(refine GL ?_ ?_<;>intro h<;>(try simp only [hsN] at h)<;>(try simp only [h])<;>(try simp only [hsB] at h)<;>try exact xf)|fail)))
  have h0:v.drop i=[]:=List.drop_eq_nil_of_le (by omega)
  rw [h0] at hr
  have hR0:R=0:=hr.symm
  rw [hR0]
  (all_goals first|exact RetQ.fr 0|exact RetQ.fn 0|fail)
theorem ref14_Same(v w:Prs)(hv:v.length≤9223372036854775807):AC Tryz.prog 49 [.d (.l v.length (prsD v)),.d (.l w.length (prsD w))] [] fun x σ=>x=bv (decide (v=w))∧σ=[]:=by
 refine AC.wk Tryz.func49 ?_
 by_cases hl:v.length=w.length
 case neg=>
  have hc:decide (v=w)=false:=by simp;rintro rfl;exact hl rfl
  focus (have kxs:=hc;(repeat' (first|(refine ADr.nil ?_;try clear hgv)|refine GO ?_|refine AW.ret ?_|(refine GC ?_ ?_<;>intro h<;>(try simp only [hsB] at h)<;>try exact xf)|(refine GD ?_ ?_<;>intro h<;>(try intro hgv)<;>(try simp only [hsN] at h)<;>(try simp only [h])<;>(try simp only [hsB] at h)<;>try exact xf)|(refine GL ?_ ?_<;>intro h<;>(try simp only [hsN] at h)<;>(try simp only [h])<;>(try simp only [hsB] at h)<;>try exact xf)|fail));all_goals clear kxs)
  all_goals first|(exfalso;omega)|((all_goals have kxf:=hc;first|exact RetQ.xr 0|exact RetQ.xn 0|fail);done)
 focus ((repeat' (first|(refine ADr.nil ?_;try clear hgv)|refine GO ?_|refine AW.ret ?_|(refine GC ?_ ?_<;>intro h<;>(try simp only [hsB] at h)<;>try exact xf)|(refine GD ?_ ?_<;>intro h<;>(try intro hgv)<;>(try simp only [hsN] at h)<;>(try simp only [h])<;>(try simp only [hsB] at h)<;>try exact xf)|(refine GL ?_ ?_<;>intro h<;>(try simp only [hsN] at h)<;>(try simp only [h])<;>(try simp only [hsB] at h)<;>try exact xf)|fail)))
 refine AW.rounds [0,1,4,5] (fun i:Nat=>[(0,.d (.l v.length (prsD v))),(1,.d (.l w.length (prsD w))),(4,bv false),(5,iv .i64 i)]) (fun _=>[])
  (fun i=>i≤v.length∧(v=w↔v.drop i=w.drop i)) (fun i=>v.length-i) 0 ⟨Nat.zero_le _,by simp⟩ rfl rfl (fun _ _=>Nat.zero_le _) (fun _ _=>rfl) (fun _ _=>rfl) ?_
 rintro i ⟨hi,hr⟩ J hJ
 by_cases hil:i<v.length
 ·obtain ⟨x,r,hd⟩:=next_at hil
  obtain ⟨y,s,he⟩:=next_at (l:=w) (i:=i) (by omega)
  have hcd:=prs_drop hd
  have hce:=prs_drop he
  focus (have kxs:=And.intro hcd hce;(repeat' (first|(refine ADr.nil ?_;try clear hgv)|refine GO ?_|refine AW.ret ?_|(refine GC ?_ ?_<;>intro h<;>(try simp only [hsB] at h)<;>try exact xf)|(refine GD ?_ ?_<;>intro h<;>(try intro hgv)<;>(try simp only [hsN] at h)<;>(try simp only [h])<;>(try simp only [hsB] at h)<;>try exact xf)|(refine GL ?_ ?_<;>intro h<;>(try simp only [hsN] at h)<;>(try simp only [h])<;>(try simp only [hsB] at h)<;>try exact xf)|fail));all_goals clear kxs)
  ·have hn:¬ v=w:=by
     rw [hr,hd,he]
     intro e
     obtain ⟨rfl,_⟩:=List.cons.inj e
     simp at h
   have hc:decide (v=w)=false:=by simp [hn]
   rw [hc]
   (all_goals first|exact RetQ.fr 0|exact RetQ.fn 0|fail)
  ·refine hJ (i+1) _ _ (by omega) ⟨hil,?_⟩ rfl rfl
   have hxy:x=y:=Prod.ext h.1 h.2
   rw [hr,next_drop hd,next_drop he,hd,he,hxy]
   simp
 ·focus ((repeat' (first|(refine ADr.nil ?_;try clear hgv)|refine GO ?_|refine AW.ret ?_|(refine GC ?_ ?_<;>intro h<;>(try simp only [hsB] at h)<;>try exact xf)|(refine GD ?_ ?_<;>intro h<;>(try intro hgv)<;>(try simp only [hsN] at h)<;>(try simp only [h])<;>(try simp only [hsB] at h)<;>try exact xf)|(refine GL ?_ ?_<;>intro h<;>(try simp only [hsN] at h)<;>(try simp only [h])<;>(try simp only [hsB] at h)<;>try exact xf)|fail)))
  have hc:decide (v=w)=true:=by
   simp only [decide_eq_true_eq]
   rw [hr,List.drop_eq_nil_of_le (by omega),List.drop_eq_nil_of_le (by omega)]
  rw [hc]
  (all_goals first|exact RetQ.fr 0|exact RetQ.fn 0|fail)
theorem Pe.pairs_snoc(p:Pe)(v:Prs)(x:Pr):p.pairs (v++[x])=(p.pairs v).pair x:=by simp [Pe.pairs,List.foldl_append]
theorem pens_pairs:Pens Pe.pairs (fun v=>(v.map epair).flatten) (fun v=>∀ x ∈ v,x.1.length≤32∧x.2.length≤32768):=pens_pair.fold
theorem Pe.count_ok8{p:Pe}{n:Nat}(hn:n≤8):p.count 8 n=p.text (vput n):=by
 unfold Pe.count
 rw [if_neg (by omega),if_neg (by omega)]
 rfl
theorem Pe.pairs_way{b:List UInt8}{m:Int}{v:Prs}{p:Pe}(hpo:p.Ok)(hpm:p.m=m)(h8:v.length≤8)(h32:∀ x ∈ v,x.1.length≤32∧x.2.length≤32768)(hpl:p.b.length≤b.length+(vput v.length).length)(hl:m≤140737488355328∨b.length+(eprs v).length+40≤140737488355328)
  {j:Nat}(hj:j≤v.length):(Pe.pairs p (v.take j)).Ok∧(Pe.pairs p (v.take j)).m=m∧(∀ x r,v.drop j=x::r→
   (m≤140737488355328∨(Pe.pairs p (v.take j)).b.length+10+x.1.length≤140737488355328)∧((Pe.pairs p (v.take j)).blob 32 x.1).Ok∧((Pe.pairs p (v.take j)).blob 32 x.1).m=m∧(m≤140737488355328∨((Pe.pairs p (v.take j)).blob 32 x.1).b.length+10+x.2.length≤140737488355328)):=by
 have h1:=take_flat epair v j
 have hel:(eprs v).length=(vput v.length).length+(v.map epair).flatten.length:=by unfold eprs;rw [List.length_append]
 have ho:=pens_pairs.keep (x:=v.take j) hpo (by omega)
 have hm:=pens_pairs.m p (v.take j)
 have hq:=pens_pairs.len p (v.take j)
 generalize Pe.pairs p (v.take j)=q at *
 refine ⟨ho,hm.trans hpm,fun x r hd=>?_⟩
 rw [hd] at h1
 simp only [List.map_cons,List.flatten_cons,List.length_append] at h1
 have hxl:=h32 x (next_mem hd)
 have hel2:(epair x).length=(vput x.1.length).length+x.1.length+((vput x.2.length).length+x.2.length):=by unfold epair eblob;simp only [List.length_append]
 have hbm:=Pe.blob_m q 32 x.1
 have hbo:=Pe.blob_ok (p:=q) (max:=32) (s:=x.1) ho (by omega) (by omega)
 have hbl:=(pens_blob 32).len q x.1
 have hebl:(eblob x.1).length=(vput x.1.length).length+x.1.length:=by unfold eblob;rw [List.length_append]
 exact ⟨by omega,hbo,by omega,by omega⟩
section
variable (b : List UInt8) (m e : Int)
theorem pairs_Put(ok:Pe.Ok ⟨b,m,e⟩)(v:Prs)(hfv:v.fits)(hl:m≤140737488355328∨b.length+(eprs v).length+40≤140737488355328) :
  AC Tryz.prog 215 [.p 0 0,.d (.l v.length (prsD v))] (Pe.obs ⟨b,m,e⟩) fun x σ=>x=.t []∧σ=Pe.obs (Pe.prs ⟨b,m,e⟩ v):=by
 refine AC.wk Tryz.func215 ?_
 by_cases hc:v.check=0
 case neg=>
  have hv:Pe.prs ⟨b,m,e⟩ v=Pe.fail ⟨b,m,e⟩ v.check:=by unfold Pe.prs;rw [if_pos hc]
  rw [hv]
  (have kk1:=uN [] (pairs_Check v hfv);have kua1:=fun za=>uN [0,1] (pen_Fail b m e za);exact Wd2)
 have hvec:Pe.prs ⟨b,m,e⟩ v=(Pe.text ⟨b,m,e⟩ (vput v.length)).pairs v:=by unfold Pe.prs;rw [if_neg (by simpa using hc)]
 obtain ⟨hv8,hv32⟩:=Prs.check_len hc
 have hcnt:Pe.count ⟨b,m,e⟩ 8 (v.length:Nat)=Pe.text ⟨b,m,e⟩ (vput v.length):=Pe.count_ok8 hv8
 have hvl:=vput_len10 (n:=v.length) (by omega)
 have hpl:=Pe.text_len ⟨b,m,e⟩ (vput v.length)
 have hpm:=Pe.text_m ⟨b,m,e⟩ (vput v.length)
 have hevl:(eprs v).length=(vput v.length).length+(v.map epair).flatten.length:=by unfold eprs;rw [List.length_append]
 have hpo:=Pe.text_ok (s:=vput v.length) ok (by simp only;omega)
 simp only at hpl hpm
 generalize hp:Pe.text ⟨b,m,e⟩ (vput v.length)=p at *
 focus (have kxs:=And.intro hc hcnt;have kk1:=uN [] (pairs_Check v hfv);have kk2:=uN [0,1] (blob_PutCount b m e 8 ok (v.length:Nat) (by omega) (by omega));(repeat' (first|refine G ?_|refine AW.ret ?_|(refine GC ?_ ?_<;>intro h<;>(try simp only [hsB] at h)<;>try exact xf)|(refine GL ?_ ?_<;>intro h<;>(try simp only [hsN] at h)<;>(try simp only [h])<;>(try simp only [hsB] at h)<;>try exact xf)|fail));all_goals clear kxs kk1 kk2)
 all_goals first|(exfalso;simp_all;done)|skip
 refine AW.rounds [0,18,19,20] (fun j:Nat=>[(0,.p 0 0),(18,.d (.l v.length (prsD v))),(19,iv .i64 v.length),(20,iv .i64 j)]) (fun j=>Pe.obs (Pe.pairs p (v.take j)))
  (fun j=>j≤v.length) (fun j=>v.length-j) 0 (Nat.zero_le _) rfl rfl (fun _ _=>Nat.le_of_ble_eq_true rfl) (fun _ _=>rfl) (fun _ _=>rfl) ?_
 intro j hj J2 hJ2
 obtain ⟨hok2,hqm2,way⟩:=Pe.pairs_way hpo hpm hv8 hv32 hpl hl hj
 generalize hq2:Pe.pairs p (v.take j)=p2 at *
 by_cases hjl:j<v.length
 case neg=>
  have hj2:j=v.length:=by omega
  rw [hj2,List.take_length] at hq2
  rw [hvec,hq2]
  exact Wd2
 obtain ⟨x,r2,hd2⟩:=next_at hjl
 have hcd2:=prs_drop hd2
 have hn3:Pe.pairs p (v.take (j+1))=p2.pair x:=by rw [next_take hd2,Pe.pairs_snoc,hq2]
 obtain ⟨w1,hbo,hbm,w2⟩:=way x r2 hd2
 have hx:=hv32 x (next_mem hd2)
 generalize hp3:p2.blob 32 x.1=p3 at *
 have hp3':Pe.blob ⟨p2.b,p2.m,p2.e⟩ 32 x.1=p3:=hp3
 have hent:p2.pair x=p3.blob 32768 x.2:=by unfold Pe.pair;rw [hp3]
 focus (have kxs:=And.intro hcd2 hp3';have kk1:=uN [0,1] (blob_Put1 p2.b x.1 p2.m p2.e 32 hok2 (by omega) (by omega));have kk2:=uN [0,1] (blob_Put1 p3.b x.2 p3.m p3.e 32768 hbo (by omega) (by omega));(repeat' (first|refine G ?_|refine AW.ret ?_|(refine GC ?_ ?_<;>intro h<;>(try simp only [hsB] at h)<;>try exact xf)|(refine GL ?_ ?_<;>intro h<;>(try simp only [hsN] at h)<;>(try simp only [h])<;>(try simp only [hsB] at h)<;>try exact xf)|fail));all_goals clear kxs kk1 kk2)
 all_goals first
  | (refine hJ2 (j+1) _ _ (by omega) hjl rfl ?_;rw [hn3,hent];rfl)
  | (exfalso;simp_all;done)
end
theorem sb_check{x:Sb}{R:Int}(h:x.check=R):R=if x.clk.check≠0 then x.clk.check else if x.meta_.check≠0 then x.meta_.check else if 32768<x.val.length then 3 else 0:=h.symm
theorem sibling_Check(x:Sb)(hx:x.fits):AC Tryz.prog 253 [sbV x] [] fun y σ=>y=iv .i64 x.check∧σ=[]:=by
 refine AC.wk Tryz.func253 ?_
 generalize hR:x.check=R
 have hR2:=sb_check hR
 clear hR
 focus (have kk1:=uN [] (dotted_Check x.clk hx.1);have kk2:=uN [] (pairs_Check x.meta_ hx.2.1);(repeat' (first|refine G ?_|refine AW.ret ?_|(refine GC ?_ ?_<;>intro h<;>(try simp only [hsB] at h)<;>try exact xf)|(refine GL ?_ ?_<;>intro h<;>(try simp only [hsN] at h)<;>(try simp only [h])<;>(try simp only [hsB] at h)<;>try exact xf)|fail));all_goals clear kk1 kk2)
 all_goals first
  | (rw [show R=x.clk.check from by rw [hR2,if_pos (by assumption)]];(first|exact RetQ.zr 0|exact RetQ.zn 0|fail))
  | (rw [show R=x.meta_.check from by rw [hR2,if_neg (by simp only [ne_eq,Decidable.not_not];assumption),if_pos (by assumption)]];(first|exact RetQ.zr 0|exact RetQ.zn 0|fail))
  | (rw [show R=3 from by rw [hR2,if_neg (by simp only [ne_eq,Decidable.not_not];assumption),if_neg (by simp only [ne_eq,Decidable.not_not];assumption),if_pos (by omega)]];(first|exact RetQ.zr 0|exact RetQ.zn 0|fail))
  | (rw [show R=0 from by rw [hR2,if_neg (by simp only [ne_eq,Decidable.not_not];assumption),if_neg (by simp only [ne_eq,Decidable.not_not];assumption),if_neg (by omega)]];(first|exact RetQ.zr 0|exact RetQ.zn 0|fail))
  | trace_state
theorem sb_dec(k o:Sb):decide (k=o)=(decide (k.clk=o.clk)&&(decide (k.meta_=o.meta_)&&(decide (k.dead=o.dead)&&decide (k.val=o.val)))):=by
 rw [Bool.eq_iff_iff,decide_eq_true_eq];exact (sb_eq k o).symm
theorem ref15_Same(k o:Sb)(hk:k.clk.ctx.length≤9223372036854775807)(hm:k.meta_.length≤9223372036854775807):AC Tryz.prog 110 [sbV k,sbV o] [] fun x σ=>x=bv (decide (k=o))∧σ=[]:=by
 refine AC.wk Tryz.func110 ?_
 rw [sb_dec]
 rcases Bool.eq_false_or_eq_true (decide (k.clk=o.clk)) with e1|e1<;>rcases Bool.eq_false_or_eq_true (decide (k.meta_=o.meta_)) with e2|e2<;>rcases Bool.eq_false_or_eq_true (decide (k.dead=o.dead)) with e3|e3
 all_goals
  rw [e1,e2,e3]
  (have kxs:=And.intro e1 (And.intro e2 e3);have kk1:=uN [] (ref12_Same k.clk o.clk hk);have kk2:=uN [] (ref14_Same k.meta_ o.meta_ hm);exact Wd0)
theorem Pe.sibs_snoc(p:Pe)(l:List Sb)(v:Sb):p.sibs (l++[v])=(p.sibs l).sib v:=by simp [Pe.sibs,List.foldl_append]
theorem Pe.sibs_append(p:Pe)(l r:List Sb):p.sibs (l++r)=(p.sibs l).sibs r:=List.foldl_append ..
theorem Pe.sib_way{q:Pe}{x:Sb}(hc:x.check=0)(hok:q.Ok)(hl:q.m≤140737488355328∨q.b.length+(esib x).length+80≤140737488355328) :
  ∃ p1 p2 p3:Pe,q.clk x.clk=p1∧p1.prs x.meta_=p2∧p2.flag x.dead=p3∧q.sib x=p3.blob 32768 x.val∧p1.Ok∧p2.Ok∧p3.Ok∧
   (q.m≤140737488355328∨q.b.length+(eclk x.clk).length+40≤140737488355328)∧(p1.m≤140737488355328∨p1.b.length+(eprs x.meta_).length+40≤140737488355328)∧
   (p2.m≤140737488355328∨p2.b.length+1≤140737488355328)∧(p3.m≤140737488355328∨p3.b.length+10+x.val.length≤140737488355328):=by
 have hel:(esib x).length=(eclk x.clk).length+((eprs x.meta_).length+(1+((vput x.val.length).length+x.val.length))):=by
  unfold esib eblob eflag;simp only [List.length_append,List.length_cons,List.length_nil]
 have hsib:q.sib x=(((q.clk x.clk).prs x.meta_).flag x.dead).blob 32768 x.val:=by unfold Pe.sib;rw [if_neg (by simpa using hc)]
 have k1:=pens_clk.keep (p:=q) (x:=x.clk) hok (by omega)
 have m1:=pens_clk.m q x.clk
 have l1:=pens_clk.len q x.clk
 refine ⟨q.clk x.clk,(q.clk x.clk).prs x.meta_,((q.clk x.clk).prs x.meta_).flag x.dead,rfl,rfl,rfl,hsib,?_⟩
 generalize q.clk x.clk=p1 at *
 have k2:=pens_prs.keep (p:=p1) (x:=x.meta_) k1 (by omega)
 have m2:=pens_prs.m p1 x.meta_
 have l2:=pens_prs.len p1 x.meta_
 generalize p1.prs x.meta_=p2 at *
 have hf1:(eflag x.dead).length=1:=rfl
 have k3:=pens_flag.keep (p:=p2) (x:=x.dead) k2 (by omega)
 have m3:=pens_flag.m p2 x.dead
 have l3:=pens_flag.len p2 x.dead
 generalize p2.flag x.dead=p3 at *
 exact ⟨k1,k2,k3,by omega,by omega,by omega,by omega⟩
section
variable (b : List UInt8) (m e : Int)
theorem sibling_Put(ok:Pe.Ok ⟨b,m,e⟩)(l:List Sb)(hf:∀ k ∈ l,k.fits)(hn:l.length≤140737488355328)(hl:m≤140737488355328∨b.length+(l.map esib).flatten.length+80≤140737488355328) :
  AC Tryz.prog 271 [.p 0 0,.d (.l l.length (sbsD l))] (Pe.obs ⟨b,m,e⟩) fun x σ=>x=.t []∧σ=Pe.obs (Pe.sibs ⟨b,m,e⟩ l):=by
 refine AC.wk Tryz.func271 ?_
 focus ((repeat' (first|refine G ?_|refine AW.ret ?_|(refine GC ?_ ?_<;>intro h<;>(try simp only [hsB] at h)<;>try exact xf)|(refine GL ?_ ?_<;>intro h<;>(try simp only [hsN] at h)<;>(try simp only [h])<;>(try simp only [hsB] at h)<;>try exact xf)|fail)))
 refine AW.rounds [0,4,10,11,12] (fun i:Nat=>[(0,.p 0 0),(4,.f (.func 231) [.p 0 0] []),(10,.d (.l l.length (sbsD l))),(11,iv .i64 l.length),(12,iv .i64 i)]) (fun i=>Pe.obs (Pe.sibs ⟨b,m,e⟩ (l.take i)))
  (fun i=>i≤l.length) (fun i=>l.length-i) 0 (Nat.zero_le _) rfl rfl (fun _ _=>Nat.le_of_ble_eq_true rfl) (fun _ _=>rfl) (fun _ _=>rfl) ?_
 intro i hi J hJ
 generalize hq:Pe.sibs ⟨b,m,e⟩ (l.take i)=q
 have hqo:q.Ok∧q.m=m∧q.b.length≤b.length+((l.take i).map esib).flatten.length:=by
  have h1:=take_flat esib l i
  rw [←hq]
  exact ⟨pens_sibs.keep ok (by simp only;omega),pens_sibs.m _ _,pens_sibs.len _ _⟩
 obtain ⟨hok,hqm,hqb⟩:=hqo
 by_cases hil:i<l.length
 case neg=>
  have hi2:i=l.length:=by omega
  rw [hi2,List.take_length] at hq
  subst hq
  focus ((repeat' (first|refine G ?_|refine AW.ret ?_|(refine GC ?_ ?_<;>intro h<;>(try simp only [hsB] at h)<;>try exact xf)|(refine GL ?_ ?_<;>intro h<;>(try simp only [hsN] at h)<;>(try simp only [h])<;>(try simp only [hsB] at h)<;>try exact xf)|fail)))
  (all_goals first|exact RetQ.fr 2|exact RetQ.fn 2|fail)
 obtain ⟨x,r,hd⟩:=next_at hil
 have hcd:=sbs_drop hd
 have hn2:Pe.sibs ⟨b,m,e⟩ (l.take (i+1))=q.sib x:=by rw [next_take hd,Pe.sibs_snoc,hq]
 have hfx:=hf x (next_mem hd)
 have htf:=take_flat esib l i
 rw [hd] at htf
 simp only [List.map_cons,List.flatten_cons,List.length_append] at htf
 by_cases hc:x.check=0
 case neg=>
  have hv:q.sib x=q.fail x.check:=by unfold Pe.sib;rw [if_pos hc]
  have hall:Pe.sibs ⟨b,m,e⟩ l=q.fail x.check:=by
   conv=>lhs;rw [←List.take_append_drop (i+1) l]
   rw [Pe.sibs_append,hn2,hv]
   exact pens_sibs.stuck _ _ (Pe.fail_e hc)
  rw [hall]
  (have kxs:=hcd;have kk1:=uN [] (sibling_Check x hfx);have kud1:=fun za zb zc zd=>uN [0,1] (pen_Fail za zb zc zd);exact Wd2)
 obtain ⟨p1,p2,p3,g1,g2,g3,g4,o1,o2,o3,b0,b1,b2,b3⟩:=Pe.sib_way hc hok (by omega)
 have g2':Pe.prs ⟨p1.b,p1.m,p1.e⟩ x.meta_=p2:=g2
 have g3':Pe.flag ⟨p2.b,p2.m,p2.e⟩ x.dead=p3:=g3
 have g1':Pe.clk ⟨q.b,q.m,q.e⟩ x.clk=p1:=g1
 focus (have kxs:=And.intro hcd (And.intro hc (And.intro g1' (And.intro g2' g3')));have kk1:=uN [] (sibling_Check x hfx);have kk2:=uN [0,1] (dcode_Put1 q.b q.m q.e hok x.clk hfx.1 b0);have kk3:=uN [0,1] (pairs_Put p1.b p1.m p1.e o1 x.meta_ hfx.2.1 b1);have kk4:=uN [0,1] (blob_PutFlag p2.b p2.m p2.e o2 x.dead b2);have kk5:=uN [0,1] (blob_Put1 p3.b x.val p3.m p3.e 32768 o3 hfx.2.2 b3);(repeat' (first|refine G ?_|refine AW.ret ?_|(refine GC ?_ ?_<;>intro h<;>(try simp only [hsB] at h)<;>try exact xf)|(refine GL ?_ ?_<;>intro h<;>(try simp only [hsN] at h)<;>(try simp only [h])<;>(try simp only [hsB] at h)<;>try exact xf)|fail));all_goals clear kxs kk1 kk2 kk3 kk4 kk5)
 all_goals first|(refine hJ (i+1) _ _ (by omega) hil rfl ?_;rw [hn2,g4];rfl)|(exfalso;simp_all;done)
end
end Go.AW
