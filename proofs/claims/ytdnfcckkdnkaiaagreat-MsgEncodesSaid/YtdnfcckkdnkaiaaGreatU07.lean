/-
  vectors: what is right, what is the same, what is too great: the program's and the document's.
-/
import Derived.Test.YtdnfcckkdnkaiaaGreatU06
set_option linter.unusedVariables false
set_option linter.unusedSimpArgs false
set_option maxHeartbeats 4000000
set_option maxRecDepth 10000
namespace Go.AW
open Go Go.Proofs
attribute [local irreducible] thenQ blockQ RetQ AL AW AC AOp
def enD(x:En):List D:=[.s (.string ⟨x.1.toArray⟩),.s (.int .u64 x.2)]
abbrev vecD(v:Vec):List D:=(v.map enD).flatten
theorem vec_drop{v r:Vec}{x:En}{i:Nat}(h:v.drop i=x::r):(vecD v).drop (i*2)=.s (.string ⟨x.1.toArray⟩)::.s (.int .u64 x.2)::vecD r:=by
 rw [vecD,flat_drop (f:=enD) (sz:=2) (fun _=>rfl),h];rfl
def Vec.fits(v:Vec):Prop:=v.length≤9223372036854775807∧(∀ x ∈ v,x.1.length≤9223372036854775807)∧∀ x ∈ v,x.2<18446744073709551616
def Vec.ahead(v:Vec)(i:Nat)(p:List UInt8):Prop:=(i=0∧p=[])∨(0<i∧p.length≤32∧∃ n r,v.drop (i-1)=(p,n)::r)
theorem vcheck_step{p:List UInt8}{x:En}{r:Vec}{R:Int}(h:vcheck p (x::r)=R):R=if 32<x.1.length then 3 else if x.1=[] then 14 else if lessB p x.1=false then 6 else if x.2=0 then 7 else vcheck x.1 r:=h.symm
theorem vector_Check(v:Vec)(hv:v.fits):AC Tryz.prog 207 [.d (.l v.length (vecD v))] [] fun x σ=>x=iv .i64 v.check∧σ=[]:=by
 refine AC.wk Tryz.func207 ?_
 by_cases h64:64<v.length
 ·have hc:v.check=3:=by unfold Vec.check;rw [if_pos h64]
  focus (have kxs:=hc;(repeat' (first|(refine ADr.nil ?_;try clear hgv)|refine GO ?_|refine AW.ret ?_|(refine GC ?_ ?_<;>intro h<;>(try simp only [hsB] at h)<;>try exact xf)|(refine GD ?_ ?_<;>intro h<;>(try intro hgv)<;>(try simp only [hsN] at h)<;>(try simp only [h])<;>(try simp only [hsB] at h)<;>try exact xf)|(refine GL ?_ ?_<;>intro h<;>(try simp only [hsN] at h)<;>(try simp only [h])<;>(try simp only [hsB] at h)<;>try exact xf)|fail));all_goals clear kxs)
  all_goals first|(exfalso;omega)|((all_goals have kxf:=hc;first|exact RetQ.xr 0|exact RetQ.xn 0|fail);done)
 generalize hR:vcheck [] v=R
 have hc:v.check=R:=by unfold Vec.check;rw [if_neg h64,hR]
 rw [hc]
 focus ((repeat' (first|(refine ADr.nil ?_;try clear hgv)|refine GO ?_|refine AW.ret ?_|(refine GC ?_ ?_<;>intro h<;>(try simp only [hsB] at h)<;>try exact xf)|(refine GD ?_ ?_<;>intro h<;>(try intro hgv)<;>(try simp only [hsN] at h)<;>(try simp only [h])<;>(try simp only [hsB] at h)<;>try exact xf)|(refine GL ?_ ?_<;>intro h<;>(try simp only [hsN] at h)<;>(try simp only [h])<;>(try simp only [hsB] at h)<;>try exact xf)|fail)))
 refine AW.rounds [0,2,8,9,10] (fun i:Nat=>[(0,.d (.l v.length (vecD v))),(2,iv .i64 0),(8,.d (.l v.length (vecD v))),(9,iv .i64 v.length),(10,iv .i64 i)]) (fun _=>[])
  (fun i=>i≤v.length∧∃ p,v.ahead i p∧vcheck p (v.drop i)=R) (fun i=>v.length-i) 0 ⟨Nat.zero_le _,[],.inl ⟨rfl,rfl⟩,hR⟩ rfl rfl (fun _ _=>Nat.zero_le _) (fun _ _=>rfl) (fun _ _=>rfl) ?_
 rintro i ⟨hi,p,hp,hr⟩ J hJ
 by_cases hil:i<v.length
 ·obtain ⟨x,r,hd⟩:=next_at hil
  have hcd:=vec_drop hd
  rw [hd] at hr
  have hR2:=vcheck_step hr
  have hxl:=hv.2.1 x (next_mem hd)
  have hnx:∀ hx:¬ 32<x.1.length,v.ahead (i+1) x.1:=fun hx=>.inr ⟨by omega,by omega,x.2,r,by simpa using hd⟩
  have hnd:=next_drop hd
  have hxe:x.1=[]↔x.1.length=0:=by simp
  rcases hp with ⟨rfl,rfl⟩|⟨h0,hpl,n,r',hp⟩
  ·have hl0:x.1≠[]→lessB [] x.1=true:=fun h=>by
     cases hx:x.1 with
     | nil=>exact absurd hx h
     | cons b t=>exact less_nil_cons b t
   focus (have kxs:=hcd;(repeat' (first|(refine ADr.nil ?_;try clear hgv)|refine GO ?_|refine AW.ret ?_|(refine GC ?_ ?_<;>intro h<;>(try simp only [hsB] at h)<;>try exact xf)|(refine GD ?_ ?_<;>intro h<;>(try intro hgv)<;>(try simp only [hsN] at h)<;>(try simp only [h])<;>(try simp only [hsB] at h)<;>try exact xf)|(refine GL ?_ ?_<;>intro h<;>(try simp only [hsN] at h)<;>(try simp only [h])<;>(try simp only [hsB] at h)<;>try exact xf)|fail));all_goals clear kxs)
   all_goals first
    | (rw [show R=3 from by rw [hR2,if_pos (by omega)]];(first|exact RetQ.zr 0|exact RetQ.zn 0|fail))
    | (rw [show R=14 from by rw [hR2,if_neg (by omega),if_pos (by first|assumption|(rw [hxe];omega))]];(first|exact RetQ.zr 0|exact RetQ.zn 0|fail))
    | (rw [show R=6 from by rw [hR2,if_neg (by omega),if_neg (by first|assumption|(rw [hxe];omega)),if_pos (by first|assumption|(clear hR2 hr hJ;simp_all;done))]];(first|exact RetQ.zr 0|exact RetQ.zn 0|fail))
    | (rw [show R=7 from by rw [hR2,if_neg (by omega),if_neg (by first|assumption|(rw [hxe];omega)),if_neg (by first|(rw [hl0 (by first|assumption|(rw [ne_eq,hxe];omega))];decide)|(clear hR2 hr hJ;simp_all;done)),if_pos (by omega)]];(first|exact RetQ.zr 0|exact RetQ.zn 0|fail))
    | (refine hJ 1 _ _ (by omega) ⟨hil,x.1,hnx (by omega),?_⟩ rfl rfl;rw [hnd,hR2,if_neg (by omega),if_neg (by assumption),if_neg (by rw [hl0 (by assumption)];decide),if_neg (by omega)])
    | (exfalso;clear hR2 hr hJ;simp_all;done)
  ·have hcp:=vec_drop hp
   have hi1:((i:Int)-1).toNat=i-1:=by omega
   have htri:=less_tri x.1 p
   focus (have kxs:=And.intro hcd (And.intro hcp (And.intro hi1 htri));(repeat' (first|(refine ADr.nil ?_;try clear hgv)|refine GO ?_|refine AW.ret ?_|(refine GC ?_ ?_<;>intro h<;>(try simp only [hsB] at h)<;>try exact xf)|(refine GD ?_ ?_<;>intro h<;>(try intro hgv)<;>(try simp only [hsN] at h)<;>(try simp only [h])<;>(try simp only [hsB] at h)<;>try exact xf)|(refine GL ?_ ?_<;>intro h<;>(try simp only [hsN] at h)<;>(try simp only [h])<;>(try simp only [hsB] at h)<;>try exact xf)|fail));all_goals clear kxs)
   all_goals first
    | (rw [show R=3 from by rw [hR2,if_pos (by omega)]];(first|exact RetQ.zr 0|exact RetQ.zn 0|fail))
    | (rw [show R=14 from by rw [hR2,if_neg (by omega),if_pos (by first|assumption|(rw [hxe];omega))]];(first|exact RetQ.zr 0|exact RetQ.zn 0|fail))
    | (rw [show R=6 from by rw [hR2,if_neg (by omega),if_neg (by first|assumption|(rw [hxe];omega)),if_pos (by first|assumption|(clear hR2 hr hJ;simp_all;done))]];(first|exact RetQ.zr 0|exact RetQ.zn 0|fail))
    | (rw [show R=7 from by rw [hR2,if_neg (by omega),if_neg (by first|assumption|(rw [hxe];omega)),if_neg (by clear hR2 hr hJ;simp_all;done),if_pos (by omega)]];(first|exact RetQ.zr 0|exact RetQ.zn 0|fail))
    | (refine hJ (i+1) _ _ (by omega) ⟨hil,x.1,hnx (by omega),?_⟩ rfl rfl;rw [hnd,hR2,if_neg (by omega),if_neg (by assumption),if_neg (by clear hR2 hr hJ;simp_all;done),if_neg (by omega)])
    | (exfalso;clear hR2 hr hJ;simp_all;done)
 ·focus ((repeat' (first|(refine ADr.nil ?_;try clear hgv)|refine GO ?_|refine AW.ret ?_|(refine GC ?_ ?_<;>intro h<;>(try simp only [hsB] at h)<;>try exact xf)|(refine GD ?_ ?_<;>intro h<;>(try intro hgv)<;>(try simp only [hsN] at h)<;>(try simp only [h])<;>(try simp only [hsB] at h)<;>try exact xf)|(refine GL ?_ ?_<;>intro h<;>(try simp only [hsN] at h)<;>(try simp only [h])<;>(try simp only [hsB] at h)<;>try exact xf)|fail)))
  have h0:v.drop i=[]:=List.drop_eq_nil_of_le (by omega)
  rw [h0] at hr
  have hR0:R=0:=hr.symm
  rw [hR0]
  (all_goals first|exact RetQ.fr 0|exact RetQ.fn 0|fail)
theorem slices_EqualEn(v w:Vec)(hv:v.length≤9223372036854775807):AC Tryz.prog 143 [.d (.l v.length (vecD v)),.d (.l w.length (vecD w))] [] fun x σ=>x=bv (decide (v=w))∧σ=[]:=by
 refine AC.wk Tryz.func143 ?_
 by_cases hl:v.length=w.length
 case neg=>
  have hc:decide (v=w)=false:=by simp;rintro rfl;exact hl rfl
  focus (have kxs:=hc;(repeat' (first|(refine ADr.nil ?_;try clear hgv)|refine GO ?_|refine AW.ret ?_|(refine GC ?_ ?_<;>intro h<;>(try simp only [hsB] at h)<;>try exact xf)|(refine GD ?_ ?_<;>intro h<;>(try intro hgv)<;>(try simp only [hsN] at h)<;>(try simp only [h])<;>(try simp only [hsB] at h)<;>try exact xf)|(refine GL ?_ ?_<;>intro h<;>(try simp only [hsN] at h)<;>(try simp only [h])<;>(try simp only [hsB] at h)<;>try exact xf)|fail));all_goals clear kxs)
  all_goals first|(exfalso;omega)|((all_goals have kxf:=hc;first|exact RetQ.xr 0|exact RetQ.xn 0|fail);done)
 focus ((repeat' (first|(refine ADr.nil ?_;try clear hgv)|refine GO ?_|refine AW.ret ?_|(refine GC ?_ ?_<;>intro h<;>(try simp only [hsB] at h)<;>try exact xf)|(refine GD ?_ ?_<;>intro h<;>(try intro hgv)<;>(try simp only [hsN] at h)<;>(try simp only [h])<;>(try simp only [hsB] at h)<;>try exact xf)|(refine GL ?_ ?_<;>intro h<;>(try simp only [hsN] at h)<;>(try simp only [h])<;>(try simp only [hsB] at h)<;>try exact xf)|fail)))
 refine AW.rounds [0,1,4,12,13] (fun i:Nat=>[(0,.d (.l v.length (vecD v))),(1,.d (.l w.length (vecD w))),(4,bv false),(12,iv .i64 v.length),(13,iv .i64 i)]) (fun _=>[])
  (fun i=>i≤v.length∧(v=w↔v.drop i=w.drop i)) (fun i=>v.length-i) 0 ⟨Nat.zero_le _,by simp⟩ rfl rfl (fun _ _=>Nat.zero_le _) (fun _ _=>rfl) (fun _ _=>rfl) ?_
 rintro i ⟨hi,hr⟩ J hJ
 by_cases hil:i<v.length
 ·obtain ⟨x,r,hd⟩:=next_at hil
  obtain ⟨y,s,he⟩:=next_at (l:=w) (i:=i) (by omega)
  have hcd:=vec_drop hd
  have hce:=vec_drop he
  focus (have kxs:=And.intro hcd hce;(repeat' (first|(refine ADr.nil ?_;try clear hgv)|refine GO ?_|refine AW.ret ?_|(refine GC ?_ ?_<;>intro h<;>(try simp only [hsB] at h)<;>try exact xf)|(refine GD ?_ ?_<;>intro h<;>(try intro hgv)<;>(try simp only [hsN] at h)<;>(try simp only [h])<;>(try simp only [hsB] at h)<;>try exact xf)|(refine GL ?_ ?_<;>intro h<;>(try simp only [hsN] at h)<;>(try simp only [h])<;>(try simp only [hsB] at h)<;>try exact xf)|fail));all_goals clear kxs)
  ·have hn:¬ v=w:=by
     rw [hr,hd,he]
     intro e
     obtain ⟨rfl,_⟩:=List.cons.inj e
     simp at h
   have hc:decide (v=w)=false:=by simp [hn]
   rw [hc]
   (all_goals first|exact RetQ.fr 0|exact RetQ.fn 0|fail)
  ·refine hJ (i+1) _ _ (by omega) ⟨hil,?_⟩ rfl rfl
   have hxy:x=y:=Prod.ext h.1 (by omega)
   rw [hr,next_drop hd,next_drop he,hd,he,hxy]
   simp
 ·focus ((repeat' (first|(refine ADr.nil ?_;try clear hgv)|refine GO ?_|refine AW.ret ?_|(refine GC ?_ ?_<;>intro h<;>(try simp only [hsB] at h)<;>try exact xf)|(refine GD ?_ ?_<;>intro h<;>(try intro hgv)<;>(try simp only [hsN] at h)<;>(try simp only [h])<;>(try simp only [hsB] at h)<;>try exact xf)|(refine GL ?_ ?_<;>intro h<;>(try simp only [hsN] at h)<;>(try simp only [h])<;>(try simp only [hsB] at h)<;>try exact xf)|fail)))
  have hc:decide (v=w)=true:=by
   simp only [decide_eq_true_eq]
   rw [hr,List.drop_eq_nil_of_le (by omega),List.drop_eq_nil_of_le (by omega)]
  rw [hc]
  (all_goals first|exact RetQ.fr 0|exact RetQ.fn 0|fail)
theorem vector_Same(v w:Vec)(hv:v.length≤9223372036854775807):AC Tryz.prog 88 [.d (.l v.length (vecD v)),.d (.l w.length (vecD w))] [] fun x σ=>x=bv (decide (v=w))∧σ=[]:=by
 refine AC.wk Tryz.func88 ?_
 focus (have kk1:=uN [] (slices_EqualEn v w hv);(repeat' (first|refine G ?_|refine AW.ret ?_|(refine GC ?_ ?_<;>intro h<;>(try simp only [hsB] at h)<;>try exact xf)|(refine GL ?_ ?_<;>intro h<;>(try simp only [hsN] at h)<;>(try simp only [h])<;>(try simp only [hsB] at h)<;>try exact xf)|fail));all_goals clear kk1)
 (all_goals first|exact RetQ.fr 0|exact RetQ.fn 0|fail)
abbrev Vfam:=Fam Cu.ent (fun (_:List UInt8) (x:En)=>x.1)
def Vec.last(v:Vec)(p:List UInt8):Prop:=(v=[]∧p=[])∨(0<v.length∧p.length≤32∧∃ n r,v.drop (v.length-1)=(p,n)::r)
theorem Vec.last_snoc(v:Vec)(a:List UInt8)(m:Nat)(ha:a.length≤32):(v++[(a,m)]:Vec).last a:=
 .inr ⟨by simp,ha,m,[],by simp⟩
theorem vec_snoc(v:Vec)(a:List UInt8)(m:Nat):vecD v++[.s (.string ⟨a.toArray⟩),.s (.int .u64 m)]=vecD (v++[(a,m)]):=by
 rw [vecD,vecD,List.map_append,List.flatten_append];rfl
theorem gd_name_empty(p:List UInt8)(c:Cu):gd (lessB p []) 6 (gd (decide (([]:List UInt8)≠[])) 14 c)=c.fail 14:=by
 have h1:lessB p []=false:=less_nil p
 have h2:decide (([]:List UInt8)≠[])=false:=by simp
 rw [h1,h2]
 exact Cu.fail_stuck (Cu.fail_e (by decide)) 6
theorem gd_name_order{p t:List UInt8}{c:Cu}(ht:t≠[])(h:lessB p t=false):gd (lessB p t) 6 (gd (decide (t≠[])) 14 c)=c.fail 6:=by
 have h2:decide (t≠[])=true:=by simpa using ht
 rw [h,h2];rfl
theorem gd_name_ok{p t:List UInt8}{c:Cu}(ht:t≠[])(h:lessB p t=true):gd (lessB p t) 6 (gd (decide (t≠[])) 14 c)=c:=by
 have h2:decide (t≠[])=true:=by simpa using ht
 rw [h,h2];rfl
theorem vcode_Take(s:List UInt8)(a:Nat)(e:Int)(h:Cu.Ok ⟨s,a,e⟩):AC Tryz.prog 151 [.p 0 0] [Cu.ob ⟨s,a,e⟩] fun x σ=>x=.d (.l (Cu.vec ⟨s,a,e⟩).1.length (vecD (Cu.vec ⟨s,a,e⟩).1))∧σ=[Cu.ob (Cu.vec ⟨s,a,e⟩).2]:=by
 refine AC.wk Tryz.func151 ?_
 have hlt:(Cu.count ⟨s,a,e⟩ 64).1≤64:=Cu.count_max ⟨s,a,e⟩ 64
 have hok0:=Cu.count_ok (max:=64) h
 have hvec:Cu.vec ⟨s,a,e⟩=(if ((Cu.count ⟨s,a,e⟩ 64).2.ents (Cu.count ⟨s,a,e⟩ 64).1 []).2.e≠0 then [] else ((Cu.count ⟨s,a,e⟩ 64).2.ents (Cu.count ⟨s,a,e⟩ 64).1 []).1,((Cu.count ⟨s,a,e⟩ 64).2.ents (Cu.count ⟨s,a,e⟩ 64).1 []).2):=rfl
 rw [hvec]
 generalize hz:Cu.count ⟨s,a,e⟩ 64=z at *
 obtain ⟨n,c0⟩:=z
 simp only at hlt hok0 ⊢
 clear hvec
 focus (have kxs:=hz;have kk1:=uN [0] (blob_Count s a e 64 h (by decide));(repeat' (first|(refine ADr.nil ?_;try clear hgv)|refine GO ?_|refine AW.ret ?_|(refine GC ?_ ?_<;>intro h<;>(try simp only [hsB] at h)<;>try exact xf)|(refine GD ?_ ?_<;>intro h<;>(try intro hgv)<;>(try simp only [hsN] at h)<;>(try simp only [h])<;>(try simp only [hsB] at h)<;>try exact xf)|(refine GL ?_ ?_<;>intro h<;>(try simp only [hsN] at h)<;>(try simp only [h])<;>(try simp only [hsB] at h)<;>try exact xf)|fail));all_goals clear kxs kk1)
 refine AW.birth 151 2 [4] [] ?_
 refine AW.rounds [0,2,3,4] (fun x:Vec × List UInt8 × Cu=>[(0,.p 0 0),(2,.d (.s (.slice none 0 0))),(3,iv .i64 n),(4,.o 1 x.1.length)]) (fun x=>[Cu.ob x.2.2,.row 151 2 x.1.length (vecD x.1)])
  (fun x=>x.2.2.Ok∧(x.2.2.e=0→Vec.last x.1 x.2.1)∧Vfam n [] c0 x.1 x.2.1 x.2.2) (fun x=>n-x.1.length) ([],[],c0) ⟨hok0,fun _=>.inl ⟨rfl,rfl⟩,Fam.start n [] c0⟩ rfl rfl (fun _ _=>Nat.le_of_ble_eq_true rfl) (fun _ _=>rfl) (fun _ _=>rfl) ?_
 rintro ⟨out,p,c⟩ ⟨hok,hlast,hf⟩ J hJ
 simp only at hok hlast hf ⊢
 by_cases hce:c.e=0
 case neg=>
  have hbad:=Fam.bad (fun k c h=>(trip_ent k).stuck c h) hf hce
  have hb2:(Cu.ents n [] c0).2=c:=hbad
  rw [hb2,if_pos hce]
  (have kk1:=uN [0] (cursor_Err c.s c.a c.e);exact We1)
 by_cases hlen:out.length<n
 case neg=>
  have hdone:=Fam.done hf hce hlen
  have hb2:Cu.ents n [] c0=(out,c):=hdone
  rw [hb2]
  simp only
  rw [if_neg (by simpa using hce)]
  (have kk1:=uN [0] (cursor_Err c.s c.a c.e);exact We1)
 have hstep:=Fam.step hf hce hlen
 have hbok:=Cu.blob_ok (max:=32) hok
 have hlim:=Cu.blob_lim c 32
 have hent:Cu.ent p c=(((c.blob 32).1,((gd (lessB p (c.blob 32).1) 6 (gd (decide ((c.blob 32).1≠[])) 14 (c.blob 32).2))).vnz.1),(gd (lessB p (c.blob 32).1) 6 (gd (decide ((c.blob 32).1≠[])) 14 (c.blob 32).2)).vnz.2):=rfl
 generalize hb0:c.blob 32=y at *
 obtain ⟨t,c1⟩:=y
 have hb:Cu.blob ⟨c.s,c.a,c.e⟩ 32=(t,c1):=hb0
 simp only at hlim hbok hent
 have hlast:=hlast hce
 have hec1:c1.e≠0→gd (lessB p t) 6 (gd (decide (t≠[])) 14 c1)=c1:=fun h=>by rw [gd_stuck h,gd_stuck h]
 have key:∀ q:Cu,gd (lessB p t) 6 (gd (decide (t≠[])) 14 c1)=q→q.Ok∧(c1.e≠0→q.e≠0)∧Cu.ent p c=((t,q.vtake.1),gd (decide (q.vtake.1≠0)) 7 q.vtake.2)∧q.vtake.2.Ok:=fun q hq=>by
  rw [hq] at hent
  have hqok:q.Ok:=by rw [←hq];exact gd_ok (gd_ok hbok)
  exact ⟨hqok,fun h=>by rw [←hq,hec1 h];exact h,hent,Cu.vtake_ok hqok⟩
 have fin:∀ (q:Cu) (m:Nat) (c2 c3:Cu),(c1.e≠0→q.e≠0)→Cu.vtake q=(m,c2)→Cu.ent p c=((t,q.vtake.1),gd (decide (q.vtake.1≠0)) 7 q.vtake.2)→gd (decide (m≠0)) 7 c2=c3→c2.Ok→
   (out++[(t,m)]).length≤n∧c3.Ok∧(c3.e=0→Vec.last (out++[(t,m)]) t)∧Vfam n [] c0 (out++[(t,m)]) t c3:=by
  intro q m c2 c3 hqe hv he h3 hok2
  rw [hv] at he
  simp only at he
  rw [h3] at he
  rw [he] at hstep
  refine ⟨hstep.1,by rw [←h3];exact gd_ok hok2,fun h0=>?_,hstep⟩
  refine Vec.last_snoc out t m ?_
  have e1:c1.e=0:=by
   apply Decidable.byContradiction
   intro hn
   have hq:=hqe hn
   have:=trip_v.stuck q hq
   rw [hv] at this
   simp only at this
   rw [←h3,this,gd_stuck hq] at h0
   exact hq h0
  have:=hlim e1
  simpa using this
 have go:∀ (q:Cu) (m:Nat) (c2:Cu),(c1.e≠0→q.e≠0)→Cu.vtake q=(m,c2)→Cu.ent p c=((t,q.vtake.1),gd (decide (q.vtake.1≠0)) 7 q.vtake.2)→c2.Ok→
   (m=0→∀ T' σ',keepT T' [0,2,3,4]=[(0,.p 0 0),(2,.d (.s (.slice none 0 0))),(3,iv .i64 n),(4,.o 1 (out.length+1))]→σ'.take 2=[Cu.ob (c2.fail 7),.row 151 2 (out.length+1) (vecD out++[.s (.string ⟨t.toArray⟩),.s (.int .u64 m)])]→J T' σ')∧
   (m≠0→∀ T' σ',keepT T' [0,2,3,4]=[(0,.p 0 0),(2,.d (.s (.slice none 0 0))),(3,iv .i64 n),(4,.o 1 (out.length+1))]→σ'.take 2=[Cu.ob c2,.row 151 2 (out.length+1) (vecD out++[.s (.string ⟨t.toArray⟩),.s (.int .u64 m)])]→J T' σ'):=by
  intro q m c2 hqe hv he hok2
  have hl:(out++[(t,m)]).length=out.length+1:=by simp
  constructor
  ·intro hm T' σ' h1 h2
   obtain ⟨f1,f2⟩:=fin q m c2 (c2.fail 7) hqe hv he (by unfold gd;rw [if_neg (by simpa using hm)]) hok2
   exact hJ (out++[(t,m)],t,c2.fail 7) T' σ' (by simp only [hl];omega) f2 (by simp only [hl];exact h1) (by rw [vec_snoc] at h2;simp only [hl];exact h2)
  ·intro hm T' σ' h1 h2
   obtain ⟨f1,f2⟩:=fin q m c2 c2 hqe hv he (by unfold gd;rw [if_pos (by simpa using hm)]) hok2
   exact hJ (out++[(t,m)],t,c2) T' σ' (by simp only [hl];omega) f2 (by simp only [hl];exact h1) (by rw [vec_snoc] at h2;simp only [hl];exact h2)
 clear hJ fin hstep hf hent
 by_cases h1:c1.e=0
 case neg=>
  obtain ⟨hqok,hqe,he,hvok⟩:=key (c1) (hec1 h1)
  generalize hv:Cu.vtake (c1)=w at *
  obtain ⟨m,c2⟩:=w
  have hv':Cu.vtake ⟨(c1).s,(c1).a,(c1).e⟩=(m,c2):=hv
  simp only at hvok
  obtain ⟨g7,g0⟩:=go (c1) m c2 hqe hv (by rw [hv];exact he) hvok
  focus (have kxs:=And.intro hb hv';have kk1:=uN [0] (blob_Take c.s c.a c.e 32 hok (by decide));have kuc1:=fun za zb zc=>uN [0] (cursor_Err za zb zc);have kk2:=uN [0] (varint_Take (c1).s (c1).a (c1).e hqok);have kua1:=fun za=>uN [0] (cursor_Fail c1.s c1.a c1.e za);have kk3:=uN [0] (cursor_Fail c2.s c2.a c2.e 7);(repeat' (first|(refine ADr.nil ?_;try clear hgv)|refine GO ?_|refine AW.ret ?_|(refine GC ?_ ?_<;>intro h<;>(try simp only [hsB] at h)<;>try exact xf)|(refine GD ?_ ?_<;>intro h<;>(try intro hgv)<;>(try simp only [hsN] at h)<;>(try simp only [h])<;>(try simp only [hsB] at h)<;>try exact xf)|(refine GL ?_ ?_<;>intro h<;>(try simp only [hsN] at h)<;>(try simp only [h])<;>(try simp only [hsB] at h)<;>try exact xf)|fail));all_goals clear kxs kk1 kuc1 kk2 kua1 kk3)
  all_goals first|exact g7 (by omega) _ _ rfl rfl|exact g0 (by omega) _ _ rfl rfl|(exfalso;simp_all;done)
 by_cases h2:t=[]
 ·subst h2
  obtain ⟨hqok,hqe,he,hvok⟩:=key (c1.fail 14) (gd_name_empty p c1)
  generalize hv:Cu.vtake (c1.fail 14)=w at *
  obtain ⟨m,c2⟩:=w
  have hv':Cu.vtake ⟨(c1.fail 14).s,(c1.fail 14).a,(c1.fail 14).e⟩=(m,c2):=hv
  simp only at hvok
  obtain ⟨g7,g0⟩:=go (c1.fail 14) m c2 hqe hv (by rw [hv];exact he) hvok
  focus (have kxs:=And.intro hb hv';have kk1:=uN [0] (blob_Take c.s c.a c.e 32 hok (by decide));have kuc1:=fun za zb zc=>uN [0] (cursor_Err za zb zc);have kk2:=uN [0] (varint_Take (c1.fail 14).s (c1.fail 14).a (c1.fail 14).e hqok);have kua1:=fun za=>uN [0] (cursor_Fail c1.s c1.a c1.e za);have kk3:=uN [0] (cursor_Fail c2.s c2.a c2.e 7);(repeat' (first|(refine ADr.nil ?_;try clear hgv)|refine GO ?_|refine AW.ret ?_|(refine GC ?_ ?_<;>intro h<;>(try simp only [hsB] at h)<;>try exact xf)|(refine GD ?_ ?_<;>intro h<;>(try intro hgv)<;>(try simp only [hsN] at h)<;>(try simp only [h])<;>(try simp only [hsB] at h)<;>try exact xf)|(refine GL ?_ ?_<;>intro h<;>(try simp only [hsN] at h)<;>(try simp only [h])<;>(try simp only [hsB] at h)<;>try exact xf)|fail));all_goals clear kxs kk1 kuc1 kk2 kua1 kk3)
  all_goals first|exact g7 (by omega) _ _ rfl rfl|exact g0 (by omega) _ _ rfl rfl|(exfalso;simp_all;done)
 rcases hlast with ⟨rfl,rfl⟩|⟨hlo,hpl,pn,pr,hpd⟩
 ·have hl0:lessB [] t=true:=by
    cases hx:t with
    | nil=>exact absurd hx h2
    | cons b u=>exact less_nil_cons b u
  obtain ⟨hqok,hqe,he,hvok⟩:=key (c1) (gd_name_ok h2 hl0)
  generalize hv:Cu.vtake (c1)=w at *
  obtain ⟨m,c2⟩:=w
  have hv':Cu.vtake ⟨(c1).s,(c1).a,(c1).e⟩=(m,c2):=hv
  simp only at hvok
  obtain ⟨g7,g0⟩:=go (c1) m c2 hqe hv (by rw [hv];exact he) hvok
  focus (have kxs:=And.intro hb hv';have kk1:=uN [0] (blob_Take c.s c.a c.e 32 hok (by decide));have kuc1:=fun za zb zc=>uN [0] (cursor_Err za zb zc);have kk2:=uN [0] (varint_Take (c1).s (c1).a (c1).e hqok);have kua1:=fun za=>uN [0] (cursor_Fail c1.s c1.a c1.e za);have kk3:=uN [0] (cursor_Fail c2.s c2.a c2.e 7);(repeat' (first|(refine ADr.nil ?_;try clear hgv)|refine GO ?_|refine AW.ret ?_|(refine GC ?_ ?_<;>intro h<;>(try simp only [hsB] at h)<;>try exact xf)|(refine GD ?_ ?_<;>intro h<;>(try intro hgv)<;>(try simp only [hsN] at h)<;>(try simp only [h])<;>(try simp only [hsB] at h)<;>try exact xf)|(refine GL ?_ ?_<;>intro h<;>(try simp only [hsN] at h)<;>(try simp only [h])<;>(try simp only [hsB] at h)<;>try exact xf)|fail));all_goals clear kxs kk1 kuc1 kk2 kua1 kk3)
  all_goals first|exact g7 (by omega) _ _ rfl rfl|exact g0 (by omega) _ _ rfl rfl|(exfalso;simp_all;done)
 have hcd:=vec_drop hpd
 have hi1:((out.length:Int)-1).toNat=out.length-1:=by omega
 have htri:=less_tri t p
 by_cases h3:lessB p t=true
 ·have h3':Op.bytesLess p t=true:=h3
  obtain ⟨hqok,hqe,he,hvok⟩:=key (c1) (gd_name_ok h2 h3)
  generalize hv:Cu.vtake (c1)=w at *
  obtain ⟨m,c2⟩:=w
  have hv':Cu.vtake ⟨(c1).s,(c1).a,(c1).e⟩=(m,c2):=hv
  simp only at hvok
  obtain ⟨g7,g0⟩:=go (c1) m c2 hqe hv (by rw [hv];exact he) hvok
  focus (have kxs:=And.intro hb (And.intro hv' (And.intro hcd (And.intro hi1 (And.intro htri h3'))));have kk1:=uN [0] (blob_Take c.s c.a c.e 32 hok (by decide));have kuc1:=fun za zb zc=>uN [0] (cursor_Err za zb zc);have kk2:=uN [0] (varint_Take (c1).s (c1).a (c1).e hqok);have kua1:=fun za=>uN [0] (cursor_Fail c1.s c1.a c1.e za);have kk3:=uN [0] (cursor_Fail c2.s c2.a c2.e 7);(repeat' (first|(refine ADr.nil ?_;try clear hgv)|refine GO ?_|refine AW.ret ?_|(refine GC ?_ ?_<;>intro h<;>(try simp only [hsB] at h)<;>try exact xf)|(refine GD ?_ ?_<;>intro h<;>(try intro hgv)<;>(try simp only [hsN] at h)<;>(try simp only [h])<;>(try simp only [hsB] at h)<;>try exact xf)|(refine GL ?_ ?_<;>intro h<;>(try simp only [hsN] at h)<;>(try simp only [h])<;>(try simp only [hsB] at h)<;>try exact xf)|fail));all_goals clear kxs kk1 kuc1 kk2 kua1 kk3)
  all_goals first|exact g7 (by omega) _ _ rfl rfl|exact g0 (by omega) _ _ rfl rfl|(exfalso;simp_all;done)
 ·have h3':Op.bytesLess p t=false:=by simpa using h3
  obtain ⟨hqok,hqe,he,hvok⟩:=key (c1.fail 6) (gd_name_order h2 h3')
  generalize hv:Cu.vtake (c1.fail 6)=w at *
  obtain ⟨m,c2⟩:=w
  have hv':Cu.vtake ⟨(c1.fail 6).s,(c1.fail 6).a,(c1.fail 6).e⟩=(m,c2):=hv
  simp only at hvok
  obtain ⟨g7,g0⟩:=go (c1.fail 6) m c2 hqe hv (by rw [hv];exact he) hvok
  focus (have kxs:=And.intro hb (And.intro hv' (And.intro hcd (And.intro hi1 (And.intro htri h3'))));have kk1:=uN [0] (blob_Take c.s c.a c.e 32 hok (by decide));have kuc1:=fun za zb zc=>uN [0] (cursor_Err za zb zc);have kk2:=uN [0] (varint_Take (c1.fail 6).s (c1.fail 6).a (c1.fail 6).e hqok);have kua1:=fun za=>uN [0] (cursor_Fail c1.s c1.a c1.e za);have kk3:=uN [0] (cursor_Fail c2.s c2.a c2.e 7);(repeat' (first|(refine ADr.nil ?_;try clear hgv)|refine GO ?_|refine AW.ret ?_|(refine GC ?_ ?_<;>intro h<;>(try simp only [hsB] at h)<;>try exact xf)|(refine GD ?_ ?_<;>intro h<;>(try intro hgv)<;>(try simp only [hsN] at h)<;>(try simp only [h])<;>(try simp only [hsB] at h)<;>try exact xf)|(refine GL ?_ ?_<;>intro h<;>(try simp only [hsN] at h)<;>(try simp only [h])<;>(try simp only [hsB] at h)<;>try exact xf)|fail));all_goals clear kxs kk1 kuc1 kk2 kua1 kk3)
  all_goals first|exact g7 (by omega) _ _ rfl rfl|exact g0 (by omega) _ _ rfl rfl|(exfalso;simp_all;done)
end Go.AW
