/-
  vectors: what is right, what is the same, what is too great: the program's and the document's.
-/
import Derived.Test.YtdnfcckkdnkaiaaGreatU09
import Derived.Test.YtdnfcckkdnkaiaaGreatU20
set_option linter.unusedVariables false
set_option linter.unusedSimpArgs false
set_option maxHeartbeats 4000000
set_option maxRecDepth 10000
namespace Go.AW
open Go Go.Proofs
attribute [local irreducible] thenQ blockQ RetQ AL AW AC AOp
theorem ref10_Check(v:Vec)(hv:v.fits):AC Tryz.prog 80 [.d (.l v.length (vecD v))] [] fun x σ=>x=iv .i64 v.check∧σ=[]:=by
 refine AC.wk Tryz.func80 ?_
 by_cases h64:64<v.length
 ·have hc:v.check=3:=by unfold Vec.check;rw [if_pos h64]
  focus (have kxs:=hc;(repeat' (first|(refine ADr.nil ?_;try clear hgv)|refine GO ?_|refine AW.ret ?_|(refine GC ?_ ?_<;>intro h<;>(try simp only [hsB] at h)<;>try exact xf)|(refine GD ?_ ?_<;>intro h<;>(try intro hgv)<;>(try simp only [hsN] at h)<;>(try simp only [h])<;>(try simp only [hsB] at h)<;>try exact xf)|(refine GL ?_ ?_<;>intro h<;>(try simp only [hsN] at h)<;>(try simp only [h])<;>(try simp only [hsB] at h)<;>try exact xf)|fail));all_goals clear kxs)
  all_goals first|(exfalso;omega)|((all_goals have kxf:=hc;first|exact RetQ.xr 0|exact RetQ.xn 0|fail);done)
 generalize hR:vcheck [] v=R
 have hc:v.check=R:=by unfold Vec.check;rw [if_neg h64,hR]
 rw [hc]
 focus ((repeat' (first|(refine ADr.nil ?_;try clear hgv)|refine GO ?_|refine AW.ret ?_|(refine GC ?_ ?_<;>intro h<;>(try simp only [hsB] at h)<;>try exact xf)|(refine GD ?_ ?_<;>intro h<;>(try intro hgv)<;>(try simp only [hsN] at h)<;>(try simp only [h])<;>(try simp only [hsB] at h)<;>try exact xf)|(refine GL ?_ ?_<;>intro h<;>(try simp only [hsN] at h)<;>(try simp only [h])<;>(try simp only [hsB] at h)<;>try exact xf)|fail)))
 refine AW.rounds [0,2,3] (fun i:Nat=>[(0,.d (.l v.length (vecD v))),(2,iv .i64 0),(3,iv .i64 i)]) (fun _=>[])
  (fun i=>i≤v.length∧∃ p,v.ahead i p∧vcheck p (v.drop i)=R) (fun i=>v.length-i) 0 ⟨Nat.zero_le _,[],.inl ⟨rfl,rfl⟩,hR⟩ rfl rfl (fun _ _=>Nat.zero_le _) (fun _ _=>rfl) (fun _ _=>rfl) ?_
 rintro i ⟨hi,p,hp,hr⟩ J hJ
 by_cases hil:i<v.length
 ·obtain ⟨x,r,hd⟩:=next_at hil
  have hcd:=vec_drop hd
  rw [hd] at hr
  have hR2:=vcheck_step hr
  have hxl:=hv.2.1 x (next_mem hd)
  have hnx:∀ hx:¬ 32<x.1.length,v.ahead (i+1) x.1:=fun hx=>.inr ⟨by omega,by omega,x.2,r,by simpa using hd⟩
  have hnd:=next_drop hd
  have hxe:x.1=[]↔x.1.length=0:=by simp
  rcases hp with ⟨rfl,rfl⟩|⟨h0,hpl,n,r',hp⟩
  ·have hl0:x.1≠[]→lessB [] x.1=true:=fun h=>by
     cases hx:x.1 with
     | nil=>exact absurd hx h
     | cons b t=>exact less_nil_cons b t
   focus (have kxs:=hcd;(repeat' (first|(refine ADr.nil ?_;try clear hgv)|refine GO ?_|refine AW.ret ?_|(refine GC ?_ ?_<;>intro h<;>(try simp only [hsB] at h)<;>try exact xf)|(refine GD ?_ ?_<;>intro h<;>(try intro hgv)<;>(try simp only [hsN] at h)<;>(try simp only [h])<;>(try simp only [hsB] at h)<;>try exact xf)|(refine GL ?_ ?_<;>intro h<;>(try simp only [hsN] at h)<;>(try simp only [h])<;>(try simp only [hsB] at h)<;>try exact xf)|fail));all_goals clear kxs)
   all_goals first
    | (rw [show R=3 from by rw [hR2,if_pos (by omega)]];(first|exact RetQ.zr 0|exact RetQ.zn 0|fail))
    | (rw [show R=14 from by rw [hR2,if_neg (by omega),if_pos (by first|assumption|(rw [hxe];omega))]];(first|exact RetQ.zr 0|exact RetQ.zn 0|fail))
    | (rw [show R=6 from by rw [hR2,if_neg (by omega),if_neg (by first|assumption|(rw [hxe];omega)),if_pos (by first|assumption|(clear hR2 hr hJ;simp_all;done))]];(first|exact RetQ.zr 0|exact RetQ.zn 0|fail))
    | (rw [show R=7 from by rw [hR2,if_neg (by omega),if_neg (by first|assumption|(rw [hxe];omega)),if_neg (by first|(rw [hl0 (by first|assumption|(rw [ne_eq,hxe];omega))];decide)|(clear hR2 hr hJ;simp_all;done)),if_pos (by omega)]];(first|exact RetQ.zr 0|exact RetQ.zn 0|fail))
    | (refine hJ 1 _ _ (by omega) ⟨hil,x.1,hnx (by omega),?_⟩ rfl rfl;rw [hnd,hR2,if_neg (by omega),if_neg (by rw [hxe];omega),if_neg (by rw [hl0 (by rw [ne_eq,hxe];omega)];decide),if_neg (by omega)])
    | (exfalso;clear hR2 hr hJ;simp_all;done)
  ·have hcp:=vec_drop hp
   have hi1:((i:Int)-1).toNat=i-1:=by omega
   focus (have kxs:=And.intro hcd (And.intro hcp hi1);have kpb1:=fun za zb=>uN [] (ref06_Below p x.1 za zb);(repeat' (first|(refine ADr.nil ?_;try clear hgv)|refine GO ?_|refine AW.ret ?_|(refine GC ?_ ?_<;>intro h<;>(try simp only [hsB] at h)<;>try exact xf)|(refine GD ?_ ?_<;>intro h<;>(try intro hgv)<;>(try simp only [hsN] at h)<;>(try simp only [h])<;>(try simp only [hsB] at h)<;>try exact xf)|(refine GL ?_ ?_<;>intro h<;>(try simp only [hsN] at h)<;>(try simp only [h])<;>(try simp only [hsB] at h)<;>try exact xf)|fail));all_goals clear kxs kpb1)
   all_goals first
    | (rw [show R=3 from by rw [hR2,if_pos (by omega)]];(first|exact RetQ.zr 0|exact RetQ.zn 0|fail))
    | (rw [show R=14 from by rw [hR2,if_neg (by omega),if_pos (by first|assumption|(rw [hxe];omega))]];(first|exact RetQ.zr 0|exact RetQ.zn 0|fail))
    | (rw [show R=6 from by rw [hR2,if_neg (by omega),if_neg (by first|assumption|(rw [hxe];omega)),if_pos (by first|assumption|(clear hR2 hr hJ;simp_all;done))]];(first|exact RetQ.zr 0|exact RetQ.zn 0|fail))
    | (rw [show R=7 from by rw [hR2,if_neg (by omega),if_neg (by first|assumption|(rw [hxe];omega)),if_neg (by clear hR2 hr hJ;simp_all;done),if_pos (by omega)]];(first|exact RetQ.zr 0|exact RetQ.zn 0|fail))
    | (refine hJ (i+1) _ _ (by omega) ⟨hil,x.1,hnx (by omega),?_⟩ rfl rfl;rw [hnd,hR2,if_neg (by omega),if_neg (by rw [hxe];omega),if_neg (by clear hR2 hr hJ;simp_all;done),if_neg (by omega)])
    | (exfalso;clear hR2 hr hJ;simp_all;done)
 ·focus ((repeat' (first|(refine ADr.nil ?_;try clear hgv)|refine GO ?_|refine AW.ret ?_|(refine GC ?_ ?_<;>intro h<;>(try simp only [hsB] at h)<;>try exact xf)|(refine GD ?_ ?_<;>intro h<;>(try intro hgv)<;>(try simp only [hsN] at h)<;>(try simp only [h])<;>(try simp only [hsB] at h)<;>try exact xf)|(refine GL ?_ ?_<;>intro h<;>(try simp only [hsN] at h)<;>(try simp only [h])<;>(try simp only [hsB] at h)<;>try exact xf)|fail)))
  have h0:v.drop i=[]:=List.drop_eq_nil_of_le (by omega)
  rw [h0] at hr
  have hR0:R=0:=hr.symm
  rw [hR0]
  (all_goals first|exact RetQ.fr 0|exact RetQ.fn 0|fail)
theorem ref10_Same(v w:Vec)(hv:v.length≤9223372036854775807):AC Tryz.prog 48 [.d (.l v.length (vecD v)),.d (.l w.length (vecD w))] [] fun x σ=>x=bv (decide (v=w))∧σ=[]:=by
 refine AC.wk Tryz.func48 ?_
 by_cases hl:v.length=w.length
 case neg=>
  have hc:decide (v=w)=false:=by simp;rintro rfl;exact hl rfl
  focus (have kxs:=hc;(repeat' (first|(refine ADr.nil ?_;try clear hgv)|refine GO ?_|refine AW.ret ?_|(refine GC ?_ ?_<;>intro h<;>(try simp only [hsB] at h)<;>try exact xf)|(refine GD ?_ ?_<;>intro h<;>(try intro hgv)<;>(try simp only [hsN] at h)<;>(try simp only [h])<;>(try simp only [hsB] at h)<;>try exact xf)|(refine GL ?_ ?_<;>intro h<;>(try simp only [hsN] at h)<;>(try simp only [h])<;>(try simp only [hsB] at h)<;>try exact xf)|fail));all_goals clear kxs)
  all_goals first|(exfalso;omega)|((all_goals have kxf:=hc;first|exact RetQ.xr 0|exact RetQ.xn 0|fail);done)
 focus ((repeat' (first|(refine ADr.nil ?_;try clear hgv)|refine GO ?_|refine AW.ret ?_|(refine GC ?_ ?_<;>intro h<;>(try simp only [hsB] at h)<;>try exact xf)|(refine GD ?_ ?_<;>intro h<;>(try intro hgv)<;>(try simp only [hsN] at h)<;>(try simp only [h])<;>(try simp only [hsB] at h)<;>try exact xf)|(refine GL ?_ ?_<;>intro h<;>(try simp only [hsN] at h)<;>(try simp only [h])<;>(try simp only [hsB] at h)<;>try exact xf)|fail)))
 refine AW.rounds [0,1,4,5] (fun i:Nat=>[(0,.d (.l v.length (vecD v))),(1,.d (.l w.length (vecD w))),(4,bv false),(5,iv .i64 i)]) (fun _=>[])
  (fun i=>i≤v.length∧(v=w↔v.drop i=w.drop i)) (fun i=>v.length-i) 0 ⟨Nat.zero_le _,by simp⟩ rfl rfl (fun _ _=>Nat.zero_le _) (fun _ _=>rfl) (fun _ _=>rfl) ?_
 rintro i ⟨hi,hr⟩ J hJ
 by_cases hil:i<v.length
 ·obtain ⟨x,r,hd⟩:=next_at hil
  obtain ⟨y,s,he⟩:=next_at (l:=w) (i:=i) (by omega)
  have hcd:=vec_drop hd
  have hce:=vec_drop he
  focus (have kxs:=And.intro hcd hce;(repeat' (first|(refine ADr.nil ?_;try clear hgv)|refine GO ?_|refine AW.ret ?_|(refine GC ?_ ?_<;>intro h<;>(try simp only [hsB] at h)<;>try exact xf)|(refine GD ?_ ?_<;>intro h<;>(try intro hgv)<;>(try simp only [hsN] at h)<;>(try simp only [h])<;>(try simp only [hsB] at h)<;>try exact xf)|(refine GL ?_ ?_<;>intro h<;>(try simp only [hsN] at h)<;>(try simp only [h])<;>(try simp only [hsB] at h)<;>try exact xf)|fail));all_goals clear kxs)
  ·have hn:¬ v=w:=by
     rw [hr,hd,he]
     intro e
     obtain ⟨rfl,_⟩:=List.cons.inj e
     simp at h
   have hc:decide (v=w)=false:=by simp [hn]
   rw [hc]
   (all_goals first|exact RetQ.fr 0|exact RetQ.fn 0|fail)
  ·refine hJ (i+1) _ _ (by omega) ⟨hil,?_⟩ rfl rfl
   have hxy:x=y:=Prod.ext h.1 (by omega)
   rw [hr,next_drop hd,next_drop he,hd,he,hxy]
   simp
 ·focus ((repeat' (first|(refine ADr.nil ?_;try clear hgv)|refine GO ?_|refine AW.ret ?_|(refine GC ?_ ?_<;>intro h<;>(try simp only [hsB] at h)<;>try exact xf)|(refine GD ?_ ?_<;>intro h<;>(try intro hgv)<;>(try simp only [hsN] at h)<;>(try simp only [h])<;>(try simp only [hsB] at h)<;>try exact xf)|(refine GL ?_ ?_<;>intro h<;>(try simp only [hsN] at h)<;>(try simp only [h])<;>(try simp only [hsB] at h)<;>try exact xf)|fail)))
  have hc:decide (v=w)=true:=by
   simp only [decide_eq_true_eq]
   rw [hr,List.drop_eq_nil_of_le (by omega),List.drop_eq_nil_of_le (by omega)]
  rw [hc]
  (all_goals first|exact RetQ.fr 0|exact RetQ.fn 0|fail)
section
variable (b : List UInt8) (m e : Int)
theorem ref11_Put(ok:Pe.Ok ⟨b,m,e⟩)(v:Vec)(hfv:v.fits)(hl:m≤140737488355328∨b.length+(evec v).length+20≤140737488355328) :
  AC Tryz.prog 69 [.p 0 0,.d (.l v.length (vecD v))] [Pe.ro ⟨b,m,e⟩] fun x σ=>x=.t []∧σ=[Pe.ro (Pe.vec ⟨b,m,e⟩ v)]:=by
 refine AC.wk Tryz.func69 ?_
 by_cases hc:v.check=0
 case neg=>
  have hv:Pe.vec ⟨b,m,e⟩ v=Pe.fail ⟨b,m,e⟩ v.check:=by unfold Pe.vec;rw [if_pos hc]
  rw [hv]
  (have kk1:=uN [] (ref10_Check v hfv);have kua1:=fun za=>uN [0] (ref02_Fail b m e za);exact Wd1)
 have hvec:Pe.vec ⟨b,m,e⟩ v=(Pe.text ⟨b,m,e⟩ (vput v.length)).ents v:=by unfold Pe.vec;rw [if_neg (by simpa using hc)]
 obtain ⟨hv64,hv32⟩:=Vec.check_len hc
 have hevl:(evec v).length=(vput v.length).length+(v.map eent).flatten.length:=by unfold evec;rw [List.length_append]
 have hpl:=Pe.text_len ⟨b,m,e⟩ (vput v.length)
 have hpm:=Pe.text_m ⟨b,m,e⟩ (vput v.length)
 have hpo:=Pe.text_ok (s:=vput v.length) ok (by simp only;omega)
 have hvl:=vput_len10 (n:=v.length) (by omega)
 simp only at hpl hpm
 generalize hp:Pe.text ⟨b,m,e⟩ (vput v.length)=p at *
 focus (have kxs:=And.intro hc hp;have kk1:=uN [] (ref10_Check v hfv);have kk2:=uN [0] (ref03_Put b m e ok v.length (by omega) (by omega));(repeat' (first|refine G ?_|refine AW.ret ?_|(refine GC ?_ ?_<;>intro h<;>(try simp only [hsB] at h)<;>try exact xf)|(refine GL ?_ ?_<;>intro h<;>(try simp only [hsN] at h)<;>(try simp only [h])<;>(try simp only [hsB] at h)<;>try exact xf)|fail));all_goals clear kxs kk1 kk2)
 refine AW.rounds [0,1,5] (fun j:Nat=>[(0,.p 0 0),(1,.d (.l v.length (vecD v))),(5,iv .i64 j)]) (fun j=>[Pe.ro (Pe.ents p (v.take j))])
  (fun j=>j≤v.length) (fun j=>v.length-j) 0 (Nat.zero_le _) rfl rfl (fun _ _=>Nat.le_of_ble_eq_true rfl) (fun _ _=>rfl) (fun _ _=>rfl) ?_
 intro j hj J2 hJ2
 generalize hq2:Pe.ents p (v.take j)=p2
 have hqo:p2.Ok∧p2.m=m∧p2.b.length≤p.b.length+((v.take j).map eent).flatten.length:=by
  have h1:=take_flat eent v j
  rw [←hq2]
  exact ⟨pens_ents.keep hpo (by omega),(pens_ents.m _ _).trans hpm,pens_ents.len _ _⟩
 obtain ⟨hok2,hqm2,hqb2⟩:=hqo
 by_cases hjl:j<v.length
 case neg=>
  have hj2:j=v.length:=by omega
  rw [hj2,List.take_length] at hq2
  rw [hvec,hq2]
  exact Wd1
 obtain ⟨x,r2,hd2⟩:=next_at hjl
 have hcd2:=vec_drop hd2
 have hn3:Pe.ents p (v.take (j+1))=p2.ent x:=by rw [next_take hd2,Pe.ents_snoc,hq2]
 have htf2:=take_flat eent v j
 rw [hd2] at htf2
 simp only [List.map_cons,List.flatten_cons,List.length_append] at htf2
 have hx32:=hv32 x (next_mem hd2)
 have hxn:=hfv.2.2 x (next_mem hd2)
 have hel:(eent x).length=(vput x.1.length).length+x.1.length+(vput x.2).length:=by unfold eent eblob;simp only [List.length_append]
 have hbl:=Pe.blob_m p2 32 x.1
 have hbo:=Pe.blob_ok (p:=p2) (max:=32) (s:=x.1) hok2 (by omega) (by omega)
 have hble:=(pens_blob 32).len p2 x.1
 have hebl:(eblob x.1).length=(vput x.1.length).length+x.1.length:=by unfold eblob;rw [List.length_append]
 generalize hp3:p2.blob 32 x.1=p3 at *
 have hp3':Pe.blob ⟨p2.b,p2.m,p2.e⟩ 32 x.1=p3:=hp3
 have hent:p2.ent x=p3.text (vput x.2):=by unfold Pe.ent;rw [hp3]
 focus (have kxs:=And.intro hcd2 hp3';have kk1:=uN [0] (ref06_Put p2.b x.1 p2.m p2.e 32 hok2 (by omega) (by omega));have kk2:=uN [0] (ref03_Put p3.b p3.m p3.e hbo x.2 hxn (by omega));(repeat' (first|refine G ?_|refine AW.ret ?_|(refine GC ?_ ?_<;>intro h<;>(try simp only [hsB] at h)<;>try exact xf)|(refine GL ?_ ?_<;>intro h<;>(try simp only [hsN] at h)<;>(try simp only [h])<;>(try simp only [hsB] at h)<;>try exact xf)|fail));all_goals clear kxs kk1 kk2)
 all_goals first
  | (refine hJ2 (j+1) _ _ (by omega) hjl rfl ?_;rw [hn3,hent];rfl)
  | (exfalso;simp_all;done)
end
theorem flat_take{α β:Type}{f:α→List β}{sz:Nat}(hf:∀ x,(f x).length=sz):∀ (l:List α) (i:Nat),((l.map f).flatten).take (i*sz)=((l.take i).map f).flatten
 | [],i=>by simp
 | x::l,0=>by simp
 | x::l,i+1=>by
  have h:=hf x
  rw [Nat.succ_mul,Nat.add_comm]
  simp only [List.map_cons,List.flatten_cons,List.take_succ_cons]
  rw [←h,List.take_length_add_append,h,flat_take hf l i]
theorem oss_drop{l r:List Os1}{x:Os1}{i:Nat}(h:l.drop i=x::r):(ossD l).drop (i*3)=.l x.clk.length (vecD x.clk)::.s (.bool x.dead)::.s (.string ⟨x.val.toArray⟩)::ossD r:=by
 rw [ossD,flat_drop (f:=osD) (sz:=3) (fun _=>rfl),h];rfl
theorem ostep{seen:List Vec}{x:Os1}{r:List Os1}{R:Int}(h:ocheck seen (x::r)=R):R=if x.clk.check≠0 then x.clk.check else if 32768<x.val.length then 3 else if x.clk ∈ seen then 6 else ocheck (seen++[x.clk]) r:=h.symm
theorem legacy_Check(o:Od)(ho:o.fits):AC Tryz.prog 185 [odV o] [] fun x σ=>x=iv .i64 o.check∧σ=[]:=by
 obtain ⟨key,l⟩:=o
 obtain ⟨hk,hl,hf⟩:=ho
 simp only at hk hl hf
 refine AC.wk Tryz.func185 ?_
 by_cases ho:outside key l.length=0
 case neg=>
  have hR:Od.check ⟨key,l⟩=outside key l.length:=by unfold Od.check;rw [if_pos ho]
  rw [hR]
  unfold outside at ho ⊢
  focus ((repeat' (first|(refine ADr.nil ?_;try clear hgv)|refine GO ?_|refine AW.ret ?_|(refine GC ?_ ?_<;>intro h<;>(try simp only [hsB] at h)<;>try exact xf)|(refine GD ?_ ?_<;>intro h<;>(try intro hgv)<;>(try simp only [hsN] at h)<;>(try simp only [h])<;>(try simp only [hsB] at h)<;>try exact xf)|(refine GL ?_ ?_<;>intro h<;>(try simp only [hsN] at h)<;>(try simp only [h])<;>(try simp only [hsB] at h)<;>try exact xf)|fail)))
  all_goals first
   | (rw [if_pos (by omega)];(first|exact RetQ.zr 0|exact RetQ.zn 0|fail))
   | (rw [if_neg (by omega),if_pos (by first|assumption|simp_all)];(first|exact RetQ.zr 0|exact RetQ.zn 0|fail))
   | (rw [if_neg (by omega),if_neg (by first|assumption|simp_all),if_pos (by omega)];(first|exact RetQ.zr 0|exact RetQ.zn 0|fail))
   | (rw [if_neg (by omega),if_neg (by first|assumption|simp_all),if_neg (by omega),if_pos (by omega)];(first|exact RetQ.zr 0|exact RetQ.zn 0|fail))
   | (exfalso;rw [if_neg (by omega),if_neg (by first|assumption|simp_all),if_neg (by omega),if_neg (by omega)] at ho;exact ho rfl)
   | trace_state
 generalize hR:ocheck [] l=R
 have hc:Od.check ⟨key,l⟩=R:=by unfold Od.check;rw [if_neg (by simpa using ho),hR]
 rw [hc]
 obtain ⟨ho1,ho2,ho3,ho4⟩:=outside_zero.1 ho
 focus ((repeat' (first|(refine ADr.nil ?_;try clear hgv)|refine GO ?_|refine AW.ret ?_|(refine GC ?_ ?_<;>intro h<;>(try simp only [hsB] at h)<;>try exact xf)|(refine GD ?_ ?_<;>intro h<;>(try intro hgv)<;>(try simp only [hsN] at h)<;>(try simp only [h])<;>(try simp only [hsB] at h)<;>try exact xf)|(refine GL ?_ ?_<;>intro h<;>(try simp only [hsN] at h)<;>(try simp only [h])<;>(try simp only [hsB] at h)<;>try exact xf)|fail)))
 all_goals first|exact xg|skip
 refine AW.rounds [1,2,26,27,28] (fun i:Nat=>[(1,.p 0 0),(2,iv .i64 0),(26,.d (.l l.length (ossD l))),(27,iv .i64 l.length),(28,iv .i64 i)]) (fun _=>[.box 29 [sv (bs key),.d (.l l.length (ossD l))]])
  (fun i=>i≤l.length∧ocheck ((l.take i).map Os1.clk) (l.drop i)=R) (fun i=>l.length-i) 0 ⟨Nat.zero_le _,hR⟩ rfl rfl (fun _ _=>Nat.zero_le _) (fun _ _=>rfl) (fun _ _=>rfl) ?_
 rintro i ⟨hi,hr⟩ J hJ
 by_cases hil:i<l.length
 ·obtain ⟨x,r,hd⟩:=next_at hil
  have hcd:=oss_drop hd
  rw [hd] at hr
  have hR2:=ostep hr
  have hfx:=hf x (next_mem hd)
  have htw:AC Tryz.prog 251 [.d (.l i ((ossD l).take (i*3))),.d (.l x.clk.length (vecD x.clk))] [] fun y σ'=>y=bv (decide (x.clk ∈ (l.take i).map Os1.clk))∧σ'=[]:=by
   have h1:=legacy_twice (l.take i) x.clk (by rw [List.length_take];omega) (fun y hy=>(hf y (List.mem_of_mem_take hy)).1.1)
   have h2:((l.take i).any fun y=>decide (y.clk=x.clk))=decide (x.clk ∈ (l.take i).map Os1.clk):=by
    rw [Bool.eq_iff_iff,List.any_eq_true,decide_eq_true_eq,List.mem_map]
    simp only [decide_eq_true_eq]
   rw [h2,List.length_take,Nat.min_eq_left hi,ossD,←flat_take (f:=osD) (sz:=3) (fun _=>rfl)] at h1
   exact h1
  focus (have kxs:=hcd;have kk1:=uN [] (vector_Check x.clk hfx.1);have kk2:=uN [] htw;(repeat' (first|(refine ADr.nil ?_;try clear hgv)|refine GO ?_|refine AW.ret ?_|(refine GC ?_ ?_<;>intro h<;>(try simp only [hsB] at h)<;>try exact xf)|(refine GD ?_ ?_<;>intro h<;>(try intro hgv)<;>(try simp only [hsN] at h)<;>(try simp only [h])<;>(try simp only [hsB] at h)<;>try exact xf)|(refine GL ?_ ?_<;>intro h<;>(try simp only [hsN] at h)<;>(try simp only [h])<;>(try simp only [hsB] at h)<;>try exact xf)|fail));all_goals clear kxs kk1 kk2)
  all_goals first
   | (rw [show R=x.clk.check from by rw [hR2,if_pos (by assumption)]];(first|exact RetQ.zr 0|exact RetQ.zn 0|fail))
   | (rw [show R=3 from by rw [hR2,if_neg (by simp only [ne_eq,Decidable.not_not];assumption),if_pos (by omega)]];(first|exact RetQ.zr 0|exact RetQ.zn 0|fail))
   | (rw [show R=6 from by rw [hR2,if_neg (by simp only [ne_eq,Decidable.not_not];assumption),if_neg (by omega),if_pos (by assumption)]];(first|exact RetQ.zr 0|exact RetQ.zn 0|fail))
   | (refine hJ (i+1) _ _ (by omega) ⟨hil,?_⟩ rfl rfl;rw [next_drop hd,next_take hd,List.map_append,hR2,if_neg (by simp only [ne_eq,Decidable.not_not];assumption),if_neg (by omega),if_neg (by assumption)];rfl)
   | trace_state
 ·have h0:l.drop i=[]:=List.drop_eq_nil_of_le (by omega)
  rw [h0] at hr
  have hR0:R=0:=hr.symm
  rw [hR0]
  focus ((repeat' (first|(refine ADr.nil ?_;try clear hgv)|refine GO ?_|refine AW.ret ?_|(refine GC ?_ ?_<;>intro h<;>(try simp only [hsB] at h)<;>try exact xf)|(refine GD ?_ ?_<;>intro h<;>(try intro hgv)<;>(try simp only [hsN] at h)<;>(try simp only [h])<;>(try simp only [hsB] at h)<;>try exact xf)|(refine GL ?_ ?_<;>intro h<;>(try simp only [hsN] at h)<;>(try simp only [h])<;>(try simp only [hsB] at h)<;>try exact xf)|fail)))
  all_goals first|(first|exact RetQ.zr 0|exact RetQ.zn 0|fail)|exact RetQ.fr 0|exact RetQ.fn 0
theorem ref10_Count(v:Vec)(a:List UInt8)(hv:v.length≤9223372036854775807):AC Tryz.prog 264 [.d (.l v.length (vecD v)),sv (bs a)] [] fun x σ=>x=iv .u64 (v.count a)∧σ=[]:=by
 refine AC.wk Tryz.func264 ?_
 generalize hR:v.count a=R
 focus ((repeat' (first|refine G ?_|refine AW.ret ?_|(refine GC ?_ ?_<;>intro h<;>(try simp only [hsB] at h)<;>try exact xf)|(refine GL ?_ ?_<;>intro h<;>(try simp only [hsN] at h)<;>(try simp only [h])<;>(try simp only [hsB] at h)<;>try exact xf)|fail)))
 refine AW.rounds [0,1,4,5] (fun i:Nat=>[(0,.d (.l v.length (vecD v))),(1,sv (bs a)),(4,iv .u64 0),(5,iv .i64 i)]) (fun _=>[])
  (fun i=>i≤v.length∧Vec.count (v.drop i) a=R) (fun i=>v.length-i) 0 ⟨Nat.zero_le _,hR⟩ rfl rfl (fun _ _=>Nat.zero_le _) (fun _ _=>rfl) (fun _ _=>rfl) ?_
 rintro i ⟨hi,hr⟩ J hJ
 by_cases hil:i<v.length
 ·obtain ⟨x,r,hd⟩:=next_at hil
  have hcd:=vec_drop hd
  rw [hd] at hr
  have hR2:R=if x.1=a then x.2 else Vec.count r a:=hr.symm
  by_cases hx:x.1=a
  ·rw [if_pos hx] at hR2
   subst hR2
   focus (have kxs:=hcd;(repeat' (first|refine G ?_|refine AW.ret ?_|(refine GC ?_ ?_<;>intro h<;>(try simp only [hsB] at h)<;>try exact xf)|(refine GL ?_ ?_<;>intro h<;>(try simp only [hsN] at h)<;>(try simp only [h])<;>(try simp only [hsB] at h)<;>try exact xf)|fail));all_goals clear kxs)
   all_goals first|(first|exact RetQ.zr 0|exact RetQ.zn 0|fail)|(exfalso;simp_all;done)
  ·rw [if_neg hx] at hR2
   focus (have kxs:=hcd;(repeat' (first|refine G ?_|refine AW.ret ?_|(refine GC ?_ ?_<;>intro h<;>(try simp only [hsB] at h)<;>try exact xf)|(refine GL ?_ ?_<;>intro h<;>(try simp only [hsN] at h)<;>(try simp only [h])<;>(try simp only [hsB] at h)<;>try exact xf)|fail));all_goals clear kxs)
   all_goals first|(refine hJ (i+1) _ _ (by omega) ⟨hil,by rw [next_drop hd];exact hR2.symm⟩ rfl rfl)|(exfalso;simp_all;done)
 ·have h0:v.drop i=[]:=List.drop_eq_nil_of_le (by omega)
  rw [h0] at hr
  have hR0:R=0:=hr.symm
  rw [hR0]
  focus ((repeat' (first|refine G ?_|refine AW.ret ?_|(refine GC ?_ ?_<;>intro h<;>(try simp only [hsB] at h)<;>try exact xf)|(refine GL ?_ ?_<;>intro h<;>(try simp only [hsN] at h)<;>(try simp only [h])<;>(try simp only [hsB] at h)<;>try exact xf)|fail)))
  all_goals first|(first|exact RetQ.zr 0|exact RetQ.zn 0|fail)|exact RetQ.fr 0|exact RetQ.fn 0
theorem ref12_Check(k:Ck)(hk:k.fits):AC Tryz.prog 239 [ckV k] [] fun x σ=>x=iv .i64 k.check∧σ=[]:=by
 obtain ⟨v,f,t,n⟩:=k
 obtain ⟨hv,ht,hn⟩:=hk
 simp only at hv ht hn
 refine AC.wk Tryz.func239 ?_
 by_cases hc:v.check=0
 case neg=>
  have hR:Ck.check ⟨v,f,(t,n)⟩=v.check:=by unfold Ck.check;rw [if_pos hc]
  rw [hR]
  focus (have kk1:=uN [] (ref10_Check v hv);(repeat' (first|(refine ADr.nil ?_;try clear hgv)|refine GO ?_|refine AW.ret ?_|(refine GC ?_ ?_<;>intro h<;>(try simp only [hsB] at h)<;>try exact xf)|(refine GD ?_ ?_<;>intro h<;>(try intro hgv)<;>(try simp only [hsN] at h)<;>(try simp only [h])<;>(try simp only [hsB] at h)<;>try exact xf)|(refine GL ?_ ?_<;>intro h<;>(try simp only [hsN] at h)<;>(try simp only [h])<;>(try simp only [hsB] at h)<;>try exact xf)|fail));all_goals clear kk1)
  all_goals first|(first|exact RetQ.zr 0|exact RetQ.zn 0|fail)|(exfalso;simp_all;done)
 cases f with
 | false=>
  by_cases hz:t=[]∧n=0
  ·obtain ⟨rfl,rfl⟩:=hz
   have hR:Ck.check ⟨v,false,([],0)⟩=0:=by unfold Ck.check;simp [hc]
   rw [hR]
   focus (have kxs:=hc;have kk1:=uN [] (ref10_Check v hv);(repeat' (first|(refine ADr.nil ?_;try clear hgv)|refine GO ?_|refine AW.ret ?_|(refine GC ?_ ?_<;>intro h<;>(try simp only [hsB] at h)<;>try exact xf)|(refine GD ?_ ?_<;>intro h<;>(try intro hgv)<;>(try simp only [hsN] at h)<;>(try simp only [h])<;>(try simp only [hsB] at h)<;>try exact xf)|(refine GL ?_ ?_<;>intro h<;>(try simp only [hsN] at h)<;>(try simp only [h])<;>(try simp only [hsB] at h)<;>try exact xf)|fail));all_goals clear kxs kk1)
   all_goals first|(first|exact RetQ.zr 0|exact RetQ.zn 0|fail)|(exfalso;simp_all;done)
  ·have hR:Ck.check ⟨v,false,(t,n)⟩=1:=by
     unfold Ck.check
     simp only
     rw [if_neg (by simpa using hc),if_pos trivial,if_pos (by intro e;exact hz ⟨(Prod.mk.inj e).1,(Prod.mk.inj e).2⟩)]
   rw [hR]
   focus (have kxs:=hc;have kk1:=uN [] (ref10_Check v hv);(repeat' (first|(refine ADr.nil ?_;try clear hgv)|refine GO ?_|refine AW.ret ?_|(refine GC ?_ ?_<;>intro h<;>(try simp only [hsB] at h)<;>try exact xf)|(refine GD ?_ ?_<;>intro h<;>(try intro hgv)<;>(try simp only [hsN] at h)<;>(try simp only [h])<;>(try simp only [hsB] at h)<;>try exact xf)|(refine GL ?_ ?_<;>intro h<;>(try simp only [hsN] at h)<;>(try simp only [h])<;>(try simp only [hsB] at h)<;>try exact xf)|fail));all_goals clear kxs kk1)
   all_goals first|(first|exact RetQ.zr 0|exact RetQ.zn 0|fail)|(exfalso;simp_all;try omega)
 | true=>
  have hR:Ck.check ⟨v,true,(t,n)⟩=if 32<t.length then 3 else if t=[] then 14 else if n=0 then 7 else if n≤v.count t then 15 else 0:=by unfold Ck.check;simp [hc]
  rw [hR]
  clear hR
  have hxe:t=[]↔t.length=0:=by simp
  focus (have kxs:=hc;have kk1:=uN [] (ref10_Check v hv);have kk2:=uN [] (ref10_Count v t hv.1);(repeat' (first|(refine ADr.nil ?_;try clear hgv)|refine GO ?_|refine AW.ret ?_|(refine GC ?_ ?_<;>intro h<;>(try simp only [hsB] at h)<;>try exact xf)|(refine GD ?_ ?_<;>intro h<;>(try intro hgv)<;>(try simp only [hsN] at h)<;>(try simp only [h])<;>(try simp only [hsB] at h)<;>try exact xf)|(refine GL ?_ ?_<;>intro h<;>(try simp only [hsN] at h)<;>(try simp only [h])<;>(try simp only [hsB] at h)<;>try exact xf)|fail));all_goals clear kxs kk1 kk2)
  all_goals first
   | (rw [if_pos (by omega)];(first|exact RetQ.zr 0|exact RetQ.zn 0|fail))
   | (rw [if_neg (by omega),if_pos (by rw [hxe];omega)];(first|exact RetQ.zr 0|exact RetQ.zn 0|fail))
   | (rw [if_neg (by omega),if_neg (by rw [hxe];omega),if_pos (by omega)];(first|exact RetQ.zr 0|exact RetQ.zn 0|fail))
   | (rw [if_neg (by omega),if_neg (by rw [hxe];omega),if_neg (by omega),if_pos (by omega)];(first|exact RetQ.zr 0|exact RetQ.zn 0|fail))
   | (rw [if_neg (by omega),if_neg (by rw [hxe];omega),if_neg (by omega),if_neg (by omega)];(first|exact RetQ.zr 0|exact RetQ.zn 0|fail))
theorem ref12_Same(k o:Ck)(hk:k.ctx.length≤9223372036854775807):AC Tryz.prog 167 [ckV k,ckV o] [] fun x σ=>x=bv (decide (k=o))∧σ=[]:=by
 refine AC.wk Tryz.func167 ?_
 have hR:decide (k=o)=(decide (k.ctx=o.ctx)&&(decide (k.dotted=o.dotted)&&(decide (k.dot.1=o.dot.1)&&(decide ((k.dot.2:Int)=o.dot.2)&&true)))):=by
  rw [Bool.eq_iff_iff,decide_eq_true_eq];exact (ck_eq k o).symm
 rw [hR]
 clear hR
 rcases Bool.eq_false_or_eq_true (decide (k.ctx=o.ctx)) with e1|e1<;>rcases Bool.eq_false_or_eq_true (decide (k.dotted=o.dotted)) with e2|e2
 all_goals
  rw [e1,e2]
  (have kxs:=And.intro e1 e2;have kk1:=uN [] (ref10_Same k.ctx o.ctx hk);exact Wd0)
section
variable (b : List UInt8) (m e : Int)
theorem ref13_Put(q:Pe)(ok:q.Ok)(k:Ck)(hfk:k.fits)(hl:q.m≤140737488355328∨q.b.length+(eclk k).length+40≤140737488355328) :
  AC Tryz.prog 262 [.p 0 0,ckV k] [Pe.ro q] fun x σ=>x=.t []∧σ=[Pe.ro (Pe.clk q k)]:=by
 refine AC.wk Tryz.func262 ?_
 by_cases hc:k.check=0
 case neg=>
  have hv:q.clk k=q.fail k.check:=by unfold Pe.clk;rw [if_pos hc]
  rw [hv]
  (have kk1:=uN [] (ref12_Check k hfk);have kua1:=fun za=>uN [0] (ref02_Fail q.b q.m q.e za);exact Wd1)
 obtain ⟨hcv,hct⟩:=Ck.check_parts hc
 have hel:(eclk k).length=(evec k.ctx).length+1+(if k.dotted=true then (eent k.dot).length else 0):=by
  unfold eclk eflag
  cases k.dotted<;>simp<;>omega
 have hclk:q.clk k=((q.vec k.ctx).flag k.dotted).dotq k:=by unfold Pe.clk;rw [if_neg (by simpa using hc)]
 have hvo:=pens_vec.keep (p:=q) (x:=k.ctx) ok (by omega)
 have hvm:=pens_vec.m q k.ctx
 have hvl:=pens_vec.len q k.ctx
 generalize hv0:q.vec k.ctx=p1 at *
 have hv':Pe.vec ⟨q.b,q.m,q.e⟩ k.ctx=p1:=hv0
 have hfo:=pens_flag.keep (p:=p1) (x:=k.dotted) hvo (by simp only [eflag,List.length_cons,List.length_nil];omega)
 have hfm:=pens_flag.m p1 k.dotted
 have hfl:=pens_flag.len p1 k.dotted
 have hf1:(eflag k.dotted).length=1:=rfl
 generalize hf0:p1.flag k.dotted=p2 at *
 have hf':Pe.flag ⟨p1.b,p1.m,p1.e⟩ k.dotted=p2:=hf0
 obtain ⟨v,f,t,n⟩:=k
 simp only at *
 cases f with
 | false=>
  have hz:p2.dotq ⟨v,false,(t,n)⟩=p2:=rfl
  rw [hclk,hz]
  (have kxs:=And.intro hc (And.intro hv' hf');have kk1:=uN [] (ref12_Check ⟨v,false,(t,n)⟩ hfk);have kk2:=uN [0] (ref11_Put q.b q.m q.e ok v hfk.1 (by omega));have kk3:=uN [0] (ref06_PutFlag p1.b p1.m p1.e hvo false (by omega));exact Wd1)
 | true=>
  have hz:p2.dotq ⟨v,true,(t,n)⟩=(p2.blob 32 t).text (vput n):=rfl
  rw [hclk,hz]
  simp only [if_true] at hel
  have hee:(eent (t,n)).length=(vput t.length).length+t.length+(vput n).length:=by unfold eent eblob;simp only [List.length_append]
  have ht32:=hct rfl
  have hbo:=Pe.blob_ok (p:=p2) (max:=32) (s:=t) hfo (by omega) (by omega)
  have hbm:=Pe.blob_m p2 32 t
  have hbl:=Pe.blob_len p2 32 t (by omega)
  generalize hb0:p2.blob 32 t=p3 at *
  have hb':Pe.blob ⟨p2.b,p2.m,p2.e⟩ 32 t=p3:=hb0
  (have kxs:=And.intro hc (And.intro hv' (And.intro hf' hb'));have kk1:=uN [] (ref12_Check ⟨v,true,(t,n)⟩ hfk);have kk2:=uN [0] (ref11_Put q.b q.m q.e ok v hfk.1 (by omega));have kk3:=uN [0] (ref06_PutFlag p1.b p1.m p1.e hvo true (by omega));have kk4:=uN [0] (ref06_Put p2.b t p2.m p2.e 32 hfo (by omega) (by omega));have kk5:=uN [0] (ref03_Put p3.b p3.m p3.e hbo n hfk.2.2 (by omega));exact Wd1)
end
theorem ref13_Encode(k:Ck)(hf:k.fits):AC Tryz.prog 240 [ckV k] [] fun x σ=>x=.t [sv (bs (clke k).1),iv .i64 (clke k).2]∧σ=[]:=by
 refine AC.wk Tryz.func240 ?_
 unfold clke
 generalize hp:Pe.clk ⟨[],65536,0⟩ k=q at *
 (have kxs:=hp;have kk1:=uN [] (ref02_New 65536);have kk2:=uN [1] (ref13_Put ⟨[],65536,0⟩ pe0_ok k hf (.inl (by decide)));have kk3:=uN [1] (ref02_End q.b q.m q.e);exact Wd0)
end Go.AW
