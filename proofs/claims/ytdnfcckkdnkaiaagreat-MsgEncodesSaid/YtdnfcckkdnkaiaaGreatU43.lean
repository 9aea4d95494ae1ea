/-
  old objects: the document's: what is right, what is written.
-/
import Derived.Test.YtdnfcckkdnkaiaaGreatU27
import Derived.Test.YtdnfcckkdnkaiaaGreatU42
set_option linter.unusedVariables false
set_option linter.unusedSimpArgs false
set_option maxHeartbeats 4000000
set_option maxRecDepth 10000
namespace Go.AW
open Go Go.Proofs
attribute [local irreducible] thenQ blockQ RetQ AL AW AC AOp
theorem mem_take{α:Type}{l r:List α}{y:α}{k i:Nat}(h:l.drop k=y::r)(hk:k<i):y ∈ l.take i:=by
 have h1:y ∈ l.take (k+1):=by rw [next_take h];simp
 have h2:l.take (k+1)=(l.take i).take (k+1):=by rw [List.take_take,Nat.min_eq_left (by omega)]
 rw [h2] at h1
 exact List.mem_of_mem_take h1
theorem ref17_Check(o:Od)(ho:o.fits):AC Tryz.prog 77 [odV o] [] fun x σ=>x=iv .i64 o.check∧σ=[]:=by
 obtain ⟨key,l⟩:=o
 obtain ⟨hk,hl,hf⟩:=ho
 simp only at hk hl hf
 refine AC.wk Tryz.func77 ?_
 by_cases ho:outside key l.length=0
 case neg=>
  have hR:Od.check ⟨key,l⟩=outside key l.length:=by unfold Od.check;rw [if_pos ho]
  rw [hR]
  unfold outside at ho ⊢
  have hke:key=[]↔key.length=0:=List.length_eq_zero_iff.symm
  focus ((repeat' (first|(refine ADr.nil ?_;try clear hgv)|refine GO ?_|refine AW.ret ?_|(refine GC ?_ ?_<;>intro h<;>(try simp only [hsB] at h)<;>try exact xf)|(refine GD ?_ ?_<;>intro h<;>(try intro hgv)<;>(try simp only [hsN] at h)<;>(try simp only [h])<;>(try simp only [hsB] at h)<;>try exact xf)|(refine GL ?_ ?_<;>intro h<;>(try simp only [hsN] at h)<;>(try simp only [h])<;>(try simp only [hsB] at h)<;>try exact xf)|fail)))
  all_goals first
   | (rw [if_pos (by omega)];(first|exact RetQ.zr 0|exact RetQ.zn 0|fail))
   | (rw [if_neg (by omega),if_pos (hke.2 (by omega))];(first|exact RetQ.zr 0|exact RetQ.zn 0|fail))
   | (rw [if_neg (by omega),if_neg (fun e=>absurd (hke.1 e) (by omega)),if_pos (by omega)];(first|exact RetQ.zr 0|exact RetQ.zn 0|fail))
   | (rw [if_neg (by omega),if_neg (fun e=>absurd (hke.1 e) (by omega)),if_neg (by omega),if_pos (by omega)];(first|exact RetQ.zr 0|exact RetQ.zn 0|fail))
   | (exfalso;rw [if_neg (by omega),if_neg (fun e=>absurd (hke.1 e) (by omega)),if_neg (by omega),if_neg (by omega)] at ho;exact ho rfl)
   | trace_state
 generalize hR:ocheck [] l=R
 have hc:Od.check ⟨key,l⟩=R:=by unfold Od.check;rw [if_neg (by simpa using ho),hR]
 rw [hc]
 obtain ⟨ho1,ho2,ho3,ho4⟩:=outside_zero.1 ho
 have ho2':key.length≠0:=fun e=>ho2 (List.length_eq_zero_iff.1 e)
 focus ((repeat' (first|(refine ADr.nil ?_;try clear hgv)|refine GO ?_|refine AW.ret ?_|(refine GC ?_ ?_<;>intro h<;>(try simp only [hsB] at h)<;>try exact xf)|(refine GD ?_ ?_<;>intro h<;>(try intro hgv)<;>(try simp only [hsN] at h)<;>(try simp only [h])<;>(try simp only [hsB] at h)<;>try exact xf)|(refine GL ?_ ?_<;>intro h<;>(try simp only [hsN] at h)<;>(try simp only [h])<;>(try simp only [hsB] at h)<;>try exact xf)|fail)))
 all_goals first|exact xg|skip
 refine AW.rounds [1,2,3] (fun i:Nat=>[(1,.p 0 0),(2,iv .i64 0),(3,iv .i64 i)]) (fun _=>[.box 29 [sv (bs key),.d (.l l.length (ossD l))]])
  (fun i=>i≤l.length∧ocheck ((l.take i).map Os1.clk) (l.drop i)=R) (fun i=>l.length-i) 0 ⟨Nat.zero_le _,hR⟩ rfl rfl (fun _ _=>Nat.zero_le _) (fun _ _=>rfl) (fun _ _=>rfl) ?_
 rintro i ⟨hi,hr⟩ J hJ
 by_cases hil:i<l.length
 ·obtain ⟨x,r,hd⟩:=next_at hil
  have hcd:=oss_drop hd
  rw [hd] at hr
  have hR2:=ostep hr
  have hfx:=hf x (next_mem hd)
  by_cases hcc:x.clk.check=0
  case neg=>
   rw [if_pos hcc] at hR2
   rw [hR2]
   focus (have kxs:=hcd;have kk1:=uN [] (ref10_Check x.clk hfx.1);(repeat' (first|(refine ADr.nil ?_;try clear hgv)|refine GO ?_|refine AW.ret ?_|(refine GC ?_ ?_<;>intro h<;>(try simp only [hsB] at h)<;>try exact xf)|(refine GD ?_ ?_<;>intro h<;>(try intro hgv)<;>(try simp only [hsN] at h)<;>(try simp only [h])<;>(try simp only [hsB] at h)<;>try exact xf)|(refine GL ?_ ?_<;>intro h<;>(try simp only [hsN] at h)<;>(try simp only [h])<;>(try simp only [hsB] at h)<;>try exact xf)|fail));all_goals clear kxs kk1)
   all_goals first|(first|exact RetQ.zr 0|exact RetQ.zn 0|fail)|(exfalso;simp_all;done)
  rw [if_neg (by simpa using hcc)] at hR2
  by_cases hvl:32768<x.val.length
  ·rw [if_pos hvl] at hR2
   rw [hR2]
   focus (have kxs:=And.intro hcd hcc;have kk1:=uN [] (ref10_Check x.clk hfx.1);(repeat' (first|(refine ADr.nil ?_;try clear hgv)|refine GO ?_|refine AW.ret ?_|(refine GC ?_ ?_<;>intro h<;>(try simp only [hsB] at h)<;>try exact xf)|(refine GD ?_ ?_<;>intro h<;>(try intro hgv)<;>(try simp only [hsN] at h)<;>(try simp only [h])<;>(try simp only [hsB] at h)<;>try exact xf)|(refine GL ?_ ?_<;>intro h<;>(try simp only [hsN] at h)<;>(try simp only [h])<;>(try simp only [hsB] at h)<;>try exact xf)|fail));all_goals clear kxs kk1)
   all_goals first|(first|exact RetQ.zr 0|exact RetQ.zn 0|fail)|exact xg
  rw [if_neg hvl] at hR2
  focus (have kxs:=And.intro hcd hcc;have kk1:=uN [] (ref10_Check x.clk hfx.1);(repeat' (first|(refine ADr.nil ?_;try clear hgv)|refine GO ?_|refine AW.ret ?_|(refine GC ?_ ?_<;>intro h<;>(try simp only [hsB] at h)<;>try exact xf)|(refine GD ?_ ?_<;>intro h<;>(try intro hgv)<;>(try simp only [hsN] at h)<;>(try simp only [h])<;>(try simp only [hsB] at h)<;>try exact xf)|(refine GL ?_ ?_<;>intro h<;>(try simp only [hsN] at h)<;>(try simp only [h])<;>(try simp only [hsB] at h)<;>try exact xf)|fail));all_goals clear kxs kk1)
  all_goals first|exact xg|skip
  refine AW.rounds [1,2,3,5] (fun k:Nat=>[(1,.p 0 0),(2,iv .i64 0),(3,iv .i64 i),(5,iv .i64 k)]) (fun _=>[.box 29 [sv (bs key),.d (.l l.length (ossD l))]])
   (fun k=>k≤i∧x.clk ∉ (l.take k).map Os1.clk) (fun k=>i-k) 0 ⟨Nat.zero_le _,by simp⟩ rfl rfl (fun _ _=>Nat.zero_le _) (fun _ _=>rfl) (fun _ _=>rfl) ?_
  rintro k ⟨hki,hkr⟩ J' hJ'
  by_cases hkl:k<i
  ·obtain ⟨y,r',hd'⟩:=next_at (show k<l.length by omega)
   have hcd':=oss_drop hd'
   have hfy:=hf y (next_mem hd')
   by_cases hyx:y.clk=x.clk
   ·have hm:x.clk ∈ (l.take i).map Os1.clk:=List.mem_map.2 ⟨y,mem_take hd' hkl,hyx⟩
    rw [if_pos hm] at hR2
    rw [hR2]
    have hyd:decide (y.clk=x.clk)=true:=decide_eq_true hyx
    focus (have kxs:=And.intro hcd (And.intro hcd' hyd);have kk1:=uN [] (ref10_Same y.clk x.clk hfy.1.1);(repeat' (first|(refine ADr.nil ?_;try clear hgv)|refine GO ?_|refine AW.ret ?_|(refine GC ?_ ?_<;>intro h<;>(try simp only [hsB] at h)<;>try exact xf)|(refine GD ?_ ?_<;>intro h<;>(try intro hgv)<;>(try simp only [hsN] at h)<;>(try simp only [h])<;>(try simp only [hsB] at h)<;>try exact xf)|(refine GL ?_ ?_<;>intro h<;>(try simp only [hsN] at h)<;>(try simp only [h])<;>(try simp only [hsB] at h)<;>try exact xf)|fail));all_goals clear kxs kk1)
    all_goals first|(first|exact RetQ.zr 0|exact RetQ.zn 0|fail)|exact xg
   ·have hne:x.clk ∉ (l.take (k+1)).map Os1.clk:=by
      rw [next_take hd',List.map_append]
      intro h
      rcases List.mem_append.1 h with h|h
      ·exact hkr h
      ·exact hyx (List.mem_singleton.1 h).symm
    have hyd:decide (y.clk=x.clk)=false:=decide_eq_false hyx
    focus (have kxs:=And.intro hcd (And.intro hcd' hyd);have kk1:=uN [] (ref10_Same y.clk x.clk hfy.1.1);(repeat' (first|(refine ADr.nil ?_;try clear hgv)|refine GO ?_|refine AW.ret ?_|(refine GC ?_ ?_<;>intro h<;>(try simp only [hsB] at h)<;>try exact xf)|(refine GD ?_ ?_<;>intro h<;>(try intro hgv)<;>(try simp only [hsN] at h)<;>(try simp only [h])<;>(try simp only [hsB] at h)<;>try exact xf)|(refine GL ?_ ?_<;>intro h<;>(try simp only [hsN] at h)<;>(try simp only [h])<;>(try simp only [hsB] at h)<;>try exact xf)|fail));all_goals clear kxs kk1)
    all_goals first
     | (exact hJ' (k+1) _ _ (by omega) ⟨hkl,hne⟩ rfl rfl)
     | exact xg
  ·have hki':k=i:=by omega
   subst hki'
   rw [if_neg hkr] at hR2
   focus ((repeat' (first|(refine ADr.nil ?_;try clear hgv)|refine GO ?_|refine AW.ret ?_|(refine GC ?_ ?_<;>intro h<;>(try simp only [hsB] at h)<;>try exact xf)|(refine GD ?_ ?_<;>intro h<;>(try intro hgv)<;>(try simp only [hsN] at h)<;>(try simp only [h])<;>(try simp only [hsB] at h)<;>try exact xf)|(refine GL ?_ ?_<;>intro h<;>(try simp only [hsN] at h)<;>(try simp only [h])<;>(try simp only [hsB] at h)<;>try exact xf)|fail)))
   all_goals first
    | (refine hJ (k+1) _ _ (by omega) ⟨hil,?_⟩ rfl rfl;rw [next_drop hd,next_take hd,List.map_append,hR2];rfl)
    | exact xg
 ·have h0:l.drop i=[]:=List.drop_eq_nil_of_le (by omega)
  rw [h0] at hr
  have hR0:R=0:=hr.symm
  rw [hR0]
  focus ((repeat' (first|(refine ADr.nil ?_;try clear hgv)|refine GO ?_|refine AW.ret ?_|(refine GC ?_ ?_<;>intro h<;>(try simp only [hsB] at h)<;>try exact xf)|(refine GD ?_ ?_<;>intro h<;>(try intro hgv)<;>(try simp only [hsN] at h)<;>(try simp only [h])<;>(try simp only [hsB] at h)<;>try exact xf)|(refine GL ?_ ?_<;>intro h<;>(try simp only [hsN] at h)<;>(try simp only [h])<;>(try simp only [hsB] at h)<;>try exact xf)|fail)))
  all_goals first|(first|exact RetQ.zr 0|exact RetQ.zn 0|fail)|exact RetQ.fr 0|exact RetQ.fn 0
theorem ref17_Encode(o:Od)(ho:o.fits):AC Tryz.prog 66 [odV o] [] fun x σ=>x=.t [sv (bs (olde o).1),iv .i64 (olde o).2]∧σ=[]:=by
 refine AC.wk Tryz.func66 ?_
 by_cases hc:o.check=0
 case neg=>
  rw [olde_bad hc]
  (have kk1:=uN [] (ref17_Check o ho);exact Wd0)
 rw [olde_good hc]
 obtain ⟨hout,hoc⟩:=Od.check_parts hc
 obtain ⟨hk1,hk2,hl1,hl2⟩:=outside_zero.1 hout
 have hparts:=(ocheck_parts _ _ hoc).1
 have hbo:=(pens_blob 128).keep (p:=⟨[],65536,0⟩) (x:=o.key) pe0_ok (.inl (by decide))
 have hbm:=(pens_blob 128).m ⟨[],65536,0⟩ o.key
 try simp only at hbo hbm
 generalize hb0:Pe.blob ⟨[],65536,0⟩ 128 o.key=p1 at *
 have hco:=(pens_count 16).keep (p:=p1) (x:=o.sibs.length) hbo (.inl (by omega))
 have hcm:=(pens_count 16).m p1 o.sibs.length
 generalize hc0:p1.count 16 (o.sibs.length:Nat)=p2 at *
 have hc':Pe.count ⟨p1.b,p1.m,p1.e⟩ 16 (o.sibs.length:Nat)=p2:=hc0
 focus (have kxs:=And.intro hc (And.intro hb0 hc');have kk1:=uN [] (ref02_New 65536);have kk2:=uN [] (ref17_Check o ho);have kk3:=uN [1] (ref06_Put [] o.key 65536 0 128 pe0_ok (by omega) (.inl (by decide)));have kk4:=uN [1] (ref06_PutCount p1.b p1.m p1.e 16 hbo (o.sibs.length:Nat) (by omega) (.inl (by omega)));(repeat' (first|refine G ?_|refine AW.ret ?_|(refine GC ?_ ?_<;>intro h<;>(try simp only [hsB] at h)<;>try exact xf)|(refine GL ?_ ?_<;>intro h<;>(try simp only [hsN] at h)<;>(try simp only [h])<;>(try simp only [hsB] at h)<;>try exact xf)|fail));all_goals clear kxs kk1 kk2 kk3 kk4)
 all_goals first|(exfalso;simp_all;done)|skip
 refine AW.rounds [1,2,3,5,6] (fun i:Nat=>[(1,.p 0 0),(2,sv (bs [])),(3,iv .i64 0),(5,.p 1 0),(6,iv .i64 i)])
  (fun i=>[.box 29 [sv (bs o.key),.d (.l o.sibs.length (ossD o.sibs))],Pe.ro (p2.olds (o.sibs.take i))])
  (fun i=>i≤o.sibs.length) (fun i=>o.sibs.length-i) 0 (Nat.zero_le _) rfl rfl (fun _ _=>Nat.zero_le _) (fun _ _=>rfl) (fun _ _=>rfl) ?_
 intro i hi J hJ
 have hqo:=pens_olds.keep (p:=p2) (x:=o.sibs.take i) hco (.inl (by omega))
 have hqm:=pens_olds.m p2 (o.sibs.take i)
 generalize hq:p2.olds (o.sibs.take i)=q at *
 by_cases hil:i<o.sibs.length
 case neg=>
  have hi2:i=o.sibs.length:=by omega
  rw [hi2,List.take_length] at hq
  rw [hq]
  (have kk1:=uN [1] (ref02_End q.b q.m q.e);exact Wd0)
 obtain ⟨x,r,hd⟩:=next_at hil
 have hcd:=oss_drop hd
 have hn2:p2.olds (o.sibs.take (i+1))=q.os1 x:=by rw [next_take hd,Pe.olds_snoc,hq]
 have hfx:=ho.2.2 x (next_mem hd)
 have hvo:=pens_vec.keep (p:=q) (x:=x.clk) hqo (.inl (by omega))
 have hvm:=pens_vec.m q x.clk
 generalize hv0:q.vec x.clk=q1 at *
 have hv':Pe.vec ⟨q.b,q.m,q.e⟩ x.clk=q1:=hv0
 have hfo:=pens_flag.keep (p:=q1) (x:=x.dead) hvo (.inl (by omega))
 have hfm:=pens_flag.m q1 x.dead
 generalize hf0:q1.flag x.dead=q2 at *
 have hf':Pe.flag ⟨q1.b,q1.m,q1.e⟩ x.dead=q2:=hf0
 have hos:q.os1 x=q2.blob 32768 x.val:=by unfold Pe.os1;rw [hv0,hf0]
 focus (have kxs:=And.intro hcd (And.intro hv' hf');have kk1:=uN [1] (ref11_Put q.b q.m q.e hqo x.clk hfx.1 (.inl (by omega)));have kk2:=uN [1] (ref06_PutFlag q1.b q1.m q1.e hvo x.dead (.inl (by omega)));have kk3:=uN [1] (ref06_Put q2.b x.val q2.m q2.e 32768 hfo (Nat.le_trans (hparts x (next_mem hd)).2.1 (by decide)) (.inl (by omega)));(repeat' (first|refine G ?_|refine AW.ret ?_|(refine GC ?_ ?_<;>intro h<;>(try simp only [hsB] at h)<;>try exact xf)|(refine GL ?_ ?_<;>intro h<;>(try simp only [hsN] at h)<;>(try simp only [h])<;>(try simp only [hsB] at h)<;>try exact xf)|fail));all_goals clear kxs kk1 kk2 kk3)
 all_goals first|(refine hJ (i+1) _ _ (by omega) hil rfl ?_;rw [hn2,hos];rfl)|(exfalso;simp_all;done)
theorem itcheck_step{pre:List UInt8}{p:Option (List UInt8)}{x:It}{r:List It}{R:Int}(h:itcheck pre p (x::r)=R):(¬ x.1.length=32→R=1)∧(x.1.length=32→(begins x.1 pre=false→R=18)∧(begins x.1 pre=true→(afterL p x.1=false→R=6)∧(afterL p x.1=true→(¬ x.2.length=32→R=1)∧(x.2.length=32→itcheck pre (some x.1) r=R)))):=by
 unfold itcheck at h
 refine ⟨fun h1=>?_,fun h1=>⟨fun h2=>?_,fun h2=>⟨fun h3=>?_,fun h3=>⟨fun h4=>?_,fun h4=>?_⟩⟩⟩⟩
 ·rw [if_pos h1] at h;exact h.symm
 ·rw [if_neg (fun h9=>h9 h1),if_pos h2] at h;exact h.symm
 ·rw [if_neg (fun h9=>h9 h1),if_neg (by rw [h2];decide),if_pos h3] at h;exact h.symm
 ·rw [if_neg (fun h9=>h9 h1),if_neg (by rw [h2];decide),if_neg (by rw [h3];decide),if_pos h4] at h;exact h.symm
 ·rw [if_neg (fun h9=>h9 h1),if_neg (by rw [h2];decide),if_neg (by rw [h3];decide),if_neg (fun h9=>h9 h4)] at h;exact h
theorem ref20_Check(g:Pg)(hf:g.fits):AC Tryz.prog 83 [pgV g] [] fun y σ=>y=iv .i64 g.check∧σ=[]:=by
 refine AC.wk Tryz.func83 ?_
 generalize hR:g.check=R
 unfold Pg.check at hR
 obtain ⟨f1,⟨f2,f3⟩,f4,f5⟩:=hf
 obtain ⟨pre,leaf,slots,items⟩:=g
 have hse:slots=[]↔slots.length=0:=List.length_eq_zero_iff.symm
 have hie:items=[]↔items.length=0:=List.length_eq_zero_iff.symm
 simp only [ne_eq,hse,hie] at f1 f2 f3 f4 f5 hR ⊢
 by_cases a1:31<pre.length
 ·rw [if_pos a1] at hR
  subst hR
  exact We0
 rw [if_neg a1] at hR
 cases leaf with
 | true=>
  rw [if_pos rfl] at hR
  by_cases b1:slots.length=0
  case neg=>
   rw [if_pos b1] at hR
   subst hR
   exact We0
  rw [if_neg (fun h=>h b1)] at hR
  by_cases b2:8<items.length
  ·rw [if_pos b2] at hR
   subst hR
   exact We0
  rw [if_neg b2] at hR
  focus ((repeat' (first|(refine ADr.nil ?_;try clear hgv)|refine GO ?_|refine AW.ret ?_|(refine GC ?_ ?_<;>intro h<;>(try simp only [hsB] at h)<;>try exact xf)|(refine GD ?_ ?_<;>intro h<;>(try intro hgv)<;>(try simp only [hsN] at h)<;>(try simp only [h])<;>(try simp only [hsB] at h)<;>try exact xf)|(refine GL ?_ ?_<;>intro h<;>(try simp only [hsN] at h)<;>(try simp only [h])<;>(try simp only [hsB] at h)<;>try exact xf)|fail)))
  all_goals first|exact xg|skip
  refine AW.rounds [1,2,3] (fun i:Nat=>[(1,.p 0 0),(2,iv .i64 0),(3,iv .i64 i)]) (fun _=>[.box 35 [sv (bs pre),bv true,.d (.l slots.length (slsD slots)),.d (.l items.length (itsD items))]])
   (fun i=>i≤items.length∧((i=0∧itcheck pre none items=R)∨(0<i∧∃ y r,items.drop (i-1)=y::r∧y.1.length=32∧itcheck pre (some y.1) (items.drop i)=R))) (fun i=>items.length-i) 0 ⟨Nat.zero_le _,.inl ⟨rfl,hR⟩⟩ rfl rfl (fun _ _=>Nat.zero_le _) (fun _ _=>rfl) (fun _ _=>rfl) ?_
  clear hR
  rintro k ⟨hk,hr⟩ J hJ
  by_cases hkl:k<items.length
  case neg=>
   have hR0:R=0:=by
    have hdn:items.drop k=[]:=List.drop_eq_nil_of_le (by omega)
    rcases hr with ⟨rfl,hr⟩|⟨_,y,r,_,_,hr⟩
    ·have:items=[]:=List.length_eq_zero_iff.1 (by omega)
     rw [this] at hr;exact hr.symm
    ·rw [hdn] at hr;exact hr.symm
   rw [hR0]
   exact We0
  obtain ⟨x,r,hd⟩:=next_at hkl
  have hcd:=its_drop hd
  obtain ⟨g1,g2⟩:=f5 x (next_mem hd)
  have hbg:=ref20_Begins x.1 pre g1 f1
  have hnd:=next_drop hd
  have go:x.1.length=32→itcheck pre (some x.1) r=R→∀ T' σ',keepT T' [1,2,3]=[(1,.p 0 0),(2,iv .i64 0),(3,iv .i64 ((k:Int)+1))]→σ'.take 1=[.box 35 [sv (bs pre),bv true,.d (.l slots.length (slsD slots)),.d (.l items.length (itsD items))]]→J T' σ':=fun h0 h T' σ' q1 q2=>
   hJ (k+1) T' σ' (by omega) ⟨hkl,.inr ⟨by omega,x,r,by simpa using hd,h0,by rw [hnd];exact h⟩⟩ q1 q2
  clear hJ
  rcases hr with ⟨rfl,hr⟩|⟨hk0,y,r',hp,hyl,hr⟩
  ·have hd0:items=x::r:=hd
   rw [hd0] at hr
   obtain ⟨s1,s2⟩:=itcheck_step hr
   clear hr hd0
   by_cases c1:x.1.length=32
   case neg=>
    obtain rfl:=s1 c1
    (have kxs:=hcd;exact We0)
   obtain ⟨s3,s4⟩:=s2 c1
   cases c2:begins x.1 pre with
   | false=>
    obtain rfl:=s3 c2
    rw [c2] at hbg
    (have kxs:=hcd;have kk1:=uN [] hbg;exact We0)
   | true=>
    obtain ⟨_,s5⟩:=s4 c2
    obtain ⟨s6,s7⟩:=s5 rfl
    rw [c2] at hbg
    by_cases c3:x.2.length=32
    ·have go:=go c1 (s7 c3)
     clear s6 s7 s5 s4 s3 s2 s1
     (have kxs:=hcd;have kk1:=uN [] hbg;exact Weg)
    ·obtain rfl:=s6 c3
     (have kxs:=hcd;have kk1:=uN [] hbg;exact We0)
  ·have hcp:=its_drop hp
   have hk1:((k:Int)-1).toNat=k-1:=by omega
   rw [hd] at hr
   obtain ⟨s1,s2⟩:=itcheck_step hr
   clear hr
   by_cases c1:x.1.length=32
   case neg=>
    obtain rfl:=s1 c1
    (have kxs:=hcd;exact We0)
   obtain ⟨s3,s4⟩:=s2 c1
   have hbl:=ref06_Below y.1 x.1 (by omega) (by omega)
   cases c2:begins x.1 pre with
   | false=>
    obtain rfl:=s3 c2
    rw [c2] at hbg
    (have kxs:=hcd;have kk1:=uN [] hbg;exact We0)
   | true=>
    obtain ⟨s5,s6⟩:=s4 c2
    rw [c2] at hbg
    cases c3:lessB y.1 x.1 with
    | false=>
     obtain rfl:=s5 c3
     rw [show Op.bytesLess y.1 x.1=false from c3] at hbl
     (have kxs:=And.intro hcd (And.intro hcp hk1);have kk1:=uN [] hbg;have kk2:=uN [] hbl;exact We0)
    | true=>
     obtain ⟨s7,s8⟩:=s6 c3
     rw [show Op.bytesLess y.1 x.1=true from c3] at hbl
     by_cases c4:x.2.length=32
     ·have go:=go c1 (s8 c4)
      clear s8 s7 s6 s5 s4 s3 s2 s1
      (have kxs:=And.intro hcd (And.intro hcp hk1);have kk1:=uN [] hbg;have kk2:=uN [] hbl;exact Weg)
     ·obtain rfl:=s7 c4
      (have kxs:=And.intro hcd (And.intro hcp hk1);have kk1:=uN [] hbg;have kk2:=uN [] hbl;exact We0)
 | false=>
  rw [if_neg (by decide)] at hR
  by_cases b1:items.length=0
  case neg=>
   rw [if_pos b1] at hR
   subst hR
   exact We0
  rw [if_neg (fun h=>h b1)] at hR
  by_cases b2:256<slots.length
  ·rw [if_pos b2] at hR
   subst hR
   exact We0
  rw [if_neg b2] at hR
  by_cases b3:slots.length=0
  ·rw [if_pos b3] at hR
   subst hR
   exact We0
  rw [if_neg b3] at hR
  focus ((repeat' (first|(refine ADr.nil ?_;try clear hgv)|refine GO ?_|refine AW.ret ?_|(refine GC ?_ ?_<;>intro h<;>(try simp only [hsB] at h)<;>try exact xf)|(refine GD ?_ ?_<;>intro h<;>(try intro hgv)<;>(try simp only [hsN] at h)<;>(try simp only [h])<;>(try simp only [hsB] at h)<;>try exact xf)|(refine GL ?_ ?_<;>intro h<;>(try simp only [hsN] at h)<;>(try simp only [h])<;>(try simp only [hsB] at h)<;>try exact xf)|fail)))
  all_goals first|exact xg|skip
  refine AW.rounds [1,2,5] (fun i:Nat=>[(1,.p 0 0),(2,iv .i64 0),(5,iv .i64 i)]) (fun _=>[.box 35 [sv (bs pre),bv false,.d (.l slots.length (slsD slots)),.d (.l items.length (itsD items))]])
   (fun i=>i≤slots.length∧((i=0∧slcheck none slots=R)∨(0<i∧∃ y r,slots.drop (i-1)=y::r∧slcheck (some y.1) (slots.drop i)=R))) (fun i=>slots.length-i) 0 ⟨Nat.zero_le _,.inl ⟨rfl,hR⟩⟩ rfl rfl (fun _ _=>Nat.zero_le _) (fun _ _=>rfl) (fun _ _=>rfl) ?_
  clear hR
  rintro k ⟨hk,hr⟩ J hJ
  by_cases hkl:k<slots.length
  case neg=>
   have hR0:R=0:=by
    have hdn:slots.drop k=[]:=List.drop_eq_nil_of_le (by omega)
    rcases hr with ⟨rfl,hr⟩|⟨_,y,r,_,hr⟩
    ·exfalso;omega
    ·rw [hdn] at hr;exact hr.symm
   rw [hR0]
   exact We0
  obtain ⟨x,r,hd⟩:=next_at hkl
  have hcd:=sls_drop hd
  obtain ⟨g1,g2⟩:=f3 x (next_mem hd)
  have hnd:=next_drop hd
  have go:slcheck (some x.1) r=R→∀ T' σ',keepT T' [1,2,5]=[(1,.p 0 0),(2,iv .i64 0),(5,iv .i64 ((k:Int)+1))]→σ'.take 1=[.box 35 [sv (bs pre),bv false,.d (.l slots.length (slsD slots)),.d (.l items.length (itsD items))]]→J T' σ':=fun h T' σ' q1 q2=>
   hJ (k+1) T' σ' (by omega) ⟨hkl,.inr ⟨by omega,x,r,by simpa using hd,by rw [hnd];exact h⟩⟩ q1 q2
  clear hJ
  rcases hr with ⟨rfl,hr⟩|⟨hk0,y,r',hp,hr⟩
  ·have hd0:slots=x::r:=hd
   rw [hd0] at hr
   obtain ⟨_,hs⟩:=slcheck_step hr
   obtain ⟨hs1,hs2⟩:=hs rfl
   clear hr hd0 hs
   by_cases b:x.2.length=32
   ·have go:=go (hs2 b)
    (have kxs:=hcd;exact Weg)
   ·obtain rfl:=hs1 b
    (have kxs:=hcd;exact We0)
  ·have hcp:=sls_drop hp
   have hk1:((k:Int)-1).toNat=k-1:=by omega
   obtain ⟨g3,g4⟩:=f3 y (next_mem hp)
   rw [hd] at hr
   obtain ⟨hs0,hs⟩:=slcheck_step hr
   clear hr
   by_cases c0:y.1<x.1
   case neg=>
    obtain rfl:=hs0 (decide_eq_false c0)
    (have kxs:=And.intro hcd (And.intro hcp hk1);exact We0)
   obtain ⟨hs1,hs2⟩:=hs (decide_eq_true c0)
   by_cases b:x.2.length=32
   ·have go:=go (hs2 b)
    (have kxs:=And.intro hcd (And.intro hcp hk1);exact Weg)
   ·obtain rfl:=hs1 b
    (have kxs:=And.intro hcd (And.intro hcp hk1);exact We0)
section
variable (b : List UInt8) (m e : Int)
theorem ref16_Put(ok:Pe.Ok ⟨b,m,e⟩)(o:Oj)(ho:o.fits)(hl:m≤140737488355328∨b.length+(eobj o).length+120≤140737488355328) :
  AC Tryz.prog 135 [.p 0 0,ojV o] [Pe.ro ⟨b,m,e⟩] fun x σ=>x=.t []∧σ=[Pe.ro (Pe.obj ⟨b,m,e⟩ o)]:=by
 refine AC.wk Tryz.func135 ?_
 by_cases hc:o.check=0
 case neg=>
  have hv:Pe.obj ⟨b,m,e⟩ o=Pe.fail ⟨b,m,e⟩ o.check:=by unfold Pe.obj;rw [if_pos hc]
  rw [hv]
  (have kk1:=uN [] (ref16_Check o ho);have kua1:=fun za=>uN [0] (ref02_Fail b m e za);exact Wd1)
 obtain ⟨p1,p2,g1,g2,g3,o1,o2,k1,k3,m2,b0,b1,b2⟩:=Pe.obj_way hc ok hl
 have g2':Pe.count ⟨p1.b,p1.m,p1.e⟩ 16 (o.sibs.length:Nat)=p2:=g2
 focus (have kxs:=And.intro hc (And.intro g1 g2');have kk1:=uN [] (ref16_Check o ho);have kk2:=uN [0] (ref06_Put b o.key m e 128 ok (by omega) b0);have kk3:=uN [0] (ref06_PutCount p1.b p1.m p1.e 16 o1 (o.sibs.length:Nat) (by omega) b1);(repeat' (first|refine G ?_|refine AW.ret ?_|(refine GC ?_ ?_<;>intro h<;>(try simp only [hsB] at h)<;>try exact xf)|(refine GL ?_ ?_<;>intro h<;>(try simp only [hsN] at h)<;>(try simp only [h])<;>(try simp only [hsB] at h)<;>try exact xf)|fail));all_goals clear kxs kk1 kk2 kk3)
 all_goals first|(exfalso;simp_all;done)|skip
 refine AW.rounds [0,3,5] (fun i:Nat=>[(0,.p 0 0),(3,.p 1 0),(5,iv .i64 i)]) (fun i=>[Pe.ro (p2.sibs (o.sibs.take i)),.box 26 [sv (bs o.key),.d (.l o.sibs.length (sbsD o.sibs))]])
  (fun i=>i≤o.sibs.length) (fun i=>o.sibs.length-i) 0 (Nat.zero_le _) rfl rfl (fun _ _=>Nat.le_of_ble_eq_true rfl) (fun _ _=>rfl) (fun _ _=>rfl) ?_
 intro i hi J hJ
 have htf:=take_flat esib o.sibs i
 have hqo:=pens_sibs.keep (p:=p2) (x:=o.sibs.take i) o2 (by omega)
 have hqm:=pens_sibs.m p2 (o.sibs.take i)
 have hql:=pens_sibs.len p2 (o.sibs.take i)
 generalize hq:p2.sibs (o.sibs.take i)=q at *
 by_cases hil:i<o.sibs.length
 case neg=>
  have hi2:i=o.sibs.length:=by omega
  rw [hi2,List.take_length] at hq
  rw [g3,hq]
  exact Wd1
 obtain ⟨x,r,hd⟩:=next_at hil
 have hcd:=sbs_drop hd
 rw [hd] at htf
 simp only [List.map_cons,List.flatten_cons,List.length_append] at htf
 have hn2:p2.sibs (o.sibs.take (i+1))=q.sib x:=by rw [next_take hd,Pe.sibs_snoc,hq]
 have hfx:=ho.2.2 x (next_mem hd)
 focus (have kxs:=hcd;have kk1:=uN [0] (ref15_Put q.b q.m q.e hqo x hfx (by omega));(repeat' (first|refine G ?_|refine AW.ret ?_|(refine GC ?_ ?_<;>intro h<;>(try simp only [hsB] at h)<;>try exact xf)|(refine GL ?_ ?_<;>intro h<;>(try simp only [hsN] at h)<;>(try simp only [h])<;>(try simp only [hsB] at h)<;>try exact xf)|fail));all_goals clear kxs kk1)
 all_goals first|(refine hJ (i+1) _ _ (by omega) hil rfl ?_;rw [hn2];rfl)|(exfalso;simp_all;done)
end
theorem ref16_Encode(o:Oj)(ho:o.fits):AC Tryz.prog 68 [ojV o] [] fun x σ=>x=.t [sv (bs (obje o).1),iv .i64 (obje o).2]∧σ=[]:=by
 refine AC.wk Tryz.func68 ?_
 unfold obje wre
 generalize hp:Pe.obj ⟨[],65536,0⟩ o=q at *
 (have kxs:=hp;have kk1:=uN [] (ref02_New 65536);have kk2:=uN [1] (ref16_Put [] 65536 0 pe0_ok o ho (.inl (by decide)));have kk3:=uN [1] (ref02_End q.b q.m q.e);exact Wd0)
end Go.AW
