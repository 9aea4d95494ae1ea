/-
  rings that are the same; great ones.
-/
import Derived.Test.YtdnfcckkdnkaiaaGreatU12
import Derived.Test.YtdnfcckkdnkaiaaGreatU23
set_option linter.unusedVariables false
set_option linter.unusedSimpArgs false
set_option maxHeartbeats 4000000
set_option maxRecDepth 10000
namespace Go.AW
open Go Go.Proofs
attribute [local irreducible] thenQ blockQ RetQ AL AW AC AOp
theorem mb_dec(x y:Mb):decide (x=y)=(decide (x.name=y.name)&&(decide ((x.ep:Int)=y.ep)&&(decide ((x.st:Int)=y.st)&&decide (x.toks=y.toks)))):=by
 obtain ⟨a,b,c,d⟩:=x
 obtain ⟨a',b',c',d'⟩:=y
 by_cases h1:a=a'<;>by_cases h2:b=b'<;>by_cases h3:c=c'<;>by_cases h4:d=d'<;>simp [h1,h2,h3,h4,Int.natCast_inj]
theorem ref22_Same(v w:Ring)(hv:v.length≤9223372036854775807)(hf:∀ x ∈ v,x.toks.length≤9223372036854775807):AC Tryz.prog 51 [.d (.l v.length (ringD v)),.d (.l w.length (ringD w))] [] fun x σ=>x=bv (decide (v=w))∧σ=[]:=by
 refine AC.wk Tryz.func51 ?_
 by_cases hl:v.length=w.length
 case neg=>
  have hc:decide (v=w)=false:=by simp;rintro rfl;exact hl rfl
  focus (have kxs:=hc;(repeat' (first|(refine ADr.nil ?_;try clear hgv)|refine GO ?_|refine AW.ret ?_|(refine GC ?_ ?_<;>intro h<;>(try simp only [hsB] at h)<;>try exact xf)|(refine GD ?_ ?_<;>intro h<;>(try intro hgv)<;>(try simp only [hsN] at h)<;>(try simp only [h])<;>(try simp only [hsB] at h)<;>try exact xf)|(refine GL ?_ ?_<;>intro h<;>(try simp only [hsN] at h)<;>(try simp only [h])<;>(try simp only [hsB] at h)<;>try exact xf)|fail));all_goals clear kxs)
  all_goals first|(exfalso;omega)|((all_goals have kxf:=hc;first|exact RetQ.xr 0|exact RetQ.xn 0|fail);done)
 focus ((repeat' (first|(refine ADr.nil ?_;try clear hgv)|refine GO ?_|refine AW.ret ?_|(refine GC ?_ ?_<;>intro h<;>(try simp only [hsB] at h)<;>try exact xf)|(refine GD ?_ ?_<;>intro h<;>(try intro hgv)<;>(try simp only [hsN] at h)<;>(try simp only [h])<;>(try simp only [hsB] at h)<;>try exact xf)|(refine GL ?_ ?_<;>intro h<;>(try simp only [hsN] at h)<;>(try simp only [h])<;>(try simp only [hsB] at h)<;>try exact xf)|fail)))
 all_goals first|(exfalso;omega)|skip
 refine AW.rounds [0,1,4,5] (fun i:Nat=>[(0,.d (.l v.length (ringD v))),(1,.d (.l w.length (ringD w))),(4,bv false),(5,iv .i64 i)]) (fun _=>[])
  (fun i=>i≤v.length∧(v=w↔v.drop i=w.drop i)) (fun i=>v.length-i) 0 ⟨Nat.zero_le _,by simp⟩ rfl rfl (fun _ _=>Nat.zero_le _) (fun _ _=>rfl) (fun _ _=>rfl) ?_
 rintro i ⟨hi,hr⟩ J hJ
 by_cases hil:i<v.length
 case neg=>
  have hc:decide (v=w)=true:=by
   simp only [decide_eq_true_eq]
   rw [hr,List.drop_eq_nil_of_le (by omega),List.drop_eq_nil_of_le (by omega)]
  rw [hc]
  exact We0
 obtain ⟨x,r,hd⟩:=next_at hil
 obtain ⟨y,s,he⟩:=next_at (l:=w) (i:=i) (by omega)
 have hcd:=ring_drop hd
 have hce:=ring_drop he
 have hfx:=hf x (next_mem hd)
 have hno:¬ x=y→decide (v=w)=false:=fun hxy=>by
  simp only [decide_eq_false_iff_not]
  rw [hr,hd,he]
  intro e
  exact hxy (List.cons.inj e).1
 by_cases e1:x.name=y.name
 case neg=>
  have d1:decide (x.name=y.name)=false:=decide_eq_false e1
  rw [hno fun h=>e1 (by rw [h])]
  (have kxs:=And.intro hcd (And.intro hce d1);exact We0)
 have d1:decide (x.name=y.name)=true:=decide_eq_true e1
 by_cases e2:(x.ep:Int)=y.ep
 case neg=>
  have d2:decide ((x.ep:Int)=y.ep)=false:=decide_eq_false e2
  rw [hno fun h=>e2 (by rw [h])]
  (have kxs:=And.intro hcd (And.intro hce (And.intro d1 d2));exact We0)
 have d2:decide ((x.ep:Int)=y.ep)=true:=decide_eq_true e2
 by_cases e3:(x.st:Int)=y.st
 case neg=>
  have d3:decide ((x.st:Int)=y.st)=false:=decide_eq_false e3
  rw [hno fun h=>e3 (by rw [h])]
  (have kxs:=And.intro hcd (And.intro hce (And.intro d1 (And.intro d2 d3)));exact We0)
 have d3:decide ((x.st:Int)=y.st)=true:=decide_eq_true e3
 by_cases e4:x.toks.length=y.toks.length
 case neg=>
  have d4:decide ((x.toks.length:Int)=y.toks.length)=false:=decide_eq_false (by omega)
  rw [hno fun h=>e4 (by rw [h])]
  (have kxs:=And.intro hcd (And.intro hce (And.intro d1 (And.intro d2 (And.intro d3 d4))));exact We0)
 have d4:decide ((x.toks.length:Int)=y.toks.length)=true:=decide_eq_true (by omega)
 have hxy:x=y↔x.toks=y.toks:=⟨fun h=>by rw [h],fun h=>of_decide_eq_true (by rw [mb_dec,d1,d2,d3,decide_eq_true h];rfl)⟩
 have go:x=y→∀ T' σ',keepT T' [0,1,4,5]=[(0,.d (.l v.length (ringD v))),(1,.d (.l w.length (ringD w))),(4,bv false),(5,iv .i64 ((i:Int)+1))]→J T' σ':=fun h T' σ' g1=>
  hJ (i+1) T' σ' (by omega) ⟨hil,by rw [hr,next_drop hd,next_drop he,hd,he,h];simp⟩ g1 rfl
 clear hJ hr
 focus (have kxs:=And.intro hcd (And.intro hce (And.intro d1 (And.intro d2 (And.intro d3 d4))));(repeat' (first|(refine ADr.nil ?_;try clear hgv)|refine GO ?_|refine AW.ret ?_|(refine GC ?_ ?_<;>intro h<;>(try simp only [hsB] at h)<;>try exact xf)|(refine GD ?_ ?_<;>intro h<;>(try intro hgv)<;>(try simp only [hsN] at h)<;>(try simp only [h])<;>(try simp only [hsB] at h)<;>try exact xf)|(refine GL ?_ ?_<;>intro h<;>(try simp only [hsN] at h)<;>(try simp only [h])<;>(try simp only [hsB] at h)<;>try exact xf)|fail));all_goals clear kxs)
 all_goals first|exact xg|skip
 refine AW.rounds [0,1,4,5,6] (fun j:Nat=>[(0,.d (.l v.length (ringD v))),(1,.d (.l w.length (ringD w))),(4,bv false),(5,iv .i64 i),(6,iv .i64 j)]) (fun _=>[])
  (fun j=>j≤x.toks.length∧(x.toks=y.toks↔x.toks.drop j=y.toks.drop j)) (fun j=>x.toks.length-j) 0 ⟨Nat.zero_le _,by simp⟩ rfl rfl (fun _ _=>Nat.zero_le _) (fun _ _=>rfl) (fun _ _=>rfl) ?_
 rintro j ⟨hj,hq⟩ J2 hJ2
 by_cases hjl:j<x.toks.length
 case neg=>
  have hh:=go (hxy.2 (by rw [hq,List.drop_eq_nil_of_le (by omega),List.drop_eq_nil_of_le (by omega)]))
  clear hJ2 hq go
  focus (have kxs:=And.intro hcd hce;(repeat' (first|(refine ADr.nil ?_;try clear hgv)|refine GO ?_|refine AW.ret ?_|(refine GC ?_ ?_<;>intro h<;>(try simp only [hsB] at h)<;>try exact xf)|(refine GD ?_ ?_<;>intro h<;>(try intro hgv)<;>(try simp only [hsN] at h)<;>(try simp only [h])<;>(try simp only [hsB] at h)<;>try exact xf)|(refine GL ?_ ?_<;>intro h<;>(try simp only [hsN] at h)<;>(try simp only [h])<;>(try simp only [hsB] at h)<;>try exact xf)|fail));all_goals clear kxs)
  all_goals first|exact hh _ _ rfl|exact xg
 obtain ⟨t,r2,hd2⟩:=next_at hjl
 obtain ⟨u,s2,he2⟩:=next_at (l:=y.toks) (i:=j) (by omega)
 have hcd2:=toks_drop hd2
 have hce2:=toks_drop he2
 by_cases htu:t=u
 ·have hq2:x.toks=y.toks↔x.toks.drop (j+1)=y.toks.drop (j+1):=by
    rw [hq,next_drop hd2,next_drop he2,hd2,he2,htu];simp
  subst htu
  clear hq go
  focus (have kxs:=And.intro hcd (And.intro hce (And.intro hcd2 (And.intro hce2 @Nat.mul_one)));(repeat' (first|(refine ADr.nil ?_;try clear hgv)|refine GO ?_|refine AW.ret ?_|(refine GC ?_ ?_<;>intro h<;>(try simp only [hsB] at h)<;>try exact xf)|(refine GD ?_ ?_<;>intro h<;>(try intro hgv)<;>(try simp only [hsN] at h)<;>(try simp only [h])<;>(try simp only [hsB] at h)<;>try exact xf)|(refine GL ?_ ?_<;>intro h<;>(try simp only [hsN] at h)<;>(try simp only [h])<;>(try simp only [hsB] at h)<;>try exact xf)|fail));all_goals clear kxs)
  all_goals first|(exact hJ2 (j+1) _ _ (by omega) ⟨hjl,hq2⟩ rfl rfl)|exact xg
 ·have hc:=hno fun h=>htu (by
    have:=hq.1 (hxy.1 h)
    rw [hd2,he2] at this
    exact (List.cons.inj this).1)
  rw [hc]
  have hti:¬ (t:Int)=u:=by omega
  clear hq go hJ2
  (have kxs:=And.intro hcd (And.intro hce (And.intro hcd2 (And.intro hce2 @Nat.mul_one)));exact We0)
theorem Pe.olds_snoc(p:Pe)(l:List Os1)(x:Os1):p.olds (l++[x])=(p.olds l).os1 x:=by simp [Pe.olds,List.foldl_append]
theorem pens_olds:Pens Pe.olds (fun l=>(l.map eos1).flatten) (fun l=>∀ x ∈ l,x.clk.check=0∧x.val.length≤32768):=pens_os1.fold
theorem legacy_Encode(o:Od)(ho:o.fits):AC Tryz.prog 187 [odV o] [] fun x σ=>x=.t [sv (bs (olde o).1),iv .i64 (olde o).2]∧σ=[]:=by
 refine AC.wk Tryz.func187 ?_
 by_cases hc:o.check=0
 case neg=>
  rw [olde_bad hc]
  (have kk1:=uN [] (pen_New 65536 (by decide));have kk2:=uN [] (legacy_Check o ho);exact Wd0)
 rw [olde_good hc]
 obtain ⟨hout,hoc⟩:=Od.check_parts hc
 obtain ⟨hk1,hk2,hl1,hl2⟩:=outside_zero.1 hout
 have hparts:=(ocheck_parts _ _ hoc).1
 have hbo:=(pens_blob 128).keep (p:=⟨[],65536,0⟩) (x:=o.key) pe0_ok (.inl (by decide))
 have hbm:=(pens_blob 128).m ⟨[],65536,0⟩ o.key
 try simp only at hbo hbm
 generalize hb0:Pe.blob ⟨[],65536,0⟩ 128 o.key=p1 at *
 have hco:=(pens_count 16).keep (p:=p1) (x:=o.sibs.length) hbo (.inl (by omega))
 have hcm:=(pens_count 16).m p1 o.sibs.length
 try simp only at hco hcm
 generalize hc0:p1.count 16 (o.sibs.length:Nat)=p2 at *
 have hc':Pe.count ⟨p1.b,p1.m,p1.e⟩ 16 (o.sibs.length:Nat)=p2:=hc0
 focus (have kxs:=And.intro hc (And.intro hb0 hc');have kk1:=uN [] (pen_New 65536 (by decide));have kk2:=uN [] (legacy_Check o ho);have kk3:=uN [1,2] (blob_Put1 [] o.key 65536 0 128 pe0_ok ho.1 (.inl (by decide)));have kk4:=uN [1,2] (blob_PutCount p1.b p1.m p1.e 16 hbo (o.sibs.length:Nat) (by omega) (.inl (by omega)));(repeat' (first|refine G ?_|refine AW.ret ?_|(refine GC ?_ ?_<;>intro h<;>(try simp only [hsB] at h)<;>try exact xf)|(refine GL ?_ ?_<;>intro h<;>(try simp only [hsN] at h)<;>(try simp only [h])<;>(try simp only [hsB] at h)<;>try exact xf)|fail));all_goals clear kxs kk1 kk2 kk3 kk4)
 all_goals first|(exfalso;simp_all;done)|skip
 refine AW.rounds [2,3,4,25,26,27] (fun i:Nat=>[(2,sv (bs [])),(3,iv .i64 0),(4,.p 1 0),(25,.d (.l o.sibs.length (ossD o.sibs))),(26,iv .i64 o.sibs.length),(27,iv .i64 i)])
  (fun i=>[.box 29 [sv (bs o.key),.d (.l o.sibs.length (ossD o.sibs))],.box 196 [.o 2 (p2.olds (o.sibs.take i)).b.length,iv .i64 (p2.olds (o.sibs.take i)).m,iv .i64 (p2.olds (o.sibs.take i)).e],.row 5 1 (p2.olds (o.sibs.take i)).b.length (bsD (p2.olds (o.sibs.take i)).b)])
  (fun i=>i≤o.sibs.length) (fun i=>o.sibs.length-i) 0 (Nat.zero_le _) rfl rfl (fun _ _=>Nat.zero_le _) (fun _ _=>rfl) (fun _ _=>rfl) ?_
 intro i hi J hJ
 have hqo:=pens_olds.keep (p:=p2) (x:=o.sibs.take i) hco (.inl (by omega))
 have hqm:=pens_olds.m p2 (o.sibs.take i)
 generalize hq:p2.olds (o.sibs.take i)=q at *
 by_cases hil:i<o.sibs.length
 case neg=>
  have hi2:i=o.sibs.length:=by omega
  rw [hi2,List.take_length] at hq
  rw [hq]
  (have kk1:=uN [1,2] (pen_End q.b q.m q.e hqo);exact Wd0)
 obtain ⟨x,r,hd⟩:=next_at hil
 have hcd:=oss_drop hd
 have hn2:p2.olds (o.sibs.take (i+1))=q.os1 x:=by rw [next_take hd,Pe.olds_snoc,hq]
 have hfx:=ho.2.2 x (next_mem hd)
 have hvo:=pens_vec.keep (p:=q) (x:=x.clk) hqo (.inl (by omega))
 have hvm:=pens_vec.m q x.clk
 generalize hv0:q.vec x.clk=q1 at *
 have hv':Pe.vec ⟨q.b,q.m,q.e⟩ x.clk=q1:=hv0
 have hfo:=pens_flag.keep (p:=q1) (x:=x.dead) hvo (.inl (by omega))
 have hfm:=pens_flag.m q1 x.dead
 generalize hf0:q1.flag x.dead=q2 at *
 have hf':Pe.flag ⟨q1.b,q1.m,q1.e⟩ x.dead=q2:=hf0
 have hos:q.os1 x=q2.blob 32768 x.val:=by unfold Pe.os1;rw [hv0,hf0]
 focus (have kxs:=And.intro hcd (And.intro hv' hf');have kk1:=uN [1,2] (vcode_Put1 q.b q.m q.e hqo x.clk hfx.1 (.inl (by omega)));have kk2:=uN [1,2] (blob_PutFlag q1.b q1.m q1.e hvo x.dead (.inl (by omega)));have kk3:=uN [1,2] (blob_Put1 q2.b x.val q2.m q2.e 32768 hfo hfx.2 (.inl (by omega)));(repeat' (first|refine G ?_|refine AW.ret ?_|(refine GC ?_ ?_<;>intro h<;>(try simp only [hsB] at h)<;>try exact xf)|(refine GL ?_ ?_<;>intro h<;>(try simp only [hsN] at h)<;>(try simp only [h])<;>(try simp only [hsB] at h)<;>try exact xf)|fail));all_goals clear kxs kk1 kk2 kk3)
 all_goals first|(refine hJ (i+1) _ _ (by omega) hil rfl ?_;rw [hn2,hos];rfl)|(exfalso;simp_all;done)
theorem Pg.check_rest(g:Pg):g.check=if 31<g.pre.length then 3 else if g.leaf=true then (if g.slots≠[] then 1 else if 8<g.items.length then 3 else g.rest) else (if g.items≠[] then 1 else if 256<g.slots.length then 3 else if g.slots=[] then 7 else g.rest):=by
 obtain ⟨p,lf,s,i⟩:=g
 unfold Pg.check Pg.rest
 simp only
 cases lf with
 | true=>
  simp only [if_true]
  by_cases hs:s=[]
  ·subst hs
   have:slcheck none ([]:List Sl)=0:=rfl
   rw [this]
   split
   ·rfl
   split
   ·rfl
   split
   ·rfl
   split
   ·rfl
   ·rename_i h;exact (Decidable.not_not.1 h)
  ·rw [if_pos hs,if_pos hs]
 | false=>
  simp only [Bool.false_eq_true,if_false]
  by_cases hi:i=[]
  ·subst hi
   have:itcheck p none ([]:List It)=0:=rfl
   rw [this]
   simp
  ·rw [if_pos hi,if_pos hi]
theorem slcheck_step{p:Option Nat}{x:Sl}{r:List Sl}{R:Int}(h:slcheck p (x::r)=R):(after p x.1=false→R=6)∧(after p x.1=true→(¬ x.2.length=32→R=1)∧(x.2.length=32→slcheck (some x.1) r=R)):=by
 unfold slcheck at h
 refine ⟨fun h1=>?_,fun h1=>⟨fun h2=>?_,fun h2=>?_⟩⟩
 ·rw [if_pos h1] at h;exact h.symm
 ·rw [if_neg (by rw [h1];decide),if_pos h2] at h;exact h.symm
 ·rw [if_neg (by rw [h1];decide),if_neg (fun h3=>h3 h2)] at h;exact h
theorem page_Check(g:Pg)(hf:g.fits):AC Tryz.prog 220 [pgV g] [] fun y σ=>y=iv .i64 g.check∧σ=[]:=by
 refine AC.wk Tryz.func220 ?_
 rw [Pg.check_rest]
 obtain ⟨f1,⟨f2,f3⟩,f4,f5⟩:=hf
 obtain ⟨pre,leaf,slots,items⟩:=g
 simp only at f1 f2 f3 f4 f5 ⊢
 have hse:slots=[]↔slots.length=0:=List.length_eq_zero_iff.symm
 have hie:items=[]↔items.length=0:=List.length_eq_zero_iff.symm
 simp only [ne_eq,hse,hie]
 generalize hR:Pg.rest ⟨pre,leaf,slots,items⟩=R
 by_cases a1:31<pre.length
 ·rw [if_pos a1]
  exact We0
 rw [if_neg a1]
 by_cases a2:(leaf=true∧slots.length=0∧items.length≤8)∨(leaf=false∧items.length=0∧slots.length≤256∧slots.length≠0)
 case neg=>
  cases leaf with
  | true=>
   simp only [if_true]
   by_cases b1:slots.length=0
   ·rw [if_neg (by simpa using b1)]
    simp only [true_and,Bool.true_eq_false,false_and,or_false] at a2
    have b2:8<items.length:=by omega
    rw [if_pos b2]
    (have kxs:=b1;exact We0)
   ·rw [if_pos (by simpa using b1)]
    exact We0
  | false=>
   simp only [Bool.false_eq_true,if_false]
   by_cases b1:items.length=0
   ·rw [if_neg (by simpa using b1)]
    by_cases b2:256<slots.length
    ·rw [if_pos b2]
     (have kxs:=b1;exact We0)
    ·simp only [true_and,Bool.false_eq_true,false_and,false_or] at a2
     have b3:slots.length=0:=by omega
     rw [if_neg b2,if_pos b3]
     (have kxs:=And.intro b1 b3;exact We0)
   ·rw [if_pos (by simpa using b1)]
    exact We0
 have hr:(if leaf=true then if ¬slots.length=0 then (1:Int) else if 8<items.length then 3 else R else if ¬items.length=0 then 1 else if 256<slots.length then 3 else if slots.length=0 then 7 else R)=R:=by
  rcases a2 with ⟨rfl,b1,b2⟩|⟨rfl,b1,b2,b3⟩
  ·rw [if_pos rfl,if_neg (by simpa using b1),if_neg (by omega)]
  ·rw [if_neg (by decide),if_neg (by simpa using b1),if_neg (by omega),if_neg b3]
 rw [hr]
 clear hr
 rcases a2 with ⟨rfl,b1,b2⟩|⟨rfl,b1,b2,b3⟩
 ·focus ((repeat' (first|(refine ADr.nil ?_;try clear hgv)|refine GO ?_|refine AW.ret ?_|(refine GC ?_ ?_<;>intro h<;>(try simp only [hsB] at h)<;>try exact xf)|(refine GD ?_ ?_<;>intro h<;>(try intro hgv)<;>(try simp only [hsN] at h)<;>(try simp only [h])<;>(try simp only [hsB] at h)<;>try exact xf)|(refine GL ?_ ?_<;>intro h<;>(try simp only [hsN] at h)<;>(try simp only [h])<;>(try simp only [hsB] at h)<;>try exact xf)|fail)))
  all_goals first|exact xg|skip
  refine AW.rounds [1,2,3,65,66,67] (fun z:Nat × List UInt8=>[(1,.p 0 0),(2,iv .i64 0),(3,sv (bs z.2)),(65,.d (.l items.length (itsD items))),(66,iv .i64 items.length),(67,iv .i64 z.1)]) (fun _=>[.box 35 [sv (bs pre),bv true,.d (.l slots.length (slsD slots)),.d (.l items.length (itsD items))]])
   (fun z=>z.1≤items.length∧∃ p,keyAhead p z.2 (decide ((z.1:Int)=0))∧(if itcheck pre p (items.drop z.1)≠0 then itcheck pre p (items.drop z.1) else slcheck none slots)=R) (fun z=>items.length-z.1) (0,[]) ⟨Nat.zero_le _,none,.inl ⟨rfl,rfl⟩,hR⟩ rfl rfl (fun _ _=>Nat.zero_le _) (fun _ _=>rfl) (fun _ _=>rfl) ?_
  rintro ⟨i,last⟩ ⟨hi,p,hp,hr⟩ J hJ
  simp only at hi hp hr hJ ⊢
  clear hR
  by_cases hil:i<items.length
  case' pos=>
   obtain ⟨x,r,hd⟩:=next_at hil
   have hcd:=its_drop hd
   rw [hd,itcheck_cons] at hr
   obtain ⟨g1,g2⟩:=f5 x (next_mem hd)
   have hit:=page_item pre last p (decide ((i:Int)=0)) x hp f1 g1 g2
   have hnd:=next_drop hd
   have go:it1 pre p x=0→∀ T' σ',keepT T' [1,2,3,65,66,67]=[(1,.p 0 0),(2,iv .i64 0),(3,sv (bs x.1)),(65,.d (.l items.length (itsD items))),(66,iv .i64 items.length),(67,iv .i64 ((i:Int)+1))]→σ'.take 1=[.box 35 [sv (bs pre),bv true,.d (.l slots.length (slsD slots)),.d (.l items.length (itsD items))]]→J T' σ':=fun h T' σ' g1 g2=>by
    refine hJ (i+1,x.1) T' σ' (by simp only;omega) ⟨hil,some x.1,.inr ⟨decide_eq_false (by omega),rfl⟩,?_⟩ g1 g2
    rw [h] at hr
    simp only [hnd]
    simpa using hr
   clear hJ
   generalize it1 pre p x=e at *
   by_cases he:e=0
   ·subst he
    have go:=go rfl
    (have kxs:=hcd;have kk1:=uN [] hit;exact Weg)
   ·rw [if_pos (by rw [if_pos he];exact he),if_pos he] at hr
    subst hr
    (have kxs:=hcd;have kk1:=uN [] hit;exact We0)
  case' neg=>
   rw [List.drop_eq_nil_of_le (by omega)] at hr
   rw [show itcheck pre p []=0 from rfl] at hr
   simp only [ne_eq,not_true_eq_false,if_false] at hr
   focus ((repeat' (first|(refine ADr.nil ?_;try clear hgv)|refine GO ?_|refine AW.ret ?_|(refine GC ?_ ?_<;>intro h<;>(try simp only [hsB] at h)<;>try exact xf)|(refine GD ?_ ?_<;>intro h<;>(try intro hgv)<;>(try simp only [hsN] at h)<;>(try simp only [h])<;>(try simp only [hsB] at h)<;>try exact xf)|(refine GL ?_ ?_<;>intro h<;>(try simp only [hsN] at h)<;>(try simp only [h])<;>(try simp only [hsB] at h)<;>try exact xf)|fail)))
   all_goals first|exact xg|skip
   refine AW.rounds [1,2,86,87,88] (fun i:Nat=>[(1,.p 0 0),(2,iv .i64 0),(86,.d (.l slots.length (slsD slots))),(87,iv .i64 slots.length),(88,iv .i64 i)]) (fun _=>[.box 35 [sv (bs pre),bv true,.d (.l slots.length (slsD slots)),.d (.l items.length (itsD items))]])
    (fun i=>i≤slots.length∧((i=0∧slcheck none slots=R)∨(0<i∧∃ y r,slots.drop (i-1)=y::r∧slcheck (some y.1) (slots.drop i)=R))) (fun i=>slots.length-i) 0 ⟨Nat.zero_le _,.inl ⟨rfl,hr⟩⟩ rfl rfl (fun _ _=>Nat.zero_le _) (fun _ _=>rfl) (fun _ _=>rfl) ?_
   clear hJ hr hp hi hil
   rintro k ⟨hk,hr⟩ J hJ
   by_cases hkl:k<slots.length
   case' neg=>
    have hR0:R=0:=by
     have hdn:slots.drop k=[]:=List.drop_eq_nil_of_le (by omega)
     rcases hr with ⟨rfl,hr⟩|⟨_,y,r,_,hr⟩
     ·have:slots=[]:=List.length_eq_zero_iff.1 (by omega)
      rw [this] at hr;exact hr.symm
     ·rw [hdn] at hr;exact hr.symm
    rw [hR0]
    exact We0
   case' pos=>
    obtain ⟨x,r,hd⟩:=next_at hkl
    have hcd:=sls_drop hd
    obtain ⟨g1,g2⟩:=f3 x (next_mem hd)
    have hdr:=digest_Right x.2 g2
    have hnd:=next_drop hd
    have go:slcheck (some x.1) r=R→∀ T' σ',keepT T' [1,2,86,87,88]=[(1,.p 0 0),(2,iv .i64 0),(86,.d (.l slots.length (slsD slots))),(87,iv .i64 slots.length),(88,iv .i64 ((k:Int)+1))]→σ'.take 1=[.box 35 [sv (bs pre),bv true,.d (.l slots.length (slsD slots)),.d (.l items.length (itsD items))]]→J T' σ':=fun h T' σ' q1 q2=>
     hJ (k+1) T' σ' (by omega) ⟨hkl,.inr ⟨by omega,x,r,by simpa using hd,by rw [hnd];exact h⟩⟩ q1 q2
    clear hJ
    rcases hr with ⟨rfl,hr⟩|⟨hk0,y,r',hp,hr⟩
    ·have hd0:slots=x::r:=hd
     rw [hd0] at hr
     obtain ⟨_,hs⟩:=slcheck_step hr
     obtain ⟨hs1,hs2⟩:=hs rfl
     clear hr hd0 hs
     by_cases b:x.2.length=32
     ·rw [decide_eq_true b] at hdr
      have go:=go (hs2 b)
      (have kxs:=hcd;have kk1:=uN [] hdr;exact Weg)
     ·obtain rfl:=hs1 b
      rw [decide_eq_false b] at hdr
      (have kxs:=hcd;have kk1:=uN [] hdr;exact We0)
    ·have hcp:=sls_drop hp
     have hk1:((k:Int)-1).toNat=k-1:=by omega
     obtain ⟨g3,g4⟩:=f3 y (next_mem hp)
     rw [hd] at hr
     obtain ⟨hs0,hs⟩:=slcheck_step hr
     clear hr
     by_cases b0:y.1<x.1
     case neg=>
      obtain rfl:=hs0 (decide_eq_false b0)
      (have kxs:=And.intro hcd (And.intro hcp hk1);have kk1:=uN [] hdr;exact We0)
     obtain ⟨hs1,hs2⟩:=hs (decide_eq_true b0)
     by_cases b:x.2.length=32
     ·rw [decide_eq_true b] at hdr
      have go:=go (hs2 b)
      (have kxs:=And.intro hcd (And.intro hcp hk1);have kk1:=uN [] hdr;exact Weg)
     ·obtain rfl:=hs1 b
      rw [decide_eq_false b] at hdr
      (have kxs:=And.intro hcd (And.intro hcp hk1);have kk1:=uN [] hdr;exact We0)
 ·focus ((repeat' (first|(refine ADr.nil ?_;try clear hgv)|refine GO ?_|refine AW.ret ?_|(refine GC ?_ ?_<;>intro h<;>(try simp only [hsB] at h)<;>try exact xf)|(refine GD ?_ ?_<;>intro h<;>(try intro hgv)<;>(try simp only [hsN] at h)<;>(try simp only [h])<;>(try simp only [hsB] at h)<;>try exact xf)|(refine GL ?_ ?_<;>intro h<;>(try simp only [hsN] at h)<;>(try simp only [h])<;>(try simp only [hsB] at h)<;>try exact xf)|fail)))
  all_goals first|exact xg|skip
  refine AW.rounds [1,2,3,65,66,67] (fun z:Nat × List UInt8=>[(1,.p 0 0),(2,iv .i64 0),(3,sv (bs z.2)),(65,.d (.l items.length (itsD items))),(66,iv .i64 items.length),(67,iv .i64 z.1)]) (fun _=>[.box 35 [sv (bs pre),bv false,.d (.l slots.length (slsD slots)),.d (.l items.length (itsD items))]])
   (fun z=>z.1≤items.length∧∃ p,keyAhead p z.2 (decide ((z.1:Int)=0))∧(if itcheck pre p (items.drop z.1)≠0 then itcheck pre p (items.drop z.1) else slcheck none slots)=R) (fun z=>items.length-z.1) (0,[]) ⟨Nat.zero_le _,none,.inl ⟨rfl,rfl⟩,hR⟩ rfl rfl (fun _ _=>Nat.zero_le _) (fun _ _=>rfl) (fun _ _=>rfl) ?_
  rintro ⟨i,last⟩ ⟨hi,p,hp,hr⟩ J hJ
  simp only at hi hp hr hJ ⊢
  clear hR
  by_cases hil:i<items.length
  case' pos=>
   obtain ⟨x,r,hd⟩:=next_at hil
   have hcd:=its_drop hd
   rw [hd,itcheck_cons] at hr
   obtain ⟨g1,g2⟩:=f5 x (next_mem hd)
   have hit:=page_item pre last p (decide ((i:Int)=0)) x hp f1 g1 g2
   have hnd:=next_drop hd
   have go:it1 pre p x=0→∀ T' σ',keepT T' [1,2,3,65,66,67]=[(1,.p 0 0),(2,iv .i64 0),(3,sv (bs x.1)),(65,.d (.l items.length (itsD items))),(66,iv .i64 items.length),(67,iv .i64 ((i:Int)+1))]→σ'.take 1=[.box 35 [sv (bs pre),bv false,.d (.l slots.length (slsD slots)),.d (.l items.length (itsD items))]]→J T' σ':=fun h T' σ' g1 g2=>by
    refine hJ (i+1,x.1) T' σ' (by simp only;omega) ⟨hil,some x.1,.inr ⟨decide_eq_false (by omega),rfl⟩,?_⟩ g1 g2
    rw [h] at hr
    simp only [hnd]
    simpa using hr
   clear hJ
   generalize it1 pre p x=e at *
   by_cases he:e=0
   ·subst he
    have go:=go rfl
    (have kxs:=hcd;have kk1:=uN [] hit;exact Weg)
   ·rw [if_pos (by rw [if_pos he];exact he),if_pos he] at hr
    subst hr
    (have kxs:=hcd;have kk1:=uN [] hit;exact We0)
  case' neg=>
   rw [List.drop_eq_nil_of_le (by omega)] at hr
   rw [show itcheck pre p []=0 from rfl] at hr
   simp only [ne_eq,not_true_eq_false,if_false] at hr
   focus ((repeat' (first|(refine ADr.nil ?_;try clear hgv)|refine GO ?_|refine AW.ret ?_|(refine GC ?_ ?_<;>intro h<;>(try simp only [hsB] at h)<;>try exact xf)|(refine GD ?_ ?_<;>intro h<;>(try intro hgv)<;>(try simp only [hsN] at h)<;>(try simp only [h])<;>(try simp only [hsB] at h)<;>try exact xf)|(refine GL ?_ ?_<;>intro h<;>(try simp only [hsN] at h)<;>(try simp only [h])<;>(try simp only [hsB] at h)<;>try exact xf)|fail)))
   all_goals first|exact xg|skip
   refine AW.rounds [1,2,86,87,88] (fun i:Nat=>[(1,.p 0 0),(2,iv .i64 0),(86,.d (.l slots.length (slsD slots))),(87,iv .i64 slots.length),(88,iv .i64 i)]) (fun _=>[.box 35 [sv (bs pre),bv false,.d (.l slots.length (slsD slots)),.d (.l items.length (itsD items))]])
    (fun i=>i≤slots.length∧((i=0∧slcheck none slots=R)∨(0<i∧∃ y r,slots.drop (i-1)=y::r∧slcheck (some y.1) (slots.drop i)=R))) (fun i=>slots.length-i) 0 ⟨Nat.zero_le _,.inl ⟨rfl,hr⟩⟩ rfl rfl (fun _ _=>Nat.zero_le _) (fun _ _=>rfl) (fun _ _=>rfl) ?_
   clear hJ hr hp hi hil
   rintro k ⟨hk,hr⟩ J hJ
   by_cases hkl:k<slots.length
   case' neg=>
    have hR0:R=0:=by
     have hdn:slots.drop k=[]:=List.drop_eq_nil_of_le (by omega)
     rcases hr with ⟨rfl,hr⟩|⟨_,y,r,_,hr⟩
     ·have:slots=[]:=List.length_eq_zero_iff.1 (by omega)
      rw [this] at hr;exact hr.symm
     ·rw [hdn] at hr;exact hr.symm
    rw [hR0]
    exact We0
   case' pos=>
    obtain ⟨x,r,hd⟩:=next_at hkl
    have hcd:=sls_drop hd
    obtain ⟨g1,g2⟩:=f3 x (next_mem hd)
    have hdr:=digest_Right x.2 g2
    have hnd:=next_drop hd
    have go:slcheck (some x.1) r=R→∀ T' σ',keepT T' [1,2,86,87,88]=[(1,.p 0 0),(2,iv .i64 0),(86,.d (.l slots.length (slsD slots))),(87,iv .i64 slots.length),(88,iv .i64 ((k:Int)+1))]→σ'.take 1=[.box 35 [sv (bs pre),bv false,.d (.l slots.length (slsD slots)),.d (.l items.length (itsD items))]]→J T' σ':=fun h T' σ' q1 q2=>
     hJ (k+1) T' σ' (by omega) ⟨hkl,.inr ⟨by omega,x,r,by simpa using hd,by rw [hnd];exact h⟩⟩ q1 q2
    clear hJ
    rcases hr with ⟨rfl,hr⟩|⟨hk0,y,r',hp,hr⟩
    ·have hd0:slots=x::r:=hd
     rw [hd0] at hr
     obtain ⟨_,hs⟩:=slcheck_step hr
     obtain ⟨hs1,hs2⟩:=hs rfl
     clear hr hd0 hs
     by_cases b:x.2.length=32
     ·rw [decide_eq_true b] at hdr
      have go:=go (hs2 b)
      (have kxs:=hcd;have kk1:=uN [] hdr;exact Weg)
     ·obtain rfl:=hs1 b
      rw [decide_eq_false b] at hdr
      (have kxs:=hcd;have kk1:=uN [] hdr;exact We0)
    ·have hcp:=sls_drop hp
     have hk1:((k:Int)-1).toNat=k-1:=by omega
     obtain ⟨g3,g4⟩:=f3 y (next_mem hp)
     rw [hd] at hr
     obtain ⟨hs0,hs⟩:=slcheck_step hr
     clear hr
     by_cases b0:y.1<x.1
     case neg=>
      obtain rfl:=hs0 (decide_eq_false b0)
      (have kxs:=And.intro hcd (And.intro hcp hk1);have kk1:=uN [] hdr;exact We0)
     obtain ⟨hs1,hs2⟩:=hs (decide_eq_true b0)
     by_cases b:x.2.length=32
     ·rw [decide_eq_true b] at hdr
      have go:=go (hs2 b)
      (have kxs:=And.intro hcd (And.intro hcp hk1);have kk1:=uN [] hdr;exact Weg)
     ·obtain rfl:=hs1 b
      rw [decide_eq_false b] at hdr
      (have kxs:=And.intro hcd (And.intro hcp hk1);have kk1:=uN [] hdr;exact We0)
end Go.AW
