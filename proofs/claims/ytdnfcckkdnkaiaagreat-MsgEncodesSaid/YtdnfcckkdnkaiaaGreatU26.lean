/-
  a message's parts: how they are made, and checked.
-/
import Derived.Test.YtdnfcckkdnkaiaaGreatU24
import Derived.Test.YtdnfcckkdnkaiaaGreatU25
set_option linter.unusedVariables false
set_option linter.unusedSimpArgs false
set_option maxHeartbeats 4000000
set_option maxRecDepth 10000
namespace Go.AW
open Go Go.Proofs
attribute [local irreducible] thenQ blockQ RetQ AL AW AC AOp
theorem msg_fits(s:List UInt8)(n:Nat)(hs:s.length≤9223372036854775807)(hn:n≤9223372036854775807):AC Tryz.prog 169 [sv (bs s),iv .i64 (n:Nat)] [] fun y σ=>y=iv .i64 (longchk s n)∧σ=[]:=by
 refine AC.wk Tryz.func169 ?_
 unfold longchk
 by_cases h:n<s.length
 ·rw [if_pos h]
  exact Wd0
 ·rw [if_neg h]
  exact Wd0
theorem check_Key(m:Mg)(hf:m.fits):AC Tryz.prog 168 [mgV m,.p 0 0,.p 1 0,.p 2 0] [.box 4 [bv true],qo22,qo29] fun y σ=>y=iv .i64 (keychk m.key)∧σ=[.box 4 [bv true],qo22,qo29]:=by
 refine AC.wk Tryz.func168 ?_
 have hl:m.key.length≤9223372036854775807:=by obtain ⟨_,_,f1,_,_,_,_,f2,f3,_,_,_,f4⟩:=hf;assumption
 have hof:=of_Key (mgC m) rfl
 have hft:=msg_fits m.key 128 hl (by decide)
 have hk:keychk m.key=if m.key=[] then 14 else longchk m.key 128:=by
  unfold keychk longchk
  by_cases h:m.key=[]
  ·rw [h];rfl
  ·rw [if_neg h,if_neg h]
 rw [hk]
 by_cases h0:m.key=[]
 ·rw [if_pos h0]
  (have kxs:=h0;have kk1:=uN [3] hof;exact We3)
 ·rw [if_neg h0]
  generalize longchk m.key 128=r at *
  (have kk1:=uN [3] hof;have kk2:=uN [] hft;exact We3)
theorem check_Text(m:Mg)(hf:m.fits):AC Tryz.prog 168 [mgV m,.p 0 0,.p 1 0,.p 2 0] [.box 4 [bv false],qo23,qo30] fun y σ=>y=iv .i64 (longchk m.txt 64)∧σ=[.box 4 [bv false],qo23,qo30]:=by
 refine AC.wk Tryz.func168 ?_
 have hl:m.txt.length≤9223372036854775807:=by obtain ⟨_,_,f1,_,_,_,_,f2,f3,_,_,_,f4⟩:=hf;assumption
 have hof:=of_Text (mgC m) rfl
 have hft:=msg_fits m.txt 64 hl (by decide)
 generalize longchk m.txt 64=r at *
 (have kk1:=uN [3] hof;have kk2:=uN [] hft;exact We3)
theorem check_Value(m:Mg)(hf:m.fits):AC Tryz.prog 168 [mgV m,.p 0 0,.p 1 0,.p 2 0] [.box 4 [bv false],qo24,qo28] fun y σ=>y=iv .i64 (longchk m.val 32768)∧σ=[.box 4 [bv false],qo24,qo28]:=by
 refine AC.wk Tryz.func168 ?_
 have hl:m.val.length≤9223372036854775807:=by obtain ⟨_,_,f1,_,_,_,_,f2,f3,_,_,_,f4⟩:=hf;assumption
 have hof:=of_Value (mgC m) rfl
 have hft:=msg_fits m.val 32768 hl (by decide)
 generalize longchk m.val 32768=r at *
 (have kk1:=uN [3] hof;have kk2:=uN [] hft;exact We3)
theorem check_Prefix(m:Mg)(hf:m.fits):AC Tryz.prog 168 [mgV m,.p 0 0,.p 1 0,.p 2 0] [.box 4 [bv false],qo25,qo31] fun y σ=>y=iv .i64 (longchk m.pre 31)∧σ=[.box 4 [bv false],qo25,qo31]:=by
 refine AC.wk Tryz.func168 ?_
 have hl:m.pre.length≤9223372036854775807:=by obtain ⟨_,_,f1,_,_,_,_,f2,f3,_,_,_,f4⟩:=hf;assumption
 have hof:=of_Prefix (mgC m) rfl
 have hft:=msg_fits m.pre 31 hl (by decide)
 generalize longchk m.pre 31=r at *
 (have kk1:=uN [3] hof;have kk2:=uN [] hft;exact We3)
theorem check_flag(m:Mg):AC Tryz.prog 175 [mgV m] [] fun y σ=>y=iv .i64 0∧σ=[]:=by
 refine AC.wk Tryz.func175 ?_
 exact Wd0
theorem check_object(m:Mg)(hf:m.fits):AC Tryz.prog 193 [mgV m] [] fun y σ=>y=iv .i64 (m.obj.check)∧σ=[]:=by
 refine AC.wk Tryz.func193 ?_
 have hc:=object_Check m.obj hf.2.2.2.1
 generalize m.obj.check=r at *
 (have kk1:=uN [] hc;exact Wd0)
theorem check_old(m:Mg)(hf:m.fits):AC Tryz.prog 184 [mgV m] [] fun y σ=>y=iv .i64 (m.old.check)∧σ=[]:=by
 refine AC.wk Tryz.func184 ?_
 have hc:=legacy_Check m.old hf.2.2.2.2.1
 generalize m.old.check=r at *
 (have kk1:=uN [] hc;exact Wd0)
theorem check_ctx(m:Mg)(hf:m.fits):AC Tryz.prog 206 [mgV m] [] fun y σ=>y=iv .i64 (Vec.check m.ctx)∧σ=[]:=by
 refine AC.wk Tryz.func206 ?_
 have hc:=vector_Check m.ctx hf.2.2.2.2.2.1
 generalize Vec.check m.ctx=r at *
 (have kk1:=uN [] hc;exact Wd0)
theorem check_meta(m:Mg)(hf:m.fits):AC Tryz.prog 212 [mgV m] [] fun y σ=>y=iv .i64 (Prs.check m.meta_)∧σ=[]:=by
 refine AC.wk Tryz.func212 ?_
 have hc:=pairs_Check m.meta_ hf.2.2.2.2.2.2.1
 generalize Prs.check m.meta_=r at *
 (have kk1:=uN [] hc;exact Wd0)
theorem check_page(m:Mg)(hf:m.fits):AC Tryz.prog 219 [mgV m] [] fun y σ=>y=iv .i64 (m.page.check)∧σ=[]:=by
 refine AC.wk Tryz.func219 ?_
 have hc:=page_Check m.page hf.2.2.2.2.2.2.2.2.2.1
 generalize m.page.check=r at *
 (have kk1:=uN [] hc;exact Wd0)
theorem check_ring(m:Mg)(hf:m.fits):AC Tryz.prog 227 [mgV m] [] fun y σ=>y=iv .i64 (Ring.check m.ring)∧σ=[]:=by
 refine AC.wk Tryz.func227 ?_
 have hc:=ring_Check m.ring hf.2.2.2.2.2.2.2.2.2.2.1
 generalize Ring.check m.ring=r at *
 (have kk1:=uN [] hc;exact Wd0)
theorem check_code(m:Mg)(hf:m.fits):AC Tryz.prog 201 [mgV m] [] fun y σ=>y=iv .i64 (codechk m.code)∧σ=[]:=by
 refine AC.wk Tryz.func201 ?_
 obtain ⟨f1,f2⟩:=hf.2.2.2.2.2.2.2.2.2.2.2.1
 unfold codechk
 by_cases h1:m.code<0
 ·rw [if_pos h1]
  exact Wd0
 rw [if_neg h1]
 by_cases h2:255<m.code
 ·rw [if_pos h2]
  exact Wd0
 ·rw [if_neg h2]
  exact Wd0
theorem check_found_object(m:Mg)(hf:m.fits):AC Tryz.prog 180 [mgV m,.p 0 0] [qo17] fun y σ=>y=iv .i64 (if m.found=true then m.obj.check else 0)∧σ=[qo17]:=by
 refine AC.wk Tryz.func180 ?_
 have hc:=check_object m hf
 generalize m.obj.check=r at *
 cases h:m.found with
 | true=>
  rw [if_pos rfl]
  rw [show mgV m=mgV { m with found:=true } by rw [←h]] at hc
  (have kxs:=h;have kk1:=uN [] hc;exact Wd1)
 | false=>
  rw [if_neg (by decide)]
  (have kxs:=h;exact Wd1)
theorem check_found_old(m:Mg)(hf:m.fits):AC Tryz.prog 180 [mgV m,.p 0 0] [qo18] fun y σ=>y=iv .i64 (if m.found=true then m.old.check else 0)∧σ=[qo18]:=by
 refine AC.wk Tryz.func180 ?_
 have hc:=check_old m hf
 generalize m.old.check=r at *
 cases h:m.found with
 | true=>
  rw [if_pos rfl]
  rw [show mgV m=mgV { m with found:=true } by rw [←h]] at hc
  (have kxs:=h;have kk1:=uN [] hc;exact Wd1)
 | false=>
  rw [if_neg (by decide)]
  (have kxs:=h;exact Wd1)
end Go.AW
