/-
  Row 23: the laws about payloads.
-/
import Derived.Test.YtdnfcckkdnkaiaaGreatU31
set_option linter.unusedVariables false
set_option linter.unusedSimpArgs false
set_option maxHeartbeats 4000000
set_option maxRecDepth 10000
namespace Go.AW
open Go Go.Proofs
attribute [local irreducible] thenQ blockQ RetQ AL AW AC AOp
theorem msg_Check(v:Nat)(m:Mg)(hv:v<256)(hf:m.fits):AC Tryz.prog 13 [iv .u8 (v:Nat),mgV m] [] fun y σ=>y=iv .i64 (m.check v)∧σ=[]:=by
 cases hh:has v m.kind with
 | false=>exact check_none v m hv hf.1 hh
 | true=>
  rcases has_cases hh with ⟨rfl,h|h|h⟩|⟨rfl,h|h|h|h|h|h|h|h|h⟩
  ·exact check_11 m hf h
  ·exact check_12 m hf h
  ·exact check_18 m hf h
  ·exact check_21 m hf h
  ·exact check_22 m hf h
  ·exact check_23 m hf h
  ·exact check_24 m hf h
  ·exact check_25 m hf h
  ·exact check_26 m hf h
  ·exact check_27 m hf h
  ·exact check_28 m hf h
  ·exact check_29 m hf h
theorem mgk_fits:mgk.fits:=⟨by decide,by decide,by decide,oj0_fits,od0_fits,vec0_fits,prs0_fits,by decide,by decide,pg0_fits,Ring.fits_nil,⟨by decide,by decide⟩,by decide⟩
theorem mgk_e:msge 2 mgk=([5,1,107],0):=by
 have h1:vput 5=[5]:=by rw [vput_small (by decide)];rfl
 have h2:vput 1=[1]:=by rw [vput_small (by decide)];rfl
 have he:encm 2 mgk=[5,1,107]:=by
  show vput 5++(vput 1++[107])=_
  rw [h1,h2];rfl
 have h:=msge_fit (v:=2) (m:=mgk) rfl rfl ⟨mg0_lens.1,mg0_lens.2⟩ (by rw [he];decide)
 rw [h,he]
theorem awake23:AC Tryz.prog 8 [] [] fun x σ=>x=bv true∧σ=[]:=by
 have hen:=encode_21 mgk mgk_fits rfl
 rw [mgk_e] at hen
 refine AC.wk Tryz.func8 ?_
 (have kk1:=uN [] hen;exact Wd0)
end Go.AW
