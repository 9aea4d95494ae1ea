/-
  Row 23: the laws about payloads.
-/
import Derived.Test.YtdnfcckkdnkaiaaGreatU32
import Derived.Test.YtdnfcckkdnkaiaaGreatU40
set_option linter.unusedVariables false
set_option linter.unusedSimpArgs false
set_option maxHeartbeats 4000000
set_option maxRecDepth 10000
namespace Go.AW
open Go Go.Proofs
attribute [local irreducible] thenQ blockQ RetQ AL AW AC AOp
theorem msgDecodes(v k:Nat)(hv:v<256)(hk:k<256)(s:List UInt8)(hs:s.length≤9223372036854775807):AC Tryz.prog 3 [iv .u8 (v:Nat),iv .u8 (k:Nat),sv (bs s)] [] fun x σ=>x=bv true∧σ=[]:=by
 refine AC.wk Tryz.func3 ?_
 by_cases h3:s.length≤5000
 case neg=>
  (have kk1:=uN [] awake23;exact Wd0)
 have hfit:=msgw_fits v k s (by omega)
 have hde:=msg_Decode v k s hv hk (by omega)
 have hrd:=ref23_Decode v k s hv hk (by omega)
 have hend:(msgw v k s).2=0→msge v (msgw v k s).1=(s,0)∧(msgw v k s).1.check v=0:=fun h=>by
  obtain ⟨_,_,_,h4,h5⟩:=msgw_back (by omega) h
  exact ⟨h4,h5⟩
 generalize msgw v k s=z at *
 obtain ⟨m,e⟩:=z
 simp only at hfit hde hrd hend
 have hsm:=ref23_SameR m hfit
 have hen:=msg_Encode v m hv hfit
 have hck:=msg_Check v m hv hfit
 by_cases he:e=0
 ·obtain ⟨g1,g2⟩:=hend he
  rw [g1] at hen
  rw [g2] at hck
  subst he
  (have kk1:=uN [] awake23;have kk2:=uN [] hde;have kk3:=uN [] hrd;have kk4:=uN [] hsm;have kk5:=uN [] hen;have kk6:=uN [] hck;exact Wd0)
 ·(have kk1:=uN [] awake23;have kk2:=uN [] hde;have kk3:=uN [] hrd;have kk4:=uN [] hsm;exact Wd0)
theorem msgDecodesI(v k:Int)(hv:0≤v∧v≤255)(hk:0≤k∧k≤255)(s:List UInt8)(hs:s.length≤9223372036854775807):AC Tryz.prog 3 [iv .u8 v,iv .u8 k,sv (bs s)] [] fun x σ=>x=bv true∧σ=[]:=by
 obtain ⟨v,rfl⟩:=Int.eq_ofNat_of_zero_le hv.1
 obtain ⟨k,rfl⟩:=Int.eq_ofNat_of_zero_le hk.1
 exact msgDecodes v k (by omega) (by omega) s hs
end Go.AW
