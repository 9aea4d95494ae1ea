/-
  Row 24: frames of messages.
-/
import Derived.Test.YtdnfcckkdnkaiaaGreatU40
import Derived.Test.YtdnfcckkdnkaiaaGreatU46
set_option linter.unusedVariables false
set_option linter.unusedSimpArgs false
set_option maxHeartbeats 4000000
set_option maxRecDepth 10000
namespace Go.AW
open Go Go.Proofs Go.RowKit
attribute [local irreducible] thenQ blockQ RetQ AL AW AC AOp
abbrev frV(a b:Nat)(p:List UInt8):V:=.a [iv .u8 (a:Nat),iv .u8 (b:Nat),sv (bs p)]
def sealf(v:Nat)(m:Mg):(Nat × (Nat × List UInt8)) × Int:=if (msge v m).2≠0 then ((0,(0,[])),(msge v m).2) else ((v,(m.kind,(msge v m).1)),0)
theorem rpc_Seal(v:Nat)(m:Mg)(hv:v<256)(hf:m.fits):AC Tryz.prog 16 [iv .u8 (v:Nat),mgV m] [] fun x σ=>x=.t [frV (sealf v m).1.1 (sealf v m).1.2.1 (sealf v m).1.2.2,iv .i64 (sealf v m).2]∧σ=[]:=by
 refine AC.wk Tryz.func16 ?_
 have hen:=msg_Encode v m hv hf
 unfold sealf
 generalize msge v m=z at *
 obtain ⟨t,e⟩:=z
 simp only at hen ⊢
 have hk:=hf.1
 by_cases he:e=0
 ·subst he
  rw [if_neg (by decide)]
  focus (have kk1:=uN [] hen;(repeat' (first|refine G ?_|refine AW.ret ?_|(refine GC ?_ ?_<;>intro h<;>(try simp only [hsB] at h)<;>try exact xf)|(refine GL ?_ ?_<;>intro h<;>(try simp only [hsN] at h)<;>(try simp only [h])<;>(try simp only [hsB] at h)<;>try exact xf)|fail));all_goals clear kk1)
  all_goals first|(exact RetQ.r (xs:=[.a [iv .u8 (v:Nat),iv .u8 (m.kind:Nat),sv (bs t)],iv .i64 0]) 0 rfl (Nat.le_of_ble_eq_true rfl) rfl rfl ⟨rfl,rfl⟩)|exact RetQ.fr 0|exact RetQ.fn 0|exact xg
 ·rw [if_pos he]
  focus (have kk1:=uN [] hen;(repeat' (first|refine G ?_|refine AW.ret ?_|(refine GC ?_ ?_<;>intro h<;>(try simp only [hsB] at h)<;>try exact xf)|(refine GL ?_ ?_<;>intro h<;>(try simp only [hsN] at h)<;>(try simp only [h])<;>(try simp only [hsB] at h)<;>try exact xf)|fail));all_goals clear kk1)
  all_goals first|exact RetQ.fr 0|exact RetQ.fn 0|(exact RetQ.r (xs:=[.a [iv .u8 0,iv .u8 0,sv (bs [])],iv .i64 e]) 0 rfl (Nat.le_of_ble_eq_true rfl) rfl rfl ⟨rfl,rfl⟩)|exact xg
theorem ref24_Seal(v:Nat)(m:Mg)(hv:v<256)(hf:m.fits):AC Tryz.prog 17 [iv .u8 (v:Nat),mgV m] [] fun x σ=>x=.t [frV (sealf v m).1.1 (sealf v m).1.2.1 (sealf v m).1.2.2,iv .i64 (sealf v m).2]∧σ=[]:=by
 refine AC.wk Tryz.func17 ?_
 have hen:=ref23_Encode v m hv hf
 unfold sealf
 generalize msge v m=z at *
 obtain ⟨t,e⟩:=z
 simp only at hen ⊢
 have hk:=hf.1
 by_cases he:e=0
 ·subst he
  rw [if_neg (by decide)]
  focus (have kk1:=uN [] hen;(repeat' (first|refine G ?_|refine AW.ret ?_|(refine GC ?_ ?_<;>intro h<;>(try simp only [hsB] at h)<;>try exact xf)|(refine GL ?_ ?_<;>intro h<;>(try simp only [hsN] at h)<;>(try simp only [h])<;>(try simp only [hsB] at h)<;>try exact xf)|fail));all_goals clear kk1)
  all_goals first|(exact RetQ.r (xs:=[.a [iv .u8 (v:Nat),iv .u8 (m.kind:Nat),sv (bs t)],iv .i64 0]) 0 rfl (Nat.le_of_ble_eq_true rfl) rfl rfl ⟨rfl,rfl⟩)|exact RetQ.fr 0|exact RetQ.fn 0|exact xg
 ·rw [if_pos he]
  focus (have kk1:=uN [] hen;(repeat' (first|refine G ?_|refine AW.ret ?_|(refine GC ?_ ?_<;>intro h<;>(try simp only [hsB] at h)<;>try exact xf)|(refine GL ?_ ?_<;>intro h<;>(try simp only [hsN] at h)<;>(try simp only [h])<;>(try simp only [hsB] at h)<;>try exact xf)|fail));all_goals clear kk1)
  all_goals first|exact RetQ.fr 0|exact RetQ.fn 0|(exact RetQ.r (xs:=[.a [iv .u8 0,iv .u8 0,sv (bs [])],iv .i64 e]) 0 rfl (Nat.le_of_ble_eq_true rfl) rfl rfl ⟨rfl,rfl⟩)|exact xg
theorem rpc_Open(a b:Nat)(p:List UInt8)(ha:a<256)(hb:b<256)(hp:p.length≤140737488351232):AC Tryz.prog 18 [frV a b p] [] fun x σ=>x=.t [mgV (msgw a b p).1,iv .i64 (msgw a b p).2]∧σ=[]:=by
 refine AC.wk Tryz.func18 ?_
 have hde:=msg_Decode a b p ha hb hp
 generalize msgw a b p=z at *
 obtain ⟨m,e⟩:=z
 simp only at hde ⊢
 focus (have kk1:=uN [] hde;(repeat' (first|refine G ?_|refine AW.ret ?_|(refine GC ?_ ?_<;>intro h<;>(try simp only [hsB] at h)<;>try exact xf)|(refine GL ?_ ?_<;>intro h<;>(try simp only [hsN] at h)<;>(try simp only [h])<;>(try simp only [hsB] at h)<;>try exact xf)|fail));all_goals clear kk1)
 all_goals first|(exact RetQ.r (xs:=[.a (mgC m),iv .i64 e]) 0 rfl (Nat.le_of_ble_eq_true rfl) rfl rfl ⟨rfl,rfl⟩)|exact RetQ.fr 0|exact RetQ.fn 0|exact xg
theorem ref24_Open(a b:Nat)(p:List UInt8)(ha:a<256)(hb:b<256)(hp:p.length≤140737488351232):AC Tryz.prog 19 [frV a b p] [] fun x σ=>x=.t [mgV (msgw a b p).1,iv .i64 (msgw a b p).2]∧σ=[]:=by
 refine AC.wk Tryz.func19 ?_
 have hde:=ref23_Decode a b p ha hb hp
 generalize msgw a b p=z at *
 obtain ⟨m,e⟩:=z
 simp only at hde ⊢
 focus (have kk1:=uN [] hde;(repeat' (first|refine G ?_|refine AW.ret ?_|(refine GC ?_ ?_<;>intro h<;>(try simp only [hsB] at h)<;>try exact xf)|(refine GL ?_ ?_<;>intro h<;>(try simp only [hsN] at h)<;>(try simp only [h])<;>(try simp only [hsB] at h)<;>try exact xf)|fail));all_goals clear kk1)
 all_goals first|(exact RetQ.r (xs:=[.a (mgC m),iv .i64 e]) 0 rfl (Nat.le_of_ble_eq_true rfl) rfl rfl ⟨rfl,rfl⟩)|exact RetQ.fr 0|exact RetQ.fn 0|exact xg
def openas(w a b:Nat)(p:List UInt8):Mg × Int:=if a≠w then (mg0,10) else msgw a b p
theorem rpc_OpenAs(w a b:Nat)(p:List UInt8)(hw:w<256)(ha:a<256)(hb:b<256)(hp:p.length≤140737488351232):AC Tryz.prog 20 [iv .u8 (w:Nat),frV a b p] [] fun x σ=>x=.t [mgV (openas w a b p).1,iv .i64 (openas w a b p).2]∧σ=[]:=by
 refine AC.wk Tryz.func20 ?_
 have hde:=rpc_Open a b p ha hb hp
 unfold openas
 by_cases h:a=w
 ·subst h
  rw [if_neg (fun h=>h rfl)]
  generalize msgw a b p=z at *
  obtain ⟨m,e⟩:=z
  simp only at hde ⊢
  focus (have kk1:=uN [] hde;(repeat' (first|refine G ?_|refine AW.ret ?_|(refine GC ?_ ?_<;>intro h<;>(try simp only [hsB] at h)<;>try exact xf)|(refine GL ?_ ?_<;>intro h<;>(try simp only [hsN] at h)<;>(try simp only [h])<;>(try simp only [hsB] at h)<;>try exact xf)|fail));all_goals clear kk1)
  all_goals first|(exact RetQ.r (xs:=[.a (mgC m),iv .i64 e]) 0 rfl (Nat.le_of_ble_eq_true rfl) rfl rfl ⟨rfl,rfl⟩)|exact RetQ.fr 0|exact RetQ.fn 0|exact xg
 ·rw [if_pos h]
  exact Wd0
def mgr:Mg:={ mg0 with kind:=7,id:=1 }
theorem mgr_fits:mgr.fits:=⟨by decide,by decide,by decide,oj0_fits,od0_fits,vec0_fits,prs0_fits,by decide,by decide,pg0_fits,Ring.fits_nil,⟨by decide,by decide⟩,by decide⟩
theorem mgr_e:sealf 2 mgr=((2,(7,[1,0])),0):=by
 have h1:vput 1=[1]:=by rw [vput_small (by decide)];rfl
 have h0:vput 0=[0]:=by rw [vput_small (by decide)];rfl
 have he:encm 2 mgr=[1,0]:=by
  show vput 1++(vput 0++[])=_
  rw [h1,h0];rfl
 have h:=msge_fit (v:=2) (m:=mgr) rfl rfl ⟨mg0_lens.1,mg0_lens.2⟩ (by rw [he];decide)
 unfold sealf
 rw [h,he];rfl
theorem awake24:AC Tryz.prog 14 [] [] fun x σ=>x=bv true∧σ=[]:=by
 have hs:=rpc_Seal 2 mgr (by decide) mgr_fits
 rw [mgr_e] at hs
 have ho:=rpc_Open 2 0 [] (by decide) (by decide) (by decide)
 rw [show msgw 2 0 []=(mg0,11) from rfl] at ho
 refine AC.wk Tryz.func14 ?_
 (have kk1:=uN [] ho;have kk2:=uN [] hs;exact Wd0)
theorem rpcSeals(v w a b:Nat)(hv:v<256)(hw:w<256)(ha:a<256)(hb:b<256)(m:Mg)(hf:m.fits)(p:List UInt8)(hp:p.length≤9223372036854775807) :
  AC Tryz.prog 4 [iv .u8 (v:Nat),mgV m,frV a b p,iv .u8 (w:Nat)] [] fun x σ=>x=bv true∧σ=[]:=by
 refine AC.wk Tryz.func4 ?_
 have hgr':=ref23_Great m hf
 by_cases hgr:Mg.great m=true
 ·rw [hgr] at hgr'
  (have kk1:=uN [] awake24;have kk2:=uN [] hgr';exact Wd0)
 have hgr:Mg.great m=false:=by simpa using hgr
 rw [hgr] at hgr'
 by_cases h5:p.length≤5000
 case neg=>
  (have kk1:=uN [] awake24;have kk2:=uN [] hgr';exact Wd0)
 have hs1:=rpc_Seal v m hv hf
 have hs2:=ref24_Seal v m hv hf
 have ho1:=rpc_Open a b p ha hb (by omega)
 have ho2:=ref24_Open a b p ha hb (by omega)
 have ho3:=rpc_OpenAs w a b p hw ha hb (by omega)
 have hfit:=msgw_fits a b p (by omega)
 have hsm0:=ref23_SameR mg0 mg0_fits
 unfold openas at ho3
 generalize sealf v m=z at *
 obtain ⟨⟨x1,x2,x3⟩,x4⟩:=z
 generalize msgw a b p=z at *
 obtain ⟨y,g⟩:=z
 simp only at hs1 hs2 ho1 ho2 hfit
 have hsm:=ref23_SameR y hfit
 by_cases hwa:a=w
 ·rw [if_neg (by simpa using hwa)] at ho3
  subst hwa
  (have kk1:=uN [] awake24;have kk2:=uN [] hgr';have kk3:=uN [] hs1;have kk4:=uN [] hs2;have kk5:=uN [] ho1;have kk6:=uN [] ho2;have kk7:=uN [] ho3;have kk8:=uN [] hsm;exact Wd0)
 ·rw [if_pos hwa] at ho3
  (have kk1:=uN [] awake24;have kk2:=uN [] hgr';have kk3:=uN [] hs1;have kk4:=uN [] hs2;have kk5:=uN [] ho1;have kk6:=uN [] ho2;have kk7:=uN [] ho3;have kk8:=uN [] hsm;have kk9:=uN [] hsm0;exact Wd0)
theorem rpcSealsI(v:Int)(hv:0≤v∧v≤255)(m:Mg)(hf:m.fits)(x:Nat × (Nat × List UInt8))(hx:x.1<256∧x.2.1<256∧x.2.2.length≤9223372036854775807)(w:Int)(hw:0≤w∧w≤255) :
  AC Tryz.prog 4 [iv .u8 v,mgV m,frV x.1 x.2.1 x.2.2,iv .u8 w] [] fun x σ=>x=bv true∧σ=[]:=by
 obtain ⟨v,rfl⟩:=Int.eq_ofNat_of_zero_le hv.1
 obtain ⟨w,rfl⟩:=Int.eq_ofNat_of_zero_le hw.1
 exact rpcSeals v w x.1 x.2.1 (by omega) (by omega) hx.1 hx.2.1 m hf x.2.2 hx.2.2
section
variable {H : Type} {enc : TypeId × Value → H} {w : World}
theorem rd_fr:Rd enc Tryz.prog w 50 fun xs=>∃ x:Nat × (Nat × List UInt8),xs=[.s (.int .u8 (x.1:Nat)),.s (.int .u8 (x.2.1:Nat)),.s (.string ⟨x.2.2.toArray⟩)]∧x.1<256∧x.2.1<256∧x.2.2.length≤9223372036854775807:=by
 refine Rd.mono (Rd.struct (Ss:=[_,_,_]) Tryz.underlying50 (by kernel_rfl) ⟨Rd.int Tryz.underlying5,Rd.int Tryz.underlying5,Rd.str Tryz.underlying9,trivial⟩) fun xs h=>?_
 obtain ⟨_,_,⟨a,rfl,ha⟩,⟨_,_,⟨b,rfl,hb⟩,⟨_,_,⟨t,rfl,ht⟩,rfl,rfl⟩,rfl⟩,rfl⟩:=h
 have g1:=wf_u8 ha
 have g2:=wf_u8 hb
 refine ⟨(a.toNat,(b.toNat,t)),?_,by show a.toNat<_;omega,by show b.toNat<_;omega,ht⟩
 have e1:((a.toNat:Nat):Int)=a:=by omega
 have e2:((b.toNat:Nat):Int)=b:=by omega
 simp [e1,e2]
end
end Go.AW
