/-
  a message's parts: a whole message is written.
-/
import Derived.Test.YtdnfcckkdnkaiaaGreatU29
set_option linter.unusedVariables false
set_option linter.unusedSimpArgs false
set_option maxHeartbeats 4000000
set_option maxRecDepth 10000
namespace Go.AW
open Go Go.Proofs
attribute [local irreducible] thenQ blockQ RetQ AL AW AC AOp
theorem wre_le{α:Type}{W:Pe→α→Pe}{enc:α→List UInt8}{ok:α→Prop}(h:Pens W enc ok)(x:α):(wre W x).1.length≤9223372036854775807:=by
 have h1:=h.cap ⟨[],65536,0⟩ x
 have h2:(wre W x).1=if (W ⟨[],65536,0⟩ x).e≠0 then [] else (W ⟨[],65536,0⟩ x).b:=by
  unfold wre Pe.fin;split<;>rfl
 rw [h2]
 split
 ·simp
 ·simp only [List.length_nil] at h1;omega
theorem obje_le(o:Oj):(obje o).1.length≤9223372036854775807:=wre_le pens_obj o
theorem olde_le(o:Od):(olde o).1.length≤9223372036854775807:=wre_le pens_old o
theorem pcount_m(p:Pe)(k n:Int):(Pe.count p k n).m=p.m:=by unfold Pe.count;split<;>(try split)<;>first|rfl|exact pens_text.m _ _
theorem pcount_ok{b:List UInt8}{e k n:Int}(ok:Pe.Ok ⟨b,65536,e⟩):(Pe.count ⟨b,65536,e⟩ k n).Ok:=by unfold Pe.count;split<;>(try split)<;>first|exact ok|exact pens_text.keep ok (.inl (by show (65536:Int)≤_;decide))
theorem encode_none(v:Nat)(m:Mg)(hv:v<256)(hk:m.kind<256)(h:has v m.kind=false):AC Tryz.prog 12 [iv .u8 (v:Nat),mgV m] [] fun y σ=>y=.t [sv (bs (msge v m).1),iv .i64 (msge v m).2]∧σ=[]:=by
 refine AC.wk Tryz.func12 ?_
 have hw:=check_none v m hv hk h
 have hr:m.check v=if v≠1∧v≠2 then 10 else 11:=by unfold Mg.check;rw [if_pos h]
 have hr0:m.check v≠0:=by rw [hr];split<;>decide
 rw [show msge v m=([],m.check v) by unfold msge;rw [if_pos hr0]]
 generalize m.check v=r at *
 (have kk1:=uN [] hw;exact Wd0)
theorem encode_11(m:Mg)(hf:m.fits)(hk:m.kind=1):AC Tryz.prog 12 [iv .u8 1,mgV m] [] fun y σ=>y=.t [sv (bs (msge 1 m).1),iv .i64 (msge 1 m).2]∧σ=[]:=by
 refine AC.wk Tryz.func12 ?_
 obtain ⟨knd,id,key,fnd,obj,old,ctx,mt,dd,vl,px,pg,rg,cd,tx⟩:=m
 simp only at hk
 subst hk
 have hck:=check_11 ⟨1,id,key,fnd,obj,old,ctx,mt,dd,vl,px,pg,rg,cd,tx⟩ hf rfl
 obtain ⟨r,hr⟩:∃ r,r=Mg.check 1 ⟨1,id,key,fnd,obj,old,ctx,mt,dd,vl,px,pg,rg,cd,tx⟩:=⟨_,rfl⟩
 rw [←hr] at hck
 by_cases hc:r=0
 case neg=>
  rw [show msge 1 ⟨1,id,key,fnd,obj,old,ctx,mt,dd,vl,px,pg,rg,cd,tx⟩=([],r) by unfold msge;rw [←hr,if_pos hc]]
  (have kk1:=uN [] hck;exact Wd0)
 subst hc
 have hx:(keychk key)=0:=hr.symm
 have hid:id<18446744073709551616:=hf.2.1
 have hvl:=vput_len10 hid
 have hfin:msge 1 ⟨1,id,key,fnd,obj,old,ctx,mt,dd,vl,px,pg,rg,cd,tx⟩=Pe.fin (Pe.blob (Pe.text ⟨[],65536,0⟩ (vput id)) 128 key):=by unfold msge;rw [←hr,if_neg (by decide)];rfl
 rw [hfin]
 clear hfin
 have hp:=parts_11
 have hnew:=@pen_New 65536 (by decide)
 rw [if_neg (by decide)] at hnew
 have hv:=varint_Put1 [] 65536 0 (pk_ok (by decide)) id hid (.inl (by decide))
 have e0:Pe.text ⟨[],65536,0⟩ (vput id)=⟨vput id,65536,0⟩:=by rw [pk_text (by simp only [List.length_nil];omega),List.nil_append]
 rw [e0] at hv ⊢
 generalize vput id=b0 at *
 have k0:Pe.Ok ⟨b0,65536,0⟩:=pk_ok (by omega)
 have h0:=put_Key ⟨1,id,key,fnd,obj,old,ctx,mt,dd,vl,px,pg,rg,cd,tx⟩ hf b0 0 k0
 have m1:(Pe.blob ⟨b0,65536,0⟩ 128 key).m=65536:=(pens_blob 128).m _ _
 have k1:Pe.Ok (Pe.blob ⟨b0,65536,0⟩ 128 key):=(pens_blob 128).keep k0 (.inl (by show (65536:Int)≤_;decide))
 simp only at h0
 generalize (Pe.blob ⟨b0,65536,0⟩ 128 key)=R at *
 obtain ⟨b1,mm1,e1⟩:=R
 simp only at m1
 subst m1
 have hen:=pen_End b1 65536 e1 k1
 focus (have kk1:=uN [] hck;have kk2:=uN [] hp;have kk3:=uN [] hnew;have kk4:=uN [12,13] hv;(repeat' (first|refine G ?_|refine AW.ret ?_|(refine GC ?_ ?_<;>intro h<;>(try simp only [hsB] at h)<;>try exact xf)|(refine GL ?_ ?_<;>intro h<;>(try simp only [hsN] at h)<;>(try simp only [h])<;>(try simp only [hsB] at h)<;>try exact xf)|fail));all_goals clear kk1 kk2 kk3 kk4)
 all_goals first|exact xg|skip
 refine AW.rounds [3,4,5,9,31,32,33] (fun i:Nat=>[(3,.p 0 0),(4,sv (bs [])),(5,iv .i64 0),(9,.p 12 0),(31,.b 11 0 1),(32,iv .i64 1),(33,iv .i64 (i:Nat))]) (fun i=>[.box 38 (mgC ⟨1,id,key,fnd,obj,old,ctx,mt,dd,vl,px,pg,rg,cd,tx⟩),qo29,.box 4 [bv true],qo22,qo10,qo26,qo15,qo30,.box 4 [bv false],qo23,qo11,qo10,.box 196 [.o 13 (match i with|0=>b0|_=>b1).length,iv .i64 65536,iv .i64 (match i with|0=>0|_=>e1)],.row 5 1 (match i with|0=>b0|_=>b1).length (bsD (match i with|0=>b0|_=>b1))])
  (fun i=>i≤1) (fun i=>1-i) 0 (Nat.zero_le _) rfl rfl (fun _ _=>Nat.zero_le _) (fun i _=>rfl) (fun _ _=>rfl) ?_
 rintro i hi J hJ
 have hc:i=0∨i=1:=by omega
 rcases hc with rfl|rfl
 ·clear hck hp hnew hv
  (have kk1:=uN [12,13,1,3] h0;have go:=fun zT zs=>hJ 1 zT zs (by decide) (by decide);exact Wdg)
 ·clear hck hp hnew hv
  (have kk1:=uN [12,13] hen;exact Wd0)
theorem encode_12(m:Mg)(hf:m.fits)(hk:m.kind=2):AC Tryz.prog 12 [iv .u8 1,mgV m] [] fun y σ=>y=.t [sv (bs (msge 1 m).1),iv .i64 (msge 1 m).2]∧σ=[]:=by
 refine AC.wk Tryz.func12 ?_
 obtain ⟨knd,id,key,fnd,obj,old,ctx,mt,dd,vl,px,pg,rg,cd,tx⟩:=m
 simp only at hk
 subst hk
 have hck:=check_12 ⟨2,id,key,fnd,obj,old,ctx,mt,dd,vl,px,pg,rg,cd,tx⟩ hf rfl
 obtain ⟨r,hr⟩:∃ r,r=Mg.check 1 ⟨2,id,key,fnd,obj,old,ctx,mt,dd,vl,px,pg,rg,cd,tx⟩:=⟨_,rfl⟩
 rw [←hr] at hck
 by_cases hc:r=0
 case neg=>
  rw [show msge 1 ⟨2,id,key,fnd,obj,old,ctx,mt,dd,vl,px,pg,rg,cd,tx⟩=([],r) by unfold msge;rw [←hr,if_pos hc]]
  (have kk1:=uN [] hck;exact Wd0)
 subst hc
 have hx:(if fnd=true then old.check else 0)=0:=hr.symm
 have hid:id<18446744073709551616:=hf.2.1
 have hvl:=vput_len10 hid
 have hfin:msge 1 ⟨2,id,key,fnd,obj,old,ctx,mt,dd,vl,px,pg,rg,cd,tx⟩=Pe.fin (if fnd=true then Pe.blob (Pe.fail (Pe.flag (Pe.text ⟨[],65536,0⟩ (vput id)) fnd) (olde old).2) 65536 (olde old).1 else (Pe.flag (Pe.text ⟨[],65536,0⟩ (vput id)) fnd)):=by unfold msge;rw [←hr,if_neg (by decide)];rfl
 rw [hfin]
 clear hfin
 have hp:=parts_12
 have hnew:=@pen_New 65536 (by decide)
 rw [if_neg (by decide)] at hnew
 have hv:=varint_Put1 [] 65536 0 (pk_ok (by decide)) id hid (.inl (by decide))
 have e0:Pe.text ⟨[],65536,0⟩ (vput id)=⟨vput id,65536,0⟩:=by rw [pk_text (by simp only [List.length_nil];omega),List.nil_append]
 rw [e0] at hv ⊢
 generalize vput id=b0 at *
 have k0:Pe.Ok ⟨b0,65536,0⟩:=pk_ok (by omega)
 have h0:=put_Found ⟨2,id,key,fnd,obj,old,ctx,mt,dd,vl,px,pg,rg,cd,tx⟩ b0 0 k0
 have m1:(Pe.flag ⟨b0,65536,0⟩ fnd).m=65536:=pens_flag.m _ _
 have k1:Pe.Ok (Pe.flag ⟨b0,65536,0⟩ fnd):=pens_flag.keep k0 (.inl (by show (65536:Int)≤_;decide))
 simp only at h0
 generalize (Pe.flag ⟨b0,65536,0⟩ fnd)=R at *
 obtain ⟨b1,mm1,e1⟩:=R
 simp only at m1
 subst m1
 have h1:=put_found_old ⟨2,id,key,fnd,obj,old,ctx,mt,dd,vl,px,pg,rg,cd,tx⟩ hf (olde_le old) b1 e1 k1
 have m2:(if fnd=true then Pe.blob (Pe.fail ⟨b1,65536,e1⟩ (olde old).2) 65536 (olde old).1 else ⟨b1,65536,e1⟩).m=65536:=(by split;exact (pens_blob 65536).m (Pe.fail ⟨b1,65536,e1⟩ (olde old).2) _;rfl)
 have k2:Pe.Ok (if fnd=true then Pe.blob (Pe.fail ⟨b1,65536,e1⟩ (olde old).2) 65536 (olde old).1 else ⟨b1,65536,e1⟩):=(by split;exact (pens_blob 65536).keep (p:=Pe.fail ⟨b1,65536,e1⟩ (olde old).2) k1 (.inl (by show (65536:Int)≤_;decide));exact k1)
 simp only at h1
 generalize (if fnd=true then Pe.blob (Pe.fail ⟨b1,65536,e1⟩ (olde old).2) 65536 (olde old).1 else ⟨b1,65536,e1⟩)=R at *
 obtain ⟨b2,mm2,e2⟩:=R
 simp only at m2
 subst m2
 have hen:=pen_End b2 65536 e2 k2
 focus (have kk1:=uN [] hck;have kk2:=uN [] hp;have kk3:=uN [] hnew;have kk4:=uN [13,14] hv;(repeat' (first|refine G ?_|refine AW.ret ?_|(refine GC ?_ ?_<;>intro h<;>(try simp only [hsB] at h)<;>try exact xf)|(refine GL ?_ ?_<;>intro h<;>(try simp only [hsN] at h)<;>(try simp only [h])<;>(try simp only [hsB] at h)<;>try exact xf)|fail));all_goals clear kk1 kk2 kk3 kk4)
 all_goals first|exact xg|skip
 refine AW.rounds [3,4,5,9,31,32,33] (fun i:Nat=>[(3,.p 0 0),(4,sv (bs [])),(5,iv .i64 0),(9,.p 13 0),(31,.b 12 0 2),(32,iv .i64 2),(33,iv .i64 (i:Nat))]) (fun i=>[.box 38 (mgC ⟨2,id,key,fnd,obj,old,ctx,mt,dd,vl,px,pg,rg,cd,tx⟩),qo29,.box 4 [bv true],qo22,qo10,qo26,qo15,qo30,.box 4 [bv false],qo23,qo11,qo18,qo4,.box 196 [.o 14 (match i with|0=>b0|1=>b1|_=>b2).length,iv .i64 65536,iv .i64 (match i with|0=>0|1=>e1|_=>e2)],.row 5 1 (match i with|0=>b0|1=>b1|_=>b2).length (bsD (match i with|0=>b0|1=>b1|_=>b2))])
  (fun i=>i≤2) (fun i=>2-i) 0 (Nat.zero_le _) rfl rfl (fun _ _=>Nat.zero_le _) (fun i _=>rfl) (fun _ _=>rfl) ?_
 rintro i hi J hJ
 have hc:i=0∨i=1∨i=2:=by omega
 rcases hc with rfl|rfl|rfl
 ·clear hck hp hnew hv
  (have kk1:=uN [13,14,5] h0;have go:=fun zT zs=>hJ 1 zT zs (by decide) (by decide);exact Wdg)
 ·clear hck hp hnew hv
  (have kk1:=uN [13,14,11] h1;have go:=fun zT zs=>hJ 2 zT zs (by decide) (by decide);exact Wdg)
 ·clear hck hp hnew hv
  (have kk1:=uN [13,14] hen;exact Wd0)
theorem encode_18(m:Mg)(hf:m.fits)(hk:m.kind=8):AC Tryz.prog 12 [iv .u8 1,mgV m] [] fun y σ=>y=.t [sv (bs (msge 1 m).1),iv .i64 (msge 1 m).2]∧σ=[]:=by
 refine AC.wk Tryz.func12 ?_
 obtain ⟨knd,id,key,fnd,obj,old,ctx,mt,dd,vl,px,pg,rg,cd,tx⟩:=m
 simp only at hk
 subst hk
 have hck:=check_18 ⟨8,id,key,fnd,obj,old,ctx,mt,dd,vl,px,pg,rg,cd,tx⟩ hf rfl
 obtain ⟨r,hr⟩:∃ r,r=Mg.check 1 ⟨8,id,key,fnd,obj,old,ctx,mt,dd,vl,px,pg,rg,cd,tx⟩:=⟨_,rfl⟩
 rw [←hr] at hck
 by_cases hc:r=0
 case neg=>
  rw [show msge 1 ⟨8,id,key,fnd,obj,old,ctx,mt,dd,vl,px,pg,rg,cd,tx⟩=([],r) by unfold msge;rw [←hr,if_pos hc]]
  (have kk1:=uN [] hck;exact Wd0)
 subst hc
 have hx:(fst0 (codechk cd) (longchk tx 64))=0:=hr.symm
 have hid:id<18446744073709551616:=hf.2.1
 have hvl:=vput_len10 hid
 have hfin:msge 1 ⟨8,id,key,fnd,obj,old,ctx,mt,dd,vl,px,pg,rg,cd,tx⟩=Pe.fin (Pe.blob (Pe.count (Pe.text ⟨[],65536,0⟩ (vput id)) 255 cd) 64 tx):=by unfold msge;rw [←hr,if_neg (by decide)];rfl
 rw [hfin]
 clear hfin
 have hp:=parts_18
 have hnew:=@pen_New 65536 (by decide)
 rw [if_neg (by decide)] at hnew
 have hv:=varint_Put1 [] 65536 0 (pk_ok (by decide)) id hid (.inl (by decide))
 have e0:Pe.text ⟨[],65536,0⟩ (vput id)=⟨vput id,65536,0⟩:=by rw [pk_text (by simp only [List.length_nil];omega),List.nil_append]
 rw [e0] at hv ⊢
 generalize vput id=b0 at *
 have k0:Pe.Ok ⟨b0,65536,0⟩:=pk_ok (by omega)
 have h0:=put_code ⟨8,id,key,fnd,obj,old,ctx,mt,dd,vl,px,pg,rg,cd,tx⟩ hf b0 0 k0
 have m1:(Pe.count ⟨b0,65536,0⟩ 255 cd).m=65536:=(pcount_m _ _ _)
 have k1:Pe.Ok (Pe.count ⟨b0,65536,0⟩ 255 cd):=pcount_ok k0
 simp only at h0
 generalize (Pe.count ⟨b0,65536,0⟩ 255 cd)=R at *
 obtain ⟨b1,mm1,e1⟩:=R
 simp only at m1
 subst m1
 have h1:=put_Text ⟨8,id,key,fnd,obj,old,ctx,mt,dd,vl,px,pg,rg,cd,tx⟩ hf b1 e1 k1
 have m2:(Pe.blob ⟨b1,65536,e1⟩ 64 tx).m=65536:=(pens_blob 64).m _ _
 have k2:Pe.Ok (Pe.blob ⟨b1,65536,e1⟩ 64 tx):=(pens_blob 64).keep k1 (.inl (by show (65536:Int)≤_;decide))
 simp only at h1
 generalize (Pe.blob ⟨b1,65536,e1⟩ 64 tx)=R at *
 obtain ⟨b2,mm2,e2⟩:=R
 simp only at m2
 subst m2
 have hen:=pen_End b2 65536 e2 k2
 focus (have kk1:=uN [] hck;have kk2:=uN [] hp;have kk3:=uN [] hnew;have kk4:=uN [12,13] hv;(repeat' (first|refine G ?_|refine AW.ret ?_|(refine GC ?_ ?_<;>intro h<;>(try simp only [hsB] at h)<;>try exact xf)|(refine GL ?_ ?_<;>intro h<;>(try simp only [hsN] at h)<;>(try simp only [h])<;>(try simp only [hsB] at h)<;>try exact xf)|fail));all_goals clear kk1 kk2 kk3 kk4)
 all_goals first|exact xg|skip
 refine AW.rounds [3,4,5,9,31,32,33] (fun i:Nat=>[(3,.p 0 0),(4,sv (bs [])),(5,iv .i64 0),(9,.p 12 0),(31,.b 11 0 2),(32,iv .i64 2),(33,iv .i64 (i:Nat))]) (fun i=>[.box 38 (mgC ⟨8,id,key,fnd,obj,old,ctx,mt,dd,vl,px,pg,rg,cd,tx⟩),qo29,.box 4 [bv true],qo22,qo10,qo26,qo15,qo30,.box 4 [bv false],qo23,qo11,qo2,.box 196 [.o 13 (match i with|0=>b0|1=>b1|_=>b2).length,iv .i64 65536,iv .i64 (match i with|0=>0|1=>e1|_=>e2)],.row 5 1 (match i with|0=>b0|1=>b1|_=>b2).length (bsD (match i with|0=>b0|1=>b1|_=>b2))])
  (fun i=>i≤2) (fun i=>2-i) 0 (Nat.zero_le _) rfl rfl (fun _ _=>Nat.zero_le _) (fun i _=>rfl) (fun _ _=>rfl) ?_
 rintro i hi J hJ
 have hc:i=0∨i=1∨i=2:=by omega
 rcases hc with rfl|rfl|rfl
 ·clear hck hp hnew hv
  (have kk1:=uN [12,13] h0;have go:=fun zT zs=>hJ 1 zT zs (by decide) (by decide);exact Wdg)
 ·clear hck hp hnew hv
  (have kk1:=uN [12,13,7,9] h1;have go:=fun zT zs=>hJ 2 zT zs (by decide) (by decide);exact Wdg)
 ·clear hck hp hnew hv
  (have kk1:=uN [12,13] hen;exact Wd0)
theorem encode_21(m:Mg)(hf:m.fits)(hk:m.kind=1):AC Tryz.prog 12 [iv .u8 2,mgV m] [] fun y σ=>y=.t [sv (bs (msge 2 m).1),iv .i64 (msge 2 m).2]∧σ=[]:=by
 refine AC.wk Tryz.func12 ?_
 obtain ⟨knd,id,key,fnd,obj,old,ctx,mt,dd,vl,px,pg,rg,cd,tx⟩:=m
 simp only at hk
 subst hk
 have hck:=check_21 ⟨1,id,key,fnd,obj,old,ctx,mt,dd,vl,px,pg,rg,cd,tx⟩ hf rfl
 obtain ⟨r,hr⟩:∃ r,r=Mg.check 2 ⟨1,id,key,fnd,obj,old,ctx,mt,dd,vl,px,pg,rg,cd,tx⟩:=⟨_,rfl⟩
 rw [←hr] at hck
 by_cases hc:r=0
 case neg=>
  rw [show msge 2 ⟨1,id,key,fnd,obj,old,ctx,mt,dd,vl,px,pg,rg,cd,tx⟩=([],r) by unfold msge;rw [←hr,if_pos hc]]
  (have kk1:=uN [] hck;exact Wd0)
 subst hc
 have hx:(keychk key)=0:=hr.symm
 have hid:id<18446744073709551616:=hf.2.1
 have hvl:=vput_len10 hid
 have hfin:msge 2 ⟨1,id,key,fnd,obj,old,ctx,mt,dd,vl,px,pg,rg,cd,tx⟩=Pe.fin (Pe.blob (Pe.text ⟨[],65536,0⟩ (vput id)) 128 key):=by unfold msge;rw [←hr,if_neg (by decide)];rfl
 rw [hfin]
 clear hfin
 have hp:=parts_21
 have hnew:=@pen_New 65536 (by decide)
 rw [if_neg (by decide)] at hnew
 have hv:=varint_Put1 [] 65536 0 (pk_ok (by decide)) id hid (.inl (by decide))
 have e0:Pe.text ⟨[],65536,0⟩ (vput id)=⟨vput id,65536,0⟩:=by rw [pk_text (by simp only [List.length_nil];omega),List.nil_append]
 rw [e0] at hv ⊢
 generalize vput id=b0 at *
 have k0:Pe.Ok ⟨b0,65536,0⟩:=pk_ok (by omega)
 have h0:=put_Key ⟨1,id,key,fnd,obj,old,ctx,mt,dd,vl,px,pg,rg,cd,tx⟩ hf b0 0 k0
 have m1:(Pe.blob ⟨b0,65536,0⟩ 128 key).m=65536:=(pens_blob 128).m _ _
 have k1:Pe.Ok (Pe.blob ⟨b0,65536,0⟩ 128 key):=(pens_blob 128).keep k0 (.inl (by show (65536:Int)≤_;decide))
 simp only at h0
 generalize (Pe.blob ⟨b0,65536,0⟩ 128 key)=R at *
 obtain ⟨b1,mm1,e1⟩:=R
 simp only at m1
 subst m1
 have hen:=pen_End b1 65536 e1 k1
 focus (have kk1:=uN [] hck;have kk2:=uN [] hp;have kk3:=uN [] hnew;have kk4:=uN [12,13] hv;(repeat' (first|refine G ?_|refine AW.ret ?_|(refine GC ?_ ?_<;>intro h<;>(try simp only [hsB] at h)<;>try exact xf)|(refine GL ?_ ?_<;>intro h<;>(try simp only [hsN] at h)<;>(try simp only [h])<;>(try simp only [hsB] at h)<;>try exact xf)|fail));all_goals clear kk1 kk2 kk3 kk4)
 all_goals first|exact xg|skip
 refine AW.rounds [3,4,5,9,31,32,33] (fun i:Nat=>[(3,.p 0 0),(4,sv (bs [])),(5,iv .i64 0),(9,.p 12 0),(31,.b 11 0 1),(32,iv .i64 1),(33,iv .i64 (i:Nat))]) (fun i=>[.box 38 (mgC ⟨1,id,key,fnd,obj,old,ctx,mt,dd,vl,px,pg,rg,cd,tx⟩),qo29,.box 4 [bv true],qo22,qo10,qo26,qo15,qo30,.box 4 [bv false],qo23,qo11,qo10,.box 196 [.o 13 (match i with|0=>b0|_=>b1).length,iv .i64 65536,iv .i64 (match i with|0=>0|_=>e1)],.row 5 1 (match i with|0=>b0|_=>b1).length (bsD (match i with|0=>b0|_=>b1))])
  (fun i=>i≤1) (fun i=>1-i) 0 (Nat.zero_le _) rfl rfl (fun _ _=>Nat.zero_le _) (fun i _=>rfl) (fun _ _=>rfl) ?_
 rintro i hi J hJ
 have hc:i=0∨i=1:=by omega
 rcases hc with rfl|rfl
 ·clear hck hp hnew hv
  (have kk1:=uN [12,13,1,3] h0;have go:=fun zT zs=>hJ 1 zT zs (by decide) (by decide);exact Wdg)
 ·clear hck hp hnew hv
  (have kk1:=uN [12,13] hen;exact Wd0)
theorem encode_22(m:Mg)(hf:m.fits)(hk:m.kind=2):AC Tryz.prog 12 [iv .u8 2,mgV m] [] fun y σ=>y=.t [sv (bs (msge 2 m).1),iv .i64 (msge 2 m).2]∧σ=[]:=by
 refine AC.wk Tryz.func12 ?_
 obtain ⟨knd,id,key,fnd,obj,old,ctx,mt,dd,vl,px,pg,rg,cd,tx⟩:=m
 simp only at hk
 subst hk
 have hck:=check_22 ⟨2,id,key,fnd,obj,old,ctx,mt,dd,vl,px,pg,rg,cd,tx⟩ hf rfl
 obtain ⟨r,hr⟩:∃ r,r=Mg.check 2 ⟨2,id,key,fnd,obj,old,ctx,mt,dd,vl,px,pg,rg,cd,tx⟩:=⟨_,rfl⟩
 rw [←hr] at hck
 by_cases hc:r=0
 case neg=>
  rw [show msge 2 ⟨2,id,key,fnd,obj,old,ctx,mt,dd,vl,px,pg,rg,cd,tx⟩=([],r) by unfold msge;rw [←hr,if_pos hc]]
  (have kk1:=uN [] hck;exact Wd0)
 subst hc
 have hx:(if fnd=true then obj.check else 0)=0:=hr.symm
 have hid:id<18446744073709551616:=hf.2.1
 have hvl:=vput_len10 hid
 have hfin:msge 2 ⟨2,id,key,fnd,obj,old,ctx,mt,dd,vl,px,pg,rg,cd,tx⟩=Pe.fin (if fnd=true then Pe.blob (Pe.fail (Pe.flag (Pe.text ⟨[],65536,0⟩ (vput id)) fnd) (obje obj).2) 65536 (obje obj).1 else (Pe.flag (Pe.text ⟨[],65536,0⟩ (vput id)) fnd)):=by unfold msge;rw [←hr,if_neg (by decide)];rfl
 rw [hfin]
 clear hfin
 have hp:=parts_22
 have hnew:=@pen_New 65536 (by decide)
 rw [if_neg (by decide)] at hnew
 have hv:=varint_Put1 [] 65536 0 (pk_ok (by decide)) id hid (.inl (by decide))
 have e0:Pe.text ⟨[],65536,0⟩ (vput id)=⟨vput id,65536,0⟩:=by rw [pk_text (by simp only [List.length_nil];omega),List.nil_append]
 rw [e0] at hv ⊢
 generalize vput id=b0 at *
 have k0:Pe.Ok ⟨b0,65536,0⟩:=pk_ok (by omega)
 have h0:=put_Found ⟨2,id,key,fnd,obj,old,ctx,mt,dd,vl,px,pg,rg,cd,tx⟩ b0 0 k0
 have m1:(Pe.flag ⟨b0,65536,0⟩ fnd).m=65536:=pens_flag.m _ _
 have k1:Pe.Ok (Pe.flag ⟨b0,65536,0⟩ fnd):=pens_flag.keep k0 (.inl (by show (65536:Int)≤_;decide))
 simp only at h0
 generalize (Pe.flag ⟨b0,65536,0⟩ fnd)=R at *
 obtain ⟨b1,mm1,e1⟩:=R
 simp only at m1
 subst m1
 have h1:=put_found_object ⟨2,id,key,fnd,obj,old,ctx,mt,dd,vl,px,pg,rg,cd,tx⟩ hf (obje_le obj) b1 e1 k1
 have m2:(if fnd=true then Pe.blob (Pe.fail ⟨b1,65536,e1⟩ (obje obj).2) 65536 (obje obj).1 else ⟨b1,65536,e1⟩).m=65536:=(by split;exact (pens_blob 65536).m (Pe.fail ⟨b1,65536,e1⟩ (obje obj).2) _;rfl)
 have k2:Pe.Ok (if fnd=true then Pe.blob (Pe.fail ⟨b1,65536,e1⟩ (obje obj).2) 65536 (obje obj).1 else ⟨b1,65536,e1⟩):=(by split;exact (pens_blob 65536).keep (p:=Pe.fail ⟨b1,65536,e1⟩ (obje obj).2) k1 (.inl (by show (65536:Int)≤_;decide));exact k1)
 simp only at h1
 generalize (if fnd=true then Pe.blob (Pe.fail ⟨b1,65536,e1⟩ (obje obj).2) 65536 (obje obj).1 else ⟨b1,65536,e1⟩)=R at *
 obtain ⟨b2,mm2,e2⟩:=R
 simp only at m2
 subst m2
 have hen:=pen_End b2 65536 e2 k2
 focus (have kk1:=uN [] hck;have kk2:=uN [] hp;have kk3:=uN [] hnew;have kk4:=uN [13,14] hv;(repeat' (first|refine G ?_|refine AW.ret ?_|(refine GC ?_ ?_<;>intro h<;>(try simp only [hsB] at h)<;>try exact xf)|(refine GL ?_ ?_<;>intro h<;>(try simp only [hsN] at h)<;>(try simp only [h])<;>(try simp only [hsB] at h)<;>try exact xf)|fail));all_goals clear kk1 kk2 kk3 kk4)
 all_goals first|exact xg|skip
 refine AW.rounds [3,4,5,9,31,32,33] (fun i:Nat=>[(3,.p 0 0),(4,sv (bs [])),(5,iv .i64 0),(9,.p 13 0),(31,.b 12 0 2),(32,iv .i64 2),(33,iv .i64 (i:Nat))]) (fun i=>[.box 38 (mgC ⟨2,id,key,fnd,obj,old,ctx,mt,dd,vl,px,pg,rg,cd,tx⟩),qo29,.box 4 [bv true],qo22,qo10,qo26,qo15,qo30,.box 4 [bv false],qo23,qo11,qo17,qo4,.box 196 [.o 14 (match i with|0=>b0|1=>b1|_=>b2).length,iv .i64 65536,iv .i64 (match i with|0=>0|1=>e1|_=>e2)],.row 5 1 (match i with|0=>b0|1=>b1|_=>b2).length (bsD (match i with|0=>b0|1=>b1|_=>b2))])
  (fun i=>i≤2) (fun i=>2-i) 0 (Nat.zero_le _) rfl rfl (fun _ _=>Nat.zero_le _) (fun i _=>rfl) (fun _ _=>rfl) ?_
 rintro i hi J hJ
 have hc:i=0∨i=1∨i=2:=by omega
 rcases hc with rfl|rfl|rfl
 ·clear hck hp hnew hv
  (have kk1:=uN [13,14,5] h0;have go:=fun zT zs=>hJ 1 zT zs (by decide) (by decide);exact Wdg)
 ·clear hck hp hnew hv
  (have kk1:=uN [13,14,11] h1;have go:=fun zT zs=>hJ 2 zT zs (by decide) (by decide);exact Wdg)
 ·clear hck hp hnew hv
  (have kk1:=uN [13,14] hen;exact Wd0)
theorem encode_23(m:Mg)(hf:m.fits)(hk:m.kind=3):AC Tryz.prog 12 [iv .u8 2,mgV m] [] fun y σ=>y=.t [sv (bs (msge 2 m).1),iv .i64 (msge 2 m).2]∧σ=[]:=by
 refine AC.wk Tryz.func12 ?_
 obtain ⟨knd,id,key,fnd,obj,old,ctx,mt,dd,vl,px,pg,rg,cd,tx⟩:=m
 simp only at hk
 subst hk
 have hck:=check_23 ⟨3,id,key,fnd,obj,old,ctx,mt,dd,vl,px,pg,rg,cd,tx⟩ hf rfl
 obtain ⟨r,hr⟩:∃ r,r=Mg.check 2 ⟨3,id,key,fnd,obj,old,ctx,mt,dd,vl,px,pg,rg,cd,tx⟩:=⟨_,rfl⟩
 rw [←hr] at hck
 by_cases hc:r=0
 case neg=>
  rw [show msge 2 ⟨3,id,key,fnd,obj,old,ctx,mt,dd,vl,px,pg,rg,cd,tx⟩=([],r) by unfold msge;rw [←hr,if_pos hc]]
  (have kk1:=uN [] hck;exact Wd0)
 subst hc
 have hx:(fst0 (keychk key) (fst0 (Vec.check ctx) (fst0 (Prs.check mt) (longchk vl 32768))))=0:=hr.symm
 have hid:id<18446744073709551616:=hf.2.1
 have hvl:=vput_len10 hid
 have hfin:msge 2 ⟨3,id,key,fnd,obj,old,ctx,mt,dd,vl,px,pg,rg,cd,tx⟩=Pe.fin (Pe.blob (Pe.flag (Pe.prs (Pe.vec (Pe.blob (Pe.text ⟨[],65536,0⟩ (vput id)) 128 key) ctx) mt) dd) 32768 vl):=by unfold msge;rw [←hr,if_neg (by decide)];rfl
 rw [hfin]
 clear hfin
 have hp:=parts_23
 have hnew:=@pen_New 65536 (by decide)
 rw [if_neg (by decide)] at hnew
 have hv:=varint_Put1 [] 65536 0 (pk_ok (by decide)) id hid (.inl (by decide))
 have e0:Pe.text ⟨[],65536,0⟩ (vput id)=⟨vput id,65536,0⟩:=by rw [pk_text (by simp only [List.length_nil];omega),List.nil_append]
 rw [e0] at hv ⊢
 generalize vput id=b0 at *
 have k0:Pe.Ok ⟨b0,65536,0⟩:=pk_ok (by omega)
 have h0:=put_Key ⟨3,id,key,fnd,obj,old,ctx,mt,dd,vl,px,pg,rg,cd,tx⟩ hf b0 0 k0
 have m1:(Pe.blob ⟨b0,65536,0⟩ 128 key).m=65536:=(pens_blob 128).m _ _
 have k1:Pe.Ok (Pe.blob ⟨b0,65536,0⟩ 128 key):=(pens_blob 128).keep k0 (.inl (by show (65536:Int)≤_;decide))
 simp only at h0
 generalize (Pe.blob ⟨b0,65536,0⟩ 128 key)=R at *
 obtain ⟨b1,mm1,e1⟩:=R
 simp only at m1
 subst m1
 have h1:=put_ctx ⟨3,id,key,fnd,obj,old,ctx,mt,dd,vl,px,pg,rg,cd,tx⟩ hf b1 e1 k1
 have m2:(Pe.vec ⟨b1,65536,e1⟩ ctx).m=65536:=pens_vec.m _ _
 have k2:Pe.Ok (Pe.vec ⟨b1,65536,e1⟩ ctx):=pens_vec.keep k1 (.inl (by show (65536:Int)≤_;decide))
 simp only at h1
 generalize (Pe.vec ⟨b1,65536,e1⟩ ctx)=R at *
 obtain ⟨b2,mm2,e2⟩:=R
 simp only at m2
 subst m2
 have h2:=put_meta ⟨3,id,key,fnd,obj,old,ctx,mt,dd,vl,px,pg,rg,cd,tx⟩ hf b2 e2 k2
 have m3:(Pe.prs ⟨b2,65536,e2⟩ mt).m=65536:=pens_prs.m _ _
 have k3:Pe.Ok (Pe.prs ⟨b2,65536,e2⟩ mt):=pens_prs.keep k2 (.inl (by show (65536:Int)≤_;decide))
 simp only at h2
 generalize (Pe.prs ⟨b2,65536,e2⟩ mt)=R at *
 obtain ⟨b3,mm3,e3⟩:=R
 simp only at m3
 subst m3
 have h3:=put_Dead ⟨3,id,key,fnd,obj,old,ctx,mt,dd,vl,px,pg,rg,cd,tx⟩ b3 e3 k3
 have m4:(Pe.flag ⟨b3,65536,e3⟩ dd).m=65536:=pens_flag.m _ _
 have k4:Pe.Ok (Pe.flag ⟨b3,65536,e3⟩ dd):=pens_flag.keep k3 (.inl (by show (65536:Int)≤_;decide))
 simp only at h3
 generalize (Pe.flag ⟨b3,65536,e3⟩ dd)=R at *
 obtain ⟨b4,mm4,e4⟩:=R
 simp only at m4
 subst m4
 have h4:=put_Value ⟨3,id,key,fnd,obj,old,ctx,mt,dd,vl,px,pg,rg,cd,tx⟩ hf b4 e4 k4
 have m5:(Pe.blob ⟨b4,65536,e4⟩ 32768 vl).m=65536:=(pens_blob 32768).m _ _
 have k5:Pe.Ok (Pe.blob ⟨b4,65536,e4⟩ 32768 vl):=(pens_blob 32768).keep k4 (.inl (by show (65536:Int)≤_;decide))
 simp only at h4
 generalize (Pe.blob ⟨b4,65536,e4⟩ 32768 vl)=R at *
 obtain ⟨b5,mm5,e5⟩:=R
 simp only at m5
 subst m5
 have hen:=pen_End b5 65536 e5 k5
 focus (have kk1:=uN [] hck;have kk2:=uN [] hp;have kk3:=uN [] hnew;have kk4:=uN [17,18] hv;(repeat' (first|refine G ?_|refine AW.ret ?_|(refine GC ?_ ?_<;>intro h<;>(try simp only [hsB] at h)<;>try exact xf)|(refine GL ?_ ?_<;>intro h<;>(try simp only [hsN] at h)<;>(try simp only [h])<;>(try simp only [hsB] at h)<;>try exact xf)|fail));all_goals clear kk1 kk2 kk3 kk4)
 all_goals first|exact xg|skip
 refine AW.rounds [3,4,5,9,31,32,33] (fun i:Nat=>[(3,.p 0 0),(4,sv (bs [])),(5,iv .i64 0),(9,.p 17 0),(31,.b 16 0 5),(32,iv .i64 5),(33,iv .i64 (i:Nat))]) (fun i=>[.box 38 (mgC ⟨3,id,key,fnd,obj,old,ctx,mt,dd,vl,px,pg,rg,cd,tx⟩),qo29,.box 4 [bv true],qo22,qo10,qo26,qo15,qo30,.box 4 [bv false],qo23,qo11,qo27,qo13,qo28,.box 4 [bv false],qo24,qo0,.box 196 [.o 18 (match i with|0=>b0|1=>b1|2=>b2|3=>b3|4=>b4|_=>b5).length,iv .i64 65536,iv .i64 (match i with|0=>0|1=>e1|2=>e2|3=>e3|4=>e4|_=>e5)],.row 5 1 (match i with|0=>b0|1=>b1|2=>b2|3=>b3|4=>b4|_=>b5).length (bsD (match i with|0=>b0|1=>b1|2=>b2|3=>b3|4=>b4|_=>b5))])
  (fun i=>i≤5) (fun i=>5-i) 0 (Nat.zero_le _) rfl rfl (fun _ _=>Nat.zero_le _) (fun i _=>rfl) (fun _ _=>rfl) ?_
 rintro i hi J hJ
 have hc:i=0∨i=1∨i=2∨i=3∨i=4∨i=5:=by omega
 rcases hc with rfl|rfl|rfl|rfl|rfl|rfl
 ·clear hck hp hnew hv
  (have kk1:=uN [17,18,1,3] h0;have go:=fun zT zs=>hJ 1 zT zs (by decide) (by decide);exact Wdg)
 ·clear hck hp hnew hv
  (have kk1:=uN [17,18] h1;have go:=fun zT zs=>hJ 2 zT zs (by decide) (by decide);exact Wdg)
 ·clear hck hp hnew hv
  (have kk1:=uN [17,18] h2;have go:=fun zT zs=>hJ 3 zT zs (by decide) (by decide);exact Wdg)
 ·clear hck hp hnew hv
  (have kk1:=uN [17,18,11] h3;have go:=fun zT zs=>hJ 4 zT zs (by decide) (by decide);exact Wdg)
 ·clear hck hp hnew hv
  (have kk1:=uN [17,18,13,15] h4;have go:=fun zT zs=>hJ 5 zT zs (by decide) (by decide);exact Wdg)
 ·clear hck hp hnew hv
  (have kk1:=uN [17,18] hen;exact Wd0)
theorem encode_24(m:Mg)(hf:m.fits)(hk:m.kind=4):AC Tryz.prog 12 [iv .u8 2,mgV m] [] fun y σ=>y=.t [sv (bs (msge 2 m).1),iv .i64 (msge 2 m).2]∧σ=[]:=by
 refine AC.wk Tryz.func12 ?_
 obtain ⟨knd,id,key,fnd,obj,old,ctx,mt,dd,vl,px,pg,rg,cd,tx⟩:=m
 simp only at hk
 subst hk
 have hck:=check_24 ⟨4,id,key,fnd,obj,old,ctx,mt,dd,vl,px,pg,rg,cd,tx⟩ hf rfl
 obtain ⟨r,hr⟩:∃ r,r=Mg.check 2 ⟨4,id,key,fnd,obj,old,ctx,mt,dd,vl,px,pg,rg,cd,tx⟩:=⟨_,rfl⟩
 rw [←hr] at hck
 by_cases hc:r=0
 case neg=>
  rw [show msge 2 ⟨4,id,key,fnd,obj,old,ctx,mt,dd,vl,px,pg,rg,cd,tx⟩=([],r) by unfold msge;rw [←hr,if_pos hc]]
  (have kk1:=uN [] hck;exact Wd0)
 subst hc
 have hx:(Vec.check ctx)=0:=hr.symm
 have hid:id<18446744073709551616:=hf.2.1
 have hvl:=vput_len10 hid
 have hfin:msge 2 ⟨4,id,key,fnd,obj,old,ctx,mt,dd,vl,px,pg,rg,cd,tx⟩=Pe.fin (Pe.vec (Pe.text ⟨[],65536,0⟩ (vput id)) ctx):=by unfold msge;rw [←hr,if_neg (by decide)];rfl
 rw [hfin]
 clear hfin
 have hp:=parts_24
 have hnew:=@pen_New 65536 (by decide)
 rw [if_neg (by decide)] at hnew
 have hv:=varint_Put1 [] 65536 0 (pk_ok (by decide)) id hid (.inl (by decide))
 have e0:Pe.text ⟨[],65536,0⟩ (vput id)=⟨vput id,65536,0⟩:=by rw [pk_text (by simp only [List.length_nil];omega),List.nil_append]
 rw [e0] at hv ⊢
 generalize vput id=b0 at *
 have k0:Pe.Ok ⟨b0,65536,0⟩:=pk_ok (by omega)
 have h0:=put_ctx ⟨4,id,key,fnd,obj,old,ctx,mt,dd,vl,px,pg,rg,cd,tx⟩ hf b0 0 k0
 have m1:(Pe.vec ⟨b0,65536,0⟩ ctx).m=65536:=pens_vec.m _ _
 have k1:Pe.Ok (Pe.vec ⟨b0,65536,0⟩ ctx):=pens_vec.keep k0 (.inl (by show (65536:Int)≤_;decide))
 simp only at h0
 generalize (Pe.vec ⟨b0,65536,0⟩ ctx)=R at *
 obtain ⟨b1,mm1,e1⟩:=R
 simp only at m1
 subst m1
 have hen:=pen_End b1 65536 e1 k1
 focus (have kk1:=uN [] hck;have kk2:=uN [] hp;have kk3:=uN [] hnew;have kk4:=uN [12,13] hv;(repeat' (first|refine G ?_|refine AW.ret ?_|(refine GC ?_ ?_<;>intro h<;>(try simp only [hsB] at h)<;>try exact xf)|(refine GL ?_ ?_<;>intro h<;>(try simp only [hsN] at h)<;>(try simp only [h])<;>(try simp only [hsB] at h)<;>try exact xf)|fail));all_goals clear kk1 kk2 kk3 kk4)
 all_goals first|exact xg|skip
 refine AW.rounds [3,4,5,9,31,32,33] (fun i:Nat=>[(3,.p 0 0),(4,sv (bs [])),(5,iv .i64 0),(9,.p 12 0),(31,.b 11 0 1),(32,iv .i64 1),(33,iv .i64 (i:Nat))]) (fun i=>[.box 38 (mgC ⟨4,id,key,fnd,obj,old,ctx,mt,dd,vl,px,pg,rg,cd,tx⟩),qo29,.box 4 [bv true],qo22,qo10,qo26,qo15,qo30,.box 4 [bv false],qo23,qo11,qo19,.box 196 [.o 13 (match i with|0=>b0|_=>b1).length,iv .i64 65536,iv .i64 (match i with|0=>0|_=>e1)],.row 5 1 (match i with|0=>b0|_=>b1).length (bsD (match i with|0=>b0|_=>b1))])
  (fun i=>i≤1) (fun i=>1-i) 0 (Nat.zero_le _) rfl rfl (fun _ _=>Nat.zero_le _) (fun i _=>rfl) (fun _ _=>rfl) ?_
 rintro i hi J hJ
 have hc:i=0∨i=1:=by omega
 rcases hc with rfl|rfl
 ·clear hck hp hnew hv
  (have kk1:=uN [12,13] h0;have go:=fun zT zs=>hJ 1 zT zs (by decide) (by decide);exact Wdg)
 ·clear hck hp hnew hv
  (have kk1:=uN [12,13] hen;exact Wd0)
theorem encode_25(m:Mg)(hf:m.fits)(hk:m.kind=5):AC Tryz.prog 12 [iv .u8 2,mgV m] [] fun y σ=>y=.t [sv (bs (msge 2 m).1),iv .i64 (msge 2 m).2]∧σ=[]:=by
 refine AC.wk Tryz.func12 ?_
 obtain ⟨knd,id,key,fnd,obj,old,ctx,mt,dd,vl,px,pg,rg,cd,tx⟩:=m
 simp only at hk
 subst hk
 have hck:=check_25 ⟨5,id,key,fnd,obj,old,ctx,mt,dd,vl,px,pg,rg,cd,tx⟩ hf rfl
 obtain ⟨r,hr⟩:∃ r,r=Mg.check 2 ⟨5,id,key,fnd,obj,old,ctx,mt,dd,vl,px,pg,rg,cd,tx⟩:=⟨_,rfl⟩
 rw [←hr] at hck
 by_cases hc:r=0
 case neg=>
  rw [show msge 2 ⟨5,id,key,fnd,obj,old,ctx,mt,dd,vl,px,pg,rg,cd,tx⟩=([],r) by unfold msge;rw [←hr,if_pos hc]]
  (have kk1:=uN [] hck;exact Wd0)
 subst hc
 have hx:(longchk px 31)=0:=hr.symm
 have hid:id<18446744073709551616:=hf.2.1
 have hvl:=vput_len10 hid
 have hfin:msge 2 ⟨5,id,key,fnd,obj,old,ctx,mt,dd,vl,px,pg,rg,cd,tx⟩=Pe.fin (Pe.blob (Pe.text ⟨[],65536,0⟩ (vput id)) 31 px):=by unfold msge;rw [←hr,if_neg (by decide)];rfl
 rw [hfin]
 clear hfin
 have hp:=parts_25
 have hnew:=@pen_New 65536 (by decide)
 rw [if_neg (by decide)] at hnew
 have hv:=varint_Put1 [] 65536 0 (pk_ok (by decide)) id hid (.inl (by decide))
 have e0:Pe.text ⟨[],65536,0⟩ (vput id)=⟨vput id,65536,0⟩:=by rw [pk_text (by simp only [List.length_nil];omega),List.nil_append]
 rw [e0] at hv ⊢
 generalize vput id=b0 at *
 have k0:Pe.Ok ⟨b0,65536,0⟩:=pk_ok (by omega)
 have h0:=put_Prefix ⟨5,id,key,fnd,obj,old,ctx,mt,dd,vl,px,pg,rg,cd,tx⟩ hf b0 0 k0
 have m1:(Pe.blob ⟨b0,65536,0⟩ 31 px).m=65536:=(pens_blob 31).m _ _
 have k1:Pe.Ok (Pe.blob ⟨b0,65536,0⟩ 31 px):=(pens_blob 31).keep k0 (.inl (by show (65536:Int)≤_;decide))
 simp only at h0
 generalize (Pe.blob ⟨b0,65536,0⟩ 31 px)=R at *
 obtain ⟨b1,mm1,e1⟩:=R
 simp only at m1
 subst m1
 have hen:=pen_End b1 65536 e1 k1
 focus (have kk1:=uN [] hck;have kk2:=uN [] hp;have kk3:=uN [] hnew;have kk4:=uN [15,16] hv;(repeat' (first|refine G ?_|refine AW.ret ?_|(refine GC ?_ ?_<;>intro h<;>(try simp only [hsB] at h)<;>try exact xf)|(refine GL ?_ ?_<;>intro h<;>(try simp only [hsN] at h)<;>(try simp only [h])<;>(try simp only [hsB] at h)<;>try exact xf)|fail));all_goals clear kk1 kk2 kk3 kk4)
 all_goals first|exact xg|skip
 refine AW.rounds [3,4,5,9,31,32,33] (fun i:Nat=>[(3,.p 0 0),(4,sv (bs [])),(5,iv .i64 0),(9,.p 15 0),(31,.b 14 0 1),(32,iv .i64 1),(33,iv .i64 (i:Nat))]) (fun i=>[.box 38 (mgC ⟨5,id,key,fnd,obj,old,ctx,mt,dd,vl,px,pg,rg,cd,tx⟩),qo29,.box 4 [bv true],qo22,qo10,qo26,qo15,qo30,.box 4 [bv false],qo23,qo11,qo31,.box 4 [bv false],qo25,qo6,.box 196 [.o 16 (match i with|0=>b0|_=>b1).length,iv .i64 65536,iv .i64 (match i with|0=>0|_=>e1)],.row 5 1 (match i with|0=>b0|_=>b1).length (bsD (match i with|0=>b0|_=>b1))])
  (fun i=>i≤1) (fun i=>1-i) 0 (Nat.zero_le _) rfl rfl (fun _ _=>Nat.zero_le _) (fun i _=>rfl) (fun _ _=>rfl) ?_
 rintro i hi J hJ
 have hc:i=0∨i=1:=by omega
 rcases hc with rfl|rfl
 ·clear hck hp hnew hv
  (have kk1:=uN [15,16,11,13] h0;have go:=fun zT zs=>hJ 1 zT zs (by decide) (by decide);exact Wdg)
 ·clear hck hp hnew hv
  (have kk1:=uN [15,16] hen;exact Wd0)
theorem encode_26(m:Mg)(hf:m.fits)(hk:m.kind=6):AC Tryz.prog 12 [iv .u8 2,mgV m] [] fun y σ=>y=.t [sv (bs (msge 2 m).1),iv .i64 (msge 2 m).2]∧σ=[]:=by
 refine AC.wk Tryz.func12 ?_
 obtain ⟨knd,id,key,fnd,obj,old,ctx,mt,dd,vl,px,pg,rg,cd,tx⟩:=m
 simp only at hk
 subst hk
 have hck:=check_26 ⟨6,id,key,fnd,obj,old,ctx,mt,dd,vl,px,pg,rg,cd,tx⟩ hf rfl
 obtain ⟨r,hr⟩:∃ r,r=Mg.check 2 ⟨6,id,key,fnd,obj,old,ctx,mt,dd,vl,px,pg,rg,cd,tx⟩:=⟨_,rfl⟩
 rw [←hr] at hck
 by_cases hc:r=0
 case neg=>
  rw [show msge 2 ⟨6,id,key,fnd,obj,old,ctx,mt,dd,vl,px,pg,rg,cd,tx⟩=([],r) by unfold msge;rw [←hr,if_pos hc]]
  (have kk1:=uN [] hck;exact Wd0)
 subst hc
 have hx:(pg.check)=0:=hr.symm
 have hid:id<18446744073709551616:=hf.2.1
 have hvl:=vput_len10 hid
 have hfin:msge 2 ⟨6,id,key,fnd,obj,old,ctx,mt,dd,vl,px,pg,rg,cd,tx⟩=Pe.fin (Pe.page (Pe.text ⟨[],65536,0⟩ (vput id)) pg):=by unfold msge;rw [←hr,if_neg (by decide)];rfl
 rw [hfin]
 clear hfin
 have hp:=parts_26
 have hnew:=@pen_New 65536 (by decide)
 rw [if_neg (by decide)] at hnew
 have hv:=varint_Put1 [] 65536 0 (pk_ok (by decide)) id hid (.inl (by decide))
 have e0:Pe.text ⟨[],65536,0⟩ (vput id)=⟨vput id,65536,0⟩:=by rw [pk_text (by simp only [List.length_nil];omega),List.nil_append]
 rw [e0] at hv ⊢
 generalize vput id=b0 at *
 rw [show Pe.page ⟨b0,65536,0⟩ pg=⟨b0++epage pg,65536,0⟩ from pens_page.fit ⟨b0,65536,0⟩ pg rfl hx (by show ((b0.length+(epage pg).length:Nat):Int)≤(65536:Int);have:=epage_len hx;omega)]
 have k0:Pe.Ok ⟨b0,65536,0⟩:=pk_ok (by omega)
 have h0:=put_page ⟨6,id,key,fnd,obj,old,ctx,mt,dd,vl,px,pg,rg,cd,tx⟩ hf hx b0 (by omega)
 have m1:((⟨b0++epage pg,65536,0⟩:Pe)).m=65536:=rfl
 have k1:Pe.Ok ((⟨b0++epage pg,65536,0⟩:Pe)):=pk_ok (by rw [List.length_append];have:=epage_len hx;omega)
 simp only at h0
 generalize ((⟨b0++epage pg,65536,0⟩:Pe))=R at *
 obtain ⟨b1,mm1,e1⟩:=R
 simp only at m1
 subst m1
 have hen:=pen_End b1 65536 e1 k1
 focus (have kk1:=uN [] hck;have kk2:=uN [] hp;have kk3:=uN [] hnew;have kk4:=uN [12,13] hv;(repeat' (first|refine G ?_|refine AW.ret ?_|(refine GC ?_ ?_<;>intro h<;>(try simp only [hsB] at h)<;>try exact xf)|(refine GL ?_ ?_<;>intro h<;>(try simp only [hsN] at h)<;>(try simp only [h])<;>(try simp only [hsB] at h)<;>try exact xf)|fail));all_goals clear kk1 kk2 kk3 kk4)
 all_goals first|exact xg|skip
 refine AW.rounds [3,4,5,9,31,32,33] (fun i:Nat=>[(3,.p 0 0),(4,sv (bs [])),(5,iv .i64 0),(9,.p 12 0),(31,.b 11 0 1),(32,iv .i64 1),(33,iv .i64 (i:Nat))]) (fun i=>[.box 38 (mgC ⟨6,id,key,fnd,obj,old,ctx,mt,dd,vl,px,pg,rg,cd,tx⟩),qo29,.box 4 [bv true],qo22,qo10,qo26,qo15,qo30,.box 4 [bv false],qo23,qo11,qo20,.box 196 [.o 13 (match i with|0=>b0|_=>b1).length,iv .i64 65536,iv .i64 (match i with|0=>0|_=>e1)],.row 5 1 (match i with|0=>b0|_=>b1).length (bsD (match i with|0=>b0|_=>b1))])
  (fun i=>i≤1) (fun i=>1-i) 0 (Nat.zero_le _) rfl rfl (fun _ _=>Nat.zero_le _) (fun i _=>rfl) (fun _ _=>rfl) ?_
 rintro i hi J hJ
 have hc:i=0∨i=1:=by omega
 rcases hc with rfl|rfl
 ·clear hck hp hnew hv
  (have kk1:=uN [12,13] h0;have go:=fun zT zs=>hJ 1 zT zs (by decide) (by decide);exact Wdg)
 ·clear hck hp hnew hv
  (have kk1:=uN [12,13] hen;exact Wd0)
theorem encode_27(m:Mg)(hf:m.fits)(hk:m.kind=7):AC Tryz.prog 12 [iv .u8 2,mgV m] [] fun y σ=>y=.t [sv (bs (msge 2 m).1),iv .i64 (msge 2 m).2]∧σ=[]:=by
 refine AC.wk Tryz.func12 ?_
 obtain ⟨knd,id,key,fnd,obj,old,ctx,mt,dd,vl,px,pg,rg,cd,tx⟩:=m
 simp only at hk
 subst hk
 have hck:=check_27 ⟨7,id,key,fnd,obj,old,ctx,mt,dd,vl,px,pg,rg,cd,tx⟩ hf rfl
 obtain ⟨r,hr⟩:∃ r,r=Mg.check 2 ⟨7,id,key,fnd,obj,old,ctx,mt,dd,vl,px,pg,rg,cd,tx⟩:=⟨_,rfl⟩
 rw [←hr] at hck
 by_cases hc:r=0
 case neg=>
  rw [show msge 2 ⟨7,id,key,fnd,obj,old,ctx,mt,dd,vl,px,pg,rg,cd,tx⟩=([],r) by unfold msge;rw [←hr,if_pos hc]]
  (have kk1:=uN [] hck;exact Wd0)
 subst hc
 have hx:(Ring.check rg)=0:=hr.symm
 have hid:id<18446744073709551616:=hf.2.1
 have hvl:=vput_len10 hid
 have hfin:msge 2 ⟨7,id,key,fnd,obj,old,ctx,mt,dd,vl,px,pg,rg,cd,tx⟩=Pe.fin (Pe.text (Pe.text ⟨[],65536,0⟩ (vput id)) (ering rg)):=by unfold msge;rw [←hr,if_neg (by decide)];show Pe.fin (Pe.ringp _ rg)=_;unfold Pe.ringp;rw [if_neg (fun h=>h hx)]
 rw [hfin]
 clear hfin
 have hp:=parts_27
 have hnew:=@pen_New 65536 (by decide)
 rw [if_neg (by decide)] at hnew
 have hv:=varint_Put1 [] 65536 0 (pk_ok (by decide)) id hid (.inl (by decide))
 have e0:Pe.text ⟨[],65536,0⟩ (vput id)=⟨vput id,65536,0⟩:=by rw [pk_text (by simp only [List.length_nil];omega),List.nil_append]
 rw [e0] at hv ⊢
 generalize vput id=b0 at *
 have k0:Pe.Ok ⟨b0,65536,0⟩:=pk_ok (by omega)
 have h0:=put_ring ⟨7,id,key,fnd,obj,old,ctx,mt,dd,vl,px,pg,rg,cd,tx⟩ hf hx b0 0 k0
 have m1:(Pe.text ⟨b0,65536,0⟩ (ering rg)).m=65536:=pens_text.m _ _
 have k1:Pe.Ok (Pe.text ⟨b0,65536,0⟩ (ering rg)):=pens_text.keep k0 (.inl (by show (65536:Int)≤_;decide))
 simp only at h0
 generalize (Pe.text ⟨b0,65536,0⟩ (ering rg))=R at *
 obtain ⟨b1,mm1,e1⟩:=R
 simp only at m1
 subst m1
 have hen:=pen_End b1 65536 e1 k1
 focus (have kk1:=uN [] hck;have kk2:=uN [] hp;have kk3:=uN [] hnew;have kk4:=uN [12,13] hv;(repeat' (first|refine G ?_|refine AW.ret ?_|(refine GC ?_ ?_<;>intro h<;>(try simp only [hsB] at h)<;>try exact xf)|(refine GL ?_ ?_<;>intro h<;>(try simp only [hsN] at h)<;>(try simp only [h])<;>(try simp only [hsB] at h)<;>try exact xf)|fail));all_goals clear kk1 kk2 kk3 kk4)
 all_goals first|exact xg|skip
 refine AW.rounds [3,4,5,9,31,32,33] (fun i:Nat=>[(3,.p 0 0),(4,sv (bs [])),(5,iv .i64 0),(9,.p 12 0),(31,.b 11 0 1),(32,iv .i64 1),(33,iv .i64 (i:Nat))]) (fun i=>[.box 38 (mgC ⟨7,id,key,fnd,obj,old,ctx,mt,dd,vl,px,pg,rg,cd,tx⟩),qo29,.box 4 [bv true],qo22,qo10,qo26,qo15,qo30,.box 4 [bv false],qo23,qo11,qo21,.box 196 [.o 13 (match i with|0=>b0|_=>b1).length,iv .i64 65536,iv .i64 (match i with|0=>0|_=>e1)],.row 5 1 (match i with|0=>b0|_=>b1).length (bsD (match i with|0=>b0|_=>b1))])
  (fun i=>i≤1) (fun i=>1-i) 0 (Nat.zero_le _) rfl rfl (fun _ _=>Nat.zero_le _) (fun i _=>rfl) (fun _ _=>rfl) ?_
 rintro i hi J hJ
 have hc:i=0∨i=1:=by omega
 rcases hc with rfl|rfl
 ·clear hck hp hnew hv
  (have kk1:=uN [12,13] h0;have go:=fun zT zs=>hJ 1 zT zs (by decide) (by decide);exact Wdg)
 ·clear hck hp hnew hv
  (have kk1:=uN [12,13] hen;exact Wd0)
theorem encode_28(m:Mg)(hf:m.fits)(hk:m.kind=8):AC Tryz.prog 12 [iv .u8 2,mgV m] [] fun y σ=>y=.t [sv (bs (msge 2 m).1),iv .i64 (msge 2 m).2]∧σ=[]:=by
 refine AC.wk Tryz.func12 ?_
 obtain ⟨knd,id,key,fnd,obj,old,ctx,mt,dd,vl,px,pg,rg,cd,tx⟩:=m
 simp only at hk
 subst hk
 have hck:=check_28 ⟨8,id,key,fnd,obj,old,ctx,mt,dd,vl,px,pg,rg,cd,tx⟩ hf rfl
 obtain ⟨r,hr⟩:∃ r,r=Mg.check 2 ⟨8,id,key,fnd,obj,old,ctx,mt,dd,vl,px,pg,rg,cd,tx⟩:=⟨_,rfl⟩
 rw [←hr] at hck
 by_cases hc:r=0
 case neg=>
  rw [show msge 2 ⟨8,id,key,fnd,obj,old,ctx,mt,dd,vl,px,pg,rg,cd,tx⟩=([],r) by unfold msge;rw [←hr,if_pos hc]]
  (have kk1:=uN [] hck;exact Wd0)
 subst hc
 have hx:(fst0 (codechk cd) (longchk tx 64))=0:=hr.symm
 have hid:id<18446744073709551616:=hf.2.1
 have hvl:=vput_len10 hid
 have hfin:msge 2 ⟨8,id,key,fnd,obj,old,ctx,mt,dd,vl,px,pg,rg,cd,tx⟩=Pe.fin (Pe.blob (Pe.count (Pe.text ⟨[],65536,0⟩ (vput id)) 255 cd) 64 tx):=by unfold msge;rw [←hr,if_neg (by decide)];rfl
 rw [hfin]
 clear hfin
 have hp:=parts_28
 have hnew:=@pen_New 65536 (by decide)
 rw [if_neg (by decide)] at hnew
 have hv:=varint_Put1 [] 65536 0 (pk_ok (by decide)) id hid (.inl (by decide))
 have e0:Pe.text ⟨[],65536,0⟩ (vput id)=⟨vput id,65536,0⟩:=by rw [pk_text (by simp only [List.length_nil];omega),List.nil_append]
 rw [e0] at hv ⊢
 generalize vput id=b0 at *
 have k0:Pe.Ok ⟨b0,65536,0⟩:=pk_ok (by omega)
 have h0:=put_code ⟨8,id,key,fnd,obj,old,ctx,mt,dd,vl,px,pg,rg,cd,tx⟩ hf b0 0 k0
 have m1:(Pe.count ⟨b0,65536,0⟩ 255 cd).m=65536:=(pcount_m _ _ _)
 have k1:Pe.Ok (Pe.count ⟨b0,65536,0⟩ 255 cd):=pcount_ok k0
 simp only at h0
 generalize (Pe.count ⟨b0,65536,0⟩ 255 cd)=R at *
 obtain ⟨b1,mm1,e1⟩:=R
 simp only at m1
 subst m1
 have h1:=put_Text ⟨8,id,key,fnd,obj,old,ctx,mt,dd,vl,px,pg,rg,cd,tx⟩ hf b1 e1 k1
 have m2:(Pe.blob ⟨b1,65536,e1⟩ 64 tx).m=65536:=(pens_blob 64).m _ _
 have k2:Pe.Ok (Pe.blob ⟨b1,65536,e1⟩ 64 tx):=(pens_blob 64).keep k1 (.inl (by show (65536:Int)≤_;decide))
 simp only at h1
 generalize (Pe.blob ⟨b1,65536,e1⟩ 64 tx)=R at *
 obtain ⟨b2,mm2,e2⟩:=R
 simp only at m2
 subst m2
 have hen:=pen_End b2 65536 e2 k2
 focus (have kk1:=uN [] hck;have kk2:=uN [] hp;have kk3:=uN [] hnew;have kk4:=uN [12,13] hv;(repeat' (first|refine G ?_|refine AW.ret ?_|(refine GC ?_ ?_<;>intro h<;>(try simp only [hsB] at h)<;>try exact xf)|(refine GL ?_ ?_<;>intro h<;>(try simp only [hsN] at h)<;>(try simp only [h])<;>(try simp only [hsB] at h)<;>try exact xf)|fail));all_goals clear kk1 kk2 kk3 kk4)
 all_goals first|exact xg|skip
 refine AW.rounds [3,4,5,9,31,32,33] (fun i:Nat=>[(3,.p 0 0),(4,sv (bs [])),(5,iv .i64 0),(9,.p 12 0),(31,.b 11 0 2),(32,iv .i64 2),(33,iv .i64 (i:Nat))]) (fun i=>[.box 38 (mgC ⟨8,id,key,fnd,obj,old,ctx,mt,dd,vl,px,pg,rg,cd,tx⟩),qo29,.box 4 [bv true],qo22,qo10,qo26,qo15,qo30,.box 4 [bv false],qo23,qo11,qo2,.box 196 [.o 13 (match i with|0=>b0|1=>b1|_=>b2).length,iv .i64 65536,iv .i64 (match i with|0=>0|1=>e1|_=>e2)],.row 5 1 (match i with|0=>b0|1=>b1|_=>b2).length (bsD (match i with|0=>b0|1=>b1|_=>b2))])
  (fun i=>i≤2) (fun i=>2-i) 0 (Nat.zero_le _) rfl rfl (fun _ _=>Nat.zero_le _) (fun i _=>rfl) (fun _ _=>rfl) ?_
 rintro i hi J hJ
 have hc:i=0∨i=1∨i=2:=by omega
 rcases hc with rfl|rfl|rfl
 ·clear hck hp hnew hv
  (have kk1:=uN [12,13] h0;have go:=fun zT zs=>hJ 1 zT zs (by decide) (by decide);exact Wdg)
 ·clear hck hp hnew hv
  (have kk1:=uN [12,13,7,9] h1;have go:=fun zT zs=>hJ 2 zT zs (by decide) (by decide);exact Wdg)
 ·clear hck hp hnew hv
  (have kk1:=uN [12,13] hen;exact Wd0)
theorem encode_29(m:Mg)(hf:m.fits)(hk:m.kind=9):AC Tryz.prog 12 [iv .u8 2,mgV m] [] fun y σ=>y=.t [sv (bs (msge 2 m).1),iv .i64 (msge 2 m).2]∧σ=[]:=by
 refine AC.wk Tryz.func12 ?_
 obtain ⟨knd,id,key,fnd,obj,old,ctx,mt,dd,vl,px,pg,rg,cd,tx⟩:=m
 simp only at hk
 subst hk
 have hck:=check_29 ⟨9,id,key,fnd,obj,old,ctx,mt,dd,vl,px,pg,rg,cd,tx⟩ hf rfl
 obtain ⟨r,hr⟩:∃ r,r=Mg.check 2 ⟨9,id,key,fnd,obj,old,ctx,mt,dd,vl,px,pg,rg,cd,tx⟩:=⟨_,rfl⟩
 rw [←hr] at hck
 by_cases hc:r=0
 case neg=>
  rw [show msge 2 ⟨9,id,key,fnd,obj,old,ctx,mt,dd,vl,px,pg,rg,cd,tx⟩=([],r) by unfold msge;rw [←hr,if_pos hc]]
  (have kk1:=uN [] hck;exact Wd0)
 subst hc
 have hx:(obj.check)=0:=hr.symm
 have hid:id<18446744073709551616:=hf.2.1
 have hvl:=vput_len10 hid
 have hfin:msge 2 ⟨9,id,key,fnd,obj,old,ctx,mt,dd,vl,px,pg,rg,cd,tx⟩=Pe.fin (Pe.blob (Pe.fail (Pe.text ⟨[],65536,0⟩ (vput id)) (obje obj).2) 65536 (obje obj).1):=by unfold msge;rw [←hr,if_neg (by decide)];rfl
 rw [hfin]
 clear hfin
 have hp:=parts_29
 have hnew:=@pen_New 65536 (by decide)
 rw [if_neg (by decide)] at hnew
 have hv:=varint_Put1 [] 65536 0 (pk_ok (by decide)) id hid (.inl (by decide))
 have e0:Pe.text ⟨[],65536,0⟩ (vput id)=⟨vput id,65536,0⟩:=by rw [pk_text (by simp only [List.length_nil];omega),List.nil_append]
 rw [e0] at hv ⊢
 generalize vput id=b0 at *
 have k0:Pe.Ok ⟨b0,65536,0⟩:=pk_ok (by omega)
 have h0:=put_object ⟨9,id,key,fnd,obj,old,ctx,mt,dd,vl,px,pg,rg,cd,tx⟩ hf (obje_le obj) b0 0 k0
 have m1:(Pe.blob (Pe.fail ⟨b0,65536,0⟩ (obje obj).2) 65536 (obje obj).1).m=65536:=(pens_blob 65536).m (Pe.fail ⟨b0,65536,0⟩ (obje obj).2) _
 have k1:Pe.Ok (Pe.blob (Pe.fail ⟨b0,65536,0⟩ (obje obj).2) 65536 (obje obj).1):=(pens_blob 65536).keep (p:=Pe.fail ⟨b0,65536,0⟩ (obje obj).2) k0 (.inl (by show (65536:Int)≤_;decide))
 simp only at h0
 generalize (Pe.blob (Pe.fail ⟨b0,65536,0⟩ (obje obj).2) 65536 (obje obj).1)=R at *
 obtain ⟨b1,mm1,e1⟩:=R
 simp only at m1
 subst m1
 have hen:=pen_End b1 65536 e1 k1
 focus (have kk1:=uN [] hck;have kk2:=uN [] hp;have kk3:=uN [] hnew;have kk4:=uN [12,13] hv;(repeat' (first|refine G ?_|refine AW.ret ?_|(refine GC ?_ ?_<;>intro h<;>(try simp only [hsB] at h)<;>try exact xf)|(refine GL ?_ ?_<;>intro h<;>(try simp only [hsN] at h)<;>(try simp only [h])<;>(try simp only [hsB] at h)<;>try exact xf)|fail));all_goals clear kk1 kk2 kk3 kk4)
 all_goals first|exact xg|skip
 refine AW.rounds [3,4,5,9,31,32,33] (fun i:Nat=>[(3,.p 0 0),(4,sv (bs [])),(5,iv .i64 0),(9,.p 12 0),(31,.b 11 0 1),(32,iv .i64 1),(33,iv .i64 (i:Nat))]) (fun i=>[.box 38 (mgC ⟨9,id,key,fnd,obj,old,ctx,mt,dd,vl,px,pg,rg,cd,tx⟩),qo29,.box 4 [bv true],qo22,qo10,qo26,qo15,qo30,.box 4 [bv false],qo23,qo11,qo17,.box 196 [.o 13 (match i with|0=>b0|_=>b1).length,iv .i64 65536,iv .i64 (match i with|0=>0|_=>e1)],.row 5 1 (match i with|0=>b0|_=>b1).length (bsD (match i with|0=>b0|_=>b1))])
  (fun i=>i≤1) (fun i=>1-i) 0 (Nat.zero_le _) rfl rfl (fun _ _=>Nat.zero_le _) (fun i _=>rfl) (fun _ _=>rfl) ?_
 rintro i hi J hJ
 have hc:i=0∨i=1:=by omega
 rcases hc with rfl|rfl
 ·clear hck hp hnew hv
  (have kk1:=uN [12,13] h0;have go:=fun zT zs=>hJ 1 zT zs (by decide) (by decide);exact Wdg)
 ·clear hck hp hnew hv
  (have kk1:=uN [12,13] hen;exact Wd0)
end Go.AW
