/-
  messages, the document's: its check, its payload.
-/
import Derived.Test.YtdnfcckkdnkaiaaGreatU31
import Derived.Test.YtdnfcckkdnkaiaaGreatU44
set_option linter.unusedVariables false
set_option linter.unusedSimpArgs false
set_option maxHeartbeats 4000000
set_option maxRecDepth 10000
namespace Go.AW
open Go Go.Proofs
attribute [local irreducible] thenQ blockQ RetQ AL AW AC AOp
theorem ref23_key(s:List UInt8)(hs:s.length≤9223372036854775807):AC Tryz.prog 76 [sv (bs s)] [] fun y σ=>y=iv .i64 (keychk s)∧σ=[]:=by
 refine AC.wk Tryz.func76 ?_
 unfold keychk
 by_cases h:128<s.length
 ·rw [if_pos h]
  exact Wd0
 rw [if_neg h]
 by_cases h0:s=[]
 ·rw [if_pos h0]
  subst h0
  exact Wd0
 ·rw [if_neg h0]
  have h1:s.length≠0:=fun h=>h0 (List.length_eq_zero_iff.1 h)
  exact Wd0
theorem ref23_long(s:List UInt8)(n:Nat)(hs:s.length≤9223372036854775807)(hn:n≤9223372036854775807):AC Tryz.prog 82 [sv (bs s),iv .i64 (n:Nat)] [] fun y σ=>y=iv .i64 (longchk s n)∧σ=[]:=by
 refine AC.wk Tryz.func82 ?_
 unfold longchk
 by_cases h:n<s.length
 ·rw [if_pos h]
  exact Wd0
 ·rw [if_neg h]
  exact Wd0
theorem ref23_first4(a b c d:Int):AC Tryz.prog 79 [.d (.l 4 [.s (.int .i64 a),.s (.int .i64 b),.s (.int .i64 c),.s (.int .i64 d)])] [] fun y σ=>y=iv .i64 (fst0 a (fst0 b (fst0 c d)))∧σ=[]:=by
 refine AC.wk Tryz.func79 ?_
 focus ((repeat' (first|refine G ?_|refine AW.ret ?_|(refine GC ?_ ?_<;>intro h<;>(try simp only [hsB] at h)<;>try exact xf)|(refine GL ?_ ?_<;>intro h<;>(try simp only [hsN] at h)<;>(try simp only [h])<;>(try simp only [hsB] at h)<;>try exact xf)|fail)))
 refine AW.rounds [0,2,3] (fun i:Nat=>[(0,.d (.l 4 [.s (.int .i64 a),.s (.int .i64 b),.s (.int .i64 c),.s (.int .i64 d)])),(2,iv .i64 0),(3,iv .i64 (i:Nat))]) (fun _=>[])
  (fun i=>i≤4∧(1≤i→a=0)∧(2≤i→b=0)∧(3≤i→c=0)∧(4≤i→d=0)) (fun i=>4-i) 0 ⟨by decide,fun h=>absurd h (by decide),fun h=>absurd h (by decide),fun h=>absurd h (by decide),fun h=>absurd h (by decide)⟩ rfl rfl (fun _ _=>Nat.zero_le _) (fun _ _=>rfl) (fun _ _=>rfl) ?_
 rintro i ⟨hi,g0,g1,g2,g3⟩ J hJ
 have hc:i=0∨i=1∨i=2∨i=3∨i=4:=by omega
 rcases hc with rfl|rfl|rfl|rfl|rfl
 ·by_cases hz:a=0
  ·(have go:=fun zT zs=>hJ 1 zT zs (by decide) ⟨by decide,fun h=>hz,fun h=>absurd h (by decide),fun h=>absurd h (by decide),fun h=>absurd h (by decide)⟩;exact Wdg)
  ·rw [show fst0 a (fst0 b (fst0 c d))=a by simp [fst0,hz]]
   exact Wd0
 ·by_cases hz:b=0
  ·(have go:=fun zT zs=>hJ 2 zT zs (by decide) ⟨by decide,fun h=>g0 (by decide),fun h=>hz,fun h=>absurd h (by decide),fun h=>absurd h (by decide)⟩;exact Wdg)
  ·rw [show fst0 a (fst0 b (fst0 c d))=b by simp [fst0,g0 (by decide),hz]]
   exact Wd0
 ·by_cases hz:c=0
  ·(have go:=fun zT zs=>hJ 3 zT zs (by decide) ⟨by decide,fun h=>g0 (by decide),fun h=>g1 (by decide),fun h=>hz,fun h=>absurd h (by decide)⟩;exact Wdg)
  ·rw [show fst0 a (fst0 b (fst0 c d))=c by simp [fst0,g0 (by decide),g1 (by decide),hz]]
   exact Wd0
 ·by_cases hz:d=0
  ·(have go:=fun zT zs=>hJ 4 zT zs (by decide) ⟨by decide,fun h=>g0 (by decide),fun h=>g1 (by decide),fun h=>g2 (by decide),fun h=>hz⟩;exact Wdg)
  ·rw [show fst0 a (fst0 b (fst0 c d))=d by simp [fst0,g0 (by decide),g1 (by decide),g2 (by decide),hz]]
   exact Wd0
 ·rw [show fst0 a (fst0 b (fst0 c d))=0 by simp [fst0,g0 (by decide),g1 (by decide),g2 (by decide),g3 (by decide)]]
  exact Wd0
theorem rcheck_none(v:Nat)(m:Mg)(hv:v<256)(hk:m.kind<256)(h:has v m.kind=false):AC Tryz.prog 23 [iv .u8 (v:Nat),mgV m] [] fun y σ=>y=iv .i64 (m.check v)∧σ=[]:=by
 refine AC.wk Tryz.func23 ?_
 have hh:=ref23_Has v m.kind hv hk
 rw [h] at hh
 have hr:m.check v=if v≠1∧v≠2 then 10 else 11:=by unfold Mg.check;rw [if_pos h]
 rw [hr]
 clear hr
 by_cases h0:v≠1∧v≠2
 ·rw [if_pos h0]
  obtain ⟨h1,h2⟩:=h0
  (have kk1:=uN [] hh;exact We0)
 ·rw [if_neg h0]
  (have kk1:=uN [] hh;exact We0)
theorem rcheck_11(m:Mg)(hf:m.fits)(hk:m.kind=1):AC Tryz.prog 23 [iv .u8 1,mgV m] [] fun y σ=>y=iv .i64 (m.check 1)∧σ=[]:=by
 refine AC.wk Tryz.func23 ?_
 obtain ⟨knd,id,key,fnd,obj,old,ctx,mt,dd,vl,px,pg,rg,cd,tx⟩:=m
 simp only at hk
 subst hk
 have hr:Mg.check 1 ⟨1,id,key,fnd,obj,old,ctx,mt,dd,vl,px,pg,rg,cd,tx⟩=keychk key:=rfl
 rw [hr]
 clear hr
 have hh:=ref23_Has 1 1 (by decide) (by decide)
 rw [show has 1 1=true from rfl] at hh
 have c0:=ref23_key key (m_len ⟨1,id,key,fnd,obj,old,ctx,mt,dd,vl,px,pg,rg,cd,tx⟩ hf).1
 generalize (keychk key)=r0 at *
 (have kk1:=uN [] hh;have kk2:=uN [] c0;exact We0)
theorem rcheck_12(m:Mg)(hf:m.fits)(hk:m.kind=2):AC Tryz.prog 23 [iv .u8 1,mgV m] [] fun y σ=>y=iv .i64 (m.check 1)∧σ=[]:=by
 refine AC.wk Tryz.func23 ?_
 obtain ⟨knd,id,key,fnd,obj,old,ctx,mt,dd,vl,px,pg,rg,cd,tx⟩:=m
 simp only at hk
 subst hk
 have hr:Mg.check 1 ⟨2,id,key,fnd,obj,old,ctx,mt,dd,vl,px,pg,rg,cd,tx⟩=if fnd=true then old.check else 0:=rfl
 rw [hr]
 clear hr
 have hh:=ref23_Has 1 2 (by decide) (by decide)
 rw [show has 1 2=true from rfl] at hh
 have c0:=ref17_Check old hf.2.2.2.2.1
 generalize (old.check)=r0 at *
 cases fnd with
 | true=>
  rw [if_pos rfl]
  (have kk1:=uN [] hh;have kk2:=uN [] c0;exact We0)
 | false=>
  rw [if_neg (by decide)]
  (have kk1:=uN [] hh;have kk2:=uN [] c0;exact We0)
theorem rcheck_18(m:Mg)(hf:m.fits)(hk:m.kind=8):AC Tryz.prog 23 [iv .u8 1,mgV m] [] fun y σ=>y=iv .i64 (m.check 1)∧σ=[]:=by
 refine AC.wk Tryz.func23 ?_
 obtain ⟨knd,id,key,fnd,obj,old,ctx,mt,dd,vl,px,pg,rg,cd,tx⟩:=m
 simp only at hk
 subst hk
 have hr:Mg.check 1 ⟨8,id,key,fnd,obj,old,ctx,mt,dd,vl,px,pg,rg,cd,tx⟩=fst0 (codechk cd) (longchk tx 64):=rfl
 rw [hr]
 clear hr
 have hh:=ref23_Has 1 8 (by decide) (by decide)
 rw [show has 1 8=true from rfl] at hh
 have c0:=ref23_long tx 64 (m_len ⟨8,id,key,fnd,obj,old,ctx,mt,dd,vl,px,pg,rg,cd,tx⟩ hf).2.2.2 (by decide)
 obtain ⟨f1,f2⟩:-9223372036854775808≤cd∧cd≤9223372036854775807:=hf.2.2.2.2.2.2.2.2.2.2.2.1
 generalize (longchk tx 64)=r0 at *
 unfold codechk
 by_cases h1:cd<0
 ·rw [show fst0 (if cd<0 then 1 else if 255<cd then 3 else 0) r0=1 by rw [if_pos h1];rfl]
  (have kk1:=uN [] hh;have kk2:=uN [] c0;exact We0)
 rw [if_neg h1]
 by_cases h2:255<cd
 ·rw [show fst0 (if 255<cd then 3 else 0) r0=3 by rw [if_pos h2];rfl]
  (have kk1:=uN [] hh;have kk2:=uN [] c0;exact We0)
 ·rw [show fst0 (if 255<cd then 3 else 0) r0=r0 by rw [if_neg h2];rfl]
  (have kk1:=uN [] hh;have kk2:=uN [] c0;exact We0)
theorem rcheck_21(m:Mg)(hf:m.fits)(hk:m.kind=1):AC Tryz.prog 23 [iv .u8 2,mgV m] [] fun y σ=>y=iv .i64 (m.check 2)∧σ=[]:=by
 refine AC.wk Tryz.func23 ?_
 obtain ⟨knd,id,key,fnd,obj,old,ctx,mt,dd,vl,px,pg,rg,cd,tx⟩:=m
 simp only at hk
 subst hk
 have hr:Mg.check 2 ⟨1,id,key,fnd,obj,old,ctx,mt,dd,vl,px,pg,rg,cd,tx⟩=keychk key:=rfl
 rw [hr]
 clear hr
 have hh:=ref23_Has 2 1 (by decide) (by decide)
 rw [show has 2 1=true from rfl] at hh
 have c0:=ref23_key key (m_len ⟨1,id,key,fnd,obj,old,ctx,mt,dd,vl,px,pg,rg,cd,tx⟩ hf).1
 generalize (keychk key)=r0 at *
 (have kk1:=uN [] hh;have kk2:=uN [] c0;exact We0)
theorem rcheck_22(m:Mg)(hf:m.fits)(hk:m.kind=2):AC Tryz.prog 23 [iv .u8 2,mgV m] [] fun y σ=>y=iv .i64 (m.check 2)∧σ=[]:=by
 refine AC.wk Tryz.func23 ?_
 obtain ⟨knd,id,key,fnd,obj,old,ctx,mt,dd,vl,px,pg,rg,cd,tx⟩:=m
 simp only at hk
 subst hk
 have hr:Mg.check 2 ⟨2,id,key,fnd,obj,old,ctx,mt,dd,vl,px,pg,rg,cd,tx⟩=if fnd=true then obj.check else 0:=rfl
 rw [hr]
 clear hr
 have hh:=ref23_Has 2 2 (by decide) (by decide)
 rw [show has 2 2=true from rfl] at hh
 have c0:=ref16_Check obj hf.2.2.2.1
 generalize (obj.check)=r0 at *
 cases fnd with
 | true=>
  rw [if_pos rfl]
  (have kk1:=uN [] hh;have kk2:=uN [] c0;exact We0)
 | false=>
  rw [if_neg (by decide)]
  (have kk1:=uN [] hh;have kk2:=uN [] c0;exact We0)
theorem rcheck_23(m:Mg)(hf:m.fits)(hk:m.kind=3):AC Tryz.prog 23 [iv .u8 2,mgV m] [] fun y σ=>y=iv .i64 (m.check 2)∧σ=[]:=by
 refine AC.wk Tryz.func23 ?_
 obtain ⟨knd,id,key,fnd,obj,old,ctx,mt,dd,vl,px,pg,rg,cd,tx⟩:=m
 simp only at hk
 subst hk
 have hr:Mg.check 2 ⟨3,id,key,fnd,obj,old,ctx,mt,dd,vl,px,pg,rg,cd,tx⟩=fst0 (keychk key) (fst0 (Vec.check ctx) (fst0 (Prs.check mt) (longchk vl 32768))):=rfl
 rw [hr]
 clear hr
 have hh:=ref23_Has 2 3 (by decide) (by decide)
 rw [show has 2 3=true from rfl] at hh
 have c0:=ref23_key key (m_len ⟨3,id,key,fnd,obj,old,ctx,mt,dd,vl,px,pg,rg,cd,tx⟩ hf).1
 have c1:=ref10_Check ctx hf.2.2.2.2.2.1
 have c2:=ref14_Check mt hf.2.2.2.2.2.2.1
 have c3:=ref23_long vl 32768 (m_len ⟨3,id,key,fnd,obj,old,ctx,mt,dd,vl,px,pg,rg,cd,tx⟩ hf).2.1 (by decide)
 generalize (keychk key)=r0 at *
 generalize (Vec.check ctx)=r1 at *
 generalize (Prs.check mt)=r2 at *
 generalize (longchk vl 32768)=r3 at *
 have h4:=ref23_first4 r0 r1 r2 r3
 generalize fst0 r0 (fst0 r1 (fst0 r2 r3))=r at *
 (have kk1:=uN [] hh;have kk2:=uN [] c0;have kk3:=uN [] c1;have kk4:=uN [] c2;have kk5:=uN [] c3;have kk6:=uN [] h4;exact We0)
theorem rcheck_24(m:Mg)(hf:m.fits)(hk:m.kind=4):AC Tryz.prog 23 [iv .u8 2,mgV m] [] fun y σ=>y=iv .i64 (m.check 2)∧σ=[]:=by
 refine AC.wk Tryz.func23 ?_
 obtain ⟨knd,id,key,fnd,obj,old,ctx,mt,dd,vl,px,pg,rg,cd,tx⟩:=m
 simp only at hk
 subst hk
 have hr:Mg.check 2 ⟨4,id,key,fnd,obj,old,ctx,mt,dd,vl,px,pg,rg,cd,tx⟩=Vec.check ctx:=rfl
 rw [hr]
 clear hr
 have hh:=ref23_Has 2 4 (by decide) (by decide)
 rw [show has 2 4=true from rfl] at hh
 have c0:=ref10_Check ctx hf.2.2.2.2.2.1
 generalize (Vec.check ctx)=r0 at *
 (have kk1:=uN [] hh;have kk2:=uN [] c0;exact We0)
theorem rcheck_25(m:Mg)(hf:m.fits)(hk:m.kind=5):AC Tryz.prog 23 [iv .u8 2,mgV m] [] fun y σ=>y=iv .i64 (m.check 2)∧σ=[]:=by
 refine AC.wk Tryz.func23 ?_
 obtain ⟨knd,id,key,fnd,obj,old,ctx,mt,dd,vl,px,pg,rg,cd,tx⟩:=m
 simp only at hk
 subst hk
 have hr:Mg.check 2 ⟨5,id,key,fnd,obj,old,ctx,mt,dd,vl,px,pg,rg,cd,tx⟩=longchk px 31:=rfl
 rw [hr]
 clear hr
 have hh:=ref23_Has 2 5 (by decide) (by decide)
 rw [show has 2 5=true from rfl] at hh
 have c0:=ref23_long px 31 (m_len ⟨5,id,key,fnd,obj,old,ctx,mt,dd,vl,px,pg,rg,cd,tx⟩ hf).2.2.1 (by decide)
 generalize (longchk px 31)=r0 at *
 (have kk1:=uN [] hh;have kk2:=uN [] c0;exact We0)
theorem rcheck_26(m:Mg)(hf:m.fits)(hk:m.kind=6):AC Tryz.prog 23 [iv .u8 2,mgV m] [] fun y σ=>y=iv .i64 (m.check 2)∧σ=[]:=by
 refine AC.wk Tryz.func23 ?_
 obtain ⟨knd,id,key,fnd,obj,old,ctx,mt,dd,vl,px,pg,rg,cd,tx⟩:=m
 simp only at hk
 subst hk
 have hr:Mg.check 2 ⟨6,id,key,fnd,obj,old,ctx,mt,dd,vl,px,pg,rg,cd,tx⟩=pg.check:=rfl
 rw [hr]
 clear hr
 have hh:=ref23_Has 2 6 (by decide) (by decide)
 rw [show has 2 6=true from rfl] at hh
 have c0:=ref20_Check pg hf.2.2.2.2.2.2.2.2.2.1
 generalize (pg.check)=r0 at *
 (have kk1:=uN [] hh;have kk2:=uN [] c0;exact We0)
theorem rcheck_27(m:Mg)(hf:m.fits)(hk:m.kind=7):AC Tryz.prog 23 [iv .u8 2,mgV m] [] fun y σ=>y=iv .i64 (m.check 2)∧σ=[]:=by
 refine AC.wk Tryz.func23 ?_
 obtain ⟨knd,id,key,fnd,obj,old,ctx,mt,dd,vl,px,pg,rg,cd,tx⟩:=m
 simp only at hk
 subst hk
 have hr:Mg.check 2 ⟨7,id,key,fnd,obj,old,ctx,mt,dd,vl,px,pg,rg,cd,tx⟩=Ring.check rg:=rfl
 rw [hr]
 clear hr
 have hh:=ref23_Has 2 7 (by decide) (by decide)
 rw [show has 2 7=true from rfl] at hh
 have c0:=ref22_Check rg hf.2.2.2.2.2.2.2.2.2.2.1
 generalize (Ring.check rg)=r0 at *
 (have kk1:=uN [] hh;have kk2:=uN [] c0;exact We0)
theorem rcheck_28(m:Mg)(hf:m.fits)(hk:m.kind=8):AC Tryz.prog 23 [iv .u8 2,mgV m] [] fun y σ=>y=iv .i64 (m.check 2)∧σ=[]:=by
 refine AC.wk Tryz.func23 ?_
 obtain ⟨knd,id,key,fnd,obj,old,ctx,mt,dd,vl,px,pg,rg,cd,tx⟩:=m
 simp only at hk
 subst hk
 have hr:Mg.check 2 ⟨8,id,key,fnd,obj,old,ctx,mt,dd,vl,px,pg,rg,cd,tx⟩=fst0 (codechk cd) (longchk tx 64):=rfl
 rw [hr]
 clear hr
 have hh:=ref23_Has 2 8 (by decide) (by decide)
 rw [show has 2 8=true from rfl] at hh
 have c0:=ref23_long tx 64 (m_len ⟨8,id,key,fnd,obj,old,ctx,mt,dd,vl,px,pg,rg,cd,tx⟩ hf).2.2.2 (by decide)
 obtain ⟨f1,f2⟩:-9223372036854775808≤cd∧cd≤9223372036854775807:=hf.2.2.2.2.2.2.2.2.2.2.2.1
 generalize (longchk tx 64)=r0 at *
 unfold codechk
 by_cases h1:cd<0
 ·rw [show fst0 (if cd<0 then 1 else if 255<cd then 3 else 0) r0=1 by rw [if_pos h1];rfl]
  (have kk1:=uN [] hh;have kk2:=uN [] c0;exact We0)
 rw [if_neg h1]
 by_cases h2:255<cd
 ·rw [show fst0 (if 255<cd then 3 else 0) r0=3 by rw [if_pos h2];rfl]
  (have kk1:=uN [] hh;have kk2:=uN [] c0;exact We0)
 ·rw [show fst0 (if 255<cd then 3 else 0) r0=r0 by rw [if_neg h2];rfl]
  (have kk1:=uN [] hh;have kk2:=uN [] c0;exact We0)
theorem rcheck_29(m:Mg)(hf:m.fits)(hk:m.kind=9):AC Tryz.prog 23 [iv .u8 2,mgV m] [] fun y σ=>y=iv .i64 (m.check 2)∧σ=[]:=by
 refine AC.wk Tryz.func23 ?_
 obtain ⟨knd,id,key,fnd,obj,old,ctx,mt,dd,vl,px,pg,rg,cd,tx⟩:=m
 simp only at hk
 subst hk
 have hr:Mg.check 2 ⟨9,id,key,fnd,obj,old,ctx,mt,dd,vl,px,pg,rg,cd,tx⟩=obj.check:=rfl
 rw [hr]
 clear hr
 have hh:=ref23_Has 2 9 (by decide) (by decide)
 rw [show has 2 9=true from rfl] at hh
 have c0:=ref16_Check obj hf.2.2.2.1
 generalize (obj.check)=r0 at *
 (have kk1:=uN [] hh;have kk2:=uN [] c0;exact We0)
theorem ref23_inner(b s:List UInt8)(e f:Int)(ok:Pe.Ok ⟨b,65536,e⟩)(hs:s.length≤4611686018427387904):AC Tryz.prog 67 [.p 0 0,sv (bs s),iv .i64 f] [Pe.ro ⟨b,65536,e⟩] fun y σ=>y=.t []∧σ=[Pe.ro (Pe.blob (Pe.fail ⟨b,65536,e⟩ f) 65536 s)]:=by
 refine AC.wk Tryz.func67 ?_
 by_cases h0:f=0
 ·subst h0
  rw [Pe.fail_zero]
  have hb:=ref06_Put b s 65536 e 65536 ok hs (.inl (by decide))
  generalize Pe.blob ⟨b,65536,e⟩ 65536 s=r at *
  (have kk1:=uN [0] hb;exact Wd1)
 ·have hfl:=ref02_Fail b 65536 e f
  have hm:(Pe.fail ⟨b,65536,e⟩ f).m=65536:=rfl
  have hk:Pe.Ok (Pe.fail ⟨b,65536,e⟩ f):=ok
  generalize Pe.fail ⟨b,65536,e⟩ f=z at *
  obtain ⟨b2,m2,e2⟩:=z
  simp only at hm
  subst hm
  have hb:=ref06_Put b2 s 65536 e2 65536 hk hs (.inl (by decide))
  generalize Pe.blob ⟨b2,65536,e2⟩ 65536 s=r at *
  (have kk1:=uN [0] hfl;have kk2:=uN [0] hb;exact Wd1)
theorem wre_le2{α:Type}{W:Pe→α→Pe}{enc:α→List UInt8}{ok:α→Prop}(h:Pens W enc ok)(x:α):(wre W x).1.length≤65536:=by
 have h1:=h.cap ⟨[],65536,0⟩ x
 have h2:(wre W x).1=if (W ⟨[],65536,0⟩ x).e≠0 then [] else (W ⟨[],65536,0⟩ x).b:=by
  unfold wre Pe.fin;split<;>rfl
 rw [h2]
 split
 ·simp
 ·simp only [List.length_nil] at h1;omega
theorem rencode_none(v:Nat)(m:Mg)(hv:v<256)(hk:m.kind<256)(h:has v m.kind=false):AC Tryz.prog 21 [iv .u8 (v:Nat),mgV m] [] fun y σ=>y=.t [sv (bs (msge v m).1),iv .i64 (msge v m).2]∧σ=[]:=by
 refine AC.wk Tryz.func21 ?_
 have hw:=rcheck_none v m hv hk h
 have hr:m.check v=if v≠1∧v≠2 then 10 else 11:=by unfold Mg.check;rw [if_pos h]
 have hr0:m.check v≠0:=by rw [hr];split<;>decide
 rw [show msge v m=([],m.check v) by unfold msge;rw [if_pos hr0]]
 generalize m.check v=r at *
 (have kk1:=uN [] hw;exact Wd0)
theorem rencode_11(m:Mg)(hf:m.fits)(hk:m.kind=1):AC Tryz.prog 21 [iv .u8 1,mgV m] [] fun y σ=>y=.t [sv (bs (msge 1 m).1),iv .i64 (msge 1 m).2]∧σ=[]:=by
 refine AC.wk Tryz.func21 ?_
 obtain ⟨knd,id,key,fnd,obj,old,ctx,mt,dd,vl,px,pg,rg,cd,tx⟩:=m
 simp only at hk
 subst hk
 have hck:=rcheck_11 ⟨1,id,key,fnd,obj,old,ctx,mt,dd,vl,px,pg,rg,cd,tx⟩ hf rfl
 obtain ⟨r,hr⟩:∃ r,r=Mg.check 1 ⟨1,id,key,fnd,obj,old,ctx,mt,dd,vl,px,pg,rg,cd,tx⟩:=⟨_,rfl⟩
 rw [←hr] at hck
 by_cases hc:r=0
 case neg=>
  rw [show msge 1 ⟨1,id,key,fnd,obj,old,ctx,mt,dd,vl,px,pg,rg,cd,tx⟩=([],r) by unfold msge;rw [←hr,if_pos hc]]
  (have kk1:=uN [] hck;exact Wd0)
 subst hc
 have hx:(keychk key)=0:=hr.symm
 have hid:id<18446744073709551616:=hf.2.1
 obtain ⟨l1,l2,l3,l4⟩:key.length≤9223372036854775807∧vl.length≤9223372036854775807∧px.length≤9223372036854775807∧tx.length≤9223372036854775807:=m_len ⟨1,id,key,fnd,obj,old,ctx,mt,dd,vl,px,pg,rg,cd,tx⟩ hf
 have hvl:=vput_len10 hid
 have l5:=(keychk_zero.1 hx).1
 have hnew:=@ref02_New 65536
 rw [if_neg (by decide)] at hnew
 have hv:=ref03_Put [] 65536 0 (pk_ok (by decide)) id hid (.inl (by decide))
 have e0:Pe.text ⟨[],65536,0⟩ (vput id)=⟨vput id,65536,0⟩:=by rw [pk_text (by simp only [List.length_nil];omega),List.nil_append]
 have hfin:msge 1 ⟨1,id,key,fnd,obj,old,ctx,mt,dd,vl,px,pg,rg,cd,tx⟩=Pe.fin (Pe.blob (Pe.text ⟨[],65536,0⟩ (vput id)) 128 key):=by unfold msge;rw [←hr,if_neg (by decide)];rfl
 rw [hfin]
 clear hfin
 rw [e0] at hv ⊢
 generalize vput id=b0 at *
 have k0:Pe.Ok ⟨b0,65536,0⟩:=pk_ok (by omega)
 have h0:=ref06_Put b0 key 65536 0 128 k0 (by omega) (.inl (by decide))
 have m1:(Pe.blob ⟨b0,65536,0⟩ 128 key).m=65536:=(pens_blob 128).m _ _
 have k1:Pe.Ok (Pe.blob ⟨b0,65536,0⟩ 128 key):=(pens_blob 128).keep k0 (.inl (by show (65536:Int)≤_;decide))
 generalize (Pe.blob ⟨b0,65536,0⟩ 128 key)=RR at *
 obtain ⟨b1,mm1,e1⟩:=RR
 simp only at m1
 subst m1
 have hen:=@ref02_End b1 65536 e1
 (have kk1:=uN [] hck;have kk2:=uN [] hnew;have kk3:=uN [1] hv;have kk4:=uN [1] h0;have kk5:=uN [1] hen;exact Wd0)
theorem rencode_12(m:Mg)(hf:m.fits)(hk:m.kind=2):AC Tryz.prog 21 [iv .u8 1,mgV m] [] fun y σ=>y=.t [sv (bs (msge 1 m).1),iv .i64 (msge 1 m).2]∧σ=[]:=by
 refine AC.wk Tryz.func21 ?_
 obtain ⟨knd,id,key,fnd,obj,old,ctx,mt,dd,vl,px,pg,rg,cd,tx⟩:=m
 simp only at hk
 subst hk
 have hck:=rcheck_12 ⟨2,id,key,fnd,obj,old,ctx,mt,dd,vl,px,pg,rg,cd,tx⟩ hf rfl
 obtain ⟨r,hr⟩:∃ r,r=Mg.check 1 ⟨2,id,key,fnd,obj,old,ctx,mt,dd,vl,px,pg,rg,cd,tx⟩:=⟨_,rfl⟩
 rw [←hr] at hck
 by_cases hc:r=0
 case neg=>
  rw [show msge 1 ⟨2,id,key,fnd,obj,old,ctx,mt,dd,vl,px,pg,rg,cd,tx⟩=([],r) by unfold msge;rw [←hr,if_pos hc]]
  (have kk1:=uN [] hck;exact Wd0)
 subst hc
 have hx:(if fnd=true then old.check else 0)=0:=hr.symm
 have hid:id<18446744073709551616:=hf.2.1
 obtain ⟨l1,l2,l3,l4⟩:key.length≤9223372036854775807∧vl.length≤9223372036854775807∧px.length≤9223372036854775807∧tx.length≤9223372036854775807:=m_len ⟨2,id,key,fnd,obj,old,ctx,mt,dd,vl,px,pg,rg,cd,tx⟩ hf
 have hvl:=vput_len10 hid
 have hnew:=@ref02_New 65536
 rw [if_neg (by decide)] at hnew
 have hv:=ref03_Put [] 65536 0 (pk_ok (by decide)) id hid (.inl (by decide))
 have e0:Pe.text ⟨[],65536,0⟩ (vput id)=⟨vput id,65536,0⟩:=by rw [pk_text (by simp only [List.length_nil];omega),List.nil_append]
 cases fnd with
 | true=>
  have hso2:(olde old).1.length≤65536:=wre_le2 pens_old old
  have he:=ref17_Encode old hf.2.2.2.2.1
  have hfin:msge 1 ⟨2,id,key,true,obj,old,ctx,mt,dd,vl,px,pg,rg,cd,tx⟩=Pe.fin (Pe.blob (Pe.fail (Pe.flag (Pe.text ⟨[],65536,0⟩ (vput id)) true) (olde old).2) 65536 (olde old).1):=by unfold msge;rw [←hr,if_neg (by decide)];rfl
  rw [hfin]
  clear hfin
  generalize olde old=w at *
  obtain ⟨so,fo⟩:=w
  simp only at he hso2
  have hso:so.length≤4611686018427387904:=by omega
  rw [e0] at hv ⊢
  generalize vput id=b0 at *
  have k0:Pe.Ok ⟨b0,65536,0⟩:=pk_ok (by omega)
  have h0:=ref06_PutFlag b0 65536 0 k0 true (.inl (by decide))
  have m1:(Pe.flag ⟨b0,65536,0⟩ true).m=65536:=pens_flag.m _ _
  have k1:Pe.Ok (Pe.flag ⟨b0,65536,0⟩ true):=pens_flag.keep k0 (.inl (by show (65536:Int)≤_;decide))
  generalize (Pe.flag ⟨b0,65536,0⟩ true)=RR at *
  obtain ⟨b1,mm1,e1⟩:=RR
  simp only at m1
  subst m1
  have h1:=ref23_inner b1 so e1 fo k1 hso
  have m2:(Pe.blob (Pe.fail ⟨b1,65536,e1⟩ fo) 65536 so).m=65536:=(pens_blob 65536).m (Pe.fail ⟨b1,65536,e1⟩ fo) _
  have k2:Pe.Ok (Pe.blob (Pe.fail ⟨b1,65536,e1⟩ fo) 65536 so):=(pens_blob 65536).keep (p:=Pe.fail ⟨b1,65536,e1⟩ fo) k1 (.inl (by show (65536:Int)≤_;decide))
  generalize (Pe.blob (Pe.fail ⟨b1,65536,e1⟩ fo) 65536 so)=RR at *
  obtain ⟨b2,mm2,e2⟩:=RR
  simp only at m2
  subst m2
  have hen:=@ref02_End b2 65536 e2
  (have kk1:=uN [] hck;have kk2:=uN [] hnew;have kk3:=uN [1] hv;have kk4:=uN [] he;have kk5:=uN [1] h0;have kk6:=uN [1] h1;have kk7:=uN [1] hen;exact Wd0)
 | false=>
  have hfin:msge 1 ⟨2,id,key,false,obj,old,ctx,mt,dd,vl,px,pg,rg,cd,tx⟩=Pe.fin (Pe.flag (Pe.text ⟨[],65536,0⟩ (vput id)) false):=by unfold msge;rw [←hr,if_neg (by decide)];rfl
  rw [hfin]
  clear hfin
  rw [e0] at hv ⊢
  generalize vput id=b0 at *
  have k0:Pe.Ok ⟨b0,65536,0⟩:=pk_ok (by omega)
  have h0:=ref06_PutFlag b0 65536 0 k0 false (.inl (by decide))
  have m1:(Pe.flag ⟨b0,65536,0⟩ false).m=65536:=pens_flag.m _ _
  have k1:Pe.Ok (Pe.flag ⟨b0,65536,0⟩ false):=pens_flag.keep k0 (.inl (by show (65536:Int)≤_;decide))
  generalize (Pe.flag ⟨b0,65536,0⟩ false)=RR at *
  obtain ⟨b1,mm1,e1⟩:=RR
  simp only at m1
  subst m1
  have hen:=@ref02_End b1 65536 e1
  (have kk1:=uN [] hck;have kk2:=uN [] hnew;have kk3:=uN [1] hv;have kk4:=uN [1] h0;have kk5:=uN [1] hen;exact Wd0)
theorem rencode_18(m:Mg)(hf:m.fits)(hk:m.kind=8):AC Tryz.prog 21 [iv .u8 1,mgV m] [] fun y σ=>y=.t [sv (bs (msge 1 m).1),iv .i64 (msge 1 m).2]∧σ=[]:=by
 refine AC.wk Tryz.func21 ?_
 obtain ⟨knd,id,key,fnd,obj,old,ctx,mt,dd,vl,px,pg,rg,cd,tx⟩:=m
 simp only at hk
 subst hk
 have hck:=rcheck_18 ⟨8,id,key,fnd,obj,old,ctx,mt,dd,vl,px,pg,rg,cd,tx⟩ hf rfl
 obtain ⟨r,hr⟩:∃ r,r=Mg.check 1 ⟨8,id,key,fnd,obj,old,ctx,mt,dd,vl,px,pg,rg,cd,tx⟩:=⟨_,rfl⟩
 rw [←hr] at hck
 by_cases hc:r=0
 case neg=>
  rw [show msge 1 ⟨8,id,key,fnd,obj,old,ctx,mt,dd,vl,px,pg,rg,cd,tx⟩=([],r) by unfold msge;rw [←hr,if_pos hc]]
  (have kk1:=uN [] hck;exact Wd0)
 subst hc
 have hx:(fst0 (codechk cd) (longchk tx 64))=0:=hr.symm
 have hid:id<18446744073709551616:=hf.2.1
 obtain ⟨l1,l2,l3,l4⟩:key.length≤9223372036854775807∧vl.length≤9223372036854775807∧px.length≤9223372036854775807∧tx.length≤9223372036854775807:=m_len ⟨8,id,key,fnd,obj,old,ctx,mt,dd,vl,px,pg,rg,cd,tx⟩ hf
 have hvl:=vput_len10 hid
 have l5:=longchk_zero.1 (fst0_zero.1 hx).2
 have hnew:=@ref02_New 65536
 rw [if_neg (by decide)] at hnew
 have hv:=ref03_Put [] 65536 0 (pk_ok (by decide)) id hid (.inl (by decide))
 have e0:Pe.text ⟨[],65536,0⟩ (vput id)=⟨vput id,65536,0⟩:=by rw [pk_text (by simp only [List.length_nil];omega),List.nil_append]
 have hfin:msge 1 ⟨8,id,key,fnd,obj,old,ctx,mt,dd,vl,px,pg,rg,cd,tx⟩=Pe.fin (Pe.blob (Pe.count (Pe.text ⟨[],65536,0⟩ (vput id)) 255 cd) 64 tx):=by unfold msge;rw [←hr,if_neg (by decide)];rfl
 rw [hfin]
 clear hfin
 rw [e0] at hv ⊢
 generalize vput id=b0 at *
 have k0:Pe.Ok ⟨b0,65536,0⟩:=pk_ok (by omega)
 have h0:=ref06_PutCount b0 65536 0 255 k0 cd hf.2.2.2.2.2.2.2.2.2.2.2.1.2 (.inl (by decide))
 have m1:(Pe.count ⟨b0,65536,0⟩ 255 cd).m=65536:=(pcount_m _ _ _)
 have k1:Pe.Ok (Pe.count ⟨b0,65536,0⟩ 255 cd):=pcount_ok k0
 generalize (Pe.count ⟨b0,65536,0⟩ 255 cd)=RR at *
 obtain ⟨b1,mm1,e1⟩:=RR
 simp only at m1
 subst m1
 have h1:=ref06_Put b1 tx 65536 e1 64 k1 (by omega) (.inl (by decide))
 have m2:(Pe.blob ⟨b1,65536,e1⟩ 64 tx).m=65536:=(pens_blob 64).m _ _
 have k2:Pe.Ok (Pe.blob ⟨b1,65536,e1⟩ 64 tx):=(pens_blob 64).keep k1 (.inl (by show (65536:Int)≤_;decide))
 generalize (Pe.blob ⟨b1,65536,e1⟩ 64 tx)=RR at *
 obtain ⟨b2,mm2,e2⟩:=RR
 simp only at m2
 subst m2
 have hen:=@ref02_End b2 65536 e2
 (have kk1:=uN [] hck;have kk2:=uN [] hnew;have kk3:=uN [1] hv;have kk4:=uN [1] h0;have kk5:=uN [1] h1;have kk6:=uN [1] hen;exact Wd0)
theorem rencode_21(m:Mg)(hf:m.fits)(hk:m.kind=1):AC Tryz.prog 21 [iv .u8 2,mgV m] [] fun y σ=>y=.t [sv (bs (msge 2 m).1),iv .i64 (msge 2 m).2]∧σ=[]:=by
 refine AC.wk Tryz.func21 ?_
 obtain ⟨knd,id,key,fnd,obj,old,ctx,mt,dd,vl,px,pg,rg,cd,tx⟩:=m
 simp only at hk
 subst hk
 have hck:=rcheck_21 ⟨1,id,key,fnd,obj,old,ctx,mt,dd,vl,px,pg,rg,cd,tx⟩ hf rfl
 obtain ⟨r,hr⟩:∃ r,r=Mg.check 2 ⟨1,id,key,fnd,obj,old,ctx,mt,dd,vl,px,pg,rg,cd,tx⟩:=⟨_,rfl⟩
 rw [←hr] at hck
 by_cases hc:r=0
 case neg=>
  rw [show msge 2 ⟨1,id,key,fnd,obj,old,ctx,mt,dd,vl,px,pg,rg,cd,tx⟩=([],r) by unfold msge;rw [←hr,if_pos hc]]
  (have kk1:=uN [] hck;exact Wd0)
 subst hc
 have hx:(keychk key)=0:=hr.symm
 have hid:id<18446744073709551616:=hf.2.1
 obtain ⟨l1,l2,l3,l4⟩:key.length≤9223372036854775807∧vl.length≤9223372036854775807∧px.length≤9223372036854775807∧tx.length≤9223372036854775807:=m_len ⟨1,id,key,fnd,obj,old,ctx,mt,dd,vl,px,pg,rg,cd,tx⟩ hf
 have hvl:=vput_len10 hid
 have l5:=(keychk_zero.1 hx).1
 have hnew:=@ref02_New 65536
 rw [if_neg (by decide)] at hnew
 have hv:=ref03_Put [] 65536 0 (pk_ok (by decide)) id hid (.inl (by decide))
 have e0:Pe.text ⟨[],65536,0⟩ (vput id)=⟨vput id,65536,0⟩:=by rw [pk_text (by simp only [List.length_nil];omega),List.nil_append]
 have hfin:msge 2 ⟨1,id,key,fnd,obj,old,ctx,mt,dd,vl,px,pg,rg,cd,tx⟩=Pe.fin (Pe.blob (Pe.text ⟨[],65536,0⟩ (vput id)) 128 key):=by unfold msge;rw [←hr,if_neg (by decide)];rfl
 rw [hfin]
 clear hfin
 rw [e0] at hv ⊢
 generalize vput id=b0 at *
 have k0:Pe.Ok ⟨b0,65536,0⟩:=pk_ok (by omega)
 have h0:=ref06_Put b0 key 65536 0 128 k0 (by omega) (.inl (by decide))
 have m1:(Pe.blob ⟨b0,65536,0⟩ 128 key).m=65536:=(pens_blob 128).m _ _
 have k1:Pe.Ok (Pe.blob ⟨b0,65536,0⟩ 128 key):=(pens_blob 128).keep k0 (.inl (by show (65536:Int)≤_;decide))
 generalize (Pe.blob ⟨b0,65536,0⟩ 128 key)=RR at *
 obtain ⟨b1,mm1,e1⟩:=RR
 simp only at m1
 subst m1
 have hen:=@ref02_End b1 65536 e1
 (have kk1:=uN [] hck;have kk2:=uN [] hnew;have kk3:=uN [1] hv;have kk4:=uN [1] h0;have kk5:=uN [1] hen;exact Wd0)
theorem rencode_22(m:Mg)(hf:m.fits)(hk:m.kind=2):AC Tryz.prog 21 [iv .u8 2,mgV m] [] fun y σ=>y=.t [sv (bs (msge 2 m).1),iv .i64 (msge 2 m).2]∧σ=[]:=by
 refine AC.wk Tryz.func21 ?_
 obtain ⟨knd,id,key,fnd,obj,old,ctx,mt,dd,vl,px,pg,rg,cd,tx⟩:=m
 simp only at hk
 subst hk
 have hck:=rcheck_22 ⟨2,id,key,fnd,obj,old,ctx,mt,dd,vl,px,pg,rg,cd,tx⟩ hf rfl
 obtain ⟨r,hr⟩:∃ r,r=Mg.check 2 ⟨2,id,key,fnd,obj,old,ctx,mt,dd,vl,px,pg,rg,cd,tx⟩:=⟨_,rfl⟩
 rw [←hr] at hck
 by_cases hc:r=0
 case neg=>
  rw [show msge 2 ⟨2,id,key,fnd,obj,old,ctx,mt,dd,vl,px,pg,rg,cd,tx⟩=([],r) by unfold msge;rw [←hr,if_pos hc]]
  (have kk1:=uN [] hck;exact Wd0)
 subst hc
 have hx:(if fnd=true then obj.check else 0)=0:=hr.symm
 have hid:id<18446744073709551616:=hf.2.1
 obtain ⟨l1,l2,l3,l4⟩:key.length≤9223372036854775807∧vl.length≤9223372036854775807∧px.length≤9223372036854775807∧tx.length≤9223372036854775807:=m_len ⟨2,id,key,fnd,obj,old,ctx,mt,dd,vl,px,pg,rg,cd,tx⟩ hf
 have hvl:=vput_len10 hid
 have hnew:=@ref02_New 65536
 rw [if_neg (by decide)] at hnew
 have hv:=ref03_Put [] 65536 0 (pk_ok (by decide)) id hid (.inl (by decide))
 have e0:Pe.text ⟨[],65536,0⟩ (vput id)=⟨vput id,65536,0⟩:=by rw [pk_text (by simp only [List.length_nil];omega),List.nil_append]
 cases fnd with
 | true=>
  have hso2:(obje obj).1.length≤65536:=wre_le2 pens_obj obj
  have he:=ref16_Encode obj hf.2.2.2.1
  have hfin:msge 2 ⟨2,id,key,true,obj,old,ctx,mt,dd,vl,px,pg,rg,cd,tx⟩=Pe.fin (Pe.blob (Pe.fail (Pe.flag (Pe.text ⟨[],65536,0⟩ (vput id)) true) (obje obj).2) 65536 (obje obj).1):=by unfold msge;rw [←hr,if_neg (by decide)];rfl
  rw [hfin]
  clear hfin
  generalize obje obj=w at *
  obtain ⟨so,fo⟩:=w
  simp only at he hso2
  have hso:so.length≤4611686018427387904:=by omega
  rw [e0] at hv ⊢
  generalize vput id=b0 at *
  have k0:Pe.Ok ⟨b0,65536,0⟩:=pk_ok (by omega)
  have h0:=ref06_PutFlag b0 65536 0 k0 true (.inl (by decide))
  have m1:(Pe.flag ⟨b0,65536,0⟩ true).m=65536:=pens_flag.m _ _
  have k1:Pe.Ok (Pe.flag ⟨b0,65536,0⟩ true):=pens_flag.keep k0 (.inl (by show (65536:Int)≤_;decide))
  generalize (Pe.flag ⟨b0,65536,0⟩ true)=RR at *
  obtain ⟨b1,mm1,e1⟩:=RR
  simp only at m1
  subst m1
  have h1:=ref23_inner b1 so e1 fo k1 hso
  have m2:(Pe.blob (Pe.fail ⟨b1,65536,e1⟩ fo) 65536 so).m=65536:=(pens_blob 65536).m (Pe.fail ⟨b1,65536,e1⟩ fo) _
  have k2:Pe.Ok (Pe.blob (Pe.fail ⟨b1,65536,e1⟩ fo) 65536 so):=(pens_blob 65536).keep (p:=Pe.fail ⟨b1,65536,e1⟩ fo) k1 (.inl (by show (65536:Int)≤_;decide))
  generalize (Pe.blob (Pe.fail ⟨b1,65536,e1⟩ fo) 65536 so)=RR at *
  obtain ⟨b2,mm2,e2⟩:=RR
  simp only at m2
  subst m2
  have hen:=@ref02_End b2 65536 e2
  (have kk1:=uN [] hck;have kk2:=uN [] hnew;have kk3:=uN [1] hv;have kk4:=uN [] he;have kk5:=uN [1] h0;have kk6:=uN [1] h1;have kk7:=uN [1] hen;exact Wd0)
 | false=>
  have hfin:msge 2 ⟨2,id,key,false,obj,old,ctx,mt,dd,vl,px,pg,rg,cd,tx⟩=Pe.fin (Pe.flag (Pe.text ⟨[],65536,0⟩ (vput id)) false):=by unfold msge;rw [←hr,if_neg (by decide)];rfl
  rw [hfin]
  clear hfin
  rw [e0] at hv ⊢
  generalize vput id=b0 at *
  have k0:Pe.Ok ⟨b0,65536,0⟩:=pk_ok (by omega)
  have h0:=ref06_PutFlag b0 65536 0 k0 false (.inl (by decide))
  have m1:(Pe.flag ⟨b0,65536,0⟩ false).m=65536:=pens_flag.m _ _
  have k1:Pe.Ok (Pe.flag ⟨b0,65536,0⟩ false):=pens_flag.keep k0 (.inl (by show (65536:Int)≤_;decide))
  generalize (Pe.flag ⟨b0,65536,0⟩ false)=RR at *
  obtain ⟨b1,mm1,e1⟩:=RR
  simp only at m1
  subst m1
  have hen:=@ref02_End b1 65536 e1
  (have kk1:=uN [] hck;have kk2:=uN [] hnew;have kk3:=uN [1] hv;have kk4:=uN [1] h0;have kk5:=uN [1] hen;exact Wd0)
theorem rencode_23(m:Mg)(hf:m.fits)(hk:m.kind=3):AC Tryz.prog 21 [iv .u8 2,mgV m] [] fun y σ=>y=.t [sv (bs (msge 2 m).1),iv .i64 (msge 2 m).2]∧σ=[]:=by
 refine AC.wk Tryz.func21 ?_
 obtain ⟨knd,id,key,fnd,obj,old,ctx,mt,dd,vl,px,pg,rg,cd,tx⟩:=m
 simp only at hk
 subst hk
 have hck:=rcheck_23 ⟨3,id,key,fnd,obj,old,ctx,mt,dd,vl,px,pg,rg,cd,tx⟩ hf rfl
 obtain ⟨r,hr⟩:∃ r,r=Mg.check 2 ⟨3,id,key,fnd,obj,old,ctx,mt,dd,vl,px,pg,rg,cd,tx⟩:=⟨_,rfl⟩
 rw [←hr] at hck
 by_cases hc:r=0
 case neg=>
  rw [show msge 2 ⟨3,id,key,fnd,obj,old,ctx,mt,dd,vl,px,pg,rg,cd,tx⟩=([],r) by unfold msge;rw [←hr,if_pos hc]]
  (have kk1:=uN [] hck;exact Wd0)
 subst hc
 have hx:(fst0 (keychk key) (fst0 (Vec.check ctx) (fst0 (Prs.check mt) (longchk vl 32768))))=0:=hr.symm
 have hid:id<18446744073709551616:=hf.2.1
 obtain ⟨l1,l2,l3,l4⟩:key.length≤9223372036854775807∧vl.length≤9223372036854775807∧px.length≤9223372036854775807∧tx.length≤9223372036854775807:=m_len ⟨3,id,key,fnd,obj,old,ctx,mt,dd,vl,px,pg,rg,cd,tx⟩ hf
 have hvl:=vput_len10 hid
 have l5:=(keychk_zero.1 (fst0_zero.1 hx).1).1
 have l6:=longchk_zero.1 (fst0_zero.1 (fst0_zero.1 (fst0_zero.1 hx).2).2).2
 have hnew:=@ref02_New 65536
 rw [if_neg (by decide)] at hnew
 have hv:=ref03_Put [] 65536 0 (pk_ok (by decide)) id hid (.inl (by decide))
 have e0:Pe.text ⟨[],65536,0⟩ (vput id)=⟨vput id,65536,0⟩:=by rw [pk_text (by simp only [List.length_nil];omega),List.nil_append]
 have hfin:msge 2 ⟨3,id,key,fnd,obj,old,ctx,mt,dd,vl,px,pg,rg,cd,tx⟩=Pe.fin (Pe.blob (Pe.flag (Pe.prs (Pe.vec (Pe.blob (Pe.text ⟨[],65536,0⟩ (vput id)) 128 key) ctx) mt) dd) 32768 vl):=by unfold msge;rw [←hr,if_neg (by decide)];rfl
 rw [hfin]
 clear hfin
 rw [e0] at hv ⊢
 generalize vput id=b0 at *
 have k0:Pe.Ok ⟨b0,65536,0⟩:=pk_ok (by omega)
 have h0:=ref06_Put b0 key 65536 0 128 k0 (by omega) (.inl (by decide))
 have m1:(Pe.blob ⟨b0,65536,0⟩ 128 key).m=65536:=(pens_blob 128).m _ _
 have k1:Pe.Ok (Pe.blob ⟨b0,65536,0⟩ 128 key):=(pens_blob 128).keep k0 (.inl (by show (65536:Int)≤_;decide))
 generalize (Pe.blob ⟨b0,65536,0⟩ 128 key)=RR at *
 obtain ⟨b1,mm1,e1⟩:=RR
 simp only at m1
 subst m1
 have h1:=ref11_Put b1 65536 e1 k1 ctx hf.2.2.2.2.2.1 (.inl (by decide))
 have m2:(Pe.vec ⟨b1,65536,e1⟩ ctx).m=65536:=pens_vec.m _ _
 have k2:Pe.Ok (Pe.vec ⟨b1,65536,e1⟩ ctx):=pens_vec.keep k1 (.inl (by show (65536:Int)≤_;decide))
 generalize (Pe.vec ⟨b1,65536,e1⟩ ctx)=RR at *
 obtain ⟨b2,mm2,e2⟩:=RR
 simp only at m2
 subst m2
 have h2:=ref14_Put b2 65536 e2 k2 mt hf.2.2.2.2.2.2.1 (.inl (by decide))
 have m3:(Pe.prs ⟨b2,65536,e2⟩ mt).m=65536:=pens_prs.m _ _
 have k3:Pe.Ok (Pe.prs ⟨b2,65536,e2⟩ mt):=pens_prs.keep k2 (.inl (by show (65536:Int)≤_;decide))
 generalize (Pe.prs ⟨b2,65536,e2⟩ mt)=RR at *
 obtain ⟨b3,mm3,e3⟩:=RR
 simp only at m3
 subst m3
 have h3:=ref06_PutFlag b3 65536 e3 k3 dd (.inl (by decide))
 have m4:(Pe.flag ⟨b3,65536,e3⟩ dd).m=65536:=pens_flag.m _ _
 have k4:Pe.Ok (Pe.flag ⟨b3,65536,e3⟩ dd):=pens_flag.keep k3 (.inl (by show (65536:Int)≤_;decide))
 generalize (Pe.flag ⟨b3,65536,e3⟩ dd)=RR at *
 obtain ⟨b4,mm4,e4⟩:=RR
 simp only at m4
 subst m4
 have h4:=ref06_Put b4 vl 65536 e4 32768 k4 (by omega) (.inl (by decide))
 have m5:(Pe.blob ⟨b4,65536,e4⟩ 32768 vl).m=65536:=(pens_blob 32768).m _ _
 have k5:Pe.Ok (Pe.blob ⟨b4,65536,e4⟩ 32768 vl):=(pens_blob 32768).keep k4 (.inl (by show (65536:Int)≤_;decide))
 generalize (Pe.blob ⟨b4,65536,e4⟩ 32768 vl)=RR at *
 obtain ⟨b5,mm5,e5⟩:=RR
 simp only at m5
 subst m5
 have hen:=@ref02_End b5 65536 e5
 (have kk1:=uN [] hck;have kk2:=uN [] hnew;have kk3:=uN [1] hv;have kk4:=uN [1] h0;have kk5:=uN [1] h1;have kk6:=uN [1] h2;have kk7:=uN [1] h3;have kk8:=uN [1] h4;have kk9:=uN [1] hen;exact Wd0)
theorem rencode_24(m:Mg)(hf:m.fits)(hk:m.kind=4):AC Tryz.prog 21 [iv .u8 2,mgV m] [] fun y σ=>y=.t [sv (bs (msge 2 m).1),iv .i64 (msge 2 m).2]∧σ=[]:=by
 refine AC.wk Tryz.func21 ?_
 obtain ⟨knd,id,key,fnd,obj,old,ctx,mt,dd,vl,px,pg,rg,cd,tx⟩:=m
 simp only at hk
 subst hk
 have hck:=rcheck_24 ⟨4,id,key,fnd,obj,old,ctx,mt,dd,vl,px,pg,rg,cd,tx⟩ hf rfl
 obtain ⟨r,hr⟩:∃ r,r=Mg.check 2 ⟨4,id,key,fnd,obj,old,ctx,mt,dd,vl,px,pg,rg,cd,tx⟩:=⟨_,rfl⟩
 rw [←hr] at hck
 by_cases hc:r=0
 case neg=>
  rw [show msge 2 ⟨4,id,key,fnd,obj,old,ctx,mt,dd,vl,px,pg,rg,cd,tx⟩=([],r) by unfold msge;rw [←hr,if_pos hc]]
  (have kk1:=uN [] hck;exact Wd0)
 subst hc
 have hx:(Vec.check ctx)=0:=hr.symm
 have hid:id<18446744073709551616:=hf.2.1
 obtain ⟨l1,l2,l3,l4⟩:key.length≤9223372036854775807∧vl.length≤9223372036854775807∧px.length≤9223372036854775807∧tx.length≤9223372036854775807:=m_len ⟨4,id,key,fnd,obj,old,ctx,mt,dd,vl,px,pg,rg,cd,tx⟩ hf
 have hvl:=vput_len10 hid
 have hnew:=@ref02_New 65536
 rw [if_neg (by decide)] at hnew
 have hv:=ref03_Put [] 65536 0 (pk_ok (by decide)) id hid (.inl (by decide))
 have e0:Pe.text ⟨[],65536,0⟩ (vput id)=⟨vput id,65536,0⟩:=by rw [pk_text (by simp only [List.length_nil];omega),List.nil_append]
 have hfin:msge 2 ⟨4,id,key,fnd,obj,old,ctx,mt,dd,vl,px,pg,rg,cd,tx⟩=Pe.fin (Pe.vec (Pe.text ⟨[],65536,0⟩ (vput id)) ctx):=by unfold msge;rw [←hr,if_neg (by decide)];rfl
 rw [hfin]
 clear hfin
 rw [e0] at hv ⊢
 generalize vput id=b0 at *
 have k0:Pe.Ok ⟨b0,65536,0⟩:=pk_ok (by omega)
 have h0:=ref11_Put b0 65536 0 k0 ctx hf.2.2.2.2.2.1 (.inl (by decide))
 have m1:(Pe.vec ⟨b0,65536,0⟩ ctx).m=65536:=pens_vec.m _ _
 have k1:Pe.Ok (Pe.vec ⟨b0,65536,0⟩ ctx):=pens_vec.keep k0 (.inl (by show (65536:Int)≤_;decide))
 generalize (Pe.vec ⟨b0,65536,0⟩ ctx)=RR at *
 obtain ⟨b1,mm1,e1⟩:=RR
 simp only at m1
 subst m1
 have hen:=@ref02_End b1 65536 e1
 (have kk1:=uN [] hck;have kk2:=uN [] hnew;have kk3:=uN [1] hv;have kk4:=uN [1] h0;have kk5:=uN [1] hen;exact Wd0)
theorem rencode_25(m:Mg)(hf:m.fits)(hk:m.kind=5):AC Tryz.prog 21 [iv .u8 2,mgV m] [] fun y σ=>y=.t [sv (bs (msge 2 m).1),iv .i64 (msge 2 m).2]∧σ=[]:=by
 refine AC.wk Tryz.func21 ?_
 obtain ⟨knd,id,key,fnd,obj,old,ctx,mt,dd,vl,px,pg,rg,cd,tx⟩:=m
 simp only at hk
 subst hk
 have hck:=rcheck_25 ⟨5,id,key,fnd,obj,old,ctx,mt,dd,vl,px,pg,rg,cd,tx⟩ hf rfl
 obtain ⟨r,hr⟩:∃ r,r=Mg.check 2 ⟨5,id,key,fnd,obj,old,ctx,mt,dd,vl,px,pg,rg,cd,tx⟩:=⟨_,rfl⟩
 rw [←hr] at hck
 by_cases hc:r=0
 case neg=>
  rw [show msge 2 ⟨5,id,key,fnd,obj,old,ctx,mt,dd,vl,px,pg,rg,cd,tx⟩=([],r) by unfold msge;rw [←hr,if_pos hc]]
  (have kk1:=uN [] hck;exact Wd0)
 subst hc
 have hx:(longchk px 31)=0:=hr.symm
 have hid:id<18446744073709551616:=hf.2.1
 obtain ⟨l1,l2,l3,l4⟩:key.length≤9223372036854775807∧vl.length≤9223372036854775807∧px.length≤9223372036854775807∧tx.length≤9223372036854775807:=m_len ⟨5,id,key,fnd,obj,old,ctx,mt,dd,vl,px,pg,rg,cd,tx⟩ hf
 have hvl:=vput_len10 hid
 have l5:=longchk_zero.1 hx
 have hnew:=@ref02_New 65536
 rw [if_neg (by decide)] at hnew
 have hv:=ref03_Put [] 65536 0 (pk_ok (by decide)) id hid (.inl (by decide))
 have e0:Pe.text ⟨[],65536,0⟩ (vput id)=⟨vput id,65536,0⟩:=by rw [pk_text (by simp only [List.length_nil];omega),List.nil_append]
 have hfin:msge 2 ⟨5,id,key,fnd,obj,old,ctx,mt,dd,vl,px,pg,rg,cd,tx⟩=Pe.fin (Pe.blob (Pe.text ⟨[],65536,0⟩ (vput id)) 31 px):=by unfold msge;rw [←hr,if_neg (by decide)];rfl
 rw [hfin]
 clear hfin
 rw [e0] at hv ⊢
 generalize vput id=b0 at *
 have k0:Pe.Ok ⟨b0,65536,0⟩:=pk_ok (by omega)
 have h0:=ref06_Put b0 px 65536 0 31 k0 (by omega) (.inl (by decide))
 have m1:(Pe.blob ⟨b0,65536,0⟩ 31 px).m=65536:=(pens_blob 31).m _ _
 have k1:Pe.Ok (Pe.blob ⟨b0,65536,0⟩ 31 px):=(pens_blob 31).keep k0 (.inl (by show (65536:Int)≤_;decide))
 generalize (Pe.blob ⟨b0,65536,0⟩ 31 px)=RR at *
 obtain ⟨b1,mm1,e1⟩:=RR
 simp only at m1
 subst m1
 have hen:=@ref02_End b1 65536 e1
 (have kk1:=uN [] hck;have kk2:=uN [] hnew;have kk3:=uN [1] hv;have kk4:=uN [1] h0;have kk5:=uN [1] hen;exact Wd0)
theorem rencode_26(m:Mg)(hf:m.fits)(hk:m.kind=6):AC Tryz.prog 21 [iv .u8 2,mgV m] [] fun y σ=>y=.t [sv (bs (msge 2 m).1),iv .i64 (msge 2 m).2]∧σ=[]:=by
 refine AC.wk Tryz.func21 ?_
 obtain ⟨knd,id,key,fnd,obj,old,ctx,mt,dd,vl,px,pg,rg,cd,tx⟩:=m
 simp only at hk
 subst hk
 have hck:=rcheck_26 ⟨6,id,key,fnd,obj,old,ctx,mt,dd,vl,px,pg,rg,cd,tx⟩ hf rfl
 obtain ⟨r,hr⟩:∃ r,r=Mg.check 2 ⟨6,id,key,fnd,obj,old,ctx,mt,dd,vl,px,pg,rg,cd,tx⟩:=⟨_,rfl⟩
 rw [←hr] at hck
 by_cases hc:r=0
 case neg=>
  rw [show msge 2 ⟨6,id,key,fnd,obj,old,ctx,mt,dd,vl,px,pg,rg,cd,tx⟩=([],r) by unfold msge;rw [←hr,if_pos hc]]
  (have kk1:=uN [] hck;exact Wd0)
 subst hc
 have hx:(pg.check)=0:=hr.symm
 have hid:id<18446744073709551616:=hf.2.1
 obtain ⟨l1,l2,l3,l4⟩:key.length≤9223372036854775807∧vl.length≤9223372036854775807∧px.length≤9223372036854775807∧tx.length≤9223372036854775807:=m_len ⟨6,id,key,fnd,obj,old,ctx,mt,dd,vl,px,pg,rg,cd,tx⟩ hf
 have hvl:=vput_len10 hid
 have hnew:=@ref02_New 65536
 rw [if_neg (by decide)] at hnew
 have hv:=ref03_Put [] 65536 0 (pk_ok (by decide)) id hid (.inl (by decide))
 have e0:Pe.text ⟨[],65536,0⟩ (vput id)=⟨vput id,65536,0⟩:=by rw [pk_text (by simp only [List.length_nil];omega),List.nil_append]
 have hfin:msge 2 ⟨6,id,key,fnd,obj,old,ctx,mt,dd,vl,px,pg,rg,cd,tx⟩=Pe.fin (Pe.page (Pe.text ⟨[],65536,0⟩ (vput id)) pg):=by unfold msge;rw [←hr,if_neg (by decide)];rfl
 rw [hfin]
 clear hfin
 rw [e0] at hv ⊢
 generalize vput id=b0 at *
 rw [show Pe.page ⟨b0,65536,0⟩ pg=⟨b0++epage pg,65536,0⟩ from pens_page.fit ⟨b0,65536,0⟩ pg rfl hx (by show ((b0.length+(epage pg).length:Nat):Int)≤(65536:Int);have:=epage_len hx;omega)]
 have k0:Pe.Ok ⟨b0,65536,0⟩:=pk_ok (by omega)
 have h0:=ref20_Put b0 (by omega) pg hf.2.2.2.2.2.2.2.2.2.1 hx
 have m1:((⟨b0++epage pg,65536,0⟩:Pe)).m=65536:=rfl
 have k1:Pe.Ok ((⟨b0++epage pg,65536,0⟩:Pe)):=pk_ok (by rw [List.length_append];have:=epage_len hx;omega)
 generalize ((⟨b0++epage pg,65536,0⟩:Pe))=RR at *
 obtain ⟨b1,mm1,e1⟩:=RR
 simp only at m1
 subst m1
 have hen:=@ref02_End b1 65536 e1
 (have kk1:=uN [] hck;have kk2:=uN [] hnew;have kk3:=uN [1] hv;have kk4:=uN [1] h0;have kk5:=uN [1] hen;exact Wd0)
theorem rencode_27(m:Mg)(hf:m.fits)(hk:m.kind=7):AC Tryz.prog 21 [iv .u8 2,mgV m] [] fun y σ=>y=.t [sv (bs (msge 2 m).1),iv .i64 (msge 2 m).2]∧σ=[]:=by
 refine AC.wk Tryz.func21 ?_
 obtain ⟨knd,id,key,fnd,obj,old,ctx,mt,dd,vl,px,pg,rg,cd,tx⟩:=m
 simp only at hk
 subst hk
 have hck:=rcheck_27 ⟨7,id,key,fnd,obj,old,ctx,mt,dd,vl,px,pg,rg,cd,tx⟩ hf rfl
 obtain ⟨r,hr⟩:∃ r,r=Mg.check 2 ⟨7,id,key,fnd,obj,old,ctx,mt,dd,vl,px,pg,rg,cd,tx⟩:=⟨_,rfl⟩
 rw [←hr] at hck
 by_cases hc:r=0
 case neg=>
  rw [show msge 2 ⟨7,id,key,fnd,obj,old,ctx,mt,dd,vl,px,pg,rg,cd,tx⟩=([],r) by unfold msge;rw [←hr,if_pos hc]]
  (have kk1:=uN [] hck;exact Wd0)
 subst hc
 have hx:(Ring.check rg)=0:=hr.symm
 have hid:id<18446744073709551616:=hf.2.1
 obtain ⟨l1,l2,l3,l4⟩:key.length≤9223372036854775807∧vl.length≤9223372036854775807∧px.length≤9223372036854775807∧tx.length≤9223372036854775807:=m_len ⟨7,id,key,fnd,obj,old,ctx,mt,dd,vl,px,pg,rg,cd,tx⟩ hf
 have hvl:=vput_len10 hid
 have hnew:=@ref02_New 65536
 rw [if_neg (by decide)] at hnew
 have hv:=ref03_Put [] 65536 0 (pk_ok (by decide)) id hid (.inl (by decide))
 have e0:Pe.text ⟨[],65536,0⟩ (vput id)=⟨vput id,65536,0⟩:=by rw [pk_text (by simp only [List.length_nil];omega),List.nil_append]
 have hfin:msge 2 ⟨7,id,key,fnd,obj,old,ctx,mt,dd,vl,px,pg,rg,cd,tx⟩=Pe.fin (Pe.text (Pe.text ⟨[],65536,0⟩ (vput id)) (ering rg)):=by unfold msge;rw [←hr,if_neg (by decide)];show Pe.fin (Pe.ringp _ rg)=_;unfold Pe.ringp;rw [if_neg (fun h=>h hx)]
 rw [hfin]
 clear hfin
 rw [e0] at hv ⊢
 generalize vput id=b0 at *
 have k0:Pe.Ok ⟨b0,65536,0⟩:=pk_ok (by omega)
 have h0:=ref02_Text b0 (ering rg) 65536 0 k0 (.inl (by decide)) (by have:=ering_len (l:=rg) ⟨hx,fun x h=>(hf.2.2.2.2.2.2.2.2.2.2.1.2 x h).1⟩;omega)
 have m1:(Pe.text ⟨b0,65536,0⟩ (ering rg)).m=65536:=pens_text.m _ _
 have k1:Pe.Ok (Pe.text ⟨b0,65536,0⟩ (ering rg)):=pens_text.keep k0 (.inl (by show (65536:Int)≤_;decide))
 generalize (Pe.text ⟨b0,65536,0⟩ (ering rg))=RR at *
 obtain ⟨b1,mm1,e1⟩:=RR
 simp only at m1
 subst m1
 have hen:=@ref02_End b1 65536 e1
 have he:=ref22_Encode rg hf.2.2.2.2.2.2.2.2.2.2.1
 rw [show ringe rg=(ering rg,0) by unfold ringe;rw [if_neg (fun h=>h hx)]] at he
 generalize ering rg=tt at *
 clear hr hx hf
 (have kk1:=uN [] hck;have kk2:=uN [] hnew;have kk3:=uN [1] hv;have kk4:=uN [] he;have kk5:=uN [1] h0;have kk6:=uN [1] hen;exact Wd0)
theorem rencode_28(m:Mg)(hf:m.fits)(hk:m.kind=8):AC Tryz.prog 21 [iv .u8 2,mgV m] [] fun y σ=>y=.t [sv (bs (msge 2 m).1),iv .i64 (msge 2 m).2]∧σ=[]:=by
 refine AC.wk Tryz.func21 ?_
 obtain ⟨knd,id,key,fnd,obj,old,ctx,mt,dd,vl,px,pg,rg,cd,tx⟩:=m
 simp only at hk
 subst hk
 have hck:=rcheck_28 ⟨8,id,key,fnd,obj,old,ctx,mt,dd,vl,px,pg,rg,cd,tx⟩ hf rfl
 obtain ⟨r,hr⟩:∃ r,r=Mg.check 2 ⟨8,id,key,fnd,obj,old,ctx,mt,dd,vl,px,pg,rg,cd,tx⟩:=⟨_,rfl⟩
 rw [←hr] at hck
 by_cases hc:r=0
 case neg=>
  rw [show msge 2 ⟨8,id,key,fnd,obj,old,ctx,mt,dd,vl,px,pg,rg,cd,tx⟩=([],r) by unfold msge;rw [←hr,if_pos hc]]
  (have kk1:=uN [] hck;exact Wd0)
 subst hc
 have hx:(fst0 (codechk cd) (longchk tx 64))=0:=hr.symm
 have hid:id<18446744073709551616:=hf.2.1
 obtain ⟨l1,l2,l3,l4⟩:key.length≤9223372036854775807∧vl.length≤9223372036854775807∧px.length≤9223372036854775807∧tx.length≤9223372036854775807:=m_len ⟨8,id,key,fnd,obj,old,ctx,mt,dd,vl,px,pg,rg,cd,tx⟩ hf
 have hvl:=vput_len10 hid
 have l5:=longchk_zero.1 (fst0_zero.1 hx).2
 have hnew:=@ref02_New 65536
 rw [if_neg (by decide)] at hnew
 have hv:=ref03_Put [] 65536 0 (pk_ok (by decide)) id hid (.inl (by decide))
 have e0:Pe.text ⟨[],65536,0⟩ (vput id)=⟨vput id,65536,0⟩:=by rw [pk_text (by simp only [List.length_nil];omega),List.nil_append]
 have hfin:msge 2 ⟨8,id,key,fnd,obj,old,ctx,mt,dd,vl,px,pg,rg,cd,tx⟩=Pe.fin (Pe.blob (Pe.count (Pe.text ⟨[],65536,0⟩ (vput id)) 255 cd) 64 tx):=by unfold msge;rw [←hr,if_neg (by decide)];rfl
 rw [hfin]
 clear hfin
 rw [e0] at hv ⊢
 generalize vput id=b0 at *
 have k0:Pe.Ok ⟨b0,65536,0⟩:=pk_ok (by omega)
 have h0:=ref06_PutCount b0 65536 0 255 k0 cd hf.2.2.2.2.2.2.2.2.2.2.2.1.2 (.inl (by decide))
 have m1:(Pe.count ⟨b0,65536,0⟩ 255 cd).m=65536:=(pcount_m _ _ _)
 have k1:Pe.Ok (Pe.count ⟨b0,65536,0⟩ 255 cd):=pcount_ok k0
 generalize (Pe.count ⟨b0,65536,0⟩ 255 cd)=RR at *
 obtain ⟨b1,mm1,e1⟩:=RR
 simp only at m1
 subst m1
 have h1:=ref06_Put b1 tx 65536 e1 64 k1 (by omega) (.inl (by decide))
 have m2:(Pe.blob ⟨b1,65536,e1⟩ 64 tx).m=65536:=(pens_blob 64).m _ _
 have k2:Pe.Ok (Pe.blob ⟨b1,65536,e1⟩ 64 tx):=(pens_blob 64).keep k1 (.inl (by show (65536:Int)≤_;decide))
 generalize (Pe.blob ⟨b1,65536,e1⟩ 64 tx)=RR at *
 obtain ⟨b2,mm2,e2⟩:=RR
 simp only at m2
 subst m2
 have hen:=@ref02_End b2 65536 e2
 (have kk1:=uN [] hck;have kk2:=uN [] hnew;have kk3:=uN [1] hv;have kk4:=uN [1] h0;have kk5:=uN [1] h1;have kk6:=uN [1] hen;exact Wd0)
theorem rencode_29(m:Mg)(hf:m.fits)(hk:m.kind=9):AC Tryz.prog 21 [iv .u8 2,mgV m] [] fun y σ=>y=.t [sv (bs (msge 2 m).1),iv .i64 (msge 2 m).2]∧σ=[]:=by
 refine AC.wk Tryz.func21 ?_
 obtain ⟨knd,id,key,fnd,obj,old,ctx,mt,dd,vl,px,pg,rg,cd,tx⟩:=m
 simp only at hk
 subst hk
 have hck:=rcheck_29 ⟨9,id,key,fnd,obj,old,ctx,mt,dd,vl,px,pg,rg,cd,tx⟩ hf rfl
 obtain ⟨r,hr⟩:∃ r,r=Mg.check 2 ⟨9,id,key,fnd,obj,old,ctx,mt,dd,vl,px,pg,rg,cd,tx⟩:=⟨_,rfl⟩
 rw [←hr] at hck
 by_cases hc:r=0
 case neg=>
  rw [show msge 2 ⟨9,id,key,fnd,obj,old,ctx,mt,dd,vl,px,pg,rg,cd,tx⟩=([],r) by unfold msge;rw [←hr,if_pos hc]]
  (have kk1:=uN [] hck;exact Wd0)
 subst hc
 have hx:(obj.check)=0:=hr.symm
 have hid:id<18446744073709551616:=hf.2.1
 obtain ⟨l1,l2,l3,l4⟩:key.length≤9223372036854775807∧vl.length≤9223372036854775807∧px.length≤9223372036854775807∧tx.length≤9223372036854775807:=m_len ⟨9,id,key,fnd,obj,old,ctx,mt,dd,vl,px,pg,rg,cd,tx⟩ hf
 have hvl:=vput_len10 hid
 have hnew:=@ref02_New 65536
 rw [if_neg (by decide)] at hnew
 have hv:=ref03_Put [] 65536 0 (pk_ok (by decide)) id hid (.inl (by decide))
 have e0:Pe.text ⟨[],65536,0⟩ (vput id)=⟨vput id,65536,0⟩:=by rw [pk_text (by simp only [List.length_nil];omega),List.nil_append]
 have hso2:(obje obj).1.length≤65536:=wre_le2 pens_obj obj
 have he:=ref16_Encode obj hf.2.2.2.1
 have hfin:msge 2 ⟨9,id,key,fnd,obj,old,ctx,mt,dd,vl,px,pg,rg,cd,tx⟩=Pe.fin (Pe.blob (Pe.fail (Pe.text ⟨[],65536,0⟩ (vput id)) (obje obj).2) 65536 (obje obj).1):=by unfold msge;rw [←hr,if_neg (by decide)];rfl
 rw [hfin]
 clear hfin
 generalize obje obj=w at *
 obtain ⟨so,fo⟩:=w
 simp only at he hso2
 have hso:so.length≤4611686018427387904:=by omega
 rw [e0] at hv ⊢
 generalize vput id=b0 at *
 have k0:Pe.Ok ⟨b0,65536,0⟩:=pk_ok (by omega)
 have h0:=ref23_inner b0 so 0 fo k0 hso
 have m1:(Pe.blob (Pe.fail ⟨b0,65536,0⟩ fo) 65536 so).m=65536:=(pens_blob 65536).m (Pe.fail ⟨b0,65536,0⟩ fo) _
 have k1:Pe.Ok (Pe.blob (Pe.fail ⟨b0,65536,0⟩ fo) 65536 so):=(pens_blob 65536).keep (p:=Pe.fail ⟨b0,65536,0⟩ fo) k0 (.inl (by show (65536:Int)≤_;decide))
 generalize (Pe.blob (Pe.fail ⟨b0,65536,0⟩ fo) 65536 so)=RR at *
 obtain ⟨b1,mm1,e1⟩:=RR
 simp only at m1
 subst m1
 have hen:=@ref02_End b1 65536 e1
 (have kk1:=uN [] hck;have kk2:=uN [] hnew;have kk3:=uN [1] hv;have kk4:=uN [] he;have kk5:=uN [1] h0;have kk6:=uN [1] hen;exact Wd0)
end Go.AW
