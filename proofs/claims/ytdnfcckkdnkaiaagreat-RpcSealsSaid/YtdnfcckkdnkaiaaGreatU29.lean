/-
  a message's parts: how they are written.
-/
import Derived.Test.YtdnfcckkdnkaiaaGreatU27
import Derived.Test.YtdnfcckkdnkaiaaGreatU28
set_option linter.unusedVariables false
set_option linter.unusedSimpArgs false
set_option maxHeartbeats 4000000
set_option maxRecDepth 10000
namespace Go.AW
open Go Go.Proofs
attribute [local irreducible] thenQ blockQ RetQ AL AW AC AOp
theorem m_len(m:Mg)(hf:m.fits):m.key.length≤9223372036854775807∧m.val.length≤9223372036854775807∧m.pre.length≤9223372036854775807∧m.txt.length≤9223372036854775807:=by
 obtain ⟨_,_,f1,_,_,_,_,f2,f3,_,_,_,f4⟩:=hf
 exact ⟨f1,f2,f3,f4⟩
theorem put_Key(m:Mg)(hf:m.fits)(b:List UInt8)(e:Int)(ok:Pe.Ok ⟨b,65536,e⟩):AC Tryz.prog 170 [.p 0 0,mgV m,.p 2 0,.p 3 0] (Pe.obs ⟨b,65536,e⟩++[qo29,qo22]) fun y σ=>y=.t []∧σ=Pe.obs (Pe.blob ⟨b,65536,e⟩ 128 m.key)++[qo29,qo22]:=by
 refine AC.wk Tryz.func170 ?_
 have hof:=of_Key (mgC m) rfl
 have hb:=blob_Put1 b m.key 65536 e 128 ok (m_len m hf).1 (.inl (by decide))
 generalize Pe.blob ⟨b,65536,e⟩ 128 m.key=r at *
 (have kk1:=uN [4] hof;have kk2:=uN [0,1] hb;exact Wf4)
theorem put_Text(m:Mg)(hf:m.fits)(b:List UInt8)(e:Int)(ok:Pe.Ok ⟨b,65536,e⟩):AC Tryz.prog 170 [.p 0 0,mgV m,.p 2 0,.p 3 0] (Pe.obs ⟨b,65536,e⟩++[qo30,qo23]) fun y σ=>y=.t []∧σ=Pe.obs (Pe.blob ⟨b,65536,e⟩ 64 m.txt)++[qo30,qo23]:=by
 refine AC.wk Tryz.func170 ?_
 have hof:=of_Text (mgC m) rfl
 have hb:=blob_Put1 b m.txt 65536 e 64 ok (m_len m hf).2.2.2 (.inl (by decide))
 generalize Pe.blob ⟨b,65536,e⟩ 64 m.txt=r at *
 (have kk1:=uN [4] hof;have kk2:=uN [0,1] hb;exact Wf4)
theorem put_Value(m:Mg)(hf:m.fits)(b:List UInt8)(e:Int)(ok:Pe.Ok ⟨b,65536,e⟩):AC Tryz.prog 170 [.p 0 0,mgV m,.p 2 0,.p 3 0] (Pe.obs ⟨b,65536,e⟩++[qo28,qo24]) fun y σ=>y=.t []∧σ=Pe.obs (Pe.blob ⟨b,65536,e⟩ 32768 m.val)++[qo28,qo24]:=by
 refine AC.wk Tryz.func170 ?_
 have hof:=of_Value (mgC m) rfl
 have hb:=blob_Put1 b m.val 65536 e 32768 ok (m_len m hf).2.1 (.inl (by decide))
 generalize Pe.blob ⟨b,65536,e⟩ 32768 m.val=r at *
 (have kk1:=uN [4] hof;have kk2:=uN [0,1] hb;exact Wf4)
theorem put_Prefix(m:Mg)(hf:m.fits)(b:List UInt8)(e:Int)(ok:Pe.Ok ⟨b,65536,e⟩):AC Tryz.prog 170 [.p 0 0,mgV m,.p 2 0,.p 3 0] (Pe.obs ⟨b,65536,e⟩++[qo31,qo25]) fun y σ=>y=.t []∧σ=Pe.obs (Pe.blob ⟨b,65536,e⟩ 31 m.pre)++[qo31,qo25]:=by
 refine AC.wk Tryz.func170 ?_
 have hof:=of_Prefix (mgC m) rfl
 have hb:=blob_Put1 b m.pre 65536 e 31 ok (m_len m hf).2.2.1 (.inl (by decide))
 generalize Pe.blob ⟨b,65536,e⟩ 31 m.pre=r at *
 (have kk1:=uN [4] hof;have kk2:=uN [0,1] hb;exact Wf4)
theorem put_Found(m:Mg)(b:List UInt8)(e:Int)(ok:Pe.Ok ⟨b,65536,e⟩):AC Tryz.prog 176 [.p 0 0,mgV m,.p 2 0] (Pe.obs ⟨b,65536,e⟩++[qo26]) fun y σ=>y=.t []∧σ=Pe.obs (Pe.flag ⟨b,65536,e⟩ m.found)++[qo26]:=by
 refine AC.wk Tryz.func176 ?_
 have hof:=of_Found (mgC m) rfl
 have hb:=blob_PutFlag b 65536 e ok m.found (.inl (by decide))
 generalize Pe.flag ⟨b,65536,e⟩ m.found=r at *
 (have kk1:=uN [3] hof;have kk2:=uN [0,1] hb;exact Wd3)
theorem put_Dead(m:Mg)(b:List UInt8)(e:Int)(ok:Pe.Ok ⟨b,65536,e⟩):AC Tryz.prog 176 [.p 0 0,mgV m,.p 2 0] (Pe.obs ⟨b,65536,e⟩++[qo27]) fun y σ=>y=.t []∧σ=Pe.obs (Pe.flag ⟨b,65536,e⟩ m.dead)++[qo27]:=by
 refine AC.wk Tryz.func176 ?_
 have hof:=of_Dead (mgC m) rfl
 have hb:=blob_PutFlag b 65536 e ok m.dead (.inl (by decide))
 generalize Pe.flag ⟨b,65536,e⟩ m.dead=r at *
 (have kk1:=uN [3] hof;have kk2:=uN [0,1] hb;exact Wd3)
theorem put_ctx(m:Mg)(hf:m.fits)(b:List UInt8)(e:Int)(ok:Pe.Ok ⟨b,65536,e⟩):AC Tryz.prog 208 [.p 0 0,mgV m] (Pe.obs ⟨b,65536,e⟩) fun y σ=>y=.t []∧σ=Pe.obs (Pe.vec ⟨b,65536,e⟩ m.ctx):=by
 refine AC.wk Tryz.func208 ?_
 have hb:=vcode_Put1 b 65536 e ok m.ctx hf.2.2.2.2.2.1 (.inl (by decide))
 generalize Pe.vec ⟨b,65536,e⟩ m.ctx=r at *
 (have kk1:=uN [0,1] hb;exact Wd2)
theorem put_meta(m:Mg)(hf:m.fits)(b:List UInt8)(e:Int)(ok:Pe.Ok ⟨b,65536,e⟩):AC Tryz.prog 214 [.p 0 0,mgV m] (Pe.obs ⟨b,65536,e⟩) fun y σ=>y=.t []∧σ=Pe.obs (Pe.prs ⟨b,65536,e⟩ m.meta_):=by
 refine AC.wk Tryz.func214 ?_
 have hb:=pairs_Put b 65536 e ok m.meta_ hf.2.2.2.2.2.2.1 (.inl (by decide))
 generalize Pe.prs ⟨b,65536,e⟩ m.meta_=r at *
 (have kk1:=uN [0,1] hb;exact Wd2)
theorem put_code(m:Mg)(hf:m.fits)(b:List UInt8)(e:Int)(ok:Pe.Ok ⟨b,65536,e⟩):AC Tryz.prog 202 [.p 0 0,mgV m] (Pe.obs ⟨b,65536,e⟩) fun y σ=>y=.t []∧σ=Pe.obs (Pe.count ⟨b,65536,e⟩ 255 m.code):=by
 refine AC.wk Tryz.func202 ?_
 have hb:=blob_PutCount b 65536 e 255 ok m.code hf.2.2.2.2.2.2.2.2.2.2.2.1.2 (.inl (by decide))
 generalize Pe.count ⟨b,65536,e⟩ 255 m.code=r at *
 (have kk1:=uN [0,1] hb;exact Wd2)
theorem put_page(m:Mg)(hf:m.fits)(hc:m.page.check=0)(q:List UInt8)(hq:q.length≤1000):AC Tryz.prog 221 [.p 0 0,mgV m] (Pe.obs ⟨q,65536,0⟩) fun y σ=>y=.t []∧σ=Pe.obs ⟨q++epage m.page,65536,0⟩:=by
 refine AC.wk Tryz.func221 ?_
 have hb:=page_Put q hq m.page hf.2.2.2.2.2.2.2.2.2.1 hc
 generalize q++epage m.page=r at *
 (have kk1:=uN [0,1] hb;exact Wd2)
theorem put_ring(m:Mg)(hf:m.fits)(hc:Ring.check m.ring=0)(b:List UInt8)(e:Int)(ok:Pe.Ok ⟨b,65536,e⟩):AC Tryz.prog 229 [.p 0 0,mgV m] (Pe.obs ⟨b,65536,e⟩) fun y σ=>y=.t []∧σ=Pe.obs (Pe.text ⟨b,65536,e⟩ (ering m.ring)):=by
 refine AC.wk Tryz.func229 ?_
 have he:=ring_Encode m.ring hf.2.2.2.2.2.2.2.2.2.2.1
 rw [show ringe m.ring=(ering m.ring,0) by unfold ringe;rw [if_neg (by simpa using hc)]] at he
 have hfl:=pen_Fail b 65536 e 0
 rw [Pe.fail_zero] at hfl
 have hb:=pen_Text1 b (ering m.ring) 65536 e ok (.inl (by decide))
 generalize Pe.text ⟨b,65536,e⟩ (ering m.ring)=r at *
 generalize ering m.ring=t at *
 (have kk1:=uN [] he;have kk2:=uN [0,1] hfl;have kk3:=uN [0,1] hb;exact Wd2)
theorem msg_inner(b s:List UInt8)(e f:Int)(ok:Pe.Ok ⟨b,65536,e⟩)(hs:s.length≤9223372036854775807):AC Tryz.prog 188 [.p 0 0,sv (bs s),iv .i64 f] (Pe.obs ⟨b,65536,e⟩) fun y σ=>y=.t []∧σ=Pe.obs (Pe.blob (Pe.fail ⟨b,65536,e⟩ f) 65536 s):=by
 refine AC.wk Tryz.func188 ?_
 have hfl:=pen_Fail b 65536 e f
 have hm:(Pe.fail ⟨b,65536,e⟩ f).m=65536:=rfl
 have hk:Pe.Ok (Pe.fail ⟨b,65536,e⟩ f):=ok
 generalize Pe.fail ⟨b,65536,e⟩ f=z at *
 obtain ⟨b2,m2,e2⟩:=z
 simp only at hm
 subst hm
 have hb:=blob_Put1 b2 s 65536 e2 65536 hk hs (.inl (by decide))
 generalize Pe.blob ⟨b2,65536,e2⟩ 65536 s=r at *
 (have kk1:=uN [0,1] hfl;have kk2:=uN [0,1] hb;exact Wd2)
theorem put_object(m:Mg)(hf:m.fits)(hl:(obje m.obj).1.length≤9223372036854775807)(b:List UInt8)(e:Int)(ok:Pe.Ok ⟨b,65536,e⟩):AC Tryz.prog 195 [.p 0 0,mgV m] (Pe.obs ⟨b,65536,e⟩) fun y σ=>y=.t []∧σ=Pe.obs (Pe.blob (Pe.fail ⟨b,65536,e⟩ (obje m.obj).2) 65536 (obje m.obj).1):=by
 refine AC.wk Tryz.func195 ?_
 have he:=object_Encode m.obj hf.2.2.2.1
 generalize obje m.obj=z at *
 obtain ⟨s,f⟩:=z
 simp only at he hl
 have hi:=msg_inner b s e f ok hl
 generalize Pe.blob (Pe.fail ⟨b,65536,e⟩ f) 65536 s=r at *
 (have kk1:=uN [] he;have kk2:=uN [0,1] hi;exact Wd2)
theorem put_found_object(m:Mg)(hf:m.fits)(hl:(obje m.obj).1.length≤9223372036854775807)(b:List UInt8)(e:Int)(ok:Pe.Ok ⟨b,65536,e⟩):AC Tryz.prog 181 [.p 0 0,mgV m,.p 2 0] (Pe.obs ⟨b,65536,e⟩++[qo17]) fun y σ=>y=.t []∧σ=Pe.obs (if m.found=true then Pe.blob (Pe.fail ⟨b,65536,e⟩ (obje m.obj).2) 65536 (obje m.obj).1 else ⟨b,65536,e⟩)++[qo17]:=by
 refine AC.wk Tryz.func181 ?_
 have hc:=put_object m hf hl b e ok
 generalize Pe.blob (Pe.fail ⟨b,65536,e⟩ (obje m.obj).2) 65536 (obje m.obj).1=r at *
 cases h:m.found with
 | true=>
  rw [if_pos rfl]
  rw [show mgV m=mgV { m with found:=true } by rw [←h]] at hc
  (have kxs:=h;have kk1:=uN [0,1] hc;exact Wd3)
 | false=>
  rw [if_neg (by decide)]
  (have kxs:=h;exact Wd3)
theorem put_old(m:Mg)(hf:m.fits)(hl:(olde m.old).1.length≤9223372036854775807)(b:List UInt8)(e:Int)(ok:Pe.Ok ⟨b,65536,e⟩):AC Tryz.prog 186 [.p 0 0,mgV m] (Pe.obs ⟨b,65536,e⟩) fun y σ=>y=.t []∧σ=Pe.obs (Pe.blob (Pe.fail ⟨b,65536,e⟩ (olde m.old).2) 65536 (olde m.old).1):=by
 refine AC.wk Tryz.func186 ?_
 have he:=legacy_Encode m.old hf.2.2.2.2.1
 generalize olde m.old=z at *
 obtain ⟨s,f⟩:=z
 simp only at he hl
 have hi:=msg_inner b s e f ok hl
 generalize Pe.blob (Pe.fail ⟨b,65536,e⟩ f) 65536 s=r at *
 (have kk1:=uN [] he;have kk2:=uN [0,1] hi;exact Wd2)
theorem put_found_old(m:Mg)(hf:m.fits)(hl:(olde m.old).1.length≤9223372036854775807)(b:List UInt8)(e:Int)(ok:Pe.Ok ⟨b,65536,e⟩):AC Tryz.prog 181 [.p 0 0,mgV m,.p 2 0] (Pe.obs ⟨b,65536,e⟩++[qo18]) fun y σ=>y=.t []∧σ=Pe.obs (if m.found=true then Pe.blob (Pe.fail ⟨b,65536,e⟩ (olde m.old).2) 65536 (olde m.old).1 else ⟨b,65536,e⟩)++[qo18]:=by
 refine AC.wk Tryz.func181 ?_
 have hc:=put_old m hf hl b e ok
 generalize Pe.blob (Pe.fail ⟨b,65536,e⟩ (olde m.old).2) 65536 (olde m.old).1=r at *
 cases h:m.found with
 | true=>
  rw [if_pos rfl]
  rw [show mgV m=mgV { m with found:=true } by rw [←h]] at hc
  (have kxs:=h;have kk1:=uN [0,1] hc;exact Wd3)
 | false=>
  rw [if_neg (by decide)]
  (have kxs:=h;exact Wd3)
end Go.AW
