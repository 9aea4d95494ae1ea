/-
  pages that are written: the program's and the document's.
-/
import Derived.Test.YtdnfcckkdnkaiaaGreatU28
import Derived.Test.YtdnfcckkdnkaiaaGreatU43
set_option linter.unusedVariables false
set_option linter.unusedSimpArgs false
set_option maxHeartbeats 4000000
set_option maxRecDepth 10000
namespace Go.AW
open Go Go.Proofs
attribute [local irreducible] thenQ blockQ RetQ AL AW AC AOp
theorem ref20_Put(q:List UInt8)(hq:q.length≤1000)(g:Pg)(hf:g.fits)(hc:g.check=0):AC Tryz.prog 71 [.p 0 0,pgV g] [Pe.ro ⟨q,65536,0⟩] fun y σ=>y=.t []∧σ=[Pe.ro ⟨q++epage g,65536,0⟩]:=by
 refine AC.wk Tryz.func71 ?_
 have hck:=ref20_Check g hf
 rw [hc] at hck
 obtain ⟨p1,p2⟩:=Pg.check_parts hc
 have hbl:(eblob g.pre).length≤41:=by
  have:=vput_len10 (n:=g.pre.length) (by omega)
  unfold eblob;rw [List.length_append];omega
 have h1:=ref06_Put q g.pre 65536 0 ((31:Nat):Int) (pk_ok (by omega)) (by omega) (.inl (by decide))
 rw [pk_blob 31 p1 (by omega)] at h1
 have hl1:(q++eblob g.pre).length=q.length+(eblob g.pre).length:=List.length_append
 have h2:=ref06_PutFlag (q++eblob g.pre) 65536 0 (pk_ok (by omega)) g.leaf (.inl (by decide))
 rw [pk_flag g.leaf (by omega)] at h2
 have hl2:((q++eblob g.pre)++eflag g.leaf).length=q.length+(eblob g.pre).length+1:=by rw [List.length_append,hl1];rfl
 cases hlf:g.leaf with
 | true=>
  rw [if_pos hlf] at p2
  obtain ⟨r1,r2,r3⟩:=p2
  have hvl:=vput_len10 (n:=g.items.length) (by omega)
  have h3:=ref06_PutCount ((q++eblob g.pre)++eflag g.leaf) 65536 0 ((8:Nat):Int) (pk_ok (by omega)) g.items.length (by omega) (.inl (by decide))
  rw [pk_count 8 r2 (by omega)] at h3
  have h30:((q++eblob g.pre)++eflag g.leaf)++vput g.items.length=ptexti q g 0:=by unfold ptexti;rw [hlf];simp
  rw [h30] at h3
  rw [hlf] at h2 h3
  have hlen:=ptexti_len (q:=q) hlf hc
  have hall:=fun i=>ptexti_all (q:=q) (g:=g) (i:=i) hlf
  have hnx:=fun r x i=>@ptexti_next q g r x i
  rw [←hall g.items.length (Nat.le_refl _)]
  have hf5:=hf.2.2.2
  generalize hpt:ptexti q g=pt at *
  clear h30 hall hpt hf
  obtain ⟨pre,leaf,slots,items⟩:=g
  simp only at hlf hck h1 h2 h3 hlen hnx r1 r2 r3 hf5 ⊢
  subst hlf
  generalize (q++eblob pre)++eflag true=q2 at *
  generalize q++eblob pre=q1 at *
  focus (have kk1:=uN [] hck;have kk2:=uN [0] h1;have kk3:=uN [0] h2;have kk4:=uN [0] h3;(repeat' (first|refine G ?_|refine AW.ret ?_|(refine GC ?_ ?_<;>intro h<;>(try simp only [hsB] at h)<;>try exact xf)|(refine GL ?_ ?_<;>intro h<;>(try simp only [hsN] at h)<;>(try simp only [h])<;>(try simp only [hsB] at h)<;>try exact xf)|fail));all_goals clear kk1 kk2 kk3 kk4)
  all_goals first|exact xg|skip
  refine AW.rounds [0,3,5] (fun i:Nat=>[(0,.p 0 0),(3,.p 1 0),(5,iv .i64 i)]) (fun i=>[Pe.ro ⟨pt i,65536,0⟩,.box 35 [sv (bs pre),bv true,.d (.l slots.length (slsD slots)),.d (.l items.length (itsD items))]])
   (fun i=>i≤items.length) (fun i=>items.length-i) 0 (Nat.zero_le _) rfl rfl (fun _ _=>by show 1≤2;decide) (fun _ _=>rfl) (fun _ _=>rfl) ?_
  intro i hi J hJ
  by_cases hil:i<items.length
  case neg=>
   have hi2:i=items.length:=by omega
   subst hi2
   exact Wd1
  obtain ⟨x,r,hd⟩:=next_at hil
  have hcd:=its_drop hd
  obtain ⟨g1,g2⟩:=itcheck_len _ _ _ r3 x (next_mem hd)
  have hn1:=hnx r x i hd
  have hl9:=hlen i
  have ht:=ref02_Text (pt i) x.1 65536 0 (pk_ok (by omega)) (.inl (by decide)) (by omega)
  rw [pk_text (by omega)] at ht
  have hle:(pt i++x.1).length=(pt i).length+x.1.length:=List.length_append
  have hu:=ref02_Text (pt i++x.1) x.2 65536 0 (pk_ok (by omega)) (.inl (by decide)) (by omega)
  rw [pk_text (by omega),←hn1] at hu
  have go:∀ T' σ',keepT T' [0,3,5]=[(0,.p 0 0),(3,.p 1 0),(5,iv .i64 ((i:Int)+1))]→σ'.take 2=[Pe.ro ⟨pt (i+1),65536,0⟩,.box 35 [sv (bs pre),bv true,.d (.l slots.length (slsD slots)),.d (.l items.length (itsD items))]]→J T' σ':=fun T' σ' g1 g2=>
   hJ (i+1) T' σ' (by omega) hil g1 g2
  clear hJ hnx hn1
  generalize pt (i+1)=b2 at *
  generalize pt i++x.1=b3 at *
  generalize pt i=b1 at *
  (have kxs:=hcd;have kk1:=uN [0] ht;have kk2:=uN [0] hu;exact Wdg)
 | false=>
  rw [if_neg (by rw [hlf];decide)] at p2
  obtain ⟨r1,r2,r3,r4⟩:=p2
  have hvl:=vput_len10 (n:=g.slots.length) (by omega)
  have h3:=ref06_PutCount ((q++eblob g.pre)++eflag g.leaf) 65536 0 ((256:Nat):Int) (pk_ok (by omega)) g.slots.length (by omega) (.inl (by decide))
  rw [pk_count 256 r2 (by omega)] at h3
  have h30:((q++eblob g.pre)++eflag g.leaf)++vput g.slots.length=ptexts q g 0:=by unfold ptexts;rw [hlf];simp
  rw [h30] at h3
  rw [hlf] at h2 h3
  have hlen:=ptexts_len (q:=q) hlf hc
  have hall:=fun i=>ptexts_all (q:=q) (g:=g) (i:=i) hlf
  have hnx:=fun r x i=>@ptexts_next q g r x i
  rw [←hall g.slots.length (Nat.le_refl _)]
  have hf3:=hf.2.1.2
  generalize hpt:ptexts q g=pt at *
  clear h30 hall hpt hf
  obtain ⟨pre,leaf,slots,items⟩:=g
  simp only at hlf hck h1 h2 h3 hlen hnx r1 r2 r3 r4 hf3 ⊢
  subst hlf
  generalize (q++eblob pre)++eflag false=q2 at *
  generalize q++eblob pre=q1 at *
  focus (have kk1:=uN [] hck;have kk2:=uN [0] h1;have kk3:=uN [0] h2;have kk4:=uN [0] h3;(repeat' (first|refine G ?_|refine AW.ret ?_|(refine GC ?_ ?_<;>intro h<;>(try simp only [hsB] at h)<;>try exact xf)|(refine GL ?_ ?_<;>intro h<;>(try simp only [hsN] at h)<;>(try simp only [h])<;>(try simp only [hsB] at h)<;>try exact xf)|fail));all_goals clear kk1 kk2 kk3 kk4)
  all_goals first|exact xg|skip
  refine AW.rounds [0,3,6] (fun i:Nat=>[(0,.p 0 0),(3,.p 1 0),(6,iv .i64 i)]) (fun i=>[Pe.ro ⟨pt i,65536,0⟩,.box 35 [sv (bs pre),bv false,.d (.l slots.length (slsD slots)),.d (.l items.length (itsD items))]])
   (fun i=>i≤slots.length) (fun i=>slots.length-i) 0 (Nat.zero_le _) rfl rfl (fun _ _=>by show 1≤2;decide) (fun _ _=>rfl) (fun _ _=>rfl) ?_
  intro i hi J hJ
  by_cases hil:i<slots.length
  case neg=>
   have hi2:i=slots.length:=by omega
   subst hi2
   exact Wd1
  obtain ⟨x,r,hd⟩:=next_at hil
  have hcd:=sls_drop hd
  have g1:=slcheck_len _ _ r4 x (next_mem hd)
  obtain ⟨g2,g3⟩:=hf3 x (next_mem hd)
  have hn1:=hnx r x i hd
  have hl9:=hlen i
  have hb:=ref02_Byte (pt i) 65536 0 (pk_ok (by omega)) (.inl (by decide)) (UInt8.ofNat x.1)
  rw [u8_ofNat g2,pk_text (by simp only [List.length_cons,List.length_nil];omega)] at hb
  have hb:AC Tryz.prog 134 [.p 0 0,iv .u8 (x.1:Nat)] [Pe.ro ⟨pt i,65536,0⟩] fun y σ=>y=.t []∧σ=[Pe.ro ⟨pt i++estt x.1,65536,0⟩]:=hb
  have hle:(pt i++estt x.1).length=(pt i).length+1:=by rw [List.length_append];rfl
  have ht:=ref02_Text (pt i++estt x.1) x.2 65536 0 (pk_ok (by omega)) (.inl (by decide)) (by omega)
  rw [pk_text (by omega),←hn1] at ht
  have go:∀ T' σ',keepT T' [0,3,6]=[(0,.p 0 0),(3,.p 1 0),(6,iv .i64 ((i:Int)+1))]→σ'.take 2=[Pe.ro ⟨pt (i+1),65536,0⟩,.box 35 [sv (bs pre),bv false,.d (.l slots.length (slsD slots)),.d (.l items.length (itsD items))]]→J T' σ':=fun T' σ' g1 g2=>
   hJ (i+1) T' σ' (by omega) hil g1 g2
  clear hJ hnx hn1
  generalize pt (i+1)=b2 at *
  generalize pt i++estt x.1=b3 at *
  generalize pt i=b1 at *
  (have kxs:=hcd;have kk1:=uN [0] hb;have kk2:=uN [0] ht;exact Wdg)
theorem enc8_low(t:Nat){i:Nat}(hi:i<8):[UInt8.ofNat (t / 256^i%256)]++(enc8 t).drop (8-i)=(enc8 t).drop (8-(i+1)):=by
 have hm:∀ n:Nat,UInt8.ofNat (n%256)=UInt8.ofNat n:=fun n=>by
  rw [←UInt8.toNat_inj,UInt8.toNat_ofNat',UInt8.toNat_ofNat']
  omega
 rw [hm]
 have hc:i=0∨i=1∨i=2∨i=3∨i=4∨i=5∨i=6∨i=7:=by omega
 rcases hc with rfl|rfl|rfl|rfl|rfl|rfl|rfl|rfl
 ·rw [Nat.pow_zero,Nat.div_one];rfl
 all_goals rfl
theorem ref04_bytes(t:Nat)(ht:t<18446744073709551616):AC Tryz.prog 263 [iv .i64 8,iv .u64 (t:Nat)] [] fun x σ=>x=.t [sv (bs (enc8 t)),iv .u64 0]∧σ=[]:=by
 refine AC.wk Tryz.func263 ?_
 focus ((repeat' (first|refine G ?_|refine AW.ret ?_|(refine GC ?_ ?_<;>intro h<;>(try simp only [hsB] at h)<;>try exact xf)|(refine GL ?_ ?_<;>intro h<;>(try simp only [hsN] at h)<;>(try simp only [h])<;>(try simp only [hsB] at h)<;>try exact xf)|fail)))
 refine AW.rounds [0,1,4,5,6,7] (fun i:Nat=>[(0,iv .i64 8),(1,iv .u64 ((t / 256^i:Nat):Int)),(4,sv (bs [])),(5,iv .u64 0),(6,sv (bs ((enc8 t).drop (8-i)))),(7,iv .i64 i)]) (fun _=>[])
  (fun i=>i≤8) (fun i=>8-i) 0 (Nat.zero_le _) (by rw [Nat.pow_zero,Nat.div_one];rfl) rfl (fun _ _=>Nat.zero_le _) (fun _ _=>rfl) (fun _ _=>rfl) ?_
 intro i hi J hJ
 by_cases hil:i<8
 ·have hlow:=enc8_low t hil
  have hsl:((enc8 t).drop (8-i)).length≤8:=by rw [List.length_drop];exact Nat.sub_le _ _
  have hdd:t / 256^(i+1)=t / 256^i / 256:=by rw [Nat.pow_succ,Nat.div_div_eq_div_mul]
  have hnl:t / 256^i<18446744073709551616:=Nat.lt_of_le_of_lt (Nat.div_le_self _ _) ht
  have go:∀ T' σ',keepT T' [0,1,4,5,6,7]=[(0,iv .i64 8),(1,iv .u64 ((t / 256^i / 256:Nat):Int)),(4,sv (bs [])),(5,iv .u64 0),(6,sv (bs ([UInt8.ofNat (t / 256^i%256)]++(enc8 t).drop (8-i)))),(7,iv .i64 ((i:Int)+1))]→J T' σ':=fun T' σ' g1=>
   hJ (i+1) T' σ' (by omega) hil (by rw [hdd,←hlow];exact g1) rfl
  clear hJ hdd hlow
  generalize (enc8 t).drop (8-i)=s at *
  generalize t / 256^i=n at *
  have hrem:IntKind.wrap .u8 ((n:Int).tmod 256)=((n%256:Nat):Int):=by
   rw [show (n:Int).tmod 256=((n%256:Nat):Int) from rfl]
   exact wrap_u8 (by omega) (by omega)
  have hquo:IntKind.wrap .u64 ((n:Int).tdiv 256)=((n / 256:Nat):Int):=by
   rw [show (n:Int).tdiv 256=((n / 256:Nat):Int) from rfl]
   exact wrap_u64 (by omega) (by omega)
  focus (have kxs:=And.intro hrem hquo;(repeat' (first|refine G ?_|refine AW.ret ?_|(refine GC ?_ ?_<;>intro h<;>(try simp only [hsB] at h)<;>try exact xf)|(refine GL ?_ ?_<;>intro h<;>(try simp only [hsN] at h)<;>(try simp only [h])<;>(try simp only [hsB] at h)<;>try exact xf)|fail));all_goals clear kxs)
  all_goals first|exact xg|skip
  refine AL.one (by decide) fun Kr hr=>?_
  (try simp only [ao,List.map_cons,List.map_nil]);simp (disch:=omega) only [go_sem]
  refine ⟨[((n%256:Nat):Int)],rfl,rfl,?_⟩
  simp only [strOfNums_one,Int.toNat_natCast]
  refine hr _ _ ?_
  clear hr Kr
  focus (have kxs:=And.intro hrem hquo;(repeat' (first|refine G ?_|refine AW.ret ?_|(refine GC ?_ ?_<;>intro h<;>(try simp only [hsB] at h)<;>try exact xf)|(refine GL ?_ ?_<;>intro h<;>(try simp only [hsN] at h)<;>(try simp only [h])<;>(try simp only [hsB] at h)<;>try exact xf)|fail));all_goals clear kxs)
  all_goals first|exact go _ _ rfl|exact xg
 ·have hi2:i=8:=by omega
  subst hi2
  have h0:t / 256^8=0:=Nat.div_eq_of_lt (by omega)
  rw [h0]
  focus ((repeat' (first|refine G ?_|refine AW.ret ?_|(refine GC ?_ ?_<;>intro h<;>(try simp only [hsB] at h)<;>try exact xf)|(refine GL ?_ ?_<;>intro h<;>(try simp only [hsN] at h)<;>(try simp only [h])<;>(try simp only [hsB] at h)<;>try exact xf)|fail)))
  all_goals first|exact RetQ.fr 0|exact RetQ.fn 0|(exfalso;simp_all;done)
theorem ref04_Put(b:List UInt8)(m:Int)(t:Nat)(ht:t<18446744073709551616)(hm:((b.length+8:Nat):Int)≤m)(hm2:m≤140737488355328) :
  AC Tryz.prog 238 [.p 0 0,iv .i64 8,iv .u64 (t:Nat)] [Pe.ro ⟨b,m,0⟩] fun x σ=>x=.t []∧σ=[Pe.ro ⟨b++enc8 t,m,0⟩]:=by
 refine AC.wk Tryz.func238 ?_
 have hpo:Pe.Ok ⟨b,m,0⟩:=⟨by show (0:Int)≤m;omega,by show m≤_;omega,by show b.length≤_;omega⟩
 have htx:=ref02_Text b (enc8 t) m 0 hpo (.inl hm2) (by show 8≤_;decide)
 have hte:Pe.text ⟨b,m,0⟩ (enc8 t)=⟨b++enc8 t,m,0⟩:=by
  unfold Pe.text
  rw [if_neg (by simp),if_neg (by show ¬ ((8:Nat):Int)>m-(b.length:Int);omega)]
 rw [hte] at htx
 have hby:=ref04_bytes t ht
 generalize enc8 t=s at *
 focus (have kk1:=uN [] (ref04_Width);have kk2:=uN [] (hby);have kk3:=uN [0] (htx);(repeat' (first|refine G ?_|refine AW.ret ?_|(refine GC ?_ ?_<;>intro h<;>(try simp only [hsB] at h)<;>try exact xf)|(refine GL ?_ ?_<;>intro h<;>(try simp only [hsN] at h)<;>(try simp only [h])<;>(try simp only [hsB] at h)<;>try exact xf)|fail));all_goals clear kk1 kk2 kk3)
 all_goals first|exact RetQ.fr 1|exact RetQ.fn 1|(exfalso;simp_all;done)
theorem ref22_Rest(x:Mb)(hst:x.st<256)(ht:x.toks.length≤16)(hf:∀ t ∈ x.toks,t<18446744073709551616) :
  AC Tryz.prog 136 [mbV x] [] fun y σ=>y=sv (bs (estt x.st++etoks x.toks))∧σ=[]:=by
 refine AC.wk Tryz.func136 ?_
 obtain ⟨nm,ep,st,tk⟩:=x
 simp only at hst ht hf ⊢
 have hvl:=vput_len10 (n:=tk.length) (by omega)
 have hnew:=@ref02_New 65536
 rw [if_neg (by decide)] at hnew
 have h1:=ref02_Byte [] 65536 0 (pe_ok (by decide)) (.inl (by decide)) (UInt8.ofNat st)
 rw [u8_ofNat hst,pe_text (by simp only [List.length_cons,List.length_nil];omega),List.nil_append] at h1
 have h2:=ref06_PutCount [UInt8.ofNat st] 65536 0 16 (pe_ok (by simp only [List.length_cons,List.length_nil];omega)) tk.length (by omega) (.inl (by decide))
 rw [show Pe.count ⟨[UInt8.ofNat st],65536,0⟩ 16 tk.length=_ from pe_count 16 ht (by simp only [List.length_cons,List.length_nil];omega)] at h2
 have e:([UInt8.ofNat st]++vput tk.length)++(tk.map enc8).flatten=estt st++etoks tk:=by unfold estt etoks;simp only [List.append_assoc]
 rw [←e]
 have hl2:([UInt8.ofNat st]++vput tk.length).length=1+(vput tk.length).length:=by simp only [List.length_append,List.length_cons,List.length_nil]
 generalize [UInt8.ofNat st]++vput tk.length=b at *
 generalize [UInt8.ofNat st]=b1 at *
 focus (have kk1:=uN [] (hnew);have kk2:=uN [1] (h1);have kk3:=uN [1] (h2);(repeat' (first|refine G ?_|refine AW.ret ?_|(refine GC ?_ ?_<;>intro h<;>(try simp only [hsB] at h)<;>try exact xf)|(refine GL ?_ ?_<;>intro h<;>(try simp only [hsN] at h)<;>(try simp only [h])<;>(try simp only [hsB] at h)<;>try exact xf)|fail));all_goals clear kk1 kk2 kk3)
 all_goals first|exact xg|skip
 refine AW.rounds [1,2,3,4] (fun i:Nat=>[(1,.p 0 0),(2,sv (bs [])),(3,.p 1 0),(4,iv .i64 i)]) (fun i=>[.box 183 [sv (bs nm),iv .u64 ep,iv .u8 st,.d (.l tk.length (toksD tk))],Pe.ro ⟨b++((tk.take i).map enc8).flatten,65536,0⟩])
  (fun i=>i≤tk.length) (fun i=>tk.length-i) 0 (Nat.zero_le _) rfl (by simp) (fun _ _=>Nat.le_of_ble_eq_true rfl) (fun _ _=>rfl) (fun _ _=>rfl) ?_
 intro i hi J hJ
 by_cases hil:i<tk.length
 case neg=>
  have hi2:i=tk.length:=by omega
  rw [hi2,List.take_length]
  focus ((repeat' (first|refine G ?_|refine AW.ret ?_|(refine GC ?_ ?_<;>intro h<;>(try simp only [hsB] at h)<;>try exact xf)|(refine GL ?_ ?_<;>intro h<;>(try simp only [hsN] at h)<;>(try simp only [h])<;>(try simp only [hsB] at h)<;>try exact xf)|fail)))
  all_goals first|exact RetQ.fr 0|exact RetQ.fn 0|exact xg
 obtain ⟨t,r,hd⟩:=next_at hil
 have hcd:=toks_drop hd
 have ht2:=hf t (next_mem hd)
 have hq:b++((tk.take (i+1)).map enc8).flatten=(b++((tk.take i).map enc8).flatten)++enc8 t:=by
  rw [next_take hd,List.map_append,List.flatten_append,List.append_assoc];simp
 have hql:(b++((tk.take i).map enc8).flatten).length=b.length+i*8:=by
  rw [List.length_append,enc8_flat,List.length_take,Nat.min_eq_left (by omega)]
 have hpt:=ref04_Put (b++((tk.take i).map enc8).flatten) 65536 t ht2 (by omega) (by decide)
 have go:∀ T' σ',keepT T' [1,2,3,4]=[(1,.p 0 0),(2,sv (bs [])),(3,.p 1 0),(4,iv .i64 ((i:Int)+1))]→σ'.take 2=[.box 183 [sv (bs nm),iv .u64 ep,iv .u8 st,.d (.l tk.length (toksD tk))],Pe.ro ⟨(b++((tk.take i).map enc8).flatten)++enc8 t,65536,0⟩]→J T' σ':=fun T' σ' g1 g2=>
  hJ (i+1) T' σ' (by omega) hil g1 (by rw [hq];exact g2)
 clear hJ hq
 generalize (b++((tk.take i).map enc8).flatten)++enc8 t=b5 at *
 generalize b++((tk.take i).map enc8).flatten=b4 at *
 focus (have kxs:=And.intro hcd @Nat.mul_one;have kk1:=uN [1] (hpt);(repeat' (first|refine G ?_|refine AW.ret ?_|(refine GC ?_ ?_<;>intro h<;>(try simp only [hsB] at h)<;>try exact xf)|(refine GL ?_ ?_<;>intro h<;>(try simp only [hsN] at h)<;>(try simp only [h])<;>(try simp only [hsB] at h)<;>try exact xf)|fail));all_goals clear kxs kk1)
 all_goals first|exact go _ _ rfl rfl|exact xg
theorem ref22_Encode(l:Ring)(hf:l.fits):AC Tryz.prog 72 [.d (.l l.length (ringD l))] [] fun x σ=>x=.t [sv (bs (ringe l).1),iv .i64 (ringe l).2]∧σ=[]:=by
 refine AC.wk Tryz.func72 ?_
 have hck:=ref22_Check l hf
 unfold ringe
 by_cases hc:Ring.check l=0
 case neg=>
  rw [if_pos hc]
  generalize Ring.check l=f at *
  focus (have kk1:=uN [] (hck);(repeat' (first|refine G ?_|refine AW.ret ?_|(refine GC ?_ ?_<;>intro h<;>(try simp only [hsB] at h)<;>try exact xf)|(refine GL ?_ ?_<;>intro h<;>(try simp only [hsN] at h)<;>(try simp only [h])<;>(try simp only [hsB] at h)<;>try exact xf)|fail));all_goals clear kk1)
  all_goals first|exact RetQ.fr 0|exact RetQ.fn 0|exact xg
 rw [if_neg (by simpa using hc)]
 rw [hc] at hck
 obtain ⟨p1,p2⟩:=Ring.check_parts hc
 have hg:gring l:=⟨hc,fun x hx=>(hf.2 x hx).1⟩
 have hel:=ering_len hg
 have hnew:=@ref02_New 65536
 rw [if_neg (by decide)] at hnew
 have hvl:=vput_len10 (n:=l.length) (by omega)
 have hcnt:=ref06_PutCount [] 65536 0 32 (pe_ok (by decide)) l.length (by omega) (.inl (by decide))
 rw [show Pe.count ⟨[],65536,0⟩ 32 l.length=_ from pe_count 32 p1 (by simp only [List.length_nil];omega),List.nil_append] at hcnt
 have hr0:vput l.length=rtext l 0:=by unfold rtext;simp
 rw [hr0] at hcnt
 have hrl:=rtext_len l
 focus (have kk1:=uN [] (hck);have kk2:=uN [] (hnew);have kk3:=uN [0] (hcnt);(repeat' (first|refine G ?_|refine AW.ret ?_|(refine GC ?_ ?_<;>intro h<;>(try simp only [hsB] at h)<;>try exact xf)|(refine GL ?_ ?_<;>intro h<;>(try simp only [hsN] at h)<;>(try simp only [h])<;>(try simp only [hsB] at h)<;>try exact xf)|fail));all_goals clear kk1 kk2 kk3)
 all_goals first|exact xg|skip
 refine AW.rounds [0,2,3,5,6] (fun i:Nat=>[(0,.d (.l l.length (ringD l))),(2,sv (bs [])),(3,iv .i64 0),(5,.p 0 0),(6,iv .i64 i)]) (fun i=>[Pe.ro ⟨rtext l i,65536,0⟩])
  (fun i=>i≤l.length) (fun i=>l.length-i) 0 (Nat.zero_le _) rfl rfl (fun _ _=>Nat.le_of_ble_eq_true rfl) (fun _ _=>rfl) (fun _ _=>rfl) ?_
 intro i hi J hJ
 by_cases hil:i<l.length
 case neg=>
  rw [←rtext_all l (i:=i) (by omega)]
  generalize rtext l i=q at *
  focus ((repeat' (first|refine G ?_|refine AW.ret ?_|(refine GC ?_ ?_<;>intro h<;>(try simp only [hsB] at h)<;>try exact xf)|(refine GL ?_ ?_<;>intro h<;>(try simp only [hsN] at h)<;>(try simp only [h])<;>(try simp only [hsB] at h)<;>try exact xf)|fail)))
  all_goals first|exact RetQ.fr 0|exact RetQ.fn 0|exact xg
 obtain ⟨x,r,hd⟩:=next_at hil
 have hcd:=ring_drop hd
 obtain ⟨q1,q2,q3,q4,q5,q6⟩:=p2 x (next_mem hd)
 obtain ⟨⟨f1,f2,f3⟩,f4,f5⟩:=hf.2 x (next_mem hd)
 have hnx:=rtext_next hd
 have go:∀ T' σ',keepT T' [0,2,3,5,6]=[(0,.d (.l l.length (ringD l))),(2,sv (bs [])),(3,iv .i64 0),(5,.p 0 0),(6,iv .i64 ((i:Int)+1))]→σ'.take 1=[Pe.ro ⟨rtext l i++emem x,65536,0⟩]→J T' σ':=fun T' σ' g1 g2=>
  hJ (i+1) T' σ' (by omega) hil g1 (by rw [hnx];exact g2)
 have hlen:(rtext l i).length+(emem x).length≤7000:=by have:=hrl (i+1);rw [hnx,List.length_append] at this;omega
 clear hJ hnx hrl
 have hml:(emem x).length=(eblob x.name).length+((vput x.ep).length+(estt x.st++etoks x.toks).length):=by unfold emem;simp only [List.length_append]
 generalize rtext l i=q at *
 have h1:=ref06_Put q x.name 65536 0 32 (pe_ok (by omega)) (by omega) (.inl (by decide))
 rw [pe_blob q1 (by omega)] at h1
 have hl1:(q++eblob x.name).length=q.length+(eblob x.name).length:=List.length_append
 have h2:=ref03_Put (q++eblob x.name) 65536 0 (pe_ok (by omega)) x.ep f1 (.inl (by decide))
 rw [pe_text (by omega)] at h2
 have hl2:((q++eblob x.name)++vput x.ep).length=q.length+(eblob x.name).length+(vput x.ep).length:=by simp only [List.length_append]
 have h3:=ref22_Rest x f2 q5 f3
 have h4:=ref02_Text ((q++eblob x.name)++vput x.ep) (estt x.st++etoks x.toks) 65536 0 (pe_ok (by omega)) (.inl (by decide)) (by omega)
 rw [pe_text (by omega)] at h4
 have e:((q++eblob x.name)++vput x.ep)++(estt x.st++etoks x.toks)=q++emem x:=by unfold emem;simp only [List.append_assoc]
 rw [e] at h4
 generalize q++emem x=b3 at *
 generalize (q++eblob x.name)++vput x.ep=b2 at *
 generalize q++eblob x.name=b1 at *
 generalize estt x.st++etoks x.toks=rs at *
 focus (have kxs:=hcd;have kk1:=uN [0] (h1);have kk2:=uN [0] (h2);have kk3:=uN [] (h3);have kk4:=uN [0] (h4);(repeat' (first|refine G ?_|refine AW.ret ?_|(refine GC ?_ ?_<;>intro h<;>(try simp only [hsB] at h)<;>try exact xf)|(refine GL ?_ ?_<;>intro h<;>(try simp only [hsN] at h)<;>(try simp only [h])<;>(try simp only [hsB] at h)<;>try exact xf)|fail));all_goals clear kxs kk1 kk2 kk3 kk4)
 all_goals first|exact go _ _ rfl rfl|exact xg
end Go.AW
