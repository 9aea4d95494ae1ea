/-
  pages that are written: the program's and the document's.
-/
import Derived.Test.YtdnfcckkdnkaiaaGreatU19
import Derived.Test.YtdnfcckkdnkaiaaGreatU25
set_option linter.unusedVariables false
set_option linter.unusedSimpArgs false
set_option maxHeartbeats 4000000
set_option maxRecDepth 10000
namespace Go.AW
open Go Go.Proofs
attribute [local irreducible] thenQ blockQ RetQ AL AW AC AOp
theorem pk_blob{b s:List UInt8}(n:Nat)(hs:s.length≤n)(hm:b.length+(eblob s).length≤65536):Pe.blob ⟨b,65536,0⟩ (n:Int) s=⟨b++eblob s,65536,0⟩:=
 (pens_blob (n:Int)).fit ⟨b,65536,0⟩ s rfl hs (by show ((b.length+(eblob s).length:Nat):Int)≤(65536:Int);omega)
theorem pk_flag{b:List UInt8}(t:Bool)(hm:b.length+1≤65536):Pe.flag ⟨b,65536,0⟩ t=⟨b++eflag t,65536,0⟩:=
 pens_flag.fit ⟨b,65536,0⟩ t rfl trivial (by show ((b.length+(eflag t).length:Nat):Int)≤(65536:Int);unfold eflag;simp only [List.length_cons,List.length_nil];omega)
theorem pk_count{b:List UInt8}{n:Nat}(k:Nat)(hs:n≤k)(hm:b.length+(vput n).length≤65536):Pe.count ⟨b,65536,0⟩ (k:Int) n=⟨b++vput n,65536,0⟩:=
 (pens_count (k:Int)).fit ⟨b,65536,0⟩ n rfl (by simpa using hs) (by show ((b.length+(vput n).length:Nat):Int)≤(65536:Int);omega)
theorem pk_text{b s:List UInt8}(hm:b.length+s.length≤65536):Pe.text ⟨b,65536,0⟩ s=⟨b++s,65536,0⟩:=
 pens_text.fit ⟨b,65536,0⟩ s rfl trivial (by show ((b.length+s.length:Nat):Int)≤(65536:Int);omega)
theorem pk_ok{b:List UInt8}(h:b.length≤65536):Pe.Ok ⟨b,65536,0⟩:=⟨by show (0:Int)≤65536;decide,by show (65536:Int)≤_;decide,by show b.length≤_;omega⟩
theorem ptexti_next{q:List UInt8}{g:Pg}{r:List It}{x:It}{i:Nat}(h:g.items.drop i=x::r):ptexti q g (i+1)=(ptexti q g i++x.1)++x.2:=by
 unfold ptexti
 rw [next_take h,List.map_append,List.flatten_append]
 simp [eit,List.append_assoc]
theorem ptexts_next{q:List UInt8}{g:Pg}{r:List Sl}{x:Sl}{i:Nat}(h:g.slots.drop i=x::r):ptexts q g (i+1)=(ptexts q g i++estt x.1)++x.2:=by
 unfold ptexts
 rw [next_take h,List.map_append,List.flatten_append]
 simp [esl,List.append_assoc]
theorem ptexti_all{q:List UInt8}{g:Pg}{i:Nat}(hl:g.leaf=true)(h:g.items.length≤i):ptexti q g i=q++epage g:=by
 unfold ptexti epage ebody eits
 rw [hl,List.take_of_length_le h,if_pos rfl]
 simp only [List.append_assoc]
theorem ptexts_all{q:List UInt8}{g:Pg}{i:Nat}(hl:g.leaf=false)(h:g.slots.length≤i):ptexts q g i=q++epage g:=by
 unfold ptexts epage ebody esls
 rw [hl,List.take_of_length_le h,if_neg (by decide)]
 simp only [List.append_assoc]
theorem ptexti_len{q:List UInt8}{g:Pg}(hl:g.leaf=true)(hc:g.check=0)(i:Nat):(ptexti q g i).length≤q.length+9000:=by
 have h1:=epage_len hc
 have h2:=ptexti_all (q:=q) (i:=g.items.length) hl (Nat.le_refl _)
 have h3:ptexti q g g.items.length=ptexti q g i++((g.items.drop i).map eit).flatten:=by
  have e:(g.items.map eit).flatten=((g.items.take i).map eit).flatten++((g.items.drop i).map eit).flatten:=by rw [←List.flatten_append,←List.map_append,List.take_append_drop]
  unfold ptexti
  rw [List.take_length,e]
  simp only [List.append_assoc]
 have h4:=congrArg List.length (h3.symm.trans h2)
 rw [List.length_append,List.length_append] at h4
 omega
theorem ptexts_len{q:List UInt8}{g:Pg}(hl:g.leaf=false)(hc:g.check=0)(i:Nat):(ptexts q g i).length≤q.length+9000:=by
 have h1:=epage_len hc
 have h2:=ptexts_all (q:=q) (i:=g.slots.length) hl (Nat.le_refl _)
 have h3:ptexts q g g.slots.length=ptexts q g i++((g.slots.drop i).map esl).flatten:=by
  have e:(g.slots.map esl).flatten=((g.slots.take i).map esl).flatten++((g.slots.drop i).map esl).flatten:=by rw [←List.flatten_append,←List.map_append,List.take_append_drop]
  unfold ptexts
  rw [List.take_length,e]
  simp only [List.append_assoc]
 have h4:=congrArg List.length (h3.symm.trans h2)
 rw [List.length_append,List.length_append] at h4
 omega
theorem page_Put(q:List UInt8)(hq:q.length≤1000)(g:Pg)(hf:g.fits)(hc:g.check=0):AC Tryz.prog 222 [.p 0 0,pgV g] (Pe.obs ⟨q,65536,0⟩) fun y σ=>y=.t []∧σ=Pe.obs ⟨q++epage g,65536,0⟩:=by
 refine AC.wk Tryz.func222 ?_
 have hck:=page_Check g hf
 rw [hc] at hck
 obtain ⟨p1,p2⟩:=Pg.check_parts hc
 have hbl:(eblob g.pre).length≤41:=by
  have:=vput_len10 (n:=g.pre.length) (by omega)
  unfold eblob;rw [List.length_append];omega
 have h1:=blob_Put1 q g.pre 65536 0 ((31:Nat):Int) (pk_ok (by omega)) (by omega) (.inl (by decide))
 rw [pk_blob 31 p1 (by omega)] at h1
 have hl1:(q++eblob g.pre).length=q.length+(eblob g.pre).length:=List.length_append
 have h2:=blob_PutFlag (q++eblob g.pre) 65536 0 (pk_ok (by omega)) g.leaf (.inl (by decide))
 rw [pk_flag g.leaf (by omega)] at h2
 have hl2:((q++eblob g.pre)++eflag g.leaf).length=q.length+(eblob g.pre).length+1:=by rw [List.length_append,hl1];rfl
 cases hlf:g.leaf with
 | true=>
  rw [if_pos hlf] at p2
  obtain ⟨r1,r2,r3⟩:=p2
  have hvl:=vput_len10 (n:=g.items.length) (by omega)
  have h3:=blob_PutCount ((q++eblob g.pre)++eflag g.leaf) 65536 0 ((8:Nat):Int) (pk_ok (by omega)) g.items.length (by omega) (.inl (by decide))
  rw [pk_count 8 r2 (by omega)] at h3
  have h30:((q++eblob g.pre)++eflag g.leaf)++vput g.items.length=ptexti q g 0:=by unfold ptexti;rw [hlf];simp
  rw [h30] at h3
  rw [hlf] at h2 h3
  have hlen:=ptexti_len (q:=q) hlf hc
  have hall:=fun i=>ptexti_all (q:=q) (g:=g) (i:=i) hlf
  have hnx:=fun r x i=>@ptexti_next q g r x i
  rw [←hall g.items.length (Nat.le_refl _)]
  have hf5:=hf.2.2.2
  generalize hpt:ptexti q g=pt at *
  clear h30 hall hpt hf
  obtain ⟨pre,leaf,slots,items⟩:=g
  simp only at hlf hck h1 h2 h3 hlen hnx r1 r2 r3 hf5 ⊢
  subst hlf
  generalize (q++eblob pre)++eflag true=q2 at *
  generalize q++eblob pre=q1 at *
  focus (have kk1:=uN [] hck;have kk2:=uN [0,1] h1;have kk3:=uN [0,1] h2;have kk4:=uN [0,1] h3;(repeat' (first|refine G ?_|refine AW.ret ?_|(refine GC ?_ ?_<;>intro h<;>(try simp only [hsB] at h)<;>try exact xf)|(refine GL ?_ ?_<;>intro h<;>(try simp only [hsN] at h)<;>(try simp only [h])<;>(try simp only [hsB] at h)<;>try exact xf)|fail));all_goals clear kk1 kk2 kk3 kk4)
  all_goals first|exact xg|skip
  refine AW.rounds [0,3,33,34,35] (fun i:Nat=>[(0,.p 0 0),(3,.p 2 0),(33,.d (.l items.length (itsD items))),(34,iv .i64 items.length),(35,iv .i64 i)]) (fun i=>Pe.obs ⟨pt i,65536,0⟩++[.box 35 [sv (bs pre),bv true,.d (.l slots.length (slsD slots)),.d (.l items.length (itsD items))]])
   (fun i=>i≤items.length) (fun i=>items.length-i) 0 (Nat.zero_le _) rfl rfl (fun _ _=>by show 2≤3;decide) (fun _ _=>rfl) (fun _ _=>rfl) ?_
  intro i hi J hJ
  by_cases hil:i<items.length
  case neg=>
   have hi2:i=items.length:=by omega
   subst hi2
   exact Wd2
  obtain ⟨x,r,hd⟩:=next_at hil
  have hcd:=its_drop hd
  obtain ⟨g1,g2⟩:=itcheck_len _ _ _ r3 x (next_mem hd)
  have hn1:=hnx r x i hd
  have hl9:=hlen i
  have ht:=pen_Text (pt i) 65536 0 (pk_ok (by omega)) [x.1,x.2] (.inl (by decide)) (Nat.le_of_ble_eq_true rfl)
  rw [show Pe.texts ⟨pt i,65536,0⟩ [x.1,x.2]=⟨pt (i+1),65536,0⟩ by
   show Pe.text (Pe.text ⟨pt i,65536,0⟩ x.1) x.2=_
   rw [pk_text (by omega),pk_text (by rw [List.length_append];omega),hn1]] at ht
  have ht:AC Tryz.prog 128 [.p 0 0,.d (.l 2 [.s (.string ⟨x.1.toArray⟩),.s (.string ⟨x.2.toArray⟩)])] (Pe.obs ⟨pt i,65536,0⟩) fun y σ=>y=.t []∧σ=Pe.obs ⟨pt (i+1),65536,0⟩:=ht
  have go:∀ T' σ',keepT T' [0,3,33,34,35]=[(0,.p 0 0),(3,.p 2 0),(33,.d (.l items.length (itsD items))),(34,iv .i64 items.length),(35,iv .i64 ((i:Int)+1))]→σ'.take 3=Pe.obs ⟨pt (i+1),65536,0⟩++[.box 35 [sv (bs pre),bv true,.d (.l slots.length (slsD slots)),.d (.l items.length (itsD items))]]→J T' σ':=fun T' σ' g1 g2=>
   hJ (i+1) T' σ' (by omega) hil g1 g2
  clear hJ hnx hn1
  generalize pt (i+1)=b2 at *
  generalize pt i=b1 at *
  (have kxs:=hcd;have kk1:=uN [0,1] ht;exact Wdg)
 | false=>
  rw [if_neg (by rw [hlf];decide)] at p2
  obtain ⟨r1,r2,r3,r4⟩:=p2
  have hvl:=vput_len10 (n:=g.slots.length) (by omega)
  have h3:=blob_PutCount ((q++eblob g.pre)++eflag g.leaf) 65536 0 ((256:Nat):Int) (pk_ok (by omega)) g.slots.length (by omega) (.inl (by decide))
  rw [pk_count 256 r2 (by omega)] at h3
  have h30:((q++eblob g.pre)++eflag g.leaf)++vput g.slots.length=ptexts q g 0:=by unfold ptexts;rw [hlf];simp
  rw [h30] at h3
  rw [hlf] at h2 h3
  have hlen:=ptexts_len (q:=q) hlf hc
  have hall:=fun i=>ptexts_all (q:=q) (g:=g) (i:=i) hlf
  have hnx:=fun r x i=>@ptexts_next q g r x i
  rw [←hall g.slots.length (Nat.le_refl _)]
  have hf3:=hf.2.1.2
  generalize hpt:ptexts q g=pt at *
  clear h30 hall hpt hf
  obtain ⟨pre,leaf,slots,items⟩:=g
  simp only at hlf hck h1 h2 h3 hlen hnx r1 r2 r3 r4 hf3 ⊢
  subst hlf
  generalize (q++eblob pre)++eflag false=q2 at *
  generalize q++eblob pre=q1 at *
  focus (have kk1:=uN [] hck;have kk2:=uN [0,1] h1;have kk3:=uN [0,1] h2;have kk4:=uN [0,1] h3;(repeat' (first|refine G ?_|refine AW.ret ?_|(refine GC ?_ ?_<;>intro h<;>(try simp only [hsB] at h)<;>try exact xf)|(refine GL ?_ ?_<;>intro h<;>(try simp only [hsN] at h)<;>(try simp only [h])<;>(try simp only [hsB] at h)<;>try exact xf)|fail));all_goals clear kk1 kk2 kk3 kk4)
  all_goals first|exact xg|skip
  refine AW.rounds [0,53,54,55] (fun i:Nat=>[(0,.p 0 0),(53,.d (.l slots.length (slsD slots))),(54,iv .i64 slots.length),(55,iv .i64 i)]) (fun i=>Pe.obs ⟨pt i,65536,0⟩)
   (fun i=>i≤slots.length) (fun i=>slots.length-i) 0 (Nat.zero_le _) rfl rfl (fun _ _=>by show 2≤2;decide) (fun _ _=>rfl) (fun _ _=>rfl) ?_
  intro i hi J hJ
  by_cases hil:i<slots.length
  case neg=>
   have hi2:i=slots.length:=by omega
   subst hi2
   exact Wd2
  obtain ⟨x,r,hd⟩:=next_at hil
  have hcd:=sls_drop hd
  have g1:=slcheck_len _ _ r4 x (next_mem hd)
  obtain ⟨g2,g3⟩:=hf3 x (next_mem hd)
  have hn1:=hnx r x i hd
  have hl9:=hlen i
  have hb:=pen_Byte1 (pt i) 65536 0 (pk_ok (by omega)) (.inl (by decide)) (UInt8.ofNat x.1)
  rw [u8_ofNat g2,pk_text (by simp only [List.length_cons,List.length_nil];omega)] at hb
  have hb:AC Tryz.prog 250 [.p 0 0,.d (.l 1 [.s (.int .u8 (x.1:Nat))])] (Pe.obs ⟨pt i,65536,0⟩) fun y σ=>y=.t []∧σ=Pe.obs ⟨pt i++estt x.1,65536,0⟩:=hb
  have hle:(pt i++estt x.1).length=(pt i).length+1:=by rw [List.length_append];rfl
  have ht:=pen_Text1 (pt i++estt x.1) x.2 65536 0 (pk_ok (by omega)) (.inl (by decide))
  rw [pk_text (by omega),←hn1] at ht
  have go:∀ T' σ',keepT T' [0,53,54,55]=[(0,.p 0 0),(53,.d (.l slots.length (slsD slots))),(54,iv .i64 slots.length),(55,iv .i64 ((i:Int)+1))]→σ'.take 2=Pe.obs ⟨pt (i+1),65536,0⟩→J T' σ':=fun T' σ' g1 g2=>
   hJ (i+1) T' σ' (by omega) hil g1 g2
  clear hJ hnx hn1
  generalize pt (i+1)=b2 at *
  generalize pt i++estt x.1=b3 at *
  generalize pt i=b1 at *
  (have kxs:=hcd;have kk1:=uN [0,1] hb;have kk2:=uN [0,1] ht;exact Wdg)
theorem byte_at(t k:Nat):IntKind.wrap .u8 ((t:Int).fdiv (2^k))=((UInt8.ofNat (t / 2^k)).toNat:Int):=by
 have h:(t:Int).fdiv (2^k)=((t / 2^k:Nat):Int):=by
  rw [Int.fdiv_eq_ediv_of_nonneg _ (by exact Int.pow_nonneg (by decide))]
  push_cast;rfl
 rw [h,IntKind.wrap_u8,UInt8.toNat_ofNat']
 omega
theorem enc8_at(t:Nat){j:Nat}(hj:j<8):∃ b r,(enc8 t).drop j=b::r∧IntKind.wrap .u8 ((t:Int).fdiv (2^(min (56-8*(j:Int)).toNat 64)))=(b.toNat:Int):=by
 have key:∀ k,(min (56-8*(j:Int)).toNat 64)=k→∀ n,2^k=n→IntKind.wrap .u8 ((t:Int).fdiv (2^(min (56-8*(j:Int)).toNat 64)))=((UInt8.ofNat (t / n)).toNat:Int):=fun k hk n hn=>by
  rw [hk,byte_at,hn]
 have hc:j=0∨j=1∨j=2∨j=3∨j=4∨j=5∨j=6∨j=7:=by omega
 rcases hc with rfl|rfl|rfl|rfl|rfl|rfl|rfl|rfl
 ·exact ⟨_,_,rfl,key 56 rfl _ rfl⟩
 ·exact ⟨_,_,rfl,key 48 rfl _ rfl⟩
 ·exact ⟨_,_,rfl,key 40 rfl _ rfl⟩
 ·exact ⟨_,_,rfl,key 32 rfl _ rfl⟩
 ·exact ⟨_,_,rfl,key 24 rfl _ rfl⟩
 ·exact ⟨_,_,rfl,key 16 rfl _ rfl⟩
 ·exact ⟨_,_,rfl,key 8 rfl _ rfl⟩
 ·refine ⟨UInt8.ofNat t,[],rfl,?_⟩
  have:=key 0 rfl 1 rfl
  rw [Nat.div_one] at this
  exact this
theorem wip_len{l:List UInt8}{j:Nat}(hl:l.length=8)(hj:j≤8):(wipD l j).length=8:=by
 unfold wipD bsD
 simp only [List.length_map,List.length_append,List.length_take,List.length_replicate]
 omega
theorem wip_set{l r:List UInt8}{b:UInt8}{j:Nat}(hl:l.length=8)(hj:j<8)(hd:l.drop j=b::r):(wipD l j).set j (V.d (D.s (.int .u8 b.toNat)))=wipD l (j+1):=by
 unfold wipD bsD
 rw [next_take hd,show 8-j=(8-(j+1))+1 by omega,List.replicate_succ]
 simp only [List.map_append,List.map_cons,List.map_nil]
 rw [List.set_append_right _ _ (by simp only [List.length_map,List.length_take];omega)]
 simp only [List.length_map,List.length_take,hl]
 rw [show j-min j 8=0 by omega]
 simp
theorem wip_full{l:List UInt8}(hl:l.length=8):toDs (List.take 8 (wipD l 8))=some (bsD l):=by
 have h:wipD l 8=(bsD l).map V.d:=by
  unfold wipD
  rw [List.take_of_length_le (by omega)]
  simp
 have h2:∀ m:List D,toDs (m.map V.d)=some m:=fun m=>by
  induction m with
  | nil=>rfl
  | cons x m ih=>
   show (toDs (m.map V.d)).map (x::·)=_
   rw [ih];rfl
 rw [h,List.take_of_length_le (by simp [bsD,hl]),h2]
theorem fixed_Put(b:List UInt8)(m:Int)(l:List Nat)(hf:∀ t ∈ l,t<18446744073709551616)(hn:l.length≤140737488355328)(hm:((b.length+8*l.length:Nat):Int)≤m)(hm2:m≤140737488355328) :
  AC Tryz.prog 273 [.p 0 0,iv .i64 8,.d (.l l.length (toksD l))] (Pe.obs ⟨b,m,0⟩) fun x σ=>x=.t []∧σ=Pe.obs ⟨b++(l.map enc8).flatten,m,0⟩:=by
 refine AC.wk Tryz.func273 ?_
 focus (have kk1:=uN [] fixed_right;(repeat' (first|refine G ?_|refine AW.ret ?_|(refine GC ?_ ?_<;>intro h<;>(try simp only [hsB] at h)<;>try exact xf)|(refine GL ?_ ?_<;>intro h<;>(try simp only [hsN] at h)<;>(try simp only [h])<;>(try simp only [hsB] at h)<;>try exact xf)|fail));all_goals clear kk1)
 all_goals first|(exfalso;simp_all;done)|skip
 refine AW.rounds [0,1,15,16,17] (fun i:Nat=>[(0,.p 0 0),(1,iv .i64 8),(15,.d (.l l.length (toksD l))),(16,iv .i64 l.length),(17,iv .i64 i)]) (fun i=>Pe.obs ⟨b++((l.take i).map enc8).flatten,m,0⟩)
  (fun i=>i≤l.length) (fun i=>l.length-i) 0 (Nat.zero_le _) rfl (by simp) (fun _ _=>Nat.le_of_ble_eq_true rfl) (fun _ _=>rfl) (fun _ _=>rfl) ?_
 intro i hi J hJ
 by_cases hil:i<l.length
 case neg=>
  have hi2:i=l.length:=by omega
  rw [hi2,List.take_length]
  exact Wd2
 obtain ⟨t,r,hd⟩:=next_at hil
 have hcd:=toks_drop hd
 have ht:=hf t (next_mem hd)
 have hq:b++((l.take (i+1)).map enc8).flatten=(b++((l.take i).map enc8).flatten)++enc8 t:=by
  rw [next_take hd,List.map_append,List.flatten_append,List.append_assoc];simp
 have hql:(b++((l.take i).map enc8).flatten).length=b.length+i*8:=by
  rw [List.length_append,enc8_flat,List.length_take,Nat.min_eq_left (by omega)]
 have go:∀ T' σ',keepT T' [0,1,15,16,17]=[(0,.p 0 0),(1,iv .i64 8),(15,.d (.l l.length (toksD l))),(16,iv .i64 l.length),(17,iv .i64 ((i:Int)+1))]→σ'.take 2=Pe.obs ⟨(b++((l.take i).map enc8).flatten)++enc8 t,m,0⟩→J T' σ':=fun T' σ' g1 g2=>
  hJ (i+1) T' σ' (by omega) hil g1 (by rw [hq];exact g2)
 clear hJ hq
 generalize b++((l.take i).map enc8).flatten=p at *
 focus (have kxs:=And.intro hcd @Nat.mul_one;(repeat' (first|refine G ?_|refine AW.ret ?_|(refine GC ?_ ?_<;>intro h<;>(try simp only [hsB] at h)<;>try exact xf)|(refine GL ?_ ?_<;>intro h<;>(try simp only [hsN] at h)<;>(try simp only [h])<;>(try simp only [hsB] at h)<;>try exact xf)|fail));all_goals clear kxs)
 all_goals first|exact xg|skip
 refine AW.rounds [0,1,7,8,15,16,17,32] (fun j:Nat=>[(0,.p 0 0),(1,iv .i64 8),(7,iv .u64 (t:Nat)),(8,.p 2 0),(15,.d (.l l.length (toksD l))),(16,iv .i64 l.length),(17,iv .i64 i),(32,iv .i64 j)])
  (fun j=>Pe.obs ⟨p,m,0⟩++[.box 287 (wipD (enc8 t) j)]) (fun j=>j≤8) (fun j=>8-j) 0 (Nat.zero_le _) rfl rfl (fun _ _=>Nat.le_of_ble_eq_true rfl) (fun _ _=>by simp [obsLt,Ob.lt,Pe.obs,lts,V.lt,wipD,lts_map]) (fun _ _=>rfl) ?_
 intro j hj J2 hJ2
 by_cases hjl:j<8
 ·obtain ⟨c,r2,hd2,hby⟩:=enc8_at t hjl
  have hst:=wip_set (l:=enc8 t) rfl hjl hd2
  have hwl:=wip_len (l:=enc8 t) (j:=j) rfl (by omega)
  have go2:∀ T' σ',keepT T' [0,1,7,8,15,16,17,32]=[(0,.p 0 0),(1,iv .i64 8),(7,iv .u64 (t:Nat)),(8,.p 2 0),(15,.d (.l l.length (toksD l))),(16,iv .i64 l.length),(17,iv .i64 i),(32,iv .i64 ((j:Int)+1))]→σ'.take 3=Pe.obs ⟨p,m,0⟩++[.box 287 ((wipD (enc8 t) j).set j (V.d (D.s (.int .u8 c.toNat))))]→J2 T' σ':=fun T' σ' g1 g2=>
   hJ2 (j+1) T' σ' (by omega) hjl g1 (by rw [←hst];exact g2)
  clear hJ2 hst go
  generalize wipD (enc8 t) j=w at *
  focus (have kxs:=And.intro hby (And.intro hwl @Nat.mul_one);(repeat' (first|refine G ?_|refine AW.ret ?_|(refine GC ?_ ?_<;>intro h<;>(try simp only [hsB] at h)<;>try exact xf)|(refine GL ?_ ?_<;>intro h<;>(try simp only [hsN] at h)<;>(try simp only [h])<;>(try simp only [hsB] at h)<;>try exact xf)|fail));all_goals clear kxs)
  all_goals first|exact go2 _ _ rfl rfl|exact xg
 ·have hj2:j=8:=by omega
  subst hj2
  have hfu:=wip_full (l:=enc8 t) rfl
  have hpo:Pe.Ok ⟨p,m,0⟩:=⟨by show (0:Int)≤m;omega,by show m≤_;omega,by show p.length≤_;omega⟩
  have htx:=pen_Text1 p (enc8 t) m 0 hpo (.inl hm2)
  have hte:Pe.text ⟨p,m,0⟩ (enc8 t)=⟨p++enc8 t,m,0⟩:=by
   unfold Pe.text
   rw [if_neg (by simp),if_neg (by simp only [hql];show ¬ ((8:Nat):Int)>_;omega)]
  rw [hte] at htx
  clear hJ2
  generalize hw:wipD (enc8 t) 8=w at *
  generalize hen:enc8 t=q8 at *
  have h8:q8.length=8:=by rw [←hen];rfl
  focus (have kxs:=hfu;(repeat' (first|refine G ?_|refine AW.ret ?_|(refine GC ?_ ?_<;>intro h<;>(try simp only [hsB] at h)<;>try exact xf)|(refine GL ?_ ?_<;>intro h<;>(try simp only [hsN] at h)<;>(try simp only [h])<;>(try simp only [hsB] at h)<;>try exact xf)|fail));all_goals clear kxs)
  all_goals first|exact xg|skip
  refine AL.one (by decide) fun Kr hr=>?_
  (try simp only [ao,List.map_cons,List.map_nil]);simp (disch:=omega) only [go_sem,hfu]
  refine ⟨_,bsD_nums _,by simp [h8],?_⟩
  simp only [strOfNums_bs]
  refine hr _ _ ?_
  clear hr Kr
  (have kk1:=uN [0,1] htx;exact Wdg)
theorem pe_blob{b s:List UInt8}(hs:s.length≤32)(hm:b.length+(eblob s).length≤65536):Pe.blob ⟨b,65536,0⟩ 32 s=⟨b++eblob s,65536,0⟩:=
 (pens_blob 32).fit ⟨b,65536,0⟩ s rfl hs (by show ((b.length+(eblob s).length:Nat):Int)≤(65536:Int);omega)
theorem pe_count{b:List UInt8}{n:Nat}(k:Nat)(hs:n≤k)(hm:b.length+(vput n).length≤65536):Pe.count ⟨b,65536,0⟩ (k:Int) n=⟨b++vput n,65536,0⟩:=
 (pens_count (k:Int)).fit ⟨b,65536,0⟩ n rfl (by simpa using hs) (by show ((b.length+(vput n).length:Nat):Int)≤(65536:Int);omega)
theorem pe_text{b s:List UInt8}(hm:b.length+s.length≤65536):Pe.text ⟨b,65536,0⟩ s=⟨b++s,65536,0⟩:=
 pens_text.fit ⟨b,65536,0⟩ s rfl trivial (by show ((b.length+s.length:Nat):Int)≤(65536:Int);omega)
theorem pe_ok{b:List UInt8}(h:b.length≤65536):Pe.Ok ⟨b,65536,0⟩:=⟨by show (0:Int)≤65536;decide,by show (65536:Int)≤_;decide,by show b.length≤_;omega⟩
theorem ring_rest(b:List UInt8)(x:Mb)(hst:x.st<256)(ht:x.toks.length≤16)(hf:∀ t ∈ x.toks,t<18446744073709551616)(hm:b.length+(estt x.st++etoks x.toks).length≤65536) :
  AC Tryz.prog 261 [.p 0 0,mbV x] (Pe.obs ⟨b,65536,0⟩) fun y σ=>y=.t []∧σ=Pe.obs ⟨b++(estt x.st++etoks x.toks),65536,0⟩:=by
 refine AC.wk Tryz.func261 ?_
 obtain ⟨nm,ep,st,tk⟩:=x
 simp only at hst ht hf hm ⊢
 have hl:(estt st++etoks tk).length=1+((vput tk.length).length+tk.length*8):=by
  unfold estt etoks;simp only [List.length_append,enc8_flat,List.length_cons,List.length_nil];try omega
 rw [hl] at hm
 have h1:=pen_Byte1 b 65536 0 (pe_ok (by omega)) (.inl (by decide)) (UInt8.ofNat st)
 rw [u8_ofNat hst,pe_text (by simp only [List.length_cons,List.length_nil];omega)] at h1
 have hl1:(b++[UInt8.ofNat st]).length=b.length+1:=by simp
 have h2:=blob_PutCount (b++[UInt8.ofNat st]) 65536 0 16 (pe_ok (by omega)) tk.length (by omega) (.inl (by decide))
 rw [show Pe.count ⟨b++[UInt8.ofNat st],65536,0⟩ 16 tk.length=_ from pe_count 16 ht (by omega)] at h2
 have hl2:((b++[UInt8.ofNat st])++vput tk.length).length=b.length+1+(vput tk.length).length:=by simp only [List.length_append,List.length_cons,List.length_nil];try omega
 have h3:=fixed_Put ((b++[UInt8.ofNat st])++vput tk.length) 65536 tk hf (by omega) (by rw [hl2];omega) (by decide)
 have e:((b++[UInt8.ofNat st])++vput tk.length)++(tk.map enc8).flatten=b++(estt st++etoks tk):=by unfold estt etoks;simp only [List.append_assoc]
 rw [e] at h3
 generalize b++(estt st++etoks tk)=b3 at *
 generalize b++[UInt8.ofNat st]++vput tk.length=b2 at *
 generalize b++[UInt8.ofNat st]=b1 at *
 (have kk1:=uN [0,1] h1;have kk2:=uN [0,1] h2;have kk3:=uN [0,1] h3;exact Wd2)
theorem rtext_next{l r:Ring}{x:Mb}{i:Nat}(h:l.drop i=x::r):rtext l (i+1)=rtext l i++emem x:=by
 unfold rtext
 rw [next_take h,List.map_append,List.flatten_append,List.append_assoc];simp
theorem rtext_all(l:Ring){i:Nat}(h:l.length≤i):rtext l i=ering l:=by
 unfold rtext ering;rw [List.take_of_length_le h]
theorem rtext_len(l:Ring)(i:Nat):(rtext l i).length≤(ering l).length:=by
 have:ering l=rtext l i++((l.drop i).map emem).flatten:=by
  unfold ering rtext
  rw [List.append_assoc,←List.flatten_append,←List.map_append,List.take_append_drop]
 rw [this,List.length_append];omega
theorem ring_Encode(l:Ring)(hf:l.fits):AC Tryz.prog 230 [.d (.l l.length (ringD l))] [] fun x σ=>x=.t [sv (bs (ringe l).1),iv .i64 (ringe l).2]∧σ=[]:=by
 refine AC.wk Tryz.func230 ?_
 have hck:=ring_Check l hf
 unfold ringe
 by_cases hc:Ring.check l=0
 case neg=>
  rw [if_pos hc]
  generalize Ring.check l=f at *
  (have kk1:=uN [] hck;exact Wd0)
 rw [if_neg (by simpa using hc)]
 rw [hc] at hck
 obtain ⟨p1,p2⟩:=Ring.check_parts hc
 have hg:gring l:=⟨hc,fun x hx=>(hf.2 x hx).1⟩
 have hel:=ering_len hg
 have hnew:=pen_New 65536 (by decide)
 rw [if_neg (by decide)] at hnew
 have hvl:=vput_len10 (n:=l.length) (by omega)
 have hcnt:=blob_PutCount [] 65536 0 32 (pe_ok (by decide)) l.length (by omega) (.inl (by decide))
 rw [show Pe.count ⟨[],65536,0⟩ 32 l.length=_ from pe_count 32 p1 (by simp only [List.length_nil];omega),List.nil_append] at hcnt
 have hr0:vput l.length=rtext l 0:=by unfold rtext;simp
 rw [hr0] at hcnt
 have hrl:=rtext_len l
 focus (have kk1:=uN [] hck;have kk2:=uN [] hnew;have kk3:=uN [0,1] hcnt;(repeat' (first|refine G ?_|refine AW.ret ?_|(refine GC ?_ ?_<;>intro h<;>(try simp only [hsB] at h)<;>try exact xf)|(refine GL ?_ ?_<;>intro h<;>(try simp only [hsN] at h)<;>(try simp only [h])<;>(try simp only [hsB] at h)<;>try exact xf)|fail));all_goals clear kk1 kk2 kk3)
 all_goals first|exact xg|skip
 refine AW.rounds [2,3,5,18,19,20] (fun i:Nat=>[(2,sv (bs [])),(3,iv .i64 0),(5,.p 0 0),(18,.d (.l l.length (ringD l))),(19,iv .i64 l.length),(20,iv .i64 i)]) (fun i=>Pe.obs ⟨rtext l i,65536,0⟩)
  (fun i=>i≤l.length) (fun i=>l.length-i) 0 (Nat.zero_le _) rfl rfl (fun _ _=>Nat.le_of_ble_eq_true rfl) (fun _ _=>rfl) (fun _ _=>rfl) ?_
 intro i hi J hJ
 by_cases hil:i<l.length
 case neg=>
  have hend:=pen_End (rtext l i) 65536 0 (pe_ok (by have:=hrl i;omega))
  have hfin:Pe.fin ⟨rtext l i,65536,0⟩=(rtext l i,0):=by unfold Pe.fin;rw [if_neg (by simp)]
  rw [hfin] at hend
  rw [←rtext_all l (i:=i) (by omega)]
  generalize rtext l i=q at *
  simp only at hend
  (have kk1:=uN [0,1] hend;exact Wd0)
 obtain ⟨x,r,hd⟩:=next_at hil
 have hcd:=ring_drop hd
 obtain ⟨q1,q2,q3,q4,q5,q6⟩:=p2 x (next_mem hd)
 obtain ⟨⟨f1,f2,f3⟩,f4,f5⟩:=hf.2 x (next_mem hd)
 have hnx:=rtext_next hd
 have go:∀ T' σ',keepT T' [2,3,5,18,19,20]=[(2,sv (bs [])),(3,iv .i64 0),(5,.p 0 0),(18,.d (.l l.length (ringD l))),(19,iv .i64 l.length),(20,iv .i64 ((i:Int)+1))]→σ'.take 2=Pe.obs ⟨rtext l i++emem x,65536,0⟩→J T' σ':=fun T' σ' g1 g2=>
  hJ (i+1) T' σ' (by omega) hil g1 (by rw [hnx];exact g2)
 have hlen:(rtext l i).length+(emem x).length≤7000:=by have:=hrl (i+1);rw [hnx,List.length_append] at this;omega
 clear hJ hnx hrl
 have hml:(emem x).length=(eblob x.name).length+((vput x.ep).length+(estt x.st++etoks x.toks).length):=by unfold emem;simp only [List.length_append]
 generalize rtext l i=q at *
 have h1:=blob_Put1 q x.name 65536 0 32 (pe_ok (by omega)) f4 (.inl (by decide))
 rw [pe_blob q1 (by omega)] at h1
 have hl1:(q++eblob x.name).length=q.length+(eblob x.name).length:=List.length_append
 have h2:=varint_Put1 (q++eblob x.name) 65536 0 (pe_ok (by omega)) x.ep f1 (.inl (by decide))
 rw [pe_text (by omega)] at h2
 have hl2:((q++eblob x.name)++vput x.ep).length=q.length+(eblob x.name).length+(vput x.ep).length:=by simp only [List.length_append]
 have h3:=ring_rest ((q++eblob x.name)++vput x.ep) x f2 q5 f3 (by omega)
 have e:((q++eblob x.name)++vput x.ep)++(estt x.st++etoks x.toks)=q++emem x:=by unfold emem;simp only [List.append_assoc]
 rw [e] at h3
 generalize q++emem x=b3 at *
 generalize (q++eblob x.name)++vput x.ep=b2 at *
 generalize q++eblob x.name=b1 at *
 (have kxs:=hcd;have kk1:=uN [0,1] h1;have kk2:=uN [0,1] h2;have kk3:=uN [0,1] h3;exact Wdg)
end Go.AW
