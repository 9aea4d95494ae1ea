/-
  objects: what is right: the program's and the document's.
-/
import Derived.Test.YtdnfcckkdnkaiaaGreatU11
import Derived.Test.YtdnfcckkdnkaiaaGreatU22
set_option linter.unusedVariables false
set_option linter.unusedSimpArgs false
set_option maxHeartbeats 4000000
set_option maxRecDepth 10000
namespace Go.AW
open Go Go.Proofs
attribute [local irreducible] thenQ blockQ RetQ AL AW AC AOp
theorem Sb.key_len{x:Sb}(h:gsib x):(skey x).length≤4060:=eclk_len ⟨(Sb.check_parts h.1).1,h.2.1,h.2.2⟩
theorem object_outside(key:List UInt8)(n:Nat)(hk:key.length≤9223372036854775807)(hn:n≤9223372036854775807):AC Tryz.prog 252 [sv (bs key),iv .i64 n] [] fun x σ=>x=iv .i64 (outside key n)∧σ=[]:=by
 refine AC.wk Tryz.func252 ?_
 unfold outside
 have hke:key=[]↔key.length=0:=List.length_eq_zero_iff.symm
 focus ((repeat' (first|refine G ?_|refine AW.ret ?_|(refine GC ?_ ?_<;>intro h<;>(try simp only [hsB] at h)<;>try exact xf)|(refine GL ?_ ?_<;>intro h<;>(try simp only [hsN] at h)<;>(try simp only [h])<;>(try simp only [hsB] at h)<;>try exact xf)|fail)))
 all_goals first
  | (rw [if_pos (by omega)];(first|exact RetQ.zr 0|exact RetQ.zn 0|fail))
  | (rw [if_neg (by omega),if_pos (by first|assumption|(rw [hke];omega))];(first|exact RetQ.zr 0|exact RetQ.zn 0|fail))
  | (rw [if_neg (by omega),if_neg (by first|assumption|(rw [hke];omega)),if_pos (by omega)];(first|exact RetQ.zr 0|exact RetQ.zn 0|fail))
  | (rw [if_neg (by omega),if_neg (by first|assumption|(rw [hke];omega)),if_neg (by omega),if_pos (by omega)];(first|exact RetQ.zr 0|exact RetQ.zn 0|fail))
  | (rw [if_neg (by omega),if_neg (by first|assumption|(rw [hke];omega)),if_neg (by omega),if_neg (by omega)];(first|exact RetQ.zr 0|exact RetQ.zn 0|fail))
theorem ref16_Clock(x:Sb)(hx:x.fits):AC Tryz.prog 139 [sbV x] [] fun y σ=>y=sv (bs (clke x.clk).1)∧σ=[]:=by
 refine AC.wk Tryz.func139 ?_
 (have kk1:=uN [] (ref13_Encode x.clk hx.1);exact Wd0)
theorem ref16_key(x:Sb)(hx:x.fits)(hc:x.check=0):AC Tryz.prog 139 [sbV x] [] fun y σ=>y=sv (bs (skey x))∧σ=[]:=by
 have:=ref16_Clock x hx
 rw [Sb.key_of hc hx] at this
 exact this
theorem jstep{last:List UInt8}{x:Sb}{r:List Sb}{R:Int}(h:jcheck last (x::r)=R):R=if x.check≠0 then x.check else if lessB last (skey x)=false then 6 else jcheck (skey x) r:=h.symm
theorem object_Check(o:Oj)(ho:o.fits):AC Tryz.prog 194 [ojV o] [] fun x σ=>x=iv .i64 o.check∧σ=[]:=by
 obtain ⟨key,l⟩:=o
 obtain ⟨hk,hl,hf⟩:=ho
 simp only at hk hl hf
 refine AC.wk Tryz.func194 ?_
 by_cases ho:outside key l.length=0
 case neg=>
  have hR:Oj.check ⟨key,l⟩=outside key l.length:=by unfold Oj.check;rw [if_pos ho]
  rw [hR]
  (have kk1:=uN [] (object_outside key l.length hk hl);exact Wd0)
 generalize hR:jcheck [] l=R
 have hc:Oj.check ⟨key,l⟩=R:=by unfold Oj.check;rw [if_neg (by simpa using ho),hR]
 rw [hc]
 focus (have kxs:=ho;have kk1:=uN [] (object_outside key l.length hk hl);(repeat' (first|refine G ?_|refine AW.ret ?_|(refine GC ?_ ?_<;>intro h<;>(try simp only [hsB] at h)<;>try exact xf)|(refine GL ?_ ?_<;>intro h<;>(try simp only [hsN] at h)<;>(try simp only [h])<;>(try simp only [hsB] at h)<;>try exact xf)|fail));all_goals clear kxs kk1)
 all_goals first|(exfalso;simp_all;done)|skip
 refine AW.rounds [2,4,19,20,21] (fun x:Nat × List UInt8=>[(2,iv .i64 0),(4,sv (bs x.2)),(19,.d (.l l.length (sbsD l))),(20,iv .i64 l.length),(21,iv .i64 x.1)]) (fun _=>[])
  (fun x=>x.1≤l.length∧(x.1=0→x.2=[])∧jcheck x.2 (l.drop x.1)=R) (fun x=>l.length-x.1) (0,[]) ⟨Nat.zero_le _,fun _=>rfl,hR⟩ rfl rfl (fun _ _=>Nat.zero_le _) (fun _ _=>rfl) (fun _ _=>rfl) ?_
 rintro ⟨i,p⟩ ⟨hi,hp,hr⟩ J hJ
 simp only at hi hp hr ⊢
 by_cases hil:i<l.length
 case neg=>
  have h0:l.drop i=[]:=List.drop_eq_nil_of_le (by omega)
  rw [h0] at hr
  have hR0:R=0:=hr.symm
  rw [hR0]
  focus ((repeat' (first|refine G ?_|refine AW.ret ?_|(refine GC ?_ ?_<;>intro h<;>(try simp only [hsB] at h)<;>try exact xf)|(refine GL ?_ ?_<;>intro h<;>(try simp only [hsN] at h)<;>(try simp only [h])<;>(try simp only [hsB] at h)<;>try exact xf)|fail)))
  all_goals first|(first|exact RetQ.zr 0|exact RetQ.zn 0|fail)|(exfalso;simp_all;done)
 obtain ⟨x,r,hd⟩:=next_at hil
 have hcd:=sbs_drop hd
 rw [hd] at hr
 have hR2:=jstep hr
 have hfx:=hf x (next_mem hd)
 by_cases hxc:x.check=0
 case neg=>
  rw [if_pos hxc] at hR2
  rw [hR2]
  focus (have kxs:=hcd;have kk1:=uN [] (sibling_Check x hfx);(repeat' (first|refine G ?_|refine AW.ret ?_|(refine GC ?_ ?_<;>intro h<;>(try simp only [hsB] at h)<;>try exact xf)|(refine GL ?_ ?_<;>intro h<;>(try simp only [hsN] at h)<;>(try simp only [h])<;>(try simp only [hsB] at h)<;>try exact xf)|fail));all_goals clear kxs kk1)
  all_goals first|(first|exact RetQ.zr 0|exact RetQ.zn 0|fail)|(exfalso;simp_all;done)
 rw [if_neg (by simpa using hxc)] at hR2
 have htri:=less_tri (skey x) p
 by_cases hls:lessB p (skey x)=true
 ·have hls':Op.bytesLess p (skey x)=true:=hls
  rw [if_neg (by rw [hls];decide)] at hR2
  focus (have kxs:=And.intro hcd (And.intro hxc (And.intro htri hls'));have kk1:=uN [] (sibling_Check x hfx);have kk2:=uN [] (object_key x hfx hxc);(repeat' (first|refine G ?_|refine AW.ret ?_|(refine GC ?_ ?_<;>intro h<;>(try simp only [hsB] at h)<;>try exact xf)|(refine GL ?_ ?_<;>intro h<;>(try simp only [hsN] at h)<;>(try simp only [h])<;>(try simp only [hsB] at h)<;>try exact xf)|fail));all_goals clear kxs kk1 kk2)
  all_goals first|(refine hJ (i+1,skey x) _ _ (by simp only;omega) ⟨hil,fun h=>absurd h (Nat.succ_ne_zero i),by rw [next_drop hd];exact hR2.symm⟩ rfl rfl)|(exfalso;simp_all;done)
 ·have hls:lessB p (skey x)=false:=by simpa using hls
  have hls':Op.bytesLess p (skey x)=false:=hls
  rw [if_pos hls] at hR2
  have hi0:i≠0:=fun h=>by rw [hp h,skey_first] at hls;cases hls
  rw [hR2]
  focus (have kxs:=And.intro hcd (And.intro hxc (And.intro htri hls'));have kk1:=uN [] (sibling_Check x hfx);have kk2:=uN [] (object_key x hfx hxc);(repeat' (first|refine G ?_|refine AW.ret ?_|(refine GC ?_ ?_<;>intro h<;>(try simp only [hsB] at h)<;>try exact xf)|(refine GL ?_ ?_<;>intro h<;>(try simp only [hsN] at h)<;>(try simp only [h])<;>(try simp only [hsB] at h)<;>try exact xf)|fail));all_goals clear kxs kk1 kk2)
  all_goals first|(first|exact RetQ.zr 0|exact RetQ.zn 0|fail)|exact xg
theorem oj_dec(k o:Oj):decide (k=o)=(decide (k.key=o.key)&&decide (k.sibs=o.sibs)):=by
 rw [Bool.eq_iff_iff,decide_eq_true_eq];exact (oj_eq k o).symm
theorem ref16_Same(k o:Oj)(hk:k.sibs.length≤9223372036854775807)(hf:∀ x ∈ k.sibs,x.clk.ctx.length≤9223372036854775807∧x.meta_.length≤9223372036854775807):AC Tryz.prog 46 [ojV k,ojV o] [] fun x σ=>x=bv (decide (k=o))∧σ=[]:=by
 refine AC.wk Tryz.func46 ?_
 rw [oj_dec]
 obtain ⟨key,v⟩:=k
 obtain ⟨key2,w⟩:=o
 simp only at hk hf ⊢
 by_cases hkk:key=key2
 case neg=>
  rw [decide_eq_false hkk]
  exact We0
 subst hkk
 rw [decide_eq_true rfl,Bool.true_and]
 by_cases hll:v.length=w.length
 case neg=>
  have hc:decide (v=w)=false:=by simp;rintro rfl;exact hll rfl
  rw [hc]
  exact We0
 focus ((repeat' (first|(refine ADr.nil ?_;try clear hgv)|refine GO ?_|refine AW.ret ?_|(refine GC ?_ ?_<;>intro h<;>(try simp only [hsB] at h)<;>try exact xf)|(refine GD ?_ ?_<;>intro h<;>(try intro hgv)<;>(try simp only [hsN] at h)<;>(try simp only [h])<;>(try simp only [hsB] at h)<;>try exact xf)|(refine GL ?_ ?_<;>intro h<;>(try simp only [hsN] at h)<;>(try simp only [h])<;>(try simp only [hsB] at h)<;>try exact xf)|fail)))
 all_goals first|(exfalso;simp_all;done)|skip
 refine AW.rounds [2,3,4,5] (fun i:Nat=>[(2,.p 0 0),(3,.p 1 0),(4,bv false),(5,iv .i64 i)]) (fun _=>[.box 26 [sv (bs key),.d (.l v.length (sbsD v))],.box 26 [sv (bs key),.d (.l w.length (sbsD w))]])
  (fun i=>i≤v.length∧(v=w↔v.drop i=w.drop i)) (fun i=>v.length-i) 0 ⟨Nat.zero_le _,by simp⟩ rfl rfl (fun _ _=>Nat.zero_le _) (fun _ _=>rfl) (fun _ _=>rfl) ?_
 rintro i ⟨hi,hr⟩ J hJ
 by_cases hil:i<v.length
 ·obtain ⟨x,r,hd⟩:=next_at hil
  obtain ⟨y,s,he⟩:=next_at (l:=w) (i:=i) (by omega)
  have hcd:=sbs_drop hd
  have hce:=sbs_drop he
  have hfx:=hf x (next_mem hd)
  by_cases hxy:x=y
  ·have hd1:decide (x=y)=true:=decide_eq_true hxy
   have hJ2:v=w↔v.drop (i+1)=w.drop (i+1):=by
    rw [hr,next_drop hd,next_drop he,hd,he,hxy];simp
   focus (have kxs:=And.intro hcd (And.intro hce hd1);have kk1:=uN [] (ref15_Same x y hfx.1 hfx.2);(repeat' (first|(refine ADr.nil ?_;try clear hgv)|refine GO ?_|refine AW.ret ?_|(refine GC ?_ ?_<;>intro h<;>(try simp only [hsB] at h)<;>try exact xf)|(refine GD ?_ ?_<;>intro h<;>(try intro hgv)<;>(try simp only [hsN] at h)<;>(try simp only [h])<;>(try simp only [hsB] at h)<;>try exact xf)|(refine GL ?_ ?_<;>intro h<;>(try simp only [hsN] at h)<;>(try simp only [h])<;>(try simp only [hsB] at h)<;>try exact xf)|fail));all_goals clear kxs kk1)
   all_goals first|(exact hJ (i+1) _ _ (by omega) ⟨hil,hJ2⟩ rfl rfl)|(exfalso;simp_all;done)
  ·have hd1:decide (x=y)=false:=decide_eq_false hxy
   have hc:decide (v=w)=false:=by
    simp only [decide_eq_false_iff_not]
    rw [hr,hd,he]
    intro e
    exact hxy (List.cons.inj e).1
   rw [hc]
   (have kxs:=And.intro hcd (And.intro hce hd1);have kk1:=uN [] (ref15_Same x y hfx.1 hfx.2);exact We0)
 ·have hc:decide (v=w)=true:=by
    simp only [decide_eq_true_eq]
    rw [hr,List.drop_eq_nil_of_le (by omega),List.drop_eq_nil_of_le (by omega)]
  rw [hc]
  exact We0
end Go.AW
namespace Go.AW
theorem enc8_flat:∀ l:List Nat,((l.map enc8).flatten).length=l.length*8
 | []=>rfl
 | t::l=>by
  rw [List.map_cons,List.flatten_cons,List.length_append,enc8_flat l,List.length_cons]
  show 8+_=_
  omega
theorem emem_len{x:Mb}(h1:x.name.length≤32)(h2:x.ep<18446744073709551616)(h3:x.toks.length≤16):(emem x).length≤191:=by
 have e1:=vput_len10 (n:=x.name.length) (by omega)
 have e2:=vput_len10 h2
 have e3:=vput_len10 (n:=x.toks.length) (by omega)
 unfold emem eblob estt etoks
 simp only [List.length_append,List.length_cons,List.length_nil,enc8_flat]
 omega
theorem ering_len{l:Ring}(h:gring l):(ering l).length≤7000:=by
 obtain ⟨h1,h2⟩:=Ring.check_parts h.1
 have hb:=flat_bound emem 191 l fun x hx=>emem_len (h2 x hx).1 (h.2 x hx).1 (h2 x hx).2.2.2.2.1
 have:l.length*191≤32*191:=Nat.mul_le_mul h1 (by decide)
 have e1:=vput_len10 (n:=l.length) (by omega)
 unfold ering
 rw [List.length_append]
 omega
end Go.AW
namespace Go.AW
theorem Pens.ite{α:Type}{W W':Pe→α→Pe}{enc enc':α→List UInt8}{ok ok':α→Prop}(h:Pens W enc ok)(h':Pens W' enc' ok')(b:α→Bool) :
  Pens (fun p x=>if b x=true then W p x else W' p x) (fun x=>if b x=true then enc x else enc' x) (fun x=>if b x=true then ok x else ok' x) where
 stuck:=fun p x=>by show _→(if b x=true then W p x else W' p x)=p;split<;>first|exact h.stuck p x|exact h'.stuck p x
 m:=fun p x=>by show (if b x=true then W p x else W' p x).m=p.m;split<;>first|exact h.m p x|exact h'.m p x
 len:=fun p x=>by show (if b x=true then W p x else W' p x).b.length≤p.b.length+(if b x=true then enc x else enc' x).length;split<;>first|exact h.len p x|exact h'.len p x
 cap:=fun p x=>by show ((if b x=true then W p x else W' p x).b.length:Int)≤p.m∨(if b x=true then W p x else W' p x).b.length≤p.b.length;split<;>first|exact h.cap p x|exact h'.cap p x
 yes:=fun p x=>by show (if b x=true then W p x else W' p x).e=0→p.e=0∧(if b x=true then W p x else W' p x).b=p.b++(if b x=true then enc x else enc' x)∧(if b x=true then ok x else ok' x);split<;>first|exact h.yes p x|exact h'.yes p x
 fit:=fun p x=>by show p.e=0→(if b x=true then ok x else ok' x)→((p.b.length+(if b x=true then enc x else enc' x).length:Nat):Int)≤p.m→(if b x=true then W p x else W' p x)=⟨p.b++(if b x=true then enc x else enc' x),p.m,0⟩;split<;>first|exact h.fit p x|exact h'.fit p x
theorem pens_it:Pens Pe.it eit (fun _=>True):=Pens.iff ((pens_text.on (Prod.fst (β:=List UInt8))).seq (pens_text.on (Prod.snd (α:=List UInt8)))) fun x=>by simp
theorem pens_sl:Pens Pe.sl esl (fun _=>True):=Pens.iff ((pens_text.on (fun x:Sl=>estt x.1)).seq (pens_text.on (Prod.snd (α:=Nat)))) fun x=>by simp
theorem pens_page:Pens Pe.page epage (fun g=>g.check=0):=by
 have h1:=(((pens_count 8).on (fun g:Pg=>g.items.length)).seq (pens_it.fold.on Pg.items)).ite (((pens_count 256).on (fun g:Pg=>g.slots.length)).seq (pens_sl.fold.on Pg.slots)) Pg.leaf
 have h2:=Pens.chk ((((pens_blob 31).on Pg.pre).seq (pens_flag.on Pg.leaf)).seq h1) Pg.check
 have e:(fun x:Pg=>(eblob x.pre++eflag x.leaf)++if x.leaf=true then vput x.items.length++(x.items.map eit).flatten else vput x.slots.length++(x.slots.map esl).flatten)=epage:=by
  funext x
  unfold epage ebody eits esls
  rw [List.append_assoc]
 rw [e] at h2
 refine Pens.iff h2 fun g=>⟨fun h=>h.1,fun h=>⟨h,?_⟩⟩
 obtain ⟨g1,g2⟩:=Pg.check_parts h
 refine ⟨⟨by simpa using g1,trivial⟩,?_⟩
 split
 ·rename_i hl
  rw [if_pos hl] at g2
  exact ⟨by simpa using g2.2.1,fun _ _=>trivial⟩
 ·rename_i hl
  rw [if_neg hl] at g2
  exact ⟨by simpa using g2.2.1,fun _ _=>trivial⟩
theorem epage_len{g:Pg}(h:g.check=0):(epage g).length≤9000:=by
 obtain ⟨g1,g2⟩:=Pg.check_parts h
 have e1:=vput_len10 (n:=g.pre.length) (by omega)
 unfold epage ebody eblob eflag
 split at g2
 ·rename_i hl
  obtain ⟨h1,h2,h3⟩:=g2
  have hb:=flat_bound eit 64 g.items fun x hx=>by
   have:=itcheck_len _ _ _ h3 x hx
   unfold eit;rw [List.length_append];omega
  have:=Nat.mul_le_mul_right 64 h2
  have e2:=vput_len10 (n:=g.items.length) (by omega)
  simp only [if_pos hl]
  unfold eits
  simp only [List.length_append,List.length_cons,List.length_nil]
  omega
 ·rename_i hl
  obtain ⟨h1,h2,h3,h4⟩:=g2
  have hb:=flat_bound esl 33 g.slots fun x hx=>by
   have:=slcheck_len _ _ h4 x hx
   unfold esl estt;rw [List.length_append,List.length_cons,List.length_nil];omega
  have:=Nat.mul_le_mul_right 33 h2
  have e2:=vput_len10 (n:=g.slots.length) (by omega)
  simp only [if_neg hl]
  unfold esls
  simp only [List.length_append,List.length_cons,List.length_nil]
  omega
end Go.AW
namespace Go.AW
open Go Go.Proofs
attribute [local irreducible] thenQ blockQ RetQ AL AW AC AOp
theorem ref20_Begins(s w:List UInt8)(hs:s.length≤9223372036854775807)(hw:w.length≤9223372036854775807):AC Tryz.prog 108 [sv (bs s),sv (bs w)] [] fun x σ=>x=bv (begins s w)∧σ=[]:=by
 refine AC.wk Tryz.func108 ?_
 unfold begins
 by_cases h:w.length≤s.length
 ·focus (have kxs:=And.intro @Nat.sub_zero h;(repeat' (first|refine G ?_|refine AW.ret ?_|(refine GC ?_ ?_<;>intro h<;>(try simp only [hsB] at h)<;>try exact xf)|(refine GL ?_ ?_<;>intro h<;>(try simp only [hsN] at h)<;>(try simp only [h])<;>(try simp only [hsB] at h)<;>try exact xf)|fail));all_goals clear kxs)
  all_goals first|((all_goals have kxf:=h;first|exact RetQ.xr 0|exact RetQ.xn 0|fail);done)|exact xg
 ·focus ((repeat' (first|refine G ?_|refine AW.ret ?_|(refine GC ?_ ?_<;>intro h<;>(try simp only [hsB] at h)<;>try exact xf)|(refine GL ?_ ?_<;>intro h<;>(try simp only [hsN] at h)<;>(try simp only [h])<;>(try simp only [hsB] at h)<;>try exact xf)|fail)))
  all_goals first|((all_goals have kxf:=h;first|exact RetQ.xr 0|exact RetQ.xn 0|fail);done)|exact xg
theorem digest_Right(s:List UInt8)(hs:s.length≤9223372036854775807):AC Tryz.prog 259 [sv (bs s)] [] fun x σ=>x=bv (decide (s.length=32))∧σ=[]:=by
 refine AC.wk Tryz.func259 ?_
 by_cases h:s.length=32
 ·focus (have kxs:=h;(repeat' (first|refine G ?_|refine AW.ret ?_|(refine GC ?_ ?_<;>intro h<;>(try simp only [hsB] at h)<;>try exact xf)|(refine GL ?_ ?_<;>intro h<;>(try simp only [hsN] at h)<;>(try simp only [h])<;>(try simp only [hsB] at h)<;>try exact xf)|fail));all_goals clear kxs)
  all_goals first|((all_goals have kxf:=h;first|exact RetQ.xr 0|exact RetQ.xn 0|fail);done)|exact xg
 ·focus ((repeat' (first|refine G ?_|refine AW.ret ?_|(refine GC ?_ ?_<;>intro h<;>(try simp only [hsB] at h)<;>try exact xf)|(refine GL ?_ ?_<;>intro h<;>(try simp only [hsN] at h)<;>(try simp only [h])<;>(try simp only [hsB] at h)<;>try exact xf)|fail)))
  all_goals first|((all_goals have kxf:=h;first|exact RetQ.xr 0|exact RetQ.xn 0|fail);done)|exact xg
theorem itcheck_cons(pre:List UInt8)(p:Option (List UInt8))(x:It)(r:List It):itcheck pre p (x::r)=if it1 pre p x≠0 then it1 pre p x else itcheck pre (some x.1) r:=by
 show (if _ then _ else _)=_
 unfold it1
 split
 ·rfl
 split
 ·rfl
 split
 ·rfl
 split
 ·rfl
 ·rfl
theorem page_item(pre last:List UInt8)(p:Option (List UInt8))(first:Bool)(x:It)(hk:keyAhead p last first)(h1:pre.length≤9223372036854775807)(h2:x.1.length≤9223372036854775807)(h3:x.2.length≤9223372036854775807) :
  AC Tryz.prog 258 [sv (bs pre),sv (bs last),bv first,itV x] [] fun y σ=>y=iv .i64 (it1 pre p x)∧σ=[]:=by
 refine AC.wk Tryz.func258 ?_
 obtain ⟨k,h⟩:=x
 simp only at h2 h3 ⊢
 have hr1:=digest_Right k h2
 have hr2:=digest_Right h h3
 have hp:=strings_HasPrefix k pre h2 h1
 have htri:=less_tri k last
 unfold it1
 simp only
 generalize begins k pre=bg at *
 by_cases a1:k.length=32
 case neg=>
  rw [if_pos a1]
  rw [decide_eq_false a1] at hr1
  (have kk1:=uN [] hr1;exact Wd0)
 rw [if_neg (by simpa using a1)]
 rw [decide_eq_true a1] at hr1
 cases bg with
 | false=>
  rw [if_pos rfl]
  (have kk1:=uN [] hr1;have kk2:=uN [] hp;exact Wd0)
 | true=>
 rw [if_neg (by decide)]
 by_cases a4:h.length=32
 case' pos=>rw [decide_eq_true a4] at hr2
 case' neg=>rw [decide_eq_false a4] at hr2
 all_goals
  rcases hk with ⟨rfl,rfl⟩|⟨rfl,rfl⟩
  ·rw [if_neg (show ¬ (afterL none k=false) from fun h=>Bool.noConfusion h)]
   first|rw [if_neg (by simpa using a4)]|rw [if_pos a4]
   (have kk1:=uN [] hr1;have kk2:=uN [] hp;have kk3:=uN [] hr2;exact Wd0)
  ·show AW _ _ _ _ _ _ _
   cases a3:lessB last k with
   | false=>
    have a3':Op.bytesLess last k=false:=a3
    rw [if_pos (by exact a3)]
    (have kxs:=And.intro htri a3';have kk1:=uN [] hr1;have kk2:=uN [] hp;have kk3:=uN [] hr2;exact Wd0)
   | true=>
    have a3':Op.bytesLess last k=true:=a3
    rw [if_neg (by show ¬ lessB last k=false;rw [a3];decide)]
    first|rw [if_neg (by simpa using a4)]|rw [if_pos a4]
    (have kxs:=And.intro htri a3';have kk1:=uN [] hr1;have kk2:=uN [] hp;have kk3:=uN [] hr2;exact Wd0)
section
variable (s : List UInt8) (a : Nat) (e : Int)
theorem ref04_Width:AC Tryz.prog 249 [iv .i64 8] [] fun x σ=>x=bv true∧σ=[]:=by
 refine AC.wk Tryz.func249 ?_
 exact Wd0
end
theorem ring_drop{l r:Ring}{x:Mb}{i:Nat}(h:l.drop i=x::r):(ringD l).drop (i*4)=.s (.string ⟨x.name.toArray⟩)::.s (.int .u64 (x.ep:Nat))::.s (.int .u8 (x.st:Nat))::.l x.toks.length (toksD x.toks)::ringD r:=by
 rw [ringD,flat_drop (f:=mbD) (sz:=4) (fun _=>rfl),h];rfl
theorem mcheck_step{p:List UInt8}{x:Mb}{r:Ring}{R:Int}(h:mcheck p (x::r)=R) :
  (32<x.name.length→R=3)∧(¬ 32<x.name.length→x.name=[]→R=14)∧(¬ 32<x.name.length→x.name≠[]→lessB p x.name=false→R=6)∧
  (¬ 32<x.name.length→x.name≠[]→lessB p x.name=true→(x.ep=0→R=7)∧(x.ep≠0→(3<x.st→R=13)∧(¬ 3<x.st→(16<x.toks.length→R=3)∧(¬ 16<x.toks.length→(rises none x.toks=false→R=6)∧(rises none x.toks=true→mcheck x.name r=R))))):=by
 unfold mcheck at h
 refine ⟨fun h1=>?_,fun h1 h2=>?_,fun h1 h2 h3=>?_,fun h1 h2 h3=>⟨fun h4=>?_,fun h4=>⟨fun h5=>?_,fun h5=>⟨fun h6=>?_,fun h6=>⟨fun h7=>?_,fun h7=>?_⟩⟩⟩⟩⟩
 ·rw [if_pos h1] at h;exact h.symm
 ·rw [if_neg h1,if_pos h2] at h;exact h.symm
 ·rw [if_neg h1,if_neg h2,if_pos h3] at h;exact h.symm
 ·rw [if_neg h1,if_neg h2,if_neg (by simp [h3]),if_pos h4] at h;exact h.symm
 ·rw [if_neg h1,if_neg h2,if_neg (by simp [h3]),if_neg h4,if_pos h5] at h;exact h.symm
 ·rw [if_neg h1,if_neg h2,if_neg (by simp [h3]),if_neg h4,if_neg h5,if_pos h6] at h;exact h.symm
 ·rw [if_neg h1,if_neg h2,if_neg (by simp [h3]),if_neg h4,if_neg h5,if_neg h6,if_pos h7] at h;exact h.symm
 ·rw [if_neg h1,if_neg h2,if_neg (by simp [h3]),if_neg h4,if_neg h5,if_neg h6,if_neg (by simp [h7])] at h;exact h
theorem ring_Check(l:Ring)(hf:l.fits):AC Tryz.prog 228 [.d (.l l.length (ringD l))] [] fun x σ=>x=iv .i64 (Ring.check l)∧σ=[]:=by
 refine AC.wk Tryz.func228 ?_
 have hll:=hf.1
 by_cases h32:32<l.length
 ·have hc:Ring.check l=3:=by unfold Ring.check;rw [if_pos h32]
  rw [hc]
  exact We0
 generalize hR:mcheck [] l=R
 have hc:Ring.check l=R:=by unfold Ring.check;rw [if_neg h32,hR]
 rw [hc]
 focus ((repeat' (first|(refine ADr.nil ?_;try clear hgv)|refine GO ?_|refine AW.ret ?_|(refine GC ?_ ?_<;>intro h<;>(try simp only [hsB] at h)<;>try exact xf)|(refine GD ?_ ?_<;>intro h<;>(try intro hgv)<;>(try simp only [hsN] at h)<;>(try simp only [h])<;>(try simp only [hsB] at h)<;>try exact xf)|(refine GL ?_ ?_<;>intro h<;>(try simp only [hsN] at h)<;>(try simp only [h])<;>(try simp only [hsB] at h)<;>try exact xf)|fail)))
 all_goals first|(exfalso;omega)|skip
 refine AW.rounds [0,2,8,9,10] (fun i:Nat=>[(0,.d (.l l.length (ringD l))),(2,iv .i64 0),(8,.d (.l l.length (ringD l))),(9,iv .i64 l.length),(10,iv .i64 i)]) (fun _=>[])
  (fun i=>i≤l.length∧∃ p,l.ahead i p∧mcheck p (l.drop i)=R) (fun i=>l.length-i) 0 ⟨Nat.zero_le _,[],.inl ⟨rfl,rfl⟩,hR⟩ rfl rfl (fun _ _=>Nat.zero_le _) (fun _ _=>rfl) (fun _ _=>rfl) ?_
 rintro i ⟨hi,p,hp,hr⟩ J hJ
 by_cases hil:i<l.length
 case neg=>
  focus ((repeat' (first|(refine ADr.nil ?_;try clear hgv)|refine GO ?_|refine AW.ret ?_|(refine GC ?_ ?_<;>intro h<;>(try simp only [hsB] at h)<;>try exact xf)|(refine GD ?_ ?_<;>intro h<;>(try intro hgv)<;>(try simp only [hsN] at h)<;>(try simp only [h])<;>(try simp only [hsB] at h)<;>try exact xf)|(refine GL ?_ ?_<;>intro h<;>(try simp only [hsN] at h)<;>(try simp only [h])<;>(try simp only [hsB] at h)<;>try exact xf)|fail)))
  have h0:l.drop i=[]:=List.drop_eq_nil_of_le (by omega)
  rw [h0] at hr
  have hR0:R=0:=hr.symm
  rw [hR0]
  (all_goals first|exact RetQ.fr 0|exact RetQ.fn 0|fail)
 obtain ⟨x,r,hd⟩:=next_at hil
 have hcd:=ring_drop hd
 rw [hd] at hr
 obtain ⟨c1,c2,c3,c4⟩:=mcheck_step hr
 obtain ⟨⟨hep,hst,_⟩,hxl,htl⟩:=hf.2 x (next_mem hd)
 have hnx:∀ hx:¬ 32<x.name.length,l.ahead (i+1) x.name:=fun hx=>.inr ⟨by omega,by omega,x,r,by simpa using hd,rfl⟩
 have hnd:=next_drop hd
 have hri:=ring_rising x.toks htl
 have go:¬ 32<x.name.length→mcheck x.name r=R→∀ T' σ',keepT T' [0,2,8,9,10]=[(0,.d (.l l.length (ringD l))),(2,iv .i64 0),(8,.d (.l l.length (ringD l))),(9,iv .i64 l.length),(10,iv .i64 ((i:Int)+1))]→J T' σ':=fun h1 h2 T' σ' h3=>
  hJ (i+1) T' σ' (by omega) ⟨hil,x.name,hnx h1,by rw [hnd];exact h2⟩ h3 rfl
 clear hJ hr hR
 generalize rises none x.toks=rr at *
 by_cases a1:32<x.name.length
 ·rw [c1 a1]
  (have kxs:=hcd;exact We0)
 by_cases a2:x.name=[]
 ·rw [c2 a1 a2]
  (have kxs:=And.intro hcd a2;exact We0)
 cases a3:lessB p x.name with
 | false=>
  rw [c3 a1 a2 a3]
  rcases hp with ⟨rfl,rfl⟩|⟨h0,hpl,y,r',hp,rfl⟩
  ·exfalso
   cases hx:x.name with
   | nil=>exact a2 hx
   | cons b t=>
    have h9:lessB [] (b::t)=true:=less_nil_cons b t
    rw [hx,h9] at a3;cases a3
  ·have hcp:=ring_drop hp
   have hi1:((i:Int)-1).toNat=i-1:=by omega
   have htri:=less_tri x.name y.name
   have a3':Op.bytesLess y.name x.name=false:=a3
   (have kxs:=And.intro hcd (And.intro hcp (And.intro hi1 (And.intro htri a3')));exact We0)
 | true=>
  obtain ⟨c5,c6⟩:=c4 a1 a2 a3
  have a3':Op.bytesLess p x.name=true:=a3
  by_cases a4:x.ep=0
  ·rw [c5 a4]
   rcases hp with ⟨rfl,rfl⟩|⟨h0,hpl,y,r',hp,rfl⟩
   ·(have kxs:=And.intro hcd a4;exact We0)
   ·have hcp:=ring_drop hp
    have hi1:((i:Int)-1).toNat=i-1:=by omega
    have htri:=less_tri x.name y.name
    (have kxs:=And.intro hcd (And.intro hcp (And.intro hi1 (And.intro htri (And.intro a3' a4))));exact We0)
  obtain ⟨c7,c8⟩:=c6 a4
  by_cases a5:3<x.st
  ·rw [c7 a5]
   rcases hp with ⟨rfl,rfl⟩|⟨h0,hpl,y,r',hp,rfl⟩
   ·(have kxs:=hcd;exact We0)
   ·have hcp:=ring_drop hp
    have hi1:((i:Int)-1).toNat=i-1:=by omega
    have htri:=less_tri x.name y.name
    (have kxs:=And.intro hcd (And.intro hcp (And.intro hi1 (And.intro htri a3')));exact We0)
  obtain ⟨c9,c10⟩:=c8 a5
  by_cases a6:16<x.toks.length
  ·rw [c9 a6]
   rcases hp with ⟨rfl,rfl⟩|⟨h0,hpl,y,r',hp,rfl⟩
   ·(have kxs:=hcd;exact We0)
   ·have hcp:=ring_drop hp
    have hi1:((i:Int)-1).toNat=i-1:=by omega
    have htri:=less_tri x.name y.name
    (have kxs:=And.intro hcd (And.intro hcp (And.intro hi1 (And.intro htri a3')));exact We0)
  obtain ⟨c11,c12⟩:=c10 a6
  cases rr with
  | false=>
   rw [c11 rfl]
   rcases hp with ⟨rfl,rfl⟩|⟨h0,hpl,y,r',hp,rfl⟩
   ·(have kxs:=hcd;have kk1:=uN [] hri;exact We0)
   ·have hcp:=ring_drop hp
    have hi1:((i:Int)-1).toNat=i-1:=by omega
    have htri:=less_tri x.name y.name
    (have kxs:=And.intro hcd (And.intro hcp (And.intro hi1 (And.intro htri a3')));have kk1:=uN [] hri;exact We0)
  | true=>
   have go:=go a1 (c12 rfl)
   rcases hp with ⟨rfl,rfl⟩|⟨h0,hpl,y,r',hp,rfl⟩
   ·(have kxs:=hcd;have kk1:=uN [] hri;exact Weh)
   ·have hcp:=ring_drop hp
    have hi1:((i:Int)-1).toNat=i-1:=by omega
    have htri:=less_tri x.name y.name
    (have kxs:=And.intro hcd (And.intro hcp (And.intro hi1 (And.intro htri a3')));have kk1:=uN [] hri;exact Weh)
end Go.AW
