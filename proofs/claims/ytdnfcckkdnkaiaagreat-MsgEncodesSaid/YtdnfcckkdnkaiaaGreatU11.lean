/-
  numbers of eight bytes that are read; rising tokens; right rings: the program's and the document's.
-/
import Derived.Test.YtdnfcckkdnkaiaaGreatU09
import Derived.Test.YtdnfcckkdnkaiaaGreatU10
set_option linter.unusedVariables false
set_option linter.unusedSimpArgs false
set_option maxHeartbeats 4000000
set_option maxRecDepth 10000
namespace Go.AW
open Go Go.Proofs
attribute [local irreducible] thenQ blockQ RetQ AL AW AC AOp
theorem val8_snoc(l:List UInt8)(b:UInt8):val8 (l++[b])=val8 l*256+b.toNat:=by simp [val8,List.foldl_append]
theorem val8_go:∀ (l:List UInt8) (n:Nat),l.foldl (fun n b=>n*256+b.toNat) n<(n+1)*256^l.length
 | [],n=>by simp
 | b::l,n=>by
  have ih:=val8_go l (n*256+b.toNat)
  have hb:=b.toNat_lt
  have h2:(n*256+b.toNat+1)*256^l.length≤((n+1)*256)*256^l.length:=Nat.mul_le_mul_right _ (by omega)
  rw [List.length_cons,Nat.pow_succ,List.foldl_cons]
  rw [show (n+1)*(256^l.length*256)=((n+1)*256)*256^l.length by rw [Nat.mul_comm (256^l.length) 256,Nat.mul_assoc]]
  omega
theorem val8_lt(l:List UInt8):val8 l<256^l.length:=by
 have:=val8_go l 0
 simpa [val8] using this
theorem lts_map(m:Nat):∀ l:List D,lts m (l.map V.d)=true
 | []=>rfl
 | x::l=>by
  show (true&&lts m (l.map V.d))=true
  rw [lts_map m l];rfl
theorem or_byte{n x:Nat}(hn:n<72057594037927936)(hx:x<256):bitI .or .u64 ((n:Int)*256) (x:Int)=((n*256+x:Nat):Int):=by
 have h:=or_u64 (x:=n*256) (y:=x) (by omega) (by omega)
 rw [show ((n*256:Nat):Int)=(n:Int)*256 by push_cast;rfl] at h
 rw [h,Nat.or_comm,show n*256=n*2^8 from rfl,or_high (by omega),Nat.add_comm]
theorem pow256{i:Nat}(hi:i<8):256^i≤72057594037927936:=by
 have:256^i≤256^7:=Nat.pow_le_pow_right (by decide) (by omega)
 have e:256^7=72057594037927936:=by decide
 omega
section
variable (s : List UInt8) (a : Nat) (e : Int)
theorem fixed_right:AC Tryz.prog 275 [iv .i64 8] [] fun x σ=>x=bv true∧σ=[]:=by
 refine AC.wk Tryz.func275 ?_
 exact Wd0
theorem fixed_Take(h:Cu.Ok ⟨s,a,e⟩):AC Tryz.prog 266 [.p 0 0,iv .i64 8] [Cu.ob ⟨s,a,e⟩] fun x σ=>x=iv .u64 (Cu.num8 ⟨s,a,e⟩).1∧σ=[Cu.ob (Cu.num8 ⟨s,a,e⟩).2]:=by
 refine AC.wk Tryz.func266 ?_
 have hb:=cursor_Bytes s a e 8 h
 have hl:(Cu.bytes ⟨s,a,e⟩ 8).1=[]∨(Cu.bytes ⟨s,a,e⟩ 8).1.length=8:=by
  unfold Cu.bytes
  split
  ·exact .inl rfl
  split
  ·exact .inl rfl
  split
  ·exact .inl rfl
  ·right
   rw [List.length_take,List.length_drop]
   simp only at *
   omega
 unfold Cu.num8
 generalize Cu.bytes ⟨s,a,e⟩ 8=z at *
 obtain ⟨l,c⟩:=z
 simp only at hl hb ⊢
 obtain ⟨w,hw8,hwv,hws⟩:∃ w:List UInt8,w.length=8∧val8 w=val8 l∧setAt [V.d (D.s (.int .u8 0)),V.d (D.s (.int .u8 0)),V.d (D.s (.int .u8 0)),V.d (D.s (.int .u8 0)),V.d (D.s (.int .u8 0)),V.d (D.s (.int .u8 0)),V.d (D.s (.int .u8 0)),V.d (D.s (.int .u8 0))] 0 ((bsD l).map V.d)=(bsD w).map V.d:=by
  rcases hl with rfl|hl
  ·exact ⟨List.replicate 8 0,rfl,rfl,rfl⟩
  ·refine ⟨l,hl,rfl,?_⟩
   match l,hl with
   | [b0,b1,b2,b3,b4,b5,b6,b7],_=>rfl
 have hll:l.length≤8:=by rcases hl with rfl|hl<;>simp_all
 have hln:((bsD w).map V.d).length=8:=by rw [List.length_map,bsD,List.length_map,hw8]
 have htk:List.take 8 ((bsD w).map V.d)=(bsD w).map V.d:=List.take_of_length_le (by rw [hln];exact Nat.le_refl _)
 focus (have kxs:=And.intro hws (And.intro hln htk);have kk1:=uN [] fixed_right;have kk2:=uN [0] hb;(repeat' (first|(refine ADr.nil ?_;try clear hgv)|refine GW ?_|refine AW.ret ?_|(refine GC ?_ ?_<;>intro h<;>(try simp only [hsB] at h)<;>try exact xf)|(refine GD ?_ ?_<;>intro h<;>(try intro hgv)<;>(try simp only [hsN] at h)<;>(try simp only [h])<;>(try simp only [hsB] at h)<;>try exact xf)|(refine GL ?_ ?_<;>intro h<;>(try simp only [hsN] at h)<;>(try simp only [h])<;>(try simp only [hsB] at h)<;>try exact xf)|fail));all_goals clear kxs kk1 kk2)
 all_goals first|(exfalso;simp_all;done)|skip
 rw [←hwv]
 refine AW.rounds [4,6,21,22] (fun i:Nat=>[(4,iv .u64 0),(6,iv .u64 (val8 (w.take i))),(21,.a ((bsD w).map V.d)),(22,iv .i64 i)]) (fun i=>[Cu.ob c])
  (fun i=>i≤8) (fun i=>8-i) 0 (Nat.zero_le _) rfl rfl (fun _ _=>Nat.le_of_ble_eq_true rfl) (fun _ _=>rfl) (fun _ _=>by simp [tLt,V.lt,lts_map]) ?_
 intro i hi J hJ
 have hlt:=val8_lt (w.take i)
 rw [List.length_take,Nat.min_eq_left (by omega)] at hlt
 by_cases hil:i<8
 ·obtain ⟨b,r,hd⟩:=next_at (l:=w) (i:=i) (by omega)
  have hp:=pow256 (i:=i) hil
  have hbl:=b.toNat_lt
  have hn:=or_byte (n:=val8 (w.take i)) (x:=b.toNat) (by omega) hbl
  rw [←val8_snoc,←next_take hd] at hn
  have hg:((bsD w).map V.d)[i]? = some (.d (.s (.int .u8 b.toNat))):=by
   have:=congrArg (fun y=>y.head?) hd
   simp only [List.head?_drop,List.head?_cons] at this
   rw [List.getElem?_map,bsD,List.getElem?_map,this];rfl
  have hbd:((val8 (w.take i):Nat):Int)*256≤18446744073709551615:=by omega
  have hsh:IntKind.wrap .u64 (((val8 (w.take i):Nat):Int)*2^(min 8 64))=((val8 (w.take i):Nat):Int)*256:=by
   rw [show ((2:Int)^(min 8 64))=256 from rfl]
   exact wrap_u64 (by omega) hbd
  focus (have kxs:=And.intro hsh (And.intro hn hg);(repeat' (first|(refine ADr.nil ?_;try clear hgv)|refine GO ?_|refine AW.ret ?_|(refine GC ?_ ?_<;>intro h<;>(try simp only [hsB] at h)<;>try exact xf)|(refine GD ?_ ?_<;>intro h<;>(try intro hgv)<;>(try simp only [hsN] at h)<;>(try simp only [h])<;>(try simp only [hsB] at h)<;>try exact xf)|(refine GL ?_ ?_<;>intro h<;>(try simp only [hsN] at h)<;>(try simp only [h])<;>(try simp only [hsB] at h)<;>try exact xf)|fail));all_goals clear kxs)
  all_goals first|(refine hJ (i+1) _ _ (by omega) hil rfl rfl)|(exfalso;simp_all;done)
 ·have hi2:i=8:=by omega
  rw [hi2,List.take_of_length_le (by omega)]
  exact We1
end
abbrev toksD(l:List Nat):List D:=l.map fun t=>D.s (.int .u64 (t:Nat))
theorem toks_drop{l r:List Nat}{t i:Nat}(h:l.drop i=t::r):(toksD l).drop i=.s (.int .u64 (t:Nat))::toksD r:=by
 rw [toksD,←List.map_drop,h];rfl
theorem ring_rising(l:List Nat)(hl:l.length≤9223372036854775807):AC Tryz.prog 260 [.d (.l l.length (toksD l))] [] fun x σ=>x=bv (rises none l)∧σ=[]:=by
 refine AC.wk Tryz.func260 ?_
 generalize hR:rises none l=R
 focus ((repeat' (first|(refine ADr.nil ?_;try clear hgv)|refine GO ?_|refine AW.ret ?_|(refine GC ?_ ?_<;>intro h<;>(try simp only [hsB] at h)<;>try exact xf)|(refine GD ?_ ?_<;>intro h<;>(try intro hgv)<;>(try simp only [hsN] at h)<;>(try simp only [h])<;>(try simp only [hsB] at h)<;>try exact xf)|(refine GL ?_ ?_<;>intro h<;>(try simp only [hsN] at h)<;>(try simp only [h])<;>(try simp only [hsB] at h)<;>try exact xf)|fail)))
 refine AW.rounds [0,2,3] (fun i:Nat=>[(0,.d (.l l.length (toksD l))),(2,bv false),(3,iv .i64 i)]) (fun _=>[])
  (fun i=>1≤i∧(i≤l.length∨l=[])∧(l≠[]→∃ q,l.drop (i-1)=q::l.drop i∧rises (some q) (l.drop i)=R)) (fun i=>l.length-i) 1
  ⟨Nat.le_refl _,by cases l<;>simp,fun h=>by
   cases l with
   | nil=>exact absurd rfl h
   | cons t r=>exact ⟨t,rfl,hR⟩⟩ rfl rfl (fun _ _=>Nat.zero_le _) (fun _ _=>rfl) (fun _ _=>rfl) ?_
 rintro i ⟨h1,h2,h3⟩ J hJ
 by_cases hil:i<l.length
 ·have hne:l≠[]:=by rintro rfl;simp at hil
  obtain ⟨q,hq,hr⟩:=h3 hne
  obtain ⟨t,r,hd⟩:=next_at hil
  have hcd:=toks_drop hd
  have hcq:=toks_drop hq
  have hi1:((i:Int)-1).toNat=i-1:=by omega
  rw [hd] at hr
  have hr2:(decide (q<t)&&rises (some t) r)=R:=hr
  have hnd:=next_drop hd
  focus (have kxs:=And.intro hcd (And.intro hcq (And.intro hi1 @Nat.mul_one));(repeat' (first|(refine ADr.nil ?_;try clear hgv)|refine GO ?_|refine AW.ret ?_|(refine GC ?_ ?_<;>intro h<;>(try simp only [hsB] at h)<;>try exact xf)|(refine GD ?_ ?_<;>intro h<;>(try intro hgv)<;>(try simp only [hsN] at h)<;>(try simp only [h])<;>(try simp only [hsB] at h)<;>try exact xf)|(refine GL ?_ ?_<;>intro h<;>(try simp only [hsN] at h)<;>(try simp only [h])<;>(try simp only [hsB] at h)<;>try exact xf)|fail));all_goals clear kxs)
  all_goals first
   | (rw [show R=false from by rw [←hr2,decide_eq_false (by omega)];rfl];(all_goals first|exact RetQ.fr 0|exact RetQ.fn 0|fail);done)
   | (refine hJ (i+1) _ _ (by omega) ⟨by omega,.inl hil,fun _=>⟨t,?_,?_⟩⟩ rfl rfl
      ·rw [hnd];exact hd
      ·rw [hnd,←hr2,decide_eq_true (show q<t by omega)];rfl)
   | (exfalso;clear hJ hr hr2 hR h3;simp_all;done)
 ·have hR0:R=true:=by
    rcases h2 with h2|rfl
    ·by_cases hne:l=[]
     ·subst hne;exact hR.symm
     ·obtain ⟨q,hq,hr⟩:=h3 hne
      rw [List.drop_eq_nil_of_le (by omega)] at hr
      exact hr.symm
    ·exact hR.symm
  rw [hR0]
  exact We0
def mbD(x:Mb):List D:=[.s (.string ⟨x.name.toArray⟩),.s (.int .u64 (x.ep:Nat)),.s (.int .u8 (x.st:Nat)),.l x.toks.length (toksD x.toks)]
abbrev mbV(x:Mb):V:=.a [sv (bs x.name),iv .u64 (x.ep:Nat),iv .u8 (x.st:Nat),.d (.l x.toks.length (toksD x.toks))]
abbrev ringD(l:Ring):List D:=(l.map mbD).flatten
def Ring.fits(l:Ring):Prop:=l.length≤9223372036854775807∧∀ x ∈ l,x.fits∧x.name.length≤9223372036854775807∧x.toks.length≤9223372036854775807
def Ring.ahead(l:Ring)(i:Nat)(p:List UInt8):Prop:=(i=0∧p=[])∨(0<i∧p.length≤32∧∃ y r,l.drop (i-1)=y::r∧y.name=p)
end Go.AW
namespace Go.AW
section
variable {α : Type} {R : Cu → α × Cu} {W : Pe → α → Pe} {enc : α → List UInt8} {good ok : α → Prop} {d : α}
def Cu.nest(R:Cu→α × Cu)(d:α)(c:Cu):α × Cu:=if (c.blob 65536).2.e=0 then ((rdw R d (c.blob 65536).1).1,(c.blob 65536).2.fail (rdw R d (c.blob 65536).1).2) else (d,(c.blob 65536).2)
theorem Cu.fail_zero(c:Cu):c.fail 0=c:=by
 unfold Cu.fail
 by_cases h:c.e=0
 ·rw [if_pos h,←h]
 ·rw [if_neg h]
def Pe.nest(W:Pe→α→Pe)(p:Pe)(x:α):Pe:=(p.fail (wre W x).2).blob 65536 (wre W x).1
theorem Pe.fail_zero(p:Pe):p.fail 0=p:=by
 unfold Pe.fail
 by_cases h:p.e=0
 ·rw [if_pos h,←h]
 ·rw [if_neg h]
end
structure Mg where
 kind:Nat
 id:Nat
 key:List UInt8
 found:Bool
 obj:Oj
 old:Od
 ctx:Vec
 meta_:Prs
 dead:Bool
 val:List UInt8
 pre:List UInt8
 page:Pg
 ring:Ring
 code:Int
 txt:List UInt8
def mg0:Mg:=⟨0,0,[],false,oj0,od0,[],[],false,[],[],pg0,[],0,[]⟩
def has(v k:Nat):Bool:=if v=1 then decide (k=1∨k=2∨k=8) else decide (v=2∧1≤k∧k≤9)
def keychk(s:List UInt8):Int:=if 128<s.length then 3 else if s=[] then 14 else 0
def longchk(s:List UInt8)(n:Nat):Int:=if n<s.length then 3 else 0
def codechk(n:Int):Int:=if n<0 then 1 else if 255<n then 3 else 0
def fst0(a b:Int):Int:=if a≠0 then a else b
def Mg.chk(v:Nat)(m:Mg):Int:=
 match m.kind with
 | 1=>keychk m.key
 | 2=>if m.found=true then (if v=1 then m.old.check else m.obj.check) else 0
 | 3=>fst0 (keychk m.key) (fst0 (Vec.check m.ctx) (fst0 (Prs.check m.meta_) (longchk m.val 32768)))
 | 4=>Vec.check m.ctx
 | 5=>longchk m.pre 31
 | 6=>m.page.check
 | 7=>Ring.check m.ring
 | 8=>fst0 (codechk m.code) (longchk m.txt 64)
 | _=>m.obj.check
def Mg.check(v:Nat)(m:Mg):Int:=if v≠1∧v≠2 then 10 else if has v m.kind=false then 11 else m.chk v
def Mg.pl(v:Nat)(m:Mg):Mg:=
 match m.kind with
 | 1=>{ mg0 with kind:=1,id:=m.id,key:=m.key }
 | 2=>{ mg0 with kind:=2,id:=m.id,found:=m.found,old:=if m.found=true∧v=1 then m.old else od0,obj:=if m.found=true∧v=2 then m.obj else oj0 }
 | 3=>{ mg0 with kind:=3,id:=m.id,key:=m.key,ctx:=m.ctx,meta_:=m.meta_,dead:=m.dead,val:=m.val }
 | 4=>{ mg0 with kind:=4,id:=m.id,ctx:=m.ctx }
 | 5=>{ mg0 with kind:=5,id:=m.id,pre:=m.pre }
 | 6=>{ mg0 with kind:=6,id:=m.id,page:=m.page }
 | 7=>{ mg0 with kind:=7,id:=m.id,ring:=m.ring }
 | 8=>{ mg0 with kind:=8,id:=m.id,code:=m.code,txt:=m.txt }
 | k=>{ mg0 with kind:=k,id:=m.id,obj:=m.obj }
def Mg.plain(v:Nat)(m:Mg):Mg:=if has v m.kind=false then mg0 else m.pl v
def Mg.nums(m:Mg):Prop:=(∀ x ∈ m.ctx,x.2<18446744073709551616)∧(∀ x ∈ m.obj.sibs,gnum x)∧(∀ x ∈ m.old.sibs,∀ y ∈ x.clk,y.2<18446744073709551616)∧(∀ x ∈ m.ring,x.fits)∧∀ x ∈ m.page.slots,x.1<256
def Pe.ringp(p:Pe)(l:Ring):Pe:=if Ring.check l≠0 then p.fail (Ring.check l) else p.text (ering l)
def Pe.mbody(v:Nat)(p:Pe)(m:Mg):Pe:=
 match m.kind with
 | 1=>p.blob 128 m.key
 | 2=>if m.found=true then (if v=1 then Pe.nest Pe.old (p.flag m.found) m.old else Pe.nest Pe.obj (p.flag m.found) m.obj) else p.flag m.found
 | 3=>((((p.blob 128 m.key).vec m.ctx).prs m.meta_).flag m.dead).blob 32768 m.val
 | 4=>p.vec m.ctx
 | 5=>p.blob 31 m.pre
 | 6=>p.page m.page
 | 7=>p.ringp m.ring
 | 8=>(p.count 255 m.code).blob 64 m.txt
 | _=>Pe.nest Pe.obj p m.obj
def ebodym(v:Nat)(m:Mg):List UInt8:=
 match m.kind with
 | 1=>eblob m.key
 | 2=>eflag m.found++(if m.found=true then (if v=1 then eblob (eold m.old) else eblob (eobj m.obj)) else [])
 | 3=>eblob m.key++(evec m.ctx++(eprs m.meta_++(eflag m.dead++eblob m.val)))
 | 4=>evec m.ctx
 | 5=>eblob m.pre
 | 6=>epage m.page
 | 7=>ering m.ring
 | 8=>vput m.code.toNat++eblob m.txt
 | _=>eblob (eobj m.obj)
def encm(v:Nat)(m:Mg):List UInt8:=vput m.id++ebodym v m
def msge(v:Nat)(m:Mg):List UInt8 × Int:=if m.check v≠0 then ([],m.check v) else Pe.fin (Pe.mbody v (Pe.text ⟨[],65536,0⟩ (vput m.id)) m)
def Cu.mbody(v k:Nat)(id:Nat)(c:Cu):Mg × Cu:=
 match k with
 | 1=>({ mg0 with kind:=1,id:=id,key:=c.okey.1 },c.okey.2)
 | 2=>if v=1 then ({ mg0 with kind:=2,id:=id,found:=c.flag.1,old:=(if c.flag.1=true then (Cu.nest Cu.old od0 c.flag.2) else (od0,c.flag.2)).1 },(if c.flag.1=true then (Cu.nest Cu.old od0 c.flag.2) else (od0,c.flag.2)).2)
  else ({ mg0 with kind:=2,id:=id,found:=c.flag.1,obj:=(if c.flag.1=true then (Cu.nest Cu.obj oj0 c.flag.2) else (oj0,c.flag.2)).1 },(if c.flag.1=true then (Cu.nest Cu.obj oj0 c.flag.2) else (oj0,c.flag.2)).2)
 | 3=>({ mg0 with kind:=3,id:=id,key:=c.okey.1,ctx:=c.okey.2.vec.1,meta_:=c.okey.2.vec.2.prs.1,dead:=c.okey.2.vec.2.prs.2.flag.1,val:=(c.okey.2.vec.2.prs.2.flag.2.blob 32768).1 },(c.okey.2.vec.2.prs.2.flag.2.blob 32768).2)
 | 4=>({ mg0 with kind:=4,id:=id,ctx:=c.vec.1 },c.vec.2)
 | 5=>({ mg0 with kind:=5,id:=id,pre:=(c.blob 31).1 },(c.blob 31).2)
 | 6=>({ mg0 with kind:=6,id:=id,page:=c.page.1 },c.page.2)
 | 7=>({ mg0 with kind:=7,id:=id,ring:=c.ring.1 },c.ring.2)
 | 8=>({ mg0 with kind:=8,id:=id,code:=((c.count 255).1:Nat),txt:=((c.count 255).2.blob 64).1 },((c.count 255).2.blob 64).2)
 | k=>({ mg0 with kind:=k,id:=id,obj:=(Cu.nest Cu.obj oj0 c).1 },(Cu.nest Cu.obj oj0 c).2)
def Cu.msg(v k:Nat)(c:Cu):Mg × Cu:=Cu.mbody v k c.vtake.1 c.vtake.2
def msgw(v k:Nat)(s:List UInt8):Mg × Int:=if v≠1∧v≠2 then (mg0,10) else if has v k=false then (mg0,11) else rdw (Cu.msg v k) mg0 s
theorem longchk_zero{s:List UInt8}{n:Nat}:longchk s n=0↔s.length≤n:=by
 unfold longchk
 split
 ·exact ⟨fun h=>absurd h (by decide),fun h=>by omega⟩
 ·exact ⟨fun _=>by omega,fun _=>rfl⟩
theorem keychk_zero{s:List UInt8}:keychk s=0↔s.length≤128∧s≠[]:=by
 unfold keychk
 split
 ·exact ⟨fun h=>absurd h (by decide),fun h=>by omega⟩
 split
 ·rename_i h;exact ⟨fun h=>absurd h (by decide),fun h2=>absurd h h2.2⟩
 ·rename_i h;exact ⟨fun _=>⟨by omega,h⟩,fun _=>rfl⟩
theorem codechk_zero{n:Int}:codechk n=0↔0≤n∧n≤255:=by
 unfold codechk
 split
 ·exact ⟨fun h=>absurd h (by decide),fun h=>by omega⟩
 split
 ·exact ⟨fun h=>absurd h (by decide),fun h=>by omega⟩
 ·exact ⟨fun _=>by omega,fun _=>rfl⟩
theorem fst0_zero{a b:Int}:fst0 a b=0↔a=0∧b=0:=by
 unfold fst0
 by_cases h:a=0
 ·rw [if_neg (by simpa using h)];exact ⟨fun g=>⟨h,g⟩,fun g=>g.2⟩
 ·rw [if_pos h];exact ⟨fun g=>absurd g h,fun g=>absurd g.1 h⟩
def goodm(v k:Nat)(m:Mg):Prop:=m.kind=k∧m.pl v=m∧m.chk v=0∧m.nums∧(eold m.old).length≤65536∧(eobj m.obj).length≤65536
theorem has_cases{v k:Nat}(h:has v k=true):(v=1∧(k=1∨k=2∨k=8))∨(v=2∧(k=1∨k=2∨k=3∨k=4∨k=5∨k=6∨k=7∨k=8∨k=9)):=by
 unfold has at h
 split at h
 ·simp only [decide_eq_true_eq] at h;exact .inl ⟨by assumption,h⟩
 ·simp only [decide_eq_true_eq] at h;exact .inr ⟨h.1,by omega⟩
theorem n21:¬ ((2:Nat)=1):=by decide
def okl(v:Nat)(m:Mg):Prop:=(eold (m.pl v).old).length≤65536∧(eobj (m.pl v).obj).length≤65536
theorem msgw_has{v k:Nat}(hh:has v k=true)(s:List UInt8):msgw v k s=rdw (Cu.msg v k) mg0 s:=by
 unfold msgw
 rcases has_cases hh with ⟨rfl,_⟩|⟨rfl,_⟩
 ·rw [if_neg (by simp),if_neg (by simp [hh])]
 ·rw [if_neg (by simp),if_neg (by simp [hh])]
end Go.AW
namespace Go.AW
open Go Go.Proofs
attribute [local irreducible] thenQ blockQ RetQ AL AW AC AOp
def mgD(m:Mg):List D:=[.s (.int .u8 (m.kind:Nat)),.s (.int .u64 (m.id:Nat)),.s (.string ⟨m.key.toArray⟩),.s (.bool m.found),.s (.string ⟨m.obj.key.toArray⟩),.l m.obj.sibs.length (sbsD m.obj.sibs),.s (.string ⟨m.old.key.toArray⟩),.l m.old.sibs.length (ossD m.old.sibs),.l m.ctx.length (vecD m.ctx),.l m.meta_.length (prsD m.meta_),.s (.bool m.dead),.s (.string ⟨m.val.toArray⟩),.s (.string ⟨m.pre.toArray⟩),.s (.string ⟨m.page.pre.toArray⟩),.s (.bool m.page.leaf),.l m.page.slots.length (slsD m.page.slots),.l m.page.items.length (itsD m.page.items),.l m.ring.length (ringD m.ring),.s (.int .i64 m.code),.s (.string ⟨m.txt.toArray⟩)]
abbrev mgC(m:Mg):List V:=[iv .u8 (m.kind:Nat),iv .u64 (m.id:Nat),sv (bs m.key),bv m.found,sv (bs m.obj.key),.d (.l m.obj.sibs.length (sbsD m.obj.sibs)),sv (bs m.old.key),.d (.l m.old.sibs.length (ossD m.old.sibs)),.d (.l m.ctx.length (vecD m.ctx)),.d (.l m.meta_.length (prsD m.meta_)),bv m.dead,sv (bs m.val),sv (bs m.pre),sv (bs m.page.pre),bv m.page.leaf,.d (.l m.page.slots.length (slsD m.page.slots)),.d (.l m.page.items.length (itsD m.page.items)),.d (.l m.ring.length (ringD m.ring)),iv .i64 m.code,sv (bs m.txt)]
abbrev mgV(m:Mg):V:=.a (mgC m)
abbrev De:D:=.s (.string ⟨([]:List UInt8).toArray⟩)
abbrev Dn:D:=.s (.slice none 0 0)
abbrev Df:D:=.s (.bool false)
abbrev D0:D:=.s (.int .i64 0)
abbrev qo0:Ob:=.box 86 [.f (.func 168) [] [.p 2 0,.p 3 0,.p 1 0],.f (.func 170) [] [.p 1 0,.p 3 0],.f (.func 172) [] [.p 1 0,.p 3 0,.p 2 0],.f (.func 174) [] [.p 3 0],.f (.func 206) [] [],.f (.func 208) [] [],.f (.func 210) [] [],.f (.func 211) [] [],.f (.func 212) [] [],.f (.func 214) [] [],.f (.func 216) [] [],.f (.func 217) [] [],.f (.func 175) [] [],.f (.func 176) [] [.p 11 0],.f (.func 178) [] [.p 11 0],.f (.func 179) [] [.p 11 0],.f (.func 168) [] [.p 14 0,.p 15 0,.p 13 0],.f (.func 170) [] [.p 13 0,.p 15 0],.f (.func 172) [] [.p 13 0,.p 15 0,.p 14 0],.f (.func 174) [] [.p 15 0]]
abbrev qo1:Ob:=.box 86 [.f (.func 201) [] [],.f (.func 202) [] [],.f (.func 204) [] [],.f (.func 205) [] [],.f (.func 168) [] [.p 7 0,.p 8 0,.p 6 0],.f (.func 170) [] [.p 6 0,.p 8 0],.f (.func 172) [] [.p 6 0,.p 8 0,.p 7 0],.f (.func 174) [] [.p 8 0]]
abbrev qo2:Ob:=.box 86 [.f (.func 201) [] [],.f (.func 202) [] [],.f (.func 204) [] [],.f (.func 205) [] [],.f (.func 168) [] [.p 8 0,.p 9 0,.p 7 0],.f (.func 170) [] [.p 7 0,.p 9 0],.f (.func 172) [] [.p 7 0,.p 9 0,.p 8 0],.f (.func 174) [] [.p 9 0]]
abbrev qo3:Ob:=.box 86 [.f (.func 175) [] [],.f (.func 176) [] [.p 4 0],.f (.func 178) [] [.p 4 0],.f (.func 179) [] [.p 4 0],.f (.func 180) [] [.p 10 0],.f (.func 181) [] [.p 10 0],.f (.func 182) [] [.p 10 0],.f (.func 183) [] [.p 10 0]]
abbrev qo4:Ob:=.box 86 [.f (.func 175) [] [],.f (.func 176) [] [.p 5 0],.f (.func 178) [] [.p 5 0],.f (.func 179) [] [.p 5 0],.f (.func 180) [] [.p 11 0],.f (.func 181) [] [.p 11 0],.f (.func 182) [] [.p 11 0],.f (.func 183) [] [.p 11 0]]
abbrev qo5:Ob:=.box 86 [.f (.func 175) [] [],.f (.func 176) [] [.p 6 0],.f (.func 178) [] [.p 6 0],.f (.func 179) [] [.p 6 0],.f (.func 180) [] [.p 12 0],.f (.func 181) [] [.p 12 0],.f (.func 182) [] [.p 12 0],.f (.func 183) [] [.p 12 0]]
abbrev qo6:Ob:=.box 86 [.f (.func 168) [] [.p 12 0,.p 13 0,.p 11 0],.f (.func 170) [] [.p 11 0,.p 13 0],.f (.func 172) [] [.p 11 0,.p 13 0,.p 12 0],.f (.func 174) [] [.p 13 0]]
abbrev qo7:Ob:=.box 86 [.f (.func 168) [] [.p 9 0,.p 10 0,.p 8 0],.f (.func 170) [] [.p 8 0,.p 10 0],.f (.func 172) [] [.p 8 0,.p 10 0,.p 9 0],.f (.func 174) [] [.p 10 0]]
abbrev qo8:Ob:=.box 86 [.f (.func 168) [] [.p 1 0,.p 2 0,.p 0 0],.f (.func 170) [] [.p 0 0,.p 2 0],.f (.func 172) [] [.p 0 0,.p 2 0,.p 1 0],.f (.func 174) [] [.p 2 0]]
abbrev qo9:Ob:=.box 86 [.f (.func 168) [] [.p 7 0,.p 8 0,.p 6 0],.f (.func 170) [] [.p 6 0,.p 8 0],.f (.func 172) [] [.p 6 0,.p 8 0,.p 7 0],.f (.func 174) [] [.p 8 0]]
abbrev qo10:Ob:=.box 86 [.f (.func 168) [] [.p 2 0,.p 3 0,.p 1 0],.f (.func 170) [] [.p 1 0,.p 3 0],.f (.func 172) [] [.p 1 0,.p 3 0,.p 2 0],.f (.func 174) [] [.p 3 0]]
abbrev qo11:Ob:=.box 86 [.f (.func 168) [] [.p 8 0,.p 9 0,.p 7 0],.f (.func 170) [] [.p 7 0,.p 9 0],.f (.func 172) [] [.p 7 0,.p 9 0,.p 8 0],.f (.func 174) [] [.p 9 0]]
abbrev qo12:Ob:=.box 86 [.f (.func 168) [] [.p 3 0,.p 4 0,.p 2 0],.f (.func 170) [] [.p 2 0,.p 4 0],.f (.func 172) [] [.p 2 0,.p 4 0,.p 3 0],.f (.func 174) [] [.p 4 0]]
abbrev qo13:Ob:=.box 86 [.f (.func 175) [] [],.f (.func 176) [] [.p 11 0],.f (.func 178) [] [.p 11 0],.f (.func 179) [] [.p 11 0]]
abbrev qo14:Ob:=.box 86 [.f (.func 175) [] [],.f (.func 176) [] [.p 4 0],.f (.func 178) [] [.p 4 0],.f (.func 179) [] [.p 4 0]]
abbrev qo15:Ob:=.box 86 [.f (.func 175) [] [],.f (.func 176) [] [.p 5 0],.f (.func 178) [] [.p 5 0],.f (.func 179) [] [.p 5 0]]
abbrev qo16:Ob:=.box 86 [.f (.func 175) [] [],.f (.func 176) [] [.p 6 0],.f (.func 178) [] [.p 6 0],.f (.func 179) [] [.p 6 0]]
abbrev qo17:Ob:=.box 86 [.f (.func 193) [] [],.f (.func 195) [] [],.f (.func 197) [] [],.f (.func 199) [] []]
abbrev qo18:Ob:=.box 86 [.f (.func 184) [] [],.f (.func 186) [] [],.f (.func 189) [] [],.f (.func 191) [] []]
abbrev qo19:Ob:=.box 86 [.f (.func 206) [] [],.f (.func 208) [] [],.f (.func 210) [] [],.f (.func 211) [] []]
abbrev qo20:Ob:=.box 86 [.f (.func 219) [] [],.f (.func 221) [] [],.f (.func 223) [] [],.f (.func 224) [] []]
abbrev qo21:Ob:=.box 86 [.f (.func 227) [] [],.f (.func 229) [] [],.f (.func 232) [] [],.f (.func 233) [] []]
abbrev qo22:Ob:=.box 188 [.f (.func 113) [] []]
abbrev qo23:Ob:=.box 188 [.f (.func 116) [] []]
abbrev qo24:Ob:=.box 188 [.f (.func 124) [] []]
abbrev qo25:Ob:=.box 188 [.f (.func 125) [] []]
abbrev qo26:Ob:=.box 191 [.f (.func 115) [] []]
abbrev qo27:Ob:=.box 191 [.f (.func 121) [] []]
abbrev qo28:Ob:=.box 3 [iv .i64 32768]
abbrev qo29:Ob:=.box 3 [iv .i64 128]
abbrev qo30:Ob:=.box 3 [iv .i64 64]
abbrev qo31:Ob:=.box 3 [iv .i64 31]
def Mg.fits(m:Mg):Prop:=m.kind<256∧m.id<18446744073709551616∧m.key.length≤9223372036854775807∧m.obj.fits∧m.old.fits∧m.ctx.fits∧m.meta_.fits∧m.val.length≤9223372036854775807∧m.pre.length≤9223372036854775807∧m.page.fits∧m.ring.fits∧(-9223372036854775808≤m.code∧m.code≤9223372036854775807)∧m.txt.length≤9223372036854775807
deriving instance DecidableEq for Mb
end Go.AW
