/-
  rings that are read: the program's; whole texts.
-/
import Derived.Test.YtdnfcckkdnkaiaaGreatC08
import Derived.Test.YtdnfcckkdnkaiaaGreatC06
import Derived.Test.YtdnfcckkdnkaiaaGreatC05
import Derived.Test.YtdnfcckkdnkaiaaGreatC07
import Derived.Test.YtdnfcckkdnkaiaaGreatC03
import Derived.Test.YtdnfcckkdnkaiaaGreatC00
set_option linter.unusedVariables false
set_option linter.unusedSimpArgs false
set_option maxHeartbeats 4000000
set_option maxRecDepth 10000
namespace Go.AW
open Go Go.Proofs
attribute [local irreducible] thenQ blockQ RetQ AL AW AC AOp
abbrev Mfam:=Fam Cu.mem (fun (_:List UInt8) (x:Mb)=>x.name)
def enD(x:En):List D:=[.s (.string ⟨x.1.toArray⟩),.s (.int .u64 x.2)]
abbrev vecD(v:Vec):List D:=(v.map enD).flatten
def Vec.fits(v:Vec):Prop:=v.length≤9223372036854775807∧(∀ x ∈ v,x.1.length≤9223372036854775807)∧∀ x ∈ v,x.2<18446744073709551616
def Vec.ahead(v:Vec)(i:Nat)(p:List UInt8):Prop:=(i=0∧p=[])∨(0<i∧p.length≤32∧∃ n r,v.drop (i-1)=(p,n)::r)
abbrev Vfam:=Fam Cu.ent (fun (_:List UInt8) (x:En)=>x.1)
def Vec.last(v:Vec)(p:List UInt8):Prop:=(v=[]∧p=[])∨(0<v.length∧p.length≤32∧∃ n r,v.drop (v.length-1)=(p,n)::r)
abbrev vecsD(l:List Vec):List D:=l.map fun v=>D.l v.length (vecD v)
section
variable (b : List UInt8) (m e : Int)
end
section
variable (b : List UInt8) (m e : Int)
end
abbrev ckV(k:Ck):V:=.a [.d (.l k.ctx.length (vecD k.ctx)),bv k.dotted,sv (bs k.dot.1),iv .u64 k.dot.2]
def Ck.fits(k:Ck):Prop:=k.ctx.fits∧k.dot.1.length≤9223372036854775807∧k.dot.2<18446744073709551616
theorem ck_eq(k o:Ck):(decide (k.ctx=o.ctx)&&(decide (k.dotted=o.dotted)&&(decide (k.dot.1=o.dot.1)&&(decide ((k.dot.2:Int)=o.dot.2)&&true))))=true↔k=o:=by
 obtain ⟨a,b,c,d⟩:=k
 obtain ⟨a',b',c',d'⟩:=o
 simp only [Bool.and_eq_true,decide_eq_true_eq,and_true,Int.natCast_inj,Ck.mk.injEq,Prod.mk.injEq]
instance:DecidableEq Ck:=fun k o=>decidable_of_iff _ (ck_eq k o)
def ckD(k:Ck):List D:=[.l k.ctx.length (vecD k.ctx),.s (.bool k.dotted),.s (.string ⟨k.dot.1.toArray⟩),.s (.int .u64 k.dot.2)]
abbrev cksD(l:List Ck):List D:=(l.map ckD).flatten
section
variable (b : List UInt8) (m e : Int)
end
section
variable (b : List UInt8) (m e : Int)
end
def prD(x:Pr):List D:=[.s (.string ⟨x.1.toArray⟩),.s (.string ⟨x.2.toArray⟩)]
abbrev prsD(v:Prs):List D:=(v.map prD).flatten
def Prs.fits(v:Prs):Prop:=v.length≤9223372036854775807∧(∀ x ∈ v,x.1.length≤9223372036854775807)∧∀ x ∈ v,x.2.length≤9223372036854775807
def Prs.ahead(v:Prs)(i:Nat)(p:List UInt8):Prop:=(i=0∧p=[])∨(0<i∧p.length≤32∧∃ n r,v.drop (i-1)=(p,n)::r)
abbrev Pfam:=Fam Cu.pair (fun (_:List UInt8) (x:Pr)=>x.1)
def Prs.last(v:Prs)(p:List UInt8):Prop:=(v=[]∧p=[])∨(0<v.length∧p.length≤32∧∃ n r,v.drop (v.length-1)=(p,n)::r)
end Go.AW
namespace Go.AW
/-! ### A thing within a blob -/
section
variable {α : Type} {R : Cu → α × Cu} {W : Pe → α → Pe} {enc : α → List UInt8} {good ok : α → Prop} {d : α}
def Cu.nest(R:Cu→α × Cu)(d:α)(c:Cu):α × Cu:=if (c.blob 65536).2.e=0 then ((rdw R d (c.blob 65536).1).1,(c.blob 65536).2.fail (rdw R d (c.blob 65536).1).2) else (d,(c.blob 65536).2)
def Pe.nest(W:Pe→α→Pe)(p:Pe)(x:α):Pe:=(p.fail (wre W x).2).blob 65536 (wre W x).1
end
/-! ### Messages -/
structure Mg where
 kind:Nat
 id:Nat
 key:List UInt8
 found:Bool
 obj:Oj
 old:Od
 ctx:Vec
 meta_:Prs
 dead:Bool
 val:List UInt8
 pre:List UInt8
 page:Pg
 ring:Ring
 code:Int
 txt:List UInt8
def mg0:Mg:=⟨0,0,[],false,oj0,od0,[],[],false,[],[],pg0,[],0,[]⟩
def has(v k:Nat):Bool:=if v=1 then decide (k=1∨k=2∨k=8) else decide (v=2∧1≤k∧k≤9)
def keychk(s:List UInt8):Int:=if 128<s.length then 3 else if s=[] then 14 else 0
def longchk(s:List UInt8)(n:Nat):Int:=if n<s.length then 3 else 0
def codechk(n:Int):Int:=if n<0 then 1 else if 255<n then 3 else 0
def fst0(a b:Int):Int:=if a≠0 then a else b
def Mg.chk(v:Nat)(m:Mg):Int:=
 match m.kind with
 | 1=>keychk m.key
 | 2=>if m.found=true then (if v=1 then m.old.check else m.obj.check) else 0
 | 3=>fst0 (keychk m.key) (fst0 (Vec.check m.ctx) (fst0 (Prs.check m.meta_) (longchk m.val 32768)))
 | 4=>Vec.check m.ctx
 | 5=>longchk m.pre 31
 | 6=>m.page.check
 | 7=>Ring.check m.ring
 | 8=>fst0 (codechk m.code) (longchk m.txt 64)
 | _=>m.obj.check
def Mg.check(v:Nat)(m:Mg):Int:=if v≠1∧v≠2 then 10 else if has v m.kind=false then 11 else m.chk v
def Mg.pl(v:Nat)(m:Mg):Mg:=
 match m.kind with
 | 1=>{ mg0 with kind:=1,id:=m.id,key:=m.key }
 | 2=>{ mg0 with kind:=2,id:=m.id,found:=m.found,old:=if m.found=true∧v=1 then m.old else od0,obj:=if m.found=true∧v=2 then m.obj else oj0 }
 | 3=>{ mg0 with kind:=3,id:=m.id,key:=m.key,ctx:=m.ctx,meta_:=m.meta_,dead:=m.dead,val:=m.val }
 | 4=>{ mg0 with kind:=4,id:=m.id,ctx:=m.ctx }
 | 5=>{ mg0 with kind:=5,id:=m.id,pre:=m.pre }
 | 6=>{ mg0 with kind:=6,id:=m.id,page:=m.page }
 | 7=>{ mg0 with kind:=7,id:=m.id,ring:=m.ring }
 | 8=>{ mg0 with kind:=8,id:=m.id,code:=m.code,txt:=m.txt }
 | k=>{ mg0 with kind:=k,id:=m.id,obj:=m.obj }
def Mg.plain(v:Nat)(m:Mg):Mg:=if has v m.kind=false then mg0 else m.pl v
def Mg.nums(m:Mg):Prop:=(∀ x ∈ m.ctx,x.2<18446744073709551616)∧(∀ x ∈ m.obj.sibs,gnum x)∧(∀ x ∈ m.old.sibs,∀ y ∈ x.clk,y.2<18446744073709551616)∧(∀ x ∈ m.ring,x.fits)∧∀ x ∈ m.page.slots,x.1<256
/-! ### Written -/
def Pe.ringp(p:Pe)(l:Ring):Pe:=if Ring.check l≠0 then p.fail (Ring.check l) else p.text (ering l)
def Pe.mbody(v:Nat)(p:Pe)(m:Mg):Pe:=
 match m.kind with
 | 1=>p.blob 128 m.key
 | 2=>if m.found=true then (if v=1 then Pe.nest Pe.old (p.flag m.found) m.old else Pe.nest Pe.obj (p.flag m.found) m.obj) else p.flag m.found
 | 3=>((((p.blob 128 m.key).vec m.ctx).prs m.meta_).flag m.dead).blob 32768 m.val
 | 4=>p.vec m.ctx
 | 5=>p.blob 31 m.pre
 | 6=>p.page m.page
 | 7=>p.ringp m.ring
 | 8=>(p.count 255 m.code).blob 64 m.txt
 | _=>Pe.nest Pe.obj p m.obj
def ebodym(v:Nat)(m:Mg):List UInt8:=
 match m.kind with
 | 1=>eblob m.key
 | 2=>eflag m.found++(if m.found=true then (if v=1 then eblob (eold m.old) else eblob (eobj m.obj)) else [])
 | 3=>eblob m.key++(evec m.ctx++(eprs m.meta_++(eflag m.dead++eblob m.val)))
 | 4=>evec m.ctx
 | 5=>eblob m.pre
 | 6=>epage m.page
 | 7=>ering m.ring
 | 8=>vput m.code.toNat++eblob m.txt
 | _=>eblob (eobj m.obj)
def encm(v:Nat)(m:Mg):List UInt8:=vput m.id++ebodym v m
def msge(v:Nat)(m:Mg):List UInt8 × Int:=if m.check v≠0 then ([],m.check v) else Pe.fin (Pe.mbody v (Pe.text ⟨[],65536,0⟩ (vput m.id)) m)
/-! ### Read -/
def Cu.mbody(v k:Nat)(id:Nat)(c:Cu):Mg × Cu:=
 match k with
 | 1=>({ mg0 with kind:=1,id:=id,key:=c.okey.1 },c.okey.2)
 | 2=>if v=1 then ({ mg0 with kind:=2,id:=id,found:=c.flag.1,old:=(if c.flag.1=true then (Cu.nest Cu.old od0 c.flag.2) else (od0,c.flag.2)).1 },(if c.flag.1=true then (Cu.nest Cu.old od0 c.flag.2) else (od0,c.flag.2)).2)
  else ({ mg0 with kind:=2,id:=id,found:=c.flag.1,obj:=(if c.flag.1=true then (Cu.nest Cu.obj oj0 c.flag.2) else (oj0,c.flag.2)).1 },(if c.flag.1=true then (Cu.nest Cu.obj oj0 c.flag.2) else (oj0,c.flag.2)).2)
 | 3=>({ mg0 with kind:=3,id:=id,key:=c.okey.1,ctx:=c.okey.2.vec.1,meta_:=c.okey.2.vec.2.prs.1,dead:=c.okey.2.vec.2.prs.2.flag.1,val:=(c.okey.2.vec.2.prs.2.flag.2.blob 32768).1 },(c.okey.2.vec.2.prs.2.flag.2.blob 32768).2)
 | 4=>({ mg0 with kind:=4,id:=id,ctx:=c.vec.1 },c.vec.2)
 | 5=>({ mg0 with kind:=5,id:=id,pre:=(c.blob 31).1 },(c.blob 31).2)
 | 6=>({ mg0 with kind:=6,id:=id,page:=c.page.1 },c.page.2)
 | 7=>({ mg0 with kind:=7,id:=id,ring:=c.ring.1 },c.ring.2)
 | 8=>({ mg0 with kind:=8,id:=id,code:=((c.count 255).1:Nat),txt:=((c.count 255).2.blob 64).1 },((c.count 255).2.blob 64).2)
 | k=>({ mg0 with kind:=k,id:=id,obj:=(Cu.nest Cu.obj oj0 c).1 },(Cu.nest Cu.obj oj0 c).2)
def Cu.msg(v k:Nat)(c:Cu):Mg × Cu:=Cu.mbody v k c.vtake.1 c.vtake.2
def msgw(v k:Nat)(s:List UInt8):Mg × Int:=if v≠1∧v≠2 then (mg0,10) else if has v k=false then (mg0,11) else rdw (Cu.msg v k) mg0 s
def goodm(v k:Nat)(m:Mg):Prop:=m.kind=k∧m.pl v=m∧m.chk v=0∧m.nums∧(eold m.old).length≤65536∧(eobj m.obj).length≤65536
/-! ### What is written -/
def okl(v:Nat)(m:Mg):Prop:=(eold (m.pl v).old).length≤65536∧(eobj (m.pl v).obj).length≤65536
end Go.AW
namespace Go.AW
open Go Go.Proofs
attribute [local irreducible] thenQ blockQ RetQ AL AW AC AOp
attribute [go_sem] apB srcB
theorem pt_id(c:Cu)(hok:c.Ok):AC Tryz.prog 95 [.p 0 0] [Cu.ob c] fun y σ=>y=.t []∧σ=[Cu.ob (Cu.vtake c).2]:=by
 refine AC.wk Tryz.func95 ?_
 have hb:=varint_Take c.s c.a c.e hok
 have he:Cu.vtake c=Cu.vtake ⟨c.s,c.a,c.e⟩:=rfl
 rw [he]
 generalize Cu.vtake ⟨c.s,c.a,c.e⟩=z at *
 obtain ⟨t,c1⟩:=z
 simp only at hb ⊢
 (have kk1:=uN [0] hb;exact Wc1)
theorem pt_key(c:Cu)(hok:c.Ok):AC Tryz.prog 242 [.p 0 0] [Cu.ob c] fun y σ=>y=.t []∧σ=[Cu.ob (Cu.okey c).2]:=by
 refine AC.wk Tryz.func242 ?_
 have hb:=blob_Take c.s c.a c.e 128 hok (by decide)
 obtain ⟨R,hR⟩:∃ R,R=Cu.okey c:=⟨_,rfl⟩
 rw [←hR]
 unfold Cu.okey at hR
 have he:Cu.blob c 128=Cu.blob ⟨c.s,c.a,c.e⟩ 128:=rfl
 rw [he] at hR
 generalize Cu.blob ⟨c.s,c.a,c.e⟩ 128=z at *
 obtain ⟨t,c1⟩:=z
 simp only at hb hR
 have hfl:=cursor_Fail c1.s c1.a c1.e 14
 by_cases h0:t=[]
 ·subst h0
  rw [decide_eq_false (by simp)] at hR
  have hR:R=([],c1.fail 14):=hR
  subst hR
  (have kk1:=uN [0] hb;have kk2:=uN [0] hfl;exact Wc1)
 ·rw [decide_eq_true h0] at hR
  have hR:R=(t,c1):=hR
  subst hR
  (have kxs:=h0;have kk1:=uN [0] hb;have kk2:=uN [0] hfl;exact Wc1)
end Go.AW
namespace Go.AW
abbrev Spn:=List UInt8 × (Nat × Nat)
abbrev Prd:=List UInt8 × (Cu→Cu)
def spansr:List Prd→Cu→List Spn × Cu
 | [],c=>([],c)
 | x::l,c=>if (x.2 c).e≠0 then ([],x.2 c) else ((x.1,(c.a,(x.2 c).a))::(spansr l (x.2 c)).1,(spansr l (x.2 c)).2)
def runs(l:List Prd)(c:Cu):Cu:=l.foldl (fun c x=>x.2 c) c
def Stk(l:List Prd):Prop:=∀ x ∈ l,∀ c:Cu,c.e≠0→x.2 c=c
def nId:List UInt8:=[105,100]
def nKey:List UInt8:=[107,101,121]
def nFound:List UInt8:=[102,111,117,110,100]
def nOld:List UInt8:=[111,108,100]
def nObject:List UInt8:=[111,98,106,101,99,116]
def nCtx:List UInt8:=[99,116,120]
def nMeta:List UInt8:=[109,101,116,97]
def nDead:List UInt8:=[100,101,97,100]
def nValue:List UInt8:=[118,97,108,117,101]
def nPrefix:List UInt8:=[112,114,101,102,105,120]
def nPage:List UInt8:=[112,97,103,101]
def nRing:List UInt8:=[114,105,110,103]
def nCode:List UInt8:=[99,111,100,101]
def nText:List UInt8:=[116,101,120,116]
def kparts(v k:Nat)(found:Bool):List Prd:=
 match k with
 | 1=>[(nKey,fun c=>c.okey.2)]
 | 2=>(nFound,fun c=>c.flag.2)::if found=true then [(if v=1 then nOld else nObject,fun c=>(c.blob 65536).2)] else []
 | 3=>[(nKey,fun c=>c.okey.2),(nCtx,fun c=>c.vec.2),(nMeta,fun c=>c.prs.2),(nDead,fun c=>c.flag.2),(nValue,fun c=>(c.blob 32768).2)]
 | 4=>[(nCtx,fun c=>c.vec.2)]
 | 5=>[(nPrefix,fun c=>(c.blob 31).2)]
 | 6=>[(nPage,fun c=>c.page.2)]
 | 7=>[(nRing,fun c=>c.ring.2)]
 | 8=>[(nCode,fun c=>(c.count 255).2),(nText,fun c=>(c.blob 64).2)]
 | _=>[(nObject,fun c=>(c.blob 65536).2)]
def pparts(v k:Nat)(c:Cu):List Prd:=(nId,fun c=>c.vtake.2)::kparts v k c.vtake.2.flag.1
def partw(v k:Nat)(s:List UInt8):List Spn × Int:=
 if v≠1∧v≠2 then ([],10) else if has v k=false then ([],11) else ((spansr (pparts v k ⟨s,0,0⟩) ⟨s,0,0⟩).1,(spansr (pparts v k ⟨s,0,0⟩) ⟨s,0,0⟩).2.fin.e)
end Go.AW
namespace Go.AW
open Go
abbrev Sp:=List UInt8 × (Int × Int)
def spD(x:Sp):List D:=[.s (.string ⟨x.1.toArray⟩),.s (.int .i64 x.2.1),.s (.int .i64 x.2.2)]
abbrev spsD(l:List Sp):List D:=(l.map spD).flatten
theorem sps_drop{v r:List Sp}{x:Sp}{i:Nat}(h:v.drop i=x::r):(spsD v).drop (i*3)=.s (.string ⟨x.1.toArray⟩)::.s (.int .i64 x.2.1)::.s (.int .i64 x.2.2)::spsD r:=by
 rw [spsD,flat_drop (f:=spD) (sz:=3) (fun _=>rfl),h];rfl
def upS(x:Spn):Sp:=(x.1,((x.2.1:Nat):Int),((x.2.2:Nat):Int))
abbrev spnsD(l:List Spn):List D:=spsD (l.map upS)
theorem spns_snoc(l:List Spn)(x:Spn):spnsD (l++[x])=spnsD l++[D.s (.string ⟨x.1.toArray⟩),.s (.int .i64 (x.2.1:Nat)),.s (.int .i64 (x.2.2:Nat))]:=by
 simp [spnsD,spsD,upS,spD]
def cutS(s:List UInt8)(x:Sp):List UInt8:=if x.2.1<0∨(s.length:Int)<x.2.2∨x.2.2<x.2.1 then [] else (s.drop x.2.1.toNat).take (x.2.2.toNat-x.2.1.toNat)
def strsD(l:List (List UInt8)):List D:=l.map fun s=>.s (.string ⟨s.toArray⟩)
theorem cuts_take{l r:List Sp}{x:Sp}{i:Nat}(s:List UInt8)(h:l.drop i=x::r):strsD ((l.take (i+1)).map (cutS s))=strsD ((l.take i).map (cutS s))++[.s (.string ⟨(cutS s x).toArray⟩)]:=by
 have hi:i<l.length:=by
  rcases Nat.lt_or_ge i l.length with h1|h1
  ·exact h1
  ·rw [List.drop_eq_nil_of_le h1] at h;cases h
 have hx:l[i]=x:=by
  have:=List.drop_eq_getElem_cons hi
  rw [h] at this
  exact (List.cons.inj this).1.symm
 rw [List.take_succ_eq_append_getElem hi,hx]
 simp [strsD]
theorem cuts_drop{l r:List Sp}{x:Sp}{i:Nat}(s:List UInt8)(h:l.drop i=x::r):(strsD (l.map (cutS s))).drop i=.s (.string ⟨(cutS s x).toArray⟩)::strsD (r.map (cutS s)):=by
 rw [strsD,←List.map_drop,←List.map_drop,h];rfl
def findS(nm:List UInt8):List Sp→Sp × Bool
 | []=>(([],0,0),false)
 | x::l=>if x.1=nm then (x,true) else findS nm l
end Go.AW
namespace Go.AW
open Go Go.Proofs
attribute [local irreducible] thenQ blockQ RetQ AL AW AC AOp
theorem spansr_cons(x:Prd)(l:List Prd)(c:Cu):spansr (x::l) c=if (x.2 c).e≠0 then ([],x.2 c) else ((x.1,(c.a,(x.2 c).a))::(spansr l (x.2 c)).1,(spansr l (x.2 c)).2):=rfl
theorem spansr_ok:∀ (l:List Prd) (c:Cu),(∀ x ∈ l,∀ c:Cu,c.Ok→(x.2 c).Ok)→c.Ok→(spansr l c).2.Ok
 | [],c,_,h=>h
 | x::l,c,hl,h=>by
  have h1:=hl x (List.mem_cons_self ..) c h
  rw [spansr_cons]
  split
  ·exact h1
  ·exact spansr_ok l _ (fun y hy=>hl y (List.mem_cons_of_mem _ hy)) h1
theorem read_1(c0:Cu)(hok0:c0.Ok):AC Tryz.prog 97 [.p 0 0,.g 1 2] [Cu.ob c0,.box 162 [sv (bs nId),.f (.func 95) [] [],sv (bs nKey),.f (.func 242) [] []]] fun y σ=>y=.d (.l (spansr [(nId,fun c=>(Cu.vtake c).2),(nKey,fun c=>(Cu.okey c).2)] c0).1.length (spnsD (spansr [(nId,fun c=>(Cu.vtake c).2),(nKey,fun c=>(Cu.okey c).2)] c0).1))∧σ=[Cu.ob (spansr [(nId,fun c=>(Cu.vtake c).2),(nKey,fun c=>(Cu.okey c).2)] c0).2,.box 162 [sv (bs nId),.f (.func 95) [] [],sv (bs nKey),.f (.func 242) [] []]]:=by
 refine AC.wk Tryz.func97 ?_
 obtain ⟨R,hR⟩:∃ R,spansr [(nId,fun c=>(Cu.vtake c).2),(nKey,fun c=>(Cu.okey c).2)] c0=R:=⟨_,rfl⟩
 rw [hR]
 focus ((repeat' (first|(refine ADr.nil ?_;try clear hgv)|refine GO ?_|refine AW.ret ?_|(refine GC ?_ ?_<;>intro h<;>(try simp only [hsB] at h)<;>try exact xf)|(refine GD ?_ ?_<;>intro h<;>(try intro hgv)<;>(try simp only [hsN] at h)<;>(try simp only [h])<;>(try simp only [hsB] at h)<;>try exact xf)|(refine GL ?_ ?_<;>intro h<;>(try simp only [hsN] at h)<;>(try simp only [h])<;>(try simp only [hsB] at h)<;>try exact xf)|fail)))
 refine AW.birth 69 3 [5] [] ?_
 refine AW.rounds [0,4,5,9,10,11] (fun x:Nat × List Spn × Cu=>[(0,.p 0 0),(4,.d (.s (.slice none 0 0))),(5,.o 2 x.2.1.length),(9,.g 1 2),(10,iv .i64 2),(11,iv .i64 (x.1:Nat))]) (fun x=>[Cu.ob x.2.2,.box 162 [sv (bs nId),.f (.func 95) [] [],sv (bs nKey),.f (.func 242) [] []],.row 69 3 x.2.1.length (spnsD x.2.1)])
  (fun x=>x.1≤2∧x.2.1.length=x.1∧x.2.2.Ok∧(x.2.1++(spansr (([(nId,fun c=>(Cu.vtake c).2),(nKey,fun c=>(Cu.okey c).2)]:List Prd).drop x.1) x.2.2).1,(spansr (([(nId,fun c=>(Cu.vtake c).2),(nKey,fun c=>(Cu.okey c).2)]:List Prd).drop x.1) x.2.2).2)=R) (fun x=>2-x.1) (0,[],c0)
  ⟨Nat.zero_le _,rfl,hok0,hR⟩ rfl rfl (fun _ _=>Nat.le_of_ble_eq_true rfl) (fun _ _=>rfl) (fun _ _=>rfl) ?_
 rintro ⟨i,out,c⟩ ⟨hi,hol,hok,hr⟩ J hJ
 simp only at hi hol hok hr ⊢
 have hat:=cursor_At c.s c.a c.e
 have hc:i=0∨i=1∨i=2:=by omega
 rcases hc with rfl|rfl|rfl
 ·have hcl:=pt_id c hok
  have hok2:(Cu.vtake c).2.Ok:=Cu.vtake_ok hok
  rw [show ([(nId,fun c=>(Cu.vtake c).2),(nKey,fun c=>(Cu.okey c).2)]:List Prd).drop 0=(nId,fun c=>(Cu.vtake c).2)::[(nKey,fun c=>(Cu.okey c).2)] from rfl,spansr_cons] at hr
  simp only at hr
  generalize (Cu.vtake c).2=c1 at *
  have herr:=cursor_Err c1.s c1.a c1.e
  have hat2:=cursor_At c1.s c1.a c1.e
  by_cases he:c1.e=0
  ·rw [if_neg (by simpa using he)] at hr
   have go:∀ T' σ',keepT T' [0,4,5,9,10,11]=[(0,.p 0 0),(4,.d (.s (.slice none 0 0))),(5,.o 2 (out.length+1)),(9,.g 1 2),(10,iv .i64 2),(11,iv .i64 1)]→σ'.take 3=[Cu.ob c1,.box 162 [sv (bs nId),.f (.func 95) [] [],sv (bs nKey),.f (.func 242) [] []],.row 69 3 (out.length+1) (spnsD out++[D.s (.string ⟨(nId).toArray⟩),.s (.int .i64 (c.a:Nat)),.s (.int .i64 (c1.a:Nat))])]→J T' σ':=fun T' σ' g1 g2=>by
    have hl:(out++[((nId:List UInt8),(c.a,c1.a))]).length=out.length+1:=by simp
    refine hJ (1,out++[(nId,(c.a,c1.a))],c1) T' σ' (by simp) ⟨by simp,by simp only [hl,hol],hok2,by rw [←hr];simp [List.append_assoc]⟩ (by simp only [hl];exact g1) (by simp only [hl];rw [spns_snoc];exact g2)
   clear hJ hr
   (have kk1:=uN [0] hat;have kk2:=uN [0] hcl;have kk3:=uN [0] herr;have kk4:=uN [0] hat2;exact Weg)
  ·rw [if_pos he] at hr
   simp only [List.append_nil] at hr
   subst hr
   clear hJ
   (have kk1:=uN [0] hat;have kk2:=uN [0] hcl;have kk3:=uN [0] herr;exact Wd2)
 ·have hcl:=pt_key c hok
  have hok2:(Cu.okey c).2.Ok:=gd_ok (Cu.blob_ok hok)
  rw [show ([(nId,fun c=>(Cu.vtake c).2),(nKey,fun c=>(Cu.okey c).2)]:List Prd).drop 1=(nKey,fun c=>(Cu.okey c).2)::[] from rfl,spansr_cons] at hr
  simp only at hr
  generalize (Cu.okey c).2=c1 at *
  have herr:=cursor_Err c1.s c1.a c1.e
  have hat2:=cursor_At c1.s c1.a c1.e
  by_cases he:c1.e=0
  ·rw [if_neg (by simpa using he)] at hr
   have go:∀ T' σ',keepT T' [0,4,5,9,10,11]=[(0,.p 0 0),(4,.d (.s (.slice none 0 0))),(5,.o 2 (out.length+1)),(9,.g 1 2),(10,iv .i64 2),(11,iv .i64 2)]→σ'.take 3=[Cu.ob c1,.box 162 [sv (bs nId),.f (.func 95) [] [],sv (bs nKey),.f (.func 242) [] []],.row 69 3 (out.length+1) (spnsD out++[D.s (.string ⟨(nKey).toArray⟩),.s (.int .i64 (c.a:Nat)),.s (.int .i64 (c1.a:Nat))])]→J T' σ':=fun T' σ' g1 g2=>by
    have hl:(out++[((nKey:List UInt8),(c.a,c1.a))]).length=out.length+1:=by simp
    refine hJ (2,out++[(nKey,(c.a,c1.a))],c1) T' σ' (by simp) ⟨by simp,by simp only [hl,hol],hok2,by rw [←hr];simp [List.append_assoc]⟩ (by simp only [hl];exact g1) (by simp only [hl];rw [spns_snoc];exact g2)
   clear hJ hr
   (have kk1:=uN [0] hat;have kk2:=uN [0] hcl;have kk3:=uN [0] herr;have kk4:=uN [0] hat2;exact Weg)
  ·rw [if_pos he] at hr
   simp only [List.append_nil] at hr
   subst hr
   clear hJ
   (have kk1:=uN [0] hat;have kk2:=uN [0] hcl;have kk3:=uN [0] herr;exact Wd2)
 ·rw [show ([(nId,fun c=>(Cu.vtake c).2),(nKey,fun c=>(Cu.okey c).2)]:List Prd).drop 2=[] from rfl] at hr
  simp only [spansr,List.append_nil] at hr
  subst hr
  clear hJ
  exact Wd2
theorem parts_text(nm:List UInt8)(n:Int):AC Tryz.prog 152 [sv (bs nm),iv .i64 n] [] fun y σ=>y=.a [sv (bs nm),.f (.func 241) [] [.p 0 0]]∧σ=[.box 3 [iv .i64 n]]:=by
 refine AC.wk Tryz.func152 ?_
 focus ((repeat' (first|refine G ?_|refine AW.ret ?_|(refine GC ?_ ?_<;>intro h<;>(try simp only [hsB] at h)<;>try exact xf)|(refine GL ?_ ?_<;>intro h<;>(try simp only [hsN] at h)<;>(try simp only [h])<;>(try simp only [hsB] at h)<;>try exact xf)|fail)))
 all_goals first|(((all_goals first|refine RetQ.yr 1 (xs:=[.a [sv (bs nm),.f (.func 241) [] [.p 0 0]]]) ⟨?_,?_⟩|refine RetQ.yn 1 (xs:=[.a [sv (bs nm),.f (.func 241) [] [.p 0 0]]]) ⟨?_,?_⟩);(all_goals exact fx));done)|(exfalso;omega)
theorem parts_key:AC Tryz.prog 153 [] [] fun y σ=>y=.a [sv (bs nKey),.f (.func 242) [] []]∧σ=[]:=by
 refine AC.wk Tryz.func153 ?_
 focus ((repeat' (first|refine G ?_|refine AW.ret ?_|(refine GC ?_ ?_<;>intro h<;>(try simp only [hsB] at h)<;>try exact xf)|(refine GL ?_ ?_<;>intro h<;>(try simp only [hsN] at h)<;>(try simp only [h])<;>(try simp only [hsB] at h)<;>try exact xf)|fail)))
 all_goals first|(((all_goals first|refine RetQ.yr 0 (xs:=[.a [sv (bs nKey),.f (.func 242) [] []]]) ⟨?_,?_⟩|refine RetQ.yn 0 (xs:=[.a [sv (bs nKey),.f (.func 242) [] []]]) ⟨?_,?_⟩);(all_goals exact fx));done)|(exfalso;omega)
theorem list_1(v:Int)(b:Bool):AC Tryz.prog 96 [iv .u8 v,iv .u8 1,bv b] [] fun y σ=>y=.b 3 0 1∧σ=[.box 162 [sv (bs nCtx),.f (.func 150) [] []],.box 3 [iv .i64 65536],.box 162 [sv (bs nObject),.f (.func 241) [] [.p 1 0]],.box 162 [sv (bs nKey),.f (.func 242) [] []]]:=by
 refine AC.wk Tryz.func96 ?_
 (have kk1:=uN [] (parts_text nObject 65536);have kk2:=uN [] parts_key;exact Wd4)
end Go.AW
