/-
  Plain: rings: how they are read and written.
-/
import Derived.Test.YtdnfcckkdnkaiaaGreatU08
set_option linter.unusedVariables false
set_option linter.unusedSimpArgs false
set_option maxHeartbeats 4000000
set_option maxRecDepth 10000
namespace Go.AW
structure Mb where
 name:List UInt8
 ep:Nat
 st:Nat
 toks:List Nat
abbrev Ring:=List Mb
def val8(l:List UInt8):Nat:=l.foldl (fun n b=>n*256+b.toNat) 0
def enc8(n:Nat):List UInt8:=[UInt8.ofNat (n / 72057594037927936),UInt8.ofNat (n / 281474976710656),UInt8.ofNat (n / 1099511627776),UInt8.ofNat (n / 4294967296),UInt8.ofNat (n / 16777216),UInt8.ofNat (n / 65536),UInt8.ofNat (n / 256),UInt8.ofNat n]
theorem val8_enc8{n:Nat}(h:n<18446744073709551616):val8 (enc8 n)=n:=by
 simp only [val8,enc8,List.foldl_cons,List.foldl_nil,UInt8.toNat_ofNat']
 omega
theorem enc8_val8{l:List UInt8}(h:l.length=8):enc8 (val8 l)=l∧val8 l<18446744073709551616:=by
 match l,h with
 | [a,b,c,d,e,f,g,k],_=>
  have:=a.toNat_lt;have:=b.toNat_lt;have:=c.toNat_lt;have:=d.toNat_lt
  have:=e.toNat_lt;have:=f.toNat_lt;have:=g.toNat_lt;have:=k.toNat_lt
  simp only [val8,enc8,List.foldl_cons,List.foldl_nil]
  refine ⟨?_,by omega⟩
  simp only [List.cons.injEq,←UInt8.toNat_inj,UInt8.toNat_ofNat',and_true]
  refine ⟨by omega,by omega,by omega,by omega,by omega,by omega,by omega,by omega⟩
def Cu.num8(c:Cu):Nat × Cu:=(val8 (c.bytes 8).1,(c.bytes 8).2)
theorem Cu.num8_ok{c:Cu}(h:c.Ok):c.num8.2.Ok:=Cu.bytes_ok h
theorem trip_num8:Trip Cu.num8 enc8 (·<18446744073709551616) where
 stuck:=fun c hc=>(trip_bytes 8).stuck c hc
 text:=fun c=>(trip_bytes 8).text c
 fore:=fun c x r hx hc ha hd=>by
  have:=(trip_bytes 8).fore c (enc8 x) r rfl hc ha hd
  have h2:Cu.bytes c 8=(enc8 x,⟨c.s,c.a+(enc8 x).length,0⟩):=this
  unfold Cu.num8
  rw [h2]
  simp only
  rw [val8_enc8 hx]
 back:=fun c he=>by
  obtain ⟨g1,g2,g3⟩:=(trip_bytes 8).back c he
  have g1:(Cu.bytes c 8).1.length=8:=g1
  obtain ⟨k1,k2⟩:=enc8_val8 g1
  refine ⟨k2,?_,?_⟩
  ·show (Cu.bytes c 8).2.a=c.a+(enc8 (val8 (Cu.bytes c 8).1)).length
   rw [k1];exact g2
  ·show c.s.drop c.a=enc8 (val8 (Cu.bytes c 8).1)++c.s.drop (Cu.bytes c 8).2.a
   rw [k1];exact g3
 cut:=fun c x r hx hc ha hd hr=>(trip_bytes 8).cut c (enc8 x) r rfl hc ha hd hr
def after(p:Option Nat)(t:Nat):Bool:=match p with|none=>true|some q=>decide (q<t)
def rises:Option Nat→List Nat→Bool
 | _,[]=>true
 | p,t::r=>after p t&&rises (some t) r
def Cu.tok(p:Option Nat)(c:Cu):Nat × Cu:=(c.num8.1,gd (after p c.num8.1) 6 c.num8.2)
def Cu.toks(n:Nat)(p:Option Nat)(c:Cu):List Nat × Cu:=Cu.many Cu.tok (fun _ t=>some t) n p c
def Cu.tokl(c:Cu):List Nat × Cu:=((c.count 16).2.toks (c.count 16).1 none)
def etoks(l:List Nat):List UInt8:=vput l.length++(l.map enc8).flatten
def gtok(p:Option Nat)(t:Nat):Prop:=t<18446744073709551616∧after p t=true
theorem trip_tok(p:Option Nat):Trip (Cu.tok p) enc8 (gtok p):=Trip.guard trip_num8 (fun t=>after p t) (by decide)
theorem toks_goods:∀ (l:List Nat) (p:Option Nat),(goods gtok (fun _ t=>some t) p l↔rises p l=true∧∀ t ∈ l,t<18446744073709551616)
 | [],p=>by simp [goods,rises]
 | t::l,p=>by
  have ih:=toks_goods l (some t)
  unfold goods rises
  rw [ih]
  unfold gtok
  simp only [Bool.and_eq_true,List.mem_cons,forall_eq_or_imp]
  constructor
  ·rintro ⟨⟨h1,h2⟩,h3,h4⟩;exact ⟨⟨h2,h3⟩,h1,h4⟩
  ·rintro ⟨⟨h2,h3⟩,h1,h4⟩;exact ⟨⟨h1,h2⟩,h3,h4⟩
def gtoks(l:List Nat):Prop:=l.length≤16∧rises none l=true∧∀ t ∈ l,t<18446744073709551616
theorem trip_tokl:Trip Cu.tokl etoks gtoks:=by
 have hm:=fun n=>trip_many (R:=Cu.tok) (next:=fun _ t=>some t) trip_tok n none
 refine Trip.iff (Trip.bind (S:=fun n c=>Cu.toks n none c) (trip_count 16) (fun n _=>hm n) (fun n c h=>(hm n).stuck c h) (fun n c=>(hm n).text c) (key:=List.length) (enc:=etoks)
  (good:=fun v=>(v.length≤(16:Int).toNat∧v.length<18446744073709551616)∧v.length=v.length∧goods gtok (fun _ t=>some t) none v) (fun b=>rfl) (fun b=>Iff.rfl) (fun a b _ h=>h.1)) fun v=>?_
 rw [toks_goods]
 unfold gtoks
 simp only [Int.reduceToNat]
 exact ⟨fun h=>⟨h.1.1,h.2.2⟩,fun h=>⟨⟨h.1,by omega⟩,trivial,h.2⟩⟩
theorem Cu.tok_ok{c:Cu}{p:Option Nat}(h:c.Ok):(c.tok p).2.Ok:=gd_ok (Cu.num8_ok h)
theorem Cu.tokl_ok{c:Cu}(h:c.Ok):c.tokl.2.Ok:=Cu.many_ok (fun _ _ h=>Cu.tok_ok h) _ _ _ (Cu.count_ok h)
def Cu.stt(c:Cu):Nat × Cu:=(c.byte.1,gd (decide (c.byte.1≤3)) 13 c.byte.2)
def estt(n:Nat):List UInt8:=[UInt8.ofNat n]
theorem trip_stt:Trip Cu.stt estt (fun n=>n≤3):=by
 have hb:∀ c,Cu.byte c=(((Cu.bytes c 1).1.getD 0 0).toNat,(Cu.bytes c 1).2):=fun c=>by unfold Cu.byte;rfl
 have h0:Trip Cu.byte estt (fun n=>n<256):={
  stuck:=fun c hc=>by rw [hb];exact (trip_bytes 1).stuck c hc
  text:=fun c=>by rw [hb];exact (trip_bytes 1).text c
  fore:=fun c x r hx hc ha hd=>by
   have h2:Cu.bytes c 1=_:=(trip_bytes 1).fore c (estt x) r rfl hc ha hd
   rw [hb,h2]
   simp only [estt,List.getD_cons_zero,u8_ofNat hx]
   rfl
  back:=fun c he=>by
   rw [hb] at he ⊢
   obtain ⟨g1,g2,g3⟩:=(trip_bytes 1).back c he
   have g1:(Cu.bytes c 1).1.length=1:=g1
   have g2:(Cu.bytes c 1).2.a=c.a+(Cu.bytes c 1).1.length:=g2
   have g3:c.s.drop c.a=(Cu.bytes c 1).1++c.s.drop (Cu.bytes c 1).2.a:=g3
   generalize Cu.bytes c 1=z at *
   obtain ⟨b,hz⟩:=List.length_eq_one_iff.1 g1
   rw [hz] at g2 g3 ⊢
   have e:estt (([b]:List UInt8).getD 0 0).toNat=[b]:=by
    simp only [List.getD_cons_zero,estt,UInt8.ofNat_toNat]
   simp only
   rw [e]
   exact ⟨b.toNat_lt,g2,g3⟩
  cut:=fun c x r hx hc ha hd hr=>by rw [hb];exact (trip_bytes 1).cut c (estt x) r rfl hc ha hd hr }
 refine Trip.iff (Trip.guard h0 (fun n=>decide (n≤3)) (by decide)) fun n=>?_
 simp only [decide_eq_true_eq]
 omega
def Cu.mem0(p:List UInt8)(c:Cu):(List UInt8 × (Nat × (Nat × List Nat))) × Cu:=rseq (Cu.actor 32 p) (fun _=>rseq Cu.vnz (fun _=>rseq Cu.stt (fun _ c=>Cu.tokl c))) c
def Cu.mem(p:List UInt8)(c:Cu):Mb × Cu:=(⟨(c.mem0 p).1.1,(c.mem0 p).1.2.1,(c.mem0 p).1.2.2.1,(c.mem0 p).1.2.2.2⟩,(c.mem0 p).2)
def emem(x:Mb):List UInt8:=eblob x.name++(vput x.ep++(estt x.st++etoks x.toks))
def gmem(p:List UInt8)(x:Mb):Prop:=(x.name.length≤32∧x.name≠[]∧lessB p x.name=true)∧(x.ep≠0∧x.ep<18446744073709551616)∧x.st≤3∧gtoks x.toks
theorem trip_mem(p:List UInt8):Trip (Cu.mem p) emem (gmem p):=by
 have h1:Trip (rseq Cu.stt (fun _ c=>Cu.tokl c)) _ _:=Trip.seq trip_stt (fun _ _=>trip_tokl) (fun _ c=>trip_tokl.stuck c) (fun _=>trip_tokl.text)
 have h2:Trip (rseq Cu.vnz (fun _=>rseq Cu.stt (fun _ c=>Cu.tokl c))) _ _:=Trip.seq trip_vnz (fun _ _=>h1) (fun _ c=>h1.stuck c) (fun _=>h1.text)
 have h3:Trip (Cu.mem0 p) _ _:=Trip.seq (trip_actor 32 p) (fun _ _=>h2) (fun _ c=>h2.stuck c) (fun _=>h2.text)
 refine Trip.iff (Trip.map h3 (fun x=>(⟨x.1,x.2.1,x.2.2.1,x.2.2.2⟩:Mb)) (fun k=>(k.name,(k.ep,(k.st,k.toks)))) (fun _=>rfl) (fun _=>rfl)) fun x=>?_
 simp only [gmem,Int.reduceToNat,decide_eq_true_eq]
 constructor
 ·rintro ⟨⟨⟨⟨h1,h2⟩,h3⟩,h4⟩,⟨h5,h6⟩,h7,h8⟩
  exact ⟨⟨h1,h3,h4⟩,⟨h6,h5⟩,h7,h8⟩
 ·rintro ⟨⟨h1,h3,h4⟩,⟨h6,h5⟩,h7,h8⟩
  exact ⟨⟨⟨⟨h1,by omega⟩,h3⟩,h4⟩,⟨h5,h6⟩,h7,h8⟩
theorem Cu.stt_ok{c:Cu}(h:c.Ok):c.stt.2.Ok:=gd_ok (Cu.byte_ok h)
theorem Cu.mem_ok{c:Cu}{p:List UInt8}(h:c.Ok):(c.mem p).2.Ok:=Cu.tokl_ok (Cu.stt_ok (Cu.vnz_ok (Cu.actor_ok h)))
def mcheck:List UInt8→Ring→Int
 | _,[]=>0
 | p,x::r=>if 32<x.name.length then 3 else if x.name=[] then 14 else if lessB p x.name=false then 6 else if x.ep=0 then 7 else if 3<x.st then 13 else if 16<x.toks.length then 3 else if rises none x.toks=false then 6 else mcheck x.name r
def Ring.check(l:Ring):Int:=if 32<l.length then 3 else mcheck [] l
def Ring.great(l:Ring):Bool:=decide (40<l.length)||l.any fun x=>decide (100<x.name.length)||decide (30<x.toks.length)
def Mb.fits(x:Mb):Prop:=x.ep<18446744073709551616∧x.st<256∧∀ t ∈ x.toks,t<18446744073709551616
def gring(l:Ring):Prop:=Ring.check l=0∧∀ x ∈ l,x.fits
def Cu.mems(n:Nat)(p:List UInt8)(c:Cu):Ring × Cu:=Cu.many Cu.mem (fun _ x=>x.name) n p c
def Cu.ring(c:Cu):Ring × Cu:=
 (if ((c.count 32).2.mems (c.count 32).1 []).2.e≠0 then [] else ((c.count 32).2.mems (c.count 32).1 []).1,((c.count 32).2.mems (c.count 32).1 []).2)
def ering(l:Ring):List UInt8:=vput l.length++(l.map emem).flatten
theorem mcheck_goods:∀ (l:Ring) (p:List UInt8),(goods gmem (fun _ x=>x.name) p l↔mcheck p l=0∧∀ x ∈ l,x.fits)
 | [],p=>by simp [goods,mcheck]
 | x::l,p=>by
  have ih:=mcheck_goods l x.name
  unfold goods mcheck
  rw [ih]
  unfold gmem gtoks
  by_cases h1:32<x.name.length
  ·rw [if_pos h1];exact ⟨fun h=>absurd h.1.1.1 (by omega),fun h=>absurd h.1 (by decide)⟩
  rw [if_neg h1]
  by_cases h2:x.name=[]
  ·rw [if_pos h2];exact ⟨fun h=>absurd h2 h.1.1.2.1,fun h=>absurd h.1 (by decide)⟩
  rw [if_neg h2]
  cases h3:lessB p x.name with
  | false=>simp
  | true=>
   rw [if_neg (by decide)]
   by_cases h4:x.ep=0
   ·rw [if_pos h4];exact ⟨fun h=>absurd h4 h.1.2.1.1,fun h=>absurd h.1 (by decide)⟩
   rw [if_neg h4]
   by_cases h5:3<x.st
   ·rw [if_pos h5];exact ⟨fun h=>absurd h.1.2.2.1 (by omega),fun h=>absurd h.1 (by decide)⟩
   rw [if_neg h5]
   by_cases h6:16<x.toks.length
   ·rw [if_pos h6];exact ⟨fun h=>absurd h.1.2.2.2.1 (by omega),fun h=>absurd h.1 (by decide)⟩
   rw [if_neg h6]
   cases h7:rises none x.toks with
   | false=>simp
   | true=>
    rw [if_neg (by decide)]
    simp only [List.mem_cons,forall_eq_or_imp,Mb.fits]
    constructor
    ·rintro ⟨⟨_,⟨_,g1⟩,_,_,_,g2⟩,g3,g4⟩;exact ⟨g3,⟨g1,by omega,g2⟩,g4⟩
    ·rintro ⟨g3,⟨g1,_,g2⟩,g4⟩;exact ⟨⟨⟨by omega,h2,trivial⟩,⟨h4,g1⟩,by omega,by omega,trivial,g2⟩,g3,g4⟩
theorem trip_ring:Trip Cu.ring ering gring:=by
 have hm:=fun n=>trip_many (R:=Cu.mem) (next:=fun _ x=>x.name) trip_mem n []
 have hS:∀ n:Nat,Trip (fun c=>(if (Cu.mems n [] c).2.e≠0 then [] else (Cu.mems n [] c).1,(Cu.mems n [] c).2)) (fun l=>(l.map emem).flatten) (fun l=>l.length=n∧goods gmem (fun _ x=>x.name) [] l):=fun n=>Trip.dflt (hm n) []
 refine Trip.iff (Trip.bind (trip_count 32) (fun n _=>hS n) (fun n c h=>(hS n).stuck c h) (fun n c=>(hS n).text c) (key:=List.length) (enc:=ering) (good:=fun v=>(v.length≤(32:Int).toNat∧v.length<18446744073709551616)∧v.length=v.length∧goods gmem (fun _ x=>x.name) [] v) (fun b=>rfl) (fun b=>Iff.rfl) (fun a b _ h=>h.1)) fun v=>?_
 rw [mcheck_goods]
 unfold gring Ring.check
 simp only [Int.reduceToNat]
 constructor
 ·rintro ⟨h1,_,h2,h3⟩
  rw [if_neg (by omega)]
  exact ⟨h2,h3⟩
 ·rintro ⟨h1,h2⟩
  by_cases h3:32<v.length
  ·rw [if_pos h3] at h1;exact absurd h1 (by decide)
  ·rw [if_neg h3] at h1
   exact ⟨⟨by omega,by omega⟩,trivial,h1,h2⟩
theorem Cu.ring_ok{c:Cu}(h:c.Ok):c.ring.2.Ok:=Cu.many_ok (fun k c h=>Cu.mem_ok h) _ _ _ (Cu.count_ok h)
abbrev ringw(s:List UInt8):Ring × Int:=rdw Cu.ring [] s
def ringe(l:Ring):List UInt8 × Int:=if Ring.check l≠0 then ([],Ring.check l) else (ering l,0)
theorem mcheck_parts:∀ (l:Ring) (p:List UInt8),mcheck p l=0→∀ x ∈ l,x.name.length≤32∧x.name≠[]∧x.ep≠0∧x.st≤3∧x.toks.length≤16∧rises none x.toks=true
 | [],p,h=>by simp
 | x::l,p,h=>by
  unfold mcheck at h
  split at h
  ·exact absurd h (by decide)
  split at h
  ·exact absurd h (by decide)
  split at h
  ·exact absurd h (by decide)
  split at h
  ·exact absurd h (by decide)
  split at h
  ·exact absurd h (by decide)
  split at h
  ·exact absurd h (by decide)
  split at h
  ·exact absurd h (by decide)
  rename_i a1 a2 a3 a4 a5 a6 a7
  intro y hy
  rcases List.mem_cons.1 hy with rfl|hy
  ·exact ⟨by omega,a2,a4,by omega,by omega,by simpa using a7⟩
  ·exact mcheck_parts l x.name h y hy
theorem Ring.check_parts{l:Ring}(h:Ring.check l=0):l.length≤32∧∀ x ∈ l,x.name.length≤32∧x.name≠[]∧x.ep≠0∧x.st≤3∧x.toks.length≤16∧rises none x.toks=true:=by
 unfold Ring.check at h
 split at h
 ·exact absurd h (by decide)
 ·exact ⟨by omega,mcheck_parts l [] h⟩
end Go.AW
namespace Go.AW
abbrev It:=List UInt8 × List UInt8
abbrev Sl:=Nat × List UInt8
structure Pg where
 pre:List UInt8
 leaf:Bool
 slots:List Sl
 items:List It
deriving DecidableEq
def pg0:Pg:=⟨[],false,[],[]⟩
def begins(s w:List UInt8):Bool:=decide (w.length≤s.length)&&decide (s.take w.length=w)
def afterL(p:Option (List UInt8))(t:List UInt8):Bool:=match p with|none=>true|some q=>lessB q t
def itcheck(pre:List UInt8):Option (List UInt8)→List It→Int
 | _,[]=>0
 | p,x::r=>if x.1.length≠32 then 1 else if begins x.1 pre=false then 18 else if afterL p x.1=false then 6 else if x.2.length≠32 then 1 else itcheck pre (some x.1) r
def slcheck:Option Nat→List Sl→Int
 | _,[]=>0
 | p,x::r=>if after p x.1=false then 6 else if x.2.length≠32 then 1 else slcheck (some x.1) r
def Pg.check(g:Pg):Int:=
 if 31<g.pre.length then 3 else if g.leaf=true then (if g.slots≠[] then 1 else if 8<g.items.length then 3 else itcheck g.pre none g.items)
 else (if g.items≠[] then 1 else if 256<g.slots.length then 3 else if g.slots=[] then 7 else slcheck none g.slots)
def Pg.great(g:Pg):Bool:=decide (100<g.pre.length)||decide (300<g.slots.length)||decide (20<g.items.length)||(g.slots.any fun x=>decide (100<x.2.length))||g.items.any fun x=>decide (100<x.1.length)||decide (100<x.2.length)
theorem trip_byte:Trip Cu.byte estt (fun n=>n<256):=by
 have hb:∀ c,Cu.byte c=(((Cu.bytes c 1).1.getD 0 0).toNat,(Cu.bytes c 1).2):=fun c=>by unfold Cu.byte;rfl
 exact {
  stuck:=fun c hc=>by rw [hb];exact (trip_bytes 1).stuck c hc
  text:=fun c=>by rw [hb];exact (trip_bytes 1).text c
  fore:=fun c x r hx hc ha hd=>by
   have h2:Cu.bytes c 1=_:=(trip_bytes 1).fore c (estt x) r rfl hc ha hd
   rw [hb,h2]
   simp only [estt,List.getD_cons_zero,u8_ofNat hx]
   rfl
  back:=fun c he=>by
   rw [hb] at he ⊢
   obtain ⟨g1,g2,g3⟩:=(trip_bytes 1).back c he
   have g1:(Cu.bytes c 1).1.length=1:=g1
   have g2:(Cu.bytes c 1).2.a=c.a+(Cu.bytes c 1).1.length:=g2
   have g3:c.s.drop c.a=(Cu.bytes c 1).1++c.s.drop (Cu.bytes c 1).2.a:=g3
   generalize Cu.bytes c 1=z at *
   obtain ⟨b,hz⟩:=List.length_eq_one_iff.1 g1
   rw [hz] at g2 g3 ⊢
   have e:estt (([b]:List UInt8).getD 0 0).toNat=[b]:=by
    simp only [List.getD_cons_zero,estt,UInt8.ofNat_toNat]
   simp only
   rw [e]
   exact ⟨b.toNat_lt,g2,g3⟩
  cut:=fun c x r hx hc ha hd hr=>by rw [hb];exact (trip_bytes 1).cut c (estt x) r rfl hc ha hd hr }
def Cu.ikey(pre:List UInt8)(p:Option (List UInt8))(c:Cu):List UInt8 × Cu:=((c.bytes 32).1,gd (afterL p (c.bytes 32).1) 6 (gd (begins (c.bytes 32).1 pre) 18 (c.bytes 32).2))
def Cu.item(pre:List UInt8)(p:Option (List UInt8))(c:Cu):It × Cu:=rseq (Cu.ikey pre p) (fun _ c=>Cu.bytes c 32) c
def Cu.sidx(p:Option Nat)(c:Cu):Nat × Cu:=(c.byte.1,gd (after p c.byte.1) 6 c.byte.2)
def Cu.slot(p:Option Nat)(c:Cu):Sl × Cu:=rseq (Cu.sidx p) (fun _ c=>Cu.bytes c 32) c
def Cu.itemn(pre:List UInt8)(n:Nat)(c:Cu):List It × Cu:=Cu.many (Cu.item pre) (fun _ x=>some x.1) n none c
def Cu.items(pre:List UInt8)(c:Cu):List It × Cu:=Cu.itemn pre (c.count 8).1 (c.count 8).2
def Cu.slotn(n:Nat)(c:Cu):List Sl × Cu:=Cu.many Cu.slot (fun _ x=>some x.1) n none c
def Cu.count7(c:Cu):Nat × Cu:=((c.count 256).1,gd (decide ((c.count 256).1≠0)) 7 (c.count 256).2)
def Cu.slots(c:Cu):List Sl × Cu:=Cu.slotn c.count7.1 c.count7.2
def Cu.pbody(pre:List UInt8)(leaf:Bool)(c:Cu):(List Sl × List It) × Cu:=if leaf=true then (([],(c.items pre).1),(c.items pre).2) else ((c.slots.1,[]),c.slots.2)
def Cu.page0(c:Cu):(List UInt8 × (Bool × (List Sl × List It))) × Cu:=rseq (fun c=>Cu.blob c 31) (fun pre=>rseq Cu.flag (fun leaf=>Cu.pbody pre leaf)) c
def Cu.page1(c:Cu):Pg × Cu:=(⟨c.page0.1.1,c.page0.1.2.1,c.page0.1.2.2.1,c.page0.1.2.2.2⟩,c.page0.2)
def Cu.page(c:Cu):Pg × Cu:=(if c.page1.2.e≠0 then pg0 else c.page1.1,c.page1.2)
def eit(x:It):List UInt8:=x.1++x.2
def esl(x:Sl):List UInt8:=estt x.1++x.2
def eits(l:List It):List UInt8:=vput l.length++(l.map eit).flatten
def esls(l:List Sl):List UInt8:=vput l.length++(l.map esl).flatten
def ebody(leaf:Bool)(x:List Sl × List It):List UInt8:=if leaf=true then eits x.2 else esls x.1
def epage(g:Pg):List UInt8:=eblob g.pre++(eflag g.leaf++ebody g.leaf (g.slots,g.items))
def git(pre:List UInt8)(p:Option (List UInt8))(x:It):Prop:=((x.1.length=32∧begins x.1 pre=true)∧afterL p x.1=true)∧x.2.length=32
def gsl(p:Option Nat)(x:Sl):Prop:=(x.1<256∧after p x.1=true)∧x.2.length=32
theorem trip_item(pre:List UInt8)(p:Option (List UInt8)):Trip (Cu.item pre p) eit (git pre p):=
 Trip.seq (Trip.guard (Trip.guard (trip_bytes 32) (fun k=>begins k pre) (by decide)) (fun k=>afterL p k) (by decide)) (fun _ _=>trip_bytes 32) (fun _ c=>(trip_bytes 32).stuck c) (fun _=>(trip_bytes 32).text)
theorem trip_slot(p:Option Nat):Trip (Cu.slot p) esl (gsl p):=
 Trip.seq (Trip.guard trip_byte (fun n=>after p n) (by decide)) (fun _ _=>trip_bytes 32) (fun _ c=>(trip_bytes 32).stuck c) (fun _=>(trip_bytes 32).text)
theorem itcheck_goods(pre:List UInt8):∀ (l:List It) (p:Option (List UInt8)),(goods (git pre) (fun _ x=>some x.1) p l↔itcheck pre p l=0)
 | [],p=>by simp [goods,itcheck]
 | x::l,p=>by
  have ih:=itcheck_goods pre l (some x.1)
  unfold goods itcheck
  rw [ih]
  unfold git
  by_cases h1:x.1.length=32
  case neg=>rw [if_pos h1];exact ⟨fun h=>absurd h.1.1.1.1 h1,fun h=>absurd h (by decide)⟩
  rw [if_neg (by simpa using h1)]
  cases h2:begins x.1 pre with
  | false=>simp
  | true=>
   rw [if_neg (by decide)]
   cases h3:afterL p x.1 with
   | false=>simp
   | true=>
    rw [if_neg (by decide)]
    by_cases h4:x.2.length=32
    ·rw [if_neg (by simpa using h4)]
     exact ⟨fun h=>h.2,fun h=>⟨⟨⟨⟨h1,rfl⟩,rfl⟩,h4⟩,h⟩⟩
    ·rw [if_pos h4];exact ⟨fun h=>absurd h.1.2 h4,fun h=>absurd h (by decide)⟩
theorem slcheck_goods:∀ (l:List Sl) (p:Option Nat),(goods gsl (fun _ x=>some x.1) p l↔slcheck p l=0∧∀ x ∈ l,x.1<256)
 | [],p=>by simp [goods,slcheck]
 | x::l,p=>by
  have ih:=slcheck_goods l (some x.1)
  unfold goods slcheck
  rw [ih]
  unfold gsl
  cases h3:after p x.1 with
  | false=>simp
  | true=>
   rw [if_neg (by decide)]
   by_cases h4:x.2.length=32
   ·rw [if_neg (by simpa using h4)]
    simp only [List.mem_cons,forall_eq_or_imp,and_true]
    exact ⟨fun ⟨⟨g1,g2⟩,g3,g4⟩=>⟨g3,g1,g4⟩,fun ⟨g1,g2,g3⟩=>⟨⟨g2,h4⟩,g1,g3⟩⟩
   ·rw [if_pos h4];exact ⟨fun h=>absurd h.1.2 h4,fun h=>absurd h.1 (by decide)⟩
def gits(pre:List UInt8)(l:List It):Prop:=l.length≤8∧itcheck pre none l=0
def gsls(l:List Sl):Prop:=l.length≤256∧l≠[]∧slcheck none l=0∧∀ x ∈ l,x.1<256
theorem trip_items(pre:List UInt8):Trip (Cu.items pre) eits (gits pre):=by
 have hm:=fun n=>trip_many (R:=Cu.item pre) (next:=fun _ x=>some x.1) (trip_item pre) n none
 refine Trip.iff (Trip.bind (S:=fun n c=>Cu.itemn pre n c) (trip_count 8) (fun n _=>hm n) (fun n c h=>(hm n).stuck c h) (fun n c=>(hm n).text c) (key:=List.length) (enc:=eits)
  (good:=fun v=>(v.length≤(8:Int).toNat∧v.length<18446744073709551616)∧v.length=v.length∧goods (git pre) (fun _ x=>some x.1) none v) (fun b=>rfl) (fun b=>Iff.rfl) (fun a b _ h=>h.1)) fun v=>?_
 rw [itcheck_goods]
 unfold gits
 simp only [Int.reduceToNat]
 exact ⟨fun h=>⟨h.1.1,h.2.2⟩,fun h=>⟨⟨h.1,by omega⟩,trivial,h.2⟩⟩
theorem trip_slots:Trip Cu.slots esls gsls:=by
 have hm:=fun n=>trip_many (R:=Cu.slot) (next:=fun _ x=>some x.1) trip_slot n none
 refine Trip.iff (Trip.bind (R:=Cu.count7) (S:=fun n c=>Cu.slotn n c) (Trip.guard (trip_count 256) (fun n=>decide (n≠0)) (by decide)) (fun n _=>hm n) (fun n c h=>(hm n).stuck c h) (fun n c=>(hm n).text c) (key:=List.length) (enc:=esls)
  (good:=fun v=>((v.length≤(256:Int).toNat∧v.length<18446744073709551616)∧decide (v.length≠0)=true)∧v.length=v.length∧goods gsl (fun _ x=>some x.1) none v) (fun b=>rfl) (fun b=>Iff.rfl) (fun a b _ h=>h.1)) fun v=>?_
 rw [slcheck_goods]
 unfold gsls
 simp only [Int.reduceToNat,decide_eq_true_eq,ne_eq,List.length_eq_zero_iff]
 exact ⟨fun h=>⟨h.1.1.1,h.1.2,h.2.2⟩,fun h=>⟨⟨⟨h.1,by omega⟩,h.2.1⟩,trivial,h.2.2⟩⟩
theorem Trip.emb{α γ:Type}{R:Cu→α × Cu}{enc:α→List UInt8}{good:α→Prop}(h:Trip R enc good)(f:α→γ)(g:γ→α)(hgf:∀ x,g (f x)=x):Trip (fun c=>(f (R c).1,(R c).2)) (fun y=>enc (g y)) (fun y=>f (g y)=y∧good (g y)) where
 stuck:=fun c hc=>h.stuck c hc
 text:=fun c=>h.text c
 fore:=fun c x r hx hc ha hd=>by
  have:=h.fore c (g x) r hx.2 hc ha hd
  simp only [this,hx.1]
 back:=fun c he=>by
  obtain ⟨g1,g2,g3⟩:=h.back c he
  simp only [hgf]
  exact ⟨⟨trivial,g1⟩,g2,g3⟩
 cut:=fun c x r hx hc ha hd hr=>h.cut c (g x) r hx.2 hc ha hd hr
theorem trip_pbody(pre:List UInt8)(leaf:Bool):Trip (Cu.pbody pre leaf) (ebody leaf) (fun x=>if leaf=true then x.1=[]∧gits pre x.2 else x.2=[]∧gsls x.1):=by
 cases leaf with
 | true=>
  have h:=Trip.emb (trip_items pre) (fun i=>(([]:List Sl),i)) Prod.snd (fun _=>rfl)
  refine Trip.iff h fun x=>?_
  obtain ⟨a,b⟩:=x
  simp only [Prod.mk.injEq,and_true,if_true]
  exact ⟨fun h=>⟨h.1.symm,h.2⟩,fun h=>⟨h.1.symm,h.2⟩⟩
 | false=>
  have h:=Trip.emb trip_slots (fun s=>(s,([]:List It))) Prod.fst (fun _=>rfl)
  refine Trip.iff h fun x=>?_
  obtain ⟨a,b⟩:=x
  simp only [Prod.mk.injEq,true_and,Bool.false_eq_true,if_false]
  exact ⟨fun h=>⟨h.1.symm,h.2⟩,fun h=>⟨h.1.symm,h.2⟩⟩
def gpage(g:Pg):Prop:=g.check=0∧∀ x ∈ g.slots,x.1<256
theorem trip_page:Trip Cu.page epage gpage:=by
 have hb:=fun pre leaf=>trip_pbody pre leaf
 have h1:=fun pre=>Trip.seq trip_flag (S:=fun leaf=>Cu.pbody pre leaf) (fun leaf _=>hb pre leaf) (fun leaf c=>(hb pre leaf).stuck c) (fun leaf=>(hb pre leaf).text)
 have h2:Trip Cu.page0 _ _:=Trip.seq (trip_blob 31) (S:=fun pre=>rseq Cu.flag (fun leaf=>Cu.pbody pre leaf)) (fun pre _=>h1 pre) (fun pre c=>(h1 pre).stuck c) (fun pre=>(h1 pre).text)
 have h3:Trip Cu.page1 _ _:=Trip.map h2 (fun x=>(⟨x.1,x.2.1,x.2.2.1,x.2.2.2⟩:Pg)) (fun g=>(g.pre,(g.leaf,(g.slots,g.items)))) (fun _=>rfl) (fun _=>rfl)
 refine Trip.iff (Trip.dflt h3 pg0) fun g=>?_
 obtain ⟨pre,leaf,slots,items⟩:=g
 simp only [gpage,Pg.check,Int.reduceToNat]
 by_cases hp:31<pre.length
 ·rw [if_pos hp]
  exact ⟨fun h=>absurd h.1.1 (by omega),fun h=>absurd h.1 (by decide)⟩
 rw [if_neg hp]
 cases leaf with
 | true=>
  simp only [if_true,gits]
  by_cases hs:slots=[]
  ·subst hs
   simp only [ne_eq,not_true_eq_false,if_false,true_and]
   by_cases h8:8<items.length
   ·rw [if_pos h8];exact ⟨fun h=>absurd h.2.1 (by omega),fun h=>absurd h.1 (by decide)⟩
   ·rw [if_neg h8]
    exact ⟨fun h=>⟨h.2.2,fun x hx=>(List.not_mem_nil hx).elim⟩,fun h=>⟨⟨by omega,by omega⟩,by omega,h.1⟩⟩
  ·rw [if_pos hs]
   exact ⟨fun h=>absurd h.2.2.1 hs,fun h=>absurd h.1 (by decide)⟩
 | false=>
  simp only [Bool.false_eq_true,if_false,gsls]
  by_cases hs:items=[]
  ·subst hs
   simp only [ne_eq,not_true_eq_false,if_false,true_and]
   by_cases h8:256<slots.length
   ·rw [if_pos h8];exact ⟨fun h=>absurd h.2.1 (by omega),fun h=>absurd h.1 (by decide)⟩
   ·rw [if_neg h8]
    by_cases h0:slots=[]
    ·rw [if_pos h0];exact ⟨fun h=>absurd h0 h.2.2.1,fun h=>absurd h.1 (by decide)⟩
    ·rw [if_neg h0]
     exact ⟨fun h=>h.2.2.2,fun h=>⟨⟨by omega,by omega⟩,by omega,h0,h⟩⟩
  ·rw [if_pos hs]
   exact ⟨fun h=>absurd h.2.2.1 hs,fun h=>absurd h.1 (by decide)⟩
theorem Cu.item_ok{c:Cu}{pre:List UInt8}{p:Option (List UInt8)}(h:c.Ok):(c.item pre p).2.Ok:=Cu.bytes_ok (gd_ok (gd_ok (Cu.bytes_ok h)))
theorem Cu.slot_ok{c:Cu}{p:Option Nat}(h:c.Ok):(c.slot p).2.Ok:=Cu.bytes_ok (gd_ok (Cu.byte_ok h))
theorem Cu.items_ok{c:Cu}{pre:List UInt8}(h:c.Ok):(c.items pre).2.Ok:=Cu.many_ok (fun k c h=>Cu.item_ok h) _ _ _ (Cu.count_ok h)
theorem Cu.slots_ok{c:Cu}(h:c.Ok):c.slots.2.Ok:=Cu.many_ok (fun k c h=>Cu.slot_ok h) _ _ _ (gd_ok (Cu.count_ok h))
theorem Cu.page_ok{c:Cu}(h:c.Ok):c.page.2.Ok:=by
 show (Cu.pbody _ _ _).2.Ok
 have h2:=Cu.flag_ok (Cu.blob_ok (max:=31) h)
 unfold Cu.pbody
 split
 ·exact Cu.items_ok h2
 ·exact Cu.slots_ok h2
def Pe.it(p:Pe)(x:It):Pe:=(p.text x.1).text x.2
def Pe.sl(p:Pe)(x:Sl):Pe:=(p.text (estt x.1)).text x.2
def Pe.its(p:Pe)(l:List It):Pe:=l.foldl Pe.it p
def Pe.sls(p:Pe)(l:List Sl):Pe:=l.foldl Pe.sl p
def Pe.pbody(p:Pe)(g:Pg):Pe:=if g.leaf=true then (p.count 8 g.items.length).its g.items else (p.count 256 g.slots.length).sls g.slots
def Pe.page(p:Pe)(g:Pg):Pe:=if g.check≠0 then p.fail g.check else ((p.blob 31 g.pre).flag g.leaf).pbody g
theorem Pg.check_parts{g:Pg}(h:g.check=0):g.pre.length≤31∧(if g.leaf=true then g.slots=[]∧g.items.length≤8∧itcheck g.pre none g.items=0 else g.items=[]∧g.slots.length≤256∧g.slots≠[]∧slcheck none g.slots=0):=by
 unfold Pg.check at h
 split at h
 ·exact absurd h (by decide)
 refine ⟨by omega,?_⟩
 split at h
 ·rename_i hl
  rw [if_pos hl]
  split at h
  ·exact absurd h (by decide)
  split at h
  ·exact absurd h (by decide)
  rename_i h1 h2
  exact ⟨by simpa using h1,by omega,h⟩
 ·rename_i hl
  rw [if_neg hl]
  split at h
  ·exact absurd h (by decide)
  split at h
  ·exact absurd h (by decide)
  split at h
  ·exact absurd h (by decide)
  rename_i h1 h2 h3
  exact ⟨by simpa using h1,by omega,h3,h⟩
theorem itcheck_len(pre:List UInt8):∀ (l:List It) (p:Option (List UInt8)),itcheck pre p l=0→∀ x ∈ l,x.1.length=32∧x.2.length=32
 | [],p,h=>by simp
 | x::l,p,h=>by
  unfold itcheck at h
  split at h
  ·exact absurd h (by decide)
  split at h
  ·exact absurd h (by decide)
  split at h
  ·exact absurd h (by decide)
  split at h
  ·exact absurd h (by decide)
  intro y hy
  rcases List.mem_cons.1 hy with rfl|hy
  ·omega
  ·exact itcheck_len pre l _ h y hy
theorem slcheck_len:∀ (l:List Sl) (p:Option Nat),slcheck p l=0→∀ x ∈ l,x.2.length=32
 | [],p,h=>by simp
 | x::l,p,h=>by
  unfold slcheck at h
  split at h
  ·exact absurd h (by decide)
  split at h
  ·exact absurd h (by decide)
  intro y hy
  rcases List.mem_cons.1 hy with rfl|hy
  ·omega
  ·exact slcheck_len l _ h y hy
end Go.AW
namespace Go.AW
open Go Go.Proofs
attribute [local irreducible] thenQ blockQ RetQ AL AW AC AOp
def itD(x:It):List D:=[.s (.string ⟨x.1.toArray⟩),.s (.string ⟨x.2.toArray⟩)]
def slD(x:Sl):List D:=[.s (.int .u8 (x.1:Nat)),.s (.string ⟨x.2.toArray⟩)]
abbrev itV(x:It):V:=.a [sv (bs x.1),sv (bs x.2)]
abbrev slV(x:Sl):V:=.a [iv .u8 (x.1:Nat),sv (bs x.2)]
abbrev itsD(l:List It):List D:=(l.map itD).flatten
abbrev slsD(l:List Sl):List D:=(l.map slD).flatten
abbrev pgV(g:Pg):V:=.a [sv (bs g.pre),bv g.leaf,.d (.l g.slots.length (slsD g.slots)),.d (.l g.items.length (itsD g.items))]
theorem its_drop{l r:List It}{x:It}{i:Nat}(h:l.drop i=x::r):(itsD l).drop (i*2)=.s (.string ⟨x.1.toArray⟩)::.s (.string ⟨x.2.toArray⟩)::itsD r:=by
 rw [itsD,flat_drop (f:=itD) (sz:=2) (fun _=>rfl),h];rfl
theorem sls_drop{l r:List Sl}{x:Sl}{i:Nat}(h:l.drop i=x::r):(slsD l).drop (i*2)=.s (.int .u8 (x.1:Nat))::.s (.string ⟨x.2.toArray⟩)::slsD r:=by
 rw [slsD,flat_drop (f:=slD) (sz:=2) (fun _=>rfl),h];rfl
theorem its_snoc(l:List It)(x:It):itsD l++[D.s (.string ⟨x.1.toArray⟩),.s (.string ⟨x.2.toArray⟩)]=itsD (l++[x]):=by
 rw [itsD,itsD,List.map_append,List.flatten_append];rfl
theorem sls_snoc(l:List Sl)(x:Sl):slsD l++[D.s (.int .u8 (x.1:Nat)),.s (.string ⟨x.2.toArray⟩)]=slsD (l++[x]):=by
 rw [slsD,slsD,List.map_append,List.flatten_append];rfl
def Pg.fits(g:Pg):Prop:=g.pre.length≤9223372036854775807∧(g.slots.length≤9223372036854775807∧∀ x ∈ g.slots,x.1<256∧x.2.length≤9223372036854775807)∧g.items.length≤9223372036854775807∧∀ x ∈ g.items,x.1.length≤9223372036854775807∧x.2.length≤9223372036854775807
theorem stringslite_HasPrefix(s w:List UInt8)(hs:s.length≤9223372036854775807)(hw:w.length≤9223372036854775807):AC Tryz.prog 274 [sv (bs s),sv (bs w)] [] fun x σ=>x=bv (begins s w)∧σ=[]:=by
 refine AC.wk Tryz.func274 ?_
 unfold begins
 by_cases h:w.length≤s.length
 ·focus (have kxs:=And.intro @Nat.sub_zero h;(repeat' (first|refine G ?_|refine AW.ret ?_|(refine GC ?_ ?_<;>intro h<;>(try simp only [hsB] at h)<;>try exact xf)|(refine GL ?_ ?_<;>intro h<;>(try simp only [hsN] at h)<;>(try simp only [h])<;>(try simp only [hsB] at h)<;>try exact xf)|fail));all_goals clear kxs)
  all_goals first|((all_goals have kxf:=h;first|exact RetQ.xr 0|exact RetQ.xn 0|fail);done)|exact xg
 ·focus ((repeat' (first|refine G ?_|refine AW.ret ?_|(refine GC ?_ ?_<;>intro h<;>(try simp only [hsB] at h)<;>try exact xf)|(refine GL ?_ ?_<;>intro h<;>(try simp only [hsN] at h)<;>(try simp only [h])<;>(try simp only [hsB] at h)<;>try exact xf)|fail)))
  all_goals first|((all_goals have kxf:=h;first|exact RetQ.xr 0|exact RetQ.xn 0|fail);done)|exact xg
theorem strings_HasPrefix(s w:List UInt8)(hs:s.length≤9223372036854775807)(hw:w.length≤9223372036854775807):AC Tryz.prog 265 [sv (bs s),sv (bs w)] [] fun x σ=>x=bv (begins s w)∧σ=[]:=by
 refine AC.wk Tryz.func265 ?_
 (have kk1:=uN [] (stringslite_HasPrefix s w hs hw);exact Wd0)
def it1(pre:List UInt8)(p:Option (List UInt8))(x:It):Int:=if x.1.length≠32 then 1 else if begins x.1 pre=false then 18 else if afterL p x.1=false then 6 else if x.2.length≠32 then 1 else 0
def keyAhead(p:Option (List UInt8))(last:List UInt8)(first:Bool):Prop:=(first=true∧p=none)∨(first=false∧p=some last)
end Go.AW
