/-
  Plain: rings: how they are read and written.
-/
import Derived.Test.YtdnfcckkdnkaiaaGreatC05
import Derived.Test.YtdnfcckkdnkaiaaGreatC04
import Derived.Test.YtdnfcckkdnkaiaaGreatC03
import Derived.Test.YtdnfcckkdnkaiaaGreatC06
set_option linter.unusedVariables false
set_option linter.unusedSimpArgs false
set_option maxHeartbeats 4000000
set_option maxRecDepth 10000
namespace Go.AW
structure Mb where
 name:List UInt8
 ep:Nat
 st:Nat
 toks:List Nat
abbrev Ring:=List Mb
/-! ### Numbers of eight bytes -/
def val8(l:List UInt8):Nat:=l.foldl (fun n b=>n*256+b.toNat) 0
def enc8(n:Nat):List UInt8:=[UInt8.ofNat (n / 72057594037927936),UInt8.ofNat (n / 281474976710656),UInt8.ofNat (n / 1099511627776),UInt8.ofNat (n / 4294967296),UInt8.ofNat (n / 16777216),UInt8.ofNat (n / 65536),UInt8.ofNat (n / 256),UInt8.ofNat n]
def Cu.num8(c:Cu):Nat × Cu:=(val8 (c.bytes 8).1,(c.bytes 8).2)
/-! ### Tokens -/
def after(p:Option Nat)(t:Nat):Bool:=match p with|none=>true|some q=>decide (q<t)
def rises:Option Nat→List Nat→Bool
 | _,[]=>true
 | p,t::r=>after p t&&rises (some t) r
def Cu.tok(p:Option Nat)(c:Cu):Nat × Cu:=(c.num8.1,gd (after p c.num8.1) 6 c.num8.2)
def Cu.toks(n:Nat)(p:Option Nat)(c:Cu):List Nat × Cu:=Cu.many Cu.tok (fun _ t=>some t) n p c
def Cu.tokl(c:Cu):List Nat × Cu:=((c.count 16).2.toks (c.count 16).1 none)
def etoks(l:List Nat):List UInt8:=vput l.length++(l.map enc8).flatten
def gtok(p:Option Nat)(t:Nat):Prop:=t<18446744073709551616∧after p t=true
def gtoks(l:List Nat):Prop:=l.length≤16∧rises none l=true∧∀ t ∈ l,t<18446744073709551616
/-! ### Members -/
def Cu.stt(c:Cu):Nat × Cu:=(c.byte.1,gd (decide (c.byte.1≤3)) 13 c.byte.2)
def estt(n:Nat):List UInt8:=[UInt8.ofNat n]
def Cu.mem0(p:List UInt8)(c:Cu):(List UInt8 × (Nat × (Nat × List Nat))) × Cu:=rseq (Cu.actor 32 p) (fun _=>rseq Cu.vnz (fun _=>rseq Cu.stt (fun _ c=>Cu.tokl c))) c
def Cu.mem(p:List UInt8)(c:Cu):Mb × Cu:=(⟨(c.mem0 p).1.1,(c.mem0 p).1.2.1,(c.mem0 p).1.2.2.1,(c.mem0 p).1.2.2.2⟩,(c.mem0 p).2)
def emem(x:Mb):List UInt8:=eblob x.name++(vput x.ep++(estt x.st++etoks x.toks))
def gmem(p:List UInt8)(x:Mb):Prop:=(x.name.length≤32∧x.name≠[]∧lessB p x.name=true)∧(x.ep≠0∧x.ep<18446744073709551616)∧x.st≤3∧gtoks x.toks
/-! ### Rings -/
def mcheck:List UInt8→Ring→Int
 | _,[]=>0
 | p,x::r=>if 32<x.name.length then 3 else if x.name=[] then 14 else if lessB p x.name=false then 6 else if x.ep=0 then 7 else if 3<x.st then 13 else if 16<x.toks.length then 3 else if rises none x.toks=false then 6 else mcheck x.name r
def Ring.check(l:Ring):Int:=if 32<l.length then 3 else mcheck [] l
def Ring.great(l:Ring):Bool:=decide (40<l.length)||l.any fun x=>decide (100<x.name.length)||decide (30<x.toks.length)
def Mb.fits(x:Mb):Prop:=x.ep<18446744073709551616∧x.st<256∧∀ t ∈ x.toks,t<18446744073709551616
def gring(l:Ring):Prop:=Ring.check l=0∧∀ x ∈ l,x.fits
def Cu.mems(n:Nat)(p:List UInt8)(c:Cu):Ring × Cu:=Cu.many Cu.mem (fun _ x=>x.name) n p c
def Cu.ring(c:Cu):Ring × Cu:=
 (if ((c.count 32).2.mems (c.count 32).1 []).2.e≠0 then [] else ((c.count 32).2.mems (c.count 32).1 []).1,((c.count 32).2.mems (c.count 32).1 []).2)
def ering(l:Ring):List UInt8:=vput l.length++(l.map emem).flatten
abbrev ringw(s:List UInt8):Ring × Int:=rdw Cu.ring [] s
def ringe(l:Ring):List UInt8 × Int:=if Ring.check l≠0 then ([],Ring.check l) else (ering l,0)
end Go.AW
namespace Go.AW
abbrev It:=List UInt8 × List UInt8
abbrev Sl:=Nat × List UInt8
structure Pg where
 pre:List UInt8
 leaf:Bool
 slots:List Sl
 items:List It
deriving DecidableEq
def pg0:Pg:=⟨[],false,[],[]⟩
def begins(s w:List UInt8):Bool:=decide (w.length≤s.length)&&decide (s.take w.length=w)
def afterL(p:Option (List UInt8))(t:List UInt8):Bool:=match p with|none=>true|some q=>lessB q t
def itcheck(pre:List UInt8):Option (List UInt8)→List It→Int
 | _,[]=>0
 | p,x::r=>if x.1.length≠32 then 1 else if begins x.1 pre=false then 18 else if afterL p x.1=false then 6 else if x.2.length≠32 then 1 else itcheck pre (some x.1) r
def slcheck:Option Nat→List Sl→Int
 | _,[]=>0
 | p,x::r=>if after p x.1=false then 6 else if x.2.length≠32 then 1 else slcheck (some x.1) r
def Pg.check(g:Pg):Int:=
 if 31<g.pre.length then 3 else if g.leaf=true then (if g.slots≠[] then 1 else if 8<g.items.length then 3 else itcheck g.pre none g.items)
 else (if g.items≠[] then 1 else if 256<g.slots.length then 3 else if g.slots=[] then 7 else slcheck none g.slots)
def Pg.great(g:Pg):Bool:=decide (100<g.pre.length)||decide (300<g.slots.length)||decide (20<g.items.length)||(g.slots.any fun x=>decide (100<x.2.length))||g.items.any fun x=>decide (100<x.1.length)||decide (100<x.2.length)
/-! ### Read -/
def Cu.ikey(pre:List UInt8)(p:Option (List UInt8))(c:Cu):List UInt8 × Cu:=((c.bytes 32).1,gd (afterL p (c.bytes 32).1) 6 (gd (begins (c.bytes 32).1 pre) 18 (c.bytes 32).2))
def Cu.item(pre:List UInt8)(p:Option (List UInt8))(c:Cu):It × Cu:=rseq (Cu.ikey pre p) (fun _ c=>Cu.bytes c 32) c
def Cu.sidx(p:Option Nat)(c:Cu):Nat × Cu:=(c.byte.1,gd (after p c.byte.1) 6 c.byte.2)
def Cu.slot(p:Option Nat)(c:Cu):Sl × Cu:=rseq (Cu.sidx p) (fun _ c=>Cu.bytes c 32) c
def Cu.itemn(pre:List UInt8)(n:Nat)(c:Cu):List It × Cu:=Cu.many (Cu.item pre) (fun _ x=>some x.1) n none c
def Cu.items(pre:List UInt8)(c:Cu):List It × Cu:=Cu.itemn pre (c.count 8).1 (c.count 8).2
def Cu.slotn(n:Nat)(c:Cu):List Sl × Cu:=Cu.many Cu.slot (fun _ x=>some x.1) n none c
def Cu.count7(c:Cu):Nat × Cu:=((c.count 256).1,gd (decide ((c.count 256).1≠0)) 7 (c.count 256).2)
def Cu.slots(c:Cu):List Sl × Cu:=Cu.slotn c.count7.1 c.count7.2
def Cu.pbody(pre:List UInt8)(leaf:Bool)(c:Cu):(List Sl × List It) × Cu:=if leaf=true then (([],(c.items pre).1),(c.items pre).2) else ((c.slots.1,[]),c.slots.2)
def Cu.page0(c:Cu):(List UInt8 × (Bool × (List Sl × List It))) × Cu:=rseq (fun c=>Cu.blob c 31) (fun pre=>rseq Cu.flag (fun leaf=>Cu.pbody pre leaf)) c
def Cu.page1(c:Cu):Pg × Cu:=(⟨c.page0.1.1,c.page0.1.2.1,c.page0.1.2.2.1,c.page0.1.2.2.2⟩,c.page0.2)
def Cu.page(c:Cu):Pg × Cu:=(if c.page1.2.e≠0 then pg0 else c.page1.1,c.page1.2)
def eit(x:It):List UInt8:=x.1++x.2
def esl(x:Sl):List UInt8:=estt x.1++x.2
def eits(l:List It):List UInt8:=vput l.length++(l.map eit).flatten
def esls(l:List Sl):List UInt8:=vput l.length++(l.map esl).flatten
def ebody(leaf:Bool)(x:List Sl × List It):List UInt8:=if leaf=true then eits x.2 else esls x.1
def epage(g:Pg):List UInt8:=eblob g.pre++(eflag g.leaf++ebody g.leaf (g.slots,g.items))
def git(pre:List UInt8)(p:Option (List UInt8))(x:It):Prop:=((x.1.length=32∧begins x.1 pre=true)∧afterL p x.1=true)∧x.2.length=32
def gsl(p:Option Nat)(x:Sl):Prop:=(x.1<256∧after p x.1=true)∧x.2.length=32
def gits(pre:List UInt8)(l:List It):Prop:=l.length≤8∧itcheck pre none l=0
def gsls(l:List Sl):Prop:=l.length≤256∧l≠[]∧slcheck none l=0∧∀ x ∈ l,x.1<256
def gpage(g:Pg):Prop:=g.check=0∧∀ x ∈ g.slots,x.1<256
/-! ### Written -/
def Pe.it(p:Pe)(x:It):Pe:=(p.text x.1).text x.2
def Pe.sl(p:Pe)(x:Sl):Pe:=(p.text (estt x.1)).text x.2
def Pe.its(p:Pe)(l:List It):Pe:=l.foldl Pe.it p
def Pe.sls(p:Pe)(l:List Sl):Pe:=l.foldl Pe.sl p
def Pe.pbody(p:Pe)(g:Pg):Pe:=if g.leaf=true then (p.count 8 g.items.length).its g.items else (p.count 256 g.slots.length).sls g.slots
def Pe.page(p:Pe)(g:Pg):Pe:=if g.check≠0 then p.fail g.check else ((p.blob 31 g.pre).flag g.leaf).pbody g
end Go.AW
namespace Go.AW
open Go Go.Proofs
attribute [local irreducible] thenQ blockQ RetQ AL AW AC AOp
def idx{α:Type}(p:α→Bool):List α→Int→Int
 | [],_=>-1
 | x::l,i=>if p x=true then i else idx p l (i+1)
def itD(x:It):List D:=[.s (.string ⟨x.1.toArray⟩),.s (.string ⟨x.2.toArray⟩)]
def slD(x:Sl):List D:=[.s (.int .u8 (x.1:Nat)),.s (.string ⟨x.2.toArray⟩)]
abbrev itV(x:It):V:=.a [sv (bs x.1),sv (bs x.2)]
abbrev slV(x:Sl):V:=.a [iv .u8 (x.1:Nat),sv (bs x.2)]
abbrev itsD(l:List It):List D:=(l.map itD).flatten
abbrev slsD(l:List Sl):List D:=(l.map slD).flatten
abbrev pgV(g:Pg):V:=.a [sv (bs g.pre),bv g.leaf,.d (.l g.slots.length (slsD g.slots)),.d (.l g.items.length (itsD g.items))]
def Pg.fits(g:Pg):Prop:=g.pre.length≤9223372036854775807∧(g.slots.length≤9223372036854775807∧∀ x ∈ g.slots,x.1<256∧x.2.length≤9223372036854775807)∧g.items.length≤9223372036854775807∧∀ x ∈ g.items,x.1.length≤9223372036854775807∧x.2.length≤9223372036854775807
def it1(pre:List UInt8)(p:Option (List UInt8))(x:It):Int:=if x.1.length≠32 then 1 else if begins x.1 pre=false then 18 else if afterL p x.1=false then 6 else if x.2.length≠32 then 1 else 0
def keyAhead(p:Option (List UInt8))(last:List UInt8)(first:Bool):Prop:=(first=true∧p=none)∨(first=false∧p=some last)
def Pg.rest(g:Pg):Int:=if itcheck g.pre none g.items≠0 then itcheck g.pre none g.items else slcheck none g.slots
def sl1(p:Option Nat)(x:Sl):Int:=if after p x.1=false then 6 else if x.2.length≠32 then 1 else 0
/-! ### What is read as far as it is read -/
section
variable {α κ : Type} {R : κ → Cu → α × Cu} {next : κ → α → κ}
def Cu.manyg{α κ:Type}(R:κ→Cu→α × Cu)(next:κ→α→κ):Nat→κ→Cu→List α × Cu
 | 0,_,c=>([],c)
 | n+1,k,c=>if c.e≠0 then ([],c) else ((R k c).1::(Cu.manyg R next n (next k (R k c).1) (R k c).2).1,(Cu.manyg R next n (next k (R k c).1) (R k c).2).2)
end
def lastK(l:List It):Option (List UInt8):=l.getLast?.map Prod.fst
def lastS(l:List Sl):Option Nat:=l.getLast?.map Prod.fst
def Cu.itemsg(pre:List UInt8)(c:Cu):List It × Cu:=Cu.manyg (Cu.item pre) (fun _ x=>some x.1) (c.count 8).1 none (c.count 8).2
def Cu.slotsg(c:Cu):List Sl × Cu:=Cu.manyg Cu.slot (fun _ x=>some x.1) c.count7.1 none c.count7.2
section
variable (s : List UInt8) (a : Nat) (e : Int)
end
/-! ### Tokens, members -/
abbrev toksD(l:List Nat):List D:=l.map fun t=>D.s (.int .u64 (t:Nat))
def mbD(x:Mb):List D:=[.s (.string ⟨x.name.toArray⟩),.s (.int .u64 (x.ep:Nat)),.s (.int .u8 (x.st:Nat)),.l x.toks.length (toksD x.toks)]
abbrev mbV(x:Mb):V:=.a [sv (bs x.name),iv .u64 (x.ep:Nat),iv .u8 (x.st:Nat),.d (.l x.toks.length (toksD x.toks))]
abbrev ringD(l:Ring):List D:=(l.map mbD).flatten
def Ring.fits(l:Ring):Prop:=l.length≤9223372036854775807∧∀ x ∈ l,x.fits∧x.name.length≤9223372036854775807∧x.toks.length≤9223372036854775807
def Ring.ahead(l:Ring)(i:Nat)(p:List UInt8):Prop:=(i=0∧p=[])∨(0<i∧p.length≤32∧∃ y r,l.drop (i-1)=y::r∧y.name=p)
end Go.AW
