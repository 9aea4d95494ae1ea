/-
  pages that are written: the program's and the document's.
-/
import Derived.Laws.Externs
import Derived.Lib.Bytealg
import Derived.Test.YtdnfcckkdnkaiaaGreatChecked
import Derived.Test.YtdnfcckkdnkaiaaGreatRows
import Derived.JoinedOf
import Derived.Below
import Derived.ProofKit
import Derived.Test.YtdnfcckkdnkaiaaGreatU18
set_option linter.unusedVariables false
set_option linter.unusedSimpArgs false
set_option maxHeartbeats 4000000
set_option maxRecDepth 10000
namespace Go.AW
open Go Go.Proofs
attribute [local irreducible] thenQ blockQ RetQ AL AW AC AOp
def ptexti(q:List UInt8)(g:Pg)(i:Nat):List UInt8:=((q++eblob g.pre)++eflag true)++vput g.items.length++((g.items.take i).map eit).flatten
def ptexts(q:List UInt8)(g:Pg)(i:Nat):List UInt8:=((q++eblob g.pre)++eflag false)++vput g.slots.length++((g.slots.take i).map esl).flatten
def wipD(l:List UInt8)(j:Nat):List V:=(bsD (l.take j++List.replicate (8-j) 0)).map V.d
def rtext(l:Ring)(i:Nat):List UInt8:=vput l.length++((l.take i).map emem).flatten
def Lastn(out:Ring)(p:List UInt8):Prop:=p.length≤32∧(0<out.length→(ringD out).drop ((out.length-1)*4)=D.s (.string ⟨p.toArray⟩)::(ringD out).drop ((out.length-1)*4+1))
end Go.AW
namespace Go.AW
open Go
def fzT(σ:List Ob)(m:Nat):Tm→Tm
 | []=>[]
 | (n,x)::T=>(n,fz σ m x)::fzT σ m T
attribute [go_sem] fzT
end Go.AW
namespace Go.AW
open Go
mutual
def nzD:D→D
 | .s (.slice none 0 0)=>.l 0 []
 | .l n xs=>.l n (nzDs xs)
 | x=>x
def nzDs:List D→List D
 | []=>[]
 | x::xs=>nzD x::nzDs xs
end
mutual
theorem nzD_ok{F:Nat→Prop}{w:World}:∀ (x:D) (v:Value),DR F w x v→DR F w (nzD x) v
 | .s u,v,h=>by
  unfold nzD
  split
  ·rename_i e
   cases e
   simp only [DR] at h ⊢
   exact ⟨none,0,h,Nat.le_refl _,.inl (by simp)⟩
  ·rename_i e;cases e
  ·exact h
 | .l n xs,v,h=>by
  simp only [nzD,DR] at h ⊢
  obtain ⟨A,cap,hv,hn,⟨rfl,h⟩|⟨b,off,vs,hA,hb,hF,hc,hd⟩⟩:=h
  ·exact ⟨A,cap,hv,hn,.inl ⟨rfl,h⟩⟩
  ·exact ⟨A,cap,hv,hn,.inr ⟨b,off,vs,hA,hb,hF,hc,nzDs_ok xs vs hd⟩⟩
theorem nzDs_ok{F:Nat→Prop}{w:World}:∀ (xs:List D) (vs:List Value),DRs F w xs vs→DRs F w (nzDs xs) vs
 | [],vs,h=>h
 | x::xs,vs,h=>by
  simp only [nzDs,DRs] at h ⊢
  obtain ⟨v,us,hv,h1,h2⟩:=h
  exact ⟨v,us,hv,nzD_ok x v h1,nzDs_ok xs us h2⟩
end
mutual
def nzV:V→V
 | .d x=>.d (nzD x)
 | .a xs=>.a (nzVs xs)
 | x=>x
def nzVs:List V→List V
 | []=>[]
 | x::xs=>nzV x::nzVs xs
end
mutual
theorem nzV_ok{F:Nat→Prop}{σ:List Ob}{μ:List Value}{w:World}:∀ (x:V) (v:Value),VR F σ μ w x v→VR F σ μ w (nzV x) v
 | .d x,v,h=>by simp only [nzV,VR] at h ⊢;exact nzD_ok x v h
 | .a xs,v,h=>by
  simp only [nzV,VR] at h ⊢
  obtain ⟨cs,hv,h⟩:=h
  exact ⟨cs,hv,nzVs_ok xs _ h⟩
 | .t _,v,h=>h
 | .p _ _,v,h=>h
 | .c _,v,h=>h
 | .o _ _,v,h=>h
 | .e _ _ _,v,h=>h
 | .b _ _ _,v,h=>h
 | .g _ _,v,h=>h
 | .f _ _ _,v,h=>h
 | .u,v,h=>h
theorem nzVs_ok{F:Nat→Prop}{σ:List Ob}{μ:List Value}{w:World}:∀ (xs:List V) (vs:List Value),VRs F σ μ w xs vs→VRs F σ μ w (nzVs xs) vs
 | [],vs,h=>h
 | x::xs,vs,h=>by
  simp only [nzVs,VRs] at h ⊢
  obtain ⟨v,us,hv,h1,h2⟩:=h
  exact ⟨v,us,hv,nzV_ok x v h1,nzVs_ok xs us h2⟩
end
def nzOb:Ob→Ob
 | .row E sz n cs=>.row E sz n (nzDs cs)
 | ob=>ob
attribute [go_sem] nzOb nzDs nzD
end Go.AW
namespace Go.AW
open Go Go.Proofs Go.RowKit
attribute [local irreducible] thenQ blockQ RetQ AL AW AC AOp
theorem Oj.fits_of{o:Oj}(h:gobj o):o.fits:=by
 obtain ⟨h1,h2⟩:=Oj.check_parts h.1
 obtain ⟨k1,k2,k3,k4⟩:=outside_zero.1 h1
 exact ⟨by omega,by omega,fun x hx=>Sb.fits_of ⟨jcheck_parts _ _ h2 x hx,(h.2 x hx).1,(h.2 x hx).2⟩⟩
theorem oj0_fits:oj0.fits:=⟨by decide,by decide,fun x hx=>(List.not_mem_nil hx).elim⟩
end Go.AW
namespace Go.AW
open Go Go.Proofs
attribute [local irreducible] thenQ blockQ RetQ AL AW AC AOp
def Mg.great(m:Mg):Bool:=m.obj.great||m.old.great||Vec.great m.ctx||Prs.great m.meta_||m.page.great||Ring.great m.ring||decide (200<m.key.length)||decide (200<m.val.length)||decide (200<m.pre.length)||decide (200<m.txt.length)
end Go.AW
namespace Go.AW
open Go Go.Proofs Go.RowKit
attribute [local irreducible] thenQ blockQ RetQ AL AW AC AOp
theorem Od.fits_of{o:Od}(h:gold o):o.fits:=by
 obtain ⟨h1,h2⟩:=Od.check_parts h.1
 obtain ⟨k1,k2,k3,k4⟩:=outside_zero.1 h1
 refine ⟨by omega,by omega,fun x hx=>?_⟩
 obtain ⟨g1,g2,g3⟩:=(ocheck_parts _ _ h2).1 x hx
 have:=Vec.check_len g1
 exact ⟨⟨by omega,fun y hy=>Nat.le_trans (this.2 y hy) (by decide),h.2 x hx⟩,by omega⟩
end Go.AW
namespace Go.AW
open Go Go.Proofs Go.RowKit
attribute [local irreducible] thenQ blockQ RetQ AL AW AC AOp
theorem Ring.fits_of{l:Ring}(h:gring l):l.fits:=by
 obtain ⟨h1,h2⟩:=Ring.check_parts h.1
 exact ⟨by omega,fun x hx=>⟨h.2 x hx,by have:=(h2 x hx).1;omega,by have:=(h2 x hx).2.2.2.2.1;omega⟩⟩
theorem Ring.fits_nil:Ring.fits []:=⟨by decide,fun x hx=>(List.not_mem_nil hx).elim⟩
end Go.AW
namespace Go.AW
open Go Go.Proofs
attribute [local irreducible] thenQ blockQ RetQ AL AW AC AOp
theorem msg_Decode(v k:Nat)(s:List UInt8)(hv:v<256)(hk:k<256)(hs:s.length≤140737488351232):AC Tryz.prog 9 [iv .u8 (v:Nat),iv .u8 (k:Nat),sv (bs s)] [] fun y σ=>y=.t [mgV (msgw v k s).1,iv .i64 (msgw v k s).2]∧σ=[]:=by
 cases hh:has v k with
 | false=>exact decode_none v k s hv hk hh
 | true=>
  rcases has_cases hh with ⟨rfl,rfl|rfl|rfl⟩|⟨rfl,rfl|rfl|rfl|rfl|rfl|rfl|rfl|rfl|rfl⟩
  ·exact decode_11 s hs
  ·exact decode_12 s hs
  ·exact decode_18 s hs
  ·exact decode_21 s hs
  ·exact decode_22 s hs
  ·exact decode_23 s hs
  ·exact decode_24 s hs
  ·exact decode_25 s hs
  ·exact decode_26 s hs
  ·exact decode_27 s hs
  ·exact decode_28 s hs
  ·exact decode_29 s hs
theorem Vec.fits_of{v:Vec}(h1:v.check=0)(h2:∀ x ∈ v,x.2<18446744073709551616):v.fits:=by
 have hv:=Vec.check_len h1
 exact ⟨by omega,fun x hx=>Nat.le_trans (hv.2 x hx) (by decide),h2⟩
theorem Prs.fits_of{v:Prs}(h1:v.check=0):v.fits:=by
 have hp:=Prs.check_len h1
 exact ⟨by omega,fun x hx=>Nat.le_trans (hp.2 x hx).1 (by decide),fun x hx=>Nat.le_trans (hp.2 x hx).2 (by decide)⟩
theorem od0_fits:od0.fits:=⟨by decide,by decide,fun x hx=>(List.not_mem_nil hx).elim⟩
theorem vec0_fits:Vec.fits []:=⟨by decide,fun x hx=>(List.not_mem_nil hx).elim,fun x hx=>(List.not_mem_nil hx).elim⟩
theorem prs0_fits:Prs.fits []:=⟨by decide,fun x hx=>(List.not_mem_nil hx).elim,fun x hx=>(List.not_mem_nil hx).elim⟩
theorem pg0_fits:pg0.fits:=⟨by decide,⟨by decide,fun x hx=>(List.not_mem_nil hx).elim⟩,by decide,fun x hx=>(List.not_mem_nil hx).elim⟩
theorem Pg.fits_of{g:Pg}(h:g.check=0)(h2:∀ x ∈ g.slots,x.1<256):g.fits:=by
 obtain ⟨p1,p2⟩:=Pg.check_parts h
 split at p2
 ·obtain ⟨r1,r2,r3⟩:=p2
  refine ⟨by omega,⟨by rw [r1];decide,fun x hx=>by rw [r1] at hx;exact (List.not_mem_nil hx).elim⟩,by omega,fun x hx=>?_⟩
  obtain ⟨e1,e2⟩:=itcheck_len _ _ _ r3 x hx
  exact ⟨by omega,by omega⟩
 ·obtain ⟨r1,r2,r3,r4⟩:=p2
  refine ⟨by omega,⟨by omega,fun x hx=>⟨h2 x hx,?_⟩⟩,by rw [r1];decide,fun x hx=>by rw [r1] at hx;exact (List.not_mem_nil hx).elim⟩
  have:=slcheck_len _ _ r4 x hx
  omega
theorem Mg.fits_of{v:Nat}{m:Mg}(hh:has v m.kind=true)(hp:m.pl v=m)(hc:m.chk v=0)(hn:m.nums)(hi:m.id<18446744073709551616):m.fits:=by
 obtain ⟨n1,n2,n3,n4,n5⟩:=hn
 rw [←hp]
 obtain ⟨knd,id,key,fnd,obj,old,ctx,mt,dd,vl,px,pg,rg,cd,tx⟩:=m
 simp only at hh hi n1 n2 n3 n4 n5
 clear hp
 rcases has_cases hh with ⟨rfl,rfl|rfl|rfl⟩|⟨rfl,rfl|rfl|rfl|rfl|rfl|rfl|rfl|rfl|rfl⟩
 ·have h:=keychk_zero.1 (show keychk key=0 from hc)
  exact ⟨by show 1<256;decide,hi,by show key.length≤_;omega,oj0_fits,od0_fits,vec0_fits,prs0_fits,Nat.zero_le _,Nat.zero_le _,pg0_fits,Ring.fits_nil,(show (-9223372036854775808:Int)≤0∧(0:Int)≤9223372036854775807 by decide),Nat.zero_le _⟩
 ·have ho:Od.fits (if fnd=true∧1=1 then old else od0):=by
    split
    ·rename_i hc2;have h:(if fnd=true then old.check else 0)=0:=hc;rw [if_pos hc2.1] at h;exact Od.fits_of ⟨h,n3⟩
    ·exact od0_fits
  have hj:Oj.fits (if fnd=true∧1=2 then obj else oj0):=by rw [if_neg (fun h=>absurd h.2 (by decide))];exact oj0_fits
  exact ⟨by show 2<256;decide,hi,Nat.zero_le _,hj,ho,vec0_fits,prs0_fits,Nat.zero_le _,Nat.zero_le _,pg0_fits,Ring.fits_nil,(show (-9223372036854775808:Int)≤0∧(0:Int)≤9223372036854775807 by decide),Nat.zero_le _⟩
 ·obtain ⟨a1,a2⟩:=fst0_zero.1 (show fst0 (codechk cd) (longchk tx 64)=0 from hc)
  have a1:=codechk_zero.1 a1
  have a2:=longchk_zero.1 a2
  exact ⟨by show 8<256;decide,hi,Nat.zero_le _,oj0_fits,od0_fits,vec0_fits,prs0_fits,Nat.zero_le _,Nat.zero_le _,pg0_fits,Ring.fits_nil,⟨by show -9223372036854775808≤cd;omega,by show cd≤_;omega⟩,by show tx.length≤_;omega⟩
 ·have h:=keychk_zero.1 (show keychk key=0 from hc)
  exact ⟨by show 1<256;decide,hi,by show key.length≤_;omega,oj0_fits,od0_fits,vec0_fits,prs0_fits,Nat.zero_le _,Nat.zero_le _,pg0_fits,Ring.fits_nil,(show (-9223372036854775808:Int)≤0∧(0:Int)≤9223372036854775807 by decide),Nat.zero_le _⟩
 ·have ho:Od.fits (if fnd=true∧2=1 then old else od0):=by rw [if_neg (fun h=>absurd h.2 (by decide))];exact od0_fits
  have hj:Oj.fits (if fnd=true∧2=2 then obj else oj0):=by
   split
   ·rename_i hc2;have h:(if fnd=true then obj.check else 0)=0:=hc;rw [if_pos hc2.1] at h;exact Oj.fits_of ⟨h,n2⟩
   ·exact oj0_fits
  exact ⟨by show 2<256;decide,hi,Nat.zero_le _,hj,ho,vec0_fits,prs0_fits,Nat.zero_le _,Nat.zero_le _,pg0_fits,Ring.fits_nil,(show (-9223372036854775808:Int)≤0∧(0:Int)≤9223372036854775807 by decide),Nat.zero_le _⟩
 ·obtain ⟨a1,a2⟩:=fst0_zero.1 (show fst0 (keychk key) (fst0 (Vec.check ctx) (fst0 (Prs.check mt) (longchk vl 32768)))=0 from hc)
  obtain ⟨a2,a3⟩:=fst0_zero.1 a2
  obtain ⟨a3,a4⟩:=fst0_zero.1 a3
  have a1:=keychk_zero.1 a1
  have a4:=longchk_zero.1 a4
  exact ⟨by show 3<256;decide,hi,by show key.length≤_;omega,oj0_fits,od0_fits,Vec.fits_of a2 n1,Prs.fits_of a3,by show vl.length≤_;omega,Nat.zero_le _,pg0_fits,Ring.fits_nil,(show (-9223372036854775808:Int)≤0∧(0:Int)≤9223372036854775807 by decide),Nat.zero_le _⟩
 ·exact ⟨by show 4<256;decide,hi,Nat.zero_le _,oj0_fits,od0_fits,Vec.fits_of hc n1,prs0_fits,Nat.zero_le _,Nat.zero_le _,pg0_fits,Ring.fits_nil,(show (-9223372036854775808:Int)≤0∧(0:Int)≤9223372036854775807 by decide),Nat.zero_le _⟩
 ·have h:=longchk_zero.1 (show longchk px 31=0 from hc)
  exact ⟨by show 5<256;decide,hi,Nat.zero_le _,oj0_fits,od0_fits,vec0_fits,prs0_fits,Nat.zero_le _,by show px.length≤_;omega,pg0_fits,Ring.fits_nil,(show (-9223372036854775808:Int)≤0∧(0:Int)≤9223372036854775807 by decide),Nat.zero_le _⟩
 ·exact ⟨by show 6<256;decide,hi,Nat.zero_le _,oj0_fits,od0_fits,vec0_fits,prs0_fits,Nat.zero_le _,Nat.zero_le _,Pg.fits_of hc n5,Ring.fits_nil,(show (-9223372036854775808:Int)≤0∧(0:Int)≤9223372036854775807 by decide),Nat.zero_le _⟩
 ·exact ⟨by show 7<256;decide,hi,Nat.zero_le _,oj0_fits,od0_fits,vec0_fits,prs0_fits,Nat.zero_le _,Nat.zero_le _,pg0_fits,Ring.fits_of ⟨hc,n4⟩,(show (-9223372036854775808:Int)≤0∧(0:Int)≤9223372036854775807 by decide),Nat.zero_le _⟩
 ·obtain ⟨a1,a2⟩:=fst0_zero.1 (show fst0 (codechk cd) (longchk tx 64)=0 from hc)
  have a1:=codechk_zero.1 a1
  have a2:=longchk_zero.1 a2
  exact ⟨by show 8<256;decide,hi,Nat.zero_le _,oj0_fits,od0_fits,vec0_fits,prs0_fits,Nat.zero_le _,Nat.zero_le _,pg0_fits,Ring.fits_nil,⟨by show -9223372036854775808≤cd;omega,by show cd≤_;omega⟩,by show tx.length≤_;omega⟩
 ·exact ⟨by show 9<256;decide,hi,Nat.zero_le _,Oj.fits_of ⟨hc,n2⟩,od0_fits,vec0_fits,prs0_fits,Nat.zero_le _,Nat.zero_le _,pg0_fits,Ring.fits_nil,(show (-9223372036854775808:Int)≤0∧(0:Int)≤9223372036854775807 by decide),Nat.zero_le _⟩
def mgk:Mg:={ mg0 with kind:=1,id:=5,key:=[107] }
end Go.AW
namespace Go.AW
open Go Go.Proofs
def chs(l:List Nat):List Char:=l.map Char.ofNat
theorem words_app(r:List Char):∀ w:List Nat,(w.all fun c=>!(Char.ofNat c == Char.ofNat 32))=true→wordsSigns (chs w++Char.ofNat 32::r)=chs w::wordsSigns r
 | [],_=>rfl
 | c::w,h=>by
  simp only [List.all_cons,Bool.and_eq_true] at h
  have ih:=words_app r w h.2
  have hc:Char.ofNat c≠Char.ofNat 32:=by simpa using h.1
  show wordsSigns (Char.ofNat c::(chs w++Char.ofNat 32::r))=_
  conv=>lhs;unfold wordsSigns
  split
  ·rename_i heq;cases heq
  ·rename_i heq
   obtain ⟨h1,h2⟩:=List.cons.inj heq
   exact absurd h1 hc
  ·rename_i heq
   obtain ⟨h1,h2⟩:=List.cons.inj heq
   subst h1 h2
   rw [ih]
   rfl
def headWord:List Nat:=[104,97,114,110,101,115,115]
def headSum:List Nat:=[53,48,101,57,52,99,49,56,49,52,53,51,49,51,55,100,101,49,101,48,50,53,49,52,55,98,102,57,56,102,49,54,57,56,55,97,101,48,49,57,54,100,55,99,56,48,100,99,55,48,49,48,98,99,101,48,55,97,52,54,48,51,55,48]
def headCut:List Nat:=[99,117,116]
def headRest:List Nat:=[97,116,32,115,112,101,110,99,101,47,115,112,101,110,99,101,108,97,119,50,51,46,77,115,103,68,101,99,111,100,101,115,32,115,112,101,110,99,101,47,115,112,101,110,99,101,108,97,119,50,52,46,82,112,99,83,101,97,108,115,32,115,112,101,110,99,101,47,115,112,101,110,99,101,108,97,119,50,51,46,77,115,103,69,110,99,111,100,101,115,32,115,112,101,110,99,101,47,115,112,101,110,99,101,108,97,119,51,49,46,80,97,114,116,115,67,117,116,32,115,112,101,110,99,101,47,115,112,101,110,99,101,108,97,119,51,49,46,80,97,114,116,115,84,101,108,108]
def hcs:List Char:=chs headWord++Char.ofNat 32::(chs headSum++Char.ofNat 32::(chs headCut++Char.ofNat 32::chs headRest))
theorem head_o:Tryz.prog.initOrder=String.ofList hcs:=by kernel_rfl
theorem head_w:behindMainWord (wordsSigns Tryz.prog.initOrder.toList) = "cut".toList::wordsSigns (chs headRest):=by
 rw [head_o,String.toList_ofList,hcs,words_app _ _ (by decide +kernel),words_app _ _ (by decide +kernel),words_app _ _ (by decide +kernel)]
 have h1:chs headWord = "harness".toList:=by decide +kernel
 have h2:isSumSigns (chs headSum)=true:=by decide +kernel
 have h3:chs headCut = "cut".toList:=by decide +kernel
 rw [h1,h3]
 unfold behindMainWord
 simp only [h2,beq_self_eq_true,Bool.true_or,Bool.true_and,if_true]
theorem head_strip(ws:List (List Char)):stripLifts liftWords ("cut".toList::ws)=([],"cut".toList::ws):=by
 have:∀ l:List String,(l.all fun o=>!("cut".toList == o.toList))=true→stripLifts l ("cut".toList::ws)=([],"cut".toList::ws):=by
  intro l
  induction l with
  | nil=>intro _;rfl
  | cons o l ih=>
   intro h
   simp only [List.all_cons,Bool.and_eq_true,Bool.not_eq_true'] at h
   unfold stripLifts
   rw [if_neg (by rw [h.1];decide)]
   exact ih h.2
 exact this _ (by decide +kernel)
theorem head_lifts:Tryz.prog.headLifts=[]:=by
 unfold Program.headLifts
 rw [head_w,head_strip]
 simp
theorem head_final:Tryz.prog.liftsFinal=false:=by
 unfold Program.liftsFinal
 rw [head_w,head_lifts]
 have:((some "cut".toList == some "carried".toList)=false):=by decide +kernel
 simp only [List.head?_cons,this,Bool.false_and,Bool.false_or]
 rfl
theorem make_of{P:Program}{r:List (List Char)}(h:behindMainWord (wordsSigns P.initOrder.toList) = "cut".toList::r):P.make=some .cut:=by
 unfold Program.make
 rw [h]
 have h1:(("cut".toList == "gc".toList|| "cut".toList == "spec".toList)=false):=by decide +kernel
 simp only [h1,Bool.false_eq_true,if_false,beq_self_eq_true,Bool.true_or,if_true]
theorem enter_of{P:Program}{r:List (List Char)}(h:behindMainWord (wordsSigns P.initOrder.toList) = "cut".toList::r)(hl:P.laysLater=false)(hr:P.bearsReflect=false)(hd:P.doorRows=[]):P.mayEnter=true:=by
 unfold Program.mayEnter
 rw [h]
 have h1:(("cut".toList == "gc".toList|| "cut".toList == "spec".toList)=false):=by decide +kernel
 have h2:(("cut".toList == "carried".toList)=false):=by decide +kernel
 have h3:P.doorFits []=true:=by
  unfold Program.doorFits
  rw [hd]
  rfl
 simp only [h1,h2,head_strip,hl,hr,h3,List.head?_cons,beq_self_eq_true,Bool.not_false,Bool.or_true,Bool.and_true,Bool.false_and,Bool.or_false,Bool.true_and,Bool.false_or,List.contains_nil,Bool.or_self]
theorem head_make:Tryz.prog.make=some .cut:=make_of head_w
theorem head_lays:Tryz.prog.laysLater=false:=by
 unfold Program.laysLater
 rw [←Array.any_toList]
 kernel_rfl
theorem head_refl:Tryz.prog.bearsReflect=false:=by kernel_rfl
theorem head_rows:Tryz.prog.doorRows=[]:=by kernel_rfl
theorem head_enter:Tryz.prog.mayEnter=true:=enter_of head_w head_lays head_refl head_rows
theorem head_laid:laidOutB Tryz.prog=true:=by kernel_rfl
theorem head_maps:mapsRowed Tryz.prog=true:=by kernel_rfl
theorem head_keys:Tryz.prog.plainKeys=true:=by kernel_rfl
theorem head_stops:Tryz.prog.stops=[]:=by kernel_rfl
theorem head_knobs:Tryz.prog.stopKnobs=[]:=by kernel_rfl
theorem head_heard:Tryz.prog.stopsHeard=true:=by kernel_rfl
theorem joined_of{P:Program}{f:FuncId}{fn:Func}{s:ChangeSpec}{c:OpenClaim}(h1:laidOutB P=true)(h2:mapsRowed P=true)(h3:P.stops=[])(h4:P.stopKnobs=[])(h5:(c.inPlace == P.inPlace f)=true)(h6:(c.unfollowed == P.unfollowed f)=true)(h7:(c.recurses == P.recurses f)=true)(h8:(c.named == P.varsNamed f)=true)
  (h9:P.stopsHeard=true) (h10:P.mayEnter=true) (h11:P.liftsFinal=c.lifted) (h12:P.make=some c.make) (h13:P.plainKeys=c.plainKeys)
  (h:(c.wf (OpenSpec.ofChange s)&&
   fn.params.all (P.readableRec ·)&&
   namedTie P c.named s.vars&&
   (c.stops == [])&&
   (c.knobs == [])&&
   (c.maps == (fn.params.toList++s.plain.varTypes P).any (P.mapsRec ·))&&
   (c.ifaces == (fn.params.toList++s.plain.varTypes P).any (P.ifacesRec ·))&&
   (c.mapsOut == P.mapsAmong fn.resultTypes.toList)&&
   (c.loops == (fn.params.toList++s.plain.varTypes P).any (P.loopsFrom ·))&&
   (c.wideKeys == (fn.params.toList++s.plain.varTypes P++fn.resultTypes.toList).any (P.wideKeysFrom ·))&&
   s.vars.all (P.varReadable ·)&&
   fn.resultTypes.all (fun t=>P.readableRec t&&decide (t<P.types.size))&&
   (c.ifacesOut == fn.resultTypes.toList.any (P.ifacesRec ·))&&
   (c.loopsOut == fn.resultTypes.toList.any (P.loopsFrom ·))&&
   c.shortTexts.isNone&&
   (c.kinds == (if c.domain.isEmpty then [] else fn.params.toList.map fun t=>match P.underlying t with|some (.int k)=>some k|_=>none))&&
   (c.pinned == c.pinnedBy)&&
   (c.veiled == (fn.params.toList++s.plain.varTypes P++fn.resultTypes.toList).any (P.veiledRec ·))&&
   c.veiledFits P fn.params.toList (fn.params.toList++s.plain.varTypes P++fn.resultTypes.toList))=true):joinedFacts P f fn s c=true:=by
 unfold joinedFacts
 simp only [Bool.and_eq_true] at h ⊢
 obtain ⟨⟨⟨⟨⟨⟨⟨⟨⟨⟨⟨⟨⟨⟨⟨⟨⟨⟨a0,a1⟩,a2⟩,a3⟩,a4⟩,a5⟩,a6⟩,a7⟩,a8⟩,a9⟩,a10⟩,a11⟩,a12⟩,a13⟩,a14⟩,a15⟩,a16⟩,a17⟩,a18⟩:=h
 exact ⟨⟨⟨⟨⟨⟨⟨⟨⟨⟨⟨⟨⟨⟨⟨⟨⟨⟨⟨⟨⟨⟨⟨⟨⟨⟨⟨⟨⟨⟨⟨a0,h1⟩,h2⟩,a1⟩,a2⟩,a3⟩,(by rw [h3];rfl)⟩,a4⟩,(by rw [h4];rfl)⟩,h5⟩,h6⟩,h7⟩,h8⟩,a5⟩,a6⟩,a7⟩,a8⟩,a9⟩,a10⟩,a11⟩,a12⟩,a13⟩,(by rw [h13];exact beq_self_eq_true _)⟩,a14⟩,h9⟩,h10⟩,(by rw [h11];exact beq_self_eq_true _)⟩,(by rw [h12];exact beq_self_eq_true _)⟩,a15⟩,a16⟩,a17⟩,a18⟩
end Go.AW
