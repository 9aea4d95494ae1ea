/-
  PartsCut.
-/
import Derived.Test.YtdnfcckkdnkaiaaGreatC10
import Derived.Test.YtdnfcckkdnkaiaaGreatChecked
import Derived.Test.YtdnfcckkdnkaiaaGreatRows
import Derived.JoinedOf
import Derived.Below
import Derived.ProofKit
set_option linter.unusedVariables false
set_option linter.unusedSimpArgs false
set_option maxHeartbeats 4000000
set_option maxRecDepth 10000
namespace Go.AW
open Go Go.Proofs
attribute [local irreducible] thenQ blockQ RetQ AL AW AC AOp
theorem awk_sp:spansr [(nId,fun c=>(Cu.vtake c).2),(nKey,fun c=>(Cu.okey c).2)] ⟨[5,1,107],0,0⟩=([(nId,(0,1)),(nKey,(1,3))],⟨[5,1,107],3,0⟩):=by
 have h5:vput 5=[5]:=by rw [vput_small (by decide)];rfl
 have h1:vput 1=[1]:=by rw [vput_small (by decide)];rfl
 have g1:Cu.vtake ⟨[5,1,107],0,0⟩=(5,⟨[5,1,107],1,0⟩):=by
  have h:=trip_v.fore ⟨[5,1,107],0,0⟩ 5 [1,107] (by decide) rfl (by decide) (by rw [h5];rfl)
  rw [h5] at h;exact h
 have g2:Cu.okey ⟨[5,1,107],1,0⟩=([107],⟨[5,1,107],3,0⟩):=by
  have he:eblob [107]=[1,107]:=by show vput 1++[107]=_;rw [h1];rfl
  have h:=trip_okey.fore ⟨[5,1,107],1,0⟩ [107] [] ⟨⟨by decide,by decide⟩,by decide⟩ rfl (by decide) (by rw [he];rfl)
  rw [he] at h;exact h
 simp only [spansr_cons,g1,g2]
 rfl
theorem awake31:AC Tryz.prog 26 [] [] fun x σ=>x=bv true∧σ=[]:=by
 have hp:=pay_1 2 (.inr rfl) has_21 [5,1,107] (by decide)
 rw [awk_sp] at hp
 have hs:=ref31_Same [(nId,(0,1)),(nKey,(1,3))] [(nId,(0,1)),(nKey,(1,3))] (by decide)
 rw [show decide (([(nId,(0,1)),(nKey,(1,3))]:List Sp)=[(nId,(0,1)),(nKey,(1,3))])=true from decide_eq_true rfl] at hs
 refine AC.wk Tryz.func26 ?_
 (have kk1:=uN [] hp;have kk2:=uN [] hs;exact Wc0)
theorem partsCut(s:List UInt8)(hs:s.length≤9223372036854775807)(l:List Sp)(hl:l.length≤9223372036854775807)(hf:∀ x ∈ l,Sp.fits x)(nm:List UInt8)(hn:nm.length≤9223372036854775807):AC Tryz.prog 6 [sv (bs s),.d (.l l.length (spsD l)),sv (bs nm)] [] fun x σ=>x=bv true∧σ=[]:=by
 refine AC.wk Tryz.func6 ?_
 by_cases h1:s.length≤200
 case neg=>
  (have kk1:=uN [] awake31;exact Wd0)
 by_cases h2:l.length≤40
 case neg=>
  (have kk1:=uN [] awake31;exact Wd0)
 by_cases h3:nm.length≤100
 case neg=>
  (have kk1:=uN [] awake31;exact Wd0)
 have hcu:=parts_Cut s (by omega) l (by omega) hf
 have hfi:=parts_Find nm l (by omega)
 focus (have kk1:=uN [] awake31;have kk2:=uN [] hcu;(repeat' (first|(refine ADr.nil ?_;try clear hgv)|refine GO ?_|refine AW.ret ?_|(refine GC ?_ ?_<;>intro h<;>(try simp only [hsB] at h)<;>try exact xf)|(refine GD ?_ ?_<;>intro h<;>(try intro hgv)<;>(try simp only [hsN] at h)<;>(try simp only [h])<;>(try simp only [hsB] at h)<;>try exact xf)|(refine GL ?_ ?_<;>intro h<;>(try simp only [hsN] at h)<;>(try simp only [h])<;>(try simp only [hsB] at h)<;>try exact xf)|fail));all_goals clear kk1 kk2)
 all_goals first|(exfalso;omega)|skip
 refine AW.rounds [0,1,2,6,7,8,9,10] (fun x:Nat × Sp × Bool=>[(0,sv (bs s)),(1,.d (.l l.length (spsD l))),(2,sv (bs nm)),(6,bv false),(7,.d (.l l.length (strsD (l.map (cutS s))))),(8,.p 0 0),(9,bv x.2.2),(10,iv .i64 ((x.1:Int)-1))]) (fun x=>[.box 69 [sv (bs x.2.1.1),iv .i64 x.2.1.2.1,iv .i64 x.2.1.2.2]])
  (fun x=>x.1≤l.length∧findS nm (l.drop x.1)=x.2) (fun x=>x.1) (l.length,([],0,0),false) ⟨Nat.le_refl _,by rw [List.drop_length];rfl⟩ rfl rfl (fun _ _=>Nat.le_of_ble_eq_true rfl) (fun _ _=>rfl) (fun _ _=>rfl) ?_
 rintro ⟨k,⟨n0,f0,t0⟩,th⟩ ⟨hk,hr⟩ J hJ
 simp only at hk hr ⊢
 cases k with
 | zero=>
  rw [List.drop_zero] at hr
  rw [hr] at hfi
  simp only at hfi
  clear hJ hcu
  have hdd:(decide (n0=n0)&&(decide (f0=f0)&&decide (t0=t0)))=true:=by simp
  have hth:decide (th=th)=true:=by simp
  (have kxs:=And.intro hdd hth;have kk1:=uN [] hfi;exact Wd0)
 | succ j=>
  have hj:(((j+1:Nat):Int)-1)=(j:Nat):=by omega
  rw [hj]
  obtain ⟨x,r,hd⟩:=next_at (l:=l) (i:=j) (by omega)
  have hcd:=sps_drop hd
  have hce:=cuts_drop s hd
  have hnd:=next_drop hd
  obtain ⟨hx1,hx2,hx3⟩:=hf x (next_mem hd)
  obtain ⟨n2,fr,to⟩:=x
  simp only at hcd hx1 hx2 hx3
  rw [hnd] at hr
  have hgo:∀ z:Sp × Bool,findS nm (l.drop j)=z→∀ T' σ',keepT T' [0,1,2,6,7,8,9,10]=[(0,sv (bs s)),(1,.d (.l l.length (spsD l))),(2,sv (bs nm)),(6,bv false),(7,.d (.l l.length (strsD (l.map (cutS s))))),(8,.p 0 0),(9,bv z.2),(10,iv .i64 ((j:Int)-1))]→σ'.take 1=[.box 69 [sv (bs z.1.1),iv .i64 z.1.2.1,iv .i64 z.1.2.2]]→J T' σ':=fun z hz T' σ' g1 g2=>
   hJ (j,z) T' σ' (by simp) ⟨by simp only;omega,hz⟩ g1 g2
  rw [hd] at hgo
  have hju:((j:Nat):Int).toNat=j:=Int.toNat_natCast j
  clear hJ hcu hfi
  by_cases hnm:n2=nm
  ·have go:=hgo ((n2,fr,to),true) (if_pos hnm)
   clear hgo hr
   simp only at go
   by_cases g0:0≤fr∧fr≤to∧to≤(s.length:Int)
   ·obtain ⟨g1,g2,g3⟩:=g0
    rw [show cutS s (n2,fr,to)=(s.drop fr.toNat).take (to.toNat-fr.toNat) from if_neg (by simp only;omega)] at hce
    focus (have kxs:=And.intro hcd (And.intro hce (And.intro g1 (And.intro g2 (And.intro g3 hnm))));(repeat' (first|(refine ADr.nil ?_;try clear hgv)|refine GO ?_|refine AW.ret ?_|(refine GC ?_ ?_<;>intro h<;>(try simp only [hsB] at h)<;>try exact xf)|(refine GD ?_ ?_<;>intro h<;>(try intro hgv)<;>(try simp only [hsN] at h)<;>(try simp only [h])<;>(try simp only [hsB] at h)<;>try exact xf)|(refine GL ?_ ?_<;>intro h<;>(try simp only [hsN] at h)<;>(try simp only [h])<;>(try simp only [hsB] at h)<;>try exact xf)|fail));all_goals clear kxs)
    all_goals first|exact go _ _ rfl rfl|(subst hnm;exact go _ _ rfl rfl)|exact xg
   ·rw [show cutS s (n2,fr,to)=[] from if_pos (by simp only;omega)] at hce
    focus (have kxs:=And.intro hcd (And.intro hce hnm);(repeat' (first|(refine ADr.nil ?_;try clear hgv)|refine GO ?_|refine AW.ret ?_|(refine GC ?_ ?_<;>intro h<;>(try simp only [hsB] at h)<;>try exact xf)|(refine GD ?_ ?_<;>intro h<;>(try intro hgv)<;>(try simp only [hsN] at h)<;>(try simp only [h])<;>(try simp only [hsB] at h)<;>try exact xf)|(refine GL ?_ ?_<;>intro h<;>(try simp only [hsN] at h)<;>(try simp only [h])<;>(try simp only [hsB] at h)<;>try exact xf)|fail));all_goals clear kxs)
    all_goals first|exact go _ _ rfl rfl|(subst hnm;exact go _ _ rfl rfl)|exact xg
  ·have go:=hgo ((n0,f0,t0),th) (by rw [←hr];exact if_neg hnm)
   clear hgo hr
   simp only at go
   by_cases g0:0≤fr∧fr≤to∧to≤(s.length:Int)
   ·obtain ⟨g1,g2,g3⟩:=g0
    rw [show cutS s (n2,fr,to)=(s.drop fr.toNat).take (to.toNat-fr.toNat) from if_neg (by simp only;omega)] at hce
    focus (have kxs:=And.intro hcd (And.intro hce (And.intro g1 (And.intro g2 (And.intro g3 hnm))));(repeat' (first|(refine ADr.nil ?_;try clear hgv)|refine GO ?_|refine AW.ret ?_|(refine GC ?_ ?_<;>intro h<;>(try simp only [hsB] at h)<;>try exact xf)|(refine GD ?_ ?_<;>intro h<;>(try intro hgv)<;>(try simp only [hsN] at h)<;>(try simp only [h])<;>(try simp only [hsB] at h)<;>try exact xf)|(refine GL ?_ ?_<;>intro h<;>(try simp only [hsN] at h)<;>(try simp only [h])<;>(try simp only [hsB] at h)<;>try exact xf)|fail));all_goals clear kxs)
    all_goals first|exact go _ _ rfl rfl|(subst hnm;exact go _ _ rfl rfl)|exact xg
   ·rw [show cutS s (n2,fr,to)=[] from if_pos (by simp only;omega)] at hce
    focus (have kxs:=And.intro hcd (And.intro hce hnm);(repeat' (first|(refine ADr.nil ?_;try clear hgv)|refine GO ?_|refine AW.ret ?_|(refine GC ?_ ?_<;>intro h<;>(try simp only [hsB] at h)<;>try exact xf)|(refine GD ?_ ?_<;>intro h<;>(try intro hgv)<;>(try simp only [hsN] at h)<;>(try simp only [h])<;>(try simp only [hsB] at h)<;>try exact xf)|(refine GL ?_ ?_<;>intro h<;>(try simp only [hsN] at h)<;>(try simp only [h])<;>(try simp only [hsB] at h)<;>try exact xf)|fail));all_goals clear kxs)
    all_goals first|exact go _ _ rfl rfl|(subst hnm;exact go _ _ rfl rfl)|exact xg
end Go.AW
namespace Go.AW
open Go Go.Proofs
def chs(l:List Nat):List Char:=l.map Char.ofNat
theorem words_app(r:List Char):∀ w:List Nat,(w.all fun c=>!(Char.ofNat c == Char.ofNat 32))=true→wordsSigns (chs w++Char.ofNat 32::r)=chs w::wordsSigns r
 | [],_=>rfl
 | c::w,h=>by
  simp only [List.all_cons,Bool.and_eq_true] at h
  have ih:=words_app r w h.2
  have hc:Char.ofNat c≠Char.ofNat 32:=by simpa using h.1
  show wordsSigns (Char.ofNat c::(chs w++Char.ofNat 32::r))=_
  conv=>lhs;unfold wordsSigns
  split
  ·rename_i heq;cases heq
  ·rename_i heq
   obtain ⟨h1,h2⟩:=List.cons.inj heq
   exact absurd h1 hc
  ·rename_i heq
   obtain ⟨h1,h2⟩:=List.cons.inj heq
   subst h1 h2
   rw [ih]
   rfl
def headWord:List Nat:=[104,97,114,110,101,115,115]
def headSum:List Nat:=[53,48,101,57,52,99,49,56,49,52,53,51,49,51,55,100,101,49,101,48,50,53,49,52,55,98,102,57,56,102,49,54,57,56,55,97,101,48,49,57,54,100,55,99,56,48,100,99,55,48,49,48,98,99,101,48,55,97,52,54,48,51,55,48]
def headCut:List Nat:=[99,117,116]
def headRest:List Nat:=[97,116,32,115,112,101,110,99,101,47,115,112,101,110,99,101,108,97,119,50,51,46,77,115,103,68,101,99,111,100,101,115,32,115,112,101,110,99,101,47,115,112,101,110,99,101,108,97,119,50,52,46,82,112,99,83,101,97,108,115,32,115,112,101,110,99,101,47,115,112,101,110,99,101,108,97,119,50,51,46,77,115,103,69,110,99,111,100,101,115,32,115,112,101,110,99,101,47,115,112,101,110,99,101,108,97,119,51,49,46,80,97,114,116,115,67,117,116,32,115,112,101,110,99,101,47,115,112,101,110,99,101,108,97,119,51,49,46,80,97,114,116,115,84,101,108,108]
def hcs:List Char:=chs headWord++Char.ofNat 32::(chs headSum++Char.ofNat 32::(chs headCut++Char.ofNat 32::chs headRest))
theorem head_o:Tryz.prog.initOrder=String.ofList hcs:=by kernel_rfl
theorem head_w:behindMainWord (wordsSigns Tryz.prog.initOrder.toList) = "cut".toList::wordsSigns (chs headRest):=by
 rw [head_o,String.toList_ofList,hcs,words_app _ _ (by decide +kernel),words_app _ _ (by decide +kernel),words_app _ _ (by decide +kernel)]
 have h1:chs headWord = "harness".toList:=by decide +kernel
 have h2:isSumSigns (chs headSum)=true:=by decide +kernel
 have h3:chs headCut = "cut".toList:=by decide +kernel
 rw [h1,h3]
 unfold behindMainWord
 simp only [h2,beq_self_eq_true,Bool.true_or,Bool.true_and,if_true]
theorem head_strip(ws:List (List Char)):stripLifts liftWords ("cut".toList::ws)=([],"cut".toList::ws):=by
 have:∀ l:List String,(l.all fun o=>!("cut".toList == o.toList))=true→stripLifts l ("cut".toList::ws)=([],"cut".toList::ws):=by
  intro l
  induction l with
  | nil=>intro _;rfl
  | cons o l ih=>
   intro h
   simp only [List.all_cons,Bool.and_eq_true,Bool.not_eq_true'] at h
   unfold stripLifts
   rw [if_neg (by rw [h.1];decide)]
   exact ih h.2
 exact this _ (by decide +kernel)
theorem head_lifts:Tryz.prog.headLifts=[]:=by
 unfold Program.headLifts
 rw [head_w,head_strip]
 simp
theorem head_final:Tryz.prog.liftsFinal=false:=by
 unfold Program.liftsFinal
 rw [head_w,head_lifts]
 have:((some "cut".toList == some "carried".toList)=false):=by decide +kernel
 simp only [List.head?_cons,this,Bool.false_and,Bool.false_or]
 rfl
theorem make_of{P:Program}{r:List (List Char)}(h:behindMainWord (wordsSigns P.initOrder.toList) = "cut".toList::r):P.make=some .cut:=by
 unfold Program.make
 rw [h]
 have h1:(("cut".toList == "gc".toList|| "cut".toList == "spec".toList)=false):=by decide +kernel
 simp only [h1,Bool.false_eq_true,if_false,beq_self_eq_true,Bool.true_or,if_true]
theorem enter_of{P:Program}{r:List (List Char)}(h:behindMainWord (wordsSigns P.initOrder.toList) = "cut".toList::r)(hl:P.laysLater=false)(hr:P.bearsReflect=false)(hd:P.doorRows=[]):P.mayEnter=true:=by
 unfold Program.mayEnter
 rw [h]
 have h1:(("cut".toList == "gc".toList|| "cut".toList == "spec".toList)=false):=by decide +kernel
 have h2:(("cut".toList == "carried".toList)=false):=by decide +kernel
 have h3:P.doorFits []=true:=by
  unfold Program.doorFits
  rw [hd]
  rfl
 simp only [h1,h2,head_strip,hl,hr,h3,List.head?_cons,beq_self_eq_true,Bool.not_false,Bool.or_true,Bool.and_true,Bool.false_and,Bool.or_false,Bool.true_and,Bool.false_or,List.contains_nil,Bool.or_self]
theorem head_make:Tryz.prog.make=some .cut:=make_of head_w
theorem head_lays:Tryz.prog.laysLater=false:=by
 unfold Program.laysLater
 rw [←Array.any_toList]
 kernel_rfl
theorem head_refl:Tryz.prog.bearsReflect=false:=by kernel_rfl
theorem head_rows:Tryz.prog.doorRows=[]:=by kernel_rfl
theorem head_enter:Tryz.prog.mayEnter=true:=enter_of head_w head_lays head_refl head_rows
theorem head_laid:laidOutB Tryz.prog=true:=by kernel_rfl
theorem head_maps:mapsRowed Tryz.prog=true:=by kernel_rfl
theorem head_keys:Tryz.prog.plainKeys=true:=by kernel_rfl
theorem head_stops:Tryz.prog.stops=[]:=by kernel_rfl
theorem head_knobs:Tryz.prog.stopKnobs=[]:=by kernel_rfl
theorem head_heard:Tryz.prog.stopsHeard=true:=by kernel_rfl
theorem joined_of{P:Program}{f:FuncId}{fn:Func}{s:ChangeSpec}{c:OpenClaim}(h1:laidOutB P=true)(h2:mapsRowed P=true)(h3:P.stops=[])(h4:P.stopKnobs=[])(h5:(c.inPlace == P.inPlace f)=true)(h6:(c.unfollowed == P.unfollowed f)=true)(h7:(c.recurses == P.recurses f)=true)(h8:(c.named == P.varsNamed f)=true)
  (h9:P.stopsHeard=true) (h10:P.mayEnter=true) (h11:P.liftsFinal=c.lifted) (h12:P.make=some c.make) (h13:P.plainKeys=c.plainKeys)
  (h:(c.wf (OpenSpec.ofChange s)&&
   fn.params.all (P.readableRec ·)&&
   namedTie P c.named s.vars&&
   (c.stops == [])&&
   (c.knobs == [])&&
   (c.maps == (fn.params.toList++s.plain.varTypes P).any (P.mapsRec ·))&&
   (c.ifaces == (fn.params.toList++s.plain.varTypes P).any (P.ifacesRec ·))&&
   (c.mapsOut == P.mapsAmong fn.resultTypes.toList)&&
   (c.loops == (fn.params.toList++s.plain.varTypes P).any (P.loopsFrom ·))&&
   (c.wideKeys == (fn.params.toList++s.plain.varTypes P++fn.resultTypes.toList).any (P.wideKeysFrom ·))&&
   s.vars.all (P.varReadable ·)&&
   fn.resultTypes.all (fun t=>P.readableRec t&&decide (t<P.types.size))&&
   (c.ifacesOut == fn.resultTypes.toList.any (P.ifacesRec ·))&&
   (c.loopsOut == fn.resultTypes.toList.any (P.loopsFrom ·))&&
   c.shortTexts.isNone&&
   (c.kinds == (if c.domain.isEmpty then [] else fn.params.toList.map fun t=>match P.underlying t with|some (.int k)=>some k|_=>none))&&
   (c.pinned == c.pinnedBy)&&
   (c.veiled == (fn.params.toList++s.plain.varTypes P++fn.resultTypes.toList).any (P.veiledRec ·))&&
   c.veiledFits P fn.params.toList (fn.params.toList++s.plain.varTypes P++fn.resultTypes.toList))=true):joinedFacts P f fn s c=true:=by
 unfold joinedFacts
 simp only [Bool.and_eq_true] at h ⊢
 obtain ⟨⟨⟨⟨⟨⟨⟨⟨⟨⟨⟨⟨⟨⟨⟨⟨⟨⟨a0,a1⟩,a2⟩,a3⟩,a4⟩,a5⟩,a6⟩,a7⟩,a8⟩,a9⟩,a10⟩,a11⟩,a12⟩,a13⟩,a14⟩,a15⟩,a16⟩,a17⟩,a18⟩:=h
 exact ⟨⟨⟨⟨⟨⟨⟨⟨⟨⟨⟨⟨⟨⟨⟨⟨⟨⟨⟨⟨⟨⟨⟨⟨⟨⟨⟨⟨⟨⟨⟨a0,h1⟩,h2⟩,a1⟩,a2⟩,a3⟩,(by rw [h3];rfl)⟩,a4⟩,(by rw [h4];rfl)⟩,h5⟩,h6⟩,h7⟩,h8⟩,a5⟩,a6⟩,a7⟩,a8⟩,a9⟩,a10⟩,a11⟩,a12⟩,a13⟩,(by rw [h13];exact beq_self_eq_true _)⟩,a14⟩,h9⟩,h10⟩,(by rw [h11];exact beq_self_eq_true _)⟩,(by rw [h12];exact beq_self_eq_true _)⟩,a15⟩,a16⟩,a17⟩,a18⟩
end Go.AW
