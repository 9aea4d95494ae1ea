/-
  pages that are read: the document's.
-/
import Derived.Test.YtdnfcckkdnkaiaaGreatU14
import Derived.Test.YtdnfcckkdnkaiaaGreatU25
import Derived.Test.YtdnfcckkdnkaiaaGreatU33
set_option linter.unusedVariables false
set_option linter.unusedSimpArgs false
set_option maxHeartbeats 4000000
set_option maxRecDepth 10000
namespace Go.AW
open Go Go.Proofs
attribute [local irreducible] thenQ blockQ RetQ AL AW AC AOp
theorem page_leaf{c c1 c2 cf:Cu}{pre:List UInt8}{ts:List It}(h1:Cu.blob c 31=(pre,c1))(h2:Cu.flag c1=(true,c2))(h3:Cu.itemsg pre c2=(ts,cf)):Cu.page c=(if cf.e≠0 then pg0 else ⟨pre,true,[],ts⟩,cf):=by
 obtain ⟨i1,i2⟩:=itemsg_items pre c2
 unfold Cu.page Cu.page1 Cu.page0 rseq
 simp only [h1,h2]
 rw [show Cu.pbody pre true c2=(([],(Cu.items pre c2).1),(Cu.items pre c2).2) from rfl]
 rw [h3] at i1 i2
 generalize Cu.items pre c2=y at *
 obtain ⟨l,c3⟩:=y
 simp only at i1 i2 ⊢
 subst i1
 by_cases hce:cf.e=0
 ·obtain ⟨rfl,_⟩:=Prod.mk.inj (i2 hce)
  rfl
 ·rw [if_pos hce,if_pos hce]
theorem page_inner{c c1 c2 cf:Cu}{pre:List UInt8}{ts:List Sl}(h1:Cu.blob c 31=(pre,c1))(h2:Cu.flag c1=(false,c2))(h3:Cu.slotsg c2=(ts,cf)):Cu.page c=(if cf.e≠0 then pg0 else ⟨pre,false,ts,[]⟩,cf):=by
 obtain ⟨i1,i2⟩:=slotsg_slots c2
 unfold Cu.page Cu.page1 Cu.page0 rseq
 simp only [h1,h2]
 rw [show Cu.pbody pre false c2=(((Cu.slots c2).1,[]),(Cu.slots c2).2) from rfl]
 rw [h3] at i1 i2
 generalize Cu.slots c2=y at *
 obtain ⟨l,c3⟩:=y
 simp only at i1 i2 ⊢
 subst i1
 by_cases hce:cf.e=0
 ·obtain ⟨rfl,_⟩:=Prod.mk.inj (i2 hce)
  rfl
 ·rw [if_pos hce,if_pos hce]
theorem vtake_stk0{c:Cu}(h:c.e≠0):Cu.vtake c=(0,c):=by
 unfold Cu.vtake;rw [if_pos h]
theorem count_stk{c:Cu}(h:c.e≠0)(m:Int):Cu.count c m=(0,c):=by
 unfold Cu.count
 rw [vtake_stk0 h,if_pos h]
theorem count_none{c:Cu}{m:Int}(h:(Cu.count c m).2.e≠0):(Cu.count c m).1=0:=by
 unfold Cu.count at h ⊢
 split
 ·rfl
 rename_i h1
 rw [if_neg h1] at h
 split
 ·rfl
 rename_i h2
 rw [if_neg h2] at h
 exact absurd h h1
theorem itemsg_stuck{c:Cu}(h:c.e≠0)(pre:List UInt8):Cu.itemsg pre c=([],c):=by
 unfold Cu.itemsg;rw [count_stk h];rfl
theorem slotsg_stuck{c:Cu}(h:c.e≠0):Cu.slotsg c=([],c):=by
 unfold Cu.slotsg Cu.count7
 rw [count_stk h]
 show ([],gd (decide ((0:Nat)≠0)) 7 c)=_
 rw [gd_stuck h]
theorem bytes_stk{c:Cu}(h:c.e≠0)(n:Int):Cu.bytes ⟨c.s,c.a,c.e⟩ n=([],c):=Cu.bytes_stuck n h
theorem ref20_Take(s:List UInt8)(a:Nat)(e:Int)(h:Cu.Ok ⟨s,a,e⟩):AC Tryz.prog 42 [.p 0 0] [Cu.ro ⟨s,a,e⟩] fun x σ=>x=pgV (Cu.page ⟨s,a,e⟩).1∧σ=[Cu.ro (Cu.page ⟨s,a,e⟩).2]:=by
 refine AC.wk Tryz.func42 ?_
 have hbt:=ref06_Take s a e 31 h (by decide)
 have hok1:(Cu.blob ⟨s,a,e⟩ 31).2.Ok:=Cu.blob_ok h
 have hpl:(Cu.blob ⟨s,a,e⟩ 31).1.length≤9223372036854775807:=by
  have h1:(Cu.blob ⟨s,a,e⟩ 31).1.length≤(Cu.count ⟨s,a,e⟩ 31).1:=by unfold Cu.blob;exact bytes_le (Cu.count ⟨s,a,e⟩ 31).2 (Cu.count ⟨s,a,e⟩ 31).1
  have h2:=Cu.count_max ⟨s,a,e⟩ 31
  omega
 have hp1:=fun c2 ts cf=>@page_leaf ⟨s,a,e⟩ (Cu.blob ⟨s,a,e⟩ 31).2 c2 cf (Cu.blob ⟨s,a,e⟩ 31).1 ts rfl
 have hp2:=fun c2 ts cf=>@page_inner ⟨s,a,e⟩ (Cu.blob ⟨s,a,e⟩ 31).2 c2 cf (Cu.blob ⟨s,a,e⟩ 31).1 ts rfl
 generalize Cu.page ⟨s,a,e⟩=R at *
 generalize Cu.blob ⟨s,a,e⟩ 31=z at *
 obtain ⟨pre,c1⟩:=z
 simp only at hbt hok1 hpl hp1 hp2
 have hft:=ref06_Flag c1.s c1.a c1.e hok1
 have hok2:(Cu.flag ⟨c1.s,c1.a,c1.e⟩).2.Ok:=Cu.flag_ok hok1
 have hfe:Cu.flag c1=Cu.flag ⟨c1.s,c1.a,c1.e⟩:=rfl
 rw [hfe] at hp1 hp2
 generalize Cu.flag ⟨c1.s,c1.a,c1.e⟩=z at *
 obtain ⟨leaf,c2⟩:=z
 simp only at hft hok2 hp1 hp2
 by_cases he2:c2.e=0
 case neg=>
  have hR:R=(pg0,c2):=by
   cases leaf with
   | true=>rw [hp1 c2 [] c2 rfl (itemsg_stuck he2 pre),if_pos he2]
   | false=>rw [hp2 c2 [] c2 rfl (slotsg_stuck he2),if_pos he2]
  rw [hR]
  clear hp1 hp2
  (have kk1:=uN [0] hbt;have kk2:=uN [0] hft;exact We1)
 cases leaf with
 | true=>
  have hct:=ref06_Count c2.s c2.a c2.e 8 hok2 (by decide)
  have hlt:(Cu.count ⟨c2.s,c2.a,c2.e⟩ 8).1≤8:=Cu.count_max _ 8
  have hok0:(Cu.count ⟨c2.s,c2.a,c2.e⟩ 8).2.Ok:=Cu.count_ok hok2
  have hcn:=@count_none ⟨c2.s,c2.a,c2.e⟩ 8
  have hp3:=fun ts cf (h:Cu.itemsg pre c2=(ts,cf))=>hp1 c2 ts cf rfl h
  unfold Cu.itemsg at hp3
  rw [show Cu.count c2 8=Cu.count ⟨c2.s,c2.a,c2.e⟩ 8 from rfl] at hp3
  clear hp1 hp2
  generalize Cu.count ⟨c2.s,c2.a,c2.e⟩ 8=z at *
  obtain ⟨n,c0⟩:=z
  simp only at hct hlt hok0 hcn hp3
  focus (have kk1:=uN [0] hbt;have kk2:=uN [0] hft;have kk3:=uN [0] hct;(repeat' (first|(refine ADr.nil ?_;try clear hgv)|refine GO ?_|refine AW.ret ?_|(refine GC ?_ ?_<;>intro h<;>(try simp only [hsB] at h)<;>try exact xf)|(refine GD ?_ ?_<;>intro h<;>(try intro hgv)<;>(try simp only [hsN] at h)<;>(try simp only [h])<;>(try simp only [hsB] at h)<;>try exact xf)|(refine GL ?_ ?_<;>intro h<;>(try simp only [hsN] at h)<;>(try simp only [h])<;>(try simp only [hsB] at h)<;>try exact xf)|fail));all_goals clear kk1 kk2 kk3)
  all_goals first|exact xg|skip
  clear hbt hft hct
  refine AW.birth 178 2 [] [(2,3)] ?_
  refine AW.rounds [0,2,3,4,5] (fun x:List It × Cu=>[(0,.p 0 0),(2,.p 1 0),(3,.p 2 0),(4,iv .i64 n),(5,iv .i64 x.1.length)])
   (fun x=>[Cu.ro x.2,.box 35 [sv (bs []),bv false,.d (.s (.slice none 0 0)),.d (.s (.slice none 0 0))],.box 35 [sv (bs pre),bv true,.d (.s (.slice none 0 0)),.o 3 x.1.length],.row 178 2 x.1.length (itsD x.1)])
   (fun x=>x.2.Ok∧x.1.length≤n∧(x.2.e=0∨n=0)∧(∀ y ∈ x.1,y.1.length≤32)∧Cu.manyg (Cu.item pre) (fun _ x=>some x.1) n none c0=(x.1++(Cu.manyg (Cu.item pre) (fun _ x=>some x.1) (n-x.1.length) (lastK x.1) x.2).1,(Cu.manyg (Cu.item pre) (fun _ x=>some x.1) (n-x.1.length) (lastK x.1) x.2).2)) (fun x=>n-x.1.length) ([],c0)
   ⟨hok0,Nat.zero_le _,by by_cases hz:c0.e=0;exact .inl hz;exact .inr (hcn hz),fun y hy=>(List.not_mem_nil hy).elim,rfl⟩ rfl rfl (fun _ _=>by show 1≤4;decide) (fun _ _=>rfl) (fun _ _=>rfl) ?_
  rintro ⟨out,c⟩ ⟨hok,hol,hz,hky,hR⟩ J hJ
  simp only at hok hol hz hky hR ⊢
  by_cases hlen:out.length<n
  case neg=>
   rw [show n-out.length=0 by omega] at hR
   rw [show Cu.manyg (Cu.item pre) (fun _ x=>some x.1) 0 (lastK out) c=([],c) from rfl,List.append_nil] at hR
   have hRR:=hp3 _ _ hR
   by_cases hce:c.e=0
   ·rw [if_neg (by simpa using hce)] at hRR
    rw [hRR]
    focus ((repeat' (first|(refine ADr.nil ?_;try clear hgv)|refine GO ?_|refine AW.ret ?_|(refine GC ?_ ?_<;>intro h<;>(try simp only [hsB] at h)<;>try exact xf)|(refine GD ?_ ?_<;>intro h<;>(try intro hgv)<;>(try simp only [hsN] at h)<;>(try simp only [h])<;>(try simp only [hsB] at h)<;>try exact xf)|(refine GL ?_ ?_<;>intro h<;>(try simp only [hsN] at h)<;>(try simp only [h])<;>(try simp only [hsB] at h)<;>try exact xf)|fail)))
    all_goals first|(((all_goals first|refine RetQ.yr 1 (xs:=[.a [sv (bs pre),bv true,.d (.s (.slice none 0 0)),.o 3 out.length]]) ⟨?_,?_⟩|refine RetQ.yn 1 (xs:=[.a [sv (bs pre),bv true,.d (.s (.slice none 0 0)),.o 3 out.length]]) ⟨?_,?_⟩);(all_goals exact fx));done)|exact xg
   ·rw [if_pos hce] at hRR
    rw [hRR]
    exact We1
  have hce:c.e=0:=by rcases hz with h|h;exact h;omega
  obtain ⟨m,hm⟩:∃ m,n-out.length=m+1:=⟨n-out.length-1,by omega⟩
  rw [hm] at hR
  conv at hR=>rhs;unfold Cu.manyg
  rw [if_neg (by simpa using hce)] at hR
  have hbk:=ref01_Bytes c.s c.a c.e 32 hok
  have hok1:(Cu.bytes ⟨c.s,c.a,c.e⟩ 32).2.Ok:=Cu.bytes_ok hok
  have hkl:(Cu.bytes ⟨c.s,c.a,c.e⟩ 32).1.length≤32:=bytes_le _ 32
  have hit:Cu.item pre (lastK out) c=(((Cu.bytes ⟨c.s,c.a,c.e⟩ 32).1,(Cu.bytes (gd (afterL (lastK out) (Cu.bytes ⟨c.s,c.a,c.e⟩ 32).1) 6 (gd (begins (Cu.bytes ⟨c.s,c.a,c.e⟩ 32).1 pre) 18 (Cu.bytes ⟨c.s,c.a,c.e⟩ 32).2)) 32).1),(Cu.bytes (gd (afterL (lastK out) (Cu.bytes ⟨c.s,c.a,c.e⟩ 32).1) 6 (gd (begins (Cu.bytes ⟨c.s,c.a,c.e⟩ 32).1 pre) 18 (Cu.bytes ⟨c.s,c.a,c.e⟩ 32).2)) 32).2):=rfl
  rw [hit] at hR
  clear hit
  generalize Cu.bytes ⟨c.s,c.a,c.e⟩ 32=z at *
  obtain ⟨k,c1⟩:=z
  simp only at hbk hok1 hkl hR
  have hpf:=ref20_Begins k pre (by omega) hpl
  obtain ⟨q,hq⟩:∃ q,q=gd (afterL (lastK out) k) 6 (gd (begins k pre) 18 c1):=⟨_,rfl⟩
  rw [←hq] at hR
  have hqo:q.Ok:=by rw [hq];exact gd_ok (gd_ok hok1)
  have hbh:=ref01_Bytes q.s q.a q.e 32 hqo
  have hok2:(Cu.bytes ⟨q.s,q.a,q.e⟩ 32).2.Ok:=Cu.bytes_ok hqo
  have hqe:Cu.bytes q 32=Cu.bytes ⟨q.s,q.a,q.e⟩ 32:=rfl
  rw [hqe] at hR
  generalize hzz:Cu.bytes ⟨q.s,q.a,q.e⟩ 32=z at *
  obtain ⟨hh,c9⟩:=z
  simp only at hbh hok2 hR
  have stop:c9.e≠0→R=(pg0,c9):=fun h9=>by
   rw [manyg_stuck h9] at hR
   rw [hp3 _ _ hR,if_pos h9]
  have stuck:q.e≠0→hh=[]∧c9=q:=fun h9=>by
   rw [bytes_stk h9] at hzz
   obtain ⟨a1,a2⟩:=Prod.mk.inj hzz
   exact ⟨a1.symm,a2.symm⟩
  have go:c9.e=0→∀ T' σ',keepT T' [0,2,3,4,5]=[(0,.p 0 0),(2,.p 1 0),(3,.p 2 0),(4,iv .i64 n),(5,iv .i64 ((out.length:Int)+1))]→σ'.take 4=[Cu.ro c9,.box 35 [sv (bs []),bv false,.d (.s (.slice none 0 0)),.d (.s (.slice none 0 0))],.box 35 [sv (bs pre),bv true,.d (.s (.slice none 0 0)),.o 3 (out.length+1)],.row 178 2 (out.length+1) (itsD out++[D.s (.string ⟨k.toArray⟩),.s (.string ⟨hh.toArray⟩)])]→J T' σ':=fun h9 T' σ' g1 g2=>by
   have hl:(out++[(k,hh)]).length=out.length+1:=by simp
   refine hJ (out++[(k,hh)],c9) T' σ' (by simp only [hl];omega) ⟨hok2,by simp only [hl];omega,.inl h9,?_,?_⟩ (by simp only [hl];exact g1) (by simp only [hl];rw [←its_snoc];exact g2)
   ·intro y hy
    rcases List.mem_append.1 hy with hy|hy
    ·exact hky y hy
    ·obtain rfl:=List.mem_singleton.1 hy;exact hkl
   simp only [hl,lastK_snoc]
   rw [hR,show n-(out.length+1)=m by omega]
   simp only [List.append_assoc,List.cons_append,List.nil_append]
  clear hJ hR hp3 hcn hzz hz
  have hlk:(out.length:Int)<n:=by omega
  have fl:∀ f,c1.e=0→c1.fail f=⟨c1.s,c1.a,f⟩:=fun f h=>by unfold Cu.fail;rw [if_pos h]
  by_cases e1:c1.e=0
  case neg=>
   have hq':q=c1:=by rw [hq,gd_stuck e1,gd_stuck e1]
   clear hq go fl
   subst hq'
   obtain ⟨rfl,rfl⟩:=stuck e1
   rw [stop e1]
   clear stop stuck
   (have kk1:=uN [0] hbk;have kk2:=uN [0] hbh;exact We1)
  cases hb:begins k pre with
  | false=>
   rw [hb] at hpf hq
   have hq':q=⟨c1.s,c1.a,18⟩:=by
    rw [hq]
    show gd _ 6 (c1.fail 18)=_
    rw [gd_stuck (Cu.fail_e (by decide)),fl _ e1]
   clear hq go fl
   subst hq'
   have e18:(⟨c1.s,c1.a,18⟩:Cu).e≠0:=by show (18:Int)≠0;decide
   obtain ⟨rfl,rfl⟩:=stuck e18
   rw [stop e18]
   clear stop stuck
   (have kk1:=uN [0] hbk;have kk2:=uN [] hpf;have kk3:=uN [0] hbh;exact We1)
  | true=>
  rw [hb] at hpf hq
  have hq:q=gd (afterL (lastK out) k) 6 c1:=hq
  by_cases h0:0<out.length
  ·obtain ⟨y,hy1,hy2,hy3⟩:=its_last h0
   rw [hy1] at hq
   have hq:q=gd (lessB y.1 k) 6 c1:=hq
   have hi1:((out.length:Int)-1).toNat=out.length-1:=by omega
   have hyl:=hky y hy3
   have hbl:=ref06_Below y.1 k (by omega) (by omega)
   cases ha:lessB y.1 k with
   | false=>
    rw [show Op.bytesLess y.1 k=false from ha] at hbl
    have hq':q=⟨c1.s,c1.a,6⟩:=by
     rw [hq,ha]
     show c1.fail 6=_
     rw [fl _ e1]
    clear hq go fl
    subst hq'
    have e6:(⟨c1.s,c1.a,6⟩:Cu).e≠0:=by show (6:Int)≠0;decide
    obtain ⟨rfl,rfl⟩:=stuck e6
    rw [stop e6]
    clear stop stuck
    (have kxs:=And.intro hi1 hy2;have kk1:=uN [0] hbk;have kk2:=uN [] hpf;have kk3:=uN [] hbl;have kk4:=uN [0] hbh;exact We1)
   | true=>
    rw [show Op.bytesLess y.1 k=true from ha] at hbl
    have hq':q=c1:=by rw [hq,ha];rfl
    clear hq fl
    subst hq'
    by_cases h9:c9.e=0
    ·have go:=go h9
     clear stop stuck
     (have kxs:=And.intro hi1 hy2;have kk1:=uN [0] hbk;have kk2:=uN [] hpf;have kk3:=uN [] hbl;have kk4:=uN [0] hbh;exact Weg)
    ·rw [stop h9]
     clear stop stuck go
     (have kxs:=And.intro hi1 hy2;have kk1:=uN [0] hbk;have kk2:=uN [] hpf;have kk3:=uN [] hbl;have kk4:=uN [0] hbh;exact We1)
  ·rw [lastK_nil h0] at hq
   have hq':q=c1:=hq
   clear hq fl
   subst hq'
   by_cases h9:c9.e=0
   ·have go:=go h9
    clear stop stuck
    (have kk1:=uN [0] hbk;have kk2:=uN [] hpf;have kk3:=uN [0] hbh;exact Weg)
   ·rw [stop h9]
    clear stop stuck go
    (have kk1:=uN [0] hbk;have kk2:=uN [] hpf;have kk3:=uN [0] hbh;exact We1)
 | false=>
  have hct:=ref06_Count c2.s c2.a c2.e 256 hok2 (by decide)
  have hlt:(Cu.count ⟨c2.s,c2.a,c2.e⟩ 256).1≤256:=Cu.count_max _ 256
  have hok0:(Cu.count ⟨c2.s,c2.a,c2.e⟩ 256).2.Ok:=Cu.count_ok hok2
  have hcn:=@count_none ⟨c2.s,c2.a,c2.e⟩ 256
  have hp3:=fun ts cf (h:Cu.slotsg c2=(ts,cf))=>hp2 c2 ts cf rfl h
  unfold Cu.slotsg Cu.count7 at hp3
  rw [show Cu.count c2 256=Cu.count ⟨c2.s,c2.a,c2.e⟩ 256 from rfl] at hp3
  clear hp1 hp2
  generalize Cu.count ⟨c2.s,c2.a,c2.e⟩ 256=z at *
  obtain ⟨n,c8⟩:=z
  simp only at hct hlt hok0 hcn hp3
  obtain ⟨c0,hc0⟩:∃ c0,c0=gd (decide (n≠0)) 7 c8:=⟨_,rfl⟩
  rw [←hc0] at hp3
  have hok0:c0.Ok:=by rw [hc0];exact gd_ok hok0
  have hcn:c0.e≠0→n=0:=fun h=>by
   by_cases h8:c8.e=0
   ·by_cases hn:n=0
    ·exact hn
    ·rw [hc0,decide_eq_true hn] at h;exact absurd h8 h
   ·exact hcn h8
  by_cases h70:c8.e=0∧n=0
  ·have hc0':c0=⟨c8.s,c8.a,7⟩:=by
     rw [hc0,decide_eq_false (by simpa using h70.2)]
     show c8.fail 7=_
     unfold Cu.fail;rw [if_pos h70.1]
   clear hc0
   subst hc0'
   obtain ⟨h71,h72⟩:=h70
   focus (have kk1:=uN [0] hbt;have kk2:=uN [0] hft;have kk3:=uN [0] hct;(repeat' (first|(refine ADr.nil ?_;try clear hgv)|refine GO ?_|refine AW.ret ?_|(refine GC ?_ ?_<;>intro h<;>(try simp only [hsB] at h)<;>try exact xf)|(refine GD ?_ ?_<;>intro h<;>(try intro hgv)<;>(try simp only [hsN] at h)<;>(try simp only [h])<;>(try simp only [hsB] at h)<;>try exact xf)|(refine GL ?_ ?_<;>intro h<;>(try simp only [hsN] at h)<;>(try simp only [h])<;>(try simp only [hsB] at h)<;>try exact xf)|fail));all_goals clear kk1 kk2 kk3)
   all_goals first|exact xg|skip
   clear hbt hft hct
   refine AW.birth 180 2 [] [(2,2)] ?_
   refine AW.rounds [0,2,3,7,8] (fun x:List Sl × Cu=>[(0,.p 0 0),(2,.p 1 0),(3,.p 2 0),(7,iv .i64 n),(8,iv .i64 x.1.length)])
    (fun x=>[Cu.ro x.2,.box 35 [sv (bs []),bv false,.d (.s (.slice none 0 0)),.d (.s (.slice none 0 0))],.box 35 [sv (bs pre),bv false,.o 3 x.1.length,.d (.s (.slice none 0 0))],.row 180 2 x.1.length (slsD x.1)])
    (fun x=>x.2.Ok∧x.1.length≤n∧(x.2.e=0∨n=0)∧Cu.manyg Cu.slot (fun _ x=>some x.1) n none ⟨c8.s,c8.a,7⟩=(x.1++(Cu.manyg Cu.slot (fun _ x=>some x.1) (n-x.1.length) (lastS x.1) x.2).1,(Cu.manyg Cu.slot (fun _ x=>some x.1) (n-x.1.length) (lastS x.1) x.2).2)) (fun x=>n-x.1.length) ([],⟨c8.s,c8.a,7⟩)
    ⟨hok0,Nat.zero_le _,?hstart,rfl⟩ rfl rfl (fun _ _=>by show 1≤4;decide) (fun _ _=>rfl) (fun _ _=>rfl) ?_
   case hstart=>
    by_cases hz:(⟨c8.s,c8.a,7⟩:Cu).e=0
    ·exact .inl hz
    ·exact .inr (hcn hz)
   rintro ⟨out,c⟩ ⟨hok,hol,hz,hR⟩ J hJ
   simp only at hok hol hz hR ⊢
   by_cases hlen:out.length<n
   case neg=>
    rw [show n-out.length=0 by omega] at hR
    rw [show Cu.manyg Cu.slot (fun _ x=>some x.1) 0 (lastS out) c=([],c) from rfl,List.append_nil] at hR
    have hRR:=hp3 _ _ hR
    by_cases hce:c.e=0
    ·rw [if_neg (by simpa using hce)] at hRR
     rw [hRR]
     focus ((repeat' (first|(refine ADr.nil ?_;try clear hgv)|refine GO ?_|refine AW.ret ?_|(refine GC ?_ ?_<;>intro h<;>(try simp only [hsB] at h)<;>try exact xf)|(refine GD ?_ ?_<;>intro h<;>(try intro hgv)<;>(try simp only [hsN] at h)<;>(try simp only [h])<;>(try simp only [hsB] at h)<;>try exact xf)|(refine GL ?_ ?_<;>intro h<;>(try simp only [hsN] at h)<;>(try simp only [h])<;>(try simp only [hsB] at h)<;>try exact xf)|fail)))
     all_goals first|(((all_goals first|refine RetQ.yr 1 (xs:=[.a [sv (bs pre),bv false,.o 3 out.length,.d (.s (.slice none 0 0))]]) ⟨?_,?_⟩|refine RetQ.yn 1 (xs:=[.a [sv (bs pre),bv false,.o 3 out.length,.d (.s (.slice none 0 0))]]) ⟨?_,?_⟩);(all_goals exact fx));done)|exact xg
    ·rw [if_pos hce] at hRR
     rw [hRR]
     exact We1
   have hce:c.e=0:=by rcases hz with h|h;exact h;omega
   obtain ⟨m,hm⟩:∃ m,n-out.length=m+1:=⟨n-out.length-1,by omega⟩
   rw [hm] at hR
   conv at hR=>rhs;unfold Cu.manyg
   rw [if_neg (by simpa using hce)] at hR
   have hbk:=ref01_Byte c.s c.a c.e hok
   have hok1:(Cu.byte ⟨c.s,c.a,c.e⟩).2.Ok:=Cu.byte_ok hok
   have hkl:(Cu.byte ⟨c.s,c.a,c.e⟩).1<256:=by unfold Cu.byte;exact (UInt8.toNat_lt _)
   have hit:Cu.slot (lastS out) c=(((Cu.byte ⟨c.s,c.a,c.e⟩).1,(Cu.bytes (gd (after (lastS out) (Cu.byte ⟨c.s,c.a,c.e⟩).1) 6 (Cu.byte ⟨c.s,c.a,c.e⟩).2) 32).1),(Cu.bytes (gd (after (lastS out) (Cu.byte ⟨c.s,c.a,c.e⟩).1) 6 (Cu.byte ⟨c.s,c.a,c.e⟩).2) 32).2):=rfl
   rw [hit] at hR
   clear hit
   generalize Cu.byte ⟨c.s,c.a,c.e⟩=z at *
   obtain ⟨k,c1⟩:=z
   simp only at hbk hok1 hkl hR
   have hwr:IntKind.wrap .u8 (k:Int)=(k:Int):=by rw [IntKind.wrap_u8];omega
   obtain ⟨q,hq⟩:∃ q,q=gd (after (lastS out) k) 6 c1:=⟨_,rfl⟩
   rw [←hq] at hR
   have hqo:q.Ok:=by rw [hq];exact gd_ok hok1
   have hbh:=ref01_Bytes q.s q.a q.e 32 hqo
   have hok2:(Cu.bytes ⟨q.s,q.a,q.e⟩ 32).2.Ok:=Cu.bytes_ok hqo
   have hqe:Cu.bytes q 32=Cu.bytes ⟨q.s,q.a,q.e⟩ 32:=rfl
   rw [hqe] at hR
   generalize hzz:Cu.bytes ⟨q.s,q.a,q.e⟩ 32=z at *
   obtain ⟨hh,c9⟩:=z
   simp only at hbh hok2 hR
   have stop:c9.e≠0→R=(pg0,c9):=fun h9=>by
    rw [manyg_stuck h9] at hR
    rw [hp3 _ _ hR,if_pos h9]
   have stuck:q.e≠0→hh=[]∧c9=q:=fun h9=>by
    rw [bytes_stk h9] at hzz
    obtain ⟨a1,a2⟩:=Prod.mk.inj hzz
    exact ⟨a1.symm,a2.symm⟩
   have go:c9.e=0→∀ T' σ',keepT T' [0,2,3,7,8]=[(0,.p 0 0),(2,.p 1 0),(3,.p 2 0),(7,iv .i64 n),(8,iv .i64 ((out.length:Int)+1))]→σ'.take 4=[Cu.ro c9,.box 35 [sv (bs []),bv false,.d (.s (.slice none 0 0)),.d (.s (.slice none 0 0))],.box 35 [sv (bs pre),bv false,.o 3 (out.length+1),.d (.s (.slice none 0 0))],.row 180 2 (out.length+1) (slsD out++[D.s (.int .u8 (k:Nat)),.s (.string ⟨hh.toArray⟩)])]→J T' σ':=fun h9 T' σ' g1 g2=>by
    have hl:(out++[(k,hh)]).length=out.length+1:=by simp
    refine hJ (out++[(k,hh)],c9) T' σ' (by simp only [hl];omega) ⟨hok2,by simp only [hl];omega,.inl h9,?_⟩ (by simp only [hl];exact g1) (by simp only [hl];rw [←sls_snoc];exact g2)
    simp only [hl,lastS_snoc]
    rw [hR,show n-(out.length+1)=m by omega]
    simp only [List.append_assoc,List.cons_append,List.nil_append]
   clear hJ hR hp3 hcn hzz hz
   have hlk:(out.length:Int)<n:=by omega
   have fl:∀ f,c1.e=0→c1.fail f=⟨c1.s,c1.a,f⟩:=fun f h=>by unfold Cu.fail;rw [if_pos h]
   by_cases e1:c1.e=0
   case neg=>
    have hq':q=c1:=by rw [hq,gd_stuck e1]
    clear hq go fl
    subst hq'
    obtain ⟨rfl,rfl⟩:=stuck e1
    rw [stop e1]
    clear stop stuck
    (have kxs:=hwr;have kk1:=uN [0] hbk;have kk2:=uN [0] hbh;exact We1)
   by_cases h0:0<out.length
   ·obtain ⟨y,hy1,hy2,hy3⟩:=sls_last h0
    rw [hy1] at hq
    have hq:q=gd (decide (y.1<k)) 6 c1:=hq
    have hi1:((out.length:Int)-1).toNat=out.length-1:=by omega
    by_cases ha:y.1<k
    case neg=>
     have hq':q=⟨c1.s,c1.a,6⟩:=by
      rw [hq,decide_eq_false ha]
      show c1.fail 6=_
      rw [fl _ e1]
     clear hq go fl
     subst hq'
     have e6:(⟨c1.s,c1.a,6⟩:Cu).e≠0:=by show (6:Int)≠0;decide
     obtain ⟨rfl,rfl⟩:=stuck e6
     rw [stop e6]
     clear stop stuck
     (have kxs:=And.intro hi1 (And.intro hy2 hwr);have kk1:=uN [0] hbk;have kk2:=uN [0] hbh;exact We1)
    case pos=>
     have hq':q=c1:=by rw [hq,decide_eq_true ha];rfl
     clear hq fl
     subst hq'
     by_cases h9:c9.e=0
     ·have go:=go h9
      clear stop stuck
      (have kxs:=And.intro hi1 (And.intro hy2 hwr);have kk1:=uN [0] hbk;have kk2:=uN [0] hbh;exact Weg)
     ·rw [stop h9]
      clear stop stuck go
      (have kxs:=And.intro hi1 (And.intro hy2 hwr);have kk1:=uN [0] hbk;have kk2:=uN [0] hbh;exact We1)
   ·rw [lastS_nil h0] at hq
    have hq':q=c1:=hq
    clear hq fl
    subst hq'
    by_cases h9:c9.e=0
    ·have go:=go h9
     clear stop stuck
     (have kxs:=hwr;have kk1:=uN [0] hbk;have kk2:=uN [0] hbh;exact Weg)
    ·rw [stop h9]
     clear stop stuck go
     (have kxs:=hwr;have kk1:=uN [0] hbk;have kk2:=uN [0] hbh;exact We1)
  ·have hc0':c0=c8:=by
     rw [hc0]
     by_cases h8:c8.e=0
     ·rw [decide_eq_true (show n≠0 from fun h=>h70 ⟨h8,h⟩)];rfl
     ·exact gd_stuck h8 _ _
   clear hc0
   subst hc0'
   focus (have kk1:=uN [0] hbt;have kk2:=uN [0] hft;have kk3:=uN [0] hct;(repeat' (first|(refine ADr.nil ?_;try clear hgv)|refine GO ?_|refine AW.ret ?_|(refine GC ?_ ?_<;>intro h<;>(try simp only [hsB] at h)<;>try exact xf)|(refine GD ?_ ?_<;>intro h<;>(try intro hgv)<;>(try simp only [hsN] at h)<;>(try simp only [h])<;>(try simp only [hsB] at h)<;>try exact xf)|(refine GL ?_ ?_<;>intro h<;>(try simp only [hsN] at h)<;>(try simp only [h])<;>(try simp only [hsB] at h)<;>try exact xf)|fail));all_goals clear kk1 kk2 kk3)
   all_goals first|exact xg|skip
   all_goals
    clear hbt hft hct
    refine AW.birth 180 2 [] [(2,2)] ?_
    refine AW.rounds [0,2,3,7,8] (fun x:List Sl × Cu=>[(0,.p 0 0),(2,.p 1 0),(3,.p 2 0),(7,iv .i64 n),(8,iv .i64 x.1.length)])
     (fun x=>[Cu.ro x.2,.box 35 [sv (bs []),bv false,.d (.s (.slice none 0 0)),.d (.s (.slice none 0 0))],.box 35 [sv (bs pre),bv false,.o 3 x.1.length,.d (.s (.slice none 0 0))],.row 180 2 x.1.length (slsD x.1)])
     (fun x=>x.2.Ok∧x.1.length≤n∧(x.2.e=0∨n=0)∧Cu.manyg Cu.slot (fun _ x=>some x.1) n none c0=(x.1++(Cu.manyg Cu.slot (fun _ x=>some x.1) (n-x.1.length) (lastS x.1) x.2).1,(Cu.manyg Cu.slot (fun _ x=>some x.1) (n-x.1.length) (lastS x.1) x.2).2)) (fun x=>n-x.1.length) ([],c0)
     ⟨hok0,Nat.zero_le _,?hstart,rfl⟩ rfl rfl (fun _ _=>by show 1≤4;decide) (fun _ _=>rfl) (fun _ _=>rfl) ?_
    case hstart=>
     by_cases hz:(c0:Cu).e=0
     ·exact .inl hz
     ·exact .inr (hcn hz)
    rintro ⟨out,c⟩ ⟨hok,hol,hz,hR⟩ J hJ
    simp only at hok hol hz hR ⊢
    by_cases hlen:out.length<n
    case neg=>
     rw [show n-out.length=0 by omega] at hR
     rw [show Cu.manyg Cu.slot (fun _ x=>some x.1) 0 (lastS out) c=([],c) from rfl,List.append_nil] at hR
     have hRR:=hp3 _ _ hR
     by_cases hce:c.e=0
     ·rw [if_neg (by simpa using hce)] at hRR
      rw [hRR]
      focus ((repeat' (first|(refine ADr.nil ?_;try clear hgv)|refine GO ?_|refine AW.ret ?_|(refine GC ?_ ?_<;>intro h<;>(try simp only [hsB] at h)<;>try exact xf)|(refine GD ?_ ?_<;>intro h<;>(try intro hgv)<;>(try simp only [hsN] at h)<;>(try simp only [h])<;>(try simp only [hsB] at h)<;>try exact xf)|(refine GL ?_ ?_<;>intro h<;>(try simp only [hsN] at h)<;>(try simp only [h])<;>(try simp only [hsB] at h)<;>try exact xf)|fail)))
      all_goals first|(((all_goals first|refine RetQ.yr 1 (xs:=[.a [sv (bs pre),bv false,.o 3 out.length,.d (.s (.slice none 0 0))]]) ⟨?_,?_⟩|refine RetQ.yn 1 (xs:=[.a [sv (bs pre),bv false,.o 3 out.length,.d (.s (.slice none 0 0))]]) ⟨?_,?_⟩);(all_goals exact fx));done)|exact xg
     ·rw [if_pos hce] at hRR
      rw [hRR]
      exact We1
    have hce:c.e=0:=by rcases hz with h|h;exact h;omega
    obtain ⟨m,hm⟩:∃ m,n-out.length=m+1:=⟨n-out.length-1,by omega⟩
    rw [hm] at hR
    conv at hR=>rhs;unfold Cu.manyg
    rw [if_neg (by simpa using hce)] at hR
    have hbk:=ref01_Byte c.s c.a c.e hok
    have hok1:(Cu.byte ⟨c.s,c.a,c.e⟩).2.Ok:=Cu.byte_ok hok
    have hkl:(Cu.byte ⟨c.s,c.a,c.e⟩).1<256:=by unfold Cu.byte;exact (UInt8.toNat_lt _)
    have hit:Cu.slot (lastS out) c=(((Cu.byte ⟨c.s,c.a,c.e⟩).1,(Cu.bytes (gd (after (lastS out) (Cu.byte ⟨c.s,c.a,c.e⟩).1) 6 (Cu.byte ⟨c.s,c.a,c.e⟩).2) 32).1),(Cu.bytes (gd (after (lastS out) (Cu.byte ⟨c.s,c.a,c.e⟩).1) 6 (Cu.byte ⟨c.s,c.a,c.e⟩).2) 32).2):=rfl
    rw [hit] at hR
    clear hit
    generalize Cu.byte ⟨c.s,c.a,c.e⟩=z at *
    obtain ⟨k,c1⟩:=z
    simp only at hbk hok1 hkl hR
    have hwr:IntKind.wrap .u8 (k:Int)=(k:Int):=by rw [IntKind.wrap_u8];omega
    obtain ⟨q,hq⟩:∃ q,q=gd (after (lastS out) k) 6 c1:=⟨_,rfl⟩
    rw [←hq] at hR
    have hqo:q.Ok:=by rw [hq];exact gd_ok hok1
    have hbh:=ref01_Bytes q.s q.a q.e 32 hqo
    have hok2:(Cu.bytes ⟨q.s,q.a,q.e⟩ 32).2.Ok:=Cu.bytes_ok hqo
    have hqe:Cu.bytes q 32=Cu.bytes ⟨q.s,q.a,q.e⟩ 32:=rfl
    rw [hqe] at hR
    generalize hzz:Cu.bytes ⟨q.s,q.a,q.e⟩ 32=z at *
    obtain ⟨hh,c9⟩:=z
    simp only at hbh hok2 hR
    have stop:c9.e≠0→R=(pg0,c9):=fun h9=>by
     rw [manyg_stuck h9] at hR
     rw [hp3 _ _ hR,if_pos h9]
    have stuck:q.e≠0→hh=[]∧c9=q:=fun h9=>by
     rw [bytes_stk h9] at hzz
     obtain ⟨a1,a2⟩:=Prod.mk.inj hzz
     exact ⟨a1.symm,a2.symm⟩
    have go:c9.e=0→∀ T' σ',keepT T' [0,2,3,7,8]=[(0,.p 0 0),(2,.p 1 0),(3,.p 2 0),(7,iv .i64 n),(8,iv .i64 ((out.length:Int)+1))]→σ'.take 4=[Cu.ro c9,.box 35 [sv (bs []),bv false,.d (.s (.slice none 0 0)),.d (.s (.slice none 0 0))],.box 35 [sv (bs pre),bv false,.o 3 (out.length+1),.d (.s (.slice none 0 0))],.row 180 2 (out.length+1) (slsD out++[D.s (.int .u8 (k:Nat)),.s (.string ⟨hh.toArray⟩)])]→J T' σ':=fun h9 T' σ' g1 g2=>by
     have hl:(out++[(k,hh)]).length=out.length+1:=by simp
     refine hJ (out++[(k,hh)],c9) T' σ' (by simp only [hl];omega) ⟨hok2,by simp only [hl];omega,.inl h9,?_⟩ (by simp only [hl];exact g1) (by simp only [hl];rw [←sls_snoc];exact g2)
     simp only [hl,lastS_snoc]
     rw [hR,show n-(out.length+1)=m by omega]
     simp only [List.append_assoc,List.cons_append,List.nil_append]
    clear hJ hR hp3 hcn hzz hz
    have hlk:(out.length:Int)<n:=by omega
    have fl:∀ f,c1.e=0→c1.fail f=⟨c1.s,c1.a,f⟩:=fun f h=>by unfold Cu.fail;rw [if_pos h]
    by_cases e1:c1.e=0
    case neg=>
     have hq':q=c1:=by rw [hq,gd_stuck e1]
     clear hq go fl
     subst hq'
     obtain ⟨rfl,rfl⟩:=stuck e1
     rw [stop e1]
     clear stop stuck
     (have kxs:=hwr;have kk1:=uN [0] hbk;have kk2:=uN [0] hbh;exact We1)
    by_cases h0:0<out.length
    ·obtain ⟨y,hy1,hy2,hy3⟩:=sls_last h0
     rw [hy1] at hq
     have hq:q=gd (decide (y.1<k)) 6 c1:=hq
     have hi1:((out.length:Int)-1).toNat=out.length-1:=by omega
     by_cases ha:y.1<k
     case neg=>
      have hq':q=⟨c1.s,c1.a,6⟩:=by
       rw [hq,decide_eq_false ha]
       show c1.fail 6=_
       rw [fl _ e1]
      clear hq go fl
      subst hq'
      have e6:(⟨c1.s,c1.a,6⟩:Cu).e≠0:=by show (6:Int)≠0;decide
      obtain ⟨rfl,rfl⟩:=stuck e6
      rw [stop e6]
      clear stop stuck
      (have kxs:=And.intro hi1 (And.intro hy2 hwr);have kk1:=uN [0] hbk;have kk2:=uN [0] hbh;exact We1)
     case pos=>
      have hq':q=c1:=by rw [hq,decide_eq_true ha];rfl
      clear hq fl
      subst hq'
      by_cases h9:c9.e=0
      ·have go:=go h9
       clear stop stuck
       (have kxs:=And.intro hi1 (And.intro hy2 hwr);have kk1:=uN [0] hbk;have kk2:=uN [0] hbh;exact Weg)
      ·rw [stop h9]
       clear stop stuck go
       (have kxs:=And.intro hi1 (And.intro hy2 hwr);have kk1:=uN [0] hbk;have kk2:=uN [0] hbh;exact We1)
    ·rw [lastS_nil h0] at hq
     have hq':q=c1:=hq
     clear hq fl
     subst hq'
     by_cases h9:c9.e=0
     ·have go:=go h9
      clear stop stuck
      (have kxs:=hwr;have kk1:=uN [0] hbk;have kk2:=uN [0] hbh;exact Weg)
     ·rw [stop h9]
      clear stop stuck go
      (have kxs:=hwr;have kk1:=uN [0] hbk;have kk2:=uN [0] hbh;exact We1)
end Go.AW
