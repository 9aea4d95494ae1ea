/-
  parts: of a payload.
-/
import Derived.Test.YtdnfcckkdnkaiaaGreatC09
import Derived.Test.YtdnfcckkdnkaiaaGreatC06
import Derived.Test.YtdnfcckkdnkaiaaGreatC01
import Derived.Test.YtdnfcckkdnkaiaaGreatC03
import Derived.Test.YtdnfcckkdnkaiaaGreatC07
import Derived.Test.YtdnfcckkdnkaiaaGreatC05
set_option linter.unusedVariables false
set_option linter.unusedSimpArgs false
set_option maxHeartbeats 4000000
set_option maxRecDepth 10000
namespace Go.AW
open Go Go.Proofs
attribute [local irreducible] thenQ blockQ RetQ AL AW AC AOp
theorem parts_ok{l:List Prd}(h:∀ x ∈ l,∀ c:Cu,c.Ok→(x.2 c).Ok)(s:List UInt8)(hs:s.length≤140737488351232):(spansr l ⟨s,0,0⟩).2.Ok:=spansr_ok l _ h ⟨hs,Nat.zero_le _⟩
theorem pay_1(v:Nat)(hv:v=1∨v=2)(hh:AC Tryz.prog 93 [iv .u8 (v:Nat),iv .u8 1] [] fun y σ=>y=bv true∧σ=[])(s:List UInt8)(hs:s.length≤140737488351232):AC Tryz.prog 29 [iv .u8 (v:Nat),iv .u8 1,sv (bs s)] [] fun y σ=>y=.t [.d (.l (spansr [(nId,fun c=>(Cu.vtake c).2),(nKey,fun c=>(Cu.okey c).2)] ⟨s,0,0⟩).1.length (spnsD (spansr [(nId,fun c=>(Cu.vtake c).2),(nKey,fun c=>(Cu.okey c).2)] ⟨s,0,0⟩).1)),iv .i64 (spansr [(nId,fun c=>(Cu.vtake c).2),(nKey,fun c=>(Cu.okey c).2)] ⟨s,0,0⟩).2.fin.e]∧σ=[]:=by
 refine AC.wk Tryz.func29 ?_
 have hok0:Cu.Ok ⟨s,0,0⟩:=⟨hs,Nat.zero_le _⟩
 have hnew:=@cursor_New s
 have hvt:=varint_Take s 0 0 hok0
 have ok1:=Cu.vtake_ok hok0
 have hrd:=read_1 ⟨s,0,0⟩ hok0
 have hRok:(spansr [(nId,fun c=>(Cu.vtake c).2),(nKey,fun c=>(Cu.okey c).2)] ⟨s,0,0⟩).2.Ok:=parts_ok (by
  intro x hx c hok
  simp only [List.mem_cons,List.not_mem_nil,or_false] at hx
  rcases hx with rfl|rfl
  ·exact Cu.vtake_ok hok
  ·exact gd_ok (Cu.blob_ok hok)) s hs
 generalize spansr [(nId,fun c=>(Cu.vtake c).2),(nKey,fun c=>(Cu.okey c).2)] ⟨s,0,0⟩=R at *
 obtain ⟨sp,c2⟩:=R
 simp only at hrd hRok ⊢
 have hen:=cursor_End c2.s c2.a c2.e hRok
 rw [show Cu.fin ⟨c2.s,c2.a,c2.e⟩=Cu.fin c2 from rfl] at hen
 generalize Cu.fin c2=d at *
 generalize Cu.vtake ⟨s,0,0⟩=z at *
 obtain ⟨q,c1⟩:=z
 simp only at hvt ok1
 have hfl:=blob_Flag c1.s c1.a c1.e ok1
 rw [show Cu.flag ⟨c1.s,c1.a,c1.e⟩=Cu.flag c1 from rfl] at hfl
 generalize Cu.flag c1=z at *
 obtain ⟨b,c3⟩:=z
 simp only at hfl
 have hli:=list_1 v b
 (have kk1:=uN [] hh;have kk2:=uN [] hnew;have kk3:=uN [0] hvt;have kk4:=uN [0] hfl;have kk5:=uN [] hli;have kk6:=uN [1,7] hrd;have kk7:=uN [1] hen;exact Wc0)
end Go.AW
namespace Go.AW
open Go Go.Proofs Go.RowKit
section
variable {H : Type} {enc : TypeId × Value → H} {w : World}
def Sp.fits(x:Sp):Prop:=x.1.length≤9223372036854775807∧(-9223372036854775808≤x.2.1∧x.2.1≤9223372036854775807)∧(-9223372036854775808≤x.2.2∧x.2.2≤9223372036854775807)
theorem rd_span:Rd enc Tryz.prog w 69 fun xs=>∃ x:Sp,xs=spD x∧Sp.fits x:=by
 refine Rd.mono (Rd.struct (Ss:=[_,_,_]) Tryz.underlying69 (by kernel_rfl) ⟨Rd.str Tryz.underlying9,Rd.int Tryz.underlying3,Rd.int Tryz.underlying3,trivial⟩) fun xs h=>?_
 obtain ⟨_,_,⟨s,rfl,hs⟩,⟨_,_,⟨n,rfl,hn⟩,⟨_,_,⟨m,rfl,hm⟩,rfl,rfl⟩,rfl⟩,rfl⟩:=h
 exact ⟨(s,n,m),rfl,hs,wf_i64 hn,wf_i64 hm⟩
theorem rd_spans:Rd enc Tryz.prog w 65 fun xs=>∃ l:List Sp,xs=[.l l.length (spsD l)]∧l.length≤9223372036854775807∧∀ x ∈ l,Sp.fits x:=by
 refine Rd.mono (Rd.list (f:=spD) Tryz.underlying65 (sz:=3) (by kernel_rfl) (by decide) rd_span) fun xs h=>?_
 obtain ⟨l,rfl,h1,h2⟩:=h
 exact ⟨l,rfl,h2,h1⟩
end
end Go.AW
namespace Go.AW
open Go Go.Proofs
attribute [local irreducible] thenQ blockQ RetQ AL AW AC AOp
theorem parts_Cut(s:List UInt8)(hs:s.length≤1000000)(l:List Sp)(hl:l.length≤1000000)(hf:∀ x ∈ l,Sp.fits x):AC Tryz.prog 27 [sv (bs s),.d (.l l.length (spsD l))] [] fun y σ=>y=.d (.l l.length (strsD (l.map (cutS s))))∧σ=[]:=by
 refine AC.wk Tryz.func27 ?_
 focus ((repeat' (first|refine G ?_|refine AW.ret ?_|(refine GC ?_ ?_<;>intro h<;>(try simp only [hsB] at h)<;>try exact xf)|(refine GL ?_ ?_<;>intro h<;>(try simp only [hsN] at h)<;>(try simp only [h])<;>(try simp only [hsB] at h)<;>try exact xf)|fail)))
 refine AW.birth 9 1 [5] [] ?_
 refine AW.rounds [0,4,5,8,9,10] (fun i:Nat=>[(0,sv (bs s)),(4,.d (.s (.slice none 0 0))),(5,.o 0 i),(8,.d (.l l.length (spsD l))),(9,iv .i64 l.length),(10,iv .i64 i)]) (fun i=>[.row 9 1 i (strsD ((l.take i).map (cutS s)))])
  (fun i=>i≤l.length) (fun i=>l.length-i) 0 (Nat.zero_le _) rfl rfl (fun _ _=>Nat.le_of_ble_eq_true rfl) (fun _ _=>rfl) (fun _ _=>rfl) ?_
 rintro i hi J hJ
 by_cases hil:i<l.length
 case neg=>
  have hil2:i=l.length:=by omega
  subst hil2
  rw [List.take_length]
  clear hJ
  exact Wc0
 obtain ⟨x,r,hd⟩:=next_at hil
 have hcd:=sps_drop hd
 have hct:=cuts_take s hd
 obtain ⟨hx1,hx2,hx3⟩:=hf x (next_mem hd)
 have go:∀ T' σ',keepT T' [0,4,5,8,9,10]=[(0,sv (bs s)),(4,.d (.s (.slice none 0 0))),(5,.o 0 (i+1)),(8,.d (.l l.length (spsD l))),(9,iv .i64 l.length),(10,iv .i64 ((i:Int)+1))]→σ'.take 1=[.row 9 1 (i+1) (strsD ((l.take i).map (cutS s))++[.s (.string ⟨(cutS s x).toArray⟩)])]→J T' σ':=fun T' σ' g1 g2=>
  hJ (i+1) T' σ' (by omega) (by omega) g1 (by rw [hct];exact g2)
 clear hJ hct hf
 obtain ⟨nm,fr,to⟩:=x
 simp only at hcd hx1 hx2 hx3
 by_cases h1:fr<0
 ·rw [show cutS s (nm,fr,to)=[] from if_pos (.inl h1)] at go
  (have kxs:=And.intro hcd h1;exact Wcg)
 by_cases h2:(s.length:Int)<to
 ·rw [show cutS s (nm,fr,to)=[] from if_pos (.inr (.inl h2))] at go
  (have kxs:=And.intro hcd (And.intro h1 h2);exact Wcg)
 by_cases h3:to<fr
 ·rw [show cutS s (nm,fr,to)=[] from if_pos (.inr (.inr h3))] at go
  (have kxs:=And.intro hcd (And.intro h1 (And.intro h2 h3));exact Wcg)
 ·rw [show cutS s (nm,fr,to)=(s.drop fr.toNat).take (to.toNat-fr.toNat) from if_neg (by simp only;omega)] at go
  (have kxs:=And.intro hcd (And.intro h1 (And.intro h2 h3));exact Wcg)
theorem parts_Find(nm:List UInt8)(l:List Sp)(hl:l.length≤1000000):AC Tryz.prog 28 [sv (bs nm),.d (.l l.length (spsD l))] [] fun y σ=>y=.t [.a [sv (bs (findS nm l).1.1),iv .i64 (findS nm l).1.2.1,iv .i64 (findS nm l).1.2.2],bv (findS nm l).2]∧σ=[]:=by
 refine AC.wk Tryz.func28 ?_
 generalize hR:findS nm l=R
 focus ((repeat' (first|refine G ?_|refine AW.ret ?_|(refine GC ?_ ?_<;>intro h<;>(try simp only [hsB] at h)<;>try exact xf)|(refine GL ?_ ?_<;>intro h<;>(try simp only [hsN] at h)<;>(try simp only [h])<;>(try simp only [hsB] at h)<;>try exact xf)|fail)))
 refine AW.rounds [0,4,5,8,9,10] (fun i:Nat=>[(0,sv (bs nm)),(4,.p 0 0),(5,bv false),(8,.d (.l l.length (spsD l))),(9,iv .i64 l.length),(10,iv .i64 i)]) (fun i=>[.box 69 [sv (bs []),iv .i64 0,iv .i64 0]])
  (fun i=>i≤l.length∧findS nm (l.drop i)=R) (fun i=>l.length-i) 0 ⟨Nat.zero_le _,hR⟩ rfl rfl (fun _ _=>Nat.le_of_ble_eq_true rfl) (fun _ _=>rfl) (fun _ _=>rfl) ?_
 rintro i ⟨hi,hr⟩ J hJ
 by_cases hil:i<l.length
 case neg=>
  rw [List.drop_eq_nil_of_le (by omega)] at hr
  have hr:(([],0,0),false)=R:=hr
  subst hr
  clear hJ
  focus ((repeat' (first|refine G ?_|refine AW.ret ?_|(refine GC ?_ ?_<;>intro h<;>(try simp only [hsB] at h)<;>try exact xf)|(refine GL ?_ ?_<;>intro h<;>(try simp only [hsN] at h)<;>(try simp only [h])<;>(try simp only [hsB] at h)<;>try exact xf)|fail)))
  all_goals first|(((all_goals first|refine RetQ.yr 0 (xs:=[.a [sv (bs []),iv .i64 0,iv .i64 0],bv false]) ⟨?_,?_⟩|refine RetQ.yn 0 (xs:=[.a [sv (bs []),iv .i64 0,iv .i64 0],bv false]) ⟨?_,?_⟩);(all_goals exact fx));done)|exact xg
 obtain ⟨x,r,hd⟩:=next_at hil
 have hcd:=sps_drop hd
 have hnd:=next_drop hd
 rw [hd] at hr
 obtain ⟨n2,fr,to⟩:=x
 simp only at hcd
 by_cases h1:n2=nm
 ·have hr:((n2,fr,to),true)=R:=by rw [←hr];exact (if_pos h1).symm
  subst hr
  clear hJ
  focus (have kxs:=And.intro hcd h1;(repeat' (first|refine G ?_|refine AW.ret ?_|(refine GC ?_ ?_<;>intro h<;>(try simp only [hsB] at h)<;>try exact xf)|(refine GL ?_ ?_<;>intro h<;>(try simp only [hsN] at h)<;>(try simp only [h])<;>(try simp only [hsB] at h)<;>try exact xf)|fail));all_goals clear kxs)
  all_goals first|(((all_goals first|refine RetQ.yr 0 (xs:=[.a [sv (bs n2),iv .i64 fr,iv .i64 to],bv true]) ⟨?_,?_⟩|refine RetQ.yn 0 (xs:=[.a [sv (bs n2),iv .i64 fr,iv .i64 to],bv true]) ⟨?_,?_⟩);(all_goals exact fx));done)|(subst h1;((all_goals first|refine RetQ.yr 0 (xs:=[.a [sv (bs n2),iv .i64 fr,iv .i64 to],bv true]) ⟨?_,?_⟩|refine RetQ.yn 0 (xs:=[.a [sv (bs n2),iv .i64 fr,iv .i64 to],bv true]) ⟨?_,?_⟩);(all_goals exact fx));done)|exact xg
 ·have hr:findS nm r=R:=by rw [←hr];exact (if_neg h1).symm
  have go:∀ T' σ',keepT T' [0,4,5,8,9,10]=[(0,sv (bs nm)),(4,.p 0 0),(5,bv false),(8,.d (.l l.length (spsD l))),(9,iv .i64 l.length),(10,iv .i64 ((i:Int)+1))]→σ'.take 1=[.box 69 [sv (bs []),iv .i64 0,iv .i64 0]]→J T' σ':=fun T' σ' g1 g2=>
   hJ (i+1) T' σ' (by omega) ⟨by omega,by rw [hnd];exact hr⟩ g1 g2
  clear hJ hr hnd
  (have kxs:=And.intro hcd h1;exact Wcg)
theorem ref31_Same(v w:List Sp)(hv:v.length≤1000000):AC Tryz.prog 92 [.d (.l v.length (spsD v)),.d (.l w.length (spsD w))] [] fun x σ=>x=bv (decide (v=w))∧σ=[]:=by
 refine AC.wk Tryz.func92 ?_
 by_cases hl:v.length=w.length
 case neg=>
  have hc:decide (v=w)=false:=by simp;rintro rfl;exact hl rfl
  focus (have kxs:=hc;(repeat' (first|(refine ADr.nil ?_;try clear hgv)|refine GO ?_|refine AW.ret ?_|(refine GC ?_ ?_<;>intro h<;>(try simp only [hsB] at h)<;>try exact xf)|(refine GD ?_ ?_<;>intro h<;>(try intro hgv)<;>(try simp only [hsN] at h)<;>(try simp only [h])<;>(try simp only [hsB] at h)<;>try exact xf)|(refine GL ?_ ?_<;>intro h<;>(try simp only [hsN] at h)<;>(try simp only [h])<;>(try simp only [hsB] at h)<;>try exact xf)|fail));all_goals clear kxs)
  all_goals first|(exfalso;omega)|((all_goals have kxf:=hc;first|exact RetQ.xr 0|exact RetQ.xn 0|fail);done)
 focus ((repeat' (first|(refine ADr.nil ?_;try clear hgv)|refine GO ?_|refine AW.ret ?_|(refine GC ?_ ?_<;>intro h<;>(try simp only [hsB] at h)<;>try exact xf)|(refine GD ?_ ?_<;>intro h<;>(try intro hgv)<;>(try simp only [hsN] at h)<;>(try simp only [h])<;>(try simp only [hsB] at h)<;>try exact xf)|(refine GL ?_ ?_<;>intro h<;>(try simp only [hsN] at h)<;>(try simp only [h])<;>(try simp only [hsB] at h)<;>try exact xf)|fail)))
 all_goals first|(exfalso;omega)|skip
 refine AW.rounds [0,1,4,5] (fun i:Nat=>[(0,.d (.l v.length (spsD v))),(1,.d (.l w.length (spsD w))),(4,bv false),(5,iv .i64 i)]) (fun _=>[])
  (fun i=>i≤v.length∧(v=w↔v.drop i=w.drop i)) (fun i=>v.length-i) 0 ⟨Nat.zero_le _,by simp⟩ rfl rfl (fun _ _=>Nat.zero_le _) (fun _ _=>rfl) (fun _ _=>rfl) ?_
 rintro i ⟨hi,hr⟩ J hJ
 by_cases hil:i<v.length
 case neg=>
  have hc:decide (v=w)=true:=by
   simp only [decide_eq_true_eq]
   rw [hr,List.drop_eq_nil_of_le (by omega),List.drop_eq_nil_of_le (by omega)]
  rw [hc]
  exact Wd0
 obtain ⟨x,r,hd⟩:=next_at hil
 obtain ⟨y,s,he⟩:=next_at (l:=w) (i:=i) (by omega)
 have hcd:=sps_drop hd
 have hce:=sps_drop he
 by_cases hxy:x=y
 ·have hdd:(decide (x.1=y.1)&&(decide (x.2.1=y.2.1)&&decide (x.2.2=y.2.2)))=true:=by rw [hxy];simp
  have go:∀ T' σ',keepT T' [0,1,4,5]=[(0,.d (.l v.length (spsD v))),(1,.d (.l w.length (spsD w))),(4,bv false),(5,iv .i64 ((i:Int)+1))]→σ'.take 0=[]→J T' σ':=fun T' σ' g1 g2=>
   hJ (i+1) T' σ' (by omega) ⟨by omega,by rw [next_drop hd,next_drop he,hr,hd,he,hxy];simp⟩ g1 g2
  clear hJ hr
  generalize (decide (x.1=y.1)&&(decide (x.2.1=y.2.1)&&decide (x.2.2=y.2.2)))=zz at *
  (have kxs:=And.intro hcd (And.intro hce hdd);exact Wdg)
 ·have hdd:(decide (x.1=y.1)&&(decide (x.2.1=y.2.1)&&decide (x.2.2=y.2.2)))=false:=by
    cases hq:(decide (x.1=y.1)&&(decide (x.2.1=y.2.1)&&decide (x.2.2=y.2.2))) with
    | false=>rfl
    | true=>
     exfalso;apply hxy
     simp only [Bool.and_eq_true,decide_eq_true_eq] at hq
     exact Prod.ext hq.1 (Prod.ext hq.2.1 hq.2.2)
  have hc:decide (v=w)=false:=by
   simp only [decide_eq_false_iff_not]
   rw [hr,hd,he]
   intro e
   exact hxy (List.cons.inj e).1
  rw [hc]
  clear hJ hr
  (have kxs:=And.intro hcd (And.intro hce hdd);exact Wd0)
def osD(x:Os1):List D:=[.l x.clk.length (vecD x.clk),.s (.bool x.dead),.s (.string ⟨x.val.toArray⟩)]
abbrev ossD(l:List Os1):List D:=(l.map osD).flatten
abbrev osV(x:Os1):V:=.a [.d (.l x.clk.length (vecD x.clk)),bv x.dead,sv (bs x.val)]
abbrev odV(o:Od):V:=.a [sv (bs o.key),.d (.l o.sibs.length (ossD o.sibs))]
def Os1.fits(x:Os1):Prop:=x.clk.fits∧x.val.length≤9223372036854775807
def Od.fits(o:Od):Prop:=o.key.length≤9223372036854775807∧o.sibs.length≤9223372036854775807∧∀ x ∈ o.sibs,x.fits
section
variable (b : List UInt8) (m e : Int)
end
abbrev sbV(x:Sb):V:=.a [.d (.l x.clk.ctx.length (vecD x.clk.ctx)),bv x.clk.dotted,sv (bs x.clk.dot.1),iv .u64 x.clk.dot.2,.d (.l x.meta_.length (prsD x.meta_)),bv x.dead,sv (bs x.val)]
def sbD(x:Sb):List D:=[.l x.clk.ctx.length (vecD x.clk.ctx),.s (.bool x.clk.dotted),.s (.string ⟨x.clk.dot.1.toArray⟩),.s (.int .u64 x.clk.dot.2),.l x.meta_.length (prsD x.meta_),.s (.bool x.dead),.s (.string ⟨x.val.toArray⟩)]
abbrev sbsD(l:List Sb):List D:=(l.map sbD).flatten
def Sb.fits(x:Sb):Prop:=x.clk.fits∧x.meta_.fits∧x.val.length≤9223372036854775807
theorem sb_eq(k o:Sb):(decide (k.clk=o.clk)&&(decide (k.meta_=o.meta_)&&(decide (k.dead=o.dead)&&decide (k.val=o.val))))=true↔k=o:=by
 obtain ⟨a,b,c,d⟩:=k
 obtain ⟨e,f,g,h⟩:=o
 simp
instance:DecidableEq Sb:=fun k o=>decidable_of_iff _ (sb_eq k o)
section
variable (b : List UInt8) (m e : Int)
end
abbrev ojV(o:Oj):V:=.a [sv (bs o.key),.d (.l o.sibs.length (sbsD o.sibs))]
def Oj.fits(o:Oj):Prop:=o.key.length≤9223372036854775807∧o.sibs.length≤9223372036854775807∧∀ x ∈ o.sibs,x.fits
def sahead(l:List Sb)(i:Nat)(p:List UInt8):Prop:=(i=0∧p=[])∨(0<i∧∃ y r,l.drop (i-1)=y::r∧y.check=0∧skey y=p)
theorem oj_eq(k o:Oj):(decide (k.key=o.key)&&decide (k.sibs=o.sibs))=true↔k=o:=by
 obtain ⟨a,b⟩:=k
 obtain ⟨d,e⟩:=o
 simp
instance:DecidableEq Oj:=fun k o=>decidable_of_iff _ (oj_eq k o)
def mgD(m:Mg):List D:=[.s (.int .u8 (m.kind:Nat)),.s (.int .u64 (m.id:Nat)),.s (.string ⟨m.key.toArray⟩),.s (.bool m.found),.s (.string ⟨m.obj.key.toArray⟩),.l m.obj.sibs.length (sbsD m.obj.sibs),.s (.string ⟨m.old.key.toArray⟩),.l m.old.sibs.length (ossD m.old.sibs),.l m.ctx.length (vecD m.ctx),.l m.meta_.length (prsD m.meta_),.s (.bool m.dead),.s (.string ⟨m.val.toArray⟩),.s (.string ⟨m.pre.toArray⟩),.s (.string ⟨m.page.pre.toArray⟩),.s (.bool m.page.leaf),.l m.page.slots.length (slsD m.page.slots),.l m.page.items.length (itsD m.page.items),.l m.ring.length (ringD m.ring),.s (.int .i64 m.code),.s (.string ⟨m.txt.toArray⟩)]
abbrev mgC(m:Mg):List V:=[iv .u8 (m.kind:Nat),iv .u64 (m.id:Nat),sv (bs m.key),bv m.found,sv (bs m.obj.key),.d (.l m.obj.sibs.length (sbsD m.obj.sibs)),sv (bs m.old.key),.d (.l m.old.sibs.length (ossD m.old.sibs)),.d (.l m.ctx.length (vecD m.ctx)),.d (.l m.meta_.length (prsD m.meta_)),bv m.dead,sv (bs m.val),sv (bs m.pre),sv (bs m.page.pre),bv m.page.leaf,.d (.l m.page.slots.length (slsD m.page.slots)),.d (.l m.page.items.length (itsD m.page.items)),.d (.l m.ring.length (ringD m.ring)),iv .i64 m.code,sv (bs m.txt)]
abbrev mgV(m:Mg):V:=.a (mgC m)
abbrev De:D:=.s (.string ⟨([]:List UInt8).toArray⟩)
abbrev Dn:D:=.s (.slice none 0 0)
abbrev Df:D:=.s (.bool false)
abbrev D0:D:=.s (.int .i64 0)
def Mg.fits(m:Mg):Prop:=m.kind<256∧m.id<18446744073709551616∧m.key.length≤9223372036854775807∧m.obj.fits∧m.old.fits∧m.ctx.fits∧m.meta_.fits∧m.val.length≤9223372036854775807∧m.pre.length≤9223372036854775807∧m.page.fits∧m.ring.fits∧(-9223372036854775808≤m.code∧m.code≤9223372036854775807)∧m.txt.length≤9223372036854775807
deriving instance DecidableEq for Mb
abbrev jnext(_:List UInt8)(x:Sb):List UInt8:=eclk x.clk
def Slast(l:List Sb)(p:List UInt8):Prop:=(l=[]∧p=[])∨(0<l.length∧∃ y r,l.drop (l.length-1)=y::r∧gsib y∧skey y=p)
abbrev Jfam:=Fam Cu.os2 jnext
theorem msg_text(n:Int)(b:Bool)(k:FuncId):AC Tryz.prog 112 [iv .i64 n,bv b,.f (.func k) [] []] [] fun y σ=>y=.a [.f (.func 168) [] [.p 1 0,.p 2 0,.p 0 0],.f (.func 170) [] [.p 0 0,.p 2 0],.f (.func 172) [] [.p 0 0,.p 2 0,.p 1 0],.f (.func 174) [] [.p 2 0]]∧σ=[.box 3 [iv .i64 n],.box 4 [bv b],.box 188 [.f (.func k) [] []]]:=by
 refine AC.wk Tryz.func112 ?_
 focus ((repeat' (first|refine G ?_|refine AW.ret ?_|(refine GC ?_ ?_<;>intro h<;>(try simp only [hsB] at h)<;>try exact xf)|(refine GL ?_ ?_<;>intro h<;>(try simp only [hsN] at h)<;>(try simp only [h])<;>(try simp only [hsB] at h)<;>try exact xf)|fail)))
 all_goals first|(((all_goals first|refine RetQ.yr 3 (xs:=[.a [.f (.func 168) [] [.p 1 0,.p 2 0,.p 0 0],.f (.func 170) [] [.p 0 0,.p 2 0],.f (.func 172) [] [.p 0 0,.p 2 0,.p 1 0],.f (.func 174) [] [.p 2 0]]]) ⟨?_,?_⟩|refine RetQ.yn 3 (xs:=[.a [.f (.func 168) [] [.p 1 0,.p 2 0,.p 0 0],.f (.func 170) [] [.p 0 0,.p 2 0],.f (.func 172) [] [.p 0 0,.p 2 0,.p 1 0],.f (.func 174) [] [.p 2 0]]]) ⟨?_,?_⟩);(all_goals exact fx));done)|exact xg
theorem msg_flag(k:FuncId):AC Tryz.prog 114 [.f (.func k) [] []] [] fun y σ=>y=.a [.f (.func 175) [] [],.f (.func 176) [] [.p 0 0],.f (.func 178) [] [.p 0 0],.f (.func 179) [] [.p 0 0]]∧σ=[.box 191 [.f (.func k) [] []]]:=by
 refine AC.wk Tryz.func114 ?_
 focus ((repeat' (first|refine G ?_|refine AW.ret ?_|(refine GC ?_ ?_<;>intro h<;>(try simp only [hsB] at h)<;>try exact xf)|(refine GL ?_ ?_<;>intro h<;>(try simp only [hsN] at h)<;>(try simp only [h])<;>(try simp only [hsB] at h)<;>try exact xf)|fail)))
 all_goals first|(((all_goals first|refine RetQ.yr 1 (xs:=[.a [.f (.func 175) [] [],.f (.func 176) [] [.p 0 0],.f (.func 178) [] [.p 0 0],.f (.func 179) [] [.p 0 0]]]) ⟨?_,?_⟩|refine RetQ.yn 1 (xs:=[.a [.f (.func 175) [] [],.f (.func 176) [] [.p 0 0],.f (.func 178) [] [.p 0 0],.f (.func 179) [] [.p 0 0]]]) ⟨?_,?_⟩);(all_goals exact fx));done)|exact xg
theorem parts_21:AC Tryz.prog 52 [iv .u8 2,iv .u8 1] [] fun y σ=>y=.t [.b 10 0 1,bv true]∧σ=[.box 3 [iv .i64 128],.box 4 [bv true],.box 188 [.f (.func 113) [] []],.box 86 [.f (.func 168) [] [.p 1 0,.p 2 0,.p 0 0],.f (.func 170) [] [.p 0 0,.p 2 0],.f (.func 172) [] [.p 0 0,.p 2 0,.p 1 0],.f (.func 174) [] [.p 2 0]],.box 191 [.f (.func 115) [] []],.box 86 [.f (.func 175) [] [],.f (.func 176) [] [.p 4 0],.f (.func 178) [] [.p 4 0],.f (.func 179) [] [.p 4 0]],.box 3 [iv .i64 64],.box 4 [bv false],.box 188 [.f (.func 116) [] []],.box 86 [.f (.func 168) [] [.p 7 0,.p 8 0,.p 6 0],.f (.func 170) [] [.p 6 0,.p 8 0],.f (.func 172) [] [.p 6 0,.p 8 0,.p 7 0],.f (.func 174) [] [.p 8 0]],.box 86 [.f (.func 168) [] [.p 1 0,.p 2 0,.p 0 0],.f (.func 170) [] [.p 0 0,.p 2 0],.f (.func 172) [] [.p 0 0,.p 2 0,.p 1 0],.f (.func 174) [] [.p 2 0]]]:=by
 refine AC.wk Tryz.func52 ?_
 (have kk1:=uN [] (msg_text 128 true 113);have kk2:=uN [] (msg_flag 115);have kk3:=uN [] (msg_text 64 false 116);exact We11)
theorem has_21:AC Tryz.prog 93 [iv .u8 2,iv .u8 1] [] fun y σ=>y=bv true∧σ=[]:=by
 refine AC.wk Tryz.func93 ?_
 have hp:=parts_21
 (have kk1:=uN [] hp;exact Wc0)
end Go.AW
