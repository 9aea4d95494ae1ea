/-
  clocks that are read: the document's.
-/
import Derived.Test.YtdnfcckkdnkaiaaGreatU24
import Derived.Test.YtdnfcckkdnkaiaaGreatU33
set_option linter.unusedVariables false
set_option linter.unusedSimpArgs false
set_option maxHeartbeats 4000000
set_option maxRecDepth 10000
namespace Go.AW
open Go Go.Proofs
attribute [local irreducible] thenQ blockQ RetQ AL AW AC AOp
theorem Cu.vgo_err:∀ (k i n:Nat) (c:Cu),c.e=0→(Cu.vgo k i n c).2.e≠0→(Cu.vgo k i n c).1=0
 | 0,i,n,c,hc,h=>rfl
 | k+1,i,n,c,hc,h=>by
  unfold Cu.vgo at h ⊢
  split
  ·rfl
  ·rename_i b r hd
   rw [hd] at h
   simp only at h
   split
   ·rfl
   split
   ·rfl
   split
   ·rename_i h1 h2 h3
    rw [if_neg h1,if_neg h2,if_pos h3] at h
    exact absurd hc h
   ·rename_i h1 h2 h3
    rw [if_neg h1,if_neg h2,if_neg h3] at h
    exact Cu.vgo_err k _ _ _ hc h
theorem Cu.vtake_err{c:Cu}(h:c.vtake.2.e≠0):c.vtake.1=0:=by
 unfold Cu.vtake at h ⊢
 split
 ·rfl
 ·rename_i hc
  rw [if_neg hc] at h
  exact Cu.vgo_err _ _ _ _ (by simpa using hc) h
theorem Cu.bytes_err{c:Cu}{n:Int}(h:(c.bytes n).2.e≠0):(c.bytes n).1=[]:=by
 unfold Cu.bytes at h ⊢
 split
 ·rfl
 ·rename_i h1
  rw [if_neg h1] at h
  split
  ·rfl
  ·rename_i h2
   rw [if_neg h2] at h
   split
   ·rfl
   ·rename_i h3
    rw [if_neg h3] at h
    exact absurd (by simpa using h1) h
theorem Cu.blob_err{c:Cu}{m:Int}(h:(c.blob m).2.e≠0):(c.blob m).1=[]:=by
 unfold Cu.blob at h ⊢
 exact Cu.bytes_err h
theorem Cu.flag_err{c:Cu}(h:c.flag.2.e≠0):c.flag.1=false:=by
 unfold Cu.flag at h ⊢
 simp only at h ⊢
 have hb:c.byte=(((c.bytes 1).1.getD 0 0).toNat,(c.bytes 1).2):=by unfold Cu.byte;rfl
 rw [hb] at h ⊢
 simp only at h ⊢
 by_cases h1:1<((c.bytes 1).1.getD 0 0).toNat
 ·clear h
  exact decide_eq_false (by omega)
 ·rw [if_neg h1] at h
  rw [Cu.bytes_err h]
  simp
theorem Cu.dot_bad{v:Vec}{c c1 q:Cu}{t:List UInt8}(hb:c.blob 32=(t,c1))(hq:(if t=[] then c1.fail 14 else c1)=q)(he:q.e≠0):c.dot v=((t,0),q):=by
 have hv:q.vtake=(0,q):=Prod.ext (Cu.vtake_err (by rw [trip_v.stuck q he];exact he)) (trip_v.stuck q he)
 rw [dot_eq hb hq hv,if_pos rfl,Cu.fail_stuck he]
theorem ref13_Take(c:Cu)(h:c.Ok):AC Tryz.prog 248 [.p 0 0] [Cu.ro c] fun x σ=>x=ckV c.clk.1∧σ=[Cu.ro c.clk.2]:=by
 refine AC.wk Tryz.func248 ?_
 have hvl:=Cu.vec_len c
 have hvok:=Cu.vec_ok h
 cases h1:c.vec with
 | mk v c1=>
 rw [h1] at hvl hvok
 have h1':Cu.vec ⟨c.s,c.a,c.e⟩=(v,c1):=h1
 have hfok:=Cu.flag_ok hvok
 simp only at hvl hfok hvok
 by_cases he1:c1.e=0
 case neg=>
  have h2:c1.flag=(false,c1):=Prod.ext (Cu.flag_err (by rw [trip_flag.stuck c1 he1];exact he1)) (trip_flag.stuck c1 he1)
  rw [clk_eq h1 h2 (d:=([],0)) (c3:=c1) rfl,if_pos he1]
  focus (have kxs:=h1';have kk1:=uN [0] (ref11_Take c.s c.a c.e h);(repeat' (first|(refine ADr.nil ?_;try clear hgv)|refine GO ?_|refine AW.ret ?_|(refine GC ?_ ?_<;>intro h<;>(try simp only [hsB] at h)<;>try exact xf)|(refine GD ?_ ?_<;>intro h<;>(try intro hgv)<;>(try simp only [hsN] at h)<;>(try simp only [h])<;>(try simp only [hsB] at h)<;>try exact xf)|(refine GL ?_ ?_<;>intro h<;>(try simp only [hsN] at h)<;>(try simp only [h])<;>(try simp only [hsB] at h)<;>try exact xf)|fail));all_goals clear kxs kk1)
  all_goals first|(((all_goals first|refine RetQ.yr 1 ⟨?_,?_⟩|refine RetQ.yn 1 ⟨?_,?_⟩);(all_goals first|rfl|(simp [ck0, *];done)|((simp only [go_sem,↓reduceIte,Nat.reduceLT,ck0];(repeat' split))<;>first|rfl|(exfalso;omega)|(simp_all;done)|(simp_all;omega))));done)|(exfalso;simp_all;done)
 have hfe:=Cu.flag_err (c:=c1)
 cases h2:c1.flag with
 | mk f c2=>
 rw [h2] at hfok hfe
 simp only at hfok hfe
 have h2':Cu.flag ⟨c1.s,c1.a,c1.e⟩=(f,c2):=h2
 by_cases he2:c2.e=0
 case neg=>
  have hf:=hfe he2
  subst hf
  rw [clk_eq h1 h2 (d:=([],0)) (c3:=c2) rfl,if_pos he2]
  focus (have kxs:=And.intro h1' h2';have kk1:=uN [0] (ref11_Take c.s c.a c.e h);have kk2:=uN [0] (ref06_Flag c1.s c1.a c1.e hvok);(repeat' (first|(refine ADr.nil ?_;try clear hgv)|refine GO ?_|refine AW.ret ?_|(refine GC ?_ ?_<;>intro h<;>(try simp only [hsB] at h)<;>try exact xf)|(refine GD ?_ ?_<;>intro h<;>(try intro hgv)<;>(try simp only [hsN] at h)<;>(try simp only [h])<;>(try simp only [hsB] at h)<;>try exact xf)|(refine GL ?_ ?_<;>intro h<;>(try simp only [hsN] at h)<;>(try simp only [h])<;>(try simp only [hsB] at h)<;>try exact xf)|fail));all_goals clear kxs kk1 kk2)
  all_goals first|(((all_goals first|refine RetQ.yr 1 ⟨?_,?_⟩|refine RetQ.yn 1 ⟨?_,?_⟩);(all_goals first|rfl|(simp [ck0, *];done)|((simp only [go_sem,↓reduceIte,Nat.reduceLT,ck0];(repeat' split))<;>first|rfl|(exfalso;omega)|(simp_all;done)|(simp_all;omega))));done)|(exfalso;simp_all;done)
 cases f with
 | false=>
  rw [clk_eq h1 h2 (d:=([],0)) (c3:=c2) rfl,if_neg (by simpa using he2)]
  (have kxs:=And.intro h1' h2';have kk1:=uN [0] (ref11_Take c.s c.a c.e h);have kk2:=uN [0] (ref06_Flag c1.s c1.a c1.e hvok);exact We1)
 | true=>
 have hbok:=Cu.blob_ok (max:=32) hfok
 cases hb:c2.blob 32 with
 | mk t c3=>
 rw [hb] at hbok
 simp only at hbok
 have hb':Cu.blob ⟨c2.s,c2.a,c2.e⟩ 32=(t,c3):=hb
 have hte:t=[]↔t.length=0:=by simp
 by_cases he3:c3.e=0
 case neg=>
  have ht:t=[]:=by have:=Cu.blob_err (c:=c2) (m:=32);rw [hb] at this;exact this he3
  have hd:=Cu.dot_bad (v:=v) (q:=c3) hb (by rw [if_pos ht];exact Cu.fail_stuck he3 14) he3
  rw [clk_eq h1 h2 hd,if_pos he3]
  focus (have kxs:=And.intro h1' (And.intro h2' hb');have kk1:=uN [0] (ref11_Take c.s c.a c.e h);have kk2:=uN [0] (ref06_Flag c1.s c1.a c1.e hvok);have kk3:=uN [0] (ref06_Take c2.s c2.a c2.e 32 hfok (by decide));(repeat' (first|(refine ADr.nil ?_;try clear hgv)|refine GO ?_|refine AW.ret ?_|(refine GC ?_ ?_<;>intro h<;>(try simp only [hsB] at h)<;>try exact xf)|(refine GD ?_ ?_<;>intro h<;>(try intro hgv)<;>(try simp only [hsN] at h)<;>(try simp only [h])<;>(try simp only [hsB] at h)<;>try exact xf)|(refine GL ?_ ?_<;>intro h<;>(try simp only [hsN] at h)<;>(try simp only [h])<;>(try simp only [hsB] at h)<;>try exact xf)|fail));all_goals clear kxs kk1 kk2 kk3)
  all_goals first|(((all_goals first|refine RetQ.yr 1 ⟨?_,?_⟩|refine RetQ.yn 1 ⟨?_,?_⟩);(all_goals first|rfl|(simp [ck0, *];done)|((simp only [go_sem,↓reduceIte,Nat.reduceLT,ck0];(repeat' split))<;>first|rfl|(exfalso;omega)|(simp_all;done)|(simp_all;omega))));done)|(exfalso;simp_all;done)
 by_cases ht:t=[]
 ·have hd:=Cu.dot_bad (v:=v) (q:=c3.fail 14) hb (if_pos ht) (Cu.fail_e (by decide))
  rw [clk_eq h1 h2 hd,if_pos (Cu.fail_e (by decide)),Cu.fail_ok0 he3]
  subst ht
  focus (have kxs:=And.intro h1' (And.intro h2' hb');have kk1:=uN [0] (ref11_Take c.s c.a c.e h);have kk2:=uN [0] (ref06_Flag c1.s c1.a c1.e hvok);have kk3:=uN [0] (ref06_Take c2.s c2.a c2.e 32 hfok (by decide));(repeat' (first|(refine ADr.nil ?_;try clear hgv)|refine GO ?_|refine AW.ret ?_|(refine GC ?_ ?_<;>intro h<;>(try simp only [hsB] at h)<;>try exact xf)|(refine GD ?_ ?_<;>intro h<;>(try intro hgv)<;>(try simp only [hsN] at h)<;>(try simp only [h])<;>(try simp only [hsB] at h)<;>try exact xf)|(refine GL ?_ ?_<;>intro h<;>(try simp only [hsN] at h)<;>(try simp only [h])<;>(try simp only [hsB] at h)<;>try exact xf)|fail));all_goals clear kxs kk1 kk2 kk3)
  all_goals first|(((all_goals first|refine RetQ.yr 1 ⟨?_,?_⟩|refine RetQ.yn 1 ⟨?_,?_⟩);(all_goals first|rfl|(simp [ck0, *];done)|((simp only [go_sem,↓reduceIte,Nat.reduceLT,ck0];(repeat' split))<;>first|rfl|(exfalso;omega)|(simp_all;done)|(simp_all;omega))));done)|(exfalso;simp_all;done)
 have ht0:t.length≠0:=fun e=>ht (hte.2 e)
 have hve:=Cu.vtake_err (c:=c3)
 cases hv:c3.vtake with
 | mk n c4=>
 rw [hv] at hve
 simp only at hve
 have hv':Cu.vtake ⟨c3.s,c3.a,c3.e⟩=(n,c4):=hv
 have hdq:=dot_eq (v:=v) hb (if_neg ht) hv
 by_cases he4:c4.e=0
 case neg=>
  have hn:=hve he4
  rw [if_pos hn,Cu.fail_stuck he4] at hdq
  rw [clk_eq h1 h2 hdq,if_pos he4]
  focus (have kxs:=And.intro h1' (And.intro h2' (And.intro hb' hv'));have kk1:=uN [0] (ref11_Take c.s c.a c.e h);have kk2:=uN [0] (ref06_Flag c1.s c1.a c1.e hvok);have kk3:=uN [0] (ref06_Take c2.s c2.a c2.e 32 hfok (by decide));have kk4:=uN [0] (ref03_Take c3.s c3.a c3.e hbok);(repeat' (first|(refine ADr.nil ?_;try clear hgv)|refine GO ?_|refine AW.ret ?_|(refine GC ?_ ?_<;>intro h<;>(try simp only [hsB] at h)<;>try exact xf)|(refine GD ?_ ?_<;>intro h<;>(try intro hgv)<;>(try simp only [hsN] at h)<;>(try simp only [h])<;>(try simp only [hsB] at h)<;>try exact xf)|(refine GL ?_ ?_<;>intro h<;>(try simp only [hsN] at h)<;>(try simp only [h])<;>(try simp only [hsB] at h)<;>try exact xf)|fail));all_goals clear kxs kk1 kk2 kk3 kk4)
  all_goals first|(((all_goals first|refine RetQ.yr 1 ⟨?_,?_⟩|refine RetQ.yn 1 ⟨?_,?_⟩);(all_goals first|rfl|(simp [ck0, *];done)|((simp only [go_sem,↓reduceIte,Nat.reduceLT,ck0];(repeat' split))<;>first|rfl|(exfalso;omega)|(simp_all;done)|(simp_all;omega))));done)|(exfalso;simp_all;done)
 by_cases hn:n=0
 ·rw [if_pos hn] at hdq
  rw [clk_eq h1 h2 hdq,if_pos (Cu.fail_e (by decide)),Cu.fail_ok0 he4]
  focus (have kxs:=And.intro h1' (And.intro h2' (And.intro hb' hv'));have kk1:=uN [0] (ref11_Take c.s c.a c.e h);have kk2:=uN [0] (ref06_Flag c1.s c1.a c1.e hvok);have kk3:=uN [0] (ref06_Take c2.s c2.a c2.e 32 hfok (by decide));have kk4:=uN [0] (ref03_Take c3.s c3.a c3.e hbok);(repeat' (first|(refine ADr.nil ?_;try clear hgv)|refine GO ?_|refine AW.ret ?_|(refine GC ?_ ?_<;>intro h<;>(try simp only [hsB] at h)<;>try exact xf)|(refine GD ?_ ?_<;>intro h<;>(try intro hgv)<;>(try simp only [hsN] at h)<;>(try simp only [h])<;>(try simp only [hsB] at h)<;>try exact xf)|(refine GL ?_ ?_<;>intro h<;>(try simp only [hsN] at h)<;>(try simp only [h])<;>(try simp only [hsB] at h)<;>try exact xf)|fail));all_goals clear kxs kk1 kk2 kk3 kk4)
  all_goals first|(((all_goals first|refine RetQ.yr 1 ⟨?_,?_⟩|refine RetQ.yn 1 ⟨?_,?_⟩);(all_goals first|rfl|(simp [ck0, *];done)|((simp only [go_sem,↓reduceIte,Nat.reduceLT,ck0];(repeat' split))<;>first|rfl|(exfalso;omega)|(simp_all;done)|(simp_all;omega))));done)|(exfalso;simp_all;done)
 rw [if_neg hn] at hdq
 by_cases hl:n≤v.count t
 ·rw [if_pos hl] at hdq
  rw [clk_eq h1 h2 hdq,if_pos (Cu.fail_e (by decide)),Cu.fail_ok0 he4]
  focus (have kxs:=And.intro h1' (And.intro h2' (And.intro hb' hv'));have kk1:=uN [0] (ref11_Take c.s c.a c.e h);have kk2:=uN [0] (ref06_Flag c1.s c1.a c1.e hvok);have kk3:=uN [0] (ref06_Take c2.s c2.a c2.e 32 hfok (by decide));have kk4:=uN [0] (ref03_Take c3.s c3.a c3.e hbok);have kk5:=uN [] (ref10_Count v t (by omega));(repeat' (first|(refine ADr.nil ?_;try clear hgv)|refine GO ?_|refine AW.ret ?_|(refine GC ?_ ?_<;>intro h<;>(try simp only [hsB] at h)<;>try exact xf)|(refine GD ?_ ?_<;>intro h<;>(try intro hgv)<;>(try simp only [hsN] at h)<;>(try simp only [h])<;>(try simp only [hsB] at h)<;>try exact xf)|(refine GL ?_ ?_<;>intro h<;>(try simp only [hsN] at h)<;>(try simp only [h])<;>(try simp only [hsB] at h)<;>try exact xf)|fail));all_goals clear kxs kk1 kk2 kk3 kk4 kk5)
  all_goals first|(((all_goals first|refine RetQ.yr 1 ⟨?_,?_⟩|refine RetQ.yn 1 ⟨?_,?_⟩);(all_goals first|rfl|(simp [ck0, *];done)|((simp only [go_sem,↓reduceIte,Nat.reduceLT,ck0];(repeat' split))<;>first|rfl|(exfalso;omega)|(simp_all;done)|(simp_all;omega))));done)|(exfalso;simp_all;done)
 ·rw [if_neg hl] at hdq
  rw [clk_eq h1 h2 hdq,if_neg (by simpa using he4)]
  (have kxs:=And.intro h1' (And.intro h2' (And.intro hb' hv'));have kk1:=uN [0] (ref11_Take c.s c.a c.e h);have kk2:=uN [0] (ref06_Flag c1.s c1.a c1.e hvok);have kk3:=uN [0] (ref06_Take c2.s c2.a c2.e 32 hfok (by decide));have kk4:=uN [0] (ref03_Take c3.s c3.a c3.e hbok);have kk5:=uN [] (ref10_Count v t (by omega));exact We1)
theorem ref14_Take(s:List UInt8)(a:Nat)(e:Int)(h:Cu.Ok ⟨s,a,e⟩):AC Tryz.prog 41 [.p 0 0] [Cu.ro ⟨s,a,e⟩] fun x σ=>x=.d (.l (Cu.prs ⟨s,a,e⟩).1.length (prsD (Cu.prs ⟨s,a,e⟩).1))∧σ=[Cu.ro (Cu.prs ⟨s,a,e⟩).2]:=by
 refine AC.wk Tryz.func41 ?_
 have hlt:(Cu.count ⟨s,a,e⟩ 8).1≤8:=Cu.count_max ⟨s,a,e⟩ 8
 have hok0:=Cu.count_ok (max:=8) h
 have hvec:Cu.prs ⟨s,a,e⟩=(if ((Cu.count ⟨s,a,e⟩ 8).2.pairs (Cu.count ⟨s,a,e⟩ 8).1 []).2.e≠0 then [] else ((Cu.count ⟨s,a,e⟩ 8).2.pairs (Cu.count ⟨s,a,e⟩ 8).1 []).1,((Cu.count ⟨s,a,e⟩ 8).2.pairs (Cu.count ⟨s,a,e⟩ 8).1 []).2):=rfl
 rw [hvec]
 have hze:(Cu.count ⟨s,a,e⟩ 8).2.e=0∨(Cu.count ⟨s,a,e⟩ 8).1=0:=by
  unfold Cu.count
  by_cases h1:(Cu.vtake ⟨s,a,e⟩).2.e=0
  ·rw [if_neg (by simpa using h1)]
   split
   ·exact .inr rfl
   ·exact .inl h1
  ·rw [if_pos h1];exact .inr rfl
 generalize hz:Cu.count ⟨s,a,e⟩ 8=z at *
 obtain ⟨n,c0⟩:=z
 simp only at hlt hok0 hze ⊢
 clear hvec
 focus (have kxs:=hz;have kk1:=uN [0] (ref06_Count s a e 8 h (by decide));(repeat' (first|refine G ?_|refine AW.ret ?_|(refine GC ?_ ?_<;>intro h<;>(try simp only [hsB] at h)<;>try exact xf)|(refine GL ?_ ?_<;>intro h<;>(try simp only [hsN] at h)<;>(try simp only [h])<;>(try simp only [hsB] at h)<;>try exact xf)|fail));all_goals clear kxs kk1)
 refine AW.birth 176 2 [4] [] ?_
 refine AW.rounds [0,2,3,4,5] (fun x:Prs × List UInt8 × Cu=>[(0,.p 0 0),(2,.d (.s (.slice none 0 0))),(3,iv .i64 n),(4,.o 1 x.1.length),(5,iv .i64 x.1.length)]) (fun x=>[Cu.ro x.2.2,.row 176 2 x.1.length (prsD x.1)])
  (fun x=>x.2.2.Ok∧(x.2.2.e=0∨n=0)∧Prs.last x.1 x.2.1∧Pfam n [] c0 x.1 x.2.1 x.2.2) (fun x=>n-x.1.length) ([],[],c0) ⟨hok0,hze,.inl ⟨rfl,rfl⟩,Fam.start n [] c0⟩ rfl rfl (fun _ _=>Nat.le_of_ble_eq_true rfl) (fun _ _=>rfl) (fun _ _=>rfl) ?_
 rintro ⟨out,p,c⟩ ⟨hok,hcn,hlast,hf⟩ J hJ
 simp only at hok hcn hlast hf ⊢
 have hst:∀ (k:List UInt8) (c:Cu),c.e≠0→(Cu.pair k c).2=c:=fun k c h=>(trip_pair k).stuck c h
 by_cases hlen:out.length<n
 case neg=>
  by_cases hce:c.e=0
  ·have hb2:Cu.pairs n [] c0=(out,c):=Fam.done hf hce hlen
   rw [hb2]
   simp only
   rw [if_neg (by simpa using hce)]
   exact Wd1
  ·have hb2:(Cu.pairs n [] c0).2=c:=Fam.bad hst hf hce
   have hfl:=hf.1
   have hn0:out.length=0:=by omega
   have ho:out=[]:=List.length_eq_zero_iff.1 hn0
   subst ho
   rw [hb2,if_pos hce]
   exact Wd1
 have hce:c.e=0:=by omega
 have hstep:=Fam.step hf hce hlen
 have hbok:=Cu.blob_ok (max:=32) hok
 have hlim:=Cu.blob_lim c 32
 have hent:Cu.pair p c=(((c.blob 32).1,((gd (lessB p (c.blob 32).1) 6 (gd (decide ((c.blob 32).1≠[])) 14 (c.blob 32).2)).blob 32768).1),((gd (lessB p (c.blob 32).1) 6 (gd (decide ((c.blob 32).1≠[])) 14 (c.blob 32).2)).blob 32768).2):=rfl
 generalize hb0:c.blob 32=y at *
 obtain ⟨t,c1⟩:=y
 have hb:Cu.blob ⟨c.s,c.a,c.e⟩ 32=(t,c1):=hb0
 simp only at hlim hbok hent
 have key:∀ q:Cu,gd (lessB p t) 6 (gd (decide (t≠[])) 14 c1)=q→q.Ok∧∃ m c2,Cu.blob ⟨q.s,q.a,q.e⟩ 32768=(m,c2)∧(q.e≠0→c2.e≠0)∧(c2.e≠0→(Cu.pairs n [] c0).2=c2)∧
   (c2.e=0→∀ T' σ',keepT T' [0,2,3,4,5]=[(0,.p 0 0),(2,.d (.s (.slice none 0 0))),(3,iv .i64 n),(4,.o 1 (out.length+1)),(5,iv .i64 ((out.length:Int)+1))]→σ'.take 2=[Cu.ro c2,.row 176 2 (out.length+1) (prsD out++[.s (.string ⟨t.toArray⟩),.s (.string ⟨m.toArray⟩)])]→J T' σ'):=fun q hq=>by
  rw [hq] at hent
  have hqok:q.Ok:=by rw [←hq];exact gd_ok (gd_ok hbok)
  have hqe:c1.e≠0→q.e≠0:=fun h=>by rw [←hq,gd_stuck h,gd_stuck h];exact h
  have hok2:=Cu.blob_ok (max:=32768) hqok
  have hbs:=(trip_blob 32768).stuck q
  refine ⟨hqok,(q.blob 32768).1,(q.blob 32768).2,rfl,?_⟩
  generalize hv:q.blob 32768=w at *
  obtain ⟨m,c2⟩:=w
  simp only at hent hok2 hbs ⊢
  rw [hent] at hstep
  refine ⟨fun h=>by rw [hbs h];exact h,fun h=>Fam.bad hst hstep h,fun h0 T' σ' g1 g2=>?_⟩
  have hl:(out++[(t,m)]).length=out.length+1:=by simp
  have e1:c1.e=0:=by
   apply Decidable.byContradiction
   intro hn
   have hq:=hqe hn
   rw [hbs hq] at h0
   exact hq h0
  have htl:=hlim e1
  exact hJ (out++[(t,m)],t,c2) T' σ' (by simp only [hl];omega) ⟨hok2,.inl h0,Prs.last_snoc out t m (by simpa using htl),hstep⟩ (by simp only [hl];exact g1) (by rw [prs_snoc] at g2;simp only [hl];exact g2)
 clear hJ hstep hf hent
 have fin:∀ q:Cu,gd (lessB p t) 6 (gd (decide (t≠[])) 14 c1)=q→∃ m c2,q.Ok∧Cu.blob ⟨q.s,q.a,q.e⟩ 32768=(m,c2)∧(q.e≠0→c2.e≠0)∧
   ((c2.e≠0∧(Cu.pairs n [] c0).2=c2)∨(c2.e=0∧∀ T' σ',keepT T' [0,2,3,4,5]=[(0,.p 0 0),(2,.d (.s (.slice none 0 0))),(3,iv .i64 n),(4,.o 1 (out.length+1)),(5,iv .i64 ((out.length:Int)+1))]→σ'.take 2=[Cu.ro c2,.row 176 2 (out.length+1) (prsD out++[.s (.string ⟨t.toArray⟩),.s (.string ⟨m.toArray⟩)])]→J T' σ')):=fun q hq=>by
  obtain ⟨k1,m,c2,k2,k3,k4,k5⟩:=key q hq
  by_cases h0:c2.e=0
  ·exact ⟨m,c2,k1,k2,k3,.inr ⟨h0,k5 h0⟩⟩
  ·exact ⟨m,c2,k1,k2,k3,.inl ⟨h0,k4 h0⟩⟩
 clear key
 by_cases h1:c1.e=0
 case neg=>
  obtain ⟨m,c2,hqok,hv,h3,h4|h4⟩:=fin c1 (by rw [gd_stuck h1,gd_stuck h1])
  ·obtain ⟨h4,h5⟩:=h4
   rw [h5,if_pos h4]
   (have kxs:=And.intro hb hv;have kk1:=uN [0] (ref06_Take c.s c.a c.e 32 hok (by decide));have kk2:=uN [0] (ref06_Take c1.s c1.a c1.e 32768 hqok (by decide));exact Wd1)
  ·exact absurd h4.1 (h3 h1)
 by_cases h2:t=[]
 ·subst h2
  obtain ⟨m,c2,hqok,hv,h3,h4|h4⟩:=fin (c1.fail 14) (gd_name_empty p c1)
  ·obtain ⟨h4,h5⟩:=h4
   rw [Cu.fail_ok0 h1] at hqok hv
   rw [h5,if_pos h4]
   (have kxs:=And.intro hb hv;have kk1:=uN [0] (ref06_Take c.s c.a c.e 32 hok (by decide));have kk2:=uN [0] (ref06_Take c1.s c1.a 14 32768 hqok (by decide));exact Wd1)
  ·exact absurd h4.1 (h3 (Cu.fail_e (by decide)))
 have htl:t.length≤32:=by simpa using hlim h1
 have ht0:0<t.length:=List.length_pos_iff.2 h2
 have h10:t.length≠0:=by omega
 rcases hlast with ⟨rfl,rfl⟩|⟨hlo,hpl,pn,pr,hpd⟩
 ·have hl0:lessB [] t=true:=by
    cases hx:t with
    | nil=>exact absurd hx h2
    | cons b u=>exact less_nil_cons b u
  obtain ⟨m,c2,hqok,hv,h3,h4|h4⟩:=fin c1 (gd_name_ok h2 hl0)
  ·obtain ⟨h4,h5⟩:=h4
   rw [h5,if_pos h4]
   (have kxs:=And.intro hb hv;have kk1:=uN [0] (ref06_Take c.s c.a c.e 32 hok (by decide));have kk2:=uN [0] (ref06_Take c1.s c1.a c1.e 32768 hqok (by decide));exact Wd1)
  ·obtain ⟨h4,go⟩:=h4
   (have kxs:=And.intro hb hv;have kk1:=uN [0] (ref06_Take c.s c.a c.e 32 hok (by decide));have kk2:=uN [0] (ref06_Take c1.s c1.a c1.e 32768 hqok (by decide));exact Wdg)
 have hcd:=prs_drop hpd
 have hi1:((out.length:Int)-1).toNat=out.length-1:=by omega
 by_cases h3:lessB p t=true
 ·have h3':Op.bytesLess p t=true:=h3
  obtain ⟨m,c2,hqok,hv,h3,h4|h4⟩:=fin c1 (gd_name_ok h2 h3)
  ·obtain ⟨h4,h5⟩:=h4
   rw [h5,if_pos h4]
   (have kxs:=And.intro hb (And.intro hv (And.intro hcd (And.intro hi1 h3')));have kk1:=uN [0] (ref06_Take c.s c.a c.e 32 hok (by decide));have kk2:=uN [] (ref06_Below p t (by omega) (by omega));have kk3:=uN [0] (ref06_Take c1.s c1.a c1.e 32768 hqok (by decide));exact Wd1)
  ·obtain ⟨h4,go⟩:=h4
   (have kxs:=And.intro hb (And.intro hv (And.intro hcd (And.intro hi1 h3')));have kk1:=uN [0] (ref06_Take c.s c.a c.e 32 hok (by decide));have kk2:=uN [] (ref06_Below p t (by omega) (by omega));have kk3:=uN [0] (ref06_Take c1.s c1.a c1.e 32768 hqok (by decide));exact Wdg)
 ·have h3':Op.bytesLess p t=false:=by simpa using h3
  obtain ⟨m,c2,hqok,hv,h3,h4|h4⟩:=fin (c1.fail 6) (gd_name_order h2 h3')
  ·obtain ⟨h4,h5⟩:=h4
   rw [Cu.fail_ok0 h1] at hqok hv
   rw [h5,if_pos h4]
   (have kxs:=And.intro hb (And.intro hv (And.intro hcd (And.intro hi1 h3')));have kk1:=uN [0] (ref06_Take c.s c.a c.e 32 hok (by decide));have kk2:=uN [] (ref06_Below p t (by omega) (by omega));have kk3:=uN [0] (ref06_Take c1.s c1.a 6 32768 hqok (by decide));exact Wd1)
  ·exact absurd h4.1 (h3 (Cu.fail_e (by decide)))
theorem ref15_Take(c:Cu)(h:c.Ok):AC Tryz.prog 165 [.p 0 0] [Cu.ro c] fun x σ=>x=sbV c.sib.1∧σ=[Cu.ro c.sib.2]:=by
 refine AC.wk Tryz.func165 ?_
 have ho1:=Cu.clk_ok h
 cases h1:c.clk with
 | mk k c1=>
 rw [h1] at ho1
 have ho2:=Cu.prs_ok ho1
 have hs2:=trip_prs.stuck c1
 cases h2:c1.prs with
 | mk l c2=>
 rw [h2] at ho2 hs2
 have ho3:=Cu.flag_ok ho2
 have hs3:=trip_flag.stuck c2
 cases h3:c2.flag with
 | mk f c3=>
 rw [h3] at ho3 hs3
 have hs4:=(trip_blob 32768).stuck c3
 cases h4:c3.blob 32768 with
 | mk t c4=>
 rw [h4] at hs4
 have h2':Cu.prs ⟨c1.s,c1.a,c1.e⟩=(l,c2):=h2
 have h3':Cu.flag ⟨c2.s,c2.a,c2.e⟩=(f,c3):=h3
 have h4':Cu.blob ⟨c3.s,c3.a,c3.e⟩ 32768=(t,c4):=h4
 rw [sib_eq h1 h2 h3 h4]
 simp only at ho1 ho2 ho3 hs2 hs3 hs4 ⊢
 by_cases e1:c1.e=0
 case neg=>
  have g2:=hs2 e1
  have g3:=hs3 (by rw [g2];exact e1)
  have g4:=hs4 (by rw [g3,g2];exact e1)
  have hz:c4=c1:=by rw [g4,g3,g2]
  rw [hz,if_pos e1]
  clear h2 h3 h4 h2' h3' h4' hs2 hs3 hs4 g2 g3 g4 ho2 ho3
  focus (have kxs:=h1;have kk1:=uN [0] (ref13_Take c h);(repeat' (first|refine G ?_|refine AW.ret ?_|(refine GC ?_ ?_<;>intro h<;>(try simp only [hsB] at h)<;>try exact xf)|(refine GL ?_ ?_<;>intro h<;>(try simp only [hsN] at h)<;>(try simp only [h])<;>(try simp only [hsB] at h)<;>try exact xf)|fail));all_goals clear kxs kk1)
  all_goals first|(((all_goals first|refine RetQ.yr 1 ⟨?_,?_⟩|refine RetQ.yn 1 ⟨?_,?_⟩);(all_goals first|rfl|(simp [sb0,ck0, *];done)|((simp only [go_sem,↓reduceIte,Nat.reduceLT,sb0,ck0];(repeat' split))<;>first|rfl|(exfalso;omega)|(simp_all;done)|(simp_all;omega))));done)|(exfalso;simp_all;done)
 by_cases e2:c2.e=0
 case neg=>
  have g3:=hs3 e2
  have g4:=hs4 (by rw [g3];exact e2)
  have hz:c4=c2:=by rw [g4,g3]
  rw [hz,if_pos e2]
  clear h3 h4 h3' h4' hs3 hs4 g3 g4 ho3
  focus (have kxs:=And.intro h1 h2';have kk1:=uN [0] (ref13_Take c h);have kk2:=uN [0] (ref14_Take c1.s c1.a c1.e ho1);(repeat' (first|refine G ?_|refine AW.ret ?_|(refine GC ?_ ?_<;>intro h<;>(try simp only [hsB] at h)<;>try exact xf)|(refine GL ?_ ?_<;>intro h<;>(try simp only [hsN] at h)<;>(try simp only [h])<;>(try simp only [hsB] at h)<;>try exact xf)|fail));all_goals clear kxs kk1 kk2)
  all_goals first|(((all_goals first|refine RetQ.yr 1 ⟨?_,?_⟩|refine RetQ.yn 1 ⟨?_,?_⟩);(all_goals first|rfl|(simp [sb0,ck0, *];done)|((simp only [go_sem,↓reduceIte,Nat.reduceLT,sb0,ck0];(repeat' split))<;>first|rfl|(exfalso;omega)|(simp_all;done)|(simp_all;omega))));done)|(exfalso;simp_all;done)
 by_cases e3:c3.e=0
 case neg=>
  have g4:=hs4 e3
  rw [g4,if_pos e3]
  clear h4 h4' hs4 g4
  focus (have kxs:=And.intro h1 (And.intro h2' h3');have kk1:=uN [0] (ref13_Take c h);have kk2:=uN [0] (ref14_Take c1.s c1.a c1.e ho1);have kk3:=uN [0] (ref06_Flag c2.s c2.a c2.e ho2);(repeat' (first|refine G ?_|refine AW.ret ?_|(refine GC ?_ ?_<;>intro h<;>(try simp only [hsB] at h)<;>try exact xf)|(refine GL ?_ ?_<;>intro h<;>(try simp only [hsN] at h)<;>(try simp only [h])<;>(try simp only [hsB] at h)<;>try exact xf)|fail));all_goals clear kxs kk1 kk2 kk3)
  all_goals first|(((all_goals first|refine RetQ.yr 1 ⟨?_,?_⟩|refine RetQ.yn 1 ⟨?_,?_⟩);(all_goals first|rfl|(simp [sb0,ck0, *];done)|((simp only [go_sem,↓reduceIte,Nat.reduceLT,sb0,ck0];(repeat' split))<;>first|rfl|(exfalso;omega)|(simp_all;done)|(simp_all;omega))));done)|(exfalso;simp_all;done)
 by_cases he:c4.e=0
 ·rw [if_neg (by simpa using he)]
  (have kxs:=And.intro h1 (And.intro h2' (And.intro h3' h4'));have kk1:=uN [0] (ref13_Take c h);have kk2:=uN [0] (ref14_Take c1.s c1.a c1.e ho1);have kk3:=uN [0] (ref06_Flag c2.s c2.a c2.e ho2);have kk4:=uN [0] (ref06_Take c3.s c3.a c3.e 32768 ho3 (by decide));exact Wd1)
 ·rw [if_pos he]
  focus (have kxs:=And.intro h1 (And.intro h2' (And.intro h3' h4'));have kk1:=uN [0] (ref13_Take c h);have kk2:=uN [0] (ref14_Take c1.s c1.a c1.e ho1);have kk3:=uN [0] (ref06_Flag c2.s c2.a c2.e ho2);have kk4:=uN [0] (ref06_Take c3.s c3.a c3.e 32768 ho3 (by decide));(repeat' (first|refine G ?_|refine AW.ret ?_|(refine GC ?_ ?_<;>intro h<;>(try simp only [hsB] at h)<;>try exact xf)|(refine GL ?_ ?_<;>intro h<;>(try simp only [hsN] at h)<;>(try simp only [h])<;>(try simp only [hsB] at h)<;>try exact xf)|fail));all_goals clear kxs kk1 kk2 kk3 kk4)
  all_goals first|(((all_goals first|refine RetQ.yr 1 ⟨?_,?_⟩|refine RetQ.yn 1 ⟨?_,?_⟩);(all_goals first|rfl|(simp [sb0,ck0, *];done)|((simp only [go_sem,↓reduceIte,Nat.reduceLT,sb0,ck0];(repeat' split))<;>first|rfl|(exfalso;omega)|(simp_all;done)|(simp_all;omega))));done)|(exfalso;simp_all;done)
section
variable (s : List UInt8) (a : Nat) (e : Int)
theorem ref04_Take(h:Cu.Ok ⟨s,a,e⟩):AC Tryz.prog 166 [.p 0 0,iv .i64 8] [Cu.ro ⟨s,a,e⟩] fun x σ=>x=iv .u64 (Cu.num8 ⟨s,a,e⟩).1∧σ=[Cu.ro (Cu.num8 ⟨s,a,e⟩).2]:=by
 refine AC.wk Tryz.func166 ?_
 by_cases he:e=0
 case neg=>
  have hn:Cu.num8 ⟨s,a,e⟩=(0,⟨s,a,e⟩):=by unfold Cu.num8;rw [Cu.bytes_stuck (c:=⟨s,a,e⟩) 8 he];rfl
  rw [hn]
  (have kk1:=uN [] ref04_Width;exact Wd1)
 have hb:=ref01_Bytes s a e 8 h
 have hl:(Cu.bytes ⟨s,a,e⟩ 8).1.length≤8:=by
  unfold Cu.bytes
  split
  ·exact Nat.zero_le _
  split
  ·exact Nat.zero_le _
  split
  ·exact Nat.zero_le _
  ·rw [List.length_take];exact Nat.min_le_left _ _
 unfold Cu.num8
 generalize Cu.bytes ⟨s,a,e⟩ 8=z at *
 obtain ⟨l,c⟩:=z
 simp only at hl hb ⊢
 focus (have kk1:=uN [] ref04_Width;have kk2:=uN [0] hb;(repeat' (first|refine G ?_|refine AW.ret ?_|(refine GC ?_ ?_<;>intro h<;>(try simp only [hsB] at h)<;>try exact xf)|(refine GL ?_ ?_<;>intro h<;>(try simp only [hsN] at h)<;>(try simp only [h])<;>(try simp only [hsB] at h)<;>try exact xf)|fail));all_goals clear kk1 kk2)
 all_goals first|(exfalso;simp_all;done)|skip
 refine AW.rounds [4,5,6,7] (fun i:Nat=>[(4,iv .u64 0),(5,sv (bs l)),(6,iv .u64 (val8 (l.take i))),(7,iv .i64 i)]) (fun i=>[Cu.ro c])
  (fun i=>i≤l.length) (fun i=>l.length-i) 0 (Nat.zero_le _) rfl rfl (fun _ _=>Nat.le_of_ble_eq_true rfl) (fun _ _=>rfl) (fun _ _=>rfl) ?_
 intro i hi J hJ
 have hlt:=val8_lt (l.take i)
 rw [List.length_take,Nat.min_eq_left hi] at hlt
 by_cases hil:i<l.length
 ·obtain ⟨b,r,hd⟩:=next_at hil
  have hp:=pow256 (i:=i) (by omega)
  have hbl:=b.toNat_lt
  have hn:((val8 (l.take i):Nat):Int)*256+((b.toNat:Nat):Int)=((val8 (l.take (i+1)):Nat):Int):=by
   rw [next_take hd,val8_snoc];push_cast;rfl
  have hg:l.getD i 0=b:=by
   have:=congrArg (fun y=>y.getD 0 0) hd
   simpa [List.getD_eq_getElem?_getD] using this
  focus (have kxs:=And.intro hn hg;(repeat' (first|refine G ?_|refine AW.ret ?_|(refine GC ?_ ?_<;>intro h<;>(try simp only [hsB] at h)<;>try exact xf)|(refine GL ?_ ?_<;>intro h<;>(try simp only [hsN] at h)<;>(try simp only [h])<;>(try simp only [hsB] at h)<;>try exact xf)|fail));all_goals clear kxs)
  all_goals first|(refine hJ (i+1) _ _ (by omega) hil rfl rfl)|(exfalso;simp_all;done)
 ·have hi2:i=l.length:=by omega
  rw [hi2,List.take_length] at *
  exact Wd1
end
end Go.AW
namespace Go.AW
theorem msgw_bad{v k:Nat}{s:List UInt8}(h:(msgw v k s).2≠0):(msgw v k s).1=mg0:=by
 unfold msgw at h ⊢
 split at h
 ·rename_i h1;rw [if_pos h1]
 rename_i h1
 rw [if_neg h1]
 split at h
 ·rename_i h2;rw [if_pos h2]
 rename_i h2
 rw [if_neg h2]
 exact rdw_bad h
theorem msgw_back{v k:Nat}{s:List UInt8}(hs:s.length≤65536)(h:(msgw v k s).2=0):has v k=true∧goodm v k (msgw v k s).1∧(msgw v k s).1.id<18446744073709551616∧msge v (msgw v k s).1=(s,0)∧(msgw v k s).1.check v=0:=by
 have hh:has v k=true:=by
  unfold msgw at h
  split at h
  ·exact absurd h (by decide)
  split at h
  ·exact absurd h (by decide)
  rename_i h2
  simpa using h2
 rw [msgw_has hh] at h ⊢
 obtain ⟨⟨g0,g1⟩,g2⟩:=rdw_back (trip_msg hh) h
 generalize (rdw (Cu.msg v k) mg0 s).1=m at *
 have hh':has v m.kind=true:=by rw [g1.1];exact hh
 refine ⟨hh,g1,g0,?_,?_⟩
 ·rw [msge_fit hh' g1.2.2.1 (by unfold okl;rw [g1.2.1];exact ⟨g1.2.2.2.2.1,g1.2.2.2.2.2⟩) (by rw [←g2];exact hs),←g2]
 ·rw [has_check hh'];exact g1.2.2.1
end Go.AW
