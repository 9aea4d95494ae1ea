/-
  rings that are read: the program's; whole texts.
-/
import Derived.Test.YtdnfcckkdnkaiaaGreatU12
import Derived.Test.YtdnfcckkdnkaiaaGreatU15
set_option linter.unusedVariables false
set_option linter.unusedSimpArgs false
set_option maxHeartbeats 4000000
set_option maxRecDepth 10000
namespace Go.AW
open Go Go.Proofs
attribute [local irreducible] thenQ blockQ RetQ AL AW AC AOp
abbrev Mfam:=Fam Cu.mem (fun (_:List UInt8) (x:Mb)=>x.name)
theorem ring_snoc(l:Ring)(x:Mb):ringD l++[D.s (.string ⟨x.name.toArray⟩),.s (.int .u64 (x.ep:Nat)),.s (.int .u8 (x.st:Nat)),.l x.toks.length (toksD x.toks)]=ringD (l++[x]):=by
 rw [ringD,ringD,List.map_append,List.flatten_append];rfl
theorem mem_step{n:Nat}{c0 c:Cu}{out:Ring}{p:List UInt8}(hf:Mfam n [] c0 out p c)(hce:c.e=0)(hlen:out.length<n) :
  ((c.memg p).2.e=0→Mfam n [] c0 (out++[(c.memg p).1]) (c.memg p).1.name (c.memg p).2)∧((c.memg p).2.e≠0→(Cu.mems n [] c0).2=(c.memg p).2):=by
 have hstep:=Fam.step hf hce hlen
 obtain ⟨h1,h2⟩:=memg_mem p c
 refine ⟨fun h=>?_,fun h=>?_⟩
 ·rw [h1] at h
  rw [h2 h]
  exact hstep
 ·rw [h1] at h ⊢
  exact Fam.bad (fun k c h=>(trip_mem k).stuck c h) hstep h
theorem Cu.memg_ok{c:Cu}{p:List UInt8}(h:c.Ok):(c.memg p).2.Ok:=by rw [(memg_mem p c).1];exact Cu.mem_ok h
theorem ring_Take(s:List UInt8)(a:Nat)(e:Int)(h:Cu.Ok ⟨s,a,e⟩):AC Tryz.prog 160 [.p 0 0] [Cu.ob ⟨s,a,e⟩] fun x σ=>x=.d (.l (Cu.ring ⟨s,a,e⟩).1.length (ringD (Cu.ring ⟨s,a,e⟩).1))∧σ=[Cu.ob (Cu.ring ⟨s,a,e⟩).2]:=by
 refine AC.wk Tryz.func160 ?_
 have hlt:(Cu.count ⟨s,a,e⟩ 32).1≤32:=Cu.count_max ⟨s,a,e⟩ 32
 have hok0:=Cu.count_ok (max:=32) h
 have hvec:Cu.ring ⟨s,a,e⟩=(if ((Cu.count ⟨s,a,e⟩ 32).2.mems (Cu.count ⟨s,a,e⟩ 32).1 []).2.e≠0 then [] else ((Cu.count ⟨s,a,e⟩ 32).2.mems (Cu.count ⟨s,a,e⟩ 32).1 []).1,((Cu.count ⟨s,a,e⟩ 32).2.mems (Cu.count ⟨s,a,e⟩ 32).1 []).2):=rfl
 rw [hvec]
 generalize hz:Cu.count ⟨s,a,e⟩ 32=z at *
 obtain ⟨n,c0⟩:=z
 simp only at hlt hok0 ⊢
 clear hvec
 focus (have kxs:=hz;have kk1:=uN [0] (blob_Count s a e 32 h (by decide));(repeat' (first|refine G ?_|refine AW.ret ?_|(refine GC ?_ ?_<;>intro h<;>(try simp only [hsB] at h)<;>try exact xf)|(refine GL ?_ ?_<;>intro h<;>(try simp only [hsN] at h)<;>(try simp only [h])<;>(try simp only [hsB] at h)<;>try exact xf)|fail));all_goals clear kxs kk1)
 refine AW.birth 183 4 [4] [] ?_
 refine AW.rounds [0,2,3,4,5] (fun x:Ring × List UInt8 × Cu=>[(0,.p 0 0),(2,.d (.s (.slice none 0 0))),(3,iv .i64 n),(4,.o 1 x.1.length),(5,sv (bs x.2.1))]) (fun x=>[Cu.ob x.2.2,.row 183 4 x.1.length (ringD x.1)])
  (fun x=>x.2.2.Ok∧x.1.length≤n∧(x.1=[]→x.2.1=[])∧(x.2.2.e=0→Mfam n [] c0 x.1 x.2.1 x.2.2)∧(x.2.2.e≠0→(Cu.mems n [] c0).2=x.2.2)) (fun x=>n-x.1.length) ([],[],c0)
  ⟨hok0,Nat.zero_le _,fun _=>rfl,fun _=>Fam.start n [] c0,fun h=>Cu.many_stuck (fun k c h=>(trip_mem k).stuck c h) _ _ _ h⟩ rfl rfl (fun _ _=>Nat.le_of_ble_eq_true rfl) (fun _ _=>rfl) (fun _ _=>rfl) ?_
 rintro ⟨out,p,c⟩ ⟨hok,hol,hfp,hf,hbad⟩ J hJ
 simp only at hok hol hfp hf hbad ⊢
 have herr:=cursor_Err c.s c.a c.e
 by_cases hce:c.e=0
 case neg=>
  rw [hbad hce,if_pos hce]
  (have kk1:=uN [0] herr;exact Wd1)
 have hf:=hf hce
 by_cases hlen:out.length<n
 case neg=>
  have hdone:=Fam.done hf hce hlen
  have hb2:Cu.mems n [] c0=(out,c):=hdone
  rw [hb2]
  simp only
  rw [if_neg (by simpa using hce)]
  (have kk1:=uN [0] herr;exact Wd1)
 obtain ⟨hs1,hs2⟩:=mem_step hf hce hlen
 have hgo:=Cu.memg_ok (p:=p) hok
 have hmb:=ring_member c hok p (decide ((out.length:Int)=0)) (fun h=>hfp (List.length_eq_zero_iff.1 (by have:=of_decide_eq_true h;omega)))
 generalize c.memg p=g at *
 obtain ⟨x,c'⟩:=g
 simp only at hs1 hs2 hgo hmb
 have go:∀ T' σ',keepT T' [0,2,3,4,5]=[(0,.p 0 0),(2,.d (.s (.slice none 0 0))),(3,iv .i64 n),(4,.o 1 (out.length+1)),(5,sv (bs x.name))]→σ'.take 2=[Cu.ob c',.row 183 4 (out.length+1) (ringD out++[D.s (.string ⟨x.name.toArray⟩),.s (.int .u64 (x.ep:Nat)),.s (.int .u8 (x.st:Nat)),.l x.toks.length (toksD x.toks)])]→J T' σ':=fun T' σ' g1 g2=>by
  have hl:(out++[x]).length=out.length+1:=by simp
  refine hJ (out++[x],x.name,c') T' σ' (by simp only [hl];omega) ⟨hgo,by simp only [hl];omega,fun h=>by simp at h,hs1,hs2⟩ (by simp only [hl];exact g1) (by simp only [hl];rw [←ring_snoc];exact g2)
 clear hJ hs1 hs2 hf hbad hfp
 have hlk:(out.length:Int)<n:=by omega
 (have kk1:=uN [0] herr;have kk2:=uN [0] hmb;exact Wdg)
def onext(seen:List Vec)(x:Os1):List Vec:=seen++[x.clk]
theorem oss_snoc(l:List Os1)(x:Os1):ossD l++[.l x.clk.length (vecD x.clk),.s (.bool x.dead),.s (.string ⟨x.val.toArray⟩)]=ossD (l++[x]):=by
 simp only [ossD,List.map_append,List.flatten_append,List.map_cons,List.map_nil,List.flatten_cons,List.flatten_nil,List.append_nil];rfl
theorem snoc_len{α:Type}(l:List α)(x:α):(l++[x]).length=l.length+1:=by simp
theorem old_eq{s key:List UInt8}{c1 q1 c2 q2:Cu}{n:Nat}(hb:Cu.blob ⟨s,0,0⟩ 128=(key,c1))(h1:gd (decide (key≠[])) 14 c1=q1)(hn:q1.count 16=(n,c2))(h2:gd (decide (n≠0)) 7 c2=q2) :
  Cu.old ⟨s,0,0⟩=(⟨key,(Cu.olds n [] q2).1⟩,(Cu.olds n [] q2).2):=by
 have e1:Cu.okey ⟨s,0,0⟩=(key,q1):=by unfold Cu.okey;rw [hb,←h1]
 have e2:q1.ocnt=(n,q2):=by unfold Cu.ocnt;rw [hn,←h2]
 unfold Cu.old Cu.old0 rseq
 rw [e1]
 simp only
 unfold Cu.oldl
 rw [e2]
theorem oldw_eq{s key:List UInt8}{c:Cu}{l:List Os1}(h:Cu.old ⟨s,0,0⟩=(⟨key,l⟩,c)):oldw s=(if c.fin.e≠0 then od0 else ⟨key,l⟩,c.fin.e):=by
 unfold oldw
 rw [h]
theorem os1_eq{c c1 c2 c3 q:Cu}{v:Vec}{f:Bool}{t:List UInt8}{seen:List Vec}(h1:c.vec=(v,c1))(h2:c1.flag=(f,c2))(h3:c2.blob 32768=(t,c3))(h4:gd (decide (v ∉ seen)) 6 c3=q):Cu.os1 seen c=(⟨v,f,t⟩,q):=by
 unfold Cu.os1 Cu.os0 rseq
 simp only [h1,h2,h3,h4]
theorem any_clk(l:List Os1)(v:Vec):(l.any fun y=>decide (y.clk=v))=decide (v ∈ l.map Os1.clk):=by
 rw [Bool.eq_iff_iff,List.any_eq_true,decide_eq_true_eq,List.mem_map]
 simp only [decide_eq_true_eq]
theorem legacy_Decode(s:List UInt8)(hs:s.length≤140737488351232):AC Tryz.prog 190 [sv (bs s)] [] fun x σ=>x=.t [odV (oldw s).1,iv .i64 (oldw s).2]∧σ=[]:=by
 have h0:Cu.Ok ⟨s,0,0⟩:=⟨hs,Nat.zero_le _⟩
 refine AC.wk Tryz.func190 ?_
 have hok1:=Cu.blob_ok (max:=128) h0
 cases hb:Cu.blob ⟨s,0,0⟩ 128 with
 | mk key c1=>
 rw [hb] at hok1
 obtain ⟨q1,hq1⟩:∃ q,gd (decide (key≠[])) 14 c1=q:=⟨_,rfl⟩
 have hok2:q1.Ok:=by rw [←hq1];exact gd_ok hok1
 have hok3:=Cu.count_ok (max:=16) hok2
 cases hn:q1.count 16 with
 | mk n c2=>
 rw [hn] at hok3
 have hn':Cu.count ⟨q1.s,q1.a,q1.e⟩ 16=(n,c2):=hn
 have hnl:n≤16:=by have:=Cu.count_max q1 16;rw [hn] at this;exact this
 obtain ⟨q2,hq2⟩:∃ q,gd (decide (n≠0)) 7 c2=q:=⟨_,rfl⟩
 have hok4:q2.Ok:=by rw [←hq2];exact gd_ok hok3
 have hold:=old_eq hb hq1 hn hq2
 have k1:(key=[]∧Cu.fail ⟨c1.s,c1.a,c1.e⟩ 14=q1)∨(key≠[]∧c1=q1):=by
  by_cases hk:key=[]
  ·exact .inl ⟨hk,by rw [←hq1,hk];rfl⟩
  ·exact .inr ⟨hk,by rw [←hq1];unfold gd;rw [if_pos (by simpa using hk)]⟩
 have k2:(n=0∧Cu.fail ⟨c2.s,c2.a,c2.e⟩ 7=q2)∨(n≠0∧c2=q2):=by
  by_cases hk:n=0
  ·exact .inl ⟨hk,by rw [←hq2,hk];rfl⟩
  ·exact .inr ⟨hk,by rw [←hq2];unfold gd;rw [if_pos (by simpa using hk)]⟩
 clear hq1 hq2
 rcases k1 with ⟨hk,h1⟩|⟨hk,h1⟩<;>rcases k2 with ⟨hn0,h2⟩|⟨hn0,h2⟩
 all_goals
  focus (have kxs:=And.intro hb (And.intro h1 (And.intro hn' h2));have kk1:=uN [] (cursor_New s);have kk2:=uN [1] (blob_Take s 0 0 128 h0 (by decide));have kud1:=fun za zb zc zd=>uN [1] (cursor_Fail za zb zc zd);have kk3:=uN [1] (blob_Count q1.s q1.a q1.e 16 hok2 (by decide));(repeat' (first|refine G ?_|refine AW.ret ?_|(refine GC ?_ ?_<;>intro h<;>(try simp only [hsB] at h)<;>try exact xf)|(refine GL ?_ ?_<;>intro h<;>(try simp only [hsN] at h)<;>(try simp only [h])<;>(try simp only [hsB] at h)<;>try exact xf)|fail));all_goals clear kxs kk1 kk2 kud1 kk3)
  all_goals first|(exfalso;exact hk (by assumption))|exact xg|skip
  refine AW.birth 172 3 [] [(2,1)] ?_
  refine AW.rounds [2,3,4,5,6] (fun x:List Os1 × Cu=>[(2,.p 0 0),(3,iv .i64 0),(4,.p 1 0),(5,.p 2 0),(6,iv .i64 n)])
   (fun x=>[.box 29 [sv (bs []),.d (.s (.slice none 0 0))],Cu.ob x.2,.box 29 [sv (bs key),.o 3 x.1.length],.row 172 3 x.1.length (ossD x.1)])
   (fun x=>x.2.Ok∧(∀ y ∈ x.1,y.clk.length≤64)∧Fam Cu.os1 onext n [] q2 x.1 (x.1.map Os1.clk) x.2) (fun x=>n-x.1.length) ([],q2) ⟨hok4,fun y hy=>(List.not_mem_nil hy).elim,Fam.start n [] q2⟩ rfl rfl (fun _ _=>Nat.zero_le _) (fun _ _=>rfl) (fun _ _=>rfl) ?_
  clear h1 h2 hb hn hn' hn0 hk hok1 hok2 hok3 hok4
  rintro ⟨out,c⟩ ⟨hok,h64,hf⟩ J hJ
  simp only at hok h64 hf ⊢
  by_cases hce:c.e=0
  case neg=>
   have hbad:(Cu.olds n [] q2).2=c:=Fam.bad (fun k c h=>(trip_os1 k).stuck c h) hf hce
   rw [hbad] at hold
   rw [oldw_eq hold]
   have hfe:c.fin.e≠0:=by unfold Cu.fin;simp [hce]
   rw [if_pos hfe]
   generalize hfd:c.fin=d at *
   have hfe':Cu.fin ⟨c.s,c.a,c.e⟩=d:=hfd
   focus (have kxs:=hfe';have kk1:=uN [1] (cursor_Err c.s c.a c.e);have kk2:=uN [1] (cursor_End c.s c.a c.e hok);(repeat' (first|refine G ?_|refine AW.ret ?_|(refine GC ?_ ?_<;>intro h<;>(try simp only [hsB] at h)<;>try exact xf)|(refine GL ?_ ?_<;>intro h<;>(try simp only [hsN] at h)<;>(try simp only [h])<;>(try simp only [hsB] at h)<;>try exact xf)|fail));all_goals clear kxs kk1 kk2)
   all_goals first|(((all_goals first|refine RetQ.yr 0 ⟨?_,?_⟩|refine RetQ.yn 0 ⟨?_,?_⟩);(all_goals first|rfl|(simp [od0, *];done)|((simp only [go_sem,↓reduceIte,Nat.reduceLT,od0];(repeat' split))<;>first|rfl|(exfalso;omega)|(simp_all;done)|(simp_all;omega))));done)|(exfalso;simp_all;done)
  by_cases hlen:out.length<n
  case neg=>
   have hdone:Cu.olds n [] q2=(out,c):=Fam.done hf hce hlen
   rw [hdone] at hold
   rw [oldw_eq hold]
   generalize hfd:c.fin=d at *
   have hfe':Cu.fin ⟨c.s,c.a,c.e⟩=d:=hfd
   by_cases hde:d.e=0
   ·rw [if_neg (by simpa using hde),hde]
    focus (have kxs:=hfe';have kk1:=uN [1] (cursor_Err c.s c.a c.e);have kk2:=uN [1] (cursor_End c.s c.a c.e hok);(repeat' (first|refine G ?_|refine AW.ret ?_|(refine GC ?_ ?_<;>intro h<;>(try simp only [hsB] at h)<;>try exact xf)|(refine GL ?_ ?_<;>intro h<;>(try simp only [hsN] at h)<;>(try simp only [h])<;>(try simp only [hsB] at h)<;>try exact xf)|fail));all_goals clear kxs kk1 kk2)
    all_goals first|(((all_goals first|refine RetQ.yr 0 (xs:=[.a [sv (bs key),.o 3 out.length],iv .i64 0]) ⟨?_,?_⟩|refine RetQ.yn 0 (xs:=[.a [sv (bs key),.o 3 out.length],iv .i64 0]) ⟨?_,?_⟩);(all_goals exact fx));done)|(exfalso;simp_all;done)
   ·rw [if_pos hde]
    focus (have kxs:=hfe';have kk1:=uN [1] (cursor_Err c.s c.a c.e);have kk2:=uN [1] (cursor_End c.s c.a c.e hok);(repeat' (first|refine G ?_|refine AW.ret ?_|(refine GC ?_ ?_<;>intro h<;>(try simp only [hsB] at h)<;>try exact xf)|(refine GL ?_ ?_<;>intro h<;>(try simp only [hsN] at h)<;>(try simp only [h])<;>(try simp only [hsB] at h)<;>try exact xf)|fail));all_goals clear kxs kk1 kk2)
    all_goals first|(((all_goals first|refine RetQ.yr 0 ⟨?_,?_⟩|refine RetQ.yn 0 ⟨?_,?_⟩);(all_goals first|rfl|(simp [od0, *];done)|((simp only [go_sem,↓reduceIte,Nat.reduceLT,od0];(repeat' split))<;>first|rfl|(exfalso;omega)|(simp_all;done)|(simp_all;omega))));done)|(exfalso;simp_all;done)
  have hstep:=Fam.step hf hce hlen
  have hv64:=Cu.vec_len c
  have hg1:=Cu.vec_ok hok
  cases hv:c.vec with
  | mk v g1=>
  rw [hv] at hv64 hg1
  have hv':Cu.vec ⟨c.s,c.a,c.e⟩=(v,g1):=hv
  have hg2:=Cu.flag_ok hg1
  cases hw:g1.flag with
  | mk f g2=>
  rw [hw] at hg2
  have hw':Cu.flag ⟨g1.s,g1.a,g1.e⟩=(f,g2):=hw
  have hg3:=Cu.blob_ok (max:=32768) hg2
  cases hx:g2.blob 32768 with
  | mk t g3=>
  rw [hx] at hg3
  have hx':Cu.blob ⟨g2.s,g2.a,g2.e⟩ 32768=(t,g3):=hx
  simp only at hv64 hg1 hg2 hg3
  have h64':∀ y ∈ out++[(⟨v,f,t⟩:Os1)],y.clk.length≤64:=fun y hy=>by
   rcases List.mem_append.1 hy with h|h
   ·exact h64 y h
   ·rw [List.mem_singleton.1 h];exact hv64
  have hnx:onext (out.map Os1.clk) ⟨v,f,t⟩=(out++[(⟨v,f,t⟩:Os1)]).map Os1.clk:=by simp [onext]
  have hsn:=oss_snoc out ⟨v,f,t⟩
  have hln:=snoc_len out (⟨v,f,t⟩:Os1)
  by_cases hm:v ∈ out.map Os1.clk
  ·have hany:(out.any fun y=>decide (y.clk=v))=true:=by rw [any_clk];exact decide_eq_true hm
   rw [os1_eq hv hw hx (q:=g3.fail 6) (by unfold gd;rw [if_neg (by simpa using hm)])] at hstep
   simp only [hnx] at hstep
   focus (have kxs:=And.intro hv' (And.intro hw' (And.intro hx' hany));have kk1:=uN [1] (cursor_Err c.s c.a c.e);have kk2:=uN [1] (vcode_Take c.s c.a c.e hok);have kk3:=uN [1] (blob_Flag g1.s g1.a g1.e hg1);have kk4:=uN [1] (blob_Take g2.s g2.a g2.e 32768 hg2 (by decide));have kk5:=uL (legacy_twice out v (by omega) (fun x hx=>Nat.le_trans (h64 x hx) (by decide)));have kk6:=uN [1] (cursor_Fail g3.s g3.a g3.e 6);(repeat' (first|refine G ?_|refine AW.ret ?_|(refine GC ?_ ?_<;>intro h<;>(try simp only [hsB] at h)<;>try exact xf)|(refine GL ?_ ?_<;>intro h<;>(try simp only [hsN] at h)<;>(try simp only [h])<;>(try simp only [hsB] at h)<;>try exact xf)|fail));all_goals clear kxs kk1 kk2 kk3 kk4 kk5 kk6)
   all_goals first|(refine hJ (out++[⟨v,f,t⟩],g3.fail 6) _ _ (by simp only [hln];omega) ⟨hg3,h64',hstep⟩ rfl ?_;simp only [←hsn,hln];rfl)|(exfalso;simp_all;done)
  ·have hany:(out.any fun y=>decide (y.clk=v))=false:=by rw [any_clk];exact decide_eq_false hm
   rw [os1_eq hv hw hx (q:=g3) (by unfold gd;rw [if_pos (by simpa using hm)])] at hstep
   simp only [hnx] at hstep
   focus (have kxs:=And.intro hv' (And.intro hw' (And.intro hx' hany));have kk1:=uN [1] (cursor_Err c.s c.a c.e);have kk2:=uN [1] (vcode_Take c.s c.a c.e hok);have kk3:=uN [1] (blob_Flag g1.s g1.a g1.e hg1);have kk4:=uN [1] (blob_Take g2.s g2.a g2.e 32768 hg2 (by decide));have kk5:=uL (legacy_twice out v (by omega) (fun x hx=>Nat.le_trans (h64 x hx) (by decide)));(repeat' (first|refine G ?_|refine AW.ret ?_|(refine GC ?_ ?_<;>intro h<;>(try simp only [hsB] at h)<;>try exact xf)|(refine GL ?_ ?_<;>intro h<;>(try simp only [hsN] at h)<;>(try simp only [h])<;>(try simp only [hsB] at h)<;>try exact xf)|fail));all_goals clear kxs kk1 kk2 kk3 kk4 kk5)
   all_goals first|(refine hJ (out++[⟨v,f,t⟩],g3) _ _ (by simp only [hln];omega) ⟨hg3,h64',hstep⟩ rfl ?_;simp only [←hsn,hln];rfl)|(exfalso;simp_all;done)
theorem object_Decode(s:List UInt8)(hs:s.length≤140737488351232):AC Tryz.prog 198 [sv (bs s)] [] fun x σ=>x=.t [ojV (objw s).1,iv .i64 (objw s).2]∧σ=[]:=by
 have h0:Cu.Ok ⟨s,0,0⟩:=⟨hs,Nat.zero_le _⟩
 have hq:=Cu.obj_ok h0
 refine AC.wk Tryz.func198 ?_
 unfold objw rdw
 generalize hp:Cu.obj ⟨s,0,0⟩=z at *
 obtain ⟨v,c⟩:=z
 have hfe:Cu.fin ⟨c.s,c.a,c.e⟩=c.fin:=rfl
 simp only
 generalize hc:c.fin=d at *
 by_cases he:d.e=0
 ·rw [if_neg (by simpa using he),he]
  (have kxs:=And.intro hp (And.intro hc hfe);have kk1:=uN [] (cursor_New s);have kk2:=uN [1] (object_Take ⟨s,0,0⟩ h0);have kk3:=uN [1] (cursor_End c.s c.a c.e hq);exact Wd0)
 ·rw [if_pos he]
  focus (have kxs:=And.intro hp (And.intro hc hfe);have kk1:=uN [] (cursor_New s);have kk2:=uN [1] (object_Take ⟨s,0,0⟩ h0);have kk3:=uN [1] (cursor_End c.s c.a c.e hq);(repeat' (first|refine G ?_|refine AW.ret ?_|(refine GC ?_ ?_<;>intro h<;>(try simp only [hsB] at h)<;>try exact xf)|(refine GL ?_ ?_<;>intro h<;>(try simp only [hsN] at h)<;>(try simp only [h])<;>(try simp only [hsB] at h)<;>try exact xf)|fail));all_goals clear kxs kk1 kk2 kk3)
  all_goals first|(((all_goals first|refine RetQ.yr 0 ⟨?_,?_⟩|refine RetQ.yn 0 ⟨?_,?_⟩);(all_goals first|rfl|(simp [oj0, *];done)|((simp only [go_sem,↓reduceIte,Nat.reduceLT,oj0];(repeat' split))<;>first|rfl|(exfalso;omega)|(simp_all;done)|(simp_all;omega))));done)|(exfalso;simp_all;done)
end Go.AW
