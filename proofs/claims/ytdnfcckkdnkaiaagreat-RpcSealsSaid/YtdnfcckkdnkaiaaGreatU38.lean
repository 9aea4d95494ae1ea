/-
  rings that are read: the document's; whole texts.
-/
import Derived.Test.YtdnfcckkdnkaiaaGreatU19
import Derived.Test.YtdnfcckkdnkaiaaGreatU25
import Derived.Test.YtdnfcckkdnkaiaaGreatU37
set_option linter.unusedVariables false
set_option linter.unusedSimpArgs false
set_option maxHeartbeats 4000000
set_option maxRecDepth 10000
namespace Go.AW
open Go Go.Proofs
attribute [local irreducible] thenQ blockQ RetQ AL AW AC AOp
theorem lastn_nil:Lastn [] []:=⟨by decide,fun h=>absurd h (by decide)⟩
theorem lastn_snoc(out:Ring)(x:Mb)(h:x.name.length≤32):Lastn (out++[x]) x.name:=by
 refine ⟨h,fun _=>?_⟩
 have hd:(out++[x]).drop out.length=x::[]:=by simp
 have hc:=ring_drop hd
 rw [show (out++[x]).length-1=out.length by simp,←List.drop_drop,hc]
 rfl
theorem memg_name(p:List UInt8)(c:Cu)(h:(c.memg p).2.e=0):(c.memg p).1.name.length≤32:=by
 obtain ⟨h1,h2⟩:=memg_mem p c
 rw [h1] at h
 rw [h2 h]
 exact ((trip_mem p).back c h).1.1.1
theorem ref22_Take(s:List UInt8)(a:Nat)(e:Int)(h:Cu.Ok ⟨s,a,e⟩):AC Tryz.prog 43 [.p 0 0] [Cu.ro ⟨s,a,e⟩] fun x σ=>x=.d (.l (Cu.ring ⟨s,a,e⟩).1.length (ringD (Cu.ring ⟨s,a,e⟩).1))∧σ=[Cu.ro (Cu.ring ⟨s,a,e⟩).2]:=by
 refine AC.wk Tryz.func43 ?_
 have hlt:(Cu.count ⟨s,a,e⟩ 32).1≤32:=Cu.count_max ⟨s,a,e⟩ 32
 have hok0:=Cu.count_ok (max:=32) h
 have hvec:Cu.ring ⟨s,a,e⟩=(if ((Cu.count ⟨s,a,e⟩ 32).2.mems (Cu.count ⟨s,a,e⟩ 32).1 []).2.e≠0 then [] else ((Cu.count ⟨s,a,e⟩ 32).2.mems (Cu.count ⟨s,a,e⟩ 32).1 []).1,((Cu.count ⟨s,a,e⟩ 32).2.mems (Cu.count ⟨s,a,e⟩ 32).1 []).2):=rfl
 rw [hvec]
 generalize hz:Cu.count ⟨s,a,e⟩ 32=z at *
 obtain ⟨n,c0⟩:=z
 simp only at hlt hok0 ⊢
 clear hvec
 focus (have kxs:=hz;have kk1:=uN [0] (ref06_Count s a e 32 h (by decide));(repeat' (first|refine G ?_|refine AW.ret ?_|(refine GC ?_ ?_<;>intro h<;>(try simp only [hsB] at h)<;>try exact xf)|(refine GL ?_ ?_<;>intro h<;>(try simp only [hsN] at h)<;>(try simp only [h])<;>(try simp only [hsB] at h)<;>try exact xf)|fail));all_goals clear kxs kk1)
 refine AW.birth 183 4 [4] [] ?_
 refine AW.rounds [0,2,3,4,5] (fun x:Ring × List UInt8 × Cu=>[(0,.p 0 0),(2,.d (.s (.slice none 0 0))),(3,iv .i64 n),(4,.o 1 x.1.length),(5,iv .i64 x.1.length)]) (fun x=>[Cu.ro x.2.2,.row 183 4 x.1.length (ringD x.1)])
  (fun x=>x.2.2.Ok∧x.1.length≤n∧(x.1=[]→x.2.1=[])∧(x.2.2.e=0→Mfam n [] c0 x.1 x.2.1 x.2.2∧Lastn x.1 x.2.1)∧(x.2.2.e≠0→(Cu.mems n [] c0).2=x.2.2)) (fun x=>n-x.1.length) ([],[],c0)
  ⟨hok0,Nat.zero_le _,fun _=>rfl,fun _=>⟨Fam.start n [] c0,lastn_nil⟩,fun h=>Cu.many_stuck (fun k c h=>(trip_mem k).stuck c h) _ _ _ h⟩ rfl rfl (fun _ _=>Nat.le_of_ble_eq_true rfl) (fun _ _=>rfl) (fun _ _=>rfl) ?_
 rintro ⟨out,p,c⟩ ⟨hok,hol,hfp,hf,hbad⟩ J hJ
 simp only at hok hol hfp hf hbad ⊢
 by_cases hce:c.e=0
 case neg=>
  rw [hbad hce,if_pos hce]
  exact Wd1
 obtain ⟨hf,hla⟩:=hf hce
 by_cases hlen:out.length<n
 case neg=>
  have hdone:=Fam.done hf hce hlen
  have hb2:Cu.mems n [] c0=(out,c):=hdone
  rw [hb2]
  simp only
  rw [if_neg (by simpa using hce)]
  exact Wd1
 obtain ⟨hs1,hs2⟩:=mem_step hf hce hlen
 have hgo:=Cu.memg_ok (p:=p) hok
 have hmb:=ref22_one c hok out (by omega) p hla.1 hfp hla.2
 have hnl:(c.memg p).2.e=0→(c.memg p).1.name.length≤32:=memg_name p c
 generalize c.memg p=g at *
 obtain ⟨x,c'⟩:=g
 simp only at hs1 hs2 hgo hmb hnl
 have go:∀ T' σ',keepT T' [0,2,3,4,5]=[(0,.p 0 0),(2,.d (.s (.slice none 0 0))),(3,iv .i64 n),(4,.o 1 (out.length+1)),(5,iv .i64 ((out.length:Int)+1))]→σ'.take 2=[Cu.ro c',.row 183 4 (out.length+1) (ringD out++[D.s (.string ⟨x.name.toArray⟩),.s (.int .u64 (x.ep:Nat)),.s (.int .u8 (x.st:Nat)),.l x.toks.length (toksD x.toks)])]→J T' σ':=fun T' σ' g1 g2=>by
  have hl:(out++[x]).length=out.length+1:=by simp
  refine hJ (out++[x],x.name,c') T' σ' (by simp only [hl];omega) ⟨hgo,by simp only [hl];omega,fun h=>by simp at h,fun h=>⟨hs1 h,lastn_snoc out x (hnl h)⟩,hs2⟩ (by simp only [hl];exact g1) (by simp only [hl];rw [←ring_snoc];exact g2)
 clear hJ hs1 hs2 hf hbad hfp hla hnl
 have hlk:(out.length:Int)<n:=by omega
 (have kk1:=uN [0,1] hmb;exact Wdg)
theorem gd_more{g q:Cu}{S:List Vec}{v y:Vec}(hq:q=gd (decide (v ∉ S)) 6 g) :
  (q.e≠0→q=gd (decide (v ∉ S++[y])) 6 g)∧(y≠v→q=gd (decide (v ∉ S++[y])) 6 g)∧(q.e=0→y=v→Cu.mk q.s q.a 6=gd (decide (v ∉ S++[y])) 6 g):=by
 by_cases hm:v ∈ S
 ·have h1:gd (decide (v ∉ S)) 6 g=g.fail 6:=by unfold gd;rw [if_neg (by simpa using hm)]
  have h2:gd (decide (v ∉ S++[y])) 6 g=g.fail 6:=by unfold gd;rw [if_neg (by simp [hm])]
  rw [h1] at hq
  rw [h2]
  exact ⟨fun _=>hq,fun _=>hq,fun h=>absurd h (by rw [hq];exact Cu.fail_e (by decide))⟩
 ·have h1:gd (decide (v ∉ S)) 6 g=g:=by unfold gd;rw [if_pos (by simpa using hm)]
  rw [h1] at hq
  subst hq
  refine ⟨fun h=>(gd_stuck h _ _).symm,fun h=>?_,fun h hy=>?_⟩
  ·unfold gd;rw [if_pos (by simp [hm];exact fun e=>h e.symm)]
  ·unfold gd;rw [if_neg (by simp [hy]),Cu.fail_ok0 h]
theorem ref17_Decode(s:List UInt8)(hs:s.length≤140737488351232):AC Tryz.prog 38 [sv (bs s)] [] fun x σ=>x=.t [odV (oldw s).1,iv .i64 (oldw s).2]∧σ=[]:=by
 have h0:Cu.Ok ⟨s,0,0⟩:=⟨hs,Nat.zero_le _⟩
 refine AC.wk Tryz.func38 ?_
 have hok1:=Cu.blob_ok (max:=128) h0
 cases hb:Cu.blob ⟨s,0,0⟩ 128 with
 | mk key c1=>
 rw [hb] at hok1
 obtain ⟨q1,hq1⟩:∃ q,gd (decide (key≠[])) 14 c1=q:=⟨_,rfl⟩
 have hok2:q1.Ok:=by rw [←hq1];exact gd_ok hok1
 have hok3:=Cu.count_ok (max:=16) hok2
 cases hn:q1.count 16 with
 | mk n c2=>
 rw [hn] at hok3
 have hn':Cu.count ⟨q1.s,q1.a,q1.e⟩ 16=(n,c2):=hn
 have hnl:n≤16:=by have:=Cu.count_max q1 16;rw [hn] at this;exact this
 obtain ⟨q2,hq2⟩:∃ q,gd (decide (n≠0)) 7 c2=q:=⟨_,rfl⟩
 have hok4:q2.Ok:=by rw [←hq2];exact gd_ok hok3
 have hold:=old_eq hb hq1 hn hq2
 have hke:key=[]↔key.length=0:=List.length_eq_zero_iff.symm
 have k1:(key.length=0∧c1.e=0∧Cu.mk c1.s c1.a 14=q1)∨(¬ (key.length=0∧c1.e=0)∧c1=q1):=by
  by_cases hc:c1.e=0
  ·by_cases hk:key=[]
   ·exact .inl ⟨hke.1 hk,hc,by rw [←hq1,hk,←Cu.fail_ok0 hc];rfl⟩
   ·exact .inr ⟨fun h=>hk (hke.2 h.1),by rw [←hq1];unfold gd;rw [if_pos (by simpa using hk)]⟩
  ·exact .inr ⟨fun h=>hc h.2,by rw [←hq1,gd_stuck hc]⟩
 have k2:(n=0∧c2.e=0∧Cu.mk c2.s c2.a 7=q2)∨(¬ (n=0∧c2.e=0)∧c2=q2):=by
  by_cases hc:c2.e=0
  ·by_cases hk:n=0
   ·exact .inl ⟨hk,hc,by rw [←hq2,hk,←Cu.fail_ok0 hc];rfl⟩
   ·exact .inr ⟨fun h=>hk h.1,by rw [←hq2];unfold gd;rw [if_pos (by simpa using hk)]⟩
  ·exact .inr ⟨fun h=>hc h.2,by rw [←hq2,gd_stuck hc]⟩
 clear hq1 hq2 hke
 rcases k1 with ⟨hk,hc1,h1⟩|⟨hk,h1⟩<;>rcases k2 with ⟨hn0,hc2,h2⟩|⟨hn0,h2⟩<;>subst h1<;>(try simp only at hn')
 all_goals
  focus (have kxs:=And.intro hb hn';have kk1:=uN [1] (ref06_Take s 0 0 128 h0 (by decide));have kk2:=uN [1] (ref06_Count _ _ _ 16 hok2 (by decide));(repeat' (first|(refine ADr.nil ?_;try clear hgv)|refine GO ?_|refine AW.ret ?_|(refine GC ?_ ?_<;>intro h<;>(try simp only [hsB] at h)<;>try exact xf)|(refine GD ?_ ?_<;>intro h<;>(try intro hgv)<;>(try simp only [hsN] at h)<;>(try simp only [h])<;>(try simp only [hsB] at h)<;>try exact xf)|(refine GL ?_ ?_<;>intro h<;>(try simp only [hsN] at h)<;>(try simp only [h])<;>(try simp only [hsB] at h)<;>try exact xf)|fail));all_goals clear kxs kk1 kk2)
  all_goals first|exact xg|skip
  all_goals
   refine AW.birth 172 3 [] [(2,1)] ?_
   refine AW.rounds [2,3,4,5,6,7] (fun x:List Os1 × Cu=>[(2,.p 0 0),(3,iv .i64 0),(4,.p 1 0),(5,.p 2 0),(6,iv .i64 n),(7,iv .i64 x.1.length)])
    (fun x=>[.box 29 [sv (bs []),.d (.s (.slice none 0 0))],Cu.ro x.2,.box 29 [sv (bs key),.o 3 x.1.length],.row 172 3 x.1.length (ossD x.1)])
    (fun x=>x.2.Ok∧(∀ y ∈ x.1,y.clk.length≤64)∧Fam Cu.os1 onext n [] q2 x.1 (x.1.map Os1.clk) x.2) (fun x=>n-x.1.length) ([],q2) ⟨hok4,fun y hy=>(List.not_mem_nil hy).elim,Fam.start n [] q2⟩ rfl (by subst h2;rfl) (fun _ _=>Nat.zero_le _) (fun _ _=>rfl) (fun _ _=>rfl) ?_
   clear h2 hb hn hn' hn0 hk hok1 hok2 hok3 hok4
   rintro ⟨out,c⟩ ⟨hok,h64,hf⟩ J hJ
   simp only at hok h64 hf ⊢
   by_cases hce:c.e=0
   case neg=>
    have hbad:(Cu.olds n [] q2).2=c:=Fam.bad (fun k c h=>(trip_os1 k).stuck c h) hf hce
    rw [hbad] at hold
    rw [oldw_eq hold]
    have hfe:c.fin.e≠0:=by unfold Cu.fin;simp [hce]
    rw [if_pos hfe]
    generalize hfd:c.fin=d at *
    have hfe':Cu.fin ⟨c.s,c.a,c.e⟩=d:=hfd
    focus (have kxs:=hfe';have kk1:=uN [1] (ref01_End c.s c.a c.e hok);(repeat' (first|(refine ADr.nil ?_;try clear hgv)|refine GO ?_|refine AW.ret ?_|(refine GC ?_ ?_<;>intro h<;>(try simp only [hsB] at h)<;>try exact xf)|(refine GD ?_ ?_<;>intro h<;>(try intro hgv)<;>(try simp only [hsN] at h)<;>(try simp only [h])<;>(try simp only [hsB] at h)<;>try exact xf)|(refine GL ?_ ?_<;>intro h<;>(try simp only [hsN] at h)<;>(try simp only [h])<;>(try simp only [hsB] at h)<;>try exact xf)|fail));all_goals clear kxs kk1)
    all_goals first|(((all_goals first|refine RetQ.yr 0 ⟨?_,?_⟩|refine RetQ.yn 0 ⟨?_,?_⟩);(all_goals first|rfl|(simp [od0, *];done)|((simp only [go_sem,↓reduceIte,Nat.reduceLT,od0];(repeat' split))<;>first|rfl|(exfalso;omega)|(simp_all;done)|(simp_all;omega))));done)|(exfalso;simp_all;done)
   by_cases hlen:out.length<n
   case neg=>
    have hdone:Cu.olds n [] q2=(out,c):=Fam.done hf hce hlen
    rw [hdone] at hold
    rw [oldw_eq hold]
    generalize hfd:c.fin=d at *
    have hfe':Cu.fin ⟨c.s,c.a,c.e⟩=d:=hfd
    by_cases hde:d.e=0
    ·rw [if_neg (by simpa using hde),hde]
     focus (have kxs:=hfe';have kk1:=uN [1] (ref01_End c.s c.a c.e hok);(repeat' (first|(refine ADr.nil ?_;try clear hgv)|refine GO ?_|refine AW.ret ?_|(refine GC ?_ ?_<;>intro h<;>(try simp only [hsB] at h)<;>try exact xf)|(refine GD ?_ ?_<;>intro h<;>(try intro hgv)<;>(try simp only [hsN] at h)<;>(try simp only [h])<;>(try simp only [hsB] at h)<;>try exact xf)|(refine GL ?_ ?_<;>intro h<;>(try simp only [hsN] at h)<;>(try simp only [h])<;>(try simp only [hsB] at h)<;>try exact xf)|fail));all_goals clear kxs kk1)
     all_goals first|(((all_goals first|refine RetQ.yr 0 (xs:=[.a [sv (bs key),.o 3 out.length],iv .i64 0]) ⟨?_,?_⟩|refine RetQ.yn 0 (xs:=[.a [sv (bs key),.o 3 out.length],iv .i64 0]) ⟨?_,?_⟩);(all_goals exact fx));done)|(exfalso;simp_all;done)
    ·rw [if_pos hde]
     focus (have kxs:=hfe';have kk1:=uN [1] (ref01_End c.s c.a c.e hok);(repeat' (first|(refine ADr.nil ?_;try clear hgv)|refine GO ?_|refine AW.ret ?_|(refine GC ?_ ?_<;>intro h<;>(try simp only [hsB] at h)<;>try exact xf)|(refine GD ?_ ?_<;>intro h<;>(try intro hgv)<;>(try simp only [hsN] at h)<;>(try simp only [h])<;>(try simp only [hsB] at h)<;>try exact xf)|(refine GL ?_ ?_<;>intro h<;>(try simp only [hsN] at h)<;>(try simp only [h])<;>(try simp only [hsB] at h)<;>try exact xf)|fail));all_goals clear kxs kk1)
     all_goals first|(((all_goals first|refine RetQ.yr 0 ⟨?_,?_⟩|refine RetQ.yn 0 ⟨?_,?_⟩);(all_goals first|rfl|(simp [od0, *];done)|((simp only [go_sem,↓reduceIte,Nat.reduceLT,od0];(repeat' split))<;>first|rfl|(exfalso;omega)|(simp_all;done)|(simp_all;omega))));done)|(exfalso;simp_all;done)
   have hstep:=Fam.step hf hce hlen
   have hv64:=Cu.vec_len c
   have hg1:=Cu.vec_ok hok
   cases hv:c.vec with
   | mk v g1=>
   rw [hv] at hv64 hg1
   have hv':Cu.vec ⟨c.s,c.a,c.e⟩=(v,g1):=hv
   have hg2:=Cu.flag_ok hg1
   cases hw:g1.flag with
   | mk f g2=>
   rw [hw] at hg2
   have hw':Cu.flag ⟨g1.s,g1.a,g1.e⟩=(f,g2):=hw
   have hg3:=Cu.blob_ok (max:=32768) hg2
   cases hx:g2.blob 32768 with
   | mk t g3=>
   rw [hx] at hg3
   have hx':Cu.blob ⟨g2.s,g2.a,g2.e⟩ 32768=(t,g3):=hx
   simp only at hv64 hg1 hg2 hg3
   have h64':∀ y ∈ out++[(⟨v,f,t⟩:Os1)],y.clk.length≤64:=fun y hy=>by
    rcases List.mem_append.1 hy with h|h
    ·exact h64 y h
    ·rw [List.mem_singleton.1 h];exact hv64
   have hnx:onext (out.map Os1.clk) ⟨v,f,t⟩=(out++[(⟨v,f,t⟩:Os1)]).map Os1.clk:=by simp [onext]
   have hsn:=oss_snoc out ⟨v,f,t⟩
   have hln:=snoc_len out (⟨v,f,t⟩:Os1)
   rw [os1_eq hv hw hx rfl] at hstep
   simp only [hnx] at hstep
   focus (have kxs:=And.intro hv' (And.intro hw' hx');have kk1:=uN [1] (ref11_Take c.s c.a c.e hok);have kk2:=uN [1] (ref06_Flag g1.s g1.a g1.e hg1);have kk3:=uN [1] (ref06_Take g2.s g2.a g2.e 32768 hg2 (by decide));(repeat' (first|(refine ADr.nil ?_;try clear hgv)|refine GO ?_|refine AW.ret ?_|(refine GC ?_ ?_<;>intro h<;>(try simp only [hsB] at h)<;>try exact xf)|(refine GD ?_ ?_<;>intro h<;>(try intro hgv)<;>(try simp only [hsN] at h)<;>(try simp only [h])<;>(try simp only [hsB] at h)<;>try exact xf)|(refine GL ?_ ?_<;>intro h<;>(try simp only [hsN] at h)<;>(try simp only [h])<;>(try simp only [hsB] at h)<;>try exact xf)|fail));all_goals clear kxs kk1 kk2 kk3)
   all_goals first|exact xg|skip
   all_goals
    refine AW.rounds [2,3,4,5,6,7,8,9] (fun x:Nat × Cu=>[(2,.p 0 0),(3,iv .i64 0),(4,.p 1 0),(5,.p 2 0),(6,iv .i64 n),(7,iv .i64 out.length),(8,.p 4 0),(9,iv .i64 x.1)])
     (fun x=>[.box 29 [sv (bs []),.d (.s (.slice none 0 0))],Cu.ro x.2,.box 29 [sv (bs key),.o 3 out.length],.row 172 3 out.length (ossD out),.box 172 [.d (.l v.length (vecD v)),bv f,sv (bs t)]])
     (fun x=>x.1≤out.length∧x.2=gd (decide (v ∉ (out.take x.1).map Os1.clk)) 6 g3) (fun x=>out.length-x.1) (0,g3) ⟨Nat.zero_le _,by simp [gd]⟩ rfl rfl (fun _ _=>Nat.zero_le _) (fun _ _=>rfl) (fun _ _=>rfl) ?_
    rintro ⟨k,q⟩ ⟨hk,hq⟩ J' hJ'
    simp only at hk hq ⊢
    by_cases hkl:k<out.length
    case neg=>
     have hk2:k=out.length:=by omega
     rw [hk2,List.take_length] at hq
     rw [←hq] at hstep
     have hqok:q.Ok:=by rw [hq];exact gd_ok hg3
     focus ((repeat' (first|(refine ADr.nil ?_;try clear hgv)|refine GO ?_|refine AW.ret ?_|(refine GC ?_ ?_<;>intro h<;>(try simp only [hsB] at h)<;>try exact xf)|(refine GD ?_ ?_<;>intro h<;>(try intro hgv)<;>(try simp only [hsN] at h)<;>(try simp only [h])<;>(try simp only [hsB] at h)<;>try exact xf)|(refine GL ?_ ?_<;>intro h<;>(try simp only [hsN] at h)<;>(try simp only [h])<;>(try simp only [hsB] at h)<;>try exact xf)|fail)))
     all_goals first|(refine hJ (out++[⟨v,f,t⟩],q) _ _ (by simp only [hln];omega) ⟨hqok,h64',hstep⟩ (by simp only [hln];rfl) ?_;simp only [←hsn,hln];rfl)|exact xg
    obtain ⟨y,r',hd'⟩:=next_at hkl
    have hcd':=oss_drop hd'
    have hfy:=h64 y (next_mem hd')
    obtain ⟨m1,m2,m3⟩:=gd_more (y:=y.clk) hq
    have htk:(out.take (k+1)).map Os1.clk=(out.take k).map Os1.clk++[y.clk]:=by rw [next_take hd',List.map_append];rfl
    rw [←htk] at m1 m2 m3
    clear hJ hstep hf
    by_cases hqe:q.e=0
    case neg=>
     focus (have kxs:=hcd';(repeat' (first|(refine ADr.nil ?_;try clear hgv)|refine GO ?_|refine AW.ret ?_|(refine GC ?_ ?_<;>intro h<;>(try simp only [hsB] at h)<;>try exact xf)|(refine GD ?_ ?_<;>intro h<;>(try intro hgv)<;>(try simp only [hsN] at h)<;>(try simp only [h])<;>(try simp only [hsB] at h)<;>try exact xf)|(refine GL ?_ ?_<;>intro h<;>(try simp only [hsN] at h)<;>(try simp only [h])<;>(try simp only [hsB] at h)<;>try exact xf)|fail));all_goals clear kxs)
     all_goals first|(exact hJ' (k+1,q) _ _ (by simp only;omega) ⟨hkl,m1 hqe⟩ rfl rfl)|exact xg
    by_cases hyv:y.clk=v
    ·have hyd:decide (y.clk=v)=true:=decide_eq_true hyv
     focus (have kxs:=And.intro hcd' hyd;have kk1:=uN [] (ref10_Same y.clk v (Nat.le_trans hfy (by decide)));(repeat' (first|(refine ADr.nil ?_;try clear hgv)|refine GO ?_|refine AW.ret ?_|(refine GC ?_ ?_<;>intro h<;>(try simp only [hsB] at h)<;>try exact xf)|(refine GD ?_ ?_<;>intro h<;>(try intro hgv)<;>(try simp only [hsN] at h)<;>(try simp only [h])<;>(try simp only [hsB] at h)<;>try exact xf)|(refine GL ?_ ?_<;>intro h<;>(try simp only [hsN] at h)<;>(try simp only [h])<;>(try simp only [hsB] at h)<;>try exact xf)|fail));all_goals clear kxs kk1)
     all_goals first|(exact hJ' (k+1,⟨q.s,q.a,6⟩) _ _ (by simp only;omega) ⟨hkl,m3 hqe hyv⟩ rfl rfl)|exact xg
    ·have hyd:decide (y.clk=v)=false:=decide_eq_false hyv
     focus (have kxs:=And.intro hcd' hyd;have kk1:=uN [] (ref10_Same y.clk v (Nat.le_trans hfy (by decide)));(repeat' (first|(refine ADr.nil ?_;try clear hgv)|refine GO ?_|refine AW.ret ?_|(refine GC ?_ ?_<;>intro h<;>(try simp only [hsB] at h)<;>try exact xf)|(refine GD ?_ ?_<;>intro h<;>(try intro hgv)<;>(try simp only [hsN] at h)<;>(try simp only [h])<;>(try simp only [hsB] at h)<;>try exact xf)|(refine GL ?_ ?_<;>intro h<;>(try simp only [hsN] at h)<;>(try simp only [h])<;>(try simp only [hsB] at h)<;>try exact xf)|fail));all_goals clear kxs kk1)
     all_goals first|(exact hJ' (k+1,q) _ _ (by simp only;omega) ⟨hkl,m2 hyv⟩ rfl rfl)|exact xg
end Go.AW
