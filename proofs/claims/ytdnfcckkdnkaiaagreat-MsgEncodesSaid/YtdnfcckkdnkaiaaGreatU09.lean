/-
  clocks that are written, whole texts: the program's and the document's.
-/
import Derived.Test.YtdnfcckkdnkaiaaGreatU08
set_option linter.unusedVariables false
set_option linter.unusedSimpArgs false
set_option maxHeartbeats 4000000
set_option maxRecDepth 10000
namespace Go.AW
open Go Go.Proofs
attribute [local irreducible] thenQ blockQ RetQ AL AW AC AOp
def ckD(k:Ck):List D:=[.l k.ctx.length (vecD k.ctx),.s (.bool k.dotted),.s (.string ⟨k.dot.1.toArray⟩),.s (.int .u64 k.dot.2)]
abbrev cksD(l:List Ck):List D:=(l.map ckD).flatten
theorem cks_drop{l r:List Ck}{k:Ck}{i:Nat}(h:l.drop i=k::r):(cksD l).drop (i*4)=.l k.ctx.length (vecD k.ctx)::.s (.bool k.dotted)::.s (.string ⟨k.dot.1.toArray⟩)::.s (.int .u64 k.dot.2)::cksD r:=by
 rw [cksD,flat_drop (f:=ckD) (sz:=4) (fun _=>rfl),h];rfl
theorem Pe.clks_snoc(p:Pe)(l:List Ck)(v:Ck):p.clks (l++[v])=(p.clks l).clk v:=by simp [Pe.clks,List.foldl_append]
theorem Pe.clks_append(p:Pe)(l r:List Ck):p.clks (l++r)=(p.clks l).clks r:=List.foldl_append ..
section
variable (b : List UInt8) (m e : Int)
theorem dcode_Put(ok:Pe.Ok ⟨b,m,e⟩)(l:List Ck)(hf:∀ k ∈ l,k.fits)(hn:l.length≤140737488355328)(hl:m≤140737488355328∨b.length+(l.map eclk).flatten.length+40≤140737488355328) :
  AC Tryz.prog 278 [.p 0 0,.d (.l l.length (cksD l))] (Pe.obs ⟨b,m,e⟩) fun x σ=>x=.t []∧σ=Pe.obs (Pe.clks ⟨b,m,e⟩ l):=by
 refine AC.wk Tryz.func278 ?_
 focus ((repeat' (first|refine G ?_|refine AW.ret ?_|(refine GC ?_ ?_<;>intro h<;>(try simp only [hsB] at h)<;>try exact xf)|(refine GL ?_ ?_<;>intro h<;>(try simp only [hsN] at h)<;>(try simp only [h])<;>(try simp only [hsB] at h)<;>try exact xf)|fail)))
 refine AW.rounds [0,7,8,9] (fun i:Nat=>[(0,.p 0 0),(7,.d (.l l.length (cksD l))),(8,iv .i64 l.length),(9,iv .i64 i)]) (fun i=>Pe.obs (Pe.clks ⟨b,m,e⟩ (l.take i)))
  (fun i=>i≤l.length) (fun i=>l.length-i) 0 (Nat.zero_le _) rfl rfl (fun _ _=>Nat.le_of_ble_eq_true rfl) (fun _ _=>rfl) (fun _ _=>rfl) ?_
 intro i hi J hJ
 generalize hq:Pe.clks ⟨b,m,e⟩ (l.take i)=q
 have hqo:q.Ok∧q.m=m∧q.b.length≤b.length+((l.take i).map eclk).flatten.length:=by
  have h1:=take_flat eclk l i
  rw [←hq]
  exact ⟨pens_clks.keep ok (by simp only;omega),pens_clks.m _ _,pens_clks.len _ _⟩
 obtain ⟨hok,hqm,hqb⟩:=hqo
 by_cases hil:i<l.length
 case neg=>
  have hi2:i=l.length:=by omega
  rw [hi2,List.take_length] at hq
  subst hq
  focus ((repeat' (first|refine G ?_|refine AW.ret ?_|(refine GC ?_ ?_<;>intro h<;>(try simp only [hsB] at h)<;>try exact xf)|(refine GL ?_ ?_<;>intro h<;>(try simp only [hsN] at h)<;>(try simp only [h])<;>(try simp only [hsB] at h)<;>try exact xf)|fail)))
  (all_goals first|exact RetQ.fr 2|exact RetQ.fn 2|fail)
 obtain ⟨k,r,hd⟩:=next_at hil
 have hcd:=cks_drop hd
 have hn2:Pe.clks ⟨b,m,e⟩ (l.take (i+1))=q.clk k:=by rw [next_take hd,Pe.clks_snoc,hq]
 have hfk:=hf k (next_mem hd)
 have htf:=take_flat eclk l i
 rw [hd] at htf
 simp only [List.map_cons,List.flatten_cons,List.length_append] at htf
 by_cases hc:k.check=0
 case neg=>
  have hv:q.clk k=q.fail k.check:=by unfold Pe.clk;rw [if_pos hc]
  have hall:Pe.clks ⟨b,m,e⟩ l=q.fail k.check:=by
   conv=>lhs;rw [←List.take_append_drop (i+1) l]
   rw [Pe.clks_append,hn2,hv]
   exact pens_clks.stuck _ _ (Pe.fail_e hc)
  rw [hall]
  (have kxs:=hcd;have kk1:=uN [] (dotted_Check k hfk);have kud1:=fun za zb zc zd=>uN [0,1] (pen_Fail za zb zc zd);exact Wd2)
 obtain ⟨hcv,hct⟩:=Ck.check_parts hc
 have hel:(eclk k).length=(evec k.ctx).length+1+(if k.dotted=true then (eent k.dot).length else 0):=by
  unfold eclk eflag
  cases k.dotted<;>simp<;>omega
 have hclk:q.clk k=((q.vec k.ctx).flag k.dotted).dotq k:=by unfold Pe.clk;rw [if_neg (by simpa using hc)]
 have hvo:=pens_vec.keep (p:=q) (x:=k.ctx) hok (by omega)
 have hvm:=pens_vec.m q k.ctx
 have hvl:=pens_vec.len q k.ctx
 generalize hv0:q.vec k.ctx=p1 at *
 have hv':Pe.vec ⟨q.b,q.m,q.e⟩ k.ctx=p1:=hv0
 have hfo:=pens_flag.keep (p:=p1) (x:=k.dotted) hvo (by simp only [eflag,List.length_cons,List.length_nil];omega)
 have hfm:=pens_flag.m p1 k.dotted
 have hfl:=pens_flag.len p1 k.dotted
 have hf1:(eflag k.dotted).length=1:=rfl
 generalize hf0:p1.flag k.dotted=p2 at *
 have hf':Pe.flag ⟨p1.b,p1.m,p1.e⟩ k.dotted=p2:=hf0
 obtain ⟨v,f,t,n⟩:=k
 simp only at *
 cases f with
 | false=>
  have hz:p2.dotq ⟨v,false,(t,n)⟩=p2:=rfl
  rw [hz] at hclk
  focus (have kxs:=And.intro hcd (And.intro hc (And.intro hv' hf'));have kk1:=uN [] (dotted_Check ⟨v,false,(t,n)⟩ hfk);have kk2:=uN [0,1] (vcode_Put1 q.b q.m q.e hok v hfk.1 (by omega));have kk3:=uN [0,1] (blob_PutFlag p1.b p1.m p1.e hvo false (by omega));(repeat' (first|refine G ?_|refine AW.ret ?_|(refine GC ?_ ?_<;>intro h<;>(try simp only [hsB] at h)<;>try exact xf)|(refine GL ?_ ?_<;>intro h<;>(try simp only [hsN] at h)<;>(try simp only [h])<;>(try simp only [hsB] at h)<;>try exact xf)|fail));all_goals clear kxs kk1 kk2 kk3)
  all_goals first|(refine hJ (i+1) _ _ (by omega) hil rfl ?_;rw [hn2,hclk];rfl)|(exfalso;simp_all;done)
 | true=>
  have hz:p2.dotq ⟨v,true,(t,n)⟩=(p2.blob 32 t).text (vput n):=rfl
  rw [hz] at hclk
  simp only [if_true] at hel
  have hee:(eent (t,n)).length=(vput t.length).length+t.length+(vput n).length:=by unfold eent eblob;simp only [List.length_append]
  have ht32:=hct rfl
  have hbo:=Pe.blob_ok (p:=p2) (max:=32) (s:=t) hfo (by omega) (by omega)
  have hbm:=Pe.blob_m p2 32 t
  have hbl:=Pe.blob_len p2 32 t (by omega)
  generalize hb0:p2.blob 32 t=p3 at *
  have hb':Pe.blob ⟨p2.b,p2.m,p2.e⟩ 32 t=p3:=hb0
  focus (have kxs:=And.intro hcd (And.intro hc (And.intro hv' (And.intro hf' hb')));have kk1:=uN [] (dotted_Check ⟨v,true,(t,n)⟩ hfk);have kk2:=uN [0,1] (vcode_Put1 q.b q.m q.e hok v hfk.1 (by omega));have kk3:=uN [0,1] (blob_PutFlag p1.b p1.m p1.e hvo true (by omega));have kk4:=uN [0,1] (blob_Put1 p2.b t p2.m p2.e 32 hfo (by omega) (by omega));have kk5:=uN [0,1] (varint_Put1 p3.b p3.m p3.e hbo n hfk.2.2 (by omega));(repeat' (first|refine G ?_|refine AW.ret ?_|(refine GC ?_ ?_<;>intro h<;>(try simp only [hsB] at h)<;>try exact xf)|(refine GL ?_ ?_<;>intro h<;>(try simp only [hsN] at h)<;>(try simp only [h])<;>(try simp only [hsB] at h)<;>try exact xf)|fail));all_goals clear kxs kk1 kk2 kk3 kk4 kk5)
  all_goals first|(refine hJ (i+1) _ _ (by omega) hil rfl ?_;rw [hn2,hclk];rfl)|(exfalso;simp_all;done)
end
section
variable (b : List UInt8) (m e : Int)
theorem dcode_Put1(ok:Pe.Ok ⟨b,m,e⟩)(k:Ck)(hf:k.fits)(hl:m≤140737488355328∨b.length+(eclk k).length+40≤140737488355328) :
  AC Tryz.prog 278 [.p 0 0,.d (.l 1 (ckD k))] (Pe.obs ⟨b,m,e⟩) fun x σ=>x=.t []∧σ=Pe.obs (Pe.clk ⟨b,m,e⟩ k):=by
 have:=dcode_Put b m e ok [k] (by simpa using hf) (by simp) (by simpa using hl)
 rw [show cksD [k]=ckD k from List.append_nil _] at this
 exact this
end
theorem dcode_Encode(k:Ck)(hf:k.fits):AC Tryz.prog 270 [ckV k] [] fun x σ=>x=.t [sv (bs (clke k).1),iv .i64 (clke k).2]∧σ=[]:=by
 have hq:=pens_clk.keep (x:=k) pe0_ok (.inl (by decide))
 refine AC.wk Tryz.func270 ?_
 unfold clke
 generalize hp:Pe.clk ⟨[],65536,0⟩ k=q at *
 (have kxs:=hp;have kk1:=uN [] (pen_New 65536 (by decide));have kk2:=uN [1,2] (dcode_Put1 [] 65536 0 pe0_ok k hf (.inl (by decide)));have kk3:=uN [1,2] (pen_End q.b q.m q.e hq);exact Wd0)
def prD(x:Pr):List D:=[.s (.string ⟨x.1.toArray⟩),.s (.string ⟨x.2.toArray⟩)]
abbrev prsD(v:Prs):List D:=(v.map prD).flatten
theorem prs_drop{v r:Prs}{x:Pr}{i:Nat}(h:v.drop i=x::r):(prsD v).drop (i*2)=.s (.string ⟨x.1.toArray⟩)::.s (.string ⟨x.2.toArray⟩)::prsD r:=by
 rw [prsD,flat_drop (f:=prD) (sz:=2) (fun _=>rfl),h];rfl
def Prs.fits(v:Prs):Prop:=v.length≤9223372036854775807∧(∀ x ∈ v,x.1.length≤9223372036854775807)∧∀ x ∈ v,x.2.length≤9223372036854775807
def Prs.ahead(v:Prs)(i:Nat)(p:List UInt8):Prop:=(i=0∧p=[])∨(0<i∧p.length≤32∧∃ n r,v.drop (i-1)=(p,n)::r)
abbrev Pfam:=Fam Cu.pair (fun (_:List UInt8) (x:Pr)=>x.1)
def Prs.last(v:Prs)(p:List UInt8):Prop:=(v=[]∧p=[])∨(0<v.length∧p.length≤32∧∃ n r,v.drop (v.length-1)=(p,n)::r)
theorem Prs.last_snoc(v:Prs)(a:List UInt8)(m:List UInt8)(ha:a.length≤32):(v++[(a,m)]:Prs).last a:=
 .inr ⟨by simp,ha,m,[],by simp⟩
theorem prs_snoc(v:Prs)(a m:List UInt8):prsD v++[.s (.string ⟨a.toArray⟩),.s (.string ⟨m.toArray⟩)]=prsD (v++[(a,m)]):=by
 rw [prsD,prsD,List.map_append,List.flatten_append];rfl
theorem pairs_Take(s:List UInt8)(a:Nat)(e:Int)(h:Cu.Ok ⟨s,a,e⟩):AC Tryz.prog 156 [.p 0 0] [Cu.ob ⟨s,a,e⟩] fun x σ=>x=.d (.l (Cu.prs ⟨s,a,e⟩).1.length (prsD (Cu.prs ⟨s,a,e⟩).1))∧σ=[Cu.ob (Cu.prs ⟨s,a,e⟩).2]:=by
 refine AC.wk Tryz.func156 ?_
 have hlt:(Cu.count ⟨s,a,e⟩ 8).1≤8:=Cu.count_max ⟨s,a,e⟩ 8
 have hok0:=Cu.count_ok (max:=8) h
 have hvec:Cu.prs ⟨s,a,e⟩=(if ((Cu.count ⟨s,a,e⟩ 8).2.pairs (Cu.count ⟨s,a,e⟩ 8).1 []).2.e≠0 then [] else ((Cu.count ⟨s,a,e⟩ 8).2.pairs (Cu.count ⟨s,a,e⟩ 8).1 []).1,((Cu.count ⟨s,a,e⟩ 8).2.pairs (Cu.count ⟨s,a,e⟩ 8).1 []).2):=rfl
 rw [hvec]
 generalize hz:Cu.count ⟨s,a,e⟩ 8=z at *
 obtain ⟨n,c0⟩:=z
 simp only at hlt hok0 ⊢
 clear hvec
 focus (have kxs:=hz;have kk1:=uN [0] (blob_Count s a e 8 h (by decide));(repeat' (first|refine G ?_|refine AW.ret ?_|(refine GC ?_ ?_<;>intro h<;>(try simp only [hsB] at h)<;>try exact xf)|(refine GL ?_ ?_<;>intro h<;>(try simp only [hsN] at h)<;>(try simp only [h])<;>(try simp only [hsB] at h)<;>try exact xf)|fail));all_goals clear kxs kk1)
 refine AW.birth 176 2 [4] [] ?_
 refine AW.rounds [0,2,3,4] (fun x:Prs × List UInt8 × Cu=>[(0,.p 0 0),(2,.d (.s (.slice none 0 0))),(3,iv .i64 n),(4,.o 1 x.1.length)]) (fun x=>[Cu.ob x.2.2,.row 176 2 x.1.length (prsD x.1)])
  (fun x=>x.2.2.Ok∧(x.2.2.e=0→Prs.last x.1 x.2.1)∧Pfam n [] c0 x.1 x.2.1 x.2.2) (fun x=>n-x.1.length) ([],[],c0) ⟨hok0,fun _=>.inl ⟨rfl,rfl⟩,Fam.start n [] c0⟩ rfl rfl (fun _ _=>Nat.le_of_ble_eq_true rfl) (fun _ _=>rfl) (fun _ _=>rfl) ?_
 rintro ⟨out,p,c⟩ ⟨hok,hlast,hf⟩ J hJ
 simp only at hok hlast hf ⊢
 by_cases hce:c.e=0
 case neg=>
  have hbad:=Fam.bad (fun k c h=>(trip_pair k).stuck c h) hf hce
  have hb2:(Cu.pairs n [] c0).2=c:=hbad
  rw [hb2,if_pos hce]
  (have kk1:=uN [0] (cursor_Err c.s c.a c.e);exact Wd1)
 by_cases hlen:out.length<n
 case neg=>
  have hdone:=Fam.done hf hce hlen
  have hb2:Cu.pairs n [] c0=(out,c):=hdone
  rw [hb2]
  simp only
  rw [if_neg (by simpa using hce)]
  (have kk1:=uN [0] (cursor_Err c.s c.a c.e);exact Wd1)
 have hstep:=Fam.step hf hce hlen
 have hbok:=Cu.blob_ok (max:=32) hok
 have hlim:=Cu.blob_lim c 32
 have hent:Cu.pair p c=(((c.blob 32).1,((gd (lessB p (c.blob 32).1) 6 (gd (decide ((c.blob 32).1≠[])) 14 (c.blob 32).2)).blob 32768).1),((gd (lessB p (c.blob 32).1) 6 (gd (decide ((c.blob 32).1≠[])) 14 (c.blob 32).2)).blob 32768).2):=rfl
 generalize hb0:c.blob 32=y at *
 obtain ⟨t,c1⟩:=y
 have hb:Cu.blob ⟨c.s,c.a,c.e⟩ 32=(t,c1):=hb0
 simp only at hlim hbok hent
 have hlast:=hlast hce
 have hec1:c1.e≠0→gd (lessB p t) 6 (gd (decide (t≠[])) 14 c1)=c1:=fun h=>by rw [gd_stuck h,gd_stuck h]
 have key:∀ q:Cu,gd (lessB p t) 6 (gd (decide (t≠[])) 14 c1)=q→q.Ok∧∃ m c2,Cu.blob ⟨q.s,q.a,q.e⟩ 32768=(m,c2)∧
   ∀ T' σ',keepT T' [0,2,3,4]=[(0,.p 0 0),(2,.d (.s (.slice none 0 0))),(3,iv .i64 n),(4,.o 1 (out.length+1))]→σ'.take 2=[Cu.ob c2,.row 176 2 (out.length+1) (prsD out++[.s (.string ⟨t.toArray⟩),.s (.string ⟨m.toArray⟩)])]→J T' σ':=fun q hq=>by
  rw [hq] at hent
  have hqok:q.Ok:=by rw [←hq];exact gd_ok (gd_ok hbok)
  have hqe:c1.e≠0→q.e≠0:=fun h=>by rw [←hq,hec1 h];exact h
  have hok2:=Cu.blob_ok (max:=32768) hqok
  have hst:=(trip_blob 32768).stuck q
  refine ⟨hqok,(q.blob 32768).1,(q.blob 32768).2,rfl,?_⟩
  generalize hv:q.blob 32768=w at *
  obtain ⟨m,c2⟩:=w
  simp only at hent hok2 hst ⊢
  rw [hent] at hstep
  have hl:(out++[(t,m)]).length=out.length+1:=by simp
  intro T' σ' h1 h2
  refine hJ (out++[(t,m)],t,c2) T' σ' (by simp only [hl];omega) ⟨hok2,fun h0=>Prs.last_snoc out t m ?_,hstep⟩ (by simp only [hl];exact h1) (by rw [prs_snoc] at h2;simp only [hl];exact h2)
  have e1:c1.e=0:=by
   apply Decidable.byContradiction
   intro hn
   have hq:=hqe hn
   rw [hst hq] at h0
   exact hq h0
  have:=hlim e1
  simpa using this
 clear hJ hstep hf hent
 have st14:c1.e≠0→Cu.fail ⟨c1.s,c1.a,c1.e⟩ 14=c1:=fun h=>Cu.fail_stuck (c:=c1) h 14
 have st6:c1.e≠0→Cu.fail ⟨c1.s,c1.a,c1.e⟩ 6=c1:=fun h=>Cu.fail_stuck (c:=c1) h 6
 rcases hlast with ⟨rfl,rfl⟩|⟨hlo,hpl,pn,pr,hpd⟩
 ·by_cases h1:c1.e=0
  case neg=>
   obtain ⟨hqok,m,c2,hv,go⟩:=key c1 (hec1 h1)
   have st14:=st14 h1
   have st6:=st6 h1
   (have kxs:=And.intro hb (And.intro hv (And.intro st14 st6));have kk1:=uN [0] (blob_Take c.s c.a c.e 32 hok (by decide));have kuc1:=fun za zb zc=>uN [0] (cursor_Err za zb zc);have kk2:=uN [0] (blob_Take c1.s c1.a c1.e 32768 hqok (by decide));have kua1:=fun za=>uN [0] (cursor_Fail c1.s c1.a c1.e za);exact Wdg)
  by_cases h2:t=[]
  ·subst h2
   obtain ⟨hqok,m,c2,hv,go⟩:=key (c1.fail 14) (gd_name_empty [] c1)
   (have kxs:=And.intro hb hv;have kk1:=uN [0] (blob_Take c.s c.a c.e 32 hok (by decide));have kuc1:=fun za zb zc=>uN [0] (cursor_Err za zb zc);have kk2:=uN [0] (blob_Take (c1.fail 14).s (c1.fail 14).a (c1.fail 14).e 32768 hqok (by decide));have kua1:=fun za=>uN [0] (cursor_Fail c1.s c1.a c1.e za);exact Wdg)
  have hl0:lessB [] t=true:=by
   cases hx:t with
   | nil=>exact absurd hx h2
   | cons b u=>exact less_nil_cons b u
  obtain ⟨hqok,m,c2,hv,go⟩:=key c1 (gd_name_ok h2 hl0)
  (have kxs:=And.intro hb hv;have kk1:=uN [0] (blob_Take c.s c.a c.e 32 hok (by decide));have kuc1:=fun za zb zc=>uN [0] (cursor_Err za zb zc);have kk2:=uN [0] (blob_Take c1.s c1.a c1.e 32768 hqok (by decide));have kua1:=fun za=>uN [0] (cursor_Fail c1.s c1.a c1.e za);exact Wdg)
 have hcd:=prs_drop hpd
 have hi1:((out.length:Int)-1).toNat=out.length-1:=by omega
 have htri:=less_tri t p
 by_cases h1:c1.e=0
 case neg=>
  obtain ⟨hqok,m,c2,hv,go⟩:=key c1 (hec1 h1)
  have st14:=st14 h1
  have st6:=st6 h1
  (have kxs:=And.intro hb (And.intro hv (And.intro st14 (And.intro st6 (And.intro hcd (And.intro hi1 htri)))));have kk1:=uN [0] (blob_Take c.s c.a c.e 32 hok (by decide));have kuc1:=fun za zb zc=>uN [0] (cursor_Err za zb zc);have kk2:=uN [0] (blob_Take c1.s c1.a c1.e 32768 hqok (by decide));have kua1:=fun za=>uN [0] (cursor_Fail c1.s c1.a c1.e za);exact Wdg)
 by_cases h2:t=[]
 ·subst h2
  obtain ⟨hqok,m,c2,hv,go⟩:=key (c1.fail 14) (gd_name_empty p c1)
  (have kxs:=And.intro hb hv;have kk1:=uN [0] (blob_Take c.s c.a c.e 32 hok (by decide));have kuc1:=fun za zb zc=>uN [0] (cursor_Err za zb zc);have kk2:=uN [0] (blob_Take (c1.fail 14).s (c1.fail 14).a (c1.fail 14).e 32768 hqok (by decide));have kua1:=fun za=>uN [0] (cursor_Fail c1.s c1.a c1.e za);exact Wdg)
 by_cases h3:lessB p t=true
 ·have h3':Op.bytesLess p t=true:=h3
  obtain ⟨hqok,m,c2,hv,go⟩:=key c1 (gd_name_ok h2 h3)
  (have kxs:=And.intro hb (And.intro hv (And.intro hcd (And.intro hi1 (And.intro htri h3'))));have kk1:=uN [0] (blob_Take c.s c.a c.e 32 hok (by decide));have kuc1:=fun za zb zc=>uN [0] (cursor_Err za zb zc);have kk2:=uN [0] (blob_Take c1.s c1.a c1.e 32768 hqok (by decide));have kua1:=fun za=>uN [0] (cursor_Fail c1.s c1.a c1.e za);exact Wdg)
 ·have h3':Op.bytesLess p t=false:=by simpa using h3
  obtain ⟨hqok,m,c2,hv,go⟩:=key (c1.fail 6) (gd_name_order h2 h3')
  (have kxs:=And.intro hb (And.intro hv (And.intro hcd (And.intro hi1 (And.intro htri h3'))));have kk1:=uN [0] (blob_Take c.s c.a c.e 32 hok (by decide));have kuc1:=fun za zb zc=>uN [0] (cursor_Err za zb zc);have kk2:=uN [0] (blob_Take (c1.fail 6).s (c1.fail 6).a (c1.fail 6).e 32768 hqok (by decide));have kua1:=fun za=>uN [0] (cursor_Fail c1.s c1.a c1.e za);exact Wdg)
abbrev sbV(x:Sb):V:=.a [.d (.l x.clk.ctx.length (vecD x.clk.ctx)),bv x.clk.dotted,sv (bs x.clk.dot.1),iv .u64 x.clk.dot.2,.d (.l x.meta_.length (prsD x.meta_)),bv x.dead,sv (bs x.val)]
def sbD(x:Sb):List D:=[.l x.clk.ctx.length (vecD x.clk.ctx),.s (.bool x.clk.dotted),.s (.string ⟨x.clk.dot.1.toArray⟩),.s (.int .u64 x.clk.dot.2),.l x.meta_.length (prsD x.meta_),.s (.bool x.dead),.s (.string ⟨x.val.toArray⟩)]
abbrev sbsD(l:List Sb):List D:=(l.map sbD).flatten
def Sb.fits(x:Sb):Prop:=x.clk.fits∧x.meta_.fits∧x.val.length≤9223372036854775807
theorem sbs_drop{l r:List Sb}{x:Sb}{i:Nat}(h:l.drop i=x::r):(sbsD l).drop (i*7)=.l x.clk.ctx.length (vecD x.clk.ctx)::.s (.bool x.clk.dotted)::.s (.string ⟨x.clk.dot.1.toArray⟩)::.s (.int .u64 x.clk.dot.2)::.l x.meta_.length (prsD x.meta_)::.s (.bool x.dead)::.s (.string ⟨x.val.toArray⟩)::sbsD r:=by
 rw [sbsD,flat_drop (f:=sbD) (sz:=7) (fun _=>rfl),h];rfl
theorem sb_eq(k o:Sb):(decide (k.clk=o.clk)&&(decide (k.meta_=o.meta_)&&(decide (k.dead=o.dead)&&decide (k.val=o.val))))=true↔k=o:=by
 obtain ⟨a,b,c,d⟩:=k
 obtain ⟨e,f,g,h⟩:=o
 simp
instance:DecidableEq Sb:=fun k o=>decidable_of_iff _ (sb_eq k o)
theorem sib_eq{c c1 c2 c3 c4:Cu}{k:Ck}{l:Prs}{f:Bool}{t:List UInt8}(h1:c.clk=(k,c1))(h2:c1.prs=(l,c2))(h3:c2.flag=(f,c3))(h4:c3.blob 32768=(t,c4)):c.sib=(if c4.e≠0 then sb0 else ⟨k,l,f,t⟩,c4):=by
 unfold Cu.sib Cu.sib0 rseq
 simp only [h1,h2,h3,h4]
theorem sibling_Take(c:Cu)(h:c.Ok):AC Tryz.prog 272 [.p 0 0] [Cu.ob c] fun x σ=>x=sbV c.sib.1∧σ=[Cu.ob c.sib.2]:=by
 refine AC.wk Tryz.func272 ?_
 have ho1:=Cu.clk_ok h
 cases h1:c.clk with
 | mk k c1=>
 rw [h1] at ho1
 have ho2:=Cu.prs_ok ho1
 cases h2:c1.prs with
 | mk l c2=>
 rw [h2] at ho2
 have ho3:=Cu.flag_ok ho2
 cases h3:c2.flag with
 | mk f c3=>
 rw [h3] at ho3
 cases h4:c3.blob 32768 with
 | mk t c4=>
 have h2':Cu.prs ⟨c1.s,c1.a,c1.e⟩=(l,c2):=h2
 have h3':Cu.flag ⟨c2.s,c2.a,c2.e⟩=(f,c3):=h3
 have h4':Cu.blob ⟨c3.s,c3.a,c3.e⟩ 32768=(t,c4):=h4
 rw [sib_eq h1 h2 h3 h4]
 simp only at ho1 ho2 ho3 ⊢
 by_cases he:c4.e=0
 ·rw [if_neg (by simpa using he)]
  (have kxs:=And.intro h1 (And.intro h2' (And.intro h3' h4'));have kk1:=uN [0] (dcode_Take c h);have kk2:=uN [0] (pairs_Take c1.s c1.a c1.e ho1);have kk3:=uN [0] (blob_Flag c2.s c2.a c2.e ho2);have kk4:=uN [0] (blob_Take c3.s c3.a c3.e 32768 ho3 (by decide));have kk5:=uN [0] (cursor_Err c4.s c4.a c4.e);exact Wd1)
 ·rw [if_pos he]
  focus (have kxs:=And.intro h1 (And.intro h2' (And.intro h3' h4'));have kk1:=uN [0] (dcode_Take c h);have kk2:=uN [0] (pairs_Take c1.s c1.a c1.e ho1);have kk3:=uN [0] (blob_Flag c2.s c2.a c2.e ho2);have kk4:=uN [0] (blob_Take c3.s c3.a c3.e 32768 ho3 (by decide));have kk5:=uN [0] (cursor_Err c4.s c4.a c4.e);(repeat' (first|refine G ?_|refine AW.ret ?_|(refine GC ?_ ?_<;>intro h<;>(try simp only [hsB] at h)<;>try exact xf)|(refine GL ?_ ?_<;>intro h<;>(try simp only [hsN] at h)<;>(try simp only [h])<;>(try simp only [hsB] at h)<;>try exact xf)|fail));all_goals clear kxs kk1 kk2 kk3 kk4 kk5)
  all_goals first|(((all_goals first|refine RetQ.yr 1 ⟨?_,?_⟩|refine RetQ.yn 1 ⟨?_,?_⟩);(all_goals first|rfl|(simp [sb0,ck0, *];done)|((simp only [go_sem,↓reduceIte,Nat.reduceLT,sb0,ck0];(repeat' split))<;>first|rfl|(exfalso;omega)|(simp_all;done)|(simp_all;omega))));done)|(exfalso;simp_all;done)
abbrev ojV(o:Oj):V:=.a [sv (bs o.key),.d (.l o.sibs.length (sbsD o.sibs))]
def Oj.fits(o:Oj):Prop:=o.key.length≤9223372036854775807∧o.sibs.length≤9223372036854775807∧∀ x ∈ o.sibs,x.fits
theorem Sb.key_of{x:Sb}(h:x.check=0)(hf:x.fits):(clke x.clk).1=skey x:=by
 rw [clke_good ⟨(Sb.check_parts h).1,hf.1.1.2.2,hf.1.2.2⟩]
theorem object_clock(x:Sb)(hx:x.fits):AC Tryz.prog 254 [sbV x] [] fun y σ=>y=sv (bs (clke x.clk).1)∧σ=[]:=by
 refine AC.wk Tryz.func254 ?_
 (have kk1:=uN [] (dcode_Encode x.clk hx.1);exact Wd0)
theorem object_key(x:Sb)(hx:x.fits)(hc:x.check=0):AC Tryz.prog 254 [sbV x] [] fun y σ=>y=sv (bs (skey x))∧σ=[]:=by
 have:=object_clock x hx
 rw [Sb.key_of hc hx] at this
 exact this
def sahead(l:List Sb)(i:Nat)(p:List UInt8):Prop:=(i=0∧p=[])∨(0<i∧∃ y r,l.drop (i-1)=y::r∧y.check=0∧skey y=p)
theorem oj_eq(k o:Oj):(decide (k.key=o.key)&&decide (k.sibs=o.sibs))=true↔k=o:=by
 obtain ⟨a,b⟩:=k
 obtain ⟨d,e⟩:=o
 simp
instance:DecidableEq Oj:=fun k o=>decidable_of_iff _ (oj_eq k o)
end Go.AW
