/-
  objects that are read: the program's.
-/
import Derived.Test.YtdnfcckkdnkaiaaGreatU11
set_option linter.unusedVariables false
set_option linter.unusedSimpArgs false
set_option maxHeartbeats 4000000
set_option maxRecDepth 10000
namespace Go.AW
open Go Go.Proofs
attribute [local irreducible] thenQ blockQ RetQ AL AW AC AOp
theorem Sb.fits_of{x:Sb}(hg:gsib x):x.fits:=by
 obtain ⟨h1,h2,h3⟩:=Sb.check_parts hg.1
 have hv:=Vec.check_len (Ck.check_parts h1).1
 have hp:=Prs.check_len h2
 exact ⟨⟨⟨by omega,fun x hx=>Nat.le_trans (hv.2 x hx) (by decide),hg.2.1⟩,Nat.le_trans (Ck.dot_len h1) (by decide),hg.2.2⟩,⟨by omega,fun x hx=>Nat.le_trans (hp.2 x hx).1 (by decide),fun x hx=>Nat.le_trans (hp.2 x hx).2 (by decide)⟩,by omega⟩
abbrev jnext(_:List UInt8)(x:Sb):List UInt8:=eclk x.clk
theorem sbs_snoc(l:List Sb)(x:Sb):sbsD l++[.l x.clk.ctx.length (vecD x.clk.ctx),.s (.bool x.clk.dotted),.s (.string ⟨x.clk.dot.1.toArray⟩),.s (.int .u64 x.clk.dot.2),.l x.meta_.length (prsD x.meta_),.s (.bool x.dead),.s (.string ⟨x.val.toArray⟩)]=sbsD (l++[x]):=by
 simp only [sbsD,List.map_append,List.flatten_append,List.map_cons,List.map_nil,List.flatten_cons,List.flatten_nil,List.append_nil];rfl
theorem obj_eq{c:Cu}{key:List UInt8}{c1 q1 c2 q2:Cu}{n:Nat}(hb:Cu.blob c 128=(key,c1))(h1:gd (decide (key≠[])) 14 c1=q1)(hn:q1.count 16=(n,c2))(h2:gd (decide (n≠0)) 7 c2=q2) :
  Cu.obj c=(if (Cu.objs n [] q2).2.e≠0 then oj0 else ⟨key,(Cu.objs n [] q2).1⟩,(Cu.objs n [] q2).2):=by
 have e1:Cu.okey c=(key,q1):=by unfold Cu.okey;rw [hb,←h1]
 have e2:q1.ocnt=(n,q2):=by unfold Cu.ocnt;rw [hn,←h2]
 unfold Cu.obj Cu.obj0 rseq
 rw [e1]
 simp only
 unfold Cu.objl
 rw [e2]
def Slast(l:List Sb)(p:List UInt8):Prop:=(l=[]∧p=[])∨(0<l.length∧∃ y r,l.drop (l.length-1)=y::r∧gsib y∧skey y=p)
theorem Slast.snoc(l:List Sb){x:Sb}(h:gsib x):Slast (l++[x]) (skey x):=.inr ⟨by simp,x,[],by simp,h,rfl⟩
abbrev Jfam:=Fam Cu.os2 jnext
theorem os2_step{p:List UInt8}{c c1:Cu}{x:Sb}(h:c.sib=(x,c1)):Cu.os2 p c=(x,gd (lessB p (skey x)) 6 c1):=by unfold Cu.os2;rw [h]
theorem object_Take(c0:Cu)(h0:c0.Ok):AC Tryz.prog 256 [.p 0 0] [Cu.ob c0] fun x σ=>x=ojV c0.obj.1∧σ=[Cu.ob c0.obj.2]:=by
 refine AC.wk Tryz.func256 ?_
 have hok1:=Cu.blob_ok (max:=128) h0
 cases hb:Cu.blob c0 128 with
 | mk key c1=>
 have hb':Cu.blob ⟨c0.s,c0.a,c0.e⟩ 128=(key,c1):=hb
 rw [hb] at hok1
 obtain ⟨q1,hq1⟩:∃ q,gd (decide (key≠[])) 14 c1=q:=⟨_,rfl⟩
 have hok2:q1.Ok:=by rw [←hq1];exact gd_ok hok1
 have hok3:=Cu.count_ok (max:=16) hok2
 cases hn:q1.count 16 with
 | mk n c2=>
 rw [hn] at hok3
 have hn':Cu.count ⟨q1.s,q1.a,q1.e⟩ 16=(n,c2):=hn
 have hnl:n≤16:=by have:=Cu.count_max q1 16;rw [hn] at this;exact this
 obtain ⟨q2,hq2⟩:∃ q,gd (decide (n≠0)) 7 c2=q:=⟨_,rfl⟩
 have hok4:q2.Ok:=by rw [←hq2];exact gd_ok hok3
 have hobj:=obj_eq hb hq1 hn hq2
 rw [hobj]
 clear hobj
 have k1:(key=[]∧Cu.fail ⟨c1.s,c1.a,c1.e⟩ 14=q1)∨(key≠[]∧c1=q1):=by
  by_cases hk:key=[]
  ·exact .inl ⟨hk,by rw [←hq1,hk];rfl⟩
  ·exact .inr ⟨hk,by rw [←hq1];unfold gd;rw [if_pos (by simpa using hk)]⟩
 have k2:(n=0∧Cu.fail ⟨c2.s,c2.a,c2.e⟩ 7=q2)∨(n≠0∧c2=q2):=by
  by_cases hk:n=0
  ·exact .inl ⟨hk,by rw [←hq2,hk];rfl⟩
  ·exact .inr ⟨hk,by rw [←hq2];unfold gd;rw [if_pos (by simpa using hk)]⟩
 clear hq1 hq2
 rcases k1 with ⟨hk,h1⟩|⟨hk,h1⟩<;>rcases k2 with ⟨hn0,h2⟩|⟨hn0,h2⟩
 all_goals
  focus (have kxs:=And.intro hb' (And.intro h1 (And.intro hn' h2));have kk1:=uN [0] (blob_Take c0.s c0.a c0.e 128 h0 (by decide));have kud1:=fun za zb zc zd=>uN [0] (cursor_Fail za zb zc zd);have kk2:=uN [0] (blob_Count q1.s q1.a q1.e 16 hok2 (by decide));(repeat' (first|(refine ADr.nil ?_;try clear hgv)|refine GO ?_|refine AW.ret ?_|(refine GC ?_ ?_<;>intro h<;>(try simp only [hsB] at h)<;>try exact xf)|(refine GD ?_ ?_<;>intro h<;>(try intro hgv)<;>(try simp only [hsN] at h)<;>(try simp only [h])<;>(try simp only [hsB] at h)<;>try exact xf)|(refine GL ?_ ?_<;>intro h<;>(try simp only [hsN] at h)<;>(try simp only [h])<;>(try simp only [hsB] at h)<;>try exact xf)|fail));all_goals clear kxs kk1 kud1 kk2)
  all_goals first|(exfalso;exact hk (by assumption))|exact xg|skip
  refine AW.birth 155 7 [] [(2,1)] ?_
  refine AW.rounds [0,2,3,4] (fun x:List Sb × List UInt8 × Cu=>[(0,.p 0 0),(2,.p 1 0),(3,.p 2 0),(4,iv .i64 n)])
   (fun x=>[Cu.ob x.2.2,.box 26 [sv (bs []),.d (.s (.slice none 0 0))],.box 26 [sv (bs key),.o 3 x.1.length],.row 155 7 x.1.length (sbsD x.1)])
   (fun x=>x.2.2.Ok∧(x.2.2.e=0→Slast x.1 x.2.1)∧Jfam n [] q2 x.1 x.2.1 x.2.2) (fun x=>n-x.1.length) ([],[],q2) ⟨hok4,fun _=>.inl ⟨rfl,rfl⟩,Fam.start n [] q2⟩ rfl (by subst h2;rfl) (fun _ _=>Nat.le_of_ble_eq_true rfl) (fun _ _=>rfl) (fun _ _=>rfl) ?_
  clear h1 h2 hb hb' hn hn' hn0 hk hok1 hok2 hok3 hok4
  rintro ⟨out,p,c⟩ ⟨hok,hlast,hf⟩ J hJ
  simp only at hok hlast hf ⊢
  by_cases hce:c.e=0
  case neg=>
   have hbad:(Cu.objs n [] q2).2=c:=Fam.bad (fun k c h=>(trip_os2 k).stuck c h) hf hce
   rw [hbad,if_pos hce]
   focus (have kk1:=uN [0] (cursor_Err c.s c.a c.e);(repeat' (first|(refine ADr.nil ?_;try clear hgv)|refine GO ?_|refine AW.ret ?_|(refine GC ?_ ?_<;>intro h<;>(try simp only [hsB] at h)<;>try exact xf)|(refine GD ?_ ?_<;>intro h<;>(try intro hgv)<;>(try simp only [hsN] at h)<;>(try simp only [h])<;>(try simp only [hsB] at h)<;>try exact xf)|(refine GL ?_ ?_<;>intro h<;>(try simp only [hsN] at h)<;>(try simp only [h])<;>(try simp only [hsB] at h)<;>try exact xf)|fail));all_goals clear kk1)
   all_goals first|(((all_goals first|refine RetQ.yr 1 ⟨?_,?_⟩|refine RetQ.yn 1 ⟨?_,?_⟩);(all_goals first|rfl|(simp [oj0, *];done)|((simp only [go_sem,↓reduceIte,Nat.reduceLT,oj0];(repeat' split))<;>first|rfl|(exfalso;omega)|(simp_all;done)|(simp_all;omega))));done)|(exfalso;simp_all;done)
  by_cases hlen:out.length<n
  case neg=>
   have hdone:Cu.objs n [] q2=(out,c):=Fam.done hf hce hlen
   rw [hdone]
   simp only
   rw [if_neg (by simpa using hce)]
   focus (have kk1:=uN [0] (cursor_Err c.s c.a c.e);(repeat' (first|(refine ADr.nil ?_;try clear hgv)|refine GO ?_|refine AW.ret ?_|(refine GC ?_ ?_<;>intro h<;>(try simp only [hsB] at h)<;>try exact xf)|(refine GD ?_ ?_<;>intro h<;>(try intro hgv)<;>(try simp only [hsN] at h)<;>(try simp only [h])<;>(try simp only [hsB] at h)<;>try exact xf)|(refine GL ?_ ?_<;>intro h<;>(try simp only [hsN] at h)<;>(try simp only [h])<;>(try simp only [hsB] at h)<;>try exact xf)|fail));all_goals clear kk1)
   all_goals first|(((all_goals first|refine RetQ.yr 1 (xs:=[.a [sv (bs key),.o 3 out.length]]) ⟨?_,?_⟩|refine RetQ.yn 1 (xs:=[.a [sv (bs key),.o 3 out.length]]) ⟨?_,?_⟩);(all_goals exact fx));done)|(exfalso;simp_all;done)
  have hstep:=Fam.step hf hce hlen
  have hg1:=Cu.sib_ok hok
  have hbk:=trip_sib.back c
  cases hv:c.sib with
  | mk x g1=>
  rw [hv] at hg1 hbk
  have hv':Cu.sib ⟨c.s,c.a,c.e⟩=(x,g1):=hv
  simp only at hg1 hbk
  rw [os2_step hv] at hstep
  have hsn:=sbs_snoc out x
  have hln:(out++[x]).length=out.length+1:=by simp
  have hlast:=hlast hce
  by_cases hge:g1.e=0
  case neg=>
   rw [gd_stuck hge] at hstep
   focus (have kxs:=hv;have kk1:=uN [0] (sibling_Take c hok);have kuc1:=fun za zb zc=>uN [0] (cursor_Err za zb zc);(repeat' (first|(refine ADr.nil ?_;try clear hgv)|refine GO ?_|refine AW.ret ?_|(refine GC ?_ ?_<;>intro h<;>(try simp only [hsB] at h)<;>try exact xf)|(refine GD ?_ ?_<;>intro h<;>(try intro hgv)<;>(try simp only [hsN] at h)<;>(try simp only [h])<;>(try simp only [hsB] at h)<;>try exact xf)|(refine GL ?_ ?_<;>intro h<;>(try simp only [hsN] at h)<;>(try simp only [h])<;>(try simp only [hsB] at h)<;>try exact xf)|fail));all_goals clear kxs kk1 kuc1)
   all_goals first|(refine hJ (out++[x],skey x,g1) _ _ (by simp only [hln];omega) ⟨hg1,fun h=>absurd h hge,hstep⟩ rfl ?_;simp only [←hsn,hln];rfl)|(exfalso;simp_all;done)
  have hgx:=(hbk hge).1
  have hfx:=Sb.fits_of hgx
  have hnl:Slast (out++[x]) (skey x):=Slast.snoc out hgx
  rcases hlast with ⟨rfl,rfl⟩|⟨hlo,y,r,hyd,hgy,rfl⟩
  ·rw [skey_first] at hstep
   have hgd:gd true 6 g1=g1:=rfl
   rw [hgd] at hstep
   focus (have kxs:=hv;have kk1:=uN [0] (sibling_Take c hok);have kuc1:=fun za zb zc=>uN [0] (cursor_Err za zb zc);(repeat' (first|(refine ADr.nil ?_;try clear hgv)|refine GO ?_|refine AW.ret ?_|(refine GC ?_ ?_<;>intro h<;>(try simp only [hsB] at h)<;>try exact xf)|(refine GD ?_ ?_<;>intro h<;>(try intro hgv)<;>(try simp only [hsN] at h)<;>(try simp only [h])<;>(try simp only [hsB] at h)<;>try exact xf)|(refine GL ?_ ?_<;>intro h<;>(try simp only [hsN] at h)<;>(try simp only [h])<;>(try simp only [hsB] at h)<;>try exact xf)|fail));all_goals clear kxs kk1 kuc1)
   all_goals first|(refine hJ ([x],skey x,g1) _ _ (by simp only [List.length_cons,List.length_nil] at *;omega) ⟨hg1,fun _=>hnl,hstep⟩ rfl ?_;simp only [List.nil_append] at hsn;simp only [←hsn];rfl)|(exfalso;simp_all;done)
  have hcd:=sbs_drop hyd
  have hi1:((out.length:Int)-1).toNat=out.length-1:=by omega
  have htri:=less_tri (skey x) (skey y)
  have hfy:=Sb.fits_of hgy
  by_cases hls:lessB (skey y) (skey x)=true
  ·have hls':Op.bytesLess (skey y) (skey x)=true:=hls
   rw [hls] at hstep
   have hgd:gd true 6 g1=g1:=rfl
   rw [hgd] at hstep
   focus (have kxs:=And.intro hv (And.intro hcd (And.intro hi1 (And.intro htri hls')));have kk1:=uN [0] (sibling_Take c hok);have kuc1:=fun za zb zc=>uN [0] (cursor_Err za zb zc);have kk2:=uN [] (object_key x hfx hgx.1);have kk3:=uN [] (object_key y hfy hgy.1);(repeat' (first|(refine ADr.nil ?_;try clear hgv)|refine GO ?_|refine AW.ret ?_|(refine GC ?_ ?_<;>intro h<;>(try simp only [hsB] at h)<;>try exact xf)|(refine GD ?_ ?_<;>intro h<;>(try intro hgv)<;>(try simp only [hsN] at h)<;>(try simp only [h])<;>(try simp only [hsB] at h)<;>try exact xf)|(refine GL ?_ ?_<;>intro h<;>(try simp only [hsN] at h)<;>(try simp only [h])<;>(try simp only [hsB] at h)<;>try exact xf)|fail));all_goals clear kxs kk1 kuc1 kk2 kk3)
   all_goals first|(refine hJ (out++[x],skey x,g1) _ _ (by simp only [hln];omega) ⟨hg1,fun _=>hnl,hstep⟩ rfl ?_;simp only [←hsn,hln];rfl)|(exfalso;simp_all;done)
  ·have hls:lessB (skey y) (skey x)=false:=by simpa using hls
   have hls':Op.bytesLess (skey y) (skey x)=false:=hls
   rw [hls] at hstep
   have hgd:gd false 6 g1=g1.fail 6:=rfl
   rw [hgd] at hstep
   focus (have kxs:=And.intro hv (And.intro hcd (And.intro hi1 (And.intro htri hls')));have kk1:=uN [0] (sibling_Take c hok);have kuc1:=fun za zb zc=>uN [0] (cursor_Err za zb zc);have kk2:=uN [] (object_key x hfx hgx.1);have kk3:=uN [] (object_key y hfy hgy.1);have kk4:=uN [0] (cursor_Fail g1.s g1.a g1.e 6);(repeat' (first|(refine ADr.nil ?_;try clear hgv)|refine GO ?_|refine AW.ret ?_|(refine GC ?_ ?_<;>intro h<;>(try simp only [hsB] at h)<;>try exact xf)|(refine GD ?_ ?_<;>intro h<;>(try intro hgv)<;>(try simp only [hsN] at h)<;>(try simp only [h])<;>(try simp only [hsB] at h)<;>try exact xf)|(refine GL ?_ ?_<;>intro h<;>(try simp only [hsN] at h)<;>(try simp only [h])<;>(try simp only [hsB] at h)<;>try exact xf)|fail));all_goals clear kxs kk1 kuc1 kk2 kk3 kk4)
   all_goals first|(refine hJ (out++[x],skey x,g1.fail 6) _ _ (by simp only [hln];omega) ⟨hg1,fun h=>absurd h (Cu.fail_e (by decide)),hstep⟩ rfl ?_;simp only [←hsn,hln];rfl)|(exfalso;simp_all;done)
def Pg.rest(g:Pg):Int:=if itcheck g.pre none g.items≠0 then itcheck g.pre none g.items else slcheck none g.slots
def sl1(p:Option Nat)(x:Sl):Int:=if after p x.1=false then 6 else if x.2.length≠32 then 1 else 0
theorem of_Key(cs:List V)(hcs:lts 1 cs=true):AC Tryz.prog 113 [.p 0 0] [.box 38 cs] fun y σ=>y=.p 0 2∧σ=[.box 38 cs]:=by
 refine AC.wk Tryz.func113 ?_
 focus ((repeat' (first|refine G ?_|refine AW.ret ?_|(refine GC ?_ ?_<;>intro h<;>(try simp only [hsB] at h)<;>try exact xf)|(refine GL ?_ ?_<;>intro h<;>(try simp only [hsN] at h)<;>(try simp only [h])<;>(try simp only [hsB] at h)<;>try exact xf)|fail)))
 all_goals exact RetQ.fr 1 (h3:=by show (lts 1 cs&&true)=true;rw [hcs];rfl)
theorem of_Text(cs:List V)(hcs:lts 1 cs=true):AC Tryz.prog 116 [.p 0 0] [.box 38 cs] fun y σ=>y=.p 0 19∧σ=[.box 38 cs]:=by
 refine AC.wk Tryz.func116 ?_
 focus ((repeat' (first|refine G ?_|refine AW.ret ?_|(refine GC ?_ ?_<;>intro h<;>(try simp only [hsB] at h)<;>try exact xf)|(refine GL ?_ ?_<;>intro h<;>(try simp only [hsN] at h)<;>(try simp only [h])<;>(try simp only [hsB] at h)<;>try exact xf)|fail)))
 all_goals exact RetQ.fr 1 (h3:=by show (lts 1 cs&&true)=true;rw [hcs];rfl)
theorem of_Value(cs:List V)(hcs:lts 1 cs=true):AC Tryz.prog 124 [.p 0 0] [.box 38 cs] fun y σ=>y=.p 0 11∧σ=[.box 38 cs]:=by
 refine AC.wk Tryz.func124 ?_
 focus ((repeat' (first|refine G ?_|refine AW.ret ?_|(refine GC ?_ ?_<;>intro h<;>(try simp only [hsB] at h)<;>try exact xf)|(refine GL ?_ ?_<;>intro h<;>(try simp only [hsN] at h)<;>(try simp only [h])<;>(try simp only [hsB] at h)<;>try exact xf)|fail)))
 all_goals exact RetQ.fr 1 (h3:=by show (lts 1 cs&&true)=true;rw [hcs];rfl)
theorem of_Prefix(cs:List V)(hcs:lts 1 cs=true):AC Tryz.prog 125 [.p 0 0] [.box 38 cs] fun y σ=>y=.p 0 12∧σ=[.box 38 cs]:=by
 refine AC.wk Tryz.func125 ?_
 focus ((repeat' (first|refine G ?_|refine AW.ret ?_|(refine GC ?_ ?_<;>intro h<;>(try simp only [hsB] at h)<;>try exact xf)|(refine GL ?_ ?_<;>intro h<;>(try simp only [hsN] at h)<;>(try simp only [h])<;>(try simp only [hsB] at h)<;>try exact xf)|fail)))
 all_goals exact RetQ.fr 1 (h3:=by show (lts 1 cs&&true)=true;rw [hcs];rfl)
theorem of_Found(cs:List V)(hcs:lts 1 cs=true):AC Tryz.prog 115 [.p 0 0] [.box 38 cs] fun y σ=>y=.p 0 3∧σ=[.box 38 cs]:=by
 refine AC.wk Tryz.func115 ?_
 focus ((repeat' (first|refine G ?_|refine AW.ret ?_|(refine GC ?_ ?_<;>intro h<;>(try simp only [hsB] at h)<;>try exact xf)|(refine GL ?_ ?_<;>intro h<;>(try simp only [hsN] at h)<;>(try simp only [h])<;>(try simp only [hsB] at h)<;>try exact xf)|fail)))
 all_goals exact RetQ.fr 1 (h3:=by show (lts 1 cs&&true)=true;rw [hcs];rfl)
theorem of_Dead(cs:List V)(hcs:lts 1 cs=true):AC Tryz.prog 121 [.p 0 0] [.box 38 cs] fun y σ=>y=.p 0 10∧σ=[.box 38 cs]:=by
 refine AC.wk Tryz.func121 ?_
 focus ((repeat' (first|refine G ?_|refine AW.ret ?_|(refine GC ?_ ?_<;>intro h<;>(try simp only [hsB] at h)<;>try exact xf)|(refine GL ?_ ?_<;>intro h<;>(try simp only [hsN] at h)<;>(try simp only [h])<;>(try simp only [hsB] at h)<;>try exact xf)|fail)))
 all_goals exact RetQ.fr 1 (h3:=by show (lts 1 cs&&true)=true;rw [hcs];rfl)
theorem msg_text(n:Int)(b:Bool)(k:FuncId):AC Tryz.prog 112 [iv .i64 n,bv b,.f (.func k) [] []] [] fun y σ=>y=.a [.f (.func 168) [] [.p 1 0,.p 2 0,.p 0 0],.f (.func 170) [] [.p 0 0,.p 2 0],.f (.func 172) [] [.p 0 0,.p 2 0,.p 1 0],.f (.func 174) [] [.p 2 0]]∧σ=[.box 3 [iv .i64 n],.box 4 [bv b],.box 188 [.f (.func k) [] []]]:=by
 refine AC.wk Tryz.func112 ?_
 focus ((repeat' (first|refine G ?_|refine AW.ret ?_|(refine GC ?_ ?_<;>intro h<;>(try simp only [hsB] at h)<;>try exact xf)|(refine GL ?_ ?_<;>intro h<;>(try simp only [hsN] at h)<;>(try simp only [h])<;>(try simp only [hsB] at h)<;>try exact xf)|fail)))
 all_goals first|(((all_goals first|refine RetQ.yr 3 (xs:=[.a [.f (.func 168) [] [.p 1 0,.p 2 0,.p 0 0],.f (.func 170) [] [.p 0 0,.p 2 0],.f (.func 172) [] [.p 0 0,.p 2 0,.p 1 0],.f (.func 174) [] [.p 2 0]]]) ⟨?_,?_⟩|refine RetQ.yn 3 (xs:=[.a [.f (.func 168) [] [.p 1 0,.p 2 0,.p 0 0],.f (.func 170) [] [.p 0 0,.p 2 0],.f (.func 172) [] [.p 0 0,.p 2 0,.p 1 0],.f (.func 174) [] [.p 2 0]]]) ⟨?_,?_⟩);(all_goals exact fx));done)|exact xg
theorem msg_flag(k:FuncId):AC Tryz.prog 114 [.f (.func k) [] []] [] fun y σ=>y=.a [.f (.func 175) [] [],.f (.func 176) [] [.p 0 0],.f (.func 178) [] [.p 0 0],.f (.func 179) [] [.p 0 0]]∧σ=[.box 191 [.f (.func k) [] []]]:=by
 refine AC.wk Tryz.func114 ?_
 focus ((repeat' (first|refine G ?_|refine AW.ret ?_|(refine GC ?_ ?_<;>intro h<;>(try simp only [hsB] at h)<;>try exact xf)|(refine GL ?_ ?_<;>intro h<;>(try simp only [hsN] at h)<;>(try simp only [h])<;>(try simp only [hsB] at h)<;>try exact xf)|fail)))
 all_goals first|(((all_goals first|refine RetQ.yr 1 (xs:=[.a [.f (.func 175) [] [],.f (.func 176) [] [.p 0 0],.f (.func 178) [] [.p 0 0],.f (.func 179) [] [.p 0 0]]]) ⟨?_,?_⟩|refine RetQ.yn 1 (xs:=[.a [.f (.func 175) [] [],.f (.func 176) [] [.p 0 0],.f (.func 178) [] [.p 0 0],.f (.func 179) [] [.p 0 0]]]) ⟨?_,?_⟩);(all_goals exact fx));done)|exact xg
theorem msg_objectPart:AC Tryz.prog 119 [] [] fun y σ=>y=.a [.f (.func 193) [] [],.f (.func 195) [] [],.f (.func 197) [] [],.f (.func 199) [] []]∧σ=[]:=by
 refine AC.wk Tryz.func119 ?_
 focus ((repeat' (first|refine G ?_|refine AW.ret ?_|(refine GC ?_ ?_<;>intro h<;>(try simp only [hsB] at h)<;>try exact xf)|(refine GL ?_ ?_<;>intro h<;>(try simp only [hsN] at h)<;>(try simp only [h])<;>(try simp only [hsB] at h)<;>try exact xf)|fail)))
 all_goals first|(((all_goals first|refine RetQ.yr 0 (xs:=[.a [.f (.func 193) [] [],.f (.func 195) [] [],.f (.func 197) [] [],.f (.func 199) [] []]]) ⟨?_,?_⟩|refine RetQ.yn 0 (xs:=[.a [.f (.func 193) [] [],.f (.func 195) [] [],.f (.func 197) [] [],.f (.func 199) [] []]]) ⟨?_,?_⟩);(all_goals exact fx));done)|exact xg
theorem msg_oldPart:AC Tryz.prog 118 [] [] fun y σ=>y=.a [.f (.func 184) [] [],.f (.func 186) [] [],.f (.func 189) [] [],.f (.func 191) [] []]∧σ=[]:=by
 refine AC.wk Tryz.func118 ?_
 focus ((repeat' (first|refine G ?_|refine AW.ret ?_|(refine GC ?_ ?_<;>intro h<;>(try simp only [hsB] at h)<;>try exact xf)|(refine GL ?_ ?_<;>intro h<;>(try simp only [hsN] at h)<;>(try simp only [h])<;>(try simp only [hsB] at h)<;>try exact xf)|fail)))
 all_goals first|(((all_goals first|refine RetQ.yr 0 (xs:=[.a [.f (.func 184) [] [],.f (.func 186) [] [],.f (.func 189) [] [],.f (.func 191) [] []]]) ⟨?_,?_⟩|refine RetQ.yn 0 (xs:=[.a [.f (.func 184) [] [],.f (.func 186) [] [],.f (.func 189) [] [],.f (.func 191) [] []]]) ⟨?_,?_⟩);(all_goals exact fx));done)|exact xg
theorem msg_ctxPart:AC Tryz.prog 122 [] [] fun y σ=>y=.a [.f (.func 206) [] [],.f (.func 208) [] [],.f (.func 210) [] [],.f (.func 211) [] []]∧σ=[]:=by
 refine AC.wk Tryz.func122 ?_
 focus ((repeat' (first|refine G ?_|refine AW.ret ?_|(refine GC ?_ ?_<;>intro h<;>(try simp only [hsB] at h)<;>try exact xf)|(refine GL ?_ ?_<;>intro h<;>(try simp only [hsN] at h)<;>(try simp only [h])<;>(try simp only [hsB] at h)<;>try exact xf)|fail)))
 all_goals first|(((all_goals first|refine RetQ.yr 0 (xs:=[.a [.f (.func 206) [] [],.f (.func 208) [] [],.f (.func 210) [] [],.f (.func 211) [] []]]) ⟨?_,?_⟩|refine RetQ.yn 0 (xs:=[.a [.f (.func 206) [] [],.f (.func 208) [] [],.f (.func 210) [] [],.f (.func 211) [] []]]) ⟨?_,?_⟩);(all_goals exact fx));done)|exact xg
theorem msg_metaPart:AC Tryz.prog 123 [] [] fun y σ=>y=.a [.f (.func 212) [] [],.f (.func 214) [] [],.f (.func 216) [] [],.f (.func 217) [] []]∧σ=[]:=by
 refine AC.wk Tryz.func123 ?_
 focus ((repeat' (first|refine G ?_|refine AW.ret ?_|(refine GC ?_ ?_<;>intro h<;>(try simp only [hsB] at h)<;>try exact xf)|(refine GL ?_ ?_<;>intro h<;>(try simp only [hsN] at h)<;>(try simp only [h])<;>(try simp only [hsB] at h)<;>try exact xf)|fail)))
 all_goals first|(((all_goals first|refine RetQ.yr 0 (xs:=[.a [.f (.func 212) [] [],.f (.func 214) [] [],.f (.func 216) [] [],.f (.func 217) [] []]]) ⟨?_,?_⟩|refine RetQ.yn 0 (xs:=[.a [.f (.func 212) [] [],.f (.func 214) [] [],.f (.func 216) [] [],.f (.func 217) [] []]]) ⟨?_,?_⟩);(all_goals exact fx));done)|exact xg
theorem msg_pagePart:AC Tryz.prog 126 [] [] fun y σ=>y=.a [.f (.func 219) [] [],.f (.func 221) [] [],.f (.func 223) [] [],.f (.func 224) [] []]∧σ=[]:=by
 refine AC.wk Tryz.func126 ?_
 focus ((repeat' (first|refine G ?_|refine AW.ret ?_|(refine GC ?_ ?_<;>intro h<;>(try simp only [hsB] at h)<;>try exact xf)|(refine GL ?_ ?_<;>intro h<;>(try simp only [hsN] at h)<;>(try simp only [h])<;>(try simp only [hsB] at h)<;>try exact xf)|fail)))
 all_goals first|(((all_goals first|refine RetQ.yr 0 (xs:=[.a [.f (.func 219) [] [],.f (.func 221) [] [],.f (.func 223) [] [],.f (.func 224) [] []]]) ⟨?_,?_⟩|refine RetQ.yn 0 (xs:=[.a [.f (.func 219) [] [],.f (.func 221) [] [],.f (.func 223) [] [],.f (.func 224) [] []]]) ⟨?_,?_⟩);(all_goals exact fx));done)|exact xg
theorem msg_ringPart:AC Tryz.prog 127 [] [] fun y σ=>y=.a [.f (.func 227) [] [],.f (.func 229) [] [],.f (.func 232) [] [],.f (.func 233) [] []]∧σ=[]:=by
 refine AC.wk Tryz.func127 ?_
 focus ((repeat' (first|refine G ?_|refine AW.ret ?_|(refine GC ?_ ?_<;>intro h<;>(try simp only [hsB] at h)<;>try exact xf)|(refine GL ?_ ?_<;>intro h<;>(try simp only [hsN] at h)<;>(try simp only [h])<;>(try simp only [hsB] at h)<;>try exact xf)|fail)))
 all_goals first|(((all_goals first|refine RetQ.yr 0 (xs:=[.a [.f (.func 227) [] [],.f (.func 229) [] [],.f (.func 232) [] [],.f (.func 233) [] []]]) ⟨?_,?_⟩|refine RetQ.yn 0 (xs:=[.a [.f (.func 227) [] [],.f (.func 229) [] [],.f (.func 232) [] [],.f (.func 233) [] []]]) ⟨?_,?_⟩);(all_goals exact fx));done)|exact xg
theorem msg_codePart:AC Tryz.prog 120 [] [] fun y σ=>y=.a [.f (.func 201) [] [],.f (.func 202) [] [],.f (.func 204) [] [],.f (.func 205) [] []]∧σ=[]:=by
 refine AC.wk Tryz.func120 ?_
 focus ((repeat' (first|refine G ?_|refine AW.ret ?_|(refine GC ?_ ?_<;>intro h<;>(try simp only [hsB] at h)<;>try exact xf)|(refine GL ?_ ?_<;>intro h<;>(try simp only [hsN] at h)<;>(try simp only [h])<;>(try simp only [hsB] at h)<;>try exact xf)|fail)))
 all_goals first|(((all_goals first|refine RetQ.yr 0 (xs:=[.a [.f (.func 201) [] [],.f (.func 202) [] [],.f (.func 204) [] [],.f (.func 205) [] []]]) ⟨?_,?_⟩|refine RetQ.yn 0 (xs:=[.a [.f (.func 201) [] [],.f (.func 202) [] [],.f (.func 204) [] [],.f (.func 205) [] []]]) ⟨?_,?_⟩);(all_goals exact fx));done)|exact xg
theorem msg_found_object:AC Tryz.prog 117 [.a [.f (.func 193) [] [],.f (.func 195) [] [],.f (.func 197) [] [],.f (.func 199) [] []]] [] fun y σ=>y=.a [.f (.func 180) [] [.p 0 0],.f (.func 181) [] [.p 0 0],.f (.func 182) [] [.p 0 0],.f (.func 183) [] [.p 0 0]]∧σ=[qo17]:=by
 refine AC.wk Tryz.func117 ?_
 focus ((repeat' (first|refine G ?_|refine AW.ret ?_|(refine GC ?_ ?_<;>intro h<;>(try simp only [hsB] at h)<;>try exact xf)|(refine GL ?_ ?_<;>intro h<;>(try simp only [hsN] at h)<;>(try simp only [h])<;>(try simp only [hsB] at h)<;>try exact xf)|fail)))
 all_goals first|(((all_goals first|refine RetQ.yr 1 (xs:=[.a [.f (.func 180) [] [.p 0 0],.f (.func 181) [] [.p 0 0],.f (.func 182) [] [.p 0 0],.f (.func 183) [] [.p 0 0]]]) ⟨?_,?_⟩|refine RetQ.yn 1 (xs:=[.a [.f (.func 180) [] [.p 0 0],.f (.func 181) [] [.p 0 0],.f (.func 182) [] [.p 0 0],.f (.func 183) [] [.p 0 0]]]) ⟨?_,?_⟩);(all_goals exact fx));done)|exact xg
theorem msg_found_old:AC Tryz.prog 117 [.a [.f (.func 184) [] [],.f (.func 186) [] [],.f (.func 189) [] [],.f (.func 191) [] []]] [] fun y σ=>y=.a [.f (.func 180) [] [.p 0 0],.f (.func 181) [] [.p 0 0],.f (.func 182) [] [.p 0 0],.f (.func 183) [] [.p 0 0]]∧σ=[qo18]:=by
 refine AC.wk Tryz.func117 ?_
 focus ((repeat' (first|refine G ?_|refine AW.ret ?_|(refine GC ?_ ?_<;>intro h<;>(try simp only [hsB] at h)<;>try exact xf)|(refine GL ?_ ?_<;>intro h<;>(try simp only [hsN] at h)<;>(try simp only [h])<;>(try simp only [hsB] at h)<;>try exact xf)|fail)))
 all_goals first|(((all_goals first|refine RetQ.yr 1 (xs:=[.a [.f (.func 180) [] [.p 0 0],.f (.func 181) [] [.p 0 0],.f (.func 182) [] [.p 0 0],.f (.func 183) [] [.p 0 0]]]) ⟨?_,?_⟩|refine RetQ.yn 1 (xs:=[.a [.f (.func 180) [] [.p 0 0],.f (.func 181) [] [.p 0 0],.f (.func 182) [] [.p 0 0],.f (.func 183) [] [.p 0 0]]]) ⟨?_,?_⟩);(all_goals exact fx));done)|exact xg
end Go.AW
