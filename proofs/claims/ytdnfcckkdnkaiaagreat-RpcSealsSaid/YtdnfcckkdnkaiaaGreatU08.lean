/-
  vectors that are written: the program's and the document's; whole texts.
-/
import Derived.Test.YtdnfcckkdnkaiaaGreatU07
set_option linter.unusedVariables false
set_option linter.unusedSimpArgs false
set_option maxHeartbeats 4000000
set_option maxRecDepth 10000
namespace Go.AW
open Go Go.Proofs
attribute [local irreducible] thenQ blockQ RetQ AL AW AC AOp
abbrev vecsD(l:List Vec):List D:=l.map fun v=>D.l v.length (vecD v)
theorem vecs_drop{l r:List Vec}{v:Vec}{i:Nat}(h:l.drop i=v::r):(vecsD l).drop i=.l v.length (vecD v)::vecsD r:=by
 rw [vecsD,←List.map_drop,h];rfl
theorem Pe.ents_snoc(p:Pe)(v:Vec)(x:En):p.ents (v++[x])=(p.ents v).ent x:=by simp [Pe.ents,List.foldl_append]
theorem Pe.vecs_snoc(p:Pe)(l:List Vec)(v:Vec):p.vecs (l++[v])=(p.vecs l).vec v:=by simp [Pe.vecs,List.foldl_append]
theorem Pe.vecs_append(p:Pe)(l r:List Vec):p.vecs (l++r)=(p.vecs l).vecs r:=List.foldl_append ..
theorem take_flat{α:Type}(f:α→List UInt8)(l:List α)(i:Nat):((l.take i).map f).flatten.length+((l.drop i).map f).flatten.length=(l.map f).flatten.length:=by
 rw [←List.length_append,←List.flatten_append,←List.map_append,List.take_append_drop]
theorem Pe.count_ok'{p:Pe}{n:Nat}(hn:n≤64):p.count 64 n=p.text (vput n):=by
 unfold Pe.count
 rw [if_neg (by omega),if_neg (by omega)]
 rfl
section
variable (b : List UInt8) (m e : Int)
theorem vcode_Put(ok:Pe.Ok ⟨b,m,e⟩)(l:List Vec)(hf:∀ v ∈ l,v.fits)(hn:l.length≤140737488355328)(hl:m≤140737488355328∨b.length+(l.map evec).flatten.length+20≤140737488355328) :
  AC Tryz.prog 209 [.p 0 0,.d (.l l.length (vecsD l))] (Pe.obs ⟨b,m,e⟩) fun x σ=>x=.t []∧σ=Pe.obs (Pe.vecs ⟨b,m,e⟩ l):=by
 refine AC.wk Tryz.func209 ?_
 focus ((repeat' (first|refine G ?_|refine AW.ret ?_|(refine GC ?_ ?_<;>intro h<;>(try simp only [hsB] at h)<;>try exact xf)|(refine GL ?_ ?_<;>intro h<;>(try simp only [hsN] at h)<;>(try simp only [h])<;>(try simp only [hsB] at h)<;>try exact xf)|fail)))
 refine AW.rounds [0,9,10,11] (fun i:Nat=>[(0,.p 0 0),(9,.d (.l l.length (vecsD l))),(10,iv .i64 l.length),(11,iv .i64 i)]) (fun i=>Pe.obs (Pe.vecs ⟨b,m,e⟩ (l.take i)))
  (fun i=>i≤l.length) (fun i=>l.length-i) 0 (Nat.zero_le _) rfl rfl (fun _ _=>Nat.le_of_ble_eq_true rfl) (fun _ _=>rfl) (fun _ _=>rfl) ?_
 intro i hi J hJ
 generalize hq:Pe.vecs ⟨b,m,e⟩ (l.take i)=q
 have hqo:q.Ok∧q.m=m∧q.b.length≤b.length+((l.take i).map evec).flatten.length:=by
  have h1:=take_flat evec l i
  rw [←hq]
  exact ⟨pens_vecs.keep ok (by simp only;omega),pens_vecs.m _ _,pens_vecs.len _ _⟩
 obtain ⟨hok,hqm,hqb⟩:=hqo
 by_cases hil:i<l.length
 case neg=>
  have hi2:i=l.length:=by omega
  rw [hi2,List.take_length] at hq
  subst hq
  focus ((repeat' (first|refine G ?_|refine AW.ret ?_|(refine GC ?_ ?_<;>intro h<;>(try simp only [hsB] at h)<;>try exact xf)|(refine GL ?_ ?_<;>intro h<;>(try simp only [hsN] at h)<;>(try simp only [h])<;>(try simp only [hsB] at h)<;>try exact xf)|fail)))
  (all_goals first|exact RetQ.fr 2|exact RetQ.fn 2|fail)
 obtain ⟨v,r,hd⟩:=next_at hil
 have hcd:=vecs_drop hd
 have hn2:Pe.vecs ⟨b,m,e⟩ (l.take (i+1))=q.vec v:=by rw [next_take hd,Pe.vecs_snoc,hq]
 have hfv:=hf v (next_mem hd)
 have htf:=take_flat evec l i
 rw [hd] at htf
 simp only [List.map_cons,List.flatten_cons,List.length_append] at htf
 by_cases hc:v.check=0
 case neg=>
  have hv:q.vec v=q.fail v.check:=by unfold Pe.vec;rw [if_pos hc]
  have hall:Pe.vecs ⟨b,m,e⟩ l=q.fail v.check:=by
   conv=>lhs;rw [←List.take_append_drop (i+1) l]
   rw [Pe.vecs_append,hn2,hv]
   exact pens_vecs.stuck _ _ (Pe.fail_e hc)
  rw [hall]
  (have kxs:=hcd;have kk1:=uN [] (vector_Check v hfv);have kud1:=fun za zb zc zd=>uN [0,1] (pen_Fail za zb zc zd);exact Wd2)
 have hvec:q.vec v=(q.text (vput v.length)).ents v:=by unfold Pe.vec;rw [if_neg (by simpa using hc)]
 obtain ⟨hv64,hv32⟩:=Vec.check_len hc
 have hcnt:Pe.count ⟨q.b,q.m,q.e⟩ 64 (v.length:Nat)=q.text (vput v.length):=Pe.count_ok' hv64
 have hevl:(evec v).length=(vput v.length).length+(v.map eent).flatten.length:=by unfold evec;rw [List.length_append]
 have hpl:=Pe.text_len q (vput v.length)
 have hpm:=Pe.text_m q (vput v.length)
 have hpo:=Pe.text_ok (s:=vput v.length) hok (by omega)
 have hvl:=vput_len10 (n:=v.length) (by omega)
 generalize hp:q.text (vput v.length)=p at *
 have hqc:q.m≤140737488355328∨q.b.length+10≤140737488355328:=by omega
 focus (have kxs:=And.intro hcd (And.intro hc hcnt);have kk1:=uN [] (vector_Check v hfv);have kk2:=uN [0,1] (blob_PutCount q.b q.m q.e 64 hok (v.length:Nat) (by omega) hqc);(repeat' (first|refine G ?_|refine AW.ret ?_|(refine GC ?_ ?_<;>intro h<;>(try simp only [hsB] at h)<;>try exact xf)|(refine GL ?_ ?_<;>intro h<;>(try simp only [hsN] at h)<;>(try simp only [h])<;>(try simp only [hsB] at h)<;>try exact xf)|fail));all_goals clear kxs kk1 kk2)
 refine AW.rounds [0,9,10,11,26,27,28] (fun j:Nat=>[(0,.p 0 0),(9,.d (.l l.length (vecsD l))),(10,iv .i64 l.length),(11,iv .i64 i),(26,.d (.l v.length (vecD v))),(27,iv .i64 v.length),(28,iv .i64 j)]) (fun j=>Pe.obs (Pe.ents p (v.take j)))
  (fun j=>j≤v.length) (fun j=>v.length-j) 0 (Nat.zero_le _) rfl rfl (fun _ _=>Nat.le_of_ble_eq_true rfl) (fun _ _=>rfl) (fun _ _=>rfl) ?_
 intro j hj J2 hJ2
 generalize hq2:Pe.ents p (v.take j)=p2
 have hqo:p2.Ok∧p2.m=m∧p2.b.length≤p.b.length+((v.take j).map eent).flatten.length:=by
  have h1:=take_flat eent v j
  rw [←hq2]
  exact ⟨pens_ents.keep hpo (by omega),(pens_ents.m _ _).trans (hpm.trans hqm),pens_ents.len _ _⟩
 obtain ⟨hok2,hqm2,hqb2⟩:=hqo
 by_cases hjl:j<v.length
 case neg=>
  have hj2:j=v.length:=by omega
  rw [hj2,List.take_length] at hq2
  focus ((repeat' (first|refine G ?_|refine AW.ret ?_|(refine GC ?_ ?_<;>intro h<;>(try simp only [hsB] at h)<;>try exact xf)|(refine GL ?_ ?_<;>intro h<;>(try simp only [hsN] at h)<;>(try simp only [h])<;>(try simp only [hsB] at h)<;>try exact xf)|fail)))
  all_goals first
   | (refine hJ (i+1) _ _ (by omega) hil rfl ?_;rw [hn2,hvec,hq2];rfl)
   | (exfalso;simp_all;done)
 obtain ⟨x,r2,hd2⟩:=next_at hjl
 have hcd2:=vec_drop hd2
 have hn3:Pe.ents p (v.take (j+1))=p2.ent x:=by rw [next_take hd2,Pe.ents_snoc,hq2]
 have htf2:=take_flat eent v j
 rw [hd2] at htf2
 simp only [List.map_cons,List.flatten_cons,List.length_append] at htf2
 have hx32:=hv32 x (next_mem hd2)
 have hxn:=hfv.2.2 x (next_mem hd2)
 have hel:(eent x).length=(vput x.1.length).length+x.1.length+(vput x.2).length:=by unfold eent eblob;simp only [List.length_append]
 have hbl:=Pe.blob_m p2 32 x.1
 have hbo:=Pe.blob_ok (p:=p2) (max:=32) (s:=x.1) hok2 (by omega) (by omega)
 have hble:=(pens_blob 32).len p2 x.1
 have hebl:(eblob x.1).length=(vput x.1.length).length+x.1.length:=by unfold eblob;rw [List.length_append]
 generalize hp3:p2.blob 32 x.1=p3 at *
 have hp3':Pe.blob ⟨p2.b,p2.m,p2.e⟩ 32 x.1=p3:=hp3
 have hent:p2.ent x=p3.text (vput x.2):=by unfold Pe.ent;rw [hp3]
 focus (have kxs:=And.intro hcd2 hp3';have kk1:=uN [0,1] (blob_Put1 p2.b x.1 p2.m p2.e 32 hok2 (by omega) (by omega));have kk2:=uN [0,1] (varint_Put1 p3.b p3.m p3.e hbo x.2 hxn (by omega));(repeat' (first|refine G ?_|refine AW.ret ?_|(refine GC ?_ ?_<;>intro h<;>(try simp only [hsB] at h)<;>try exact xf)|(refine GL ?_ ?_<;>intro h<;>(try simp only [hsN] at h)<;>(try simp only [h])<;>(try simp only [hsB] at h)<;>try exact xf)|fail));all_goals clear kxs kk1 kk2)
 all_goals first
  | (refine hJ2 (j+1) _ _ (by omega) hjl rfl ?_;rw [hn3,hent];rfl)
  | (exfalso;simp_all;done)
end
section
variable (b : List UInt8) (m e : Int)
theorem vcode_Put1(ok:Pe.Ok ⟨b,m,e⟩)(v:Vec)(hf:v.fits)(hl:m≤140737488355328∨b.length+(evec v).length+20≤140737488355328) :
  AC Tryz.prog 209 [.p 0 0,.d (.l 1 [.l v.length (vecD v)])] (Pe.obs ⟨b,m,e⟩) fun x σ=>x=.t []∧σ=Pe.obs (Pe.vec ⟨b,m,e⟩ v):=
 vcode_Put b m e ok [v] (by simpa using hf) (by simp) (by simpa using hl)
end
theorem pe0_ok:Pe.Ok ⟨[],65536,0⟩:=⟨by decide,by decide,by decide⟩
def idx{α:Type}(p:α→Bool):List α→Int→Int
 | [],_=>-1
 | x::l,i=>if p x=true then i else idx p l (i+1)
theorem idx_any{α:Type}(p:α→Bool):∀ (l:List α) (i:Int),0≤i→decide (0≤idx p l i)=l.any p
 | [],i,h=>by simp [idx]
 | x::l,i,h=>by
  unfold idx
  rw [List.any_cons]
  split
  ·rename_i hx;simp [hx,h]
  ·rename_i hx
   rw [idx_any p l (i+1) (by omega)]
   have:p x=false:=by simpa using hx
   rw [this,Bool.false_or]
theorem index_OldSib{α:Type}(l:List α)(D3:α→List D)(h3:∀ x,∃ a b c,D3 x=[a,b,c]∧nz (.d a)=.d a∧nz (.d b)=.d b∧nz (.d c)=.d c)(g:FuncId)(ca:List V)(σ:List Ob)(p:α→Bool)(hca:lts σ.length ca=true)(hσ:obsLt σ.length σ=true)(hnz:nzs ca=ca)
  (hl:l.length≤9223372036854775807) (hc:∀ x ∈ l,AC Tryz.prog g (.a ((D3 x).map .d)::ca) σ fun y σ'=>y=bv (p x)∧σ'=σ) :
  AC Tryz.prog 276 [.d (.l l.length ((l.map D3).flatten)),.f (.func g) [] ca] σ fun y σ'=>y=iv .i64 (idx p l 0)∧σ'=σ:=by
 refine AC.wk Tryz.func276 ?_
 generalize hR:idx p l 0=R
 focus ((repeat' (first|refine G ?_|refine AW.ret ?_|(refine GC ?_ ?_<;>intro h<;>(try simp only [hsB] at h)<;>try exact xf)|(refine GL ?_ ?_<;>intro h<;>(try simp only [hsN] at h)<;>(try simp only [h])<;>(try simp only [hsB] at h)<;>try exact xf)|fail)))
 refine AW.rounds [0,1,4,7,8] (fun i:Nat=>[(0,.d (.l l.length ((l.map D3).flatten))),(1,.f (.func g) [] ca),(4,iv .i64 0),(7,iv .i64 l.length),(8,iv .i64 i)]) (fun _=>σ) (fun i=>i≤l.length∧idx p (l.drop i) i=R) (fun i=>l.length-i) 0 ⟨Nat.zero_le _,hR⟩ rfl (by simp)
  (fun _ _=>Nat.le_refl _) (fun _ _=>hσ) (fun _ _=>by simp [tLt,V.lt,hca,lts]) ?_
 rintro i ⟨hi,hr⟩ J hJ
 by_cases hil:i<l.length
 ·obtain ⟨x,r,hd⟩:=next_at hil
  obtain ⟨a,b,c,hx,ha,hb,hcn⟩:=h3 x
  have hcx:=hc x (next_mem hd)
  rw [hx] at hcx
  have hcd:((l.map D3).flatten).drop (i*3)=a::b::c::(r.map D3).flatten:=by
   rw [flat_drop (f:=D3) (sz:=3) (fun x=>by obtain ⟨a,b,c,h,_⟩:=h3 x;rw [h];rfl),hd]
   simp only [List.map_cons,List.flatten_cons,hx]
   rfl
  rw [hd] at hr
  have hnx:nzs (V.a [.d a,.d b,.d c]::ca)=V.a [.d a,.d b,.d c]::ca:=by
   show V.a [nz (.d a),nz (.d b),nz (.d c)]::nzs ca=_
   rw [ha,hb,hcn,hnz]
  focus (have kxs:=hcd;(repeat' (first|refine G ?_|refine AW.ret ?_|(refine GC ?_ ?_<;>intro h<;>(try simp only [hsB] at h)<;>try exact xf)|(refine GL ?_ ?_<;>intro h<;>(try simp only [hsN] at h)<;>(try simp only [h])<;>(try simp only [hsB] at h)<;>try exact xf)|fail));all_goals clear kxs)
  refine AL.callv (by decide) fun Kr hK=>?_
  refine AOp.cS (fun _ _=>rfl) rfl hcx hnx ?_
  rintro y obs ⟨hy,hobs⟩
  rw [hy,hobs]
  refine hK _ _ ?_
  clear hK Kr
  have hr2:R=if p x=true then (i:Int) else idx p r (i+1):=hr.symm
  cases hp:p x with
  | true=>
   rw [hp,if_pos rfl] at hr2
   rw [hr2]
   focus ((repeat' (first|refine G ?_|refine AW.ret ?_|(refine GC ?_ ?_<;>intro h<;>(try simp only [hsB] at h)<;>try exact xf)|(refine GL ?_ ?_<;>intro h<;>(try simp only [hsN] at h)<;>(try simp only [h])<;>(try simp only [hsB] at h)<;>try exact xf)|fail)))
   all_goals first|exact RetQ.r σ.length rfl (Nat.le_refl _) (by rw [List.take_length];exact hσ) rfl ⟨rfl,List.take_length⟩|(exfalso;simp_all;done)
  | false=>
   rw [hp,if_neg (by decide)] at hr2
   focus ((repeat' (first|refine G ?_|refine AW.ret ?_|(refine GC ?_ ?_<;>intro h<;>(try simp only [hsB] at h)<;>try exact xf)|(refine GL ?_ ?_<;>intro h<;>(try simp only [hsN] at h)<;>(try simp only [h])<;>(try simp only [hsB] at h)<;>try exact xf)|fail)))
   all_goals first|(refine hJ (i+1) _ _ (by omega) ⟨hil,by rw [next_drop hd];exact hr2.symm⟩ rfl (by simp))|(exfalso;simp_all;done)
 ·have h0:l.drop i=[]:=List.drop_eq_nil_of_le (by omega)
  rw [h0] at hr
  have hR0:R=-1:=hr.symm
  rw [hR0]
  focus ((repeat' (first|refine G ?_|refine AW.ret ?_|(refine GC ?_ ?_<;>intro h<;>(try simp only [hsB] at h)<;>try exact xf)|(refine GL ?_ ?_<;>intro h<;>(try simp only [hsN] at h)<;>(try simp only [h])<;>(try simp only [hsB] at h)<;>try exact xf)|fail)))
  all_goals first|exact RetQ.r σ.length rfl (Nat.le_refl _) (by rw [List.take_length];exact hσ) rfl ⟨rfl,List.take_length⟩|(exfalso;simp_all;done)
theorem contains_OldSib{α:Type}(l:List α)(D3:α→List D)(h3:∀ x,∃ a b c,D3 x=[a,b,c]∧nz (.d a)=.d a∧nz (.d b)=.d b∧nz (.d c)=.d c)(g:FuncId)(ca:List V)(σ:List Ob)(p:α→Bool)(hca:lts σ.length ca=true)(hσ:obsLt σ.length σ=true)(hnz:nzs ca=ca)
  (hl:l.length≤9223372036854775807) (hc:∀ x ∈ l,AC Tryz.prog g (.a ((D3 x).map .d)::ca) σ fun y σ'=>y=bv (p x)∧σ'=σ) :
  AC Tryz.prog 267 [.d (.l l.length ((l.map D3).flatten)),.f (.func g) [] ca] σ fun y σ'=>y=bv (l.any p)∧σ'=σ:=by
 refine AC.wk Tryz.func267 ?_
 have hi:=index_OldSib l D3 h3 g ca σ p hca hσ hnz hl hc
 have ha:=idx_any p l 0 (Int.le_refl 0)
 have hge:decide (idx p l 0≥0)=l.any p:=ha
 focus (have kxs:=hge;(repeat' (first|refine G ?_|refine AW.ret ?_|(refine GC ?_ ?_<;>intro h<;>(try simp only [hsB] at h)<;>try exact xf)|(refine GL ?_ ?_<;>intro h<;>(try simp only [hsN] at h)<;>(try simp only [h])<;>(try simp only [hsB] at h)<;>try exact xf)|fail));all_goals clear kxs)
 refine AL.callv (by decide) fun Kr hK=>?_
 refine AOp.cS (fun _ _=>rfl) rfl hi rfl ?_
 rintro y obs ⟨hy,hobs⟩
 rw [hy,hobs]
 refine hK _ _ ?_
 clear hK Kr
 focus (have kxs:=hge;(repeat' (first|refine G ?_|refine AW.ret ?_|(refine GC ?_ ?_<;>intro h<;>(try simp only [hsB] at h)<;>try exact xf)|(refine GL ?_ ?_<;>intro h<;>(try simp only [hsN] at h)<;>(try simp only [h])<;>(try simp only [hsB] at h)<;>try exact xf)|fail));all_goals clear kxs)
 all_goals first|exact RetQ.r σ.length rfl (Nat.le_refl _) (by rw [List.take_length];exact hσ) rfl ⟨rfl,List.take_length⟩|(exfalso;simp_all;done)
def osD(x:Os1):List D:=[.l x.clk.length (vecD x.clk),.s (.bool x.dead),.s (.string ⟨x.val.toArray⟩)]
abbrev ossD(l:List Os1):List D:=(l.map osD).flatten
abbrev osV(x:Os1):V:=.a [.d (.l x.clk.length (vecD x.clk)),bv x.dead,sv (bs x.val)]
abbrev odV(o:Od):V:=.a [sv (bs o.key),.d (.l o.sibs.length (ossD o.sibs))]
def Os1.fits(x:Os1):Prop:=x.clk.fits∧x.val.length≤9223372036854775807
def Od.fits(o:Od):Prop:=o.key.length≤9223372036854775807∧o.sibs.length≤9223372036854775807∧∀ x ∈ o.sibs,x.fits
theorem twice1(v:Vec)(x:Os1)(hx:x.clk.length≤9223372036854775807):AC Tryz.prog 268 [osV x,.p 0 0] [.box 30 [.d (.l v.length (vecD v))]] fun y σ'=>y=bv (decide (x.clk=v))∧σ'=[.box 30 [.d (.l v.length (vecD v))]]:=by
 refine AC.wk Tryz.func268 ?_
 (have kk1:=uN [] (vector_Same x.clk v hx);exact Wd1)
theorem legacy_twice(l:List Os1)(v:Vec)(hl:l.length≤9223372036854775807)(hx:∀ x ∈ l,x.clk.length≤9223372036854775807):AC Tryz.prog 251 [.d (.l l.length (ossD l)),.d (.l v.length (vecD v))] [] fun y σ'=>y=bv (l.any fun x=>decide (x.clk=v))∧σ'=[]:=by
 refine AC.wk Tryz.func251 ?_
 have hc:=contains_OldSib l osD (fun x=>⟨_,_,_,rfl,rfl,rfl,rfl⟩) 268 [.p 0 0] [.box 30 [.d (.l v.length (vecD v))]] (fun x=>decide (x.clk=v)) rfl rfl rfl hl (fun x hm=>twice1 v x (hx x hm))
 (have kk1:=uS hc;exact Wd0)
abbrev ckV(k:Ck):V:=.a [.d (.l k.ctx.length (vecD k.ctx)),bv k.dotted,sv (bs k.dot.1),iv .u64 k.dot.2]
def Ck.fits(k:Ck):Prop:=k.ctx.fits∧k.dot.1.length≤9223372036854775807∧k.dot.2<18446744073709551616
theorem vector_Count(v:Vec)(a:List UInt8)(hv:v.length≤9223372036854775807):AC Tryz.prog 277 [.d (.l v.length (vecD v)),sv (bs a)] [] fun x σ=>x=iv .u64 (v.count a)∧σ=[]:=by
 refine AC.wk Tryz.func277 ?_
 generalize hR:v.count a=R
 focus ((repeat' (first|refine G ?_|refine AW.ret ?_|(refine GC ?_ ?_<;>intro h<;>(try simp only [hsB] at h)<;>try exact xf)|(refine GL ?_ ?_<;>intro h<;>(try simp only [hsN] at h)<;>(try simp only [h])<;>(try simp only [hsB] at h)<;>try exact xf)|fail)))
 refine AW.rounds [1,4,7,8,9] (fun i:Nat=>[(1,sv (bs a)),(4,iv .u64 0),(7,.d (.l v.length (vecD v))),(8,iv .i64 v.length),(9,iv .i64 i)]) (fun _=>[])
  (fun i=>i≤v.length∧Vec.count (v.drop i) a=R) (fun i=>v.length-i) 0 ⟨Nat.zero_le _,hR⟩ rfl rfl (fun _ _=>Nat.zero_le _) (fun _ _=>rfl) (fun _ _=>rfl) ?_
 rintro i ⟨hi,hr⟩ J hJ
 by_cases hil:i<v.length
 ·obtain ⟨x,r,hd⟩:=next_at hil
  have hcd:=vec_drop hd
  rw [hd] at hr
  have hR2:R=if x.1=a then x.2 else Vec.count r a:=hr.symm
  by_cases hx:x.1=a
  ·rw [if_pos hx] at hR2
   subst hR2
   focus (have kxs:=hcd;(repeat' (first|refine G ?_|refine AW.ret ?_|(refine GC ?_ ?_<;>intro h<;>(try simp only [hsB] at h)<;>try exact xf)|(refine GL ?_ ?_<;>intro h<;>(try simp only [hsN] at h)<;>(try simp only [h])<;>(try simp only [hsB] at h)<;>try exact xf)|fail));all_goals clear kxs)
   all_goals first|(first|exact RetQ.zr 0|exact RetQ.zn 0|fail)|(exfalso;simp_all;done)
  ·rw [if_neg hx] at hR2
   focus (have kxs:=hcd;(repeat' (first|refine G ?_|refine AW.ret ?_|(refine GC ?_ ?_<;>intro h<;>(try simp only [hsB] at h)<;>try exact xf)|(refine GL ?_ ?_<;>intro h<;>(try simp only [hsN] at h)<;>(try simp only [h])<;>(try simp only [hsB] at h)<;>try exact xf)|fail));all_goals clear kxs)
   all_goals first|(refine hJ (i+1) _ _ (by omega) ⟨hil,by rw [next_drop hd];exact hR2.symm⟩ rfl rfl)|(exfalso;simp_all;done)
 ·have h0:v.drop i=[]:=List.drop_eq_nil_of_le (by omega)
  rw [h0] at hr
  have hR0:R=0:=hr.symm
  rw [hR0]
  focus ((repeat' (first|refine G ?_|refine AW.ret ?_|(refine GC ?_ ?_<;>intro h<;>(try simp only [hsB] at h)<;>try exact xf)|(refine GL ?_ ?_<;>intro h<;>(try simp only [hsN] at h)<;>(try simp only [h])<;>(try simp only [hsB] at h)<;>try exact xf)|fail)))
  all_goals first|(first|exact RetQ.zr 0|exact RetQ.zn 0|fail)|exact RetQ.fr 0|exact RetQ.fn 0
theorem dotted_Check(k:Ck)(hk:k.fits):AC Tryz.prog 269 [ckV k] [] fun x σ=>x=iv .i64 k.check∧σ=[]:=by
 obtain ⟨v,f,t,n⟩:=k
 obtain ⟨hv,ht,hn⟩:=hk
 simp only at hv ht hn
 refine AC.wk Tryz.func269 ?_
 by_cases hc:v.check=0
 case neg=>
  have hR:Ck.check ⟨v,f,(t,n)⟩=v.check:=by unfold Ck.check;rw [if_pos hc]
  rw [hR]
  focus (have kk1:=uN [] (vector_Check v hv);(repeat' (first|(refine ADr.nil ?_;try clear hgv)|refine GO ?_|refine AW.ret ?_|(refine GC ?_ ?_<;>intro h<;>(try simp only [hsB] at h)<;>try exact xf)|(refine GD ?_ ?_<;>intro h<;>(try intro hgv)<;>(try simp only [hsN] at h)<;>(try simp only [h])<;>(try simp only [hsB] at h)<;>try exact xf)|(refine GL ?_ ?_<;>intro h<;>(try simp only [hsN] at h)<;>(try simp only [h])<;>(try simp only [hsB] at h)<;>try exact xf)|fail));all_goals clear kk1)
  all_goals first|(first|exact RetQ.zr 0|exact RetQ.zn 0|fail)|(exfalso;simp_all;done)
 cases f with
 | false=>
  by_cases hz:t=[]∧n=0
  ·obtain ⟨rfl,rfl⟩:=hz
   have hR:Ck.check ⟨v,false,([],0)⟩=0:=by unfold Ck.check;simp [hc]
   rw [hR]
   focus (have kxs:=hc;have kk1:=uN [] (vector_Check v hv);(repeat' (first|(refine ADr.nil ?_;try clear hgv)|refine GO ?_|refine AW.ret ?_|(refine GC ?_ ?_<;>intro h<;>(try simp only [hsB] at h)<;>try exact xf)|(refine GD ?_ ?_<;>intro h<;>(try intro hgv)<;>(try simp only [hsN] at h)<;>(try simp only [h])<;>(try simp only [hsB] at h)<;>try exact xf)|(refine GL ?_ ?_<;>intro h<;>(try simp only [hsN] at h)<;>(try simp only [h])<;>(try simp only [hsB] at h)<;>try exact xf)|fail));all_goals clear kxs kk1)
   all_goals first|(first|exact RetQ.zr 0|exact RetQ.zn 0|fail)|(exfalso;simp_all;done)
  ·have hR:Ck.check ⟨v,false,(t,n)⟩=1:=by
     unfold Ck.check
     simp only
     rw [if_neg (by simpa using hc),if_pos trivial,if_pos (by intro e;exact hz ⟨(Prod.mk.inj e).1,(Prod.mk.inj e).2⟩)]
   rw [hR]
   focus (have kxs:=hc;have kk1:=uN [] (vector_Check v hv);(repeat' (first|(refine ADr.nil ?_;try clear hgv)|refine GO ?_|refine AW.ret ?_|(refine GC ?_ ?_<;>intro h<;>(try simp only [hsB] at h)<;>try exact xf)|(refine GD ?_ ?_<;>intro h<;>(try intro hgv)<;>(try simp only [hsN] at h)<;>(try simp only [h])<;>(try simp only [hsB] at h)<;>try exact xf)|(refine GL ?_ ?_<;>intro h<;>(try simp only [hsN] at h)<;>(try simp only [h])<;>(try simp only [hsB] at h)<;>try exact xf)|fail));all_goals clear kxs kk1)
   all_goals first|(first|exact RetQ.zr 0|exact RetQ.zn 0|fail)|(exfalso;simp_all;try omega)
 | true=>
  have hR:Ck.check ⟨v,true,(t,n)⟩=if 32<t.length then 3 else if t=[] then 14 else if n=0 then 7 else if n≤v.count t then 15 else 0:=by unfold Ck.check;simp [hc]
  rw [hR]
  clear hR
  focus (have kxs:=hc;have kk1:=uN [] (vector_Check v hv);have kk2:=uN [] (vector_Count v t hv.1);(repeat' (first|(refine ADr.nil ?_;try clear hgv)|refine GO ?_|refine AW.ret ?_|(refine GC ?_ ?_<;>intro h<;>(try simp only [hsB] at h)<;>try exact xf)|(refine GD ?_ ?_<;>intro h<;>(try intro hgv)<;>(try simp only [hsN] at h)<;>(try simp only [h])<;>(try simp only [hsB] at h)<;>try exact xf)|(refine GL ?_ ?_<;>intro h<;>(try simp only [hsN] at h)<;>(try simp only [h])<;>(try simp only [hsB] at h)<;>try exact xf)|fail));all_goals clear kxs kk1 kk2)
  all_goals first
   | (rw [if_pos (by omega)];(first|exact RetQ.zr 0|exact RetQ.zn 0|fail))
   | (rw [if_neg (by omega),if_pos (by first|assumption|simp_all)];(first|exact RetQ.zr 0|exact RetQ.zn 0|fail))
   | (rw [if_neg (by omega),if_neg (by first|assumption|simp_all),if_pos (by omega)];(first|exact RetQ.zr 0|exact RetQ.zn 0|fail))
   | (rw [if_neg (by omega),if_neg (by first|assumption|simp_all),if_neg (by omega),if_pos (by omega)];(first|exact RetQ.zr 0|exact RetQ.zn 0|fail))
   | (rw [if_neg (by omega),if_neg (by first|assumption|simp_all),if_neg (by omega),if_neg (by omega)];(first|exact RetQ.zr 0|exact RetQ.zn 0|fail))
theorem ck_eq(k o:Ck):(decide (k.ctx=o.ctx)&&(decide (k.dotted=o.dotted)&&(decide (k.dot.1=o.dot.1)&&(decide ((k.dot.2:Int)=o.dot.2)&&true))))=true↔k=o:=by
 obtain ⟨a,b,c,d⟩:=k
 obtain ⟨a',b',c',d'⟩:=o
 simp only [Bool.and_eq_true,decide_eq_true_eq,and_true,Int.natCast_inj,Ck.mk.injEq,Prod.mk.injEq]
instance:DecidableEq Ck:=fun k o=>decidable_of_iff _ (ck_eq k o)
theorem gd_yes(f:Int)(c:Cu):gd true f c=c:=rfl
theorem gd_no(f:Int)(c:Cu):gd false f c=c.fail f:=rfl
theorem dot_eq{v:Vec}{c c1 q c2:Cu}{t:List UInt8}{n:Nat}(hb:c.blob 32=(t,c1))(hq:(if t=[] then c1.fail 14 else c1)=q)(hv:q.vtake=(n,c2)) :
  c.dot v=((t,n),if n=0 then c2.fail 7 else if n≤v.count t then c2.fail 15 else c2):=by
 have h1:c.dact=(t,q):=by
  unfold Cu.dact
  rw [hb]
  simp only
  rw [←hq]
  by_cases ht:t=[]
  ·rw [if_pos ht];subst ht;rfl
  ·have:decide (t≠[])=true:=by simpa using ht
   rw [if_neg ht,this];rfl
 unfold Cu.dot rseq
 rw [h1]
 unfold Cu.dnum
 rw [hv]
 simp only
 by_cases hn:n=0
 ·subst hn
  have h2:decide ((0:Nat)≠0)=false:=by simp
  rw [h2,gd_no,if_pos rfl,gd_stuck (Cu.fail_e (by decide))]
 ·have h2:decide (n≠0)=true:=by simpa using hn
  rw [h2,gd_yes,if_neg hn]
  by_cases hl:n≤v.count t
  ·have h3:decide (v.count t<n)=false:=by simp;omega
   rw [h3,gd_no,if_pos hl]
  ·have h3:decide (v.count t<n)=true:=by simp;omega
   rw [h3,gd_yes,if_neg hl]
theorem clk_eq{c c1 c2 c3:Cu}{v:Vec}{f:Bool}{d:En}(h1:c.vec=(v,c1))(h2:c1.flag=(f,c2))(h3:Cu.dotq v f c2=(d,c3)):c.clk=(if c3.e≠0 then ck0 else ⟨v,f,d⟩,c3):=by
 have:c.clk0=((v,(f,d)),c3):=by
  unfold Cu.clk0 rseq
  rw [h1]
  simp only
  rw [h2]
  simp only
  rw [h3]
 unfold Cu.clk
 rw [this]
theorem dcode_dot(c:Cu)(h:c.Ok)(v:Vec)(hv:v.length≤64):AC Tryz.prog 280 [.p 0 0,.d (.l v.length (vecD v))] [Cu.ob c] fun x σ=>x=.a [sv (bs (c.dot v).1.1),iv .u64 (c.dot v).1.2]∧σ=[Cu.ob (c.dot v).2]:=by
 refine AC.wk Tryz.func280 ?_
 have hbok:=Cu.blob_ok (max:=32) h
 cases hb:c.blob 32 with
 | mk t c1=>
 rw [hb] at hbok
 have hb':Cu.blob ⟨c.s,c.a,c.e⟩ 32=(t,c1):=hb
 by_cases ht:t=[]
 ·subst ht
  have hqok:(c1.fail 14).Ok:=hbok
  cases hq:(c1.fail 14).vtake with
  | mk n c2=>
  have hq':Cu.vtake ⟨(c1.fail 14).s,(c1.fail 14).a,(c1.fail 14).e⟩=(n,c2):=hq
  rw [dot_eq hb (if_pos rfl) hq]
  by_cases hn:n=0
  ·rw [if_pos hn]
   (have kxs:=And.intro hb' hq';have kk1:=uN [0] (blob_Take c.s c.a c.e 32 h (by decide));have kk2:=uN [0] (varint_Take (c1.fail 14).s (c1.fail 14).a (c1.fail 14).e hqok);have kk3:=uN [0] (cursor_Fail c1.s c1.a c1.e 14);have kk4:=uN [0] (cursor_Fail c2.s c2.a c2.e 7);exact We1)
  rw [if_neg hn]
  by_cases hl:n≤v.count []
  ·rw [if_pos hl]
   (have kxs:=And.intro hb' hq';have kk1:=uN [0] (blob_Take c.s c.a c.e 32 h (by decide));have kk2:=uN [0] (varint_Take (c1.fail 14).s (c1.fail 14).a (c1.fail 14).e hqok);have kk3:=uN [0] (cursor_Fail c1.s c1.a c1.e 14);have kk4:=uN [0] (cursor_Fail c2.s c2.a c2.e 15);have kk5:=uN [] (vector_Count v [] (by omega));exact We1)
  ·rw [if_neg hl]
   (have kxs:=And.intro hb' hq';have kk1:=uN [0] (blob_Take c.s c.a c.e 32 h (by decide));have kk2:=uN [0] (varint_Take (c1.fail 14).s (c1.fail 14).a (c1.fail 14).e hqok);have kk3:=uN [0] (cursor_Fail c1.s c1.a c1.e 14);have kk4:=uN [] (vector_Count v [] (by omega));exact We1)
 ·cases hq:c1.vtake with
  | mk n c2=>
  have hq':Cu.vtake ⟨c1.s,c1.a,c1.e⟩=(n,c2):=hq
  rw [dot_eq hb (if_neg ht) hq]
  by_cases hn:n=0
  ·rw [if_pos hn]
   (have kxs:=And.intro hb' hq';have kk1:=uN [0] (blob_Take c.s c.a c.e 32 h (by decide));have kk2:=uN [0] (varint_Take c1.s c1.a c1.e hbok);have kk3:=uN [0] (cursor_Fail c2.s c2.a c2.e 7);exact We1)
  rw [if_neg hn]
  by_cases hl:n≤v.count t
  ·rw [if_pos hl]
   (have kxs:=And.intro hb' hq';have kk1:=uN [0] (blob_Take c.s c.a c.e 32 h (by decide));have kk2:=uN [0] (varint_Take c1.s c1.a c1.e hbok);have kk3:=uN [0] (cursor_Fail c2.s c2.a c2.e 15);have kk4:=uN [] (vector_Count v t (by omega));exact We1)
  ·rw [if_neg hl]
   (have kxs:=And.intro hb' hq';have kk1:=uN [0] (blob_Take c.s c.a c.e 32 h (by decide));have kk2:=uN [0] (varint_Take c1.s c1.a c1.e hbok);have kk3:=uN [] (vector_Count v t (by omega));exact We1)
theorem dcode_Take(c:Cu)(h:c.Ok):AC Tryz.prog 279 [.p 0 0] [Cu.ob c] fun x σ=>x=ckV c.clk.1∧σ=[Cu.ob c.clk.2]:=by
 refine AC.wk Tryz.func279 ?_
 have hvl:=Cu.vec_len c
 have hvok:=Cu.vec_ok h
 cases h1:c.vec with
 | mk v c1=>
 rw [h1] at hvl hvok
 have h1':Cu.vec ⟨c.s,c.a,c.e⟩=(v,c1):=h1
 have hfok:=Cu.flag_ok hvok
 simp only at hvl hfok
 cases h2:c1.flag with
 | mk f c2=>
 rw [h2] at hfok
 simp only at hfok
 have h2':Cu.flag ⟨c1.s,c1.a,c1.e⟩=(f,c2):=h2
 cases f with
 | false=>
  rw [clk_eq h1 h2 (d:=([],0)) (c3:=c2) rfl]
  by_cases he:c2.e=0
  ·rw [if_neg (by simpa using he)]
   (have kxs:=And.intro h1' h2';have kk1:=uN [0] (vcode_Take c.s c.a c.e h);have kk2:=uN [0] (blob_Flag c1.s c1.a c1.e hvok);have kk3:=uN [0] (cursor_Err c2.s c2.a c2.e);exact Wd1)
  ·rw [if_pos he]
   focus (have kxs:=And.intro h1' h2';have kk1:=uN [0] (vcode_Take c.s c.a c.e h);have kk2:=uN [0] (blob_Flag c1.s c1.a c1.e hvok);have kk3:=uN [0] (cursor_Err c2.s c2.a c2.e);(repeat' (first|refine G ?_|refine AW.ret ?_|(refine GC ?_ ?_<;>intro h<;>(try simp only [hsB] at h)<;>try exact xf)|(refine GL ?_ ?_<;>intro h<;>(try simp only [hsN] at h)<;>(try simp only [h])<;>(try simp only [hsB] at h)<;>try exact xf)|fail));all_goals clear kxs kk1 kk2 kk3)
   all_goals first|(((all_goals first|refine RetQ.yr 1 ⟨?_,?_⟩|refine RetQ.yn 1 ⟨?_,?_⟩);(all_goals first|rfl|(simp [ck0, *];done)|((simp only [go_sem,↓reduceIte,Nat.reduceLT,ck0];(repeat' split))<;>first|rfl|(exfalso;omega)|(simp_all;done)|(simp_all;omega))));done)|(exfalso;simp_all;done)
 | true=>
  cases h3:c2.dot v with
  | mk d c3=>
  obtain ⟨t,n⟩:=d
  rw [clk_eq h1 h2 (d:=(t,n)) (c3:=c3) h3]
  by_cases he:c3.e=0
  ·rw [if_neg (by simpa using he)]
   (have kxs:=And.intro h1' (And.intro h2' h3);have kk1:=uN [0] (vcode_Take c.s c.a c.e h);have kk2:=uN [0] (blob_Flag c1.s c1.a c1.e hvok);have kk3:=uN [0] (dcode_dot c2 hfok v hvl);have kk4:=uN [0] (cursor_Err c3.s c3.a c3.e);exact Wd1)
  ·rw [if_pos he]
   focus (have kxs:=And.intro h1' (And.intro h2' h3);have kk1:=uN [0] (vcode_Take c.s c.a c.e h);have kk2:=uN [0] (blob_Flag c1.s c1.a c1.e hvok);have kk3:=uN [0] (dcode_dot c2 hfok v hvl);have kk4:=uN [0] (cursor_Err c3.s c3.a c3.e);(repeat' (first|refine G ?_|refine AW.ret ?_|(refine GC ?_ ?_<;>intro h<;>(try simp only [hsB] at h)<;>try exact xf)|(refine GL ?_ ?_<;>intro h<;>(try simp only [hsN] at h)<;>(try simp only [h])<;>(try simp only [hsB] at h)<;>try exact xf)|fail));all_goals clear kxs kk1 kk2 kk3 kk4)
   all_goals first|(((all_goals first|refine RetQ.yr 1 ⟨?_,?_⟩|refine RetQ.yn 1 ⟨?_,?_⟩);(all_goals first|rfl|(simp [ck0, *];done)|((simp only [go_sem,↓reduceIte,Nat.reduceLT,ck0];(repeat' split))<;>first|rfl|(exfalso;omega)|(simp_all;done)|(simp_all;omega))));done)|(exfalso;simp_all;done)
end Go.AW
