/-
  varint, the program's and the document's: what is read.
-/
import Derived.Test.YtdnfcckkdnkaiaaGreatU05
set_option linter.unusedVariables false
set_option linter.unusedSimpArgs false
set_option maxHeartbeats 4000000
set_option maxRecDepth 10000
namespace Go.AW
open Go Go.Proofs
attribute [local irreducible] thenQ blockQ RetQ AL AW AC AOp
theorem vgo_nil{k i n:Nat}{s:List UInt8}{a:Nat}{e:Int}(h:s.drop a=[]):Cu.vgo (k+1) i n ⟨s,a,e⟩=(0,⟨s,a,2⟩):=by
 unfold Cu.vgo;simp only [h]
theorem vgo_cons{k i n:Nat}{s r:List UInt8}{b:UInt8}{a:Nat}{e:Int}(h:s.drop a=b::r):Cu.vgo (k+1) i n ⟨s,a,e⟩ =
  if i=9∧1<b.toNat then (0,⟨s,a,5⟩) else if b.toNat=0∧0<i then (0,⟨s,a,4⟩)
   else if b.toNat<128 then (n+b.toNat%128*128^i,⟨s,a+1,e⟩) else Cu.vgo k (i+1) (n+b.toNat%128*128^i) ⟨s,a+1,e⟩:=by
 conv=>lhs;unfold Cu.vgo
 simp only [h]
theorem byte_cons{s r:List UInt8}{b:UInt8}{a:Nat}(h:s.drop a=b::r):Cu.byte ⟨s,a,0⟩=(b.toNat,⟨s,a+1,0⟩):=by
 have hl:(s.drop a).length=r.length+1:=by rw [h];rfl
 rw [List.length_drop] at hl
 have h1:¬ (1:Int)>s.length-a:=by omega
 simp only [Cu.byte,Cu.bytes]
 rw [if_neg (by simp),if_neg (by omega),if_neg h1,h]
 rfl
theorem drop_cons_lt{s r:List UInt8}{b:UInt8}{a:Nat}(h:s.drop a=b::r):a<s.length:=by
 have hl:(s.drop a).length=r.length+1:=by rw [h];rfl
 rw [List.length_drop] at hl
 omega
theorem vpow{n i x:Nat}(hn:n<128^i)(hx:x<128):n+x*128^i<128^(i+1):=by
 have h:(x+1)*128^i≤128*128^i:=Nat.mul_le_mul_right _ hx
 rw [Nat.pow_succ,Nat.mul_comm (128^i) 128]
 rw [Nat.add_mul] at h
 omega
section
variable (s : List UInt8) (a : Nat) (e : Int)
theorem varint_Take(h:Cu.Ok ⟨s,a,e⟩):AC Tryz.prog 32 [.p 0 0] [Cu.ob ⟨s,a,e⟩] fun x σ=>x=iv .u64 (Cu.vtake ⟨s,a,e⟩).1∧σ=[Cu.ob (Cu.vtake ⟨s,a,e⟩).2]:=by
 obtain ⟨h1,h2⟩:=h
 simp only at h1 h2
 by_cases he:e=0
 case neg=>
  have hv:Cu.vtake ⟨s,a,e⟩=(0,⟨s,a,e⟩):=by unfold Cu.vtake;rw [if_pos he]
  rw [hv]
  refine AC.wk Tryz.func32 ?_
  focus ((repeat' (first|refine GF ?_|refine AW.ret ?_|(refine GC ?_ ?_<;>intro h<;>(try simp only [hsB] at h)<;>try exact xf)|(refine GL ?_ ?_<;>intro h<;>(try simp only [hsN] at h)<;>(try simp only [h])<;>(try simp only [hsB] at h)<;>try exact xf)|fail)))
  refine AW.rounds [0,2,3,4,5] (fun _:Unit=>[(0,.p 0 0),(2,iv .u64 0),(3,.f (.func 98) [.p 0 0] []),(4,iv .u64 0),(5,iv .i64 0)]) (fun _=>[Cu.ob ⟨s,a,e⟩]) (fun _=>True) (fun _=>0) () trivial rfl rfl
   (fun _ _=>Nat.le_of_ble_eq_true rfl) (fun _ _=>rfl) (fun _ _=>rfl) ?_
  intro i hi J hJ
  focus (have kuc1:=fun za zb zc=>uN [0] (cursor_Err za zb zc);(repeat' (first|refine GF ?_|refine AW.ret ?_|(refine GC ?_ ?_<;>intro h<;>(try simp only [hsB] at h)<;>try exact xf)|(refine GL ?_ ?_<;>intro h<;>(try simp only [hsN] at h)<;>(try simp only [h])<;>(try simp only [hsB] at h)<;>try exact xf)|fail));all_goals clear kuc1)
  ·(all_goals first|exact RetQ.fr 1|exact RetQ.fn 1|fail)
 subst he
 rw [show Cu.vtake ⟨s,a,0⟩=Cu.vgo 10 0 0 ⟨s,a,0⟩ from by unfold Cu.vtake;rw [if_neg (by simp)]]
 generalize hR:Cu.vgo 10 0 0 ⟨s,a,0⟩=R
 refine AC.wk Tryz.func32 ?_
 focus ((repeat' (first|refine GF ?_|refine AW.ret ?_|(refine GC ?_ ?_<;>intro h<;>(try simp only [hsB] at h)<;>try exact xf)|(refine GL ?_ ?_<;>intro h<;>(try simp only [hsN] at h)<;>(try simp only [h])<;>(try simp only [hsB] at h)<;>try exact xf)|fail)))
 refine AW.rounds [0,2,3,4,5] (fun x:Nat × Nat × Nat=>[(0,.p 0 0),(2,iv .u64 0),(3,.f (.func 98) [.p 0 0] []),(4,iv .u64 x.2.1),(5,iv .i64 x.1)]) (fun x=>[Cu.ob ⟨s,x.2.2,0⟩]) (fun x=>x.1≤9∧x.2.1<128^x.1∧x.2.2≤s.length∧Cu.vgo (10-x.1) x.1 x.2.1 ⟨s,x.2.2,0⟩=R) (fun x=>10-x.1) (0,0,a) ⟨Nat.zero_le _,Nat.one_pos,h2,hR⟩ rfl rfl
  (fun _ _=>Nat.le_of_ble_eq_true rfl) (fun _ _=>rfl) (fun _ _=>rfl) ?_
 rintro ⟨i,n,a⟩ ⟨hi,hn,ha,hr⟩ J hJ
 simp only at hi hn ha hr hJ ⊢
 have hok:Cu.Ok ⟨s,a,0⟩:=⟨h1,ha⟩
 rw [show 10-i=(9-i)+1 by omega] at hr
 rcases hs:s.drop a with _|⟨b,r⟩
 ·have hlen:a=s.length:=by
    have:=congrArg List.length hs
    simp at this;omega
  rw [vgo_nil hs] at hr
  subst hr
  focus (have kuc1:=fun za zb zc=>uN [0] (cursor_Err za zb zc);have kk1:=uN [0] (cursor_Left _ _ _ hok);have kud1:=fun za zb zc zd=>uN [0] (cursor_Fail za zb zc zd);(repeat' (first|refine GF ?_|refine AW.ret ?_|(refine GC ?_ ?_<;>intro h<;>(try simp only [hsB] at h)<;>try exact xf)|(refine GL ?_ ?_<;>intro h<;>(try simp only [hsN] at h)<;>(try simp only [h])<;>(try simp only [hsB] at h)<;>try exact xf)|fail));all_goals clear kuc1 kk1 kud1)
  ((all_goals first|refine RetQ.yr 1 ⟨?_,?_⟩|refine RetQ.yn 1 ⟨?_,?_⟩);(all_goals first|rfl|(simp [Cu.fail, *];done)|((simp only [go_sem,↓reduceIte,Nat.reduceLT,Cu.fail];(repeat' split))<;>first|rfl|(exfalso;omega)|(simp_all;done)|(simp_all;omega))))
 ·have hlt:=drop_cons_lt hs
  have hb:=b.toNat_lt
  rw [vgo_cons hs] at hr
  have hby:=byte_cons hs
  have hand:=and127 b
  focus (have kxs:=And.intro hs (And.intro hby hand);have kuc1:=fun za zb zc=>uN [0] (cursor_Err za zb zc);have kk1:=uN [0] (cursor_Left _ _ _ hok);have kua1:=fun za=>uN [0] (cursor_Ahead _ _ _ za hok);have kud1:=fun za zb zc zd=>uN [0] (cursor_Fail za zb zc zd);have kk2:=uN [0] (cursor_Byte _ _ _ hok);(repeat' (first|refine GF ?_|refine AW.ret ?_|(refine GC ?_ ?_<;>intro h<;>(try simp only [hsB] at h)<;>try exact xf)|(refine GL ?_ ?_<;>intro h<;>(try simp only [hsN] at h)<;>(try simp only [h])<;>(try simp only [hsB] at h)<;>try exact xf)|fail));all_goals clear kxs kuc1 kk1 kua1 kud1 kk2)
  all_goals (try (have hst:=vstep hi hn (Nat.mod_lt b.toNat (show 0<128 by omega)) (by omega);simp only [hst]))
  all_goals first
   | (subst hr;((all_goals first|refine RetQ.yr 1 ⟨?_,?_⟩|refine RetQ.yn 1 ⟨?_,?_⟩);(all_goals first|rfl|(simp [Cu.fail, *];done)|((simp only [go_sem,↓reduceIte,Nat.reduceLT,Cu.fail];(repeat' split))<;>first|rfl|(exfalso;omega)|(simp_all;done)|(simp_all;omega))));done)
   | (rw [if_neg (by omega),if_neg (by omega),if_neg (by omega)] at hr
      refine hJ (i+1,n+b.toNat%128*128^i,a+1) _ _ (by simp only;omega) ⟨by simp only;omega,vpow hn (Nat.mod_lt b.toNat (show 0<128 by omega)),hlt,?_⟩ rfl rfl
      simp only
      rw [show 10-(i+1)=9-i by omega]
      exact hr)
end
end Go.AW
namespace Go.AW
open Go Go.Proofs
attribute [local irreducible] thenQ blockQ RetQ AL AW AC AOp
theorem or128(m:Nat):bitI .or .u8 (IntKind.wrap .u8 (m:Int)) 128=((UInt8.ofNat (m%128+128)).toNat:Int):=by
 have h1:IntKind.wrap .u8 (m:Int)=((m%256:Nat):Int):=by
  simp only [IntKind.wrap,IntKind.bits,IntKind.signed]
  simp
 have h2:∀ x:Nat,x<256→x||| 128=x%128+128:=by decide
 have h3:=or_u8 (x:=m%256) (y:=128) (Nat.mod_lt _ (by omega)) (by omega)
 rw [show ((128:Nat):Int)=128 from rfl] at h3
 rw [h1,h3,h2 _ (Nat.mod_lt _ (by omega))]
 simp
 omega
theorem varint_bytes(n:Nat)(hn:n<18446744073709551616):AC Tryz.prog 129 [iv .u64 n] [] fun x σ=>x=.d (.l (vput n).length (bsD (vput n)))∧σ=[]:=by
 refine AC.wk Tryz.func129 ?_
 focus ((repeat' (first|refine GF ?_|refine AW.ret ?_|(refine GC ?_ ?_<;>intro h<;>(try simp only [hsB] at h)<;>try exact xf)|(refine GL ?_ ?_<;>intro h<;>(try simp only [hsN] at h)<;>(try simp only [h])<;>(try simp only [hsB] at h)<;>try exact xf)|fail)))
 refine AW.birth 5 1 [3] [] ?_
 refine AW.rounds [0,2,3] (fun x:Nat × List UInt8=>[(0,iv .u64 x.1),(2,.d (.s (.slice none 0 0))),(3,.o 0 x.2.length)]) (fun x=>[.row 5 1 x.2.length (bsD x.2)]) (fun x=>x.2++vput x.1=vput n∧x.1<18446744073709551616) (fun x=>x.1) (n,[]) ⟨rfl,hn⟩ rfl rfl
  (fun _ _=>Nat.zero_le _) (fun _ _=>rfl) (fun _ _=>rfl) ?_
 rintro ⟨m,acc⟩ ⟨hv,hm⟩ J hJ
 simp only at hv hm hJ ⊢
 have hl:acc.length≤10:=by
  have h1:=congrArg List.length hv
  have h2:=vput_len10 hn
  simp at h1;omega
 focus ((repeat' (first|refine GF ?_|refine AW.ret ?_|(refine GC ?_ ?_<;>intro h<;>(try simp only [hsB] at h)<;>try exact xf)|(refine GL ?_ ?_<;>intro h<;>(try simp only [hsN] at h)<;>(try simp only [h])<;>(try simp only [hsB] at h)<;>try exact xf)|fail)))
 ·have e1:=or128 m
  have e2:(m:Int).fdiv (2^min 7 64)=((m / 128:Nat):Int):=by
   rw [show (2:Int)^min 7 64=((128:Nat):Int) by decide]
   exact Int.fdiv_eq_ediv_of_nonneg _ (by omega)
  have e3:bsD acc++[D.s (Value.int .u8 (UInt8.ofNat (m%128+128)).toNat)]=bsD (acc++[UInt8.ofNat (m%128+128)]):=by simp [bsD]
  have hvm:vput m=UInt8.ofNat (m%128+128)::vput (m / 128):=by conv=>lhs;unfold vput;rw [if_neg (by omega)]
  rw [e1,e2,e3]
  refine hJ (m / 128,acc++[UInt8.ofNat (m%128+128)]) _ _ (by simp only;omega) ⟨by rw [←hv,hvm];simp,by simp only;omega⟩ ?_ ?_
  ·simp [keepT,look]
  ·simp
 ·have hvm:vput m=[UInt8.ofNat m]:=by unfold vput;rw [if_pos (by omega)]
  have e1:(m:Int)=((UInt8.ofNat m).toNat:Int):=by simp;omega
  have e3:bsD acc++[D.s (Value.int .u8 ((UInt8.ofNat m).toNat:Int))]=bsD (vput n):=by rw [←hv,hvm];simp [bsD]
  have e4:(vput n).length=acc.length+1:=by rw [←hv,hvm];simp
  rw [e1,e3,e4]
  clear e1
  (all_goals first|exact RetQ.fr 0|exact RetQ.fn 0|fail)
section
variable (b s : List UInt8) (m e : Int)
theorem vputs_len:∀ (l:List Nat),(∀ n ∈ l,n<18446744073709551616)→(l.map vput).flatten.length≤10*l.length
 | [],_=>by simp
 | n::l,h=>by
  have h1:=vput_len10 (h n List.mem_cons_self)
  have h2:=vputs_len l fun x hx=>h x (List.mem_cons_of_mem _ hx)
  simp only [List.map_cons,List.flatten_cons,List.length_append,List.length_cons]
  omega
theorem varint_Put(h:Pe.Ok ⟨b,m,e⟩)(l:List Nat)(hl:∀ n ∈ l,n<18446744073709551616)(hn:m≤140737488355328∨b.length+10*l.length≤140737488355328)(hll:l.length≤140737488355328) :
  AC Tryz.prog 54 [.p 0 0,.d (.l l.length (l.map fun n=>.s (.int .u64 (n:Nat))))] (Pe.obs ⟨b,m,e⟩) fun x σ=>x=.t []∧σ=Pe.obs (Pe.texts ⟨b,m,e⟩ (l.map vput)):=by
 refine AC.wk Tryz.func54 ?_
 focus ((repeat' (first|refine GF ?_|refine AW.ret ?_|(refine GC ?_ ?_<;>intro h<;>(try simp only [hsB] at h)<;>try exact xf)|(refine GL ?_ ?_<;>intro h<;>(try simp only [hsN] at h)<;>(try simp only [h])<;>(try simp only [hsB] at h)<;>try exact xf)|fail)))
 refine AW.rounds [0,6,7,8] (fun i=>[(0,.p 0 0),(6,.d (.l l.length (l.map fun n=>.s (.int .u64 (n:Nat))))),(7,iv .i64 l.length),(8,iv .i64 (i:Nat))]) (fun i=>Pe.obs (Pe.texts ⟨b,m,e⟩ ((l.take i).map vput))) (fun i=>i≤l.length) (fun i=>l.length-i) 0 (Nat.zero_le _) rfl rfl
  (fun _ _=>Nat.le_of_ble_eq_true rfl) (fun _ _=>rfl) (fun _ _=>rfl) ?_
 intro i hi J hJ
 generalize hq:Pe.texts ⟨b,m,e⟩ ((l.take i).map vput)=q
 have hf:((l.take i).map vput).flatten.length≤10*i:=by
  have:=vputs_len (l.take i) fun n hn=>hl n (List.mem_of_mem_take hn)
  rw [List.length_take] at this
  omega
 have hok:q.Ok:=by rw [←hq];exact Pe.texts_ok h (by simp only;omega)
 have hqm:q.m=m:=by rw [←hq,Pe.texts_m]
 have hql:q.b.length≤b.length+10*i:=by
  have:=Pe.texts_len ((l.take i).map vput) ⟨b,m,e⟩
  rw [hq] at this
  simp only at this
  omega
 by_cases hil:i<l.length
 ·obtain ⟨x,r,hs⟩:∃ s r,l.drop i=s::r:=⟨_,_,List.drop_eq_getElem_cons hil⟩
  have hx:x<18446744073709551616:=hl x (List.mem_of_mem_drop (i:=i) (by rw [hs];exact List.mem_cons_self))
  have hd:(l.map fun n=>D.s (Value.int .u64 (n:Nat))).drop i=.s (.int .u64 (x:Nat))::r.map fun n=>.s (.int .u64 (n:Nat)):=by rw [←List.map_drop,hs];rfl
  have hnx:l.take (i+1)=l.take i++[x]:=by
   have h1:l[i]? = some x:=by
    have:=congrArg List.head? hs
    simpa [List.head?_drop] using this
   rw [List.take_add_one,h1];rfl
  have hqn:Pe.texts ⟨b,m,e⟩ ((l.take (i+1)).map vput)=q.text (vput x):=by rw [hnx,List.map_append,List.map_cons,List.map_nil,Pe.texts_snoc,hq]
  have hvl:=vput_len10 hx
  focus (have kxs:=hd;have kk1:=uN [] (varint_bytes x hx);have kk2:=uN [0,1] (pen_Text1 q.b (vput x) q.m q.e hok (by omega));(repeat' (first|refine GF ?_|refine AW.ret ?_|(refine GC ?_ ?_<;>intro h<;>(try simp only [hsB] at h)<;>try exact xf)|(refine GL ?_ ?_<;>intro h<;>(try simp only [hsN] at h)<;>(try simp only [h])<;>(try simp only [hsB] at h)<;>try exact xf)|fail));all_goals clear kxs kk1 kk2)
  refine hJ (i+1) _ _ (by omega) (by omega) rfl ?_
  rw [hqn]
  rfl
 ·focus ((repeat' (first|refine GF ?_|refine AW.ret ?_|(refine GC ?_ ?_<;>intro h<;>(try simp only [hsB] at h)<;>try exact xf)|(refine GL ?_ ?_<;>intro h<;>(try simp only [hsN] at h)<;>(try simp only [h])<;>(try simp only [hsB] at h)<;>try exact xf)|fail)))
  have hi2:i=l.length:=by omega
  rw [hi2,List.take_length] at hq
  subst hq
  (all_goals first|exact RetQ.fr 2|exact RetQ.fn 2|fail)
theorem varint_Put1(h:Pe.Ok ⟨b,m,e⟩)(n:Nat)(hl:n<18446744073709551616)(hn:m≤140737488355328∨b.length+10≤140737488355328) :
  AC Tryz.prog 54 [.p 0 0,.d (.l 1 [.s (.int .u64 (n:Nat))])] (Pe.obs ⟨b,m,e⟩) fun x σ=>x=.t []∧σ=Pe.obs (Pe.text ⟨b,m,e⟩ (vput n)):=
 varint_Put b m e h [n] (by simpa using hl) (by simpa using hn) (Nat.le_of_ble_eq_true rfl)
end
end Go.AW
namespace Go.AW
open Go Go.Proofs
attribute [local irreducible] thenQ blockQ RetQ AL AW AC AOp
section
variable (s : List UInt8) (a : Nat) (e max : Int)
theorem blob_within(h:Cu.Ok ⟨s,a,e⟩)(hm:max≤9223372036854775807):AC Tryz.prog 247 [.p 0 0,iv .i64 max] [Cu.ob ⟨s,a,e⟩] fun x σ=>x=iv .i64 (Cu.count ⟨s,a,e⟩ max).1∧σ=[Cu.ob (Cu.count ⟨s,a,e⟩ max).2]:=by
 have hlt:=Cu.vtake_lt ⟨s,a,e⟩
 refine AC.wk Tryz.func247 ?_
 focus (have kk1:=uN [0] (varint_Take _ _ _ h);have kuc1:=fun za zb zc=>uN [0] (cursor_Err za zb zc);have kud1:=fun za zb zc zd=>uN [0] (cursor_Fail za zb zc zd);(repeat' (first|refine G ?_|refine AW.ret ?_|(refine GC ?_ ?_<;>intro h<;>(try simp only [hsB] at h)<;>try exact xf)|(refine GL ?_ ?_<;>intro h<;>(try simp only [hsN] at h)<;>(try simp only [h])<;>(try simp only [hsB] at h)<;>try exact xf)|fail));all_goals clear kk1 kuc1 kud1)
 all_goals by_cases hc:max.toNat<(Cu.vtake ⟨s,a,e⟩).1
 all_goals first|(exfalso;omega)|(((all_goals first|refine RetQ.yr 1 ⟨?_,?_⟩|refine RetQ.yn 1 ⟨?_,?_⟩);(all_goals first|rfl|(simp [Cu.count,Cu.fail, *];done)|((simp only [go_sem,↓reduceIte,Nat.reduceLT,Cu.count,Cu.fail];(repeat' split))<;>first|rfl|(exfalso;omega)|(simp_all;done)|(simp_all;omega))));done)
theorem blob_Count(h:Cu.Ok ⟨s,a,e⟩)(hm:max≤9223372036854775807):AC Tryz.prog 162 [.p 0 0,iv .i64 max] [Cu.ob ⟨s,a,e⟩] fun x σ=>x=iv .i64 (Cu.count ⟨s,a,e⟩ max).1∧σ=[Cu.ob (Cu.count ⟨s,a,e⟩ max).2]:=by
 refine AC.wk Tryz.func162 ?_
 focus (have kk1:=uN [0] (blob_within _ _ _ max h hm);(repeat' (first|refine G ?_|refine AW.ret ?_|(refine GC ?_ ?_<;>intro h<;>(try simp only [hsB] at h)<;>try exact xf)|(refine GL ?_ ?_<;>intro h<;>(try simp only [hsN] at h)<;>(try simp only [h])<;>(try simp only [hsB] at h)<;>try exact xf)|fail));all_goals clear kk1)
 (all_goals first|exact RetQ.fr 1|exact RetQ.fn 1|fail)
theorem blob_Take(h:Cu.Ok ⟨s,a,e⟩)(hm:max≤9223372036854775807):AC Tryz.prog 173 [.p 0 0,iv .i64 max] [Cu.ob ⟨s,a,e⟩] fun x σ=>x=sv (bs (Cu.blob ⟨s,a,e⟩ max).1)∧σ=[Cu.ob (Cu.blob ⟨s,a,e⟩ max).2]:=by
 refine AC.wk Tryz.func173 ?_
 focus (have kk1:=uN [0] (blob_within _ _ _ max h hm);have kua1:=fun za=>uN [0] (cursor_Bytes _ _ _ za (Cu.count_ok (max:=max) h));(repeat' (first|refine G ?_|refine AW.ret ?_|(refine GC ?_ ?_<;>intro h<;>(try simp only [hsB] at h)<;>try exact xf)|(refine GL ?_ ?_<;>intro h<;>(try simp only [hsN] at h)<;>(try simp only [h])<;>(try simp only [hsB] at h)<;>try exact xf)|fail));all_goals clear kk1 kua1)
 ((all_goals first|refine RetQ.yr 1 ⟨?_,?_⟩|refine RetQ.yn 1 ⟨?_,?_⟩);(all_goals first|rfl|(simp [Cu.blob, *];done)|((simp only [go_sem,↓reduceIte,Nat.reduceLT,Cu.blob];(repeat' split))<;>first|rfl|(exfalso;omega)|(simp_all;done)|(simp_all;omega))))
theorem blob_Flag(h:Cu.Ok ⟨s,a,e⟩):AC Tryz.prog 94 [.p 0 0] [Cu.ob ⟨s,a,e⟩] fun x σ=>x=bv (Cu.flag ⟨s,a,e⟩).1∧σ=[Cu.ob (Cu.flag ⟨s,a,e⟩).2]:=by
 refine AC.wk Tryz.func94 ?_
 focus (have kk1:=uN [0] (cursor_Byte _ _ _ h);have kud1:=fun za zb zc zd=>uN [0] (cursor_Fail za zb zc zd);(repeat' (first|refine G ?_|refine AW.ret ?_|(refine GC ?_ ?_<;>intro h<;>(try simp only [hsB] at h)<;>try exact xf)|(refine GL ?_ ?_<;>intro h<;>(try simp only [hsN] at h)<;>(try simp only [h])<;>(try simp only [hsB] at h)<;>try exact xf)|fail));all_goals clear kk1 kud1)
 all_goals simp only [Cu.flag]
 all_goals generalize Cu.byte ⟨s,a,e⟩=r at *
 all_goals obtain ⟨x,c⟩:=r
 all_goals simp only at *
 all_goals by_cases hc:1<x
 all_goals first|(exfalso;omega)|(((all_goals first|refine RetQ.yr 1 ⟨?_,?_⟩|refine RetQ.yn 1 ⟨?_,?_⟩);(all_goals first|rfl|(simp [Cu.fail, *];done)|((simp only [go_sem,↓reduceIte,Nat.reduceLT,Cu.fail];(repeat' split))<;>first|rfl|(exfalso;omega)|(simp_all;done)|(simp_all;omega))));done)|(have hd:¬ x=1:=by omega;((all_goals first|refine RetQ.yr 1 ⟨?_,?_⟩|refine RetQ.yn 1 ⟨?_,?_⟩);(all_goals first|rfl|(simp [Cu.fail, *];done)|((simp only [go_sem,↓reduceIte,Nat.reduceLT,Cu.fail];(repeat' split))<;>first|rfl|(exfalso;omega)|(simp_all;done)|(simp_all;omega))));done)
end
end Go.AW
namespace Go.AW
open Go Go.Proofs
attribute [local irreducible] thenQ blockQ RetQ AL AW AC AOp
section
variable (b s : List UInt8) (m e max : Int)
theorem blob_Put(h:Pe.Ok ⟨b,m,e⟩)(l:List (List UInt8))(hv:∀ s ∈ l,s.length≤9223372036854775807)(hl:m≤140737488355328∨b.length+10*l.length+l.flatten.length≤140737488355328)(hn:l.length≤140737488355328) :
  AC Tryz.prog 171 [.p 0 0,iv .i64 max,.d (.l l.length (l.map fun s=>.s (.string ⟨s.toArray⟩)))] (Pe.obs ⟨b,m,e⟩) fun x σ=>x=.t []∧σ=Pe.obs (Pe.blobs ⟨b,m,e⟩ max l):=by
 refine AC.wk Tryz.func171 ?_
 focus ((repeat' (first|refine G ?_|refine AW.ret ?_|(refine GC ?_ ?_<;>intro h<;>(try simp only [hsB] at h)<;>try exact xf)|(refine GL ?_ ?_<;>intro h<;>(try simp only [hsN] at h)<;>(try simp only [h])<;>(try simp only [hsB] at h)<;>try exact xf)|fail)))
 refine AW.rounds [0,1,8,9,10] (fun i=>[(0,.p 0 0),(1,iv .i64 max),(8,.d (.l l.length (l.map fun s=>.s (.string ⟨s.toArray⟩)))),(9,iv .i64 l.length),(10,iv .i64 (i:Nat))]) (fun i=>Pe.obs (Pe.blobs ⟨b,m,e⟩ max (l.take i))) (fun i=>i≤l.length) (fun i=>l.length-i) 0 (Nat.zero_le _) rfl rfl
  (fun _ _=>Nat.le_of_ble_eq_true rfl) (fun _ _=>rfl) (fun _ _=>rfl) ?_
 intro i hi J hJ
 generalize hq:Pe.blobs ⟨b,m,e⟩ max (l.take i)=q
 have hf:(l.take i).flatten.length+(l.drop i).flatten.length=l.flatten.length:=by rw [←List.length_append,←List.flatten_append,List.take_append_drop]
 have hqo:q.Ok∧q.b.length≤b.length+10*i+(l.take i).flatten.length:=by
  have:=Pe.blobs_ok (max:=max) (l.take i) h (fun s hs=>Nat.lt_of_le_of_lt (hv s (List.mem_of_mem_take hs)) (by decide)) (by rw [List.length_take];simp only;omega)
  rw [hq,List.length_take] at this
  simp only at this
  exact ⟨this.1,by omega⟩
 obtain ⟨hok,hql⟩:=hqo
 have hqm:q.m=m:=by rw [←hq,Pe.blobs_m]
 by_cases hil:i<l.length
 ·obtain ⟨s,r,hs⟩:∃ s r,l.drop i=s::r:=⟨_,_,List.drop_eq_getElem_cons hil⟩
  have hd:(l.map fun s=>D.s (Value.string ⟨s.toArray⟩)).drop i=.s (.string ⟨s.toArray⟩)::r.map fun s=>.s (.string ⟨s.toArray⟩):=by rw [←List.map_drop,hs];rfl
  rw [hs] at hf
  simp only [List.flatten_cons,List.length_append] at hf
  have hnx:l.take (i+1)=l.take i++[s]:=by
   have h1:l[i]? = some s:=by
    have:=congrArg List.head? hs
    simpa [List.head?_drop] using this
   rw [List.take_add_one,h1];rfl
  have hqn:Pe.blobs ⟨b,m,e⟩ max (l.take (i+1))=q.blob max s:=by rw [hnx,Pe.blobs_snoc,hq]
  have hsl:=hv s (List.mem_of_mem_drop (i:=i) (by rw [hs];exact List.mem_cons_self))
  have hvl:=vput_len10 (n:=s.length) (by omega)
  have htm:=Pe.text_m q (vput s.length)
  have htl:=Pe.text_len q (vput s.length)
  have hto:=Pe.text_ok (s:=vput s.length) hok (by omega)
  focus (have kxs:=hd;have kud1:=fun za zb zc zd=>uN [0,1] (pen_Fail za zb zc zd);have kk1:=uN [0,1] (varint_Put1 q.b q.m q.e hok s.length (by omega) (by omega));have kk2:=uN [0,1] (pen_Text1 (Pe.text q (vput s.length)).b s (Pe.text q (vput s.length)).m (Pe.text q (vput s.length)).e hto (by omega));(repeat' (first|refine G ?_|refine AW.ret ?_|(refine GC ?_ ?_<;>intro h<;>(try simp only [hsB] at h)<;>try exact xf)|(refine GL ?_ ?_<;>intro h<;>(try simp only [hsN] at h)<;>(try simp only [h])<;>(try simp only [hsB] at h)<;>try exact xf)|fail));all_goals clear kxs kud1 kk1 kk2)
  ·have hb:q.blob max s=q.fail 3:=by unfold Pe.blob;rw [if_pos (by omega)]
   have hne:(q.fail 3).e≠0:=by
    show (if q.e=0 then (3:Int) else q.e)≠0
    split
    ·decide
    ·assumption
   have hall:Pe.blobs ⟨b,m,e⟩ max l=q.fail 3:=by
    conv=>lhs;rw [←List.take_append_drop (i+1) l]
    rw [Pe.blobs_append,hqn,hb]
    exact Pe.blobs_stuck hne max _
   rw [hall]
   (all_goals first|exact RetQ.fr 2|exact RetQ.fn 2|fail)
  all_goals
   have hb:q.blob max s=(q.text (vput s.length)).text s:=by unfold Pe.blob;rw [if_neg (by omega)]
   refine hJ (i+1) _ _ (by omega) (by omega) rfl ?_
   rw [hqn,hb]
   rfl
 ·focus ((repeat' (first|refine G ?_|refine AW.ret ?_|(refine GC ?_ ?_<;>intro h<;>(try simp only [hsB] at h)<;>try exact xf)|(refine GL ?_ ?_<;>intro h<;>(try simp only [hsN] at h)<;>(try simp only [h])<;>(try simp only [hsB] at h)<;>try exact xf)|fail)))
  have hi2:i=l.length:=by omega
  rw [hi2,List.take_length] at hq
  subst hq
  (all_goals first|exact RetQ.fr 2|exact RetQ.fn 2|fail)
theorem blob_Put1(ok:Pe.Ok ⟨b,m,e⟩)(hv:s.length≤9223372036854775807)(hl:m≤140737488355328∨b.length+10+s.length≤140737488355328) :
  AC Tryz.prog 171 [.p 0 0,iv .i64 max,.d (.l 1 [.s (.string ⟨s.toArray⟩)])] (Pe.obs ⟨b,m,e⟩) fun x σ=>x=.t []∧σ=Pe.obs (Pe.blob ⟨b,m,e⟩ max s):=
 blob_Put b m e max ok [s] (by simpa using hv) (by simpa using hl) (Nat.le_of_ble_eq_true rfl)
theorem blob_PutCount(ok:Pe.Ok ⟨b,m,e⟩)(n:Int)(hn:n≤9223372036854775807)(hl:m≤140737488355328∨b.length+10≤140737488355328) :
  AC Tryz.prog 203 [.p 0 0,iv .i64 max,iv .i64 n] (Pe.obs ⟨b,m,e⟩) fun x σ=>x=.t []∧σ=Pe.obs (Pe.count ⟨b,m,e⟩ max n):=by
 refine AC.wk Tryz.func203 ?_
 by_cases h0:n<0
 ·have hb:Pe.count ⟨b,m,e⟩ max n=Pe.fail ⟨b,m,e⟩ 1:=by unfold Pe.count;rw [if_pos h0]
  focus (have kud1:=fun za zb zc zd=>uN [0,1] (pen_Fail za zb zc zd);(repeat' (first|refine G ?_|refine AW.ret ?_|(refine GC ?_ ?_<;>intro h<;>(try simp only [hsB] at h)<;>try exact xf)|(refine GL ?_ ?_<;>intro h<;>(try simp only [hsN] at h)<;>(try simp only [h])<;>(try simp only [hsB] at h)<;>try exact xf)|fail));all_goals clear kud1)
  all_goals first|(exfalso;omega)|(rw [hb];(all_goals first|exact RetQ.fr 2|exact RetQ.fn 2|fail);done)
 obtain ⟨k,rfl⟩:∃ k:Nat,n=k:=⟨n.toNat,by omega⟩
 by_cases hc:max.toNat<(k:Int)
 ·have hb:Pe.count ⟨b,m,e⟩ max k=Pe.fail ⟨b,m,e⟩ 3:=by unfold Pe.count;rw [if_neg h0,if_pos hc]
  focus (have kud1:=fun za zb zc zd=>uN [0,1] (pen_Fail za zb zc zd);(repeat' (first|refine G ?_|refine AW.ret ?_|(refine GC ?_ ?_<;>intro h<;>(try simp only [hsB] at h)<;>try exact xf)|(refine GL ?_ ?_<;>intro h<;>(try simp only [hsN] at h)<;>(try simp only [h])<;>(try simp only [hsB] at h)<;>try exact xf)|fail));all_goals clear kud1)
  all_goals first|(exfalso;omega)|(rw [hb];(all_goals first|exact RetQ.fr 2|exact RetQ.fn 2|fail);done)
 ·have hb:Pe.count ⟨b,m,e⟩ max k=Pe.text ⟨b,m,e⟩ (vput k):=by unfold Pe.count;rw [if_neg h0,if_neg hc];rfl
  focus (have kk1:=uN [0,1] (varint_Put1 b m e ok k (by omega) (by omega));(repeat' (first|refine G ?_|refine AW.ret ?_|(refine GC ?_ ?_<;>intro h<;>(try simp only [hsB] at h)<;>try exact xf)|(refine GL ?_ ?_<;>intro h<;>(try simp only [hsN] at h)<;>(try simp only [h])<;>(try simp only [hsB] at h)<;>try exact xf)|fail));all_goals clear kk1)
  all_goals first|(exfalso;omega)|(rw [hb];(all_goals first|exact RetQ.fr 2|exact RetQ.fn 2|fail);done)
theorem blob_PutFlag(ok:Pe.Ok ⟨b,m,e⟩)(t:Bool)(hl:m≤140737488355328∨b.length+1≤140737488355328) :
  AC Tryz.prog 177 [.p 0 0,bv t] (Pe.obs ⟨b,m,e⟩) fun x σ=>x=.t []∧σ=Pe.obs (Pe.flag ⟨b,m,e⟩ t):=by
 refine AC.wk Tryz.func177 ?_
 cases t with
 | true=>
  (have kk1:=uN [0,1] (pen_Byte1 b m e ok hl 1);exact Wd2)
 | false=>
  (have kk1:=uN [0,1] (pen_Byte1 b m e ok hl 0);exact Wd2)
end
end Go.AW
namespace Go.AW
open Go Go.Proofs
attribute [local irreducible] thenQ blockQ RetQ AL AW AC AOp
abbrev strs(l:List (List UInt8)):List D:=l.map fun s=>.s (.string ⟨s.toArray⟩)
end Go.AW
