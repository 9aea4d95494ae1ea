/-
  Plain: bytes that are read from the left.
-/
import GoSem.Op.String
import Derived.Test.YtdnfcckkdnkaiaaGreatU21
set_option linter.unusedVariables false
set_option linter.unusedSimpArgs false
set_option maxHeartbeats 4000000
set_option maxRecDepth 10000
namespace Go.AW
section
variable {α : Type}
variable {R : Cu → α × Cu} {W : Pe → α → Pe} {enc : α → List UInt8} {good ok : α → Prop} {d : α}
theorem rdw_bad{s:List UInt8}(hs:(rdw R d s).2≠0):(rdw R d s).1=d:=by
 unfold rdw at hs ⊢
 simp only at hs ⊢
 rw [if_pos hs]
end
end Go.AW
namespace Go.AW
open Go Go.Proofs
attribute [local irreducible] thenQ blockQ RetQ AL AW AC AOp
section
variable (s : List UInt8) (a : Nat) (e f n : Int)
theorem ref01_Fail:AC Tryz.prog 105 [.p 0 0,iv .i64 f] [Cu.ro ⟨s,a,e⟩] fun x σ=>x=.t []∧σ=[Cu.ro (Cu.fail ⟨s,a,e⟩ f)]:=by
 refine AC.wk Tryz.func105 ?_
 focus ((repeat' (first|refine GF ?_|refine AW.ret ?_|(refine GC ?_ ?_<;>intro h<;>(try simp only [hsB] at h)<;>try exact xf)|(refine GL ?_ ?_<;>intro h<;>(try simp only [hsN] at h)<;>(try simp only [h])<;>(try simp only [hsB] at h)<;>try exact xf)|fail)))
 ((all_goals first|refine RetQ.yr 1 ⟨?_,?_⟩|refine RetQ.yn 1 ⟨?_,?_⟩);(all_goals first|rfl|(simp [Cu.fail, *];done)|((simp only [go_sem,↓reduceIte,Nat.reduceLT,Cu.fail];(repeat' split))<;>first|rfl|(exfalso;omega)|(simp_all;done)|(simp_all;omega))))
theorem ref01_Bytes(h:Cu.Ok ⟨s,a,e⟩):AC Tryz.prog 103 [.p 0 0,iv .i64 n] [Cu.ro ⟨s,a,e⟩] fun x σ=>x=sv (bs (Cu.bytes ⟨s,a,e⟩ n).1)∧σ=[Cu.ro (Cu.bytes ⟨s,a,e⟩ n).2]:=by
 have hh:=h
 obtain ⟨h1,h2⟩:=h
 simp only at h1 h2
 refine AC.wk Tryz.func103 ?_
 focus ((repeat' (first|(refine ADr.nil ?_;try clear hgv)|refine GOF ?_|refine AW.ret ?_|(refine GC ?_ ?_<;>intro h<;>(try simp only [hsB] at h)<;>try exact xf)|(refine GD ?_ ?_<;>intro h<;>(try intro hgv)<;>(try simp only [hsN] at h)<;>(try simp only [h])<;>(try simp only [hsB] at h)<;>try exact xf)|(refine GL ?_ ?_<;>intro h<;>(try simp only [hsN] at h)<;>(try simp only [h])<;>(try simp only [hsB] at h)<;>try exact xf)|fail)))
 ·((all_goals first|refine RetQ.yr 1 ⟨?_,?_⟩|refine RetQ.yn 1 ⟨?_,?_⟩);(all_goals first|rfl|(simp [Cu.bytes, *];done)|((simp only [go_sem,↓reduceIte,Nat.reduceLT,Cu.bytes];(repeat' split))<;>first|rfl|(exfalso;omega)|(simp_all;done)|(simp_all;omega))))
 ·((all_goals first|refine RetQ.yr 1 ⟨?_,?_⟩|refine RetQ.yn 1 ⟨?_,?_⟩);(all_goals first|rfl|(simp [Cu.bytes, *];done)|((simp only [go_sem,↓reduceIte,Nat.reduceLT,Cu.bytes];(repeat' split))<;>first|rfl|(exfalso;omega)|(simp_all;done)|(simp_all;omega))))
 ·((all_goals first|refine RetQ.yr 1 ⟨?_,?_⟩|refine RetQ.yn 1 ⟨?_,?_⟩);(all_goals first|rfl|(simp [Cu.bytes, *];done)|((simp only [go_sem,↓reduceIte,Nat.reduceLT,Cu.bytes];(repeat' split))<;>first|rfl|(exfalso;omega)|(simp_all;done)|(simp_all;omega))))
 ·have h3:e=0:=by assumption
  subst h3
  refine AW.rounds [0,1,4,5,6] (fun i=>[(0,.p 0 0),(1,iv .i64 n),(4,sv (bs [])),(5,sv (bs ((s.drop a).take i))),(6,iv .i64 (i:Nat))]) (fun i=>[Cu.ro ⟨s,a+i,0⟩]) (fun i=>i≤n.toNat) (fun i=>n.toNat-i) 0 (Nat.zero_le _) rfl rfl
   (fun _ _=>Nat.le_of_ble_eq_true rfl) (fun _ _=>rfl) (fun _ _=>rfl) ?_
  intro i hi J hJ
  focus ((repeat' (first|(refine ADr.nil ?_;try clear hgv)|refine GOF ?_|refine AW.ret ?_|(refine GC ?_ ?_<;>intro h<;>(try simp only [hsB] at h)<;>try exact xf)|(refine GD ?_ ?_<;>intro h<;>(try intro hgv)<;>(try simp only [hsN] at h)<;>(try simp only [h])<;>(try simp only [hsB] at h)<;>try exact xf)|(refine GL ?_ ?_<;>intro h<;>(try simp only [hsN] at h)<;>(try simp only [h])<;>(try simp only [hsB] at h)<;>try exact xf)|fail)))
  ·have e1:((((a+i:Nat):Int)+1).toNat-(a+i))=1:=by omega
   have e2:(s.drop a).take i++(s.drop (a+i)).take 1=(s.drop a).take (i+1):=by rw [List.take_add,List.drop_drop]
   rw [e1,e2]
   exact hJ (i+1) _ _ (by omega) (by omega) rfl rfl
  ·have e1:i=n.toNat:=by omega
   subst e1
   ((all_goals first|refine RetQ.yr 1 ⟨?_,?_⟩|refine RetQ.yn 1 ⟨?_,?_⟩);(all_goals first|rfl|(simp [Cu.bytes, *];done)|((simp only [go_sem,↓reduceIte,Nat.reduceLT,Cu.bytes];(repeat' split))<;>first|rfl|(exfalso;omega)|(simp_all;done)|(simp_all;omega))))
theorem ref01_Byte(h:Cu.Ok ⟨s,a,e⟩):AC Tryz.prog 104 [.p 0 0] [Cu.ro ⟨s,a,e⟩] fun x σ=>x=iv .i64 (Cu.byte ⟨s,a,e⟩).1∧σ=[Cu.ro (Cu.byte ⟨s,a,e⟩).2]:=by
 refine AC.wk Tryz.func104 ?_
 repeat' (first
  | ((first
   | ((first|refine AL.callv (by decide) fun Kr hr=>?_|refine AL.callv0 fun Kr hr=>?_|refine AL.g1v (by decide) rfl fun Kr hr=>?_);first
   | (refine AOp.cι (fun _ _=>rfl) [0] rfl (ref01_Bytes _ _ _ _ h) (Emb.one rfl) rfl ?_;rintro y obs ⟨rfl,rfl⟩))
   | refine AL.one (by decide) fun Kr hr=>?_
   | refine AL.one0 fun Kr hr=>?_);(try simp only [ao,List.map_cons,List.map_nil]);simp (disch:=omega) only [go_sem,Int.natCast_pos,List.length_pos_iff,ne_eq];(repeat first|(refine ⟨_,bsD_nums _,by simp only [List.length_map],?_⟩;simp only [strOfNums_bs])|(refine ⟨[_],rfl,rfl,?_⟩;simp only [strOfNums_one,UInt8.ofNat_toNat,Int.toNat_natCast])|refine ⟨by first|omega|assumption|rfl|(simp only [List.length_take,List.length_drop,List.length_append,List.length_cons,List.length_nil,List.length_map];omega),?_⟩);refine hr _ _ ?_;clear hr Kr)
  | refine AL.nil ?_|refine AW.seq' ?_|refine AW.region ?_|refine AW.block ?_|refine AW.skip ?_|refine AW.ret ?_|refine AW.exit ?_|refine thenQ_n ?_|refine thenQ_r ?_|refine thenQ_e ?_|refine blockQ_n ?_|refine blockQ_r ?_|refine blockQ_e ?_|refine blockQ_o (by decide) ?_
  | (refine AW.cond rfl (fun h=>?_) (fun h=>?_)<;>(try simp only [decide_eq_true_eq,decide_eq_false_iff_not,Bool.false_eq_true,Bool.true_eq_false,Bool.not_eq_true',Bool.not_eq_false',Bool.not_eq_eq_eq_not,Bool.not_true,Bool.not_false,Bool.and_eq_true,Bool.or_eq_true,Bool.and_eq_false_iff,Bool.or_eq_false_iff] at h)<;>try exact xf)
  | (refine AL.gt (by decide) rfl ?_)|(refine AL.g0 (by decide) rfl (by decide) ?_)|(refine AL.g1 (by decide) rfl fun Kr hr=>?_;(try simp only [ao,List.map_cons,List.map_nil]);simp (disch:=omega) only [go_sem,Int.natCast_pos,List.length_pos_iff,ne_eq];(repeat first|(refine ⟨_,bsD_nums _,by simp only [List.length_map],?_⟩;simp only [strOfNums_bs])|(refine ⟨[_],rfl,rfl,?_⟩;simp only [strOfNums_one,UInt8.ofNat_toNat,Int.toNat_natCast])|refine ⟨by first|omega|assumption|rfl|(simp only [List.length_take,List.length_drop,List.length_append,List.length_cons,List.length_nil,List.length_map];omega),?_⟩);refine hr _ _ ?_;clear hr Kr)
  | (refine AL.g (by decide) rfl (fun h=>?_) (fun h=>?_)<;>(try simp only [hsN] at h)<;>(try simp only [h])<;>simp only [decide_eq_true_eq,decide_eq_false_iff_not,Bool.false_eq_true,Bool.true_eq_false,Bool.not_eq_true',Bool.not_eq_false',Bool.not_eq_eq_eq_not,Bool.not_true,Bool.not_false,Bool.and_eq_true,Bool.or_eq_true,Bool.and_eq_false_iff,Bool.or_eq_false_iff] at h<;>try exact xf))
 ((all_goals first|refine RetQ.yr 1 ⟨?_,?_⟩|refine RetQ.yn 1 ⟨?_,?_⟩);(all_goals first|rfl|(simp [Cu.byte, *];done)|((simp only [go_sem,↓reduceIte,Nat.reduceLT,Cu.byte];(repeat' split))<;>first|rfl|(exfalso;omega)|(simp_all;done)|(simp_all;omega))))
theorem ref01_End(h:Cu.Ok ⟨s,a,e⟩):AC Tryz.prog 45 [.p 0 0] [Cu.ro ⟨s,a,e⟩] fun x σ=>x=iv .i64 (Cu.fin ⟨s,a,e⟩).e∧σ=[Cu.ro (Cu.fin ⟨s,a,e⟩)]:=by
 refine AC.wk Tryz.func45 ?_
 focus ((repeat' (first|(refine ADr.nil ?_;try clear hgv)|refine GOF ?_|refine AW.ret ?_|(refine GC ?_ ?_<;>intro h<;>(try simp only [hsB] at h)<;>try exact xf)|(refine GD ?_ ?_<;>intro h<;>(try intro hgv)<;>(try simp only [hsN] at h)<;>(try simp only [h])<;>(try simp only [hsB] at h)<;>try exact xf)|(refine GL ?_ ?_<;>intro h<;>(try simp only [hsN] at h)<;>(try simp only [h])<;>(try simp only [hsB] at h)<;>try exact xf)|fail)))
 ((all_goals first|refine RetQ.yr 1 ⟨?_,?_⟩|refine RetQ.yn 1 ⟨?_,?_⟩);(all_goals first|rfl|(simp [Cu.fin, *];done)|((simp only [go_sem,↓reduceIte,Nat.reduceLT,Cu.fin];(repeat' split))<;>first|rfl|(exfalso;omega)|(simp_all;done)|(simp_all;omega))))
end
end Go.AW
namespace Go.AW
open Go Go.Proofs
attribute [local irreducible] thenQ blockQ RetQ AL AW AC AOp
section
variable (s : List UInt8) (a : Nat) (e : Int)
theorem vstepR{n i x:Nat}(hi:i≤9)(hn:n<128^i)(hx:x<128)(h9:i=9→x≤1):IntKind.wrap .u64 ((n:Int)+IntKind.wrap .u64 ((x:Int)*(128^i:Nat)))=((n+x*128^i:Nat):Int):=by
 have h2:x*128^i≤9223372036854775808:=by
  by_cases h:i=9
  ·subst h
   have:=Nat.mul_le_mul_right (128^9) (h9 rfl)
   omega
  ·have h3:128^i≤128^8:=Nat.pow_le_pow_right (by omega) (by omega)
   have:=Nat.mul_le_mul (Nat.le_of_lt_succ (show x<127+1 by omega)) h3
   omega
 have h3:n<9223372036854775808:=by
  have:128^i≤128^9:=Nat.pow_le_pow_right (by omega) hi
  omega
 rw [show (x:Int)*((128^i:Nat):Int)=((x*128^i:Nat):Int) by push_cast;rfl]
 generalize x*128^i=z at *
 rw [wrap_u64 (n:=(z:Int)) (by omega) (by omega),wrap_u64 (by omega) (by omega)]
 omega
theorem weight{i:Nat}(hi:i≤8):IntKind.wrap .u64 (((128^i:Nat):Int)*128)=((128^(i+1):Nat):Int):=by
 have h3:128^i≤128^8:=Nat.pow_le_pow_right (by omega) (by omega)
 rw [Nat.pow_succ]
 generalize 128^i=z at *
 rw [wrap_u64 (by omega) (by omega)]
 omega
theorem ref03_Take(h:Cu.Ok ⟨s,a,e⟩):AC Tryz.prog 35 [.p 0 0] [Cu.ro ⟨s,a,e⟩] fun x σ=>x=iv .u64 (Cu.vtake ⟨s,a,e⟩).1∧σ=[Cu.ro (Cu.vtake ⟨s,a,e⟩).2]:=by
 obtain ⟨h1,h2⟩:=h
 simp only at h1 h2
 by_cases he:e=0
 case neg=>
  have hv:Cu.vtake ⟨s,a,e⟩=(0,⟨s,a,e⟩):=by unfold Cu.vtake;rw [if_pos he]
  rw [hv]
  refine AC.wk Tryz.func35 ?_
  exact Wb1
 subst he
 rw [show Cu.vtake ⟨s,a,0⟩=Cu.vgo 10 0 0 ⟨s,a,0⟩ from by unfold Cu.vtake;rw [if_neg (by simp)]]
 generalize hR:Cu.vgo 10 0 0 ⟨s,a,0⟩=R
 refine AC.wk Tryz.func35 ?_
 focus ((repeat' (first|(refine ADr.nil ?_;try clear hgv)|refine GOF ?_|refine AW.ret ?_|(refine GC ?_ ?_<;>intro h<;>(try simp only [hsB] at h)<;>try exact xf)|(refine GD ?_ ?_<;>intro h<;>(try intro hgv)<;>(try simp only [hsN] at h)<;>(try simp only [h])<;>(try simp only [hsB] at h)<;>try exact xf)|(refine GL ?_ ?_<;>intro h<;>(try simp only [hsN] at h)<;>(try simp only [h])<;>(try simp only [hsB] at h)<;>try exact xf)|fail)))
 refine AW.rounds [0,2,3,4,5] (fun x:Nat × Nat × Nat=>[(0,.p 0 0),(2,iv .u64 0),(3,iv .u64 x.2.1),(4,iv .u64 (128^x.1:Nat)),(5,iv .i64 x.1)]) (fun x=>[Cu.ro ⟨s,x.2.2,0⟩]) (fun x=>x.1≤9∧x.2.1<128^x.1∧x.2.2≤s.length∧Cu.vgo (10-x.1) x.1 x.2.1 ⟨s,x.2.2,0⟩=R) (fun x=>10-x.1) (0,0,a) ⟨Nat.zero_le _,Nat.one_pos,h2,hR⟩ rfl rfl
  (fun _ _=>Nat.le_of_ble_eq_true rfl) (fun _ _=>rfl) (fun _ _=>rfl) ?_
 rintro ⟨i,n,a⟩ ⟨hi,hn,ha,hr⟩ J hJ
 simp only at hi hn ha hr hJ ⊢
 have hok:Cu.Ok ⟨s,a,0⟩:=⟨h1,ha⟩
 rw [show 10-i=(9-i)+1 by omega] at hr
 rcases hs:s.drop a with _|⟨b,r⟩
 ·have hlen:a=s.length:=by
    have:=congrArg List.length hs
    simp at this;omega
  rw [vgo_nil hs] at hr
  subst hr
  exact Wb1
 ·have hlt:=drop_cons_lt hs
  have hb:=b.toNat_lt
  rw [vgo_cons hs] at hr
  have hg:s.getD a 0=b:=by
   have:=congrArg List.head? hs
   rw [List.head?_drop] at this
   rw [List.getD_eq_getElem?_getD,this];rfl
  have hmod:(b.toNat:Int).tmod 128=((b.toNat%128:Nat):Int):=rfl
  focus (have kxs:=And.intro hg hmod;(repeat' (first|(refine ADr.nil ?_;try clear hgv)|refine GOF ?_|refine AW.ret ?_|(refine GC ?_ ?_<;>intro h<;>(try simp only [hsB] at h)<;>try exact xf)|(refine GD ?_ ?_<;>intro h<;>(try intro hgv)<;>(try simp only [hsN] at h)<;>(try simp only [h])<;>(try simp only [hsB] at h)<;>try exact xf)|(refine GL ?_ ?_<;>intro h<;>(try simp only [hsN] at h)<;>(try simp only [h])<;>(try simp only [hsB] at h)<;>try exact xf)|fail));all_goals clear kxs)
  all_goals (try (have hst:=vstepR hi hn (Nat.mod_lt b.toNat (show 0<128 by omega)) (by omega);simp only [hst]))
  all_goals first
   | (subst hr;(all_goals first|exact RetQ.fr 1|exact RetQ.fn 1|fail);done)
   | (rw [if_neg (by omega),if_neg (by omega),if_neg (by omega)] at hr
      rw [weight (by omega)]
      refine hJ (i+1,n+b.toNat%128*128^i,a+1) _ _ (by simp only;omega) ⟨by simp only;omega,vpow hn (Nat.mod_lt b.toNat (show 0<128 by omega)),hlt,?_⟩ rfl rfl
      simp only
      rw [show 10-(i+1)=9-i by omega]
      exact hr)
   | (exfalso;omega)
end
end Go.AW
namespace Go.AW
open Go Go.Proofs
attribute [local irreducible] thenQ blockQ RetQ AL AW AC AOp
section
variable (s : List UInt8) (a : Nat) (e max : Int)
theorem ref06_Count(h:Cu.Ok ⟨s,a,e⟩)(hm:max≤9223372036854775807):AC Tryz.prog 44 [.p 0 0,iv .i64 max] [Cu.ro ⟨s,a,e⟩] fun x σ=>x=iv .i64 (Cu.count ⟨s,a,e⟩ max).1∧σ=[Cu.ro (Cu.count ⟨s,a,e⟩ max).2]:=by
 have hlt:=Cu.vtake_lt ⟨s,a,e⟩
 refine AC.wk Tryz.func44 ?_
 focus (have kk1:=uN [0] (ref03_Take _ _ _ h);(repeat' (first|refine G ?_|refine AW.ret ?_|(refine GC ?_ ?_<;>intro h<;>(try simp only [hsB] at h)<;>try exact xf)|(refine GL ?_ ?_<;>intro h<;>(try simp only [hsN] at h)<;>(try simp only [h])<;>(try simp only [hsB] at h)<;>try exact xf)|fail));all_goals clear kk1)
 all_goals by_cases hc:max.toNat<(Cu.vtake ⟨s,a,e⟩).1
 all_goals first|(exfalso;omega)|(((all_goals first|refine RetQ.yr 1 ⟨?_,?_⟩|refine RetQ.yn 1 ⟨?_,?_⟩);(all_goals first|rfl|(simp [Cu.count,Cu.fail, *];done)|((simp only [go_sem,↓reduceIte,Nat.reduceLT,Cu.count,Cu.fail];(repeat' split))<;>first|rfl|(exfalso;omega)|(simp_all;done)|(simp_all;omega))));done)
theorem ref06_Take(h:Cu.Ok ⟨s,a,e⟩)(hm:max≤9223372036854775807):AC Tryz.prog 36 [.p 0 0,iv .i64 max] [Cu.ro ⟨s,a,e⟩] fun x σ=>x=sv (bs (Cu.blob ⟨s,a,e⟩ max).1)∧σ=[Cu.ro (Cu.blob ⟨s,a,e⟩ max).2]:=by
 refine AC.wk Tryz.func36 ?_
 focus (have kk1:=uN [0] (ref06_Count _ _ _ max h hm);have kua1:=fun za=>uN [0] (ref01_Bytes _ _ _ za (Cu.count_ok (max:=max) h));(repeat' (first|refine G ?_|refine AW.ret ?_|(refine GC ?_ ?_<;>intro h<;>(try simp only [hsB] at h)<;>try exact xf)|(refine GL ?_ ?_<;>intro h<;>(try simp only [hsN] at h)<;>(try simp only [h])<;>(try simp only [hsB] at h)<;>try exact xf)|fail));all_goals clear kk1 kua1)
 ((all_goals first|refine RetQ.yr 1 ⟨?_,?_⟩|refine RetQ.yn 1 ⟨?_,?_⟩);(all_goals first|rfl|(simp [Cu.blob, *];done)|((simp only [go_sem,↓reduceIte,Nat.reduceLT,Cu.blob];(repeat' split))<;>first|rfl|(exfalso;omega)|(simp_all;done)|(simp_all;omega))))
theorem ref06_Flag(h:Cu.Ok ⟨s,a,e⟩):AC Tryz.prog 37 [.p 0 0] [Cu.ro ⟨s,a,e⟩] fun x σ=>x=bv (Cu.flag ⟨s,a,e⟩).1∧σ=[Cu.ro (Cu.flag ⟨s,a,e⟩).2]:=by
 refine AC.wk Tryz.func37 ?_
 focus (have kk1:=uN [0] (ref01_Byte _ _ _ h);have kud1:=fun za zb zc zd=>uN [0] (ref01_Fail za zb zc zd);(repeat' (first|refine G ?_|refine AW.ret ?_|(refine GC ?_ ?_<;>intro h<;>(try simp only [hsB] at h)<;>try exact xf)|(refine GL ?_ ?_<;>intro h<;>(try simp only [hsN] at h)<;>(try simp only [h])<;>(try simp only [hsB] at h)<;>try exact xf)|fail));all_goals clear kk1 kud1)
 all_goals simp only [Cu.flag]
 all_goals generalize Cu.byte ⟨s,a,e⟩=r at *
 all_goals obtain ⟨x,c⟩:=r
 all_goals simp only at *
 all_goals by_cases hc:1<x
 all_goals first|(exfalso;omega)|(((all_goals first|refine RetQ.yr 1 ⟨?_,?_⟩|refine RetQ.yn 1 ⟨?_,?_⟩);(all_goals first|rfl|(simp [Cu.fail, *];done)|((simp only [go_sem,↓reduceIte,Nat.reduceLT,Cu.fail];(repeat' split))<;>first|rfl|(exfalso;omega)|(simp_all;done)|(simp_all;omega))));done)|(have hd:¬ x=1:=by omega;((all_goals first|refine RetQ.yr 1 ⟨?_,?_⟩|refine RetQ.yn 1 ⟨?_,?_⟩);(all_goals first|rfl|(simp [Cu.fail, *];done)|((simp only [go_sem,↓reduceIte,Nat.reduceLT,Cu.fail];(repeat' split))<;>first|rfl|(exfalso;omega)|(simp_all;done)|(simp_all;omega))));done)
end
end Go.AW
namespace Go.AW
open Go Go.Proofs
attribute [local irreducible] thenQ blockQ RetQ AL AW AC AOp
theorem Cu.fail_ok0{c:Cu}(h:c.e=0)(f:Int):c.fail f=⟨c.s,c.a,f⟩:=by unfold Cu.fail;rw [if_pos h]
theorem ref11_Take(s:List UInt8)(a:Nat)(e:Int)(h:Cu.Ok ⟨s,a,e⟩):AC Tryz.prog 40 [.p 0 0] [Cu.ro ⟨s,a,e⟩] fun x σ=>x=.d (.l (Cu.vec ⟨s,a,e⟩).1.length (vecD (Cu.vec ⟨s,a,e⟩).1))∧σ=[Cu.ro (Cu.vec ⟨s,a,e⟩).2]:=by
 refine AC.wk Tryz.func40 ?_
 have hlt:(Cu.count ⟨s,a,e⟩ 64).1≤64:=Cu.count_max ⟨s,a,e⟩ 64
 have hok0:=Cu.count_ok (max:=64) h
 have hvec:Cu.vec ⟨s,a,e⟩=(if ((Cu.count ⟨s,a,e⟩ 64).2.ents (Cu.count ⟨s,a,e⟩ 64).1 []).2.e≠0 then [] else ((Cu.count ⟨s,a,e⟩ 64).2.ents (Cu.count ⟨s,a,e⟩ 64).1 []).1,((Cu.count ⟨s,a,e⟩ 64).2.ents (Cu.count ⟨s,a,e⟩ 64).1 []).2):=rfl
 rw [hvec]
 have hze:(Cu.count ⟨s,a,e⟩ 64).2.e=0∨(Cu.count ⟨s,a,e⟩ 64).1=0:=by
  unfold Cu.count
  by_cases h1:(Cu.vtake ⟨s,a,e⟩).2.e=0
  ·rw [if_neg (by simpa using h1)]
   split
   ·exact .inr rfl
   ·exact .inl h1
  ·rw [if_pos h1];exact .inr rfl
 generalize hz:Cu.count ⟨s,a,e⟩ 64=z at *
 obtain ⟨n,c0⟩:=z
 simp only at hlt hok0 hze ⊢
 clear hvec
 focus (have kxs:=hz;have kk1:=uN [0] (ref06_Count s a e 64 h (by decide));(repeat' (first|refine G ?_|refine AW.ret ?_|(refine GC ?_ ?_<;>intro h<;>(try simp only [hsB] at h)<;>try exact xf)|(refine GL ?_ ?_<;>intro h<;>(try simp only [hsN] at h)<;>(try simp only [h])<;>(try simp only [hsB] at h)<;>try exact xf)|fail));all_goals clear kxs kk1)
 refine AW.birth 151 2 [4] [] ?_
 refine AW.rounds [0,2,3,4,5] (fun x:Vec × List UInt8 × Cu=>[(0,.p 0 0),(2,.d (.s (.slice none 0 0))),(3,iv .i64 n),(4,.o 1 x.1.length),(5,iv .i64 x.1.length)]) (fun x=>[Cu.ro x.2.2,.row 151 2 x.1.length (vecD x.1)])
  (fun x=>x.2.2.Ok∧(x.2.2.e=0∨n=0)∧Vec.last x.1 x.2.1∧Vfam n [] c0 x.1 x.2.1 x.2.2) (fun x=>n-x.1.length) ([],[],c0) ⟨hok0,hze,.inl ⟨rfl,rfl⟩,Fam.start n [] c0⟩ rfl rfl (fun _ _=>Nat.le_of_ble_eq_true rfl) (fun _ _=>rfl) (fun _ _=>rfl) ?_
 rintro ⟨out,p,c⟩ ⟨hok,hcn,hlast,hf⟩ J hJ
 simp only at hok hcn hlast hf ⊢
 have hst:∀ (k:List UInt8) (c:Cu),c.e≠0→(Cu.ent k c).2=c:=fun k c h=>(trip_ent k).stuck c h
 by_cases hlen:out.length<n
 case neg=>
  by_cases hce:c.e=0
  ·have hb2:Cu.ents n [] c0=(out,c):=Fam.done hf hce hlen
   rw [hb2]
   simp only
   rw [if_neg (by simpa using hce)]
   exact Wd1
  ·have hb2:(Cu.ents n [] c0).2=c:=Fam.bad hst hf hce
   have hfl:=hf.1
   have hn0:out.length=0:=by omega
   have ho:out=[]:=List.length_eq_zero_iff.1 hn0
   subst ho
   rw [hb2,if_pos hce]
   exact Wd1
 have hce:c.e=0:=by omega
 have hstep:=Fam.step hf hce hlen
 have hbok:=Cu.blob_ok (max:=32) hok
 have hlim:=Cu.blob_lim c 32
 have hent:Cu.ent p c=(((c.blob 32).1,((gd (lessB p (c.blob 32).1) 6 (gd (decide ((c.blob 32).1≠[])) 14 (c.blob 32).2))).vnz.1),(gd (lessB p (c.blob 32).1) 6 (gd (decide ((c.blob 32).1≠[])) 14 (c.blob 32).2)).vnz.2):=rfl
 generalize hb0:c.blob 32=y at *
 obtain ⟨t,c1⟩:=y
 have hb:Cu.blob ⟨c.s,c.a,c.e⟩ 32=(t,c1):=hb0
 simp only at hlim hbok hent
 have bad:∀ c3:Cu,(Cu.ent p c).2=c3→c3.e≠0→(Cu.ents n [] c0).2=c3:=fun c3 h3 he=>by
  rw [h3] at hstep
  exact Fam.bad hst hstep he
 have vbad:∀ q:Cu,q.e≠0→q.vnz.2=q:=fun q hq=>trip_vnz.stuck q hq
 by_cases h1:c1.e=0
 case neg=>
  have hb2:=bad c1 (by rw [hent,gd_stuck h1,gd_stuck h1];exact vbad c1 h1) h1
  rw [hb2,if_pos h1]
  (have kxs:=hb;have kk1:=uN [0] (ref06_Take c.s c.a c.e 32 hok (by decide));exact Wd1)
 by_cases h2:t=[]
 ·subst h2
  have hb2:=bad (c1.fail 14) (by rw [hent,gd_name_empty];exact vbad _ (Cu.fail_e (by decide))) (Cu.fail_e (by decide))
  rw [hb2,if_pos (Cu.fail_e (by decide)),Cu.fail_ok0 h1]
  (have kxs:=hb;have kk1:=uN [0] (ref06_Take c.s c.a c.e 32 hok (by decide));exact Wd1)
 have htl:t.length≤32:=by simpa using hlim h1
 have ht0:0<t.length:=List.length_pos_iff.2 h2
 have good:gd (lessB p t) 6 (gd (decide (t≠[])) 14 c1)=c1→∀ (m:Nat) (c2:Cu),Cu.vtake c1=(m,c2)→
   (c2.e≠0→(Cu.ents n [] c0).2=c2)∧(c2.e=0→m=0→(Cu.ents n [] c0).2=c2.fail 7)∧
   (c2.e=0→m≠0→∀ T' σ',keepT T' [0,2,3,4,5]=[(0,.p 0 0),(2,.d (.s (.slice none 0 0))),(3,iv .i64 n),(4,.o 1 (out.length+1)),(5,iv .i64 ((out.length:Int)+1))]→σ'.take 2=[Cu.ro c2,.row 151 2 (out.length+1) (vecD out++[.s (.string ⟨t.toArray⟩),.s (.int .u64 m)])]→J T' σ'):=by
  intro hg m c2 hv
  rw [hg] at hent
  have hv1:c1.vnz=(m,gd (decide (m≠0)) 7 c2):=by unfold Cu.vnz;rw [hv]
  rw [hv1] at hent
  have hok2:c2.Ok:=by have:=Cu.vtake_ok hbok;rw [hv] at this;exact this
  refine ⟨fun h0=>bad c2 (by rw [hent];exact gd_stuck h0 _ _) h0,fun h0 hm=>bad (c2.fail 7) (by rw [hent,hm];rfl) (Cu.fail_e (by decide)),fun h0 hm T' σ' g1 g2=>?_⟩
  have hd:decide (m≠0)=true:=by simpa using hm
  have hent2:Cu.ent p c=((t,m),c2):=by rw [hent,hd];rfl
  rw [hent2] at hstep
  have hl:(out++[(t,m)]).length=out.length+1:=by simp
  exact hJ (out++[(t,m)],t,c2) T' σ' (by simp only [hl];omega) ⟨hok2,.inl h0,Vec.last_snoc out t m htl,hstep⟩ (by simp only [hl];exact g1) (by rw [vec_snoc] at g2;simp only [hl];exact g2)
 have h10:t.length≠0:=by omega
 have hbok':Cu.Ok ⟨c1.s,c1.a,c1.e⟩:=hbok
 rcases hlast with ⟨rfl,rfl⟩|⟨hlo,hpl,pn,pr,hpd⟩
 ·have hl0:lessB [] t=true:=by
    cases hx:t with
    | nil=>exact absurd hx h2
    | cons b u=>exact less_nil_cons b u
  have good:=good (gd_name_ok h2 hl0)
  generalize hv:c1.vtake=w at *
  obtain ⟨m,c2⟩:=w
  have hv':Cu.vtake ⟨c1.s,c1.a,c1.e⟩=(m,c2):=hv
  obtain ⟨g1,g2,g3⟩:=good m c2 rfl
  by_cases h5:c2.e=0
  case neg=>
   rw [g1 h5,if_pos h5]
   (have kxs:=And.intro hb hv';have kk1:=uN [0] (ref06_Take c.s c.a c.e 32 hok (by decide));have kk2:=uN [0] (ref03_Take c1.s c1.a c1.e hbok');exact Wd1)
  by_cases h6:m=0
  ·rw [g2 h5 h6,if_pos (Cu.fail_e (by decide)),Cu.fail_ok0 h5]
   (have kxs:=And.intro hb hv';have kk1:=uN [0] (ref06_Take c.s c.a c.e 32 hok (by decide));have kk2:=uN [0] (ref03_Take c1.s c1.a c1.e hbok');exact Wd1)
  ·have g3:=g3 h5 h6
   focus (have kxs:=And.intro hb hv';have kk1:=uN [0] (ref06_Take c.s c.a c.e 32 hok (by decide));have kk2:=uN [0] (ref03_Take c1.s c1.a c1.e hbok');(repeat' (first|refine G ?_|refine AW.ret ?_|(refine GC ?_ ?_<;>intro h<;>(try simp only [hsB] at h)<;>try exact xf)|(refine GL ?_ ?_<;>intro h<;>(try simp only [hsN] at h)<;>(try simp only [h])<;>(try simp only [hsB] at h)<;>try exact xf)|fail));all_goals clear kxs kk1 kk2)
   all_goals first|exact g3 _ _ rfl rfl|(exfalso;simp_all;done)
 have hcd:=vec_drop hpd
 have hi1:((out.length:Int)-1).toNat=out.length-1:=by omega
 by_cases h3:lessB p t=true
 ·have h3':Op.bytesLess p t=true:=h3
  have good:=good (gd_name_ok h2 h3)
  generalize hv:c1.vtake=w at *
  obtain ⟨m,c2⟩:=w
  have hv':Cu.vtake ⟨c1.s,c1.a,c1.e⟩=(m,c2):=hv
  obtain ⟨g1,g2,g3⟩:=good m c2 rfl
  by_cases h5:c2.e=0
  case neg=>
   rw [g1 h5,if_pos h5]
   (have kxs:=And.intro hb (And.intro hv' (And.intro hcd (And.intro hi1 h3')));have kk1:=uN [0] (ref06_Take c.s c.a c.e 32 hok (by decide));have kk2:=uN [] (ref06_Below p t (by omega) (by omega));have kk3:=uN [0] (ref03_Take c1.s c1.a c1.e hbok');exact Wd1)
  by_cases h6:m=0
  ·rw [g2 h5 h6,if_pos (Cu.fail_e (by decide)),Cu.fail_ok0 h5]
   (have kxs:=And.intro hb (And.intro hv' (And.intro hcd (And.intro hi1 h3')));have kk1:=uN [0] (ref06_Take c.s c.a c.e 32 hok (by decide));have kk2:=uN [] (ref06_Below p t (by omega) (by omega));have kk3:=uN [0] (ref03_Take c1.s c1.a c1.e hbok');exact Wd1)
  ·have g3:=g3 h5 h6
   focus (have kxs:=And.intro hb (And.intro hv' (And.intro hcd (And.intro hi1 h3')));have kk1:=uN [0] (ref06_Take c.s c.a c.e 32 hok (by decide));have kk2:=uN [] (ref06_Below p t (by omega) (by omega));have kk3:=uN [0] (ref03_Take c1.s c1.a c1.e hbok');(repeat' (first|refine G ?_|refine AW.ret ?_|(refine GC ?_ ?_<;>intro h<;>(try simp only [hsB] at h)<;>try exact xf)|(refine GL ?_ ?_<;>intro h<;>(try simp only [hsN] at h)<;>(try simp only [h])<;>(try simp only [hsB] at h)<;>try exact xf)|fail));all_goals clear kxs kk1 kk2 kk3)
   all_goals first|exact g3 _ _ rfl rfl|(exfalso;simp_all;done)
 ·have h3':Op.bytesLess p t=false:=by simpa using h3
  have hb2:=bad (c1.fail 6) (by rw [hent,gd_name_order h2 h3'];exact vbad _ (Cu.fail_e (by decide))) (Cu.fail_e (by decide))
  rw [hb2,if_pos (Cu.fail_e (by decide)),Cu.fail_ok0 h1]
  (have kxs:=And.intro hb (And.intro hcd (And.intro hi1 h3'));have kk1:=uN [0] (ref06_Take c.s c.a c.e 32 hok (by decide));have kk2:=uN [] (ref06_Below p t (by omega) (by omega));exact Wd1)
end Go.AW
