/-
  cursor: each function does what its plain form says.
-/
import Derived.Test.YtdnfcckkdnkaiaaGreatC04
import Derived.Test.YtdnfcckkdnkaiaaGreatC05
set_option linter.unusedVariables false
set_option linter.unusedSimpArgs false
set_option maxHeartbeats 4000000
set_option maxRecDepth 10000
namespace Go.AW
open Go Go.Proofs
attribute [local irreducible] thenQ blockQ RetQ AL AW AC AOp
abbrev Cu.ob(c:Cu):Ob:=.box 166 [sv (bs c.s),iv .i64 c.a,iv .i64 c.e]
attribute [go_sem] Cu.ob
section
variable (s : List UInt8) (a : Nat) (e f n : Int)
theorem cursor_New:AC Tryz.prog 31 [sv (bs s)] [] fun x σ=>x=.p 0 0∧σ=[Cu.ob ⟨s,0,0⟩]:=by
 refine AC.wk Tryz.func31 ?_
 focus ((repeat' (first|refine GF ?_|refine AW.ret ?_|(refine GC ?_ ?_<;>intro h<;>(try simp only [hsB] at h)<;>try exact xf)|(refine GL ?_ ?_<;>intro h<;>(try simp only [hsN] at h)<;>(try simp only [h])<;>(try simp only [hsB] at h)<;>try exact xf)|fail)))
 (all_goals first|exact RetQ.fr 1|exact RetQ.fn 1|fail)
theorem cursor_Err:AC Tryz.prog 99 [.p 0 0] [Cu.ob ⟨s,a,e⟩] fun x σ=>x=iv .i64 e∧σ=[Cu.ob ⟨s,a,e⟩]:=by
 refine AC.wk Tryz.func99 ?_
 focus ((repeat' (first|refine GF ?_|refine AW.ret ?_|(refine GC ?_ ?_<;>intro h<;>(try simp only [hsB] at h)<;>try exact xf)|(refine GL ?_ ?_<;>intro h<;>(try simp only [hsN] at h)<;>(try simp only [h])<;>(try simp only [hsB] at h)<;>try exact xf)|fail)))
 (all_goals first|exact RetQ.fr 1|exact RetQ.fn 1|fail)
theorem cursor_At:AC Tryz.prog 163 [.p 0 0] [Cu.ob ⟨s,a,e⟩] fun x σ=>x=iv .i64 a∧σ=[Cu.ob ⟨s,a,e⟩]:=by
 refine AC.wk Tryz.func163 ?_
 focus ((repeat' (first|refine GF ?_|refine AW.ret ?_|(refine GC ?_ ?_<;>intro h<;>(try simp only [hsB] at h)<;>try exact xf)|(refine GL ?_ ?_<;>intro h<;>(try simp only [hsN] at h)<;>(try simp only [h])<;>(try simp only [hsB] at h)<;>try exact xf)|fail)))
 (all_goals first|exact RetQ.fr 1|exact RetQ.fn 1|fail)
theorem cursor_Left(h:Cu.Ok ⟨s,a,e⟩) :
  AC Tryz.prog 100 [.p 0 0] [Cu.ob ⟨s,a,e⟩] fun x σ=>x=iv .i64 (s.length-a)∧σ=[Cu.ob ⟨s,a,e⟩]:=by
 obtain ⟨h1,h2⟩:=h
 simp only at h1 h2
 refine AC.wk Tryz.func100 ?_
 focus ((repeat' (first|(refine ADr.nil ?_;try clear hgv)|refine GOF ?_|refine AW.ret ?_|(refine GC ?_ ?_<;>intro h<;>(try simp only [hsB] at h)<;>try exact xf)|(refine GD ?_ ?_<;>intro h<;>(try intro hgv)<;>(try simp only [hsN] at h)<;>(try simp only [h])<;>(try simp only [hsB] at h)<;>try exact xf)|(refine GL ?_ ?_<;>intro h<;>(try simp only [hsN] at h)<;>(try simp only [h])<;>(try simp only [hsB] at h)<;>try exact xf)|fail)))
 (all_goals first|exact RetQ.fr 1|exact RetQ.fn 1|fail)
theorem cursor_Fail:AC Tryz.prog 101 [.p 0 0,iv .i64 f] [Cu.ob ⟨s,a,e⟩] fun x σ=>x=.t []∧σ=[Cu.ob (Cu.fail ⟨s,a,e⟩ f)]:=by
 refine AC.wk Tryz.func101 ?_
 focus ((repeat' (first|refine GF ?_|refine AW.ret ?_|(refine GC ?_ ?_<;>intro h<;>(try simp only [hsB] at h)<;>try exact xf)|(refine GL ?_ ?_<;>intro h<;>(try simp only [hsN] at h)<;>(try simp only [h])<;>(try simp only [hsB] at h)<;>try exact xf)|fail)))
 ((all_goals first|refine RetQ.yr 1 ⟨?_,?_⟩|refine RetQ.yn 1 ⟨?_,?_⟩);(all_goals first|rfl|(simp [Cu.fail,Cu.ob, *];done)|((simp only [go_sem,↓reduceIte,Nat.reduceLT,Cu.fail,Cu.ob];(repeat' split))<;>first|rfl|(exfalso;omega)|(simp_all;done)|(simp_all;omega))))
theorem cursor_Bytes(h:Cu.Ok ⟨s,a,e⟩):AC Tryz.prog 164 [.p 0 0,iv .i64 n] [Cu.ob ⟨s,a,e⟩] fun x σ=>x=sv (bs (Cu.bytes ⟨s,a,e⟩ n).1)∧σ=[Cu.ob (Cu.bytes ⟨s,a,e⟩ n).2]:=by
 have hh:=h
 obtain ⟨h1,h2⟩:=h
 simp only at h1 h2
 refine AC.wk Tryz.func164 ?_
 focus (have kuc1:=fun za zb zc=>uN [0] (cursor_Err za zb zc);have kk1:=uN [0] (cursor_Left _ _ _ hh);have kud1:=fun za zb zc zd=>uN [0] (cursor_Fail za zb zc zd);(repeat' (first|(refine ADr.nil ?_;try clear hgv)|refine GOF ?_|refine AW.ret ?_|(refine GC ?_ ?_<;>intro h<;>(try simp only [hsB] at h)<;>try exact xf)|(refine GD ?_ ?_<;>intro h<;>(try intro hgv)<;>(try simp only [hsN] at h)<;>(try simp only [h])<;>(try simp only [hsB] at h)<;>try exact xf)|(refine GL ?_ ?_<;>intro h<;>(try simp only [hsN] at h)<;>(try simp only [h])<;>(try simp only [hsB] at h)<;>try exact xf)|fail));all_goals clear kuc1 kk1 kud1)
 ·((all_goals first|refine RetQ.yr 1 ⟨?_,?_⟩|refine RetQ.yn 1 ⟨?_,?_⟩);(all_goals first|rfl|(simp [Cu.bytes,Cu.fail, *];done)|((simp only [go_sem,↓reduceIte,Nat.reduceLT,Cu.bytes,Cu.fail];(repeat' split))<;>first|rfl|(exfalso;omega)|(simp_all;done)|(simp_all;omega))))
 ·((all_goals first|refine RetQ.yr 1 ⟨?_,?_⟩|refine RetQ.yn 1 ⟨?_,?_⟩);(all_goals first|rfl|(simp [Cu.bytes,Cu.fail, *];done)|((simp only [go_sem,↓reduceIte,Nat.reduceLT,Cu.bytes,Cu.fail];(repeat' split))<;>first|rfl|(exfalso;omega)|(simp_all;done)|(simp_all;omega))))
 ·((all_goals first|refine RetQ.yr 1 ⟨?_,?_⟩|refine RetQ.yn 1 ⟨?_,?_⟩);(all_goals first|rfl|(simp [Cu.bytes,Cu.fail, *];done)|((simp only [go_sem,↓reduceIte,Nat.reduceLT,Cu.bytes,Cu.fail];(repeat' split))<;>first|rfl|(exfalso;omega)|(simp_all;done)|(simp_all;omega))))
 ·have e1:((a:Int)+n).toNat-a=n.toNat:=by omega
  have e2:((a+n.toNat:Nat):Int)=a+n:=by omega
  ((all_goals first|refine RetQ.yr 1 ⟨?_,?_⟩|refine RetQ.yn 1 ⟨?_,?_⟩);(all_goals first|rfl|(simp [Cu.bytes,Cu.ob, *];done)|((simp only [go_sem,↓reduceIte,Nat.reduceLT,Cu.bytes,Cu.ob];(repeat' split))<;>first|rfl|(exfalso;omega)|(simp_all;done)|(simp_all;omega))))
theorem cursor_Ahead(h:Cu.Ok ⟨s,a,e⟩):AC Tryz.prog 102 [.p 0 0,iv .i64 n] [Cu.ob ⟨s,a,e⟩] fun x σ=>x=sv (bs ((s.drop a).take n.toNat))∧σ=[Cu.ob ⟨s,a,e⟩]:=by
 have hh:=h
 obtain ⟨h1,h2⟩:=h
 simp only at h1 h2
 refine AC.wk Tryz.func102 ?_
 focus (have kk1:=uN [0] (cursor_Left _ _ _ hh);(repeat' (first|(refine ADr.nil ?_;try clear hgv)|refine GOF ?_|refine AW.ret ?_|(refine GC ?_ ?_<;>intro h<;>(try simp only [hsB] at h)<;>try exact xf)|(refine GD ?_ ?_<;>intro h<;>(try intro hgv)<;>(try simp only [hsN] at h)<;>(try simp only [h])<;>(try simp only [hsB] at h)<;>try exact xf)|(refine GL ?_ ?_<;>intro h<;>(try simp only [hsN] at h)<;>(try simp only [h])<;>(try simp only [hsB] at h)<;>try exact xf)|fail));all_goals clear kk1)
 refine RetQ.r 1 rfl (Nat.le_of_ble_eq_true rfl) rfl rfl ⟨?_,rfl⟩
 refine congrArg (fun l=>sv (bs l)) (take_same ?_)
 simp only [List.length_drop]
 split<;>split<;>omega
theorem cursor_Byte(h:Cu.Ok ⟨s,a,e⟩):AC Tryz.prog 98 [.p 0 0] [Cu.ob ⟨s,a,e⟩] fun x σ=>x=iv .u8 (Cu.byte ⟨s,a,e⟩).1∧σ=[Cu.ob (Cu.byte ⟨s,a,e⟩).2]:=by
 refine AC.wk Tryz.func98 ?_
 repeat' (first
  | ((first
   | ((first|refine AL.callv (by decide) fun Kr hr=>?_|refine AL.callv0 fun Kr hr=>?_|refine AL.g1v (by decide) rfl fun Kr hr=>?_);first
   | (refine AOp.cι (fun _ _=>rfl) [0] rfl (cursor_Bytes s a e _ h) (Emb.one rfl) rfl ?_;rintro y obs ⟨rfl,rfl⟩))
   | refine AL.one (by decide) fun Kr hr=>?_
   | refine AL.one0 fun Kr hr=>?_);(try simp only [ao,List.map_cons,List.map_nil]);simp (disch:=omega) only [go_sem,Int.natCast_pos,List.length_pos_iff,ne_eq];(repeat first|(refine ⟨_,bsD_nums _,by simp only [List.length_map],?_⟩;simp only [strOfNums_bs])|(refine ⟨[_],rfl,rfl,?_⟩;simp only [strOfNums_one,UInt8.ofNat_toNat,Int.toNat_natCast])|refine ⟨by first|omega|assumption|rfl|(simp only [List.length_take,List.length_drop,List.length_append,List.length_cons,List.length_nil,List.length_map];omega),?_⟩);refine hr _ _ ?_;clear hr Kr)
  | refine AL.nil ?_|refine AW.seq' ?_|refine AW.region ?_|refine AW.block ?_|refine AW.skip ?_|refine AW.ret ?_|refine AW.exit ?_|refine thenQ_n ?_|refine thenQ_r ?_|refine thenQ_e ?_|refine blockQ_n ?_|refine blockQ_r ?_|refine blockQ_e ?_|refine blockQ_o (by decide) ?_
  | (refine AW.cond rfl (fun h=>?_) (fun h=>?_)<;>(try simp only [decide_eq_true_eq,decide_eq_false_iff_not,Bool.false_eq_true,Bool.true_eq_false,Bool.not_eq_true',Bool.not_eq_false',Bool.not_eq_eq_eq_not,Bool.not_true,Bool.not_false,Bool.and_eq_true,Bool.or_eq_true,Bool.and_eq_false_iff,Bool.or_eq_false_iff] at h)<;>try exact xf)
  | (refine AL.gt (by decide) rfl ?_)|(refine AL.g0 (by decide) rfl (by decide) ?_)|(refine AL.g1 (by decide) rfl fun Kr hr=>?_;(try simp only [ao,List.map_cons,List.map_nil]);simp (disch:=omega) only [go_sem,Int.natCast_pos,List.length_pos_iff,ne_eq];(repeat first|(refine ⟨_,bsD_nums _,by simp only [List.length_map],?_⟩;simp only [strOfNums_bs])|(refine ⟨[_],rfl,rfl,?_⟩;simp only [strOfNums_one,UInt8.ofNat_toNat,Int.toNat_natCast])|refine ⟨by first|omega|assumption|rfl|(simp only [List.length_take,List.length_drop,List.length_append,List.length_cons,List.length_nil,List.length_map];omega),?_⟩);refine hr _ _ ?_;clear hr Kr)
  | (refine AL.g (by decide) rfl (fun h=>?_) (fun h=>?_)<;>(try simp only [hsN] at h)<;>(try simp only [h])<;>simp only [decide_eq_true_eq,decide_eq_false_iff_not,Bool.false_eq_true,Bool.true_eq_false,Bool.not_eq_true',Bool.not_eq_false',Bool.not_eq_eq_eq_not,Bool.not_true,Bool.not_false,Bool.and_eq_true,Bool.or_eq_true,Bool.and_eq_false_iff,Bool.or_eq_false_iff] at h<;>try exact xf))
 ((all_goals first|refine RetQ.yr 1 ⟨?_,?_⟩|refine RetQ.yn 1 ⟨?_,?_⟩);(all_goals first|rfl|(simp [Cu.byte,Cu.ob, *];done)|((simp only [go_sem,↓reduceIte,Nat.reduceLT,Cu.byte,Cu.ob];(repeat' split))<;>first|rfl|(exfalso;omega)|(simp_all;done)|(simp_all;omega))))
theorem cursor_End(h:Cu.Ok ⟨s,a,e⟩):AC Tryz.prog 33 [.p 0 0] [Cu.ob ⟨s,a,e⟩] fun x σ=>x=iv .i64 (Cu.fin ⟨s,a,e⟩).e∧σ=[Cu.ob (Cu.fin ⟨s,a,e⟩)]:=by
 have hh:=h
 obtain ⟨h1,h2⟩:=h
 simp only at h1 h2
 refine AC.wk Tryz.func33 ?_
 focus (have kk1:=uN [0] (cursor_Left _ _ _ hh);have kud1:=fun za zb zc zd=>uN [0] (cursor_Fail za zb zc zd);have kuc1:=fun za zb zc=>uN [0] (cursor_Err za zb zc);(repeat' (first|refine GF ?_|refine AW.ret ?_|(refine GC ?_ ?_<;>intro h<;>(try simp only [hsB] at h)<;>try exact xf)|(refine GL ?_ ?_<;>intro h<;>(try simp only [hsN] at h)<;>(try simp only [h])<;>(try simp only [hsB] at h)<;>try exact xf)|fail));all_goals clear kk1 kud1 kuc1)
 ((all_goals first|refine RetQ.yr 1 ⟨?_,?_⟩|refine RetQ.yn 1 ⟨?_,?_⟩);(all_goals first|rfl|(simp [Cu.fin,Cu.fail, *];done)|((simp only [go_sem,↓reduceIte,Nat.reduceLT,Cu.fin,Cu.fail];(repeat' split))<;>first|rfl|(exfalso;omega)|(simp_all;done)|(simp_all;omega))))
end
end Go.AW
/-
  The document's cursor: each function does what its plain form says.
-/
namespace Go.AW
open Go Go.Proofs
attribute [local irreducible] thenQ blockQ RetQ AL AW AC AOp
abbrev Cu.ro(c:Cu):Ob:=.box 92 [sv (bs c.s),iv .i64 c.a,iv .i64 c.e]
attribute [go_sem] Cu.ro
section
variable (s : List UInt8) (a : Nat) (e f n : Int)
end
end Go.AW
/-
  pen: each function does what its plain form says.
-/
namespace Go.AW
open Go Go.Proofs
attribute [local irreducible] thenQ blockQ RetQ AL AW AC AOp
abbrev Pe.obs(p:Pe):List Ob:=[.box 196 [.o 1 p.b.length,iv .i64 p.m,iv .i64 p.e],.row 5 1 p.b.length (bsD p.b)]
attribute [go_sem] Pe.obs
section
variable (b s : List UInt8) (m e f n : Int)
end
end Go.AW
/-
  The document's pen: each function does what its plain form says.
-/
namespace Go.AW
open Go Go.Proofs
attribute [local irreducible] thenQ blockQ RetQ AL AW AC AOp
abbrev Pe.ro(p:Pe):Ob:=.box 201 [sv (bs p.b),iv .i64 p.m,iv .i64 p.e]
attribute [go_sem] Pe.ro
section
variable (b s : List UInt8) (m e f n : Int)
end
end Go.AW
/-
  Bits of numbers, as sums.
-/
namespace Go.AW
open Go
theorem and_u8{x y:Nat}(hx:x<256)(hy:y<256):bitI .and .u8 x y=((x&&& y:Nat):Int):=by
 show IntKind.wrap .u8 ((BitVec.ofInt 8 x&&& BitVec.ofInt 8 y).toNat:Int)=_
 rw [BitVec.ofInt_natCast,BitVec.ofInt_natCast,BitVec.toNat_and,BitVec.toNat_ofNat,BitVec.toNat_ofNat,Nat.mod_eq_of_lt (by omega),Nat.mod_eq_of_lt (by omega)]
 have:x&&& y≤x:=Nat.and_le_left
 exact wrap_u8 (by omega) (by omega)
theorem or_u64{x y:Nat}(hx:x<18446744073709551616)(hy:y<18446744073709551616):bitI .or .u64 x y=((x||| y:Nat):Int):=by
 show IntKind.wrap .u64 ((BitVec.ofInt 64 x||| BitVec.ofInt 64 y).toNat:Int)=_
 rw [BitVec.ofInt_natCast,BitVec.ofInt_natCast,BitVec.toNat_or,BitVec.toNat_ofNat,BitVec.toNat_ofNat,Nat.mod_eq_of_lt (by omega),Nat.mod_eq_of_lt (by omega)]
 have:x||| y<2^64:=Nat.or_lt_two_pow (by omega) (by omega)
 exact wrap_u64 (by omega) (by omega)
theorem or_high{n x i:Nat}(hn:n<2^i):n||| x*2^i=n+x*2^i:=by
 rw [Nat.or_comm,Nat.add_comm,Nat.mul_comm,Nat.two_pow_add_eq_or_of_lt hn]
theorem and127(b:UInt8):bitI .and .u8 (b.toNat:Int) 127=((b.toNat%128:Nat):Int):=by
 have h:=and_u8 (x:=b.toNat) (y:=127) b.toNat_lt (by omega)
 rw [show ((127:Nat):Int)=127 from rfl] at h
 rw [h,show (127:Nat)=2^7-1 from rfl,Nat.and_two_pow_sub_one_eq_mod]
theorem pow128(i:Nat):128^i=2^(7*i):=by rw [Nat.pow_mul]
theorem vstep{n i x:Nat}(hi:i≤9)(hn:n<128^i)(hx:x<128)(h9:i=9→x≤1):bitI .or .u64 (n:Int) (IntKind.wrap .u64 ((x:Int)*2^(min (7*(i:Int)).toNat 64)))=((n+x*128^i:Nat):Int):=by
 have h1:(7*(i:Int)).toNat=7*i:=by omega
 rw [h1,Nat.min_eq_left (by omega),show (x:Int)*2^(7*i)=((x*2^(7*i):Nat):Int) by push_cast;rfl]
 have h2:x*2^(7*i)<18446744073709551616:=by
  by_cases h:i=9
  ·subst h
   have:=Nat.mul_le_mul_right (2^(7*9)) (h9 rfl)
   omega
  ·have h3:2^(7*i)≤2^56:=Nat.pow_le_pow_right (by omega) (by omega)
   have:=Nat.mul_le_mul (Nat.le_of_lt_succ (show x<127+1 by omega)) h3
   omega
 have h3:n<18446744073709551616:=by
  have:128^i≤128^9:=Nat.pow_le_pow_right (by omega) hi
  have:128^9<18446744073709551616:=by decide
  omega
 rw [wrap_u64 (by omega) (by omega),or_u64 h3 h2,or_high (by rw [←pow128];exact hn),pow128]
end Go.AW
namespace Go.AW
open Go Go.Proofs
attribute [local irreducible] thenQ blockQ RetQ AL AW AC AOp
theorem vgo_nil{k i n:Nat}{s:List UInt8}{a:Nat}{e:Int}(h:s.drop a=[]):Cu.vgo (k+1) i n ⟨s,a,e⟩=(0,⟨s,a,2⟩):=by
 unfold Cu.vgo;simp only [h]
theorem vgo_cons{k i n:Nat}{s r:List UInt8}{b:UInt8}{a:Nat}{e:Int}(h:s.drop a=b::r):Cu.vgo (k+1) i n ⟨s,a,e⟩ =
  if i=9∧1<b.toNat then (0,⟨s,a,5⟩) else if b.toNat=0∧0<i then (0,⟨s,a,4⟩)
   else if b.toNat<128 then (n+b.toNat%128*128^i,⟨s,a+1,e⟩) else Cu.vgo k (i+1) (n+b.toNat%128*128^i) ⟨s,a+1,e⟩:=by
 conv=>lhs;unfold Cu.vgo
 simp only [h]
theorem byte_cons{s r:List UInt8}{b:UInt8}{a:Nat}(h:s.drop a=b::r):Cu.byte ⟨s,a,0⟩=(b.toNat,⟨s,a+1,0⟩):=by
 have hl:(s.drop a).length=r.length+1:=by rw [h];rfl
 rw [List.length_drop] at hl
 have h1:¬ (1:Int)>s.length-a:=by omega
 simp only [Cu.byte,Cu.bytes]
 rw [if_neg (by simp),if_neg (by omega),if_neg h1,h]
 rfl
theorem drop_cons_lt{s r:List UInt8}{b:UInt8}{a:Nat}(h:s.drop a=b::r):a<s.length:=by
 have hl:(s.drop a).length=r.length+1:=by rw [h];rfl
 rw [List.length_drop] at hl
 omega
theorem vpow{n i x:Nat}(hn:n<128^i)(hx:x<128):n+x*128^i<128^(i+1):=by
 have h:(x+1)*128^i≤128*128^i:=Nat.mul_le_mul_right _ hx
 rw [Nat.pow_succ,Nat.mul_comm (128^i) 128]
 rw [Nat.add_mul] at h
 omega
section
variable (s : List UInt8) (a : Nat) (e : Int)
theorem varint_Take(h:Cu.Ok ⟨s,a,e⟩):AC Tryz.prog 32 [.p 0 0] [Cu.ob ⟨s,a,e⟩] fun x σ=>x=iv .u64 (Cu.vtake ⟨s,a,e⟩).1∧σ=[Cu.ob (Cu.vtake ⟨s,a,e⟩).2]:=by
 obtain ⟨h1,h2⟩:=h
 simp only at h1 h2
 by_cases he:e=0
 case neg=>
  have hv:Cu.vtake ⟨s,a,e⟩=(0,⟨s,a,e⟩):=by unfold Cu.vtake;rw [if_pos he]
  rw [hv]
  refine AC.wk Tryz.func32 ?_
  focus ((repeat' (first|refine GF ?_|refine AW.ret ?_|(refine GC ?_ ?_<;>intro h<;>(try simp only [hsB] at h)<;>try exact xf)|(refine GL ?_ ?_<;>intro h<;>(try simp only [hsN] at h)<;>(try simp only [h])<;>(try simp only [hsB] at h)<;>try exact xf)|fail)))
  refine AW.rounds [0,2,3,4,5] (fun _:Unit=>[(0,.p 0 0),(2,iv .u64 0),(3,.f (.func 98) [.p 0 0] []),(4,iv .u64 0),(5,iv .i64 0)]) (fun _=>[Cu.ob ⟨s,a,e⟩]) (fun _=>True) (fun _=>0) () trivial rfl rfl
   (fun _ _=>Nat.le_of_ble_eq_true rfl) (fun _ _=>rfl) (fun _ _=>rfl) ?_
  intro i hi J hJ
  focus (have kuc1:=fun za zb zc=>uN [0] (cursor_Err za zb zc);(repeat' (first|refine GF ?_|refine AW.ret ?_|(refine GC ?_ ?_<;>intro h<;>(try simp only [hsB] at h)<;>try exact xf)|(refine GL ?_ ?_<;>intro h<;>(try simp only [hsN] at h)<;>(try simp only [h])<;>(try simp only [hsB] at h)<;>try exact xf)|fail));all_goals clear kuc1)
  ·(all_goals first|exact RetQ.fr 1|exact RetQ.fn 1|fail)
 subst he
 rw [show Cu.vtake ⟨s,a,0⟩=Cu.vgo 10 0 0 ⟨s,a,0⟩ from by unfold Cu.vtake;rw [if_neg (by simp)]]
 generalize hR:Cu.vgo 10 0 0 ⟨s,a,0⟩=R
 refine AC.wk Tryz.func32 ?_
 focus ((repeat' (first|refine GF ?_|refine AW.ret ?_|(refine GC ?_ ?_<;>intro h<;>(try simp only [hsB] at h)<;>try exact xf)|(refine GL ?_ ?_<;>intro h<;>(try simp only [hsN] at h)<;>(try simp only [h])<;>(try simp only [hsB] at h)<;>try exact xf)|fail)))
 refine AW.rounds [0,2,3,4,5] (fun x:Nat × Nat × Nat=>[(0,.p 0 0),(2,iv .u64 0),(3,.f (.func 98) [.p 0 0] []),(4,iv .u64 x.2.1),(5,iv .i64 x.1)]) (fun x=>[Cu.ob ⟨s,x.2.2,0⟩]) (fun x=>x.1≤9∧x.2.1<128^x.1∧x.2.2≤s.length∧Cu.vgo (10-x.1) x.1 x.2.1 ⟨s,x.2.2,0⟩=R) (fun x=>10-x.1) (0,0,a) ⟨Nat.zero_le _,Nat.one_pos,h2,hR⟩ rfl rfl
  (fun _ _=>Nat.le_of_ble_eq_true rfl) (fun _ _=>rfl) (fun _ _=>rfl) ?_
 rintro ⟨i,n,a⟩ ⟨hi,hn,ha,hr⟩ J hJ
 simp only at hi hn ha hr hJ ⊢
 have hok:Cu.Ok ⟨s,a,0⟩:=⟨h1,ha⟩
 rw [show 10-i=(9-i)+1 by omega] at hr
 rcases hs:s.drop a with _|⟨b,r⟩
 ·have hlen:a=s.length:=by
    have:=congrArg List.length hs
    simp at this;omega
  rw [vgo_nil hs] at hr
  subst hr
  focus (have kuc1:=fun za zb zc=>uN [0] (cursor_Err za zb zc);have kk1:=uN [0] (cursor_Left _ _ _ hok);have kud1:=fun za zb zc zd=>uN [0] (cursor_Fail za zb zc zd);(repeat' (first|refine GF ?_|refine AW.ret ?_|(refine GC ?_ ?_<;>intro h<;>(try simp only [hsB] at h)<;>try exact xf)|(refine GL ?_ ?_<;>intro h<;>(try simp only [hsN] at h)<;>(try simp only [h])<;>(try simp only [hsB] at h)<;>try exact xf)|fail));all_goals clear kuc1 kk1 kud1)
  ((all_goals first|refine RetQ.yr 1 ⟨?_,?_⟩|refine RetQ.yn 1 ⟨?_,?_⟩);(all_goals first|rfl|(simp [Cu.fail, *];done)|((simp only [go_sem,↓reduceIte,Nat.reduceLT,Cu.fail];(repeat' split))<;>first|rfl|(exfalso;omega)|(simp_all;done)|(simp_all;omega))))
 ·have hlt:=drop_cons_lt hs
  have hb:=b.toNat_lt
  rw [vgo_cons hs] at hr
  have hby:=byte_cons hs
  have hand:=and127 b
  focus (have kxs:=And.intro hs (And.intro hby hand);have kuc1:=fun za zb zc=>uN [0] (cursor_Err za zb zc);have kk1:=uN [0] (cursor_Left _ _ _ hok);have kua1:=fun za=>uN [0] (cursor_Ahead _ _ _ za hok);have kud1:=fun za zb zc zd=>uN [0] (cursor_Fail za zb zc zd);have kk2:=uN [0] (cursor_Byte _ _ _ hok);(repeat' (first|refine GF ?_|refine AW.ret ?_|(refine GC ?_ ?_<;>intro h<;>(try simp only [hsB] at h)<;>try exact xf)|(refine GL ?_ ?_<;>intro h<;>(try simp only [hsN] at h)<;>(try simp only [h])<;>(try simp only [hsB] at h)<;>try exact xf)|fail));all_goals clear kxs kuc1 kk1 kua1 kud1 kk2)
  all_goals (try (have hst:=vstep hi hn (Nat.mod_lt b.toNat (show 0<128 by omega)) (by omega);simp only [hst]))
  all_goals first
   | (subst hr;((all_goals first|refine RetQ.yr 1 ⟨?_,?_⟩|refine RetQ.yn 1 ⟨?_,?_⟩);(all_goals first|rfl|(simp [Cu.fail, *];done)|((simp only [go_sem,↓reduceIte,Nat.reduceLT,Cu.fail];(repeat' split))<;>first|rfl|(exfalso;omega)|(simp_all;done)|(simp_all;omega))));done)
   | (rw [if_neg (by omega),if_neg (by omega),if_neg (by omega)] at hr
      refine hJ (i+1,n+b.toNat%128*128^i,a+1) _ _ (by simp only;omega) ⟨by simp only;omega,vpow hn (Nat.mod_lt b.toNat (show 0<128 by omega)),hlt,?_⟩ rfl rfl
      simp only
      rw [show 10-(i+1)=9-i by omega]
      exact hr)
end
end Go.AW
/-
  varint, the program's and the document's: what is written.
-/
namespace Go.AW
open Go Go.Proofs
attribute [local irreducible] thenQ blockQ RetQ AL AW AC AOp
section
variable (b s : List UInt8) (m e : Int)
end
end Go.AW
/-
  blob, the program's and the document's: what is read.
-/
namespace Go.AW
open Go Go.Proofs
attribute [local irreducible] thenQ blockQ RetQ AL AW AC AOp
section
variable (s : List UInt8) (a : Nat) (e max : Int)
theorem blob_within(h:Cu.Ok ⟨s,a,e⟩)(hm:max≤9223372036854775807):AC Tryz.prog 247 [.p 0 0,iv .i64 max] [Cu.ob ⟨s,a,e⟩] fun x σ=>x=iv .i64 (Cu.count ⟨s,a,e⟩ max).1∧σ=[Cu.ob (Cu.count ⟨s,a,e⟩ max).2]:=by
 have hlt:=Cu.vtake_lt ⟨s,a,e⟩
 refine AC.wk Tryz.func247 ?_
 focus (have kk1:=uN [0] (varint_Take _ _ _ h);have kuc1:=fun za zb zc=>uN [0] (cursor_Err za zb zc);have kud1:=fun za zb zc zd=>uN [0] (cursor_Fail za zb zc zd);(repeat' (first|refine G ?_|refine AW.ret ?_|(refine GC ?_ ?_<;>intro h<;>(try simp only [hsB] at h)<;>try exact xf)|(refine GL ?_ ?_<;>intro h<;>(try simp only [hsN] at h)<;>(try simp only [h])<;>(try simp only [hsB] at h)<;>try exact xf)|fail));all_goals clear kk1 kuc1 kud1)
 all_goals by_cases hc:max.toNat<(Cu.vtake ⟨s,a,e⟩).1
 all_goals first|(exfalso;omega)|(((all_goals first|refine RetQ.yr 1 ⟨?_,?_⟩|refine RetQ.yn 1 ⟨?_,?_⟩);(all_goals first|rfl|(simp [Cu.count,Cu.fail, *];done)|((simp only [go_sem,↓reduceIte,Nat.reduceLT,Cu.count,Cu.fail];(repeat' split))<;>first|rfl|(exfalso;omega)|(simp_all;done)|(simp_all;omega))));done)
theorem blob_Take(h:Cu.Ok ⟨s,a,e⟩)(hm:max≤9223372036854775807):AC Tryz.prog 173 [.p 0 0,iv .i64 max] [Cu.ob ⟨s,a,e⟩] fun x σ=>x=sv (bs (Cu.blob ⟨s,a,e⟩ max).1)∧σ=[Cu.ob (Cu.blob ⟨s,a,e⟩ max).2]:=by
 refine AC.wk Tryz.func173 ?_
 focus (have kk1:=uN [0] (blob_within _ _ _ max h hm);have kua1:=fun za=>uN [0] (cursor_Bytes _ _ _ za (Cu.count_ok (max:=max) h));(repeat' (first|refine G ?_|refine AW.ret ?_|(refine GC ?_ ?_<;>intro h<;>(try simp only [hsB] at h)<;>try exact xf)|(refine GL ?_ ?_<;>intro h<;>(try simp only [hsN] at h)<;>(try simp only [h])<;>(try simp only [hsB] at h)<;>try exact xf)|fail));all_goals clear kk1 kua1)
 ((all_goals first|refine RetQ.yr 1 ⟨?_,?_⟩|refine RetQ.yn 1 ⟨?_,?_⟩);(all_goals first|rfl|(simp [Cu.blob, *];done)|((simp only [go_sem,↓reduceIte,Nat.reduceLT,Cu.blob];(repeat' split))<;>first|rfl|(exfalso;omega)|(simp_all;done)|(simp_all;omega))))
theorem blob_Flag(h:Cu.Ok ⟨s,a,e⟩):AC Tryz.prog 94 [.p 0 0] [Cu.ob ⟨s,a,e⟩] fun x σ=>x=bv (Cu.flag ⟨s,a,e⟩).1∧σ=[Cu.ob (Cu.flag ⟨s,a,e⟩).2]:=by
 refine AC.wk Tryz.func94 ?_
 focus (have kk1:=uN [0] (cursor_Byte _ _ _ h);have kud1:=fun za zb zc zd=>uN [0] (cursor_Fail za zb zc zd);(repeat' (first|refine G ?_|refine AW.ret ?_|(refine GC ?_ ?_<;>intro h<;>(try simp only [hsB] at h)<;>try exact xf)|(refine GL ?_ ?_<;>intro h<;>(try simp only [hsN] at h)<;>(try simp only [h])<;>(try simp only [hsB] at h)<;>try exact xf)|fail));all_goals clear kk1 kud1)
 all_goals simp only [Cu.flag]
 all_goals generalize Cu.byte ⟨s,a,e⟩=r at *
 all_goals obtain ⟨x,c⟩:=r
 all_goals simp only at *
 all_goals by_cases hc:1<x
 all_goals first|(exfalso;omega)|(((all_goals first|refine RetQ.yr 1 ⟨?_,?_⟩|refine RetQ.yn 1 ⟨?_,?_⟩);(all_goals first|rfl|(simp [Cu.fail, *];done)|((simp only [go_sem,↓reduceIte,Nat.reduceLT,Cu.fail];(repeat' split))<;>first|rfl|(exfalso;omega)|(simp_all;done)|(simp_all;omega))));done)|(have hd:¬ x=1:=by omega;((all_goals first|refine RetQ.yr 1 ⟨?_,?_⟩|refine RetQ.yn 1 ⟨?_,?_⟩);(all_goals first|rfl|(simp [Cu.fail, *];done)|((simp only [go_sem,↓reduceIte,Nat.reduceLT,Cu.fail];(repeat' split))<;>first|rfl|(exfalso;omega)|(simp_all;done)|(simp_all;omega))));done)
end
end Go.AW
/-
  blob, the program's and the document's: what is written.
-/
namespace Go.AW
open Go Go.Proofs
attribute [local irreducible] thenQ blockQ RetQ AL AW AC AOp
section
variable (b s : List UInt8) (m e max : Int)
end
end Go.AW
/-
  blob.Rising and the document's.
-/
namespace Go.AW
open Go Go.Proofs
attribute [local irreducible] thenQ blockQ RetQ AL AW AC AOp
abbrev strs(l:List (List UInt8)):List D:=l.map fun s=>.s (.string ⟨s.toArray⟩)
end Go.AW
