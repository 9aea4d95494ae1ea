/-
  cursor: each function does what its plain form says.
-/
import Derived.Test.YtdnfcckkdnkaiaaGreatU03
import Derived.Test.YtdnfcckkdnkaiaaGreatU04
set_option linter.unusedVariables false
set_option linter.unusedSimpArgs false
set_option maxHeartbeats 4000000
set_option maxRecDepth 10000
namespace Go.AW
open Go Go.Proofs
attribute [local irreducible] thenQ blockQ RetQ AL AW AC AOp
abbrev Cu.ob(c:Cu):Ob:=.box 166 [sv (bs c.s),iv .i64 c.a,iv .i64 c.e]
attribute [go_sem] Cu.ob
section
variable (s : List UInt8) (a : Nat) (e f n : Int)
theorem cursor_New:AC Tryz.prog 31 [sv (bs s)] [] fun x σ=>x=.p 0 0∧σ=[Cu.ob ⟨s,0,0⟩]:=by
 refine AC.wk Tryz.func31 ?_
 focus ((repeat' (first|refine GF ?_|refine AW.ret ?_|(refine GC ?_ ?_<;>intro h<;>(try simp only [hsB] at h)<;>try exact xf)|(refine GL ?_ ?_<;>intro h<;>(try simp only [hsN] at h)<;>(try simp only [h])<;>(try simp only [hsB] at h)<;>try exact xf)|fail)))
 (all_goals first|exact RetQ.fr 1|exact RetQ.fn 1|fail)
theorem cursor_Err:AC Tryz.prog 99 [.p 0 0] [Cu.ob ⟨s,a,e⟩] fun x σ=>x=iv .i64 e∧σ=[Cu.ob ⟨s,a,e⟩]:=by
 refine AC.wk Tryz.func99 ?_
 focus ((repeat' (first|refine GF ?_|refine AW.ret ?_|(refine GC ?_ ?_<;>intro h<;>(try simp only [hsB] at h)<;>try exact xf)|(refine GL ?_ ?_<;>intro h<;>(try simp only [hsN] at h)<;>(try simp only [h])<;>(try simp only [hsB] at h)<;>try exact xf)|fail)))
 (all_goals first|exact RetQ.fr 1|exact RetQ.fn 1|fail)
theorem cursor_Left(h:Cu.Ok ⟨s,a,e⟩) :
  AC Tryz.prog 100 [.p 0 0] [Cu.ob ⟨s,a,e⟩] fun x σ=>x=iv .i64 (s.length-a)∧σ=[Cu.ob ⟨s,a,e⟩]:=by
 obtain ⟨h1,h2⟩:=h
 simp only at h1 h2
 refine AC.wk Tryz.func100 ?_
 focus ((repeat' (first|(refine ADr.nil ?_;try clear hgv)|refine GOF ?_|refine AW.ret ?_|(refine GC ?_ ?_<;>intro h<;>(try simp only [hsB] at h)<;>try exact xf)|(refine GD ?_ ?_<;>intro h<;>(try intro hgv)<;>(try simp only [hsN] at h)<;>(try simp only [h])<;>(try simp only [hsB] at h)<;>try exact xf)|(refine GL ?_ ?_<;>intro h<;>(try simp only [hsN] at h)<;>(try simp only [h])<;>(try simp only [hsB] at h)<;>try exact xf)|fail)))
 (all_goals first|exact RetQ.fr 1|exact RetQ.fn 1|fail)
theorem cursor_Fail:AC Tryz.prog 101 [.p 0 0,iv .i64 f] [Cu.ob ⟨s,a,e⟩] fun x σ=>x=.t []∧σ=[Cu.ob (Cu.fail ⟨s,a,e⟩ f)]:=by
 refine AC.wk Tryz.func101 ?_
 focus ((repeat' (first|refine GF ?_|refine AW.ret ?_|(refine GC ?_ ?_<;>intro h<;>(try simp only [hsB] at h)<;>try exact xf)|(refine GL ?_ ?_<;>intro h<;>(try simp only [hsN] at h)<;>(try simp only [h])<;>(try simp only [hsB] at h)<;>try exact xf)|fail)))
 ((all_goals first|refine RetQ.yr 1 ⟨?_,?_⟩|refine RetQ.yn 1 ⟨?_,?_⟩);(all_goals first|rfl|(simp [Cu.fail,Cu.ob, *];done)|((simp only [go_sem,↓reduceIte,Nat.reduceLT,Cu.fail,Cu.ob];(repeat' split))<;>first|rfl|(exfalso;omega)|(simp_all;done)|(simp_all;omega))))
theorem cursor_Bytes(h:Cu.Ok ⟨s,a,e⟩):AC Tryz.prog 164 [.p 0 0,iv .i64 n] [Cu.ob ⟨s,a,e⟩] fun x σ=>x=sv (bs (Cu.bytes ⟨s,a,e⟩ n).1)∧σ=[Cu.ob (Cu.bytes ⟨s,a,e⟩ n).2]:=by
 have hh:=h
 obtain ⟨h1,h2⟩:=h
 simp only at h1 h2
 refine AC.wk Tryz.func164 ?_
 focus (have kuc1:=fun za zb zc=>uN [0] (cursor_Err za zb zc);have kk1:=uN [0] (cursor_Left _ _ _ hh);have kud1:=fun za zb zc zd=>uN [0] (cursor_Fail za zb zc zd);(repeat' (first|(refine ADr.nil ?_;try clear hgv)|refine GOF ?_|refine AW.ret ?_|(refine GC ?_ ?_<;>intro h<;>(try simp only [hsB] at h)<;>try exact xf)|(refine GD ?_ ?_<;>intro h<;>(try intro hgv)<;>(try simp only [hsN] at h)<;>(try simp only [h])<;>(try simp only [hsB] at h)<;>try exact xf)|(refine GL ?_ ?_<;>intro h<;>(try simp only [hsN] at h)<;>(try simp only [h])<;>(try simp only [hsB] at h)<;>try exact xf)|fail));all_goals clear kuc1 kk1 kud1)
 ·((all_goals first|refine RetQ.yr 1 ⟨?_,?_⟩|refine RetQ.yn 1 ⟨?_,?_⟩);(all_goals first|rfl|(simp [Cu.bytes,Cu.fail, *];done)|((simp only [go_sem,↓reduceIte,Nat.reduceLT,Cu.bytes,Cu.fail];(repeat' split))<;>first|rfl|(exfalso;omega)|(simp_all;done)|(simp_all;omega))))
 ·((all_goals first|refine RetQ.yr 1 ⟨?_,?_⟩|refine RetQ.yn 1 ⟨?_,?_⟩);(all_goals first|rfl|(simp [Cu.bytes,Cu.fail, *];done)|((simp only [go_sem,↓reduceIte,Nat.reduceLT,Cu.bytes,Cu.fail];(repeat' split))<;>first|rfl|(exfalso;omega)|(simp_all;done)|(simp_all;omega))))
 ·((all_goals first|refine RetQ.yr 1 ⟨?_,?_⟩|refine RetQ.yn 1 ⟨?_,?_⟩);(all_goals first|rfl|(simp [Cu.bytes,Cu.fail, *];done)|((simp only [go_sem,↓reduceIte,Nat.reduceLT,Cu.bytes,Cu.fail];(repeat' split))<;>first|rfl|(exfalso;omega)|(simp_all;done)|(simp_all;omega))))
 ·have e1:((a:Int)+n).toNat-a=n.toNat:=by omega
  have e2:((a+n.toNat:Nat):Int)=a+n:=by omega
  ((all_goals first|refine RetQ.yr 1 ⟨?_,?_⟩|refine RetQ.yn 1 ⟨?_,?_⟩);(all_goals first|rfl|(simp [Cu.bytes,Cu.ob, *];done)|((simp only [go_sem,↓reduceIte,Nat.reduceLT,Cu.bytes,Cu.ob];(repeat' split))<;>first|rfl|(exfalso;omega)|(simp_all;done)|(simp_all;omega))))
theorem cursor_Ahead(h:Cu.Ok ⟨s,a,e⟩):AC Tryz.prog 102 [.p 0 0,iv .i64 n] [Cu.ob ⟨s,a,e⟩] fun x σ=>x=sv (bs ((s.drop a).take n.toNat))∧σ=[Cu.ob ⟨s,a,e⟩]:=by
 have hh:=h
 obtain ⟨h1,h2⟩:=h
 simp only at h1 h2
 refine AC.wk Tryz.func102 ?_
 focus (have kk1:=uN [0] (cursor_Left _ _ _ hh);(repeat' (first|(refine ADr.nil ?_;try clear hgv)|refine GOF ?_|refine AW.ret ?_|(refine GC ?_ ?_<;>intro h<;>(try simp only [hsB] at h)<;>try exact xf)|(refine GD ?_ ?_<;>intro h<;>(try intro hgv)<;>(try simp only [hsN] at h)<;>(try simp only [h])<;>(try simp only [hsB] at h)<;>try exact xf)|(refine GL ?_ ?_<;>intro h<;>(try simp only [hsN] at h)<;>(try simp only [h])<;>(try simp only [hsB] at h)<;>try exact xf)|fail));all_goals clear kk1)
 refine RetQ.r 1 rfl (Nat.le_of_ble_eq_true rfl) rfl rfl ⟨?_,rfl⟩
 refine congrArg (fun l=>sv (bs l)) (take_same ?_)
 simp only [List.length_drop]
 split<;>split<;>omega
theorem cursor_Byte(h:Cu.Ok ⟨s,a,e⟩):AC Tryz.prog 98 [.p 0 0] [Cu.ob ⟨s,a,e⟩] fun x σ=>x=iv .u8 (Cu.byte ⟨s,a,e⟩).1∧σ=[Cu.ob (Cu.byte ⟨s,a,e⟩).2]:=by
 refine AC.wk Tryz.func98 ?_
 repeat' (first
  | ((first
   | ((first|refine AL.callv (by decide) fun Kr hr=>?_|refine AL.callv0 fun Kr hr=>?_|refine AL.g1v (by decide) rfl fun Kr hr=>?_);first
   | (refine AOp.cι (fun _ _=>rfl) [0] rfl (cursor_Bytes s a e _ h) (Emb.one rfl) rfl ?_;rintro y obs ⟨rfl,rfl⟩))
   | refine AL.one (by decide) fun Kr hr=>?_
   | refine AL.one0 fun Kr hr=>?_);(try simp only [ao,List.map_cons,List.map_nil]);simp (disch:=omega) only [go_sem,Int.natCast_pos,List.length_pos_iff,ne_eq];(repeat first|(refine ⟨_,bsD_nums _,by simp only [List.length_map],?_⟩;simp only [strOfNums_bs])|(refine ⟨[_],rfl,rfl,?_⟩;simp only [strOfNums_one,UInt8.ofNat_toNat,Int.toNat_natCast])|refine ⟨by first|omega|assumption|rfl|(simp only [List.length_take,List.length_drop,List.length_append,List.length_cons,List.length_nil,List.length_map];omega),?_⟩);refine hr _ _ ?_;clear hr Kr)
  | refine AL.nil ?_|refine AW.seq' ?_|refine AW.region ?_|refine AW.block ?_|refine AW.skip ?_|refine AW.ret ?_|refine AW.exit ?_|refine thenQ_n ?_|refine thenQ_r ?_|refine thenQ_e ?_|refine blockQ_n ?_|refine blockQ_r ?_|refine blockQ_e ?_|refine blockQ_o (by decide) ?_
  | (refine AW.cond rfl (fun h=>?_) (fun h=>?_)<;>(try simp only [decide_eq_true_eq,decide_eq_false_iff_not,Bool.false_eq_true,Bool.true_eq_false,Bool.not_eq_true',Bool.not_eq_false',Bool.not_eq_eq_eq_not,Bool.not_true,Bool.not_false,Bool.and_eq_true,Bool.or_eq_true,Bool.and_eq_false_iff,Bool.or_eq_false_iff] at h)<;>try exact xf)
  | (refine AL.gt (by decide) rfl ?_)|(refine AL.g0 (by decide) rfl (by decide) ?_)|(refine AL.g1 (by decide) rfl fun Kr hr=>?_;(try simp only [ao,List.map_cons,List.map_nil]);simp (disch:=omega) only [go_sem,Int.natCast_pos,List.length_pos_iff,ne_eq];(repeat first|(refine ⟨_,bsD_nums _,by simp only [List.length_map],?_⟩;simp only [strOfNums_bs])|(refine ⟨[_],rfl,rfl,?_⟩;simp only [strOfNums_one,UInt8.ofNat_toNat,Int.toNat_natCast])|refine ⟨by first|omega|assumption|rfl|(simp only [List.length_take,List.length_drop,List.length_append,List.length_cons,List.length_nil,List.length_map];omega),?_⟩);refine hr _ _ ?_;clear hr Kr)
  | (refine AL.g (by decide) rfl (fun h=>?_) (fun h=>?_)<;>(try simp only [hsN] at h)<;>(try simp only [h])<;>simp only [decide_eq_true_eq,decide_eq_false_iff_not,Bool.false_eq_true,Bool.true_eq_false,Bool.not_eq_true',Bool.not_eq_false',Bool.not_eq_eq_eq_not,Bool.not_true,Bool.not_false,Bool.and_eq_true,Bool.or_eq_true,Bool.and_eq_false_iff,Bool.or_eq_false_iff] at h<;>try exact xf))
 ((all_goals first|refine RetQ.yr 1 ⟨?_,?_⟩|refine RetQ.yn 1 ⟨?_,?_⟩);(all_goals first|rfl|(simp [Cu.byte,Cu.ob, *];done)|((simp only [go_sem,↓reduceIte,Nat.reduceLT,Cu.byte,Cu.ob];(repeat' split))<;>first|rfl|(exfalso;omega)|(simp_all;done)|(simp_all;omega))))
theorem cursor_End(h:Cu.Ok ⟨s,a,e⟩):AC Tryz.prog 33 [.p 0 0] [Cu.ob ⟨s,a,e⟩] fun x σ=>x=iv .i64 (Cu.fin ⟨s,a,e⟩).e∧σ=[Cu.ob (Cu.fin ⟨s,a,e⟩)]:=by
 have hh:=h
 obtain ⟨h1,h2⟩:=h
 simp only at h1 h2
 refine AC.wk Tryz.func33 ?_
 focus (have kk1:=uN [0] (cursor_Left _ _ _ hh);have kud1:=fun za zb zc zd=>uN [0] (cursor_Fail za zb zc zd);have kuc1:=fun za zb zc=>uN [0] (cursor_Err za zb zc);(repeat' (first|refine GF ?_|refine AW.ret ?_|(refine GC ?_ ?_<;>intro h<;>(try simp only [hsB] at h)<;>try exact xf)|(refine GL ?_ ?_<;>intro h<;>(try simp only [hsN] at h)<;>(try simp only [h])<;>(try simp only [hsB] at h)<;>try exact xf)|fail));all_goals clear kk1 kud1 kuc1)
 ((all_goals first|refine RetQ.yr 1 ⟨?_,?_⟩|refine RetQ.yn 1 ⟨?_,?_⟩);(all_goals first|rfl|(simp [Cu.fin,Cu.fail, *];done)|((simp only [go_sem,↓reduceIte,Nat.reduceLT,Cu.fin,Cu.fail];(repeat' split))<;>first|rfl|(exfalso;omega)|(simp_all;done)|(simp_all;omega))))
end
end Go.AW
namespace Go.AW
open Go Go.Proofs
attribute [local irreducible] thenQ blockQ RetQ AL AW AC AOp
abbrev Cu.ro(c:Cu):Ob:=.box 92 [sv (bs c.s),iv .i64 c.a,iv .i64 c.e]
attribute [go_sem] Cu.ro
end Go.AW
namespace Go.AW
open Go Go.Proofs
attribute [local irreducible] thenQ blockQ RetQ AL AW AC AOp
abbrev Pe.obs(p:Pe):List Ob:=[.box 196 [.o 1 p.b.length,iv .i64 p.m,iv .i64 p.e],.row 5 1 p.b.length (bsD p.b)]
attribute [go_sem] Pe.obs
section
variable (b s : List UInt8) (m e f n : Int)
theorem pen_New(hm:m≤9223372036854775807):AC Tryz.prog 53 [iv .i64 m] [] fun x σ=>x=.p 0 0∧σ=Pe.obs ⟨[],if m<0 then 0 else m,0⟩:=by
 refine AC.wk Tryz.func53 ?_
 focus ((repeat' (first|refine GF ?_|(refine GC ?_ ?_<;>intro h<;>(try simp only [hsB] at h)<;>try exact xf)|(refine GL ?_ ?_<;>intro h<;>(try simp only [hsN] at h)<;>(try simp only [h])<;>(try simp only [hsB] at h)<;>try exact xf)|fail)))
 all_goals refine AW.birth 5 1 [] [(0,0)] ?_
 all_goals refine AW.ret ?_
 (all_goals first|exact RetQ.fr 2|exact RetQ.fn 2|fail)
theorem pen_Err:AC Tryz.prog 130 [.p 0 0] (Pe.obs ⟨b,m,e⟩) fun x σ=>x=iv .i64 e∧σ=Pe.obs ⟨b,m,e⟩:=by
 refine AC.wk Tryz.func130 ?_
 focus ((repeat' (first|refine GF ?_|refine AW.ret ?_|(refine GC ?_ ?_<;>intro h<;>(try simp only [hsB] at h)<;>try exact xf)|(refine GL ?_ ?_<;>intro h<;>(try simp only [hsN] at h)<;>(try simp only [h])<;>(try simp only [hsB] at h)<;>try exact xf)|fail)))
 (all_goals first|exact RetQ.fr 2|exact RetQ.fn 2|fail)
theorem pen_Fail:AC Tryz.prog 231 [.p 0 0,iv .i64 f] (Pe.obs ⟨b,m,e⟩) fun x σ=>x=.t []∧σ=Pe.obs (Pe.fail ⟨b,m,e⟩ f):=by
 refine AC.wk Tryz.func231 ?_
 focus ((repeat' (first|refine GF ?_|refine AW.ret ?_|(refine GC ?_ ?_<;>intro h<;>(try simp only [hsB] at h)<;>try exact xf)|(refine GL ?_ ?_<;>intro h<;>(try simp only [hsN] at h)<;>(try simp only [h])<;>(try simp only [hsB] at h)<;>try exact xf)|fail)))
 ((all_goals first|refine RetQ.yr 2 ⟨?_,?_⟩|refine RetQ.yn 2 ⟨?_,?_⟩);(all_goals first|rfl|(simp [Pe.fail, *];done)|((simp only [go_sem,↓reduceIte,Nat.reduceLT,Pe.fail];(repeat' split))<;>first|rfl|(exfalso;omega)|(simp_all;done)|(simp_all;omega))))
theorem pen_room(h:Pe.Ok ⟨b,m,e⟩):AC Tryz.prog 235 [.p 0 0,iv .i64 n] (Pe.obs ⟨b,m,e⟩) fun x σ=>x=bv (Pe.room ⟨b,m,e⟩ n)∧σ=Pe.obs (Pe.roomed ⟨b,m,e⟩ n):=by
 have hh:=h
 obtain ⟨h1,h2,h3⟩:=h
 simp only at h1 h2 h3
 refine AC.wk Tryz.func235 ?_
 focus (have kuc1:=fun za zb zc=>uN [0,1] (pen_Err za zb zc);(repeat' (first|(refine ADr.nil ?_;try clear hgv)|refine GOF ?_|refine AW.ret ?_|(refine GC ?_ ?_<;>intro h<;>(try simp only [hsB] at h)<;>try exact xf)|(refine GD ?_ ?_<;>intro h<;>(try intro hgv)<;>(try simp only [hsN] at h)<;>(try simp only [h])<;>(try simp only [hsB] at h)<;>try exact xf)|(refine GL ?_ ?_<;>intro h<;>(try simp only [hsN] at h)<;>(try simp only [h])<;>(try simp only [hsB] at h)<;>try exact xf)|fail));all_goals clear kuc1)
 ((all_goals first|refine RetQ.yr 2 ⟨?_,?_⟩|refine RetQ.yn 2 ⟨?_,?_⟩);(all_goals first|rfl|(simp [Pe.room,Pe.roomed, *];done)|((simp only [go_sem,↓reduceIte,Nat.reduceLT,Pe.room,Pe.roomed];(repeat' split))<;>first|rfl|(exfalso;omega)|(simp_all;done)|(simp_all;omega))))
theorem pen_End(h:Pe.Ok ⟨b,m,e⟩):AC Tryz.prog 55 [.p 0 0] (Pe.obs ⟨b,m,e⟩) fun x σ=>x=.t [sv (bs (Pe.fin ⟨b,m,e⟩).1),iv .i64 (Pe.fin ⟨b,m,e⟩).2]∧σ=Pe.obs ⟨b,m,e⟩:=by
 refine AC.wk Tryz.func55 ?_
 focus (have kuc1:=fun za zb zc=>uN [0,1] (pen_Err za zb zc);(repeat' (first|refine GF ?_|refine AW.ret ?_|(refine GC ?_ ?_<;>intro h<;>(try simp only [hsB] at h)<;>try exact xf)|(refine GL ?_ ?_<;>intro h<;>(try simp only [hsN] at h)<;>(try simp only [h])<;>(try simp only [hsB] at h)<;>try exact xf)|fail));all_goals clear kuc1)
 ((all_goals first|refine RetQ.yr 2 ⟨?_,?_⟩|refine RetQ.yn 2 ⟨?_,?_⟩);(all_goals first|rfl|(simp [Pe.fin, *];done)|((simp only [go_sem,↓reduceIte,Nat.reduceLT,Pe.fin];(repeat' split))<;>first|rfl|(exfalso;omega)|(simp_all;done)|(simp_all;omega))))
theorem pen_Text(h:Pe.Ok ⟨b,m,e⟩)(l:List (List UInt8))(hl:m≤140737488355328∨b.length+l.flatten.length≤140737488355328)(hn:l.length≤140737488355328) :
  AC Tryz.prog 128 [.p 0 0,.d (.l l.length (l.map fun s=>.s (.string ⟨s.toArray⟩)))] (Pe.obs ⟨b,m,e⟩) fun x σ=>x=.t []∧σ=Pe.obs (Pe.texts ⟨b,m,e⟩ l):=by
 refine AC.wk Tryz.func128 ?_
 focus ((repeat' (first|refine GF ?_|refine AW.ret ?_|(refine GC ?_ ?_<;>intro h<;>(try simp only [hsB] at h)<;>try exact xf)|(refine GL ?_ ?_<;>intro h<;>(try simp only [hsN] at h)<;>(try simp only [h])<;>(try simp only [hsB] at h)<;>try exact xf)|fail)))
 refine AW.rounds [0,6,7,8] (fun i=>[(0,.p 0 0),(6,.d (.l l.length (l.map fun s=>.s (.string ⟨s.toArray⟩)))),(7,iv .i64 l.length),(8,iv .i64 (i:Nat))]) (fun i=>Pe.obs (Pe.texts ⟨b,m,e⟩ (l.take i))) (fun i=>i≤l.length) (fun i=>l.length-i) 0 (Nat.zero_le _) rfl rfl
  (fun _ _=>Nat.le_of_ble_eq_true rfl) (fun _ _=>rfl) (fun _ _=>rfl) ?_
 intro i hi J hJ
 generalize hq:Pe.texts ⟨b,m,e⟩ (l.take i)=q
 have hf:(l.take i).flatten.length+(l.drop i).flatten.length=l.flatten.length:=by rw [←List.length_append,←List.flatten_append,List.take_append_drop]
 have hok:q.Ok:=by rw [←hq];exact Pe.texts_ok h (by simp only;omega)
 have hqm:q.m=m:=by rw [←hq,Pe.texts_m]
 have hql:q.m≤140737488355328∨q.b.length+(l.drop i).flatten.length≤140737488355328:=by
  have:=Pe.texts_len (l.take i) ⟨b,m,e⟩
  rw [hq] at this
  simp only at this
  omega
 by_cases hil:i<l.length
 ·obtain ⟨s,r,hs⟩:∃ s r,l.drop i=s::r:=⟨_,_,List.drop_eq_getElem_cons hil⟩
  have hd:(l.map fun s=>D.s (Value.string ⟨s.toArray⟩)).drop i=.s (.string ⟨s.toArray⟩)::r.map fun s=>.s (.string ⟨s.toArray⟩):=by rw [←List.map_drop,hs];rfl
  rw [hs] at hql
  simp only [List.flatten_cons,List.length_append] at hql
  have hnx:l.take (i+1)=l.take i++[s]:=by
   have h1:l[i]? = some s:=by
    have:=congrArg List.head? hs
    simpa [List.head?_drop] using this
   rw [List.take_add_one,h1];rfl
  have hqn:Pe.texts ⟨b,m,e⟩ (l.take (i+1))=q.text s:=by rw [hnx,Pe.texts_snoc,hq]
  cases hrm:Pe.room ⟨q.b,q.m,q.e⟩ s.length with
  | false=>
   focus (have kxs:=And.intro hd (And.intro @Pe.roomed_b (And.intro @Pe.roomed_m hrm));have kua1:=fun za=>uN [0,1] (pen_room _ _ _ za hok);(repeat' (first|refine GF ?_|refine AW.ret ?_|(refine GC ?_ ?_<;>intro h<;>(try simp only [hsB] at h)<;>try exact xf)|(refine GL ?_ ?_<;>intro h<;>(try simp only [hsN] at h)<;>(try simp only [h])<;>(try simp only [hsB] at h)<;>try exact xf)|fail));all_goals clear kxs kua1)
   have hno:=Pe.room_no hrm
   have hall:Pe.texts ⟨b,m,e⟩ l=q.roomed s.length:=by
    rw [hno.1,←hqn]
    conv=>lhs;rw [←List.take_append_drop (i+1) l]
    rw [Pe.texts_append,hqn]
    exact Pe.texts_stuck hno.2 _
   rw [hall]
   (all_goals first|exact RetQ.fr 2|exact RetQ.fn 2|fail)
  | true=>
   have hfit:=Pe.room_fit hrm
   simp only at hfit
   focus (have kxs:=And.intro hd (And.intro @Pe.roomed_b (And.intro @Pe.roomed_m hrm));have kua1:=fun za=>uN [0,1] (pen_room _ _ _ za hok);(repeat' (first|refine GF ?_|refine AW.ret ?_|(refine GC ?_ ?_<;>intro h<;>(try simp only [hsB] at h)<;>try exact xf)|(refine GL ?_ ?_<;>intro h<;>(try simp only [hsN] at h)<;>(try simp only [h])<;>(try simp only [hsB] at h)<;>try exact xf)|fail));all_goals clear kxs kua1)
   have hyes:=Pe.room_yes hrm
   have hqe:q.text s=⟨q.b++s,q.m,(q.roomed s.length).e⟩:=by rw [hyes.1,hyes.2]
   refine hJ (i+1) _ _ (by omega) (by omega) rfl ?_
   rw [hqn,hqe]
   simp [Pe.obs]
 ·focus ((repeat' (first|refine GF ?_|refine AW.ret ?_|(refine GC ?_ ?_<;>intro h<;>(try simp only [hsB] at h)<;>try exact xf)|(refine GL ?_ ?_<;>intro h<;>(try simp only [hsN] at h)<;>(try simp only [h])<;>(try simp only [hsB] at h)<;>try exact xf)|fail)))
  have hi2:i=l.length:=by omega
  rw [hi2,List.take_length] at hq
  subst hq
  (all_goals first|exact RetQ.fr 2|exact RetQ.fn 2|fail)
theorem pen_Text1(h:Pe.Ok ⟨b,m,e⟩)(hl:m≤140737488355328∨b.length+s.length≤140737488355328) :
  AC Tryz.prog 128 [.p 0 0,.d (.l 1 [.s (.string ⟨s.toArray⟩)])] (Pe.obs ⟨b,m,e⟩) fun x σ=>x=.t []∧σ=Pe.obs (Pe.text ⟨b,m,e⟩ s):=
 pen_Text b m e h [s] (by simpa using hl) (Nat.le_of_ble_eq_true rfl)
theorem pen_Byte(h:Pe.Ok ⟨b,m,e⟩)(l:List UInt8)(hl:m≤140737488355328∨b.length+l.length≤140737488355328)(hn:l.length≤140737488355328) :
  AC Tryz.prog 250 [.p 0 0,.d (.l l.length (bsD l))] (Pe.obs ⟨b,m,e⟩) fun x σ=>x=.t []∧σ=Pe.obs (Pe.texts ⟨b,m,e⟩ (l.map fun b=>[b])):=by
 have hfl:∀ l:List UInt8,(l.map fun b=>[b]).flatten=l:=fun l=>by induction l with|nil=>rfl|cons a l ih=>simp [ih]
 refine AC.wk Tryz.func250 ?_
 focus ((repeat' (first|refine GF ?_|refine AW.ret ?_|(refine GC ?_ ?_<;>intro h<;>(try simp only [hsB] at h)<;>try exact xf)|(refine GL ?_ ?_<;>intro h<;>(try simp only [hsN] at h)<;>(try simp only [h])<;>(try simp only [hsB] at h)<;>try exact xf)|fail)))
 refine AW.rounds [0,6,7,8] (fun i=>[(0,.p 0 0),(6,.d (.l l.length (bsD l))),(7,iv .i64 l.length),(8,iv .i64 (i:Nat))]) (fun i=>Pe.obs (Pe.texts ⟨b,m,e⟩ ((l.take i).map fun b=>[b]))) (fun i=>i≤l.length) (fun i=>l.length-i) 0 (Nat.zero_le _) rfl rfl
  (fun _ _=>Nat.le_of_ble_eq_true rfl) (fun _ _=>rfl) (fun _ _=>rfl) ?_
 intro i hi J hJ
 generalize hq:Pe.texts ⟨b,m,e⟩ ((l.take i).map fun b=>[b])=q
 have hok:q.Ok:=by rw [←hq];exact Pe.texts_ok h (by rw [hfl];simp only [List.length_take];omega)
 have hqm:q.m=m:=by rw [←hq,Pe.texts_m]
 have hql:q.b.length≤b.length+i:=by
  have:=Pe.texts_len ((l.take i).map fun b=>[b]) ⟨b,m,e⟩
  rw [hq,hfl] at this
  simp only [List.length_take] at this
  omega
 by_cases hil:i<l.length
 ·obtain ⟨s,r,hs⟩:∃ s r,l.drop i=s::r:=⟨_,_,List.drop_eq_getElem_cons hil⟩
  have hd:(bsD l).drop i=.s (.int .u8 s.toNat)::bsD r:=by rw [bsD,←List.map_drop,hs];rfl
  have hnx:l.take (i+1)=l.take i++[s]:=by
   have h1:l[i]? = some s:=by
    have:=congrArg List.head? hs
    simpa [List.head?_drop] using this
   rw [List.take_add_one,h1];rfl
  have hqn:Pe.texts ⟨b,m,e⟩ ((l.take (i+1)).map fun b=>[b])=q.text [s]:=by rw [hnx,List.map_append,List.map_cons,List.map_nil,Pe.texts_snoc,hq]
  have hc:bsD q.b++[D.s (.int .u8 s.toNat)]=bsD (q.b++[s]):=by simp [bsD]
  cases hrm:Pe.room ⟨q.b,q.m,q.e⟩ 1 with
  | false=>
   focus (have kxs:=And.intro hd (And.intro @Pe.roomed_b (And.intro @Pe.roomed_m hrm));have kua1:=fun za=>uN [0,1] (pen_room _ _ _ za hok);(repeat' (first|refine GF ?_|refine AW.ret ?_|(refine GC ?_ ?_<;>intro h<;>(try simp only [hsB] at h)<;>try exact xf)|(refine GL ?_ ?_<;>intro h<;>(try simp only [hsN] at h)<;>(try simp only [h])<;>(try simp only [hsB] at h)<;>try exact xf)|fail));all_goals clear kxs kua1)
   have hno:=Pe.room_no (s:=[s]) hrm
   have hall:Pe.texts ⟨b,m,e⟩ (l.map fun b=>[b])=q.roomed 1:=by
    rw [show (1:Int)=([s].length:Nat) from rfl,hno.1,←hqn]
    conv=>lhs;rw [←List.take_append_drop (i+1) l,List.map_append]
    rw [Pe.texts_append,hqn]
    exact Pe.texts_stuck hno.2 _
   rw [hall]
   (all_goals first|exact RetQ.fr 2|exact RetQ.fn 2|fail)
  | true=>
   have hfit:=Pe.room_fit hrm
   simp only at hfit
   focus (have kxs:=And.intro hd (And.intro @Pe.roomed_b (And.intro @Pe.roomed_m hrm));have kua1:=fun za=>uN [0,1] (pen_room _ _ _ za hok);(repeat' (first|refine GF ?_|refine AW.ret ?_|(refine GC ?_ ?_<;>intro h<;>(try simp only [hsB] at h)<;>try exact xf)|(refine GL ?_ ?_<;>intro h<;>(try simp only [hsN] at h)<;>(try simp only [h])<;>(try simp only [hsB] at h)<;>try exact xf)|fail));all_goals clear kxs kua1)
   have hyes:=Pe.room_yes (s:=[s]) hrm
   have hqe:q.text [s]=⟨q.b++[s],q.m,(q.roomed 1).e⟩:=by rw [show (1:Int)=([s].length:Nat) from rfl,hyes.1,hyes.2]
   refine hJ (i+1) _ _ (by omega) (by omega) rfl ?_
   rw [hqn,hqe]
   simp [Pe.obs,←hc]
 ·focus ((repeat' (first|refine GF ?_|refine AW.ret ?_|(refine GC ?_ ?_<;>intro h<;>(try simp only [hsB] at h)<;>try exact xf)|(refine GL ?_ ?_<;>intro h<;>(try simp only [hsN] at h)<;>(try simp only [h])<;>(try simp only [hsB] at h)<;>try exact xf)|fail)))
  have hi2:i=l.length:=by omega
  rw [hi2,List.take_length] at hq
  subst hq
  (all_goals first|exact RetQ.fr 2|exact RetQ.fn 2|fail)
theorem pen_Byte1(h:Pe.Ok ⟨b,m,e⟩)(hl:m≤140737488355328∨b.length+1≤140737488355328)(x:UInt8) :
  AC Tryz.prog 250 [.p 0 0,.d (.l 1 [.s (.int .u8 x.toNat)])] (Pe.obs ⟨b,m,e⟩) fun y σ=>y=.t []∧σ=Pe.obs (Pe.text ⟨b,m,e⟩ [x]):=
 pen_Byte b m e h [x] (by simpa using hl) (Nat.le_of_ble_eq_true rfl)
end
end Go.AW
namespace Go.AW
open Go Go.Proofs
attribute [local irreducible] thenQ blockQ RetQ AL AW AC AOp
abbrev Pe.ro(p:Pe):Ob:=.box 201 [sv (bs p.b),iv .i64 p.m,iv .i64 p.e]
attribute [go_sem] Pe.ro
end Go.AW
namespace Go.AW
open Go
theorem and_u8{x y:Nat}(hx:x<256)(hy:y<256):bitI .and .u8 x y=((x&&& y:Nat):Int):=by
 show IntKind.wrap .u8 ((BitVec.ofInt 8 x&&& BitVec.ofInt 8 y).toNat:Int)=_
 rw [BitVec.ofInt_natCast,BitVec.ofInt_natCast,BitVec.toNat_and,BitVec.toNat_ofNat,BitVec.toNat_ofNat,Nat.mod_eq_of_lt (by omega),Nat.mod_eq_of_lt (by omega)]
 have:x&&& y≤x:=Nat.and_le_left
 exact wrap_u8 (by omega) (by omega)
theorem or_u8{x y:Nat}(hx:x<256)(hy:y<256):bitI .or .u8 x y=((x||| y:Nat):Int):=by
 show IntKind.wrap .u8 ((BitVec.ofInt 8 x||| BitVec.ofInt 8 y).toNat:Int)=_
 rw [BitVec.ofInt_natCast,BitVec.ofInt_natCast,BitVec.toNat_or,BitVec.toNat_ofNat,BitVec.toNat_ofNat,Nat.mod_eq_of_lt (by omega),Nat.mod_eq_of_lt (by omega)]
 have:x||| y<2^8:=Nat.or_lt_two_pow (by omega) (by omega)
 exact wrap_u8 (by omega) (by omega)
theorem or_u64{x y:Nat}(hx:x<18446744073709551616)(hy:y<18446744073709551616):bitI .or .u64 x y=((x||| y:Nat):Int):=by
 show IntKind.wrap .u64 ((BitVec.ofInt 64 x||| BitVec.ofInt 64 y).toNat:Int)=_
 rw [BitVec.ofInt_natCast,BitVec.ofInt_natCast,BitVec.toNat_or,BitVec.toNat_ofNat,BitVec.toNat_ofNat,Nat.mod_eq_of_lt (by omega),Nat.mod_eq_of_lt (by omega)]
 have:x||| y<2^64:=Nat.or_lt_two_pow (by omega) (by omega)
 exact wrap_u64 (by omega) (by omega)
theorem or_high{n x i:Nat}(hn:n<2^i):n||| x*2^i=n+x*2^i:=by
 rw [Nat.or_comm,Nat.add_comm,Nat.mul_comm,Nat.two_pow_add_eq_or_of_lt hn]
theorem and127(b:UInt8):bitI .and .u8 (b.toNat:Int) 127=((b.toNat%128:Nat):Int):=by
 have h:=and_u8 (x:=b.toNat) (y:=127) b.toNat_lt (by omega)
 rw [show ((127:Nat):Int)=127 from rfl] at h
 rw [h,show (127:Nat)=2^7-1 from rfl,Nat.and_two_pow_sub_one_eq_mod]
theorem pow128(i:Nat):128^i=2^(7*i):=by rw [Nat.pow_mul]
theorem vstep{n i x:Nat}(hi:i≤9)(hn:n<128^i)(hx:x<128)(h9:i=9→x≤1):bitI .or .u64 (n:Int) (IntKind.wrap .u64 ((x:Int)*2^(min (7*(i:Int)).toNat 64)))=((n+x*128^i:Nat):Int):=by
 have h1:(7*(i:Int)).toNat=7*i:=by omega
 rw [h1,Nat.min_eq_left (by omega),show (x:Int)*2^(7*i)=((x*2^(7*i):Nat):Int) by push_cast;rfl]
 have h2:x*2^(7*i)<18446744073709551616:=by
  by_cases h:i=9
  ·subst h
   have:=Nat.mul_le_mul_right (2^(7*9)) (h9 rfl)
   omega
  ·have h3:2^(7*i)≤2^56:=Nat.pow_le_pow_right (by omega) (by omega)
   have:=Nat.mul_le_mul (Nat.le_of_lt_succ (show x<127+1 by omega)) h3
   omega
 have h3:n<18446744073709551616:=by
  have:128^i≤128^9:=Nat.pow_le_pow_right (by omega) hi
  have:128^9<18446744073709551616:=by decide
  omega
 rw [wrap_u64 (by omega) (by omega),or_u64 h3 h2,or_high (by rw [←pow128];exact hn),pow128]
end Go.AW
