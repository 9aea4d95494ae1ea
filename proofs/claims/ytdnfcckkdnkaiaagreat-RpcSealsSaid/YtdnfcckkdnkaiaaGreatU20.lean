/-
  Plain: bytes that are read from the left.
-/
import GoSem.Op.String
import Derived.Test.YtdnfcckkdnkaiaaGreatU06
set_option linter.unusedVariables false
set_option linter.unusedSimpArgs false
set_option maxHeartbeats 4000000
set_option maxRecDepth 10000
namespace Go.AW
section
variable {α : Type} {R : Cu → α × Cu} {enc : α → List UInt8} {good : α → Prop}
theorem Trip.whole_back(h:Trip R enc good){s:List UInt8}(hs:(R ⟨s,0,0⟩).2.fin.e=0):good (R ⟨s,0,0⟩).1∧s=enc (R ⟨s,0,0⟩).1:=by
 have h1:(R ⟨s,0,0⟩).2.e=0∧s.length≤(R ⟨s,0,0⟩).2.a:=by
  have ht:=h.text ⟨s,0,0⟩
  unfold Cu.fin at hs
  simp only [ht] at hs
  split at hs
  ·exact absurd hs (by decide)
  ·rename_i hn
   exact ⟨hs,Nat.le_of_not_lt fun hlt=>hn ⟨hs,hlt⟩⟩
 obtain ⟨g1,g2,g3⟩:=h.back ⟨s,0,0⟩ h1.1
 refine ⟨g1,?_⟩
 rw [List.drop_eq_nil_of_le h1.2] at g3
 simpa using g3
end
theorem pens_count(max:Int):Pens (fun p (n:Nat)=>Pe.count p max n) vput (fun n=>n≤max.toNat):=by
 have h:=pens_v.chk (fun n:Nat=>if max.toNat<n then 3 else 0)
 have e:(fun p (n:Nat)=>Pe.count p max n)=fun p (n:Nat)=>if (if max.toNat<n then (3:Int) else 0)≠0 then p.fail (if max.toNat<n then 3 else 0) else p.text (vput n):=by
  funext p n
  unfold Pe.count
  rw [if_neg (by omega)]
  by_cases hs:max.toNat<n
  ·rw [if_pos (by omega),if_pos hs,if_pos (by decide)]
  ·rw [if_neg (by omega),if_neg hs,if_neg (by decide)]
   rfl
 rw [e]
 refine Pens.iff h fun s=>?_
 constructor
 ·rintro ⟨h1,_⟩
  split at h1
  ·exact absurd h1 (by decide)
  ·omega
 ·intro h1
  exact ⟨by rw [if_neg (by omega)],trivial⟩
end Go.AW
namespace Go.AW
theorem flat_bound{α:Type}(f:α→List UInt8)(b:Nat)(l:List α)(h:∀ v ∈ l,(f v).length≤b):(l.map f).flatten.length≤l.length*b:=by
 induction l with
 | nil=>simp
 | cons v l ih=>
  have h1:=h v List.mem_cons_self
  have h2:=ih fun x hx=>h x (List.mem_cons_of_mem _ hx)
  simp only [List.map_cons,List.flatten_cons,List.length_append,List.length_cons,Nat.succ_mul]
  omega
end Go.AW
namespace Go.AW
section
variable {α : Type}
variable {R : Cu → α × Cu} {W : Pe → α → Pe} {enc : α → List UInt8} {good ok : α → Prop} {d : α}
theorem rdw_fore(h:Trip R enc good){x:α}(hx:good x):rdw R d (enc x)=(x,0):=by
 unfold rdw
 rw [h.whole_fore hx]
 simp [Cu.fin]
theorem rdw_back(h:Trip R enc good){s:List UInt8}(hs:(rdw R d s).2=0):good (rdw R d s).1∧s=enc (rdw R d s).1:=by
 unfold rdw at hs ⊢
 simp only at hs ⊢
 rw [if_neg (by simpa using hs)]
 exact h.whole_back hs
theorem wre_fit(h:Pens W enc ok){x:α}(hx:ok x)(hl:(enc x).length≤65536):wre W x=(enc x,0):=h.whole hx hl
theorem wre_yes(h:Pens W enc ok){x:α}(he:(wre W x).2=0):ok x∧(wre W x).1=enc x∧(enc x).length≤65536:=by
 have h2:=h.cap ⟨[],65536,0⟩ x
 unfold wre Pe.fin at he ⊢
 by_cases hz:(W ⟨[],65536,0⟩ x).e=0
 ·rw [if_neg (by simpa using hz)]
  obtain ⟨_,g1,g2⟩:=h.yes _ _ hz
  simp only [List.nil_append] at g1
  rw [g1] at h2 ⊢
  simp only [List.length_nil] at h2
  exact ⟨g2,rfl,by omega⟩
 ·rw [if_pos hz] at he
  exact absurd he hz
end
end Go.AW
namespace Go.AW
theorem pens_pair:Pens Pe.pair epair (fun x=>x.1.length≤32∧x.2.length≤32768):=
 Pens.iff (((pens_blob 32).on (Prod.fst (β:=List UInt8))).seq ((pens_blob 32768).on (Prod.snd (α:=List UInt8)))) fun x=>by simp
theorem pens_prs:Pens Pe.prs eprs (fun l=>l.check=0):=
 Pens.iff (Pens.chk ((pens_v.on List.length).seq pens_pair.fold) Prs.check) fun v=>⟨fun h=>h.1,fun h=>⟨h,trivial,(Prs.check_len h).2⟩⟩
theorem pens_sib:Pens Pe.sib esib (fun x=>x.check=0):=by
 have h:=Pens.chk ((((pens_clk.on Sb.clk).seq (pens_prs.on Sb.meta_)).seq (pens_flag.on Sb.dead)).seq ((pens_blob 32768).on Sb.val)) Sb.check
 have e:(fun x:Sb=>((eclk x.clk++eprs x.meta_)++eflag x.dead)++eblob x.val)=esib:=by
  funext k;unfold esib;simp only [List.append_assoc]
 rw [e] at h
 exact Pens.iff h fun x=>⟨fun h=>h.1,fun h=>⟨h,⟨⟨(Sb.check_parts h).1,(Sb.check_parts h).2.1⟩,trivial⟩,by have:=(Sb.check_parts h).2.2;simpa using this⟩⟩
theorem pens_sibs:Pens Pe.sibs (fun l=>(l.map esib).flatten) (fun l=>∀ x ∈ l,x.check=0):=pens_sib.fold
end Go.AW
namespace Go.AW
theorem trip_ocnt:Trip Cu.ocnt vput (fun n=>(n≤(16:Int).toNat∧n<18446744073709551616)∧decide (n≠0)=true):=Trip.guard (trip_count 16) (fun n=>decide (n≠0)) (by decide)
theorem ocheck_goods:∀ (l:List Os1) (seen:List Vec),(goods gos1 (fun seen x=>seen++[x.clk]) seen l↔ocheck seen l=0∧∀ x ∈ l,∀ y ∈ x.clk,y.2<18446744073709551616)
 | [],p=>by simp [goods,ocheck]
 | x::l,seen=>by
  have ih:=ocheck_goods l (seen++[x.clk])
  unfold goods ocheck
  rw [ih]
  unfold gos1 gvec
  simp only [List.mem_cons,forall_eq_or_imp]
  by_cases h1:x.clk.check=0
  ·rw [if_neg (by simpa using h1)]
   by_cases h2:32768<x.val.length
   ·rw [if_pos h2]
    constructor
    ·rintro ⟨⟨_,h,_⟩,_⟩;omega
    ·rintro ⟨h,_⟩;exact absurd h (by decide)
   ·rw [if_neg h2]
    by_cases h3:x.clk ∈ seen
    ·rw [if_pos h3]
     constructor
     ·rintro ⟨⟨_,_,h⟩,_⟩;exact absurd h3 h
     ·rintro ⟨h,_⟩;exact absurd h (by decide)
    ·rw [if_neg h3]
     constructor
     ·rintro ⟨⟨⟨_,g1⟩,_⟩,g2,g3⟩;exact ⟨g2,g1,g3⟩
     ·rintro ⟨g2,g1,g3⟩;exact ⟨⟨⟨h1,g1⟩,by omega,h3⟩,g2,g3⟩
  ·rw [if_pos h1]
   constructor
   ·rintro ⟨⟨⟨h,_⟩,_⟩,_⟩;exact absurd h h1
   ·rintro ⟨h,_⟩;exact absurd h h1
theorem trip_oldl:Trip Cu.oldl (fun l=>vput l.length++(l.map eos1).flatten) (fun l=>(((l.length≤(16:Int).toNat∧l.length<18446744073709551616)∧decide (l.length≠0)=true)∧l.length=l.length∧goods gos1 (fun seen x=>seen++[x.clk]) [] l)):=
 Trip.bind (S:=fun n c=>Cu.olds n [] c) trip_ocnt (fun n _=>trip_many trip_os1 n []) (fun n c h=>(trip_many (next:=fun seen (x:Os1)=>seen++[x.clk]) trip_os1 n []).stuck c h) (fun n c=>(trip_many (next:=fun seen (x:Os1)=>seen++[x.clk]) trip_os1 n []).text c) (key:=List.length) (fun _=>rfl) (fun _=>Iff.rfl) (fun a b _ h=>h.1)
theorem trip_old:Trip Cu.old eold gold:=by
 have h:Trip Cu.old0 _ _:=Trip.seq trip_okey (fun _ _=>trip_oldl) (fun _ c=>trip_oldl.stuck c) (fun _=>trip_oldl.text)
 refine Trip.iff (Trip.map h (fun x=>(⟨x.1,x.2⟩:Od)) (fun o=>(o.key,o.sibs)) (fun _=>rfl) (fun _=>rfl)) fun o=>?_
 simp only [gold,Od.check,Int.reduceToNat,true_and,decide_eq_true_eq,ocheck_goods]
 by_cases h0:outside o.key o.sibs.length=0
 ·rw [if_neg (by simpa using h0)]
  obtain ⟨h1,h2,h3,h4⟩:=outside_zero.1 h0
  constructor
  ·rintro ⟨_,_,h⟩;exact h
  ·intro h;exact ⟨⟨⟨h1,by omega⟩,h2⟩,⟨⟨h3,by omega⟩,h4⟩,h⟩
 ·rw [if_pos h0]
  constructor
  ·rintro ⟨⟨⟨h1,_⟩,h2⟩,⟨⟨h3,_⟩,h4⟩,_⟩;exact absurd (outside_zero.2 ⟨h1,h2,h3,h4⟩) h0
  ·rintro ⟨h,_⟩;exact absurd h h0
theorem pens_os1:Pens Pe.os1 eos1 (fun x=>x.clk.check=0∧x.val.length≤32768):=by
 have h:=((pens_vec.on Os1.clk).seq (pens_flag.on Os1.dead)).seq ((pens_blob 32768).on Os1.val)
 have e:(fun x:Os1=>(evec x.clk++eflag x.dead)++eblob x.val)=eos1:=by
  funext k;unfold eos1;simp only [List.append_assoc]
 rw [e] at h
 exact Pens.iff h fun x=>by simp
theorem pens_old:Pens Pe.old eold (fun o=>o.check=0):=by
 have h:=Pens.chk (((((pens_blob 128).on Od.key)).seq ((pens_count 16).on (fun o:Od=>o.sibs.length))).seq (pens_os1.fold.on Od.sibs)) Od.check
 have e:(fun o:Od=>(eblob o.key++vput o.sibs.length)++(o.sibs.map eos1).flatten)=eold:=by
  funext k;unfold eold;simp only [List.append_assoc]
 rw [e] at h
 refine Pens.iff h fun o=>⟨fun h=>h.1,fun h=>⟨h,⟨?_,?_⟩,fun x hx=>?_⟩⟩
 ·obtain ⟨h1,_⟩:=outside_zero.1 (Od.check_parts h).1
  simpa using h1
 ·obtain ⟨_,_,h1,_⟩:=outside_zero.1 (Od.check_parts h).1
  simpa using h1
 ·have:=(ocheck_parts _ _ (Od.check_parts h).2).1 x hx
  exact ⟨this.1,this.2.1⟩
theorem jcheck_goods:∀ (l:List Sb) (last:List UInt8),(goods gos2 (fun _ x=>eclk x.clk) last l↔jcheck last l=0∧∀ x ∈ l,gnum x)
 | [],p=>by simp [goods,jcheck]
 | x::l,last=>by
  have ih:=jcheck_goods l (eclk x.clk)
  unfold goods jcheck
  rw [ih]
  unfold gos2 gsib
  simp only [List.mem_cons,forall_eq_or_imp]
  by_cases h1:x.check=0
  ·rw [if_neg (by simpa using h1)]
   cases h2:lessB last (eclk x.clk) with
   | false=>simp
   | true=>
    rw [if_neg (by decide)]
    constructor
    ·rintro ⟨⟨⟨_,g1⟩,_⟩,g2,g3⟩;exact ⟨g2,g1,g3⟩
    ·rintro ⟨g2,g1,g3⟩;exact ⟨⟨⟨h1,g1⟩,rfl⟩,g2,g3⟩
  ·rw [if_pos h1]
   constructor
   ·rintro ⟨⟨⟨h,_⟩,_⟩,_⟩;exact absurd h h1
   ·rintro ⟨h,_⟩;exact absurd h h1
theorem trip_objl:Trip Cu.objl (fun l=>vput l.length++(l.map esib).flatten) (fun l=>(((l.length≤(16:Int).toNat∧l.length<18446744073709551616)∧decide (l.length≠0)=true)∧l.length=l.length∧goods gos2 (fun _ x=>eclk x.clk) [] l)):=
 Trip.bind (S:=fun n c=>Cu.objs n [] c) trip_ocnt (fun n _=>trip_many trip_os2 n []) (fun n c h=>(trip_many (next:=fun _ (x:Sb)=>eclk x.clk) trip_os2 n []).stuck c h) (fun n c=>(trip_many (next:=fun _ (x:Sb)=>eclk x.clk) trip_os2 n []).text c) (key:=List.length) (fun _=>rfl) (fun _=>Iff.rfl) (fun a b _ h=>h.1)
theorem trip_obj:Trip Cu.obj eobj gobj:=by
 have h:Trip Cu.obj0 _ _:=Trip.seq trip_okey (fun _ _=>trip_objl) (fun _ c=>trip_objl.stuck c) (fun _=>trip_objl.text)
 refine Trip.iff (Trip.dflt (Trip.map h (fun x=>(⟨x.1,x.2⟩:Oj)) (fun o=>(o.key,o.sibs)) (fun _=>rfl) (fun _=>rfl)) oj0) fun o=>?_
 simp only [gobj,Oj.check,Int.reduceToNat,true_and,decide_eq_true_eq,jcheck_goods]
 by_cases h0:outside o.key o.sibs.length=0
 ·rw [if_neg (by simpa using h0)]
  obtain ⟨h1,h2,h3,h4⟩:=outside_zero.1 h0
  constructor
  ·rintro ⟨_,_,h⟩;exact h
  ·intro h;exact ⟨⟨⟨h1,by omega⟩,h2⟩,⟨⟨h3,by omega⟩,h4⟩,h⟩
 ·rw [if_pos h0]
  constructor
  ·rintro ⟨⟨⟨h1,_⟩,h2⟩,⟨⟨h3,_⟩,h4⟩,_⟩;exact absurd (outside_zero.2 ⟨h1,h2,h3,h4⟩) h0
  ·rintro ⟨h,_⟩;exact absurd h h0
theorem pens_obj:Pens Pe.obj eobj (fun o=>o.check=0):=by
 have h:=Pens.chk (((((pens_blob 128).on Oj.key)).seq ((pens_count 16).on (fun o:Oj=>o.sibs.length))).seq (pens_sibs.on Oj.sibs)) Oj.check
 have e:(fun o:Oj=>(eblob o.key++vput o.sibs.length)++(o.sibs.map esib).flatten)=eobj:=by
  funext k;unfold eobj;simp only [List.append_assoc]
 rw [e] at h
 refine Pens.iff h fun o=>⟨fun h=>h.1,fun h=>⟨h,⟨?_,?_⟩,fun x hx=>?_⟩⟩
 ·obtain ⟨h1,_⟩:=outside_zero.1 (Oj.check_parts h).1
  simpa using h1
 ·obtain ⟨_,_,h1,_⟩:=outside_zero.1 (Oj.check_parts h).1
  simpa using h1
 ·exact jcheck_parts _ _ (Oj.check_parts h).2 x hx
end Go.AW
namespace Go.AW
theorem olde_bad{o:Od}(h:o.check≠0):olde o=([],o.check):=by
 unfold olde Pe.old
 rw [if_pos h]
 unfold Pe.fin Pe.fail
 simp [h]
theorem olde_good{o:Od}(h:o.check=0):olde o=Pe.fin (Pe.olds ((Pe.blob ⟨[],65536,0⟩ 128 o.key).count 16 (o.sibs.length:Nat)) o.sibs):=by
 unfold olde Pe.old
 rw [if_neg (by simpa using h)]
end Go.AW
namespace Go.AW
open Go Go.Proofs
attribute [local irreducible] thenQ blockQ RetQ AL AW AC AOp
section
variable (b s : List UInt8) (m e f n : Int)
theorem ref02_New:AC Tryz.prog 62 [iv .i64 m] [] fun x σ=>x=.p 0 0∧σ=[Pe.ro ⟨[],if m<0 then 0 else m,0⟩]:=by
 refine AC.wk Tryz.func62 ?_
 focus ((repeat' (first|refine GF ?_|refine AW.ret ?_|(refine GC ?_ ?_<;>intro h<;>(try simp only [hsB] at h)<;>try exact xf)|(refine GL ?_ ?_<;>intro h<;>(try simp only [hsN] at h)<;>(try simp only [h])<;>(try simp only [hsB] at h)<;>try exact xf)|fail)))
 (all_goals first|exact RetQ.fr 1|exact RetQ.fn 1|fail)
theorem ref02_Fail:AC Tryz.prog 133 [.p 0 0,iv .i64 f] [Pe.ro ⟨b,m,e⟩] fun x σ=>x=.t []∧σ=[Pe.ro (Pe.fail ⟨b,m,e⟩ f)]:=by
 refine AC.wk Tryz.func133 ?_
 focus ((repeat' (first|refine GF ?_|refine AW.ret ?_|(refine GC ?_ ?_<;>intro h<;>(try simp only [hsB] at h)<;>try exact xf)|(refine GL ?_ ?_<;>intro h<;>(try simp only [hsN] at h)<;>(try simp only [h])<;>(try simp only [hsB] at h)<;>try exact xf)|fail)))
 ((all_goals first|refine RetQ.yr 1 ⟨?_,?_⟩|refine RetQ.yn 1 ⟨?_,?_⟩);(all_goals first|rfl|(simp [Pe.fail, *];done)|((simp only [go_sem,↓reduceIte,Nat.reduceLT,Pe.fail];(repeat' split))<;>first|rfl|(exfalso;omega)|(simp_all;done)|(simp_all;omega))))
theorem ref02_Text(h:Pe.Ok ⟨b,m,e⟩)(hl:m≤140737488355328∨b.length+s.length≤140737488355328)(hs:s.length≤4611686018427387904):AC Tryz.prog 73 [.p 0 0,sv (bs s)] [Pe.ro ⟨b,m,e⟩] fun x σ=>x=.t []∧σ=[Pe.ro (Pe.text ⟨b,m,e⟩ s)]:=by
 obtain ⟨h1,h2,h3⟩:=h
 simp only at h1 h2 h3
 refine AC.wk Tryz.func73 ?_
 focus ((repeat' (first|(refine ADr.nil ?_;try clear hgv)|refine GOF ?_|refine AW.ret ?_|(refine GC ?_ ?_<;>intro h<;>(try simp only [hsB] at h)<;>try exact xf)|(refine GD ?_ ?_<;>intro h<;>(try intro hgv)<;>(try simp only [hsN] at h)<;>(try simp only [h])<;>(try simp only [hsB] at h)<;>try exact xf)|(refine GL ?_ ?_<;>intro h<;>(try simp only [hsN] at h)<;>(try simp only [h])<;>(try simp only [hsB] at h)<;>try exact xf)|fail)))
 ·((all_goals first|refine RetQ.yr 1 ⟨?_,?_⟩|refine RetQ.yn 1 ⟨?_,?_⟩);(all_goals first|rfl|(simp [Pe.text, *];done)|((simp only [go_sem,↓reduceIte,Nat.reduceLT,Pe.text];(repeat' split))<;>first|rfl|(exfalso;omega)|(simp_all;done)|(simp_all;omega))))
 ·have h4:m-(b.length:Int)<s.length:=by omega
  ((all_goals first|refine RetQ.yr 1 ⟨?_,?_⟩|refine RetQ.yn 1 ⟨?_,?_⟩);(all_goals first|rfl|(simp [Pe.text, *];done)|((simp only [go_sem,↓reduceIte,Nat.reduceLT,Pe.text];(repeat' split))<;>first|rfl|(exfalso;omega)|(simp_all;done)|(simp_all;omega))))
 ·have h4:¬ m-(b.length:Int)<s.length:=by omega
  ((all_goals first|refine RetQ.yr 1 ⟨?_,?_⟩|refine RetQ.yn 1 ⟨?_,?_⟩);(all_goals first|rfl|(simp [Pe.text, *];done)|((simp only [go_sem,↓reduceIte,Nat.reduceLT,Pe.text];(repeat' split))<;>first|rfl|(exfalso;omega)|(simp_all;done)|(simp_all;omega))))
theorem ref02_Byte(h:Pe.Ok ⟨b,m,e⟩)(hl:m≤140737488355328∨b.length+1≤140737488355328)(x:UInt8):AC Tryz.prog 134 [.p 0 0,iv .u8 x.toNat] [Pe.ro ⟨b,m,e⟩] fun y σ=>y=.t []∧σ=[Pe.ro (Pe.text ⟨b,m,e⟩ [x])]:=by
 refine AC.wk Tryz.func134 ?_
 focus (have kk1:=uN [0] (ref02_Text _ [x] _ _ h hl (Nat.le_of_ble_eq_true rfl));(repeat' (first|refine GF ?_|refine AW.ret ?_|(refine GC ?_ ?_<;>intro h<;>(try simp only [hsB] at h)<;>try exact xf)|(refine GL ?_ ?_<;>intro h<;>(try simp only [hsN] at h)<;>(try simp only [h])<;>(try simp only [hsB] at h)<;>try exact xf)|fail));all_goals clear kk1)
 (all_goals first|exact RetQ.fr 1|exact RetQ.fn 1|fail)
theorem ref02_End:AC Tryz.prog 75 [.p 0 0] [Pe.ro ⟨b,m,e⟩] fun x σ=>x=.t [sv (bs (Pe.fin ⟨b,m,e⟩).1),iv .i64 (Pe.fin ⟨b,m,e⟩).2]∧σ=[Pe.ro ⟨b,m,e⟩]:=by
 refine AC.wk Tryz.func75 ?_
 focus ((repeat' (first|(refine ADr.nil ?_;try clear hgv)|refine GOF ?_|refine AW.ret ?_|(refine GC ?_ ?_<;>intro h<;>(try simp only [hsB] at h)<;>try exact xf)|(refine GD ?_ ?_<;>intro h<;>(try intro hgv)<;>(try simp only [hsN] at h)<;>(try simp only [h])<;>(try simp only [hsB] at h)<;>try exact xf)|(refine GL ?_ ?_<;>intro h<;>(try simp only [hsN] at h)<;>(try simp only [h])<;>(try simp only [hsB] at h)<;>try exact xf)|fail)))
 ((all_goals first|refine RetQ.yr 1 ⟨?_,?_⟩|refine RetQ.yn 1 ⟨?_,?_⟩);(all_goals first|rfl|(simp [Pe.fin, *];done)|((simp only [go_sem,↓reduceIte,Nat.reduceLT,Pe.fin];(repeat' split))<;>first|rfl|(exfalso;omega)|(simp_all;done)|(simp_all;omega))))
end
end Go.AW
namespace Go.AW
open Go Go.Proofs
attribute [local irreducible] thenQ blockQ RetQ AL AW AC AOp
theorem ref03_Encode(n:Nat)(hn:n<18446744073709551616):AC Tryz.prog 132 [iv .u64 n] [] fun x σ=>x=sv (bs (vput n))∧σ=[]:=by
 induction n using Nat.strongRecOn with
 | ind n ih=>
 have hq:(n:Int).tdiv 128=((n / 128:Nat):Int):=rfl
 have hm:(n:Int).tmod 128=((n%128:Nat):Int):=rfl
 refine AC.wk Tryz.func132 ?_
 by_cases h128:n<128
 ·have hv:vput n=[UInt8.ofNat n]:=by unfold vput;rw [if_pos h128]
  (have kxs:=And.intro hq hm;exact Wb0)
 ·have ih:=ih (n / 128) (by omega) (by omega)
  have ht:(((n%128:Nat):Int)+128).toNat=n%128+128:=by omega
  have hl:=vput_len10 (n:=n / 128) (by omega)
  have hv:vput n=UInt8.ofNat (n%128+128)::vput (n / 128):=by conv=>lhs;unfold vput;rw [if_neg h128]
  focus (have kxs:=And.intro hq (And.intro hm ht);have kk1:=uN [] ih;(repeat' (first|(refine ADr.nil ?_;try clear hgv)|refine GOF ?_|refine AW.ret ?_|(refine GC ?_ ?_<;>intro h<;>(try simp only [hsB] at h)<;>try exact xf)|(refine GD ?_ ?_<;>intro h<;>(try intro hgv)<;>(try simp only [hsN] at h)<;>(try simp only [h])<;>(try simp only [hsB] at h)<;>try exact xf)|(refine GL ?_ ?_<;>intro h<;>(try simp only [hsN] at h)<;>(try simp only [h])<;>(try simp only [hsB] at h)<;>try exact xf)|fail));all_goals clear kxs kk1)
  all_goals try simp only [ht]
  rw [hv]
  (all_goals first|exact RetQ.fr 0|exact RetQ.fn 0|fail)
section
variable (b s : List UInt8) (m e : Int)
theorem ref03_Put(h:Pe.Ok ⟨b,m,e⟩)(n:Nat)(hl:n<18446744073709551616)(hn:m≤140737488355328∨b.length+10≤140737488355328) :
  AC Tryz.prog 63 [.p 0 0,iv .u64 n] [Pe.ro ⟨b,m,e⟩] fun x σ=>x=.t []∧σ=[Pe.ro (Pe.text ⟨b,m,e⟩ (vput n))]:=by
 have hvl:=vput_len10 hl
 refine AC.wk Tryz.func63 ?_
 focus (have kk1:=uN [] (ref03_Encode n hl);have kk2:=uN [0] (ref02_Text _ (vput n) _ _ h (by omega) (by omega));(repeat' (first|refine GF ?_|refine AW.ret ?_|(refine GC ?_ ?_<;>intro h<;>(try simp only [hsB] at h)<;>try exact xf)|(refine GL ?_ ?_<;>intro h<;>(try simp only [hsN] at h)<;>(try simp only [h])<;>(try simp only [hsB] at h)<;>try exact xf)|fail));all_goals clear kk1 kk2)
 (all_goals first|exact RetQ.fr 1|exact RetQ.fn 1|fail)
end
end Go.AW
namespace Go.AW
open Go Go.Proofs
attribute [local irreducible] thenQ blockQ RetQ AL AW AC AOp
section
variable (b s : List UInt8) (m e max : Int)
theorem ref06_Put(ok:Pe.Ok ⟨b,m,e⟩)(hv:s.length≤4611686018427387904)(hl:m≤140737488355328∨b.length+10+s.length≤140737488355328) :
  AC Tryz.prog 64 [.p 0 0,iv .i64 max,sv (bs s)] [Pe.ro ⟨b,m,e⟩] fun x σ=>x=.t []∧σ=[Pe.ro (Pe.blob ⟨b,m,e⟩ max s)]:=by
 have hvl:=vput_len10 (n:=s.length) (by omega)
 have htl:=Pe.text_len ⟨b,m,e⟩ (vput s.length)
 have htm:=Pe.text_m ⟨b,m,e⟩ (vput s.length)
 simp only at htl htm
 have hto:=Pe.text_ok (s:=vput s.length) ok (by simp only;omega)
 refine AC.wk Tryz.func64 ?_
 by_cases hc:max.toNat<s.length
 ·have hb:Pe.blob ⟨b,m,e⟩ max s=Pe.fail ⟨b,m,e⟩ 3:=by unfold Pe.blob;rw [if_pos hc]
  focus (have kud1:=fun za zb zc zd=>uN [0] (ref02_Fail za zb zc zd);(repeat' (first|refine G ?_|refine AW.ret ?_|(refine GC ?_ ?_<;>intro h<;>(try simp only [hsB] at h)<;>try exact xf)|(refine GL ?_ ?_<;>intro h<;>(try simp only [hsN] at h)<;>(try simp only [h])<;>(try simp only [hsB] at h)<;>try exact xf)|fail));all_goals clear kud1)
  all_goals first|(exfalso;omega)|(rw [hb];(all_goals first|exact RetQ.fr 1|exact RetQ.fn 1|fail);done)
 ·have hb:Pe.blob ⟨b,m,e⟩ max s=(Pe.text ⟨b,m,e⟩ (vput s.length)).text s:=by unfold Pe.blob;rw [if_neg hc]
  focus (have kk1:=uN [0] (ref03_Put b m e ok s.length (by omega) (by omega));have kk2:=uN [0] (ref02_Text (Pe.text ⟨b,m,e⟩ (vput s.length)).b s (Pe.text ⟨b,m,e⟩ (vput s.length)).m _ hto (by omega) hv);(repeat' (first|refine G ?_|refine AW.ret ?_|(refine GC ?_ ?_<;>intro h<;>(try simp only [hsB] at h)<;>try exact xf)|(refine GL ?_ ?_<;>intro h<;>(try simp only [hsN] at h)<;>(try simp only [h])<;>(try simp only [hsB] at h)<;>try exact xf)|fail));all_goals clear kk1 kk2)
  all_goals first|(exfalso;omega)|(rw [hb];(all_goals first|exact RetQ.fr 1|exact RetQ.fn 1|fail);done)
theorem ref06_PutFlag(ok:Pe.Ok ⟨b,m,e⟩)(t:Bool)(hl:m≤140737488355328∨b.length+1≤140737488355328) :
  AC Tryz.prog 65 [.p 0 0,bv t] [Pe.ro ⟨b,m,e⟩] fun x σ=>x=.t []∧σ=[Pe.ro (Pe.flag ⟨b,m,e⟩ t)]:=by
 refine AC.wk Tryz.func65 ?_
 cases t with
 | true=>
  (have kk1:=uN [0] (ref02_Byte b m e ok hl 1);exact Wd1)
 | false=>
  (have kk1:=uN [0] (ref02_Byte b m e ok hl 0);exact Wd1)
end
end Go.AW
namespace Go.AW
open Go Go.Proofs
attribute [local irreducible] thenQ blockQ RetQ AL AW AC AOp
theorem ref06_Below(a b:List UInt8)(ha:a.length≤140737488355328)(hb:b.length≤140737488355328):AC Tryz.prog 107 [sv (bs a),sv (bs b)] [] fun x σ=>x=bv (Op.bytesLess a b)∧σ=[]:=by
 refine AC.wk Tryz.func107 ?_
 focus ((repeat' (first|(refine ADr.nil ?_;try clear hgv)|refine GO ?_|refine AW.ret ?_|(refine GC ?_ ?_<;>intro h<;>(try simp only [hsB] at h)<;>try exact xf)|(refine GD ?_ ?_<;>intro h<;>(try intro hgv)<;>(try simp only [hsN] at h)<;>(try simp only [h])<;>(try simp only [hsB] at h)<;>try exact xf)|(refine GL ?_ ?_<;>intro h<;>(try simp only [hsN] at h)<;>(try simp only [h])<;>(try simp only [hsB] at h)<;>try exact xf)|fail)))
 refine AW.rounds [0,1,4,5] (fun i:Nat=>[(0,sv (bs a)),(1,sv (bs b)),(4,bv false),(5,iv .i64 i)]) (fun _=>[]) (fun i=>i≤a.length∧i≤b.length∧Op.bytesLess (a.drop i) (b.drop i)=Op.bytesLess a b) (fun i=>a.length-i) 0 ⟨Nat.zero_le _,Nat.zero_le _,rfl⟩ rfl rfl
  (fun _ _=>Nat.zero_le _) (fun _ _=>rfl) (fun _ _=>rfl) ?_
 rintro i ⟨h1,h2,hr⟩ J hJ
 by_cases hia:i<a.length
 ·by_cases hib:i<b.length
  ·have da:=List.drop_eq_getElem_cons hia
   have db:=List.drop_eq_getElem_cons hib
   have ga:a.getD i 0=a[i]:=by simp [List.getD_eq_getElem?_getD,hia]
   have gb:b.getD i 0=b[i]:=by simp [List.getD_eq_getElem?_getD,hib]
   rw [da,db,less_cons] at hr
   generalize a[i]=x at *
   generalize b[i]=y at *
   have hxy:((x.toNat:Int)=y.toNat)=(x=y):=by
    apply propext
    constructor
    ·intro h;exact UInt8.toNat_inj.1 (by omega)
    ·rintro rfl;rfl
   have hlt:((x.toNat:Int)<y.toNat)=(x<y):=by
    apply propext
    rw [UInt8.lt_iff_toNat_lt];omega
   focus (have kxs:=And.intro ga (And.intro gb (And.intro hxy hlt));(repeat' (first|(refine ADr.nil ?_;try clear hgv)|refine GO ?_|refine AW.ret ?_|(refine GC ?_ ?_<;>intro h<;>(try simp only [hsB] at h)<;>try exact xf)|(refine GD ?_ ?_<;>intro h<;>(try intro hgv)<;>(try simp only [hsN] at h)<;>(try simp only [h])<;>(try simp only [hsB] at h)<;>try exact xf)|(refine GL ?_ ?_<;>intro h<;>(try simp only [hsN] at h)<;>(try simp only [h])<;>(try simp only [hsB] at h)<;>try exact xf)|fail));all_goals clear kxs)
   ·have e1:(x == y)=false:=by simp [h]
    rw [e1,Bool.false_and,Bool.or_false] at hr
    rw [←hr]
    (all_goals first|exact RetQ.fr 0|exact RetQ.fn 0|fail)
   ·subst h
    have e2:decide (x<x)=false:=by simp
    rw [e2,beq_self_eq_true,Bool.true_and,Bool.false_or] at hr
    exact hJ (i+1) _ _ (by omega) ⟨hia,hib,hr⟩ rfl rfl
  ·have e1:b.drop i=[]:=List.drop_eq_nil_of_le (by omega)
   rw [e1,less_nil] at hr
   have e2:decide ((a.length:Int)<b.length)=false:=by simp;omega
   focus (have kxs:=e2;(repeat' (first|(refine ADr.nil ?_;try clear hgv)|refine GO ?_|refine AW.ret ?_|(refine GC ?_ ?_<;>intro h<;>(try simp only [hsB] at h)<;>try exact xf)|(refine GD ?_ ?_<;>intro h<;>(try intro hgv)<;>(try simp only [hsN] at h)<;>(try simp only [h])<;>(try simp only [hsB] at h)<;>try exact xf)|(refine GL ?_ ?_<;>intro h<;>(try simp only [hsN] at h)<;>(try simp only [h])<;>(try simp only [hsB] at h)<;>try exact xf)|fail));all_goals clear kxs)
   rw [←hr]
   (all_goals first|exact RetQ.fr 0|exact RetQ.fn 0|fail)
 ·have e1:a.drop i=[]:=List.drop_eq_nil_of_le (by omega)
  have e2:decide ((a.length:Int)<b.length)=Op.bytesLess a b:=by
   rw [←hr,e1]
   rcases hb':b.drop i with _|⟨y,r⟩
   ·have:=congrArg List.length hb'
    simp at this
    rw [less_nil];simp;omega
   ·have:=congrArg List.length hb'
    simp at this
    rw [less_nil_cons];simp;omega
  focus (have kxs:=e2;(repeat' (first|(refine ADr.nil ?_;try clear hgv)|refine GO ?_|refine AW.ret ?_|(refine GC ?_ ?_<;>intro h<;>(try simp only [hsB] at h)<;>try exact xf)|(refine GD ?_ ?_<;>intro h<;>(try intro hgv)<;>(try simp only [hsN] at h)<;>(try simp only [h])<;>(try simp only [hsB] at h)<;>try exact xf)|(refine GL ?_ ?_<;>intro h<;>(try simp only [hsN] at h)<;>(try simp only [h])<;>(try simp only [hsB] at h)<;>try exact xf)|fail));all_goals clear kxs)
  (all_goals first|exact RetQ.fr 0|exact RetQ.fn 0|fail)
end Go.AW
