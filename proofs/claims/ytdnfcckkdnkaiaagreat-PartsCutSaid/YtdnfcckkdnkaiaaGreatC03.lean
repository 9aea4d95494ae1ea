/-
  The calculus: what a walk computes with, and its end.
-/
import Derived.Test.YtdnfcckkdnkaiaaGreatC02
import Derived.Test.YtdnfcckkdnkaiaaGreatC01
set_option linter.unusedVariables false
set_option linter.unusedSimpArgs false
set_option maxHeartbeats 4000000
set_option maxRecDepth 10000
namespace Go.AW
open Go
attribute [go_sem] decide_true decide_false eqV V.flat1 flats1 ao ev look cv bin ibin shf sbin eqn onB onI add rdx rdV rdD elems srcOf setAt flat ones V.one Value.oneCell' toDs onesD D.one put dstOk gv nzs nz rens V.ren Ob.ren mrg gm
 fz fzs lts V.lt Ob.lt obsLt tLt keepT resV one1 ent buildCells fillV thenQ blockQ cvd bV bT bC bO List.contains List.elem cond_true cond_false
attribute [go_sem] true_and and_true if_true if_false ite_true ite_false List.drop_zero List.head?_cons exists_eq_left' exists_eq_left exists_eq_right Option.some.injEq Prod.mk.injEq List.length_cons List.length_nil List.getElem?_cons_zero List.getElem?_cons_succ
 List.drop_succ_cons List.take_succ_cons List.take_zero List.map_cons List.map_nil List.nil_append List.cons_append List.append_nil List.set_cons_zero List.set_cons_succ Bool.not_true Bool.not_false Nat.add_zero Nat.zero_add
 Option.map_some Option.map_none forall_const false_and and_false false_or or_false true_or or_true not_true_eq_false not_false_eq_true Bool.true_and Bool.false_and Bool.and_true Bool.and_false bs_size bs_append bs_extract bs_data and_self List.size_toArray Int.toNat_natCast
 bind_pure_comp List.drop_nil List.take_nil List.set_nil Option.isSome_some Option.isSome_none List.getD_cons_zero List.getD_cons_succ Nat.mul_one Nat.one_mul Nat.mul_zero Nat.zero_mul
attribute [go_sem] Nat.reduceEqDiff reduceCtorEq Nat.reduceAdd Nat.reduceMul Int.reduceLE Int.reduceLT Int.reduceToNat Nat.reduceLeDiff Nat.reduceSub Int.reduceAdd Int.reduceMul Int.reduceSub Int.reduceNeg Int.reduceEq Nat.reduceDiv Nat.reduceMod Nat.reduceLT Nat.reduceGT
attribute [go_sem ↓] reduceIte
def bsD(l:List UInt8):List D:=l.map fun b=>.s (.int .u8 b.toNat)
theorem strD_bs(l:List UInt8):strD ⟨l.toArray⟩=bsD l:=rfl
theorem bsD_append(l m:List UInt8):bsD l++bsD m=bsD (l++m):=by simp [bsD]
theorem bsD_length(l:List UInt8):(bsD l).length=l.length:=by simp [bsD]
theorem onesD_bsD(l:List UInt8):onesD (bsD l)=true:=by
 induction l with
 | nil=>rfl
 | cons b l ih=>simp only [bsD,List.map_cons,onesD,D.one,Bool.and_eq_true];exact ⟨rfl,ih⟩
theorem bsD_nums(l:List UInt8):bsD l=(l.map fun b=>(b.toNat:Int)).map fun n=>.s (.int .u8 n):=by simp [bsD]
theorem strOfNums_bs(l:List UInt8):strOfNums (l.map fun b=>(b.toNat:Int))=⟨l.toArray⟩:=by
 simp [strOfNums,Function.comp_def]
theorem strOfNums_one(n:Int):strOfNums [n]=⟨[UInt8.ofNat n.toNat].toArray⟩:=rfl
attribute [go_sem] strD_bs bsD_append bsD_length onesD_bsD strOfNums_bs
theorem wrap_i64{n:Int}(h1:-9223372036854775808≤n)(h2:n≤9223372036854775807):IntKind.wrap .i64 n=n:=by
 simp only [IntKind.wrap,IntKind.bits,IntKind.signed]
 simp
 omega
theorem wrap_u64{n:Int}(h1:0≤n)(h2:n≤18446744073709551615):IntKind.wrap .u64 n=n:=by
 simp only [IntKind.wrap,IntKind.bits,IntKind.signed]
 simp
 omega
theorem wrap_u32{n:Int}(h1:0≤n)(h2:n≤4294967295):IntKind.wrap .u32 n=n:=by
 simp only [IntKind.wrap,IntKind.bits,IntKind.signed]
 simp
 omega
theorem wrap_u8{n:Int}(h1:0≤n)(h2:n≤255):IntKind.wrap .u8 n=n:=by
 simp only [IntKind.wrap,IntKind.bits,IntKind.signed]
 simp
 omega
theorem pick_and(b x:Bool):(if b=true then bv x else bv false)=bv (b&&x):=by cases b<;>rfl
theorem pick_or(b x:Bool):(if b=true then bv true else bv x)=bv (b||x):=by cases b<;>rfl
attribute [go_sem] pick_and pick_or
theorem wrap_bi(b:UInt8):IntKind.wrap .i64 (b.toNat:Int)=b.toNat:=wrap_i64 (by omega) (by have:=b.toNat_lt;omega)
theorem wrap_bu(b:UInt8):IntKind.wrap .u64 (b.toNat:Int)=b.toNat:=wrap_u64 (by omega) (by have:=b.toNat_lt;omega)
theorem wrap_bb(b:UInt8):IntKind.wrap .u8 (b.toNat:Int)=b.toNat:=wrap_u8 (by omega) (by have:=b.toNat_lt;omega)
attribute [go_sem] wrap_i64 wrap_u64 wrap_u32 wrap_u8 wrap_bi wrap_bu wrap_bb
theorem ex_box{t:TypeId}{c:List V}{p:TypeId→List V→Prop}:(∃ T' cs,Ob.box t c=Ob.box T' cs∧p T' cs)↔p t c:=
 ⟨fun ⟨_,_,e,h⟩=>by cases e;exact h,fun h=>⟨_,_,rfl,h⟩⟩
theorem ex_row1{E z n n':Nat}{c:List D}{p:Nat→Nat→List D→List D→Prop}:(∃ E' z' cs ys,Ob.row E z n c=Ob.row E' z' n' cs∧p E' z' cs ys)↔n=n'∧∃ ys,p E z c ys:=
 ⟨fun ⟨_,_,_,_,e,h⟩=>by cases e;exact ⟨rfl,_,h⟩,fun ⟨e,ys,h⟩=>⟨_,_,_,_,by rw [e],h⟩⟩
theorem ex_row2{E E' z z' n n':Nat}{c:List D}{p:List D→Prop}:(∃ cs,Ob.row E z n c=Ob.row E' z' n' cs∧p cs)↔E=E'∧z=z'∧n=n'∧p c:=
 ⟨fun ⟨_,e,h⟩=>by cases e;exact ⟨rfl,rfl,rfl,h⟩,fun ⟨e,e',e'',h⟩=>⟨_,by rw [e,e',e''],h⟩⟩
attribute [go_sem] ex_box ex_row1 ex_row2 exists_and_left and_assoc exists_eq'
section
variable {P : Program} {N k : Nat} {T : Tm} {σ : List Ob} {Q : Ex → Tm → List Ob → Prop} {K : Tm → List Ob → Prop}
theorem thenQ_n(h:K T σ):thenQ K Q .normal T σ:=h
theorem thenQ_r(h:Q .ret T σ):thenQ K Q .ret T σ:=h
theorem thenQ_e{i:Nat}(h:Q (.exit i) T σ):thenQ K Q (.exit i) T σ:=h
theorem blockQ_n{i:Nat}(h:Q .normal T σ):blockQ i Q .normal T σ:=h
theorem blockQ_r{i:Nat}(h:Q .ret T σ):blockQ i Q .ret T σ:=h
theorem blockQ_e{i:Nat}(h:Q .normal T σ):blockQ i Q (.exit i) T σ:=by simp only [blockQ,if_true];exact h
theorem blockQ_o{i j:Nat}(hij:j≠i)(h:Q (.exit j) T σ):blockQ i Q (.exit j) T σ:=by simp only [blockQ,if_neg hij];exact h
theorem AW.seq'{x y:Code}(h:AW P N k x (thenQ (AW P N k y Q) Q) T σ):AW P N k (.seq x y) Q T σ:=
 AW.seq fun K hK=>AW.mono h fun e T σ q=>by cases e<;>first|exact hK _ _ q|exact q
def RetQ(P:Program)(n:Nat)(rs:List ResultVar)(R:V→List Ob→Prop):Ex→Tm→List Ob→Prop
 | .exit _,_,_=>False
 | _,T,σ=>∃ xs m,resV P σ T rs=some xs∧n≤m∧obsLt m (σ.take m)=true∧(fz σ m (one1 xs)).lt m=true∧R (fz σ m (one1 xs)) (σ.take m)
theorem AC.walk{f:FuncId}{fn:Func}{c:Code}{args:List V}{R:V→List Ob→Prop}(hf:P.funcs[f]? = some fn)(hb:fn.body=some c)(hname:fn.name≠ "runtime.NumGoroutine")(hN:args.length≤fn.ntmps)
  (h:AW P fn.ntmps σ.length c (RetQ P σ.length fn.results.toList R) (ent 0 args) σ):AC P f args σ R:=
 AC.intro hf hb hname hN (AW.mono h fun e T σ q=>by cases e<;>first|exact q.elim|exact ⟨trivial,q⟩)
theorem RetQ.r{n:Nat}{rs:List ResultVar}{R:V→List Ob→Prop}(m:Nat){xs:List V}(h1:resV P σ T rs=some xs)(h2:n≤m)(h3:obsLt m (σ.take m)=true)(h4:(fz σ m (one1 xs)).lt m=true)(h5:R (fz σ m (one1 xs)) (σ.take m)) :
 RetQ P n rs R .ret T σ:=⟨xs,m,h1,h2,h3,h4,h5⟩
theorem RetQ.n{n:Nat}{rs:List ResultVar}{R:V→List Ob→Prop}(m:Nat){xs:List V}(h1:resV P σ T rs=some xs)(h2:n≤m)(h3:obsLt m (σ.take m)=true)(h4:(fz σ m (one1 xs)).lt m=true)(h5:R (fz σ m (one1 xs)) (σ.take m)) :
 RetQ P n rs R .normal T σ:=⟨xs,m,h1,h2,h3,h4,h5⟩
theorem AW.rounds{X:Type}{c:Code}(ts:List Nat)(Tf:X→Tm)(σf:X→List Ob)(Pf:X→Prop)(μf:X→Nat)(x0:X)(h0:Pf x0)(hT:keepT T ts=Tf x0)(hσ:σ.take (σf x0).length=σf x0)
  (hk:∀ x,Pf x→k≤(σf x).length) (ho:∀ x,Pf x→obsLt (σf x).length (σf x)=true) (ht:∀ x,Pf x→tLt (σf x).length (Tf x)=true)
  (round:∀ x,Pf x→∀ J:Tm→List Ob→Prop,(∀ x' T' σ',μf x'<μf x→Pf x'→keepT T' ts=Tf x'→σ'.take (σf x').length=σf x'→J T' σ')→AW P N k c (thenQ J Q) (Tf x) (σf x)):AW P N k (.loop c) Q T σ:=by
 refine AW.loop (fun n T σ=>∃ x,μf x=n∧Pf x∧keepT T ts=Tf x∧σ.take (σf x).length=σf x) (μf x0) ⟨x0,rfl,h0,hT,hσ⟩ ?_
 rintro n T σ ⟨x,rfl,hp,hT,hσ⟩ J hJ
 refine AW.forget ts (σf x).length (hk x hp) (by rw [hσ];exact ho x hp) (by rw [hT];exact ht x hp) ?_
 rw [hT,hσ]
 exact round x hp J fun x' T' σ' h1 h2 h3 h4=>hJ (μf x') T' σ' h1 ⟨x',rfl,h2,h3,h4⟩
end
end Go.AW
namespace Go.AW
open Go
section
variable {P : Program} {N k : Nat} {T : Tm} {σ : List Ob}
theorem AOp.cS{T':Tm}{R Qs:V→List Ob→Prop}{f:FuncId}{fv:Operand}{args:Array Operand}{ts:Array TypeId}{ty:TypeId}{pos:String}{af:Array Edge}{gd:Option (Nat × Bool)}{dst:Option Tmp}{fi ca ag:List V}
  (hT:∀ x ∈ (Op.call { callee:=.value fv,args:=args,argTypes:=ts }).operands,ev T x=ev T' x) (hf:ev T fv=.f (.func f) fi ca) (hc:AC P f ag σ Qs) (has:nzs (fi++args.toList.map (ev T)++ca)=ag)
  (h:∀ y obs,Qs y obs→R y obs):AOp P N k ⟨dst,.call { callee:=.value fv,args:=args,argTypes:=ts },ty,pos,af,gd⟩ T' σ R:=by
 have e:args.toList.map (ev T)=args.toList.map (ev T'):=List.map_congr_left fun x hx=>hT x (by simp [Op.operands,Call.operands];exact .inr (by simpa using hx))
 refine AOp.call (by rw [←hT fv (by simp [Op.operands,Call.operands])];exact hf) ?_
 rw [←e,has]
 exact hc.mono h
end
end Go.AW
