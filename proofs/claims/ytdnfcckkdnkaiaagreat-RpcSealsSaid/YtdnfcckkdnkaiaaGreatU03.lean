/-
  The walk, step by step: each step is one word; what it needs is found by name: contracts kk1, kk2, .., facts kxs.
-/
import Derived.Test.YtdnfcckkdnkaiaaGreatU02
set_option linter.unusedVariables false
set_option linter.unusedSimpArgs false
set_option maxHeartbeats 4000000
set_option maxRecDepth 10000
namespace Go.AW
open Go Go.Proofs
structure Bx (q:Prop):Prop where
 out:q
def Use(ι:List Nat)(p:Prop):Prop:=p
def UseL(p:Prop):Prop:=p
def UseS(p:Prop):Prop:=p
theorem uN(ι:List Nat){p:Prop}(h:p):Use ι p:=h
theorem uL{p:Prop}(h:p):UseL p:=h
theorem uS{p:Prop}(h:p):UseS p:=h
section
variable {P : Program} {N k : Nat} {T : Tm} {σ : List Ob}
theorem AOp.u{T':Tm}{R:V→List Ob→Prop}{σs:List Ob}{ι:List Nat}{f:FuncId}{fv:Operand}{args:Array Operand}{ts:Array TypeId}{ty:TypeId}{pos:String}{af:Array Edge}{gd:Option (Nat × Bool)}{dst:Option Tmp}{fi ca av:List V}{X:V}{S:List Ob}
  (hc:Use ι (AC P f av σs fun x σ=>x=X∧σ=S)) (h:R (X.ren (gm ι σ.length)) (mrg σ ι (S.map (Ob.ren (gm ι σ.length)))))
  (hT:∀ x ∈ (Op.call { callee:=.value fv,args:=args,argTypes:=ts }).operands,ev T x=ev T' x:=by first|exact fun _ _=>rfl|exact fun x hx=>ev_keep _ x hx|fail)
  (hf:ev T fv=.f (.func f) fi ca:=by rfl)
  (hemb:Emb ι σs σ:=by first|exact Emb.nil|exact Emb.one rfl|exact Emb.two (by decide) rfl rfl|(refine Emb.of rfl (by decide) ?_;intro j hj;rcases j with _|_|_|_|_|_|_|_|_|j<;>first|rfl|(exfalso;simp only [List.length_cons,List.length_nil] at hj;omega)|fail)|fail)
  (has:nzs (fi++args.toList.map (ev T)++ca)=rens (gm ι σ.length) av:=by rfl):AOp P N k ⟨dst,.call { callee:=.value fv,args:=args,argTypes:=ts },ty,pos,af,gd⟩ T' σ R:=
 AOp.cι hT ι hf hc hemb has fun y obs ⟨hy,ho⟩=>by rw [hy,ho];exact h
theorem AOp.uL{T':Tm}{R:V→List Ob→Prop}{f:FuncId}{fv:Operand}{args:Array Operand}{ts:Array TypeId}{ty:TypeId}{pos:String}{af:Array Edge}{gd:Option (Nat × Bool)}{dst:Option Tmp}{fi ca av:List V}{X:V}{S:List Ob}
  (hc:UseL (AC P f av [] fun x σ=>x=X∧σ=S)) (h:R X σ)
  (hT:∀ x ∈ (Op.call { callee:=.value fv,args:=args,argTypes:=ts }).operands,ev T x=ev T' x:=by first|exact fun _ _=>rfl|exact fun x hx=>ev_keep _ x hx|fail)
  (hf:ev T fv=.f (.func f) fi ca:=by rfl)
  (has:fzs σ 0 (nzs (fi++args.toList.map (ev T)++ca))=av:=by first|rfl|((try simp only [ao,List.map_cons,List.map_nil]);simp (disch:=omega) only [go_sem,kxs];done)|fail)
  (hlt:lts 0 av=true:=by first|rfl|(simp only [go_sem];done)|fail)
  (hfl:X.flat1=true:=by first|rfl|(simp only [V.flat1,flats1,Bool.and_true];done)|fail):AOp P N k ⟨dst,.call { callee:=.value fv,args:=args,argTypes:=ts },ty,pos,af,gd⟩ T' σ R:=
 AOp.cL hT hf hc has hlt fun y obs ⟨hy,ho⟩=>by rw [hy];exact ⟨hfl,h⟩
theorem AOp.uS{T':Tm}{R:V→List Ob→Prop}{f:FuncId}{fv:Operand}{args:Array Operand}{ts:Array TypeId}{ty:TypeId}{pos:String}{af:Array Edge}{gd:Option (Nat × Bool)}{dst:Option Tmp}{fi ca av:List V}{X:V}{S:List Ob}
  (hc:UseS (AC P f av σ fun x σ=>x=X∧σ=S)) (h:R X S)
  (hT:∀ x ∈ (Op.call { callee:=.value fv,args:=args,argTypes:=ts }).operands,ev T x=ev T' x:=by first|exact fun _ _=>rfl|exact fun x hx=>ev_keep _ x hx|fail)
  (hf:ev T fv=.f (.func f) fi ca:=by rfl)
  (has:nzs (fi++args.toList.map (ev T)++ca)=av:=by first|rfl|assumption|fail):AOp P N k ⟨dst,.call { callee:=.value fv,args:=args,argTypes:=ts },ty,pos,af,gd⟩ T' σ R:=
 AOp.cS hT hf hc has fun y obs ⟨hy,ho⟩=>by rw [hy,ho];exact h
theorem RetQ.fr{n:Nat}{rs:List ResultVar}{R:V→List Ob→Prop}(m:Nat){xs:List V}(h1:resV P σ T rs=some xs:=by rfl)(h2:n≤m:=by first|exact Nat.le_of_ble_eq_true rfl|fail)(h3:obsLt m (σ.take m)=true:=by rfl)
 (h4:(fz σ m (one1 xs)).lt m=true:=by first|rfl|(simp only [go_sem,↓reduceIte,Nat.reduceLT,Nat.lt_irrefl])|fail) (h5:R (fz σ m (one1 xs)) (σ.take m):=by first|(refine ⟨?_,?_⟩<;>first|rfl|(simp [*];done)|((simp only [go_sem,↓reduceIte,Nat.reduceLT];(repeat' split))<;>first|rfl|(exfalso;omega)|(simp_all;done)|(simp_all;omega)))|fail) :
 RetQ P n rs R .ret T σ:=⟨xs,m,h1,h2,h3,h4,h5⟩
theorem RetQ.fn{n:Nat}{rs:List ResultVar}{R:V→List Ob→Prop}(m:Nat){xs:List V}(h1:resV P σ T rs=some xs:=by rfl)(h2:n≤m:=by first|exact Nat.le_of_ble_eq_true rfl|fail)(h3:obsLt m (σ.take m)=true:=by rfl)
 (h4:(fz σ m (one1 xs)).lt m=true:=by first|rfl|(simp only [go_sem,↓reduceIte,Nat.reduceLT,Nat.lt_irrefl])|fail) (h5:R (fz σ m (one1 xs)) (σ.take m):=by first|(refine ⟨?_,?_⟩<;>first|rfl|(simp [*];done)|((simp only [go_sem,↓reduceIte,Nat.reduceLT];(repeat' split))<;>first|rfl|(exfalso;omega)|(simp_all;done)|(simp_all;omega)))|fail) :
 RetQ P n rs R .normal T σ:=⟨xs,m,h1,h2,h3,h4,h5⟩
theorem RetQ.xr{n:Nat}{rs:List ResultVar}{R:V→List Ob→Prop}(m:Nat){xs:List V}(h1:resV P σ T rs=some xs:=by rfl)(h2:n≤m:=by first|exact Nat.le_of_ble_eq_true rfl|fail)(h3:obsLt m (σ.take m)=true:=by rfl)
 (h4:(fz σ m (one1 xs)).lt m=true:=by first|rfl|(simp only [go_sem,↓reduceIte,Nat.reduceLT,Nat.lt_irrefl])|fail) (h5:R (fz σ m (one1 xs)) (σ.take m):=by first|(refine ⟨?_,?_⟩<;>first|rfl|(simp [kxf, *];done)|((simp only [go_sem,↓reduceIte,Nat.reduceLT,kxf];(repeat' split))<;>first|rfl|(exfalso;omega)|(simp_all;done)|(simp_all;omega)))|fail) :
 RetQ P n rs R .ret T σ:=⟨xs,m,h1,h2,h3,h4,h5⟩
theorem RetQ.xn{n:Nat}{rs:List ResultVar}{R:V→List Ob→Prop}(m:Nat){xs:List V}(h1:resV P σ T rs=some xs:=by rfl)(h2:n≤m:=by first|exact Nat.le_of_ble_eq_true rfl|fail)(h3:obsLt m (σ.take m)=true:=by rfl)
 (h4:(fz σ m (one1 xs)).lt m=true:=by first|rfl|(simp only [go_sem,↓reduceIte,Nat.reduceLT,Nat.lt_irrefl])|fail) (h5:R (fz σ m (one1 xs)) (σ.take m):=by first|(refine ⟨?_,?_⟩<;>first|rfl|(simp [kxf, *];done)|((simp only [go_sem,↓reduceIte,Nat.reduceLT,kxf];(repeat' split))<;>first|rfl|(exfalso;omega)|(simp_all;done)|(simp_all;omega)))|fail) :
 RetQ P n rs R .normal T σ:=⟨xs,m,h1,h2,h3,h4,h5⟩
theorem RetQ.zr{n:Nat}{rs:List ResultVar}{R:V→List Ob→Prop}(m:Nat){xs:List V}(h1:resV P σ T rs=some xs:=by rfl)(h2:n≤m:=by first|exact Nat.le_of_ble_eq_true rfl|fail)(h3:obsLt m (σ.take m)=true:=by rfl)
 (h4:(fz σ m (one1 xs)).lt m=true:=by first|rfl|(simp only [go_sem,Nat.lt_irrefl])|fail) (h5:R (fz σ m (one1 xs)) (σ.take m):=by first|exact ⟨rfl,rfl⟩|fail) :
 RetQ P n rs R .ret T σ:=⟨xs,m,h1,h2,h3,h4,h5⟩
theorem RetQ.zn{n:Nat}{rs:List ResultVar}{R:V→List Ob→Prop}(m:Nat){xs:List V}(h1:resV P σ T rs=some xs:=by rfl)(h2:n≤m:=by first|exact Nat.le_of_ble_eq_true rfl|fail)(h3:obsLt m (σ.take m)=true:=by rfl)
 (h4:(fz σ m (one1 xs)).lt m=true:=by first|rfl|(simp only [go_sem,Nat.lt_irrefl])|fail) (h5:R (fz σ m (one1 xs)) (σ.take m):=by first|exact ⟨rfl,rfl⟩|fail) :
 RetQ P n rs R .normal T σ:=⟨xs,m,h1,h2,h3,h4,h5⟩
end
theorem xf{p:Prop}(h:False:=by first|omega|contradiction|fail):p:=h.elim
theorem hsN:((!true)=false)∧((!false)=true):=⟨rfl,rfl⟩
theorem kxs:987654321=987654320+1:=rfl
theorem fx{p:Prop}(h:p:=by first|rfl|(simp [*];done)|((simp only [go_sem,↓reduceIte,Nat.reduceLT];(repeat' split))<;>first|rfl|(exfalso;omega)|(simp_all;done)|(simp_all;omega))|fail):p:=h
theorem RetQ.yr{P:Program}{σ:List Ob}{T:Tm}{n:Nat}{rs:List ResultVar}{R:V→List Ob→Prop}(m:Nat){xs:List V}(h5:R (fz σ m (one1 xs)) (σ.take m))(h1:resV P σ T rs=some xs:=by rfl)(h2:n≤m:=by exact Nat.le_of_ble_eq_true rfl)(h3:obsLt m (σ.take m)=true:=by rfl)(h4:(fz σ m (one1 xs)).lt m=true:=by first|rfl|(simp only [go_sem,↓reduceIte,Nat.reduceLT,Nat.lt_irrefl])|fail):RetQ P n rs R .ret T σ:=⟨xs,m,h1,h2,h3,h4,h5⟩
theorem RetQ.yn{P:Program}{σ:List Ob}{T:Tm}{n:Nat}{rs:List ResultVar}{R:V→List Ob→Prop}(m:Nat){xs:List V}(h5:R (fz σ m (one1 xs)) (σ.take m))(h1:resV P σ T rs=some xs:=by rfl)(h2:n≤m:=by exact Nat.le_of_ble_eq_true rfl)(h3:obsLt m (σ.take m)=true:=by rfl)(h4:(fz σ m (one1 xs)).lt m=true:=by first|rfl|(simp only [go_sem,↓reduceIte,Nat.reduceLT,Nat.lt_irrefl])|fail):RetQ P n rs R .normal T σ:=⟨xs,m,h1,h2,h3,h4,h5⟩
theorem xg{p:Prop}(h:False:=by first|omega|(simp_all;done)|fail):p:=h.elim
theorem AC.wk{P:Program}{σ:List Ob}{f:FuncId}{fn:Func}{c:Code}{args:List V}{R:V→List Ob→Prop}(hf:P.funcs[f]? = some fn)(h:AW P fn.ntmps σ.length c (RetQ P σ.length fn.results.toList R) (ent 0 args) σ)(hb:fn.body=some c:=by rfl)(hname:fn.name≠ "runtime.NumGoroutine":=by decide)(hN:args.length≤fn.ntmps:=by exact of_decide_eq_true rfl):AC P f args σ R:=AC.walk hf hb hname hN h
theorem hsB:(∀ (p:Prop) [Decidable p],(decide p=true)=p)∧(∀ (p:Prop) [Decidable p],(decide p=false)=¬ p)∧((false=true)=False)∧((true=false)=False)∧(∀ b,((!b)=true)=(b=false))∧(∀ b,((!b)=false)=(b=true))∧
  (∀ b c,((!b)=c)=(b=!c))∧((!true)=false)∧((!false)=true)∧(∀ b c,((b&&c)=true)=(b=true∧c=true))∧(∀ b c,((b||c)=true)=(b=true∨c=true))∧(∀ b c,((b&&c)=false)=(b=false∨c=false))∧(∀ b c,((b||c)=false)=(b=false∧c=false)):=by
 refine ⟨fun p _=>by simp,fun p _=>by simp,by simp,by simp,by simp,by simp,fun b c=>by cases b<;>cases c<;>simp,rfl,rfl,fun b c=>by simp,fun b c=>by simp,fun b c=>by cases b<;>cases c<;>simp,fun b c=>by cases b<;>cases c<;>simp⟩
theorem CK{p q:Prop}(hq:q)(h:Bx q→p:=by intro zq;first|exact AOp.u kk1 zq.out|exact AOp.u kk2 zq.out|exact AOp.u kk3 zq.out|exact AOp.u kk4 zq.out|exact AOp.u kk5 zq.out|exact AOp.u kk6 zq.out|exact AOp.u kk7 zq.out|exact AOp.u kk8 zq.out|exact AOp.u kk9 zq.out|exact AOp.u kk10 zq.out|exact AOp.u kk11 zq.out|exact AOp.u kk12 zq.out|exact AOp.u kk13 zq.out|exact AOp.u kk14 zq.out|exact AOp.u kk15 zq.out|exact AOp.u kk16 zq.out|exact AOp.u kk17 zq.out|exact AOp.u kk18 zq.out|exact AOp.u kk19 zq.out|exact AOp.u kk20 zq.out|exact AOp.u (kua1 _) zq.out|exact AOp.u (kub1 _ _) zq.out|exact AOp.u (kuc1 _ _ _) zq.out|exact AOp.u (kud1 _ _ _ _) zq.out|exact AOp.u (kue1 _ _ _ _ _) zq.out|exact AOp.u (kua2 _) zq.out|exact AOp.u (kub2 _ _) zq.out|exact AOp.u (kuc2 _ _ _) zq.out|exact AOp.u (kud2 _ _ _ _) zq.out|exact AOp.u (kue2 _ _ _ _ _) zq.out|exact AOp.u (kua3 _) zq.out|exact AOp.u (kub3 _ _) zq.out|exact AOp.u (kuc3 _ _ _) zq.out|exact AOp.u (kud3 _ _ _ _) zq.out|exact AOp.u (kue3 _ _ _ _ _) zq.out|exact AOp.u (kua4 _) zq.out|exact AOp.u (kub4 _ _) zq.out|exact AOp.u (kuc4 _ _ _) zq.out|exact AOp.u (kud4 _ _ _ _) zq.out|exact AOp.u (kue4 _ _ _ _ _) zq.out|exact AOp.u (kpa1 (by omega)) zq.out|exact AOp.u (kpb1 (by omega) (by omega)) zq.out|exact AOp.u (kpc1 (by omega) (by omega) (by omega)) zq.out|exact AOp.u (kpa2 (by omega)) zq.out|exact AOp.u (kpb2 (by omega) (by omega)) zq.out|exact AOp.u (kpc2 (by omega) (by omega) (by omega)) zq.out|exact AOp.u (kpa3 (by omega)) zq.out|exact AOp.u (kpb3 (by omega) (by omega)) zq.out|exact AOp.u (kpc3 (by omega) (by omega) (by omega)) zq.out|exact AOp.u (kpa4 (by omega)) zq.out|exact AOp.u (kpb4 (by omega) (by omega)) zq.out|exact AOp.u (kpc4 (by omega) (by omega) (by omega)) zq.out|exact AOp.uL kk1 zq.out|exact AOp.uS kk1 zq.out|exact AOp.uL kk2 zq.out|exact AOp.uS kk2 zq.out|exact AOp.uL kk3 zq.out|exact AOp.uS kk3 zq.out|exact AOp.uL kk4 zq.out|exact AOp.uS kk4 zq.out|exact AOp.uL kk5 zq.out|exact AOp.uS kk5 zq.out|exact AOp.uL kk6 zq.out|exact AOp.uS kk6 zq.out|exact AOp.uL kk7 zq.out|exact AOp.uS kk7 zq.out|exact AOp.uL kk8 zq.out|exact AOp.uS kk8 zq.out|exact AOp.uL kk9 zq.out|exact AOp.uS kk9 zq.out|exact AOp.uL kk10 zq.out|exact AOp.uS kk10 zq.out|exact AOp.uL kk11 zq.out|exact AOp.uS kk11 zq.out|exact AOp.uL kk12 zq.out|exact AOp.uS kk12 zq.out|exact AOp.uL kk13 zq.out|exact AOp.uS kk13 zq.out|exact AOp.uL kk14 zq.out|exact AOp.uS kk14 zq.out|exact AOp.uL kk15 zq.out|exact AOp.uS kk15 zq.out|exact AOp.uL kk16 zq.out|exact AOp.uS kk16 zq.out|exact AOp.uL kk17 zq.out|exact AOp.uS kk17 zq.out|exact AOp.uL kk18 zq.out|exact AOp.uS kk18 zq.out|exact AOp.uL kk19 zq.out|exact AOp.uS kk19 zq.out|exact AOp.uL kk20 zq.out|exact AOp.uS kk20 zq.out|fail):p:=h ⟨hq⟩
theorem G{p q:Prop}(hq:q)(h:Bx q→p:=by
 intro zq;first
  | ((first|refine AL.callv (by decide) fun Kr hr=>?_|refine AL.callv0 fun Kr hr=>?_|refine AL.g1v (by decide) rfl fun Kr hr=>?_);refine CK ?_;(try simp only [ao,List.map_cons,List.map_nil]);(try simp (disch:=omega) only [go_sem,kxs]);(repeat first|refine ⟨by first|omega|assumption|rfl|(simp only [List.length_take,List.length_drop,List.length_append,List.length_cons,List.length_nil,List.length_map];omega),?_⟩);refine hr _ _ ?_;exact zq.out)
  | ((first|refine AL.one (by decide) fun Kr hr=>?_|refine AL.one0 fun Kr hr=>?_);(try simp only [ao,List.map_cons,List.map_nil]);(try simp (disch:=omega) only [go_sem,kxs]);(repeat first|refine ⟨by first|omega|assumption|rfl|(simp only [List.length_take,List.length_drop,List.length_append,List.length_cons,List.length_nil,List.length_map];omega),?_⟩);refine hr _ _ ?_;exact zq.out)
  | exact AL.nil zq.out
  | exact AW.seq' zq.out
  | exact AW.region zq.out
  | exact AW.block zq.out
  | exact AW.skip zq.out
  | exact AW.exit zq.out
  | exact thenQ_n zq.out
  | exact thenQ_r zq.out
  | exact thenQ_e zq.out
  | exact blockQ_n zq.out
  | exact blockQ_r zq.out
  | exact blockQ_e zq.out
  | exact blockQ_o (by decide) zq.out
  | exact AL.gt (by decide) rfl zq.out
  | exact AL.g0 (by decide) rfl (by decide) zq.out
  | (refine AL.g1 (by decide) rfl fun Kr hr=>?_;(try simp only [ao,List.map_cons,List.map_nil]);(try simp (disch:=omega) only [go_sem,kxs]);(repeat first|refine ⟨by first|omega|assumption|rfl|(simp only [List.length_take,List.length_drop,List.length_append,List.length_cons,List.length_nil,List.length_map];omega),?_⟩);refine hr _ _ ?_;exact zq.out)
  | fail):p:=h ⟨hq⟩
theorem GF{p q:Prop}(hq:q)(h:Bx q→p:=by
 intro zq;first
  | ((first|refine AL.callv (by decide) fun Kr hr=>?_|refine AL.callv0 fun Kr hr=>?_|refine AL.g1v (by decide) rfl fun Kr hr=>?_);refine CK ?_;(try simp only [ao,List.map_cons,List.map_nil]);(try simp (disch:=omega) only [go_sem,kxs]);(repeat first|(refine ⟨_,bsD_nums _,by simp only [List.length_map],?_⟩;simp only [strOfNums_bs])|(refine ⟨[_],rfl,rfl,?_⟩;simp only [strOfNums_one,UInt8.ofNat_toNat,Int.toNat_natCast])|refine ⟨by first|omega|assumption|rfl|(simp only [List.length_take,List.length_drop,List.length_append,List.length_cons,List.length_nil,List.length_map];omega),?_⟩);refine hr _ _ ?_;exact zq.out)
  | ((first|refine AL.one (by decide) fun Kr hr=>?_|refine AL.one0 fun Kr hr=>?_);(try simp only [ao,List.map_cons,List.map_nil]);(try simp (disch:=omega) only [go_sem,kxs]);(repeat first|(refine ⟨_,bsD_nums _,by simp only [List.length_map],?_⟩;simp only [strOfNums_bs])|(refine ⟨[_],rfl,rfl,?_⟩;simp only [strOfNums_one,UInt8.ofNat_toNat,Int.toNat_natCast])|refine ⟨by first|omega|assumption|rfl|(simp only [List.length_take,List.length_drop,List.length_append,List.length_cons,List.length_nil,List.length_map];omega),?_⟩);refine hr _ _ ?_;exact zq.out)
  | exact AL.nil zq.out
  | exact AW.seq' zq.out
  | exact AW.region zq.out
  | exact AW.block zq.out
  | exact AW.skip zq.out
  | exact AW.exit zq.out
  | exact thenQ_n zq.out
  | exact thenQ_r zq.out
  | exact thenQ_e zq.out
  | exact blockQ_n zq.out
  | exact blockQ_r zq.out
  | exact blockQ_e zq.out
  | exact blockQ_o (by decide) zq.out
  | exact AL.gt (by decide) rfl zq.out
  | exact AL.g0 (by decide) rfl (by decide) zq.out
  | (refine AL.g1 (by decide) rfl fun Kr hr=>?_;(try simp only [ao,List.map_cons,List.map_nil]);(try simp (disch:=omega) only [go_sem,kxs]);(repeat first|(refine ⟨_,bsD_nums _,by simp only [List.length_map],?_⟩;simp only [strOfNums_bs])|(refine ⟨[_],rfl,rfl,?_⟩;simp only [strOfNums_one,UInt8.ofNat_toNat,Int.toNat_natCast])|refine ⟨by first|omega|assumption|rfl|(simp only [List.length_take,List.length_drop,List.length_append,List.length_cons,List.length_nil,List.length_map];omega),?_⟩);refine hr _ _ ?_;exact zq.out)
  | fail):p:=h ⟨hq⟩
theorem GO{p q:Prop}(hq:q)(h:Bx q→p:=by
 intro zq;first
  | ((first|refine AL.callv (by decide) fun Kr hr=>?_|refine AL.callv0 fun Kr hr=>?_|refine AL.g1v (by decide) rfl fun Kr hr=>?_);refine CK ?_;(try simp only [ao,List.map_cons,List.map_nil]);(try simp (disch:=omega) only [go_sem,kxs]);(repeat first|refine ⟨by first|omega|assumption|rfl|(simp only [List.length_take,List.length_drop,List.length_append,List.length_cons,List.length_nil,List.length_map];omega),?_⟩);refine hr _ _ ?_;exact zq.out)
  | ((first|refine AL.one (by decide) fun Kr hr=>?_|refine AL.one0 fun Kr hr=>?_);(try simp only [ao,List.map_cons,List.map_nil]);(try simp (disch:=omega) only [go_sem,kxs]);(repeat first|refine ⟨by first|omega|assumption|rfl|(simp only [List.length_take,List.length_drop,List.length_append,List.length_cons,List.length_nil,List.length_map];omega),?_⟩);refine hr _ _ ?_;exact zq.out)
  | exact AL.nil zq.out
  | exact AW.seq' zq.out
  | exact AW.region zq.out
  | exact AW.block zq.out
  | exact AW.skip zq.out
  | exact AW.exit zq.out
  | exact thenQ_n zq.out
  | exact thenQ_r zq.out
  | exact thenQ_e zq.out
  | exact blockQ_n zq.out
  | exact blockQ_r zq.out
  | exact blockQ_e zq.out
  | exact blockQ_o (by decide) zq.out
  | exact AW.draw T.mixed (by kernel_rfl) zq.out
  | ((first|refine ADr.gc ?_ (by decide) (by first|assumption|rfl) ?_ ?_|refine ADr.c ?_ (by decide) ?_ ?_);rotate_left 1;(focus ((repeat' (first|exact trivial|refine And.intro ?_ ?_))<;>(intro Kr hr;(try simp only [ao,List.map_cons,List.map_nil]);(try simp (disch:=omega) only [go_sem,kxs]);(repeat first|refine ⟨by first|omega|assumption|rfl|(simp only [List.length_take,List.length_drop,List.length_append,List.length_cons,List.length_nil,List.length_map];omega),?_⟩);exact hr)));exact zq.out)
  | ((first|refine ADr.ccv ?_ (by decide) ?_ ?_|refine ADr.gccv ?_ (by decide) (by first|assumption|rfl) ?_ ?_);rotate_left 1;(focus ((repeat' (first|exact trivial|refine And.intro ?_ ?_))<;>(intro Kr hr;(try refine CK ?_);(try simp only [ao,List.map_cons,List.map_nil]);(try simp (disch:=omega) only [go_sem,kxs]);(repeat first|refine ⟨by first|omega|assumption|rfl|(simp only [List.length_take,List.length_drop,List.length_append,List.length_cons,List.length_nil,List.length_map];omega),?_⟩);exact hr)));exact zq.out)
  | exact ADr.gt (by decide) rfl zq.out
  | exact ADr.gs (by decide) rfl (by decide) zq.out
  | exact AL.gt (by decide) rfl zq.out
  | exact AL.g0 (by decide) rfl (by decide) zq.out
  | (refine AL.g1 (by decide) rfl fun Kr hr=>?_;(try simp only [ao,List.map_cons,List.map_nil]);(try simp (disch:=omega) only [go_sem,kxs]);(repeat first|refine ⟨by first|omega|assumption|rfl|(simp only [List.length_take,List.length_drop,List.length_append,List.length_cons,List.length_nil,List.length_map];omega),?_⟩);refine hr _ _ ?_;exact zq.out)
  | fail):p:=h ⟨hq⟩
theorem GOF{p q:Prop}(hq:q)(h:Bx q→p:=by
 intro zq;first
  | ((first|refine AL.callv (by decide) fun Kr hr=>?_|refine AL.callv0 fun Kr hr=>?_|refine AL.g1v (by decide) rfl fun Kr hr=>?_);refine CK ?_;(try simp only [ao,List.map_cons,List.map_nil]);(try simp (disch:=omega) only [go_sem,kxs]);(repeat first|(refine ⟨_,bsD_nums _,by simp only [List.length_map],?_⟩;simp only [strOfNums_bs])|(refine ⟨[_],rfl,rfl,?_⟩;simp only [strOfNums_one,UInt8.ofNat_toNat,Int.toNat_natCast])|refine ⟨by first|omega|assumption|rfl|(simp only [List.length_take,List.length_drop,List.length_append,List.length_cons,List.length_nil,List.length_map];omega),?_⟩);refine hr _ _ ?_;exact zq.out)
  | ((first|refine AL.one (by decide) fun Kr hr=>?_|refine AL.one0 fun Kr hr=>?_);(try simp only [ao,List.map_cons,List.map_nil]);(try simp (disch:=omega) only [go_sem,kxs]);(repeat first|(refine ⟨_,bsD_nums _,by simp only [List.length_map],?_⟩;simp only [strOfNums_bs])|(refine ⟨[_],rfl,rfl,?_⟩;simp only [strOfNums_one,UInt8.ofNat_toNat,Int.toNat_natCast])|refine ⟨by first|omega|assumption|rfl|(simp only [List.length_take,List.length_drop,List.length_append,List.length_cons,List.length_nil,List.length_map];omega),?_⟩);refine hr _ _ ?_;exact zq.out)
  | exact AL.nil zq.out
  | exact AW.seq' zq.out
  | exact AW.region zq.out
  | exact AW.block zq.out
  | exact AW.skip zq.out
  | exact AW.exit zq.out
  | exact thenQ_n zq.out
  | exact thenQ_r zq.out
  | exact thenQ_e zq.out
  | exact blockQ_n zq.out
  | exact blockQ_r zq.out
  | exact blockQ_e zq.out
  | exact blockQ_o (by decide) zq.out
  | exact AW.draw T.mixed (by kernel_rfl) zq.out
  | ((first|refine ADr.gc ?_ (by decide) (by first|assumption|rfl) ?_ ?_|refine ADr.c ?_ (by decide) ?_ ?_);rotate_left 1;(focus ((repeat' (first|exact trivial|refine And.intro ?_ ?_))<;>(intro Kr hr;(try simp only [ao,List.map_cons,List.map_nil]);(try simp (disch:=omega) only [go_sem,kxs]);(repeat first|(refine ⟨_,bsD_nums _,by simp only [List.length_map],?_⟩;simp only [strOfNums_bs])|(refine ⟨[_],rfl,rfl,?_⟩;simp only [strOfNums_one,UInt8.ofNat_toNat,Int.toNat_natCast])|refine ⟨by first|omega|assumption|rfl|(simp only [List.length_take,List.length_drop,List.length_append,List.length_cons,List.length_nil,List.length_map];omega),?_⟩);exact hr)));exact zq.out)
  | ((first|refine ADr.ccv ?_ (by decide) ?_ ?_|refine ADr.gccv ?_ (by decide) (by first|assumption|rfl) ?_ ?_);rotate_left 1;(focus ((repeat' (first|exact trivial|refine And.intro ?_ ?_))<;>(intro Kr hr;(try refine CK ?_);(try simp only [ao,List.map_cons,List.map_nil]);(try simp (disch:=omega) only [go_sem,kxs]);(repeat first|(refine ⟨_,bsD_nums _,by simp only [List.length_map],?_⟩;simp only [strOfNums_bs])|(refine ⟨[_],rfl,rfl,?_⟩;simp only [strOfNums_one,UInt8.ofNat_toNat,Int.toNat_natCast])|refine ⟨by first|omega|assumption|rfl|(simp only [List.length_take,List.length_drop,List.length_append,List.length_cons,List.length_nil,List.length_map];omega),?_⟩);exact hr)));exact zq.out)
  | exact ADr.gt (by decide) rfl zq.out
  | exact ADr.gs (by decide) rfl (by decide) zq.out
  | exact AL.gt (by decide) rfl zq.out
  | exact AL.g0 (by decide) rfl (by decide) zq.out
  | (refine AL.g1 (by decide) rfl fun Kr hr=>?_;(try simp only [ao,List.map_cons,List.map_nil]);(try simp (disch:=omega) only [go_sem,kxs]);(repeat first|(refine ⟨_,bsD_nums _,by simp only [List.length_map],?_⟩;simp only [strOfNums_bs])|(refine ⟨[_],rfl,rfl,?_⟩;simp only [strOfNums_one,UInt8.ofNat_toNat,Int.toNat_natCast])|refine ⟨by first|omega|assumption|rfl|(simp only [List.length_take,List.length_drop,List.length_append,List.length_cons,List.length_nil,List.length_map];omega),?_⟩);refine hr _ _ ?_;exact zq.out)
  | fail):p:=h ⟨hq⟩
theorem GW{p q:Prop}(hq:q)(h:Bx q→p:=by
 intro zq;first
  | ((first|refine AL.callv (by decide) fun Kr hr=>?_|refine AL.callv0 fun Kr hr=>?_|refine AL.g1v (by decide) rfl fun Kr hr=>?_);refine CK ?_;(try simp only [ao,List.map_cons,List.map_nil]);(try simp (disch:=omega) only [go_sem,kxs]);(repeat first|refine ⟨by first|omega|assumption|rfl|(simp only [List.length_take,List.length_drop,List.length_append,List.length_cons,List.length_nil,List.length_map];omega),?_⟩);refine hr _ _ ?_;exact zq.out)
  | ((first|refine AL.one (by decide) fun Kr hr=>?_|refine AL.one0 fun Kr hr=>?_);(try simp only [ao,List.map_cons,List.map_nil]);(try simp (disch:=omega) only [go_sem,kxs]);(repeat first|refine ⟨by first|omega|assumption|rfl|(simp only [List.length_take,List.length_drop,List.length_append,List.length_cons,List.length_nil,List.length_map];omega),?_⟩);refine hr _ _ ?_;exact zq.out)
  | exact AL.nil zq.out
  | exact AW.seq' zq.out
  | exact AW.region zq.out
  | exact AW.block zq.out
  | exact AW.skip zq.out
  | exact AW.exit zq.out
  | exact thenQ_n zq.out
  | exact thenQ_r zq.out
  | exact thenQ_e zq.out
  | exact blockQ_n zq.out
  | exact blockQ_r zq.out
  | exact blockQ_e zq.out
  | exact blockQ_o (by decide) zq.out
  | exact AW.draw T.mixed (by kernel_rfl) zq.out
  | ((first|refine ADr.gcw ?_ (by decide) (by first|assumption|rfl) (by decide +kernel) ?_ ?_|refine ADr.cw ?_ (by decide) (by decide +kernel) ?_ ?_);rotate_left 1;(focus (intro Kr hr;(try simp only [ao,List.map_cons,List.map_nil]);(try simp (disch:=omega) only [go_sem,kxs]);(repeat first|refine ⟨by first|omega|assumption|rfl|(simp only [List.length_take,List.length_drop,List.length_append,List.length_cons,List.length_nil,List.length_map];omega),?_⟩);exact hr));exact zq.out)
  | ((first|refine ADr.ccw ?_ (by decide) (by decide +kernel) ?_ ?_|refine ADr.gccw ?_ (by decide) (by first|assumption|rfl) (by decide +kernel) ?_ ?_);rotate_left 1;(focus (intro Kr hr;(try refine CK ?_);(try simp only [ao,List.map_cons,List.map_nil]);(try simp (disch:=omega) only [go_sem,kxs]);(repeat first|refine ⟨by first|omega|assumption|rfl|(simp only [List.length_take,List.length_drop,List.length_append,List.length_cons,List.length_nil,List.length_map];omega),?_⟩);exact hr));exact zq.out)
  | ((first|refine ADr.gl ?_ (by decide) (by first|assumption|rfl) (by decide +kernel) ?_ ?_|refine ADr.l ?_ (by decide) (by decide +kernel) ?_ ?_);rotate_left 1;(focus ((repeat' (first|exact trivial|refine And.intro ?_ ?_))<;>(intro Kr hr;(try simp only [ao,List.map_cons,List.map_nil]);(try simp (disch:=omega) only [go_sem,kxs]);(repeat first|refine ⟨by first|omega|assumption|rfl|(simp only [List.length_take,List.length_drop,List.length_append,List.length_cons,List.length_nil,List.length_map];omega),?_⟩);exact hr)));exact zq.out)
  | ((first|refine ADr.gc ?_ (by decide) (by first|assumption|rfl) ?_ ?_|refine ADr.c ?_ (by decide) ?_ ?_);rotate_left 1;(focus ((repeat' (first|exact trivial|refine And.intro ?_ ?_))<;>(intro Kr hr;(try simp only [ao,List.map_cons,List.map_nil]);(try simp (disch:=omega) only [go_sem,kxs]);(repeat first|refine ⟨by first|omega|assumption|rfl|(simp only [List.length_take,List.length_drop,List.length_append,List.length_cons,List.length_nil,List.length_map];omega),?_⟩);exact hr)));exact zq.out)
  | ((first|refine ADr.ccv ?_ (by decide) ?_ ?_|refine ADr.gccv ?_ (by decide) (by first|assumption|rfl) ?_ ?_);rotate_left 1;(focus ((repeat' (first|exact trivial|refine And.intro ?_ ?_))<;>(intro Kr hr;(try refine CK ?_);(try simp only [ao,List.map_cons,List.map_nil]);(try simp (disch:=omega) only [go_sem,kxs]);(repeat first|refine ⟨by first|omega|assumption|rfl|(simp only [List.length_take,List.length_drop,List.length_append,List.length_cons,List.length_nil,List.length_map];omega),?_⟩);exact hr)));exact zq.out)
  | exact ADr.gt (by decide) rfl zq.out
  | exact ADr.gs (by decide) rfl (by decide) zq.out
  | exact AL.gt (by decide) rfl zq.out
  | exact AL.g0 (by decide) rfl (by decide) zq.out
  | (refine AL.g1 (by decide) rfl fun Kr hr=>?_;(try simp only [ao,List.map_cons,List.map_nil]);(try simp (disch:=omega) only [go_sem,kxs]);(repeat first|refine ⟨by first|omega|assumption|rfl|(simp only [List.length_take,List.length_drop,List.length_append,List.length_cons,List.length_nil,List.length_map];omega),?_⟩);refine hr _ _ ?_;exact zq.out)
  | ((first|refine ADr.ecv ?_ ?_ (by decide) rfl ?_ ?_ ?_|refine ADr.ecv0 ?_ ?_ rfl ?_ ?_ ?_|refine ADr.gecv ?_ ?_ (by decide) (by first|assumption|rfl) rfl ?_ ?_ ?_);rotate_left 2;(focus (intro Kr hr;(try refine CK ?_);(try simp only [ao,List.map_cons,List.map_nil]);(try simp (disch:=omega) only [go_sem,kxs]);(repeat first|refine ⟨by first|omega|assumption|rfl|(simp only [List.length_take,List.length_drop,List.length_append,List.length_cons,List.length_nil,List.length_map];omega),?_⟩);exact hr));(focus ((repeat' (first|exact trivial|refine And.intro ?_ ?_))<;>(first|exact Or.inl (by dsimp only;decide +kernel)|(refine Or.inr ?_;(intro Kr hr;(try refine CK ?_);(try simp only [ao,List.map_cons,List.map_nil]);(try simp (disch:=omega) only [go_sem,kxs]);(repeat first|refine ⟨by first|omega|assumption|rfl|(simp only [List.length_take,List.length_drop,List.length_append,List.length_cons,List.length_nil,List.length_map];omega),?_⟩);exact hr))|fail)));exact zq.out)
  | ((first|refine ADr.e ?_ ?_ (by decide) rfl ?_ ?_ ?_|refine ADr.e0 ?_ ?_ rfl ?_ ?_ ?_|refine ADr.la ?_ ?_ (by decide) rfl (by decide +kernel) ?_ ?_ ?_);rotate_left 2;(focus (intro Kr hr;(try refine CK ?_);(try simp only [ao,List.map_cons,List.map_nil]);(try simp (disch:=omega) only [go_sem,kxs]);(repeat first|refine ⟨by first|omega|assumption|rfl|(simp only [List.length_take,List.length_drop,List.length_append,List.length_cons,List.length_nil,List.length_map];omega),?_⟩);exact hr));(focus ((repeat' (first|exact trivial|refine And.intro ?_ ?_))<;>(first|exact Or.inl (by dsimp only;decide +kernel)|(refine Or.inr ?_;(intro Kr hr;(try refine CK ?_);(try simp only [ao,List.map_cons,List.map_nil]);(try simp (disch:=omega) only [go_sem,kxs]);(repeat first|refine ⟨by first|omega|assumption|rfl|(simp only [List.length_take,List.length_drop,List.length_append,List.length_cons,List.length_nil,List.length_map];omega),?_⟩);exact hr))|fail)));exact zq.out)
  | fail):p:=h ⟨hq⟩
theorem GC{p q r:Prop}(hq:q)(hr:r)(h:Bx q→Bx r→p:=by intro zq zr;first|exact AW.cond rfl zq.out zr.out|fail):p:=h ⟨hq⟩ ⟨hr⟩
theorem GL{p q r:Prop}(hq:q)(hr:r)(h:Bx q→Bx r→p:=by intro zq zr;first|exact AL.g (by decide) rfl zq.out zr.out|fail):p:=h ⟨hq⟩ ⟨hr⟩
theorem GD{p q r:Prop}(hq:q)(hr:r)(h:Bx q→Bx r→p:=by intro zq zr;first|exact ADr.gb (by decide) rfl zq.out zr.out|fail):p:=h ⟨hq⟩ ⟨hr⟩
theorem Wb0{p:Prop}(h:p:=by (repeat' (first|(refine ADr.nil ?_;try clear hgv)|refine GOF ?_|refine AW.ret ?_|(refine GC ?_ ?_<;>intro h<;>(try simp only [hsB] at h)<;>try exact xf)|(refine GD ?_ ?_<;>intro h<;>(try intro hgv)<;>(try simp only [hsN] at h)<;>(try simp only [h])<;>(try simp only [hsB] at h)<;>try exact xf)|(refine GL ?_ ?_<;>intro h<;>(try simp only [hsN] at h)<;>(try simp only [h])<;>(try simp only [hsB] at h)<;>try exact xf)|fail));(all_goals first|exact RetQ.fr 0|exact RetQ.fn 0|(exfalso;omega)|(exfalso;simp_all;done)|fail)):p:=h
theorem Wb1{p:Prop}(h:p:=by (repeat' (first|(refine ADr.nil ?_;try clear hgv)|refine GOF ?_|refine AW.ret ?_|(refine GC ?_ ?_<;>intro h<;>(try simp only [hsB] at h)<;>try exact xf)|(refine GD ?_ ?_<;>intro h<;>(try intro hgv)<;>(try simp only [hsN] at h)<;>(try simp only [h])<;>(try simp only [hsB] at h)<;>try exact xf)|(refine GL ?_ ?_<;>intro h<;>(try simp only [hsN] at h)<;>(try simp only [h])<;>(try simp only [hsB] at h)<;>try exact xf)|fail));(all_goals first|exact RetQ.fr 1|exact RetQ.fn 1|(exfalso;omega)|(exfalso;simp_all;done)|fail)):p:=h
theorem Wd0{p:Prop}(h:p:=by (repeat' (first|refine G ?_|refine AW.ret ?_|(refine GC ?_ ?_<;>intro h<;>(try simp only [hsB] at h)<;>try exact xf)|(refine GL ?_ ?_<;>intro h<;>(try simp only [hsN] at h)<;>(try simp only [h])<;>(try simp only [hsB] at h)<;>try exact xf)|fail));(all_goals first|exact RetQ.fr 0|exact RetQ.fn 0|(exfalso;omega)|(exfalso;simp_all;done)|fail)):p:=h
theorem Wd1{p:Prop}(h:p:=by (repeat' (first|refine G ?_|refine AW.ret ?_|(refine GC ?_ ?_<;>intro h<;>(try simp only [hsB] at h)<;>try exact xf)|(refine GL ?_ ?_<;>intro h<;>(try simp only [hsN] at h)<;>(try simp only [h])<;>(try simp only [hsB] at h)<;>try exact xf)|fail));(all_goals first|exact RetQ.fr 1|exact RetQ.fn 1|(exfalso;omega)|(exfalso;simp_all;done)|fail)):p:=h
theorem Wd11{p:Prop}(h:p:=by (repeat' (first|refine G ?_|refine AW.ret ?_|(refine GC ?_ ?_<;>intro h<;>(try simp only [hsB] at h)<;>try exact xf)|(refine GL ?_ ?_<;>intro h<;>(try simp only [hsN] at h)<;>(try simp only [h])<;>(try simp only [hsB] at h)<;>try exact xf)|fail));(all_goals first|exact RetQ.fr 11|exact RetQ.fn 11|(exfalso;omega)|(exfalso;simp_all;done)|fail)):p:=h
theorem Wd12{p:Prop}(h:p:=by (repeat' (first|refine G ?_|refine AW.ret ?_|(refine GC ?_ ?_<;>intro h<;>(try simp only [hsB] at h)<;>try exact xf)|(refine GL ?_ ?_<;>intro h<;>(try simp only [hsN] at h)<;>(try simp only [h])<;>(try simp only [hsB] at h)<;>try exact xf)|fail));(all_goals first|exact RetQ.fr 12|exact RetQ.fn 12|(exfalso;omega)|(exfalso;simp_all;done)|fail)):p:=h
theorem Wd14{p:Prop}(h:p:=by (repeat' (first|refine G ?_|refine AW.ret ?_|(refine GC ?_ ?_<;>intro h<;>(try simp only [hsB] at h)<;>try exact xf)|(refine GL ?_ ?_<;>intro h<;>(try simp only [hsN] at h)<;>(try simp only [h])<;>(try simp only [hsB] at h)<;>try exact xf)|fail));(all_goals first|exact RetQ.fr 14|exact RetQ.fn 14|(exfalso;omega)|(exfalso;simp_all;done)|fail)):p:=h
theorem Wd16{p:Prop}(h:p:=by (repeat' (first|refine G ?_|refine AW.ret ?_|(refine GC ?_ ?_<;>intro h<;>(try simp only [hsB] at h)<;>try exact xf)|(refine GL ?_ ?_<;>intro h<;>(try simp only [hsN] at h)<;>(try simp only [h])<;>(try simp only [hsB] at h)<;>try exact xf)|fail));(all_goals first|exact RetQ.fr 16|exact RetQ.fn 16|(exfalso;omega)|(exfalso;simp_all;done)|fail)):p:=h
theorem Wd2{p:Prop}(h:p:=by (repeat' (first|refine G ?_|refine AW.ret ?_|(refine GC ?_ ?_<;>intro h<;>(try simp only [hsB] at h)<;>try exact xf)|(refine GL ?_ ?_<;>intro h<;>(try simp only [hsN] at h)<;>(try simp only [h])<;>(try simp only [hsB] at h)<;>try exact xf)|fail));(all_goals first|exact RetQ.fr 2|exact RetQ.fn 2|(exfalso;omega)|(exfalso;simp_all;done)|fail)):p:=h
theorem Wd3{p:Prop}(h:p:=by (repeat' (first|refine G ?_|refine AW.ret ?_|(refine GC ?_ ?_<;>intro h<;>(try simp only [hsB] at h)<;>try exact xf)|(refine GL ?_ ?_<;>intro h<;>(try simp only [hsN] at h)<;>(try simp only [h])<;>(try simp only [hsB] at h)<;>try exact xf)|fail));(all_goals first|exact RetQ.fr 3|exact RetQ.fn 3|(exfalso;omega)|(exfalso;simp_all;done)|fail)):p:=h
theorem Wd5{p:Prop}(h:p:=by (repeat' (first|refine G ?_|refine AW.ret ?_|(refine GC ?_ ?_<;>intro h<;>(try simp only [hsB] at h)<;>try exact xf)|(refine GL ?_ ?_<;>intro h<;>(try simp only [hsN] at h)<;>(try simp only [h])<;>(try simp only [hsB] at h)<;>try exact xf)|fail));(all_goals first|exact RetQ.fr 5|exact RetQ.fn 5|(exfalso;omega)|(exfalso;simp_all;done)|fail)):p:=h
theorem Wdg{p:Prop}(h:p:=by (repeat' (first|refine G ?_|refine AW.ret ?_|(refine GC ?_ ?_<;>intro h<;>(try simp only [hsB] at h)<;>try exact xf)|(refine GL ?_ ?_<;>intro h<;>(try simp only [hsN] at h)<;>(try simp only [h])<;>(try simp only [hsB] at h)<;>try exact xf)|fail));(all_goals first|exact go _ _ rfl rfl|(exfalso;omega)|(exfalso;simp_all;done)|fail)):p:=h
theorem Wdh{p:Prop}(h:p:=by (repeat' (first|refine G ?_|refine AW.ret ?_|(refine GC ?_ ?_<;>intro h<;>(try simp only [hsB] at h)<;>try exact xf)|(refine GL ?_ ?_<;>intro h<;>(try simp only [hsN] at h)<;>(try simp only [h])<;>(try simp only [hsB] at h)<;>try exact xf)|fail));(all_goals first|exact go _ _ rfl|(exfalso;omega)|(exfalso;simp_all;done)|fail)):p:=h
theorem We0{p:Prop}(h:p:=by (repeat' (first|(refine ADr.nil ?_;try clear hgv)|refine GO ?_|refine AW.ret ?_|(refine GC ?_ ?_<;>intro h<;>(try simp only [hsB] at h)<;>try exact xf)|(refine GD ?_ ?_<;>intro h<;>(try intro hgv)<;>(try simp only [hsN] at h)<;>(try simp only [h])<;>(try simp only [hsB] at h)<;>try exact xf)|(refine GL ?_ ?_<;>intro h<;>(try simp only [hsN] at h)<;>(try simp only [h])<;>(try simp only [hsB] at h)<;>try exact xf)|fail));(all_goals first|exact RetQ.fr 0|exact RetQ.fn 0|(exfalso;omega)|(exfalso;simp_all;done)|fail)):p:=h
theorem We1{p:Prop}(h:p:=by (repeat' (first|(refine ADr.nil ?_;try clear hgv)|refine GO ?_|refine AW.ret ?_|(refine GC ?_ ?_<;>intro h<;>(try simp only [hsB] at h)<;>try exact xf)|(refine GD ?_ ?_<;>intro h<;>(try intro hgv)<;>(try simp only [hsN] at h)<;>(try simp only [h])<;>(try simp only [hsB] at h)<;>try exact xf)|(refine GL ?_ ?_<;>intro h<;>(try simp only [hsN] at h)<;>(try simp only [h])<;>(try simp only [hsB] at h)<;>try exact xf)|fail));(all_goals first|exact RetQ.fr 1|exact RetQ.fn 1|(exfalso;omega)|(exfalso;simp_all;done)|fail)):p:=h
theorem We2{p:Prop}(h:p:=by (repeat' (first|(refine ADr.nil ?_;try clear hgv)|refine GO ?_|refine AW.ret ?_|(refine GC ?_ ?_<;>intro h<;>(try simp only [hsB] at h)<;>try exact xf)|(refine GD ?_ ?_<;>intro h<;>(try intro hgv)<;>(try simp only [hsN] at h)<;>(try simp only [h])<;>(try simp only [hsB] at h)<;>try exact xf)|(refine GL ?_ ?_<;>intro h<;>(try simp only [hsN] at h)<;>(try simp only [h])<;>(try simp only [hsB] at h)<;>try exact xf)|fail));(all_goals first|exact RetQ.fr 2|exact RetQ.fn 2|(exfalso;omega)|(exfalso;simp_all;done)|fail)):p:=h
theorem We3{p:Prop}(h:p:=by (repeat' (first|(refine ADr.nil ?_;try clear hgv)|refine GO ?_|refine AW.ret ?_|(refine GC ?_ ?_<;>intro h<;>(try simp only [hsB] at h)<;>try exact xf)|(refine GD ?_ ?_<;>intro h<;>(try intro hgv)<;>(try simp only [hsN] at h)<;>(try simp only [h])<;>(try simp only [hsB] at h)<;>try exact xf)|(refine GL ?_ ?_<;>intro h<;>(try simp only [hsN] at h)<;>(try simp only [h])<;>(try simp only [hsB] at h)<;>try exact xf)|fail));(all_goals first|exact RetQ.fr 3|exact RetQ.fn 3|(exfalso;omega)|(exfalso;simp_all;done)|fail)):p:=h
theorem We4{p:Prop}(h:p:=by (repeat' (first|(refine ADr.nil ?_;try clear hgv)|refine GO ?_|refine AW.ret ?_|(refine GC ?_ ?_<;>intro h<;>(try simp only [hsB] at h)<;>try exact xf)|(refine GD ?_ ?_<;>intro h<;>(try intro hgv)<;>(try simp only [hsN] at h)<;>(try simp only [h])<;>(try simp only [hsB] at h)<;>try exact xf)|(refine GL ?_ ?_<;>intro h<;>(try simp only [hsN] at h)<;>(try simp only [h])<;>(try simp only [hsB] at h)<;>try exact xf)|fail));(all_goals first|exact RetQ.fr 4|exact RetQ.fn 4|(exfalso;omega)|(exfalso;simp_all;done)|fail)):p:=h
theorem We5{p:Prop}(h:p:=by (repeat' (first|(refine ADr.nil ?_;try clear hgv)|refine GO ?_|refine AW.ret ?_|(refine GC ?_ ?_<;>intro h<;>(try simp only [hsB] at h)<;>try exact xf)|(refine GD ?_ ?_<;>intro h<;>(try intro hgv)<;>(try simp only [hsN] at h)<;>(try simp only [h])<;>(try simp only [hsB] at h)<;>try exact xf)|(refine GL ?_ ?_<;>intro h<;>(try simp only [hsN] at h)<;>(try simp only [h])<;>(try simp only [hsB] at h)<;>try exact xf)|fail));(all_goals first|exact RetQ.fr 5|exact RetQ.fn 5|(exfalso;omega)|(exfalso;simp_all;done)|fail)):p:=h
theorem We6{p:Prop}(h:p:=by (repeat' (first|(refine ADr.nil ?_;try clear hgv)|refine GO ?_|refine AW.ret ?_|(refine GC ?_ ?_<;>intro h<;>(try simp only [hsB] at h)<;>try exact xf)|(refine GD ?_ ?_<;>intro h<;>(try intro hgv)<;>(try simp only [hsN] at h)<;>(try simp only [h])<;>(try simp only [hsB] at h)<;>try exact xf)|(refine GL ?_ ?_<;>intro h<;>(try simp only [hsN] at h)<;>(try simp only [h])<;>(try simp only [hsB] at h)<;>try exact xf)|fail));(all_goals first|exact RetQ.fr 6|exact RetQ.fn 6|(exfalso;omega)|(exfalso;simp_all;done)|fail)):p:=h
theorem Weg{p:Prop}(h:p:=by (repeat' (first|(refine ADr.nil ?_;try clear hgv)|refine GO ?_|refine AW.ret ?_|(refine GC ?_ ?_<;>intro h<;>(try simp only [hsB] at h)<;>try exact xf)|(refine GD ?_ ?_<;>intro h<;>(try intro hgv)<;>(try simp only [hsN] at h)<;>(try simp only [h])<;>(try simp only [hsB] at h)<;>try exact xf)|(refine GL ?_ ?_<;>intro h<;>(try simp only [hsN] at h)<;>(try simp only [h])<;>(try simp only [hsB] at h)<;>try exact xf)|fail));(all_goals first|exact go _ _ rfl rfl|(exfalso;omega)|(exfalso;simp_all;done)|fail)):p:=h
theorem Weh{p:Prop}(h:p:=by (repeat' (first|(refine ADr.nil ?_;try clear hgv)|refine GO ?_|refine AW.ret ?_|(refine GC ?_ ?_<;>intro h<;>(try simp only [hsB] at h)<;>try exact xf)|(refine GD ?_ ?_<;>intro h<;>(try intro hgv)<;>(try simp only [hsN] at h)<;>(try simp only [h])<;>(try simp only [hsB] at h)<;>try exact xf)|(refine GL ?_ ?_<;>intro h<;>(try simp only [hsN] at h)<;>(try simp only [h])<;>(try simp only [hsB] at h)<;>try exact xf)|fail));(all_goals first|exact go _ _ rfl|(exfalso;omega)|(exfalso;simp_all;done)|fail)):p:=h
theorem Wf1{p:Prop}(h:p:=by (repeat' (first|(refine ADr.nil ?_;try clear hgv)|refine GW ?_|refine AW.ret ?_|(refine GC ?_ ?_<;>intro h<;>(try simp only [hsB] at h)<;>try exact xf)|(refine GD ?_ ?_<;>intro h<;>(try intro hgv)<;>(try simp only [hsN] at h)<;>(try simp only [h])<;>(try simp only [hsB] at h)<;>try exact xf)|(refine GL ?_ ?_<;>intro h<;>(try simp only [hsN] at h)<;>(try simp only [h])<;>(try simp only [hsB] at h)<;>try exact xf)|fail));(all_goals first|exact RetQ.fr 1|exact RetQ.fn 1|(exfalso;omega)|(exfalso;simp_all;done)|fail)):p:=h
theorem Wf11{p:Prop}(h:p:=by (repeat' (first|(refine ADr.nil ?_;try clear hgv)|refine GW ?_|refine AW.ret ?_|(refine GC ?_ ?_<;>intro h<;>(try simp only [hsB] at h)<;>try exact xf)|(refine GD ?_ ?_<;>intro h<;>(try intro hgv)<;>(try simp only [hsN] at h)<;>(try simp only [h])<;>(try simp only [hsB] at h)<;>try exact xf)|(refine GL ?_ ?_<;>intro h<;>(try simp only [hsN] at h)<;>(try simp only [h])<;>(try simp only [hsB] at h)<;>try exact xf)|fail));(all_goals first|exact RetQ.fr 11|exact RetQ.fn 11|(exfalso;omega)|(exfalso;simp_all;done)|fail)):p:=h
theorem Wf12{p:Prop}(h:p:=by (repeat' (first|(refine ADr.nil ?_;try clear hgv)|refine GW ?_|refine AW.ret ?_|(refine GC ?_ ?_<;>intro h<;>(try simp only [hsB] at h)<;>try exact xf)|(refine GD ?_ ?_<;>intro h<;>(try intro hgv)<;>(try simp only [hsN] at h)<;>(try simp only [h])<;>(try simp only [hsB] at h)<;>try exact xf)|(refine GL ?_ ?_<;>intro h<;>(try simp only [hsN] at h)<;>(try simp only [h])<;>(try simp only [hsB] at h)<;>try exact xf)|fail));(all_goals first|exact RetQ.fr 12|exact RetQ.fn 12|(exfalso;omega)|(exfalso;simp_all;done)|fail)):p:=h
theorem Wf14{p:Prop}(h:p:=by (repeat' (first|(refine ADr.nil ?_;try clear hgv)|refine GW ?_|refine AW.ret ?_|(refine GC ?_ ?_<;>intro h<;>(try simp only [hsB] at h)<;>try exact xf)|(refine GD ?_ ?_<;>intro h<;>(try intro hgv)<;>(try simp only [hsN] at h)<;>(try simp only [h])<;>(try simp only [hsB] at h)<;>try exact xf)|(refine GL ?_ ?_<;>intro h<;>(try simp only [hsN] at h)<;>(try simp only [h])<;>(try simp only [hsB] at h)<;>try exact xf)|fail));(all_goals first|exact RetQ.fr 14|exact RetQ.fn 14|(exfalso;omega)|(exfalso;simp_all;done)|fail)):p:=h
theorem Wf16{p:Prop}(h:p:=by (repeat' (first|(refine ADr.nil ?_;try clear hgv)|refine GW ?_|refine AW.ret ?_|(refine GC ?_ ?_<;>intro h<;>(try simp only [hsB] at h)<;>try exact xf)|(refine GD ?_ ?_<;>intro h<;>(try intro hgv)<;>(try simp only [hsN] at h)<;>(try simp only [h])<;>(try simp only [hsB] at h)<;>try exact xf)|(refine GL ?_ ?_<;>intro h<;>(try simp only [hsN] at h)<;>(try simp only [h])<;>(try simp only [hsB] at h)<;>try exact xf)|fail));(all_goals first|exact RetQ.fr 16|exact RetQ.fn 16|(exfalso;omega)|(exfalso;simp_all;done)|fail)):p:=h
theorem Wf2{p:Prop}(h:p:=by (repeat' (first|(refine ADr.nil ?_;try clear hgv)|refine GW ?_|refine AW.ret ?_|(refine GC ?_ ?_<;>intro h<;>(try simp only [hsB] at h)<;>try exact xf)|(refine GD ?_ ?_<;>intro h<;>(try intro hgv)<;>(try simp only [hsN] at h)<;>(try simp only [h])<;>(try simp only [hsB] at h)<;>try exact xf)|(refine GL ?_ ?_<;>intro h<;>(try simp only [hsN] at h)<;>(try simp only [h])<;>(try simp only [hsB] at h)<;>try exact xf)|fail));(all_goals first|exact RetQ.fr 2|exact RetQ.fn 2|(exfalso;omega)|(exfalso;simp_all;done)|fail)):p:=h
theorem Wf3{p:Prop}(h:p:=by (repeat' (first|(refine ADr.nil ?_;try clear hgv)|refine GW ?_|refine AW.ret ?_|(refine GC ?_ ?_<;>intro h<;>(try simp only [hsB] at h)<;>try exact xf)|(refine GD ?_ ?_<;>intro h<;>(try intro hgv)<;>(try simp only [hsN] at h)<;>(try simp only [h])<;>(try simp only [hsB] at h)<;>try exact xf)|(refine GL ?_ ?_<;>intro h<;>(try simp only [hsN] at h)<;>(try simp only [h])<;>(try simp only [hsB] at h)<;>try exact xf)|fail));(all_goals first|exact RetQ.fr 3|exact RetQ.fn 3|(exfalso;omega)|(exfalso;simp_all;done)|fail)):p:=h
theorem Wf4{p:Prop}(h:p:=by (repeat' (first|(refine ADr.nil ?_;try clear hgv)|refine GW ?_|refine AW.ret ?_|(refine GC ?_ ?_<;>intro h<;>(try simp only [hsB] at h)<;>try exact xf)|(refine GD ?_ ?_<;>intro h<;>(try intro hgv)<;>(try simp only [hsN] at h)<;>(try simp only [h])<;>(try simp only [hsB] at h)<;>try exact xf)|(refine GL ?_ ?_<;>intro h<;>(try simp only [hsN] at h)<;>(try simp only [h])<;>(try simp only [hsB] at h)<;>try exact xf)|fail));(all_goals first|exact RetQ.fr 4|exact RetQ.fn 4|(exfalso;omega)|(exfalso;simp_all;done)|fail)):p:=h
theorem Wf5{p:Prop}(h:p:=by (repeat' (first|(refine ADr.nil ?_;try clear hgv)|refine GW ?_|refine AW.ret ?_|(refine GC ?_ ?_<;>intro h<;>(try simp only [hsB] at h)<;>try exact xf)|(refine GD ?_ ?_<;>intro h<;>(try intro hgv)<;>(try simp only [hsN] at h)<;>(try simp only [h])<;>(try simp only [hsB] at h)<;>try exact xf)|(refine GL ?_ ?_<;>intro h<;>(try simp only [hsN] at h)<;>(try simp only [h])<;>(try simp only [hsB] at h)<;>try exact xf)|fail));(all_goals first|exact RetQ.fr 5|exact RetQ.fn 5|(exfalso;omega)|(exfalso;simp_all;done)|fail)):p:=h
theorem Wfg{p:Prop}(h:p:=by (repeat' (first|(refine ADr.nil ?_;try clear hgv)|refine GW ?_|refine AW.ret ?_|(refine GC ?_ ?_<;>intro h<;>(try simp only [hsB] at h)<;>try exact xf)|(refine GD ?_ ?_<;>intro h<;>(try intro hgv)<;>(try simp only [hsN] at h)<;>(try simp only [h])<;>(try simp only [hsB] at h)<;>try exact xf)|(refine GL ?_ ?_<;>intro h<;>(try simp only [hsN] at h)<;>(try simp only [h])<;>(try simp only [hsB] at h)<;>try exact xf)|fail));(all_goals first|exact go _ _ rfl rfl|(exfalso;omega)|(exfalso;simp_all;done)|fail)):p:=h
end Go.AW
