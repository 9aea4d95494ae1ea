/-
  The calculus: what an operation comes to, as a condition on data; and that it is so.
-/
import Derived.Test.YtiiacdheopdooaaAwBuild
import Derived.Laws.BytesArg
namespace Go.AW
open Go

abbrev iv (k : IntKind) (n : Int) : V := .d (.s (.int k n))
abbrev bv (b : Bool) : V := .d (.s (.bool b))
abbrev sv (s : ByteArray) : V := .d (.s (.string s))

theorem bs_size (l : List UInt8) : (⟨l.toArray⟩ : ByteArray).size = l.length := by show l.toArray.size = _; simp
theorem bs_append (l m : List UInt8) : (⟨l.toArray⟩ : ByteArray) ++ ⟨m.toArray⟩ = ⟨(l ++ m).toArray⟩ := by
  apply ByteArray.ext
  simp
theorem bs_extract (l : List UInt8) (i j : Nat) : (⟨l.toArray⟩ : ByteArray).extract i j = ⟨((l.drop i).take (j - i)).toArray⟩ := by
  apply ByteArray.ext
  simp
theorem bs_data (l : List UInt8) : (⟨l.toArray⟩ : ByteArray).data.toList = l := rfl
theorem bs_eta (s : ByteArray) : s = ⟨s.data.toList.toArray⟩ := by
  apply ByteArray.ext
  simp

/-- bit by bit -/
def bitI (op : BinOp) (k : IntKind) (a b : Int) : Int :=
  match op with
  | .and => k.wrap ((BitVec.ofInt k.bits a &&& BitVec.ofInt k.bits b).toNat : Int)
  | .or => k.wrap ((BitVec.ofInt k.bits a ||| BitVec.ofInt k.bits b).toNat : Int)
  | .xor => k.wrap ((BitVec.ofInt k.bits a ^^^ BitVec.ofInt k.bits b).toNat : Int)
  | _ => k.wrap ((BitVec.ofInt k.bits a &&& ~~~BitVec.ofInt k.bits b).toNat : Int)

def ibin (op : BinOp) (k : IntKind) (a b : Int) (K : V → Prop) : Prop :=
  match op with
  | .add => K (iv k (k.wrap (a + b)))
  | .sub => K (iv k (k.wrap (a - b)))
  | .mul => K (iv k (k.wrap (a * b)))
  | .quo => b ≠ 0 ∧ K (iv k (k.wrap (a.tdiv b)))
  | .rem => b ≠ 0 ∧ K (iv k (a.tmod b))
  | .and => K (iv k (bitI .and k a b))
  | .or => K (iv k (bitI .or k a b))
  | .xor => K (iv k (bitI .xor k a b))
  | .andNot => K (iv k (bitI .andNot k a b))
  | .eql => K (bv (decide (a = b)))
  | .neq => K (bv (!decide (a = b)))
  | .lss => K (bv (decide (a < b)))
  | .leq => K (bv (decide (a ≤ b)))
  | .gtr => K (bv (decide (a > b)))
  | .geq => K (bv (decide (a ≥ b)))
  | _ => False

def shf (op : BinOp) (k : IntKind) (a b : Int) (K : V → Prop) : Prop :=
  match op with
  | .shl => 0 ≤ b ∧ K (iv k (k.wrap (a * 2 ^ (min b.toNat k.bits))))
  | .shr => 0 ≤ b ∧ K (iv k (a.fdiv (2 ^ (min b.toNat k.bits))))
  | _ => False

def sbin (op : BinOp) (a b : ByteArray) (K : V → Prop) : Prop :=
  match op with
  | .add => a.size + b.size ≤ 9223372036854775807 ∧ K (sv (a ++ b))
  | .eql => K (bv (decide (a.data.toList = b.data.toList)))
  | .neq => K (bv (!decide (a.data.toList = b.data.toList)))
  | .lss => K (bv (Op.bytesLess a.data.toList b.data.toList))
  | .leq => K (bv (Op.bytesLess a.data.toList b.data.toList || decide (a.data.toList = b.data.toList)))
  | .gtr => K (bv (!(Op.bytesLess a.data.toList b.data.toList || decide (a.data.toList = b.data.toList))))
  | .geq => K (bv (!Op.bytesLess a.data.toList b.data.toList))
  | _ => False

/-- The type has bool's kind, or an integer's, or is a string's, a pointer's .. -/
def isB (P : Program) (t : TypeId) : Bool := match P.underlying t with | some .bool => true | _ => false
def isS (P : Program) (t : TypeId) : Bool := match P.underlying t with | some .string => true | _ => false
def isP (P : Program) (t : TypeId) : Bool := match P.underlying t with | some (.pointer _) => true | _ => false
def isF (P : Program) (t : TypeId) : Bool := match P.underlying t with | some (.func _ _ _) => true | _ => false
def intT (P : Program) (t : TypeId) : Option IntKind := match P.underlying t with | some (.int k) => some k | _ => none
def isK (P : Program) (t : TypeId) : Bool := (P.underlying t).isSome

def eqn (op : BinOp) (b : Bool) (K : V → Prop) : Prop :=
  match op with
  | .eql => K (bv b)
  | .neq => K (bv (!b))
  | _ => False

def bin (P : Program) (op : BinOp) (t : TypeId) (x y : V) (K : V → Prop) : Prop :=
  match x, y with
  | .d (.s (.int k a)), .d (.s (.int k' b)) => if op = .shl ∨ op = .shr then shf op k a b K else k = k' ∧ ibin op k a b K
  | .d (.s (.string a)), .d (.s (.string b)) => sbin op a b K
  | .d (.s (.bool a)), .d (.s (.bool b)) => isB P t = true ∧ eqn op (decide (a = b)) K
  | .p _ _, .d (.s (.pointer none)) => isP P t = true ∧ eqn op false K
  | .d (.s (.pointer none)), .d (.s (.pointer none)) => isP P t = true ∧ eqn op true K
  | .f _ _ _, .d (.s .nilFunc) => isF P t = true ∧ eqn op false K
  | .d (.s .nilFunc), .d (.s .nilFunc) => isF P t = true ∧ eqn op true K
  | _, _ => False

section
variable {P : Program} {F : Nat → Prop} {σ : List Ob} {μ : List Value} {w : World}

theorem run_ibin {op : BinOp} {t : TypeId} {k : IntKind} {a b : Int} {K : V → Prop} (h : ibin op k a b K) :
    ∃ x v, K x ∧ (binOp op t (.int k a) (.int k b)).run P w = .ok v w ∧ VR F σ μ w x v := by
  cases op <;> simp only [ibin] at h <;> first
    | exact ⟨_, _, h, by simp [binOp, Op.intArith, Op.intBits, Op.intCmp, bitI]; try rfl, rfl⟩
    | exact ⟨_, _, h.2, by simp [binOp, Op.intDiv, h.1], rfl⟩
    | exact h.elim

theorem run_shf {op : BinOp} {t : TypeId} {k k' : IntKind} {a b : Int} {K : V → Prop} (h : shf op k a b K) :
    ∃ x v, K x ∧ (binOp op t (.int k a) (.int k' b)).run P w = .ok v w ∧ VR F σ μ w x v := by
  cases op <;> simp only [shf] at h <;> first
    | exact ⟨_, _, h.2, by simp [binOp, Op.shift, show ¬ b < 0 from by omega], rfl⟩
    | exact h.elim

theorem run_sbin {op : BinOp} {t : TypeId} {a b : ByteArray} {K : V → Prop} (h : sbin op a b K) :
    ∃ x v, K x ∧ (binOp op t (.string a) (.string b)).run P w = .ok v w ∧ VR F σ μ w x v := by
  have e : (a.data.toList == b.data.toList) = decide (a.data.toList = b.data.toList) := by
    rw [Bool.eq_iff_iff]; simp
  cases op <;> simp only [sbin] at h <;> first
    | exact ⟨_, _, h, by simp only [binOp, Op.stringOp, ByteArray.toList_eq, e]; rfl, rfl⟩
    | (refine ⟨_, _, h.2, ?_, rfl⟩
       simp [binOp, Op.stringOp]
       have := h.1
       omega)
    | exact h.elim

theorem run_eqn {op : BinOp} {t : TypeId} {u v : Value} {b : Bool} {K : V → Prop} (h : eqn op b K)
    (he : binOp .eql t u v = do pure (.bool (← Op.equal t u v))) (hn : binOp .neq t u v = do pure (.bool (!(← Op.equal t u v)))) (hq : ∀ d, (Op.equalIn (d + 1) t u v).run P w = .ok b w) :
    ∃ x r, K x ∧ (binOp op t u v).run P w = .ok r w ∧ VR F σ μ w x r := by
  have hq' : (Op.equal t u v).run P w = .ok b w := hq 9999
  cases op <;> simp only [eqn] at h <;> first
    | exact ⟨_, _, h, by rw [he]; simp [hq'], rfl⟩
    | exact ⟨_, _, h, by rw [hn]; simp [hq'], rfl⟩
    | exact h.elim

theorem run_bin {op : BinOp} {t : TypeId} {x y : V} {u v : Value} {K : V → Prop} (h : bin P op t x y K) (hu : VR F σ μ w x u) (hv : VR F σ μ w y v) (ox oy : Operand) :
    ∃ z r, K z ∧ (do eqGuard op t ox oy u v; binOp op t u v : Sem Value).run P w = .ok r w ∧ VR F σ μ w z r := by
  have guard : (∀ cs ds, ¬ (u = .agg cs ∧ v = .agg ds)) → (¬ (u = .nilIface ∧ v = .nilIface)) → (eqGuard op t ox oy u v).run P w = .ok () w := by
    intro h1 h2
    unfold eqGuard
    cases op <;> (try simp) <;> (cases u <;> (try simp) <;> (cases v <;> simp_all))
  have close : (eqGuard op t ox oy u v).run P w = .ok () w → (∃ z r, K z ∧ (binOp op t u v).run P w = .ok r w ∧ VR F σ μ w z r) →
      ∃ z r, K z ∧ (do eqGuard op t ox oy u v; binOp op t u v : Sem Value).run P w = .ok r w ∧ VR F σ μ w z r := fun hg ⟨z, r, hz, hr, hzr⟩ => ⟨z, r, hz, by simp [Sem.run_bind, hg, hr], hzr⟩
  unfold bin at h
  split at h
  · rename_i k a k' b
    simp only [VR, DR] at hu hv
    subst hu; subst hv
    refine close (guard (by simp) (by simp)) ?_
    split at h
    · exact run_shf h
    · obtain ⟨rfl, h⟩ := h
      exact run_ibin h
  · simp only [VR, DR] at hu hv
    subst hu; subst hv
    exact close (guard (by simp) (by simp)) (run_sbin h)
  · rename_i a b
    simp only [VR, DR] at hu hv
    subst hu; subst hv
    obtain ⟨ht, h⟩ := h
    have hb : P.underlying t = some .bool := by unfold isB at ht; split at ht <;> simp_all
    have e : (a == b) = decide (a = b) := by cases a <;> cases b <;> rfl
    exact close (guard (by simp) (by simp)) (run_eqn h rfl rfl fun d => by simp [Op.equalIn, run_underlying hb, e])
  · rename_i i off
    simp only [VR, DR] at hv
    subst hv
    simp only [VR] at hu
    obtain ⟨b, T, cs, _, _, rfl⟩ := hu
    obtain ⟨ht, h⟩ := h
    obtain ⟨e, hb⟩ : ∃ e, P.underlying t = some (.pointer e) := by unfold isP at ht; split at ht <;> simp_all
    exact close (guard (by simp) (by simp)) (run_eqn h rfl rfl fun d => by simp [Op.equalIn, run_underlying hb])
  · simp only [VR, DR] at hu hv
    subst hu; subst hv
    obtain ⟨ht, h⟩ := h
    obtain ⟨e, hb⟩ : ∃ e, P.underlying t = some (.pointer e) := by unfold isP at ht; split at ht <;> simp_all
    exact close (guard (by simp) (by simp)) (run_eqn h rfl rfl fun d => by simp [Op.equalIn, run_underlying hb])
  · simp only [VR, DR] at hv
    subst hv
    simp only [VR] at hu
    obtain ⟨a1, a2, rfl, _, _⟩ := hu
    obtain ⟨ht, h⟩ := h
    obtain ⟨e1, e2, e3, hb⟩ : ∃ e1 e2 e3, P.underlying t = some (.func e1 e2 e3) := by unfold isF at ht; split at ht <;> simp_all
    exact close (guard (by simp) (by simp)) (run_eqn h rfl rfl fun d => by simp [Op.equalIn, run_underlying hb])
  · simp only [VR, DR] at hu hv
    subst hu; subst hv
    obtain ⟨ht, h⟩ := h
    obtain ⟨e1, e2, e3, hb⟩ : ∃ e1 e2 e3, P.underlying t = some (.func e1 e2 e3) := by unfold isF at ht; split at ht <;> simp_all
    exact close (guard (by simp) (by simp)) (run_eqn h rfl rfl fun d => by simp [Op.equalIn, run_underlying hb])
  · exact h.elim
end
end Go.AW
