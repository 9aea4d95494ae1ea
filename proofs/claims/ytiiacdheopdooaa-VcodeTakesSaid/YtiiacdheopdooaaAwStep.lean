/-
  The calculus: what an operation comes to, as a condition on data; and that it is so.
-/
import Derived.Test.YtiiacdheopdooaaAwBuild
import Derived.Laws.BytesArg
import Derived.Laws.StructEq
import Derived.ChangeKeysEq
namespace Go.AW
open Go

abbrev iv (k : IntKind) (n : Int) : V := .d (.s (.int k n))
abbrev bv (b : Bool) : V := .d (.s (.bool b))
abbrev sv (s : ByteArray) : V := .d (.s (.string s))

theorem bs_size (l : List UInt8) : (⟨l.toArray⟩ : ByteArray).size = l.length := by show l.toArray.size = _; simp
theorem bs_append (l m : List UInt8) : (⟨l.toArray⟩ : ByteArray) ++ ⟨m.toArray⟩ = ⟨(l ++ m).toArray⟩ := by
  apply ByteArray.ext
  simp
theorem bs_extract (l : List UInt8) (i j : Nat) : (⟨l.toArray⟩ : ByteArray).extract i j = ⟨((l.drop i).take (j - i)).toArray⟩ := by
  apply ByteArray.ext
  simp
theorem bs_data (l : List UInt8) : (⟨l.toArray⟩ : ByteArray).data.toList = l := rfl
theorem bs_eta (s : ByteArray) : s = ⟨s.data.toList.toArray⟩ := by
  apply ByteArray.ext
  simp

/-- bit by bit -/
def bitI (op : BinOp) (k : IntKind) (a b : Int) : Int :=
  match op with
  | .and => k.wrap ((BitVec.ofInt k.bits a &&& BitVec.ofInt k.bits b).toNat : Int)
  | .or => k.wrap ((BitVec.ofInt k.bits a ||| BitVec.ofInt k.bits b).toNat : Int)
  | .xor => k.wrap ((BitVec.ofInt k.bits a ^^^ BitVec.ofInt k.bits b).toNat : Int)
  | _ => k.wrap ((BitVec.ofInt k.bits a &&& ~~~BitVec.ofInt k.bits b).toNat : Int)

def ibin (op : BinOp) (k : IntKind) (a b : Int) (K : V → Prop) : Prop :=
  match op with
  | .add => K (iv k (k.wrap (a + b)))
  | .sub => K (iv k (k.wrap (a - b)))
  | .mul => K (iv k (k.wrap (a * b)))
  | .quo => b ≠ 0 ∧ K (iv k (k.wrap (a.tdiv b)))
  | .rem => b ≠ 0 ∧ K (iv k (a.tmod b))
  | .and => K (iv k (bitI .and k a b))
  | .or => K (iv k (bitI .or k a b))
  | .xor => K (iv k (bitI .xor k a b))
  | .andNot => K (iv k (bitI .andNot k a b))
  | .eql => K (bv (decide (a = b)))
  | .neq => K (bv (!decide (a = b)))
  | .lss => K (bv (decide (a < b)))
  | .leq => K (bv (decide (a ≤ b)))
  | .gtr => K (bv (decide (a > b)))
  | .geq => K (bv (decide (a ≥ b)))
  | _ => False

def shf (op : BinOp) (k : IntKind) (a b : Int) (K : V → Prop) : Prop :=
  match op with
  | .shl => 0 ≤ b ∧ K (iv k (k.wrap (a * 2 ^ (min b.toNat k.bits))))
  | .shr => 0 ≤ b ∧ K (iv k (a.fdiv (2 ^ (min b.toNat k.bits))))
  | _ => False

def sbin (op : BinOp) (a b : ByteArray) (K : V → Prop) : Prop :=
  match op with
  | .add => a.size + b.size ≤ 9223372036854775807 ∧ K (sv (a ++ b))
  | .eql => K (bv (decide (a.data.toList = b.data.toList)))
  | .neq => K (bv (!decide (a.data.toList = b.data.toList)))
  | .lss => K (bv (Op.bytesLess a.data.toList b.data.toList))
  | .leq => K (bv (Op.bytesLess a.data.toList b.data.toList || decide (a.data.toList = b.data.toList)))
  | .gtr => K (bv (!(Op.bytesLess a.data.toList b.data.toList || decide (a.data.toList = b.data.toList))))
  | .geq => K (bv (!Op.bytesLess a.data.toList b.data.toList))
  | _ => False

/-- The type has bool's kind, or an integer's, or is a string's, a pointer's .. -/
def isB (P : Program) (t : TypeId) : Bool := match P.underlying t with | some .bool => true | _ => false
def isS (P : Program) (t : TypeId) : Bool := match P.underlying t with | some .string => true | _ => false
def isP (P : Program) (t : TypeId) : Bool := match P.underlying t with | some (.pointer _) => true | _ => false
def isF (P : Program) (t : TypeId) : Bool := match P.underlying t with | some (.func _ _ _) => true | _ => false
def intT (P : Program) (t : TypeId) : Option IntKind := match P.underlying t with | some (.int k) => some k | _ => none
def isK (P : Program) (t : TypeId) : Bool := (P.underlying t).isSome

def eqn (op : BinOp) (b : Bool) (K : V → Prop) : Prop :=
  match op with
  | .eql => K (bv b)
  | .neq => K (bv (!b))
  | _ => False

/-- What a flat struct's fields are: numbers, texts, truths. -/
inductive K3 where
  | i
  | s
  | b
def eqL (P : Program) : List Field → Nat → Option (List K3)
  | [], _ => some []
  | f :: fs, off => if f.name ≠ "_" ∧ f.offset = off then (match P.underlying f.type with | some (.int _) => (eqL P fs (off + 1)).map (K3.i :: ·) | some .string => (eqL P fs (off + 1)).map (K3.s :: ·) | some .bool => (eqL P fs (off + 1)).map (K3.b :: ·) | _ => none) else none
def eqT (P : Program) (t : TypeId) : Option (List K3) :=
  match P.underlying t with
  | some (.struct fs) => if P.stoodInHeld t = false ∧ P.eqGuardType P.depth t = false then eqL P fs.toList 0 else none
  | _ => none
def eqV : List K3 → List V → List V → Option Bool
  | [], [], [] => some true
  | .i :: ks, .d (.s (.int k a)) :: xs, .d (.s (.int k' b)) :: ys => if k = k' then (eqV ks xs ys).map (decide (a = b) && ·) else none
  | .s :: ks, .d (.s (.string a)) :: xs, .d (.s (.string b)) :: ys => (eqV ks xs ys).map (decide (a.data.toList = b.data.toList) && ·)
  | .b :: ks, .d (.s (.bool a)) :: xs, .d (.s (.bool b)) :: ys => (eqV ks xs ys).map (decide (a = b) && ·)
  | _, _, _ => none

def bin (P : Program) (op : BinOp) (t : TypeId) (x y : V) (K : V → Prop) : Prop :=
  match x, y with
  | .d (.s (.int k a)), .d (.s (.int k' b)) => if op = .shl ∨ op = .shr then shf op k a b K else k = k' ∧ ibin op k a b K
  | .d (.s (.string a)), .d (.s (.string b)) => sbin op a b K
  | .d (.s (.bool a)), .d (.s (.bool b)) => isB P t = true ∧ eqn op (decide (a = b)) K
  | .p _ _, .d (.s (.pointer none)) => isP P t = true ∧ eqn op false K
  | .d (.s (.pointer none)), .d (.s (.pointer none)) => isP P t = true ∧ eqn op true K
  | .f _ _ _, .d (.s .nilFunc) => isF P t = true ∧ eqn op false K
  | .d (.s .nilFunc), .d (.s .nilFunc) => isF P t = true ∧ eqn op true K
  | .a xs, .a ys => ∃ ks b, eqT P t = some ks ∧ eqV ks xs ys = some b ∧ eqn op b K
  | _, _ => False

section
variable {P : Program} {F : Nat → Prop} {σ : List Ob} {μ : List Value} {w : World}

theorem run_ibin {op : BinOp} {t : TypeId} {k : IntKind} {a b : Int} {K : V → Prop} (h : ibin op k a b K) :
    ∃ x v, K x ∧ (binOp op t (.int k a) (.int k b)).run P w = .ok v w ∧ VR F σ μ w x v := by
  cases op <;> simp only [ibin] at h <;> first
    | exact ⟨_, _, h, by simp [binOp, Op.intArith, Op.intBits, Op.intCmp, bitI]; try rfl, rfl⟩
    | exact ⟨_, _, h.2, by simp [binOp, Op.intDiv, h.1], rfl⟩
    | exact h.elim

theorem run_shf {op : BinOp} {t : TypeId} {k k' : IntKind} {a b : Int} {K : V → Prop} (h : shf op k a b K) :
    ∃ x v, K x ∧ (binOp op t (.int k a) (.int k' b)).run P w = .ok v w ∧ VR F σ μ w x v := by
  cases op <;> simp only [shf] at h <;> first
    | exact ⟨_, _, h.2, by simp [binOp, Op.shift, show ¬ b < 0 from by omega], rfl⟩
    | exact h.elim

theorem run_sbin {op : BinOp} {t : TypeId} {a b : ByteArray} {K : V → Prop} (h : sbin op a b K) :
    ∃ x v, K x ∧ (binOp op t (.string a) (.string b)).run P w = .ok v w ∧ VR F σ μ w x v := by
  have e : (a.data.toList == b.data.toList) = decide (a.data.toList = b.data.toList) := by
    rw [Bool.eq_iff_iff]; simp
  cases op <;> simp only [sbin] at h <;> first
    | exact ⟨_, _, h, by simp only [binOp, Op.stringOp, ByteArray.toList_eq, e]; rfl, rfl⟩
    | (refine ⟨_, _, h.2, ?_, rfl⟩
       simp [binOp, Op.stringOp]
       have := h.1
       omega)
    | exact h.elim

theorem run_eqn {op : BinOp} {t : TypeId} {u v : Value} {b : Bool} {K : V → Prop} (h : eqn op b K)
    (he : binOp .eql t u v = do pure (.bool (← Op.equal t u v))) (hn : binOp .neq t u v = do pure (.bool (!(← Op.equal t u v)))) (hq : ∀ d, (Op.equalIn (d + 1) t u v).run P w = .ok b w) :
    ∃ x r, K x ∧ (binOp op t u v).run P w = .ok r w ∧ VR F σ μ w x r := by
  have hq' : (Op.equal t u v).run P w = .ok b w := hq 9999
  cases op <;> simp only [eqn] at h <;> first
    | exact ⟨_, _, h, by rw [he]; simp [hq'], rfl⟩
    | exact ⟨_, _, h, by rw [hn]; simp [hq'], rfl⟩
    | exact h.elim

theorem run_eqn' {op : BinOp} {t : TypeId} {u v : Value} {b : Bool} {K : V → Prop} (h : eqn op b K)
    (he : binOp .eql t u v = do pure (.bool (← Op.equal t u v))) (hn : binOp .neq t u v = do pure (.bool (!(← Op.equal t u v)))) (hq' : (Op.equal t u v).run P w = .ok b w) :
    ∃ x r, K x ∧ (binOp op t u v).run P w = .ok r w ∧ VR F σ μ w x r := by
  cases op <;> simp only [eqn] at h <;> first
    | exact ⟨_, _, h, by rw [he]; simp [hq'], rfl⟩
    | exact ⟨_, _, h, by rw [hn]; simp [hq'], rfl⟩
    | exact h.elim

theorem run_eqV (d : Nat) : ∀ (fs : List Field) (off : Nat) (ks : List K3) (xs ys : List V) (b : Bool) (cs ds : Array Value), eqL P fs off = some ks → eqV ks xs ys = some b → VRs F σ μ w xs (cs.toList.drop off) → VRs F σ μ w ys (ds.toList.drop off) →
    (Op.eqFields (d + 1) cs ds fs).run P w = .ok b w
  | [], off, ks, xs, ys, b, cs, ds, h1, h2, _, _ => by
    simp only [eqL, Option.some.injEq] at h1
    subst h1
    unfold eqV at h2
    split at h2
    · simp at h2; subst h2; simp [Op.eqFields]
    · contradiction
    · contradiction
    · contradiction
    · cases h2
  | f :: fs, off, ks, xs, ys, b, cs, ds, h1, h2, hx, hy => by
    unfold eqL at h1
    split at h1
    case isFalse => cases h1
    rename_i hf
    obtain ⟨hn, ho⟩ := hf
    have cell : ∀ (zs : List V) (es : Array Value) (z : V), VRs F σ μ w (z :: zs) (es.toList.drop off) → ∃ v, es[off]? = some v ∧ VR F σ μ w z v ∧ VRs F σ μ w zs (es.toList.drop (off + 1)) := by
      intro zs es z h
      simp only [VRs] at h
      obtain ⟨v, us, e, k1, k2⟩ := h
      refine ⟨v, ?_, k1, ?_⟩
      · have := congrArg List.head? e
        rw [List.head?_drop] at this
        simpa using this
      · have := congrArg List.tail e
        rw [List.tail_drop] at this
        rw [this]; exact k2
    have go : ∀ (u v : Value) (r : Bool) (zs zs' : List V) (ks' : List K3) (b' : Bool), P.plainKey f.type = true → cs[off]? = some u → ds[off]? = some v → (Op.equalIn (d + 1) f.type u v).run P w = .ok r w → eqL P fs (off + 1) = some ks' → eqV ks' zs zs' = some b' → VRs F σ μ w zs (cs.toList.drop (off + 1)) → VRs F σ μ w zs' (ds.toList.drop (off + 1)) →
        (Op.eqFields (d + 1) cs ds (f :: fs)).run P w = .ok (r && b') w := by
      intro u v r zs zs' ks' b' hp hu hv hr g1 g2 g3 g4
      have ih := run_eqV d fs (off + 1) ks' zs zs' b' cs ds g1 g2 g3 g4
      unfold Op.eqFields
      rw [if_pos hn, ho]
      simp only [Sem.run_bind, run_part_plain w hp hu, Result.andThen_ok, run_part_plain w hp hv, hr]
      cases r
      · simp
      · simpa using ih
    split at h1
    · rename_i kd hu
      cases he : eqL P fs (off + 1) with
      | none => rw [he] at h1; simp at h1
      | some ks' =>
        rw [he] at h1
        simp at h1
        subst h1
        unfold eqV at h2
        split at h2
        · (exfalso; simp_all; done)
        · rename_i k a xs' k' b' ys' h
          cases h
          obtain ⟨u, c1, c2, c3⟩ := cell _ _ _ hx
          obtain ⟨v, d1, d2, d3⟩ := cell _ _ _ hy
          simp only [VR, DR] at c2 d2
          subst c2 d2
          split at h2
          · rename_i hk
            subst hk
            obtain ⟨b1, hb, rfl⟩ := Option.map_eq_some_iff.1 h2
            refine go _ _ (decide (a = b')) xs' ys' _ b1 (by unfold Program.plainKey; rw [hu]) c1 d1 ?_ he hb c3 d3
            rw [run_equalIn_int w d f.type k kd a b' hu]
            congr 1
          · cases h2
        · (exfalso; simp_all; done)
        · (exfalso; simp_all; done)
        · cases h2
    · rename_i hu
      cases he : eqL P fs (off + 1) with
      | none => rw [he] at h1; simp at h1
      | some ks' =>
        rw [he] at h1
        simp at h1
        subst h1
        unfold eqV at h2
        split at h2
        · (exfalso; simp_all; done)
        · (exfalso; simp_all; done)
        · rename_i a xs' b' ys' h
          cases h
          obtain ⟨u, c1, c2, c3⟩ := cell _ _ _ hx
          obtain ⟨v, d1, d2, d3⟩ := cell _ _ _ hy
          simp only [VR, DR] at c2 d2
          subst c2 d2
          obtain ⟨b1, hb, rfl⟩ := Option.map_eq_some_iff.1 h2
          refine go _ _ (decide (a.data.toList = b'.data.toList)) xs' ys' _ b1 (by unfold Program.plainKey; rw [hu]) c1 d1 ?_ he hb c3 d3
          rw [run_equalIn_string w d f.type a b' hu, ByteArray.toList_eq, ByteArray.toList_eq, Bool.beq_eq_decide_eq]
        · (exfalso; simp_all; done)
        · cases h2
    · rename_i hu
      cases he : eqL P fs (off + 1) with
      | none => rw [he] at h1; simp at h1
      | some ks' =>
        rw [he] at h1
        simp at h1
        subst h1
        unfold eqV at h2
        split at h2
        · (exfalso; simp_all; done)
        · (exfalso; simp_all; done)
        · (exfalso; simp_all; done)
        · rename_i a xs' b' ys' h
          cases h
          obtain ⟨u, c1, c2, c3⟩ := cell _ _ _ hx
          obtain ⟨v, d1, d2, d3⟩ := cell _ _ _ hy
          simp only [VR, DR] at c2 d2
          subst c2 d2
          obtain ⟨b1, hb, rfl⟩ := Option.map_eq_some_iff.1 h2
          refine go _ _ (decide (a = b')) xs' ys' _ b1 (by unfold Program.plainKey; rw [hu]) c1 d1 ?_ he hb c3 d3
          rw [run_equalIn_bool w d f.type a b' hu]
          cases a <;> cases b' <;> rfl
        · cases h2
    · cases h1

theorem run_bin {op : BinOp} {t : TypeId} {x y : V} {u v : Value} {K : V → Prop} (h : bin P op t x y K) (hu : VR F σ μ w x u) (hv : VR F σ μ w y v) (ox oy : Operand) :
    ∃ z r, K z ∧ (do eqGuard op t ox oy u v; binOp op t u v : Sem Value).run P w = .ok r w ∧ VR F σ μ w z r := by
  have guard : (∀ cs ds, ¬ (u = .agg cs ∧ v = .agg ds)) → (¬ (u = .nilIface ∧ v = .nilIface)) → (eqGuard op t ox oy u v).run P w = .ok () w := by
    intro h1 h2
    unfold eqGuard
    cases op <;> (try simp) <;> (cases u <;> (try simp) <;> (cases v <;> simp_all))
  have close : (eqGuard op t ox oy u v).run P w = .ok () w → (∃ z r, K z ∧ (binOp op t u v).run P w = .ok r w ∧ VR F σ μ w z r) →
      ∃ z r, K z ∧ (do eqGuard op t ox oy u v; binOp op t u v : Sem Value).run P w = .ok r w ∧ VR F σ μ w z r := fun hg ⟨z, r, hz, hr, hzr⟩ => ⟨z, r, hz, by simp [Sem.run_bind, hg, hr], hzr⟩
  unfold bin at h
  split at h
  · rename_i k a k' b
    simp only [VR, DR] at hu hv
    subst hu; subst hv
    refine close (guard (by simp) (by simp)) ?_
    split at h
    · exact run_shf h
    · obtain ⟨rfl, h⟩ := h
      exact run_ibin h
  · simp only [VR, DR] at hu hv
    subst hu; subst hv
    exact close (guard (by simp) (by simp)) (run_sbin h)
  · rename_i a b
    simp only [VR, DR] at hu hv
    subst hu; subst hv
    obtain ⟨ht, h⟩ := h
    have hb : P.underlying t = some .bool := by unfold isB at ht; split at ht <;> simp_all
    have e : (a == b) = decide (a = b) := by cases a <;> cases b <;> rfl
    exact close (guard (by simp) (by simp)) (run_eqn h rfl rfl fun d => by simp [Op.equalIn, run_underlying hb, e])
  · rename_i i off
    simp only [VR, DR] at hv
    subst hv
    simp only [VR] at hu
    obtain ⟨b, T, cs, _, _, rfl⟩ := hu
    obtain ⟨ht, h⟩ := h
    obtain ⟨e, hb⟩ : ∃ e, P.underlying t = some (.pointer e) := by unfold isP at ht; split at ht <;> simp_all
    exact close (guard (by simp) (by simp)) (run_eqn h rfl rfl fun d => by simp [Op.equalIn, run_underlying hb])
  · simp only [VR, DR] at hu hv
    subst hu; subst hv
    obtain ⟨ht, h⟩ := h
    obtain ⟨e, hb⟩ : ∃ e, P.underlying t = some (.pointer e) := by unfold isP at ht; split at ht <;> simp_all
    exact close (guard (by simp) (by simp)) (run_eqn h rfl rfl fun d => by simp [Op.equalIn, run_underlying hb])
  · simp only [VR, DR] at hv
    subst hv
    simp only [VR] at hu
    obtain ⟨a1, a2, rfl, _, _⟩ := hu
    obtain ⟨ht, h⟩ := h
    obtain ⟨e1, e2, e3, hb⟩ : ∃ e1 e2 e3, P.underlying t = some (.func e1 e2 e3) := by unfold isF at ht; split at ht <;> simp_all
    exact close (guard (by simp) (by simp)) (run_eqn h rfl rfl fun d => by simp [Op.equalIn, run_underlying hb])
  · simp only [VR, DR] at hu hv
    subst hu; subst hv
    obtain ⟨ht, h⟩ := h
    obtain ⟨e1, e2, e3, hb⟩ : ∃ e1 e2 e3, P.underlying t = some (.func e1 e2 e3) := by unfold isF at ht; split at ht <;> simp_all
    exact close (guard (by simp) (by simp)) (run_eqn h rfl rfl fun d => by simp [Op.equalIn, run_underlying hb])
  · rename_i xs ys
    simp only [VR] at hu hv
    obtain ⟨cs, rfl, hu⟩ := hu
    obtain ⟨ds, rfl, hv⟩ := hv
    obtain ⟨ks, b, ht, hb, h⟩ := h
    unfold eqT at ht
    split at ht
    case h_2 => cases ht
    rename_i fs hus
    split at ht
    case isFalse => cases ht
    rename_i hh
    have hfo : P.fieldsOf t = fs := by unfold Program.fieldsOf; rw [hus]
    refine close (run_eqGuard_agg w op t ox oy cs ds hh.2) (run_eqn' h rfl rfl ?_)
    show (Op.equalIn (9998 + 1 + 1) t (.agg cs) (.agg ds)).run P w = _
    rw [run_equalIn_struct w (9998 + 1) t cs ds (by rw [hfo]; exact hus) hh.1, hfo]
    exact run_eqV 9998 fs.toList 0 ks xs ys b cs ds ht hb (by simpa using hu) (by simpa using hv)
  · exact h.elim
end
end Go.AW
