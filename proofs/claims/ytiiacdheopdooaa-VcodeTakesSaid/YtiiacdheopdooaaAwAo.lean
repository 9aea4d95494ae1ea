/-
  The calculus: every operation that is no call of a Go function, as a condition on data.
-/
import Derived.Test.YtiiacdheopdooaaAwStep
namespace Go.AW
open Go

/-- The frame's own way to look at values. -/
def onB (x : V) (K : Bool → Prop) : Prop := match x with | .d (.s (.bool b)) => K b | _ => False
def onI (x : V) (K : IntKind → Int → Prop) : Prop := match x with | .d (.s (.int k n)) => K k n | _ => False

def strD (s : ByteArray) : List D := s.data.toList.map fun b => .s (.int .u8 b.toNat)

/-- A slice's elements: how many, and their cells. -/
def elems (σ : List Ob) (x : V) : Option (Nat × List D) :=
  match x with
  | .d (.l m ys) => some (m, ys)
  | .d (.s (.slice none 0 0)) => some (0, [])
  | .o j m => match σ[j]? with | some (.row _ _ n cs) => if m = n then some (m, cs) else none | _ => none
  | _ => none

def srcOf (P : Program) (u : TypeId) (sz : Nat) (σ : List Ob) (x : V) : Option (Nat × List D) :=
  match x with
  | .d (.s (.string s)) => if isS P u = true ∧ sz = 1 then some (s.size, strD s) else none
  | x => if (sliT P u).isSome = true then elems σ x else none

/-- A field's place in its struct. -/
def fldOff (P : Program) (t : TypeId) (j : Nat) : Option Nat :=
  match P.underlying t with
  | some (.struct fs) => match fs[j]? with
    | some f => match P.info? f.type with
      | some i => if i.size = 0 then none else some f.offset
      | none => none
    | none => none
  | _ => none

/-- An array type: its length, its elements' cells. -/
def arrT (P : Program) (t : TypeId) : Option (Nat × Nat) :=
  match P.underlying t with
  | some (.array n e) => match P.info? e with
    | some i => if 2 ≤ n then some (n, i.size) else none
    | none => none
  | _ => none

/-- A type's zero cells. -/
def zr (P : Program) (t : TypeId) : Option (List Value) :=
  match P.info? t with
  | some i => match i.zero with
    | some z => some z.cells.toList
    | none => none
  | none => none

def add (x : V) (n : Nat) (K : V → Prop) : Prop :=
  match x with
  | .p i off => K (.p i (off + n))
  | .e i m off => K (.e i m (off + n))
  | .c xs => K (.c (xs.drop n))
  | _ => False

def toDs : List V → Option (List D)
  | [] => some []
  | .d x :: xs => (toDs xs).map (x :: ·)
  | _ => none

def ao (P : Program) (T : Tm) (σ : List Ob) (Q : V → List Ob → Prop) (op : Op) : Prop :=
  match op with
  | .move x => Q (ev T x) σ
  | .assign x => Q (ev T x) σ
  | .pick c a b => onB (ev T c) fun t => Q (if t = true then ev T a else ev T b) σ
  | .binOp op t x y _ => bin P op t (ev T x) (ev T y) fun z => Q z σ
  | .unOp .not _ x => onB (ev T x) fun b => Q (bv (!b)) σ
  | .unOp .neg _ x => onI (ev T x) fun k n => Q (iv k (k.wrap (0 - n))) σ
  | .unOp .xor _ x => onI (ev T x) fun k n => Q (iv k (bitI .xor k (if k.signed = true then -1 else k.max) n)) σ
  | .convert s d x => match ev T x with
    | .d (.s (.int _ n)) => ∃ k, isK P s = true ∧ intT P d = some k ∧ Q (iv k (k.wrap n)) σ
    | .d (.s (.string b)) => isK P s = true ∧ isS P d = true ∧ Q (sv b) σ
    | x => ∃ e sz by_ n l, sliT P s = some (e, sz, by_) ∧ intT P e = some .u8 ∧ isS P d = true ∧ elems σ x = some (n, l) ∧ ∃ ns : List Int, l = ns.map (fun n => .s (.int .u8 n)) ∧ n = ns.length ∧ Q (sv (strOfNums ns)) σ
  | .index t x i => match ev T x, ev T i with
    | .d (.s (.string s)), .d (.s (.int _ n)) => isS P t = true ∧ (0 ≤ n ∧ n < s.size) ∧ Q (iv .u8 (s.data.toList.getD n.toNat 0).toNat) σ
    | _, _ => False
  | .nilCheck x => match ev T x with
    | .p i off => Q (.p i off) σ
    | .e i n off => Q (.e i n off) σ
    | .c xs => Q (.c xs) σ
    | .f (.func g) a b => Q (.f (.func g) a b) σ
    | _ => False
  | .fieldAddr t x j => ∃ n, fldOff P t j = some n ∧ add (ev T x) n fun z => Q z σ
  | .indexAddr t x i => onI (ev T i) fun _ n => match ev T x with
    | .d (.l m ys) => ∃ e sz by_, sliT P t = some (e, sz, by_) ∧ (0 ≤ n ∧ n < m) ∧ Q (.c (ys.drop (n.toNat * sz))) σ
    | .o j m => ∃ e sz by_ cs, sliT P t = some (e, sz, by_) ∧ σ[j]? = some (.row e sz m cs) ∧ (0 ≤ n ∧ n < m) ∧ Q (.e j m (n.toNat * sz)) σ
    | .p j off => ∃ m sz, arrT P t = some (m, sz) ∧ (0 ≤ n ∧ n < m) ∧ Q (.p j (off + n.toNat * sz)) σ
    | _ => False
  | .load t x => ∃ y, rdx P t σ (ev T x) = some y ∧ Q y σ
  | .store t a x => match ev T a with
    | .p i off => ∃ T' cs, σ[i]? = some (.box T' cs) ∧ wid P t = some (flat (ev T x)).length ∧ off + (flat (ev T x)).length ≤ cs.length ∧ ones (flat (ev T x)) = true ∧ Q (.t []) (σ.set i (.box T' (setAt cs off (flat (ev T x)))))
    | .e i n off => ∃ E sz cs ys, σ[i]? = some (.row E sz n cs) ∧ toDs (flat (ev T x)) = some ys ∧ wid P t = some ys.length ∧ off + ys.length ≤ cs.length ∧ onesD ys = true ∧ Q (.t []) (σ.set i (.row E sz n (setAt cs off ys)))
    | _ => False
  | .alloc t => ∃ z, zr P t = some z ∧ Q (.p σ.length 0) (σ ++ [.box t (z.map fun v => .d (.s v))])
  | .box t x => ones (flat (ev T x)) = true ∧ Q (.p σ.length 0) (σ ++ [.box t (flat (ev T x))])
  | .build t ps => ∃ zs pl cs, plc P t = some (zs, pl) ∧ fillV (zs.map fun v => .d (.s v)) pl (ps.toList.map fun p => (p.1, ev T p.2)) = some cs ∧ Q (.a cs) σ
  | .buildSlice t n ps => ∃ e sz by_ cs ys, sliT P t = some (e, sz, by_) ∧ n = ps.size ∧ ps.size * sz ≤ 16777216 ∧ buildCells sz 0 (ps.toList.map fun p => (p.1, ev T p.2)) = some cs ∧ toDs cs = some ys ∧ Q (.d (.l n ys)) σ
  | .slice t x lo hi none => match ev T x with
    | .d (.s (.string s)) => isS P t = true ∧
      (match lo, hi with
       | none, none => Q (sv s) σ
       | some l, none => onI (ev T l) fun _ a => (0 ≤ a ∧ a ≤ s.size) ∧ Q (sv (s.extract a.toNat s.size)) σ
       | none, some h => onI (ev T h) fun _ b => (0 ≤ b ∧ b ≤ s.size) ∧ Q (sv (s.extract 0 b.toNat)) σ
       | some l, some h => onI (ev T l) fun _ a => onI (ev T h) fun _ b => (0 ≤ a ∧ a ≤ b ∧ b ≤ s.size) ∧ Q (sv (s.extract a.toNat b.toNat)) σ)
    | .d (.l n ys) => ∃ e sz by_, sliT P t = some (e, sz, by_) ∧
      (match lo, hi with
       | some l, none => onI (ev T l) fun _ a => (0 ≤ a ∧ a ≤ n) ∧ ys.length = n * sz ∧ Q (.d (.l (n - a.toNat) (ys.drop (a.toNat * sz)))) σ
       | none, some h => onI (ev T h) fun _ b => (0 ≤ b ∧ b ≤ n) ∧ Q (.d (.l b.toNat (ys.take (b.toNat * sz)))) σ
       | some l, some h => onI (ev T l) fun _ a => onI (ev T h) fun _ b => (0 ≤ a ∧ a ≤ b ∧ b ≤ n) ∧ Q (.d (.l (b.toNat - a.toNat) ((ys.drop (a.toNat * sz)).take ((b.toNat - a.toNat) * sz)))) σ
       | none, none => ys.length = n * sz ∧ Q (.d (.l n ys)) σ)
    | _ => False
  | .extract x j => match ev T x with
    | .t vs => ∃ v, vs[j]? = some v ∧ Q v σ
    | _ => False
  | .field t x j => match ev T x with
    | .a cs => ∃ n f, fldOff P t j = some n ∧ fldT P t j = some f ∧ ∃ y, rdV P f (cs.drop n) = some y ∧ Q y σ
    | _ => False
  | .makeFunc fn fi ca => Q (.f fn (fi.toList.map (ev T)) (ca.toList.map (ev T))) σ
  | .call { callee := .builtin .len, args, argTypes } => match args.toList, argTypes.toList with
    | [x], [t] => match ev T x with
      | .d (.s (.string s)) => isS P t = true ∧ Q (iv .i64 s.size) σ
      | .d (.l n _) => (sliT P t).isSome = true ∧ Q (iv .i64 n) σ
      | .d (.s (.slice none 0 0)) => (sliT P t).isSome = true ∧ Q (iv .i64 0) σ
      | .o _ n => (sliT P t).isSome = true ∧ Q (iv .i64 n) σ
      | _ => False
    | _, _ => False
  | .call { callee := .builtin .append, args, argTypes } => match args.toList, argTypes.toList with
    | [s, x], [t, u] => ∃ e sz by_ m ys, sliT P t = some (e, sz, by_) ∧ srcOf P u sz σ (ev T x) = some (m, ys) ∧ ys.length = m * sz ∧ onesD ys = true ∧
      (match ev T s with
       | .o i n => ∃ cs, σ[i]? = some (.row e sz n cs) ∧ (n + m) * by_ ≤ 140737488355328 ∧ Q (.o i (n + m)) (σ.set i (.row e sz (n + m) (cs ++ ys)))
       | .d (.s (.slice none 0 0)) => m * by_ ≤ 140737488355328 ∧ Q (.o σ.length m) (σ ++ [.row e sz m ys])
       | _ => False)
    | _, _ => False
  | .call { callee := .builtin .min, args, .. } => match args.toList with
    | [x, y] => onI (ev T x) fun k a => onI (ev T y) fun _ b => Q (iv k (if b < a then b else a)) σ
    | _ => False
  | .call { callee := .builtin .max, args, .. } => match args.toList with
    | [x, y] => onI (ev T x) fun k a => onI (ev T y) fun _ b => Q (iv k (if b > a then b else a)) σ
    | _ => False
  | _ => False
where
  fldT (P : Program) (t : TypeId) (j : Nat) : Option TypeId :=
    match P.underlying t with
    | some (.struct fs) => (fs[j]?).map (·.type)
    | _ => none
end Go.AW
