/-
  parts of a frame: the head of the texts.
-/
import Derived.Test.YtdjeilbhdleopaaGreatChecked
import Derived.Test.YtdjeilbhdleopaaGreatRows
import Derived.JoinedOf
import Derived.Below
import Derived.ProofKit
import Derived.Test.YtdjeilbhdleopaaGreatP23
set_option linter.unusedVariables false
set_option linter.unusedSimpArgs false
set_option maxHeartbeats 4000000
set_option maxRecDepth 10000
namespace Go.AW
open Go Go.Proofs
def chs (l : List Nat) : List Char := l.map Char.ofNat
theorem words_app (r : List Char) : ∀ w : List Nat, (w.all fun c => !(Char.ofNat c == Char.ofNat 32)) = true → wordsSigns (chs w ++ Char.ofNat 32 :: r) = chs w :: wordsSigns r
  | [], _ => rfl
  | c :: w, h => by
    simp only [List.all_cons, Bool.and_eq_true] at h
    have ih := words_app r w h.2
    have hc : Char.ofNat c ≠ Char.ofNat 32 := by simpa using h.1
    show wordsSigns (Char.ofNat c :: (chs w ++ Char.ofNat 32 :: r)) = _
    conv => lhs; unfold wordsSigns
    split
    · rename_i heq; cases heq
    · rename_i heq
      obtain ⟨h1, h2⟩ := List.cons.inj heq
      exact absurd h1 hc
    · rename_i heq
      obtain ⟨h1, h2⟩ := List.cons.inj heq
      subst h1 h2
      rw [ih]
      rfl
def headWord : List Nat := [104, 97, 114, 110, 101, 115, 115]
def headSum : List Nat := [101, 97, 49, 52, 54, 56, 100, 51, 101, 97, 97, 57, 101, 56, 98, 101, 48, 50, 52, 56, 98, 57, 52, 51, 48, 97, 51, 56, 50, 99, 102, 48, 50, 102, 97, 97, 101, 102, 99, 48, 99, 51, 53, 49, 101, 97, 97, 51, 50, 101, 102, 51, 52, 99, 99, 98, 54, 57, 49, 56, 51, 57, 100, 54]
def headCut : List Nat := [99, 117, 116]
def headRest : List Nat := [97, 116, 32, 115, 112, 101, 110, 99, 101, 47, 115, 112, 101, 110, 99, 101, 108, 97, 119, 50, 53, 46, 83, 116, 111, 114, 101, 83, 101, 101, 110, 32, 115, 112, 101, 110, 99, 101, 47, 115, 112, 101, 110, 99, 101, 108, 97, 119, 50, 53, 46, 83, 116, 111, 114, 101, 77, 101, 114, 103, 101, 115, 32, 115, 112, 101, 110, 99, 101, 47, 115, 112, 101, 110, 99, 101, 108, 97, 119, 50, 53, 46, 83, 116, 111, 114, 101, 80, 108, 97, 121, 115, 32, 115, 112, 101, 110, 99, 101, 47, 115, 112, 101, 110, 99, 101, 108, 97, 119, 50, 52, 46, 82, 112, 99, 82, 101, 97, 100, 115, 32, 115, 112, 101, 110, 99, 101, 47, 115, 112, 101, 110, 99, 101, 108, 97, 119, 50, 53, 46, 83, 116, 111, 114, 101, 82, 105, 103, 104, 116, 32, 115, 112, 101, 110, 99, 101, 47, 115, 112, 101, 110, 99, 101, 108, 97, 119, 51, 49, 46, 80, 97, 114, 116, 115, 80, 97, 121, 108, 111, 97, 100, 32, 115, 112, 101, 110, 99, 101, 47, 115, 112, 101, 110, 99, 101, 108, 97, 119, 51, 49, 46, 80, 97, 114, 116, 115, 67, 111, 118, 101, 114, 32, 115, 112, 101, 110, 99, 101, 47, 115, 112, 101, 110, 99, 101, 108, 97, 119, 50, 52, 46, 82, 112, 99, 87, 114, 105, 116, 101, 115]
def hcs : List Char := chs headWord ++ Char.ofNat 32 :: (chs headSum ++ Char.ofNat 32 :: (chs headCut ++ Char.ofNat 32 :: chs headRest))
theorem head_o : Tryz.prog.initOrder = String.ofList hcs := by kernel_rfl
theorem head_w : behindMainWord (wordsSigns Tryz.prog.initOrder.toList) = "cut".toList :: wordsSigns (chs headRest) := by
  rw [head_o, String.toList_ofList, hcs, words_app _ _ (by decide +kernel), words_app _ _ (by decide +kernel), words_app _ _ (by decide +kernel)]
  have h1 : chs headWord = "harness".toList := by decide +kernel
  have h2 : isSumSigns (chs headSum) = true := by decide +kernel
  have h3 : chs headCut = "cut".toList := by decide +kernel
  rw [h1, h3]
  unfold behindMainWord
  simp only [h2, beq_self_eq_true, Bool.true_or, Bool.true_and, if_true]
theorem head_strip (ws : List (List Char)) : stripLifts liftWords ("cut".toList :: ws) = ([], "cut".toList :: ws) := by
  have : ∀ l : List String, (l.all fun o => !("cut".toList == o.toList)) = true → stripLifts l ("cut".toList :: ws) = ([], "cut".toList :: ws) := by
    intro l
    induction l with
    | nil => intro _; rfl
    | cons o l ih =>
      intro h
      simp only [List.all_cons, Bool.and_eq_true, Bool.not_eq_true'] at h
      unfold stripLifts
      rw [if_neg (by rw [h.1]; decide)]
      exact ih h.2
  exact this _ (by decide +kernel)
theorem head_lifts : Tryz.prog.headLifts = [] := by
  unfold Program.headLifts
  rw [head_w, head_strip]
  simp
theorem head_final : Tryz.prog.liftsFinal = false := by
  unfold Program.liftsFinal
  rw [head_w, head_lifts]
  have : ((some "cut".toList == some "carried".toList) = false) := by decide +kernel
  simp only [List.head?_cons, this, Bool.false_and, Bool.false_or]
  rfl
theorem make_of {P : Program} {r : List (List Char)} (h : behindMainWord (wordsSigns P.initOrder.toList) = "cut".toList :: r) : P.make = some .cut := by
  unfold Program.make
  rw [h]
  have h1 : (("cut".toList == "gc".toList || "cut".toList == "spec".toList) = false) := by decide +kernel
  simp only [h1, Bool.false_eq_true, if_false, beq_self_eq_true, Bool.true_or, if_true]
theorem enter_of {P : Program} {r : List (List Char)} (h : behindMainWord (wordsSigns P.initOrder.toList) = "cut".toList :: r) (hl : P.laysLater = false) (hr : P.bearsReflect = false) (hd : P.doorRows = []) : P.mayEnter = true := by
  unfold Program.mayEnter
  rw [h]
  have h1 : (("cut".toList == "gc".toList || "cut".toList == "spec".toList) = false) := by decide +kernel
  have h2 : (("cut".toList == "carried".toList) = false) := by decide +kernel
  have h3 : P.doorFits [] = true := by
    unfold Program.doorFits
    rw [hd]
    rfl
  simp only [h1, h2, head_strip, hl, hr, h3, List.head?_cons, beq_self_eq_true, Bool.not_false, Bool.or_true, Bool.and_true, Bool.false_and, Bool.or_false, Bool.true_and, Bool.false_or, List.contains_nil, Bool.or_self]
theorem head_make : Tryz.prog.make = some .cut := make_of head_w
theorem head_lays : Tryz.prog.laysLater = false := by
  unfold Program.laysLater
  rw [← Array.any_toList]
  kernel_rfl
theorem head_refl : Tryz.prog.bearsReflect = false := by kernel_rfl
theorem head_rows : Tryz.prog.doorRows = [] := by kernel_rfl
theorem head_enter : Tryz.prog.mayEnter = true := enter_of head_w head_lays head_refl head_rows
theorem head_laid : laidOutB Tryz.prog = true := by kernel_rfl
theorem head_maps : mapsRowed Tryz.prog = true := by kernel_rfl
theorem head_keys : Tryz.prog.plainKeys = true := by kernel_rfl
theorem head_stops : Tryz.prog.stops = [] := by kernel_rfl
theorem head_knobs : Tryz.prog.stopKnobs = [] := by kernel_rfl
theorem head_heard : Tryz.prog.stopsHeard = true := by kernel_rfl
theorem joined_of {P : Program} {f : FuncId} {fn : Func} {s : ChangeSpec} {c : OpenClaim} (h1 : laidOutB P = true) (h2 : mapsRowed P = true) (h3 : P.stops = []) (h4 : P.stopKnobs = []) (h5 : (c.inPlace == P.inPlace f) = true) (h6 : (c.unfollowed == P.unfollowed f) = true) (h7 : (c.recurses == P.recurses f) = true) (h8 : (c.named == P.varsNamed f) = true)
    (h9 : P.stopsHeard = true) (h10 : P.mayEnter = true) (h11 : P.liftsFinal = c.lifted) (h12 : P.make = some c.make) (h13 : P.plainKeys = c.plainKeys)
    (h : (c.wf (OpenSpec.ofChange s) &&
      fn.params.all (P.readableRec ·) &&
      namedTie P c.named s.vars &&
      (c.stops == []) &&
      (c.knobs == []) &&
      (c.maps == (fn.params.toList ++ s.plain.varTypes P).any (P.mapsRec ·)) &&
      (c.ifaces == (fn.params.toList ++ s.plain.varTypes P).any (P.ifacesRec ·)) &&
      (c.mapsOut == P.mapsAmong fn.resultTypes.toList) &&
      (c.loops == (fn.params.toList ++ s.plain.varTypes P).any (P.loopsFrom ·)) &&
      (c.wideKeys == (fn.params.toList ++ s.plain.varTypes P ++ fn.resultTypes.toList).any (P.wideKeysFrom ·)) &&
      s.vars.all (P.varReadable ·) &&
      fn.resultTypes.all (fun t => P.readableRec t && decide (t < P.types.size)) &&
      (c.ifacesOut == fn.resultTypes.toList.any (P.ifacesRec ·)) &&
      (c.loopsOut == fn.resultTypes.toList.any (P.loopsFrom ·)) &&
      c.shortTexts.isNone &&
      (c.kinds == (if c.domain.isEmpty then [] else fn.params.toList.map fun t => match P.underlying t with | some (.int k) => some k | _ => none)) &&
      (c.pinned == c.pinnedBy) &&
      (c.veiled == (fn.params.toList ++ s.plain.varTypes P ++ fn.resultTypes.toList).any (P.veiledRec ·)) &&
      c.veiledFits P fn.params.toList (fn.params.toList ++ s.plain.varTypes P ++ fn.resultTypes.toList)) = true) : joinedFacts P f fn s c = true := by
  unfold joinedFacts
  simp only [Bool.and_eq_true] at h ⊢
  obtain ⟨⟨⟨⟨⟨⟨⟨⟨⟨⟨⟨⟨⟨⟨⟨⟨⟨⟨a0, a1⟩, a2⟩, a3⟩, a4⟩, a5⟩, a6⟩, a7⟩, a8⟩, a9⟩, a10⟩, a11⟩, a12⟩, a13⟩, a14⟩, a15⟩, a16⟩, a17⟩, a18⟩ := h
  exact ⟨⟨⟨⟨⟨⟨⟨⟨⟨⟨⟨⟨⟨⟨⟨⟨⟨⟨⟨⟨⟨⟨⟨⟨⟨⟨⟨⟨⟨⟨⟨a0, h1⟩, h2⟩, a1⟩, a2⟩, a3⟩, (by rw [h3]; rfl)⟩, a4⟩, (by rw [h4]; rfl)⟩, h5⟩, h6⟩, h7⟩, h8⟩, a5⟩, a6⟩, a7⟩, a8⟩, a9⟩, a10⟩, a11⟩, a12⟩, a13⟩, (by rw [h13]; exact beq_self_eq_true _)⟩, a14⟩, h9⟩, h10⟩, (by rw [h11]; exact beq_self_eq_true _)⟩, (by rw [h12]; exact beq_self_eq_true _)⟩, a15⟩, a16⟩, a17⟩, a18⟩
end Go.AW
