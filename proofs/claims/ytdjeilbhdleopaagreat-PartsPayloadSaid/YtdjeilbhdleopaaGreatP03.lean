/-
  Plain: spans: what is cut by them, and which is found.
-/
import Derived.Test.YtdjeilbhdleopaaGreatP01
import Derived.Test.YtdjeilbhdleopaaGreatP02
set_option linter.unusedVariables false
set_option linter.unusedSimpArgs false
set_option maxHeartbeats 4000000
set_option maxRecDepth 10000
namespace Go.AW
open Go
abbrev Sp := List UInt8 × (Int × Int)
def spD (x : Sp) : List D := [.s (.string ⟨x.1.toArray⟩), .s (.int .i64 x.2.1), .s (.int .i64 x.2.2)]
abbrev spsD (l : List Sp) : List D := (l.map spD).flatten
theorem sps_drop {v r : List Sp} {x : Sp} {i : Nat} (h : v.drop i = x :: r) : (spsD v).drop (i * 3) = .s (.string ⟨x.1.toArray⟩) :: .s (.int .i64 x.2.1) :: .s (.int .i64 x.2.2) :: spsD r := by
  rw [spsD, flat_drop (f := spD) (sz := 3) (fun _ => rfl), h]; rfl
def upS (x : Spn) : Sp := (x.1, ((x.2.1 : Nat) : Int), ((x.2.2 : Nat) : Int))
abbrev spnsD (l : List Spn) : List D := spsD (l.map upS)
theorem spns_snoc (l : List Spn) (x : Spn) : spnsD (l ++ [x]) = spnsD l ++ [D.s (.string ⟨x.1.toArray⟩), .s (.int .i64 (x.2.1 : Nat)), .s (.int .i64 (x.2.2 : Nat))] := by
  simp [spnsD, spsD, upS, spD]
def cutS (s : List UInt8) (x : Sp) : List UInt8 := if x.2.1 < 0 ∨ (s.length : Int) < x.2.2 ∨ x.2.2 < x.2.1 then [] else (s.drop x.2.1.toNat).take (x.2.2.toNat - x.2.1.toNat)
def strsD (l : List (List UInt8)) : List D := l.map fun s => .s (.string ⟨s.toArray⟩)
def findS (nm : List UInt8) : List Sp → Sp × Bool
  | [] => (([], 0, 0), false)
  | x :: l => if x.1 = nm then (x, true) else findS nm l
end Go.AW
