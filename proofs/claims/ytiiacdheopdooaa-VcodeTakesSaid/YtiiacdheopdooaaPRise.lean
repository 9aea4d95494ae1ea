/-
  Plain: texts that rise.
-/
import GoSem.Op.String
namespace Go.AW
open Go

abbrev lessB (x y : List UInt8) : Bool := Op.bytesLess x y

theorem less_nil_cons (b : UInt8) (y : List UInt8) : Op.bytesLess [] (b :: y) = true := by simp [Op.bytesLess]
theorem less_nil (x : List UInt8) : Op.bytesLess x [] = false := by cases x <;> simp [Op.bytesLess]
theorem less_cons (a b : UInt8) (x y : List UInt8) : Op.bytesLess (a :: x) (b :: y) = (decide (a < b) || (a == b && Op.bytesLess x y)) := by simp [Op.bytesLess]

theorem less_tri : ∀ x y : List UInt8, (Op.bytesLess x y || decide (x = y)) = !Op.bytesLess y x
  | [], [] => by simp [less_nil]
  | [], b :: y => by simp [less_nil_cons, less_nil]
  | a :: x, [] => by simp [less_nil_cons, less_nil]
  | a :: x, b :: y => by
    have ih := less_tri x y
    rw [less_cons, less_cons]
    by_cases h : a = b
    · subst h
      simp
      simpa using ih
    · have h2 : ¬ b = a := fun e => h e.symm
      have h3 : decide (a < b) = !decide (b < a) := by
        by_cases h4 : a < b
        · have h5 : ¬ b < a := fun h5 => absurd (UInt8.lt_trans h4 h5) (UInt8.lt_irrefl a)
          simp [h4, h5]
        · have h5 : b < a := by
            rcases UInt8.lt_or_lt_of_ne h with h6 | h6
            · exact absurd h6 h4
            · exact h6
          simp [h4, h5]
      have e1 : (a == b) = false := by simp [h]
      have e2 : (b == a) = false := by simp [h2]
      simp [h, h3, e1, e2]

def rgo : List UInt8 → List (List UInt8) → Int → Int
  | _, [], _ => -1
  | p, x :: r, i => if Op.bytesLess p x = true then rgo x r (i + 1) else i
/-- The first place at which texts don't rise. -/
def rise : List (List UInt8) → Int
  | [] => -1
  | x :: r => rgo x r 1
end Go.AW
