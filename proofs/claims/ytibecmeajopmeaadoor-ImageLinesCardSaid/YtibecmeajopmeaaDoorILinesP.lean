/- How many lines a text has: plain. -/
import Derived.Test.YtibecmeajopmeaaDoorIText
namespace Go.Proofs.YtibecmeajopmeaaDoor.G
open Go.RowKit Go.Proofs.YtibecmeajopmeaaDoorW.PrintWords Go.Proofs.YtibecmeajopmeaaDoorW.PrintLast Go.Proofs.YtibecmeajopmeaaDoorW.PrintMore
set_option linter.unusedVariables false
set_option linter.unusedSimpArgs false
def nl (l : List UInt8) : Nat := l.count 10
theorem nl_append (l m : List UInt8) : nl (l ++ m) = nl l + nl m := List.count_append ..
theorem nl_digits : ∀ n : Nat, nl (Lib.decDigits n) = 0 := fun n => by
  induction n using Nat.strongRecOn with
  | _ n ih =>
    unfold Lib.decDigits
    have d : ∀ k, k < 10 → nl [UInt8.ofNat (48 + k)] = 0 := fun k hk => by
      have : k = 0 ∨ k = 1 ∨ k = 2 ∨ k = 3 ∨ k = 4 ∨ k = 5 ∨ k = 6 ∨ k = 7 ∨ k = 8 ∨ k = 9 := by omega
      rcases this with rfl | rfl | rfl | rfl | rfl | rfl | rfl | rfl | rfl | rfl <;> decide
    split
    · exact d n (by omega)
    · rw [nl_append, ih (n / 10) (by omega), d _ (by omega)]
theorem nl_itoa (n : Int) : nl (Lib.itoa n) = 0 := by
  unfold Lib.itoa
  split
  · show nl ([45] ++ Lib.decDigits n.natAbs) = 0
    rw [nl_append, nl_digits]
    rfl
  · exact nl_digits _
theorem nl_lineTo (l : List Int) : ∀ j, nl (lineTo l j) = 0
  | 0 => rfl
  | j + 1 => by
    rw [lineTo, nl_append, nl_append, nl_lineTo l j, nl_itoa]
    split <;> rfl
theorem nl_line (l : List Int) : nl (lineB l) = 1 := by
  unfold lineB
  rw [nl_append, nl_lineTo]
  rfl
theorem nl_row (M : Int → Int → Px) (j : Nat) : ∀ i, nl (rowTo M j i) = i
  | 0 => rfl
  | i + 1 => by
    rw [rowTo, nl_append, nl_row M j i]
    unfold pixB
    rw [nl_line]
theorem nl_all (M : Int → Int → Px) (W : Nat) : ∀ j, nl (allTo M W j) = W * j
  | 0 => rfl
  | j + 1 => by
    rw [allTo, nl_append, nl_all M W j, nl_row]
    rfl
theorem nl_text (W H : Nat) (M : Int → Int → Px) : nl (textB W H M) = 3 + W * H := by
  unfold textB headB
  rw [nl_append, nl_append, nl_append, nl_all, nl_line, nl_line]
  rfl
/-- The first j bytes. -/
def nlTo (l : List UInt8) (j : Nat) : Nat := nl (l.take j)
theorem nlTo_step (l : List UInt8) {j : Nat} (h : j < l.length) : nlTo l (j + 1) = nlTo l j + if l[j] = 10 then 1 else 0 := by
  unfold nlTo
  rw [List.take_add_one, List.getElem?_eq_getElem h, nl_append]
  congr 1
  show nl [l[j]] = _
  unfold nl
  rw [List.count_singleton]
  by_cases c : l[j] = 10
  · simp [c]
  · simp [c]
theorem nlTo_all (l : List UInt8) : nlTo l l.length = nl l := by unfold nlTo; rw [List.take_length]
theorem nlTo_le (l : List UInt8) (j : Nat) : nlTo l j ≤ j := by
  unfold nlTo nl
  exact Nat.le_trans (List.count_le_length) (List.length_take_le _ _)
end Go.Proofs.YtibecmeajopmeaaDoor.G
