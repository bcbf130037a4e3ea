/- The order of samples makes no difference: plain. -/
import Derived.Test.YtibecmeajopmeaaDoorIAlikeP
namespace Go.Proofs.YtibecmeajopmeaaDoor.G
open Go.RowKit Go.Proofs.YtibecmeajopmeaaDoorW.PrintWords Go.Proofs.YtibecmeajopmeaaDoorW.PrintLast Go.Proofs.YtibecmeajopmeaaDoorW.PrintMore
set_option linter.unusedVariables false
set_option linter.unusedSimpArgs false
def colS (s : S35) : Col := ⟨s.f2.f0, s.f2.f1, s.f2.f2⟩
def stepM (W H : Int) (M : Int → Int → Px) (s : S35) : Int → Int → Px := addM W H M s.f0 s.f1 (colS s)
def foldM (W H : Int) (l : List S35) : Int → Int → Px := l.foldl (stepM W H) (fun _ _ => Px.zero)
theorem fold_snoc (W H : Int) (l : List S35) (s : S35) : foldM W H (l ++ [s]) = stepM W H (foldM W H l) s := by unfold foldM; rw [List.foldl_append]; rfl
theorem fold_good (W H : Int) (l : List S35) : GoodM (foldM W H l) := by
  have : ∀ (l : List S35) (M : Int → Int → Px), GoodM M → GoodM (l.foldl (stepM W H) M) := fun l => by
    induction l with
    | nil => exact fun M h => h
    | cons s l ih => exact fun M h => ih _ (good_add h)
  exact this l _ good_zero
/-- Is this a sample of that pixel? -/
def hits (W H : Int) (x y : Int) (s : S35) : Bool := hasB W H s.f0 s.f1 && okC (colS s) && decide (s.f0 = x ∧ s.f1 = y)
def sumI (f : S35 → Int) : List S35 → Int
  | [] => 0
  | s :: l => f s + sumI f l
theorem sumI_append (f : S35 → Int) : ∀ l m, sumI f (l ++ m) = sumI f l + sumI f m
  | [], m => by simp [sumI]
  | s :: l, m => by
    rw [List.cons_append, sumI, sumI, sumI_append f l m]
    omega
theorem sumI_perm (f : S35 → Int) {l m : List S35} (h : l.Perm m) : sumI f l = sumI f m := by
  induction h with
  | nil => rfl
  | cons s _ ih => rw [sumI, sumI, ih]
  | swap a b l => simp only [sumI]; omega
  | trans _ _ h1 h2 => exact h1.trans h2
def fN (W H x y : Int) (s : S35) : Int := if hits W H x y s then 1 else 0
def fC (g : Col → Int) (W H x y : Int) (s : S35) : Int := if hits W H x y s then g (colS s) else 0
def sumPx (W H x y : Int) (l : List S35) : Px := ⟨sumI (fC Col.r W H x y) l, sumI (fC Col.g W H x y) l, sumI (fC Col.b W H x y) l, sumI (fN W H x y) l⟩
theorem sumN_le (W H x y : Int) : ∀ l, sumI (fN W H x y) l ≤ l.length
  | [] => by simp [sumI]
  | s :: l => by
    have := sumN_le W H x y l
    have h1 : fN W H x y s ≤ 1 := by
      unfold fN
      split <;> omega
    rw [sumI, List.length_cons]
    omega
theorem sum_snoc (W H x y : Int) (l : List S35) (s : S35) : sumPx W H x y (l ++ [s]) = if hits W H x y s then addPx (sumPx W H x y l) (colS s) else sumPx W H x y l := by
  unfold sumPx
  simp only [sumI_append]
  by_cases c : hits W H x y s = true
  · rw [if_pos c]
    simp [sumI, fN, fC, c, addPx]
  · rw [if_neg c]
    have c' : hits W H x y s = false := by simpa using c
    simp [sumI, fN, fC, c']
theorem step_at {W H : Int} {M : Int → Int → Px} {s : S35} (hn : ∀ x y, (M x y).n < 65536) (x y : Int) : stepM W H M s x y = if hits W H x y s then addPx (M x y) (colS s) else M x y := by
  unfold stepM addM addE hits
  cases h1 : hasB W H s.f0 s.f1 with
  | false => simp
  | true =>
    cases h2 : okC (colS s) with
    | false => simp
    | true =>
      have h3 : ¬ (M s.f0 s.f1).n ≥ 65536 := by have := hn s.f0 s.f1; omega
      simp only [if_neg h3, Bool.true_and, decide_eq_true_eq]
      rw [if_pos (by decide)]
      unfold setM
      by_cases c : s.f0 = x ∧ s.f1 = y
      · obtain ⟨c1, c2⟩ := c
        subst c1 c2
        simp
      · rw [if_neg c, if_neg (fun h => c ⟨h.1.symm, h.2.symm⟩)]
theorem fold_sum (W H : Int) (l : List S35) : ∀ k, k ≤ l.length → l.length ≤ 1000 → ∀ x y, foldM W H (l.take k) x y = sumPx W H x y (l.take k)
  | 0, _, _, x, y => rfl
  | k + 1, hk, hl, x, y => by
    have ih := fold_sum W H l k (by omega) hl
    rw [List.take_add_one, List.getElem?_eq_getElem (show k < l.length by omega)]
    show foldM W H (l.take k ++ [l[k]]) x y = sumPx W H x y (l.take k ++ [l[k]])
    rw [fold_snoc, sum_snoc, step_at, ih]
    intro x y
    rw [ih]
    show sumI (fN W H x y) (l.take k) < 65536
    have h1 := sumN_le W H x y (l.take k)
    have h2 : (l.take k).length ≤ l.length := by rw [List.length_take]; omega
    omega
theorem fold_perm (W H : Int) {l m : List S35} (h : l.Perm m) (hl : l.length ≤ 1000) : foldM W H l = foldM W H m := by
  have e1 : l.take l.length = l := List.take_length
  have e2 : m.take m.length = m := List.take_length
  funext x y
  have h1 := fold_sum W H l l.length (Nat.le_refl _) hl x y
  have h2 := fold_sum W H m m.length (Nat.le_refl _) (by rw [← h.length_eq]; exact hl) x y
  rw [e1] at h1
  rw [e2] at h2
  rw [h1, h2]
  unfold sumPx
  rw [sumI_perm _ h, sumI_perm _ h, sumI_perm _ h, sumI_perm _ h]
/-- The samples, beginning with number t. -/
def rot (l : List S35) (t : Nat) : List S35 := l.drop t ++ l.take t
theorem rot_len (l : List S35) {t : Nat} (h : t ≤ l.length) : (rot l t).length = l.length := by
  unfold rot
  rw [List.length_append, List.length_drop, List.length_take]
  omega
theorem rot_fold (W H : Int) (l : List S35) (t : Nat) (hl : l.length ≤ 1000) (ht : t ≤ l.length) : foldM W H (rot l t) = foldM W H l := by
  refine fold_perm W H ?_ (by rw [rot_len l ht]; exact hl)
  unfold rot
  have := List.perm_append_comm (l₁ := l.drop t) (l₂ := l.take t)
  rwa [List.take_append_drop] at this
theorem rot_at (l : List S35) {t j : Nat} (ht : t < l.length) (hj : j < l.length) : (rot l t)[j]? = l[(j + t) % l.length]? := by
  unfold rot
  by_cases c : j < l.length - t
  · rw [List.getElem?_append_left (by rw [List.length_drop]; omega), List.getElem?_drop, Nat.mod_eq_of_lt (by omega), Nat.add_comm]
  · rw [List.getElem?_append_right (by rw [List.length_drop]; omega), List.length_drop, List.getElem?_take, if_pos (by omega)]
    congr 1
    rw [Nat.mod_eq_sub_mod (by omega), Nat.mod_eq_of_lt (by omega)]
    omega
theorem fold_next (W H : Int) (l : List S35) {j : Nat} {s : S35} (h : l[j]? = some s) : foldM W H (l.take (j + 1)) = stepM W H (foldM W H (l.take j)) s := by
  rw [List.take_add_one, h]
  exact fold_snoc W H _ s
end Go.Proofs.YtibecmeajopmeaaDoor.G
