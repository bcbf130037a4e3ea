/- The document's sums: plain. -/
import Derived.Test.YtibecmeajopmeaaDoorIRefA
namespace Go.Proofs.YtibecmeajopmeaaDoor.G
open Go.RowKit Go.Proofs.YtibecmeajopmeaaDoorW.PrintWords Go.Proofs.YtibecmeajopmeaaDoorW.PrintLast Go.Proofs.YtibecmeajopmeaaDoorW.PrintMore
set_option linter.unusedVariables false
set_option linter.unusedSimpArgs false
/-- The samples that were taken. -/
def keptL (W H : Int) (l : List S35) : List S35 := l.filter (accB W H)
theorem kept_snoc (W H : Int) (l : List S35) (s : S35) : keptL W H (l ++ [s]) = accL W H (keptL W H l) s := by
  unfold keptL accL
  rw [List.filter_append, List.filter_cons]
  split <;> simp
theorem kept_acc {W H : Int} {l : List S35} {s : S35} (h : s ∈ keptL W H l) : accB W H s = true := (List.mem_filter.1 h).2
theorem kept_len (W H : Int) (l : List S35) : (keptL W H l).length ≤ l.length := List.length_filter_le _ _
theorem step_no {W H : Int} {M : Int → Int → Px} {s : S35} (h : accB W H s = false) : stepM W H M s = M := by
  unfold stepM addM
  refine if_neg ?_
  unfold addE
  unfold accB at h
  cases h1 : hasB W H s.f0 s.f1 with
  | false => simp
  | true =>
    rw [h1, Bool.true_and] at h
    rw [h]
    simp
theorem kept_fold (W H : Int) (l : List S35) : foldM W H (keptL W H l) = foldM W H l := by
  have : ∀ (l : List S35) (M : Int → Int → Px), (keptL W H l).foldl (stepM W H) M = l.foldl (stepM W H) M := fun l => by
    induction l with
    | nil => exact fun M => rfl
    | cons s l ih =>
      intro M
      unfold keptL
      rw [List.filter_cons]
      cases ha : accB W H s with
      | true =>
        rw [if_pos rfl, List.foldl_cons, List.foldl_cons]
        exact ih _
      | false =>
        rw [if_neg (by decide), List.foldl_cons, step_no ha]
        exact ih _
  exact this l _
/-- The sums of the first j samples at a pixel. -/
def sumTo (W H x y : Int) (l : List S35) (j : Nat) : Px := sumPx W H x y (l.take j)
theorem sumTo_next {W H x y : Int} {l : List S35} {j : Nat} {s : S35} (h : l[j]? = some s) (ha : accB W H s = true) :
    sumTo W H x y l (j + 1) = if s.f0 = x ∧ s.f1 = y then addPx (sumTo W H x y l j) (colS s) else sumTo W H x y l j := by
  unfold sumTo
  rw [List.take_add_one, h]
  show sumPx W H x y (l.take j ++ [s]) = _
  rw [sum_snoc]
  have : hits W H x y s = decide (s.f0 = x ∧ s.f1 = y) := by
    unfold hits
    unfold accB at ha
    rw [ha, Bool.true_and]
  rw [this]
  simp only [decide_eq_true_eq]
theorem sumTo_good {W H x y : Int} {l : List S35} {j : Nat} (hj : j ≤ l.length) (hl : l.length ≤ 1000) :
    0 ≤ (sumTo W H x y l j).n ∧ (sumTo W H x y l j).n ≤ j ∧ 0 ≤ (sumTo W H x y l j).r ∧ (sumTo W H x y l j).r ≤ 255000 ∧ 0 ≤ (sumTo W H x y l j).g ∧ (sumTo W H x y l j).g ≤ 255000 ∧ 0 ≤ (sumTo W H x y l j).b ∧ (sumTo W H x y l j).b ≤ 255000 := by
  have h1 := fold_good W H (l.take j) x y
  rw [fold_sum W H l j hj hl x y] at h1
  have h2 : (sumTo W H x y l j).n ≤ (l.take j).length := sumN_le W H x y (l.take j)
  rw [List.length_take] at h2
  unfold sumTo at h2 ⊢
  omega
theorem sumTo_all {W H x y : Int} {l : List S35} (hl : l.length ≤ 1000) : sumTo W H x y l l.length = foldM W H l x y := by
  unfold sumTo
  rw [← fold_sum W H l l.length (Nat.le_refl _) hl x y, List.take_length]
/-- The colour of the sums. -/
theorem quo_small {a n : Int} (h0 : 0 ≤ a) (h1 : a ≤ 255000) (hn : 0 < n) : wrap64 (Int.tdiv a n) = a / n := by
  rw [Int.tdiv_eq_ediv_of_nonneg h0]
  have h2 := Int.ediv_nonneg h0 (Int.le_of_lt hn)
  have h3 := Int.ediv_le_self n h0
  unfold wrap64
  omega
theorem col_some {p : Px} (h : 0 < p.n) (b : 0 ≤ p.r ∧ p.r ≤ 255000 ∧ 0 ≤ p.g ∧ p.g ≤ 255000 ∧ 0 ≤ p.b ∧ p.b ≤ 255000) : colR p = p.r / p.n ∧ colG p = p.g / p.n ∧ colB p = p.b / p.n := by
  have hm : mx p.n 1 = p.n := by unfold mx; split <;> omega
  unfold colR colG colB
  rw [hm]
  exact ⟨quo_small b.1 b.2.1 h, quo_small b.2.2.1 b.2.2.2.1 h, quo_small b.2.2.2.2.1 b.2.2.2.2.2 h⟩
theorem col_none {p : Px} (h : ¬ 0 < p.n) (h0 : 0 ≤ p.n) (b : 0 ≤ p.r ∧ p.r ≤ 255000 ∧ 0 ≤ p.g ∧ p.g ≤ 255000 ∧ 0 ≤ p.b ∧ p.b ≤ 255000) : colR p = p.r ∧ colG p = p.g ∧ colB p = p.b := by
  have hm : mx p.n 1 = 1 := by unfold mx; split <;> omega
  unfold colR colG colB
  rw [hm, Int.tdiv_one, Int.tdiv_one, Int.tdiv_one]
  unfold wrap64
  omega
/-- A cell of a variable of three is written. -/
theorem put3 {B g : Nat} {w W : World} {a b c : Value} {cs : Array Value} (hg : W.heap[g]? = some (.cells #[a, b, c] 33 (0, 0))) (i : Nat) (u : Value) (hcs : (#[a, b, c] : Array Value).setIfInBounds i u = cs) (HB : Below B w W) (hB : B ≤ g) :
    (W.setCell ⟨g, i, none⟩ u).drew.heap[g]? = some (.cells cs 33 (0, 0)) ∧ Below B w (W.setCell ⟨g, i, none⟩ u).drew ∧ ∀ k, k ≠ g → (W.setCell ⟨g, i, none⟩ u).drew.heap[k]? = W.heap[k]? := by
  refine ⟨?_, below_drew1 (HB.setCell hB _), fun k hk => Below.heap_setCell _ _ _ _ hk⟩
  rw [← hcs]
  exact blk_set (w := W) hg i u
/-- All three are. -/
theorem putAll {B g : Nat} {w W : World} {a b c x y z : Value} (hg : W.heap[g]? = some (.cells #[a, b, c] 33 (0, 0))) (HB : Below B w W) (hB : B ≤ g) :
    (((W.setCell ⟨g, 0, none⟩ x).setCell ⟨g, 1, none⟩ y).setCell ⟨g, 2, none⟩ z).drew.heap[g]? = some (.cells #[x, y, z] 33 (0, 0)) ∧ Below B w (((W.setCell ⟨g, 0, none⟩ x).setCell ⟨g, 1, none⟩ y).setCell ⟨g, 2, none⟩ z).drew ∧ ∀ k, k ≠ g → (((W.setCell ⟨g, 0, none⟩ x).setCell ⟨g, 1, none⟩ y).setCell ⟨g, 2, none⟩ z).drew.heap[k]? = W.heap[k]? :=
  ⟨blk_set (blk_set (blk_set hg 0 x) 1 y) 2 z, below_drew1 (((HB.setCell hB _).setCell hB _).setCell hB _), fun k hk => (Below.heap_setCell _ _ _ _ hk).trans ((Below.heap_setCell _ _ _ _ hk).trans (Below.heap_setCell _ _ _ _ hk))⟩
end Go.Proofs.YtibecmeajopmeaaDoor.G
