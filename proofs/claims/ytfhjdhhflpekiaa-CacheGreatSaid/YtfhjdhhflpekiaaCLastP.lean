/- CacheLast, plain: what was got just now is kept, if there is room for it. -/
import Derived.Test.YtfhjdhhflpekiaaCInv
namespace Go.Proofs.Cache
theorem find_snoc (l : List Ke) (k : Ke) : findI (l ++ [k]) k.i < (l ++ [k]).length := by
  unfold findI
  exact List.findIdx_lt_length_of_exists ⟨k, by simp, by simp⟩
theorem find_of_mem {l : List Ke} {k : Ke} (h : k ∈ l) : findI l k.i < l.length := by
  unfold findI
  exact List.findIdx_lt_length_of_exists ⟨k, h, by simp⟩
theorem heldTo_mono (l : List Ke) : ∀ j, heldTo l j ≤ heldTo l (j + 1) := fun j => by
  rw [heldTo]
  omega
theorem n_le_sum : ∀ (l : List Ke) (k : Ke), k ∈ l → k.n ≤ (l.map (·.n)).sum
  | x :: l, k, h => by
    rw [List.map_cons, List.sum_cons]
    rcases List.mem_cons.1 h with rfl | h
    · omega
    · have := n_le_sum l k h
      omega
theorem n_le_held {l : List Ke} {k : Ke} (h : k ∈ l) : k.n ≤ held l := by
  rw [held_eq_sum]
  exact n_le_sum l k h
theorem size_int {sizes : List Int} {i : Int} (hb : badI sizes i = false) : (sizeI sizes i : Int) = sizes.getD i.toNat 0 := by
  unfold badI at hb
  simp only [Bool.or_eq_false_iff, decide_eq_false_iff_not] at hb
  unfold sizeI
  omega
theorem find_set {l : List Ke} {i : Int} (j : Nat) (t : Int) : findI (l.set j { l.getD j ⟨0, 0, 0⟩ with asked := t }) i = findI l i := by
  unfold findI
  by_cases c : j < l.length
  · induction l generalizing j with
    | nil => rfl
    | cons x l ih =>
      cases j with
      | zero => simp [List.findIdx_cons]
      | succ j =>
        simp only [List.set_cons_succ, List.getD_cons_succ, List.findIdx_cons]
        rw [ih j (by simpa using c)]
  · rw [List.set_eq_of_length_le (by omega)]
theorem last_there {sizes : List Int} {p : PS} {i : Int} (h : Inv sizes p) (hb : badI sizes i = false) : decide (findI (getP sizes p i).kept i < (getP sizes p i).kept.length) = decide (sizes.getD i.toNat 0 ≤ p.room) := by
  have hsz := size_int hb
  unfold getP
  by_cases c : findI p.kept i < p.kept.length
  · rw [if_pos c]
    have h1 : findI (hitP (nowP p) (findI p.kept i)).kept i < (hitP (nowP p) (findI p.kept i)).kept.length := by
      show findI (p.kept.set _ { p.kept.getD _ ⟨0, 0, 0⟩ with asked := (nowP p).now }) i < (p.kept.set _ _).length
      rw [find_set, List.length_set]
      exact c
    obtain ⟨k, hk, rfl⟩ := find_mem c
    have h2 := n_le_held hk
    have h3 := (h.size k hk).2.1
    have h4 := h.roomy
    rw [decide_eq_true h1, decide_eq_true (by omega)]
  · rw [if_neg c, hb]
    show decide (findI (keepP _ (newK sizes (nowP p) i)).kept i < (keepP _ (newK sizes (nowP p) i)).kept.length) = _
    unfold keepP
    have hn : (newK sizes (nowP p) i).n = sizeI sizes i := rfl
    by_cases r : p.room < ((newK sizes (nowP p) i).n : Int)
    · rw [if_pos (show ({ nowP p with tb := (nowP p).tb + 1 } : PS).room < _ from r)]
      show decide (findI p.kept i < p.kept.length) = _
      rw [decide_eq_false c, decide_eq_false (by omega)]
    · rw [if_neg (show ¬ ({ nowP p with tb := (nowP p).tb + 1 } : PS).room < _ from r)]
      show decide (findI ((roomP (newK sizes (nowP p) i).n p.kept.length { nowP p with tb := (nowP p).tb + 1 }).kept ++ [newK sizes (nowP p) i]) i < ((roomP (newK sizes (nowP p) i).n p.kept.length { nowP p with tb := (nowP p).tb + 1 }).kept ++ [newK sizes (nowP p) i]).length) = _
      have := find_snoc (roomP (newK sizes (nowP p) i).n p.kept.length { nowP p with tb := (nowP p).tb + 1 }).kept (newK sizes (nowP p) i)
      have e : (newK sizes (nowP p) i).i = i := rfl
      rw [e] at this
      rw [decide_eq_true this, decide_eq_true (by omega)]
/-- A turn of the law: an error; else got twice. -/
def lastP (sizes : List Int) (p : PS) (i : Int) : PS := if badI sizes i then getP sizes p i else getP sizes (getP sizes p i) i
def runL (sizes : List Int) (p : PS) (gets : List Int) : Nat → PS
  | 0 => p
  | j + 1 => lastP sizes (runL sizes p gets j) (gets.getD j 0)
theorem runL_now {sizes : List Int} {p : PS} {gets : List Int} : ∀ j, (runL sizes p gets j).now ≤ p.now + 2 * j
  | 0 => by simp [runL]
  | j + 1 => by
    have := runL_now (sizes := sizes) (p := p) (gets := gets) j
    rw [runL]
    unfold lastP
    split
    · rw [getP_now]
      omega
    · rw [getP_now, getP_now]
      omega
theorem runL_room {sizes : List Int} {p : PS} {gets : List Int} : ∀ j, (runL sizes p gets j).room = p.room
  | 0 => rfl
  | j + 1 => by
    rw [runL]
    unfold lastP
    split
    · rw [getP_room, runL_room j]
    · rw [getP_room, getP_room, runL_room j]
end Go.Proofs.Cache
