/- The cache, plain: what stays true from Get to Get. -/
import Derived.Test.YtfhjdhhflpekiaaCPlain
namespace Go.Proofs.Cache
def I64 (i : Int) : Prop := -9223372036854775808 ≤ i ∧ i ≤ 9223372036854775807
theorem inv_make {sizes : List Int} {p : PS} (h : Inv sizes p) : InvR sizes { nowP p with tb := p.tb + 1 } := by
  have h1 := h.now
  have h2 := h.len
  have h3 := h.tb
  have h4 := h.td
  have h5 := h.tp
  have h6 := h.sum
  refine ⟨h.room, ?_, ?_, h.size, fun k hk => ⟨(h.asked k hk).1, ?_⟩, ?_, h4.1, h5.1, ?_, h.tm, h.roomy⟩
  · show 0 ≤ p.now + 1; omega
  · show (p.kept.length : Int) ≤ p.now + 1; omega
  · show k.asked ≤ p.now + 1; have := (h.asked k hk).2; omega
  · show 0 ≤ p.tb + 1 ∧ p.tb + 1 ≤ p.now + 1; omega
  · show p.tb + 1 = p.td + p.tp + p.kept.length + 1; omega
theorem size_le {sizes : List Int} {i : Int} (hb : badI sizes i = false) (hs : ∀ x ∈ sizes, x ≤ 1000) : sizeI sizes i ≤ 1000 := by
  unfold badI at hb
  simp only [Bool.or_eq_false_iff, decide_eq_false_iff_not] at hb
  have hm : sizes.getD i.toNat 0 ∈ sizes := by
    rw [List.getD_eq_getElem?_getD, List.getElem?_eq_getElem (by omega)]
    exact List.getElem_mem _
  have := hs _ hm
  unfold sizeI
  omega
theorem roomP_kept (n : Nat) : ∀ f s, ∀ k, k ∈ (roomP n f s).kept → k ∈ s.kept
  | 0, _, _, h => h
  | f + 1, s, k, h => by
    rw [roomP] at h
    split at h
    · exact List.mem_of_mem_eraseIdx (roomP_kept n f (dropP s) k h)
    · exact h
theorem keepP_now (s : PS) (k : Ke) : (keepP s k).now = s.now := by
  unfold keepP
  split
  · rfl
  · exact (roomP_same _ _ _).2.1
theorem keepP_room (s : PS) (k : Ke) : (keepP s k).room = s.room := by
  unfold keepP
  split
  · rfl
  · exact (roomP_same _ _ _).1
theorem keepP_tb (s : PS) (k : Ke) : (keepP s k).tb = s.tb := by
  unfold keepP
  split
  · rfl
  · exact (roomP_same _ _ _).2.2.1
theorem Inv.keep {sizes : List Int} {s : PS} {k : Ke} (h : InvR sizes s) (hk : badI sizes k.i = false ∧ k.n = sizeI sizes k.i ∧ k.n ≤ 1000 ∧ I64 k.i) (ha : 0 ≤ k.asked ∧ k.asked ≤ s.now) : Inv sizes (keepP s k) := by
  unfold keepP
  by_cases c : s.room < k.n
  · rw [if_pos c]
    have h1 := h.sum
    have h2 := h.tb
    have h3 := h.td
    have h4 := h.tp
    refine ⟨h.room, h.now, h.len, h.size, h.asked, h.tb, ⟨h.td, ?_⟩, ⟨?_, ?_⟩, ?_, h.tm, h.roomy⟩
    · show s.td ≤ s.tb; omega
    · show 0 ≤ s.tp + 1; omega
    · show s.tp + 1 ≤ s.tb; omega
    · show s.tb = s.td + (s.tp + 1) + s.kept.length; omega
  · rw [if_neg c]
    obtain ⟨hr, hh⟩ := InvR.roomP (n := k.n) s.kept.length h (by omega) (Nat.le_refl _)
    have e := roomP_same k.n s.kept.length s
    generalize roomP k.n s.kept.length s = r at hr hh e
    obtain ⟨e1, e2, e3, e4, e5⟩ := e
    have h1 := hr.sum
    have h2 := hr.tb
    have h3 := hr.td
    have h4 := hr.tp
    have h5 := hr.len
    have h6 := hr.tm
    have h7 := hr.roomy
    have hs := held_snoc r.kept k
    refine ⟨hr.room, hr.now, ?_, ?_, ?_, hr.tb, ⟨hr.td, ?_⟩, ⟨hr.tp, ?_⟩, ?_, ?_, ?_⟩
    · show ((r.kept ++ [k]).length : Int) ≤ r.now
      rw [List.length_append, List.length_singleton]
      omega
    · intro x hx
      rcases List.mem_append.1 hx with y | y
      · exact hr.size x y
      · rw [List.mem_singleton.1 y]
        exact hk
    · intro x hx
      rcases List.mem_append.1 hx with y | y
      · exact hr.asked x y
      · rw [List.mem_singleton.1 y]
        show 0 ≤ k.asked ∧ k.asked ≤ r.now
        omega
    · show r.td ≤ r.tb; omega
    · show r.tp ≤ r.tb; omega
    · show r.tb = r.td + r.tp + ((r.kept ++ [k]).length : Nat)
      rw [List.length_append, List.length_singleton]
      omega
    · show 0 ≤ max r.tm ((held (r.kept ++ [k]) : Nat) : Int) ∧ max r.tm ((held (r.kept ++ [k]) : Nat) : Int) ≤ r.room
      rw [hs]
      omega
    · show ((held (r.kept ++ [k]) : Nat) : Int) ≤ r.room
      rw [hs]
      omega
theorem Inv.now_ {sizes : List Int} {s : PS} (h : Inv sizes s) : Inv sizes (nowP s) := by
  have h1 := h.now
  have h2 := h.len
  have h3 := h.tb
  refine ⟨h.room, ?_, ?_, h.size, fun k hk => ⟨(h.asked k hk).1, ?_⟩, ⟨h3.1, ?_⟩, h.td, h.tp, h.sum, h.tm, h.roomy⟩
  · show 0 ≤ s.now + 1; omega
  · show (s.kept.length : Int) ≤ s.now + 1; omega
  · show k.asked ≤ s.now + 1; have := (h.asked k hk).2; omega
  · show s.tb ≤ s.now + 1; omega
theorem sum_set (l : List Ke) (j : Nat) (k : Ke) (h : ∀ x, l[j]? = some x → x.n = k.n) : ((l.set j k).map (·.n)) = l.map (·.n) := by
  apply List.ext_getElem?
  intro i
  rw [List.getElem?_map, List.getElem?_map]
  by_cases e : j = i
  · subst e
    by_cases c : j < l.length
    · rw [List.getElem?_set_self c, List.getElem?_eq_getElem c]
      simp [h _ (List.getElem?_eq_getElem c)]
    · rw [List.getElem?_eq_none (by simpa using c), List.getElem?_eq_none (by omega)]
  · rw [List.getElem?_set_ne e]
theorem getD_of {l : List Ke} {j : Nat} (h : j < l.length) : l[j]? = some (l.getD j ⟨0, 0, 0⟩) := by
  rw [List.getD_eq_getElem?_getD, List.getElem?_eq_getElem h]
  rfl
theorem getD_mem {l : List Ke} {j : Nat} (h : j < l.length) : l.getD j ⟨0, 0, 0⟩ ∈ l := by
  rw [List.getD_eq_getElem?_getD, List.getElem?_eq_getElem h]
  exact List.getElem_mem _
theorem Inv.hit {sizes : List Int} {s : PS} (h : Inv sizes s) {j : Nat} (hj : j < s.kept.length) : Inv sizes (hitP s j) := by
  have hm := getD_mem hj
  have hn : ((hitP s j).kept.map (·.n)) = s.kept.map (·.n) := sum_set _ _ _ (fun x hx => by rw [getD_of hj] at hx; cases hx; rfl)
  refine ⟨h.room, h.now, ?_, ?_, ?_, h.tb, h.td, h.tp, ?_, h.tm, ?_⟩
  · show ((s.kept.set j _).length : Int) ≤ s.now
    rw [List.length_set]
    exact h.len
  · intro x hx
    rcases List.mem_or_eq_of_mem_set hx with y | rfl
    · exact h.size x y
    · have z := h.size _ hm
      exact z
  · intro x hx
    rcases List.mem_or_eq_of_mem_set hx with y | rfl
    · exact h.asked x y
    · exact ⟨h.now, Int.le_refl _⟩
  · show s.tb = s.td + s.tp + ((s.kept.set j _).length : Nat)
    rw [List.length_set]
    exact h.sum
  · have := h.roomy
    rw [held_eq_sum] at this ⊢
    rw [hn]
    exact this
theorem Inv.get {sizes : List Int} {s : PS} {i : Int} (h : Inv sizes s) (hs : ∀ x ∈ sizes, x ≤ 1000) (hi : I64 i) : Inv sizes (getP sizes s i) := by
  unfold getP
  split
  · rename_i c
    exact h.now_.hit c
  · split
    · exact h.now_
    · rename_i hb
      have hb' : badI sizes i = false := by simpa using hb
      have h1 := h.now
      refine Inv.keep (inv_make h) ⟨hb', rfl, size_le hb' hs, hi⟩ ⟨?_, ?_⟩
      · show 0 ≤ s.now + 1; omega
      · show s.now + 1 ≤ s.now + 1; omega
theorem getP_now {sizes : List Int} {s : PS} {i : Int} : (getP sizes s i).now = s.now + 1 := by
  unfold getP
  split
  · rfl
  · split
    · rfl
    · exact keepP_now _ _
theorem getP_room {sizes : List Int} {s : PS} {i : Int} : (getP sizes s i).room = s.room := by
  unfold getP
  split
  · rfl
  · split
    · rfl
    · exact keepP_room _ _
theorem find_mem {l : List Ke} {i : Int} (h : findI l i < l.length) : ∃ k ∈ l, k.i = i :=
  ⟨_, List.getElem_mem h, beq_iff_eq.1 (List.findIdx_getElem (w := h))⟩
theorem okP_eq {sizes : List Int} {s : PS} {i : Int} (h : Inv sizes s) : okP sizes s i = !badI sizes i := by
  unfold okP
  by_cases c : findI s.kept i < s.kept.length
  · obtain ⟨k, hk, rfl⟩ := find_mem c
    rw [(h.size k hk).1]
    simp
  · simp [c]
/-- The state behind the first j Gets. -/
def runP (sizes : List Int) (p : PS) (gets : List Int) : Nat → PS
  | 0 => p
  | j + 1 => getP sizes (runP sizes p gets j) (gets.getD j 0)
theorem run_inv {sizes : List Int} {p : PS} {gets : List Int} (h : Inv sizes p) (hs : ∀ x ∈ sizes, x ≤ 1000) (hg : ∀ x ∈ gets, I64 x) : ∀ j, j ≤ gets.length → Inv sizes (runP sizes p gets j)
  | 0, _ => h
  | j + 1, hj => by
    refine (run_inv h hs hg j (by omega)).get hs (hg _ ?_)
    rw [List.getD_eq_getElem?_getD, List.getElem?_eq_getElem (by omega)]
    exact List.getElem_mem _
theorem run_now {sizes : List Int} {p : PS} {gets : List Int} : ∀ j, (runP sizes p gets j).now = p.now + j
  | 0 => by simp [runP]
  | j + 1 => by
    rw [runP, getP_now, run_now j]
    omega
theorem run_room {sizes : List Int} {p : PS} {gets : List Int} : ∀ j, (runP sizes p gets j).room = p.room
  | 0 => rfl
  | j + 1 => by rw [runP, getP_room, run_room j]
def startP (room : Int) (l : List Int) : PS := ⟨if room < 0 then 0 else room, l, 0, [], 0, 0, 0, 0⟩
theorem start_inv {sizes : List Int} {room : Int} {l : List Int} (hr : I64 room) : Inv sizes (startP room l) := by
  unfold I64 at hr
  have : 0 ≤ (startP room l).room ∧ (startP room l).room ≤ 9223372036854775807 := by
    show 0 ≤ (if room < 0 then 0 else room) ∧ (if room < 0 then 0 else room) ≤ _
    split <;> omega
  refine ⟨this, Int.le_refl _, Int.le_refl _, fun k hk => absurd hk (by simp [startP]), fun k hk => absurd hk (by simp [startP]), ⟨Int.le_refl _, Int.le_refl _⟩, ⟨Int.le_refl _, Int.le_refl _⟩, ⟨Int.le_refl _, Int.le_refl _⟩, rfl, ⟨Int.le_refl _, this.1⟩, this.1⟩
/-- Two meshes in turns, with room for one. -/
theorem alive_run : runP [3, 4] (startP 5 []) [0, 1, 0] 3 = ⟨5, [], 3, [⟨0, 3, 3⟩], 3, 2, 0, 4⟩ := by rfl
end Go.Proofs.Cache
