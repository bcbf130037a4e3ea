/- Texts of the cache, put together: CPlain, CInv, CLastP, CGreatP. -/
namespace Go.Proofs.Cache
/-- What is kept: its number, when it was asked last, how many triangles it has. -/
structure Ke where
  i : Int
  asked : Int
  n : Nat
structure PS where
  room : Int
  picks : List Int
  now : Int
  kept : List Ke
  tb : Int
  td : Int
  tp : Int
  tm : Int
/-- How many triangles the first j have. -/
def heldTo (l : List Ke) : Nat → Nat
  | 0 => 0
  | j + 1 => heldTo l j + (l.getD j ⟨0, 0, 0⟩).n
def held (l : List Ke) : Nat := heldTo l l.length
/-- The place of the least of the first j (the first of equals). -/
def minAt (l : List Int) : Nat → Nat
  | 0 => 0
  | j + 1 => if l.getD j 0 < l.getD (minAt l j) 0 then j else minAt l j
def victimK (s : PS) : Nat := match s.picks with
  | [] => minAt (s.kept.map (·.asked)) s.kept.length
  | x :: _ => (x % (s.kept.length : Int)).toNat
def dropP (s : PS) : PS := { s with kept := s.kept.eraseIdx (victimK s), picks := s.picks.tail, td := s.td + 1 }
def roomP (n : Nat) : Nat → PS → PS
  | 0, s => s
  | f + 1, s => if s.room < (held s.kept : Int) + n then roomP n f (dropP s) else s
def addP (s : PS) (k : Ke) : PS := { s with kept := s.kept ++ [k], tm := max s.tm (held (s.kept ++ [k])) }
def keepP (s : PS) (k : Ke) : PS := if s.room < k.n then { s with tp := s.tp + 1 } else addP (roomP k.n s.kept.length s) k
/-- Where a number is kept (the length: nowhere). -/
def findI (l : List Ke) (i : Int) : Nat := l.findIdx fun k => k.i == i
def nowP (s : PS) : PS := { s with now := s.now + 1 }
def hitP (s : PS) (j : Nat) : PS := { s with kept := s.kept.set j { s.kept.getD j ⟨0, 0, 0⟩ with asked := s.now } }
def badI (sizes : List Int) (i : Int) : Bool := decide (i < 0) || decide ((sizes.length : Int) ≤ i) || decide (sizes.getD i.toNat 0 < 0)
def sizeI (sizes : List Int) (i : Int) : Nat := (sizes.getD i.toNat 0).toNat
def newK (sizes : List Int) (s : PS) (i : Int) : Ke := ⟨i, s.now, sizeI sizes i⟩
def buildP (sizes : List Int) (s : PS) (i : Int) : PS := keepP { s with tb := s.tb + 1 } (newK sizes s i)
def getP (sizes : List Int) (s : PS) (i : Int) : PS :=
  if findI s.kept i < s.kept.length then hitP (nowP s) (findI s.kept i)
  else if badI sizes i then nowP s
  else buildP sizes (nowP s) i
/-- Does Get answer with a mesh? -/
def okP (sizes : List Int) (s : PS) (i : Int) : Bool := decide (findI s.kept i < s.kept.length) || !badI sizes i
/-- What stays true from Get to Get. -/
structure Inv (sizes : List Int) (s : PS) : Prop where
  room : 0 ≤ s.room ∧ s.room ≤ 9223372036854775807
  now : 0 ≤ s.now
  len : (s.kept.length : Int) ≤ s.now
  size : ∀ k ∈ s.kept, badI sizes k.i = false ∧ k.n = sizeI sizes k.i ∧ k.n ≤ 1000 ∧ -9223372036854775808 ≤ k.i ∧ k.i ≤ 9223372036854775807
  asked : ∀ k ∈ s.kept, 0 ≤ k.asked ∧ k.asked ≤ s.now
  tb : 0 ≤ s.tb ∧ s.tb ≤ s.now
  td : 0 ≤ s.td ∧ s.td ≤ s.tb
  tp : 0 ≤ s.tp ∧ s.tp ≤ s.tb
  sum : s.tb = s.td + s.tp + s.kept.length
  tm : 0 ≤ s.tm ∧ s.tm ≤ s.room
  roomy : (held s.kept : Int) ≤ s.room
theorem heldTo_append (l : List Ke) (x : List Ke) : ∀ j, j ≤ l.length → heldTo (l ++ x) j = heldTo l j
  | 0, _ => rfl
  | j + 1, h => by
    rw [heldTo, heldTo, heldTo_append l x j (by omega)]
    congr 2
    rw [List.getD_eq_getElem?_getD, List.getD_eq_getElem?_getD, List.getElem?_append_left (by omega)]
theorem held_snoc (l : List Ke) (k : Ke) : held (l ++ [k]) = held l + k.n := by
  unfold held
  rw [List.length_append, List.length_singleton, heldTo, heldTo_append l _ _ (Nat.le_refl _)]
  congr 2
  rw [List.getD_eq_getElem?_getD, List.getElem?_append_right (Nat.le_refl _)]
  simp
theorem heldTo_le (l : List Ke) (B : Nat) (h : ∀ k ∈ l, k.n ≤ B) : ∀ j, j ≤ l.length → heldTo l j ≤ j * B
  | 0, _ => by simp [heldTo]
  | j + 1, hj => by
    have ih := heldTo_le l B h j (by omega)
    have : (l.getD j ⟨0, 0, 0⟩).n ≤ B := by
      rw [List.getD_eq_getElem?_getD, List.getElem?_eq_getElem (by omega)]
      exact h _ (List.getElem_mem _)
    rw [heldTo, Nat.succ_mul]
    omega
theorem held_le (l : List Ke) (B : Nat) (h : ∀ k ∈ l, k.n ≤ B) : held l ≤ l.length * B := heldTo_le l B h _ (Nat.le_refl _)
theorem heldTo_eq_sum (l : List Ke) : ∀ j, j ≤ l.length → heldTo l j = ((l.take j).map (·.n)).sum
  | 0, _ => by simp [heldTo]
  | j + 1, hj => by
    rw [heldTo, heldTo_eq_sum l j (by omega), List.take_add_one, List.getElem?_eq_getElem (show j < l.length by omega), List.getD_eq_getElem?_getD, List.getElem?_eq_getElem (show j < l.length by omega), List.map_append, List.sum_append]
    rfl
theorem held_eq_sum (l : List Ke) : held l = (l.map (·.n)).sum := by
  rw [held, heldTo_eq_sum l _ (Nat.le_refl _), List.take_length]
theorem sum_eraseIdx : ∀ (l : List Ke) (j : Nat), ((l.eraseIdx j).map (·.n)).sum ≤ (l.map (·.n)).sum
  | [], _ => by simp
  | k :: l, 0 => by simp
  | k :: l, j + 1 => by
    have := sum_eraseIdx l j
    simp only [List.eraseIdx_cons_succ, List.map_cons, List.sum_cons]
    omega
theorem minAt_lt (l : List Int) : ∀ j, 0 < j → minAt l j < j
  | 0, h => absurd h (by omega)
  | 1, _ => by simp [minAt]
  | j + 2, _ => by
    have := minAt_lt l (j + 1) (by omega)
    rw [minAt]
    split <;> omega
theorem victim_lt (s : PS) (h : 0 < s.kept.length) : victimK s < s.kept.length := by
  unfold victimK
  split
  · exact minAt_lt _ _ h
  · rename_i x r _
    have h1 := Int.emod_nonneg x (show (s.kept.length : Int) ≠ 0 by omega)
    have h2 := Int.emod_lt_of_pos x (show 0 < (s.kept.length : Int) by omega)
    omega
theorem drop_len (s : PS) (h : 0 < s.kept.length) : (dropP s).kept.length + 1 = s.kept.length := by
  have := victim_lt s h
  simp only [dropP, List.length_eraseIdx]
  rw [if_pos this]
  omega
/-- What stays true while room is made. -/
structure InvR (sizes : List Int) (s : PS) : Prop where
  room : 0 ≤ s.room ∧ s.room ≤ 9223372036854775807
  now : 0 ≤ s.now
  len : (s.kept.length : Int) ≤ s.now
  size : ∀ k ∈ s.kept, badI sizes k.i = false ∧ k.n = sizeI sizes k.i ∧ k.n ≤ 1000 ∧ -9223372036854775808 ≤ k.i ∧ k.i ≤ 9223372036854775807
  asked : ∀ k ∈ s.kept, 0 ≤ k.asked ∧ k.asked ≤ s.now
  tb : 0 ≤ s.tb ∧ s.tb ≤ s.now
  td : 0 ≤ s.td
  tp : 0 ≤ s.tp
  sum : s.tb = s.td + s.tp + s.kept.length + 1
  tm : 0 ≤ s.tm ∧ s.tm ≤ s.room
  roomy : (held s.kept : Int) ≤ s.room
theorem InvR.drop {sizes : List Int} {s : PS} (h : InvR sizes s) (hl : 0 < s.kept.length) : InvR sizes (dropP s) := by
  have e := drop_len s hl
  have hs : ∀ k ∈ (dropP s).kept, k ∈ s.kept := fun k hk => List.mem_of_mem_eraseIdx hk
  refine ⟨h.room, h.now, ?_, fun k hk => h.size k (hs k hk), fun k hk => h.asked k (hs k hk), h.tb, ?_, h.tp, ?_, h.tm, ?_⟩
  · have := h.len
    show ((dropP s).kept.length : Int) ≤ s.now
    omega
  · have := h.td
    show 0 ≤ s.td + 1
    omega
  · have := h.sum
    show s.tb = s.td + 1 + s.tp + (dropP s).kept.length + 1
    omega
  · have h1 := h.roomy
    have h2 := sum_eraseIdx s.kept (victimK s)
    rw [held_eq_sum] at h1
    show (held (s.kept.eraseIdx (victimK s)) : Int) ≤ s.room
    rw [held_eq_sum]
    omega
theorem held_nil : held [] = 0 := rfl
theorem roomP_same (n : Nat) : ∀ f s, (roomP n f s).room = s.room ∧ (roomP n f s).now = s.now ∧ (roomP n f s).tb = s.tb ∧ (roomP n f s).tp = s.tp ∧ (roomP n f s).tm = s.tm
  | 0, s => ⟨rfl, rfl, rfl, rfl, rfl⟩
  | f + 1, s => by
    rw [roomP]
    split
    · exact roomP_same n f (dropP s)
    · exact ⟨rfl, rfl, rfl, rfl, rfl⟩
theorem InvR.roomP {sizes : List Int} {n : Nat} : ∀ f {s : PS}, InvR sizes s → (n : Int) ≤ s.room → s.kept.length ≤ f → InvR sizes (roomP n f s) ∧ (held (Cache.roomP n f s).kept : Int) + n ≤ s.room
  | 0, s, h, hn, hl => by
    have : s.kept = [] := List.length_eq_zero_iff.1 (by omega)
    refine ⟨h, ?_⟩
    rw [Cache.roomP, this, held_nil]
    simpa using hn
  | f + 1, s, h, hn, hl => by
    rw [Cache.roomP]
    by_cases c : s.room < (held s.kept : Int) + n
    · rw [if_pos c]
      have hp : 0 < s.kept.length := by
        by_cases e : s.kept.length = 0
        · have : s.kept = [] := List.length_eq_zero_iff.1 e
          rw [this, held_nil] at c
          simp at c
          omega
        · omega
      have e := drop_len s hp
      exact InvR.roomP f (h.drop hp) hn (by omega)
    · rw [if_neg c]
      exact ⟨h, by omega⟩
end Go.Proofs.Cache

namespace Go.Proofs.Cache
def I64 (i : Int) : Prop := -9223372036854775808 ≤ i ∧ i ≤ 9223372036854775807
theorem inv_make {sizes : List Int} {p : PS} (h : Inv sizes p) : InvR sizes { nowP p with tb := p.tb + 1 } := by
  have h1 := h.now
  have h2 := h.len
  have h3 := h.tb
  have h4 := h.td
  have h5 := h.tp
  have h6 := h.sum
  refine ⟨h.room, ?_, ?_, h.size, fun k hk => ⟨(h.asked k hk).1, ?_⟩, ?_, h4.1, h5.1, ?_, h.tm, h.roomy⟩
  · show 0 ≤ p.now + 1; omega
  · show (p.kept.length : Int) ≤ p.now + 1; omega
  · show k.asked ≤ p.now + 1; have := (h.asked k hk).2; omega
  · show 0 ≤ p.tb + 1 ∧ p.tb + 1 ≤ p.now + 1; omega
  · show p.tb + 1 = p.td + p.tp + p.kept.length + 1; omega
theorem size_le {sizes : List Int} {i : Int} (hb : badI sizes i = false) (hs : ∀ x ∈ sizes, x ≤ 1000) : sizeI sizes i ≤ 1000 := by
  unfold badI at hb
  simp only [Bool.or_eq_false_iff, decide_eq_false_iff_not] at hb
  have hm : sizes.getD i.toNat 0 ∈ sizes := by
    rw [List.getD_eq_getElem?_getD, List.getElem?_eq_getElem (by omega)]
    exact List.getElem_mem _
  have := hs _ hm
  unfold sizeI
  omega
theorem roomP_kept (n : Nat) : ∀ f s, ∀ k, k ∈ (roomP n f s).kept → k ∈ s.kept
  | 0, _, _, h => h
  | f + 1, s, k, h => by
    rw [roomP] at h
    split at h
    · exact List.mem_of_mem_eraseIdx (roomP_kept n f (dropP s) k h)
    · exact h
theorem keepP_now (s : PS) (k : Ke) : (keepP s k).now = s.now := by
  unfold keepP
  split
  · rfl
  · exact (roomP_same _ _ _).2.1
theorem keepP_room (s : PS) (k : Ke) : (keepP s k).room = s.room := by
  unfold keepP
  split
  · rfl
  · exact (roomP_same _ _ _).1
theorem keepP_tb (s : PS) (k : Ke) : (keepP s k).tb = s.tb := by
  unfold keepP
  split
  · rfl
  · exact (roomP_same _ _ _).2.2.1
theorem Inv.keep {sizes : List Int} {s : PS} {k : Ke} (h : InvR sizes s) (hk : badI sizes k.i = false ∧ k.n = sizeI sizes k.i ∧ k.n ≤ 1000 ∧ I64 k.i) (ha : 0 ≤ k.asked ∧ k.asked ≤ s.now) : Inv sizes (keepP s k) := by
  unfold keepP
  by_cases c : s.room < k.n
  · rw [if_pos c]
    have h1 := h.sum
    have h2 := h.tb
    have h3 := h.td
    have h4 := h.tp
    refine ⟨h.room, h.now, h.len, h.size, h.asked, h.tb, ⟨h.td, ?_⟩, ⟨?_, ?_⟩, ?_, h.tm, h.roomy⟩
    · show s.td ≤ s.tb; omega
    · show 0 ≤ s.tp + 1; omega
    · show s.tp + 1 ≤ s.tb; omega
    · show s.tb = s.td + (s.tp + 1) + s.kept.length; omega
  · rw [if_neg c]
    obtain ⟨hr, hh⟩ := InvR.roomP (n := k.n) s.kept.length h (by omega) (Nat.le_refl _)
    have e := roomP_same k.n s.kept.length s
    generalize roomP k.n s.kept.length s = r at hr hh e
    obtain ⟨e1, e2, e3, e4, e5⟩ := e
    have h1 := hr.sum
    have h2 := hr.tb
    have h3 := hr.td
    have h4 := hr.tp
    have h5 := hr.len
    have h6 := hr.tm
    have h7 := hr.roomy
    have hs := held_snoc r.kept k
    refine ⟨hr.room, hr.now, ?_, ?_, ?_, hr.tb, ⟨hr.td, ?_⟩, ⟨hr.tp, ?_⟩, ?_, ?_, ?_⟩
    · show ((r.kept ++ [k]).length : Int) ≤ r.now
      rw [List.length_append, List.length_singleton]
      omega
    · intro x hx
      rcases List.mem_append.1 hx with y | y
      · exact hr.size x y
      · rw [List.mem_singleton.1 y]
        exact hk
    · intro x hx
      rcases List.mem_append.1 hx with y | y
      · exact hr.asked x y
      · rw [List.mem_singleton.1 y]
        show 0 ≤ k.asked ∧ k.asked ≤ r.now
        omega
    · show r.td ≤ r.tb; omega
    · show r.tp ≤ r.tb; omega
    · show r.tb = r.td + r.tp + ((r.kept ++ [k]).length : Nat)
      rw [List.length_append, List.length_singleton]
      omega
    · show 0 ≤ max r.tm ((held (r.kept ++ [k]) : Nat) : Int) ∧ max r.tm ((held (r.kept ++ [k]) : Nat) : Int) ≤ r.room
      rw [hs]
      omega
    · show ((held (r.kept ++ [k]) : Nat) : Int) ≤ r.room
      rw [hs]
      omega
theorem Inv.now_ {sizes : List Int} {s : PS} (h : Inv sizes s) : Inv sizes (nowP s) := by
  have h1 := h.now
  have h2 := h.len
  have h3 := h.tb
  refine ⟨h.room, ?_, ?_, h.size, fun k hk => ⟨(h.asked k hk).1, ?_⟩, ⟨h3.1, ?_⟩, h.td, h.tp, h.sum, h.tm, h.roomy⟩
  · show 0 ≤ s.now + 1; omega
  · show (s.kept.length : Int) ≤ s.now + 1; omega
  · show k.asked ≤ s.now + 1; have := (h.asked k hk).2; omega
  · show s.tb ≤ s.now + 1; omega
theorem sum_set (l : List Ke) (j : Nat) (k : Ke) (h : ∀ x, l[j]? = some x → x.n = k.n) : ((l.set j k).map (·.n)) = l.map (·.n) := by
  apply List.ext_getElem?
  intro i
  rw [List.getElem?_map, List.getElem?_map]
  by_cases e : j = i
  · subst e
    by_cases c : j < l.length
    · rw [List.getElem?_set_self c, List.getElem?_eq_getElem c]
      simp [h _ (List.getElem?_eq_getElem c)]
    · rw [List.getElem?_eq_none (by simpa using c), List.getElem?_eq_none (by omega)]
  · rw [List.getElem?_set_ne e]
theorem getD_of {l : List Ke} {j : Nat} (h : j < l.length) : l[j]? = some (l.getD j ⟨0, 0, 0⟩) := by
  rw [List.getD_eq_getElem?_getD, List.getElem?_eq_getElem h]
  rfl
theorem getD_mem {l : List Ke} {j : Nat} (h : j < l.length) : l.getD j ⟨0, 0, 0⟩ ∈ l := by
  rw [List.getD_eq_getElem?_getD, List.getElem?_eq_getElem h]
  exact List.getElem_mem _
theorem Inv.hit {sizes : List Int} {s : PS} (h : Inv sizes s) {j : Nat} (hj : j < s.kept.length) : Inv sizes (hitP s j) := by
  have hm := getD_mem hj
  have hn : ((hitP s j).kept.map (·.n)) = s.kept.map (·.n) := sum_set _ _ _ (fun x hx => by rw [getD_of hj] at hx; cases hx; rfl)
  refine ⟨h.room, h.now, ?_, ?_, ?_, h.tb, h.td, h.tp, ?_, h.tm, ?_⟩
  · show ((s.kept.set j _).length : Int) ≤ s.now
    rw [List.length_set]
    exact h.len
  · intro x hx
    rcases List.mem_or_eq_of_mem_set hx with y | rfl
    · exact h.size x y
    · have z := h.size _ hm
      exact z
  · intro x hx
    rcases List.mem_or_eq_of_mem_set hx with y | rfl
    · exact h.asked x y
    · exact ⟨h.now, Int.le_refl _⟩
  · show s.tb = s.td + s.tp + ((s.kept.set j _).length : Nat)
    rw [List.length_set]
    exact h.sum
  · have := h.roomy
    rw [held_eq_sum] at this ⊢
    rw [hn]
    exact this
theorem Inv.get {sizes : List Int} {s : PS} {i : Int} (h : Inv sizes s) (hs : ∀ x ∈ sizes, x ≤ 1000) (hi : I64 i) : Inv sizes (getP sizes s i) := by
  unfold getP
  split
  · rename_i c
    exact h.now_.hit c
  · split
    · exact h.now_
    · rename_i hb
      have hb' : badI sizes i = false := by simpa using hb
      have h1 := h.now
      refine Inv.keep (inv_make h) ⟨hb', rfl, size_le hb' hs, hi⟩ ⟨?_, ?_⟩
      · show 0 ≤ s.now + 1; omega
      · show s.now + 1 ≤ s.now + 1; omega
theorem getP_now {sizes : List Int} {s : PS} {i : Int} : (getP sizes s i).now = s.now + 1 := by
  unfold getP
  split
  · rfl
  · split
    · rfl
    · exact keepP_now _ _
theorem getP_room {sizes : List Int} {s : PS} {i : Int} : (getP sizes s i).room = s.room := by
  unfold getP
  split
  · rfl
  · split
    · rfl
    · exact keepP_room _ _
theorem find_mem {l : List Ke} {i : Int} (h : findI l i < l.length) : ∃ k ∈ l, k.i = i :=
  ⟨_, List.getElem_mem h, beq_iff_eq.1 (List.findIdx_getElem (w := h))⟩
theorem okP_eq {sizes : List Int} {s : PS} {i : Int} (h : Inv sizes s) : okP sizes s i = !badI sizes i := by
  unfold okP
  by_cases c : findI s.kept i < s.kept.length
  · obtain ⟨k, hk, rfl⟩ := find_mem c
    rw [(h.size k hk).1]
    simp
  · simp [c]
/-- The state behind the first j Gets. -/
def runP (sizes : List Int) (p : PS) (gets : List Int) : Nat → PS
  | 0 => p
  | j + 1 => getP sizes (runP sizes p gets j) (gets.getD j 0)
theorem run_inv {sizes : List Int} {p : PS} {gets : List Int} (h : Inv sizes p) (hs : ∀ x ∈ sizes, x ≤ 1000) (hg : ∀ x ∈ gets, I64 x) : ∀ j, j ≤ gets.length → Inv sizes (runP sizes p gets j)
  | 0, _ => h
  | j + 1, hj => by
    refine (run_inv h hs hg j (by omega)).get hs (hg _ ?_)
    rw [List.getD_eq_getElem?_getD, List.getElem?_eq_getElem (by omega)]
    exact List.getElem_mem _
theorem run_now {sizes : List Int} {p : PS} {gets : List Int} : ∀ j, (runP sizes p gets j).now = p.now + j
  | 0 => by simp [runP]
  | j + 1 => by
    rw [runP, getP_now, run_now j]
    omega
theorem run_room {sizes : List Int} {p : PS} {gets : List Int} : ∀ j, (runP sizes p gets j).room = p.room
  | 0 => rfl
  | j + 1 => by rw [runP, getP_room, run_room j]
def startP (room : Int) (l : List Int) : PS := ⟨if room < 0 then 0 else room, l, 0, [], 0, 0, 0, 0⟩
theorem start_inv {sizes : List Int} {room : Int} {l : List Int} (hr : I64 room) : Inv sizes (startP room l) := by
  unfold I64 at hr
  have : 0 ≤ (startP room l).room ∧ (startP room l).room ≤ 9223372036854775807 := by
    show 0 ≤ (if room < 0 then 0 else room) ∧ (if room < 0 then 0 else room) ≤ _
    split <;> omega
  refine ⟨this, Int.le_refl _, Int.le_refl _, fun k hk => absurd hk (by simp [startP]), fun k hk => absurd hk (by simp [startP]), ⟨Int.le_refl _, Int.le_refl _⟩, ⟨Int.le_refl _, Int.le_refl _⟩, ⟨Int.le_refl _, Int.le_refl _⟩, rfl, ⟨Int.le_refl _, this.1⟩, this.1⟩
/-- Two meshes in turns, with room for one. -/
theorem alive_run : runP [3, 4] (startP 5 []) [0, 1, 0] 3 = ⟨5, [], 3, [⟨0, 3, 3⟩], 3, 2, 0, 4⟩ := by rfl
end Go.Proofs.Cache

namespace Go.Proofs.Cache
theorem find_snoc (l : List Ke) (k : Ke) : findI (l ++ [k]) k.i < (l ++ [k]).length := by
  unfold findI
  exact List.findIdx_lt_length_of_exists ⟨k, by simp, by simp⟩
theorem find_of_mem {l : List Ke} {k : Ke} (h : k ∈ l) : findI l k.i < l.length := by
  unfold findI
  exact List.findIdx_lt_length_of_exists ⟨k, h, by simp⟩
theorem heldTo_mono (l : List Ke) : ∀ j, heldTo l j ≤ heldTo l (j + 1) := fun j => by
  rw [heldTo]
  omega
theorem n_le_sum : ∀ (l : List Ke) (k : Ke), k ∈ l → k.n ≤ (l.map (·.n)).sum
  | x :: l, k, h => by
    rw [List.map_cons, List.sum_cons]
    rcases List.mem_cons.1 h with rfl | h
    · omega
    · have := n_le_sum l k h
      omega
theorem n_le_held {l : List Ke} {k : Ke} (h : k ∈ l) : k.n ≤ held l := by
  rw [held_eq_sum]
  exact n_le_sum l k h
theorem size_int {sizes : List Int} {i : Int} (hb : badI sizes i = false) : (sizeI sizes i : Int) = sizes.getD i.toNat 0 := by
  unfold badI at hb
  simp only [Bool.or_eq_false_iff, decide_eq_false_iff_not] at hb
  unfold sizeI
  omega
theorem find_set {l : List Ke} {i : Int} (j : Nat) (t : Int) : findI (l.set j { l.getD j ⟨0, 0, 0⟩ with asked := t }) i = findI l i := by
  unfold findI
  by_cases c : j < l.length
  · induction l generalizing j with
    | nil => rfl
    | cons x l ih =>
      cases j with
      | zero => simp [List.findIdx_cons]
      | succ j =>
        simp only [List.set_cons_succ, List.getD_cons_succ, List.findIdx_cons]
        rw [ih j (by simpa using c)]
  · rw [List.set_eq_of_length_le (by omega)]
theorem last_there {sizes : List Int} {p : PS} {i : Int} (h : Inv sizes p) (hb : badI sizes i = false) : decide (findI (getP sizes p i).kept i < (getP sizes p i).kept.length) = decide (sizes.getD i.toNat 0 ≤ p.room) := by
  have hsz := size_int hb
  unfold getP
  by_cases c : findI p.kept i < p.kept.length
  · rw [if_pos c]
    have h1 : findI (hitP (nowP p) (findI p.kept i)).kept i < (hitP (nowP p) (findI p.kept i)).kept.length := by
      show findI (p.kept.set _ { p.kept.getD _ ⟨0, 0, 0⟩ with asked := (nowP p).now }) i < (p.kept.set _ _).length
      rw [find_set, List.length_set]
      exact c
    obtain ⟨k, hk, rfl⟩ := find_mem c
    have h2 := n_le_held hk
    have h3 := (h.size k hk).2.1
    have h4 := h.roomy
    rw [decide_eq_true h1, decide_eq_true (by omega)]
  · rw [if_neg c, hb]
    show decide (findI (keepP _ (newK sizes (nowP p) i)).kept i < (keepP _ (newK sizes (nowP p) i)).kept.length) = _
    unfold keepP
    have hn : (newK sizes (nowP p) i).n = sizeI sizes i := rfl
    by_cases r : p.room < ((newK sizes (nowP p) i).n : Int)
    · rw [if_pos (show ({ nowP p with tb := (nowP p).tb + 1 } : PS).room < _ from r)]
      show decide (findI p.kept i < p.kept.length) = _
      rw [decide_eq_false c, decide_eq_false (by omega)]
    · rw [if_neg (show ¬ ({ nowP p with tb := (nowP p).tb + 1 } : PS).room < _ from r)]
      show decide (findI ((roomP (newK sizes (nowP p) i).n p.kept.length { nowP p with tb := (nowP p).tb + 1 }).kept ++ [newK sizes (nowP p) i]) i < ((roomP (newK sizes (nowP p) i).n p.kept.length { nowP p with tb := (nowP p).tb + 1 }).kept ++ [newK sizes (nowP p) i]).length) = _
      have := find_snoc (roomP (newK sizes (nowP p) i).n p.kept.length { nowP p with tb := (nowP p).tb + 1 }).kept (newK sizes (nowP p) i)
      have e : (newK sizes (nowP p) i).i = i := rfl
      rw [e] at this
      rw [decide_eq_true this, decide_eq_true (by omega)]
/-- A turn of the law: an error; else got twice. -/
def lastP (sizes : List Int) (p : PS) (i : Int) : PS := if badI sizes i then getP sizes p i else getP sizes (getP sizes p i) i
def runL (sizes : List Int) (p : PS) (gets : List Int) : Nat → PS
  | 0 => p
  | j + 1 => lastP sizes (runL sizes p gets j) (gets.getD j 0)
theorem runL_now {sizes : List Int} {p : PS} {gets : List Int} : ∀ j, (runL sizes p gets j).now ≤ p.now + 2 * j
  | 0 => by simp [runL]
  | j + 1 => by
    have := runL_now (sizes := sizes) (p := p) (gets := gets) j
    rw [runL]
    unfold lastP
    split
    · rw [getP_now]
      omega
    · rw [getP_now, getP_now]
      omega
theorem runL_room {sizes : List Int} {p : PS} {gets : List Int} : ∀ j, (runL sizes p gets j).room = p.room
  | 0 => rfl
  | j + 1 => by
    rw [runL]
    unfold lastP
    split
    · rw [getP_room, runL_room j]
    · rw [getP_room, getP_room, runL_room j]
end Go.Proofs.Cache

namespace Go.Proofs.Cache
theorem pigeon : ∀ (m : Nat) (l : List Int), l.Nodup → (∀ x ∈ l, 0 ≤ x ∧ x < m) → l.length ≤ m
  | 0, l, _, h => by
    cases l with
    | nil => exact Nat.le_refl _
    | cons x l => have := h x (List.mem_cons_self ..); omega
  | m + 1, l, hn, h => by
    have ih := pigeon m (l.erase (m : Int)) (hn.erase _) fun x hx => by
      have h1 := (hn.mem_erase_iff (a := x) (b := (m : Int))).1 hx
      have h2 := h x h1.2
      have := h1.1
      omega
    by_cases c : (m : Int) ∈ l
    · rw [List.length_erase_of_mem c] at ih
      omega
    · rw [List.erase_of_not_mem c] at ih
      omega
def ids (p : PS) : List Int := p.kept.map (·.i)
theorem ids_len (p : PS) : (ids p).length = p.kept.length := List.length_map ..
/-- A cache with room for all. -/
structure GA (p : PS) : Prop where
  room : p.room = 100000
  td : p.td = 0
  tp : p.tp = 0
  nodup : (ids p).Nodup
theorem GA.start : GA (startP 100000 []) := ⟨rfl, rfl, rfl, List.nodup_nil⟩
theorem bad_no {sizes : List Int} {i : Int} (h : badI sizes i = false) : 0 ≤ i ∧ i < sizes.length := by
  simp only [badI, Bool.or_eq_false_iff, decide_eq_false_iff_not] at h
  omega
theorem mem_ids {p : PS} {i : Int} : i ∈ ids p ↔ findI p.kept i < p.kept.length := by
  constructor
  · intro h
    obtain ⟨k, hk, rfl⟩ := List.mem_map.1 h
    exact find_of_mem hk
  · intro h
    obtain ⟨k, hk, rfl⟩ := find_mem h
    exact List.mem_map_of_mem hk
section
variable {sizes : List Int} {p : PS} {i : Int}
theorem ids_hit (j : Nat) : ids (hitP p j) = ids p := by
  unfold ids hitP
  show (p.kept.set j _).map (·.i) = _
  rw [List.map_set]
  apply List.ext_getElem?
  intro k
  rw [List.getElem?_set]
  split
  · rename_i e
    subst e
    split
    · rename_i hl
      rw [List.length_map] at hl
      rw [List.getElem?_map, getD_of hl]
      rfl
    · rename_i hl
      rw [List.getElem?_eq_none (by omega)]
  · rfl
theorem GA.few (h : GA p) (hi : Inv sizes p) : p.kept.length ≤ sizes.length := by
  rw [← ids_len]
  refine pigeon sizes.length (ids p) h.nodup fun x hx => ?_
  obtain ⟨k, hk, rfl⟩ := List.mem_map.1 hx
  exact bad_no (hi.size k hk).1
theorem ga_build (h : GA p) (hi : Inv sizes p) (hs : ∀ x ∈ sizes, x ≤ 1000) (hl : sizes.length ≤ 50) (hb : badI sizes i = false) :
    ids (buildP sizes (nowP p) i) = ids p ++ [i] ∧ (buildP sizes (nowP p) i).td = 0 ∧ (buildP sizes (nowP p) i).tp = 0 ∧ (buildP sizes (nowP p) i).room = 100000 := by
  have hz := size_le hb hs
  have hf := h.few hi
  have hh := held_le p.kept 1000 fun k hk => (hi.size k hk).2.2.1
  have hr := h.room
  unfold buildP keepP
  have c : ¬ ({ nowP p with tb := (nowP p).tb + 1 } : PS).room < ((newK sizes (nowP p) i).n : Int) := by
    show ¬ p.room < (sizeI sizes i : Int)
    omega
  rw [if_neg c]
  have r : ∀ f, roomP (newK sizes (nowP p) i).n f { nowP p with tb := (nowP p).tb + 1 } = { nowP p with tb := (nowP p).tb + 1 } := fun f => by
    cases f with
    | zero => rfl
    | succ f =>
      rw [roomP, if_neg]
      show ¬ p.room < (held p.kept : Int) + (sizeI sizes i : Int)
      omega
  rw [r]
  refine ⟨?_, h.td, h.tp, h.room⟩
  show (p.kept ++ [newK sizes (nowP p) i]).map (fun k : Ke => k.i) = _
  rw [List.map_append]
  rfl
theorem ga_ids (h : GA p) (hi : Inv sizes p) (hs : ∀ x ∈ sizes, x ≤ 1000) (hl : sizes.length ≤ 50) (hb : badI sizes i = false) : ids (getP sizes p i) = if i ∈ ids p then ids p else ids p ++ [i] := by
  unfold getP
  by_cases c : findI p.kept i < p.kept.length
  · rw [if_pos c, if_pos (mem_ids.2 c), ids_hit]
    rfl
  · rw [if_neg c, if_neg (fun m => c (mem_ids.1 m)), hb]
    exact (ga_build h hi hs hl hb).1
theorem bad_miss (hi : Inv sizes p) (hb : badI sizes i = true) : ¬ findI p.kept i < p.kept.length := fun c => by
  obtain ⟨k, hk, rfl⟩ := find_mem c
  rw [(hi.size k hk).1] at hb
  cases hb
theorem get_bad_eq (hi : Inv sizes p) (hb : badI sizes i = true) : getP sizes p i = nowP p := by
  unfold getP
  rw [if_neg (bad_miss hi hb), hb]
  rfl
theorem GA.get (h : GA p) (hi : Inv sizes p) (hs : ∀ x ∈ sizes, x ≤ 1000) (hl : sizes.length ≤ 50) : GA (getP sizes p i) := by
  cases hb : badI sizes i with
  | true =>
    rw [get_bad_eq hi hb]
    exact ⟨h.room, h.td, h.tp, h.nodup⟩
  | false =>
    have e := ga_ids (i := i) h hi hs hl hb
    have hn : (ids (getP sizes p i)).Nodup := by
      rw [e]
      split
      · exact h.nodup
      · rename_i c
        rw [List.nodup_append]
        refine ⟨h.nodup, by simp, fun a ha b hb' q => ?_⟩
        rw [List.mem_singleton] at hb'
        subst hb' q
        exact c ha
    by_cases c : findI p.kept i < p.kept.length
    · have q : getP sizes p i = hitP (nowP p) (findI p.kept i) := by unfold getP; rw [if_pos c]
      rw [q] at hn ⊢
      exact ⟨h.room, h.td, h.tp, hn⟩
    · have q : getP sizes p i = buildP sizes (nowP p) i := by unfold getP; rw [if_neg c, hb]; rfl
      rw [q] at hn ⊢
      have b := ga_build (i := i) h hi hs hl hb
      exact ⟨b.2.2.2, b.2.1, b.2.2.1, hn⟩
theorem GA.tb (h : GA p) (hi : Inv sizes p) : p.tb = ((ids p).length : Int) := by
  have := hi.sum
  rw [ids_len]
  have := h.td
  have := h.tp
  omega
/-- With room for nothing. -/
theorem gb_tp (hi : Inv sizes p) (hr : p.room = 0) : (getP sizes p i).tp = if badI sizes i = false ∧ sizes.getD i.toNat 0 > 0 then p.tp + 1 else p.tp := by
  cases hb : badI sizes i with
  | true =>
    rw [get_bad_eq hi hb, if_neg (by simp)]
    rfl
  | false =>
    have hz := size_int hb
    have hh := hi.roomy
    unfold getP
    by_cases c : findI p.kept i < p.kept.length
    · rw [if_pos c, if_neg]
      · rfl
      · rintro ⟨_, h⟩
        obtain ⟨k, hk, rfl⟩ := find_mem c
        have h1 := n_le_held hk
        have h2 := (hi.size k hk).2.1
        omega
    · rw [if_neg c, hb]
      show (buildP sizes (nowP p) i).tp = _
      unfold buildP keepP
      by_cases c2 : sizes.getD i.toNat 0 > 0
      · rw [if_pos (show ({ nowP p with tb := (nowP p).tb + 1 } : PS).room < ((newK sizes (nowP p) i).n : Int) from by show p.room < (sizeI sizes i : Int); omega), if_pos ⟨rfl, c2⟩]
        rfl
      · rw [if_neg (show ¬ ({ nowP p with tb := (nowP p).tb + 1 } : PS).room < ((newK sizes (nowP p) i).n : Int) from by show ¬ p.room < (sizeI sizes i : Int); omega), if_neg (fun h => c2 h.2)]
        show (roomP _ _ _).tp = _
        rw [(roomP_same _ _ _).2.2.2.1]
        rfl
end
end Go.Proofs.Cache
