/- The cache, plain: what Get does to the numbers that are kept. -/
namespace Go.Proofs.Cache
/-- What is kept: its number, when it was asked last, how many triangles it has. -/
structure Ke where
  i : Int
  asked : Int
  n : Nat
structure PS where
  room : Int
  picks : List Int
  now : Int
  kept : List Ke
  tb : Int
  td : Int
  tp : Int
  tm : Int
/-- How many triangles the first j have. -/
def heldTo (l : List Ke) : Nat → Nat
  | 0 => 0
  | j + 1 => heldTo l j + (l.getD j ⟨0, 0, 0⟩).n
def held (l : List Ke) : Nat := heldTo l l.length
/-- The place of the least of the first j (the first of equals). -/
def minAt (l : List Int) : Nat → Nat
  | 0 => 0
  | j + 1 => if l.getD j 0 < l.getD (minAt l j) 0 then j else minAt l j
def victimK (s : PS) : Nat := match s.picks with
  | [] => minAt (s.kept.map (·.asked)) s.kept.length
  | x :: _ => (x % (s.kept.length : Int)).toNat
def dropP (s : PS) : PS := { s with kept := s.kept.eraseIdx (victimK s), picks := s.picks.tail, td := s.td + 1 }
def roomP (n : Nat) : Nat → PS → PS
  | 0, s => s
  | f + 1, s => if s.room < (held s.kept : Int) + n then roomP n f (dropP s) else s
def addP (s : PS) (k : Ke) : PS := { s with kept := s.kept ++ [k], tm := max s.tm (held (s.kept ++ [k])) }
def keepP (s : PS) (k : Ke) : PS := if s.room < k.n then { s with tp := s.tp + 1 } else addP (roomP k.n s.kept.length s) k
/-- Where a number is kept (the length: nowhere). -/
def findI (l : List Ke) (i : Int) : Nat := l.findIdx fun k => k.i == i
def nowP (s : PS) : PS := { s with now := s.now + 1 }
def hitP (s : PS) (j : Nat) : PS := { s with kept := s.kept.set j { s.kept.getD j ⟨0, 0, 0⟩ with asked := s.now } }
def badI (sizes : List Int) (i : Int) : Bool := decide (i < 0) || decide ((sizes.length : Int) ≤ i) || decide (sizes.getD i.toNat 0 < 0)
def sizeI (sizes : List Int) (i : Int) : Nat := (sizes.getD i.toNat 0).toNat
def newK (sizes : List Int) (s : PS) (i : Int) : Ke := ⟨i, s.now, sizeI sizes i⟩
def buildP (sizes : List Int) (s : PS) (i : Int) : PS := keepP { s with tb := s.tb + 1 } (newK sizes s i)
def getP (sizes : List Int) (s : PS) (i : Int) : PS :=
  if findI s.kept i < s.kept.length then hitP (nowP s) (findI s.kept i)
  else if badI sizes i then nowP s
  else buildP sizes (nowP s) i
/-- Does Get answer with a mesh? -/
def okP (sizes : List Int) (s : PS) (i : Int) : Bool := decide (findI s.kept i < s.kept.length) || !badI sizes i
/-- What stays true from Get to Get. -/
structure Inv (sizes : List Int) (s : PS) : Prop where
  room : 0 ≤ s.room ∧ s.room ≤ 9223372036854775807
  now : 0 ≤ s.now
  len : (s.kept.length : Int) ≤ s.now
  size : ∀ k ∈ s.kept, badI sizes k.i = false ∧ k.n = sizeI sizes k.i ∧ k.n ≤ 1000 ∧ -9223372036854775808 ≤ k.i ∧ k.i ≤ 9223372036854775807
  asked : ∀ k ∈ s.kept, 0 ≤ k.asked ∧ k.asked ≤ s.now
  tb : 0 ≤ s.tb ∧ s.tb ≤ s.now
  td : 0 ≤ s.td ∧ s.td ≤ s.tb
  tp : 0 ≤ s.tp ∧ s.tp ≤ s.tb
  sum : s.tb = s.td + s.tp + s.kept.length
  tm : 0 ≤ s.tm ∧ s.tm ≤ s.room
  roomy : (held s.kept : Int) ≤ s.room
theorem heldTo_append (l : List Ke) (x : List Ke) : ∀ j, j ≤ l.length → heldTo (l ++ x) j = heldTo l j
  | 0, _ => rfl
  | j + 1, h => by
    rw [heldTo, heldTo, heldTo_append l x j (by omega)]
    congr 2
    rw [List.getD_eq_getElem?_getD, List.getD_eq_getElem?_getD, List.getElem?_append_left (by omega)]
theorem held_snoc (l : List Ke) (k : Ke) : held (l ++ [k]) = held l + k.n := by
  unfold held
  rw [List.length_append, List.length_singleton, heldTo, heldTo_append l _ _ (Nat.le_refl _)]
  congr 2
  rw [List.getD_eq_getElem?_getD, List.getElem?_append_right (Nat.le_refl _)]
  simp
theorem heldTo_le (l : List Ke) (B : Nat) (h : ∀ k ∈ l, k.n ≤ B) : ∀ j, j ≤ l.length → heldTo l j ≤ j * B
  | 0, _ => by simp [heldTo]
  | j + 1, hj => by
    have ih := heldTo_le l B h j (by omega)
    have : (l.getD j ⟨0, 0, 0⟩).n ≤ B := by
      rw [List.getD_eq_getElem?_getD, List.getElem?_eq_getElem (by omega)]
      exact h _ (List.getElem_mem _)
    rw [heldTo, Nat.succ_mul]
    omega
theorem held_le (l : List Ke) (B : Nat) (h : ∀ k ∈ l, k.n ≤ B) : held l ≤ l.length * B := heldTo_le l B h _ (Nat.le_refl _)
theorem heldTo_eq_sum (l : List Ke) : ∀ j, j ≤ l.length → heldTo l j = ((l.take j).map (·.n)).sum
  | 0, _ => by simp [heldTo]
  | j + 1, hj => by
    rw [heldTo, heldTo_eq_sum l j (by omega), List.take_add_one, List.getElem?_eq_getElem (show j < l.length by omega), List.getD_eq_getElem?_getD, List.getElem?_eq_getElem (show j < l.length by omega), List.map_append, List.sum_append]
    rfl
theorem held_eq_sum (l : List Ke) : held l = (l.map (·.n)).sum := by
  rw [held, heldTo_eq_sum l _ (Nat.le_refl _), List.take_length]
theorem sum_eraseIdx : ∀ (l : List Ke) (j : Nat), ((l.eraseIdx j).map (·.n)).sum ≤ (l.map (·.n)).sum
  | [], _ => by simp
  | k :: l, 0 => by simp
  | k :: l, j + 1 => by
    have := sum_eraseIdx l j
    simp only [List.eraseIdx_cons_succ, List.map_cons, List.sum_cons]
    omega
theorem minAt_lt (l : List Int) : ∀ j, 0 < j → minAt l j < j
  | 0, h => absurd h (by omega)
  | 1, _ => by simp [minAt]
  | j + 2, _ => by
    have := minAt_lt l (j + 1) (by omega)
    rw [minAt]
    split <;> omega
theorem victim_lt (s : PS) (h : 0 < s.kept.length) : victimK s < s.kept.length := by
  unfold victimK
  split
  · exact minAt_lt _ _ h
  · rename_i x r _
    have h1 := Int.emod_nonneg x (show (s.kept.length : Int) ≠ 0 by omega)
    have h2 := Int.emod_lt_of_pos x (show 0 < (s.kept.length : Int) by omega)
    omega
theorem drop_len (s : PS) (h : 0 < s.kept.length) : (dropP s).kept.length + 1 = s.kept.length := by
  have := victim_lt s h
  simp only [dropP, List.length_eraseIdx]
  rw [if_pos this]
  omega
/-- What stays true while room is made. -/
structure InvR (sizes : List Int) (s : PS) : Prop where
  room : 0 ≤ s.room ∧ s.room ≤ 9223372036854775807
  now : 0 ≤ s.now
  len : (s.kept.length : Int) ≤ s.now
  size : ∀ k ∈ s.kept, badI sizes k.i = false ∧ k.n = sizeI sizes k.i ∧ k.n ≤ 1000 ∧ -9223372036854775808 ≤ k.i ∧ k.i ≤ 9223372036854775807
  asked : ∀ k ∈ s.kept, 0 ≤ k.asked ∧ k.asked ≤ s.now
  tb : 0 ≤ s.tb ∧ s.tb ≤ s.now
  td : 0 ≤ s.td
  tp : 0 ≤ s.tp
  sum : s.tb = s.td + s.tp + s.kept.length + 1
  tm : 0 ≤ s.tm ∧ s.tm ≤ s.room
  roomy : (held s.kept : Int) ≤ s.room
theorem InvR.drop {sizes : List Int} {s : PS} (h : InvR sizes s) (hl : 0 < s.kept.length) : InvR sizes (dropP s) := by
  have e := drop_len s hl
  have hs : ∀ k ∈ (dropP s).kept, k ∈ s.kept := fun k hk => List.mem_of_mem_eraseIdx hk
  refine ⟨h.room, h.now, ?_, fun k hk => h.size k (hs k hk), fun k hk => h.asked k (hs k hk), h.tb, ?_, h.tp, ?_, h.tm, ?_⟩
  · have := h.len
    show ((dropP s).kept.length : Int) ≤ s.now
    omega
  · have := h.td
    show 0 ≤ s.td + 1
    omega
  · have := h.sum
    show s.tb = s.td + 1 + s.tp + (dropP s).kept.length + 1
    omega
  · have h1 := h.roomy
    have h2 := sum_eraseIdx s.kept (victimK s)
    rw [held_eq_sum] at h1
    show (held (s.kept.eraseIdx (victimK s)) : Int) ≤ s.room
    rw [held_eq_sum]
    omega
theorem held_nil : held [] = 0 := rfl
theorem roomP_same (n : Nat) : ∀ f s, (roomP n f s).room = s.room ∧ (roomP n f s).now = s.now ∧ (roomP n f s).tb = s.tb ∧ (roomP n f s).tp = s.tp ∧ (roomP n f s).tm = s.tm
  | 0, s => ⟨rfl, rfl, rfl, rfl, rfl⟩
  | f + 1, s => by
    rw [roomP]
    split
    · exact roomP_same n f (dropP s)
    · exact ⟨rfl, rfl, rfl, rfl, rfl⟩
theorem InvR.roomP {sizes : List Int} {n : Nat} : ∀ f {s : PS}, InvR sizes s → (n : Int) ≤ s.room → s.kept.length ≤ f → InvR sizes (roomP n f s) ∧ (held (Cache.roomP n f s).kept : Int) + n ≤ s.room
  | 0, s, h, hn, hl => by
    have : s.kept = [] := List.length_eq_zero_iff.1 (by omega)
    refine ⟨h, ?_⟩
    rw [Cache.roomP, this, held_nil]
    simpa using hn
  | f + 1, s, h, hn, hl => by
    rw [Cache.roomP]
    by_cases c : s.room < (held s.kept : Int) + n
    · rw [if_pos c]
      have hp : 0 < s.kept.length := by
        by_cases e : s.kept.length = 0
        · have : s.kept = [] := List.length_eq_zero_iff.1 e
          rw [this, held_nil] at c
          simp at c
          omega
        · omega
      have e := drop_len s hp
      exact InvR.roomP f (h.drop hp) hn (by omega)
    · rw [if_neg c]
      exact ⟨h, by omega⟩
end Go.Proofs.Cache
