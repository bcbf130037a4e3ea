/- With room for all nothing is dropped; with none all that have triangles pass: plain. -/
import Derived.Test.YtfhjdhhflpekiaaCLastP
namespace Go.Proofs.Cache
theorem pigeon : ∀ (m : Nat) (l : List Int), l.Nodup → (∀ x ∈ l, 0 ≤ x ∧ x < m) → l.length ≤ m
  | 0, l, _, h => by
    cases l with
    | nil => exact Nat.le_refl _
    | cons x l => have := h x (List.mem_cons_self ..); omega
  | m + 1, l, hn, h => by
    have ih := pigeon m (l.erase (m : Int)) (hn.erase _) fun x hx => by
      have h1 := (hn.mem_erase_iff (a := x) (b := (m : Int))).1 hx
      have h2 := h x h1.2
      have := h1.1
      omega
    by_cases c : (m : Int) ∈ l
    · rw [List.length_erase_of_mem c] at ih
      omega
    · rw [List.erase_of_not_mem c] at ih
      omega
def ids (p : PS) : List Int := p.kept.map (·.i)
theorem ids_len (p : PS) : (ids p).length = p.kept.length := List.length_map ..
/-- A cache with room for all. -/
structure GA (p : PS) : Prop where
  room : p.room = 100000
  td : p.td = 0
  tp : p.tp = 0
  nodup : (ids p).Nodup
theorem GA.start : GA (startP 100000 []) := ⟨rfl, rfl, rfl, List.nodup_nil⟩
theorem bad_no {sizes : List Int} {i : Int} (h : badI sizes i = false) : 0 ≤ i ∧ i < sizes.length := by
  simp only [badI, Bool.or_eq_false_iff, decide_eq_false_iff_not] at h
  omega
theorem mem_ids {p : PS} {i : Int} : i ∈ ids p ↔ findI p.kept i < p.kept.length := by
  constructor
  · intro h
    obtain ⟨k, hk, rfl⟩ := List.mem_map.1 h
    exact find_of_mem hk
  · intro h
    obtain ⟨k, hk, rfl⟩ := find_mem h
    exact List.mem_map_of_mem hk
section
variable {sizes : List Int} {p : PS} {i : Int}
theorem ids_hit (j : Nat) : ids (hitP p j) = ids p := by
  unfold ids hitP
  show (p.kept.set j _).map (·.i) = _
  rw [List.map_set]
  apply List.ext_getElem?
  intro k
  rw [List.getElem?_set]
  split
  · rename_i e
    subst e
    split
    · rename_i hl
      rw [List.length_map] at hl
      rw [List.getElem?_map, getD_of hl]
      rfl
    · rename_i hl
      rw [List.getElem?_eq_none (by omega)]
  · rfl
theorem GA.few (h : GA p) (hi : Inv sizes p) : p.kept.length ≤ sizes.length := by
  rw [← ids_len]
  refine pigeon sizes.length (ids p) h.nodup fun x hx => ?_
  obtain ⟨k, hk, rfl⟩ := List.mem_map.1 hx
  exact bad_no (hi.size k hk).1
theorem ga_build (h : GA p) (hi : Inv sizes p) (hs : ∀ x ∈ sizes, x ≤ 1000) (hl : sizes.length ≤ 50) (hb : badI sizes i = false) :
    ids (buildP sizes (nowP p) i) = ids p ++ [i] ∧ (buildP sizes (nowP p) i).td = 0 ∧ (buildP sizes (nowP p) i).tp = 0 ∧ (buildP sizes (nowP p) i).room = 100000 := by
  have hz := size_le hb hs
  have hf := h.few hi
  have hh := held_le p.kept 1000 fun k hk => (hi.size k hk).2.2.1
  have hr := h.room
  unfold buildP keepP
  have c : ¬ ({ nowP p with tb := (nowP p).tb + 1 } : PS).room < ((newK sizes (nowP p) i).n : Int) := by
    show ¬ p.room < (sizeI sizes i : Int)
    omega
  rw [if_neg c]
  have r : ∀ f, roomP (newK sizes (nowP p) i).n f { nowP p with tb := (nowP p).tb + 1 } = { nowP p with tb := (nowP p).tb + 1 } := fun f => by
    cases f with
    | zero => rfl
    | succ f =>
      rw [roomP, if_neg]
      show ¬ p.room < (held p.kept : Int) + (sizeI sizes i : Int)
      omega
  rw [r]
  refine ⟨?_, h.td, h.tp, h.room⟩
  show (p.kept ++ [newK sizes (nowP p) i]).map (fun k : Ke => k.i) = _
  rw [List.map_append]
  rfl
theorem ga_ids (h : GA p) (hi : Inv sizes p) (hs : ∀ x ∈ sizes, x ≤ 1000) (hl : sizes.length ≤ 50) (hb : badI sizes i = false) : ids (getP sizes p i) = if i ∈ ids p then ids p else ids p ++ [i] := by
  unfold getP
  by_cases c : findI p.kept i < p.kept.length
  · rw [if_pos c, if_pos (mem_ids.2 c), ids_hit]
    rfl
  · rw [if_neg c, if_neg (fun m => c (mem_ids.1 m)), hb]
    exact (ga_build h hi hs hl hb).1
theorem bad_miss (hi : Inv sizes p) (hb : badI sizes i = true) : ¬ findI p.kept i < p.kept.length := fun c => by
  obtain ⟨k, hk, rfl⟩ := find_mem c
  rw [(hi.size k hk).1] at hb
  cases hb
theorem get_bad_eq (hi : Inv sizes p) (hb : badI sizes i = true) : getP sizes p i = nowP p := by
  unfold getP
  rw [if_neg (bad_miss hi hb), hb]
  rfl
theorem GA.get (h : GA p) (hi : Inv sizes p) (hs : ∀ x ∈ sizes, x ≤ 1000) (hl : sizes.length ≤ 50) : GA (getP sizes p i) := by
  cases hb : badI sizes i with
  | true =>
    rw [get_bad_eq hi hb]
    exact ⟨h.room, h.td, h.tp, h.nodup⟩
  | false =>
    have e := ga_ids (i := i) h hi hs hl hb
    have hn : (ids (getP sizes p i)).Nodup := by
      rw [e]
      split
      · exact h.nodup
      · rename_i c
        rw [List.nodup_append]
        refine ⟨h.nodup, by simp, fun a ha b hb' q => ?_⟩
        rw [List.mem_singleton] at hb'
        subst hb' q
        exact c ha
    by_cases c : findI p.kept i < p.kept.length
    · have q : getP sizes p i = hitP (nowP p) (findI p.kept i) := by unfold getP; rw [if_pos c]
      rw [q] at hn ⊢
      exact ⟨h.room, h.td, h.tp, hn⟩
    · have q : getP sizes p i = buildP sizes (nowP p) i := by unfold getP; rw [if_neg c, hb]; rfl
      rw [q] at hn ⊢
      have b := ga_build (i := i) h hi hs hl hb
      exact ⟨b.2.2.2, b.2.1, b.2.2.1, hn⟩
theorem GA.tb (h : GA p) (hi : Inv sizes p) : p.tb = ((ids p).length : Int) := by
  have := hi.sum
  rw [ids_len]
  have := h.td
  have := h.tp
  omega
/-- With room for nothing. -/
theorem gb_tp (hi : Inv sizes p) (hr : p.room = 0) : (getP sizes p i).tp = if badI sizes i = false ∧ sizes.getD i.toNat 0 > 0 then p.tp + 1 else p.tp := by
  cases hb : badI sizes i with
  | true =>
    rw [get_bad_eq hi hb, if_neg (by simp)]
    rfl
  | false =>
    have hz := size_int hb
    have hh := hi.roomy
    unfold getP
    by_cases c : findI p.kept i < p.kept.length
    · rw [if_pos c, if_neg]
      · rfl
      · rintro ⟨_, h⟩
        obtain ⟨k, hk, rfl⟩ := find_mem c
        have h1 := n_le_held hk
        have h2 := (hi.size k hk).2.1
        omega
    · rw [if_neg c, hb]
      show (buildP sizes (nowP p) i).tp = _
      unfold buildP keepP
      by_cases c2 : sizes.getD i.toNat 0 > 0
      · rw [if_pos (show ({ nowP p with tb := (nowP p).tb + 1 } : PS).room < ((newK sizes (nowP p) i).n : Int) from by show p.room < (sizeI sizes i : Int); omega), if_pos ⟨rfl, c2⟩]
        rfl
      · rw [if_neg (show ¬ ({ nowP p with tb := (nowP p).tb + 1 } : PS).room < ((newK sizes (nowP p) i).n : Int) from by show ¬ p.room < (sizeI sizes i : Int); omega), if_neg (fun h => c2 h.2)]
        show (roomP _ _ _).tp = _
        rw [(roomP_same _ _ _).2.2.2.1]
        rfl
end
end Go.Proofs.Cache
