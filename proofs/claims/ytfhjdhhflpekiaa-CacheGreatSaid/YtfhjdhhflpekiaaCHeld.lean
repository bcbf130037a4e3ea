/- What Held, MinFunc and Index answer over a cache's entries. -/
import Derived.Test.YtfhjdhhflpekiaaCRead
namespace Go.Proofs.Ytfhjdhhflpekiaa.G
open Go.RowKit Go.Proofs.Cache Go.Proofs.YtfhjdhhflpekiaaW.PrintWords Go.Proofs.YtfhjdhhflpekiaaW.PrintLast Go.Proofs.YtfhjdhhflpekiaaW.PrintMore
set_option linter.unusedVariables false
set_option linter.unusedSimpArgs false
def dE : Ent := ⟨0, ⟨0, 0, none, 0, none, 0, none, 0⟩, 0⟩
theorem getE {l : List Ent} {j : Nat} (h : j < l.length) : l.getD j dE ∈ l := by
  rw [List.getD_eq_getElem?_getD, List.getElem?_eq_getElem h]
  exact List.getElem_mem h
theorem ptrs_get {l : List Ent} {j : Nat} (h : j < l.length) : (ptrs l)[j]? = some (l.getD j dE).p := by
  simp [ptrs, h]
/-- The slice of a cache's entries. -/
theorem kv_open {B : Nat} {w : World} {v : Value} {l : List Ent} (h : w.ownsRow B 62 1 v l.length (ptrs l)) :
    ∃ A c, v = .slice A l.length c ∧ l.length ≤ c ∧ c ≤ maxLen ∧ ∀ j, j < l.length → ∃ g, A = some ⟨g, 0, none⟩ ∧ w.cell? ⟨g, j, none⟩ = some (l.getD j dE).p := by
  rcases h.2 with ⟨rfl, h0⟩ | ⟨g, cap, cur, rfl, hg, hh, h1, h2, h3, h4⟩
  · rw [h0]
    exact ⟨none, 0, rfl, Nat.le_refl _, by decide, fun j hj => by omega⟩
  · refine ⟨_, cap, rfl, h1, h2, fun j hj => ⟨g, rfl, ?_⟩⟩
    rw [blk_cell hh, ← ptrs_get hj, ← h4, List.getElem?_take, if_pos (by omega), Array.getElem?_toList]
theorem kept_get {l : List Ent} {j : Nat} (h : j < l.length) : (l.map Ent.k).getD j ⟨0, 0, 0⟩ = (l.getD j dE).k := by
  simp [List.getD_eq_getElem?_getD, h]
theorem asked_get {l : List Ent} {j : Nat} (h : j < l.length) : (l.map (·.asked)).getD j 0 = (l.getD j dE).asked := by
  simp [List.getD_eq_getElem?_getD, h]
set_option maxHeartbeats 1000000 in
set_option maxRecDepth 100000 in
theorem held.calls (B : Nat) (sizes : List Int) (s : Cs) (w : World) (h : CacheAt B sizes w s) (hb : ∀ e ∈ s.ents, e.m.n ≤ 1000) (hl : s.ents.length ≤ 1000000) :
    Calls Try.prog 18 #[.pointer (some ⟨s.g, 0, none⟩)] w fun x w' => x = .returned (.int .i64 (held s.p.kept)) ∧ w' = w := by
  obtain ⟨A, c, ek, hc, hm, hg⟩ := kv_open h.kv
  have HG := Aside0.mk hg
  clear hg
  have c3 : w.cell? ⟨s.g, 3, none⟩ = some (.slice A s.ents.length c) := by rw [← ek]; exact (blk_cell h.cells 3).trans rfl
  have HL : ∀ j, j ≤ s.ents.length → heldTo s.p.kept j ≤ j * 1000 := by
    rw [h.kept]
    intro j hj
    refine heldTo_le _ 1000 ?_ j (by simpa using hj)
    intro k hk
    obtain ⟨e, he, rfl⟩ := List.mem_map.1 hk
    exact hb e he
  have HH : held s.p.kept = heldTo s.p.kept s.ents.length := by rw [held, h.kept, List.length_map]
  have HE : ∀ j, j < s.ents.length → heldTo s.p.kept (j + 1) = heldTo s.p.kept j + (s.ents.getD j dE).m.n := by
    intro j hj
    rw [heldTo, h.kept, kept_get hj]
    rfl
  have HN := fun j hj => h.ents _ (getE (l := s.ents) (j := j) hj)
  rw [HH]
  have H1 := Aside0.mk HL
  have H2 := Aside0.mk HE
  have H3 := Aside0.mk HN
  clear HH HL HE HN ek hb hm
  generalize s.ents.length = n at *
  generalize heldTo s.p.kept = f at *
  generalize s.ents.getD = q at *
  clear h
  go_enter Try.func18, Try.ntmps18
  go_wp2
  go_loopg [3, 11] n (fun kq v3 v11 w' => ∃ j : Nat, v11 = .int .i64 j ∧ v3 = .int .i64 (f j) ∧ Aside0 (j + kq = n) ∧ w' = w)
  case atStart => exact ⟨0, rfl, by have := H1.out 0 (by omega); simp at this; rw [this]; rfl, ⟨by omega⟩, rfl⟩
  case round =>
    obtain ⟨j, rfl, rfl, HJ, rfl⟩ := hrel
    have hj := HJ.out
    by_cases hlt : j < n
    · have c1 : decide ((j : Int) < (n : Int)) = true := decide_eq_true (by omega)
      have i0 : 0 ≤ (j : Int) := by omega
      have i1 : (j : Int) < (n : Int) := by omega
      obtain ⟨g, rfl, hcell⟩ := HG.out j hlt
      have hE := H3.out j hlt
      have hF := H2.out j hlt
      have hB := H1.out (j + 1) hlt
      cases gk with
      | zero => omega
      | succ k1 =>
        go_wp2_with (go_at_call 26; (with_reducible refine (size.calls B _ _ hE).mono ?_); rintro e w' ⟨rfl, rfl⟩)
        go_roundg k1
        case measure => omega
        case rel => exact ⟨j + 1, by simp, by rw [hF]; simp, ⟨by omega⟩, rfl⟩
    · have c1 : decide ((j : Int) < (n : Int)) = false := decide_eq_false (by omega)
      have e1 : j = n := by omega
      subst e1
      go_wp2
      go_ret
      exact ⟨rfl, rfl⟩
end Go.Proofs.Ytfhjdhhflpekiaa.G
