/- What Delete leaves of a cache's entries. -/
import Derived.Test.YtfhjdhhflpekiaaCKA
import Derived.Deep.RegionLaw
import Derived.Lib.SliceRun
namespace Go.Proofs.Ytfhjdhhflpekiaa.G
open Go.RowKit Go.Proofs.Cache Go.Proofs.YtfhjdhhflpekiaaW.PrintWords Go.Proofs.YtfhjdhhflpekiaaW.PrintLast Go.Proofs.YtfhjdhhflpekiaaW.PrintMore
set_option linter.unusedVariables false
set_option linter.unusedSimpArgs false
theorem p_one (e : Ent) : e.p.oneCell' = true := rfl
def kE : Kd Ent := Kd.scalar Ent.p p_one
theorem own_clear {w : World} {B g n c : Nat} {xs : List Value} (h : w.ownsRow B 62 1 (.slice (some ⟨g, 0, none⟩) n c) n xs) (u : Value) : (w.setCell ⟨g, n, none⟩ u).ownsRow B 62 1 (.slice (some ⟨g, 0, none⟩) n c) n xs := by
  refine ⟨h.1, ?_⟩
  rcases h.2 with ⟨h1, _⟩ | ⟨g', cap, cur, h1, hg, hh, r1, r2, r3, r4⟩
  · cases h1
  · cases h1
    refine .inr ⟨_, _, cur.setIfInBounds n u, rfl, hg, blk_set hh _ _, r1, r2, by rw [Array.size_setIfInBounds, r3], ?_⟩
    rw [← r4, Array.toList_setIfInBounds, Nat.mul_one, List.take_set_of_le (Nat.le_refl _)]
set_option maxHeartbeats 1000000 in
set_option maxRecDepth 100000 in
theorem delete.calls (B g m c k : Nat) (l : List Ent) (w : World) (hl : l.length = m + 1) (hk : k < m + 1) (h : w.ownsRow B 62 1 (.slice (some ⟨g, 0, none⟩) (m + 1) c) (m + 1) (ptrs l)) (hB : B ≤ w.heap.size) :
    Calls Try.prog 29 #[.slice (some ⟨g, 0, none⟩) (m + 1 : Nat) c, .int .i64 k, .int .i64 (k + 1 : Nat)] w fun e w' => e = .returned (.slice (some ⟨g, 0, none⟩) m c) ∧ w'.ownsRow B 62 1 (.slice (some ⟨g, 0, none⟩) m c) m (ptrs (l.eraseIdx k)) ∧ Below B w w' ∧ ∀ j, j < w.heap.size → j ≠ g → w'.heap[j]? = w.heap[j]? := by
  have HR : Aside0 (kE.R 62 w B (fun _ => True) (.slice (some ⟨g, 0, none⟩) (m + 1) c) l) := ⟨Kd.R_of_own (by rw [hl]; exact h) (fun _ _ => trivial)⟩
  have hnc : m + 1 ≤ c ∧ c ≤ maxLen := by
    rcases h.2 with ⟨h1, _⟩ | ⟨g', cap, cur, h1, hg, hh, r1, r2, r3, r4⟩
    · cases h1
    · cases h1
      exact ⟨r1, r2⟩
  have hcx : (c : Int) ≤ 9223372036854775807 := by have := hnc.2; unfold maxLen at this; omega
  have hc1 : m + 1 ≤ c := hnc.1
  have hk1 : k + 1 ≤ m + 1 := hk
  have hkc : k ≤ c := by omega
  have hkc1 : k + 1 ≤ c := by omega
  have hkn : k ≤ m + 1 := by omega
  have hkm : k ≤ m := by omega
  have hck : ¬ c = k := by omega
  have hnk : ¬ m + 1 = k := by omega
  have e1 : ((k : Int) == (k : Int) + 1) = false := by simp; omega
  have i0 : 0 ≤ (k : Int) + 1 := by omega
  have i1 : (k : Int) + 1 ≤ ((m + 1 : Nat) : Int) := by omega
  have hA : Aside0 ((if c = k + 1 then some ⟨g, 0, none⟩ else some ⟨g, k + 1, none⟩ : Option Addr) = if c = k + 1 then some ⟨g, 0, none⟩ else (some (⟨g, 0, none⟩ : Addr)).map (·.add ((k + 1) * kE.sz))) := ⟨by
    show _ = if c = k + 1 then _ else some ((⟨g, 0, none⟩ : Addr).add ((k + 1) * 1))
    rw [Nat.mul_one]
    simp [Addr.add]⟩
  have X := Aside0.mk h
  clear h hnc
  go_enter Try.func29, Try.ntmps29
  go_wp2
  go_region_law ((refine Kd.R_delete_step kE (w0 := w) B (by rfl) (.tmp 22) (.tmp 25) 59 62 rfl Try.underlying59 (by kernel_rfl) (g := g) (n := m + 1) (c := c) (k := k) (m := m - k) (c2 := c - (k + 1)) (by rfl) (by rfl) hA.out (by omega) (Kd.R_drew HR.out) hk (below_drew1 (Below.refl _ _)) hB ?_); intro w1 hr1 hb1 hg1)
  have ho := Kd.own_of_R hr1
  obtain ⟨cur, hcur, hsz⟩ : ∃ cur, w1.heap[g]? = some (.cells cur 62 (0, 0)) ∧ cur.size = c := by
    rcases ho.2 with ⟨h1, _⟩ | ⟨g', cap, cur, h1, hg, hh, r1, r2, r3, r4⟩
    · cases h1
    · cases h1
      exact ⟨cur, hh, by omega⟩
  have hcl : ∀ ty, (Builtin.clear_ #[59] ty #[.slice (some ⟨g, m, none⟩) 1 (c - m)]).run Try.prog w1 = .ok (.tuple #[]) (w1.setCells g m [.pointer none]) := fun ty =>
    Lib.run_clear_slice w1 59 62 ty (.pointer none) Try.underlying59 (fun w => by go_simp) rfl rfl g m 1 (c - m) (by omega) (fun t ht => by rw [blk_cell hcur, Array.getElem?_eq_getElem (by omega)]; rfl) (fun t ht => blk_frozen hcur _)
  have X1 := Aside0.mk hr1
  have X2 := Aside0.mk hb1
  have X3 := Aside0.mk hg1
  have X4 := Aside0.mk hcur
  have X5 : Aside0 (w1.ownsRow B 62 1 (.slice (some ⟨g, 0, none⟩) m c) m (ptrs (l.eraseIdx k))) := ⟨by
    have := ho
    rw [List.length_eraseIdx_of_lt (by omega), hl] at this
    exact this⟩
  have X6 := Aside0.mk (own_base X5.out g rfl)
  have X7 : Aside0 (∀ j, j < w.heap.size → j ≠ g → w1.heap[j]? = w.heap[j]?) := ⟨fun j hj hne => hg1.block j hj (by simpa using hne)⟩
  clear hr1 hb1 hg1 hcur ho hsz
  go_wp2
  all_goals
    go_ret
    first
      | exact ⟨rfl, own_clear X5.out (.pointer none), X2.out.setCell (p := ⟨g, m, none⟩) X6.out (.pointer none), fun j hj hne => (Below.heap_setCell w1 ⟨g, m, none⟩ (.pointer none) j hne).trans (X7.out j hj hne)⟩
      | (have hh : c = k + 1 := by assumption
         subst hh
         exact ⟨rfl, own_clear X5.out (.pointer none), X2.out.setCell (p := ⟨g, m, none⟩) X6.out (.pointer none), fun j hj hne => (Below.heap_setCell w1 ⟨g, m, none⟩ (.pointer none) j hne).trans (X7.out j hj hne)⟩)
end Go.Proofs.Ytfhjdhhflpekiaa.G
