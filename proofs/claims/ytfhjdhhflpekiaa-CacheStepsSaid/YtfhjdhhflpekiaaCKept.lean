/- What Kept answers; Get in one word. -/
import Derived.Test.YtfhjdhhflpekiaaCBuild
import Derived.Test.YtfhjdhhflpekiaaCNew
namespace Go.Proofs.Ytfhjdhhflpekiaa.G
open Go.RowKit Go.Proofs.Cache Go.Proofs.YtfhjdhhflpekiaaW.PrintWords Go.Proofs.YtfhjdhhflpekiaaW.PrintLast Go.Proofs.YtfhjdhhflpekiaaW.PrintMore
set_option linter.unusedVariables false
set_option linter.unusedSimpArgs false
theorem get_ok (B : Bd) (sizes : List Int) (s : Cs) (i : Int) (w : World) (h : CacheAt B sizes w s) (hi : Inv sizes s.p) (hn : s.p.now ≤ 999999) (hs : ∀ x ∈ sizes, x ≤ 1000) (hi64 : -9223372036854775808 ≤ i ∧ i ≤ 9223372036854775807) (ho : okP sizes s.p i = true) :
    Calls Try.prog 13 #[.pointer (some ⟨s.g, 0, none⟩), .int .i64 i] w (GetOk B sizes i w s) := by
  unfold okP at ho
  by_cases c : findI s.p.kept i < s.p.kept.length
  · exact getHit.calls B sizes s i w h hi (by omega) c
  · exact getBuilt.calls B sizes s i w h hi hn c (by simpa [c] using ho) hs hi64
theorem get_bad (B : Bd) (sizes : List Int) (s : Cs) (i : Int) (w : World) (h : CacheAt B sizes w s) (hi : Inv sizes s.p) (hn : s.p.now ≤ 999999) (ho : okP sizes s.p i = false) :
    Calls Try.prog 13 #[.pointer (some ⟨s.g, 0, none⟩), .int .i64 i] w (GetBad B sizes i w s) := by
  unfold okP at ho
  simp only [Bool.or_eq_false_iff, decide_eq_false_iff_not, Bool.not_eq_false'] at ho
  exact getBad.calls B sizes s i w h hi (by omega) ho.1 ho.2
def KeptPost (l : List Int) (w : World) (e : Ending) (w' : World) : Prop :=
  ∃ A c, e = .returned (.slice A l.length c) ∧ l.length ≤ c ∧ Below w.heap.size w w' ∧ ∀ B : Bd, (∀ k, ¬ B.N k) → Rd (Kd.int .i64) B w' A l
theorem take_snocI (l : List Int) (j : Nat) (h : j < l.length) : l.take (j + 1) = l.take j ++ [l.getD j 0] := by
  rw [List.take_add_one, List.getElem?_eq_getElem h, List.getD_eq_getElem?_getD, List.getElem?_eq_getElem h]
  rfl
set_option maxHeartbeats 2000000 in
set_option maxRecDepth 100000 in
theorem kept.calls (B : Bd) (sizes : List Int) (s : Cs) (w : World) (h : CacheAt B sizes w s) (hl : s.ents.length ≤ 1000000) :
    Calls Try.prog 17 #[.pointer (some ⟨s.g, 0, none⟩)] w (KeptPost (s.p.kept.map (·.i)) w) := by
  obtain ⟨A, c, ek, hc, hm, hg⟩ := kv_open h.kv
  have HG : Aside0 (∀ w1, CacheAt B sizes w1 s → ∀ j, j < s.ents.length → ∃ g, A = some ⟨g, 0, none⟩ ∧ w1.cell? ⟨g, j, none⟩ = some (.pointer (some ⟨(s.ents.getD j dE).b, 0, none⟩))) := ⟨fun w1 h1 => by
    have := h1.kv
    rw [ek] at this
    exact kv_same this⟩
  have c3 : w.cell? ⟨s.g, 3, none⟩ = some (.slice A s.ents.length c) := by rw [← ek]; exact (blk_cell h.cells 3).trans rfl
  have hlen : (s.p.kept.map (·.i)).length = s.ents.length := by rw [List.length_map, h.kept, List.length_map]
  have HI : Aside0 (∀ j, j < s.ents.length → (s.p.kept.map (·.i)).getD j 0 = (s.ents.getD j dE).m.i) := ⟨fun j hj => by
    rw [h.kept, List.map_map, List.getD_eq_getElem?_getD, List.getElem?_map, List.getElem?_eq_getElem hj, List.getD_eq_getElem?_getD, List.getElem?_eq_getElem hj]
    rfl⟩
  have HC0 := Aside0.mk h
  have hmx : (s.ents.length : Int) ≤ 9223372036854775807 := by omega
  have HL := Aside0.mk hlen
  clear hg hm h ek hlen
  generalize s.p.kept.map (·.i) = l at *
  go_enter Try.func17, Try.ntmps17
  go_wp2
  clear c3
  go_loopg [3, 11] s.ents.length (fun kq v3 v11 w' => ∃ j : Nat, v11 = .int .i64 j ∧ ∃ W, W = w' ∧ Aside0 (j + kq = s.ents.length) ∧ Aside0 (W.ownsRow w.heap.size 3 1 v3 (l.take j).length (nums .i64 (l.take j))) ∧ Aside0 (Below w.heap.size w W))
  case atStart => exact ⟨0, rfl, _, rfl, ⟨by omega⟩, ⟨own_nil _ _ _ _⟩, ⟨Below.refl _ _⟩⟩
  case round =>
    obtain ⟨j, rfl, W, rfl, HJ1, HO, HB⟩ := hrel
    have hj := HJ1.out
    by_cases hlt : j < s.ents.length
    · have c1 : decide ((j : Int) < (s.ents.length : Int)) = true := decide_eq_true (by omega)
      have i0 : 0 ≤ (j : Int) := by omega
      have i1 : (j : Int) < (s.ents.length : Int) := by omega
      have hW := HC0.out.below HB.out
      obtain ⟨gb, rfl, hcell⟩ := HG.out W hW j hlt
      have hE := hW.ents _ (getE (l := s.ents) hlt)
      have x0 : W.cell? ⟨(s.ents.getD j dE).b, 0, none⟩ = some (.int .i64 (s.ents.getD j dE).m.i) := (blk_cell hE.cells 0).trans rfl
      have HX := Aside0.mk (HI.out j hlt)
      clear hE hW
      generalize s.ents.getD j dE = e at *
      cases gk with
      | zero => omega
      | succ k1 =>
        go_wp2_with (first
         | ((with_reducible refine gate_builtin (b := .append) (xs := #[.tmp 15, .tmp 20]) rfl ?_); at_builtin; refine print_append_num (w0 := w) w.heap.size rfl (.tmp 15) (.tmp 20) 22 3 .i64 8 rfl Try.underlying22 info3 (by decide) _ (l.take j) e.m.i (by rfl) (by rfl) HO.out HB.out HB.out.size (by have h1 := HL.out; rw [List.length_take]; omega) ?_
            intro v1 w1 ho1 hb1 hg1 hat1
            have HO2 := Aside0.mk ho1
            have HB2 := Aside0.mk hb1
            clear ho1 hb1 hg1 hat1))
        go_roundg k1
        case measure => omega
        case rel =>
          refine ⟨j + 1, by simp, _, rfl, ⟨by omega⟩, ⟨?_⟩, HB2⟩
          rw [take_snocI l j (by rw [HL.out]; exact hlt), HX.out]
          exact HO2.out
    · have c1 : decide ((j : Int) < (s.ents.length : Int)) = false := decide_eq_false (by omega)
      have V : Aside0 (∀ v, W.ownsRow w.heap.size 3 1 v (l.take j).length (nums .i64 (l.take j)) → KeptPost l w (.returned v) W) := ⟨fun v ho => by
        rw [List.take_of_length_le (by rw [HL.out]; omega)] at ho
        have hR := Kd.R_of_own (h1 := fun _ => rfl) (ok := fun _ => True) ho (fun _ _ => trivial)
        obtain ⟨A', c', rfl, hc', _⟩ := Rd.of_R (B := ⟨0, fun _ => False⟩) (d := Kd.int .i64) hR rfl (fun _ => id)
        refine ⟨A', c', rfl, hc', HB.out, fun B hN => ?_⟩
        obtain ⟨A2, c2, e2, _, h2⟩ := Rd.of_R (B := B) (d := Kd.int .i64) hR rfl hN
        cases e2
        exact h2⟩
      go_wp2
      go_ret
      exact V.out _ HO.out
end Go.Proofs.Ytfhjdhhflpekiaa.G
