-- Written by a program of this session (wip/gen), out of the translation; Lean checks it.
import Derived.Test.YtmhnidmbgicgeaaGx0
import Derived.Test.YtmhnidmbgicgeaaGx5
namespace Go.Proofs.Ytmhnidmbgicgeaa.G
open Go.RowKit Go.Proofs.YtmhnidmbgicgeaaW.PrintWords Go.Proofs.YtmhnidmbgicgeaaW.PrintLast Go.Proofs.YtmhnidmbgicgeaaW.PrintMore
attribute [local go_sem] max2_int min2_int max_two min_two max_three min_three max_four min_four   -- for this text's walks alone
set_option linter.unusedVariables false
set_option linter.unusedSimpArgs false

/-! ### vec_Cut: function 28 -/
def vec_Cut.l0 : Nat → Int → Int → Int → Int → Option (Int × Int × Int)
  | 0, _, _, _, _ => none
  | k + 1, x1, x109000, x109001, x109002 => (vec_Within.f x109000 x109001 x109002 x1).bind fun t110 => (if t110 = true then (some (x109000, x109001, x109002)) else (vec_Cut.l0 k x1 (wrap64 (Int.tdiv x109000 2)) (wrap64 (Int.tdiv x109001 2)) (wrap64 (Int.tdiv x109002 2))))
def vec_Cut.f (k : Nat) (a0_0 : Int) (a0_1 : Int) (a0_2 : Int) (a1 : Int) : Option (Int × Int × Int) := if a1 < 1 then (some (0, 0, 0)) else (vec_Cut.l0 k a1 a0_0 a0_1 a0_2)
theorem vec_Cut.mono_l : ∀ k, (∀ y0 y1 y2 y3, LeO (vec_Cut.l0 k y0 y1 y2 y3) (vec_Cut.l0 (k + 1) y0 y1 y2 y3))
  | 0 => fun _ _ _ _ r h => by simp [vec_Cut.l0] at h
  | k + 1 => by
    have ih0 := vec_Cut.mono_l k
    · intro y0 y1 y2 y3
      unfold vec_Cut.l0
      repeat' first
      | (with_reducible exact ih0 _ _ _ _)
      | (with_reducible exact LeO.refl _)
      | (with_reducible exact LeO.none _)
      | (with_reducible refine LeO.ite ?_ ?_)
      | (with_reducible refine LeO.bind ?_ (fun _ => ?_))
      | exact ih0 _ _ _ _
      | exact LeO.none _
      | refine LeO.ite ?_ ?_
      | refine LeO.bind ?_ (fun _ => ?_)
theorem vec_Cut.mono : ∀ a0 a1 a2 a3 k, LeO (vec_Cut.f k a0 a1 a2 a3) (vec_Cut.f (k + 1) a0 a1 a2 a3) := by
  intro a0 a1 a2 a3 k
  have ih0 := vec_Cut.mono_l k
  unfold vec_Cut.f
  repeat' first
      | (with_reducible exact ih0 _ _ _ _)
      | (with_reducible exact LeO.refl _)
      | (with_reducible exact LeO.none _)
      | (with_reducible refine LeO.ite ?_ ?_)
      | (with_reducible refine LeO.bind ?_ (fun _ => ?_))
      | exact ih0 _ _ _ _
      | exact LeO.none _
      | refine LeO.ite ?_ ?_
      | refine LeO.bind ?_ (fun _ => ?_)
set_option maxHeartbeats 8000000 in
set_option maxRecDepth 100000 in
theorem vec_Cut.calls (k : Nat) (a0_0 : Int) (a0_1 : Int) (a0_2 : Int) (a1 : Int) (r1 : Int) (r2 : Int) (r3 : Int) (w : World) (h : vec_Cut.f k a0_0 a0_1 a0_2 a1 = some (r1, r2, r3)) :
    Calls Try.prog 28 #[.agg #[.int .i64 a0_0, .int .i64 a0_1, .int .i64 a0_2], .int .i64 a1] w fun e w' => e = .returned (.agg #[.int .i64 r1, .int .i64 r2, .int .i64 r3]) ∧ Below w.heap.size w w' := by
 have hu26 := Try.underlying26
 have HB := Aside0.mk (Below.refl w.heap.size w)
 have H : (if a1 < 1 then (some (0, 0, 0)) else (vec_Cut.l0 k a1 a0_0 a0_1 a0_2)) = some (r1, r2, r3) := h
 clear h
 by_cases c3 : a1 < 1
 ·rw [if_pos c3] at H
  have c3b0 : decide (a1 < 1) = true := decide_eq_true c3
  clear c3
  simp only [Option.some.injEq, Prod.mk.injEq] at H
  obtain ⟨rfl, rfl, rfl⟩ := H
  go_enter Try.func28, Try.ntmps28
  go_wp2_with (first | ((with_reducible refine gate_dst (N := 2) rfl ?_); refine box_event ?hg (N := 2) ?hd (cs := #[.int .i64 a0_0, .int .i64 a0_1, .int .i64 a0_2]) (t := 26) ?hr ?_; (case hd => rfl); (case hg => rfl); (case hr => first | (go_simp; done) | (go_simp; rfl)); intro gb108 hg w4 hbox hb; have BK108 := Aside0.mk (hbox); have GE108 := Aside0.mk (bG hg (HB.out)); replace HB := Aside0.mk (below_step (HB.out) hb); clear hb hbox hg) | ((with_reducible refine gate_dst (N := 4) rfl ?_); refine box_event ?hg (N := 4) ?hd (cs := #[.int .i64 0, .int .i64 0, .int .i64 0]) (t := 26) ?hr ?_; (case hd => rfl); (case hg => rfl); (case hr => first | (go_simp; done) | (go_simp; rfl)); intro gb109 hg w5 hbox hb; have BK109 := Aside0.mk (hbox); have GE109 := Aside0.mk (bG hg (HB.out)); have NB108_109 := cN hg BK108; have NB109_108 := cM hg BK108; replace BK108 := cB hb BK108; replace HB := Aside0.mk (below_step (HB.out) hb); clear hb hbox hg; have hnb6 := NB109_108.out; have hnc6 := NB108_109.out; obtain ⟨hcz7_0, hcz7_1, hcz7_2⟩ := cells3 BK109.out; have hfz7_0 := blk_frozen BK109.out 0; have hfz7_1 := blk_frozen BK109.out 1; have hfz7_2 := blk_frozen BK109.out 2))
  refine bodyPost_ret (results_cell_row rfl _ _ gb109 26 #[.int .i64 0, .int .i64 0, .int .i64 0] (0, 0) _ rfl ((blk_put (cs' := #[.int .i64 0, .int .i64 0, .int .i64 0]) (blk_put (blk_put BK109.out 0 _ rfl) 1 _ rfl) 2 _ rfl)) Try.underlying26 rfl (by kernel_rfl)) rfl ?_
  exact ⟨by first | rfl | (simp [errW_none, errW_some] <;> rfl) | (simp [*, errW_none, errW_some] <;> rfl), (below_set (below_set (below_set HB.out GE109.out) GE109.out) GE109.out)⟩
 rw [if_neg c3] at H
 have c3b0 : decide (a1 < 1) = false := decide_eq_false c3
 clear c3
 have H' := Aside0.mk H
 clear H
 go_enter Try.func28, Try.ntmps28
 go_wp2_with (first | ((with_reducible refine gate_dst (N := 2) rfl ?_); refine box_event ?hg (N := 2) ?hd (cs := #[.int .i64 a0_0, .int .i64 a0_1, .int .i64 a0_2]) (t := 26) ?hr ?_; (case hd => rfl); (case hg => rfl); (case hr => first | (go_simp; done) | (go_simp; rfl)); intro gb108 hg w8 hbox hb; have BK108 := Aside0.mk (hbox); have GE108 := Aside0.mk (bG hg (HB.out)); replace HB := Aside0.mk (below_step (HB.out) hb); clear hb hbox hg) | ((with_reducible refine gate_dst (N := 4) rfl ?_); refine box_event ?hg (N := 4) ?hd (cs := #[.int .i64 0, .int .i64 0, .int .i64 0]) (t := 26) ?hr ?_; (case hd => rfl); (case hg => rfl); (case hr => first | (go_simp; done) | (go_simp; rfl)); intro gb109 hg w9 hbox hb; have BK109 := Aside0.mk (hbox); have GE109 := Aside0.mk (bG hg (HB.out)); have NB108_109 := cN hg BK108; have NB109_108 := cM hg BK108; replace BK108 := cB hb BK108; replace HB := Aside0.mk (below_step (HB.out) hb); clear hb hbox hg))
 go_loopg [] k (fun kq w' => ∃ (x109000_1 : Int) (x109001_1 : Int) (x109002_1 : Int), Aside0 (vec_Cut.l0 kq a1 x109000_1 x109001_1 x109002_1 = some (r1, r2, r3)) ∧ Aside0 (kq ≤ k) ∧ Aside0 (w'.heap[gb108]? = some (.cells #[.int .i64 x109000_1, .int .i64 x109001_1, .int .i64 x109002_1] 26 (0, 0))) ∧ Aside0 (w'.heap[gb109]? = some (.cells #[.int .i64 0, .int .i64 0, .int .i64 0] 26 (0, 0))) ∧ Aside0 (Below w.heap.size w w'))
 case atStart => exact ⟨(a0_0), (a0_1), (a0_2), H', ⟨Nat.le_refl _⟩, ⟨BK108.out⟩, ⟨BK109.out⟩, ⟨HB.out⟩⟩
 case round =>
  clear H'
  try clear c3
  try clear c3b0
  obtain ⟨x109000_1, x109001_1, x109002_1, HA, HK1, BK108, BK109, HB⟩ := hrel
  cases gk with
  | zero => exact absurd HA.out (by simp [vec_Cut.l0])
  | succ k1 =>
   have H := HA.out
   clear HA
   simp only [vec_Cut.l0] at H
   replace H := Option.bind_eq_some_iff.mp H
   obtain ⟨t110, A100, H⟩ := H
   replace H : (if t110 = true then (some (x109000_1, x109001_1, x109002_1)) else (vec_Cut.l0 k1 a1 (wrap64 (Int.tdiv x109000_1 2)) (wrap64 (Int.tdiv x109001_1 2)) (wrap64 (Int.tdiv x109002_1 2)))) = some (r1, r2, r3) := H
   have A10 := Aside0.mk A100
   clear A100
   by_cases c11 : t110 = true
   ·subst c11
    have H1 : (some (x109000_1, x109001_1, x109002_1)) = some (r1, r2, r3) := by rw [if_pos rfl] at H; exact H
    clear H
    have H := H1
    clear H1
    simp only [Option.some.injEq, Prod.mk.injEq] at H
    obtain ⟨rfl, rfl, rfl⟩ := H
    have hnb12 := NB108_109.out
    have hnc12 := NB109_108.out
    obtain ⟨hcz13_0, hcz13_1, hcz13_2⟩ := cells3 BK108.out
    go_wp2_with (first | ((with_reducible refine gate_callee (f := 13) rfl ?_); refine goesL_ (some 10) rfl rfl Try.func13 (by kernel_rfl) rfl #[.agg #[.int .i64 x109000_1, .int .i64 x109001_1, .int .i64 x109002_1], .int .i64 a1] rfl (by (try simp only [List.map_toArray, List.map_cons, List.map_nil]); first | done | rfl | (simp only [List.length_drop, List.length_take]; rfl)) ?_; (with_reducible refine (vec_Within.calls x109000_1 x109001_1 x109002_1 a1 true _ A10.out).mono ?_); rintro e w14 ⟨rfl, hb⟩; refine ⟨_, rfl, ?_⟩; replace BK108 := cB hb BK108; replace BK109 := cB hb BK109; replace HB := Aside0.mk (below_step (HB.out) hb); (try clear hb); (try clear hb2); (try clear hk); (try clear hi); obtain ⟨hcz15_0, hcz15_1, hcz15_2⟩ := cells3 BK108.out; obtain ⟨hcz16_0, hcz16_1, hcz16_2⟩ := cells3 BK109.out; have hfz16_0 := blk_frozen BK109.out 0; have hfz16_1 := blk_frozen BK109.out 1; have hfz16_2 := blk_frozen BK109.out 2))
    refine bodyPost_ret (results_cell_row rfl _ _ gb109 26 #[.int .i64 x109000_1, .int .i64 x109001_1, .int .i64 x109002_1] (0, 0) _ rfl ((blk_put (cs' := #[.int .i64 x109000_1, .int .i64 x109001_1, .int .i64 x109002_1]) (blk_put (blk_put BK109.out 0 _ rfl) 1 _ rfl) 2 _ rfl)) Try.underlying26 rfl (by kernel_rfl)) rfl ?_
    exact ⟨by first | rfl | (simp [errW_none, errW_some] <;> rfl) | (simp [*, errW_none, errW_some] <;> rfl), (below_set (below_set (below_set HB.out GE109.out) GE109.out) GE109.out)⟩
   replace c11 := Bool.eq_false_iff.mpr c11
   subst c11
   have H1 : (vec_Cut.l0 k1 a1 (wrap64 (Int.tdiv x109000_1 2)) (wrap64 (Int.tdiv x109001_1 2)) (wrap64 (Int.tdiv x109002_1 2))) = some (r1, r2, r3) := by rw [if_neg (show ¬ (false = true) by decide)] at H; exact H
   clear H
   have H := H1
   clear H1
   have H' := Aside0.mk H
   clear H
   have hnb17 := NB108_109.out
   have hnc17 := NB109_108.out
   obtain ⟨hcz18_0, hcz18_1, hcz18_2⟩ := cells3 BK108.out
   have hfz18_0 := blk_frozen BK108.out 0
   have hfz18_1 := blk_frozen BK108.out 1
   have hfz18_2 := blk_frozen BK108.out 2
   go_wp2_with (first | ((with_reducible refine gate_callee (f := 13) rfl ?_); refine goesL_ (some 10) rfl rfl Try.func13 (by kernel_rfl) rfl #[.agg #[.int .i64 x109000_1, .int .i64 x109001_1, .int .i64 x109002_1], .int .i64 a1] rfl (by (try simp only [List.map_toArray, List.map_cons, List.map_nil]); first | done | rfl | (simp only [List.length_drop, List.length_take]; rfl)) ?_; (with_reducible refine (vec_Within.calls x109000_1 x109001_1 x109002_1 a1 false _ A10.out).mono ?_); rintro e w19 ⟨rfl, hb⟩; refine ⟨_, rfl, ?_⟩; replace BK108 := cB hb BK108; replace BK109 := cB hb BK109; replace HB := Aside0.mk (below_step (HB.out) hb); (try clear hb); (try clear hb2); (try clear hk); (try clear hi); obtain ⟨hcz20_0, hcz20_1, hcz20_2⟩ := cells3 BK108.out; have hfz20_0 := blk_frozen BK108.out 0; have hfz20_1 := blk_frozen BK108.out 1; have hfz20_2 := blk_frozen BK108.out 2) | ((with_reducible refine gate_store (t := 3) (p := 15) rfl ?_); refine store_event (t := 3) (p := 15) (v := ?vo_w21) (w1 := (w19.setCell ⟨gb108, 0, none⟩ (.int .i64 (wrap64 (Int.tdiv x109000_1 2))))) ?hg ?ho ?hn ?hr ?_; (case ho => rfl); (case hg => rfl); (case hn => rfl); (case hr => first | (go_simp; done) | (go_simp; rfl)); intro w21 hw; have n0_ : Aside0 (w21.heap[gb108]? = some (.cells #[.int .i64 (wrap64 (Int.tdiv x109000_1 2)), .int .i64 x109001_1, .int .i64 x109002_1] 26 (0, 0))) := ⟨(by rw [hw]; exact ((blk_put (cs' := #[.int .i64 (wrap64 (Int.tdiv x109000_1 2)), .int .i64 x109001_1, .int .i64 x109002_1]) BK108.out 0 _ rfl)))⟩; have n1_ : Aside0 (w21.heap[gb109]? = some (.cells #[.int .i64 0, .int .i64 0, .int .i64 0] 26 (0, 0))) := ⟨(by rw [hw]; exact ((blk_far BK109.out NB109_108.out _)))⟩; have n2_ : Aside0 (Below w.heap.size w w21) := ⟨(by rw [hw]; exact ((below_set HB.out GE108.out)))⟩; clear hw; clear BK108; clear BK109; clear HB; have BK108 := n0_; have BK109 := n1_; have HB := n2_; clear n0_ n1_ n2_; obtain ⟨hcz22_0, hcz22_1, hcz22_2⟩ := cells3 BK108.out; have hfz22_0 := blk_frozen BK108.out 0; have hfz22_1 := blk_frozen BK108.out 1; have hfz22_2 := blk_frozen BK108.out 2) | ((with_reducible refine gate_store (t := 3) (p := 19) rfl ?_); refine store_event (t := 3) (p := 19) (v := ?vo_w23) (w1 := (w21.setCell ⟨gb108, 1, none⟩ (.int .i64 (wrap64 (Int.tdiv x109001_1 2))))) ?hg ?ho ?hn ?hr ?_; (case ho => rfl); (case hg => rfl); (case hn => rfl); (case hr => first | (go_simp; done) | (go_simp; rfl)); intro w23 hw; have n0_ : Aside0 (w23.heap[gb108]? = some (.cells #[.int .i64 (wrap64 (Int.tdiv x109000_1 2)), .int .i64 (wrap64 (Int.tdiv x109001_1 2)), .int .i64 x109002_1] 26 (0, 0))) := ⟨(by rw [hw]; exact ((blk_put (cs' := #[.int .i64 (wrap64 (Int.tdiv x109000_1 2)), .int .i64 (wrap64 (Int.tdiv x109001_1 2)), .int .i64 x109002_1]) BK108.out 1 _ rfl)))⟩; have n1_ : Aside0 (w23.heap[gb109]? = some (.cells #[.int .i64 0, .int .i64 0, .int .i64 0] 26 (0, 0))) := ⟨(by rw [hw]; exact ((blk_far BK109.out NB109_108.out _)))⟩; have n2_ : Aside0 (Below w.heap.size w w23) := ⟨(by rw [hw]; exact ((below_set HB.out GE108.out)))⟩; clear hw; clear BK108; clear BK109; clear HB; have BK108 := n0_; have BK109 := n1_; have HB := n2_; clear n0_ n1_ n2_; obtain ⟨hcz24_0, hcz24_1, hcz24_2⟩ := cells3 BK108.out; have hfz24_0 := blk_frozen BK108.out 0; have hfz24_1 := blk_frozen BK108.out 1; have hfz24_2 := blk_frozen BK108.out 2))
   go_roundg k1
   case measure => have := HK1.out; omega
   case rel => exact ⟨(wrap64 (Int.tdiv x109000_1 2)), (wrap64 (Int.tdiv x109001_1 2)), (wrap64 (Int.tdiv x109002_1 2)), H', ⟨by have := HK1.out; omega⟩, ⟨(blk_put (cs' := #[.int .i64 (wrap64 (Int.tdiv x109000_1 2)), .int .i64 (wrap64 (Int.tdiv x109001_1 2)), .int .i64 (wrap64 (Int.tdiv x109002_1 2))]) BK108.out 2 _ rfl)⟩, ⟨(blk_far BK109.out NB109_108.out _)⟩, ⟨(below_set HB.out GE108.out)⟩⟩

end Go.Proofs.Ytmhnidmbgicgeaa.G
