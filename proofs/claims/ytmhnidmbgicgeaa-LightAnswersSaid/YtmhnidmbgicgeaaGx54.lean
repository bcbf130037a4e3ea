-- Written by a program of this session (wip/gen), out of the translation; Lean checks it.
import Derived.Test.YtmhnidmbgicgeaaGx0
import Derived.Test.YtmhnidmbgicgeaaGx53
namespace Go.Proofs.Ytmhnidmbgicgeaa.G
open Go.RowKit Go.Proofs.YtmhnidmbgicgeaaW.PrintWords Go.Proofs.YtmhnidmbgicgeaaW.PrintLast Go.Proofs.YtmhnidmbgicgeaaW.PrintMore
attribute [local go_sem] max2_int min2_int max_two min_two max_three min_three max_four min_four   -- for this text's walks alone
set_option linter.unusedVariables false
set_option linter.unusedSimpArgs false

/-! ### relievoref19_Blend: function 25 -/
def relievoref19_Blend.j0 : Nat → Int → Int → Bool → Int → Int → Int → Int → Int → Int → Int → Int → Int → Option (Int × Int × Int)
  | 0, _, _, _, _, _, _, _, _, _, _, _, _ => none
  | k + 1, x3, x4, x33, x346000, x346001, x346002, x347000, x347001, x347002, x348000, x348001, x348002 => if x33 = true then (some (0, 0, 0)) else ((relievoref19_clamp.f x346000).bind fun t349 => ((relievoref19_clamp.f x347000).bind fun t350 => ((relievoref19_clamp.f x348000).bind fun t351 => ((relievoref19_clamp.f x346001).bind fun t352 => ((relievoref19_clamp.f x347001).bind fun t353 => ((relievoref19_clamp.f x348001).bind fun t354 => ((relievoref19_clamp.f x346002).bind fun t355 => ((relievoref19_clamp.f x347002).bind fun t356 => ((relievoref19_clamp.f x348002).bind fun t357 => (some (wrap64 (Int.tdiv (wrap64 ((wrap64 ((wrap64 (t349 * (wrap64 ((wrap64 (256 - x3)) - x4)))) + (wrap64 (t350 * x3)))) + (wrap64 (t351 * x4)))) 256), wrap64 (Int.tdiv (wrap64 ((wrap64 ((wrap64 (t352 * (wrap64 ((wrap64 (256 - x3)) - x4)))) + (wrap64 (t353 * x3)))) + (wrap64 (t354 * x4)))) 256), wrap64 (Int.tdiv (wrap64 ((wrap64 ((wrap64 (t355 * (wrap64 ((wrap64 (256 - x3)) - x4)))) + (wrap64 (t356 * x3)))) + (wrap64 (t357 * x4)))) 256))))))))))))
def relievoref19_Blend.f (k : Nat) (a0_0 : Int) (a0_1 : Int) (a0_2 : Int) (a1_0 : Int) (a1_1 : Int) (a1_2 : Int) (a2_0 : Int) (a2_1 : Int) (a2_2 : Int) (a3 : Int) (a4 : Int) : Option (Int × Int × Int) := if a3 < 0 then (relievoref19_Blend.j0 k a3 a4 true a0_0 a0_1 a0_2 a1_0 a1_1 a1_2 a2_0 a2_1 a2_2) else (if a4 < 0 then (relievoref19_Blend.j0 k a3 a4 true a0_0 a0_1 a0_2 a1_0 a1_1 a1_2 a2_0 a2_1 a2_2) else (if a3 > 256 then (relievoref19_Blend.j0 k a3 a4 true a0_0 a0_1 a0_2 a1_0 a1_1 a1_2 a2_0 a2_1 a2_2) else (if a4 > 256 then (relievoref19_Blend.j0 k a3 a4 true a0_0 a0_1 a0_2 a1_0 a1_1 a1_2 a2_0 a2_1 a2_2) else (relievoref19_Blend.j0 k a3 a4 (decide ((wrap64 (a3 + a4)) > 256)) a0_0 a0_1 a0_2 a1_0 a1_1 a1_2 a2_0 a2_1 a2_2))))
theorem relievoref19_Blend.mono_l : ∀ k, (∀ y0 y1 y2 y3 y4 y5 y6 y7 y8 y9 y10 y11, LeO (relievoref19_Blend.j0 k y0 y1 y2 y3 y4 y5 y6 y7 y8 y9 y10 y11) (relievoref19_Blend.j0 (k + 1) y0 y1 y2 y3 y4 y5 y6 y7 y8 y9 y10 y11))
  | 0 => fun _ _ _ _ _ _ _ _ _ _ _ _ r h => by simp [relievoref19_Blend.j0] at h
  | k + 1 => by
    have ih0 := relievoref19_Blend.mono_l k
    · intro y0 y1 y2 y3 y4 y5 y6 y7 y8 y9 y10 y11
      unfold relievoref19_Blend.j0
      repeat' first
      | (with_reducible exact ih0 _ _ _ _ _ _ _ _ _ _ _ _)
      | (with_reducible exact LeO.refl _)
      | (with_reducible exact LeO.none _)
      | (with_reducible refine LeO.ite ?_ ?_)
      | (with_reducible refine LeO.bind ?_ (fun _ => ?_))
      | exact ih0 _ _ _ _ _ _ _ _ _ _ _ _
      | exact LeO.none _
      | refine LeO.ite ?_ ?_
      | refine LeO.bind ?_ (fun _ => ?_)
theorem relievoref19_Blend.mono : ∀ a0 a1 a2 a3 a4 a5 a6 a7 a8 a9 a10 k, LeO (relievoref19_Blend.f k a0 a1 a2 a3 a4 a5 a6 a7 a8 a9 a10) (relievoref19_Blend.f (k + 1) a0 a1 a2 a3 a4 a5 a6 a7 a8 a9 a10) := by
  intro a0 a1 a2 a3 a4 a5 a6 a7 a8 a9 a10 k
  have ih0 := relievoref19_Blend.mono_l k
  unfold relievoref19_Blend.f
  repeat' first
      | (with_reducible exact ih0 _ _ _ _ _ _ _ _ _ _ _ _)
      | (with_reducible exact LeO.refl _)
      | (with_reducible exact LeO.none _)
      | (with_reducible refine LeO.ite ?_ ?_)
      | (with_reducible refine LeO.bind ?_ (fun _ => ?_))
      | exact ih0 _ _ _ _ _ _ _ _ _ _ _ _
      | exact LeO.none _
      | refine LeO.ite ?_ ?_
      | refine LeO.bind ?_ (fun _ => ?_)
def relievoref19_Blend.T3 : Bool × List (List Nat × List Nat) := (true, [([], []), ([0], [0]), ([1], [1]), ([], []), ([3], [3]), ([], []), ([4, 5], [4, 5]), ([2, 6], [2, 6]), ([], []), ([8], [8]), ([9, 2], [9]), ([], []), ([10, 11], [10, 11]), ([7, 12], [7, 12]), ([], []), ([14], [14]), ([15, 10], [15]), ([], []), ([16, 17], [16, 17]), ([13, 18], [13, 18]), ([19], [19]), ([20, 16, 0, 1, 2, 3, 4, 5, 6, 7, 8, 9, 10, 11, 12, 13, 14, 15, 16, 17, 18, 19, 20], [20])])
def relievoref19_Blend.B3 : List Nat := [0, 1, 3, 0, 8, 0, 56, 127, 0, 256, 775, 0, 3847, 8191, 0, 16384, 50951, 0, 247559, 524287, 1048575, 2097151]
theorem relievoref19_Blend.tab3 : rtab .any (opsOf Try.f25 3) = relievoref19_Blend.T3 := by kernel_rfl
theorem relievoref19_Blend.bits3 : waitsOk relievoref19_Blend.T3.2 relievoref19_Blend.B3 = true := by kernel_rfl
def relievoref19_Blend.T4 : Bool × List (List Nat × List Nat) := (true, [([], []), ([0], [0]), ([1], [1]), ([], []), ([3], [3]), ([], []), ([4, 5], [4, 5]), ([2, 6], [2, 6]), ([], []), ([8], [8]), ([9, 2], [9]), ([], []), ([10, 11], [10, 11]), ([7, 12], [7, 12]), ([], []), ([14], [14]), ([15, 10], [15]), ([], []), ([16, 17], [16, 17]), ([13, 18], [13, 18]), ([19], [19]), ([20, 16, 0, 1, 2, 3, 4, 5, 6, 7, 8, 9, 10, 11, 12, 13, 14, 15, 16, 17, 18, 19, 20], [20])])
def relievoref19_Blend.B4 : List Nat := [0, 1, 3, 0, 8, 0, 56, 127, 0, 256, 775, 0, 3847, 8191, 0, 16384, 50951, 0, 247559, 524287, 1048575, 2097151]
theorem relievoref19_Blend.tab4 : rtab .any (opsOf Try.f25 4) = relievoref19_Blend.T4 := by kernel_rfl
theorem relievoref19_Blend.bits4 : waitsOk relievoref19_Blend.T4.2 relievoref19_Blend.B4 = true := by kernel_rfl
def relievoref19_Blend.T5 : Bool × List (List Nat × List Nat) := (true, [([], []), ([0], [0]), ([1], [1]), ([], []), ([3], [3]), ([], []), ([4, 5], [4, 5]), ([2, 6], [2, 6]), ([], []), ([8], [8]), ([9, 2], [9]), ([], []), ([10, 11], [10, 11]), ([7, 12], [7, 12]), ([], []), ([14], [14]), ([15, 10], [15]), ([], []), ([16, 17], [16, 17]), ([13, 18], [13, 18]), ([19], [19]), ([20, 16, 0, 1, 2, 3, 4, 5, 6, 7, 8, 9, 10, 11, 12, 13, 14, 15, 16, 17, 18, 19, 20], [20])])
def relievoref19_Blend.B5 : List Nat := [0, 1, 3, 0, 8, 0, 56, 127, 0, 256, 775, 0, 3847, 8191, 0, 16384, 50951, 0, 247559, 524287, 1048575, 2097151]
theorem relievoref19_Blend.tab5 : rtab .any (opsOf Try.f25 5) = relievoref19_Blend.T5 := by kernel_rfl
theorem relievoref19_Blend.bits5 : waitsOk relievoref19_Blend.T5.2 relievoref19_Blend.B5 = true := by kernel_rfl
set_option maxHeartbeats 8000000 in
set_option maxRecDepth 100000 in
theorem relievoref19_Blend.calls (k : Nat) (a0_0 : Int) (a0_1 : Int) (a0_2 : Int) (a1_0 : Int) (a1_1 : Int) (a1_2 : Int) (a2_0 : Int) (a2_1 : Int) (a2_2 : Int) (a3 : Int) (a4 : Int) (r1 : Int) (r2 : Int) (r3 : Int) (w : World) (h : relievoref19_Blend.f k a0_0 a0_1 a0_2 a1_0 a1_1 a1_2 a2_0 a2_1 a2_2 a3 a4 = some (r1, r2, r3)) :
    Calls Try.prog 25 #[.agg #[.int .i64 a0_0, .int .i64 a0_1, .int .i64 a0_2], .agg #[.int .i64 a1_0, .int .i64 a1_1, .int .i64 a1_2], .agg #[.int .i64 a2_0, .int .i64 a2_1, .int .i64 a2_2], .int .i64 a3, .int .i64 a4] w fun e w' => e = .returned (.agg #[.int .i64 r1, .int .i64 r2, .int .i64 r3]) ∧ Below w.heap.size w w' := by
 have hu37 := Try.underlying37
 have HB := Aside0.mk (Below.refl w.heap.size w)
 have H : (if a3 < 0 then (relievoref19_Blend.j0 k a3 a4 true a0_0 a0_1 a0_2 a1_0 a1_1 a1_2 a2_0 a2_1 a2_2) else (if a4 < 0 then (relievoref19_Blend.j0 k a3 a4 true a0_0 a0_1 a0_2 a1_0 a1_1 a1_2 a2_0 a2_1 a2_2) else (if a3 > 256 then (relievoref19_Blend.j0 k a3 a4 true a0_0 a0_1 a0_2 a1_0 a1_1 a1_2 a2_0 a2_1 a2_2) else (if a4 > 256 then (relievoref19_Blend.j0 k a3 a4 true a0_0 a0_1 a0_2 a1_0 a1_1 a1_2 a2_0 a2_1 a2_2) else (relievoref19_Blend.j0 k a3 a4 (decide ((wrap64 (a3 + a4)) > 256)) a0_0 a0_1 a0_2 a1_0 a1_1 a1_2 a2_0 a2_1 a2_2))))) = some (r1, r2, r3) := h
 clear h
 have HC6 := Aside0.mk H
 clear H
 go_enter Try.func25, Try.ntmps25
 go_upto_region 1 with (first | ((with_reducible refine gate_dst (N := 5) rfl ?_); refine box_event ?hg (N := 5) ?hd (cs := #[.int .i64 a0_0, .int .i64 a0_1, .int .i64 a0_2]) (t := 37) ?hr ?_; (case hd => rfl); (case hg => rfl); (case hr => first | (go_simp; done) | (go_simp; rfl)); intro gb345 hg w7 hbox hb; have BK345 := Aside0.mk (hbox); have GE345 := Aside0.mk (bG hg (HB.out)); replace HB := Aside0.mk (below_step (HB.out) hb); clear hb hbox hg) | ((with_reducible refine gate_dst (N := 6) rfl ?_); refine box_event ?hg (N := 6) ?hd (cs := #[.int .i64 a1_0, .int .i64 a1_1, .int .i64 a1_2]) (t := 37) ?hr ?_; (case hd => rfl); (case hg => rfl); (case hr => first | (go_simp; done) | (go_simp; rfl)); intro gb346 hg w8 hbox hb; have BK346 := Aside0.mk (hbox); have GE346 := Aside0.mk (bG hg (HB.out)); have NB345_346 := cN hg BK345; have NB346_345 := cM hg BK345; replace BK345 := cB hb BK345; replace HB := Aside0.mk (below_step (HB.out) hb); clear hb hbox hg) | ((with_reducible refine gate_dst (N := 7) rfl ?_); refine box_event ?hg (N := 7) ?hd (cs := #[.int .i64 a2_0, .int .i64 a2_1, .int .i64 a2_2]) (t := 37) ?hr ?_; (case hd => rfl); (case hg => rfl); (case hr => first | (go_simp; done) | (go_simp; rfl)); intro gb347 hg w9 hbox hb; have BK347 := Aside0.mk (hbox); have GE347 := Aside0.mk (bG hg (HB.out)); have NB345_347 := cN hg BK345; have NB347_345 := cM hg BK345; have NB346_347 := cN hg BK346; have NB347_346 := cM hg BK346; replace BK345 := cB hb BK345; replace BK346 := cB hb BK346; replace HB := Aside0.mk (below_step (HB.out) hb); clear hb hbox hg) | ((with_reducible refine gate_dst (N := 10) rfl ?_); refine box_event ?hg (N := 10) ?hd (cs := #[.int .i64 0, .int .i64 0, .int .i64 0]) (t := 37) ?hr ?_; (case hd => rfl); (case hg => rfl); (case hr => first | (go_simp; done) | (go_simp; rfl)); intro gb348 hg w10 hbox hb; have BK348 := Aside0.mk (hbox); have GE348 := Aside0.mk (bG hg (HB.out)); have NB345_348 := cN hg BK345; have NB348_345 := cM hg BK345; have NB346_348 := cN hg BK346; have NB348_346 := cM hg BK346; have NB347_348 := cN hg BK347; have NB348_347 := cM hg BK347; replace BK345 := cB hb BK345; replace BK346 := cB hb BK346; replace BK347 := cB hb BK347; replace HB := Aside0.mk (below_step (HB.out) hb); clear hb hbox hg))
 (try simp only [Act.put, List.setIfInBounds_toArray, List.set_cons_zero, List.set_cons_succ])
 go_cut [33] (fun v33 wc => ∃ (kq : Nat) (x33_5 : Bool), v33 = .bool x33_5 ∧ Aside0 (relievoref19_Blend.j0 kq a3 a4 x33_5 a0_0 a0_1 a0_2 a1_0 a1_1 a1_2 a2_0 a2_1 a2_2 = some (r1, r2, r3)) ∧ Aside0 (kq ≤ k) ∧ Aside0 (wc.heap[gb345]? = some (.cells #[.int .i64 a0_0, .int .i64 a0_1, .int .i64 a0_2] 37 (0, 0))) ∧ Aside0 (wc.heap[gb346]? = some (.cells #[.int .i64 a1_0, .int .i64 a1_1, .int .i64 a1_2] 37 (0, 0))) ∧ Aside0 (wc.heap[gb347]? = some (.cells #[.int .i64 a2_0, .int .i64 a2_1, .int .i64 a2_2] 37 (0, 0))) ∧ Aside0 (wc.heap[gb348]? = some (.cells #[.int .i64 0, .int .i64 0, .int .i64 0] 37 (0, 0))) ∧ Aside0 (Below w.heap.size w wc))
 case first =>
  have H := HC6.out
  clear HC6
  by_cases c11 : a3 < 0
  ·rw [if_pos c11] at H
   have c11b0 : decide (a3 < 0) = true := decide_eq_true c11
   clear c11
   (first | rw [c11b0] | (simp only [i64_w, i32_w]; rw [c11b0]) | skip)
   have H' := Aside0.mk H
   clear H
   go_wp2
   go_meet
   case rel => exact ⟨_, (true), (by first | rfl | (simp; done) | (simp [*]; done)), H', ⟨by first | omega | exact Nat.le_refl _⟩, ⟨BK345.out⟩, ⟨BK346.out⟩, ⟨BK347.out⟩, ⟨BK348.out⟩, ⟨HB.out⟩⟩
  rw [if_neg c11] at H
  have c11b0 : decide (a3 < 0) = false := decide_eq_false c11
  clear c11
  (first | rw [c11b0] | (simp only [i64_w, i32_w]; rw [c11b0]) | skip)
  by_cases c12 : a4 < 0
  ·rw [if_pos c12] at H
   have c12b0 : decide (a4 < 0) = true := decide_eq_true c12
   clear c12
   have H' := Aside0.mk H
   clear H
   go_wp2
   go_meet
   case rel => exact ⟨_, (true), (by first | rfl | (simp; done) | (simp [*]; done)), H', ⟨by first | omega | exact Nat.le_refl _⟩, ⟨BK345.out⟩, ⟨BK346.out⟩, ⟨BK347.out⟩, ⟨BK348.out⟩, ⟨HB.out⟩⟩
  rw [if_neg c12] at H
  have c12b0 : decide (a4 < 0) = false := decide_eq_false c12
  clear c12
  by_cases c13 : a3 > 256
  ·rw [if_pos c13] at H
   have c13b0 : decide (256 < a3) = true := decide_eq_true c13
   clear c13
   have H' := Aside0.mk H
   clear H
   go_wp2
   go_meet
   case rel => exact ⟨_, (true), (by first | rfl | (simp; done) | (simp [*]; done)), H', ⟨by first | omega | exact Nat.le_refl _⟩, ⟨BK345.out⟩, ⟨BK346.out⟩, ⟨BK347.out⟩, ⟨BK348.out⟩, ⟨HB.out⟩⟩
  rw [if_neg c13] at H
  have c13b0 : decide (256 < a3) = false := decide_eq_false c13
  clear c13
  by_cases c14 : a4 > 256
  ·rw [if_pos c14] at H
   have c14b0 : decide (256 < a4) = true := decide_eq_true c14
   clear c14
   have H' := Aside0.mk H
   clear H
   go_wp2
   go_meet
   case rel => exact ⟨_, (true), (by first | rfl | (simp; done) | (simp [*]; done)), H', ⟨by first | omega | exact Nat.le_refl _⟩, ⟨BK345.out⟩, ⟨BK346.out⟩, ⟨BK347.out⟩, ⟨BK348.out⟩, ⟨HB.out⟩⟩
  rw [if_neg c14] at H
  have c14b0 : decide (256 < a4) = false := decide_eq_false c14
  clear c14
  have H' := Aside0.mk H
  clear H
  go_wp2
  go_meet
  case rel => exact ⟨_, (decide ((wrap64 (a3 + a4)) > 256)), (by first | rfl | (simp; done) | (simp [*]; done)), H', ⟨by first | omega | exact Nat.le_refl _⟩, ⟨BK345.out⟩, ⟨BK346.out⟩, ⟨BK347.out⟩, ⟨BK348.out⟩, ⟨HB.out⟩⟩
 clear HC6
 obtain ⟨kq, x33_5, rfl, HA, HJ5, BK345, BK346, BK347, BK348, HB⟩ := hcut
 cases kq with
 | zero => exact absurd HA.out (by simp [relievoref19_Blend.j0])
 | succ kj5 =>
  have H := HA.out
  clear HA
  simp only [relievoref19_Blend.j0] at H
  by_cases c15 : x33_5 = true
  ·subst c15
   have H1 : (some (0, 0, 0)) = some (r1, r2, r3) := by rw [if_pos rfl] at H; exact H
   clear H
   have H := H1
   clear H1
   simp only [Option.some.injEq, Prod.mk.injEq] at H
   obtain ⟨rfl, rfl, rfl⟩ := H
   have hnb16 := NB348_345.out
   have hnc16 := NB345_348.out
   have hnb17 := NB348_346.out
   have hnc17 := NB346_348.out
   have hnb18 := NB348_347.out
   have hnc18 := NB347_348.out
   obtain ⟨hcz19_0, hcz19_1, hcz19_2⟩ := cells3 BK348.out
   have hfz19_0 := blk_frozen BK348.out 0
   have hfz19_1 := blk_frozen BK348.out 1
   have hfz19_2 := blk_frozen BK348.out 2
   go_wp2
   refine bodyPost_ret (results_cell_row rfl _ _ gb348 37 #[.int .i64 0, .int .i64 0, .int .i64 0] (0, 0) _ rfl ((blk_put (cs' := #[.int .i64 0, .int .i64 0, .int .i64 0]) (blk_put (blk_put BK348.out 0 _ rfl) 1 _ rfl) 2 _ rfl)) Try.underlying37 rfl (by kernel_rfl)) rfl ?_
   exact ⟨by first | rfl | (simp [errW_none, errW_some] <;> rfl) | (simp [*, errW_none, errW_some] <;> rfl), (below_set (below_set (below_set HB.out GE348.out) GE348.out) GE348.out)⟩
  replace c15 := Bool.eq_false_iff.mpr c15
  subst c15
  have H1 : ((relievoref19_clamp.f a0_0).bind fun t349 => ((relievoref19_clamp.f a1_0).bind fun t350 => ((relievoref19_clamp.f a2_0).bind fun t351 => ((relievoref19_clamp.f a0_1).bind fun t352 => ((relievoref19_clamp.f a1_1).bind fun t353 => ((relievoref19_clamp.f a2_1).bind fun t354 => ((relievoref19_clamp.f a0_2).bind fun t355 => ((relievoref19_clamp.f a1_2).bind fun t356 => ((relievoref19_clamp.f a2_2).bind fun t357 => (some (wrap64 (Int.tdiv (wrap64 ((wrap64 ((wrap64 (t349 * (wrap64 ((wrap64 (256 - a3)) - a4)))) + (wrap64 (t350 * a3)))) + (wrap64 (t351 * a4)))) 256), wrap64 (Int.tdiv (wrap64 ((wrap64 ((wrap64 (t352 * (wrap64 ((wrap64 (256 - a3)) - a4)))) + (wrap64 (t353 * a3)))) + (wrap64 (t354 * a4)))) 256), wrap64 (Int.tdiv (wrap64 ((wrap64 ((wrap64 (t355 * (wrap64 ((wrap64 (256 - a3)) - a4)))) + (wrap64 (t356 * a3)))) + (wrap64 (t357 * a4)))) 256)))))))))))) = some (r1, r2, r3) := by rw [if_neg (show ¬ (false = true) by decide)] at H; exact H
  clear H
  have H := H1
  clear H1
  replace H := Option.bind_eq_some_iff.mp H
  obtain ⟨t349, A200, H⟩ := H
  replace H : ((relievoref19_clamp.f a1_0).bind fun t350 => ((relievoref19_clamp.f a2_0).bind fun t351 => ((relievoref19_clamp.f a0_1).bind fun t352 => ((relievoref19_clamp.f a1_1).bind fun t353 => ((relievoref19_clamp.f a2_1).bind fun t354 => ((relievoref19_clamp.f a0_2).bind fun t355 => ((relievoref19_clamp.f a1_2).bind fun t356 => ((relievoref19_clamp.f a2_2).bind fun t357 => (some (wrap64 (Int.tdiv (wrap64 ((wrap64 ((wrap64 (t349 * (wrap64 ((wrap64 (256 - a3)) - a4)))) + (wrap64 (t350 * a3)))) + (wrap64 (t351 * a4)))) 256), wrap64 (Int.tdiv (wrap64 ((wrap64 ((wrap64 (t352 * (wrap64 ((wrap64 (256 - a3)) - a4)))) + (wrap64 (t353 * a3)))) + (wrap64 (t354 * a4)))) 256), wrap64 (Int.tdiv (wrap64 ((wrap64 ((wrap64 (t355 * (wrap64 ((wrap64 (256 - a3)) - a4)))) + (wrap64 (t356 * a3)))) + (wrap64 (t357 * a4)))) 256))))))))))) = some (r1, r2, r3) := H
  have A20 := Aside0.mk A200
  clear A200
  replace H := Option.bind_eq_some_iff.mp H
  obtain ⟨t350, A210, H⟩ := H
  replace H : ((relievoref19_clamp.f a2_0).bind fun t351 => ((relievoref19_clamp.f a0_1).bind fun t352 => ((relievoref19_clamp.f a1_1).bind fun t353 => ((relievoref19_clamp.f a2_1).bind fun t354 => ((relievoref19_clamp.f a0_2).bind fun t355 => ((relievoref19_clamp.f a1_2).bind fun t356 => ((relievoref19_clamp.f a2_2).bind fun t357 => (some (wrap64 (Int.tdiv (wrap64 ((wrap64 ((wrap64 (t349 * (wrap64 ((wrap64 (256 - a3)) - a4)))) + (wrap64 (t350 * a3)))) + (wrap64 (t351 * a4)))) 256), wrap64 (Int.tdiv (wrap64 ((wrap64 ((wrap64 (t352 * (wrap64 ((wrap64 (256 - a3)) - a4)))) + (wrap64 (t353 * a3)))) + (wrap64 (t354 * a4)))) 256), wrap64 (Int.tdiv (wrap64 ((wrap64 ((wrap64 (t355 * (wrap64 ((wrap64 (256 - a3)) - a4)))) + (wrap64 (t356 * a3)))) + (wrap64 (t357 * a4)))) 256)))))))))) = some (r1, r2, r3) := H
  have A21 := Aside0.mk A210
  clear A210
  replace H := Option.bind_eq_some_iff.mp H
  obtain ⟨t351, A220, H⟩ := H
  replace H : ((relievoref19_clamp.f a0_1).bind fun t352 => ((relievoref19_clamp.f a1_1).bind fun t353 => ((relievoref19_clamp.f a2_1).bind fun t354 => ((relievoref19_clamp.f a0_2).bind fun t355 => ((relievoref19_clamp.f a1_2).bind fun t356 => ((relievoref19_clamp.f a2_2).bind fun t357 => (some (wrap64 (Int.tdiv (wrap64 ((wrap64 ((wrap64 (t349 * (wrap64 ((wrap64 (256 - a3)) - a4)))) + (wrap64 (t350 * a3)))) + (wrap64 (t351 * a4)))) 256), wrap64 (Int.tdiv (wrap64 ((wrap64 ((wrap64 (t352 * (wrap64 ((wrap64 (256 - a3)) - a4)))) + (wrap64 (t353 * a3)))) + (wrap64 (t354 * a4)))) 256), wrap64 (Int.tdiv (wrap64 ((wrap64 ((wrap64 (t355 * (wrap64 ((wrap64 (256 - a3)) - a4)))) + (wrap64 (t356 * a3)))) + (wrap64 (t357 * a4)))) 256))))))))) = some (r1, r2, r3) := H
  have A22 := Aside0.mk A220
  clear A220
  replace H := Option.bind_eq_some_iff.mp H
  obtain ⟨t352, A230, H⟩ := H
  replace H : ((relievoref19_clamp.f a1_1).bind fun t353 => ((relievoref19_clamp.f a2_1).bind fun t354 => ((relievoref19_clamp.f a0_2).bind fun t355 => ((relievoref19_clamp.f a1_2).bind fun t356 => ((relievoref19_clamp.f a2_2).bind fun t357 => (some (wrap64 (Int.tdiv (wrap64 ((wrap64 ((wrap64 (t349 * (wrap64 ((wrap64 (256 - a3)) - a4)))) + (wrap64 (t350 * a3)))) + (wrap64 (t351 * a4)))) 256), wrap64 (Int.tdiv (wrap64 ((wrap64 ((wrap64 (t352 * (wrap64 ((wrap64 (256 - a3)) - a4)))) + (wrap64 (t353 * a3)))) + (wrap64 (t354 * a4)))) 256), wrap64 (Int.tdiv (wrap64 ((wrap64 ((wrap64 (t355 * (wrap64 ((wrap64 (256 - a3)) - a4)))) + (wrap64 (t356 * a3)))) + (wrap64 (t357 * a4)))) 256)))))))) = some (r1, r2, r3) := H
  have A23 := Aside0.mk A230
  clear A230
  replace H := Option.bind_eq_some_iff.mp H
  obtain ⟨t353, A240, H⟩ := H
  replace H : ((relievoref19_clamp.f a2_1).bind fun t354 => ((relievoref19_clamp.f a0_2).bind fun t355 => ((relievoref19_clamp.f a1_2).bind fun t356 => ((relievoref19_clamp.f a2_2).bind fun t357 => (some (wrap64 (Int.tdiv (wrap64 ((wrap64 ((wrap64 (t349 * (wrap64 ((wrap64 (256 - a3)) - a4)))) + (wrap64 (t350 * a3)))) + (wrap64 (t351 * a4)))) 256), wrap64 (Int.tdiv (wrap64 ((wrap64 ((wrap64 (t352 * (wrap64 ((wrap64 (256 - a3)) - a4)))) + (wrap64 (t353 * a3)))) + (wrap64 (t354 * a4)))) 256), wrap64 (Int.tdiv (wrap64 ((wrap64 ((wrap64 (t355 * (wrap64 ((wrap64 (256 - a3)) - a4)))) + (wrap64 (t356 * a3)))) + (wrap64 (t357 * a4)))) 256))))))) = some (r1, r2, r3) := H
  have A24 := Aside0.mk A240
  clear A240
  replace H := Option.bind_eq_some_iff.mp H
  obtain ⟨t354, A250, H⟩ := H
  replace H : ((relievoref19_clamp.f a0_2).bind fun t355 => ((relievoref19_clamp.f a1_2).bind fun t356 => ((relievoref19_clamp.f a2_2).bind fun t357 => (some (wrap64 (Int.tdiv (wrap64 ((wrap64 ((wrap64 (t349 * (wrap64 ((wrap64 (256 - a3)) - a4)))) + (wrap64 (t350 * a3)))) + (wrap64 (t351 * a4)))) 256), wrap64 (Int.tdiv (wrap64 ((wrap64 ((wrap64 (t352 * (wrap64 ((wrap64 (256 - a3)) - a4)))) + (wrap64 (t353 * a3)))) + (wrap64 (t354 * a4)))) 256), wrap64 (Int.tdiv (wrap64 ((wrap64 ((wrap64 (t355 * (wrap64 ((wrap64 (256 - a3)) - a4)))) + (wrap64 (t356 * a3)))) + (wrap64 (t357 * a4)))) 256)))))) = some (r1, r2, r3) := H
  have A25 := Aside0.mk A250
  clear A250
  replace H := Option.bind_eq_some_iff.mp H
  obtain ⟨t355, A260, H⟩ := H
  replace H : ((relievoref19_clamp.f a1_2).bind fun t356 => ((relievoref19_clamp.f a2_2).bind fun t357 => (some (wrap64 (Int.tdiv (wrap64 ((wrap64 ((wrap64 (t349 * (wrap64 ((wrap64 (256 - a3)) - a4)))) + (wrap64 (t350 * a3)))) + (wrap64 (t351 * a4)))) 256), wrap64 (Int.tdiv (wrap64 ((wrap64 ((wrap64 (t352 * (wrap64 ((wrap64 (256 - a3)) - a4)))) + (wrap64 (t353 * a3)))) + (wrap64 (t354 * a4)))) 256), wrap64 (Int.tdiv (wrap64 ((wrap64 ((wrap64 (t355 * (wrap64 ((wrap64 (256 - a3)) - a4)))) + (wrap64 (t356 * a3)))) + (wrap64 (t357 * a4)))) 256))))) = some (r1, r2, r3) := H
  have A26 := Aside0.mk A260
  clear A260
  replace H := Option.bind_eq_some_iff.mp H
  obtain ⟨t356, A270, H⟩ := H
  replace H : ((relievoref19_clamp.f a2_2).bind fun t357 => (some (wrap64 (Int.tdiv (wrap64 ((wrap64 ((wrap64 (t349 * (wrap64 ((wrap64 (256 - a3)) - a4)))) + (wrap64 (t350 * a3)))) + (wrap64 (t351 * a4)))) 256), wrap64 (Int.tdiv (wrap64 ((wrap64 ((wrap64 (t352 * (wrap64 ((wrap64 (256 - a3)) - a4)))) + (wrap64 (t353 * a3)))) + (wrap64 (t354 * a4)))) 256), wrap64 (Int.tdiv (wrap64 ((wrap64 ((wrap64 (t355 * (wrap64 ((wrap64 (256 - a3)) - a4)))) + (wrap64 (t356 * a3)))) + (wrap64 (t357 * a4)))) 256)))) = some (r1, r2, r3) := H
  have A27 := Aside0.mk A270
  clear A270
  replace H := Option.bind_eq_some_iff.mp H
  obtain ⟨t357, A280, H⟩ := H
  replace H : (some (wrap64 (Int.tdiv (wrap64 ((wrap64 ((wrap64 (t349 * (wrap64 ((wrap64 (256 - a3)) - a4)))) + (wrap64 (t350 * a3)))) + (wrap64 (t351 * a4)))) 256), wrap64 (Int.tdiv (wrap64 ((wrap64 ((wrap64 (t352 * (wrap64 ((wrap64 (256 - a3)) - a4)))) + (wrap64 (t353 * a3)))) + (wrap64 (t354 * a4)))) 256), wrap64 (Int.tdiv (wrap64 ((wrap64 ((wrap64 (t355 * (wrap64 ((wrap64 (256 - a3)) - a4)))) + (wrap64 (t356 * a3)))) + (wrap64 (t357 * a4)))) 256))) = some (r1, r2, r3) := H
  have A28 := Aside0.mk A280
  clear A280
  simp only [Option.some.injEq, Prod.mk.injEq] at H
  obtain ⟨rfl, rfl, rfl⟩ := H
  try go_wp2
  replace BK345 := Aside0.mk (blk_drew BK345.out)
  replace BK346 := Aside0.mk (blk_drew BK346.out)
  replace BK347 := Aside0.mk (blk_drew BK347.out)
  replace BK348 := Aside0.mk (blk_drew BK348.out)
  replace HB := Aside0.mk (below_drew1 HB.out)
  refine start_ (n := 22) (S := fun w' => w'.cell? ⟨gb345, 0, none⟩ = some (.int .i64 a0_0) ∧ w'.cell? ⟨gb345, 1, none⟩ = some (.int .i64 a0_1) ∧ w'.cell? ⟨gb345, 2, none⟩ = some (.int .i64 a0_2) ∧ w'.cell? ⟨gb346, 0, none⟩ = some (.int .i64 a1_0) ∧ w'.cell? ⟨gb346, 1, none⟩ = some (.int .i64 a1_1) ∧ w'.cell? ⟨gb346, 2, none⟩ = some (.int .i64 a1_2) ∧ w'.cell? ⟨gb347, 0, none⟩ = some (.int .i64 a2_0) ∧ w'.cell? ⟨gb347, 1, none⟩ = some (.int .i64 a2_1) ∧ w'.cell? ⟨gb347, 2, none⟩ = some (.int .i64 a2_2)) (ds := []) #[false, false, false, false, false, false, false, false, false, false, false, false, false, false, false, false, false, false, false, false, false, false] (by kernel_rfl) rfl rfl ⟨(blk_cell BK345.out 0).trans rfl, (blk_cell BK345.out 1).trans rfl, (blk_cell BK345.out 2).trans rfl, (blk_cell BK346.out 0).trans rfl, (blk_cell BK346.out 1).trans rfl, (blk_cell BK346.out 2).trans rfl, (blk_cell BK347.out 0).trans rfl, (blk_cell BK347.out 1).trans rfl, (blk_cell BK347.out 2).trans rfl⟩ (fun hHeld => ?_); refine with_tabW relievoref19_Blend.tab3 relievoref19_Blend.bits3 (fun HT_ HW_ => ?_)
  generalize wc.drew = w29 at BK345 BK346 BK347 BK348 HB hHeld ⊢
  refine pure_ (i := 0) (N := some 35) (v := ?_) (a' := ?_) (bm 22 1) rfl rfl (any_of HT_.out (by kernel_rfl)) (fun _ _ _ h => h) (Or.inl ⟨by rfl, ?_⟩) ?_ ?_
  rotate_left
  ·intro w'
   go_simp
   with_reducible rfl
  rotate_left
  ·simp only [Act.put, List.setIfInBounds_toArray, List.set_cons_zero, List.set_cons_succ, i64_w, i32_w]
   rfl
  refine pure_ (i := 3) (N := some 38) (v := ?_) (a' := ?_) (bm 22 9) rfl rfl (any_of HT_.out (by kernel_rfl)) (fun _ _ _ h => h) (Or.inl ⟨by rfl, ?_⟩) ?_ ?_
  rotate_left
  ·intro w'
   go_simp
   with_reducible rfl
  rotate_left
  ·simp only [Act.put, List.setIfInBounds_toArray, List.set_cons_zero, List.set_cons_succ, i64_w, i32_w]
   rfl
  refine pure_ (i := 4) (N := some 39) (v := ?_) (a' := ?_) (bm 22 25) rfl rfl (any_of HT_.out (by kernel_rfl)) (fun _ _ _ h => h) (Or.inl ⟨by rfl, ?_⟩) ?_ ?_
  rotate_left
  ·intro w'
   go_simp
   with_reducible rfl
  rotate_left
  ·simp only [Act.put, List.setIfInBounds_toArray, List.set_cons_zero, List.set_cons_succ, i64_w, i32_w]
   rfl
  refine pure_ (i := 5) (N := some 40) (v := ?_) (a' := ?_) (bm 22 57) rfl rfl (any_of HT_.out (by kernel_rfl)) (fun _ _ _ h => h) (Or.inl ⟨by rfl, ?_⟩) ?_ ?_
  rotate_left
  ·intro w'
   go_simp
   with_reducible rfl
  rotate_left
  ·simp only [Act.put, List.setIfInBounds_toArray, List.set_cons_zero, List.set_cons_succ, i64_w, i32_w]
   rfl
  refine pure_ (i := 6) (N := some 41) (v := ?_) (a' := ?_) (bm 22 121) rfl rfl (any_of HT_.out (by kernel_rfl)) (fun _ _ _ h => h) (Or.inl ⟨by rfl, ?_⟩) ?_ ?_
  rotate_left
  ·intro w'
   go_simp
   with_reducible rfl
  rotate_left
  ·simp only [Act.put, List.setIfInBounds_toArray, List.set_cons_zero, List.set_cons_succ, i64_w, i32_w]
   rfl
  refine pure_ (i := 8) (N := some 43) (v := ?_) (a' := ?_) (bm 22 377) rfl rfl (any_of HT_.out (by kernel_rfl)) (fun _ _ _ h => h) (Or.inl ⟨by rfl, ?_⟩) ?_ ?_
  rotate_left
  ·intro w'
   go_simp
   with_reducible rfl
  rotate_left
  ·simp only [Act.put, List.setIfInBounds_toArray, List.set_cons_zero, List.set_cons_succ, i64_w, i32_w]
   rfl
  refine pure_ (i := 11) (N := some 46) (v := ?_) (a' := ?_) (bm 22 2425) rfl rfl (any_of HT_.out (by kernel_rfl)) (fun _ _ _ h => h) (Or.inl ⟨by rfl, ?_⟩) ?_ ?_
  rotate_left
  ·intro w'
   go_simp
   with_reducible rfl
  rotate_left
  ·simp only [Act.put, List.setIfInBounds_toArray, List.set_cons_zero, List.set_cons_succ, i64_w, i32_w]
   rfl
  refine pure_ (i := 14) (N := some 49) (v := ?_) (a' := ?_) (bm 22 18809) rfl rfl (any_of HT_.out (by kernel_rfl)) (fun _ _ _ h => h) (Or.inl ⟨by rfl, ?_⟩) ?_ ?_
  rotate_left
  ·intro w'
   go_simp
   with_reducible rfl
  rotate_left
  ·simp only [Act.put, List.setIfInBounds_toArray, List.set_cons_zero, List.set_cons_succ, i64_w, i32_w]
   rfl
  refine pure_ (i := 17) (N := some 52) (v := ?_) (a' := ?_) (bm 22 149881) rfl rfl (any_of HT_.out (by kernel_rfl)) (fun _ _ _ h => h) (Or.inl ⟨by rfl, ?_⟩) ?_ ?_
  rotate_left
  ·intro w'
   go_simp
   with_reducible rfl
  rotate_left
  ·simp only [Act.put, List.setIfInBounds_toArray, List.set_cons_zero, List.set_cons_succ, i64_w, i32_w]
   rfl
  refine take_ (i := 1) (N := some 36) (v := ?_) (a' := ?_) (bm 22 149883) rfl rfl (take_ofW HT_.out HW_.out (by kernel_rfl)) (fun _ _ _ h => h) (Or.inl ⟨by rfl, ?_⟩) hHeld ?_ ?_
  rotate_left
  ·rintro w' ⟨s0, s1, s2, s3, s4, s5, s6, s7, s8⟩
   go_simp
   with_reducible rfl
  rotate_left
  ·simp only [Act.put, List.setIfInBounds_toArray, List.set_cons_zero, List.set_cons_succ, i64_w, i32_w]
   rfl
  refine take_ (i := 9) (N := some 44) (v := ?_) (a' := ?_) (bm 22 150395) rfl rfl (take_ofW HT_.out HW_.out (by kernel_rfl)) (fun _ _ _ h => h) (Or.inl ⟨by rfl, ?_⟩) hHeld ?_ ?_
  rotate_left
  ·rintro w' ⟨s0, s1, s2, s3, s4, s5, s6, s7, s8⟩
   go_simp
   with_reducible rfl
  rotate_left
  ·simp only [Act.put, List.setIfInBounds_toArray, List.set_cons_zero, List.set_cons_succ, i64_w, i32_w]
   rfl
  refine take_ (i := 15) (N := some 50) (v := ?_) (a' := ?_) (bm 22 183163) rfl rfl (take_ofW HT_.out HW_.out (by kernel_rfl)) (fun _ _ _ h => h) (Or.inl ⟨by rfl, ?_⟩) hHeld ?_ ?_
  rotate_left
  ·rintro w' ⟨s0, s1, s2, s3, s4, s5, s6, s7, s8⟩
   go_simp
   with_reducible rfl
  rotate_left
  ·simp only [Act.put, List.setIfInBounds_toArray, List.set_cons_zero, List.set_cons_succ, i64_w, i32_w]
   rfl
  refine one_ (i := 2) (N := some 37) (bm 22 183167) rfl rfl (one_of HT_.out (by kernel_rfl)) (by decide) (fun K hK => ?_)
  refine goes_ Try.func45 (by kernel_rfl) rfl #[.int .i64 a0_0] (by rfl) rfl rfl (by (try simp only [List.map_toArray, List.map_cons, List.map_nil]); first | done | rfl | (simp only [List.length_drop, List.length_take]; rfl)) ?_
  with_reducible refine (relievoref19_clamp.calls a0_0 t349 _ A20.out).mono ?_
  rintro e w30 ⟨rfl, hb⟩
  refine ⟨_, rfl, ?_⟩
  replace BK345 := cB hb BK345
  replace BK346 := cB hb BK346
  replace BK347 := cB hb BK347
  replace BK348 := cB hb BK348
  replace HB := Aside0.mk (below_step (HB.out) hb)
  (try clear hb)
  (try clear hb2)
  (try clear hk)
  (try clear hi)
  refine hK.out _ _ ⟨(blk_cell BK345.out 0).trans rfl, (blk_cell BK345.out 1).trans rfl, (blk_cell BK345.out 2).trans rfl, (blk_cell BK346.out 0).trans rfl, (blk_cell BK346.out 1).trans rfl, (blk_cell BK346.out 2).trans rfl, (blk_cell BK347.out 0).trans rfl, (blk_cell BK347.out 1).trans rfl, (blk_cell BK347.out 2).trans rfl⟩ (fun hHeld => ?_)
  clear hK K
  refine norm_ (a' := ?_) ?_ ?_
  rotate_left
  ·show Act.put _ (some 37) _ = _
   simp only [Act.put, List.setIfInBounds_toArray, List.set_cons_zero, List.set_cons_succ, i64_w, i32_w]
   rfl
  refine pure_ (i := 7) (N := some 42) (v := ?_) (a' := ?_) (bm 22 183295) rfl rfl (any_of HT_.out (by kernel_rfl)) (fun _ _ _ h => h) (Or.inl ⟨by rfl, ?_⟩) ?_ ?_
  rotate_left
  ·intro w'
   go_simp
   with_reducible rfl
  rotate_left
  ·simp only [Act.put, List.setIfInBounds_toArray, List.set_cons_zero, List.set_cons_succ, i64_w, i32_w]
   rfl
  refine one_ (i := 10) (N := some 45) (bm 22 184319) rfl rfl (one_of HT_.out (by kernel_rfl)) (by decide) (fun K hK => ?_)
  refine goes_ Try.func45 (by kernel_rfl) rfl #[.int .i64 a1_0] (by rfl) rfl rfl (by (try simp only [List.map_toArray, List.map_cons, List.map_nil]); first | done | rfl | (simp only [List.length_drop, List.length_take]; rfl)) ?_
  with_reducible refine (relievoref19_clamp.calls a1_0 t350 _ A21.out).mono ?_
  rintro e w31 ⟨rfl, hb⟩
  refine ⟨_, rfl, ?_⟩
  replace BK345 := cB hb BK345
  replace BK346 := cB hb BK346
  replace BK347 := cB hb BK347
  replace BK348 := cB hb BK348
  replace HB := Aside0.mk (below_step (HB.out) hb)
  (try clear hb)
  (try clear hb2)
  (try clear hk)
  (try clear hi)
  refine hK.out _ _ ⟨(blk_cell BK345.out 0).trans rfl, (blk_cell BK345.out 1).trans rfl, (blk_cell BK345.out 2).trans rfl, (blk_cell BK346.out 0).trans rfl, (blk_cell BK346.out 1).trans rfl, (blk_cell BK346.out 2).trans rfl, (blk_cell BK347.out 0).trans rfl, (blk_cell BK347.out 1).trans rfl, (blk_cell BK347.out 2).trans rfl⟩ (fun hHeld => ?_)
  clear hK K
  refine norm_ (a' := ?_) ?_ ?_
  rotate_left
  ·show Act.put _ (some 45) _ = _
   simp only [Act.put, List.setIfInBounds_toArray, List.set_cons_zero, List.set_cons_succ, i64_w, i32_w]
   rfl
  refine pure_ (i := 12) (N := some 47) (v := ?_) (a' := ?_) (bm 22 188415) rfl rfl (any_of HT_.out (by kernel_rfl)) (fun _ _ _ h => h) (Or.inl ⟨by rfl, ?_⟩) ?_ ?_
  rotate_left
  ·intro w'
   go_simp
   with_reducible rfl
  rotate_left
  ·simp only [Act.put, List.setIfInBounds_toArray, List.set_cons_zero, List.set_cons_succ, i64_w, i32_w]
   rfl
  refine pure_ (i := 13) (N := some 48) (v := ?_) (a' := ?_) (bm 22 196607) rfl rfl (any_of HT_.out (by kernel_rfl)) (fun _ _ _ h => h) (Or.inl ⟨by rfl, ?_⟩) ?_ ?_
  rotate_left
  ·intro w'
   go_simp
   with_reducible rfl
  rotate_left
  ·simp only [Act.put, List.setIfInBounds_toArray, List.set_cons_zero, List.set_cons_succ, i64_w, i32_w]
   rfl
  refine one_ (i := 16) (N := some 51) (bm 22 262143) rfl rfl (one_of HT_.out (by kernel_rfl)) (by decide) (fun K hK => ?_)
  refine goes_ Try.func45 (by kernel_rfl) rfl #[.int .i64 a2_0] (by rfl) rfl rfl (by (try simp only [List.map_toArray, List.map_cons, List.map_nil]); first | done | rfl | (simp only [List.length_drop, List.length_take]; rfl)) ?_
  with_reducible refine (relievoref19_clamp.calls a2_0 t351 _ A22.out).mono ?_
  rintro e w32 ⟨rfl, hb⟩
  refine ⟨_, rfl, ?_⟩
  replace BK345 := cB hb BK345
  replace BK346 := cB hb BK346
  replace BK347 := cB hb BK347
  replace BK348 := cB hb BK348
  replace HB := Aside0.mk (below_step (HB.out) hb)
  (try clear hb)
  (try clear hb2)
  (try clear hk)
  (try clear hi)
  refine hK.out _ _ ⟨(blk_cell BK345.out 0).trans rfl, (blk_cell BK345.out 1).trans rfl, (blk_cell BK345.out 2).trans rfl, (blk_cell BK346.out 0).trans rfl, (blk_cell BK346.out 1).trans rfl, (blk_cell BK346.out 2).trans rfl, (blk_cell BK347.out 0).trans rfl, (blk_cell BK347.out 1).trans rfl, (blk_cell BK347.out 2).trans rfl⟩ (fun hHeld => ?_)
  clear hK K
  refine norm_ (a' := ?_) ?_ ?_
  rotate_left
  ·show Act.put _ (some 51) _ = _
   simp only [Act.put, List.setIfInBounds_toArray, List.set_cons_zero, List.set_cons_succ, i64_w, i32_w]
   rfl
  refine pure_ (i := 18) (N := some 53) (v := ?_) (a' := ?_) (bm 22 524287) rfl rfl (any_of HT_.out (by kernel_rfl)) (fun _ _ _ h => h) (Or.inl ⟨by rfl, ?_⟩) ?_ ?_
  rotate_left
  ·intro w'
   go_simp
   with_reducible rfl
  rotate_left
  ·simp only [Act.put, List.setIfInBounds_toArray, List.set_cons_zero, List.set_cons_succ, i64_w, i32_w]
   rfl
  refine pure_ (i := 19) (N := some 54) (v := ?_) (a' := ?_) (bm 22 1048575) rfl rfl (any_of HT_.out (by kernel_rfl)) (fun _ _ _ h => h) (Or.inl ⟨by rfl, ?_⟩) ?_ ?_
  rotate_left
  ·intro w'
   go_simp
   with_reducible rfl
  rotate_left
  ·simp only [Act.put, List.setIfInBounds_toArray, List.set_cons_zero, List.set_cons_succ, i64_w, i32_w]
   rfl
  refine pure_ (i := 20) (N := some 55) (v := ?_) (a' := ?_) (bm 22 2097151) rfl rfl (any_of HT_.out (by kernel_rfl)) (fun _ _ _ h => h) (Or.inl ⟨by rfl, ?_⟩) ?_ ?_
  rotate_left
  ·intro w'
   go_simp
   with_reducible rfl
  rotate_left
  ·simp only [Act.put, List.setIfInBounds_toArray, List.set_cons_zero, List.set_cons_succ, i64_w, i32_w]
   rfl
  refine pure_ (i := 21) (N := some 11) (v := ?_) (a' := ?_) (bm 22 4194303) rfl rfl (any_of HT_.out (by kernel_rfl)) (fun _ _ _ h => h) (Or.inl ⟨by rfl, ?_⟩) ?_ ?_
  rotate_left
  ·intro w'
   go_simp
   with_reducible rfl
  rotate_left
  ·simp only [Act.put, List.setIfInBounds_toArray, List.set_cons_zero, List.set_cons_succ, i64_w, i32_w]
   rfl
  refine done_ (done_of HT_.out (by kernel_rfl)) ?_
  try go_wp2
  replace BK345 := Aside0.mk (blk_drew BK345.out)
  replace BK346 := Aside0.mk (blk_drew BK346.out)
  replace BK347 := Aside0.mk (blk_drew BK347.out)
  replace BK348 := Aside0.mk (blk_drew BK348.out)
  replace HB := Aside0.mk (below_drew1 HB.out)
  refine start_ (n := 22) (S := fun w' => w'.cell? ⟨gb345, 0, none⟩ = some (.int .i64 a0_0) ∧ w'.cell? ⟨gb345, 1, none⟩ = some (.int .i64 a0_1) ∧ w'.cell? ⟨gb345, 2, none⟩ = some (.int .i64 a0_2) ∧ w'.cell? ⟨gb346, 0, none⟩ = some (.int .i64 a1_0) ∧ w'.cell? ⟨gb346, 1, none⟩ = some (.int .i64 a1_1) ∧ w'.cell? ⟨gb346, 2, none⟩ = some (.int .i64 a1_2) ∧ w'.cell? ⟨gb347, 0, none⟩ = some (.int .i64 a2_0) ∧ w'.cell? ⟨gb347, 1, none⟩ = some (.int .i64 a2_1) ∧ w'.cell? ⟨gb347, 2, none⟩ = some (.int .i64 a2_2)) (ds := []) #[false, false, false, false, false, false, false, false, false, false, false, false, false, false, false, false, false, false, false, false, false, false] (by kernel_rfl) rfl rfl ⟨(blk_cell BK345.out 0).trans rfl, (blk_cell BK345.out 1).trans rfl, (blk_cell BK345.out 2).trans rfl, (blk_cell BK346.out 0).trans rfl, (blk_cell BK346.out 1).trans rfl, (blk_cell BK346.out 2).trans rfl, (blk_cell BK347.out 0).trans rfl, (blk_cell BK347.out 1).trans rfl, (blk_cell BK347.out 2).trans rfl⟩ (fun hHeld => ?_); refine with_tabW relievoref19_Blend.tab4 relievoref19_Blend.bits4 (fun HT_ HW_ => ?_)
  generalize w32.drew = w33 at BK345 BK346 BK347 BK348 HB hHeld ⊢
  refine pure_ (i := 0) (N := some 56) (v := ?_) (a' := ?_) (bm 22 1) rfl rfl (any_of HT_.out (by kernel_rfl)) (fun _ _ _ h => h) (Or.inl ⟨by rfl, ?_⟩) ?_ ?_
  rotate_left
  ·intro w'
   go_simp
   with_reducible rfl
  rotate_left
  ·simp only [Act.put, List.setIfInBounds_toArray, List.set_cons_zero, List.set_cons_succ, i64_w, i32_w]
   rfl
  refine pure_ (i := 3) (N := some 59) (v := ?_) (a' := ?_) (bm 22 9) rfl rfl (any_of HT_.out (by kernel_rfl)) (fun _ _ _ h => h) (Or.inl ⟨by rfl, ?_⟩) ?_ ?_
  rotate_left
  ·intro w'
   go_simp
   with_reducible rfl
  rotate_left
  ·simp only [Act.put, List.setIfInBounds_toArray, List.set_cons_zero, List.set_cons_succ, i64_w, i32_w]
   rfl
  refine pure_ (i := 4) (N := some 60) (v := ?_) (a' := ?_) (bm 22 25) rfl rfl (any_of HT_.out (by kernel_rfl)) (fun _ _ _ h => h) (Or.inl ⟨by rfl, ?_⟩) ?_ ?_
  rotate_left
  ·intro w'
   go_simp
   with_reducible rfl
  rotate_left
  ·simp only [Act.put, List.setIfInBounds_toArray, List.set_cons_zero, List.set_cons_succ, i64_w, i32_w]
   rfl
  refine pure_ (i := 5) (N := some 61) (v := ?_) (a' := ?_) (bm 22 57) rfl rfl (any_of HT_.out (by kernel_rfl)) (fun _ _ _ h => h) (Or.inl ⟨by rfl, ?_⟩) ?_ ?_
  rotate_left
  ·intro w'
   go_simp
   with_reducible rfl
  rotate_left
  ·simp only [Act.put, List.setIfInBounds_toArray, List.set_cons_zero, List.set_cons_succ, i64_w, i32_w]
   rfl
  refine pure_ (i := 6) (N := some 62) (v := ?_) (a' := ?_) (bm 22 121) rfl rfl (any_of HT_.out (by kernel_rfl)) (fun _ _ _ h => h) (Or.inl ⟨by rfl, ?_⟩) ?_ ?_
  rotate_left
  ·intro w'
   go_simp
   with_reducible rfl
  rotate_left
  ·simp only [Act.put, List.setIfInBounds_toArray, List.set_cons_zero, List.set_cons_succ, i64_w, i32_w]
   rfl
  refine pure_ (i := 8) (N := some 64) (v := ?_) (a' := ?_) (bm 22 377) rfl rfl (any_of HT_.out (by kernel_rfl)) (fun _ _ _ h => h) (Or.inl ⟨by rfl, ?_⟩) ?_ ?_
  rotate_left
  ·intro w'
   go_simp
   with_reducible rfl
  rotate_left
  ·simp only [Act.put, List.setIfInBounds_toArray, List.set_cons_zero, List.set_cons_succ, i64_w, i32_w]
   rfl
  refine pure_ (i := 11) (N := some 67) (v := ?_) (a' := ?_) (bm 22 2425) rfl rfl (any_of HT_.out (by kernel_rfl)) (fun _ _ _ h => h) (Or.inl ⟨by rfl, ?_⟩) ?_ ?_
  rotate_left
  ·intro w'
   go_simp
   with_reducible rfl
  rotate_left
  ·simp only [Act.put, List.setIfInBounds_toArray, List.set_cons_zero, List.set_cons_succ, i64_w, i32_w]
   rfl
  refine pure_ (i := 14) (N := some 70) (v := ?_) (a' := ?_) (bm 22 18809) rfl rfl (any_of HT_.out (by kernel_rfl)) (fun _ _ _ h => h) (Or.inl ⟨by rfl, ?_⟩) ?_ ?_
  rotate_left
  ·intro w'
   go_simp
   with_reducible rfl
  rotate_left
  ·simp only [Act.put, List.setIfInBounds_toArray, List.set_cons_zero, List.set_cons_succ, i64_w, i32_w]
   rfl
  refine pure_ (i := 17) (N := some 73) (v := ?_) (a' := ?_) (bm 22 149881) rfl rfl (any_of HT_.out (by kernel_rfl)) (fun _ _ _ h => h) (Or.inl ⟨by rfl, ?_⟩) ?_ ?_
  rotate_left
  ·intro w'
   go_simp
   with_reducible rfl
  rotate_left
  ·simp only [Act.put, List.setIfInBounds_toArray, List.set_cons_zero, List.set_cons_succ, i64_w, i32_w]
   rfl
  refine take_ (i := 1) (N := some 57) (v := ?_) (a' := ?_) (bm 22 149883) rfl rfl (take_ofW HT_.out HW_.out (by kernel_rfl)) (fun _ _ _ h => h) (Or.inl ⟨by rfl, ?_⟩) hHeld ?_ ?_
  rotate_left
  ·rintro w' ⟨s0, s1, s2, s3, s4, s5, s6, s7, s8⟩
   go_simp
   with_reducible rfl
  rotate_left
  ·simp only [Act.put, List.setIfInBounds_toArray, List.set_cons_zero, List.set_cons_succ, i64_w, i32_w]
   rfl
  refine take_ (i := 9) (N := some 65) (v := ?_) (a' := ?_) (bm 22 150395) rfl rfl (take_ofW HT_.out HW_.out (by kernel_rfl)) (fun _ _ _ h => h) (Or.inl ⟨by rfl, ?_⟩) hHeld ?_ ?_
  rotate_left
  ·rintro w' ⟨s0, s1, s2, s3, s4, s5, s6, s7, s8⟩
   go_simp
   with_reducible rfl
  rotate_left
  ·simp only [Act.put, List.setIfInBounds_toArray, List.set_cons_zero, List.set_cons_succ, i64_w, i32_w]
   rfl
  refine take_ (i := 15) (N := some 71) (v := ?_) (a' := ?_) (bm 22 183163) rfl rfl (take_ofW HT_.out HW_.out (by kernel_rfl)) (fun _ _ _ h => h) (Or.inl ⟨by rfl, ?_⟩) hHeld ?_ ?_
  rotate_left
  ·rintro w' ⟨s0, s1, s2, s3, s4, s5, s6, s7, s8⟩
   go_simp
   with_reducible rfl
  rotate_left
  ·simp only [Act.put, List.setIfInBounds_toArray, List.set_cons_zero, List.set_cons_succ, i64_w, i32_w]
   rfl
  refine one_ (i := 2) (N := some 58) (bm 22 183167) rfl rfl (one_of HT_.out (by kernel_rfl)) (by decide) (fun K hK => ?_)
  refine goes_ Try.func45 (by kernel_rfl) rfl #[.int .i64 a0_1] (by rfl) rfl rfl (by (try simp only [List.map_toArray, List.map_cons, List.map_nil]); first | done | rfl | (simp only [List.length_drop, List.length_take]; rfl)) ?_
  with_reducible refine (relievoref19_clamp.calls a0_1 t352 _ A23.out).mono ?_
  rintro e w34 ⟨rfl, hb⟩
  refine ⟨_, rfl, ?_⟩
  replace BK345 := cB hb BK345
  replace BK346 := cB hb BK346
  replace BK347 := cB hb BK347
  replace BK348 := cB hb BK348
  replace HB := Aside0.mk (below_step (HB.out) hb)
  (try clear hb)
  (try clear hb2)
  (try clear hk)
  (try clear hi)
  refine hK.out _ _ ⟨(blk_cell BK345.out 0).trans rfl, (blk_cell BK345.out 1).trans rfl, (blk_cell BK345.out 2).trans rfl, (blk_cell BK346.out 0).trans rfl, (blk_cell BK346.out 1).trans rfl, (blk_cell BK346.out 2).trans rfl, (blk_cell BK347.out 0).trans rfl, (blk_cell BK347.out 1).trans rfl, (blk_cell BK347.out 2).trans rfl⟩ (fun hHeld => ?_)
  clear hK K
  refine norm_ (a' := ?_) ?_ ?_
  rotate_left
  ·show Act.put _ (some 58) _ = _
   simp only [Act.put, List.setIfInBounds_toArray, List.set_cons_zero, List.set_cons_succ, i64_w, i32_w]
   rfl
  refine pure_ (i := 7) (N := some 63) (v := ?_) (a' := ?_) (bm 22 183295) rfl rfl (any_of HT_.out (by kernel_rfl)) (fun _ _ _ h => h) (Or.inl ⟨by rfl, ?_⟩) ?_ ?_
  rotate_left
  ·intro w'
   go_simp
   with_reducible rfl
  rotate_left
  ·simp only [Act.put, List.setIfInBounds_toArray, List.set_cons_zero, List.set_cons_succ, i64_w, i32_w]
   rfl
  refine one_ (i := 10) (N := some 66) (bm 22 184319) rfl rfl (one_of HT_.out (by kernel_rfl)) (by decide) (fun K hK => ?_)
  refine goes_ Try.func45 (by kernel_rfl) rfl #[.int .i64 a1_1] (by rfl) rfl rfl (by (try simp only [List.map_toArray, List.map_cons, List.map_nil]); first | done | rfl | (simp only [List.length_drop, List.length_take]; rfl)) ?_
  with_reducible refine (relievoref19_clamp.calls a1_1 t353 _ A24.out).mono ?_
  rintro e w35 ⟨rfl, hb⟩
  refine ⟨_, rfl, ?_⟩
  replace BK345 := cB hb BK345
  replace BK346 := cB hb BK346
  replace BK347 := cB hb BK347
  replace BK348 := cB hb BK348
  replace HB := Aside0.mk (below_step (HB.out) hb)
  (try clear hb)
  (try clear hb2)
  (try clear hk)
  (try clear hi)
  refine hK.out _ _ ⟨(blk_cell BK345.out 0).trans rfl, (blk_cell BK345.out 1).trans rfl, (blk_cell BK345.out 2).trans rfl, (blk_cell BK346.out 0).trans rfl, (blk_cell BK346.out 1).trans rfl, (blk_cell BK346.out 2).trans rfl, (blk_cell BK347.out 0).trans rfl, (blk_cell BK347.out 1).trans rfl, (blk_cell BK347.out 2).trans rfl⟩ (fun hHeld => ?_)
  clear hK K
  refine norm_ (a' := ?_) ?_ ?_
  rotate_left
  ·show Act.put _ (some 66) _ = _
   simp only [Act.put, List.setIfInBounds_toArray, List.set_cons_zero, List.set_cons_succ, i64_w, i32_w]
   rfl
  refine pure_ (i := 12) (N := some 68) (v := ?_) (a' := ?_) (bm 22 188415) rfl rfl (any_of HT_.out (by kernel_rfl)) (fun _ _ _ h => h) (Or.inl ⟨by rfl, ?_⟩) ?_ ?_
  rotate_left
  ·intro w'
   go_simp
   with_reducible rfl
  rotate_left
  ·simp only [Act.put, List.setIfInBounds_toArray, List.set_cons_zero, List.set_cons_succ, i64_w, i32_w]
   rfl
  refine pure_ (i := 13) (N := some 69) (v := ?_) (a' := ?_) (bm 22 196607) rfl rfl (any_of HT_.out (by kernel_rfl)) (fun _ _ _ h => h) (Or.inl ⟨by rfl, ?_⟩) ?_ ?_
  rotate_left
  ·intro w'
   go_simp
   with_reducible rfl
  rotate_left
  ·simp only [Act.put, List.setIfInBounds_toArray, List.set_cons_zero, List.set_cons_succ, i64_w, i32_w]
   rfl
  refine one_ (i := 16) (N := some 72) (bm 22 262143) rfl rfl (one_of HT_.out (by kernel_rfl)) (by decide) (fun K hK => ?_)
  refine goes_ Try.func45 (by kernel_rfl) rfl #[.int .i64 a2_1] (by rfl) rfl rfl (by (try simp only [List.map_toArray, List.map_cons, List.map_nil]); first | done | rfl | (simp only [List.length_drop, List.length_take]; rfl)) ?_
  with_reducible refine (relievoref19_clamp.calls a2_1 t354 _ A25.out).mono ?_
  rintro e w36 ⟨rfl, hb⟩
  refine ⟨_, rfl, ?_⟩
  replace BK345 := cB hb BK345
  replace BK346 := cB hb BK346
  replace BK347 := cB hb BK347
  replace BK348 := cB hb BK348
  replace HB := Aside0.mk (below_step (HB.out) hb)
  (try clear hb)
  (try clear hb2)
  (try clear hk)
  (try clear hi)
  refine hK.out _ _ ⟨(blk_cell BK345.out 0).trans rfl, (blk_cell BK345.out 1).trans rfl, (blk_cell BK345.out 2).trans rfl, (blk_cell BK346.out 0).trans rfl, (blk_cell BK346.out 1).trans rfl, (blk_cell BK346.out 2).trans rfl, (blk_cell BK347.out 0).trans rfl, (blk_cell BK347.out 1).trans rfl, (blk_cell BK347.out 2).trans rfl⟩ (fun hHeld => ?_)
  clear hK K
  refine norm_ (a' := ?_) ?_ ?_
  rotate_left
  ·show Act.put _ (some 72) _ = _
   simp only [Act.put, List.setIfInBounds_toArray, List.set_cons_zero, List.set_cons_succ, i64_w, i32_w]
   rfl
  refine pure_ (i := 18) (N := some 74) (v := ?_) (a' := ?_) (bm 22 524287) rfl rfl (any_of HT_.out (by kernel_rfl)) (fun _ _ _ h => h) (Or.inl ⟨by rfl, ?_⟩) ?_ ?_
  rotate_left
  ·intro w'
   go_simp
   with_reducible rfl
  rotate_left
  ·simp only [Act.put, List.setIfInBounds_toArray, List.set_cons_zero, List.set_cons_succ, i64_w, i32_w]
   rfl
  refine pure_ (i := 19) (N := some 75) (v := ?_) (a' := ?_) (bm 22 1048575) rfl rfl (any_of HT_.out (by kernel_rfl)) (fun _ _ _ h => h) (Or.inl ⟨by rfl, ?_⟩) ?_ ?_
  rotate_left
  ·intro w'
   go_simp
   with_reducible rfl
  rotate_left
  ·simp only [Act.put, List.setIfInBounds_toArray, List.set_cons_zero, List.set_cons_succ, i64_w, i32_w]
   rfl
  refine pure_ (i := 20) (N := some 76) (v := ?_) (a' := ?_) (bm 22 2097151) rfl rfl (any_of HT_.out (by kernel_rfl)) (fun _ _ _ h => h) (Or.inl ⟨by rfl, ?_⟩) ?_ ?_
  rotate_left
  ·intro w'
   go_simp
   with_reducible rfl
  rotate_left
  ·simp only [Act.put, List.setIfInBounds_toArray, List.set_cons_zero, List.set_cons_succ, i64_w, i32_w]
   rfl
  refine pure_ (i := 21) (N := some 12) (v := ?_) (a' := ?_) (bm 22 4194303) rfl rfl (any_of HT_.out (by kernel_rfl)) (fun _ _ _ h => h) (Or.inl ⟨by rfl, ?_⟩) ?_ ?_
  rotate_left
  ·intro w'
   go_simp
   with_reducible rfl
  rotate_left
  ·simp only [Act.put, List.setIfInBounds_toArray, List.set_cons_zero, List.set_cons_succ, i64_w, i32_w]
   rfl
  refine done_ (done_of HT_.out (by kernel_rfl)) ?_
  try go_wp2
  replace BK345 := Aside0.mk (blk_drew BK345.out)
  replace BK346 := Aside0.mk (blk_drew BK346.out)
  replace BK347 := Aside0.mk (blk_drew BK347.out)
  replace BK348 := Aside0.mk (blk_drew BK348.out)
  replace HB := Aside0.mk (below_drew1 HB.out)
  refine start_ (n := 22) (S := fun w' => w'.cell? ⟨gb345, 0, none⟩ = some (.int .i64 a0_0) ∧ w'.cell? ⟨gb345, 1, none⟩ = some (.int .i64 a0_1) ∧ w'.cell? ⟨gb345, 2, none⟩ = some (.int .i64 a0_2) ∧ w'.cell? ⟨gb346, 0, none⟩ = some (.int .i64 a1_0) ∧ w'.cell? ⟨gb346, 1, none⟩ = some (.int .i64 a1_1) ∧ w'.cell? ⟨gb346, 2, none⟩ = some (.int .i64 a1_2) ∧ w'.cell? ⟨gb347, 0, none⟩ = some (.int .i64 a2_0) ∧ w'.cell? ⟨gb347, 1, none⟩ = some (.int .i64 a2_1) ∧ w'.cell? ⟨gb347, 2, none⟩ = some (.int .i64 a2_2)) (ds := []) #[false, false, false, false, false, false, false, false, false, false, false, false, false, false, false, false, false, false, false, false, false, false] (by kernel_rfl) rfl rfl ⟨(blk_cell BK345.out 0).trans rfl, (blk_cell BK345.out 1).trans rfl, (blk_cell BK345.out 2).trans rfl, (blk_cell BK346.out 0).trans rfl, (blk_cell BK346.out 1).trans rfl, (blk_cell BK346.out 2).trans rfl, (blk_cell BK347.out 0).trans rfl, (blk_cell BK347.out 1).trans rfl, (blk_cell BK347.out 2).trans rfl⟩ (fun hHeld => ?_); refine with_tabW relievoref19_Blend.tab5 relievoref19_Blend.bits5 (fun HT_ HW_ => ?_)
  generalize w36.drew = w37 at BK345 BK346 BK347 BK348 HB hHeld ⊢
  refine pure_ (i := 0) (N := some 77) (v := ?_) (a' := ?_) (bm 22 1) rfl rfl (any_of HT_.out (by kernel_rfl)) (fun _ _ _ h => h) (Or.inl ⟨by rfl, ?_⟩) ?_ ?_
  rotate_left
  ·intro w'
   go_simp
   with_reducible rfl
  rotate_left
  ·simp only [Act.put, List.setIfInBounds_toArray, List.set_cons_zero, List.set_cons_succ, i64_w, i32_w]
   rfl
  refine pure_ (i := 3) (N := some 80) (v := ?_) (a' := ?_) (bm 22 9) rfl rfl (any_of HT_.out (by kernel_rfl)) (fun _ _ _ h => h) (Or.inl ⟨by rfl, ?_⟩) ?_ ?_
  rotate_left
  ·intro w'
   go_simp
   with_reducible rfl
  rotate_left
  ·simp only [Act.put, List.setIfInBounds_toArray, List.set_cons_zero, List.set_cons_succ, i64_w, i32_w]
   rfl
  refine pure_ (i := 4) (N := some 81) (v := ?_) (a' := ?_) (bm 22 25) rfl rfl (any_of HT_.out (by kernel_rfl)) (fun _ _ _ h => h) (Or.inl ⟨by rfl, ?_⟩) ?_ ?_
  rotate_left
  ·intro w'
   go_simp
   with_reducible rfl
  rotate_left
  ·simp only [Act.put, List.setIfInBounds_toArray, List.set_cons_zero, List.set_cons_succ, i64_w, i32_w]
   rfl
  refine pure_ (i := 5) (N := some 82) (v := ?_) (a' := ?_) (bm 22 57) rfl rfl (any_of HT_.out (by kernel_rfl)) (fun _ _ _ h => h) (Or.inl ⟨by rfl, ?_⟩) ?_ ?_
  rotate_left
  ·intro w'
   go_simp
   with_reducible rfl
  rotate_left
  ·simp only [Act.put, List.setIfInBounds_toArray, List.set_cons_zero, List.set_cons_succ, i64_w, i32_w]
   rfl
  refine pure_ (i := 6) (N := some 83) (v := ?_) (a' := ?_) (bm 22 121) rfl rfl (any_of HT_.out (by kernel_rfl)) (fun _ _ _ h => h) (Or.inl ⟨by rfl, ?_⟩) ?_ ?_
  rotate_left
  ·intro w'
   go_simp
   with_reducible rfl
  rotate_left
  ·simp only [Act.put, List.setIfInBounds_toArray, List.set_cons_zero, List.set_cons_succ, i64_w, i32_w]
   rfl
  refine pure_ (i := 8) (N := some 85) (v := ?_) (a' := ?_) (bm 22 377) rfl rfl (any_of HT_.out (by kernel_rfl)) (fun _ _ _ h => h) (Or.inl ⟨by rfl, ?_⟩) ?_ ?_
  rotate_left
  ·intro w'
   go_simp
   with_reducible rfl
  rotate_left
  ·simp only [Act.put, List.setIfInBounds_toArray, List.set_cons_zero, List.set_cons_succ, i64_w, i32_w]
   rfl
  refine pure_ (i := 11) (N := some 88) (v := ?_) (a' := ?_) (bm 22 2425) rfl rfl (any_of HT_.out (by kernel_rfl)) (fun _ _ _ h => h) (Or.inl ⟨by rfl, ?_⟩) ?_ ?_
  rotate_left
  ·intro w'
   go_simp
   with_reducible rfl
  rotate_left
  ·simp only [Act.put, List.setIfInBounds_toArray, List.set_cons_zero, List.set_cons_succ, i64_w, i32_w]
   rfl
  refine pure_ (i := 14) (N := some 91) (v := ?_) (a' := ?_) (bm 22 18809) rfl rfl (any_of HT_.out (by kernel_rfl)) (fun _ _ _ h => h) (Or.inl ⟨by rfl, ?_⟩) ?_ ?_
  rotate_left
  ·intro w'
   go_simp
   with_reducible rfl
  rotate_left
  ·simp only [Act.put, List.setIfInBounds_toArray, List.set_cons_zero, List.set_cons_succ, i64_w, i32_w]
   rfl
  refine pure_ (i := 17) (N := some 94) (v := ?_) (a' := ?_) (bm 22 149881) rfl rfl (any_of HT_.out (by kernel_rfl)) (fun _ _ _ h => h) (Or.inl ⟨by rfl, ?_⟩) ?_ ?_
  rotate_left
  ·intro w'
   go_simp
   with_reducible rfl
  rotate_left
  ·simp only [Act.put, List.setIfInBounds_toArray, List.set_cons_zero, List.set_cons_succ, i64_w, i32_w]
   rfl
  refine take_ (i := 1) (N := some 78) (v := ?_) (a' := ?_) (bm 22 149883) rfl rfl (take_ofW HT_.out HW_.out (by kernel_rfl)) (fun _ _ _ h => h) (Or.inl ⟨by rfl, ?_⟩) hHeld ?_ ?_
  rotate_left
  ·rintro w' ⟨s0, s1, s2, s3, s4, s5, s6, s7, s8⟩
   go_simp
   with_reducible rfl
  rotate_left
  ·simp only [Act.put, List.setIfInBounds_toArray, List.set_cons_zero, List.set_cons_succ, i64_w, i32_w]
   rfl
  refine take_ (i := 9) (N := some 86) (v := ?_) (a' := ?_) (bm 22 150395) rfl rfl (take_ofW HT_.out HW_.out (by kernel_rfl)) (fun _ _ _ h => h) (Or.inl ⟨by rfl, ?_⟩) hHeld ?_ ?_
  rotate_left
  ·rintro w' ⟨s0, s1, s2, s3, s4, s5, s6, s7, s8⟩
   go_simp
   with_reducible rfl
  rotate_left
  ·simp only [Act.put, List.setIfInBounds_toArray, List.set_cons_zero, List.set_cons_succ, i64_w, i32_w]
   rfl
  refine take_ (i := 15) (N := some 92) (v := ?_) (a' := ?_) (bm 22 183163) rfl rfl (take_ofW HT_.out HW_.out (by kernel_rfl)) (fun _ _ _ h => h) (Or.inl ⟨by rfl, ?_⟩) hHeld ?_ ?_
  rotate_left
  ·rintro w' ⟨s0, s1, s2, s3, s4, s5, s6, s7, s8⟩
   go_simp
   with_reducible rfl
  rotate_left
  ·simp only [Act.put, List.setIfInBounds_toArray, List.set_cons_zero, List.set_cons_succ, i64_w, i32_w]
   rfl
  refine one_ (i := 2) (N := some 79) (bm 22 183167) rfl rfl (one_of HT_.out (by kernel_rfl)) (by decide) (fun K hK => ?_)
  refine goes_ Try.func45 (by kernel_rfl) rfl #[.int .i64 a0_2] (by rfl) rfl rfl (by (try simp only [List.map_toArray, List.map_cons, List.map_nil]); first | done | rfl | (simp only [List.length_drop, List.length_take]; rfl)) ?_
  with_reducible refine (relievoref19_clamp.calls a0_2 t355 _ A26.out).mono ?_
  rintro e w38 ⟨rfl, hb⟩
  refine ⟨_, rfl, ?_⟩
  replace BK345 := cB hb BK345
  replace BK346 := cB hb BK346
  replace BK347 := cB hb BK347
  replace BK348 := cB hb BK348
  replace HB := Aside0.mk (below_step (HB.out) hb)
  (try clear hb)
  (try clear hb2)
  (try clear hk)
  (try clear hi)
  refine hK.out _ _ ⟨(blk_cell BK345.out 0).trans rfl, (blk_cell BK345.out 1).trans rfl, (blk_cell BK345.out 2).trans rfl, (blk_cell BK346.out 0).trans rfl, (blk_cell BK346.out 1).trans rfl, (blk_cell BK346.out 2).trans rfl, (blk_cell BK347.out 0).trans rfl, (blk_cell BK347.out 1).trans rfl, (blk_cell BK347.out 2).trans rfl⟩ (fun hHeld => ?_)
  clear hK K
  refine norm_ (a' := ?_) ?_ ?_
  rotate_left
  ·show Act.put _ (some 79) _ = _
   simp only [Act.put, List.setIfInBounds_toArray, List.set_cons_zero, List.set_cons_succ, i64_w, i32_w]
   rfl
  refine pure_ (i := 7) (N := some 84) (v := ?_) (a' := ?_) (bm 22 183295) rfl rfl (any_of HT_.out (by kernel_rfl)) (fun _ _ _ h => h) (Or.inl ⟨by rfl, ?_⟩) ?_ ?_
  rotate_left
  ·intro w'
   go_simp
   with_reducible rfl
  rotate_left
  ·simp only [Act.put, List.setIfInBounds_toArray, List.set_cons_zero, List.set_cons_succ, i64_w, i32_w]
   rfl
  refine one_ (i := 10) (N := some 87) (bm 22 184319) rfl rfl (one_of HT_.out (by kernel_rfl)) (by decide) (fun K hK => ?_)
  refine goes_ Try.func45 (by kernel_rfl) rfl #[.int .i64 a1_2] (by rfl) rfl rfl (by (try simp only [List.map_toArray, List.map_cons, List.map_nil]); first | done | rfl | (simp only [List.length_drop, List.length_take]; rfl)) ?_
  with_reducible refine (relievoref19_clamp.calls a1_2 t356 _ A27.out).mono ?_
  rintro e w39 ⟨rfl, hb⟩
  refine ⟨_, rfl, ?_⟩
  replace BK345 := cB hb BK345
  replace BK346 := cB hb BK346
  replace BK347 := cB hb BK347
  replace BK348 := cB hb BK348
  replace HB := Aside0.mk (below_step (HB.out) hb)
  (try clear hb)
  (try clear hb2)
  (try clear hk)
  (try clear hi)
  refine hK.out _ _ ⟨(blk_cell BK345.out 0).trans rfl, (blk_cell BK345.out 1).trans rfl, (blk_cell BK345.out 2).trans rfl, (blk_cell BK346.out 0).trans rfl, (blk_cell BK346.out 1).trans rfl, (blk_cell BK346.out 2).trans rfl, (blk_cell BK347.out 0).trans rfl, (blk_cell BK347.out 1).trans rfl, (blk_cell BK347.out 2).trans rfl⟩ (fun hHeld => ?_)
  clear hK K
  refine norm_ (a' := ?_) ?_ ?_
  rotate_left
  ·show Act.put _ (some 87) _ = _
   simp only [Act.put, List.setIfInBounds_toArray, List.set_cons_zero, List.set_cons_succ, i64_w, i32_w]
   rfl
  refine pure_ (i := 12) (N := some 89) (v := ?_) (a' := ?_) (bm 22 188415) rfl rfl (any_of HT_.out (by kernel_rfl)) (fun _ _ _ h => h) (Or.inl ⟨by rfl, ?_⟩) ?_ ?_
  rotate_left
  ·intro w'
   go_simp
   with_reducible rfl
  rotate_left
  ·simp only [Act.put, List.setIfInBounds_toArray, List.set_cons_zero, List.set_cons_succ, i64_w, i32_w]
   rfl
  refine pure_ (i := 13) (N := some 90) (v := ?_) (a' := ?_) (bm 22 196607) rfl rfl (any_of HT_.out (by kernel_rfl)) (fun _ _ _ h => h) (Or.inl ⟨by rfl, ?_⟩) ?_ ?_
  rotate_left
  ·intro w'
   go_simp
   with_reducible rfl
  rotate_left
  ·simp only [Act.put, List.setIfInBounds_toArray, List.set_cons_zero, List.set_cons_succ, i64_w, i32_w]
   rfl
  refine one_ (i := 16) (N := some 93) (bm 22 262143) rfl rfl (one_of HT_.out (by kernel_rfl)) (by decide) (fun K hK => ?_)
  refine goes_ Try.func45 (by kernel_rfl) rfl #[.int .i64 a2_2] (by rfl) rfl rfl (by (try simp only [List.map_toArray, List.map_cons, List.map_nil]); first | done | rfl | (simp only [List.length_drop, List.length_take]; rfl)) ?_
  with_reducible refine (relievoref19_clamp.calls a2_2 t357 _ A28.out).mono ?_
  rintro e w40 ⟨rfl, hb⟩
  refine ⟨_, rfl, ?_⟩
  replace BK345 := cB hb BK345
  replace BK346 := cB hb BK346
  replace BK347 := cB hb BK347
  replace BK348 := cB hb BK348
  replace HB := Aside0.mk (below_step (HB.out) hb)
  (try clear hb)
  (try clear hb2)
  (try clear hk)
  (try clear hi)
  refine hK.out _ _ ⟨(blk_cell BK345.out 0).trans rfl, (blk_cell BK345.out 1).trans rfl, (blk_cell BK345.out 2).trans rfl, (blk_cell BK346.out 0).trans rfl, (blk_cell BK346.out 1).trans rfl, (blk_cell BK346.out 2).trans rfl, (blk_cell BK347.out 0).trans rfl, (blk_cell BK347.out 1).trans rfl, (blk_cell BK347.out 2).trans rfl⟩ (fun hHeld => ?_)
  clear hK K
  refine norm_ (a' := ?_) ?_ ?_
  rotate_left
  ·show Act.put _ (some 93) _ = _
   simp only [Act.put, List.setIfInBounds_toArray, List.set_cons_zero, List.set_cons_succ, i64_w, i32_w]
   rfl
  refine pure_ (i := 18) (N := some 95) (v := ?_) (a' := ?_) (bm 22 524287) rfl rfl (any_of HT_.out (by kernel_rfl)) (fun _ _ _ h => h) (Or.inl ⟨by rfl, ?_⟩) ?_ ?_
  rotate_left
  ·intro w'
   go_simp
   with_reducible rfl
  rotate_left
  ·simp only [Act.put, List.setIfInBounds_toArray, List.set_cons_zero, List.set_cons_succ, i64_w, i32_w]
   rfl
  refine pure_ (i := 19) (N := some 96) (v := ?_) (a' := ?_) (bm 22 1048575) rfl rfl (any_of HT_.out (by kernel_rfl)) (fun _ _ _ h => h) (Or.inl ⟨by rfl, ?_⟩) ?_ ?_
  rotate_left
  ·intro w'
   go_simp
   with_reducible rfl
  rotate_left
  ·simp only [Act.put, List.setIfInBounds_toArray, List.set_cons_zero, List.set_cons_succ, i64_w, i32_w]
   rfl
  refine pure_ (i := 20) (N := some 97) (v := ?_) (a' := ?_) (bm 22 2097151) rfl rfl (any_of HT_.out (by kernel_rfl)) (fun _ _ _ h => h) (Or.inl ⟨by rfl, ?_⟩) ?_ ?_
  rotate_left
  ·intro w'
   go_simp
   with_reducible rfl
  rotate_left
  ·simp only [Act.put, List.setIfInBounds_toArray, List.set_cons_zero, List.set_cons_succ, i64_w, i32_w]
   rfl
  refine pure_ (i := 21) (N := some 13) (v := ?_) (a' := ?_) (bm 22 4194303) rfl rfl (any_of HT_.out (by kernel_rfl)) (fun _ _ _ h => h) (Or.inl ⟨by rfl, ?_⟩) ?_ ?_
  rotate_left
  ·intro w'
   go_simp
   with_reducible rfl
  rotate_left
  ·simp only [Act.put, List.setIfInBounds_toArray, List.set_cons_zero, List.set_cons_succ, i64_w, i32_w]
   rfl
  refine done_ (done_of HT_.out (by kernel_rfl)) ?_
  obtain ⟨hcz41_0, hcz41_1, hcz41_2⟩ := cells3 BK348.out
  have hfz41_0 := blk_frozen BK348.out 0
  have hfz41_1 := blk_frozen BK348.out 1
  have hfz41_2 := blk_frozen BK348.out 2
  try go_wp2
  refine bodyPost_ret (results_cell_row rfl _ _ gb348 37 #[.int .i64 (wrap64 (Int.tdiv (wrap64 ((wrap64 ((wrap64 (t349 * (wrap64 ((wrap64 (256 - a3)) - a4)))) + (wrap64 (t350 * a3)))) + (wrap64 (t351 * a4)))) 256)), .int .i64 (wrap64 (Int.tdiv (wrap64 ((wrap64 ((wrap64 (t352 * (wrap64 ((wrap64 (256 - a3)) - a4)))) + (wrap64 (t353 * a3)))) + (wrap64 (t354 * a4)))) 256)), .int .i64 (wrap64 (Int.tdiv (wrap64 ((wrap64 ((wrap64 (t355 * (wrap64 ((wrap64 (256 - a3)) - a4)))) + (wrap64 (t356 * a3)))) + (wrap64 (t357 * a4)))) 256))] (0, 0) _ rfl ((blk_put (cs' := #[.int .i64 (wrap64 (Int.tdiv (wrap64 ((wrap64 ((wrap64 (t349 * (wrap64 ((wrap64 (256 - a3)) - a4)))) + (wrap64 (t350 * a3)))) + (wrap64 (t351 * a4)))) 256)), .int .i64 (wrap64 (Int.tdiv (wrap64 ((wrap64 ((wrap64 (t352 * (wrap64 ((wrap64 (256 - a3)) - a4)))) + (wrap64 (t353 * a3)))) + (wrap64 (t354 * a4)))) 256)), .int .i64 (wrap64 (Int.tdiv (wrap64 ((wrap64 ((wrap64 (t355 * (wrap64 ((wrap64 (256 - a3)) - a4)))) + (wrap64 (t356 * a3)))) + (wrap64 (t357 * a4)))) 256))]) (blk_put (blk_put BK348.out 0 _ rfl) 1 _ rfl) 2 _ rfl)) Try.underlying37 rfl (by kernel_rfl)) rfl ?_
  exact ⟨by first | rfl | (simp [errW_none, errW_some] <;> rfl) | (simp [*, errW_none, errW_some] <;> rfl), (below_set (below_set (below_set HB.out GE348.out) GE348.out) GE348.out)⟩

end Go.Proofs.Ytmhnidmbgicgeaa.G
