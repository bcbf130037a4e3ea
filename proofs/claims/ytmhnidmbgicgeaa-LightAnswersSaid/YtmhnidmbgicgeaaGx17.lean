-- Written by a program of this session (wip/gen), out of the translation; Lean checks it.
import Derived.Test.YtmhnidmbgicgeaaGx0
import Derived.Test.YtmhnidmbgicgeaaGx1
import Derived.Test.YtmhnidmbgicgeaaGx4
import Derived.Test.YtmhnidmbgicgeaaGx5
import Derived.Test.YtmhnidmbgicgeaaGx10
import Derived.Test.YtmhnidmbgicgeaaGx14
namespace Go.Proofs.Ytmhnidmbgicgeaa.G
open Go.RowKit Go.Proofs.YtmhnidmbgicgeaaW.PrintWords Go.Proofs.YtmhnidmbgicgeaaW.PrintLast Go.Proofs.YtmhnidmbgicgeaaW.PrintMore
attribute [local go_sem] max2_int min2_int max_two min_two max_three min_three max_four min_four   -- for this text's walks alone
set_option linter.unusedVariables false
set_option linter.unusedSimpArgs false

attribute [local go_sem high] eqA26
/-! ### light_Cos: function 17 -/
def light_Cos.j0 : Nat → Bool → Int → Int → Int → Int → Int → Int → Option (Int)
  | 0, _, _, _, _, _, _, _ => none
  | k + 1, x25, x122000, x122001, x122002, x123000, x123001, x123002 => if x25 = true then (some 0) else ((vec_Dot.f x122000 x122001 x122002 x123000 x123001 x123002).bind fun t126 => ((vec_Dot.f x122000 x122001 x122002 x122000 x122001 x122002).bind fun t127 => ((vec_Dot.f x123000 x123001 x123002 x123000 x123001 x123002).bind fun t128 => ((light_root.f k t127 t128).bind fun t129 => ((light_floor.f (wrap64 (256 * t126)) t129).bind fun t130 => (some (mn (mx t130 (-256)) 256)))))))
def light_Cos.f (k : Nat) (a0_0 : Int) (a0_1 : Int) (a0_2 : Int) (a1_0 : Int) (a1_1 : Int) (a1_2 : Int) : Option (Int) := if (a0_0 == 0 && (a0_1 == 0 && (a0_2 == 0))) = true then (light_Cos.j0 k true a0_0 a0_1 a0_2 a1_0 a1_1 a1_2) else (if (a1_0 == 0 && (a1_1 == 0 && (a1_2 == 0))) = true then (light_Cos.j0 k true a0_0 a0_1 a0_2 a1_0 a1_1 a1_2) else ((vec_Within.f a0_0 a0_1 a0_2 32768).bind fun t124 => (if t124 = true then ((vec_Within.f a1_0 a1_1 a1_2 32768).bind fun t125 => (light_Cos.j0 k (!t125) a0_0 a0_1 a0_2 a1_0 a1_1 a1_2)) else (light_Cos.j0 k true a0_0 a0_1 a0_2 a1_0 a1_1 a1_2))))
theorem light_Cos.mono_l : ∀ k, (∀ y0 y1 y2 y3 y4 y5 y6, LeO (light_Cos.j0 k y0 y1 y2 y3 y4 y5 y6) (light_Cos.j0 (k + 1) y0 y1 y2 y3 y4 y5 y6))
  | 0 => fun _ _ _ _ _ _ _ r h => by simp [light_Cos.j0] at h
  | k + 1 => by
    have ih0 := light_Cos.mono_l k
    · intro y0 y1 y2 y3 y4 y5 y6
      unfold light_Cos.j0
      repeat' first
      | (with_reducible exact ih0 _ _ _ _ _ _ _)
      | (with_reducible exact light_root.mono _ _ _)
      | (with_reducible exact LeO.refl _)
      | (with_reducible exact LeO.none _)
      | (with_reducible refine LeO.ite ?_ ?_)
      | (with_reducible refine LeO.bind ?_ (fun _ => ?_))
      | exact ih0 _ _ _ _ _ _ _
      | exact light_root.mono _ _ _
      | exact LeO.none _
      | refine LeO.ite ?_ ?_
      | refine LeO.bind ?_ (fun _ => ?_)
theorem light_Cos.mono : ∀ a0 a1 a2 a3 a4 a5 k, LeO (light_Cos.f k a0 a1 a2 a3 a4 a5) (light_Cos.f (k + 1) a0 a1 a2 a3 a4 a5) := by
  intro a0 a1 a2 a3 a4 a5 k
  have ih0 := light_Cos.mono_l k
  unfold light_Cos.f
  repeat' first
      | (with_reducible exact ih0 _ _ _ _ _ _ _)
      | (with_reducible exact light_root.mono _ _ _)
      | (with_reducible exact LeO.refl _)
      | (with_reducible exact LeO.none _)
      | (with_reducible refine LeO.ite ?_ ?_)
      | (with_reducible refine LeO.bind ?_ (fun _ => ?_))
      | exact ih0 _ _ _ _ _ _ _
      | exact light_root.mono _ _ _
      | exact LeO.none _
      | refine LeO.ite ?_ ?_
      | refine LeO.bind ?_ (fun _ => ?_)
def light_Cos.T4 : Bool × List (List Nat × List Nat) := (true, [([], []), ([], []), ([0, 1], [0, 1]), ([2], [2]), ([], []), ([], []), ([4, 5, 2], [4, 5]), ([], []), ([], []), ([7, 8, 6], [7, 8]), ([6, 9, 9], [6, 9]), ([3, 10, 10], [3, 10]), ([11, 11, 0, 1, 2, 3, 4, 5, 6, 7, 8, 9, 10, 11], [11])])
def light_Cos.B4 : List Nat := [0, 0, 3, 7, 0, 0, 55, 0, 0, 503, 1015, 2047, 4095]
theorem light_Cos.tab4 : rtab .any (opsOf Try.f17 4) = light_Cos.T4 := by kernel_rfl
theorem light_Cos.bits4 : waitsOk light_Cos.T4.2 light_Cos.B4 = true := by kernel_rfl
set_option maxHeartbeats 8000000 in
set_option maxRecDepth 100000 in
theorem light_Cos.calls (k : Nat) (a0_0 : Int) (a0_1 : Int) (a0_2 : Int) (a1_0 : Int) (a1_1 : Int) (a1_2 : Int) (r : Int) (w : World) (h : light_Cos.f k a0_0 a0_1 a0_2 a1_0 a1_1 a1_2 = some r) :
    Calls Try.prog 17 #[.agg #[.int .i64 a0_0, .int .i64 a0_1, .int .i64 a0_2], .agg #[.int .i64 a1_0, .int .i64 a1_1, .int .i64 a1_2]] w fun e w' => e = .returned (.int .i64 r) ∧ Below w.heap.size w w' := by
 have hu26 := Try.underlying26
 have HB := Aside0.mk (Below.refl w.heap.size w)
 have H : (if (a0_0 == 0 && (a0_1 == 0 && (a0_2 == 0))) = true then (light_Cos.j0 k true a0_0 a0_1 a0_2 a1_0 a1_1 a1_2) else (if (a1_0 == 0 && (a1_1 == 0 && (a1_2 == 0))) = true then (light_Cos.j0 k true a0_0 a0_1 a0_2 a1_0 a1_1 a1_2) else ((vec_Within.f a0_0 a0_1 a0_2 32768).bind fun t124 => (if t124 = true then ((vec_Within.f a1_0 a1_1 a1_2 32768).bind fun t125 => (light_Cos.j0 k (!t125) a0_0 a0_1 a0_2 a1_0 a1_1 a1_2)) else (light_Cos.j0 k true a0_0 a0_1 a0_2 a1_0 a1_1 a1_2))))) = some r := h
 clear h
 have HC3 := Aside0.mk H
 clear H
 go_enter Try.func17, Try.ntmps17
 go_upto_region 2 with (first | ((with_reducible refine gate_dst (N := 2) rfl ?_); refine box_event ?hg (N := 2) ?hd (cs := #[.int .i64 a0_0, .int .i64 a0_1, .int .i64 a0_2]) (t := 26) ?hr ?_; (case hd => rfl); (case hg => rfl); (case hr => first | (go_simp; done) | (go_simp; rfl)); intro gb121 hg w4 hbox hb; have BK121 := Aside0.mk (hbox); have GE121 := Aside0.mk (bG hg (by first | exact HB.out | (repeat (first | exact HB.out | apply pw_below_drewN | apply below_drew1 | apply below_alloc)))); replace HB := Aside0.mk (below_step (by first | exact HB.out | (repeat (first | exact HB.out | apply pw_below_drewN | apply below_drew1 | apply below_alloc))) hb); clear hb hbox hg) | ((with_reducible refine gate_dst (N := 3) rfl ?_); refine box_event ?hg (N := 3) ?hd (cs := #[.int .i64 a1_0, .int .i64 a1_1, .int .i64 a1_2]) (t := 26) ?hr ?_; (case hd => rfl); (case hg => rfl); (case hr => first | (go_simp; done) | (go_simp; rfl)); intro gb122 hg w5 hbox hb; have BK122 := Aside0.mk (hbox); have GE122 := Aside0.mk (bG hg (by first | exact HB.out | (repeat (first | exact HB.out | apply pw_below_drewN | apply below_drew1 | apply below_alloc)))); have NB121_122 := cN hg BK121; have NB122_121 := cM hg BK121; replace BK121 := cB hb BK121; replace HB := Aside0.mk (below_step (by first | exact HB.out | (repeat (first | exact HB.out | apply pw_below_drewN | apply below_drew1 | apply below_alloc))) hb); clear hb hbox hg) | ((with_reducible refine gate_dst (N := 5) rfl ?_); refine box_event ?hg (N := 5) ?hd (cs := #[.int .i64 0, .int .i64 0, .int .i64 0]) (t := 26) ?hr ?_; (case hd => rfl); (case hg => rfl); (case hr => first | (go_simp; done) | (go_simp; rfl)); intro gb123 hg w6 hbox hb; have BK123 := Aside0.mk (hbox); have GE123 := Aside0.mk (bG hg (by first | exact HB.out | (repeat (first | exact HB.out | apply pw_below_drewN | apply below_drew1 | apply below_alloc)))); have NB121_123 := cN hg BK121; have NB123_121 := cM hg BK121; have NB122_123 := cN hg BK122; have NB123_122 := cM hg BK122; replace BK121 := cB hb BK121; replace BK122 := cB hb BK122; replace HB := Aside0.mk (below_step (by first | exact HB.out | (repeat (first | exact HB.out | apply pw_below_drewN | apply below_drew1 | apply below_alloc))) hb); clear hb hbox hg; have hnb7 := NB123_121.out; have hnc7 := NB121_123.out; have hnb8 := NB123_122.out; have hnc8 := NB122_123.out; obtain ⟨hcz9_0, hcz9_1, hcz9_2⟩ := cells3 BK123.out; have hfz9_0 := blk_frozen BK123.out 0; have hfz9_1 := blk_frozen BK123.out 1; have hfz9_2 := blk_frozen BK123.out 2))
 (try simp only [Act.put, List.setIfInBounds_toArray, List.set_cons_zero, List.set_cons_succ])
 go_cut [25] (fun v25 wc => ∃ (kq : Nat) (x25_2 : Bool), v25 = .bool x25_2 ∧ Aside0 (light_Cos.j0 kq x25_2 a0_0 a0_1 a0_2 a1_0 a1_1 a1_2 = some r) ∧ Aside0 (kq ≤ k) ∧ Aside0 (wc.heap[gb121]? = some (.cells #[.int .i64 a0_0, .int .i64 a0_1, .int .i64 a0_2] 26 (0, 0))) ∧ Aside0 (wc.heap[gb122]? = some (.cells #[.int .i64 a1_0, .int .i64 a1_1, .int .i64 a1_2] 26 (0, 0))) ∧ Aside0 (wc.heap[gb123]? = some (.cells #[.int .i64 0, .int .i64 0, .int .i64 0] 26 (0, 0))) ∧ Aside0 (Below w.heap.size w wc))
 case first =>
  have H := HC3.out
  clear HC3
  by_cases c10 : (a0_0 == 0 && (a0_1 == 0 && (a0_2 == 0))) = true
  ·rw [if_pos c10] at H
   have c10b0 : (a0_0 == 0 && (a0_1 == 0 && (a0_2 == 0))) = true := c10
   (try (have c10b1 : decide (a0_0 = 0 && (a0_1 == 0 && (a0_2 == 0))) = true := by simpa using c10))
   (try (have c10b2 : (a0_0 == 0 && (a0_1 == 0 && (a0_2 == 0))) = true := by simpa using c10))
   clear c10
   (first | rw [c10b0] | (simp only [i64_w, i32_w]; rw [c10b0]) | skip)
   have H' := Aside0.mk H
   clear H
   obtain ⟨hcz11_0, hcz11_1, hcz11_2⟩ := cells3 BK121.out
   obtain ⟨hcz12_0, hcz12_1, hcz12_2⟩ := cells3 BK123.out
   go_wp2
   go_meet
   case rel => exact ⟨_, (true), (by first | rfl | (simp; done) | (simp [*]; done)), H', ⟨by first | omega | exact Nat.le_refl _⟩, ⟨(blk_far (blk_far (blk_far BK121.out NB121_123.out _) NB121_123.out _) NB121_123.out _)⟩, ⟨(blk_far (blk_far (blk_far BK122.out NB122_123.out _) NB122_123.out _) NB122_123.out _)⟩, ⟨(blk_put (cs' := #[.int .i64 0, .int .i64 0, .int .i64 0]) (blk_put (blk_put BK123.out 0 _ rfl) 1 _ rfl) 2 _ rfl)⟩, ⟨by first | exact (below_set (below_set (below_set HB.out GE123.out) GE123.out) GE123.out) | (repeat (first | exact (below_set (below_set (below_set HB.out GE123.out) GE123.out) GE123.out) | apply pw_below_drewN | apply below_drew1 | apply below_alloc))⟩⟩
  rw [if_neg c10] at H
  have c10b0 : (a0_0 == 0 && (a0_1 == 0 && (a0_2 == 0))) = false := by simpa using c10
  (try (have c10b1 : decide (a0_0 = 0 && (a0_1 == 0 && (a0_2 == 0))) = false := by simpa using c10))
  (try (have c10b2 : (a0_0 == 0 && (a0_1 == 0 && (a0_2 == 0))) = false := by simpa using c10))
  (try (have c10b3 : ¬ (a0_0 = 0 && (a0_1 == 0 && (a0_2 == 0))) := by simpa using c10))
  clear c10
  (first | rw [c10b0] | (simp only [i64_w, i32_w]; rw [c10b0]) | skip)
  by_cases c13 : (a1_0 == 0 && (a1_1 == 0 && (a1_2 == 0))) = true
  ·rw [if_pos c13] at H
   have c13b0 : (a1_0 == 0 && (a1_1 == 0 && (a1_2 == 0))) = true := c13
   (try (have c13b1 : decide (a1_0 = 0 && (a1_1 == 0 && (a1_2 == 0))) = true := by simpa using c13))
   (try (have c13b2 : (a1_0 == 0 && (a1_1 == 0 && (a1_2 == 0))) = true := by simpa using c13))
   clear c13
   have H' := Aside0.mk H
   clear H
   obtain ⟨hcz14_0, hcz14_1, hcz14_2⟩ := cells3 BK121.out
   obtain ⟨hcz15_0, hcz15_1, hcz15_2⟩ := cells3 BK123.out
   obtain ⟨hcz16_0, hcz16_1, hcz16_2⟩ := cells3 BK122.out
   go_wp2
   go_meet
   case rel => exact ⟨_, (true), (by first | rfl | (simp; done) | (simp [*]; done)), H', ⟨by first | omega | exact Nat.le_refl _⟩, ⟨(blk_far (blk_far (blk_far BK121.out NB121_123.out _) NB121_123.out _) NB121_123.out _)⟩, ⟨(blk_far (blk_far (blk_far BK122.out NB122_123.out _) NB122_123.out _) NB122_123.out _)⟩, ⟨(blk_put (cs' := #[.int .i64 0, .int .i64 0, .int .i64 0]) (blk_put (blk_put BK123.out 0 _ rfl) 1 _ rfl) 2 _ rfl)⟩, ⟨by first | exact (below_set (below_set (below_set HB.out GE123.out) GE123.out) GE123.out) | (repeat (first | exact (below_set (below_set (below_set HB.out GE123.out) GE123.out) GE123.out) | apply pw_below_drewN | apply below_drew1 | apply below_alloc))⟩⟩
  rw [if_neg c13] at H
  have c13b0 : (a1_0 == 0 && (a1_1 == 0 && (a1_2 == 0))) = false := by simpa using c13
  (try (have c13b1 : decide (a1_0 = 0 && (a1_1 == 0 && (a1_2 == 0))) = false := by simpa using c13))
  (try (have c13b2 : (a1_0 == 0 && (a1_1 == 0 && (a1_2 == 0))) = false := by simpa using c13))
  (try (have c13b3 : ¬ (a1_0 = 0 && (a1_1 == 0 && (a1_2 == 0))) := by simpa using c13))
  clear c13
  replace H := Option.bind_eq_some_iff.mp H
  obtain ⟨t124, A170, H⟩ := H
  replace H : (if t124 = true then ((vec_Within.f a1_0 a1_1 a1_2 32768).bind fun t125 => (light_Cos.j0 k (!t125) a0_0 a0_1 a0_2 a1_0 a1_1 a1_2)) else (light_Cos.j0 k true a0_0 a0_1 a0_2 a1_0 a1_1 a1_2)) = some r := H
  have A17 := Aside0.mk A170
  clear A170
  by_cases c18 : t124 = true
  ·subst c18
   have H1 : ((vec_Within.f a1_0 a1_1 a1_2 32768).bind fun t125 => (light_Cos.j0 k (!t125) a0_0 a0_1 a0_2 a1_0 a1_1 a1_2)) = some r := by rw [if_pos rfl] at H; exact H
   clear H
   have H := H1
   clear H1
   replace H := Option.bind_eq_some_iff.mp H
   obtain ⟨t125, A190, H⟩ := H
   replace H : (light_Cos.j0 k (!t125) a0_0 a0_1 a0_2 a1_0 a1_1 a1_2) = some r := H
   have A19 := Aside0.mk A190
   clear A190
   have H' := Aside0.mk H
   clear H
   obtain ⟨hcz20_0, hcz20_1, hcz20_2⟩ := cells3 BK121.out
   obtain ⟨hcz21_0, hcz21_1, hcz21_2⟩ := cells3 BK123.out
   obtain ⟨hcz22_0, hcz22_1, hcz22_2⟩ := cells3 BK122.out
   go_wp2_with (first | (go_at_call 13; (with_reducible refine (vec_Within.calls a0_0 a0_1 a0_2 32768 true _ A17.out).mono ?_); rintro e w23 ⟨rfl, hb⟩; replace BK121 := Aside0.mk (bB hb ((blk_far (blk_far (blk_far BK121.out NB121_123.out _) NB121_123.out _) NB121_123.out _))); replace BK122 := Aside0.mk (bB hb ((blk_far (blk_far (blk_far BK122.out NB122_123.out _) NB122_123.out _) NB122_123.out _))); replace BK123 := Aside0.mk (bB hb ((blk_put (cs' := #[.int .i64 0, .int .i64 0, .int .i64 0]) (blk_put (blk_put BK123.out 0 _ rfl) 1 _ rfl) 2 _ rfl))); replace HB := Aside0.mk (below_step (by first | exact (below_set (below_set (below_set HB.out GE123.out) GE123.out) GE123.out) | (repeat (first | exact (below_set (below_set (below_set HB.out GE123.out) GE123.out) GE123.out) | apply pw_below_drewN | apply below_drew1 | apply below_alloc))) hb); (try clear hb); (try clear hb2); (try clear hk); (try clear hi); obtain ⟨hcz24_0, hcz24_1, hcz24_2⟩ := cells3 BK122.out) | (go_at_call 13; (with_reducible refine (vec_Within.calls a1_0 a1_1 a1_2 32768 t125 _ A19.out).mono ?_); rintro e w25 ⟨rfl, hb⟩; replace BK121 := cB hb BK121; replace BK122 := cB hb BK122; replace BK123 := cB hb BK123; replace HB := Aside0.mk (below_step (by first | exact HB.out | (repeat (first | exact HB.out | apply pw_below_drewN | apply below_drew1 | apply below_alloc))) hb); (try clear hb); (try clear hb2); (try clear hk); (try clear hi)))
   go_meet
   case rel => exact ⟨_, (!t125), (by first | rfl | (simp; done) | (simp [*]; done)), H', ⟨by first | omega | exact Nat.le_refl _⟩, ⟨BK121.out⟩, ⟨BK122.out⟩, ⟨BK123.out⟩, ⟨by first | exact HB.out | (repeat (first | exact HB.out | apply pw_below_drewN | apply below_drew1 | apply below_alloc))⟩⟩
  replace c18 := Bool.eq_false_iff.mpr c18
  subst c18
  have H1 : (light_Cos.j0 k true a0_0 a0_1 a0_2 a1_0 a1_1 a1_2) = some r := by rw [if_neg (show ¬ (false = true) by decide)] at H; exact H
  clear H
  have H := H1
  clear H1
  have H' := Aside0.mk H
  clear H
  obtain ⟨hcz26_0, hcz26_1, hcz26_2⟩ := cells3 BK121.out
  obtain ⟨hcz27_0, hcz27_1, hcz27_2⟩ := cells3 BK123.out
  obtain ⟨hcz28_0, hcz28_1, hcz28_2⟩ := cells3 BK122.out
  go_wp2_with (first | (go_at_call 13; (with_reducible refine (vec_Within.calls a0_0 a0_1 a0_2 32768 false _ A17.out).mono ?_); rintro e w29 ⟨rfl, hb⟩; replace BK121 := Aside0.mk (bB hb ((blk_far (blk_far (blk_far BK121.out NB121_123.out _) NB121_123.out _) NB121_123.out _))); replace BK122 := Aside0.mk (bB hb ((blk_far (blk_far (blk_far BK122.out NB122_123.out _) NB122_123.out _) NB122_123.out _))); replace BK123 := Aside0.mk (bB hb ((blk_put (cs' := #[.int .i64 0, .int .i64 0, .int .i64 0]) (blk_put (blk_put BK123.out 0 _ rfl) 1 _ rfl) 2 _ rfl))); replace HB := Aside0.mk (below_step (by first | exact (below_set (below_set (below_set HB.out GE123.out) GE123.out) GE123.out) | (repeat (first | exact (below_set (below_set (below_set HB.out GE123.out) GE123.out) GE123.out) | apply pw_below_drewN | apply below_drew1 | apply below_alloc))) hb); (try clear hb); (try clear hb2); (try clear hk); (try clear hi)))
  go_meet
  case rel => exact ⟨_, (true), (by first | rfl | (simp; done) | (simp [*]; done)), H', ⟨by first | omega | exact Nat.le_refl _⟩, ⟨BK121.out⟩, ⟨BK122.out⟩, ⟨BK123.out⟩, ⟨by first | exact HB.out | (repeat (first | exact HB.out | apply pw_below_drewN | apply below_drew1 | apply below_alloc))⟩⟩
 clear HC3
 try clear hcz9_0
 try clear hcz9_1
 try clear hcz9_2
 try clear hfz9_0
 try clear hfz9_1
 try clear hfz9_2
 obtain ⟨kq, x25_2, rfl, HA, HJ2, BK121, BK122, BK123, HB⟩ := hcut
 cases kq with
 | zero => exact absurd HA.out (by simp [light_Cos.j0])
 | succ kj2 =>
  have H := HA.out
  clear HA
  simp only [light_Cos.j0] at H
  by_cases c30 : x25_2 = true
  ·subst c30
   have H1 : (some 0) = some r := by rw [if_pos rfl] at H; exact H
   clear H
   have H := H1
   clear H1
   obtain rfl := Option.some.inj H
   go_wp2
   go_ret
   exact ⟨by first | rfl | (simp [errW_none, errW_some] <;> rfl) | (simp [*, errW_none, errW_some] <;> rfl), by first | exact HB.out | (repeat (first | exact HB.out | apply pw_below_drewN | apply below_drew1 | apply below_alloc))⟩
  replace c30 := Bool.eq_false_iff.mpr c30
  subst c30
  have H1 : ((vec_Dot.f a0_0 a0_1 a0_2 a1_0 a1_1 a1_2).bind fun t126 => ((vec_Dot.f a0_0 a0_1 a0_2 a0_0 a0_1 a0_2).bind fun t127 => ((vec_Dot.f a1_0 a1_1 a1_2 a1_0 a1_1 a1_2).bind fun t128 => ((light_root.f kj2 t127 t128).bind fun t129 => ((light_floor.f (wrap64 (256 * t126)) t129).bind fun t130 => (some (mn (mx t130 (-256)) 256))))))) = some r := by rw [if_neg (show ¬ (false = true) by decide)] at H; exact H
  clear H
  have H := H1
  clear H1
  replace H := Option.bind_eq_some_iff.mp H
  obtain ⟨t126, A310, H⟩ := H
  replace H : ((vec_Dot.f a0_0 a0_1 a0_2 a0_0 a0_1 a0_2).bind fun t127 => ((vec_Dot.f a1_0 a1_1 a1_2 a1_0 a1_1 a1_2).bind fun t128 => ((light_root.f kj2 t127 t128).bind fun t129 => ((light_floor.f (wrap64 (256 * t126)) t129).bind fun t130 => (some (mn (mx t130 (-256)) 256)))))) = some r := H
  have A31 := Aside0.mk A310
  clear A310
  replace H := Option.bind_eq_some_iff.mp H
  obtain ⟨t127, A320, H⟩ := H
  replace H : ((vec_Dot.f a1_0 a1_1 a1_2 a1_0 a1_1 a1_2).bind fun t128 => ((light_root.f kj2 t127 t128).bind fun t129 => ((light_floor.f (wrap64 (256 * t126)) t129).bind fun t130 => (some (mn (mx t130 (-256)) 256))))) = some r := H
  have A32 := Aside0.mk A320
  clear A320
  replace H := Option.bind_eq_some_iff.mp H
  obtain ⟨t128, A330, H⟩ := H
  replace H : ((light_root.f kj2 t127 t128).bind fun t129 => ((light_floor.f (wrap64 (256 * t126)) t129).bind fun t130 => (some (mn (mx t130 (-256)) 256)))) = some r := H
  have A33 := Aside0.mk A330
  clear A330
  replace H := Option.bind_eq_some_iff.mp H
  obtain ⟨t129, A340, H⟩ := H
  replace H : ((light_floor.f (wrap64 (256 * t126)) t129).bind fun t130 => (some (mn (mx t130 (-256)) 256))) = some r := H
  have A34 := Aside0.mk A340
  clear A340
  replace H := Option.bind_eq_some_iff.mp H
  obtain ⟨t130, A350, H⟩ := H
  replace H : (some (mn (mx t130 (-256)) 256)) = some r := H
  have A35 := Aside0.mk A350
  clear A350
  obtain ⟨ji36, hji36⟩ : ∃ j_ : Int, (mx t130 (-256)) = j_ := ⟨_, rfl⟩
  replace H : (some (mn (ji36) 256)) = some r := by first | (rw [hji36] at H; exact H) | (simp only [hji36] at H ⊢; exact H)
  (try rw [hji36] at A31)
  (try rw [hji36] at A32)
  (try rw [hji36] at A33)
  (try rw [hji36] at A34)
  (try rw [hji36] at A35)
  have hji36_ : (if t130 < (-256) then (-256) else t130) = ji36 := hji36
  obtain ⟨ji37, hji37⟩ : ∃ j_ : Int, (mn (ji36) 256) = j_ := ⟨_, rfl⟩
  replace H : (some ji37) = some r := by first | (rw [hji37] at H; exact H) | (simp only [hji37] at H ⊢; exact H)
  (try rw [hji37] at A31)
  (try rw [hji37] at A32)
  (try rw [hji37] at A33)
  (try rw [hji37] at A34)
  (try rw [hji37] at A35)
  have hji37_ : (if 256 < (ji36) then 256 else (ji36)) = ji37 := hji37
  obtain rfl := Option.some.inj H
  try go_wp2
  replace BK121 := Aside0.mk (blk_drew BK121.out)
  replace BK122 := Aside0.mk (blk_drew BK122.out)
  replace HB := Aside0.mk (below_drew1 HB.out)
  refine start_ (n := 13) (S := fun w' => w'.cell? ⟨gb121, 0, none⟩ = some (.int .i64 a0_0) ∧ w'.cell? ⟨gb121, 1, none⟩ = some (.int .i64 a0_1) ∧ w'.cell? ⟨gb121, 2, none⟩ = some (.int .i64 a0_2) ∧ w'.cell? ⟨gb122, 0, none⟩ = some (.int .i64 a1_0) ∧ w'.cell? ⟨gb122, 1, none⟩ = some (.int .i64 a1_1) ∧ w'.cell? ⟨gb122, 2, none⟩ = some (.int .i64 a1_2)) (ds := []) #[false, false, false, false, false, false, false, false, false, false, false, false, false] (by kernel_rfl) rfl rfl ⟨(blk_cell BK121.out 0).trans rfl, (blk_cell BK121.out 1).trans rfl, (blk_cell BK121.out 2).trans rfl, (blk_cell BK122.out 0).trans rfl, (blk_cell BK122.out 1).trans rfl, (blk_cell BK122.out 2).trans rfl⟩ (fun hHeld => ?_); refine with_tabW light_Cos.tab4 light_Cos.bits4 (fun HT_ HW_ => ?_)
  generalize wc.drew = w38 at BK121 BK122 HB hHeld ⊢
  refine take_ (i := 0) (N := some 26) (v := ?_) (a' := ?_) (bm 13 1) rfl rfl (take_ofW HT_.out HW_.out (by kernel_rfl)) (fun _ _ _ h => h) (Or.inl ⟨by rfl, ?_⟩) hHeld ?_ ?_
  rotate_left
  ·rintro w' ⟨s0, s1, s2, s3, s4, s5⟩
   go_simp
   with_reducible rfl
  rotate_left
  ·simp only [Act.put, List.setIfInBounds_toArray, List.set_cons_zero, List.set_cons_succ, i64_w, i32_w]
   rfl
  refine take_ (i := 1) (N := some 27) (v := ?_) (a' := ?_) (bm 13 3) rfl rfl (take_ofW HT_.out HW_.out (by kernel_rfl)) (fun _ _ _ h => h) (Or.inl ⟨by rfl, ?_⟩) hHeld ?_ ?_
  rotate_left
  ·rintro w' ⟨s0, s1, s2, s3, s4, s5⟩
   go_simp
   with_reducible rfl
  rotate_left
  ·simp only [Act.put, List.setIfInBounds_toArray, List.set_cons_zero, List.set_cons_succ, i64_w, i32_w]
   rfl
  refine take_ (i := 4) (N := some 30) (v := ?_) (a' := ?_) (bm 13 19) rfl rfl (take_ofW HT_.out HW_.out (by kernel_rfl)) (fun _ _ _ h => h) (Or.inl ⟨by rfl, ?_⟩) hHeld ?_ ?_
  rotate_left
  ·rintro w' ⟨s0, s1, s2, s3, s4, s5⟩
   go_simp
   with_reducible rfl
  rotate_left
  ·simp only [Act.put, List.setIfInBounds_toArray, List.set_cons_zero, List.set_cons_succ, i64_w, i32_w]
   rfl
  refine take_ (i := 5) (N := some 31) (v := ?_) (a' := ?_) (bm 13 51) rfl rfl (take_ofW HT_.out HW_.out (by kernel_rfl)) (fun _ _ _ h => h) (Or.inl ⟨by rfl, ?_⟩) hHeld ?_ ?_
  rotate_left
  ·rintro w' ⟨s0, s1, s2, s3, s4, s5⟩
   go_simp
   with_reducible rfl
  rotate_left
  ·simp only [Act.put, List.setIfInBounds_toArray, List.set_cons_zero, List.set_cons_succ, i64_w, i32_w]
   rfl
  refine take_ (i := 7) (N := some 33) (v := ?_) (a' := ?_) (bm 13 179) rfl rfl (take_ofW HT_.out HW_.out (by kernel_rfl)) (fun _ _ _ h => h) (Or.inl ⟨by rfl, ?_⟩) hHeld ?_ ?_
  rotate_left
  ·rintro w' ⟨s0, s1, s2, s3, s4, s5⟩
   go_simp
   with_reducible rfl
  rotate_left
  ·simp only [Act.put, List.setIfInBounds_toArray, List.set_cons_zero, List.set_cons_succ, i64_w, i32_w]
   rfl
  refine take_ (i := 8) (N := some 34) (v := ?_) (a' := ?_) (bm 13 435) rfl rfl (take_ofW HT_.out HW_.out (by kernel_rfl)) (fun _ _ _ h => h) (Or.inl ⟨by rfl, ?_⟩) hHeld ?_ ?_
  rotate_left
  ·rintro w' ⟨s0, s1, s2, s3, s4, s5⟩
   go_simp
   with_reducible rfl
  rotate_left
  ·simp only [Act.put, List.setIfInBounds_toArray, List.set_cons_zero, List.set_cons_succ, i64_w, i32_w]
   rfl
  refine one_ (i := 2) (N := some 28) (bm 13 439) rfl rfl (one_of HT_.out (by kernel_rfl)) (by decide) (fun K hK => ?_)
  refine goes_ Try.func16 (by kernel_rfl) rfl #[.agg #[.int .i64 a0_0, .int .i64 a0_1, .int .i64 a0_2], .agg #[.int .i64 a1_0, .int .i64 a1_1, .int .i64 a1_2]] (by rfl) rfl rfl (by (try simp only [List.map_toArray, List.map_cons, List.map_nil]); first | done | rfl | (simp only [List.length_drop, List.length_take]; rfl)) ?_
  with_reducible refine (vec_Dot.calls a0_0 a0_1 a0_2 a1_0 a1_1 a1_2 t126 _ A31.out).mono ?_
  rintro e w39 ⟨rfl, hb⟩
  refine ⟨_, rfl, ?_⟩
  replace BK121 := cB hb BK121
  replace BK122 := cB hb BK122
  replace HB := Aside0.mk (below_step (by first | exact HB.out | (repeat (first | exact HB.out | apply pw_below_drewN | apply below_drew1 | apply below_alloc))) hb)
  (try clear hb)
  (try clear hb2)
  (try clear hk)
  (try clear hi)
  refine hK.out _ _ ⟨(blk_cell BK121.out 0).trans rfl, (blk_cell BK121.out 1).trans rfl, (blk_cell BK121.out 2).trans rfl, (blk_cell BK122.out 0).trans rfl, (blk_cell BK122.out 1).trans rfl, (blk_cell BK122.out 2).trans rfl⟩ (fun hHeld => ?_)
  clear hK K
  refine norm_ (a' := ?_) ?_ ?_
  rotate_left
  ·show Act.put _ (some 28) _ = _
   simp only [Act.put, List.setIfInBounds_toArray, List.set_cons_zero, List.set_cons_succ, i64_w, i32_w]
   rfl
  refine pure_ (i := 3) (N := some 29) (v := ?_) (a' := ?_) (bm 13 447) rfl rfl (any_of HT_.out (by kernel_rfl)) (fun _ _ _ h => h) (Or.inl ⟨by rfl, ?_⟩) ?_ ?_
  rotate_left
  ·intro w'
   go_simp
   with_reducible rfl
  rotate_left
  ·simp only [Act.put, List.setIfInBounds_toArray, List.set_cons_zero, List.set_cons_succ, i64_w, i32_w]
   rfl
  refine one_ (i := 6) (N := some 32) (bm 13 511) rfl rfl (one_of HT_.out (by kernel_rfl)) (by decide) (fun K hK => ?_)
  refine goes_ Try.func16 (by kernel_rfl) rfl #[.agg #[.int .i64 a0_0, .int .i64 a0_1, .int .i64 a0_2], .agg #[.int .i64 a0_0, .int .i64 a0_1, .int .i64 a0_2]] (by rfl) rfl rfl (by (try simp only [List.map_toArray, List.map_cons, List.map_nil]); first | done | rfl | (simp only [List.length_drop, List.length_take]; rfl)) ?_
  with_reducible refine (vec_Dot.calls a0_0 a0_1 a0_2 a0_0 a0_1 a0_2 t127 _ A32.out).mono ?_
  rintro e w40 ⟨rfl, hb⟩
  refine ⟨_, rfl, ?_⟩
  replace BK121 := cB hb BK121
  replace BK122 := cB hb BK122
  replace HB := Aside0.mk (below_step (by first | exact HB.out | (repeat (first | exact HB.out | apply pw_below_drewN | apply below_drew1 | apply below_alloc))) hb)
  (try clear hb)
  (try clear hb2)
  (try clear hk)
  (try clear hi)
  refine hK.out _ _ ⟨(blk_cell BK121.out 0).trans rfl, (blk_cell BK121.out 1).trans rfl, (blk_cell BK121.out 2).trans rfl, (blk_cell BK122.out 0).trans rfl, (blk_cell BK122.out 1).trans rfl, (blk_cell BK122.out 2).trans rfl⟩ (fun hHeld => ?_)
  clear hK K
  refine norm_ (a' := ?_) ?_ ?_
  rotate_left
  ·show Act.put _ (some 32) _ = _
   simp only [Act.put, List.setIfInBounds_toArray, List.set_cons_zero, List.set_cons_succ, i64_w, i32_w]
   rfl
  refine one_ (i := 9) (N := some 35) (bm 13 1023) rfl rfl (one_of HT_.out (by kernel_rfl)) (by decide) (fun K hK => ?_)
  refine goes_ Try.func16 (by kernel_rfl) rfl #[.agg #[.int .i64 a1_0, .int .i64 a1_1, .int .i64 a1_2], .agg #[.int .i64 a1_0, .int .i64 a1_1, .int .i64 a1_2]] (by rfl) rfl rfl (by (try simp only [List.map_toArray, List.map_cons, List.map_nil]); first | done | rfl | (simp only [List.length_drop, List.length_take]; rfl)) ?_
  with_reducible refine (vec_Dot.calls a1_0 a1_1 a1_2 a1_0 a1_1 a1_2 t128 _ A33.out).mono ?_
  rintro e w41 ⟨rfl, hb⟩
  refine ⟨_, rfl, ?_⟩
  replace BK121 := cB hb BK121
  replace BK122 := cB hb BK122
  replace HB := Aside0.mk (below_step (by first | exact HB.out | (repeat (first | exact HB.out | apply pw_below_drewN | apply below_drew1 | apply below_alloc))) hb)
  (try clear hb)
  (try clear hb2)
  (try clear hk)
  (try clear hi)
  refine hK.out _ _ ⟨(blk_cell BK121.out 0).trans rfl, (blk_cell BK121.out 1).trans rfl, (blk_cell BK121.out 2).trans rfl, (blk_cell BK122.out 0).trans rfl, (blk_cell BK122.out 1).trans rfl, (blk_cell BK122.out 2).trans rfl⟩ (fun hHeld => ?_)
  clear hK K
  refine norm_ (a' := ?_) ?_ ?_
  rotate_left
  ·show Act.put _ (some 35) _ = _
   simp only [Act.put, List.setIfInBounds_toArray, List.set_cons_zero, List.set_cons_succ, i64_w, i32_w]
   rfl
  refine one_ (i := 10) (N := some 36) (bm 13 2047) rfl rfl (one_of HT_.out (by kernel_rfl)) (by decide) (fun K hK => ?_)
  refine goes_ Try.func33 (by kernel_rfl) rfl #[.int .i64 t127, .int .i64 t128] (by rfl) rfl rfl (by (try simp only [List.map_toArray, List.map_cons, List.map_nil]); first | done | rfl | (simp only [List.length_drop, List.length_take]; rfl)) ?_
  with_reducible refine (light_root.calls kj2 t127 t128 t129 _ A34.out).mono ?_
  rintro e w42 ⟨rfl, hb⟩
  refine ⟨_, rfl, ?_⟩
  replace BK121 := cB hb BK121
  replace BK122 := cB hb BK122
  replace HB := Aside0.mk (below_step (by first | exact HB.out | (repeat (first | exact HB.out | apply pw_below_drewN | apply below_drew1 | apply below_alloc))) hb)
  (try clear hb)
  (try clear hb2)
  (try clear hk)
  (try clear hi)
  refine hK.out _ _ ⟨(blk_cell BK121.out 0).trans rfl, (blk_cell BK121.out 1).trans rfl, (blk_cell BK121.out 2).trans rfl, (blk_cell BK122.out 0).trans rfl, (blk_cell BK122.out 1).trans rfl, (blk_cell BK122.out 2).trans rfl⟩ (fun hHeld => ?_)
  clear hK K
  refine norm_ (a' := ?_) ?_ ?_
  rotate_left
  ·show Act.put _ (some 36) _ = _
   simp only [Act.put, List.setIfInBounds_toArray, List.set_cons_zero, List.set_cons_succ, i64_w, i32_w]
   rfl
  refine one_ (i := 11) (N := some 37) (bm 13 4095) rfl rfl (one_of HT_.out (by kernel_rfl)) (by decide) (fun K hK => ?_)
  refine goes_ Try.func31 (by kernel_rfl) rfl #[.int .i64 (wrap64 (256 * t126)), .int .i64 t129] (by rfl) rfl rfl (by (try simp only [List.map_toArray, List.map_cons, List.map_nil]); first | done | rfl | (simp only [List.length_drop, List.length_take]; rfl)) ?_
  with_reducible refine (light_floor.calls (wrap64 (256 * t126)) t129 t130 _ A35.out).mono ?_
  rintro e w' ⟨rfl, ⟨nd, rfl⟩⟩
  refine ⟨_, rfl, ?_⟩
  refine hK.out _ _ ⟨(blk_cell BK121.out 0).trans rfl, (blk_cell BK121.out 1).trans rfl, (blk_cell BK121.out 2).trans rfl, (blk_cell BK122.out 0).trans rfl, (blk_cell BK122.out 1).trans rfl, (blk_cell BK122.out 2).trans rfl⟩ (fun hHeld => ?_)
  clear hK K
  refine norm_ (a' := ?_) ?_ ?_
  rotate_left
  ·show Act.put _ (some 37) _ = _
   simp only [Act.put, List.setIfInBounds_toArray, List.set_cons_zero, List.set_cons_succ, i64_w, i32_w]
   rfl
  refine pure_ (i := 12) (N := some 6) (v := ?_) (a' := ?_) (bm 13 8191) rfl rfl (any_of HT_.out (by kernel_rfl)) (fun _ _ _ h => h) (Or.inl ⟨by rfl, ?_⟩) ?_ ?_
  rotate_left
  ·intro w'
   go_simp
   with_reducible rfl
  rotate_left
  ·simp only [Act.put, List.setIfInBounds_toArray, List.set_cons_zero, List.set_cons_succ, i64_w, i32_w]
   rfl
  refine done_ (done_of HT_.out (by kernel_rfl)) ?_
  try go_wp2
  go_ret
  exact ⟨by first | rfl | (simp [errW_none, errW_some] <;> rfl) | (simp only [← hji36, ← hji37]; first | rfl | (simp [errW_none, errW_some] <;> rfl)) | (simp [*, errW_none, errW_some] <;> rfl), by first | exact HB.out | (repeat (first | exact HB.out | apply pw_below_drewN | apply below_drew1 | apply below_alloc))⟩

end Go.Proofs.Ytmhnidmbgicgeaa.G
