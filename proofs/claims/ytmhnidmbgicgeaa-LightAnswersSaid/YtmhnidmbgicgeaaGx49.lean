-- Written by a program of this session (wip/gen), out of the translation; Lean checks it.
import Derived.Test.YtmhnidmbgicgeaaNumAll
import Derived.Test.YtmhnidmbgicgeaaNumAll
import Derived.Test.YtmhnidmbgicgeaaGx0
import Derived.Test.YtmhnidmbgicgeaaGx1
import Derived.Test.YtmhnidmbgicgeaaGx31
import Derived.Test.YtmhnidmbgicgeaaGx32
import Derived.Test.YtmhnidmbgicgeaaGx33
import Derived.Test.YtmhnidmbgicgeaaGx46
import Derived.Test.YtmhnidmbgicgeaaGx48
namespace Go.Proofs.Ytmhnidmbgicgeaa.G
open Go.RowKit Go.Proofs.YtmhnidmbgicgeaaW.PrintWords Go.Proofs.YtmhnidmbgicgeaaW.PrintLast Go.Proofs.YtmhnidmbgicgeaaW.PrintMore
attribute [local go_sem] max2_int min2_int max_two min_two max_three min_three max_four min_four   -- for this text's walks alone
set_option linter.unusedVariables false
set_option linter.unusedSimpArgs false

attribute [local go_sem high] eqA26
/-! ### relievoref19_Refract: function 20 -/
def relievoref19_Refract.j0 : Nat → Int → Bool → Int → Int → Int → Int → Int → Int → Option (Int × Int × Int × Bool)
  | 0, _, _, _, _, _, _, _, _ => none
  | k + 1, x2, x38, x291000, x291001, x291002, x292000, x292001, x292002 => if x38 = true then (some (0, 0, 0, false)) else ((relievoref19_unit.f x291000 x291001 x291002).bind fun bt295 => ((relievoref19_unit.f x292000 x292001 x292002).bind fun bt299 => ((relievoref02_Dot.f bt295.1 bt295.2.1 bt295.2.2 bt299.1 bt299.2.1 bt299.2.2).bind fun t303 => ((relievoref19_Floor.f t303 4096).bind fun t304 => ((relievoref19_Floor.f (wrap64 ((wrap64 (x2 * x2)) * (wrap64 (16777216 - (wrap64 ((wrap64 (-t304)) * (wrap64 (-t304)))))))) 65536).bind fun t305 => (if (wrap64 (16777216 - t305)) < 0 then (some (0, 0, 0, false)) else ((relievoref01_Mul.f (wrap64 (16777216 - t305)) 1).bind fun bt306 => ((relievoref01_Sqrt.f bt306.1 bt306.2).bind fun bt308 => ((relievoref19_Floor.f (wrap64 (x2 * (wrap64 (-t304)))) 256).bind fun t310 => ((relievoref19_Floor.f (wrap64 (x2 * bt295.1)) 256).bind fun t311 => ((relievoref19_Floor.f (wrap64 ((wrap64 (t310 - bt308.1)) * bt299.1)) 4096).bind fun t312 => ((relievoref19_Floor.f (wrap64 (x2 * bt295.2.1)) 256).bind fun t313 => ((relievoref19_Floor.f (wrap64 ((wrap64 (t310 - bt308.1)) * bt299.2.1)) 4096).bind fun t314 => ((relievoref19_Floor.f (wrap64 (x2 * bt295.2.2)) 256).bind fun t315 => ((relievoref19_Floor.f (wrap64 ((wrap64 (t310 - bt308.1)) * bt299.2.2)) 4096).bind fun t316 => ((relievoref02_Cut.f k (wrap64 (t311 + t312)) (wrap64 (t313 + t314)) (wrap64 (t315 + t316)) 32768).bind fun bt317 => (some (bt317.1, bt317.2.1, bt317.2.2, (!(bt317.1 == 0) || (!(bt317.2.1 == 0) || (!(bt317.2.2 == 0))))))))))))))))))))))
def relievoref19_Refract.f (k : Nat) (a0_0 : Int) (a0_1 : Int) (a0_2 : Int) (a1_0 : Int) (a1_1 : Int) (a1_2 : Int) (a2 : Int) : Option (Int × Int × Int × Bool) := (relievoref19_fine.f a0_0 a0_1 a0_2 a1_0 a1_1 a1_2).bind fun t293 => (if t293 = true then (if (a0_0 == 0 && (a0_1 == 0 && (a0_2 == 0))) = true then (relievoref19_Refract.j0 k a2 true a0_0 a0_1 a0_2 a1_0 a1_1 a1_2) else (if a2 < 64 then (relievoref19_Refract.j0 k a2 true a0_0 a0_1 a0_2 a1_0 a1_1 a1_2) else (if a2 > 1024 then (relievoref19_Refract.j0 k a2 true a0_0 a0_1 a0_2 a1_0 a1_1 a1_2) else ((relievoref02_Dot.f a0_0 a0_1 a0_2 a1_0 a1_1 a1_2).bind fun t294 => (relievoref19_Refract.j0 k a2 (decide (t294 ≥ 0)) a0_0 a0_1 a0_2 a1_0 a1_1 a1_2))))) else (relievoref19_Refract.j0 k a2 true a0_0 a0_1 a0_2 a1_0 a1_1 a1_2))
theorem relievoref19_Refract.mono_l : ∀ k, (∀ y0 y1 y2 y3 y4 y5 y6 y7, LeO (relievoref19_Refract.j0 k y0 y1 y2 y3 y4 y5 y6 y7) (relievoref19_Refract.j0 (k + 1) y0 y1 y2 y3 y4 y5 y6 y7))
  | 0 => fun _ _ _ _ _ _ _ _ r h => by simp [relievoref19_Refract.j0] at h
  | k + 1 => by
    have ih0 := relievoref19_Refract.mono_l k
    · intro y0 y1 y2 y3 y4 y5 y6 y7
      unfold relievoref19_Refract.j0
      repeat' first
      | (with_reducible exact ih0 _ _ _ _ _ _ _ _)
      | (with_reducible exact relievoref02_Cut.mono _ _ _ _ _)
      | (with_reducible exact LeO.refl _)
      | (with_reducible exact LeO.none _)
      | (with_reducible refine LeO.ite ?_ ?_)
      | (with_reducible refine LeO.bind ?_ (fun _ => ?_))
      | exact ih0 _ _ _ _ _ _ _ _
      | exact relievoref02_Cut.mono _ _ _ _ _
      | exact LeO.none _
      | refine LeO.ite ?_ ?_
      | refine LeO.bind ?_ (fun _ => ?_)
theorem relievoref19_Refract.mono : ∀ a0 a1 a2 a3 a4 a5 a6 k, LeO (relievoref19_Refract.f k a0 a1 a2 a3 a4 a5 a6) (relievoref19_Refract.f (k + 1) a0 a1 a2 a3 a4 a5 a6) := by
  intro a0 a1 a2 a3 a4 a5 a6 k
  have ih0 := relievoref19_Refract.mono_l k
  unfold relievoref19_Refract.f
  repeat' first
      | (with_reducible exact ih0 _ _ _ _ _ _ _ _)
      | (with_reducible exact relievoref02_Cut.mono _ _ _ _ _)
      | (with_reducible exact LeO.refl _)
      | (with_reducible exact LeO.none _)
      | (with_reducible refine LeO.ite ?_ ?_)
      | (with_reducible refine LeO.bind ?_ (fun _ => ?_))
      | exact ih0 _ _ _ _ _ _ _ _
      | exact relievoref02_Cut.mono _ _ _ _ _
      | exact LeO.none _
      | refine LeO.ite ?_ ?_
      | refine LeO.bind ?_ (fun _ => ?_)
def relievoref19_Refract.T11 : Bool × List (List Nat × List Nat) := (true, [([], []), ([], []), ([1], [1]), ([0, 2], [0, 2]), ([3], [3]), ([], []), ([], []), ([6], [6]), ([5, 7], [5, 7]), ([8, 4], [8]), ([4, 9], [4, 9]), ([], []), ([], []), ([12], [12]), ([11, 13], [11, 13]), ([14, 9], [14]), ([], []), ([], []), ([17], [17]), ([16, 18], [16, 18]), ([19, 15], [19]), ([15, 20], [15, 20]), ([], []), ([], []), ([23], [23]), ([22, 24], [22, 24]), ([25, 20], [25]), ([], []), ([], []), ([28], [28]), ([27, 29], [27, 29]), ([30, 26], [30]), ([26, 31], [26, 31]), ([10, 21, 32], [10, 21, 32]), ([33, 31], [33]), ([], []), ([35, 34, 34, 0, 1, 2, 3, 4, 5, 6, 7, 8, 9, 10, 11, 12, 13, 14, 15, 16, 17, 18, 19, 20, 21, 22, 23, 24, 25, 26, 27, 28, 29, 30, 31, 32, 33, 34, 35], [34, 35])])
def relievoref19_Refract.B11 : List Nat := [0, 0, 2, 7, 15, 0, 0, 64, 224, 511, 1023, 0, 0, 4096, 14336, 31743, 0, 0, 131072, 458752, 1047551, 2096127, 0, 0, 8388608, 29360128, 65010687, 0, 0, 268435456, 939524096, 2145385471, 4292869119, 8589934591, 17179869183, 0, 68719476735]
theorem relievoref19_Refract.tab11 : rtab .any (opsOf Try.f20 11) = relievoref19_Refract.T11 := by kernel_rfl
theorem relievoref19_Refract.bits11 : waitsOk relievoref19_Refract.T11.2 relievoref19_Refract.B11 = true := by kernel_rfl
set_option maxHeartbeats 8000000 in
set_option maxRecDepth 100000 in
theorem relievoref19_Refract.calls (k : Nat) (a0_0 : Int) (a0_1 : Int) (a0_2 : Int) (a1_0 : Int) (a1_1 : Int) (a1_2 : Int) (a2 : Int) (r1 : Int) (r2 : Int) (r3 : Int) (r4 : Bool) (w : World) (h : relievoref19_Refract.f k a0_0 a0_1 a0_2 a1_0 a1_1 a1_2 a2 = some (r1, r2, r3, r4)) :
    Calls Try.prog 20 #[.agg #[.int .i64 a0_0, .int .i64 a0_1, .int .i64 a0_2], .agg #[.int .i64 a1_0, .int .i64 a1_1, .int .i64 a1_2], .int .i64 a2] w fun e w' => e = .returned (.tuple #[.agg #[.int .i64 r1, .int .i64 r2, .int .i64 r3], .bool r4]) ∧ Below w.heap.size w w' := by
 have hu26 := Try.underlying26
 have HB := Aside0.mk (Below.refl w.heap.size w)
 have H : ((relievoref19_fine.f a0_0 a0_1 a0_2 a1_0 a1_1 a1_2).bind fun t293 => (if t293 = true then (if (a0_0 == 0 && (a0_1 == 0 && (a0_2 == 0))) = true then (relievoref19_Refract.j0 k a2 true a0_0 a0_1 a0_2 a1_0 a1_1 a1_2) else (if a2 < 64 then (relievoref19_Refract.j0 k a2 true a0_0 a0_1 a0_2 a1_0 a1_1 a1_2) else (if a2 > 1024 then (relievoref19_Refract.j0 k a2 true a0_0 a0_1 a0_2 a1_0 a1_1 a1_2) else ((relievoref02_Dot.f a0_0 a0_1 a0_2 a1_0 a1_1 a1_2).bind fun t294 => (relievoref19_Refract.j0 k a2 (decide (t294 ≥ 0)) a0_0 a0_1 a0_2 a1_0 a1_1 a1_2))))) else (relievoref19_Refract.j0 k a2 true a0_0 a0_1 a0_2 a1_0 a1_1 a1_2))) = some (r1, r2, r3, r4) := h
 clear h
 have HC4 := Aside0.mk H
 clear H
 go_enter Try.func20, Try.ntmps20
 go_upto_region 1 with (first | ((with_reducible refine gate_dst (N := 3) rfl ?_); refine box_event ?hg (N := 3) ?hd (cs := #[.int .i64 a0_0, .int .i64 a0_1, .int .i64 a0_2]) (t := 26) ?hr ?_; (case hd => rfl); (case hg => rfl); (case hr => first | (go_simp; done) | (go_simp; rfl)); intro gb290 hg w5 hbox hb; have BK290 := Aside0.mk (hbox); have GE290 := Aside0.mk (bG hg (by first | exact HB.out | (repeat (first | exact HB.out | apply pw_below_drewN | apply below_drew1 | apply below_alloc)))); replace HB := Aside0.mk (below_step (by first | exact HB.out | (repeat (first | exact HB.out | apply pw_below_drewN | apply below_drew1 | apply below_alloc))) hb); clear hb hbox hg) | ((with_reducible refine gate_dst (N := 4) rfl ?_); refine box_event ?hg (N := 4) ?hd (cs := #[.int .i64 a1_0, .int .i64 a1_1, .int .i64 a1_2]) (t := 26) ?hr ?_; (case hd => rfl); (case hg => rfl); (case hr => first | (go_simp; done) | (go_simp; rfl)); intro gb291 hg w6 hbox hb; have BK291 := Aside0.mk (hbox); have GE291 := Aside0.mk (bG hg (by first | exact HB.out | (repeat (first | exact HB.out | apply pw_below_drewN | apply below_drew1 | apply below_alloc)))); have NB290_291 := cN hg BK290; have NB291_290 := cM hg BK290; replace BK290 := cB hb BK290; replace HB := Aside0.mk (below_step (by first | exact HB.out | (repeat (first | exact HB.out | apply pw_below_drewN | apply below_drew1 | apply below_alloc))) hb); clear hb hbox hg) | ((with_reducible refine gate_dst (N := 6) rfl ?_); refine box_event ?hg (N := 6) ?hd (cs := #[.int .i64 0, .int .i64 0, .int .i64 0]) (t := 26) ?hr ?_; (case hd => rfl); (case hg => rfl); (case hr => first | (go_simp; done) | (go_simp; rfl)); intro gb292 hg w7 hbox hb; have BK292 := Aside0.mk (hbox); have GE292 := Aside0.mk (bG hg (by first | exact HB.out | (repeat (first | exact HB.out | apply pw_below_drewN | apply below_drew1 | apply below_alloc)))); have NB290_292 := cN hg BK290; have NB292_290 := cM hg BK290; have NB291_292 := cN hg BK291; have NB292_291 := cM hg BK291; replace BK290 := cB hb BK290; replace BK291 := cB hb BK291; replace HB := Aside0.mk (below_step (by first | exact HB.out | (repeat (first | exact HB.out | apply pw_below_drewN | apply below_drew1 | apply below_alloc))) hb); clear hb hbox hg))
 (try simp only [Act.put, List.setIfInBounds_toArray, List.set_cons_zero, List.set_cons_succ])
 go_cut [38] (fun v38 wc => ∃ (kq : Nat) (x38_3 : Bool), v38 = .bool x38_3 ∧ Aside0 (relievoref19_Refract.j0 kq a2 x38_3 a0_0 a0_1 a0_2 a1_0 a1_1 a1_2 = some (r1, r2, r3, r4)) ∧ Aside0 (kq ≤ k) ∧ Aside0 (wc.heap[gb290]? = some (.cells #[.int .i64 a0_0, .int .i64 a0_1, .int .i64 a0_2] 26 (0, 0))) ∧ Aside0 (wc.heap[gb291]? = some (.cells #[.int .i64 a1_0, .int .i64 a1_1, .int .i64 a1_2] 26 (0, 0))) ∧ Aside0 (wc.heap[gb292]? = some (.cells #[.int .i64 0, .int .i64 0, .int .i64 0] 26 (0, 0))) ∧ Aside0 (Below w.heap.size w wc))
 case first =>
  have H := HC4.out
  clear HC4
  replace H := Option.bind_eq_some_iff.mp H
  obtain ⟨t293, A80, H⟩ := H
  replace H : (if t293 = true then (if (a0_0 == 0 && (a0_1 == 0 && (a0_2 == 0))) = true then (relievoref19_Refract.j0 k a2 true a0_0 a0_1 a0_2 a1_0 a1_1 a1_2) else (if a2 < 64 then (relievoref19_Refract.j0 k a2 true a0_0 a0_1 a0_2 a1_0 a1_1 a1_2) else (if a2 > 1024 then (relievoref19_Refract.j0 k a2 true a0_0 a0_1 a0_2 a1_0 a1_1 a1_2) else ((relievoref02_Dot.f a0_0 a0_1 a0_2 a1_0 a1_1 a1_2).bind fun t294 => (relievoref19_Refract.j0 k a2 (decide (t294 ≥ 0)) a0_0 a0_1 a0_2 a1_0 a1_1 a1_2))))) else (relievoref19_Refract.j0 k a2 true a0_0 a0_1 a0_2 a1_0 a1_1 a1_2)) = some (r1, r2, r3, r4) := H
  have A8 := Aside0.mk A80
  clear A80
  by_cases c9 : t293 = true
  ·subst c9
   have H1 : (if (a0_0 == 0 && (a0_1 == 0 && (a0_2 == 0))) = true then (relievoref19_Refract.j0 k a2 true a0_0 a0_1 a0_2 a1_0 a1_1 a1_2) else (if a2 < 64 then (relievoref19_Refract.j0 k a2 true a0_0 a0_1 a0_2 a1_0 a1_1 a1_2) else (if a2 > 1024 then (relievoref19_Refract.j0 k a2 true a0_0 a0_1 a0_2 a1_0 a1_1 a1_2) else ((relievoref02_Dot.f a0_0 a0_1 a0_2 a1_0 a1_1 a1_2).bind fun t294 => (relievoref19_Refract.j0 k a2 (decide (t294 ≥ 0)) a0_0 a0_1 a0_2 a1_0 a1_1 a1_2))))) = some (r1, r2, r3, r4) := by rw [if_pos rfl] at H; exact H
   clear H
   have H := H1
   clear H1
   by_cases c10 : (a0_0 == 0 && (a0_1 == 0 && (a0_2 == 0))) = true
   ·rw [if_pos c10] at H
    have c10b0 : (a0_0 == 0 && (a0_1 == 0 && (a0_2 == 0))) = true := c10
    (try (have c10b1 : decide (a0_0 = 0 && (a0_1 == 0 && (a0_2 == 0))) = true := by simpa using c10))
    (try (have c10b2 : (a0_0 == 0 && (a0_1 == 0 && (a0_2 == 0))) = true := by simpa using c10))
    clear c10
    (first | rw [c10b0] | (simp only [i64_w, i32_w]; rw [c10b0]) | skip)
    have H' := Aside0.mk H
    clear H
    obtain ⟨hcz11_0, hcz11_1, hcz11_2⟩ := cells3 BK290.out
    obtain ⟨hcz12_0, hcz12_1, hcz12_2⟩ := cells3 BK291.out
    go_wp2_with (first | ((with_reducible refine gate_callee (f := 35) rfl ?_); refine goesL_ (some 18) rfl rfl Try.func35 (by kernel_rfl) rfl #[.agg #[.int .i64 a0_0, .int .i64 a0_1, .int .i64 a0_2], .agg #[.int .i64 a1_0, .int .i64 a1_1, .int .i64 a1_2]] rfl (by (try simp only [List.map_toArray, List.map_cons, List.map_nil]); first | done | rfl | (simp only [List.length_drop, List.length_take]; rfl)) ?_; (with_reducible refine (relievoref19_fine.calls a0_0 a0_1 a0_2 a1_0 a1_1 a1_2 true _ A8.out).mono ?_); rintro e w13 ⟨rfl, hb⟩; refine ⟨_, rfl, ?_⟩; replace BK290 := cB hb BK290; replace BK291 := cB hb BK291; replace BK292 := cB hb BK292; replace HB := Aside0.mk (below_step (by first | exact HB.out | (repeat (first | exact HB.out | apply pw_below_drewN | apply below_drew1 | apply below_alloc))) hb); (try clear hb); (try clear hb2); (try clear hk); (try clear hi); obtain ⟨hcz14_0, hcz14_1, hcz14_2⟩ := cells3 BK290.out))
    go_meet
    case rel => exact ⟨_, (true), (by first | rfl | (simp; done) | (simp [*]; done)), H', ⟨by first | omega | exact Nat.le_refl _⟩, ⟨BK290.out⟩, ⟨BK291.out⟩, ⟨BK292.out⟩, ⟨by first | exact HB.out | (repeat (first | exact HB.out | apply pw_below_drewN | apply below_drew1 | apply below_alloc))⟩⟩
   rw [if_neg c10] at H
   have c10b0 : (a0_0 == 0 && (a0_1 == 0 && (a0_2 == 0))) = false := by simpa using c10
   (try (have c10b1 : decide (a0_0 = 0 && (a0_1 == 0 && (a0_2 == 0))) = false := by simpa using c10))
   (try (have c10b2 : (a0_0 == 0 && (a0_1 == 0 && (a0_2 == 0))) = false := by simpa using c10))
   (try (have c10b3 : ¬ (a0_0 = 0 && (a0_1 == 0 && (a0_2 == 0))) := by simpa using c10))
   clear c10
   (first | rw [c10b0] | (simp only [i64_w, i32_w]; rw [c10b0]) | skip)
   by_cases c15 : a2 < 64
   ·rw [if_pos c15] at H
    have c15b0 : decide (a2 < 64) = true := decide_eq_true c15
    clear c15
    have H' := Aside0.mk H
    clear H
    obtain ⟨hcz16_0, hcz16_1, hcz16_2⟩ := cells3 BK290.out
    obtain ⟨hcz17_0, hcz17_1, hcz17_2⟩ := cells3 BK291.out
    go_wp2_with (first | ((with_reducible refine gate_callee (f := 35) rfl ?_); refine goesL_ (some 18) rfl rfl Try.func35 (by kernel_rfl) rfl #[.agg #[.int .i64 a0_0, .int .i64 a0_1, .int .i64 a0_2], .agg #[.int .i64 a1_0, .int .i64 a1_1, .int .i64 a1_2]] rfl (by (try simp only [List.map_toArray, List.map_cons, List.map_nil]); first | done | rfl | (simp only [List.length_drop, List.length_take]; rfl)) ?_; (with_reducible refine (relievoref19_fine.calls a0_0 a0_1 a0_2 a1_0 a1_1 a1_2 true _ A8.out).mono ?_); rintro e w18 ⟨rfl, hb⟩; refine ⟨_, rfl, ?_⟩; replace BK290 := cB hb BK290; replace BK291 := cB hb BK291; replace BK292 := cB hb BK292; replace HB := Aside0.mk (below_step (by first | exact HB.out | (repeat (first | exact HB.out | apply pw_below_drewN | apply below_drew1 | apply below_alloc))) hb); (try clear hb); (try clear hb2); (try clear hk); (try clear hi); obtain ⟨hcz19_0, hcz19_1, hcz19_2⟩ := cells3 BK290.out))
    go_meet
    case rel => exact ⟨_, (true), (by first | rfl | (simp; done) | (simp [*]; done)), H', ⟨by first | omega | exact Nat.le_refl _⟩, ⟨BK290.out⟩, ⟨BK291.out⟩, ⟨BK292.out⟩, ⟨by first | exact HB.out | (repeat (first | exact HB.out | apply pw_below_drewN | apply below_drew1 | apply below_alloc))⟩⟩
   rw [if_neg c15] at H
   have c15b0 : decide (a2 < 64) = false := decide_eq_false c15
   clear c15
   by_cases c20 : a2 > 1024
   ·rw [if_pos c20] at H
    have c20b0 : decide (1024 < a2) = true := decide_eq_true c20
    clear c20
    have H' := Aside0.mk H
    clear H
    obtain ⟨hcz21_0, hcz21_1, hcz21_2⟩ := cells3 BK290.out
    obtain ⟨hcz22_0, hcz22_1, hcz22_2⟩ := cells3 BK291.out
    go_wp2_with (first | ((with_reducible refine gate_callee (f := 35) rfl ?_); refine goesL_ (some 18) rfl rfl Try.func35 (by kernel_rfl) rfl #[.agg #[.int .i64 a0_0, .int .i64 a0_1, .int .i64 a0_2], .agg #[.int .i64 a1_0, .int .i64 a1_1, .int .i64 a1_2]] rfl (by (try simp only [List.map_toArray, List.map_cons, List.map_nil]); first | done | rfl | (simp only [List.length_drop, List.length_take]; rfl)) ?_; (with_reducible refine (relievoref19_fine.calls a0_0 a0_1 a0_2 a1_0 a1_1 a1_2 true _ A8.out).mono ?_); rintro e w23 ⟨rfl, hb⟩; refine ⟨_, rfl, ?_⟩; replace BK290 := cB hb BK290; replace BK291 := cB hb BK291; replace BK292 := cB hb BK292; replace HB := Aside0.mk (below_step (by first | exact HB.out | (repeat (first | exact HB.out | apply pw_below_drewN | apply below_drew1 | apply below_alloc))) hb); (try clear hb); (try clear hb2); (try clear hk); (try clear hi); obtain ⟨hcz24_0, hcz24_1, hcz24_2⟩ := cells3 BK290.out))
    go_meet
    case rel => exact ⟨_, (true), (by first | rfl | (simp; done) | (simp [*]; done)), H', ⟨by first | omega | exact Nat.le_refl _⟩, ⟨BK290.out⟩, ⟨BK291.out⟩, ⟨BK292.out⟩, ⟨by first | exact HB.out | (repeat (first | exact HB.out | apply pw_below_drewN | apply below_drew1 | apply below_alloc))⟩⟩
   rw [if_neg c20] at H
   have c20b0 : decide (1024 < a2) = false := decide_eq_false c20
   clear c20
   replace H := Option.bind_eq_some_iff.mp H
   obtain ⟨t294, A250, H⟩ := H
   replace H : (relievoref19_Refract.j0 k a2 (decide (t294 ≥ 0)) a0_0 a0_1 a0_2 a1_0 a1_1 a1_2) = some (r1, r2, r3, r4) := H
   have A25 := Aside0.mk A250
   clear A250
   have H' := Aside0.mk H
   clear H
   obtain ⟨hcz26_0, hcz26_1, hcz26_2⟩ := cells3 BK290.out
   obtain ⟨hcz27_0, hcz27_1, hcz27_2⟩ := cells3 BK291.out
   go_wp2_with (first | ((with_reducible refine gate_callee (f := 35) rfl ?_); refine goesL_ (some 18) rfl rfl Try.func35 (by kernel_rfl) rfl #[.agg #[.int .i64 a0_0, .int .i64 a0_1, .int .i64 a0_2], .agg #[.int .i64 a1_0, .int .i64 a1_1, .int .i64 a1_2]] rfl (by (try simp only [List.map_toArray, List.map_cons, List.map_nil]); first | done | rfl | (simp only [List.length_drop, List.length_take]; rfl)) ?_; (with_reducible refine (relievoref19_fine.calls a0_0 a0_1 a0_2 a1_0 a1_1 a1_2 true _ A8.out).mono ?_); rintro e w28 ⟨rfl, hb⟩; refine ⟨_, rfl, ?_⟩; replace BK290 := cB hb BK290; replace BK291 := cB hb BK291; replace BK292 := cB hb BK292; replace HB := Aside0.mk (below_step (by first | exact HB.out | (repeat (first | exact HB.out | apply pw_below_drewN | apply below_drew1 | apply below_alloc))) hb); (try clear hb); (try clear hb2); (try clear hk); (try clear hi); obtain ⟨hcz29_0, hcz29_1, hcz29_2⟩ := cells3 BK290.out; obtain ⟨hcz30_0, hcz30_1, hcz30_2⟩ := cells3 BK291.out) | (go_at_call 36; (with_reducible refine (relievoref02_Dot.calls a0_0 a0_1 a0_2 a1_0 a1_1 a1_2 t294 _ A25.out).mono ?_); rintro e w31 ⟨rfl, hb⟩; replace BK290 := cB hb BK290; replace BK291 := cB hb BK291; replace BK292 := cB hb BK292; replace HB := Aside0.mk (below_step (by first | exact HB.out | (repeat (first | exact HB.out | apply pw_below_drewN | apply below_drew1 | apply below_alloc))) hb); (try clear hb); (try clear hb2); (try clear hk); (try clear hi)))
   go_meet
   case rel => exact ⟨_, (decide (t294 ≥ 0)), (by first | rfl | (simp; done) | (simp [*]; done)), H', ⟨by first | omega | exact Nat.le_refl _⟩, ⟨BK290.out⟩, ⟨BK291.out⟩, ⟨BK292.out⟩, ⟨by first | exact HB.out | (repeat (first | exact HB.out | apply pw_below_drewN | apply below_drew1 | apply below_alloc))⟩⟩
  replace c9 := Bool.eq_false_iff.mpr c9
  subst c9
  have H1 : (relievoref19_Refract.j0 k a2 true a0_0 a0_1 a0_2 a1_0 a1_1 a1_2) = some (r1, r2, r3, r4) := by rw [if_neg (show ¬ (false = true) by decide)] at H; exact H
  clear H
  have H := H1
  clear H1
  have H' := Aside0.mk H
  clear H
  obtain ⟨hcz32_0, hcz32_1, hcz32_2⟩ := cells3 BK290.out
  obtain ⟨hcz33_0, hcz33_1, hcz33_2⟩ := cells3 BK291.out
  go_wp2_with (first | ((with_reducible refine gate_callee (f := 35) rfl ?_); refine goesL_ (some 18) rfl rfl Try.func35 (by kernel_rfl) rfl #[.agg #[.int .i64 a0_0, .int .i64 a0_1, .int .i64 a0_2], .agg #[.int .i64 a1_0, .int .i64 a1_1, .int .i64 a1_2]] rfl (by (try simp only [List.map_toArray, List.map_cons, List.map_nil]); first | done | rfl | (simp only [List.length_drop, List.length_take]; rfl)) ?_; (with_reducible refine (relievoref19_fine.calls a0_0 a0_1 a0_2 a1_0 a1_1 a1_2 false _ A8.out).mono ?_); rintro e w34 ⟨rfl, hb⟩; refine ⟨_, rfl, ?_⟩; replace BK290 := cB hb BK290; replace BK291 := cB hb BK291; replace BK292 := cB hb BK292; replace HB := Aside0.mk (below_step (by first | exact HB.out | (repeat (first | exact HB.out | apply pw_below_drewN | apply below_drew1 | apply below_alloc))) hb); (try clear hb); (try clear hb2); (try clear hk); (try clear hi)))
  go_meet
  case rel => exact ⟨_, (true), (by first | rfl | (simp; done) | (simp [*]; done)), H', ⟨by first | omega | exact Nat.le_refl _⟩, ⟨BK290.out⟩, ⟨BK291.out⟩, ⟨BK292.out⟩, ⟨by first | exact HB.out | (repeat (first | exact HB.out | apply pw_below_drewN | apply below_drew1 | apply below_alloc))⟩⟩
 clear HC4
 obtain ⟨kq, x38_3, rfl, HA, HJ3, BK290, BK291, BK292, HB⟩ := hcut
 cases kq with
 | zero => exact absurd HA.out (by simp [relievoref19_Refract.j0])
 | succ kj3 =>
  have H := HA.out
  clear HA
  simp only [relievoref19_Refract.j0] at H
  by_cases c35 : x38_3 = true
  ·subst c35
   have H1 : (some (0, 0, 0, false)) = some (r1, r2, r3, r4) := by rw [if_pos rfl] at H; exact H
   clear H
   have H := H1
   clear H1
   simp only [Option.some.injEq, Prod.mk.injEq] at H
   obtain ⟨rfl, rfl, rfl, rfl⟩ := H
   have hnb36 := NB292_290.out
   have hnc36 := NB290_292.out
   have hnb37 := NB292_291.out
   have hnc37 := NB291_292.out
   obtain ⟨hcz38_0, hcz38_1, hcz38_2⟩ := cells3 BK292.out
   have hfz38_0 := blk_frozen BK292.out 0
   have hfz38_1 := blk_frozen BK292.out 1
   have hfz38_2 := blk_frozen BK292.out 2
   go_wp2
   refine bodyPost_ret (results_ct rfl _ _ gb292 26 #[.int .i64 0, .int .i64 0, .int .i64 0] (0, 0) _ rfl ((blk_put (cs' := #[.int .i64 0, .int .i64 0, .int .i64 0]) (blk_put (blk_put BK292.out 0 _ rfl) 1 _ rfl) 2 _ rfl)) Try.underlying26 rfl (by kernel_rfl)) rfl ?_
   exact ⟨by first | rfl | (simp [errW_none, errW_some] <;> rfl) | (simp [*, errW_none, errW_some] <;> rfl), by first | exact (below_set (below_set (below_set HB.out GE292.out) GE292.out) GE292.out) | exact (below_set (below_set (below_set (pw_below_drewN HB.out _) GE292.out) GE292.out) GE292.out) | (repeat (first | exact (below_set (below_set (below_set HB.out GE292.out) GE292.out) GE292.out) | apply pw_below_drewN | apply below_drew1 | apply below_alloc))⟩
  replace c35 := Bool.eq_false_iff.mpr c35
  subst c35
  have H1 : ((relievoref19_unit.f a0_0 a0_1 a0_2).bind fun bt295 => ((relievoref19_unit.f a1_0 a1_1 a1_2).bind fun bt299 => ((relievoref02_Dot.f bt295.1 bt295.2.1 bt295.2.2 bt299.1 bt299.2.1 bt299.2.2).bind fun t303 => ((relievoref19_Floor.f t303 4096).bind fun t304 => ((relievoref19_Floor.f (wrap64 ((wrap64 (a2 * a2)) * (wrap64 (16777216 - (wrap64 ((wrap64 (-t304)) * (wrap64 (-t304)))))))) 65536).bind fun t305 => (if (wrap64 (16777216 - t305)) < 0 then (some (0, 0, 0, false)) else ((relievoref01_Mul.f (wrap64 (16777216 - t305)) 1).bind fun bt306 => ((relievoref01_Sqrt.f bt306.1 bt306.2).bind fun bt308 => ((relievoref19_Floor.f (wrap64 (a2 * (wrap64 (-t304)))) 256).bind fun t310 => ((relievoref19_Floor.f (wrap64 (a2 * bt295.1)) 256).bind fun t311 => ((relievoref19_Floor.f (wrap64 ((wrap64 (t310 - bt308.1)) * bt299.1)) 4096).bind fun t312 => ((relievoref19_Floor.f (wrap64 (a2 * bt295.2.1)) 256).bind fun t313 => ((relievoref19_Floor.f (wrap64 ((wrap64 (t310 - bt308.1)) * bt299.2.1)) 4096).bind fun t314 => ((relievoref19_Floor.f (wrap64 (a2 * bt295.2.2)) 256).bind fun t315 => ((relievoref19_Floor.f (wrap64 ((wrap64 (t310 - bt308.1)) * bt299.2.2)) 4096).bind fun t316 => ((relievoref02_Cut.f kj3 (wrap64 (t311 + t312)) (wrap64 (t313 + t314)) (wrap64 (t315 + t316)) 32768).bind fun bt317 => (some (bt317.1, bt317.2.1, bt317.2.2, (!(bt317.1 == 0) || (!(bt317.2.1 == 0) || (!(bt317.2.2 == 0)))))))))))))))))))))) = some (r1, r2, r3, r4) := by rw [if_neg (show ¬ (false = true) by decide)] at H; exact H
  clear H
  have H := H1
  clear H1
  replace H := Option.bind_eq_some_iff.mp H
  obtain ⟨⟨t295, t296, t297⟩, A390, H⟩ := H
  replace H : ((relievoref19_unit.f a1_0 a1_1 a1_2).bind fun bt299 => ((relievoref02_Dot.f t295 t296 t297 bt299.1 bt299.2.1 bt299.2.2).bind fun t303 => ((relievoref19_Floor.f t303 4096).bind fun t304 => ((relievoref19_Floor.f (wrap64 ((wrap64 (a2 * a2)) * (wrap64 (16777216 - (wrap64 ((wrap64 (-t304)) * (wrap64 (-t304)))))))) 65536).bind fun t305 => (if (wrap64 (16777216 - t305)) < 0 then (some (0, 0, 0, false)) else ((relievoref01_Mul.f (wrap64 (16777216 - t305)) 1).bind fun bt306 => ((relievoref01_Sqrt.f bt306.1 bt306.2).bind fun bt308 => ((relievoref19_Floor.f (wrap64 (a2 * (wrap64 (-t304)))) 256).bind fun t310 => ((relievoref19_Floor.f (wrap64 (a2 * t295)) 256).bind fun t311 => ((relievoref19_Floor.f (wrap64 ((wrap64 (t310 - bt308.1)) * bt299.1)) 4096).bind fun t312 => ((relievoref19_Floor.f (wrap64 (a2 * t296)) 256).bind fun t313 => ((relievoref19_Floor.f (wrap64 ((wrap64 (t310 - bt308.1)) * bt299.2.1)) 4096).bind fun t314 => ((relievoref19_Floor.f (wrap64 (a2 * t297)) 256).bind fun t315 => ((relievoref19_Floor.f (wrap64 ((wrap64 (t310 - bt308.1)) * bt299.2.2)) 4096).bind fun t316 => ((relievoref02_Cut.f kj3 (wrap64 (t311 + t312)) (wrap64 (t313 + t314)) (wrap64 (t315 + t316)) 32768).bind fun bt317 => (some (bt317.1, bt317.2.1, bt317.2.2, (!(bt317.1 == 0) || (!(bt317.2.1 == 0) || (!(bt317.2.2 == 0))))))))))))))))))))) = some (r1, r2, r3, r4) := H
  have A39 := Aside0.mk A390
  clear A390
  replace H := Option.bind_eq_some_iff.mp H
  obtain ⟨⟨t299, t300, t301⟩, A400, H⟩ := H
  replace H : ((relievoref02_Dot.f t295 t296 t297 t299 t300 t301).bind fun t303 => ((relievoref19_Floor.f t303 4096).bind fun t304 => ((relievoref19_Floor.f (wrap64 ((wrap64 (a2 * a2)) * (wrap64 (16777216 - (wrap64 ((wrap64 (-t304)) * (wrap64 (-t304)))))))) 65536).bind fun t305 => (if (wrap64 (16777216 - t305)) < 0 then (some (0, 0, 0, false)) else ((relievoref01_Mul.f (wrap64 (16777216 - t305)) 1).bind fun bt306 => ((relievoref01_Sqrt.f bt306.1 bt306.2).bind fun bt308 => ((relievoref19_Floor.f (wrap64 (a2 * (wrap64 (-t304)))) 256).bind fun t310 => ((relievoref19_Floor.f (wrap64 (a2 * t295)) 256).bind fun t311 => ((relievoref19_Floor.f (wrap64 ((wrap64 (t310 - bt308.1)) * t299)) 4096).bind fun t312 => ((relievoref19_Floor.f (wrap64 (a2 * t296)) 256).bind fun t313 => ((relievoref19_Floor.f (wrap64 ((wrap64 (t310 - bt308.1)) * t300)) 4096).bind fun t314 => ((relievoref19_Floor.f (wrap64 (a2 * t297)) 256).bind fun t315 => ((relievoref19_Floor.f (wrap64 ((wrap64 (t310 - bt308.1)) * t301)) 4096).bind fun t316 => ((relievoref02_Cut.f kj3 (wrap64 (t311 + t312)) (wrap64 (t313 + t314)) (wrap64 (t315 + t316)) 32768).bind fun bt317 => (some (bt317.1, bt317.2.1, bt317.2.2, (!(bt317.1 == 0) || (!(bt317.2.1 == 0) || (!(bt317.2.2 == 0)))))))))))))))))))) = some (r1, r2, r3, r4) := H
  have A40 := Aside0.mk A400
  clear A400
  replace H := Option.bind_eq_some_iff.mp H
  obtain ⟨t303, A410, H⟩ := H
  replace H : ((relievoref19_Floor.f t303 4096).bind fun t304 => ((relievoref19_Floor.f (wrap64 ((wrap64 (a2 * a2)) * (wrap64 (16777216 - (wrap64 ((wrap64 (-t304)) * (wrap64 (-t304)))))))) 65536).bind fun t305 => (if (wrap64 (16777216 - t305)) < 0 then (some (0, 0, 0, false)) else ((relievoref01_Mul.f (wrap64 (16777216 - t305)) 1).bind fun bt306 => ((relievoref01_Sqrt.f bt306.1 bt306.2).bind fun bt308 => ((relievoref19_Floor.f (wrap64 (a2 * (wrap64 (-t304)))) 256).bind fun t310 => ((relievoref19_Floor.f (wrap64 (a2 * t295)) 256).bind fun t311 => ((relievoref19_Floor.f (wrap64 ((wrap64 (t310 - bt308.1)) * t299)) 4096).bind fun t312 => ((relievoref19_Floor.f (wrap64 (a2 * t296)) 256).bind fun t313 => ((relievoref19_Floor.f (wrap64 ((wrap64 (t310 - bt308.1)) * t300)) 4096).bind fun t314 => ((relievoref19_Floor.f (wrap64 (a2 * t297)) 256).bind fun t315 => ((relievoref19_Floor.f (wrap64 ((wrap64 (t310 - bt308.1)) * t301)) 4096).bind fun t316 => ((relievoref02_Cut.f kj3 (wrap64 (t311 + t312)) (wrap64 (t313 + t314)) (wrap64 (t315 + t316)) 32768).bind fun bt317 => (some (bt317.1, bt317.2.1, bt317.2.2, (!(bt317.1 == 0) || (!(bt317.2.1 == 0) || (!(bt317.2.2 == 0))))))))))))))))))) = some (r1, r2, r3, r4) := H
  have A41 := Aside0.mk A410
  clear A410
  replace H := Option.bind_eq_some_iff.mp H
  obtain ⟨t304, A420, H⟩ := H
  replace H : ((relievoref19_Floor.f (wrap64 ((wrap64 (a2 * a2)) * (wrap64 (16777216 - (wrap64 ((wrap64 (-t304)) * (wrap64 (-t304)))))))) 65536).bind fun t305 => (if (wrap64 (16777216 - t305)) < 0 then (some (0, 0, 0, false)) else ((relievoref01_Mul.f (wrap64 (16777216 - t305)) 1).bind fun bt306 => ((relievoref01_Sqrt.f bt306.1 bt306.2).bind fun bt308 => ((relievoref19_Floor.f (wrap64 (a2 * (wrap64 (-t304)))) 256).bind fun t310 => ((relievoref19_Floor.f (wrap64 (a2 * t295)) 256).bind fun t311 => ((relievoref19_Floor.f (wrap64 ((wrap64 (t310 - bt308.1)) * t299)) 4096).bind fun t312 => ((relievoref19_Floor.f (wrap64 (a2 * t296)) 256).bind fun t313 => ((relievoref19_Floor.f (wrap64 ((wrap64 (t310 - bt308.1)) * t300)) 4096).bind fun t314 => ((relievoref19_Floor.f (wrap64 (a2 * t297)) 256).bind fun t315 => ((relievoref19_Floor.f (wrap64 ((wrap64 (t310 - bt308.1)) * t301)) 4096).bind fun t316 => ((relievoref02_Cut.f kj3 (wrap64 (t311 + t312)) (wrap64 (t313 + t314)) (wrap64 (t315 + t316)) 32768).bind fun bt317 => (some (bt317.1, bt317.2.1, bt317.2.2, (!(bt317.1 == 0) || (!(bt317.2.1 == 0) || (!(bt317.2.2 == 0)))))))))))))))))) = some (r1, r2, r3, r4) := H
  have A42 := Aside0.mk A420
  clear A420
  replace H := Option.bind_eq_some_iff.mp H
  obtain ⟨t305, A430, H⟩ := H
  replace H : (if (wrap64 (16777216 - t305)) < 0 then (some (0, 0, 0, false)) else ((relievoref01_Mul.f (wrap64 (16777216 - t305)) 1).bind fun bt306 => ((relievoref01_Sqrt.f bt306.1 bt306.2).bind fun bt308 => ((relievoref19_Floor.f (wrap64 (a2 * (wrap64 (-t304)))) 256).bind fun t310 => ((relievoref19_Floor.f (wrap64 (a2 * t295)) 256).bind fun t311 => ((relievoref19_Floor.f (wrap64 ((wrap64 (t310 - bt308.1)) * t299)) 4096).bind fun t312 => ((relievoref19_Floor.f (wrap64 (a2 * t296)) 256).bind fun t313 => ((relievoref19_Floor.f (wrap64 ((wrap64 (t310 - bt308.1)) * t300)) 4096).bind fun t314 => ((relievoref19_Floor.f (wrap64 (a2 * t297)) 256).bind fun t315 => ((relievoref19_Floor.f (wrap64 ((wrap64 (t310 - bt308.1)) * t301)) 4096).bind fun t316 => ((relievoref02_Cut.f kj3 (wrap64 (t311 + t312)) (wrap64 (t313 + t314)) (wrap64 (t315 + t316)) 32768).bind fun bt317 => (some (bt317.1, bt317.2.1, bt317.2.2, (!(bt317.1 == 0) || (!(bt317.2.1 == 0) || (!(bt317.2.2 == 0))))))))))))))))) = some (r1, r2, r3, r4) := H
  have A43 := Aside0.mk A430
  clear A430
  by_cases c44 : (wrap64 (16777216 - t305)) < 0
  ·rw [if_pos c44] at H
   have c44b0 : decide ((wrap64 (16777216 - t305)) < 0) = true := decide_eq_true c44
   clear c44
   simp only [Option.some.injEq, Prod.mk.injEq] at H
   obtain ⟨rfl, rfl, rfl, rfl⟩ := H
   have hnb45 := NB290_292.out
   have hnc45 := NB292_290.out
   obtain ⟨hcz46_0, hcz46_1, hcz46_2⟩ := cells3 BK290.out
   go_wp2_with (first | ((with_reducible refine gate_callee (f := 37) rfl ?_); refine goesL_ (some 41) rfl rfl Try.func37 (by kernel_rfl) rfl #[.agg #[.int .i64 a0_0, .int .i64 a0_1, .int .i64 a0_2]] rfl (by (try simp only [List.map_toArray, List.map_cons, List.map_nil]); first | done | rfl | (simp only [List.length_drop, List.length_take]; rfl)) ?_; (with_reducible refine (relievoref19_unit.calls a0_0 a0_1 a0_2 t295 t296 t297 _ A39.out).mono ?_); rintro e w47 ⟨rfl, hb⟩; refine ⟨_, rfl, ?_⟩; replace BK290 := cB hb BK290; replace BK291 := cB hb BK291; replace BK292 := cB hb BK292; replace HB := Aside0.mk (below_step (by first | exact HB.out | (repeat (first | exact HB.out | apply pw_below_drewN | apply below_drew1 | apply below_alloc))) hb); (try clear hb); (try clear hb2); (try clear hk); (try clear hi)) | ((with_reducible refine gate_dst (N := 8) rfl ?_); refine box_event ?hg (N := 8) ?hd (cs := #[.int .i64 0, .int .i64 0, .int .i64 0]) (t := 26) ?hr ?_; (case hd => rfl); (case hg => rfl); (case hr => first | (go_simp; done) | (go_simp; rfl)); intro gb298 hg w48 hbox hb; have BK298 := Aside0.mk (hbox); have GE298 := Aside0.mk (bG hg (by first | exact HB.out | (repeat (first | exact HB.out | apply pw_below_drewN | apply below_drew1 | apply below_alloc)))); have NB290_298 := cN hg BK290; have NB298_290 := cM hg BK290; have NB291_298 := cN hg BK291; have NB298_291 := cM hg BK291; have NB292_298 := cN hg BK292; have NB298_292 := cM hg BK292; replace BK290 := cB hb BK290; replace BK291 := cB hb BK291; replace BK292 := cB hb BK292; replace HB := Aside0.mk (below_step (by first | exact HB.out | (repeat (first | exact HB.out | apply pw_below_drewN | apply below_drew1 | apply below_alloc))) hb); clear hb hbox hg; have hnb49 := NB298_290.out; have hnc49 := NB290_298.out; have hnb50 := NB298_291.out; have hnc50 := NB291_298.out; have hnb51 := NB298_292.out; have hnc51 := NB292_298.out; obtain ⟨hcz52_0, hcz52_1, hcz52_2⟩ := cells3 BK298.out; have hfz52_0 := blk_frozen BK298.out 0; have hfz52_1 := blk_frozen BK298.out 1; have hfz52_2 := blk_frozen BK298.out 2; have hnb53 := NB291_292.out; have hnc53 := NB292_291.out; obtain ⟨hcz54_0, hcz54_1, hcz54_2⟩ := cells3 BK291.out) | ((with_reducible refine gate_callee (f := 37) rfl ?_); refine goesL_ (some 43) rfl rfl Try.func37 (by kernel_rfl) rfl #[.agg #[.int .i64 a1_0, .int .i64 a1_1, .int .i64 a1_2]] rfl (by (try simp only [List.map_toArray, List.map_cons, List.map_nil]); first | done | rfl | (simp only [List.length_drop, List.length_take]; rfl)) ?_; (with_reducible refine (relievoref19_unit.calls a1_0 a1_1 a1_2 t299 t300 t301 _ A40.out).mono ?_); rintro e w55 ⟨rfl, hb⟩; refine ⟨_, rfl, ?_⟩; replace BK291 := Aside0.mk (bB hb ((blk_far (blk_far (blk_far BK291.out NB291_298.out _) NB291_298.out _) NB291_298.out _))); replace BK292 := Aside0.mk (bB hb ((blk_far (blk_far (blk_far BK292.out NB292_298.out _) NB292_298.out _) NB292_298.out _))); replace BK298 := Aside0.mk (bB hb ((blk_put (cs' := #[.int .i64 t295, .int .i64 t296, .int .i64 t297]) (blk_put (blk_put BK298.out 0 _ rfl) 1 _ rfl) 2 _ rfl))); replace HB := Aside0.mk (below_step (by first | exact (below_set (below_set (below_set HB.out GE298.out) GE298.out) GE298.out) | exact (below_set (below_set (below_set (pw_below_drewN HB.out _) GE298.out) GE298.out) GE298.out) | (repeat (first | exact (below_set (below_set (below_set HB.out GE298.out) GE298.out) GE298.out) | apply pw_below_drewN | apply below_drew1 | apply below_alloc))) hb); (try clear hb); (try clear hb2); (try clear hk); (try clear hi)) | ((with_reducible refine gate_dst (N := 9) rfl ?_); refine box_event ?hg (N := 9) ?hd (cs := #[.int .i64 0, .int .i64 0, .int .i64 0]) (t := 26) ?hr ?_; (case hd => rfl); (case hg => rfl); (case hr => first | (go_simp; done) | (go_simp; rfl)); intro gb302 hg w56 hbox hb; have BK302 := Aside0.mk (hbox); have GE302 := Aside0.mk (bG hg (by first | exact HB.out | (repeat (first | exact HB.out | apply pw_below_drewN | apply below_drew1 | apply below_alloc)))); have NB291_302 := cN hg BK291; have NB302_291 := cM hg BK291; have NB292_302 := cN hg BK292; have NB302_292 := cM hg BK292; have NB298_302 := cN hg BK298; have NB302_298 := cM hg BK298; replace BK291 := cB hb BK291; replace BK292 := cB hb BK292; replace BK298 := cB hb BK298; replace HB := Aside0.mk (below_step (by first | exact HB.out | (repeat (first | exact HB.out | apply pw_below_drewN | apply below_drew1 | apply below_alloc))) hb); clear hb hbox hg; have hnb57 := NB302_291.out; have hnc57 := NB291_302.out; have hnb58 := NB302_292.out; have hnc58 := NB292_302.out; have hnb59 := NB302_298.out; have hnc59 := NB298_302.out; obtain ⟨hcz60_0, hcz60_1, hcz60_2⟩ := cells3 BK302.out; have hfz60_0 := blk_frozen BK302.out 0; have hfz60_1 := blk_frozen BK302.out 1; have hfz60_2 := blk_frozen BK302.out 2; obtain ⟨hcz61_0, hcz61_1, hcz61_2⟩ := cells3 BK298.out; have hfz61_0 := blk_frozen BK298.out 0; have hfz61_1 := blk_frozen BK298.out 1; have hfz61_2 := blk_frozen BK298.out 2) | ((with_reducible refine gate_callee (f := 36) rfl ?_); refine goesL_ (some 46) rfl rfl Try.func36 (by kernel_rfl) rfl #[.agg #[.int .i64 t295, .int .i64 t296, .int .i64 t297], .agg #[.int .i64 t299, .int .i64 t300, .int .i64 t301]] rfl (by (try simp only [List.map_toArray, List.map_cons, List.map_nil]); first | done | rfl | (simp only [List.length_drop, List.length_take]; rfl)) ?_; (with_reducible refine (relievoref02_Dot.calls t295 t296 t297 t299 t300 t301 t303 _ A41.out).mono ?_); rintro e w62 ⟨rfl, hb⟩; refine ⟨_, rfl, ?_⟩; replace BK292 := Aside0.mk (bB hb ((blk_far (blk_far (blk_far BK292.out NB292_302.out _) NB292_302.out _) NB292_302.out _))); replace BK298 := Aside0.mk (bB hb ((blk_far (blk_far (blk_far BK298.out NB298_302.out _) NB298_302.out _) NB298_302.out _))); replace BK302 := Aside0.mk (bB hb ((blk_put (cs' := #[.int .i64 t299, .int .i64 t300, .int .i64 t301]) (blk_put (blk_put BK302.out 0 _ rfl) 1 _ rfl) 2 _ rfl))); replace HB := Aside0.mk (below_step (by first | exact (below_set (below_set (below_set HB.out GE302.out) GE302.out) GE302.out) | exact (below_set (below_set (below_set (pw_below_drewN HB.out _) GE302.out) GE302.out) GE302.out) | (repeat (first | exact (below_set (below_set (below_set HB.out GE302.out) GE302.out) GE302.out) | apply pw_below_drewN | apply below_drew1 | apply below_alloc))) hb); (try clear hb); (try clear hb2); (try clear hk); (try clear hi)) | ((with_reducible refine gate_callee (f := 38) rfl ?_); refine goesL_ (some 47) rfl rfl Try.func38 (by kernel_rfl) rfl #[.int .i64 t303, .int .i64 4096] rfl (by (try simp only [List.map_toArray, List.map_cons, List.map_nil]); first | done | rfl | (simp only [List.length_drop, List.length_take]; rfl)) ?_; (with_reducible refine (relievoref19_Floor.calls t303 4096 t304 _ A42.out).mono ?_); rintro e w' ⟨rfl, ⟨nd, rfl⟩⟩; refine ⟨_, rfl, ?_⟩; (try (rw [drewN_self w62]; generalize hq_ : World.drewN w62 _ = w62; have n0_ : Aside0 (w62.heap[gb292]? = some (.cells #[.int .i64 0, .int .i64 0, .int .i64 0] 26 (0, 0))) := ⟨by rw [← hq_]; exact (BK292.out)⟩; have n1_ : Aside0 (w62.heap[gb298]? = some (.cells #[.int .i64 t295, .int .i64 t296, .int .i64 t297] 26 (0, 0))) := ⟨by rw [← hq_]; exact (BK298.out)⟩; have n2_ : Aside0 (w62.heap[gb302]? = some (.cells #[.int .i64 t299, .int .i64 t300, .int .i64 t301] 26 (0, 0))) := ⟨by rw [← hq_]; exact (BK302.out)⟩; have n3_ : Aside0 (Below w.heap.size w w62) := ⟨by rw [← hq_]; exact (by first | exact HB.out | (repeat (first | exact HB.out | apply pw_below_drewN | apply below_drew1 | apply below_alloc)))⟩; clear BK292 BK298 BK302 HB hq_; have BK292 := n0_; have BK298 := n1_; have BK302 := n2_; have HB := n3_; clear n0_ n1_ n2_ n3_))) | ((with_reducible refine gate_callee (f := 38) rfl ?_); refine goesL_ (some 57) rfl rfl Try.func38 (by kernel_rfl) rfl #[.int .i64 (wrap64 ((wrap64 (a2 * a2)) * (wrap64 (16777216 - (wrap64 ((wrap64 (-t304)) * (wrap64 (-t304)))))))), .int .i64 65536] rfl (by (try simp only [List.map_toArray, List.map_cons, List.map_nil]); first | done | rfl | (simp only [List.length_drop, List.length_take]; rfl)) ?_; (with_reducible refine (relievoref19_Floor.calls (wrap64 ((wrap64 (a2 * a2)) * (wrap64 (16777216 - (wrap64 ((wrap64 (-t304)) * (wrap64 (-t304)))))))) 65536 t305 _ A43.out).mono ?_); rintro e w' ⟨rfl, ⟨nd, rfl⟩⟩; refine ⟨_, rfl, ?_⟩; (try (rw [drewN_self w62]; generalize hq_ : World.drewN w62 _ = w62; have n0_ : Aside0 (w62.heap[gb292]? = some (.cells #[.int .i64 0, .int .i64 0, .int .i64 0] 26 (0, 0))) := ⟨by rw [← hq_]; exact (BK292.out)⟩; have n1_ : Aside0 (w62.heap[gb298]? = some (.cells #[.int .i64 t295, .int .i64 t296, .int .i64 t297] 26 (0, 0))) := ⟨by rw [← hq_]; exact (BK298.out)⟩; have n2_ : Aside0 (w62.heap[gb302]? = some (.cells #[.int .i64 t299, .int .i64 t300, .int .i64 t301] 26 (0, 0))) := ⟨by rw [← hq_]; exact (BK302.out)⟩; have n3_ : Aside0 (Below w.heap.size w w62) := ⟨by rw [← hq_]; exact (by first | exact HB.out | (repeat (first | exact HB.out | apply pw_below_drewN | apply below_drew1 | apply below_alloc)))⟩; clear BK292 BK298 BK302 HB hq_; have BK292 := n0_; have BK298 := n1_; have BK302 := n2_; have HB := n3_; clear n0_ n1_ n2_ n3_)); obtain ⟨hcz63_0, hcz63_1, hcz63_2⟩ := cells3 BK292.out; have hfz63_0 := blk_frozen BK292.out 0; have hfz63_1 := blk_frozen BK292.out 1; have hfz63_2 := blk_frozen BK292.out 2))
   refine bodyPost_ret (results_ct rfl _ _ gb292 26 #[.int .i64 0, .int .i64 0, .int .i64 0] (0, 0) _ rfl ((blk_put (cs' := #[.int .i64 0, .int .i64 0, .int .i64 0]) (blk_put (blk_put BK292.out 0 _ rfl) 1 _ rfl) 2 _ rfl)) Try.underlying26 rfl (by kernel_rfl)) rfl ?_
   exact ⟨by first | rfl | (simp [errW_none, errW_some] <;> rfl) | (simp [*, errW_none, errW_some] <;> rfl), by first | exact (below_set (below_set (below_set HB.out GE292.out) GE292.out) GE292.out) | exact (below_set (below_set (below_set (pw_below_drewN HB.out _) GE292.out) GE292.out) GE292.out) | (repeat (first | exact (below_set (below_set (below_set HB.out GE292.out) GE292.out) GE292.out) | apply pw_below_drewN | apply below_drew1 | apply below_alloc))⟩
  rw [if_neg c44] at H
  have c44b0 : decide ((wrap64 (16777216 - t305)) < 0) = false := decide_eq_false c44
  clear c44
  replace H := Option.bind_eq_some_iff.mp H
  obtain ⟨⟨t306, t307⟩, A640, H⟩ := H
  replace H : ((relievoref01_Sqrt.f t306 t307).bind fun bt308 => ((relievoref19_Floor.f (wrap64 (a2 * (wrap64 (-t304)))) 256).bind fun t310 => ((relievoref19_Floor.f (wrap64 (a2 * t295)) 256).bind fun t311 => ((relievoref19_Floor.f (wrap64 ((wrap64 (t310 - bt308.1)) * t299)) 4096).bind fun t312 => ((relievoref19_Floor.f (wrap64 (a2 * t296)) 256).bind fun t313 => ((relievoref19_Floor.f (wrap64 ((wrap64 (t310 - bt308.1)) * t300)) 4096).bind fun t314 => ((relievoref19_Floor.f (wrap64 (a2 * t297)) 256).bind fun t315 => ((relievoref19_Floor.f (wrap64 ((wrap64 (t310 - bt308.1)) * t301)) 4096).bind fun t316 => ((relievoref02_Cut.f kj3 (wrap64 (t311 + t312)) (wrap64 (t313 + t314)) (wrap64 (t315 + t316)) 32768).bind fun bt317 => (some (bt317.1, bt317.2.1, bt317.2.2, (!(bt317.1 == 0) || (!(bt317.2.1 == 0) || (!(bt317.2.2 == 0))))))))))))))) = some (r1, r2, r3, r4) := H
  have A64 := Aside0.mk A640
  clear A640
  replace H := Option.bind_eq_some_iff.mp H
  obtain ⟨⟨t308, t309⟩, A650, H⟩ := H
  replace H : ((relievoref19_Floor.f (wrap64 (a2 * (wrap64 (-t304)))) 256).bind fun t310 => ((relievoref19_Floor.f (wrap64 (a2 * t295)) 256).bind fun t311 => ((relievoref19_Floor.f (wrap64 ((wrap64 (t310 - t308)) * t299)) 4096).bind fun t312 => ((relievoref19_Floor.f (wrap64 (a2 * t296)) 256).bind fun t313 => ((relievoref19_Floor.f (wrap64 ((wrap64 (t310 - t308)) * t300)) 4096).bind fun t314 => ((relievoref19_Floor.f (wrap64 (a2 * t297)) 256).bind fun t315 => ((relievoref19_Floor.f (wrap64 ((wrap64 (t310 - t308)) * t301)) 4096).bind fun t316 => ((relievoref02_Cut.f kj3 (wrap64 (t311 + t312)) (wrap64 (t313 + t314)) (wrap64 (t315 + t316)) 32768).bind fun bt317 => (some (bt317.1, bt317.2.1, bt317.2.2, (!(bt317.1 == 0) || (!(bt317.2.1 == 0) || (!(bt317.2.2 == 0)))))))))))))) = some (r1, r2, r3, r4) := H
  have A65 := Aside0.mk A650
  clear A650
  replace H := Option.bind_eq_some_iff.mp H
  obtain ⟨t310, A660, H⟩ := H
  replace H : ((relievoref19_Floor.f (wrap64 (a2 * t295)) 256).bind fun t311 => ((relievoref19_Floor.f (wrap64 ((wrap64 (t310 - t308)) * t299)) 4096).bind fun t312 => ((relievoref19_Floor.f (wrap64 (a2 * t296)) 256).bind fun t313 => ((relievoref19_Floor.f (wrap64 ((wrap64 (t310 - t308)) * t300)) 4096).bind fun t314 => ((relievoref19_Floor.f (wrap64 (a2 * t297)) 256).bind fun t315 => ((relievoref19_Floor.f (wrap64 ((wrap64 (t310 - t308)) * t301)) 4096).bind fun t316 => ((relievoref02_Cut.f kj3 (wrap64 (t311 + t312)) (wrap64 (t313 + t314)) (wrap64 (t315 + t316)) 32768).bind fun bt317 => (some (bt317.1, bt317.2.1, bt317.2.2, (!(bt317.1 == 0) || (!(bt317.2.1 == 0) || (!(bt317.2.2 == 0))))))))))))) = some (r1, r2, r3, r4) := H
  have A66 := Aside0.mk A660
  clear A660
  replace H := Option.bind_eq_some_iff.mp H
  obtain ⟨t311, A670, H⟩ := H
  replace H : ((relievoref19_Floor.f (wrap64 ((wrap64 (t310 - t308)) * t299)) 4096).bind fun t312 => ((relievoref19_Floor.f (wrap64 (a2 * t296)) 256).bind fun t313 => ((relievoref19_Floor.f (wrap64 ((wrap64 (t310 - t308)) * t300)) 4096).bind fun t314 => ((relievoref19_Floor.f (wrap64 (a2 * t297)) 256).bind fun t315 => ((relievoref19_Floor.f (wrap64 ((wrap64 (t310 - t308)) * t301)) 4096).bind fun t316 => ((relievoref02_Cut.f kj3 (wrap64 (t311 + t312)) (wrap64 (t313 + t314)) (wrap64 (t315 + t316)) 32768).bind fun bt317 => (some (bt317.1, bt317.2.1, bt317.2.2, (!(bt317.1 == 0) || (!(bt317.2.1 == 0) || (!(bt317.2.2 == 0)))))))))))) = some (r1, r2, r3, r4) := H
  have A67 := Aside0.mk A670
  clear A670
  replace H := Option.bind_eq_some_iff.mp H
  obtain ⟨t312, A680, H⟩ := H
  replace H : ((relievoref19_Floor.f (wrap64 (a2 * t296)) 256).bind fun t313 => ((relievoref19_Floor.f (wrap64 ((wrap64 (t310 - t308)) * t300)) 4096).bind fun t314 => ((relievoref19_Floor.f (wrap64 (a2 * t297)) 256).bind fun t315 => ((relievoref19_Floor.f (wrap64 ((wrap64 (t310 - t308)) * t301)) 4096).bind fun t316 => ((relievoref02_Cut.f kj3 (wrap64 (t311 + t312)) (wrap64 (t313 + t314)) (wrap64 (t315 + t316)) 32768).bind fun bt317 => (some (bt317.1, bt317.2.1, bt317.2.2, (!(bt317.1 == 0) || (!(bt317.2.1 == 0) || (!(bt317.2.2 == 0))))))))))) = some (r1, r2, r3, r4) := H
  have A68 := Aside0.mk A680
  clear A680
  replace H := Option.bind_eq_some_iff.mp H
  obtain ⟨t313, A690, H⟩ := H
  replace H : ((relievoref19_Floor.f (wrap64 ((wrap64 (t310 - t308)) * t300)) 4096).bind fun t314 => ((relievoref19_Floor.f (wrap64 (a2 * t297)) 256).bind fun t315 => ((relievoref19_Floor.f (wrap64 ((wrap64 (t310 - t308)) * t301)) 4096).bind fun t316 => ((relievoref02_Cut.f kj3 (wrap64 (t311 + t312)) (wrap64 (t313 + t314)) (wrap64 (t315 + t316)) 32768).bind fun bt317 => (some (bt317.1, bt317.2.1, bt317.2.2, (!(bt317.1 == 0) || (!(bt317.2.1 == 0) || (!(bt317.2.2 == 0)))))))))) = some (r1, r2, r3, r4) := H
  have A69 := Aside0.mk A690
  clear A690
  replace H := Option.bind_eq_some_iff.mp H
  obtain ⟨t314, A700, H⟩ := H
  replace H : ((relievoref19_Floor.f (wrap64 (a2 * t297)) 256).bind fun t315 => ((relievoref19_Floor.f (wrap64 ((wrap64 (t310 - t308)) * t301)) 4096).bind fun t316 => ((relievoref02_Cut.f kj3 (wrap64 (t311 + t312)) (wrap64 (t313 + t314)) (wrap64 (t315 + t316)) 32768).bind fun bt317 => (some (bt317.1, bt317.2.1, bt317.2.2, (!(bt317.1 == 0) || (!(bt317.2.1 == 0) || (!(bt317.2.2 == 0))))))))) = some (r1, r2, r3, r4) := H
  have A70 := Aside0.mk A700
  clear A700
  replace H := Option.bind_eq_some_iff.mp H
  obtain ⟨t315, A710, H⟩ := H
  replace H : ((relievoref19_Floor.f (wrap64 ((wrap64 (t310 - t308)) * t301)) 4096).bind fun t316 => ((relievoref02_Cut.f kj3 (wrap64 (t311 + t312)) (wrap64 (t313 + t314)) (wrap64 (t315 + t316)) 32768).bind fun bt317 => (some (bt317.1, bt317.2.1, bt317.2.2, (!(bt317.1 == 0) || (!(bt317.2.1 == 0) || (!(bt317.2.2 == 0)))))))) = some (r1, r2, r3, r4) := H
  have A71 := Aside0.mk A710
  clear A710
  replace H := Option.bind_eq_some_iff.mp H
  obtain ⟨t316, A720, H⟩ := H
  replace H : ((relievoref02_Cut.f kj3 (wrap64 (t311 + t312)) (wrap64 (t313 + t314)) (wrap64 (t315 + t316)) 32768).bind fun bt317 => (some (bt317.1, bt317.2.1, bt317.2.2, (!(bt317.1 == 0) || (!(bt317.2.1 == 0) || (!(bt317.2.2 == 0))))))) = some (r1, r2, r3, r4) := H
  have A72 := Aside0.mk A720
  clear A720
  replace H := Option.bind_eq_some_iff.mp H
  obtain ⟨⟨t317, t318, t319⟩, A730, H⟩ := H
  replace H : (some (t317, t318, t319, (!(t317 == 0) || (!(t318 == 0) || (!(t319 == 0)))))) = some (r1, r2, r3, r4) := H
  have A73 := Aside0.mk A730
  clear A730
  simp only [Option.some.injEq, Prod.mk.injEq] at H
  obtain ⟨rfl, rfl, rfl, rfl⟩ := H
  have hnb74 := NB290_292.out
  have hnc74 := NB292_290.out
  obtain ⟨hcz75_0, hcz75_1, hcz75_2⟩ := cells3 BK290.out
  try go_wp2_with (first | ((with_reducible refine gate_callee (f := 37) rfl ?_); refine goesL_ (some 41) rfl rfl Try.func37 (by kernel_rfl) rfl #[.agg #[.int .i64 a0_0, .int .i64 a0_1, .int .i64 a0_2]] rfl (by (try simp only [List.map_toArray, List.map_cons, List.map_nil]); first | done | rfl | (simp only [List.length_drop, List.length_take]; rfl)) ?_; (with_reducible refine (relievoref19_unit.calls a0_0 a0_1 a0_2 t295 t296 t297 _ A39.out).mono ?_); rintro e w76 ⟨rfl, hb⟩; refine ⟨_, rfl, ?_⟩; replace BK290 := cB hb BK290; replace BK291 := cB hb BK291; replace BK292 := cB hb BK292; replace HB := Aside0.mk (below_step (by first | exact HB.out | (repeat (first | exact HB.out | apply pw_below_drewN | apply below_drew1 | apply below_alloc))) hb); (try clear hb); (try clear hb2); (try clear hk); (try clear hi)) | ((with_reducible refine gate_dst (N := 8) rfl ?_); refine box_event ?hg (N := 8) ?hd (cs := #[.int .i64 0, .int .i64 0, .int .i64 0]) (t := 26) ?hr ?_; (case hd => rfl); (case hg => rfl); (case hr => first | (go_simp; done) | (go_simp; rfl)); intro gb298 hg w77 hbox hb; have BK298 := Aside0.mk (hbox); have GE298 := Aside0.mk (bG hg (by first | exact HB.out | (repeat (first | exact HB.out | apply pw_below_drewN | apply below_drew1 | apply below_alloc)))); have NB290_298 := cN hg BK290; have NB298_290 := cM hg BK290; have NB291_298 := cN hg BK291; have NB298_291 := cM hg BK291; have NB292_298 := cN hg BK292; have NB298_292 := cM hg BK292; replace BK290 := cB hb BK290; replace BK291 := cB hb BK291; replace BK292 := cB hb BK292; replace HB := Aside0.mk (below_step (by first | exact HB.out | (repeat (first | exact HB.out | apply pw_below_drewN | apply below_drew1 | apply below_alloc))) hb); clear hb hbox hg; have hnb78 := NB298_290.out; have hnc78 := NB290_298.out; have hnb79 := NB298_291.out; have hnc79 := NB291_298.out; have hnb80 := NB298_292.out; have hnc80 := NB292_298.out; obtain ⟨hcz81_0, hcz81_1, hcz81_2⟩ := cells3 BK298.out; have hfz81_0 := blk_frozen BK298.out 0; have hfz81_1 := blk_frozen BK298.out 1; have hfz81_2 := blk_frozen BK298.out 2; have hnb82 := NB291_292.out; have hnc82 := NB292_291.out; obtain ⟨hcz83_0, hcz83_1, hcz83_2⟩ := cells3 BK291.out) | ((with_reducible refine gate_callee (f := 37) rfl ?_); refine goesL_ (some 43) rfl rfl Try.func37 (by kernel_rfl) rfl #[.agg #[.int .i64 a1_0, .int .i64 a1_1, .int .i64 a1_2]] rfl (by (try simp only [List.map_toArray, List.map_cons, List.map_nil]); first | done | rfl | (simp only [List.length_drop, List.length_take]; rfl)) ?_; (with_reducible refine (relievoref19_unit.calls a1_0 a1_1 a1_2 t299 t300 t301 _ A40.out).mono ?_); rintro e w84 ⟨rfl, hb⟩; refine ⟨_, rfl, ?_⟩; replace BK291 := Aside0.mk (bB hb ((blk_far (blk_far (blk_far BK291.out NB291_298.out _) NB291_298.out _) NB291_298.out _))); replace BK292 := Aside0.mk (bB hb ((blk_far (blk_far (blk_far BK292.out NB292_298.out _) NB292_298.out _) NB292_298.out _))); replace BK298 := Aside0.mk (bB hb ((blk_put (cs' := #[.int .i64 t295, .int .i64 t296, .int .i64 t297]) (blk_put (blk_put BK298.out 0 _ rfl) 1 _ rfl) 2 _ rfl))); replace HB := Aside0.mk (below_step (by first | exact (below_set (below_set (below_set HB.out GE298.out) GE298.out) GE298.out) | exact (below_set (below_set (below_set (pw_below_drewN HB.out _) GE298.out) GE298.out) GE298.out) | (repeat (first | exact (below_set (below_set (below_set HB.out GE298.out) GE298.out) GE298.out) | apply pw_below_drewN | apply below_drew1 | apply below_alloc))) hb); (try clear hb); (try clear hb2); (try clear hk); (try clear hi)) | ((with_reducible refine gate_dst (N := 9) rfl ?_); refine box_event ?hg (N := 9) ?hd (cs := #[.int .i64 0, .int .i64 0, .int .i64 0]) (t := 26) ?hr ?_; (case hd => rfl); (case hg => rfl); (case hr => first | (go_simp; done) | (go_simp; rfl)); intro gb302 hg w85 hbox hb; have BK302 := Aside0.mk (hbox); have GE302 := Aside0.mk (bG hg (by first | exact HB.out | (repeat (first | exact HB.out | apply pw_below_drewN | apply below_drew1 | apply below_alloc)))); have NB291_302 := cN hg BK291; have NB302_291 := cM hg BK291; have NB292_302 := cN hg BK292; have NB302_292 := cM hg BK292; have NB298_302 := cN hg BK298; have NB302_298 := cM hg BK298; replace BK291 := cB hb BK291; replace BK292 := cB hb BK292; replace BK298 := cB hb BK298; replace HB := Aside0.mk (below_step (by first | exact HB.out | (repeat (first | exact HB.out | apply pw_below_drewN | apply below_drew1 | apply below_alloc))) hb); clear hb hbox hg; have hnb86 := NB302_291.out; have hnc86 := NB291_302.out; have hnb87 := NB302_292.out; have hnc87 := NB292_302.out; have hnb88 := NB302_298.out; have hnc88 := NB298_302.out; obtain ⟨hcz89_0, hcz89_1, hcz89_2⟩ := cells3 BK302.out; have hfz89_0 := blk_frozen BK302.out 0; have hfz89_1 := blk_frozen BK302.out 1; have hfz89_2 := blk_frozen BK302.out 2; obtain ⟨hcz90_0, hcz90_1, hcz90_2⟩ := cells3 BK298.out; have hfz90_0 := blk_frozen BK298.out 0; have hfz90_1 := blk_frozen BK298.out 1; have hfz90_2 := blk_frozen BK298.out 2) | ((with_reducible refine gate_callee (f := 36) rfl ?_); refine goesL_ (some 46) rfl rfl Try.func36 (by kernel_rfl) rfl #[.agg #[.int .i64 t295, .int .i64 t296, .int .i64 t297], .agg #[.int .i64 t299, .int .i64 t300, .int .i64 t301]] rfl (by (try simp only [List.map_toArray, List.map_cons, List.map_nil]); first | done | rfl | (simp only [List.length_drop, List.length_take]; rfl)) ?_; (with_reducible refine (relievoref02_Dot.calls t295 t296 t297 t299 t300 t301 t303 _ A41.out).mono ?_); rintro e w91 ⟨rfl, hb⟩; refine ⟨_, rfl, ?_⟩; replace BK292 := Aside0.mk (bB hb ((blk_far (blk_far (blk_far BK292.out NB292_302.out _) NB292_302.out _) NB292_302.out _))); replace BK298 := Aside0.mk (bB hb ((blk_far (blk_far (blk_far BK298.out NB298_302.out _) NB298_302.out _) NB298_302.out _))); replace BK302 := Aside0.mk (bB hb ((blk_put (cs' := #[.int .i64 t299, .int .i64 t300, .int .i64 t301]) (blk_put (blk_put BK302.out 0 _ rfl) 1 _ rfl) 2 _ rfl))); replace HB := Aside0.mk (below_step (by first | exact (below_set (below_set (below_set HB.out GE302.out) GE302.out) GE302.out) | exact (below_set (below_set (below_set (pw_below_drewN HB.out _) GE302.out) GE302.out) GE302.out) | (repeat (first | exact (below_set (below_set (below_set HB.out GE302.out) GE302.out) GE302.out) | apply pw_below_drewN | apply below_drew1 | apply below_alloc))) hb); (try clear hb); (try clear hb2); (try clear hk); (try clear hi)) | ((with_reducible refine gate_callee (f := 38) rfl ?_); refine goesL_ (some 47) rfl rfl Try.func38 (by kernel_rfl) rfl #[.int .i64 t303, .int .i64 4096] rfl (by (try simp only [List.map_toArray, List.map_cons, List.map_nil]); first | done | rfl | (simp only [List.length_drop, List.length_take]; rfl)) ?_; (with_reducible refine (relievoref19_Floor.calls t303 4096 t304 _ A42.out).mono ?_); rintro e w' ⟨rfl, ⟨nd, rfl⟩⟩; refine ⟨_, rfl, ?_⟩; (try (rw [drewN_self w91]; generalize hq_ : World.drewN w91 _ = w91; have n0_ : Aside0 (w91.heap[gb292]? = some (.cells #[.int .i64 0, .int .i64 0, .int .i64 0] 26 (0, 0))) := ⟨by rw [← hq_]; exact (BK292.out)⟩; have n1_ : Aside0 (w91.heap[gb298]? = some (.cells #[.int .i64 t295, .int .i64 t296, .int .i64 t297] 26 (0, 0))) := ⟨by rw [← hq_]; exact (BK298.out)⟩; have n2_ : Aside0 (w91.heap[gb302]? = some (.cells #[.int .i64 t299, .int .i64 t300, .int .i64 t301] 26 (0, 0))) := ⟨by rw [← hq_]; exact (BK302.out)⟩; have n3_ : Aside0 (Below w.heap.size w w91) := ⟨by rw [← hq_]; exact (by first | exact HB.out | (repeat (first | exact HB.out | apply pw_below_drewN | apply below_drew1 | apply below_alloc)))⟩; clear BK292 BK298 BK302 HB hq_; have BK292 := n0_; have BK298 := n1_; have BK302 := n2_; have HB := n3_; clear n0_ n1_ n2_ n3_))) | ((with_reducible refine gate_callee (f := 38) rfl ?_); refine goesL_ (some 57) rfl rfl Try.func38 (by kernel_rfl) rfl #[.int .i64 (wrap64 ((wrap64 (a2 * a2)) * (wrap64 (16777216 - (wrap64 ((wrap64 (-t304)) * (wrap64 (-t304)))))))), .int .i64 65536] rfl (by (try simp only [List.map_toArray, List.map_cons, List.map_nil]); first | done | rfl | (simp only [List.length_drop, List.length_take]; rfl)) ?_; (with_reducible refine (relievoref19_Floor.calls (wrap64 ((wrap64 (a2 * a2)) * (wrap64 (16777216 - (wrap64 ((wrap64 (-t304)) * (wrap64 (-t304)))))))) 65536 t305 _ A43.out).mono ?_); rintro e w' ⟨rfl, ⟨nd, rfl⟩⟩; refine ⟨_, rfl, ?_⟩; (try (rw [drewN_self w91]; generalize hq_ : World.drewN w91 _ = w91; have n0_ : Aside0 (w91.heap[gb292]? = some (.cells #[.int .i64 0, .int .i64 0, .int .i64 0] 26 (0, 0))) := ⟨by rw [← hq_]; exact (BK292.out)⟩; have n1_ : Aside0 (w91.heap[gb298]? = some (.cells #[.int .i64 t295, .int .i64 t296, .int .i64 t297] 26 (0, 0))) := ⟨by rw [← hq_]; exact (BK298.out)⟩; have n2_ : Aside0 (w91.heap[gb302]? = some (.cells #[.int .i64 t299, .int .i64 t300, .int .i64 t301] 26 (0, 0))) := ⟨by rw [← hq_]; exact (BK302.out)⟩; have n3_ : Aside0 (Below w.heap.size w w91) := ⟨by rw [← hq_]; exact (by first | exact HB.out | (repeat (first | exact HB.out | apply pw_below_drewN | apply below_drew1 | apply below_alloc)))⟩; clear BK292 BK298 BK302 HB hq_; have BK292 := n0_; have BK298 := n1_; have BK302 := n2_; have HB := n3_; clear n0_ n1_ n2_ n3_))) | ((with_reducible refine gate_callee (f := 40) rfl ?_); refine goesL_ (some 64) rfl rfl Try.func40 (by kernel_rfl) rfl #[.int .i64 (wrap64 (16777216 - t305)), .int .i64 1] rfl (by (try simp only [List.map_toArray, List.map_cons, List.map_nil]); first | done | rfl | (simp only [List.length_drop, List.length_take]; rfl)) ?_; (with_reducible refine (relievoref01_Mul.calls (wrap64 (16777216 - t305)) 1 t306 t307 _ A64.out).mono ?_); rintro e w92 ⟨rfl, hb⟩; refine ⟨_, rfl, ?_⟩; replace BK292 := cB hb BK292; replace BK298 := cB hb BK298; replace BK302 := cB hb BK302; replace HB := Aside0.mk (below_step (by first | exact HB.out | (repeat (first | exact HB.out | apply pw_below_drewN | apply below_drew1 | apply below_alloc))) hb); (try clear hb); (try clear hb2); (try clear hk); (try clear hi)) | ((with_reducible refine gate_callee (f := 39) rfl ?_); refine goesL_ (some 65) rfl rfl Try.func39 (by kernel_rfl) rfl #[.agg #[.int .i64 t306, .int .u64 t307]] rfl (by (try simp only [List.map_toArray, List.map_cons, List.map_nil]); first | done | rfl | (simp only [List.length_drop, List.length_take]; rfl)) ?_; (with_reducible refine (relievoref01_Sqrt.calls t306 t307 t308 t309 _ A65.out).mono ?_); rintro e w93 ⟨rfl, hb⟩; refine ⟨_, rfl, ?_⟩; replace BK292 := cB hb BK292; replace BK298 := cB hb BK298; replace BK302 := cB hb BK302; replace HB := Aside0.mk (below_step (by first | exact HB.out | (repeat (first | exact HB.out | apply pw_below_drewN | apply below_drew1 | apply below_alloc))) hb); (try clear hb); (try clear hb2); (try clear hk); (try clear hi)) | ((with_reducible refine gate_callee (f := 38) rfl ?_); refine goesL_ (some 71) rfl rfl Try.func38 (by kernel_rfl) rfl #[.int .i64 (wrap64 (a2 * (wrap64 (-t304)))), .int .i64 256] rfl (by (try simp only [List.map_toArray, List.map_cons, List.map_nil]); first | done | rfl | (simp only [List.length_drop, List.length_take]; rfl)) ?_; (with_reducible refine (relievoref19_Floor.calls (wrap64 (a2 * (wrap64 (-t304)))) 256 t310 _ A66.out).mono ?_); rintro e w' ⟨rfl, ⟨nd, rfl⟩⟩; refine ⟨_, rfl, ?_⟩; (try (rw [drewN_self w93]; generalize hq_ : World.drewN w93 _ = w93; have n0_ : Aside0 (w93.heap[gb292]? = some (.cells #[.int .i64 0, .int .i64 0, .int .i64 0] 26 (0, 0))) := ⟨by rw [← hq_]; exact (BK292.out)⟩; have n1_ : Aside0 (w93.heap[gb298]? = some (.cells #[.int .i64 t295, .int .i64 t296, .int .i64 t297] 26 (0, 0))) := ⟨by rw [← hq_]; exact (BK298.out)⟩; have n2_ : Aside0 (w93.heap[gb302]? = some (.cells #[.int .i64 t299, .int .i64 t300, .int .i64 t301] 26 (0, 0))) := ⟨by rw [← hq_]; exact (BK302.out)⟩; have n3_ : Aside0 (Below w.heap.size w w93) := ⟨by rw [← hq_]; exact (by first | exact HB.out | (repeat (first | exact HB.out | apply pw_below_drewN | apply below_drew1 | apply below_alloc)))⟩; clear BK292 BK298 BK302 HB hq_; have BK292 := n0_; have BK298 := n1_; have BK302 := n2_; have HB := n3_; clear n0_ n1_ n2_ n3_))))
  replace BK292 := Aside0.mk (blk_drew BK292.out)
  replace BK298 := Aside0.mk (blk_drew BK298.out)
  replace BK302 := Aside0.mk (blk_drew BK302.out)
  replace HB := Aside0.mk (below_drew1 HB.out)
  refine start_ (n := 37) (S := fun w' => w'.cell? ⟨gb298, 0, none⟩ = some (.int .i64 t295) ∧ w'.cell? ⟨gb298, 1, none⟩ = some (.int .i64 t296) ∧ w'.cell? ⟨gb298, 2, none⟩ = some (.int .i64 t297) ∧ w'.cell? ⟨gb302, 0, none⟩ = some (.int .i64 t299) ∧ w'.cell? ⟨gb302, 1, none⟩ = some (.int .i64 t300) ∧ w'.cell? ⟨gb302, 2, none⟩ = some (.int .i64 t301)) (ds := []) #[false, false, false, false, false, false, false, false, false, false, false, false, false, false, false, false, false, false, false, false, false, false, false, false, false, false, false, false, false, false, false, false, false, false, false, false, false] (by kernel_rfl) rfl rfl ⟨(blk_cell BK298.out 0).trans rfl, (blk_cell BK298.out 1).trans rfl, (blk_cell BK298.out 2).trans rfl, (blk_cell BK302.out 0).trans rfl, (blk_cell BK302.out 1).trans rfl, (blk_cell BK302.out 2).trans rfl⟩ (fun hHeld => ?_); refine with_tabW relievoref19_Refract.tab11 relievoref19_Refract.bits11 (fun HT_ HW_ => ?_)
  generalize w93.drew = w94 at BK292 BK298 BK302 HB hHeld ⊢
  refine pure_ (i := 0) (N := some 74) (v := ?_) (a' := ?_) (bm 37 1) rfl rfl (any_of HT_.out (by kernel_rfl)) (fun _ _ _ h => h) (Or.inl ⟨by rfl, ?_⟩) ?_ ?_
  rotate_left
  ·intro w'
   go_simp
   with_reducible rfl
  rotate_left
  ·simp only [Act.put, List.setIfInBounds_toArray, List.set_cons_zero, List.set_cons_succ, i64_w, i32_w]
   rfl
  refine pure_ (i := 1) (N := some 75) (v := ?_) (a' := ?_) (bm 37 3) rfl rfl (any_of HT_.out (by kernel_rfl)) (fun _ _ _ h => h) (Or.inl ⟨by rfl, ?_⟩) ?_ ?_
  rotate_left
  ·intro w'
   go_simp
   with_reducible rfl
  rotate_left
  ·simp only [Act.put, List.setIfInBounds_toArray, List.set_cons_zero, List.set_cons_succ, i64_w, i32_w]
   rfl
  refine pure_ (i := 5) (N := some 79) (v := ?_) (a' := ?_) (bm 37 35) rfl rfl (any_of HT_.out (by kernel_rfl)) (fun _ _ _ h => h) (Or.inl ⟨by rfl, ?_⟩) ?_ ?_
  rotate_left
  ·intro w'
   go_simp
   with_reducible rfl
  rotate_left
  ·simp only [Act.put, List.setIfInBounds_toArray, List.set_cons_zero, List.set_cons_succ, i64_w, i32_w]
   rfl
  refine pure_ (i := 6) (N := some 80) (v := ?_) (a' := ?_) (bm 37 99) rfl rfl (any_of HT_.out (by kernel_rfl)) (fun _ _ _ h => h) (Or.inl ⟨by rfl, ?_⟩) ?_ ?_
  rotate_left
  ·intro w'
   go_simp
   with_reducible rfl
  rotate_left
  ·simp only [Act.put, List.setIfInBounds_toArray, List.set_cons_zero, List.set_cons_succ, i64_w, i32_w]
   rfl
  refine pure_ (i := 11) (N := some 85) (v := ?_) (a' := ?_) (bm 37 2147) rfl rfl (any_of HT_.out (by kernel_rfl)) (fun _ _ _ h => h) (Or.inl ⟨by rfl, ?_⟩) ?_ ?_
  rotate_left
  ·intro w'
   go_simp
   with_reducible rfl
  rotate_left
  ·simp only [Act.put, List.setIfInBounds_toArray, List.set_cons_zero, List.set_cons_succ, i64_w, i32_w]
   rfl
  refine pure_ (i := 12) (N := some 86) (v := ?_) (a' := ?_) (bm 37 6243) rfl rfl (any_of HT_.out (by kernel_rfl)) (fun _ _ _ h => h) (Or.inl ⟨by rfl, ?_⟩) ?_ ?_
  rotate_left
  ·intro w'
   go_simp
   with_reducible rfl
  rotate_left
  ·simp only [Act.put, List.setIfInBounds_toArray, List.set_cons_zero, List.set_cons_succ, i64_w, i32_w]
   rfl
  refine pure_ (i := 16) (N := some 90) (v := ?_) (a' := ?_) (bm 37 71779) rfl rfl (any_of HT_.out (by kernel_rfl)) (fun _ _ _ h => h) (Or.inl ⟨by rfl, ?_⟩) ?_ ?_
  rotate_left
  ·intro w'
   go_simp
   with_reducible rfl
  rotate_left
  ·simp only [Act.put, List.setIfInBounds_toArray, List.set_cons_zero, List.set_cons_succ, i64_w, i32_w]
   rfl
  refine pure_ (i := 17) (N := some 91) (v := ?_) (a' := ?_) (bm 37 202851) rfl rfl (any_of HT_.out (by kernel_rfl)) (fun _ _ _ h => h) (Or.inl ⟨by rfl, ?_⟩) ?_ ?_
  rotate_left
  ·intro w'
   go_simp
   with_reducible rfl
  rotate_left
  ·simp only [Act.put, List.setIfInBounds_toArray, List.set_cons_zero, List.set_cons_succ, i64_w, i32_w]
   rfl
  refine pure_ (i := 22) (N := some 96) (v := ?_) (a' := ?_) (bm 37 4397155) rfl rfl (any_of HT_.out (by kernel_rfl)) (fun _ _ _ h => h) (Or.inl ⟨by rfl, ?_⟩) ?_ ?_
  rotate_left
  ·intro w'
   go_simp
   with_reducible rfl
  rotate_left
  ·simp only [Act.put, List.setIfInBounds_toArray, List.set_cons_zero, List.set_cons_succ, i64_w, i32_w]
   rfl
  refine pure_ (i := 23) (N := some 97) (v := ?_) (a' := ?_) (bm 37 12785763) rfl rfl (any_of HT_.out (by kernel_rfl)) (fun _ _ _ h => h) (Or.inl ⟨by rfl, ?_⟩) ?_ ?_
  rotate_left
  ·intro w'
   go_simp
   with_reducible rfl
  rotate_left
  ·simp only [Act.put, List.setIfInBounds_toArray, List.set_cons_zero, List.set_cons_succ, i64_w, i32_w]
   rfl
  refine pure_ (i := 27) (N := some 101) (v := ?_) (a' := ?_) (bm 37 147003491) rfl rfl (any_of HT_.out (by kernel_rfl)) (fun _ _ _ h => h) (Or.inl ⟨by rfl, ?_⟩) ?_ ?_
  rotate_left
  ·intro w'
   go_simp
   with_reducible rfl
  rotate_left
  ·simp only [Act.put, List.setIfInBounds_toArray, List.set_cons_zero, List.set_cons_succ, i64_w, i32_w]
   rfl
  refine pure_ (i := 28) (N := some 102) (v := ?_) (a' := ?_) (bm 37 415438947) rfl rfl (any_of HT_.out (by kernel_rfl)) (fun _ _ _ h => h) (Or.inl ⟨by rfl, ?_⟩) ?_ ?_
  rotate_left
  ·intro w'
   go_simp
   with_reducible rfl
  rotate_left
  ·simp only [Act.put, List.setIfInBounds_toArray, List.set_cons_zero, List.set_cons_succ, i64_w, i32_w]
   rfl
  refine take_ (i := 2) (N := some 76) (v := ?_) (a' := ?_) (bm 37 415438951) rfl rfl (take_ofW HT_.out HW_.out (by kernel_rfl)) (fun _ _ _ h => h) (Or.inl ⟨by rfl, ?_⟩) hHeld ?_ ?_
  rotate_left
  ·rintro w' ⟨s0, s1, s2, s3, s4, s5⟩
   go_simp
   with_reducible rfl
  rotate_left
  ·simp only [Act.put, List.setIfInBounds_toArray, List.set_cons_zero, List.set_cons_succ, i64_w, i32_w]
   rfl
  refine pure_ (i := 3) (N := some 77) (v := ?_) (a' := ?_) (bm 37 415438959) rfl rfl (any_of HT_.out (by kernel_rfl)) (fun _ _ _ h => h) (Or.inl ⟨by rfl, ?_⟩) ?_ ?_
  rotate_left
  ·intro w'
   go_simp
   with_reducible rfl
  rotate_left
  ·simp only [Act.put, List.setIfInBounds_toArray, List.set_cons_zero, List.set_cons_succ, i64_w, i32_w]
   rfl
  refine take_ (i := 7) (N := some 81) (v := ?_) (a' := ?_) (bm 37 415439087) rfl rfl (take_ofW HT_.out HW_.out (by kernel_rfl)) (fun _ _ _ h => h) (Or.inl ⟨by rfl, ?_⟩) hHeld ?_ ?_
  rotate_left
  ·rintro w' ⟨s0, s1, s2, s3, s4, s5⟩
   go_simp
   with_reducible rfl
  rotate_left
  ·simp only [Act.put, List.setIfInBounds_toArray, List.set_cons_zero, List.set_cons_succ, i64_w, i32_w]
   rfl
  refine pure_ (i := 8) (N := some 82) (v := ?_) (a' := ?_) (bm 37 415439343) rfl rfl (any_of HT_.out (by kernel_rfl)) (fun _ _ _ h => h) (Or.inl ⟨by rfl, ?_⟩) ?_ ?_
  rotate_left
  ·intro w'
   go_simp
   with_reducible rfl
  rotate_left
  ·simp only [Act.put, List.setIfInBounds_toArray, List.set_cons_zero, List.set_cons_succ, i64_w, i32_w]
   rfl
  refine take_ (i := 13) (N := some 87) (v := ?_) (a' := ?_) (bm 37 415447535) rfl rfl (take_ofW HT_.out HW_.out (by kernel_rfl)) (fun _ _ _ h => h) (Or.inl ⟨by rfl, ?_⟩) hHeld ?_ ?_
  rotate_left
  ·rintro w' ⟨s0, s1, s2, s3, s4, s5⟩
   go_simp
   with_reducible rfl
  rotate_left
  ·simp only [Act.put, List.setIfInBounds_toArray, List.set_cons_zero, List.set_cons_succ, i64_w, i32_w]
   rfl
  refine pure_ (i := 14) (N := some 88) (v := ?_) (a' := ?_) (bm 37 415463919) rfl rfl (any_of HT_.out (by kernel_rfl)) (fun _ _ _ h => h) (Or.inl ⟨by rfl, ?_⟩) ?_ ?_
  rotate_left
  ·intro w'
   go_simp
   with_reducible rfl
  rotate_left
  ·simp only [Act.put, List.setIfInBounds_toArray, List.set_cons_zero, List.set_cons_succ, i64_w, i32_w]
   rfl
  refine take_ (i := 18) (N := some 92) (v := ?_) (a' := ?_) (bm 37 415726063) rfl rfl (take_ofW HT_.out HW_.out (by kernel_rfl)) (fun _ _ _ h => h) (Or.inl ⟨by rfl, ?_⟩) hHeld ?_ ?_
  rotate_left
  ·rintro w' ⟨s0, s1, s2, s3, s4, s5⟩
   go_simp
   with_reducible rfl
  rotate_left
  ·simp only [Act.put, List.setIfInBounds_toArray, List.set_cons_zero, List.set_cons_succ, i64_w, i32_w]
   rfl
  refine pure_ (i := 19) (N := some 93) (v := ?_) (a' := ?_) (bm 37 416250351) rfl rfl (any_of HT_.out (by kernel_rfl)) (fun _ _ _ h => h) (Or.inl ⟨by rfl, ?_⟩) ?_ ?_
  rotate_left
  ·intro w'
   go_simp
   with_reducible rfl
  rotate_left
  ·simp only [Act.put, List.setIfInBounds_toArray, List.set_cons_zero, List.set_cons_succ, i64_w, i32_w]
   rfl
  refine take_ (i := 24) (N := some 98) (v := ?_) (a' := ?_) (bm 37 433027567) rfl rfl (take_ofW HT_.out HW_.out (by kernel_rfl)) (fun _ _ _ h => h) (Or.inl ⟨by rfl, ?_⟩) hHeld ?_ ?_
  rotate_left
  ·rintro w' ⟨s0, s1, s2, s3, s4, s5⟩
   go_simp
   with_reducible rfl
  rotate_left
  ·simp only [Act.put, List.setIfInBounds_toArray, List.set_cons_zero, List.set_cons_succ, i64_w, i32_w]
   rfl
  refine pure_ (i := 25) (N := some 99) (v := ?_) (a' := ?_) (bm 37 466581999) rfl rfl (any_of HT_.out (by kernel_rfl)) (fun _ _ _ h => h) (Or.inl ⟨by rfl, ?_⟩) ?_ ?_
  rotate_left
  ·intro w'
   go_simp
   with_reducible rfl
  rotate_left
  ·simp only [Act.put, List.setIfInBounds_toArray, List.set_cons_zero, List.set_cons_succ, i64_w, i32_w]
   rfl
  refine take_ (i := 29) (N := some 103) (v := ?_) (a' := ?_) (bm 37 1003452911) rfl rfl (take_ofW HT_.out HW_.out (by kernel_rfl)) (fun _ _ _ h => h) (Or.inl ⟨by rfl, ?_⟩) hHeld ?_ ?_
  rotate_left
  ·rintro w' ⟨s0, s1, s2, s3, s4, s5⟩
   go_simp
   with_reducible rfl
  rotate_left
  ·simp only [Act.put, List.setIfInBounds_toArray, List.set_cons_zero, List.set_cons_succ, i64_w, i32_w]
   rfl
  refine pure_ (i := 30) (N := some 104) (v := ?_) (a' := ?_) (bm 37 2077194735) rfl rfl (any_of HT_.out (by kernel_rfl)) (fun _ _ _ h => h) (Or.inl ⟨by rfl, ?_⟩) ?_ ?_
  rotate_left
  ·intro w'
   go_simp
   with_reducible rfl
  rotate_left
  ·simp only [Act.put, List.setIfInBounds_toArray, List.set_cons_zero, List.set_cons_succ, i64_w, i32_w]
   rfl
  refine join_ (σ := Nat) 1 (bm 37 68719476735) (fun s_ => [(78, .int .i64 t311), (83, .int .i64 t312), (89, .int .i64 t313), (94, .int .i64 t314), (100, .int .i64 t315), (105, .int .i64 t316), (108, .agg #[.int .i64 t317, .int .i64 t318, .int .i64 t319]), (15, .pointer (some ⟨s_, 0, none⟩)), (84, .int .i64 (wrap64 (t311 + t312))), (95, .int .i64 (wrap64 (t313 + t314))), (106, .int .i64 (wrap64 (t315 + t316))), (107, .agg #[.int .i64 (wrap64 (t311 + t312)), .int .i64 (wrap64 (t313 + t314)), .int .i64 (wrap64 (t315 + t316))])]) (fun s_ w' => (w'.cell? ⟨gb298, 0, none⟩ = some (.int .i64 t295) ∧ w'.cell? ⟨gb298, 1, none⟩ = some (.int .i64 t296) ∧ w'.cell? ⟨gb298, 2, none⟩ = some (.int .i64 t297) ∧ w'.cell? ⟨gb302, 0, none⟩ = some (.int .i64 t299) ∧ w'.cell? ⟨gb302, 1, none⟩ = some (.int .i64 t300) ∧ w'.cell? ⟨gb302, 2, none⟩ = some (.int .i64 t301)) ∧ (w'.heap[gb292]? = some (.cells #[.int .i64 0, .int .i64 0, .int .i64 0] 26 (0, 0))) ∧ (w'.heap[gb298]? = some (.cells #[.int .i64 t295, .int .i64 t296, .int .i64 t297] 26 (0, 0))) ∧ (w'.heap[gb302]? = some (.cells #[.int .i64 t299, .int .i64 t300, .int .i64 t301] 26 (0, 0))) ∧ (w'.heap[s_]? = some (.cells #[.int .i64 0, .int .i64 0, .int .i64 0] 26 (0, 0))) ∧ (w.heap.size ≤ s_) ∧ (gb292 ≠ s_) ∧ (s_ ≠ gb292) ∧ (gb298 ≠ s_) ∧ (s_ ≠ gb298) ∧ (gb302 ≠ s_) ∧ (s_ ≠ gb302) ∧ (Below w.heap.size w w')) ?_ ?_
  rotate_left
  ·intro hJ4_9_15_20_26_31_34_35
   refine join_ (σ := Unit) 2 (bm 37 34359738367) (fun s_ => [(78, .int .i64 t311), (83, .int .i64 t312), (89, .int .i64 t313), (94, .int .i64 t314), (100, .int .i64 t315), (105, .int .i64 t316), (108, .agg #[.int .i64 t317, .int .i64 t318, .int .i64 t319]), (84, .int .i64 (wrap64 (t311 + t312))), (95, .int .i64 (wrap64 (t313 + t314))), (106, .int .i64 (wrap64 (t315 + t316))), (107, .agg #[.int .i64 (wrap64 (t311 + t312)), .int .i64 (wrap64 (t313 + t314)), .int .i64 (wrap64 (t315 + t316))])]) (fun s_ w' => (w'.cell? ⟨gb298, 0, none⟩ = some (.int .i64 t295) ∧ w'.cell? ⟨gb298, 1, none⟩ = some (.int .i64 t296) ∧ w'.cell? ⟨gb298, 2, none⟩ = some (.int .i64 t297) ∧ w'.cell? ⟨gb302, 0, none⟩ = some (.int .i64 t299) ∧ w'.cell? ⟨gb302, 1, none⟩ = some (.int .i64 t300) ∧ w'.cell? ⟨gb302, 2, none⟩ = some (.int .i64 t301)) ∧ (w'.heap[gb292]? = some (.cells #[.int .i64 0, .int .i64 0, .int .i64 0] 26 (0, 0))) ∧ (w'.heap[gb298]? = some (.cells #[.int .i64 t295, .int .i64 t296, .int .i64 t297] 26 (0, 0))) ∧ (w'.heap[gb302]? = some (.cells #[.int .i64 t299, .int .i64 t300, .int .i64 t301] 26 (0, 0))) ∧ (Below w.heap.size w w')) ?_ ?_
   rotate_left
   ·intro hJ4_9_15_20_26_31_34
    refine join_ (σ := Nat) 2 (bm 37 51539607551) (fun s_ => [(78, .int .i64 t311), (83, .int .i64 t312), (89, .int .i64 t313), (94, .int .i64 t314), (100, .int .i64 t315), (105, .int .i64 t316), (15, .pointer (some ⟨s_, 0, none⟩)), (84, .int .i64 (wrap64 (t311 + t312))), (95, .int .i64 (wrap64 (t313 + t314))), (106, .int .i64 (wrap64 (t315 + t316))), (107, .agg #[.int .i64 (wrap64 (t311 + t312)), .int .i64 (wrap64 (t313 + t314)), .int .i64 (wrap64 (t315 + t316))])]) (fun s_ w' => (w'.cell? ⟨gb298, 0, none⟩ = some (.int .i64 t295) ∧ w'.cell? ⟨gb298, 1, none⟩ = some (.int .i64 t296) ∧ w'.cell? ⟨gb298, 2, none⟩ = some (.int .i64 t297) ∧ w'.cell? ⟨gb302, 0, none⟩ = some (.int .i64 t299) ∧ w'.cell? ⟨gb302, 1, none⟩ = some (.int .i64 t300) ∧ w'.cell? ⟨gb302, 2, none⟩ = some (.int .i64 t301)) ∧ (w'.heap[gb292]? = some (.cells #[.int .i64 0, .int .i64 0, .int .i64 0] 26 (0, 0))) ∧ (w'.heap[gb298]? = some (.cells #[.int .i64 t295, .int .i64 t296, .int .i64 t297] 26 (0, 0))) ∧ (w'.heap[gb302]? = some (.cells #[.int .i64 t299, .int .i64 t300, .int .i64 t301] 26 (0, 0))) ∧ (w'.heap[s_]? = some (.cells #[.int .i64 0, .int .i64 0, .int .i64 0] 26 (0, 0))) ∧ (w.heap.size ≤ s_) ∧ (gb292 ≠ s_) ∧ (s_ ≠ gb292) ∧ (gb298 ≠ s_) ∧ (s_ ≠ gb298) ∧ (gb302 ≠ s_) ∧ (s_ ≠ gb302) ∧ (Below w.heap.size w w')) ?_ ?_
    rotate_left
    ·intro hJ4_9_15_20_26_31_35
     refine join_ (σ := Unit) 3 (bm 37 17179869183) (fun s_ => [(78, .int .i64 t311), (83, .int .i64 t312), (89, .int .i64 t313), (94, .int .i64 t314), (100, .int .i64 t315), (105, .int .i64 t316), (84, .int .i64 (wrap64 (t311 + t312))), (95, .int .i64 (wrap64 (t313 + t314))), (106, .int .i64 (wrap64 (t315 + t316))), (107, .agg #[.int .i64 (wrap64 (t311 + t312)), .int .i64 (wrap64 (t313 + t314)), .int .i64 (wrap64 (t315 + t316))])]) (fun s_ w' => (w'.cell? ⟨gb298, 0, none⟩ = some (.int .i64 t295) ∧ w'.cell? ⟨gb298, 1, none⟩ = some (.int .i64 t296) ∧ w'.cell? ⟨gb298, 2, none⟩ = some (.int .i64 t297) ∧ w'.cell? ⟨gb302, 0, none⟩ = some (.int .i64 t299) ∧ w'.cell? ⟨gb302, 1, none⟩ = some (.int .i64 t300) ∧ w'.cell? ⟨gb302, 2, none⟩ = some (.int .i64 t301)) ∧ (w'.heap[gb292]? = some (.cells #[.int .i64 0, .int .i64 0, .int .i64 0] 26 (0, 0))) ∧ (w'.heap[gb298]? = some (.cells #[.int .i64 t295, .int .i64 t296, .int .i64 t297] 26 (0, 0))) ∧ (w'.heap[gb302]? = some (.cells #[.int .i64 t299, .int .i64 t300, .int .i64 t301] 26 (0, 0))) ∧ (Below w.heap.size w w')) ?_ ?_
     rotate_left
     ·intro hJ4_9_15_20_26_31
      refine join_ (σ := Nat) 5 (bm 37 36507222015) (fun s_ => [(78, .int .i64 t311), (83, .int .i64 t312), (89, .int .i64 t313), (94, .int .i64 t314), (100, .int .i64 t315), (15, .pointer (some ⟨s_, 0, none⟩)), (84, .int .i64 (wrap64 (t311 + t312))), (95, .int .i64 (wrap64 (t313 + t314)))]) (fun s_ w' => (w'.cell? ⟨gb298, 0, none⟩ = some (.int .i64 t295) ∧ w'.cell? ⟨gb298, 1, none⟩ = some (.int .i64 t296) ∧ w'.cell? ⟨gb298, 2, none⟩ = some (.int .i64 t297) ∧ w'.cell? ⟨gb302, 0, none⟩ = some (.int .i64 t299) ∧ w'.cell? ⟨gb302, 1, none⟩ = some (.int .i64 t300) ∧ w'.cell? ⟨gb302, 2, none⟩ = some (.int .i64 t301)) ∧ (w'.heap[gb292]? = some (.cells #[.int .i64 0, .int .i64 0, .int .i64 0] 26 (0, 0))) ∧ (w'.heap[gb298]? = some (.cells #[.int .i64 t295, .int .i64 t296, .int .i64 t297] 26 (0, 0))) ∧ (w'.heap[gb302]? = some (.cells #[.int .i64 t299, .int .i64 t300, .int .i64 t301] 26 (0, 0))) ∧ (w'.heap[s_]? = some (.cells #[.int .i64 0, .int .i64 0, .int .i64 0] 26 (0, 0))) ∧ (w.heap.size ≤ s_) ∧ (gb292 ≠ s_) ∧ (s_ ≠ gb292) ∧ (gb298 ≠ s_) ∧ (s_ ≠ gb298) ∧ (gb302 ≠ s_) ∧ (s_ ≠ gb302) ∧ (Below w.heap.size w w')) ?_ ?_
      rotate_left
      ·intro hJ4_9_15_20_26_35
       refine join_ (σ := Unit) 6 (bm 37 2147483647) (fun s_ => [(78, .int .i64 t311), (83, .int .i64 t312), (89, .int .i64 t313), (94, .int .i64 t314), (100, .int .i64 t315), (84, .int .i64 (wrap64 (t311 + t312))), (95, .int .i64 (wrap64 (t313 + t314)))]) (fun s_ w' => (w'.cell? ⟨gb298, 0, none⟩ = some (.int .i64 t295) ∧ w'.cell? ⟨gb298, 1, none⟩ = some (.int .i64 t296) ∧ w'.cell? ⟨gb298, 2, none⟩ = some (.int .i64 t297) ∧ w'.cell? ⟨gb302, 0, none⟩ = some (.int .i64 t299) ∧ w'.cell? ⟨gb302, 1, none⟩ = some (.int .i64 t300) ∧ w'.cell? ⟨gb302, 2, none⟩ = some (.int .i64 t301)) ∧ (w'.heap[gb292]? = some (.cells #[.int .i64 0, .int .i64 0, .int .i64 0] 26 (0, 0))) ∧ (w'.heap[gb298]? = some (.cells #[.int .i64 t295, .int .i64 t296, .int .i64 t297] 26 (0, 0))) ∧ (w'.heap[gb302]? = some (.cells #[.int .i64 t299, .int .i64 t300, .int .i64 t301] 26 (0, 0))) ∧ (Below w.heap.size w w')) ?_ ?_
       rotate_left
       ·intro hJ4_9_15_20_26
        refine join_ (σ := Nat) 6 (bm 37 36440113151) (fun s_ => [(78, .int .i64 t311), (83, .int .i64 t312), (89, .int .i64 t313), (94, .int .i64 t314), (15, .pointer (some ⟨s_, 0, none⟩)), (84, .int .i64 (wrap64 (t311 + t312))), (95, .int .i64 (wrap64 (t313 + t314)))]) (fun s_ w' => (w'.cell? ⟨gb298, 0, none⟩ = some (.int .i64 t295) ∧ w'.cell? ⟨gb298, 1, none⟩ = some (.int .i64 t296) ∧ w'.cell? ⟨gb298, 2, none⟩ = some (.int .i64 t297) ∧ w'.cell? ⟨gb302, 0, none⟩ = some (.int .i64 t299) ∧ w'.cell? ⟨gb302, 1, none⟩ = some (.int .i64 t300) ∧ w'.cell? ⟨gb302, 2, none⟩ = some (.int .i64 t301)) ∧ (w'.heap[gb292]? = some (.cells #[.int .i64 0, .int .i64 0, .int .i64 0] 26 (0, 0))) ∧ (w'.heap[gb298]? = some (.cells #[.int .i64 t295, .int .i64 t296, .int .i64 t297] 26 (0, 0))) ∧ (w'.heap[gb302]? = some (.cells #[.int .i64 t299, .int .i64 t300, .int .i64 t301] 26 (0, 0))) ∧ (w'.heap[s_]? = some (.cells #[.int .i64 0, .int .i64 0, .int .i64 0] 26 (0, 0))) ∧ (w.heap.size ≤ s_) ∧ (gb292 ≠ s_) ∧ (s_ ≠ gb292) ∧ (gb298 ≠ s_) ∧ (s_ ≠ gb298) ∧ (gb302 ≠ s_) ∧ (s_ ≠ gb302) ∧ (Below w.heap.size w w')) ?_ ?_
        rotate_left
        ·intro hJ4_9_15_20_35
         refine join_ (σ := Unit) 7 (bm 37 2080374783) (fun s_ => [(78, .int .i64 t311), (83, .int .i64 t312), (89, .int .i64 t313), (94, .int .i64 t314), (84, .int .i64 (wrap64 (t311 + t312))), (95, .int .i64 (wrap64 (t313 + t314)))]) (fun s_ w' => (w'.cell? ⟨gb298, 0, none⟩ = some (.int .i64 t295) ∧ w'.cell? ⟨gb298, 1, none⟩ = some (.int .i64 t296) ∧ w'.cell? ⟨gb298, 2, none⟩ = some (.int .i64 t297) ∧ w'.cell? ⟨gb302, 0, none⟩ = some (.int .i64 t299) ∧ w'.cell? ⟨gb302, 1, none⟩ = some (.int .i64 t300) ∧ w'.cell? ⟨gb302, 2, none⟩ = some (.int .i64 t301)) ∧ (w'.heap[gb292]? = some (.cells #[.int .i64 0, .int .i64 0, .int .i64 0] 26 (0, 0))) ∧ (w'.heap[gb298]? = some (.cells #[.int .i64 t295, .int .i64 t296, .int .i64 t297] 26 (0, 0))) ∧ (w'.heap[gb302]? = some (.cells #[.int .i64 t299, .int .i64 t300, .int .i64 t301] 26 (0, 0))) ∧ (Below w.heap.size w w')) ?_ ?_
         rotate_left
         ·intro hJ4_9_15_20
          refine join_ (σ := Nat) 8 (bm 37 36436967423) (fun s_ => [(78, .int .i64 t311), (83, .int .i64 t312), (89, .int .i64 t313), (15, .pointer (some ⟨s_, 0, none⟩)), (84, .int .i64 (wrap64 (t311 + t312)))]) (fun s_ w' => (w'.cell? ⟨gb298, 0, none⟩ = some (.int .i64 t295) ∧ w'.cell? ⟨gb298, 1, none⟩ = some (.int .i64 t296) ∧ w'.cell? ⟨gb298, 2, none⟩ = some (.int .i64 t297) ∧ w'.cell? ⟨gb302, 0, none⟩ = some (.int .i64 t299) ∧ w'.cell? ⟨gb302, 1, none⟩ = some (.int .i64 t300) ∧ w'.cell? ⟨gb302, 2, none⟩ = some (.int .i64 t301)) ∧ (w'.heap[gb292]? = some (.cells #[.int .i64 0, .int .i64 0, .int .i64 0] 26 (0, 0))) ∧ (w'.heap[gb298]? = some (.cells #[.int .i64 t295, .int .i64 t296, .int .i64 t297] 26 (0, 0))) ∧ (w'.heap[gb302]? = some (.cells #[.int .i64 t299, .int .i64 t300, .int .i64 t301] 26 (0, 0))) ∧ (w'.heap[s_]? = some (.cells #[.int .i64 0, .int .i64 0, .int .i64 0] 26 (0, 0))) ∧ (w.heap.size ≤ s_) ∧ (gb292 ≠ s_) ∧ (s_ ≠ gb292) ∧ (gb298 ≠ s_) ∧ (s_ ≠ gb298) ∧ (gb302 ≠ s_) ∧ (s_ ≠ gb302) ∧ (Below w.heap.size w w')) ?_ ?_
          rotate_left
          ·intro hJ4_9_15_35
           refine join_ (σ := Unit) 9 (bm 37 2077229055) (fun s_ => [(78, .int .i64 t311), (83, .int .i64 t312), (89, .int .i64 t313), (84, .int .i64 (wrap64 (t311 + t312)))]) (fun s_ w' => (w'.cell? ⟨gb298, 0, none⟩ = some (.int .i64 t295) ∧ w'.cell? ⟨gb298, 1, none⟩ = some (.int .i64 t296) ∧ w'.cell? ⟨gb298, 2, none⟩ = some (.int .i64 t297) ∧ w'.cell? ⟨gb302, 0, none⟩ = some (.int .i64 t299) ∧ w'.cell? ⟨gb302, 1, none⟩ = some (.int .i64 t300) ∧ w'.cell? ⟨gb302, 2, none⟩ = some (.int .i64 t301)) ∧ (w'.heap[gb292]? = some (.cells #[.int .i64 0, .int .i64 0, .int .i64 0] 26 (0, 0))) ∧ (w'.heap[gb298]? = some (.cells #[.int .i64 t295, .int .i64 t296, .int .i64 t297] 26 (0, 0))) ∧ (w'.heap[gb302]? = some (.cells #[.int .i64 t299, .int .i64 t300, .int .i64 t301] 26 (0, 0))) ∧ (Below w.heap.size w w')) ?_ ?_
           rotate_left
           ·intro hJ4_9_15
            refine join_ (σ := Nat) 9 (bm 37 36436934655) (fun s_ => [(78, .int .i64 t311), (83, .int .i64 t312), (15, .pointer (some ⟨s_, 0, none⟩)), (84, .int .i64 (wrap64 (t311 + t312)))]) (fun s_ w' => (w'.cell? ⟨gb298, 0, none⟩ = some (.int .i64 t295) ∧ w'.cell? ⟨gb298, 1, none⟩ = some (.int .i64 t296) ∧ w'.cell? ⟨gb298, 2, none⟩ = some (.int .i64 t297) ∧ w'.cell? ⟨gb302, 0, none⟩ = some (.int .i64 t299) ∧ w'.cell? ⟨gb302, 1, none⟩ = some (.int .i64 t300) ∧ w'.cell? ⟨gb302, 2, none⟩ = some (.int .i64 t301)) ∧ (w'.heap[gb292]? = some (.cells #[.int .i64 0, .int .i64 0, .int .i64 0] 26 (0, 0))) ∧ (w'.heap[gb298]? = some (.cells #[.int .i64 t295, .int .i64 t296, .int .i64 t297] 26 (0, 0))) ∧ (w'.heap[gb302]? = some (.cells #[.int .i64 t299, .int .i64 t300, .int .i64 t301] 26 (0, 0))) ∧ (w'.heap[s_]? = some (.cells #[.int .i64 0, .int .i64 0, .int .i64 0] 26 (0, 0))) ∧ (w.heap.size ≤ s_) ∧ (gb292 ≠ s_) ∧ (s_ ≠ gb292) ∧ (gb298 ≠ s_) ∧ (s_ ≠ gb298) ∧ (gb302 ≠ s_) ∧ (s_ ≠ gb302) ∧ (Below w.heap.size w w')) ?_ ?_
            rotate_left
            ·intro hJ4_9_35
             refine join_ (σ := Unit) 10 (bm 37 2077196287) (fun s_ => [(78, .int .i64 t311), (83, .int .i64 t312), (84, .int .i64 (wrap64 (t311 + t312)))]) (fun s_ w' => (w'.cell? ⟨gb298, 0, none⟩ = some (.int .i64 t295) ∧ w'.cell? ⟨gb298, 1, none⟩ = some (.int .i64 t296) ∧ w'.cell? ⟨gb298, 2, none⟩ = some (.int .i64 t297) ∧ w'.cell? ⟨gb302, 0, none⟩ = some (.int .i64 t299) ∧ w'.cell? ⟨gb302, 1, none⟩ = some (.int .i64 t300) ∧ w'.cell? ⟨gb302, 2, none⟩ = some (.int .i64 t301)) ∧ (w'.heap[gb292]? = some (.cells #[.int .i64 0, .int .i64 0, .int .i64 0] 26 (0, 0))) ∧ (w'.heap[gb298]? = some (.cells #[.int .i64 t295, .int .i64 t296, .int .i64 t297] 26 (0, 0))) ∧ (w'.heap[gb302]? = some (.cells #[.int .i64 t299, .int .i64 t300, .int .i64 t301] 26 (0, 0))) ∧ (Below w.heap.size w w')) ?_ ?_
             rotate_left
             ·intro hJ4_9
              refine join_ (σ := Nat) 11 (bm 37 36436933119) (fun s_ => [(78, .int .i64 t311), (15, .pointer (some ⟨s_, 0, none⟩))]) (fun s_ w' => (w'.cell? ⟨gb298, 0, none⟩ = some (.int .i64 t295) ∧ w'.cell? ⟨gb298, 1, none⟩ = some (.int .i64 t296) ∧ w'.cell? ⟨gb298, 2, none⟩ = some (.int .i64 t297) ∧ w'.cell? ⟨gb302, 0, none⟩ = some (.int .i64 t299) ∧ w'.cell? ⟨gb302, 1, none⟩ = some (.int .i64 t300) ∧ w'.cell? ⟨gb302, 2, none⟩ = some (.int .i64 t301)) ∧ (w'.heap[gb292]? = some (.cells #[.int .i64 0, .int .i64 0, .int .i64 0] 26 (0, 0))) ∧ (w'.heap[gb298]? = some (.cells #[.int .i64 t295, .int .i64 t296, .int .i64 t297] 26 (0, 0))) ∧ (w'.heap[gb302]? = some (.cells #[.int .i64 t299, .int .i64 t300, .int .i64 t301] 26 (0, 0))) ∧ (w'.heap[s_]? = some (.cells #[.int .i64 0, .int .i64 0, .int .i64 0] 26 (0, 0))) ∧ (w.heap.size ≤ s_) ∧ (gb292 ≠ s_) ∧ (s_ ≠ gb292) ∧ (gb298 ≠ s_) ∧ (s_ ≠ gb298) ∧ (gb302 ≠ s_) ∧ (s_ ≠ gb302) ∧ (Below w.heap.size w w')) ?_ ?_
              rotate_left
              ·intro hJ4_35
               refine join_ (σ := Unit) 12 (bm 37 2077194751) (fun s_ => [(78, .int .i64 t311)]) (fun s_ w' => (w'.cell? ⟨gb298, 0, none⟩ = some (.int .i64 t295) ∧ w'.cell? ⟨gb298, 1, none⟩ = some (.int .i64 t296) ∧ w'.cell? ⟨gb298, 2, none⟩ = some (.int .i64 t297) ∧ w'.cell? ⟨gb302, 0, none⟩ = some (.int .i64 t299) ∧ w'.cell? ⟨gb302, 1, none⟩ = some (.int .i64 t300) ∧ w'.cell? ⟨gb302, 2, none⟩ = some (.int .i64 t301)) ∧ (w'.heap[gb292]? = some (.cells #[.int .i64 0, .int .i64 0, .int .i64 0] 26 (0, 0))) ∧ (w'.heap[gb298]? = some (.cells #[.int .i64 t295, .int .i64 t296, .int .i64 t297] 26 (0, 0))) ∧ (w'.heap[gb302]? = some (.cells #[.int .i64 t299, .int .i64 t300, .int .i64 t301] 26 (0, 0))) ∧ (Below w.heap.size w w')) ?_ ?_
               rotate_left
               ·intro hJ4
                refine join_ (σ := Nat) 12 (bm 37 36436933103) (fun s_ => [(15, .pointer (some ⟨s_, 0, none⟩))]) (fun s_ w' => (w'.cell? ⟨gb298, 0, none⟩ = some (.int .i64 t295) ∧ w'.cell? ⟨gb298, 1, none⟩ = some (.int .i64 t296) ∧ w'.cell? ⟨gb298, 2, none⟩ = some (.int .i64 t297) ∧ w'.cell? ⟨gb302, 0, none⟩ = some (.int .i64 t299) ∧ w'.cell? ⟨gb302, 1, none⟩ = some (.int .i64 t300) ∧ w'.cell? ⟨gb302, 2, none⟩ = some (.int .i64 t301)) ∧ (w'.heap[gb292]? = some (.cells #[.int .i64 0, .int .i64 0, .int .i64 0] 26 (0, 0))) ∧ (w'.heap[gb298]? = some (.cells #[.int .i64 t295, .int .i64 t296, .int .i64 t297] 26 (0, 0))) ∧ (w'.heap[gb302]? = some (.cells #[.int .i64 t299, .int .i64 t300, .int .i64 t301] 26 (0, 0))) ∧ (w'.heap[s_]? = some (.cells #[.int .i64 0, .int .i64 0, .int .i64 0] 26 (0, 0))) ∧ (w.heap.size ≤ s_) ∧ (gb292 ≠ s_) ∧ (s_ ≠ gb292) ∧ (gb298 ≠ s_) ∧ (s_ ≠ gb298) ∧ (gb302 ≠ s_) ∧ (s_ ≠ gb302) ∧ (Below w.heap.size w w')) ?_ ?_
                rotate_left
                ·intro hJ35
                 refine two_ (i := 4) (j := 35) (Ni := some 78) (Nj := some 15) (bm 37 2077194751) (bm 37 36436933103) rfl rfl rfl rfl (two_of HT_.out (by kernel_rfl)) (by decide) (by decide) (fun K hK => ?_) (fun K hK => ?_)
                 ·skip
                  refine goes_ Try.func38 (by kernel_rfl) rfl #[.int .i64 (wrap64 (a2 * t295)), .int .i64 256] (by rfl) rfl rfl (by (try simp only [List.map_toArray, List.map_cons, List.map_nil]); first | done | rfl | (simp only [List.length_drop, List.length_take]; rfl)) ?_
                  with_reducible refine (relievoref19_Floor.calls (wrap64 (a2 * t295)) 256 t311 _ A67.out).mono ?_
                  rintro e w' ⟨rfl, ⟨nd, rfl⟩⟩
                  refine ⟨_, rfl, ?_⟩
                  refine hK.out _ _ ⟨(blk_cell BK298.out 0).trans rfl, (blk_cell BK298.out 1).trans rfl, (blk_cell BK298.out 2).trans rfl, (blk_cell BK302.out 0).trans rfl, (blk_cell BK302.out 1).trans rfl, (blk_cell BK302.out 2).trans rfl⟩ (fun hHeld => ?_)
                  clear hK K
                  refine norm_ (a' := ?_) ?_ ?_
                  rotate_left
                  ·show Act.put _ (some 78) _ = _
                   simp only [Act.put, List.setIfInBounds_toArray, List.set_cons_zero, List.set_cons_succ, i64_w, i32_w]
                   rfl
                  exact norm_ (by simp only [putAll, Act.put, List.setIfInBounds_toArray, List.set_cons_zero, List.set_cons_succ] <;> rfl) (hJ4 () _ ⟨hHeld, (BK292.out), (BK298.out), (BK302.out), (by first | exact HB.out | (repeat (first | exact HB.out | apply pw_below_drewN | apply below_drew1 | apply below_alloc)))⟩)
                 skip
                 refine box_step ?hg (N := 15) ?hd (cs := #[.int .i64 0, .int .i64 0, .int .i64 0]) (t := 26) ?hr ?_; (case hd => rfl); (case hg => rfl); (case hr => first | (go_simp; done) | (go_simp; rfl))
                 intro gb320 hg w93 hbox hb
                 have BK320 := Aside0.mk (hbox)
                 have GE320 := Aside0.mk (bG hg (by first | exact HB.out | (repeat (first | exact HB.out | apply pw_below_drewN | apply below_drew1 | apply below_alloc))))
                 have NB292_320 := cN hg BK292
                 have NB320_292 := cM hg BK292
                 have NB298_320 := cN hg BK298
                 have NB320_298 := cM hg BK298
                 have NB302_320 := cN hg BK302
                 have NB320_302 := cM hg BK302
                 replace BK292 := cB hb BK292
                 replace BK298 := cB hb BK298
                 replace BK302 := cB hb BK302
                 replace HB := Aside0.mk (below_step (by first | exact HB.out | (repeat (first | exact HB.out | apply pw_below_drewN | apply below_drew1 | apply below_alloc))) hb)
                 clear hb hbox hg
                 refine hK.out _ _ ⟨(blk_cell BK298.out 0).trans rfl, (blk_cell BK298.out 1).trans rfl, (blk_cell BK298.out 2).trans rfl, (blk_cell BK302.out 0).trans rfl, (blk_cell BK302.out 1).trans rfl, (blk_cell BK302.out 2).trans rfl⟩ (fun hHeld => ?_)
                 clear hK K
                 refine norm_ (a' := ?_) ?_ ?_
                 rotate_left
                 ·show Act.put _ (some 15) _ = _
                  simp only [Act.put, List.setIfInBounds_toArray, List.set_cons_zero, List.set_cons_succ, i64_w, i32_w]
                  rfl
                 exact norm_ (by simp only [putAll, Act.put, List.setIfInBounds_toArray, List.set_cons_zero, List.set_cons_succ] <;> rfl) (hJ35 (gb320) _ ⟨hHeld, (BK292.out), (BK298.out), (BK302.out), (BK320.out), GE320.out, NB292_320.out, NB320_292.out, NB298_320.out, NB320_298.out, NB302_320.out, NB320_302.out, (by first | exact HB.out | (repeat (first | exact HB.out | apply pw_below_drewN | apply below_drew1 | apply below_alloc)))⟩)
                skip
                rintro gb320 w94 ⟨hS_, h0_, h1_, h2_, h3_, h4_, h5_, h6_, h7_, h8_, h9_, h10_, h11_⟩
                have n0_ : Aside0 (w94.heap[gb292]? = some (.cells #[.int .i64 0, .int .i64 0, .int .i64 0] 26 (0, 0))) := ⟨h0_⟩
                have n1_ : Aside0 (w94.heap[gb298]? = some (.cells #[.int .i64 t295, .int .i64 t296, .int .i64 t297] 26 (0, 0))) := ⟨h1_⟩
                have n2_ : Aside0 (w94.heap[gb302]? = some (.cells #[.int .i64 t299, .int .i64 t300, .int .i64 t301] 26 (0, 0))) := ⟨h2_⟩
                have n3_ : Aside0 (w94.heap[gb320]? = some (.cells #[.int .i64 0, .int .i64 0, .int .i64 0] 26 (0, 0))) := ⟨h3_⟩
                have GE320 : Aside0 (w.heap.size ≤ gb320) := ⟨h4_⟩
                have NB292_320 : Aside0 (gb292 ≠ gb320) := ⟨h5_⟩
                have NB320_292 : Aside0 (gb320 ≠ gb292) := ⟨h6_⟩
                have NB298_320 : Aside0 (gb298 ≠ gb320) := ⟨h7_⟩
                have NB320_298 : Aside0 (gb320 ≠ gb298) := ⟨h8_⟩
                have NB302_320 : Aside0 (gb302 ≠ gb320) := ⟨h9_⟩
                have NB320_302 : Aside0 (gb320 ≠ gb302) := ⟨h10_⟩
                have n11_ : Aside0 (Below w.heap.size w w94) := ⟨h11_⟩
                clear BK292
                clear BK298
                clear BK302
                clear HB
                clear h0_ h1_ h2_ h3_ h4_ h5_ h6_ h7_ h8_ h9_ h10_ h11_
                have BK292 := n0_
                have BK298 := n1_
                have BK302 := n2_
                have BK320 := n3_
                have HB := n11_
                clear n0_ n1_ n2_ n3_ n11_
                have hHeld : w94.cell? ⟨gb298, 0, none⟩ = some (.int .i64 t295) ∧ w94.cell? ⟨gb298, 1, none⟩ = some (.int .i64 t296) ∧ w94.cell? ⟨gb298, 2, none⟩ = some (.int .i64 t297) ∧ w94.cell? ⟨gb302, 0, none⟩ = some (.int .i64 t299) ∧ w94.cell? ⟨gb302, 1, none⟩ = some (.int .i64 t300) ∧ w94.cell? ⟨gb302, 2, none⟩ = some (.int .i64 t301) := hS_
                refine norm_ (a' := ?_) ?_ ?_
                rotate_left
                ·simp only [putAll, Act.put, List.setIfInBounds_toArray, List.set_cons_zero, List.set_cons_succ]
                 rfl
                refine one_ (i := 4) (N := some 78) (bm 37 36436933119) rfl rfl (one_of HT_.out (by kernel_rfl)) (by decide) (fun K hK => ?_)
                refine goes_ Try.func38 (by kernel_rfl) rfl #[.int .i64 (wrap64 (a2 * t295)), .int .i64 256] (by rfl) rfl rfl (by (try simp only [List.map_toArray, List.map_cons, List.map_nil]); first | done | rfl | (simp only [List.length_drop, List.length_take]; rfl)) ?_
                with_reducible refine (relievoref19_Floor.calls (wrap64 (a2 * t295)) 256 t311 _ A67.out).mono ?_
                rintro e w' ⟨rfl, ⟨nd, rfl⟩⟩
                refine ⟨_, rfl, ?_⟩
                refine hK.out _ _ ⟨(blk_cell BK298.out 0).trans rfl, (blk_cell BK298.out 1).trans rfl, (blk_cell BK298.out 2).trans rfl, (blk_cell BK302.out 0).trans rfl, (blk_cell BK302.out 1).trans rfl, (blk_cell BK302.out 2).trans rfl⟩ (fun hHeld => ?_)
                clear hK K
                refine norm_ (a' := ?_) ?_ ?_
                rotate_left
                ·show Act.put _ (some 78) _ = _
                 simp only [Act.put, List.setIfInBounds_toArray, List.set_cons_zero, List.set_cons_succ, i64_w, i32_w]
                 rfl
                exact norm_ (by simp only [putAll, Act.put, List.setIfInBounds_toArray, List.set_cons_zero, List.set_cons_succ] <;> rfl) (hJ4_35 (gb320) _ ⟨hHeld, (BK292.out), (BK298.out), (BK302.out), (BK320.out), GE320.out, NB292_320.out, NB320_292.out, NB298_320.out, NB320_298.out, NB302_320.out, NB320_302.out, (by first | exact HB.out | (repeat (first | exact HB.out | apply pw_below_drewN | apply below_drew1 | apply below_alloc)))⟩)
               skip
               rintro _ w93 ⟨hS_, h0_, h1_, h2_, h3_⟩
               have n0_ : Aside0 (w93.heap[gb292]? = some (.cells #[.int .i64 0, .int .i64 0, .int .i64 0] 26 (0, 0))) := ⟨h0_⟩
               have n1_ : Aside0 (w93.heap[gb298]? = some (.cells #[.int .i64 t295, .int .i64 t296, .int .i64 t297] 26 (0, 0))) := ⟨h1_⟩
               have n2_ : Aside0 (w93.heap[gb302]? = some (.cells #[.int .i64 t299, .int .i64 t300, .int .i64 t301] 26 (0, 0))) := ⟨h2_⟩
               have n3_ : Aside0 (Below w.heap.size w w93) := ⟨h3_⟩
               clear BK292
               clear BK298
               clear BK302
               clear HB
               clear h0_ h1_ h2_ h3_
               have BK292 := n0_
               have BK298 := n1_
               have BK302 := n2_
               have HB := n3_
               clear n0_ n1_ n2_ n3_
               have hHeld : w93.cell? ⟨gb298, 0, none⟩ = some (.int .i64 t295) ∧ w93.cell? ⟨gb298, 1, none⟩ = some (.int .i64 t296) ∧ w93.cell? ⟨gb298, 2, none⟩ = some (.int .i64 t297) ∧ w93.cell? ⟨gb302, 0, none⟩ = some (.int .i64 t299) ∧ w93.cell? ⟨gb302, 1, none⟩ = some (.int .i64 t300) ∧ w93.cell? ⟨gb302, 2, none⟩ = some (.int .i64 t301) := hS_
               refine norm_ (a' := ?_) ?_ ?_
               rotate_left
               ·simp only [putAll, Act.put, List.setIfInBounds_toArray, List.set_cons_zero, List.set_cons_succ]
                rfl
               refine two_ (i := 9) (j := 35) (Ni := some 83) (Nj := some 15) (bm 37 2077195263) (bm 37 36436933119) rfl rfl rfl rfl (two_of HT_.out (by kernel_rfl)) (by decide) (by decide) (fun K hK => ?_) (fun K hK => ?_)
               ·skip
                refine goes_ Try.func38 (by kernel_rfl) rfl #[.int .i64 (wrap64 ((wrap64 (t310 - t308)) * t299)), .int .i64 4096] (by rfl) rfl rfl (by (try simp only [List.map_toArray, List.map_cons, List.map_nil]); first | done | rfl | (simp only [List.length_drop, List.length_take]; rfl)) ?_
                with_reducible refine (relievoref19_Floor.calls (wrap64 ((wrap64 (t310 - t308)) * t299)) 4096 t312 _ A68.out).mono ?_
                rintro e w' ⟨rfl, ⟨nd, rfl⟩⟩
                refine ⟨_, rfl, ?_⟩
                refine hK.out _ _ ⟨(blk_cell BK298.out 0).trans rfl, (blk_cell BK298.out 1).trans rfl, (blk_cell BK298.out 2).trans rfl, (blk_cell BK302.out 0).trans rfl, (blk_cell BK302.out 1).trans rfl, (blk_cell BK302.out 2).trans rfl⟩ (fun hHeld => ?_)
                clear hK K
                refine norm_ (a' := ?_) ?_ ?_
                rotate_left
                ·show Act.put _ (some 83) _ = _
                 simp only [Act.put, List.setIfInBounds_toArray, List.set_cons_zero, List.set_cons_succ, i64_w, i32_w]
                 rfl
                refine pure_ (i := 10) (N := some 84) (v := ?_) (a' := ?_) (bm 37 2077196287) rfl rfl (any_of HT_.out (by kernel_rfl)) (fun _ _ _ h => h) (Or.inl ⟨by rfl, ?_⟩) ?_ ?_
                rotate_left
                ·intro w'
                 go_simp
                 with_reducible rfl
                rotate_left
                ·simp only [Act.put, List.setIfInBounds_toArray, List.set_cons_zero, List.set_cons_succ, i64_w, i32_w]
                 rfl
                exact norm_ (by simp only [putAll, Act.put, List.setIfInBounds_toArray, List.set_cons_zero, List.set_cons_succ] <;> rfl) (hJ4_9 () _ ⟨hHeld, (BK292.out), (BK298.out), (BK302.out), (by first | exact HB.out | (repeat (first | exact HB.out | apply pw_below_drewN | apply below_drew1 | apply below_alloc)))⟩)
               skip
               refine box_step ?hg (N := 15) ?hd (cs := #[.int .i64 0, .int .i64 0, .int .i64 0]) (t := 26) ?hr ?_; (case hd => rfl); (case hg => rfl); (case hr => first | (go_simp; done) | (go_simp; rfl))
               intro gb320 hg w94 hbox hb
               have BK320 := Aside0.mk (hbox)
               have GE320 := Aside0.mk (bG hg (by first | exact HB.out | (repeat (first | exact HB.out | apply pw_below_drewN | apply below_drew1 | apply below_alloc))))
               have NB292_320 := cN hg BK292
               have NB320_292 := cM hg BK292
               have NB298_320 := cN hg BK298
               have NB320_298 := cM hg BK298
               have NB302_320 := cN hg BK302
               have NB320_302 := cM hg BK302
               replace BK292 := cB hb BK292
               replace BK298 := cB hb BK298
               replace BK302 := cB hb BK302
               replace HB := Aside0.mk (below_step (by first | exact HB.out | (repeat (first | exact HB.out | apply pw_below_drewN | apply below_drew1 | apply below_alloc))) hb)
               clear hb hbox hg
               refine hK.out _ _ ⟨(blk_cell BK298.out 0).trans rfl, (blk_cell BK298.out 1).trans rfl, (blk_cell BK298.out 2).trans rfl, (blk_cell BK302.out 0).trans rfl, (blk_cell BK302.out 1).trans rfl, (blk_cell BK302.out 2).trans rfl⟩ (fun hHeld => ?_)
               clear hK K
               refine norm_ (a' := ?_) ?_ ?_
               rotate_left
               ·show Act.put _ (some 15) _ = _
                simp only [Act.put, List.setIfInBounds_toArray, List.set_cons_zero, List.set_cons_succ, i64_w, i32_w]
                rfl
               exact norm_ (by simp only [putAll, Act.put, List.setIfInBounds_toArray, List.set_cons_zero, List.set_cons_succ] <;> rfl) (hJ4_35 (gb320) _ ⟨hHeld, (BK292.out), (BK298.out), (BK302.out), (BK320.out), GE320.out, NB292_320.out, NB320_292.out, NB298_320.out, NB320_298.out, NB302_320.out, NB320_302.out, (by first | exact HB.out | (repeat (first | exact HB.out | apply pw_below_drewN | apply below_drew1 | apply below_alloc)))⟩)
              skip
              rintro gb320 w94 ⟨hS_, h0_, h1_, h2_, h3_, h4_, h5_, h6_, h7_, h8_, h9_, h10_, h11_⟩
              have n0_ : Aside0 (w94.heap[gb292]? = some (.cells #[.int .i64 0, .int .i64 0, .int .i64 0] 26 (0, 0))) := ⟨h0_⟩
              have n1_ : Aside0 (w94.heap[gb298]? = some (.cells #[.int .i64 t295, .int .i64 t296, .int .i64 t297] 26 (0, 0))) := ⟨h1_⟩
              have n2_ : Aside0 (w94.heap[gb302]? = some (.cells #[.int .i64 t299, .int .i64 t300, .int .i64 t301] 26 (0, 0))) := ⟨h2_⟩
              have n3_ : Aside0 (w94.heap[gb320]? = some (.cells #[.int .i64 0, .int .i64 0, .int .i64 0] 26 (0, 0))) := ⟨h3_⟩
              have GE320 : Aside0 (w.heap.size ≤ gb320) := ⟨h4_⟩
              have NB292_320 : Aside0 (gb292 ≠ gb320) := ⟨h5_⟩
              have NB320_292 : Aside0 (gb320 ≠ gb292) := ⟨h6_⟩
              have NB298_320 : Aside0 (gb298 ≠ gb320) := ⟨h7_⟩
              have NB320_298 : Aside0 (gb320 ≠ gb298) := ⟨h8_⟩
              have NB302_320 : Aside0 (gb302 ≠ gb320) := ⟨h9_⟩
              have NB320_302 : Aside0 (gb320 ≠ gb302) := ⟨h10_⟩
              have n11_ : Aside0 (Below w.heap.size w w94) := ⟨h11_⟩
              clear BK292
              clear BK298
              clear BK302
              clear HB
              clear h0_ h1_ h2_ h3_ h4_ h5_ h6_ h7_ h8_ h9_ h10_ h11_
              have BK292 := n0_
              have BK298 := n1_
              have BK302 := n2_
              have BK320 := n3_
              have HB := n11_
              clear n0_ n1_ n2_ n3_ n11_
              have hHeld : w94.cell? ⟨gb298, 0, none⟩ = some (.int .i64 t295) ∧ w94.cell? ⟨gb298, 1, none⟩ = some (.int .i64 t296) ∧ w94.cell? ⟨gb298, 2, none⟩ = some (.int .i64 t297) ∧ w94.cell? ⟨gb302, 0, none⟩ = some (.int .i64 t299) ∧ w94.cell? ⟨gb302, 1, none⟩ = some (.int .i64 t300) ∧ w94.cell? ⟨gb302, 2, none⟩ = some (.int .i64 t301) := hS_
              refine norm_ (a' := ?_) ?_ ?_
              rotate_left
              ·simp only [putAll, Act.put, List.setIfInBounds_toArray, List.set_cons_zero, List.set_cons_succ]
               rfl
              refine one_ (i := 9) (N := some 83) (bm 37 36436933631) rfl rfl (one_of HT_.out (by kernel_rfl)) (by decide) (fun K hK => ?_)
              refine goes_ Try.func38 (by kernel_rfl) rfl #[.int .i64 (wrap64 ((wrap64 (t310 - t308)) * t299)), .int .i64 4096] (by rfl) rfl rfl (by (try simp only [List.map_toArray, List.map_cons, List.map_nil]); first | done | rfl | (simp only [List.length_drop, List.length_take]; rfl)) ?_
              with_reducible refine (relievoref19_Floor.calls (wrap64 ((wrap64 (t310 - t308)) * t299)) 4096 t312 _ A68.out).mono ?_
              rintro e w' ⟨rfl, ⟨nd, rfl⟩⟩
              refine ⟨_, rfl, ?_⟩
              refine hK.out _ _ ⟨(blk_cell BK298.out 0).trans rfl, (blk_cell BK298.out 1).trans rfl, (blk_cell BK298.out 2).trans rfl, (blk_cell BK302.out 0).trans rfl, (blk_cell BK302.out 1).trans rfl, (blk_cell BK302.out 2).trans rfl⟩ (fun hHeld => ?_)
              clear hK K
              refine norm_ (a' := ?_) ?_ ?_
              rotate_left
              ·show Act.put _ (some 83) _ = _
               simp only [Act.put, List.setIfInBounds_toArray, List.set_cons_zero, List.set_cons_succ, i64_w, i32_w]
               rfl
              refine pure_ (i := 10) (N := some 84) (v := ?_) (a' := ?_) (bm 37 36436934655) rfl rfl (any_of HT_.out (by kernel_rfl)) (fun _ _ _ h => h) (Or.inl ⟨by rfl, ?_⟩) ?_ ?_
              rotate_left
              ·intro w'
               go_simp
               with_reducible rfl
              rotate_left
              ·simp only [Act.put, List.setIfInBounds_toArray, List.set_cons_zero, List.set_cons_succ, i64_w, i32_w]
               rfl
              exact norm_ (by simp only [putAll, Act.put, List.setIfInBounds_toArray, List.set_cons_zero, List.set_cons_succ] <;> rfl) (hJ4_9_35 (gb320) _ ⟨hHeld, (BK292.out), (BK298.out), (BK302.out), (BK320.out), GE320.out, NB292_320.out, NB320_292.out, NB298_320.out, NB320_298.out, NB302_320.out, NB320_302.out, (by first | exact HB.out | (repeat (first | exact HB.out | apply pw_below_drewN | apply below_drew1 | apply below_alloc)))⟩)
             skip
             rintro _ w93 ⟨hS_, h0_, h1_, h2_, h3_⟩
             have n0_ : Aside0 (w93.heap[gb292]? = some (.cells #[.int .i64 0, .int .i64 0, .int .i64 0] 26 (0, 0))) := ⟨h0_⟩
             have n1_ : Aside0 (w93.heap[gb298]? = some (.cells #[.int .i64 t295, .int .i64 t296, .int .i64 t297] 26 (0, 0))) := ⟨h1_⟩
             have n2_ : Aside0 (w93.heap[gb302]? = some (.cells #[.int .i64 t299, .int .i64 t300, .int .i64 t301] 26 (0, 0))) := ⟨h2_⟩
             have n3_ : Aside0 (Below w.heap.size w w93) := ⟨h3_⟩
             clear BK292
             clear BK298
             clear BK302
             clear HB
             clear h0_ h1_ h2_ h3_
             have BK292 := n0_
             have BK298 := n1_
             have BK302 := n2_
             have HB := n3_
             clear n0_ n1_ n2_ n3_
             have hHeld : w93.cell? ⟨gb298, 0, none⟩ = some (.int .i64 t295) ∧ w93.cell? ⟨gb298, 1, none⟩ = some (.int .i64 t296) ∧ w93.cell? ⟨gb298, 2, none⟩ = some (.int .i64 t297) ∧ w93.cell? ⟨gb302, 0, none⟩ = some (.int .i64 t299) ∧ w93.cell? ⟨gb302, 1, none⟩ = some (.int .i64 t300) ∧ w93.cell? ⟨gb302, 2, none⟩ = some (.int .i64 t301) := hS_
             refine norm_ (a' := ?_) ?_ ?_
             rotate_left
             ·simp only [putAll, Act.put, List.setIfInBounds_toArray, List.set_cons_zero, List.set_cons_succ]
              rfl
             refine two_ (i := 15) (j := 35) (Ni := some 89) (Nj := some 15) (bm 37 2077229055) (bm 37 36436934655) rfl rfl rfl rfl (two_of HT_.out (by kernel_rfl)) (by decide) (by decide) (fun K hK => ?_) (fun K hK => ?_)
             ·skip
              refine goes_ Try.func38 (by kernel_rfl) rfl #[.int .i64 (wrap64 (a2 * t296)), .int .i64 256] (by rfl) rfl rfl (by (try simp only [List.map_toArray, List.map_cons, List.map_nil]); first | done | rfl | (simp only [List.length_drop, List.length_take]; rfl)) ?_
              with_reducible refine (relievoref19_Floor.calls (wrap64 (a2 * t296)) 256 t313 _ A69.out).mono ?_
              rintro e w' ⟨rfl, ⟨nd, rfl⟩⟩
              refine ⟨_, rfl, ?_⟩
              refine hK.out _ _ ⟨(blk_cell BK298.out 0).trans rfl, (blk_cell BK298.out 1).trans rfl, (blk_cell BK298.out 2).trans rfl, (blk_cell BK302.out 0).trans rfl, (blk_cell BK302.out 1).trans rfl, (blk_cell BK302.out 2).trans rfl⟩ (fun hHeld => ?_)
              clear hK K
              refine norm_ (a' := ?_) ?_ ?_
              rotate_left
              ·show Act.put _ (some 89) _ = _
               simp only [Act.put, List.setIfInBounds_toArray, List.set_cons_zero, List.set_cons_succ, i64_w, i32_w]
               rfl
              exact norm_ (by simp only [putAll, Act.put, List.setIfInBounds_toArray, List.set_cons_zero, List.set_cons_succ] <;> rfl) (hJ4_9_15 () _ ⟨hHeld, (BK292.out), (BK298.out), (BK302.out), (by first | exact HB.out | (repeat (first | exact HB.out | apply pw_below_drewN | apply below_drew1 | apply below_alloc)))⟩)
             skip
             refine box_step ?hg (N := 15) ?hd (cs := #[.int .i64 0, .int .i64 0, .int .i64 0]) (t := 26) ?hr ?_; (case hd => rfl); (case hg => rfl); (case hr => first | (go_simp; done) | (go_simp; rfl))
             intro gb320 hg w94 hbox hb
             have BK320 := Aside0.mk (hbox)
             have GE320 := Aside0.mk (bG hg (by first | exact HB.out | (repeat (first | exact HB.out | apply pw_below_drewN | apply below_drew1 | apply below_alloc))))
             have NB292_320 := cN hg BK292
             have NB320_292 := cM hg BK292
             have NB298_320 := cN hg BK298
             have NB320_298 := cM hg BK298
             have NB302_320 := cN hg BK302
             have NB320_302 := cM hg BK302
             replace BK292 := cB hb BK292
             replace BK298 := cB hb BK298
             replace BK302 := cB hb BK302
             replace HB := Aside0.mk (below_step (by first | exact HB.out | (repeat (first | exact HB.out | apply pw_below_drewN | apply below_drew1 | apply below_alloc))) hb)
             clear hb hbox hg
             refine hK.out _ _ ⟨(blk_cell BK298.out 0).trans rfl, (blk_cell BK298.out 1).trans rfl, (blk_cell BK298.out 2).trans rfl, (blk_cell BK302.out 0).trans rfl, (blk_cell BK302.out 1).trans rfl, (blk_cell BK302.out 2).trans rfl⟩ (fun hHeld => ?_)
             clear hK K
             refine norm_ (a' := ?_) ?_ ?_
             rotate_left
             ·show Act.put _ (some 15) _ = _
              simp only [Act.put, List.setIfInBounds_toArray, List.set_cons_zero, List.set_cons_succ, i64_w, i32_w]
              rfl
             exact norm_ (by simp only [putAll, Act.put, List.setIfInBounds_toArray, List.set_cons_zero, List.set_cons_succ] <;> rfl) (hJ4_9_35 (gb320) _ ⟨hHeld, (BK292.out), (BK298.out), (BK302.out), (BK320.out), GE320.out, NB292_320.out, NB320_292.out, NB298_320.out, NB320_298.out, NB302_320.out, NB320_302.out, (by first | exact HB.out | (repeat (first | exact HB.out | apply pw_below_drewN | apply below_drew1 | apply below_alloc)))⟩)
            skip
            rintro gb320 w94 ⟨hS_, h0_, h1_, h2_, h3_, h4_, h5_, h6_, h7_, h8_, h9_, h10_, h11_⟩
            have n0_ : Aside0 (w94.heap[gb292]? = some (.cells #[.int .i64 0, .int .i64 0, .int .i64 0] 26 (0, 0))) := ⟨h0_⟩
            have n1_ : Aside0 (w94.heap[gb298]? = some (.cells #[.int .i64 t295, .int .i64 t296, .int .i64 t297] 26 (0, 0))) := ⟨h1_⟩
            have n2_ : Aside0 (w94.heap[gb302]? = some (.cells #[.int .i64 t299, .int .i64 t300, .int .i64 t301] 26 (0, 0))) := ⟨h2_⟩
            have n3_ : Aside0 (w94.heap[gb320]? = some (.cells #[.int .i64 0, .int .i64 0, .int .i64 0] 26 (0, 0))) := ⟨h3_⟩
            have GE320 : Aside0 (w.heap.size ≤ gb320) := ⟨h4_⟩
            have NB292_320 : Aside0 (gb292 ≠ gb320) := ⟨h5_⟩
            have NB320_292 : Aside0 (gb320 ≠ gb292) := ⟨h6_⟩
            have NB298_320 : Aside0 (gb298 ≠ gb320) := ⟨h7_⟩
            have NB320_298 : Aside0 (gb320 ≠ gb298) := ⟨h8_⟩
            have NB302_320 : Aside0 (gb302 ≠ gb320) := ⟨h9_⟩
            have NB320_302 : Aside0 (gb320 ≠ gb302) := ⟨h10_⟩
            have n11_ : Aside0 (Below w.heap.size w w94) := ⟨h11_⟩
            clear BK292
            clear BK298
            clear BK302
            clear HB
            clear h0_ h1_ h2_ h3_ h4_ h5_ h6_ h7_ h8_ h9_ h10_ h11_
            have BK292 := n0_
            have BK298 := n1_
            have BK302 := n2_
            have BK320 := n3_
            have HB := n11_
            clear n0_ n1_ n2_ n3_ n11_
            have hHeld : w94.cell? ⟨gb298, 0, none⟩ = some (.int .i64 t295) ∧ w94.cell? ⟨gb298, 1, none⟩ = some (.int .i64 t296) ∧ w94.cell? ⟨gb298, 2, none⟩ = some (.int .i64 t297) ∧ w94.cell? ⟨gb302, 0, none⟩ = some (.int .i64 t299) ∧ w94.cell? ⟨gb302, 1, none⟩ = some (.int .i64 t300) ∧ w94.cell? ⟨gb302, 2, none⟩ = some (.int .i64 t301) := hS_
            refine norm_ (a' := ?_) ?_ ?_
            rotate_left
            ·simp only [putAll, Act.put, List.setIfInBounds_toArray, List.set_cons_zero, List.set_cons_succ]
             rfl
            refine one_ (i := 15) (N := some 89) (bm 37 36436967423) rfl rfl (one_of HT_.out (by kernel_rfl)) (by decide) (fun K hK => ?_)
            refine goes_ Try.func38 (by kernel_rfl) rfl #[.int .i64 (wrap64 (a2 * t296)), .int .i64 256] (by rfl) rfl rfl (by (try simp only [List.map_toArray, List.map_cons, List.map_nil]); first | done | rfl | (simp only [List.length_drop, List.length_take]; rfl)) ?_
            with_reducible refine (relievoref19_Floor.calls (wrap64 (a2 * t296)) 256 t313 _ A69.out).mono ?_
            rintro e w' ⟨rfl, ⟨nd, rfl⟩⟩
            refine ⟨_, rfl, ?_⟩
            refine hK.out _ _ ⟨(blk_cell BK298.out 0).trans rfl, (blk_cell BK298.out 1).trans rfl, (blk_cell BK298.out 2).trans rfl, (blk_cell BK302.out 0).trans rfl, (blk_cell BK302.out 1).trans rfl, (blk_cell BK302.out 2).trans rfl⟩ (fun hHeld => ?_)
            clear hK K
            refine norm_ (a' := ?_) ?_ ?_
            rotate_left
            ·show Act.put _ (some 89) _ = _
             simp only [Act.put, List.setIfInBounds_toArray, List.set_cons_zero, List.set_cons_succ, i64_w, i32_w]
             rfl
            exact norm_ (by simp only [putAll, Act.put, List.setIfInBounds_toArray, List.set_cons_zero, List.set_cons_succ] <;> rfl) (hJ4_9_15_35 (gb320) _ ⟨hHeld, (BK292.out), (BK298.out), (BK302.out), (BK320.out), GE320.out, NB292_320.out, NB320_292.out, NB298_320.out, NB320_298.out, NB302_320.out, NB320_302.out, (by first | exact HB.out | (repeat (first | exact HB.out | apply pw_below_drewN | apply below_drew1 | apply below_alloc)))⟩)
           skip
           rintro _ w93 ⟨hS_, h0_, h1_, h2_, h3_⟩
           have n0_ : Aside0 (w93.heap[gb292]? = some (.cells #[.int .i64 0, .int .i64 0, .int .i64 0] 26 (0, 0))) := ⟨h0_⟩
           have n1_ : Aside0 (w93.heap[gb298]? = some (.cells #[.int .i64 t295, .int .i64 t296, .int .i64 t297] 26 (0, 0))) := ⟨h1_⟩
           have n2_ : Aside0 (w93.heap[gb302]? = some (.cells #[.int .i64 t299, .int .i64 t300, .int .i64 t301] 26 (0, 0))) := ⟨h2_⟩
           have n3_ : Aside0 (Below w.heap.size w w93) := ⟨h3_⟩
           clear BK292
           clear BK298
           clear BK302
           clear HB
           clear h0_ h1_ h2_ h3_
           have BK292 := n0_
           have BK298 := n1_
           have BK302 := n2_
           have HB := n3_
           clear n0_ n1_ n2_ n3_
           have hHeld : w93.cell? ⟨gb298, 0, none⟩ = some (.int .i64 t295) ∧ w93.cell? ⟨gb298, 1, none⟩ = some (.int .i64 t296) ∧ w93.cell? ⟨gb298, 2, none⟩ = some (.int .i64 t297) ∧ w93.cell? ⟨gb302, 0, none⟩ = some (.int .i64 t299) ∧ w93.cell? ⟨gb302, 1, none⟩ = some (.int .i64 t300) ∧ w93.cell? ⟨gb302, 2, none⟩ = some (.int .i64 t301) := hS_
           refine norm_ (a' := ?_) ?_ ?_
           rotate_left
           ·simp only [putAll, Act.put, List.setIfInBounds_toArray, List.set_cons_zero, List.set_cons_succ]
            rfl
           refine two_ (i := 20) (j := 35) (Ni := some 94) (Nj := some 15) (bm 37 2078277631) (bm 37 36436967423) rfl rfl rfl rfl (two_of HT_.out (by kernel_rfl)) (by decide) (by decide) (fun K hK => ?_) (fun K hK => ?_)
           ·skip
            refine goes_ Try.func38 (by kernel_rfl) rfl #[.int .i64 (wrap64 ((wrap64 (t310 - t308)) * t300)), .int .i64 4096] (by rfl) rfl rfl (by (try simp only [List.map_toArray, List.map_cons, List.map_nil]); first | done | rfl | (simp only [List.length_drop, List.length_take]; rfl)) ?_
            with_reducible refine (relievoref19_Floor.calls (wrap64 ((wrap64 (t310 - t308)) * t300)) 4096 t314 _ A70.out).mono ?_
            rintro e w' ⟨rfl, ⟨nd, rfl⟩⟩
            refine ⟨_, rfl, ?_⟩
            refine hK.out _ _ ⟨(blk_cell BK298.out 0).trans rfl, (blk_cell BK298.out 1).trans rfl, (blk_cell BK298.out 2).trans rfl, (blk_cell BK302.out 0).trans rfl, (blk_cell BK302.out 1).trans rfl, (blk_cell BK302.out 2).trans rfl⟩ (fun hHeld => ?_)
            clear hK K
            refine norm_ (a' := ?_) ?_ ?_
            rotate_left
            ·show Act.put _ (some 94) _ = _
             simp only [Act.put, List.setIfInBounds_toArray, List.set_cons_zero, List.set_cons_succ, i64_w, i32_w]
             rfl
            refine pure_ (i := 21) (N := some 95) (v := ?_) (a' := ?_) (bm 37 2080374783) rfl rfl (any_of HT_.out (by kernel_rfl)) (fun _ _ _ h => h) (Or.inl ⟨by rfl, ?_⟩) ?_ ?_
            rotate_left
            ·intro w'
             go_simp
             with_reducible rfl
            rotate_left
            ·simp only [Act.put, List.setIfInBounds_toArray, List.set_cons_zero, List.set_cons_succ, i64_w, i32_w]
             rfl
            exact norm_ (by simp only [putAll, Act.put, List.setIfInBounds_toArray, List.set_cons_zero, List.set_cons_succ] <;> rfl) (hJ4_9_15_20 () _ ⟨hHeld, (BK292.out), (BK298.out), (BK302.out), (by first | exact HB.out | (repeat (first | exact HB.out | apply pw_below_drewN | apply below_drew1 | apply below_alloc)))⟩)
           skip
           refine box_step ?hg (N := 15) ?hd (cs := #[.int .i64 0, .int .i64 0, .int .i64 0]) (t := 26) ?hr ?_; (case hd => rfl); (case hg => rfl); (case hr => first | (go_simp; done) | (go_simp; rfl))
           intro gb320 hg w94 hbox hb
           have BK320 := Aside0.mk (hbox)
           have GE320 := Aside0.mk (bG hg (by first | exact HB.out | (repeat (first | exact HB.out | apply pw_below_drewN | apply below_drew1 | apply below_alloc))))
           have NB292_320 := cN hg BK292
           have NB320_292 := cM hg BK292
           have NB298_320 := cN hg BK298
           have NB320_298 := cM hg BK298
           have NB302_320 := cN hg BK302
           have NB320_302 := cM hg BK302
           replace BK292 := cB hb BK292
           replace BK298 := cB hb BK298
           replace BK302 := cB hb BK302
           replace HB := Aside0.mk (below_step (by first | exact HB.out | (repeat (first | exact HB.out | apply pw_below_drewN | apply below_drew1 | apply below_alloc))) hb)
           clear hb hbox hg
           refine hK.out _ _ ⟨(blk_cell BK298.out 0).trans rfl, (blk_cell BK298.out 1).trans rfl, (blk_cell BK298.out 2).trans rfl, (blk_cell BK302.out 0).trans rfl, (blk_cell BK302.out 1).trans rfl, (blk_cell BK302.out 2).trans rfl⟩ (fun hHeld => ?_)
           clear hK K
           refine norm_ (a' := ?_) ?_ ?_
           rotate_left
           ·show Act.put _ (some 15) _ = _
            simp only [Act.put, List.setIfInBounds_toArray, List.set_cons_zero, List.set_cons_succ, i64_w, i32_w]
            rfl
           exact norm_ (by simp only [putAll, Act.put, List.setIfInBounds_toArray, List.set_cons_zero, List.set_cons_succ] <;> rfl) (hJ4_9_15_35 (gb320) _ ⟨hHeld, (BK292.out), (BK298.out), (BK302.out), (BK320.out), GE320.out, NB292_320.out, NB320_292.out, NB298_320.out, NB320_298.out, NB302_320.out, NB320_302.out, (by first | exact HB.out | (repeat (first | exact HB.out | apply pw_below_drewN | apply below_drew1 | apply below_alloc)))⟩)
          skip
          rintro gb320 w94 ⟨hS_, h0_, h1_, h2_, h3_, h4_, h5_, h6_, h7_, h8_, h9_, h10_, h11_⟩
          have n0_ : Aside0 (w94.heap[gb292]? = some (.cells #[.int .i64 0, .int .i64 0, .int .i64 0] 26 (0, 0))) := ⟨h0_⟩
          have n1_ : Aside0 (w94.heap[gb298]? = some (.cells #[.int .i64 t295, .int .i64 t296, .int .i64 t297] 26 (0, 0))) := ⟨h1_⟩
          have n2_ : Aside0 (w94.heap[gb302]? = some (.cells #[.int .i64 t299, .int .i64 t300, .int .i64 t301] 26 (0, 0))) := ⟨h2_⟩
          have n3_ : Aside0 (w94.heap[gb320]? = some (.cells #[.int .i64 0, .int .i64 0, .int .i64 0] 26 (0, 0))) := ⟨h3_⟩
          have GE320 : Aside0 (w.heap.size ≤ gb320) := ⟨h4_⟩
          have NB292_320 : Aside0 (gb292 ≠ gb320) := ⟨h5_⟩
          have NB320_292 : Aside0 (gb320 ≠ gb292) := ⟨h6_⟩
          have NB298_320 : Aside0 (gb298 ≠ gb320) := ⟨h7_⟩
          have NB320_298 : Aside0 (gb320 ≠ gb298) := ⟨h8_⟩
          have NB302_320 : Aside0 (gb302 ≠ gb320) := ⟨h9_⟩
          have NB320_302 : Aside0 (gb320 ≠ gb302) := ⟨h10_⟩
          have n11_ : Aside0 (Below w.heap.size w w94) := ⟨h11_⟩
          clear BK292
          clear BK298
          clear BK302
          clear HB
          clear h0_ h1_ h2_ h3_ h4_ h5_ h6_ h7_ h8_ h9_ h10_ h11_
          have BK292 := n0_
          have BK298 := n1_
          have BK302 := n2_
          have BK320 := n3_
          have HB := n11_
          clear n0_ n1_ n2_ n3_ n11_
          have hHeld : w94.cell? ⟨gb298, 0, none⟩ = some (.int .i64 t295) ∧ w94.cell? ⟨gb298, 1, none⟩ = some (.int .i64 t296) ∧ w94.cell? ⟨gb298, 2, none⟩ = some (.int .i64 t297) ∧ w94.cell? ⟨gb302, 0, none⟩ = some (.int .i64 t299) ∧ w94.cell? ⟨gb302, 1, none⟩ = some (.int .i64 t300) ∧ w94.cell? ⟨gb302, 2, none⟩ = some (.int .i64 t301) := hS_
          refine norm_ (a' := ?_) ?_ ?_
          rotate_left
          ·simp only [putAll, Act.put, List.setIfInBounds_toArray, List.set_cons_zero, List.set_cons_succ]
           rfl
          refine one_ (i := 20) (N := some 94) (bm 37 36438015999) rfl rfl (one_of HT_.out (by kernel_rfl)) (by decide) (fun K hK => ?_)
          refine goes_ Try.func38 (by kernel_rfl) rfl #[.int .i64 (wrap64 ((wrap64 (t310 - t308)) * t300)), .int .i64 4096] (by rfl) rfl rfl (by (try simp only [List.map_toArray, List.map_cons, List.map_nil]); first | done | rfl | (simp only [List.length_drop, List.length_take]; rfl)) ?_
          with_reducible refine (relievoref19_Floor.calls (wrap64 ((wrap64 (t310 - t308)) * t300)) 4096 t314 _ A70.out).mono ?_
          rintro e w' ⟨rfl, ⟨nd, rfl⟩⟩
          refine ⟨_, rfl, ?_⟩
          refine hK.out _ _ ⟨(blk_cell BK298.out 0).trans rfl, (blk_cell BK298.out 1).trans rfl, (blk_cell BK298.out 2).trans rfl, (blk_cell BK302.out 0).trans rfl, (blk_cell BK302.out 1).trans rfl, (blk_cell BK302.out 2).trans rfl⟩ (fun hHeld => ?_)
          clear hK K
          refine norm_ (a' := ?_) ?_ ?_
          rotate_left
          ·show Act.put _ (some 94) _ = _
           simp only [Act.put, List.setIfInBounds_toArray, List.set_cons_zero, List.set_cons_succ, i64_w, i32_w]
           rfl
          refine pure_ (i := 21) (N := some 95) (v := ?_) (a' := ?_) (bm 37 36440113151) rfl rfl (any_of HT_.out (by kernel_rfl)) (fun _ _ _ h => h) (Or.inl ⟨by rfl, ?_⟩) ?_ ?_
          rotate_left
          ·intro w'
           go_simp
           with_reducible rfl
          rotate_left
          ·simp only [Act.put, List.setIfInBounds_toArray, List.set_cons_zero, List.set_cons_succ, i64_w, i32_w]
           rfl
          exact norm_ (by simp only [putAll, Act.put, List.setIfInBounds_toArray, List.set_cons_zero, List.set_cons_succ] <;> rfl) (hJ4_9_15_20_35 (gb320) _ ⟨hHeld, (BK292.out), (BK298.out), (BK302.out), (BK320.out), GE320.out, NB292_320.out, NB320_292.out, NB298_320.out, NB320_298.out, NB302_320.out, NB320_302.out, (by first | exact HB.out | (repeat (first | exact HB.out | apply pw_below_drewN | apply below_drew1 | apply below_alloc)))⟩)
         skip
         rintro _ w93 ⟨hS_, h0_, h1_, h2_, h3_⟩
         have n0_ : Aside0 (w93.heap[gb292]? = some (.cells #[.int .i64 0, .int .i64 0, .int .i64 0] 26 (0, 0))) := ⟨h0_⟩
         have n1_ : Aside0 (w93.heap[gb298]? = some (.cells #[.int .i64 t295, .int .i64 t296, .int .i64 t297] 26 (0, 0))) := ⟨h1_⟩
         have n2_ : Aside0 (w93.heap[gb302]? = some (.cells #[.int .i64 t299, .int .i64 t300, .int .i64 t301] 26 (0, 0))) := ⟨h2_⟩
         have n3_ : Aside0 (Below w.heap.size w w93) := ⟨h3_⟩
         clear BK292
         clear BK298
         clear BK302
         clear HB
         clear h0_ h1_ h2_ h3_
         have BK292 := n0_
         have BK298 := n1_
         have BK302 := n2_
         have HB := n3_
         clear n0_ n1_ n2_ n3_
         have hHeld : w93.cell? ⟨gb298, 0, none⟩ = some (.int .i64 t295) ∧ w93.cell? ⟨gb298, 1, none⟩ = some (.int .i64 t296) ∧ w93.cell? ⟨gb298, 2, none⟩ = some (.int .i64 t297) ∧ w93.cell? ⟨gb302, 0, none⟩ = some (.int .i64 t299) ∧ w93.cell? ⟨gb302, 1, none⟩ = some (.int .i64 t300) ∧ w93.cell? ⟨gb302, 2, none⟩ = some (.int .i64 t301) := hS_
         refine norm_ (a' := ?_) ?_ ?_
         rotate_left
         ·simp only [putAll, Act.put, List.setIfInBounds_toArray, List.set_cons_zero, List.set_cons_succ]
          rfl
         refine two_ (i := 26) (j := 35) (Ni := some 100) (Nj := some 15) (bm 37 2147483647) (bm 37 36440113151) rfl rfl rfl rfl (two_of HT_.out (by kernel_rfl)) (by decide) (by decide) (fun K hK => ?_) (fun K hK => ?_)
         ·skip
          refine goes_ Try.func38 (by kernel_rfl) rfl #[.int .i64 (wrap64 (a2 * t297)), .int .i64 256] (by rfl) rfl rfl (by (try simp only [List.map_toArray, List.map_cons, List.map_nil]); first | done | rfl | (simp only [List.length_drop, List.length_take]; rfl)) ?_
          with_reducible refine (relievoref19_Floor.calls (wrap64 (a2 * t297)) 256 t315 _ A71.out).mono ?_
          rintro e w' ⟨rfl, ⟨nd, rfl⟩⟩
          refine ⟨_, rfl, ?_⟩
          refine hK.out _ _ ⟨(blk_cell BK298.out 0).trans rfl, (blk_cell BK298.out 1).trans rfl, (blk_cell BK298.out 2).trans rfl, (blk_cell BK302.out 0).trans rfl, (blk_cell BK302.out 1).trans rfl, (blk_cell BK302.out 2).trans rfl⟩ (fun hHeld => ?_)
          clear hK K
          refine norm_ (a' := ?_) ?_ ?_
          rotate_left
          ·show Act.put _ (some 100) _ = _
           simp only [Act.put, List.setIfInBounds_toArray, List.set_cons_zero, List.set_cons_succ, i64_w, i32_w]
           rfl
          exact norm_ (by simp only [putAll, Act.put, List.setIfInBounds_toArray, List.set_cons_zero, List.set_cons_succ] <;> rfl) (hJ4_9_15_20_26 () _ ⟨hHeld, (BK292.out), (BK298.out), (BK302.out), (by first | exact HB.out | (repeat (first | exact HB.out | apply pw_below_drewN | apply below_drew1 | apply below_alloc)))⟩)
         skip
         refine box_step ?hg (N := 15) ?hd (cs := #[.int .i64 0, .int .i64 0, .int .i64 0]) (t := 26) ?hr ?_; (case hd => rfl); (case hg => rfl); (case hr => first | (go_simp; done) | (go_simp; rfl))
         intro gb320 hg w94 hbox hb
         have BK320 := Aside0.mk (hbox)
         have GE320 := Aside0.mk (bG hg (by first | exact HB.out | (repeat (first | exact HB.out | apply pw_below_drewN | apply below_drew1 | apply below_alloc))))
         have NB292_320 := cN hg BK292
         have NB320_292 := cM hg BK292
         have NB298_320 := cN hg BK298
         have NB320_298 := cM hg BK298
         have NB302_320 := cN hg BK302
         have NB320_302 := cM hg BK302
         replace BK292 := cB hb BK292
         replace BK298 := cB hb BK298
         replace BK302 := cB hb BK302
         replace HB := Aside0.mk (below_step (by first | exact HB.out | (repeat (first | exact HB.out | apply pw_below_drewN | apply below_drew1 | apply below_alloc))) hb)
         clear hb hbox hg
         refine hK.out _ _ ⟨(blk_cell BK298.out 0).trans rfl, (blk_cell BK298.out 1).trans rfl, (blk_cell BK298.out 2).trans rfl, (blk_cell BK302.out 0).trans rfl, (blk_cell BK302.out 1).trans rfl, (blk_cell BK302.out 2).trans rfl⟩ (fun hHeld => ?_)
         clear hK K
         refine norm_ (a' := ?_) ?_ ?_
         rotate_left
         ·show Act.put _ (some 15) _ = _
          simp only [Act.put, List.setIfInBounds_toArray, List.set_cons_zero, List.set_cons_succ, i64_w, i32_w]
          rfl
         exact norm_ (by simp only [putAll, Act.put, List.setIfInBounds_toArray, List.set_cons_zero, List.set_cons_succ] <;> rfl) (hJ4_9_15_20_35 (gb320) _ ⟨hHeld, (BK292.out), (BK298.out), (BK302.out), (BK320.out), GE320.out, NB292_320.out, NB320_292.out, NB298_320.out, NB320_298.out, NB302_320.out, NB320_302.out, (by first | exact HB.out | (repeat (first | exact HB.out | apply pw_below_drewN | apply below_drew1 | apply below_alloc)))⟩)
        skip
        rintro gb320 w94 ⟨hS_, h0_, h1_, h2_, h3_, h4_, h5_, h6_, h7_, h8_, h9_, h10_, h11_⟩
        have n0_ : Aside0 (w94.heap[gb292]? = some (.cells #[.int .i64 0, .int .i64 0, .int .i64 0] 26 (0, 0))) := ⟨h0_⟩
        have n1_ : Aside0 (w94.heap[gb298]? = some (.cells #[.int .i64 t295, .int .i64 t296, .int .i64 t297] 26 (0, 0))) := ⟨h1_⟩
        have n2_ : Aside0 (w94.heap[gb302]? = some (.cells #[.int .i64 t299, .int .i64 t300, .int .i64 t301] 26 (0, 0))) := ⟨h2_⟩
        have n3_ : Aside0 (w94.heap[gb320]? = some (.cells #[.int .i64 0, .int .i64 0, .int .i64 0] 26 (0, 0))) := ⟨h3_⟩
        have GE320 : Aside0 (w.heap.size ≤ gb320) := ⟨h4_⟩
        have NB292_320 : Aside0 (gb292 ≠ gb320) := ⟨h5_⟩
        have NB320_292 : Aside0 (gb320 ≠ gb292) := ⟨h6_⟩
        have NB298_320 : Aside0 (gb298 ≠ gb320) := ⟨h7_⟩
        have NB320_298 : Aside0 (gb320 ≠ gb298) := ⟨h8_⟩
        have NB302_320 : Aside0 (gb302 ≠ gb320) := ⟨h9_⟩
        have NB320_302 : Aside0 (gb320 ≠ gb302) := ⟨h10_⟩
        have n11_ : Aside0 (Below w.heap.size w w94) := ⟨h11_⟩
        clear BK292
        clear BK298
        clear BK302
        clear HB
        clear h0_ h1_ h2_ h3_ h4_ h5_ h6_ h7_ h8_ h9_ h10_ h11_
        have BK292 := n0_
        have BK298 := n1_
        have BK302 := n2_
        have BK320 := n3_
        have HB := n11_
        clear n0_ n1_ n2_ n3_ n11_
        have hHeld : w94.cell? ⟨gb298, 0, none⟩ = some (.int .i64 t295) ∧ w94.cell? ⟨gb298, 1, none⟩ = some (.int .i64 t296) ∧ w94.cell? ⟨gb298, 2, none⟩ = some (.int .i64 t297) ∧ w94.cell? ⟨gb302, 0, none⟩ = some (.int .i64 t299) ∧ w94.cell? ⟨gb302, 1, none⟩ = some (.int .i64 t300) ∧ w94.cell? ⟨gb302, 2, none⟩ = some (.int .i64 t301) := hS_
        refine norm_ (a' := ?_) ?_ ?_
        rotate_left
        ·simp only [putAll, Act.put, List.setIfInBounds_toArray, List.set_cons_zero, List.set_cons_succ]
         rfl
        refine one_ (i := 26) (N := some 100) (bm 37 36507222015) rfl rfl (one_of HT_.out (by kernel_rfl)) (by decide) (fun K hK => ?_)
        refine goes_ Try.func38 (by kernel_rfl) rfl #[.int .i64 (wrap64 (a2 * t297)), .int .i64 256] (by rfl) rfl rfl (by (try simp only [List.map_toArray, List.map_cons, List.map_nil]); first | done | rfl | (simp only [List.length_drop, List.length_take]; rfl)) ?_
        with_reducible refine (relievoref19_Floor.calls (wrap64 (a2 * t297)) 256 t315 _ A71.out).mono ?_
        rintro e w' ⟨rfl, ⟨nd, rfl⟩⟩
        refine ⟨_, rfl, ?_⟩
        refine hK.out _ _ ⟨(blk_cell BK298.out 0).trans rfl, (blk_cell BK298.out 1).trans rfl, (blk_cell BK298.out 2).trans rfl, (blk_cell BK302.out 0).trans rfl, (blk_cell BK302.out 1).trans rfl, (blk_cell BK302.out 2).trans rfl⟩ (fun hHeld => ?_)
        clear hK K
        refine norm_ (a' := ?_) ?_ ?_
        rotate_left
        ·show Act.put _ (some 100) _ = _
         simp only [Act.put, List.setIfInBounds_toArray, List.set_cons_zero, List.set_cons_succ, i64_w, i32_w]
         rfl
        exact norm_ (by simp only [putAll, Act.put, List.setIfInBounds_toArray, List.set_cons_zero, List.set_cons_succ] <;> rfl) (hJ4_9_15_20_26_35 (gb320) _ ⟨hHeld, (BK292.out), (BK298.out), (BK302.out), (BK320.out), GE320.out, NB292_320.out, NB320_292.out, NB298_320.out, NB320_298.out, NB302_320.out, NB320_302.out, (by first | exact HB.out | (repeat (first | exact HB.out | apply pw_below_drewN | apply below_drew1 | apply below_alloc)))⟩)
       skip
       rintro _ w93 ⟨hS_, h0_, h1_, h2_, h3_⟩
       have n0_ : Aside0 (w93.heap[gb292]? = some (.cells #[.int .i64 0, .int .i64 0, .int .i64 0] 26 (0, 0))) := ⟨h0_⟩
       have n1_ : Aside0 (w93.heap[gb298]? = some (.cells #[.int .i64 t295, .int .i64 t296, .int .i64 t297] 26 (0, 0))) := ⟨h1_⟩
       have n2_ : Aside0 (w93.heap[gb302]? = some (.cells #[.int .i64 t299, .int .i64 t300, .int .i64 t301] 26 (0, 0))) := ⟨h2_⟩
       have n3_ : Aside0 (Below w.heap.size w w93) := ⟨h3_⟩
       clear BK292
       clear BK298
       clear BK302
       clear HB
       clear h0_ h1_ h2_ h3_
       have BK292 := n0_
       have BK298 := n1_
       have BK302 := n2_
       have HB := n3_
       clear n0_ n1_ n2_ n3_
       have hHeld : w93.cell? ⟨gb298, 0, none⟩ = some (.int .i64 t295) ∧ w93.cell? ⟨gb298, 1, none⟩ = some (.int .i64 t296) ∧ w93.cell? ⟨gb298, 2, none⟩ = some (.int .i64 t297) ∧ w93.cell? ⟨gb302, 0, none⟩ = some (.int .i64 t299) ∧ w93.cell? ⟨gb302, 1, none⟩ = some (.int .i64 t300) ∧ w93.cell? ⟨gb302, 2, none⟩ = some (.int .i64 t301) := hS_
       refine norm_ (a' := ?_) ?_ ?_
       rotate_left
       ·simp only [putAll, Act.put, List.setIfInBounds_toArray, List.set_cons_zero, List.set_cons_succ]
        rfl
       refine two_ (i := 31) (j := 35) (Ni := some 105) (Nj := some 15) (bm 37 4294967295) (bm 37 36507222015) rfl rfl rfl rfl (two_of HT_.out (by kernel_rfl)) (by decide) (by decide) (fun K hK => ?_) (fun K hK => ?_)
       ·skip
        refine goes_ Try.func38 (by kernel_rfl) rfl #[.int .i64 (wrap64 ((wrap64 (t310 - t308)) * t301)), .int .i64 4096] (by rfl) rfl rfl (by (try simp only [List.map_toArray, List.map_cons, List.map_nil]); first | done | rfl | (simp only [List.length_drop, List.length_take]; rfl)) ?_
        with_reducible refine (relievoref19_Floor.calls (wrap64 ((wrap64 (t310 - t308)) * t301)) 4096 t316 _ A72.out).mono ?_
        rintro e w' ⟨rfl, ⟨nd, rfl⟩⟩
        refine ⟨_, rfl, ?_⟩
        refine hK.out _ _ ⟨(blk_cell BK298.out 0).trans rfl, (blk_cell BK298.out 1).trans rfl, (blk_cell BK298.out 2).trans rfl, (blk_cell BK302.out 0).trans rfl, (blk_cell BK302.out 1).trans rfl, (blk_cell BK302.out 2).trans rfl⟩ (fun hHeld => ?_)
        clear hK K
        refine norm_ (a' := ?_) ?_ ?_
        rotate_left
        ·show Act.put _ (some 105) _ = _
         simp only [Act.put, List.setIfInBounds_toArray, List.set_cons_zero, List.set_cons_succ, i64_w, i32_w]
         rfl
        refine pure_ (i := 32) (N := some 106) (v := ?_) (a' := ?_) (bm 37 8589934591) rfl rfl (any_of HT_.out (by kernel_rfl)) (fun _ _ _ h => h) (Or.inl ⟨by rfl, ?_⟩) ?_ ?_
        rotate_left
        ·intro w'
         go_simp
         with_reducible rfl
        rotate_left
        ·simp only [Act.put, List.setIfInBounds_toArray, List.set_cons_zero, List.set_cons_succ, i64_w, i32_w]
         rfl
        refine pure_ (i := 33) (N := some 107) (v := ?_) (a' := ?_) (bm 37 17179869183) rfl rfl (any_of HT_.out (by kernel_rfl)) (fun _ _ _ h => h) (Or.inl ⟨by rfl, ?_⟩) ?_ ?_
        rotate_left
        ·intro w'
         go_simp
         with_reducible rfl
        rotate_left
        ·simp only [Act.put, List.setIfInBounds_toArray, List.set_cons_zero, List.set_cons_succ, i64_w, i32_w]
         rfl
        exact norm_ (by simp only [putAll, Act.put, List.setIfInBounds_toArray, List.set_cons_zero, List.set_cons_succ] <;> rfl) (hJ4_9_15_20_26_31 () _ ⟨hHeld, (BK292.out), (BK298.out), (BK302.out), (by first | exact HB.out | (repeat (first | exact HB.out | apply pw_below_drewN | apply below_drew1 | apply below_alloc)))⟩)
       skip
       refine box_step ?hg (N := 15) ?hd (cs := #[.int .i64 0, .int .i64 0, .int .i64 0]) (t := 26) ?hr ?_; (case hd => rfl); (case hg => rfl); (case hr => first | (go_simp; done) | (go_simp; rfl))
       intro gb320 hg w94 hbox hb
       have BK320 := Aside0.mk (hbox)
       have GE320 := Aside0.mk (bG hg (by first | exact HB.out | (repeat (first | exact HB.out | apply pw_below_drewN | apply below_drew1 | apply below_alloc))))
       have NB292_320 := cN hg BK292
       have NB320_292 := cM hg BK292
       have NB298_320 := cN hg BK298
       have NB320_298 := cM hg BK298
       have NB302_320 := cN hg BK302
       have NB320_302 := cM hg BK302
       replace BK292 := cB hb BK292
       replace BK298 := cB hb BK298
       replace BK302 := cB hb BK302
       replace HB := Aside0.mk (below_step (by first | exact HB.out | (repeat (first | exact HB.out | apply pw_below_drewN | apply below_drew1 | apply below_alloc))) hb)
       clear hb hbox hg
       refine hK.out _ _ ⟨(blk_cell BK298.out 0).trans rfl, (blk_cell BK298.out 1).trans rfl, (blk_cell BK298.out 2).trans rfl, (blk_cell BK302.out 0).trans rfl, (blk_cell BK302.out 1).trans rfl, (blk_cell BK302.out 2).trans rfl⟩ (fun hHeld => ?_)
       clear hK K
       refine norm_ (a' := ?_) ?_ ?_
       rotate_left
       ·show Act.put _ (some 15) _ = _
        simp only [Act.put, List.setIfInBounds_toArray, List.set_cons_zero, List.set_cons_succ, i64_w, i32_w]
        rfl
       exact norm_ (by simp only [putAll, Act.put, List.setIfInBounds_toArray, List.set_cons_zero, List.set_cons_succ] <;> rfl) (hJ4_9_15_20_26_35 (gb320) _ ⟨hHeld, (BK292.out), (BK298.out), (BK302.out), (BK320.out), GE320.out, NB292_320.out, NB320_292.out, NB298_320.out, NB320_298.out, NB302_320.out, NB320_302.out, (by first | exact HB.out | (repeat (first | exact HB.out | apply pw_below_drewN | apply below_drew1 | apply below_alloc)))⟩)
      skip
      rintro gb320 w94 ⟨hS_, h0_, h1_, h2_, h3_, h4_, h5_, h6_, h7_, h8_, h9_, h10_, h11_⟩
      have n0_ : Aside0 (w94.heap[gb292]? = some (.cells #[.int .i64 0, .int .i64 0, .int .i64 0] 26 (0, 0))) := ⟨h0_⟩
      have n1_ : Aside0 (w94.heap[gb298]? = some (.cells #[.int .i64 t295, .int .i64 t296, .int .i64 t297] 26 (0, 0))) := ⟨h1_⟩
      have n2_ : Aside0 (w94.heap[gb302]? = some (.cells #[.int .i64 t299, .int .i64 t300, .int .i64 t301] 26 (0, 0))) := ⟨h2_⟩
      have n3_ : Aside0 (w94.heap[gb320]? = some (.cells #[.int .i64 0, .int .i64 0, .int .i64 0] 26 (0, 0))) := ⟨h3_⟩
      have GE320 : Aside0 (w.heap.size ≤ gb320) := ⟨h4_⟩
      have NB292_320 : Aside0 (gb292 ≠ gb320) := ⟨h5_⟩
      have NB320_292 : Aside0 (gb320 ≠ gb292) := ⟨h6_⟩
      have NB298_320 : Aside0 (gb298 ≠ gb320) := ⟨h7_⟩
      have NB320_298 : Aside0 (gb320 ≠ gb298) := ⟨h8_⟩
      have NB302_320 : Aside0 (gb302 ≠ gb320) := ⟨h9_⟩
      have NB320_302 : Aside0 (gb320 ≠ gb302) := ⟨h10_⟩
      have n11_ : Aside0 (Below w.heap.size w w94) := ⟨h11_⟩
      clear BK292
      clear BK298
      clear BK302
      clear HB
      clear h0_ h1_ h2_ h3_ h4_ h5_ h6_ h7_ h8_ h9_ h10_ h11_
      have BK292 := n0_
      have BK298 := n1_
      have BK302 := n2_
      have BK320 := n3_
      have HB := n11_
      clear n0_ n1_ n2_ n3_ n11_
      have hHeld : w94.cell? ⟨gb298, 0, none⟩ = some (.int .i64 t295) ∧ w94.cell? ⟨gb298, 1, none⟩ = some (.int .i64 t296) ∧ w94.cell? ⟨gb298, 2, none⟩ = some (.int .i64 t297) ∧ w94.cell? ⟨gb302, 0, none⟩ = some (.int .i64 t299) ∧ w94.cell? ⟨gb302, 1, none⟩ = some (.int .i64 t300) ∧ w94.cell? ⟨gb302, 2, none⟩ = some (.int .i64 t301) := hS_
      refine norm_ (a' := ?_) ?_ ?_
      rotate_left
      ·simp only [putAll, Act.put, List.setIfInBounds_toArray, List.set_cons_zero, List.set_cons_succ]
       rfl
      refine one_ (i := 31) (N := some 105) (bm 37 38654705663) rfl rfl (one_of HT_.out (by kernel_rfl)) (by decide) (fun K hK => ?_)
      refine goes_ Try.func38 (by kernel_rfl) rfl #[.int .i64 (wrap64 ((wrap64 (t310 - t308)) * t301)), .int .i64 4096] (by rfl) rfl rfl (by (try simp only [List.map_toArray, List.map_cons, List.map_nil]); first | done | rfl | (simp only [List.length_drop, List.length_take]; rfl)) ?_
      with_reducible refine (relievoref19_Floor.calls (wrap64 ((wrap64 (t310 - t308)) * t301)) 4096 t316 _ A72.out).mono ?_
      rintro e w' ⟨rfl, ⟨nd, rfl⟩⟩
      refine ⟨_, rfl, ?_⟩
      refine hK.out _ _ ⟨(blk_cell BK298.out 0).trans rfl, (blk_cell BK298.out 1).trans rfl, (blk_cell BK298.out 2).trans rfl, (blk_cell BK302.out 0).trans rfl, (blk_cell BK302.out 1).trans rfl, (blk_cell BK302.out 2).trans rfl⟩ (fun hHeld => ?_)
      clear hK K
      refine norm_ (a' := ?_) ?_ ?_
      rotate_left
      ·show Act.put _ (some 105) _ = _
       simp only [Act.put, List.setIfInBounds_toArray, List.set_cons_zero, List.set_cons_succ, i64_w, i32_w]
       rfl
      refine pure_ (i := 32) (N := some 106) (v := ?_) (a' := ?_) (bm 37 42949672959) rfl rfl (any_of HT_.out (by kernel_rfl)) (fun _ _ _ h => h) (Or.inl ⟨by rfl, ?_⟩) ?_ ?_
      rotate_left
      ·intro w'
       go_simp
       with_reducible rfl
      rotate_left
      ·simp only [Act.put, List.setIfInBounds_toArray, List.set_cons_zero, List.set_cons_succ, i64_w, i32_w]
       rfl
      refine pure_ (i := 33) (N := some 107) (v := ?_) (a' := ?_) (bm 37 51539607551) rfl rfl (any_of HT_.out (by kernel_rfl)) (fun _ _ _ h => h) (Or.inl ⟨by rfl, ?_⟩) ?_ ?_
      rotate_left
      ·intro w'
       go_simp
       with_reducible rfl
      rotate_left
      ·simp only [Act.put, List.setIfInBounds_toArray, List.set_cons_zero, List.set_cons_succ, i64_w, i32_w]
       rfl
      exact norm_ (by simp only [putAll, Act.put, List.setIfInBounds_toArray, List.set_cons_zero, List.set_cons_succ] <;> rfl) (hJ4_9_15_20_26_31_35 (gb320) _ ⟨hHeld, (BK292.out), (BK298.out), (BK302.out), (BK320.out), GE320.out, NB292_320.out, NB320_292.out, NB298_320.out, NB320_298.out, NB302_320.out, NB320_302.out, (by first | exact HB.out | (repeat (first | exact HB.out | apply pw_below_drewN | apply below_drew1 | apply below_alloc)))⟩)
     skip
     rintro _ w93 ⟨hS_, h0_, h1_, h2_, h3_⟩
     have n0_ : Aside0 (w93.heap[gb292]? = some (.cells #[.int .i64 0, .int .i64 0, .int .i64 0] 26 (0, 0))) := ⟨h0_⟩
     have n1_ : Aside0 (w93.heap[gb298]? = some (.cells #[.int .i64 t295, .int .i64 t296, .int .i64 t297] 26 (0, 0))) := ⟨h1_⟩
     have n2_ : Aside0 (w93.heap[gb302]? = some (.cells #[.int .i64 t299, .int .i64 t300, .int .i64 t301] 26 (0, 0))) := ⟨h2_⟩
     have n3_ : Aside0 (Below w.heap.size w w93) := ⟨h3_⟩
     clear BK292
     clear BK298
     clear BK302
     clear HB
     clear h0_ h1_ h2_ h3_
     have BK292 := n0_
     have BK298 := n1_
     have BK302 := n2_
     have HB := n3_
     clear n0_ n1_ n2_ n3_
     have hHeld : w93.cell? ⟨gb298, 0, none⟩ = some (.int .i64 t295) ∧ w93.cell? ⟨gb298, 1, none⟩ = some (.int .i64 t296) ∧ w93.cell? ⟨gb298, 2, none⟩ = some (.int .i64 t297) ∧ w93.cell? ⟨gb302, 0, none⟩ = some (.int .i64 t299) ∧ w93.cell? ⟨gb302, 1, none⟩ = some (.int .i64 t300) ∧ w93.cell? ⟨gb302, 2, none⟩ = some (.int .i64 t301) := hS_
     refine norm_ (a' := ?_) ?_ ?_
     rotate_left
     ·simp only [putAll, Act.put, List.setIfInBounds_toArray, List.set_cons_zero, List.set_cons_succ]
      rfl
     refine two_ (i := 34) (j := 35) (Ni := some 108) (Nj := some 15) (bm 37 34359738367) (bm 37 51539607551) rfl rfl rfl rfl (two_of HT_.out (by kernel_rfl)) (by decide) (by decide) (fun K hK => ?_) (fun K hK => ?_)
     ·skip
      refine goes_ Try.func41 (by kernel_rfl) rfl #[.agg #[.int .i64 (wrap64 (t311 + t312)), .int .i64 (wrap64 (t313 + t314)), .int .i64 (wrap64 (t315 + t316))], .int .i64 32768] (by rfl) rfl rfl (by (try simp only [List.map_toArray, List.map_cons, List.map_nil]); first | done | rfl | (simp only [List.length_drop, List.length_take]; rfl)) ?_
      with_reducible refine (relievoref02_Cut.calls kj3 (wrap64 (t311 + t312)) (wrap64 (t313 + t314)) (wrap64 (t315 + t316)) 32768 t317 t318 t319 _ A73.out).mono ?_
      rintro e w94 ⟨rfl, hb⟩
      refine ⟨_, rfl, ?_⟩
      replace BK292 := cB hb BK292
      replace BK298 := cB hb BK298
      replace BK302 := cB hb BK302
      replace HB := Aside0.mk (below_step (by first | exact HB.out | (repeat (first | exact HB.out | apply pw_below_drewN | apply below_drew1 | apply below_alloc))) hb)
      (try clear hb)
      (try clear hb2)
      (try clear hk)
      (try clear hi)
      refine hK.out _ _ ⟨(blk_cell BK298.out 0).trans rfl, (blk_cell BK298.out 1).trans rfl, (blk_cell BK298.out 2).trans rfl, (blk_cell BK302.out 0).trans rfl, (blk_cell BK302.out 1).trans rfl, (blk_cell BK302.out 2).trans rfl⟩ (fun hHeld => ?_)
      clear hK K
      refine norm_ (a' := ?_) ?_ ?_
      rotate_left
      ·show Act.put _ (some 108) _ = _
       simp only [Act.put, List.setIfInBounds_toArray, List.set_cons_zero, List.set_cons_succ, i64_w, i32_w]
       rfl
      exact norm_ (by simp only [putAll, Act.put, List.setIfInBounds_toArray, List.set_cons_zero, List.set_cons_succ] <;> rfl) (hJ4_9_15_20_26_31_34 () _ ⟨hHeld, (BK292.out), (BK298.out), (BK302.out), (by first | exact HB.out | (repeat (first | exact HB.out | apply pw_below_drewN | apply below_drew1 | apply below_alloc)))⟩)
     skip
     refine box_step ?hg (N := 15) ?hd (cs := #[.int .i64 0, .int .i64 0, .int .i64 0]) (t := 26) ?hr ?_; (case hd => rfl); (case hg => rfl); (case hr => first | (go_simp; done) | (go_simp; rfl))
     intro gb320 hg w94 hbox hb
     have BK320 := Aside0.mk (hbox)
     have GE320 := Aside0.mk (bG hg (by first | exact HB.out | (repeat (first | exact HB.out | apply pw_below_drewN | apply below_drew1 | apply below_alloc))))
     have NB292_320 := cN hg BK292
     have NB320_292 := cM hg BK292
     have NB298_320 := cN hg BK298
     have NB320_298 := cM hg BK298
     have NB302_320 := cN hg BK302
     have NB320_302 := cM hg BK302
     replace BK292 := cB hb BK292
     replace BK298 := cB hb BK298
     replace BK302 := cB hb BK302
     replace HB := Aside0.mk (below_step (by first | exact HB.out | (repeat (first | exact HB.out | apply pw_below_drewN | apply below_drew1 | apply below_alloc))) hb)
     clear hb hbox hg
     refine hK.out _ _ ⟨(blk_cell BK298.out 0).trans rfl, (blk_cell BK298.out 1).trans rfl, (blk_cell BK298.out 2).trans rfl, (blk_cell BK302.out 0).trans rfl, (blk_cell BK302.out 1).trans rfl, (blk_cell BK302.out 2).trans rfl⟩ (fun hHeld => ?_)
     clear hK K
     refine norm_ (a' := ?_) ?_ ?_
     rotate_left
     ·show Act.put _ (some 15) _ = _
      simp only [Act.put, List.setIfInBounds_toArray, List.set_cons_zero, List.set_cons_succ, i64_w, i32_w]
      rfl
     exact norm_ (by simp only [putAll, Act.put, List.setIfInBounds_toArray, List.set_cons_zero, List.set_cons_succ] <;> rfl) (hJ4_9_15_20_26_31_35 (gb320) _ ⟨hHeld, (BK292.out), (BK298.out), (BK302.out), (BK320.out), GE320.out, NB292_320.out, NB320_292.out, NB298_320.out, NB320_298.out, NB302_320.out, NB320_302.out, (by first | exact HB.out | (repeat (first | exact HB.out | apply pw_below_drewN | apply below_drew1 | apply below_alloc)))⟩)
    skip
    rintro gb320 w94 ⟨hS_, h0_, h1_, h2_, h3_, h4_, h5_, h6_, h7_, h8_, h9_, h10_, h11_⟩
    have n0_ : Aside0 (w94.heap[gb292]? = some (.cells #[.int .i64 0, .int .i64 0, .int .i64 0] 26 (0, 0))) := ⟨h0_⟩
    have n1_ : Aside0 (w94.heap[gb298]? = some (.cells #[.int .i64 t295, .int .i64 t296, .int .i64 t297] 26 (0, 0))) := ⟨h1_⟩
    have n2_ : Aside0 (w94.heap[gb302]? = some (.cells #[.int .i64 t299, .int .i64 t300, .int .i64 t301] 26 (0, 0))) := ⟨h2_⟩
    have n3_ : Aside0 (w94.heap[gb320]? = some (.cells #[.int .i64 0, .int .i64 0, .int .i64 0] 26 (0, 0))) := ⟨h3_⟩
    have GE320 : Aside0 (w.heap.size ≤ gb320) := ⟨h4_⟩
    have NB292_320 : Aside0 (gb292 ≠ gb320) := ⟨h5_⟩
    have NB320_292 : Aside0 (gb320 ≠ gb292) := ⟨h6_⟩
    have NB298_320 : Aside0 (gb298 ≠ gb320) := ⟨h7_⟩
    have NB320_298 : Aside0 (gb320 ≠ gb298) := ⟨h8_⟩
    have NB302_320 : Aside0 (gb302 ≠ gb320) := ⟨h9_⟩
    have NB320_302 : Aside0 (gb320 ≠ gb302) := ⟨h10_⟩
    have n11_ : Aside0 (Below w.heap.size w w94) := ⟨h11_⟩
    clear BK292
    clear BK298
    clear BK302
    clear HB
    clear h0_ h1_ h2_ h3_ h4_ h5_ h6_ h7_ h8_ h9_ h10_ h11_
    have BK292 := n0_
    have BK298 := n1_
    have BK302 := n2_
    have BK320 := n3_
    have HB := n11_
    clear n0_ n1_ n2_ n3_ n11_
    have hHeld : w94.cell? ⟨gb298, 0, none⟩ = some (.int .i64 t295) ∧ w94.cell? ⟨gb298, 1, none⟩ = some (.int .i64 t296) ∧ w94.cell? ⟨gb298, 2, none⟩ = some (.int .i64 t297) ∧ w94.cell? ⟨gb302, 0, none⟩ = some (.int .i64 t299) ∧ w94.cell? ⟨gb302, 1, none⟩ = some (.int .i64 t300) ∧ w94.cell? ⟨gb302, 2, none⟩ = some (.int .i64 t301) := hS_
    refine norm_ (a' := ?_) ?_ ?_
    rotate_left
    ·simp only [putAll, Act.put, List.setIfInBounds_toArray, List.set_cons_zero, List.set_cons_succ]
     rfl
    refine one_ (i := 34) (N := some 108) (bm 37 68719476735) rfl rfl (one_of HT_.out (by kernel_rfl)) (by decide) (fun K hK => ?_)
    refine goes_ Try.func41 (by kernel_rfl) rfl #[.agg #[.int .i64 (wrap64 (t311 + t312)), .int .i64 (wrap64 (t313 + t314)), .int .i64 (wrap64 (t315 + t316))], .int .i64 32768] (by rfl) rfl rfl (by (try simp only [List.map_toArray, List.map_cons, List.map_nil]); first | done | rfl | (simp only [List.length_drop, List.length_take]; rfl)) ?_
    with_reducible refine (relievoref02_Cut.calls kj3 (wrap64 (t311 + t312)) (wrap64 (t313 + t314)) (wrap64 (t315 + t316)) 32768 t317 t318 t319 _ A73.out).mono ?_
    rintro e w95 ⟨rfl, hb⟩
    refine ⟨_, rfl, ?_⟩
    replace BK292 := cB hb BK292
    replace BK298 := cB hb BK298
    replace BK302 := cB hb BK302
    replace BK320 := cB hb BK320
    replace HB := Aside0.mk (below_step (by first | exact HB.out | (repeat (first | exact HB.out | apply pw_below_drewN | apply below_drew1 | apply below_alloc))) hb)
    (try clear hb)
    (try clear hb2)
    (try clear hk)
    (try clear hi)
    refine hK.out _ _ ⟨(blk_cell BK298.out 0).trans rfl, (blk_cell BK298.out 1).trans rfl, (blk_cell BK298.out 2).trans rfl, (blk_cell BK302.out 0).trans rfl, (blk_cell BK302.out 1).trans rfl, (blk_cell BK302.out 2).trans rfl⟩ (fun hHeld => ?_)
    clear hK K
    refine norm_ (a' := ?_) ?_ ?_
    rotate_left
    ·show Act.put _ (some 108) _ = _
     simp only [Act.put, List.setIfInBounds_toArray, List.set_cons_zero, List.set_cons_succ, i64_w, i32_w]
     rfl
    exact norm_ (by simp only [putAll, Act.put, List.setIfInBounds_toArray, List.set_cons_zero, List.set_cons_succ] <;> rfl) (hJ4_9_15_20_26_31_34_35 (gb320) _ ⟨hHeld, (BK292.out), (BK298.out), (BK302.out), (BK320.out), GE320.out, NB292_320.out, NB320_292.out, NB298_320.out, NB320_298.out, NB302_320.out, NB320_302.out, (by first | exact HB.out | (repeat (first | exact HB.out | apply pw_below_drewN | apply below_drew1 | apply below_alloc)))⟩)
   skip
   rintro _ w94 ⟨hS_, h0_, h1_, h2_, h3_⟩
   have n0_ : Aside0 (w94.heap[gb292]? = some (.cells #[.int .i64 0, .int .i64 0, .int .i64 0] 26 (0, 0))) := ⟨h0_⟩
   have n1_ : Aside0 (w94.heap[gb298]? = some (.cells #[.int .i64 t295, .int .i64 t296, .int .i64 t297] 26 (0, 0))) := ⟨h1_⟩
   have n2_ : Aside0 (w94.heap[gb302]? = some (.cells #[.int .i64 t299, .int .i64 t300, .int .i64 t301] 26 (0, 0))) := ⟨h2_⟩
   have n3_ : Aside0 (Below w.heap.size w w94) := ⟨h3_⟩
   clear BK292
   clear BK298
   clear BK302
   clear HB
   clear h0_ h1_ h2_ h3_
   have BK292 := n0_
   have BK298 := n1_
   have BK302 := n2_
   have HB := n3_
   clear n0_ n1_ n2_ n3_
   have hHeld : w94.cell? ⟨gb298, 0, none⟩ = some (.int .i64 t295) ∧ w94.cell? ⟨gb298, 1, none⟩ = some (.int .i64 t296) ∧ w94.cell? ⟨gb298, 2, none⟩ = some (.int .i64 t297) ∧ w94.cell? ⟨gb302, 0, none⟩ = some (.int .i64 t299) ∧ w94.cell? ⟨gb302, 1, none⟩ = some (.int .i64 t300) ∧ w94.cell? ⟨gb302, 2, none⟩ = some (.int .i64 t301) := hS_
   refine norm_ (a' := ?_) ?_ ?_
   rotate_left
   ·simp only [putAll, Act.put, List.setIfInBounds_toArray, List.set_cons_zero, List.set_cons_succ]
    rfl
   refine one_ (i := 35) (N := some 15) (bm 37 68719476735) rfl rfl (one_of HT_.out (by kernel_rfl)) (by decide) (fun K hK => ?_)
   refine box_step ?hg (N := 15) ?hd (cs := #[.int .i64 0, .int .i64 0, .int .i64 0]) (t := 26) ?hr ?_; (case hd => rfl); (case hg => rfl); (case hr => first | (go_simp; done) | (go_simp; rfl))
   intro gb320 hg w95 hbox hb
   have BK320 := Aside0.mk (hbox)
   have GE320 := Aside0.mk (bG hg (by first | exact HB.out | (repeat (first | exact HB.out | apply pw_below_drewN | apply below_drew1 | apply below_alloc))))
   have NB292_320 := cN hg BK292
   have NB320_292 := cM hg BK292
   have NB298_320 := cN hg BK298
   have NB320_298 := cM hg BK298
   have NB302_320 := cN hg BK302
   have NB320_302 := cM hg BK302
   replace BK292 := cB hb BK292
   replace BK298 := cB hb BK298
   replace BK302 := cB hb BK302
   replace HB := Aside0.mk (below_step (by first | exact HB.out | (repeat (first | exact HB.out | apply pw_below_drewN | apply below_drew1 | apply below_alloc))) hb)
   clear hb hbox hg
   refine hK.out _ _ ⟨(blk_cell BK298.out 0).trans rfl, (blk_cell BK298.out 1).trans rfl, (blk_cell BK298.out 2).trans rfl, (blk_cell BK302.out 0).trans rfl, (blk_cell BK302.out 1).trans rfl, (blk_cell BK302.out 2).trans rfl⟩ (fun hHeld => ?_)
   clear hK K
   refine norm_ (a' := ?_) ?_ ?_
   rotate_left
   ·show Act.put _ (some 15) _ = _
    simp only [Act.put, List.setIfInBounds_toArray, List.set_cons_zero, List.set_cons_succ, i64_w, i32_w]
    rfl
   exact norm_ (by simp only [putAll, Act.put, List.setIfInBounds_toArray, List.set_cons_zero, List.set_cons_succ] <;> rfl) (hJ4_9_15_20_26_31_34_35 (gb320) _ ⟨hHeld, (BK292.out), (BK298.out), (BK302.out), (BK320.out), GE320.out, NB292_320.out, NB320_292.out, NB298_320.out, NB320_298.out, NB302_320.out, NB320_302.out, (by first | exact HB.out | (repeat (first | exact HB.out | apply pw_below_drewN | apply below_drew1 | apply below_alloc)))⟩)
  rintro gb320 w97 ⟨hS_, h0_, h1_, h2_, h3_, h4_, h5_, h6_, h7_, h8_, h9_, h10_, h11_⟩
  have n0_ : Aside0 (w97.heap[gb292]? = some (.cells #[.int .i64 0, .int .i64 0, .int .i64 0] 26 (0, 0))) := ⟨h0_⟩
  have n1_ : Aside0 (w97.heap[gb298]? = some (.cells #[.int .i64 t295, .int .i64 t296, .int .i64 t297] 26 (0, 0))) := ⟨h1_⟩
  have n2_ : Aside0 (w97.heap[gb302]? = some (.cells #[.int .i64 t299, .int .i64 t300, .int .i64 t301] 26 (0, 0))) := ⟨h2_⟩
  have n3_ : Aside0 (w97.heap[gb320]? = some (.cells #[.int .i64 0, .int .i64 0, .int .i64 0] 26 (0, 0))) := ⟨h3_⟩
  have GE320 : Aside0 (w.heap.size ≤ gb320) := ⟨h4_⟩
  have NB292_320 : Aside0 (gb292 ≠ gb320) := ⟨h5_⟩
  have NB320_292 : Aside0 (gb320 ≠ gb292) := ⟨h6_⟩
  have NB298_320 : Aside0 (gb298 ≠ gb320) := ⟨h7_⟩
  have NB320_298 : Aside0 (gb320 ≠ gb298) := ⟨h8_⟩
  have NB302_320 : Aside0 (gb302 ≠ gb320) := ⟨h9_⟩
  have NB320_302 : Aside0 (gb320 ≠ gb302) := ⟨h10_⟩
  have n11_ : Aside0 (Below w.heap.size w w97) := ⟨h11_⟩
  clear BK292
  clear BK298
  clear BK302
  clear HB
  clear h0_ h1_ h2_ h3_ h4_ h5_ h6_ h7_ h8_ h9_ h10_ h11_
  have BK292 := n0_
  have BK298 := n1_
  have BK302 := n2_
  have BK320 := n3_
  have HB := n11_
  clear n0_ n1_ n2_ n3_ n11_
  have hHeld : w97.cell? ⟨gb298, 0, none⟩ = some (.int .i64 t295) ∧ w97.cell? ⟨gb298, 1, none⟩ = some (.int .i64 t296) ∧ w97.cell? ⟨gb298, 2, none⟩ = some (.int .i64 t297) ∧ w97.cell? ⟨gb302, 0, none⟩ = some (.int .i64 t299) ∧ w97.cell? ⟨gb302, 1, none⟩ = some (.int .i64 t300) ∧ w97.cell? ⟨gb302, 2, none⟩ = some (.int .i64 t301) := hS_
  refine norm_ (a' := ?_) ?_ ?_
  rotate_left
  ·simp only [putAll, Act.put, List.setIfInBounds_toArray, List.set_cons_zero, List.set_cons_succ]
   rfl
  refine one_ (i := 36) (N := none) (bm 37 137438953471) rfl rfl (one_of HT_.out (by kernel_rfl)) (by decide) (fun K hK => ?_)
  have hs98 : w97.cell? ⟨gb320, 0, none⟩ = some (.int .i64 0) := (blk_cell BK320.out 0).trans rfl
  have hfs98 := blk_frozen BK320.out 0
  have hns98_0 := NB292_320.out
  have hns98_1 := NB298_320.out
  have hns98_2 := NB302_320.out
  have hms98_0 := NB320_292.out
  have hms98_1 := NB320_298.out
  have hms98_2 := NB320_302.out
  have hs99 : w97.cell? ⟨gb320, 1, none⟩ = some (.int .i64 0) := (blk_cell BK320.out 1).trans rfl
  have hfs99 := blk_frozen BK320.out 1
  have hns99_0 := NB292_320.out
  have hns99_1 := NB298_320.out
  have hns99_2 := NB302_320.out
  have hms99_0 := NB320_292.out
  have hms99_1 := NB320_298.out
  have hms99_2 := NB320_302.out
  have hs100 : w97.cell? ⟨gb320, 2, none⟩ = some (.int .i64 0) := (blk_cell BK320.out 2).trans rfl
  have hfs100 := blk_frozen BK320.out 2
  have hns100_0 := NB292_320.out
  have hns100_1 := NB298_320.out
  have hns100_2 := NB302_320.out
  have hms100_0 := NB320_292.out
  have hms100_1 := NB320_298.out
  have hms100_2 := NB320_302.out
  refine skip_ (w1 := ?_) (by rfl) rfl ?_ ?_
  rotate_left
  ·go_simp
   rfl
  refine hK.out _ _ ⟨(cf NB298_320.out (cf NB298_320.out (cf NB298_320.out hHeld.1))), (cf NB298_320.out (cf NB298_320.out (cf NB298_320.out hHeld.2.1))), (cf NB298_320.out (cf NB298_320.out (cf NB298_320.out hHeld.2.2.1))), (cf NB302_320.out (cf NB302_320.out (cf NB302_320.out hHeld.2.2.2.1))), (cf NB302_320.out (cf NB302_320.out (cf NB302_320.out hHeld.2.2.2.2.1))), (cf NB302_320.out (cf NB302_320.out (cf NB302_320.out hHeld.2.2.2.2.2)))⟩ (fun hHeld => ?_)
  clear hK K
  refine done_ (done_of HT_.out (by kernel_rfl)) ?_
  try go_wp2
  generalize hw_ : (((w97.setCell ⟨gb320, 0, none⟩ (.int .i64 t317)).setCell ⟨gb320, 1, none⟩ (.int .i64 t318)).setCell ⟨gb320, 2, none⟩ (.int .i64 t319)) = w101
  replace BK292 := Aside0.mk (bF hw_ (blk_far (blk_far (blk_far BK292.out NB292_320.out _) NB292_320.out _) NB292_320.out _))
  replace BK320 := Aside0.mk (bF hw_ (blk_put (cs' := #[.int .i64 t317, .int .i64 t318, .int .i64 t319]) (blk_put (blk_put BK320.out 0 _ rfl) 1 _ rfl) 2 _ rfl))
  replace HB := Aside0.mk (bH hw_ (by first | exact (below_set (below_set (below_set HB.out GE320.out) GE320.out) GE320.out) | exact (below_set (below_set (below_set (pw_below_drewN HB.out _) GE320.out) GE320.out) GE320.out) | (repeat (first | exact (below_set (below_set (below_set HB.out GE320.out) GE320.out) GE320.out) | apply pw_below_drewN | apply below_drew1 | apply below_alloc))))
  clear hw_
  replace BK292 := Aside0.mk (blk_drew BK292.out)
  replace BK320 := Aside0.mk (blk_drew BK320.out)
  replace HB := Aside0.mk (below_drew1 HB.out)
  refine start_ (n := 6) (S := fun w' => w'.cell? ⟨gb320, 0, none⟩ = some (.int .i64 t317) ∧ w'.cell? ⟨gb320, 1, none⟩ = some (.int .i64 t318) ∧ w'.cell? ⟨gb320, 2, none⟩ = some (.int .i64 t319)) (ds := []) #[false, false, false, false, false, false] (by kernel_rfl) rfl rfl ⟨(blk_cell BK320.out 0).trans rfl, (blk_cell BK320.out 1).trans rfl, (blk_cell BK320.out 2).trans rfl⟩ (fun hHeld => ?_)
  generalize w101.drew = w102 at BK292 BK320 HB hHeld ⊢
  refine pure_ (i := 2) (N := some 111) (v := ?_) (a' := ?_) (bm 6 4) rfl rfl (by kernel_rfl) (fun _ _ _ h => h) (Or.inl ⟨by rfl, ?_⟩) ?_ ?_
  rotate_left
  ·intro w'
   go_simp
   with_reducible rfl
  rotate_left
  ·simp only [Act.put, List.setIfInBounds_toArray, List.set_cons_zero, List.set_cons_succ, i64_w, i32_w]
   rfl
  refine take_ (i := 0) (N := some 109) (v := ?_) (a' := ?_) (bm 6 5) rfl rfl (by kernel_rfl) (fun _ _ _ h => h) (Or.inl ⟨by rfl, ?_⟩) hHeld ?_ ?_
  rotate_left
  ·rintro w' ⟨s0, s1, s2⟩
   go_simp
   with_reducible rfl
  rotate_left
  ·simp only [Act.put, List.setIfInBounds_toArray, List.set_cons_zero, List.set_cons_succ, i64_w, i32_w]
   rfl
  refine take_ (i := 1) (N := some 110) (v := ?_) (a' := ?_) (bm 6 7) rfl rfl (by kernel_rfl) (fun _ _ _ h => h) (Or.inl ⟨by rfl, ?_⟩) hHeld ?_ ?_
  rotate_left
  ·rintro w' ⟨s0, s1, s2⟩
   go_simp
   with_reducible rfl
  rotate_left
  ·simp only [Act.put, List.setIfInBounds_toArray, List.set_cons_zero, List.set_cons_succ, i64_w, i32_w]
   rfl
  refine pure_ (i := 3) (N := some 112) (v := ?_) (a' := ?_) (bm 6 15) rfl rfl (by kernel_rfl) (fun _ _ _ h => h) (Or.inl ⟨by rfl, ?_⟩) ?_ ?_
  rotate_left
  ·intro w'
   go_simp
   with_reducible rfl
  rotate_left
  ·simp only [Act.put, List.setIfInBounds_toArray, List.set_cons_zero, List.set_cons_succ, i64_w, i32_w]
   rfl
  refine one_ (i := 4) (N := none) (bm 6 31) rfl rfl (by kernel_rfl) (by decide) (fun K hK => ?_)
  have hs103 : w102.cell? ⟨gb292, 0, none⟩ = some (.int .i64 0) := (blk_cell BK292.out 0).trans rfl
  have hfs103 := blk_frozen BK292.out 0
  have hns103_1 := NB320_292.out
  have hms103_1 := NB292_320.out
  have hs104 : w102.cell? ⟨gb292, 1, none⟩ = some (.int .i64 0) := (blk_cell BK292.out 1).trans rfl
  have hfs104 := blk_frozen BK292.out 1
  have hns104_1 := NB320_292.out
  have hms104_1 := NB292_320.out
  have hs105 : w102.cell? ⟨gb292, 2, none⟩ = some (.int .i64 0) := (blk_cell BK292.out 2).trans rfl
  have hfs105 := blk_frozen BK292.out 2
  have hns105_1 := NB320_292.out
  have hms105_1 := NB292_320.out
  refine skip_ (w1 := ?_) (by rfl) rfl ?_ ?_
  rotate_left
  ·go_simp
   rfl
  refine hK.out _ _ ⟨(cf NB320_292.out (cf NB320_292.out (cf NB320_292.out hHeld.1))), (cf NB320_292.out (cf NB320_292.out (cf NB320_292.out hHeld.2.1))), (cf NB320_292.out (cf NB320_292.out (cf NB320_292.out hHeld.2.2)))⟩ (fun hHeld => ?_)
  clear hK K
  refine pure_ (i := 5) (N := some 7) (v := ?_) (a' := ?_) (bm 6 63) rfl rfl (by kernel_rfl) (fun _ _ _ h => h) (Or.inl ⟨by rfl, ?_⟩) ?_ ?_
  rotate_left
  ·intro w'
   go_simp
   with_reducible rfl
  rotate_left
  ·simp only [Act.put, List.setIfInBounds_toArray, List.set_cons_zero, List.set_cons_succ, i64_w, i32_w]
   rfl
  refine done_ (by kernel_rfl) ?_
  try go_wp2
  refine bodyPost_ret (results_ct rfl _ _ gb292 26 #[.int .i64 t317, .int .i64 t318, .int .i64 t319] (0, 0) _ rfl ((blk_put (cs' := #[.int .i64 t317, .int .i64 t318, .int .i64 t319]) (blk_put (blk_put BK292.out 0 _ rfl) 1 _ rfl) 2 _ rfl)) Try.underlying26 rfl (by kernel_rfl)) rfl ?_
  exact ⟨by first | rfl | (simp [errW_none, errW_some] <;> rfl) | (simp [*, errW_none, errW_some] <;> rfl), by first | exact (below_set (below_set (below_set HB.out GE292.out) GE292.out) GE292.out) | exact (below_set (below_set (below_set (pw_below_drewN HB.out _) GE292.out) GE292.out) GE292.out) | (repeat (first | exact (below_set (below_set (below_set HB.out GE292.out) GE292.out) GE292.out) | apply pw_below_drewN | apply below_drew1 | apply below_alloc))⟩

end Go.Proofs.Ytmhnidmbgicgeaa.G
