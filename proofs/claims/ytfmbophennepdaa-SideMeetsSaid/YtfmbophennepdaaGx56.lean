-- Written by a program of this session (wip/gen), out of the translation; Lean checks it.
import Derived.Test.YtfmbophennepdaaGx0
import Derived.Test.YtfmbophennepdaaGx19
import Derived.Test.YtfmbophennepdaaGx55
namespace Go.Proofs.Ytfmbophennepdaa.G
open Go.RowKit Go.Proofs.YtfmbophennepdaaW.PrintWords Go.Proofs.YtfmbophennepdaaW.PrintLast Go.Proofs.YtfmbophennepdaaW.PrintMore
attribute [local go_sem high] idx43_0 idx43_1 idx43_2 wl0 wl1 wl2 wl3 wl4 wl5 tm0_3 tm1_3 tm2_3 tm3_3 tm4_3 tm5_3
attribute [local go_sem] max2_int min2_int max_two min_two max_three min_three max_four min_four   -- for this text's walks alone
set_option linter.unusedVariables false
set_option linter.unusedSimpArgs false

/-! ### relievoref03_At: function 10 -/
def relievoref03_At.j0 : Nat → Bool → Int → Int → Int → Int → Int → Int → Int → Int → Option (Int × Int × Int × Bool)
  | 0, _, _, _, _, _, _, _, _, _ => none
  | k + 1, x22, x349000, x349001, x349002, x350000, x350001, x350002, x351000, x351001 => if x22 = true then (some (0, 0, 0, false)) else ((relievoref03_floor.f x349000 x350000 x351000 x351001).bind fun bt353 => ((relievoref03_floor.f x349001 x350001 x351000 x351001).bind fun bt355 => ((relievoref03_floor.f x349002 x350002 x351000 x351001).bind fun bt357 => (if bt353.2 = true then (if bt355.2 = true then (if bt357.2 = true then (some (bt353.1, bt355.1, bt357.1, true)) else (some (0, 0, 0, false))) else (some (0, 0, 0, false))) else (some (0, 0, 0, false))))))
def relievoref03_At.f (k : Nat) (a0_0 : Int) (a0_1 : Int) (a0_2 : Int) (a1_0 : Int) (a1_1 : Int) (a1_2 : Int) (a2_0 : Int) (a2_1 : Int) : Option (Int × Int × Int × Bool) := (relievoref03_Line.f a0_0 a0_1 a0_2 a1_0 a1_1 a1_2).bind fun t352 => (if t352 = true then (relievoref03_At.j0 k (decide (a2_1 < 1)) a0_0 a0_1 a0_2 a1_0 a1_1 a1_2 a2_0 a2_1) else (relievoref03_At.j0 k true a0_0 a0_1 a0_2 a1_0 a1_1 a1_2 a2_0 a2_1))
theorem relievoref03_At.mono_l : ∀ k, (∀ y0 y1 y2 y3 y4 y5 y6 y7 y8, LeO (relievoref03_At.j0 k y0 y1 y2 y3 y4 y5 y6 y7 y8) (relievoref03_At.j0 (k + 1) y0 y1 y2 y3 y4 y5 y6 y7 y8))
  | 0 => fun _ _ _ _ _ _ _ _ _ r h => by simp [relievoref03_At.j0] at h
  | k + 1 => by
    have ih0 := relievoref03_At.mono_l k
    · intro y0 y1 y2 y3 y4 y5 y6 y7 y8
      unfold relievoref03_At.j0
      repeat' first
      | (with_reducible exact ih0 _ _ _ _ _ _ _ _ _)
      | (with_reducible exact LeO.refl _)
      | (with_reducible exact LeO.none _)
      | (with_reducible refine LeO.ite ?_ ?_)
      | (with_reducible refine LeO.bind ?_ (fun _ => ?_))
      | exact ih0 _ _ _ _ _ _ _ _ _
      | exact LeO.none _
      | refine LeO.ite ?_ ?_
      | refine LeO.bind ?_ (fun _ => ?_)
theorem relievoref03_At.mono : ∀ a0 a1 a2 a3 a4 a5 a6 a7 k, LeO (relievoref03_At.f k a0 a1 a2 a3 a4 a5 a6 a7) (relievoref03_At.f (k + 1) a0 a1 a2 a3 a4 a5 a6 a7) := by
  intro a0 a1 a2 a3 a4 a5 a6 a7 k
  have ih0 := relievoref03_At.mono_l k
  unfold relievoref03_At.f
  repeat' first
      | (with_reducible exact ih0 _ _ _ _ _ _ _ _ _)
      | (with_reducible exact LeO.refl _)
      | (with_reducible exact LeO.none _)
      | (with_reducible refine LeO.ite ?_ ?_)
      | (with_reducible refine LeO.bind ?_ (fun _ => ?_))
      | exact ih0 _ _ _ _ _ _ _ _ _
      | exact LeO.none _
      | refine LeO.ite ?_ ?_
      | refine LeO.bind ?_ (fun _ => ?_)
set_option maxHeartbeats 8000000 in
set_option maxRecDepth 100000 in
theorem relievoref03_At.calls (k : Nat) (a0_0 : Int) (a0_1 : Int) (a0_2 : Int) (a1_0 : Int) (a1_1 : Int) (a1_2 : Int) (a2_0 : Int) (a2_1 : Int) (r1 : Int) (r2 : Int) (r3 : Int) (r4 : Bool) (w : World) (h : relievoref03_At.f k a0_0 a0_1 a0_2 a1_0 a1_1 a1_2 a2_0 a2_1 = some (r1, r2, r3, r4)) :
    Calls Try.prog 10 #[.agg #[.int .i64 a0_0, .int .i64 a0_1, .int .i64 a0_2], .agg #[.int .i64 a1_0, .int .i64 a1_1, .int .i64 a1_2], .agg #[.int .i64 a2_0, .int .i64 a2_1]] w fun e w' => e = .returned (.tuple #[.agg #[.int .i64 r1, .int .i64 r2, .int .i64 r3], .bool r4]) ∧ Below w.heap.size w w' := by
 have hu23 := Try.underlying23
 have hu27 := Try.underlying27
 have HB := Aside0.mk (Below.refl w.heap.size w)
 have H : ((relievoref03_Line.f a0_0 a0_1 a0_2 a1_0 a1_1 a1_2).bind fun t352 => (if t352 = true then (relievoref03_At.j0 k (decide (a2_1 < 1)) a0_0 a0_1 a0_2 a1_0 a1_1 a1_2 a2_0 a2_1) else (relievoref03_At.j0 k true a0_0 a0_1 a0_2 a1_0 a1_1 a1_2 a2_0 a2_1))) = some (r1, r2, r3, r4) := h
 clear h
 have HC4 := Aside0.mk H
 clear H
 go_enter Try.func10, Try.ntmps10
 go_upto_region 1 with (first | ((with_reducible refine gate_dst (N := 3) rfl ?_); refine box_event ?hg (N := 3) ?hd (cs := #[.int .i64 a0_0, .int .i64 a0_1, .int .i64 a0_2]) (t := 23) ?hr ?_; (case hd => rfl); (case hg => rfl); (case hr => first | (go_simp; done) | (go_simp; rfl)); intro gb348 hg w5 hbox hb; have BK348 := Aside0.mk (hbox); have GE348 := Aside0.mk (bG hg (HB.out)); replace HB := Aside0.mk (below_step (HB.out) hb); clear hb hbox hg) | ((with_reducible refine gate_dst (N := 4) rfl ?_); refine box_event ?hg (N := 4) ?hd (cs := #[.int .i64 a1_0, .int .i64 a1_1, .int .i64 a1_2]) (t := 23) ?hr ?_; (case hd => rfl); (case hg => rfl); (case hr => first | (go_simp; done) | (go_simp; rfl)); intro gb349 hg w6 hbox hb; have BK349 := Aside0.mk (hbox); have GE349 := Aside0.mk (bG hg (HB.out)); have NB348_349 := cN hg BK348; have NB349_348 := cM hg BK348; replace BK348 := cB hb BK348; replace HB := Aside0.mk (below_step (HB.out) hb); clear hb hbox hg) | ((with_reducible refine gate_dst (N := 5) rfl ?_); refine box_event ?hg (N := 5) ?hd (cs := #[.int .i64 a2_0, .int .i64 a2_1]) (t := 27) ?hr ?_; (case hd => rfl); (case hg => rfl); (case hr => first | (go_simp; done) | (go_simp; rfl)); intro gb350 hg w7 hbox hb; have BK350 := Aside0.mk (hbox); have GE350 := Aside0.mk (bG hg (HB.out)); have NB348_350 := cN hg BK348; have NB350_348 := cM hg BK348; have NB349_350 := cN hg BK349; have NB350_349 := cM hg BK349; replace BK348 := cB hb BK348; replace BK349 := cB hb BK349; replace HB := Aside0.mk (below_step (HB.out) hb); clear hb hbox hg) | ((with_reducible refine gate_dst (N := 6) rfl ?_); refine box_event ?hg (N := 6) ?hd (cs := #[.int .i64 0, .int .i64 0, .int .i64 0]) (t := 23) ?hr ?_; (case hd => rfl); (case hg => rfl); (case hr => first | (go_simp; done) | (go_simp; rfl)); intro gb351 hg w8 hbox hb; have BK351 := Aside0.mk (hbox); have GE351 := Aside0.mk (bG hg (HB.out)); have NB348_351 := cN hg BK348; have NB351_348 := cM hg BK348; have NB349_351 := cN hg BK349; have NB351_349 := cM hg BK349; have NB350_351 := cN hg BK350; have NB351_350 := cM hg BK350; replace BK348 := cB hb BK348; replace BK349 := cB hb BK349; replace BK350 := cB hb BK350; replace HB := Aside0.mk (below_step (HB.out) hb); clear hb hbox hg))
 (try simp only [Act.put, List.setIfInBounds_toArray, List.set_cons_zero, List.set_cons_succ])
 go_cut [22] (fun v22 wc => ∃ (kq : Nat) (x22_3 : Bool), v22 = .bool x22_3 ∧ Aside0 (relievoref03_At.j0 kq x22_3 a0_0 a0_1 a0_2 a1_0 a1_1 a1_2 a2_0 a2_1 = some (r1, r2, r3, r4)) ∧ Aside0 (kq ≤ k) ∧ Aside0 (wc.heap[gb348]? = some (.cells #[.int .i64 a0_0, .int .i64 a0_1, .int .i64 a0_2] 23 (0, 0))) ∧ Aside0 (wc.heap[gb349]? = some (.cells #[.int .i64 a1_0, .int .i64 a1_1, .int .i64 a1_2] 23 (0, 0))) ∧ Aside0 (wc.heap[gb350]? = some (.cells #[.int .i64 a2_0, .int .i64 a2_1] 27 (0, 0))) ∧ Aside0 (wc.heap[gb351]? = some (.cells #[.int .i64 0, .int .i64 0, .int .i64 0] 23 (0, 0))) ∧ Aside0 (Below w.heap.size w wc))
 case first =>
  have H := HC4.out
  clear HC4
  replace H := Option.bind_eq_some_iff.mp H
  obtain ⟨t352, A90, H⟩ := H
  replace H : (if t352 = true then (relievoref03_At.j0 k (decide (a2_1 < 1)) a0_0 a0_1 a0_2 a1_0 a1_1 a1_2 a2_0 a2_1) else (relievoref03_At.j0 k true a0_0 a0_1 a0_2 a1_0 a1_1 a1_2 a2_0 a2_1)) = some (r1, r2, r3, r4) := H
  have A9 := Aside0.mk A90
  clear A90
  by_cases c10 : t352 = true
  ·subst c10
   have H1 : (relievoref03_At.j0 k (decide (a2_1 < 1)) a0_0 a0_1 a0_2 a1_0 a1_1 a1_2 a2_0 a2_1) = some (r1, r2, r3, r4) := by rw [if_pos rfl] at H; exact H
   clear H
   have H := H1
   clear H1
   have H' := Aside0.mk H
   clear H
   obtain ⟨hcz11_0, hcz11_1, hcz11_2⟩ := cells3 BK348.out
   obtain ⟨hcz12_0, hcz12_1, hcz12_2⟩ := cells3 BK349.out
   go_wp2_with (first | ((with_reducible refine gate_callee (f := 16) rfl ?_); refine goesL_ (some 16) rfl rfl Try.func16 (by kernel_rfl) rfl #[.agg #[.int .i64 a0_0, .int .i64 a0_1, .int .i64 a0_2], .agg #[.int .i64 a1_0, .int .i64 a1_1, .int .i64 a1_2]] rfl (by (try simp only [List.map_toArray, List.map_cons, List.map_nil]); first | done | rfl | (simp only [List.length_drop, List.length_take]; rfl)) ?_; (with_reducible refine (relievoref03_Line.calls a0_0 a0_1 a0_2 a1_0 a1_1 a1_2 true _ A9.out).mono ?_); rintro e w13 ⟨rfl, hb⟩; refine ⟨_, rfl, ?_⟩; replace BK348 := cB hb BK348; replace BK349 := cB hb BK349; replace BK350 := cB hb BK350; replace BK351 := cB hb BK351; replace HB := Aside0.mk (below_step (HB.out) hb); (try clear hb); (try clear hb2); (try clear hk); (try clear hi); obtain ⟨hcz14_0, hcz14_1⟩ := cells2 BK350.out))
   go_meet
   case rel => exact ⟨_, (decide (a2_1 < 1)), (by first | rfl | (simp; done) | (simp [*]; done)), H', ⟨by first | omega | exact Nat.le_refl _⟩, ⟨BK348.out⟩, ⟨BK349.out⟩, ⟨BK350.out⟩, ⟨BK351.out⟩, ⟨HB.out⟩⟩
  replace c10 := Bool.eq_false_iff.mpr c10
  subst c10
  have H1 : (relievoref03_At.j0 k true a0_0 a0_1 a0_2 a1_0 a1_1 a1_2 a2_0 a2_1) = some (r1, r2, r3, r4) := by rw [if_neg (show ¬ (false = true) by decide)] at H; exact H
  clear H
  have H := H1
  clear H1
  have H' := Aside0.mk H
  clear H
  obtain ⟨hcz15_0, hcz15_1, hcz15_2⟩ := cells3 BK348.out
  obtain ⟨hcz16_0, hcz16_1, hcz16_2⟩ := cells3 BK349.out
  go_wp2_with (first | ((with_reducible refine gate_callee (f := 16) rfl ?_); refine goesL_ (some 16) rfl rfl Try.func16 (by kernel_rfl) rfl #[.agg #[.int .i64 a0_0, .int .i64 a0_1, .int .i64 a0_2], .agg #[.int .i64 a1_0, .int .i64 a1_1, .int .i64 a1_2]] rfl (by (try simp only [List.map_toArray, List.map_cons, List.map_nil]); first | done | rfl | (simp only [List.length_drop, List.length_take]; rfl)) ?_; (with_reducible refine (relievoref03_Line.calls a0_0 a0_1 a0_2 a1_0 a1_1 a1_2 false _ A9.out).mono ?_); rintro e w17 ⟨rfl, hb⟩; refine ⟨_, rfl, ?_⟩; replace BK348 := cB hb BK348; replace BK349 := cB hb BK349; replace BK350 := cB hb BK350; replace BK351 := cB hb BK351; replace HB := Aside0.mk (below_step (HB.out) hb); (try clear hb); (try clear hb2); (try clear hk); (try clear hi)))
  go_meet
  case rel => exact ⟨_, (true), (by first | rfl | (simp; done) | (simp [*]; done)), H', ⟨by first | omega | exact Nat.le_refl _⟩, ⟨BK348.out⟩, ⟨BK349.out⟩, ⟨BK350.out⟩, ⟨BK351.out⟩, ⟨HB.out⟩⟩
 clear HC4
 obtain ⟨kq, x22_3, rfl, HA, HJ3, BK348, BK349, BK350, BK351, HB⟩ := hcut
 cases kq with
 | zero => exact absurd HA.out (by simp [relievoref03_At.j0])
 | succ kj3 =>
  have H := HA.out
  clear HA
  simp only [relievoref03_At.j0] at H
  by_cases c18 : x22_3 = true
  ·subst c18
   have H1 : (some (0, 0, 0, false)) = some (r1, r2, r3, r4) := by rw [if_pos rfl] at H; exact H
   clear H
   have H := H1
   clear H1
   simp only [Option.some.injEq, Prod.mk.injEq] at H
   obtain ⟨rfl, rfl, rfl, rfl⟩ := H
   have hnb19 := NB351_348.out
   have hnc19 := NB348_351.out
   have hnb20 := NB351_349.out
   have hnc20 := NB349_351.out
   have hnb21 := NB351_350.out
   have hnc21 := NB350_351.out
   obtain ⟨hcz22_0, hcz22_1, hcz22_2⟩ := cells3 BK351.out
   have hfz22_0 := blk_frozen BK351.out 0
   have hfz22_1 := blk_frozen BK351.out 1
   have hfz22_2 := blk_frozen BK351.out 2
   go_wp2
   refine bodyPost_ret (results_ct rfl _ _ gb351 23 #[.int .i64 0, .int .i64 0, .int .i64 0] (0, 0) _ rfl ((blk_put (cs' := #[.int .i64 0, .int .i64 0, .int .i64 0]) (blk_put (blk_put BK351.out 0 _ rfl) 1 _ rfl) 2 _ rfl)) Try.underlying23 rfl (by kernel_rfl)) rfl ?_
   exact ⟨by first | rfl | (simp [errW_none, errW_some] <;> rfl) | (simp [*, errW_none, errW_some] <;> rfl), (below_set (below_set (below_set HB.out GE351.out) GE351.out) GE351.out)⟩
  replace c18 := Bool.eq_false_iff.mpr c18
  subst c18
  have H1 : ((relievoref03_floor.f a0_0 a1_0 a2_0 a2_1).bind fun bt353 => ((relievoref03_floor.f a0_1 a1_1 a2_0 a2_1).bind fun bt355 => ((relievoref03_floor.f a0_2 a1_2 a2_0 a2_1).bind fun bt357 => (if bt353.2 = true then (if bt355.2 = true then (if bt357.2 = true then (some (bt353.1, bt355.1, bt357.1, true)) else (some (0, 0, 0, false))) else (some (0, 0, 0, false))) else (some (0, 0, 0, false)))))) = some (r1, r2, r3, r4) := by rw [if_neg (show ¬ (false = true) by decide)] at H; exact H
  clear H
  have H := H1
  clear H1
  replace H := Option.bind_eq_some_iff.mp H
  obtain ⟨⟨t353, t354⟩, A230, H⟩ := H
  replace H : ((relievoref03_floor.f a0_1 a1_1 a2_0 a2_1).bind fun bt355 => ((relievoref03_floor.f a0_2 a1_2 a2_0 a2_1).bind fun bt357 => (if t354 = true then (if bt355.2 = true then (if bt357.2 = true then (some (t353, bt355.1, bt357.1, true)) else (some (0, 0, 0, false))) else (some (0, 0, 0, false))) else (some (0, 0, 0, false))))) = some (r1, r2, r3, r4) := H
  have A23 := Aside0.mk A230
  clear A230
  replace H := Option.bind_eq_some_iff.mp H
  obtain ⟨⟨t355, t356⟩, A240, H⟩ := H
  replace H : ((relievoref03_floor.f a0_2 a1_2 a2_0 a2_1).bind fun bt357 => (if t354 = true then (if t356 = true then (if bt357.2 = true then (some (t353, t355, bt357.1, true)) else (some (0, 0, 0, false))) else (some (0, 0, 0, false))) else (some (0, 0, 0, false)))) = some (r1, r2, r3, r4) := H
  have A24 := Aside0.mk A240
  clear A240
  replace H := Option.bind_eq_some_iff.mp H
  obtain ⟨⟨t357, t358⟩, A250, H⟩ := H
  replace H : (if t354 = true then (if t356 = true then (if t358 = true then (some (t353, t355, t357, true)) else (some (0, 0, 0, false))) else (some (0, 0, 0, false))) else (some (0, 0, 0, false))) = some (r1, r2, r3, r4) := H
  have A25 := Aside0.mk A250
  clear A250
  by_cases c26 : t354 = true
  ·subst c26
   have H1 : (if t356 = true then (if t358 = true then (some (t353, t355, t357, true)) else (some (0, 0, 0, false))) else (some (0, 0, 0, false))) = some (r1, r2, r3, r4) := by rw [if_pos rfl] at H; exact H
   clear H
   have H := H1
   clear H1
   by_cases c27 : t356 = true
   ·subst c27
    have H1 : (if t358 = true then (some (t353, t355, t357, true)) else (some (0, 0, 0, false))) = some (r1, r2, r3, r4) := by rw [if_pos rfl] at H; exact H
    clear H
    have H := H1
    clear H1
    by_cases c28 : t358 = true
    ·subst c28
     have H1 : (some (t353, t355, t357, true)) = some (r1, r2, r3, r4) := by rw [if_pos rfl] at H; exact H
     clear H
     have H := H1
     clear H1
     simp only [Option.some.injEq, Prod.mk.injEq] at H
     obtain ⟨rfl, rfl, rfl, rfl⟩ := H
     have hnb29 := NB348_351.out
     have hnc29 := NB351_348.out
     obtain ⟨hcz30_0, hcz30_1, hcz30_2⟩ := cells3 BK348.out
     have hnb31 := NB349_351.out
     have hnc31 := NB351_349.out
     obtain ⟨hcz32_0, hcz32_1, hcz32_2⟩ := cells3 BK349.out
     have hnb33 := NB350_351.out
     have hnc33 := NB351_350.out
     obtain ⟨hcz34_0, hcz34_1⟩ := cells2 BK350.out
     go_wp2_with (first | ((with_reducible refine gate_callee (f := 24) rfl ?_); refine goesL_ (some 30) rfl rfl Try.func24 (by kernel_rfl) rfl #[.int .i64 a0_0, .int .i64 a1_0, .agg #[.int .i64 a2_0, .int .i64 a2_1]] rfl (by (try simp only [List.map_toArray, List.map_cons, List.map_nil]); first | done | rfl | (simp only [List.length_drop, List.length_take]; rfl)) ?_; (with_reducible refine (relievoref03_floor.calls a0_0 a1_0 a2_0 a2_1 t353 true _ A23.out).mono ?_); rintro e w35 ⟨rfl, hb⟩; refine ⟨_, rfl, ?_⟩; replace BK348 := cB hb BK348; replace BK349 := cB hb BK349; replace BK350 := cB hb BK350; replace BK351 := cB hb BK351; replace HB := Aside0.mk (below_step (HB.out) hb); (try clear hb); (try clear hb2); (try clear hk); (try clear hi); obtain ⟨hcz36_0, hcz36_1, hcz36_2⟩ := cells3 BK348.out; obtain ⟨hcz37_0, hcz37_1, hcz37_2⟩ := cells3 BK349.out; obtain ⟨hcz38_0, hcz38_1⟩ := cells2 BK350.out) | ((with_reducible refine gate_callee (f := 24) rfl ?_); refine goesL_ (some 39) rfl rfl Try.func24 (by kernel_rfl) rfl #[.int .i64 a0_1, .int .i64 a1_1, .agg #[.int .i64 a2_0, .int .i64 a2_1]] rfl (by (try simp only [List.map_toArray, List.map_cons, List.map_nil]); first | done | rfl | (simp only [List.length_drop, List.length_take]; rfl)) ?_; (with_reducible refine (relievoref03_floor.calls a0_1 a1_1 a2_0 a2_1 t355 true _ A24.out).mono ?_); rintro e w39 ⟨rfl, hb⟩; refine ⟨_, rfl, ?_⟩; replace BK348 := cB hb BK348; replace BK349 := cB hb BK349; replace BK350 := cB hb BK350; replace BK351 := cB hb BK351; replace HB := Aside0.mk (below_step (HB.out) hb); (try clear hb); (try clear hb2); (try clear hk); (try clear hi); obtain ⟨hcz40_0, hcz40_1, hcz40_2⟩ := cells3 BK348.out; obtain ⟨hcz41_0, hcz41_1, hcz41_2⟩ := cells3 BK349.out; obtain ⟨hcz42_0, hcz42_1⟩ := cells2 BK350.out) | ((with_reducible refine gate_callee (f := 24) rfl ?_); refine goesL_ (some 48) rfl rfl Try.func24 (by kernel_rfl) rfl #[.int .i64 a0_2, .int .i64 a1_2, .agg #[.int .i64 a2_0, .int .i64 a2_1]] rfl (by (try simp only [List.map_toArray, List.map_cons, List.map_nil]); first | done | rfl | (simp only [List.length_drop, List.length_take]; rfl)) ?_; (with_reducible refine (relievoref03_floor.calls a0_2 a1_2 a2_0 a2_1 t357 true _ A25.out).mono ?_); rintro e w43 ⟨rfl, hb⟩; refine ⟨_, rfl, ?_⟩; replace BK348 := cB hb BK348; replace BK349 := cB hb BK349; replace BK350 := cB hb BK350; replace BK351 := cB hb BK351; replace HB := Aside0.mk (below_step (HB.out) hb); (try clear hb); (try clear hb2); (try clear hk); (try clear hi); obtain ⟨hcz44_0, hcz44_1, hcz44_2⟩ := cells3 BK351.out; have hfz44_0 := blk_frozen BK351.out 0; have hfz44_1 := blk_frozen BK351.out 1; have hfz44_2 := blk_frozen BK351.out 2))
     refine bodyPost_ret (results_ct rfl _ _ gb351 23 #[.int .i64 t353, .int .i64 t355, .int .i64 t357] (0, 0) _ rfl ((blk_put (cs' := #[.int .i64 t353, .int .i64 t355, .int .i64 t357]) (blk_put (blk_put BK351.out 0 _ rfl) 1 _ rfl) 2 _ rfl)) Try.underlying23 rfl (by kernel_rfl)) rfl ?_
     exact ⟨by first | rfl | (simp [errW_none, errW_some] <;> rfl) | (simp [*, errW_none, errW_some] <;> rfl), (below_set (below_set (below_set HB.out GE351.out) GE351.out) GE351.out)⟩
    replace c28 := Bool.eq_false_iff.mpr c28
    subst c28
    have H1 : (some (0, 0, 0, false)) = some (r1, r2, r3, r4) := by rw [if_neg (show ¬ (false = true) by decide)] at H; exact H
    clear H
    have H := H1
    clear H1
    simp only [Option.some.injEq, Prod.mk.injEq] at H
    obtain ⟨rfl, rfl, rfl, rfl⟩ := H
    have hnb45 := NB348_351.out
    have hnc45 := NB351_348.out
    obtain ⟨hcz46_0, hcz46_1, hcz46_2⟩ := cells3 BK348.out
    have hnb47 := NB349_351.out
    have hnc47 := NB351_349.out
    obtain ⟨hcz48_0, hcz48_1, hcz48_2⟩ := cells3 BK349.out
    have hnb49 := NB350_351.out
    have hnc49 := NB351_350.out
    obtain ⟨hcz50_0, hcz50_1⟩ := cells2 BK350.out
    go_wp2_with (first | ((with_reducible refine gate_callee (f := 24) rfl ?_); refine goesL_ (some 30) rfl rfl Try.func24 (by kernel_rfl) rfl #[.int .i64 a0_0, .int .i64 a1_0, .agg #[.int .i64 a2_0, .int .i64 a2_1]] rfl (by (try simp only [List.map_toArray, List.map_cons, List.map_nil]); first | done | rfl | (simp only [List.length_drop, List.length_take]; rfl)) ?_; (with_reducible refine (relievoref03_floor.calls a0_0 a1_0 a2_0 a2_1 t353 true _ A23.out).mono ?_); rintro e w51 ⟨rfl, hb⟩; refine ⟨_, rfl, ?_⟩; replace BK348 := cB hb BK348; replace BK349 := cB hb BK349; replace BK350 := cB hb BK350; replace BK351 := cB hb BK351; replace HB := Aside0.mk (below_step (HB.out) hb); (try clear hb); (try clear hb2); (try clear hk); (try clear hi); obtain ⟨hcz52_0, hcz52_1, hcz52_2⟩ := cells3 BK348.out; obtain ⟨hcz53_0, hcz53_1, hcz53_2⟩ := cells3 BK349.out; obtain ⟨hcz54_0, hcz54_1⟩ := cells2 BK350.out) | ((with_reducible refine gate_callee (f := 24) rfl ?_); refine goesL_ (some 39) rfl rfl Try.func24 (by kernel_rfl) rfl #[.int .i64 a0_1, .int .i64 a1_1, .agg #[.int .i64 a2_0, .int .i64 a2_1]] rfl (by (try simp only [List.map_toArray, List.map_cons, List.map_nil]); first | done | rfl | (simp only [List.length_drop, List.length_take]; rfl)) ?_; (with_reducible refine (relievoref03_floor.calls a0_1 a1_1 a2_0 a2_1 t355 true _ A24.out).mono ?_); rintro e w55 ⟨rfl, hb⟩; refine ⟨_, rfl, ?_⟩; replace BK348 := cB hb BK348; replace BK349 := cB hb BK349; replace BK350 := cB hb BK350; replace BK351 := cB hb BK351; replace HB := Aside0.mk (below_step (HB.out) hb); (try clear hb); (try clear hb2); (try clear hk); (try clear hi); obtain ⟨hcz56_0, hcz56_1, hcz56_2⟩ := cells3 BK348.out; obtain ⟨hcz57_0, hcz57_1, hcz57_2⟩ := cells3 BK349.out; obtain ⟨hcz58_0, hcz58_1⟩ := cells2 BK350.out) | ((with_reducible refine gate_callee (f := 24) rfl ?_); refine goesL_ (some 48) rfl rfl Try.func24 (by kernel_rfl) rfl #[.int .i64 a0_2, .int .i64 a1_2, .agg #[.int .i64 a2_0, .int .i64 a2_1]] rfl (by (try simp only [List.map_toArray, List.map_cons, List.map_nil]); first | done | rfl | (simp only [List.length_drop, List.length_take]; rfl)) ?_; (with_reducible refine (relievoref03_floor.calls a0_2 a1_2 a2_0 a2_1 t357 false _ A25.out).mono ?_); rintro e w59 ⟨rfl, hb⟩; refine ⟨_, rfl, ?_⟩; replace BK348 := cB hb BK348; replace BK349 := cB hb BK349; replace BK350 := cB hb BK350; replace BK351 := cB hb BK351; replace HB := Aside0.mk (below_step (HB.out) hb); (try clear hb); (try clear hb2); (try clear hk); (try clear hi); obtain ⟨hcz60_0, hcz60_1, hcz60_2⟩ := cells3 BK351.out; have hfz60_0 := blk_frozen BK351.out 0; have hfz60_1 := blk_frozen BK351.out 1; have hfz60_2 := blk_frozen BK351.out 2))
    refine bodyPost_ret (results_ct rfl _ _ gb351 23 #[.int .i64 0, .int .i64 0, .int .i64 0] (0, 0) _ rfl ((blk_put (cs' := #[.int .i64 0, .int .i64 0, .int .i64 0]) (blk_put (blk_put BK351.out 0 _ rfl) 1 _ rfl) 2 _ rfl)) Try.underlying23 rfl (by kernel_rfl)) rfl ?_
    exact ⟨by first | rfl | (simp [errW_none, errW_some] <;> rfl) | (simp [*, errW_none, errW_some] <;> rfl), (below_set (below_set (below_set HB.out GE351.out) GE351.out) GE351.out)⟩
   replace c27 := Bool.eq_false_iff.mpr c27
   subst c27
   have H1 : (some (0, 0, 0, false)) = some (r1, r2, r3, r4) := by rw [if_neg (show ¬ (false = true) by decide)] at H; exact H
   clear H
   have H := H1
   clear H1
   simp only [Option.some.injEq, Prod.mk.injEq] at H
   obtain ⟨rfl, rfl, rfl, rfl⟩ := H
   have hnb61 := NB348_351.out
   have hnc61 := NB351_348.out
   obtain ⟨hcz62_0, hcz62_1, hcz62_2⟩ := cells3 BK348.out
   have hnb63 := NB349_351.out
   have hnc63 := NB351_349.out
   obtain ⟨hcz64_0, hcz64_1, hcz64_2⟩ := cells3 BK349.out
   have hnb65 := NB350_351.out
   have hnc65 := NB351_350.out
   obtain ⟨hcz66_0, hcz66_1⟩ := cells2 BK350.out
   go_wp2_with (first | ((with_reducible refine gate_callee (f := 24) rfl ?_); refine goesL_ (some 30) rfl rfl Try.func24 (by kernel_rfl) rfl #[.int .i64 a0_0, .int .i64 a1_0, .agg #[.int .i64 a2_0, .int .i64 a2_1]] rfl (by (try simp only [List.map_toArray, List.map_cons, List.map_nil]); first | done | rfl | (simp only [List.length_drop, List.length_take]; rfl)) ?_; (with_reducible refine (relievoref03_floor.calls a0_0 a1_0 a2_0 a2_1 t353 true _ A23.out).mono ?_); rintro e w67 ⟨rfl, hb⟩; refine ⟨_, rfl, ?_⟩; replace BK348 := cB hb BK348; replace BK349 := cB hb BK349; replace BK350 := cB hb BK350; replace BK351 := cB hb BK351; replace HB := Aside0.mk (below_step (HB.out) hb); (try clear hb); (try clear hb2); (try clear hk); (try clear hi); obtain ⟨hcz68_0, hcz68_1, hcz68_2⟩ := cells3 BK348.out; obtain ⟨hcz69_0, hcz69_1, hcz69_2⟩ := cells3 BK349.out; obtain ⟨hcz70_0, hcz70_1⟩ := cells2 BK350.out) | ((with_reducible refine gate_callee (f := 24) rfl ?_); refine goesL_ (some 39) rfl rfl Try.func24 (by kernel_rfl) rfl #[.int .i64 a0_1, .int .i64 a1_1, .agg #[.int .i64 a2_0, .int .i64 a2_1]] rfl (by (try simp only [List.map_toArray, List.map_cons, List.map_nil]); first | done | rfl | (simp only [List.length_drop, List.length_take]; rfl)) ?_; (with_reducible refine (relievoref03_floor.calls a0_1 a1_1 a2_0 a2_1 t355 false _ A24.out).mono ?_); rintro e w71 ⟨rfl, hb⟩; refine ⟨_, rfl, ?_⟩; replace BK348 := cB hb BK348; replace BK349 := cB hb BK349; replace BK350 := cB hb BK350; replace BK351 := cB hb BK351; replace HB := Aside0.mk (below_step (HB.out) hb); (try clear hb); (try clear hb2); (try clear hk); (try clear hi); obtain ⟨hcz72_0, hcz72_1, hcz72_2⟩ := cells3 BK348.out; obtain ⟨hcz73_0, hcz73_1, hcz73_2⟩ := cells3 BK349.out; obtain ⟨hcz74_0, hcz74_1⟩ := cells2 BK350.out) | ((with_reducible refine gate_callee (f := 24) rfl ?_); refine goesL_ (some 48) rfl rfl Try.func24 (by kernel_rfl) rfl #[.int .i64 a0_2, .int .i64 a1_2, .agg #[.int .i64 a2_0, .int .i64 a2_1]] rfl (by (try simp only [List.map_toArray, List.map_cons, List.map_nil]); first | done | rfl | (simp only [List.length_drop, List.length_take]; rfl)) ?_; (with_reducible refine (relievoref03_floor.calls a0_2 a1_2 a2_0 a2_1 t357 t358 _ A25.out).mono ?_); rintro e w75 ⟨rfl, hb⟩; refine ⟨_, rfl, ?_⟩; replace BK348 := cB hb BK348; replace BK349 := cB hb BK349; replace BK350 := cB hb BK350; replace BK351 := cB hb BK351; replace HB := Aside0.mk (below_step (HB.out) hb); (try clear hb); (try clear hb2); (try clear hk); (try clear hi); obtain ⟨hcz76_0, hcz76_1, hcz76_2⟩ := cells3 BK351.out; have hfz76_0 := blk_frozen BK351.out 0; have hfz76_1 := blk_frozen BK351.out 1; have hfz76_2 := blk_frozen BK351.out 2))
   refine bodyPost_ret (results_ct rfl _ _ gb351 23 #[.int .i64 0, .int .i64 0, .int .i64 0] (0, 0) _ rfl ((blk_put (cs' := #[.int .i64 0, .int .i64 0, .int .i64 0]) (blk_put (blk_put BK351.out 0 _ rfl) 1 _ rfl) 2 _ rfl)) Try.underlying23 rfl (by kernel_rfl)) rfl ?_
   exact ⟨by first | rfl | (simp [errW_none, errW_some] <;> rfl) | (simp [*, errW_none, errW_some] <;> rfl), (below_set (below_set (below_set HB.out GE351.out) GE351.out) GE351.out)⟩
  replace c26 := Bool.eq_false_iff.mpr c26
  subst c26
  have H1 : (some (0, 0, 0, false)) = some (r1, r2, r3, r4) := by rw [if_neg (show ¬ (false = true) by decide)] at H; exact H
  clear H
  have H := H1
  clear H1
  simp only [Option.some.injEq, Prod.mk.injEq] at H
  obtain ⟨rfl, rfl, rfl, rfl⟩ := H
  have hnb77 := NB348_351.out
  have hnc77 := NB351_348.out
  obtain ⟨hcz78_0, hcz78_1, hcz78_2⟩ := cells3 BK348.out
  have hnb79 := NB349_351.out
  have hnc79 := NB351_349.out
  obtain ⟨hcz80_0, hcz80_1, hcz80_2⟩ := cells3 BK349.out
  have hnb81 := NB350_351.out
  have hnc81 := NB351_350.out
  obtain ⟨hcz82_0, hcz82_1⟩ := cells2 BK350.out
  go_wp2_with (first | ((with_reducible refine gate_callee (f := 24) rfl ?_); refine goesL_ (some 30) rfl rfl Try.func24 (by kernel_rfl) rfl #[.int .i64 a0_0, .int .i64 a1_0, .agg #[.int .i64 a2_0, .int .i64 a2_1]] rfl (by (try simp only [List.map_toArray, List.map_cons, List.map_nil]); first | done | rfl | (simp only [List.length_drop, List.length_take]; rfl)) ?_; (with_reducible refine (relievoref03_floor.calls a0_0 a1_0 a2_0 a2_1 t353 false _ A23.out).mono ?_); rintro e w83 ⟨rfl, hb⟩; refine ⟨_, rfl, ?_⟩; replace BK348 := cB hb BK348; replace BK349 := cB hb BK349; replace BK350 := cB hb BK350; replace BK351 := cB hb BK351; replace HB := Aside0.mk (below_step (HB.out) hb); (try clear hb); (try clear hb2); (try clear hk); (try clear hi); obtain ⟨hcz84_0, hcz84_1, hcz84_2⟩ := cells3 BK348.out; obtain ⟨hcz85_0, hcz85_1, hcz85_2⟩ := cells3 BK349.out; obtain ⟨hcz86_0, hcz86_1⟩ := cells2 BK350.out) | ((with_reducible refine gate_callee (f := 24) rfl ?_); refine goesL_ (some 39) rfl rfl Try.func24 (by kernel_rfl) rfl #[.int .i64 a0_1, .int .i64 a1_1, .agg #[.int .i64 a2_0, .int .i64 a2_1]] rfl (by (try simp only [List.map_toArray, List.map_cons, List.map_nil]); first | done | rfl | (simp only [List.length_drop, List.length_take]; rfl)) ?_; (with_reducible refine (relievoref03_floor.calls a0_1 a1_1 a2_0 a2_1 t355 t356 _ A24.out).mono ?_); rintro e w87 ⟨rfl, hb⟩; refine ⟨_, rfl, ?_⟩; replace BK348 := cB hb BK348; replace BK349 := cB hb BK349; replace BK350 := cB hb BK350; replace BK351 := cB hb BK351; replace HB := Aside0.mk (below_step (HB.out) hb); (try clear hb); (try clear hb2); (try clear hk); (try clear hi); obtain ⟨hcz88_0, hcz88_1, hcz88_2⟩ := cells3 BK348.out; obtain ⟨hcz89_0, hcz89_1, hcz89_2⟩ := cells3 BK349.out; obtain ⟨hcz90_0, hcz90_1⟩ := cells2 BK350.out) | ((with_reducible refine gate_callee (f := 24) rfl ?_); refine goesL_ (some 48) rfl rfl Try.func24 (by kernel_rfl) rfl #[.int .i64 a0_2, .int .i64 a1_2, .agg #[.int .i64 a2_0, .int .i64 a2_1]] rfl (by (try simp only [List.map_toArray, List.map_cons, List.map_nil]); first | done | rfl | (simp only [List.length_drop, List.length_take]; rfl)) ?_; (with_reducible refine (relievoref03_floor.calls a0_2 a1_2 a2_0 a2_1 t357 t358 _ A25.out).mono ?_); rintro e w91 ⟨rfl, hb⟩; refine ⟨_, rfl, ?_⟩; replace BK348 := cB hb BK348; replace BK349 := cB hb BK349; replace BK350 := cB hb BK350; replace BK351 := cB hb BK351; replace HB := Aside0.mk (below_step (HB.out) hb); (try clear hb); (try clear hb2); (try clear hk); (try clear hi); obtain ⟨hcz92_0, hcz92_1, hcz92_2⟩ := cells3 BK351.out; have hfz92_0 := blk_frozen BK351.out 0; have hfz92_1 := blk_frozen BK351.out 1; have hfz92_2 := blk_frozen BK351.out 2))
  refine bodyPost_ret (results_ct rfl _ _ gb351 23 #[.int .i64 0, .int .i64 0, .int .i64 0] (0, 0) _ rfl ((blk_put (cs' := #[.int .i64 0, .int .i64 0, .int .i64 0]) (blk_put (blk_put BK351.out 0 _ rfl) 1 _ rfl) 2 _ rfl)) Try.underlying23 rfl (by kernel_rfl)) rfl ?_
  exact ⟨by first | rfl | (simp [errW_none, errW_some] <;> rfl) | (simp [*, errW_none, errW_some] <;> rfl), (below_set (below_set (below_set HB.out GE351.out) GE351.out) GE351.out)⟩

end Go.Proofs.Ytfmbophennepdaa.G
