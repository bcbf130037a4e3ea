-- Written by a program of this session (wip/gen), out of the translation; Lean checks it.
import Derived.Test.YtihklolcnfbbjaaGx0
namespace Go.Proofs.Ytihklolcnfbbjaa.G
open Go.RowKit Go.Proofs.YtihklolcnfbbjaaW.PrintWords Go.Proofs.YtihklolcnfbbjaaW.PrintLast Go.Proofs.YtihklolcnfbbjaaW.PrintMore
attribute [local go_sem high] idx35_0 idx35_1 idx35_2 idx35_3 idx41_0 idx41_1 idx41_2 idx84_0 idx84_1 idx84_2 idx88_0 idx88_1 idx88_2 wl0 wl1 wl2 wl3 wl4 wl5 tm0_3 tm1_3 tm2_3 tm3_3 tm4_3 tm5_3
attribute [local go_sem] max2_int min2_int max_two min_two max_three min_three max_four min_four   -- for this text's walks alone
set_option linter.unusedVariables false
set_option linter.unusedSimpArgs false

/-! ### slab_part_span: function 51 -/
mutual
def slab_part_span.j0 : Nat → Int → Int → Int → Int → Option (Int × Int × Int × Int × Bool)
  | 0, _, _, _, _ => none
  | k + 1, x550000, x550001, x550002, x550003 => if x550002 > x550003 then (slab_part_span.j1 k true x550000 x550001 x550002 x550003) else (if x550001 = 0 then (if x550000 < x550002 then (slab_part_span.j1 k true x550000 x550001 x550002 x550003) else (slab_part_span.j1 k (decide (x550000 > x550003)) x550000 x550001 x550002 x550003)) else (slab_part_span.j1 k false x550000 x550001 x550002 x550003))
def slab_part_span.j1 : Nat → Bool → Int → Int → Int → Int → Option (Int × Int × Int × Int × Bool)
  | 0, _, _, _, _, _ => none
  | k + 1, x44, x550000, x550001, x550002, x550003 => if x44 = true then (some (0, 0, 0, 0, false)) else (if x550001 = 0 then (some (0, 1, 1, 0, true)) else (some (wrap64 (x550002 - x550000), x550001, wrap64 (x550003 - x550000), x550001, true)))
end
def slab_part_span.f (k : Nat) (a0_0 : Int) (a0_1 : Int) (a0_2 : Int) (a0_3 : Int) : Option (Int × Int × Int × Int × Bool) := if a0_1 < 0 then (slab_part_span.j0 k (wrap64 (-a0_0)) (wrap64 (-a0_1)) (wrap64 (-a0_3)) (wrap64 (-a0_2))) else (slab_part_span.j0 k a0_0 a0_1 a0_2 a0_3)
theorem slab_part_span.mono_l : ∀ k, (∀ y0 y1 y2 y3, LeO (slab_part_span.j0 k y0 y1 y2 y3) (slab_part_span.j0 (k + 1) y0 y1 y2 y3)) ∧ (∀ y0 y1 y2 y3 y4, LeO (slab_part_span.j1 k y0 y1 y2 y3 y4) (slab_part_span.j1 (k + 1) y0 y1 y2 y3 y4))
  | 0 => ⟨fun _ _ _ _ r h => by simp [slab_part_span.j0] at h, fun _ _ _ _ _ r h => by simp [slab_part_span.j1] at h⟩
  | k + 1 => by
    obtain ⟨ih0, ih1⟩ := slab_part_span.mono_l k
    refine ⟨?_, ?_⟩
    · intro y0 y1 y2 y3
      unfold slab_part_span.j0
      repeat' first
      | (with_reducible exact ih0 _ _ _ _)
      | (with_reducible exact ih1 _ _ _ _ _)
      | (with_reducible exact LeO.refl _)
      | (with_reducible exact LeO.none _)
      | (with_reducible refine LeO.ite ?_ ?_)
      | (with_reducible refine LeO.bind ?_ (fun _ => ?_))
      | exact ih0 _ _ _ _
      | exact ih1 _ _ _ _ _
      | exact LeO.none _
      | refine LeO.ite ?_ ?_
      | refine LeO.bind ?_ (fun _ => ?_)
    · intro y0 y1 y2 y3 y4
      unfold slab_part_span.j1
      repeat' first
      | (with_reducible exact ih0 _ _ _ _)
      | (with_reducible exact ih1 _ _ _ _ _)
      | (with_reducible exact LeO.refl _)
      | (with_reducible exact LeO.none _)
      | (with_reducible refine LeO.ite ?_ ?_)
      | (with_reducible refine LeO.bind ?_ (fun _ => ?_))
      | exact ih0 _ _ _ _
      | exact ih1 _ _ _ _ _
      | exact LeO.none _
      | refine LeO.ite ?_ ?_
      | refine LeO.bind ?_ (fun _ => ?_)
theorem slab_part_span.mono : ∀ a0 a1 a2 a3 k, LeO (slab_part_span.f k a0 a1 a2 a3) (slab_part_span.f (k + 1) a0 a1 a2 a3) := by
  intro a0 a1 a2 a3 k
  obtain ⟨ih0, ih1⟩ := slab_part_span.mono_l k
  unfold slab_part_span.f
  repeat' first
      | (with_reducible exact ih0 _ _ _ _)
      | (with_reducible exact ih1 _ _ _ _ _)
      | (with_reducible exact LeO.refl _)
      | (with_reducible exact LeO.none _)
      | (with_reducible refine LeO.ite ?_ ?_)
      | (with_reducible refine LeO.bind ?_ (fun _ => ?_))
      | exact ih0 _ _ _ _
      | exact ih1 _ _ _ _ _
      | exact LeO.none _
      | refine LeO.ite ?_ ?_
      | refine LeO.bind ?_ (fun _ => ?_)
def slab_part_span.T7 : Bool × List (List Nat × List Nat) := (true, [([], []), ([0], [0]), ([], []), ([2], [2]), ([1, 3], [1, 3]), ([], []), ([5], [5]), ([4, 6], [4, 6]), ([], []), ([8], [8]), ([], []), ([10], [10]), ([9, 11], [9, 11]), ([], []), ([13], [13]), ([12, 14], [12, 14]), ([7, 0, 1, 2, 3, 4, 5, 6, 7], [7]), ([15, 16, 0, 1, 2, 3, 4, 5, 6, 7, 8, 9, 10, 11, 12, 13, 14, 15, 16], [15]), ([17, 0, 1, 2, 3, 4, 5, 6, 7, 8, 9, 10, 11, 12, 13, 14, 15, 16, 17], [])])
def slab_part_span.B7 : List Nat := [0, 1, 0, 4, 15, 0, 32, 127, 0, 256, 0, 1024, 3840, 0, 8192, 32512, 255, 131071, 262143]
theorem slab_part_span.tab7 : rtab .any (opsOf Try.f51 7) = slab_part_span.T7 := by kernel_rfl
theorem slab_part_span.bits7 : waitsOk slab_part_span.T7.2 slab_part_span.B7 = true := by kernel_rfl
set_option maxHeartbeats 8000000 in
set_option maxRecDepth 100000 in
theorem slab_part_span.calls (k : Nat) (a0_0 : Int) (a0_1 : Int) (a0_2 : Int) (a0_3 : Int) (r1 : Int) (r2 : Int) (r3 : Int) (r4 : Int) (r5 : Bool) (w : World) (h : slab_part_span.f k a0_0 a0_1 a0_2 a0_3 = some (r1, r2, r3, r4, r5)) :
    Calls Try.prog 51 #[.agg #[.int .i64 a0_0, .int .i64 a0_1, .int .i64 a0_2, .int .i64 a0_3]] w fun e w' => e = .returned (.tuple #[.agg #[.int .i64 r1, .int .i64 r2], .agg #[.int .i64 r3, .int .i64 r4], .bool r5]) ∧ Below w.heap.size w w' := by
 have hu83 := Try.underlying83
 have hu28 := Try.underlying28
 have HB := Aside0.mk (Below.refl w.heap.size w)
 have H : (if a0_1 < 0 then (slab_part_span.j0 k (wrap64 (-a0_0)) (wrap64 (-a0_1)) (wrap64 (-a0_3)) (wrap64 (-a0_2))) else (slab_part_span.j0 k a0_0 a0_1 a0_2 a0_3)) = some (r1, r2, r3, r4, r5) := h
 clear h
 have HC2 := Aside0.mk H
 clear H
 go_enter Try.func51, Try.ntmps51
 go_upto_if 7 with (first | ((with_reducible refine gate_dst (N := 1) rfl ?_); refine box_event ?hg (N := 1) ?hd (cs := #[.int .i64 a0_0, .int .i64 a0_1, .int .i64 a0_2, .int .i64 a0_3]) (t := 83) ?hr ?_; (case hd => rfl); (case hg => rfl); (case hr => first | (go_simp; done) | (go_simp; rfl)); intro gb549 hg w3 hbox hb; have BK549 := Aside0.mk (hbox); have GE549 := Aside0.mk (bG hg (HB.out)); replace HB := Aside0.mk (below_step (HB.out) hb); clear hb hbox hg) | ((with_reducible refine gate_dst (N := 2) rfl ?_); refine box_event ?hg (N := 2) ?hd (cs := #[.int .i64 0, .int .i64 0]) (t := 28) ?hr ?_; (case hd => rfl); (case hg => rfl); (case hr => first | (go_simp; done) | (go_simp; rfl)); intro gb550 hg w4 hbox hb; have BK550 := Aside0.mk (hbox); have GE550 := Aside0.mk (bG hg (HB.out)); have NB549_550 := cN hg BK549; have NB550_549 := cM hg BK549; replace BK549 := cB hb BK549; replace HB := Aside0.mk (below_step (HB.out) hb); clear hb hbox hg) | ((with_reducible refine gate_dst (N := 3) rfl ?_); refine box_event ?hg (N := 3) ?hd (cs := #[.int .i64 0, .int .i64 0]) (t := 28) ?hr ?_; (case hd => rfl); (case hg => rfl); (case hr => first | (go_simp; done) | (go_simp; rfl)); intro gb551 hg w5 hbox hb; have BK551 := Aside0.mk (hbox); have GE551 := Aside0.mk (bG hg (HB.out)); have NB549_551 := cN hg BK549; have NB551_549 := cM hg BK549; have NB550_551 := cN hg BK550; have NB551_550 := cM hg BK550; replace BK549 := cB hb BK549; replace BK550 := cB hb BK550; replace HB := Aside0.mk (below_step (HB.out) hb); clear hb hbox hg; obtain ⟨hcz6_0, hcz6_1, hcz6_2, hcz6_3⟩ := cells4 BK549.out))
 (try simp only [Act.put, List.setIfInBounds_toArray, List.set_cons_zero, List.set_cons_succ])
 go_cut [] (fun wc => ∃ (kq : Nat) (x550000_1 : Int) (x550001_1 : Int) (x550002_1 : Int) (x550003_1 : Int), Aside0 (slab_part_span.j0 kq x550000_1 x550001_1 x550002_1 x550003_1 = some (r1, r2, r3, r4, r5)) ∧ Aside0 (kq ≤ k) ∧ Aside0 (wc.heap[gb549]? = some (.cells #[.int .i64 x550000_1, .int .i64 x550001_1, .int .i64 x550002_1, .int .i64 x550003_1] 83 (0, 0))) ∧ Aside0 (wc.heap[gb550]? = some (.cells #[.int .i64 0, .int .i64 0] 28 (0, 0))) ∧ Aside0 (wc.heap[gb551]? = some (.cells #[.int .i64 0, .int .i64 0] 28 (0, 0))) ∧ Aside0 (Below w.heap.size w wc))
 case first =>
  have H := HC2.out
  clear HC2
  by_cases c7 : a0_1 < 0
  ·rw [if_pos c7] at H
   have c7b0 : decide (a0_1 < 0) = true := decide_eq_true c7
   clear c7
   (first | rw [c7b0] | (simp only [i64_w, i32_w]; rw [c7b0]) | skip)
   have H' := Aside0.mk H
   clear H
   have hnb8 := NB549_550.out
   have hnc8 := NB550_549.out
   have hnb9 := NB549_551.out
   have hnc9 := NB551_549.out
   obtain ⟨hcz10_0, hcz10_1, hcz10_2, hcz10_3⟩ := cells4 BK549.out
   have hfz10_0 := blk_frozen BK549.out 0
   have hfz10_1 := blk_frozen BK549.out 1
   have hfz10_2 := blk_frozen BK549.out 2
   have hfz10_3 := blk_frozen BK549.out 3
   go_wp2
   go_meet
   case rel => exact ⟨_, (wrap64 (-a0_0)), (wrap64 (-a0_1)), (wrap64 (-a0_3)), (wrap64 (-a0_2)), H', ⟨by first | omega | exact Nat.le_refl _⟩, ⟨(blk_put (cs' := #[.int .i64 (wrap64 (-a0_0)), .int .i64 (wrap64 (-a0_1)), .int .i64 (wrap64 (-a0_3)), .int .i64 (wrap64 (-a0_2))]) (blk_put (blk_put (blk_put BK549.out 0 _ rfl) 1 _ rfl) 2 _ rfl) 3 _ rfl)⟩, ⟨(blk_far (blk_far (blk_far (blk_far BK550.out NB550_549.out _) NB550_549.out _) NB550_549.out _) NB550_549.out _)⟩, ⟨(blk_far (blk_far (blk_far (blk_far BK551.out NB551_549.out _) NB551_549.out _) NB551_549.out _) NB551_549.out _)⟩, ⟨(below_set (below_set (below_set (below_set HB.out GE549.out) GE549.out) GE549.out) GE549.out)⟩⟩
  rw [if_neg c7] at H
  have c7b0 : decide (a0_1 < 0) = false := decide_eq_false c7
  clear c7
  (first | rw [c7b0] | (simp only [i64_w, i32_w]; rw [c7b0]) | skip)
  have H' := Aside0.mk H
  clear H
  go_wp2
  go_meet
  case rel => exact ⟨_, (a0_0), (a0_1), (a0_2), (a0_3), H', ⟨by first | omega | exact Nat.le_refl _⟩, ⟨BK549.out⟩, ⟨BK550.out⟩, ⟨BK551.out⟩, ⟨HB.out⟩⟩
 clear HC2
 try clear hcz6_0
 try clear hcz6_1
 try clear hcz6_2
 try clear hcz6_3
 obtain ⟨kq, x550000_1, x550001_1, x550002_1, x550003_1, HA, HJ1, BK549, BK550, BK551, HB⟩ := hcut
 cases kq with
 | zero => exact absurd HA.out (by simp [slab_part_span.j0])
 | succ kj1 =>
  have H := HA.out
  clear HA
  simp only [slab_part_span.j0] at H
  have HC11 := Aside0.mk H
  clear H
  go_upto_region 3 with (fail)
  go_cut [44] (fun v44 wc => ∃ (kq : Nat) (x44_10 : Bool), v44 = .bool x44_10 ∧ Aside0 (slab_part_span.j1 kq x44_10 x550000_1 x550001_1 x550002_1 x550003_1 = some (r1, r2, r3, r4, r5)) ∧ Aside0 (kq ≤ kj1) ∧ Aside0 (wc.heap[gb549]? = some (.cells #[.int .i64 x550000_1, .int .i64 x550001_1, .int .i64 x550002_1, .int .i64 x550003_1] 83 (0, 0))) ∧ Aside0 (wc.heap[gb550]? = some (.cells #[.int .i64 0, .int .i64 0] 28 (0, 0))) ∧ Aside0 (wc.heap[gb551]? = some (.cells #[.int .i64 0, .int .i64 0] 28 (0, 0))) ∧ Aside0 (Below w.heap.size w wc))
  case first =>
   have H := HC11.out
   clear HC11
   by_cases c12 : x550002_1 > x550003_1
   ·rw [if_pos c12] at H
    have c12b0 : decide (x550003_1 < x550002_1) = true := decide_eq_true c12
    clear c12
    (first | rw [c12b0] | (simp only [i64_w, i32_w]; rw [c12b0]) | skip)
    have H' := Aside0.mk H
    clear H
    obtain ⟨hcz13_0, hcz13_1, hcz13_2, hcz13_3⟩ := cells4 BK549.out
    go_wp2
    go_meet
    case rel => exact ⟨_, (true), (by first | rfl | (simp; done) | (simp [*]; done)), H', ⟨by have := HJ1.out; first | omega | exact Nat.le_refl _⟩, ⟨BK549.out⟩, ⟨BK550.out⟩, ⟨BK551.out⟩, ⟨HB.out⟩⟩
   rw [if_neg c12] at H
   have c12b0 : decide (x550003_1 < x550002_1) = false := decide_eq_false c12
   clear c12
   (first | rw [c12b0] | (simp only [i64_w, i32_w]; rw [c12b0]) | skip)
   by_cases c14 : x550001_1 = 0
   ·rw [if_pos c14] at H
    have c14b0 : (x550001_1 == 0) = true := beq_iff_eq.mpr c14
    have c14b1 : (x550001_1 != 0) = false := bne_eq_false_iff_eq.mpr c14
    clear c14
    by_cases c15 : x550000_1 < x550002_1
    ·rw [if_pos c15] at H
     have c15b0 : decide (x550000_1 < x550002_1) = true := decide_eq_true c15
     clear c15
     have H' := Aside0.mk H
     clear H
     obtain ⟨hcz16_0, hcz16_1, hcz16_2, hcz16_3⟩ := cells4 BK549.out
     go_wp2
     go_meet
     case rel => exact ⟨_, (true), (by first | rfl | (simp; done) | (simp [*]; done)), H', ⟨by have := HJ1.out; first | omega | exact Nat.le_refl _⟩, ⟨BK549.out⟩, ⟨BK550.out⟩, ⟨BK551.out⟩, ⟨HB.out⟩⟩
    rw [if_neg c15] at H
    have c15b0 : decide (x550000_1 < x550002_1) = false := decide_eq_false c15
    clear c15
    have H' := Aside0.mk H
    clear H
    obtain ⟨hcz17_0, hcz17_1, hcz17_2, hcz17_3⟩ := cells4 BK549.out
    go_wp2
    go_meet
    case rel => exact ⟨_, (decide (x550000_1 > x550003_1)), (by first | rfl | (simp; done) | (simp [*]; done)), H', ⟨by have := HJ1.out; first | omega | exact Nat.le_refl _⟩, ⟨BK549.out⟩, ⟨BK550.out⟩, ⟨BK551.out⟩, ⟨HB.out⟩⟩
   rw [if_neg c14] at H
   have c14b0 : (x550001_1 == 0) = false := beq_eq_false_iff_ne.mpr c14
   have c14b1 : (x550001_1 != 0) = true := bne_iff_ne.mpr c14
   have H' := Aside0.mk H
   clear H
   obtain ⟨hcz18_0, hcz18_1, hcz18_2, hcz18_3⟩ := cells4 BK549.out
   go_wp2
   go_meet
   case rel => exact ⟨_, (false), (by first | rfl | (simp; done) | (simp [*]; done)), H', ⟨by have := HJ1.out; first | omega | exact Nat.le_refl _⟩, ⟨BK549.out⟩, ⟨BK550.out⟩, ⟨BK551.out⟩, ⟨HB.out⟩⟩
  clear HC11
  obtain ⟨kq, x44_10, rfl, HA, HJ10, BK549, BK550, BK551, HB⟩ := hcut
  cases kq with
  | zero => exact absurd HA.out (by simp [slab_part_span.j1])
  | succ kj10 =>
   have H := HA.out
   clear HA
   simp only [slab_part_span.j1] at H
   by_cases c19 : x44_10 = true
   ·subst c19
    have H1 : (some (0, 0, 0, 0, false)) = some (r1, r2, r3, r4, r5) := by rw [if_pos rfl] at H; exact H
    clear H
    have H := H1
    clear H1
    simp only [Option.some.injEq, Prod.mk.injEq] at H
    obtain ⟨rfl, rfl, rfl, rfl, rfl⟩ := H
    have hnb20 := NB550_549.out
    have hnc20 := NB549_550.out
    have hnb21 := NB550_551.out
    have hnc21 := NB551_550.out
    obtain ⟨hcz22_0, hcz22_1⟩ := cells2 BK550.out
    have hfz22_0 := blk_frozen BK550.out 0
    have hfz22_1 := blk_frozen BK550.out 1
    have hnb23 := NB551_549.out
    have hnc23 := NB549_551.out
    obtain ⟨hcz24_0, hcz24_1⟩ := cells2 BK551.out
    have hfz24_0 := blk_frozen BK551.out 0
    have hfz24_1 := blk_frozen BK551.out 1
    go_wp2
    refine bodyPost_ret (results_list (rs := [.cell 2 28, .cell 3 28, .tmp 4]) rfl (by simp) (.cell gb550 28 #[.int .i64 0, .int .i64 0] (0, 0) _ rfl ((blk_far (blk_far (blk_put (cs' := #[.int .i64 0, .int .i64 0]) (blk_put BK550.out 0 _ rfl) 1 _ rfl) NB550_551.out _) NB550_551.out _)) Try.underlying28 rfl (by kernel_rfl) (.cell gb551 28 #[.int .i64 0, .int .i64 0] (0, 0) _ rfl ((blk_put (cs' := #[.int .i64 0, .int .i64 0]) (blk_put (blk_far (blk_far BK551.out NB551_550.out _) NB551_550.out _) 0 _ rfl) 1 _ rfl)) Try.underlying28 rfl (by kernel_rfl) (.tmp .nil)))) rfl ?_
    exact ⟨by first | rfl | (simp [errW_none, errW_some] <;> rfl) | (simp [*, errW_none, errW_some] <;> rfl), (below_set (below_set (below_set (below_set HB.out GE550.out) GE550.out) GE551.out) GE551.out)⟩
   replace c19 := Bool.eq_false_iff.mpr c19
   subst c19
   have H1 : (if x550001_1 = 0 then (some (0, 1, 1, 0, true)) else (some (wrap64 (x550002_1 - x550000_1), x550001_1, wrap64 (x550003_1 - x550000_1), x550001_1, true))) = some (r1, r2, r3, r4, r5) := by rw [if_neg (show ¬ (false = true) by decide)] at H; exact H
   clear H
   have H := H1
   clear H1
   by_cases c25 : x550001_1 = 0
   ·rw [if_pos c25] at H
    have c25b0 : (x550001_1 == 0) = true := beq_iff_eq.mpr c25
    have c25b1 : (x550001_1 != 0) = false := bne_eq_false_iff_eq.mpr c25
    clear c25
    simp only [Option.some.injEq, Prod.mk.injEq] at H
    obtain ⟨rfl, rfl, rfl, rfl, rfl⟩ := H
    have hnb26 := NB549_550.out
    have hnc26 := NB550_549.out
    have hnb27 := NB549_551.out
    have hnc27 := NB551_549.out
    obtain ⟨hcz28_0, hcz28_1, hcz28_2, hcz28_3⟩ := cells4 BK549.out
    have hnb29 := NB550_551.out
    have hnc29 := NB551_550.out
    obtain ⟨hcz30_0, hcz30_1⟩ := cells2 BK550.out
    have hfz30_0 := blk_frozen BK550.out 0
    have hfz30_1 := blk_frozen BK550.out 1
    obtain ⟨hcz31_0, hcz31_1⟩ := cells2 BK551.out
    have hfz31_0 := blk_frozen BK551.out 0
    have hfz31_1 := blk_frozen BK551.out 1
    go_wp2
    refine bodyPost_ret (results_list (rs := [.cell 2 28, .cell 3 28, .tmp 4]) rfl (by simp) (.cell gb550 28 #[.int .i64 0, .int .i64 1] (0, 0) _ rfl ((blk_far (blk_far (blk_put (cs' := #[.int .i64 0, .int .i64 1]) (blk_put BK550.out 0 _ rfl) 1 _ rfl) NB550_551.out _) NB550_551.out _)) Try.underlying28 rfl (by kernel_rfl) (.cell gb551 28 #[.int .i64 1, .int .i64 0] (0, 0) _ rfl ((blk_put (cs' := #[.int .i64 1, .int .i64 0]) (blk_put (blk_far (blk_far BK551.out NB551_550.out _) NB551_550.out _) 0 _ rfl) 1 _ rfl)) Try.underlying28 rfl (by kernel_rfl) (.tmp .nil)))) rfl ?_
    exact ⟨by first | rfl | (simp [errW_none, errW_some] <;> rfl) | (simp [*, errW_none, errW_some] <;> rfl), (below_set (below_set (below_set (below_set HB.out GE550.out) GE550.out) GE551.out) GE551.out)⟩
   rw [if_neg c25] at H
   have c25b0 : (x550001_1 == 0) = false := beq_eq_false_iff_ne.mpr c25
   have c25b1 : (x550001_1 != 0) = true := bne_iff_ne.mpr c25
   simp only [Option.some.injEq, Prod.mk.injEq] at H
   obtain ⟨rfl, rfl, rfl, rfl, rfl⟩ := H
   have hnb32 := NB549_550.out
   have hnc32 := NB550_549.out
   have hnb33 := NB549_551.out
   have hnc33 := NB551_549.out
   obtain ⟨hcz34_0, hcz34_1, hcz34_2, hcz34_3⟩ := cells4 BK549.out
   try go_wp2
   replace BK549 := Aside0.mk (blk_drew BK549.out)
   replace BK550 := Aside0.mk (blk_drew BK550.out)
   replace BK551 := Aside0.mk (blk_drew BK551.out)
   replace HB := Aside0.mk (below_drew1 HB.out)
   refine start_ (n := 19) (S := fun w' => w'.cell? ⟨gb549, 0, none⟩ = some (.int .i64 x550000_1) ∧ w'.cell? ⟨gb549, 1, none⟩ = some (.int .i64 x550001_1) ∧ w'.cell? ⟨gb549, 2, none⟩ = some (.int .i64 x550002_1) ∧ w'.cell? ⟨gb549, 3, none⟩ = some (.int .i64 x550003_1)) (ds := []) #[false, false, false, false, false, false, false, false, false, false, false, false, false, false, false, false, false, false, false] (by kernel_rfl) rfl rfl ⟨(blk_cell BK549.out 0).trans rfl, (blk_cell BK549.out 1).trans rfl, (blk_cell BK549.out 2).trans rfl, (blk_cell BK549.out 3).trans rfl⟩ (fun hHeld => ?_); refine with_tabW slab_part_span.tab7 slab_part_span.bits7 (fun HT_ HW_ => ?_)
   generalize wc.drew = w35 at BK549 BK550 BK551 HB hHeld ⊢
   refine pure_ (i := 0) (N := some 52) (v := ?_) (a' := ?_) #[true, false, false, false, false, false, false, false, false, false, false, false, false, false, false, false, false, false, false] rfl rfl (any_of HT_.out (by kernel_rfl)) (fun _ _ _ h => h) (Or.inl ⟨by rfl, ?_⟩) ?_ ?_
   rotate_left
   ·intro w'
    go_simp
    with_reducible rfl
   rotate_left
   ·simp only [Act.put, List.setIfInBounds_toArray, List.set_cons_zero, List.set_cons_succ, i64_w, i32_w]
    rfl
   refine pure_ (i := 2) (N := some 54) (v := ?_) (a' := ?_) #[true, false, true, false, false, false, false, false, false, false, false, false, false, false, false, false, false, false, false] rfl rfl (any_of HT_.out (by kernel_rfl)) (fun _ _ _ h => h) (Or.inl ⟨by rfl, ?_⟩) ?_ ?_
   rotate_left
   ·intro w'
    go_simp
    with_reducible rfl
   rotate_left
   ·simp only [Act.put, List.setIfInBounds_toArray, List.set_cons_zero, List.set_cons_succ, i64_w, i32_w]
    rfl
   refine pure_ (i := 5) (N := some 57) (v := ?_) (a' := ?_) #[true, false, true, false, false, true, false, false, false, false, false, false, false, false, false, false, false, false, false] rfl rfl (any_of HT_.out (by kernel_rfl)) (fun _ _ _ h => h) (Or.inl ⟨by rfl, ?_⟩) ?_ ?_
   rotate_left
   ·intro w'
    go_simp
    with_reducible rfl
   rotate_left
   ·simp only [Act.put, List.setIfInBounds_toArray, List.set_cons_zero, List.set_cons_succ, i64_w, i32_w]
    rfl
   refine pure_ (i := 8) (N := some 60) (v := ?_) (a' := ?_) #[true, false, true, false, false, true, false, false, true, false, false, false, false, false, false, false, false, false, false] rfl rfl (any_of HT_.out (by kernel_rfl)) (fun _ _ _ h => h) (Or.inl ⟨by rfl, ?_⟩) ?_ ?_
   rotate_left
   ·intro w'
    go_simp
    with_reducible rfl
   rotate_left
   ·simp only [Act.put, List.setIfInBounds_toArray, List.set_cons_zero, List.set_cons_succ, i64_w, i32_w]
    rfl
   refine pure_ (i := 10) (N := some 62) (v := ?_) (a' := ?_) #[true, false, true, false, false, true, false, false, true, false, true, false, false, false, false, false, false, false, false] rfl rfl (any_of HT_.out (by kernel_rfl)) (fun _ _ _ h => h) (Or.inl ⟨by rfl, ?_⟩) ?_ ?_
   rotate_left
   ·intro w'
    go_simp
    with_reducible rfl
   rotate_left
   ·simp only [Act.put, List.setIfInBounds_toArray, List.set_cons_zero, List.set_cons_succ, i64_w, i32_w]
    rfl
   refine pure_ (i := 13) (N := some 65) (v := ?_) (a' := ?_) #[true, false, true, false, false, true, false, false, true, false, true, false, false, true, false, false, false, false, false] rfl rfl (any_of HT_.out (by kernel_rfl)) (fun _ _ _ h => h) (Or.inl ⟨by rfl, ?_⟩) ?_ ?_
   rotate_left
   ·intro w'
    go_simp
    with_reducible rfl
   rotate_left
   ·simp only [Act.put, List.setIfInBounds_toArray, List.set_cons_zero, List.set_cons_succ, i64_w, i32_w]
    rfl
   refine take_ (i := 1) (N := some 53) (v := ?_) (a' := ?_) #[true, true, true, false, false, true, false, false, true, false, true, false, false, true, false, false, false, false, false] rfl rfl (take_ofW HT_.out HW_.out (by kernel_rfl)) (fun _ _ _ h => h) (Or.inl ⟨by rfl, ?_⟩) hHeld ?_ ?_
   rotate_left
   ·rintro w' ⟨s0, s1, s2, s3⟩
    go_simp
    with_reducible rfl
   rotate_left
   ·simp only [Act.put, List.setIfInBounds_toArray, List.set_cons_zero, List.set_cons_succ, i64_w, i32_w]
    rfl
   refine take_ (i := 3) (N := some 55) (v := ?_) (a' := ?_) #[true, true, true, true, false, true, false, false, true, false, true, false, false, true, false, false, false, false, false] rfl rfl (take_ofW HT_.out HW_.out (by kernel_rfl)) (fun _ _ _ h => h) (Or.inl ⟨by rfl, ?_⟩) hHeld ?_ ?_
   rotate_left
   ·rintro w' ⟨s0, s1, s2, s3⟩
    go_simp
    with_reducible rfl
   rotate_left
   ·simp only [Act.put, List.setIfInBounds_toArray, List.set_cons_zero, List.set_cons_succ, i64_w, i32_w]
    rfl
   refine pure_ (i := 4) (N := some 56) (v := ?_) (a' := ?_) #[true, true, true, true, true, true, false, false, true, false, true, false, false, true, false, false, false, false, false] rfl rfl (any_of HT_.out (by kernel_rfl)) (fun _ _ _ h => h) (Or.inl ⟨by rfl, ?_⟩) ?_ ?_
   rotate_left
   ·intro w'
    go_simp
    with_reducible rfl
   rotate_left
   ·simp only [Act.put, List.setIfInBounds_toArray, List.set_cons_zero, List.set_cons_succ, i64_w, i32_w]
    rfl
   refine take_ (i := 6) (N := some 58) (v := ?_) (a' := ?_) #[true, true, true, true, true, true, true, false, true, false, true, false, false, true, false, false, false, false, false] rfl rfl (take_ofW HT_.out HW_.out (by kernel_rfl)) (fun _ _ _ h => h) (Or.inl ⟨by rfl, ?_⟩) hHeld ?_ ?_
   rotate_left
   ·rintro w' ⟨s0, s1, s2, s3⟩
    go_simp
    with_reducible rfl
   rotate_left
   ·simp only [Act.put, List.setIfInBounds_toArray, List.set_cons_zero, List.set_cons_succ, i64_w, i32_w]
    rfl
   refine pure_ (i := 7) (N := some 59) (v := ?_) (a' := ?_) #[true, true, true, true, true, true, true, true, true, false, true, false, false, true, false, false, false, false, false] rfl rfl (any_of HT_.out (by kernel_rfl)) (fun _ _ _ h => h) (Or.inl ⟨by rfl, ?_⟩) ?_ ?_
   rotate_left
   ·intro w'
    go_simp
    with_reducible rfl
   rotate_left
   ·simp only [Act.put, List.setIfInBounds_toArray, List.set_cons_zero, List.set_cons_succ, i64_w, i32_w]
    rfl
   refine take_ (i := 9) (N := some 61) (v := ?_) (a' := ?_) #[true, true, true, true, true, true, true, true, true, true, true, false, false, true, false, false, false, false, false] rfl rfl (take_ofW HT_.out HW_.out (by kernel_rfl)) (fun _ _ _ h => h) (Or.inl ⟨by rfl, ?_⟩) hHeld ?_ ?_
   rotate_left
   ·rintro w' ⟨s0, s1, s2, s3⟩
    go_simp
    with_reducible rfl
   rotate_left
   ·simp only [Act.put, List.setIfInBounds_toArray, List.set_cons_zero, List.set_cons_succ, i64_w, i32_w]
    rfl
   refine take_ (i := 11) (N := some 63) (v := ?_) (a' := ?_) #[true, true, true, true, true, true, true, true, true, true, true, true, false, true, false, false, false, false, false] rfl rfl (take_ofW HT_.out HW_.out (by kernel_rfl)) (fun _ _ _ h => h) (Or.inl ⟨by rfl, ?_⟩) hHeld ?_ ?_
   rotate_left
   ·rintro w' ⟨s0, s1, s2, s3⟩
    go_simp
    with_reducible rfl
   rotate_left
   ·simp only [Act.put, List.setIfInBounds_toArray, List.set_cons_zero, List.set_cons_succ, i64_w, i32_w]
    rfl
   refine pure_ (i := 12) (N := some 64) (v := ?_) (a' := ?_) #[true, true, true, true, true, true, true, true, true, true, true, true, true, true, false, false, false, false, false] rfl rfl (any_of HT_.out (by kernel_rfl)) (fun _ _ _ h => h) (Or.inl ⟨by rfl, ?_⟩) ?_ ?_
   rotate_left
   ·intro w'
    go_simp
    with_reducible rfl
   rotate_left
   ·simp only [Act.put, List.setIfInBounds_toArray, List.set_cons_zero, List.set_cons_succ, i64_w, i32_w]
    rfl
   refine take_ (i := 14) (N := some 66) (v := ?_) (a' := ?_) #[true, true, true, true, true, true, true, true, true, true, true, true, true, true, true, false, false, false, false] rfl rfl (take_ofW HT_.out HW_.out (by kernel_rfl)) (fun _ _ _ h => h) (Or.inl ⟨by rfl, ?_⟩) hHeld ?_ ?_
   rotate_left
   ·rintro w' ⟨s0, s1, s2, s3⟩
    go_simp
    with_reducible rfl
   rotate_left
   ·simp only [Act.put, List.setIfInBounds_toArray, List.set_cons_zero, List.set_cons_succ, i64_w, i32_w]
    rfl
   refine pure_ (i := 15) (N := some 67) (v := ?_) (a' := ?_) #[true, true, true, true, true, true, true, true, true, true, true, true, true, true, true, true, false, false, false] rfl rfl (any_of HT_.out (by kernel_rfl)) (fun _ _ _ h => h) (Or.inl ⟨by rfl, ?_⟩) ?_ ?_
   rotate_left
   ·intro w'
    go_simp
    with_reducible rfl
   rotate_left
   ·simp only [Act.put, List.setIfInBounds_toArray, List.set_cons_zero, List.set_cons_succ, i64_w, i32_w]
    rfl
   refine one_ (i := 16) (N := none) #[true, true, true, true, true, true, true, true, true, true, true, true, true, true, true, true, true, false, false] rfl rfl (one_of HT_.out (by kernel_rfl)) (by decide) (fun K hK => ?_)
   have hs36 : w35.cell? ⟨gb550, 0, none⟩ = some (.int .i64 0) := (blk_cell BK550.out 0).trans rfl
   have hfs36 := blk_frozen BK550.out 0
   have hns36_0 := NB549_550.out
   have hns36_2 := NB551_550.out
   have hms36_0 := NB550_549.out
   have hms36_2 := NB550_551.out
   have hs37 : w35.cell? ⟨gb550, 1, none⟩ = some (.int .i64 0) := (blk_cell BK550.out 1).trans rfl
   have hfs37 := blk_frozen BK550.out 1
   have hns37_0 := NB549_550.out
   have hns37_2 := NB551_550.out
   have hms37_0 := NB550_549.out
   have hms37_2 := NB550_551.out
   refine skip_ (w1 := ?_) (by rfl) rfl ?_ ?_
   rotate_left
   ·go_simp
    rfl
   refine hK.out _ _ ⟨(cf NB549_550.out (cf NB549_550.out hHeld.1)), (cf NB549_550.out (cf NB549_550.out hHeld.2.1)), (cf NB549_550.out (cf NB549_550.out hHeld.2.2.1)), (cf NB549_550.out (cf NB549_550.out hHeld.2.2.2))⟩ (fun hHeld => ?_)
   clear hK K
   refine one_ (i := 17) (N := none) #[true, true, true, true, true, true, true, true, true, true, true, true, true, true, true, true, true, true, false] rfl rfl (one_of HT_.out (by kernel_rfl)) (by decide) (fun K hK => ?_)
   have hs38 : w35.cell? ⟨gb551, 0, none⟩ = some (.int .i64 0) := (blk_cell BK551.out 0).trans rfl
   have hfs38 := blk_frozen BK551.out 0
   have hns38_0 := NB549_551.out
   have hns38_1 := NB550_551.out
   have hms38_0 := NB551_549.out
   have hms38_1 := NB551_550.out
   have hs39 : w35.cell? ⟨gb551, 1, none⟩ = some (.int .i64 0) := (blk_cell BK551.out 1).trans rfl
   have hfs39 := blk_frozen BK551.out 1
   have hns39_0 := NB549_551.out
   have hns39_1 := NB550_551.out
   have hms39_0 := NB551_549.out
   have hms39_1 := NB551_550.out
   refine skip_ (w1 := ?_) (by rfl) rfl ?_ ?_
   rotate_left
   ·go_simp
    rfl
   refine hK.out _ _ ⟨(cf NB549_551.out (cf NB549_551.out hHeld.1)), (cf NB549_551.out (cf NB549_551.out hHeld.2.1)), (cf NB549_551.out (cf NB549_551.out hHeld.2.2.1)), (cf NB549_551.out (cf NB549_551.out hHeld.2.2.2))⟩ (fun hHeld => ?_)
   clear hK K
   refine pure_ (i := 18) (N := some 4) (v := ?_) (a' := ?_) #[true, true, true, true, true, true, true, true, true, true, true, true, true, true, true, true, true, true, true] rfl rfl (any_of HT_.out (by kernel_rfl)) (fun _ _ _ h => h) (Or.inl ⟨by rfl, ?_⟩) ?_ ?_
   rotate_left
   ·intro w'
    go_simp
    with_reducible rfl
   rotate_left
   ·simp only [Act.put, List.setIfInBounds_toArray, List.set_cons_zero, List.set_cons_succ, i64_w, i32_w]
    rfl
   refine done_ (done_of HT_.out (by kernel_rfl)) ?_
   try go_wp2
   refine bodyPost_ret (results_list (rs := [.cell 2 28, .cell 3 28, .tmp 4]) rfl (by simp) (.cell gb550 28 #[.int .i64 (wrap64 (x550002_1 - x550000_1)), .int .i64 x550001_1] (0, 0) _ rfl ((blk_far (blk_far (blk_put (cs' := #[.int .i64 (wrap64 (x550002_1 - x550000_1)), .int .i64 x550001_1]) (blk_put BK550.out 0 _ rfl) 1 _ rfl) NB550_551.out _) NB550_551.out _)) Try.underlying28 rfl (by kernel_rfl) (.cell gb551 28 #[.int .i64 (wrap64 (x550003_1 - x550000_1)), .int .i64 x550001_1] (0, 0) _ rfl ((blk_put (cs' := #[.int .i64 (wrap64 (x550003_1 - x550000_1)), .int .i64 x550001_1]) (blk_put (blk_far (blk_far BK551.out NB551_550.out _) NB551_550.out _) 0 _ rfl) 1 _ rfl)) Try.underlying28 rfl (by kernel_rfl) (.tmp .nil)))) rfl ?_
   exact ⟨by first | rfl | (simp [errW_none, errW_some] <;> rfl) | (simp [*, errW_none, errW_some] <;> rfl), (below_set (below_set (below_set (below_set HB.out GE550.out) GE550.out) GE551.out) GE551.out)⟩

end Go.Proofs.Ytihklolcnfbbjaa.G
