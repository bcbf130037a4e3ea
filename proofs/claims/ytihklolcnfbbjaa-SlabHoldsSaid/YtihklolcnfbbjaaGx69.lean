-- Written by a program of this session (wip/gen), out of the translation; Lean checks it.
import Derived.Test.YtihklolcnfbbjaaGx0
import Derived.Test.YtihklolcnfbbjaaGx67
namespace Go.Proofs.Ytihklolcnfbbjaa.G
open Go.RowKit Go.Proofs.YtihklolcnfbbjaaW.PrintWords Go.Proofs.YtihklolcnfbbjaaW.PrintLast Go.Proofs.YtihklolcnfbbjaaW.PrintMore
attribute [local go_sem high] idx35_0 idx35_1 idx35_2 idx35_3 idx41_0 idx41_1 idx41_2 idx84_0 idx84_1 idx84_2 idx88_0 idx88_1 idx88_2 wl0 wl1 wl2 wl3 wl4 wl5 tm0_3 tm1_3 tm2_3 tm3_3 tm4_3 tm5_3
attribute [local go_sem] max2_int min2_int max_two min_two max_three min_three max_four min_four   -- for this text's walks alone
set_option linter.unusedVariables false
set_option linter.unusedSimpArgs false

/-! ### vec_Bound: function 38 -/
def vec_Bound.l0 : Nat → List (S23) → Int → Int → Int → Int → Int → Int → Int → Int → Option (Int × Int × Int × Int × Int × Int × Bool)
  | 0, _, _, _, _, _, _, _, _, _ => none
  | k + 1, x19, x20, x21, x802000, x802001, x802002, x802003, x802004, x802005 => if x21 < x20 then (if 0 ≤ x21 then (if x21 < (x19.length : Int) then ((vec_Join.f x802000 x802001 x802002 x802003 x802004 x802005 ((rd_T23 x19 x21).f0) ((rd_T23 x19 x21).f1) ((rd_T23 x19 x21).f2) ((rd_T23 x19 x21).f0) ((rd_T23 x19 x21).f1) ((rd_T23 x19 x21).f2)).bind fun bt808 => (vec_Bound.l0 k x19 x20 (wrap64 (x21 + 1)) bt808.1 bt808.2.1 bt808.2.2.1 bt808.2.2.2.1 bt808.2.2.2.2.1 bt808.2.2.2.2.2)) else (none)) else (none)) else (some (x802000, x802001, x802002, x802003, x802004, x802005, true))
def vec_Bound.f (k : Nat) (l0 : List (S23)) : Option (Int × Int × Int × Int × Int × Int × Bool) := if (l0.length : Int) = 0 then (some (0, 0, 0, 0, 0, 0, false)) else (if 0 < (l0.length : Int) then (if 1 ≤ (l0.length : Int) then ((some (l0.drop 1 : List (S23))).bind fun y802 => (vec_Bound.l0 k y802 (y802.length : Int) 0 ((rd_T23 l0 0).f0) ((rd_T23 l0 0).f1) ((rd_T23 l0 0).f2) ((rd_T23 l0 0).f0) ((rd_T23 l0 0).f1) ((rd_T23 l0 0).f2))) else (none)) else (none))
theorem vec_Bound.mono_l : ∀ k, (∀ y0 y1 y2 y3 y4 y5 y6 y7 y8, LeO (vec_Bound.l0 k y0 y1 y2 y3 y4 y5 y6 y7 y8) (vec_Bound.l0 (k + 1) y0 y1 y2 y3 y4 y5 y6 y7 y8))
  | 0 => fun _ _ _ _ _ _ _ _ _ r h => by simp [vec_Bound.l0] at h
  | k + 1 => by
    have ih0 := vec_Bound.mono_l k
    · intro y0 y1 y2 y3 y4 y5 y6 y7 y8
      unfold vec_Bound.l0
      repeat' first
      | (with_reducible exact ih0 _ _ _ _ _ _ _ _ _)
      | (with_reducible exact LeO.refl _)
      | (with_reducible exact LeO.none _)
      | (with_reducible refine LeO.ite ?_ ?_)
      | (with_reducible refine LeO.bind ?_ (fun _ => ?_))
      | exact ih0 _ _ _ _ _ _ _ _ _
      | exact LeO.none _
      | refine LeO.ite ?_ ?_
      | refine LeO.bind ?_ (fun _ => ?_)
theorem vec_Bound.mono : ∀ a0 k, LeO (vec_Bound.f k a0) (vec_Bound.f (k + 1) a0) := by
  intro a0 k
  have ih0 := vec_Bound.mono_l k
  unfold vec_Bound.f
  repeat' first
      | (with_reducible exact ih0 _ _ _ _ _ _ _ _ _)
      | (with_reducible exact LeO.refl _)
      | (with_reducible exact LeO.none _)
      | (with_reducible refine LeO.ite ?_ ?_)
      | (with_reducible refine LeO.bind ?_ (fun _ => ?_))
      | exact ih0 _ _ _ _ _ _ _ _ _
      | exact LeO.none _
      | refine LeO.ite ?_ ?_
      | refine LeO.bind ?_ (fun _ => ?_)
def vec_Bound.T3 : Bool × List (List Nat × List Nat) := (true, [([], []), ([0], [0]), ([1], [1]), ([], []), ([3], [3]), ([4], [4]), ([2, 5], [2, 5]), ([], []), ([7, 6, 0, 1, 2, 3, 4, 5, 6, 7], [6, 7])])
def vec_Bound.B3 : List Nat := [0, 1, 3, 0, 8, 24, 63, 0, 255]
theorem vec_Bound.tab3 : rtab .any (opsOf Try.f38 3) = vec_Bound.T3 := by kernel_rfl
theorem vec_Bound.bits3 : waitsOk vec_Bound.T3.2 vec_Bound.B3 = true := by kernel_rfl
set_option maxHeartbeats 8000000 in
set_option maxRecDepth 100000 in
theorem vec_Bound.calls (k : Nat) (A0 : Option Addr) (c0 : Nat) (l0 : List (S23)) (r1 : Int) (r2 : Int) (r3 : Int) (r4 : Int) (r5 : Int) (r6 : Int) (r7 : Bool) (w : World) (hr0 : Kd.C k23 w A0 l0.length l0) (hc0 : l0.length ≤ c0) (h : vec_Bound.f k l0 = some (r1, r2, r3, r4, r5, r6, r7)) :
    Calls Try.prog 38 #[.slice A0 l0.length c0] w fun e w' => e = .returned (.tuple #[.agg #[.int .i64 r1, .int .i64 r2, .int .i64 r3, .int .i64 r4, .int .i64 r5, .int .i64 r6], .bool r7]) ∧ Below w.heap.size w w' := by
 have hu56 := Try.underlying56
 have hu23 := Try.underlying23
 have HR0 := Aside0.mk hr0
 have HC0 := Aside0.mk hc0
 clear hr0 hc0
 have HB := Aside0.mk (Below.refl w.heap.size w)
 have H : (if (l0.length : Int) = 0 then (some (0, 0, 0, 0, 0, 0, false)) else (if 0 < (l0.length : Int) then (if 1 ≤ (l0.length : Int) then ((some (l0.drop 1 : List (S23))).bind fun y802 => (vec_Bound.l0 k y802 (y802.length : Int) 0 ((rd_T23 l0 0).f0) ((rd_T23 l0 0).f1) ((rd_T23 l0 0).f2) ((rd_T23 l0 0).f0) ((rd_T23 l0 0).f1) ((rd_T23 l0 0).f2))) else (none)) else (none))) = some (r1, r2, r3, r4, r5, r6, r7) := h
 clear h
 by_cases c2 : (l0.length : Int) = 0
 ·rw [if_pos c2] at H
  have c2b0 : ((l0.length : Int) == 0) = true := beq_iff_eq.mpr c2
  have c2b1 : ((l0.length : Int) != 0) = false := bne_eq_false_iff_eq.mpr c2
  clear c2
  simp only [Option.some.injEq, Prod.mk.injEq] at H
  obtain ⟨rfl, rfl, rfl, rfl, rfl, rfl, rfl⟩ := H
  go_enter Try.func38, Try.ntmps38
  go_wp2_with (first | ((with_reducible refine gate_dst (N := 2) rfl ?_); refine box_event ?hg (N := 2) ?hd (cs := #[.int .i64 0, .int .i64 0, .int .i64 0, .int .i64 0, .int .i64 0, .int .i64 0]) (t := 56) ?hr ?_; (case hd => rfl); (case hg => rfl); (case hr => first | (go_simp; done) | (go_simp; rfl)); intro gb798 hg w3 hbox hb; have n0_ := Aside0.mk (below_step (by repeat (first | (with_reducible first | exact HB.out | apply below_alloc | apply pw_below_drewN | apply below_drew1) | exact HB.out)) hb); have n1_ := Aside0.mk (hbox); have n2_ := Aside0.mk ((by rw [hg]; exact (below_size (by repeat (first | (with_reducible first | exact HB.out | apply below_alloc | apply pw_below_drewN | apply below_drew1) | exact HB.out))) : w.heap.size ≤ gb798)); have n3_ := Aside0.mk ((by rw [hg]; exact (below_size (by repeat (first | (with_reducible first | exact HB.out | apply below_alloc | apply pw_below_drewN | apply below_drew1) | exact HB.out))) : w.heap.size ≤ gb798)); clear HB; have HB := n0_; have BK798 := n1_; have GW798 := n2_; have GE798 := n3_; clear n0_ n1_ n2_ n3_; clear hb hbox hg; have hcz4_0 : w3.cell? ⟨gb798, 0, none⟩ = some (.int .i64 0) := (blk_cell BK798.out 0).trans rfl; have hcz4_1 : w3.cell? ⟨gb798, 1, none⟩ = some (.int .i64 0) := (blk_cell BK798.out 1).trans rfl; have hcz4_2 : w3.cell? ⟨gb798, 2, none⟩ = some (.int .i64 0) := (blk_cell BK798.out 2).trans rfl; have hcz4_3 : w3.cell? ⟨gb798, 3, none⟩ = some (.int .i64 0) := (blk_cell BK798.out 3).trans rfl; have hcz4_4 : w3.cell? ⟨gb798, 4, none⟩ = some (.int .i64 0) := (blk_cell BK798.out 4).trans rfl; have hcz4_5 : w3.cell? ⟨gb798, 5, none⟩ = some (.int .i64 0) := (blk_cell BK798.out 5).trans rfl; have hfz4_0 := blk_frozen BK798.out 0; have hfz4_1 := blk_frozen BK798.out 1; have hfz4_2 := blk_frozen BK798.out 2; have hfz4_3 := blk_frozen BK798.out 3; have hfz4_4 := blk_frozen BK798.out 4; have hfz4_5 := blk_frozen BK798.out 5))
  refine bodyPost_ret (results_ct rfl _ _ gb798 56 #[.int .i64 0, .int .i64 0, .int .i64 0, .int .i64 0, .int .i64 0, .int .i64 0] (0, 0) _ rfl (by (with_reducible repeat (first | refine blk_drewN ?_ _ | refine blk_drew ?_ | refine blk_alloc ?_ _)); refine blk_put (cs := #[.int .i64 0, .int .i64 0, .int .i64 0, .int .i64 0, .int .i64 0, .int .i64 0]) ?_ 5 _ rfl; (with_reducible repeat (first | refine blk_drewN ?_ _ | refine blk_drew ?_ | refine blk_alloc ?_ _)); refine blk_put (cs := #[.int .i64 0, .int .i64 0, .int .i64 0, .int .i64 0, .int .i64 0, .int .i64 0]) ?_ 4 _ rfl; (with_reducible repeat (first | refine blk_drewN ?_ _ | refine blk_drew ?_ | refine blk_alloc ?_ _)); refine blk_put (cs := #[.int .i64 0, .int .i64 0, .int .i64 0, .int .i64 0, .int .i64 0, .int .i64 0]) ?_ 3 _ rfl; (with_reducible repeat (first | refine blk_drewN ?_ _ | refine blk_drew ?_ | refine blk_alloc ?_ _)); refine blk_put (cs := #[.int .i64 0, .int .i64 0, .int .i64 0, .int .i64 0, .int .i64 0, .int .i64 0]) ?_ 2 _ rfl; (with_reducible repeat (first | refine blk_drewN ?_ _ | refine blk_drew ?_ | refine blk_alloc ?_ _)); refine blk_put (cs := #[.int .i64 0, .int .i64 0, .int .i64 0, .int .i64 0, .int .i64 0, .int .i64 0]) ?_ 1 _ rfl; (with_reducible repeat (first | refine blk_drewN ?_ _ | refine blk_drew ?_ | refine blk_alloc ?_ _)); refine blk_put (cs := #[.int .i64 0, .int .i64 0, .int .i64 0, .int .i64 0, .int .i64 0, .int .i64 0]) ?_ 0 _ rfl; (with_reducible repeat (first | refine blk_drewN ?_ _ | refine blk_drew ?_ | refine blk_alloc ?_ _)); exact BK798.out) Try.underlying56 rfl (by kernel_rfl)) rfl ?_
  exact ⟨by first | rfl | (simp [errW_none, errW_some] <;> rfl) | (simp [*, errW_none, errW_some] <;> rfl), by repeat (first | (with_reducible first | exact HB.out | apply below_alloc | apply pw_below_drewN | apply below_drew1 | refine below_set ?_ GE798.out) | exact HB.out)⟩
 rw [if_neg c2] at H
 have c2b0 : ((l0.length : Int) == 0) = false := beq_eq_false_iff_ne.mpr c2
 have c2b1 : ((l0.length : Int) != 0) = true := bne_iff_ne.mpr c2
 have c2b2 : ¬ (l0 = []) := fun h_ => c2 (by rw [h_]; rfl)
 by_cases c5 : 0 < (l0.length : Int)
 ·rw [if_pos c5] at H
  have c5b0 : decide (0 < (l0.length : Int)) = true := decide_eq_true c5
  have c5b1 : decide (0 < l0.length) = true := decide_eq_true (by omega)
  clear c5
  by_cases c6 : 1 ≤ (l0.length : Int)
  ·rw [if_pos c6] at H
   have c6b0 := eq_true c6
   have c6b1 : decide (1 ≤ (l0.length : Int)) = true := decide_eq_true c6
   clear c6
   obtain ⟨y802, hy802⟩ : ∃ y_ : List (S23), y_ = (l0.drop 1) := ⟨_, rfl⟩
   replace H : (vec_Bound.l0 k y802 (y802.length : Int) 0 ((rd_T23 l0 0).f0) ((rd_T23 l0 0).f1) ((rd_T23 l0 0).f2) ((rd_T23 l0 0).f0) ((rd_T23 l0 0).f1) ((rd_T23 l0 0).f2)) = some (r1, r2, r3, r4, r5, r6, r7) := by first | (rw [hy802]; with_reducible exact H) | (have H2_ := (Option.bind_some _ _).symm.trans H; rw [hy802]; with_reducible exact H2_) | (have H2_ := (Option.bind_some _ _).symm.trans H; with_reducible exact H2_) | with_reducible exact H | (rw [hy802]; exact H) | exact H
   have Ny802 := Aside0.mk hy802
   clear hy802
   have H' := Aside0.mk H
   clear H
   go_enter Try.func38, Try.ntmps38
   try go_wp2_with (first | ((with_reducible refine gate_dst (N := 2) rfl ?_); refine box_event ?hg (N := 2) ?hd (cs := #[.int .i64 0, .int .i64 0, .int .i64 0, .int .i64 0, .int .i64 0, .int .i64 0]) (t := 56) ?hr ?_; (case hd => rfl); (case hg => rfl); (case hr => first | (go_simp; done) | (go_simp; rfl)); intro gb798 hg w7 hbox hb; have n0_ := Aside0.mk (below_step (by repeat (first | (with_reducible first | exact HB.out | apply below_alloc | apply pw_below_drewN | apply below_drew1) | exact HB.out)) hb); have n1_ := Aside0.mk (hbox); have n2_ := Aside0.mk ((by rw [hg]; exact (below_size (by repeat (first | (with_reducible first | exact HB.out | apply below_alloc | apply pw_below_drewN | apply below_drew1) | exact HB.out))) : w.heap.size ≤ gb798)); have n3_ := Aside0.mk ((by rw [hg]; exact (below_size (by repeat (first | (with_reducible first | exact HB.out | apply below_alloc | apply pw_below_drewN | apply below_drew1) | exact HB.out))) : w.heap.size ≤ gb798)); clear HB; have HB := n0_; have BK798 := n1_; have GW798 := n2_; have GE798 := n3_; clear n0_ n1_ n2_ n3_; clear hb hbox hg))
   have n0_ := Aside0.mk (blk_drew BK798.out)
   have n1_ := Aside0.mk (below_drew1 HB.out)
   clear BK798
   clear HB
   have BK798 := n0_
   have HB := n1_
   clear n0_ n1_
   have p799 : 0 ≤ (0 : Int) := (by omega)
   have q799 : 0 < (l0.length : Int) := of_decide_eq_true (by first | (with_reducible assumption) | assumption)
   obtain ⟨ad799, e799, hx799_0, hx799_1, hx799_2⟩ := at_T23 HR0.out 0 p799 q799
   have hw799_2 := hx799_2
   (try rw [show ((0 : Int)).toNat = 0 from rfl] at hw799_2)
   (try rw [show 0 * 3 = 0 from rfl] at hw799_2)
   (try rw [Addr.add_zero'] at hw799_2)
   have hw799_1 := hx799_1
   (try rw [show ((0 : Int)).toNat = 0 from rfl] at hw799_1)
   (try rw [show 0 * 3 = 0 from rfl] at hw799_1)
   (try rw [Addr.add_zero'] at hw799_1)
   have hw799_0 := hx799_0
   (try rw [show ((0 : Int)).toNat = 0 from rfl] at hw799_0)
   (try rw [show 0 * 3 = 0 from rfl] at hw799_0)
   (try rw [Addr.add_zero'] at hw799_0)
   cases e799
   have qi799 : (0 < l0.length) = True := eq_true (by omega)
   (try rw [show ((0 : Int)).toNat = 0 from rfl] at hx799_0)
   (try rw [show 0 * 3 = 0 from rfl] at hx799_0)
   (try rw [Addr.add_zero'] at hx799_0)
   (try rw [show ((0 : Int)).toNat = 0 from rfl] at hx799_1)
   (try rw [show 0 * 3 = 0 from rfl] at hx799_1)
   (try rw [Addr.add_zero'] at hx799_1)
   (try rw [show ((0 : Int)).toNat = 0 from rfl] at hx799_2)
   (try rw [show 0 * 3 = 0 from rfl] at hx799_2)
   (try rw [Addr.add_zero'] at hx799_2)
   replace hx799_0 := (HB.out.cell (World.block_lt_of_cell? w _ hx799_0)).trans hx799_0
   replace hx799_1 := (HB.out.cell (World.block_lt_of_cell? w _ hx799_1)).trans hx799_1
   replace hx799_2 := (HB.out.cell (World.block_lt_of_cell? w _ hx799_2)).trans hx799_2
   replace p799 := eq_true p799
   replace q799 := eq_true q799
   have p800 : 0 ≤ (0 : Int) := (by omega)
   have q800 : 0 < (l0.length : Int) := of_decide_eq_true (by first | (with_reducible assumption) | assumption)
   obtain ⟨ad800, e800, hx800_0, hx800_1, hx800_2⟩ := at_T23 HR0.out 0 p800 q800
   have hw800_2 := hx800_2
   (try rw [show ((0 : Int)).toNat = 0 from rfl] at hw800_2)
   (try rw [show 0 * 3 = 0 from rfl] at hw800_2)
   (try rw [Addr.add_zero'] at hw800_2)
   have hw800_1 := hx800_1
   (try rw [show ((0 : Int)).toNat = 0 from rfl] at hw800_1)
   (try rw [show 0 * 3 = 0 from rfl] at hw800_1)
   (try rw [Addr.add_zero'] at hw800_1)
   have hw800_0 := hx800_0
   (try rw [show ((0 : Int)).toNat = 0 from rfl] at hw800_0)
   (try rw [show 0 * 3 = 0 from rfl] at hw800_0)
   (try rw [Addr.add_zero'] at hw800_0)
   obtain rfl : ad799 = ad800 := (by injection e800)
   have qi800 : (0 < l0.length) = True := eq_true (by omega)
   (try rw [show ((0 : Int)).toNat = 0 from rfl] at hx800_0)
   (try rw [show 0 * 3 = 0 from rfl] at hx800_0)
   (try rw [Addr.add_zero'] at hx800_0)
   (try rw [show ((0 : Int)).toNat = 0 from rfl] at hx800_1)
   (try rw [show 0 * 3 = 0 from rfl] at hx800_1)
   (try rw [Addr.add_zero'] at hx800_1)
   (try rw [show ((0 : Int)).toNat = 0 from rfl] at hx800_2)
   (try rw [show 0 * 3 = 0 from rfl] at hx800_2)
   (try rw [Addr.add_zero'] at hx800_2)
   replace hx800_0 := (HB.out.cell (World.block_lt_of_cell? w _ hx800_0)).trans hx800_0
   replace hx800_1 := (HB.out.cell (World.block_lt_of_cell? w _ hx800_1)).trans hx800_1
   replace hx800_2 := (HB.out.cell (World.block_lt_of_cell? w _ hx800_2)).trans hx800_2
   replace p800 := eq_true p800
   replace q800 := eq_true q800
   refine start_ (n := 9) (S := fun w' => w'.cell? ad799 = some (.int .i64 ((rd_T23 l0 0).f0)) ∧ w'.cell? ⟨ad799.block, ad799.off + 1, none⟩ = some (.int .i64 ((rd_T23 l0 0).f1)) ∧ w'.cell? ⟨ad799.block, ad799.off + 2, none⟩ = some (.int .i64 ((rd_T23 l0 0).f2)) ∧ w'.cell? ad799 = some (.int .i64 ((rd_T23 l0 0).f0)) ∧ w'.cell? ⟨ad799.block, ad799.off + 1, none⟩ = some (.int .i64 ((rd_T23 l0 0).f1)) ∧ w'.cell? ⟨ad799.block, ad799.off + 2, none⟩ = some (.int .i64 ((rd_T23 l0 0).f2))) (ds := []) #[false, false, false, false, false, false, false, false, false] (by kernel_rfl) rfl rfl ⟨((HB.out.cell (World.block_lt_of_cell? w _ hw799_0)).trans hw799_0), ((HB.out.cell (World.block_lt_of_cell? w _ hw799_1)).trans hw799_1), ((HB.out.cell (World.block_lt_of_cell? w _ hw799_2)).trans hw799_2), ((HB.out.cell (World.block_lt_of_cell? w _ hw800_0)).trans hw800_0), ((HB.out.cell (World.block_lt_of_cell? w _ hw800_1)).trans hw800_1), ((HB.out.cell (World.block_lt_of_cell? w _ hw800_2)).trans hw800_2)⟩ (fun hHeld => ?_); refine with_tabW vec_Bound.tab3 vec_Bound.bits3 (fun HT_ HW_ => ?_)
   generalize w7.drew = w8 at BK798 HB hx799_0 hx799_1 hx799_2 hx800_0 hx800_1 hx800_2 hHeld ⊢
   refine pure_ (i := 0) (N := some 11) (v := ?_) (a' := ?_) #[true, false, false, false, false, false, false, false, false] rfl rfl (any_of HT_.out (by kernel_rfl)) (fun _ _ _ h => h) (Or.inl ⟨by rfl, ?_⟩) ?_ ?_
   rotate_left
   ·intro w'
    go_simp
    with_reducible rfl
   rotate_left
   ·simp only [Act.put, List.setIfInBounds_toArray, List.set_cons_zero, List.set_cons_succ, i64_w, i32_w]
    rfl
   refine pure_ (i := 1) (N := some 12) (v := ?_) (a' := ?_) #[true, true, false, false, false, false, false, false, false] rfl rfl (any_of HT_.out (by kernel_rfl)) (fun _ _ _ h => h) (Or.inl ⟨by rfl, ?_⟩) ?_ ?_
   rotate_left
   ·intro w'
    go_simp
    with_reducible rfl
   rotate_left
   ·simp only [Act.put, List.setIfInBounds_toArray, List.set_cons_zero, List.set_cons_succ, i64_w, i32_w]
    rfl
   refine pure_ (i := 3) (N := some 14) (v := ?_) (a' := ?_) #[true, true, false, true, false, false, false, false, false] rfl rfl (any_of HT_.out (by kernel_rfl)) (fun _ _ _ h => h) (Or.inl ⟨by rfl, ?_⟩) ?_ ?_
   rotate_left
   ·intro w'
    go_simp
    with_reducible rfl
   rotate_left
   ·simp only [Act.put, List.setIfInBounds_toArray, List.set_cons_zero, List.set_cons_succ, i64_w, i32_w]
    rfl
   refine pure_ (i := 4) (N := some 15) (v := ?_) (a' := ?_) #[true, true, false, true, true, false, false, false, false] rfl rfl (any_of HT_.out (by kernel_rfl)) (fun _ _ _ h => h) (Or.inl ⟨by rfl, ?_⟩) ?_ ?_
   rotate_left
   ·intro w'
    go_simp
    with_reducible rfl
   rotate_left
   ·simp only [Act.put, List.setIfInBounds_toArray, List.set_cons_zero, List.set_cons_succ, i64_w, i32_w]
    rfl
   refine take_ (i := 2) (N := some 13) (v := ?_) (a' := ?_) #[true, true, true, true, true, false, false, false, false] rfl rfl (take_ofW HT_.out HW_.out (by kernel_rfl)) (fun _ _ _ h => h) (Or.inl ⟨by rfl, ?_⟩) hHeld ?_ ?_
   rotate_left
   ·rintro w' ⟨s0, s1, s2, s3, s4, s5⟩
    go_simp
    with_reducible rfl
   rotate_left
   ·simp only [Act.put, List.setIfInBounds_toArray, List.set_cons_zero, List.set_cons_succ, i64_w, i32_w]
    rfl
   refine take_ (i := 5) (N := some 16) (v := ?_) (a' := ?_) #[true, true, true, true, true, true, false, false, false] rfl rfl (take_ofW HT_.out HW_.out (by kernel_rfl)) (fun _ _ _ h => h) (Or.inl ⟨by rfl, ?_⟩) hHeld ?_ ?_
   rotate_left
   ·rintro w' ⟨s0, s1, s2, s3, s4, s5⟩
    go_simp
    with_reducible rfl
   rotate_left
   ·simp only [Act.put, List.setIfInBounds_toArray, List.set_cons_zero, List.set_cons_succ, i64_w, i32_w]
    rfl
   refine pure_ (i := 6) (N := some 17) (v := ?_) (a' := ?_) #[true, true, true, true, true, true, true, false, false] rfl rfl (any_of HT_.out (by kernel_rfl)) (fun _ _ _ h => h) (Or.inl ⟨by rfl, ?_⟩) ?_ ?_
   rotate_left
   ·intro w'
    go_simp
    with_reducible rfl
   rotate_left
   ·simp only [Act.put, List.setIfInBounds_toArray, List.set_cons_zero, List.set_cons_succ, i64_w, i32_w]
    rfl
   refine one_ (i := 7) (N := some 4) #[true, true, true, true, true, true, true, true, false] rfl rfl (one_of HT_.out (by kernel_rfl)) (by decide) (fun K hK => ?_)
   refine box_step ?hg (N := 4) ?hd (cs := #[.int .i64 0, .int .i64 0, .int .i64 0, .int .i64 0, .int .i64 0, .int .i64 0]) (t := 56) ?hr ?_; (case hd => rfl); (case hg => rfl); (case hr => first | (go_simp; done) | (go_simp; rfl))
   intro gb801 hg w9 hbox hb
   have n0_ := Aside0.mk (blk_below (g := gb798) (o := .cells #[.int .i64 0, .int .i64 0, .int .i64 0, .int .i64 0, .int .i64 0, .int .i64 0] 56 (0, 0)) (by (with_reducible repeat (first | refine blk_drewN ?_ _ | refine blk_drew ?_ | refine blk_alloc ?_ _)); exact BK798.out) hb)
   have n1_ := Aside0.mk (below_step (by repeat (first | (with_reducible first | exact HB.out | apply below_alloc | apply pw_below_drewN | apply below_drew1 | refine below_set ?_ GE798.out) | exact HB.out)) hb)
   have n2_ := Aside0.mk (hbox)
   have n3_ := Aside0.mk ((by rw [hg]; exact (below_size (by repeat (first | (with_reducible first | exact HB.out | apply below_alloc | apply pw_below_drewN | apply below_drew1 | refine below_set ?_ GE798.out) | exact HB.out))) : w.heap.size ≤ gb801))
   have GE801 := Aside0.mk ((by rw [hg]; exact (below_size (by repeat (first | (with_reducible first | exact HB.out | apply below_alloc | apply pw_below_drewN | apply below_drew1 | refine below_set ?_ GE798.out) | exact HB.out))) : w.heap.size ≤ gb801))
   have NB798_801 := Aside0.mk ((by rw [hg]; exact Nat.ne_of_lt (blk_lt (g := gb798) (o := .cells #[.int .i64 0, .int .i64 0, .int .i64 0, .int .i64 0, .int .i64 0, .int .i64 0] 56 (0, 0)) (by (with_reducible repeat (first | refine blk_drewN ?_ _ | refine blk_drew ?_ | refine blk_alloc ?_ _)); exact BK798.out)) : gb798 ≠ gb801))
   have NB801_798 := Aside0.mk ((by rw [hg]; exact Nat.ne_of_gt (blk_lt (g := gb798) (o := .cells #[.int .i64 0, .int .i64 0, .int .i64 0, .int .i64 0, .int .i64 0, .int .i64 0] 56 (0, 0)) (by (with_reducible repeat (first | refine blk_drewN ?_ _ | refine blk_drew ?_ | refine blk_alloc ?_ _)); exact BK798.out)) : gb801 ≠ gb798))
   clear BK798
   clear HB
   have BK798 := n0_
   have HB := n1_
   have BK801 := n2_
   have GW801 := n3_
   clear n0_ n1_ n2_ n3_
   clear hb hbox hg
   refine hK.out _ _ ⟨((HB.out.cell (World.block_lt_of_cell? w _ hw799_0)).trans hw799_0), ((HB.out.cell (World.block_lt_of_cell? w _ hw799_1)).trans hw799_1), ((HB.out.cell (World.block_lt_of_cell? w _ hw799_2)).trans hw799_2), ((HB.out.cell (World.block_lt_of_cell? w _ hw800_0)).trans hw800_0), ((HB.out.cell (World.block_lt_of_cell? w _ hw800_1)).trans hw800_1), ((HB.out.cell (World.block_lt_of_cell? w _ hw800_2)).trans hw800_2)⟩ (fun hHeld => ?_)
   clear hK K
   refine norm_ (a' := ?_) ?_ ?_
   rotate_left
   ·show Act.put _ (some 4) _ = _
    simp only [Act.put, List.setIfInBounds_toArray, List.set_cons_zero, List.set_cons_succ, i64_w, i32_w]
    rfl
   refine one_ (i := 8) (N := none) #[true, true, true, true, true, true, true, true, true] rfl rfl (one_of HT_.out (by kernel_rfl)) (by decide) (fun K hK => ?_)
   have hs10 : w9.cell? ⟨gb801, 0, none⟩ = some (.int .i64 0) := (blk_cell BK801.out 0).trans rfl
   have hfs10 := blk_frozen BK801.out 0
   have hns10_0 := NB798_801.out
   have hms10_0 := NB801_798.out
   have hs11 : w9.cell? ⟨gb801, 1, none⟩ = some (.int .i64 0) := (blk_cell BK801.out 1).trans rfl
   have hfs11 := blk_frozen BK801.out 1
   have hns11_0 := NB798_801.out
   have hms11_0 := NB801_798.out
   have hs12 : w9.cell? ⟨gb801, 2, none⟩ = some (.int .i64 0) := (blk_cell BK801.out 2).trans rfl
   have hfs12 := blk_frozen BK801.out 2
   have hns12_0 := NB798_801.out
   have hms12_0 := NB801_798.out
   have hs13 : w9.cell? ⟨gb801, 3, none⟩ = some (.int .i64 0) := (blk_cell BK801.out 3).trans rfl
   have hfs13 := blk_frozen BK801.out 3
   have hns13_0 := NB798_801.out
   have hms13_0 := NB801_798.out
   have hs14 : w9.cell? ⟨gb801, 4, none⟩ = some (.int .i64 0) := (blk_cell BK801.out 4).trans rfl
   have hfs14 := blk_frozen BK801.out 4
   have hns14_0 := NB798_801.out
   have hms14_0 := NB801_798.out
   have hs15 : w9.cell? ⟨gb801, 5, none⟩ = some (.int .i64 0) := (blk_cell BK801.out 5).trans rfl
   have hfs15 := blk_frozen BK801.out 5
   have hns15_0 := NB798_801.out
   have hms15_0 := NB801_798.out
   refine skip_ (w1 := ?_) (by rfl) rfl ?_ ?_
   rotate_left
   ·go_simp
    rfl
   refine hK.out _ _ ⟨((cell_far (p := ⟨gb801, _, none⟩) (by first | exact Nat.ne_of_lt (Nat.lt_of_lt_of_le (by have := World.block_lt_of_cell? _ _ hw799_0; first | rwa [add_block] at this | exact this) GW801.out) | (rw [add_block]; exact Nat.ne_of_lt (Nat.lt_of_lt_of_le (by have := World.block_lt_of_cell? _ _ hw799_0; first | rwa [add_block] at this | exact this) GW801.out)) | (show (Addr.add _ _).block ≠ _; rw [add_block]; exact Nat.ne_of_lt (Nat.lt_of_lt_of_le (by have := World.block_lt_of_cell? _ _ hw799_0; first | rwa [add_block] at this | exact this) GW801.out)) | (dsimp only; exact Nat.ne_of_lt (Nat.lt_of_lt_of_le (by have := World.block_lt_of_cell? _ _ hw799_0; first | rwa [add_block] at this | exact this) GW801.out))) _).trans (((cell_far (p := ⟨gb801, _, none⟩) (by first | exact Nat.ne_of_lt (Nat.lt_of_lt_of_le (by have := World.block_lt_of_cell? _ _ hw799_0; first | rwa [add_block] at this | exact this) GW801.out) | (rw [add_block]; exact Nat.ne_of_lt (Nat.lt_of_lt_of_le (by have := World.block_lt_of_cell? _ _ hw799_0; first | rwa [add_block] at this | exact this) GW801.out)) | (show (Addr.add _ _).block ≠ _; rw [add_block]; exact Nat.ne_of_lt (Nat.lt_of_lt_of_le (by have := World.block_lt_of_cell? _ _ hw799_0; first | rwa [add_block] at this | exact this) GW801.out)) | (dsimp only; exact Nat.ne_of_lt (Nat.lt_of_lt_of_le (by have := World.block_lt_of_cell? _ _ hw799_0; first | rwa [add_block] at this | exact this) GW801.out))) _).trans (((cell_far (p := ⟨gb801, _, none⟩) (by first | exact Nat.ne_of_lt (Nat.lt_of_lt_of_le (by have := World.block_lt_of_cell? _ _ hw799_0; first | rwa [add_block] at this | exact this) GW801.out) | (rw [add_block]; exact Nat.ne_of_lt (Nat.lt_of_lt_of_le (by have := World.block_lt_of_cell? _ _ hw799_0; first | rwa [add_block] at this | exact this) GW801.out)) | (show (Addr.add _ _).block ≠ _; rw [add_block]; exact Nat.ne_of_lt (Nat.lt_of_lt_of_le (by have := World.block_lt_of_cell? _ _ hw799_0; first | rwa [add_block] at this | exact this) GW801.out)) | (dsimp only; exact Nat.ne_of_lt (Nat.lt_of_lt_of_le (by have := World.block_lt_of_cell? _ _ hw799_0; first | rwa [add_block] at this | exact this) GW801.out))) _).trans (((cell_far (p := ⟨gb801, _, none⟩) (by first | exact Nat.ne_of_lt (Nat.lt_of_lt_of_le (by have := World.block_lt_of_cell? _ _ hw799_0; first | rwa [add_block] at this | exact this) GW801.out) | (rw [add_block]; exact Nat.ne_of_lt (Nat.lt_of_lt_of_le (by have := World.block_lt_of_cell? _ _ hw799_0; first | rwa [add_block] at this | exact this) GW801.out)) | (show (Addr.add _ _).block ≠ _; rw [add_block]; exact Nat.ne_of_lt (Nat.lt_of_lt_of_le (by have := World.block_lt_of_cell? _ _ hw799_0; first | rwa [add_block] at this | exact this) GW801.out)) | (dsimp only; exact Nat.ne_of_lt (Nat.lt_of_lt_of_le (by have := World.block_lt_of_cell? _ _ hw799_0; first | rwa [add_block] at this | exact this) GW801.out))) _).trans (((cell_far (p := ⟨gb801, _, none⟩) (by first | exact Nat.ne_of_lt (Nat.lt_of_lt_of_le (by have := World.block_lt_of_cell? _ _ hw799_0; first | rwa [add_block] at this | exact this) GW801.out) | (rw [add_block]; exact Nat.ne_of_lt (Nat.lt_of_lt_of_le (by have := World.block_lt_of_cell? _ _ hw799_0; first | rwa [add_block] at this | exact this) GW801.out)) | (show (Addr.add _ _).block ≠ _; rw [add_block]; exact Nat.ne_of_lt (Nat.lt_of_lt_of_le (by have := World.block_lt_of_cell? _ _ hw799_0; first | rwa [add_block] at this | exact this) GW801.out)) | (dsimp only; exact Nat.ne_of_lt (Nat.lt_of_lt_of_le (by have := World.block_lt_of_cell? _ _ hw799_0; first | rwa [add_block] at this | exact this) GW801.out))) _).trans (((cell_far (p := ⟨gb801, _, none⟩) (by first | exact Nat.ne_of_lt (Nat.lt_of_lt_of_le (by have := World.block_lt_of_cell? _ _ hw799_0; first | rwa [add_block] at this | exact this) GW801.out) | (rw [add_block]; exact Nat.ne_of_lt (Nat.lt_of_lt_of_le (by have := World.block_lt_of_cell? _ _ hw799_0; first | rwa [add_block] at this | exact this) GW801.out)) | (show (Addr.add _ _).block ≠ _; rw [add_block]; exact Nat.ne_of_lt (Nat.lt_of_lt_of_le (by have := World.block_lt_of_cell? _ _ hw799_0; first | rwa [add_block] at this | exact this) GW801.out)) | (dsimp only; exact Nat.ne_of_lt (Nat.lt_of_lt_of_le (by have := World.block_lt_of_cell? _ _ hw799_0; first | rwa [add_block] at this | exact this) GW801.out))) _).trans (hHeld.1)))))))))))), ((cell_far (p := ⟨gb801, _, none⟩) (by first | exact Nat.ne_of_lt (Nat.lt_of_lt_of_le (by have := World.block_lt_of_cell? _ _ hw799_1; first | rwa [add_block] at this | exact this) GW801.out) | (rw [add_block]; exact Nat.ne_of_lt (Nat.lt_of_lt_of_le (by have := World.block_lt_of_cell? _ _ hw799_1; first | rwa [add_block] at this | exact this) GW801.out)) | (show (Addr.add _ _).block ≠ _; rw [add_block]; exact Nat.ne_of_lt (Nat.lt_of_lt_of_le (by have := World.block_lt_of_cell? _ _ hw799_1; first | rwa [add_block] at this | exact this) GW801.out)) | (dsimp only; exact Nat.ne_of_lt (Nat.lt_of_lt_of_le (by have := World.block_lt_of_cell? _ _ hw799_1; first | rwa [add_block] at this | exact this) GW801.out))) _).trans (((cell_far (p := ⟨gb801, _, none⟩) (by first | exact Nat.ne_of_lt (Nat.lt_of_lt_of_le (by have := World.block_lt_of_cell? _ _ hw799_1; first | rwa [add_block] at this | exact this) GW801.out) | (rw [add_block]; exact Nat.ne_of_lt (Nat.lt_of_lt_of_le (by have := World.block_lt_of_cell? _ _ hw799_1; first | rwa [add_block] at this | exact this) GW801.out)) | (show (Addr.add _ _).block ≠ _; rw [add_block]; exact Nat.ne_of_lt (Nat.lt_of_lt_of_le (by have := World.block_lt_of_cell? _ _ hw799_1; first | rwa [add_block] at this | exact this) GW801.out)) | (dsimp only; exact Nat.ne_of_lt (Nat.lt_of_lt_of_le (by have := World.block_lt_of_cell? _ _ hw799_1; first | rwa [add_block] at this | exact this) GW801.out))) _).trans (((cell_far (p := ⟨gb801, _, none⟩) (by first | exact Nat.ne_of_lt (Nat.lt_of_lt_of_le (by have := World.block_lt_of_cell? _ _ hw799_1; first | rwa [add_block] at this | exact this) GW801.out) | (rw [add_block]; exact Nat.ne_of_lt (Nat.lt_of_lt_of_le (by have := World.block_lt_of_cell? _ _ hw799_1; first | rwa [add_block] at this | exact this) GW801.out)) | (show (Addr.add _ _).block ≠ _; rw [add_block]; exact Nat.ne_of_lt (Nat.lt_of_lt_of_le (by have := World.block_lt_of_cell? _ _ hw799_1; first | rwa [add_block] at this | exact this) GW801.out)) | (dsimp only; exact Nat.ne_of_lt (Nat.lt_of_lt_of_le (by have := World.block_lt_of_cell? _ _ hw799_1; first | rwa [add_block] at this | exact this) GW801.out))) _).trans (((cell_far (p := ⟨gb801, _, none⟩) (by first | exact Nat.ne_of_lt (Nat.lt_of_lt_of_le (by have := World.block_lt_of_cell? _ _ hw799_1; first | rwa [add_block] at this | exact this) GW801.out) | (rw [add_block]; exact Nat.ne_of_lt (Nat.lt_of_lt_of_le (by have := World.block_lt_of_cell? _ _ hw799_1; first | rwa [add_block] at this | exact this) GW801.out)) | (show (Addr.add _ _).block ≠ _; rw [add_block]; exact Nat.ne_of_lt (Nat.lt_of_lt_of_le (by have := World.block_lt_of_cell? _ _ hw799_1; first | rwa [add_block] at this | exact this) GW801.out)) | (dsimp only; exact Nat.ne_of_lt (Nat.lt_of_lt_of_le (by have := World.block_lt_of_cell? _ _ hw799_1; first | rwa [add_block] at this | exact this) GW801.out))) _).trans (((cell_far (p := ⟨gb801, _, none⟩) (by first | exact Nat.ne_of_lt (Nat.lt_of_lt_of_le (by have := World.block_lt_of_cell? _ _ hw799_1; first | rwa [add_block] at this | exact this) GW801.out) | (rw [add_block]; exact Nat.ne_of_lt (Nat.lt_of_lt_of_le (by have := World.block_lt_of_cell? _ _ hw799_1; first | rwa [add_block] at this | exact this) GW801.out)) | (show (Addr.add _ _).block ≠ _; rw [add_block]; exact Nat.ne_of_lt (Nat.lt_of_lt_of_le (by have := World.block_lt_of_cell? _ _ hw799_1; first | rwa [add_block] at this | exact this) GW801.out)) | (dsimp only; exact Nat.ne_of_lt (Nat.lt_of_lt_of_le (by have := World.block_lt_of_cell? _ _ hw799_1; first | rwa [add_block] at this | exact this) GW801.out))) _).trans (((cell_far (p := ⟨gb801, _, none⟩) (by first | exact Nat.ne_of_lt (Nat.lt_of_lt_of_le (by have := World.block_lt_of_cell? _ _ hw799_1; first | rwa [add_block] at this | exact this) GW801.out) | (rw [add_block]; exact Nat.ne_of_lt (Nat.lt_of_lt_of_le (by have := World.block_lt_of_cell? _ _ hw799_1; first | rwa [add_block] at this | exact this) GW801.out)) | (show (Addr.add _ _).block ≠ _; rw [add_block]; exact Nat.ne_of_lt (Nat.lt_of_lt_of_le (by have := World.block_lt_of_cell? _ _ hw799_1; first | rwa [add_block] at this | exact this) GW801.out)) | (dsimp only; exact Nat.ne_of_lt (Nat.lt_of_lt_of_le (by have := World.block_lt_of_cell? _ _ hw799_1; first | rwa [add_block] at this | exact this) GW801.out))) _).trans (hHeld.2.1)))))))))))), ((cell_far (p := ⟨gb801, _, none⟩) (by first | exact Nat.ne_of_lt (Nat.lt_of_lt_of_le (by have := World.block_lt_of_cell? _ _ hw799_2; first | rwa [add_block] at this | exact this) GW801.out) | (rw [add_block]; exact Nat.ne_of_lt (Nat.lt_of_lt_of_le (by have := World.block_lt_of_cell? _ _ hw799_2; first | rwa [add_block] at this | exact this) GW801.out)) | (show (Addr.add _ _).block ≠ _; rw [add_block]; exact Nat.ne_of_lt (Nat.lt_of_lt_of_le (by have := World.block_lt_of_cell? _ _ hw799_2; first | rwa [add_block] at this | exact this) GW801.out)) | (dsimp only; exact Nat.ne_of_lt (Nat.lt_of_lt_of_le (by have := World.block_lt_of_cell? _ _ hw799_2; first | rwa [add_block] at this | exact this) GW801.out))) _).trans (((cell_far (p := ⟨gb801, _, none⟩) (by first | exact Nat.ne_of_lt (Nat.lt_of_lt_of_le (by have := World.block_lt_of_cell? _ _ hw799_2; first | rwa [add_block] at this | exact this) GW801.out) | (rw [add_block]; exact Nat.ne_of_lt (Nat.lt_of_lt_of_le (by have := World.block_lt_of_cell? _ _ hw799_2; first | rwa [add_block] at this | exact this) GW801.out)) | (show (Addr.add _ _).block ≠ _; rw [add_block]; exact Nat.ne_of_lt (Nat.lt_of_lt_of_le (by have := World.block_lt_of_cell? _ _ hw799_2; first | rwa [add_block] at this | exact this) GW801.out)) | (dsimp only; exact Nat.ne_of_lt (Nat.lt_of_lt_of_le (by have := World.block_lt_of_cell? _ _ hw799_2; first | rwa [add_block] at this | exact this) GW801.out))) _).trans (((cell_far (p := ⟨gb801, _, none⟩) (by first | exact Nat.ne_of_lt (Nat.lt_of_lt_of_le (by have := World.block_lt_of_cell? _ _ hw799_2; first | rwa [add_block] at this | exact this) GW801.out) | (rw [add_block]; exact Nat.ne_of_lt (Nat.lt_of_lt_of_le (by have := World.block_lt_of_cell? _ _ hw799_2; first | rwa [add_block] at this | exact this) GW801.out)) | (show (Addr.add _ _).block ≠ _; rw [add_block]; exact Nat.ne_of_lt (Nat.lt_of_lt_of_le (by have := World.block_lt_of_cell? _ _ hw799_2; first | rwa [add_block] at this | exact this) GW801.out)) | (dsimp only; exact Nat.ne_of_lt (Nat.lt_of_lt_of_le (by have := World.block_lt_of_cell? _ _ hw799_2; first | rwa [add_block] at this | exact this) GW801.out))) _).trans (((cell_far (p := ⟨gb801, _, none⟩) (by first | exact Nat.ne_of_lt (Nat.lt_of_lt_of_le (by have := World.block_lt_of_cell? _ _ hw799_2; first | rwa [add_block] at this | exact this) GW801.out) | (rw [add_block]; exact Nat.ne_of_lt (Nat.lt_of_lt_of_le (by have := World.block_lt_of_cell? _ _ hw799_2; first | rwa [add_block] at this | exact this) GW801.out)) | (show (Addr.add _ _).block ≠ _; rw [add_block]; exact Nat.ne_of_lt (Nat.lt_of_lt_of_le (by have := World.block_lt_of_cell? _ _ hw799_2; first | rwa [add_block] at this | exact this) GW801.out)) | (dsimp only; exact Nat.ne_of_lt (Nat.lt_of_lt_of_le (by have := World.block_lt_of_cell? _ _ hw799_2; first | rwa [add_block] at this | exact this) GW801.out))) _).trans (((cell_far (p := ⟨gb801, _, none⟩) (by first | exact Nat.ne_of_lt (Nat.lt_of_lt_of_le (by have := World.block_lt_of_cell? _ _ hw799_2; first | rwa [add_block] at this | exact this) GW801.out) | (rw [add_block]; exact Nat.ne_of_lt (Nat.lt_of_lt_of_le (by have := World.block_lt_of_cell? _ _ hw799_2; first | rwa [add_block] at this | exact this) GW801.out)) | (show (Addr.add _ _).block ≠ _; rw [add_block]; exact Nat.ne_of_lt (Nat.lt_of_lt_of_le (by have := World.block_lt_of_cell? _ _ hw799_2; first | rwa [add_block] at this | exact this) GW801.out)) | (dsimp only; exact Nat.ne_of_lt (Nat.lt_of_lt_of_le (by have := World.block_lt_of_cell? _ _ hw799_2; first | rwa [add_block] at this | exact this) GW801.out))) _).trans (((cell_far (p := ⟨gb801, _, none⟩) (by first | exact Nat.ne_of_lt (Nat.lt_of_lt_of_le (by have := World.block_lt_of_cell? _ _ hw799_2; first | rwa [add_block] at this | exact this) GW801.out) | (rw [add_block]; exact Nat.ne_of_lt (Nat.lt_of_lt_of_le (by have := World.block_lt_of_cell? _ _ hw799_2; first | rwa [add_block] at this | exact this) GW801.out)) | (show (Addr.add _ _).block ≠ _; rw [add_block]; exact Nat.ne_of_lt (Nat.lt_of_lt_of_le (by have := World.block_lt_of_cell? _ _ hw799_2; first | rwa [add_block] at this | exact this) GW801.out)) | (dsimp only; exact Nat.ne_of_lt (Nat.lt_of_lt_of_le (by have := World.block_lt_of_cell? _ _ hw799_2; first | rwa [add_block] at this | exact this) GW801.out))) _).trans (hHeld.2.2.1)))))))))))), ((cell_far (p := ⟨gb801, _, none⟩) (by first | exact Nat.ne_of_lt (Nat.lt_of_lt_of_le (by have := World.block_lt_of_cell? _ _ hw800_0; first | rwa [add_block] at this | exact this) GW801.out) | (rw [add_block]; exact Nat.ne_of_lt (Nat.lt_of_lt_of_le (by have := World.block_lt_of_cell? _ _ hw800_0; first | rwa [add_block] at this | exact this) GW801.out)) | (show (Addr.add _ _).block ≠ _; rw [add_block]; exact Nat.ne_of_lt (Nat.lt_of_lt_of_le (by have := World.block_lt_of_cell? _ _ hw800_0; first | rwa [add_block] at this | exact this) GW801.out)) | (dsimp only; exact Nat.ne_of_lt (Nat.lt_of_lt_of_le (by have := World.block_lt_of_cell? _ _ hw800_0; first | rwa [add_block] at this | exact this) GW801.out))) _).trans (((cell_far (p := ⟨gb801, _, none⟩) (by first | exact Nat.ne_of_lt (Nat.lt_of_lt_of_le (by have := World.block_lt_of_cell? _ _ hw800_0; first | rwa [add_block] at this | exact this) GW801.out) | (rw [add_block]; exact Nat.ne_of_lt (Nat.lt_of_lt_of_le (by have := World.block_lt_of_cell? _ _ hw800_0; first | rwa [add_block] at this | exact this) GW801.out)) | (show (Addr.add _ _).block ≠ _; rw [add_block]; exact Nat.ne_of_lt (Nat.lt_of_lt_of_le (by have := World.block_lt_of_cell? _ _ hw800_0; first | rwa [add_block] at this | exact this) GW801.out)) | (dsimp only; exact Nat.ne_of_lt (Nat.lt_of_lt_of_le (by have := World.block_lt_of_cell? _ _ hw800_0; first | rwa [add_block] at this | exact this) GW801.out))) _).trans (((cell_far (p := ⟨gb801, _, none⟩) (by first | exact Nat.ne_of_lt (Nat.lt_of_lt_of_le (by have := World.block_lt_of_cell? _ _ hw800_0; first | rwa [add_block] at this | exact this) GW801.out) | (rw [add_block]; exact Nat.ne_of_lt (Nat.lt_of_lt_of_le (by have := World.block_lt_of_cell? _ _ hw800_0; first | rwa [add_block] at this | exact this) GW801.out)) | (show (Addr.add _ _).block ≠ _; rw [add_block]; exact Nat.ne_of_lt (Nat.lt_of_lt_of_le (by have := World.block_lt_of_cell? _ _ hw800_0; first | rwa [add_block] at this | exact this) GW801.out)) | (dsimp only; exact Nat.ne_of_lt (Nat.lt_of_lt_of_le (by have := World.block_lt_of_cell? _ _ hw800_0; first | rwa [add_block] at this | exact this) GW801.out))) _).trans (((cell_far (p := ⟨gb801, _, none⟩) (by first | exact Nat.ne_of_lt (Nat.lt_of_lt_of_le (by have := World.block_lt_of_cell? _ _ hw800_0; first | rwa [add_block] at this | exact this) GW801.out) | (rw [add_block]; exact Nat.ne_of_lt (Nat.lt_of_lt_of_le (by have := World.block_lt_of_cell? _ _ hw800_0; first | rwa [add_block] at this | exact this) GW801.out)) | (show (Addr.add _ _).block ≠ _; rw [add_block]; exact Nat.ne_of_lt (Nat.lt_of_lt_of_le (by have := World.block_lt_of_cell? _ _ hw800_0; first | rwa [add_block] at this | exact this) GW801.out)) | (dsimp only; exact Nat.ne_of_lt (Nat.lt_of_lt_of_le (by have := World.block_lt_of_cell? _ _ hw800_0; first | rwa [add_block] at this | exact this) GW801.out))) _).trans (((cell_far (p := ⟨gb801, _, none⟩) (by first | exact Nat.ne_of_lt (Nat.lt_of_lt_of_le (by have := World.block_lt_of_cell? _ _ hw800_0; first | rwa [add_block] at this | exact this) GW801.out) | (rw [add_block]; exact Nat.ne_of_lt (Nat.lt_of_lt_of_le (by have := World.block_lt_of_cell? _ _ hw800_0; first | rwa [add_block] at this | exact this) GW801.out)) | (show (Addr.add _ _).block ≠ _; rw [add_block]; exact Nat.ne_of_lt (Nat.lt_of_lt_of_le (by have := World.block_lt_of_cell? _ _ hw800_0; first | rwa [add_block] at this | exact this) GW801.out)) | (dsimp only; exact Nat.ne_of_lt (Nat.lt_of_lt_of_le (by have := World.block_lt_of_cell? _ _ hw800_0; first | rwa [add_block] at this | exact this) GW801.out))) _).trans (((cell_far (p := ⟨gb801, _, none⟩) (by first | exact Nat.ne_of_lt (Nat.lt_of_lt_of_le (by have := World.block_lt_of_cell? _ _ hw800_0; first | rwa [add_block] at this | exact this) GW801.out) | (rw [add_block]; exact Nat.ne_of_lt (Nat.lt_of_lt_of_le (by have := World.block_lt_of_cell? _ _ hw800_0; first | rwa [add_block] at this | exact this) GW801.out)) | (show (Addr.add _ _).block ≠ _; rw [add_block]; exact Nat.ne_of_lt (Nat.lt_of_lt_of_le (by have := World.block_lt_of_cell? _ _ hw800_0; first | rwa [add_block] at this | exact this) GW801.out)) | (dsimp only; exact Nat.ne_of_lt (Nat.lt_of_lt_of_le (by have := World.block_lt_of_cell? _ _ hw800_0; first | rwa [add_block] at this | exact this) GW801.out))) _).trans (hHeld.2.2.2.1)))))))))))), ((cell_far (p := ⟨gb801, _, none⟩) (by first | exact Nat.ne_of_lt (Nat.lt_of_lt_of_le (by have := World.block_lt_of_cell? _ _ hw800_1; first | rwa [add_block] at this | exact this) GW801.out) | (rw [add_block]; exact Nat.ne_of_lt (Nat.lt_of_lt_of_le (by have := World.block_lt_of_cell? _ _ hw800_1; first | rwa [add_block] at this | exact this) GW801.out)) | (show (Addr.add _ _).block ≠ _; rw [add_block]; exact Nat.ne_of_lt (Nat.lt_of_lt_of_le (by have := World.block_lt_of_cell? _ _ hw800_1; first | rwa [add_block] at this | exact this) GW801.out)) | (dsimp only; exact Nat.ne_of_lt (Nat.lt_of_lt_of_le (by have := World.block_lt_of_cell? _ _ hw800_1; first | rwa [add_block] at this | exact this) GW801.out))) _).trans (((cell_far (p := ⟨gb801, _, none⟩) (by first | exact Nat.ne_of_lt (Nat.lt_of_lt_of_le (by have := World.block_lt_of_cell? _ _ hw800_1; first | rwa [add_block] at this | exact this) GW801.out) | (rw [add_block]; exact Nat.ne_of_lt (Nat.lt_of_lt_of_le (by have := World.block_lt_of_cell? _ _ hw800_1; first | rwa [add_block] at this | exact this) GW801.out)) | (show (Addr.add _ _).block ≠ _; rw [add_block]; exact Nat.ne_of_lt (Nat.lt_of_lt_of_le (by have := World.block_lt_of_cell? _ _ hw800_1; first | rwa [add_block] at this | exact this) GW801.out)) | (dsimp only; exact Nat.ne_of_lt (Nat.lt_of_lt_of_le (by have := World.block_lt_of_cell? _ _ hw800_1; first | rwa [add_block] at this | exact this) GW801.out))) _).trans (((cell_far (p := ⟨gb801, _, none⟩) (by first | exact Nat.ne_of_lt (Nat.lt_of_lt_of_le (by have := World.block_lt_of_cell? _ _ hw800_1; first | rwa [add_block] at this | exact this) GW801.out) | (rw [add_block]; exact Nat.ne_of_lt (Nat.lt_of_lt_of_le (by have := World.block_lt_of_cell? _ _ hw800_1; first | rwa [add_block] at this | exact this) GW801.out)) | (show (Addr.add _ _).block ≠ _; rw [add_block]; exact Nat.ne_of_lt (Nat.lt_of_lt_of_le (by have := World.block_lt_of_cell? _ _ hw800_1; first | rwa [add_block] at this | exact this) GW801.out)) | (dsimp only; exact Nat.ne_of_lt (Nat.lt_of_lt_of_le (by have := World.block_lt_of_cell? _ _ hw800_1; first | rwa [add_block] at this | exact this) GW801.out))) _).trans (((cell_far (p := ⟨gb801, _, none⟩) (by first | exact Nat.ne_of_lt (Nat.lt_of_lt_of_le (by have := World.block_lt_of_cell? _ _ hw800_1; first | rwa [add_block] at this | exact this) GW801.out) | (rw [add_block]; exact Nat.ne_of_lt (Nat.lt_of_lt_of_le (by have := World.block_lt_of_cell? _ _ hw800_1; first | rwa [add_block] at this | exact this) GW801.out)) | (show (Addr.add _ _).block ≠ _; rw [add_block]; exact Nat.ne_of_lt (Nat.lt_of_lt_of_le (by have := World.block_lt_of_cell? _ _ hw800_1; first | rwa [add_block] at this | exact this) GW801.out)) | (dsimp only; exact Nat.ne_of_lt (Nat.lt_of_lt_of_le (by have := World.block_lt_of_cell? _ _ hw800_1; first | rwa [add_block] at this | exact this) GW801.out))) _).trans (((cell_far (p := ⟨gb801, _, none⟩) (by first | exact Nat.ne_of_lt (Nat.lt_of_lt_of_le (by have := World.block_lt_of_cell? _ _ hw800_1; first | rwa [add_block] at this | exact this) GW801.out) | (rw [add_block]; exact Nat.ne_of_lt (Nat.lt_of_lt_of_le (by have := World.block_lt_of_cell? _ _ hw800_1; first | rwa [add_block] at this | exact this) GW801.out)) | (show (Addr.add _ _).block ≠ _; rw [add_block]; exact Nat.ne_of_lt (Nat.lt_of_lt_of_le (by have := World.block_lt_of_cell? _ _ hw800_1; first | rwa [add_block] at this | exact this) GW801.out)) | (dsimp only; exact Nat.ne_of_lt (Nat.lt_of_lt_of_le (by have := World.block_lt_of_cell? _ _ hw800_1; first | rwa [add_block] at this | exact this) GW801.out))) _).trans (((cell_far (p := ⟨gb801, _, none⟩) (by first | exact Nat.ne_of_lt (Nat.lt_of_lt_of_le (by have := World.block_lt_of_cell? _ _ hw800_1; first | rwa [add_block] at this | exact this) GW801.out) | (rw [add_block]; exact Nat.ne_of_lt (Nat.lt_of_lt_of_le (by have := World.block_lt_of_cell? _ _ hw800_1; first | rwa [add_block] at this | exact this) GW801.out)) | (show (Addr.add _ _).block ≠ _; rw [add_block]; exact Nat.ne_of_lt (Nat.lt_of_lt_of_le (by have := World.block_lt_of_cell? _ _ hw800_1; first | rwa [add_block] at this | exact this) GW801.out)) | (dsimp only; exact Nat.ne_of_lt (Nat.lt_of_lt_of_le (by have := World.block_lt_of_cell? _ _ hw800_1; first | rwa [add_block] at this | exact this) GW801.out))) _).trans (hHeld.2.2.2.2.1)))))))))))), ((cell_far (p := ⟨gb801, _, none⟩) (by first | exact Nat.ne_of_lt (Nat.lt_of_lt_of_le (by have := World.block_lt_of_cell? _ _ hw800_2; first | rwa [add_block] at this | exact this) GW801.out) | (rw [add_block]; exact Nat.ne_of_lt (Nat.lt_of_lt_of_le (by have := World.block_lt_of_cell? _ _ hw800_2; first | rwa [add_block] at this | exact this) GW801.out)) | (show (Addr.add _ _).block ≠ _; rw [add_block]; exact Nat.ne_of_lt (Nat.lt_of_lt_of_le (by have := World.block_lt_of_cell? _ _ hw800_2; first | rwa [add_block] at this | exact this) GW801.out)) | (dsimp only; exact Nat.ne_of_lt (Nat.lt_of_lt_of_le (by have := World.block_lt_of_cell? _ _ hw800_2; first | rwa [add_block] at this | exact this) GW801.out))) _).trans (((cell_far (p := ⟨gb801, _, none⟩) (by first | exact Nat.ne_of_lt (Nat.lt_of_lt_of_le (by have := World.block_lt_of_cell? _ _ hw800_2; first | rwa [add_block] at this | exact this) GW801.out) | (rw [add_block]; exact Nat.ne_of_lt (Nat.lt_of_lt_of_le (by have := World.block_lt_of_cell? _ _ hw800_2; first | rwa [add_block] at this | exact this) GW801.out)) | (show (Addr.add _ _).block ≠ _; rw [add_block]; exact Nat.ne_of_lt (Nat.lt_of_lt_of_le (by have := World.block_lt_of_cell? _ _ hw800_2; first | rwa [add_block] at this | exact this) GW801.out)) | (dsimp only; exact Nat.ne_of_lt (Nat.lt_of_lt_of_le (by have := World.block_lt_of_cell? _ _ hw800_2; first | rwa [add_block] at this | exact this) GW801.out))) _).trans (((cell_far (p := ⟨gb801, _, none⟩) (by first | exact Nat.ne_of_lt (Nat.lt_of_lt_of_le (by have := World.block_lt_of_cell? _ _ hw800_2; first | rwa [add_block] at this | exact this) GW801.out) | (rw [add_block]; exact Nat.ne_of_lt (Nat.lt_of_lt_of_le (by have := World.block_lt_of_cell? _ _ hw800_2; first | rwa [add_block] at this | exact this) GW801.out)) | (show (Addr.add _ _).block ≠ _; rw [add_block]; exact Nat.ne_of_lt (Nat.lt_of_lt_of_le (by have := World.block_lt_of_cell? _ _ hw800_2; first | rwa [add_block] at this | exact this) GW801.out)) | (dsimp only; exact Nat.ne_of_lt (Nat.lt_of_lt_of_le (by have := World.block_lt_of_cell? _ _ hw800_2; first | rwa [add_block] at this | exact this) GW801.out))) _).trans (((cell_far (p := ⟨gb801, _, none⟩) (by first | exact Nat.ne_of_lt (Nat.lt_of_lt_of_le (by have := World.block_lt_of_cell? _ _ hw800_2; first | rwa [add_block] at this | exact this) GW801.out) | (rw [add_block]; exact Nat.ne_of_lt (Nat.lt_of_lt_of_le (by have := World.block_lt_of_cell? _ _ hw800_2; first | rwa [add_block] at this | exact this) GW801.out)) | (show (Addr.add _ _).block ≠ _; rw [add_block]; exact Nat.ne_of_lt (Nat.lt_of_lt_of_le (by have := World.block_lt_of_cell? _ _ hw800_2; first | rwa [add_block] at this | exact this) GW801.out)) | (dsimp only; exact Nat.ne_of_lt (Nat.lt_of_lt_of_le (by have := World.block_lt_of_cell? _ _ hw800_2; first | rwa [add_block] at this | exact this) GW801.out))) _).trans (((cell_far (p := ⟨gb801, _, none⟩) (by first | exact Nat.ne_of_lt (Nat.lt_of_lt_of_le (by have := World.block_lt_of_cell? _ _ hw800_2; first | rwa [add_block] at this | exact this) GW801.out) | (rw [add_block]; exact Nat.ne_of_lt (Nat.lt_of_lt_of_le (by have := World.block_lt_of_cell? _ _ hw800_2; first | rwa [add_block] at this | exact this) GW801.out)) | (show (Addr.add _ _).block ≠ _; rw [add_block]; exact Nat.ne_of_lt (Nat.lt_of_lt_of_le (by have := World.block_lt_of_cell? _ _ hw800_2; first | rwa [add_block] at this | exact this) GW801.out)) | (dsimp only; exact Nat.ne_of_lt (Nat.lt_of_lt_of_le (by have := World.block_lt_of_cell? _ _ hw800_2; first | rwa [add_block] at this | exact this) GW801.out))) _).trans (((cell_far (p := ⟨gb801, _, none⟩) (by first | exact Nat.ne_of_lt (Nat.lt_of_lt_of_le (by have := World.block_lt_of_cell? _ _ hw800_2; first | rwa [add_block] at this | exact this) GW801.out) | (rw [add_block]; exact Nat.ne_of_lt (Nat.lt_of_lt_of_le (by have := World.block_lt_of_cell? _ _ hw800_2; first | rwa [add_block] at this | exact this) GW801.out)) | (show (Addr.add _ _).block ≠ _; rw [add_block]; exact Nat.ne_of_lt (Nat.lt_of_lt_of_le (by have := World.block_lt_of_cell? _ _ hw800_2; first | rwa [add_block] at this | exact this) GW801.out)) | (dsimp only; exact Nat.ne_of_lt (Nat.lt_of_lt_of_le (by have := World.block_lt_of_cell? _ _ hw800_2; first | rwa [add_block] at this | exact this) GW801.out))) _).trans (hHeld.2.2.2.2.2))))))))))))⟩ (fun hHeld => ?_)
   clear hK K
   refine done_ (done_of HT_.out (by kernel_rfl)) ?_
   have n0_ : Aside0 (((((((w9.setCell ⟨gb801, 0, none⟩ (.int .i64 ((rd_T23 l0 0).f0))).setCell ⟨gb801, 1, none⟩ (.int .i64 ((rd_T23 l0 0).f1))).setCell ⟨gb801, 2, none⟩ (.int .i64 ((rd_T23 l0 0).f2))).setCell ⟨gb801, 3, none⟩ (.int .i64 ((rd_T23 l0 0).f0))).setCell ⟨gb801, 4, none⟩ (.int .i64 ((rd_T23 l0 0).f1))).setCell ⟨gb801, 5, none⟩ (.int .i64 ((rd_T23 l0 0).f2))).heap[gb798]? = some (.cells #[.int .i64 0, .int .i64 0, .int .i64 0, .int .i64 0, .int .i64 0, .int .i64 0] 56 (0, 0))) := ⟨by (with_reducible repeat (first | refine blk_drewN ?_ _ | refine blk_drew ?_ | refine blk_alloc ?_ _)); refine blk_far ?_ NB798_801.out _; (with_reducible repeat (first | refine blk_drewN ?_ _ | refine blk_drew ?_ | refine blk_alloc ?_ _)); refine blk_far ?_ NB798_801.out _; (with_reducible repeat (first | refine blk_drewN ?_ _ | refine blk_drew ?_ | refine blk_alloc ?_ _)); refine blk_far ?_ NB798_801.out _; (with_reducible repeat (first | refine blk_drewN ?_ _ | refine blk_drew ?_ | refine blk_alloc ?_ _)); refine blk_far ?_ NB798_801.out _; (with_reducible repeat (first | refine blk_drewN ?_ _ | refine blk_drew ?_ | refine blk_alloc ?_ _)); refine blk_far ?_ NB798_801.out _; (with_reducible repeat (first | refine blk_drewN ?_ _ | refine blk_drew ?_ | refine blk_alloc ?_ _)); refine blk_far ?_ NB798_801.out _; (with_reducible repeat (first | refine blk_drewN ?_ _ | refine blk_drew ?_ | refine blk_alloc ?_ _)); exact BK798.out⟩
   have n1_ : Aside0 (((((((w9.setCell ⟨gb801, 0, none⟩ (.int .i64 ((rd_T23 l0 0).f0))).setCell ⟨gb801, 1, none⟩ (.int .i64 ((rd_T23 l0 0).f1))).setCell ⟨gb801, 2, none⟩ (.int .i64 ((rd_T23 l0 0).f2))).setCell ⟨gb801, 3, none⟩ (.int .i64 ((rd_T23 l0 0).f0))).setCell ⟨gb801, 4, none⟩ (.int .i64 ((rd_T23 l0 0).f1))).setCell ⟨gb801, 5, none⟩ (.int .i64 ((rd_T23 l0 0).f2))).heap[gb801]? = some (.cells #[.int .i64 ((rd_T23 l0 0).f0), .int .i64 ((rd_T23 l0 0).f1), .int .i64 ((rd_T23 l0 0).f2), .int .i64 ((rd_T23 l0 0).f0), .int .i64 ((rd_T23 l0 0).f1), .int .i64 ((rd_T23 l0 0).f2)] 56 (0, 0))) := ⟨by (with_reducible repeat (first | refine blk_drewN ?_ _ | refine blk_drew ?_ | refine blk_alloc ?_ _)); refine blk_put (cs := #[.int .i64 ((rd_T23 l0 0).f0), .int .i64 ((rd_T23 l0 0).f1), .int .i64 ((rd_T23 l0 0).f2), .int .i64 ((rd_T23 l0 0).f0), .int .i64 ((rd_T23 l0 0).f1), .int .i64 0]) ?_ 5 _ rfl; (with_reducible repeat (first | refine blk_drewN ?_ _ | refine blk_drew ?_ | refine blk_alloc ?_ _)); refine blk_put (cs := #[.int .i64 ((rd_T23 l0 0).f0), .int .i64 ((rd_T23 l0 0).f1), .int .i64 ((rd_T23 l0 0).f2), .int .i64 ((rd_T23 l0 0).f0), .int .i64 0, .int .i64 0]) ?_ 4 _ rfl; (with_reducible repeat (first | refine blk_drewN ?_ _ | refine blk_drew ?_ | refine blk_alloc ?_ _)); refine blk_put (cs := #[.int .i64 ((rd_T23 l0 0).f0), .int .i64 ((rd_T23 l0 0).f1), .int .i64 ((rd_T23 l0 0).f2), .int .i64 0, .int .i64 0, .int .i64 0]) ?_ 3 _ rfl; (with_reducible repeat (first | refine blk_drewN ?_ _ | refine blk_drew ?_ | refine blk_alloc ?_ _)); refine blk_put (cs := #[.int .i64 ((rd_T23 l0 0).f0), .int .i64 ((rd_T23 l0 0).f1), .int .i64 0, .int .i64 0, .int .i64 0, .int .i64 0]) ?_ 2 _ rfl; (with_reducible repeat (first | refine blk_drewN ?_ _ | refine blk_drew ?_ | refine blk_alloc ?_ _)); refine blk_put (cs := #[.int .i64 ((rd_T23 l0 0).f0), .int .i64 0, .int .i64 0, .int .i64 0, .int .i64 0, .int .i64 0]) ?_ 1 _ rfl; (with_reducible repeat (first | refine blk_drewN ?_ _ | refine blk_drew ?_ | refine blk_alloc ?_ _)); refine blk_put (cs := #[.int .i64 0, .int .i64 0, .int .i64 0, .int .i64 0, .int .i64 0, .int .i64 0]) ?_ 0 _ rfl; (with_reducible repeat (first | refine blk_drewN ?_ _ | refine blk_drew ?_ | refine blk_alloc ?_ _)); exact BK801.out⟩
   have n2_ : Aside0 (Below w.heap.size w ((((((w9.setCell ⟨gb801, 0, none⟩ (.int .i64 ((rd_T23 l0 0).f0))).setCell ⟨gb801, 1, none⟩ (.int .i64 ((rd_T23 l0 0).f1))).setCell ⟨gb801, 2, none⟩ (.int .i64 ((rd_T23 l0 0).f2))).setCell ⟨gb801, 3, none⟩ (.int .i64 ((rd_T23 l0 0).f0))).setCell ⟨gb801, 4, none⟩ (.int .i64 ((rd_T23 l0 0).f1))).setCell ⟨gb801, 5, none⟩ (.int .i64 ((rd_T23 l0 0).f2)))) := ⟨by repeat (first | (with_reducible first | exact HB.out | apply below_alloc | apply pw_below_drewN | apply below_drew1 | refine below_set ?_ GE798.out | refine below_set ?_ GE801.out) | exact HB.out)⟩
   (try clear BK798)
   (try clear BK801)
   (try clear HB)
   generalize ((((((w9.setCell ⟨gb801, 0, none⟩ (.int .i64 ((rd_T23 l0 0).f0))).setCell ⟨gb801, 1, none⟩ (.int .i64 ((rd_T23 l0 0).f1))).setCell ⟨gb801, 2, none⟩ (.int .i64 ((rd_T23 l0 0).f2))).setCell ⟨gb801, 3, none⟩ (.int .i64 ((rd_T23 l0 0).f0))).setCell ⟨gb801, 4, none⟩ (.int .i64 ((rd_T23 l0 0).f1))).setCell ⟨gb801, 5, none⟩ (.int .i64 ((rd_T23 l0 0).f2))) = w16 at n0_ n1_ n2_ ⊢
   have BK798 := n0_
   have BK801 := n1_
   have HB := n2_
   clear n0_ n1_ n2_
   have q17 : (1 : Int) ≤ ((l0.length : Int) : Int) := of_decide_eq_true (by first | (with_reducible assumption) | assumption)
   obtain ⟨i017, hi017, _, hsz17, _⟩ := info_parts info23
   have hroom17 : l0.length ≤ c0 := HC0.out
   have hC17 : Kd.C k23 _ (some ad799) l0.length l0 := HR0.out
   have hcut17 := cut_from (P := Try.prog) 69 23 .i64 Try.underlying69 hi017 3 hsz17 (some ad799) l0.length c0 1 (by omega) q17
   have hr17 := Kd.C_drop (m := (1 : Int).toNat) (c := c0) hC17 (by omega) hroom17
   obtain ⟨A17, hA17⟩ : ∃ A1, A1 = (if c0 = (1 : Int).toNat then (some ad799) else ((some ad799) : Option Addr).map (·.add ((1 : Int).toNat * 3))) := ⟨_, rfl⟩
   obtain ⟨c17, hc17⟩ : ∃ c1, c1 = c0 - (1 : Int).toNat := ⟨_, rfl⟩
   have hy17 : y802.length = l0.length - (1 : Int).toNat := (by rw [Ny802.out, List.length_drop] <;> omega)
   rw [show (l0).drop (1 : Int).toNat = y802 from Ny802.out.symm] at hr17
   replace hr17 : Kd.C k23 _ A17 y802.length y802 := (by rw [hA17]; exact hr17)
   rw [← hy17, ← hA17, ← hc17] at hcut17
   have HR805 := Aside0.mk hr17
   have HC805 := Aside0.mk (show y802.length ≤ c17 from by rw [hy17, hc17]; exact Nat.sub_le_sub_right hroom17 _)
   clear hr17 hC17 hroom17 hi017 hsz17 hc17
   have KY17 := Aside0.mk hy17
   have KA17 := Aside0.mk hA17
   clear hy17 hA17
   replace q17 := eq_true q17
   try go_wp2
   go_loopg [21] k (fun kq v21 w' => ∃ (x21_1 : Int) (x802000_1 : Int) (x802001_1 : Int) (x802002_1 : Int) (x802003_1 : Int) (x802004_1 : Int) (x802005_1 : Int), v21 = .int .i64 x21_1 ∧ Aside0 (vec_Bound.l0 kq y802 (y802.length : Int) x21_1 x802000_1 x802001_1 x802002_1 x802003_1 x802004_1 x802005_1 = some (r1, r2, r3, r4, r5, r6, r7)) ∧ Aside0 (kq ≤ k) ∧ Aside0 (w'.heap[gb798]? = some (.cells #[.int .i64 0, .int .i64 0, .int .i64 0, .int .i64 0, .int .i64 0, .int .i64 0] 56 (0, 0))) ∧ Aside0 (w'.heap[gb801]? = some (.cells #[.int .i64 x802000_1, .int .i64 x802001_1, .int .i64 x802002_1, .int .i64 x802003_1, .int .i64 x802004_1, .int .i64 x802005_1] 56 (0, 0))) ∧ Aside0 (Below w.heap.size w w'))
   case atStart => exact ⟨(0), ((rd_T23 l0 0).f0), ((rd_T23 l0 0).f1), ((rd_T23 l0 0).f2), ((rd_T23 l0 0).f0), ((rd_T23 l0 0).f1), ((rd_T23 l0 0).f2), (by first | rfl | (simp; done) | (simp [*]; done)), H', ⟨Nat.le_refl _⟩, ⟨by (with_reducible repeat (first | refine blk_drewN ?_ _ | refine blk_drew ?_ | refine blk_alloc ?_ _)); exact BK798.out⟩, ⟨by (with_reducible repeat (first | refine blk_drewN ?_ _ | refine blk_drew ?_ | refine blk_alloc ?_ _)); exact BK801.out⟩, ⟨by repeat (first | (with_reducible first | exact HB.out | apply below_alloc | apply pw_below_drewN | apply below_drew1 | refine below_set ?_ GE798.out | refine below_set ?_ GE801.out) | exact HB.out)⟩⟩
   case round =>
    clear H'
    try clear c1
    try clear c2
    try clear c2b0
    try clear c2b1
    try clear c2b2
    try clear c5
    try clear c5b0
    try clear c5b1
    try clear c6
    try clear c6b0
    try clear c6b1
    try clear c17
    try clear q17
    try clear hx799_0
    try clear hx799_1
    try clear hx799_2
    try clear hx800_0
    try clear hx800_1
    try clear hx800_2
    try clear p799
    try clear p800
    try clear q17
    try clear q799
    try clear q800
    obtain ⟨x21_1, x802000_1, x802001_1, x802002_1, x802003_1, x802004_1, x802005_1, rfl, HA, HK1, BK798, BK801, HB⟩ := hrel
    cases gk with
    | zero => exact absurd HA.out (by simp [vec_Bound.l0])
    | succ k1 =>
     have H := HA.out
     clear HA
     simp only [vec_Bound.l0] at H
     by_cases c18 : x21_1 < (y802.length : Int)
     ·rw [if_pos c18] at H
      have c18b0 : decide (x21_1 < (y802.length : Int)) = true := decide_eq_true c18
      clear c18
      by_cases c19 : 0 ≤ x21_1
      ·rw [if_pos c19] at H
       have c19b0 : decide (0 ≤ x21_1) = true := decide_eq_true c19
       clear c19
       by_cases c20 : x21_1 < (y802.length : Int)
       ·rw [if_pos c20] at H
        have c20b0 : decide (x21_1 < (y802.length : Int)) = true := decide_eq_true c20
        clear c20
        replace H := Option.bind_eq_some_iff.mp H
        obtain ⟨⟨t808, t809, t810, t811, t812, t813⟩, A210, H⟩ := H
        replace H : (vec_Bound.l0 k1 y802 (y802.length : Int) (wrap64 (x21_1 + 1)) t808 t809 t810 t811 t812 t813) = some (r1, r2, r3, r4, r5, r6, r7) := H
        have A21 := Aside0.mk A210
        clear A210
        have H' := Aside0.mk H
        clear H
        have p806 : 0 ≤ (x21_1 : Int) := of_decide_eq_true (by first | (with_reducible assumption) | assumption)
        have q806 : x21_1 < (y802.length : Int) := of_decide_eq_true (by first | (with_reducible assumption) | assumption)
        obtain ⟨ad806, e806, hx806_0, hx806_1, hx806_2⟩ := at_T23 HR805.out x21_1 p806 q806
        cases e806
        replace hx806_0 := (HB.out.cell (World.block_lt_of_cell? w _ hx806_0)).trans hx806_0
        replace hx806_1 := (HB.out.cell (World.block_lt_of_cell? w _ hx806_1)).trans hx806_1
        replace hx806_2 := (HB.out.cell (World.block_lt_of_cell? w _ hx806_2)).trans hx806_2
        replace p806 := eq_true p806
        replace q806 := eq_true q806
        go_wp2_with (first | ((with_reducible refine gate_dst (N := 6) rfl ?_); refine box_event ?hg (N := 6) ?hd (cs := #[.int .i64 0, .int .i64 0, .int .i64 0]) (t := 23) ?hr ?_; (case hd => rfl); (case hg => rfl); (case hr => first | (go_simp; done) | (go_simp; rfl)); intro gb807 hg w22 hbox hb; have n0_ := Aside0.mk (blk_below (g := gb798) (o := .cells #[.int .i64 0, .int .i64 0, .int .i64 0, .int .i64 0, .int .i64 0, .int .i64 0] 56 (0, 0)) (by (with_reducible repeat (first | refine blk_drewN ?_ _ | refine blk_drew ?_ | refine blk_alloc ?_ _)); exact BK798.out) hb); have n1_ := Aside0.mk (blk_below (g := gb801) (o := .cells #[.int .i64 x802000_1, .int .i64 x802001_1, .int .i64 x802002_1, .int .i64 x802003_1, .int .i64 x802004_1, .int .i64 x802005_1] 56 (0, 0)) (by (with_reducible repeat (first | refine blk_drewN ?_ _ | refine blk_drew ?_ | refine blk_alloc ?_ _)); exact BK801.out) hb); have n2_ := Aside0.mk (below_step (by repeat (first | (with_reducible first | exact HB.out | apply below_alloc | apply pw_below_drewN | apply below_drew1 | refine below_set ?_ GE798.out | refine below_set ?_ GE801.out) | exact HB.out)) hb); have n3_ := Aside0.mk (hbox); have n4_ := Aside0.mk ((by rw [hg]; exact (below_size (by repeat (first | (with_reducible first | exact HB.out | apply below_alloc | apply pw_below_drewN | apply below_drew1 | refine below_set ?_ GE798.out | refine below_set ?_ GE801.out) | exact HB.out))) : w.heap.size ≤ gb807)); have n5_ := Aside0.mk ((by rw [hg]; exact (below_size (by repeat (first | (with_reducible first | exact HB.out | apply below_alloc | apply pw_below_drewN | apply below_drew1 | refine below_set ?_ GE798.out | refine below_set ?_ GE801.out) | exact HB.out))) : w.heap.size ≤ gb807)); have n6_ := Aside0.mk ((by rw [hg]; exact Nat.ne_of_lt (blk_lt (g := gb798) (o := .cells #[.int .i64 0, .int .i64 0, .int .i64 0, .int .i64 0, .int .i64 0, .int .i64 0] 56 (0, 0)) (by (with_reducible repeat (first | refine blk_drewN ?_ _ | refine blk_drew ?_ | refine blk_alloc ?_ _)); exact BK798.out)) : gb798 ≠ gb807)); have n7_ := Aside0.mk ((by rw [hg]; exact Nat.ne_of_gt (blk_lt (g := gb798) (o := .cells #[.int .i64 0, .int .i64 0, .int .i64 0, .int .i64 0, .int .i64 0, .int .i64 0] 56 (0, 0)) (by (with_reducible repeat (first | refine blk_drewN ?_ _ | refine blk_drew ?_ | refine blk_alloc ?_ _)); exact BK798.out)) : gb807 ≠ gb798)); have n8_ := Aside0.mk ((by rw [hg]; exact Nat.ne_of_lt (blk_lt (g := gb801) (o := .cells #[.int .i64 x802000_1, .int .i64 x802001_1, .int .i64 x802002_1, .int .i64 x802003_1, .int .i64 x802004_1, .int .i64 x802005_1] 56 (0, 0)) (by (with_reducible repeat (first | refine blk_drewN ?_ _ | refine blk_drew ?_ | refine blk_alloc ?_ _)); exact BK801.out)) : gb801 ≠ gb807)); have n9_ := Aside0.mk ((by rw [hg]; exact Nat.ne_of_gt (blk_lt (g := gb801) (o := .cells #[.int .i64 x802000_1, .int .i64 x802001_1, .int .i64 x802002_1, .int .i64 x802003_1, .int .i64 x802004_1, .int .i64 x802005_1] 56 (0, 0)) (by (with_reducible repeat (first | refine blk_drewN ?_ _ | refine blk_drew ?_ | refine blk_alloc ?_ _)); exact BK801.out)) : gb807 ≠ gb801)); clear BK798; clear BK801; clear HB; have BK798 := n0_; have BK801 := n1_; have HB := n2_; have BK807 := n3_; have GW807 := n4_; have GE807 := n5_; have NB798_807 := n6_; have NB807_798 := n7_; have NB801_807 := n8_; have NB807_801 := n9_; clear n0_ n1_ n2_ n3_ n4_ n5_ n6_ n7_ n8_ n9_; clear hb hbox hg; have hnb23 := NB807_798.out; have hnc23 := NB798_807.out; have hnb24 := NB807_801.out; have hnc24 := NB801_807.out; have hcz25_0 : w22.cell? ⟨gb807, 0, none⟩ = some (.int .i64 0) := (blk_cell BK807.out 0).trans rfl; have hcz25_1 : w22.cell? ⟨gb807, 1, none⟩ = some (.int .i64 0) := (blk_cell BK807.out 1).trans rfl; have hcz25_2 : w22.cell? ⟨gb807, 2, none⟩ = some (.int .i64 0) := (blk_cell BK807.out 2).trans rfl; have hfz25_0 := blk_frozen BK807.out 0; have hfz25_1 := blk_frozen BK807.out 1; have hfz25_2 := blk_frozen BK807.out 2; have hnb26 := NB801_798.out; have hnc26 := NB798_801.out; have hcz27_0 : w22.cell? ⟨gb801, 0, none⟩ = some (.int .i64 x802000_1) := (blk_cell BK801.out 0).trans rfl; have hcz27_1 : w22.cell? ⟨gb801, 1, none⟩ = some (.int .i64 x802001_1) := (blk_cell BK801.out 1).trans rfl; have hcz27_2 : w22.cell? ⟨gb801, 2, none⟩ = some (.int .i64 x802002_1) := (blk_cell BK801.out 2).trans rfl; have hcz27_3 : w22.cell? ⟨gb801, 3, none⟩ = some (.int .i64 x802003_1) := (blk_cell BK801.out 3).trans rfl; have hcz27_4 : w22.cell? ⟨gb801, 4, none⟩ = some (.int .i64 x802004_1) := (blk_cell BK801.out 4).trans rfl; have hcz27_5 : w22.cell? ⟨gb801, 5, none⟩ = some (.int .i64 x802005_1) := (blk_cell BK801.out 5).trans rfl; have hfz27_0 := blk_frozen BK801.out 0; have hfz27_1 := blk_frozen BK801.out 1; have hfz27_2 := blk_frozen BK801.out 2; have hfz27_3 := blk_frozen BK801.out 3; have hfz27_4 := blk_frozen BK801.out 4; have hfz27_5 := blk_frozen BK801.out 5) | ((with_reducible refine gate_callee (f := 37) rfl ?_); refine goesL_ (some 29) rfl rfl Try.func37 (by kernel_rfl) rfl #[.agg #[.int .i64 x802000_1, .int .i64 x802001_1, .int .i64 x802002_1, .int .i64 x802003_1, .int .i64 x802004_1, .int .i64 x802005_1], .agg #[.int .i64 ((rd_T23 y802 x21_1).f0), .int .i64 ((rd_T23 y802 x21_1).f1), .int .i64 ((rd_T23 y802 x21_1).f2), .int .i64 ((rd_T23 y802 x21_1).f0), .int .i64 ((rd_T23 y802 x21_1).f1), .int .i64 ((rd_T23 y802 x21_1).f2)]] rfl (by (try simp only [List.map_toArray, List.map_cons, List.map_nil]); first | done | rfl | (simp only [List.length_drop, List.length_take]; rfl)) ?_; (with_reducible refine (vec_Join.calls x802000_1 x802001_1 x802002_1 x802003_1 x802004_1 x802005_1 ((rd_T23 y802 x21_1).f0) ((rd_T23 y802 x21_1).f1) ((rd_T23 y802 x21_1).f2) ((rd_T23 y802 x21_1).f0) ((rd_T23 y802 x21_1).f1) ((rd_T23 y802 x21_1).f2) t808 t809 t810 t811 t812 t813 _ A21.out).mono ?_); rintro e w28 ⟨rfl, hb⟩; refine ⟨_, rfl, ?_⟩; have n0_ := Aside0.mk (blk_below (g := gb798) (o := .cells #[.int .i64 0, .int .i64 0, .int .i64 0, .int .i64 0, .int .i64 0, .int .i64 0] 56 (0, 0)) (by (with_reducible repeat (first | refine blk_drewN ?_ _ | refine blk_drew ?_ | refine blk_alloc ?_ _)); refine blk_far ?_ NB798_807.out _; (with_reducible repeat (first | refine blk_drewN ?_ _ | refine blk_drew ?_ | refine blk_alloc ?_ _)); refine blk_far ?_ NB798_807.out _; (with_reducible repeat (first | refine blk_drewN ?_ _ | refine blk_drew ?_ | refine blk_alloc ?_ _)); refine blk_far ?_ NB798_807.out _; (with_reducible repeat (first | refine blk_drewN ?_ _ | refine blk_drew ?_ | refine blk_alloc ?_ _)); exact BK798.out) hb); have n1_ := Aside0.mk (blk_below (g := gb801) (o := .cells #[.int .i64 x802000_1, .int .i64 x802001_1, .int .i64 x802002_1, .int .i64 x802003_1, .int .i64 x802004_1, .int .i64 x802005_1] 56 (0, 0)) (by (with_reducible repeat (first | refine blk_drewN ?_ _ | refine blk_drew ?_ | refine blk_alloc ?_ _)); refine blk_far ?_ NB801_807.out _; (with_reducible repeat (first | refine blk_drewN ?_ _ | refine blk_drew ?_ | refine blk_alloc ?_ _)); refine blk_far ?_ NB801_807.out _; (with_reducible repeat (first | refine blk_drewN ?_ _ | refine blk_drew ?_ | refine blk_alloc ?_ _)); refine blk_far ?_ NB801_807.out _; (with_reducible repeat (first | refine blk_drewN ?_ _ | refine blk_drew ?_ | refine blk_alloc ?_ _)); exact BK801.out) hb); have n2_ := Aside0.mk (blk_below (g := gb807) (o := .cells #[.int .i64 ((rd_T23 y802 x21_1).f0), .int .i64 ((rd_T23 y802 x21_1).f1), .int .i64 ((rd_T23 y802 x21_1).f2)] 23 (0, 0)) (by (with_reducible repeat (first | refine blk_drewN ?_ _ | refine blk_drew ?_ | refine blk_alloc ?_ _)); refine blk_put (cs := #[.int .i64 ((rd_T23 y802 x21_1).f0), .int .i64 ((rd_T23 y802 x21_1).f1), .int .i64 0]) ?_ 2 _ rfl; (with_reducible repeat (first | refine blk_drewN ?_ _ | refine blk_drew ?_ | refine blk_alloc ?_ _)); refine blk_put (cs := #[.int .i64 ((rd_T23 y802 x21_1).f0), .int .i64 0, .int .i64 0]) ?_ 1 _ rfl; (with_reducible repeat (first | refine blk_drewN ?_ _ | refine blk_drew ?_ | refine blk_alloc ?_ _)); refine blk_put (cs := #[.int .i64 0, .int .i64 0, .int .i64 0]) ?_ 0 _ rfl; (with_reducible repeat (first | refine blk_drewN ?_ _ | refine blk_drew ?_ | refine blk_alloc ?_ _)); exact BK807.out) hb); have n3_ := Aside0.mk (below_step (by repeat (first | (with_reducible first | exact HB.out | apply below_alloc | apply pw_below_drewN | apply below_drew1 | refine below_set ?_ GE798.out | refine below_set ?_ GE801.out | refine below_set ?_ GE807.out) | exact HB.out)) hb); clear BK798; clear BK801; clear BK807; clear HB; have BK798 := n0_; have BK801 := n1_; have BK807 := n2_; have HB := n3_; clear n0_ n1_ n2_ n3_; (try clear hb); (try clear hb2); (try clear hk); (try clear hi); have hcz29_0 : w28.cell? ⟨gb801, 0, none⟩ = some (.int .i64 x802000_1) := (blk_cell BK801.out 0).trans rfl; have hcz29_1 : w28.cell? ⟨gb801, 1, none⟩ = some (.int .i64 x802001_1) := (blk_cell BK801.out 1).trans rfl; have hcz29_2 : w28.cell? ⟨gb801, 2, none⟩ = some (.int .i64 x802002_1) := (blk_cell BK801.out 2).trans rfl; have hcz29_3 : w28.cell? ⟨gb801, 3, none⟩ = some (.int .i64 x802003_1) := (blk_cell BK801.out 3).trans rfl; have hcz29_4 : w28.cell? ⟨gb801, 4, none⟩ = some (.int .i64 x802004_1) := (blk_cell BK801.out 4).trans rfl; have hcz29_5 : w28.cell? ⟨gb801, 5, none⟩ = some (.int .i64 x802005_1) := (blk_cell BK801.out 5).trans rfl; have hfz29_0 := blk_frozen BK801.out 0; have hfz29_1 := blk_frozen BK801.out 1; have hfz29_2 := blk_frozen BK801.out 2; have hfz29_3 := blk_frozen BK801.out 3; have hfz29_4 := blk_frozen BK801.out 4; have hfz29_5 := blk_frozen BK801.out 5))
        go_roundg k1
        case measure => have := HK1.out; omega
        case rel => exact ⟨(wrap64 (x21_1 + 1)), (t808), (t809), (t810), (t811), (t812), (t813), (by first | rfl | (simp; done) | (simp [*]; done)), H', ⟨by have := HK1.out; omega⟩, ⟨by (with_reducible repeat (first | refine blk_drewN ?_ _ | refine blk_drew ?_ | refine blk_alloc ?_ _)); refine blk_far ?_ NB798_801.out _; (with_reducible repeat (first | refine blk_drewN ?_ _ | refine blk_drew ?_ | refine blk_alloc ?_ _)); refine blk_far ?_ NB798_801.out _; (with_reducible repeat (first | refine blk_drewN ?_ _ | refine blk_drew ?_ | refine blk_alloc ?_ _)); refine blk_far ?_ NB798_801.out _; (with_reducible repeat (first | refine blk_drewN ?_ _ | refine blk_drew ?_ | refine blk_alloc ?_ _)); refine blk_far ?_ NB798_801.out _; (with_reducible repeat (first | refine blk_drewN ?_ _ | refine blk_drew ?_ | refine blk_alloc ?_ _)); refine blk_far ?_ NB798_801.out _; (with_reducible repeat (first | refine blk_drewN ?_ _ | refine blk_drew ?_ | refine blk_alloc ?_ _)); refine blk_far ?_ NB798_801.out _; (with_reducible repeat (first | refine blk_drewN ?_ _ | refine blk_drew ?_ | refine blk_alloc ?_ _)); exact BK798.out⟩, ⟨by (with_reducible repeat (first | refine blk_drewN ?_ _ | refine blk_drew ?_ | refine blk_alloc ?_ _)); refine blk_put (cs := #[.int .i64 t808, .int .i64 t809, .int .i64 t810, .int .i64 t811, .int .i64 t812, .int .i64 x802005_1]) ?_ 5 _ rfl; (with_reducible repeat (first | refine blk_drewN ?_ _ | refine blk_drew ?_ | refine blk_alloc ?_ _)); refine blk_put (cs := #[.int .i64 t808, .int .i64 t809, .int .i64 t810, .int .i64 t811, .int .i64 x802004_1, .int .i64 x802005_1]) ?_ 4 _ rfl; (with_reducible repeat (first | refine blk_drewN ?_ _ | refine blk_drew ?_ | refine blk_alloc ?_ _)); refine blk_put (cs := #[.int .i64 t808, .int .i64 t809, .int .i64 t810, .int .i64 x802003_1, .int .i64 x802004_1, .int .i64 x802005_1]) ?_ 3 _ rfl; (with_reducible repeat (first | refine blk_drewN ?_ _ | refine blk_drew ?_ | refine blk_alloc ?_ _)); refine blk_put (cs := #[.int .i64 t808, .int .i64 t809, .int .i64 x802002_1, .int .i64 x802003_1, .int .i64 x802004_1, .int .i64 x802005_1]) ?_ 2 _ rfl; (with_reducible repeat (first | refine blk_drewN ?_ _ | refine blk_drew ?_ | refine blk_alloc ?_ _)); refine blk_put (cs := #[.int .i64 t808, .int .i64 x802001_1, .int .i64 x802002_1, .int .i64 x802003_1, .int .i64 x802004_1, .int .i64 x802005_1]) ?_ 1 _ rfl; (with_reducible repeat (first | refine blk_drewN ?_ _ | refine blk_drew ?_ | refine blk_alloc ?_ _)); refine blk_put (cs := #[.int .i64 x802000_1, .int .i64 x802001_1, .int .i64 x802002_1, .int .i64 x802003_1, .int .i64 x802004_1, .int .i64 x802005_1]) ?_ 0 _ rfl; (with_reducible repeat (first | refine blk_drewN ?_ _ | refine blk_drew ?_ | refine blk_alloc ?_ _)); exact BK801.out⟩, ⟨by repeat (first | (with_reducible first | exact HB.out | apply below_alloc | apply pw_below_drewN | apply below_drew1 | refine below_set ?_ GE798.out | refine below_set ?_ GE801.out | refine below_set ?_ GE807.out) | exact HB.out)⟩⟩
       rw [if_neg c20] at H
       exact absurd H (by simp)
      rw [if_neg c19] at H
      exact absurd H (by simp)
     rw [if_neg c18] at H
     have c18b0 : decide (x21_1 < (y802.length : Int)) = false := decide_eq_false c18
     clear c18
     simp only [Option.some.injEq, Prod.mk.injEq] at H
     obtain ⟨rfl, rfl, rfl, rfl, rfl, rfl, rfl⟩ := H
     have hnb30 := NB801_798.out
     have hnc30 := NB798_801.out
     have hcz31_0 : wr.cell? ⟨gb801, 0, none⟩ = some (.int .i64 x802000_1) := (blk_cell BK801.out 0).trans rfl
     have hcz31_1 : wr.cell? ⟨gb801, 1, none⟩ = some (.int .i64 x802001_1) := (blk_cell BK801.out 1).trans rfl
     have hcz31_2 : wr.cell? ⟨gb801, 2, none⟩ = some (.int .i64 x802002_1) := (blk_cell BK801.out 2).trans rfl
     have hcz31_3 : wr.cell? ⟨gb801, 3, none⟩ = some (.int .i64 x802003_1) := (blk_cell BK801.out 3).trans rfl
     have hcz31_4 : wr.cell? ⟨gb801, 4, none⟩ = some (.int .i64 x802004_1) := (blk_cell BK801.out 4).trans rfl
     have hcz31_5 : wr.cell? ⟨gb801, 5, none⟩ = some (.int .i64 x802005_1) := (blk_cell BK801.out 5).trans rfl
     have hfz31_0 := blk_frozen BK801.out 0
     have hfz31_1 := blk_frozen BK801.out 1
     have hfz31_2 := blk_frozen BK801.out 2
     have hfz31_3 := blk_frozen BK801.out 3
     have hfz31_4 := blk_frozen BK801.out 4
     have hfz31_5 := blk_frozen BK801.out 5
     have hcz32_0 : wr.cell? ⟨gb798, 0, none⟩ = some (.int .i64 0) := (blk_cell BK798.out 0).trans rfl
     have hcz32_1 : wr.cell? ⟨gb798, 1, none⟩ = some (.int .i64 0) := (blk_cell BK798.out 1).trans rfl
     have hcz32_2 : wr.cell? ⟨gb798, 2, none⟩ = some (.int .i64 0) := (blk_cell BK798.out 2).trans rfl
     have hcz32_3 : wr.cell? ⟨gb798, 3, none⟩ = some (.int .i64 0) := (blk_cell BK798.out 3).trans rfl
     have hcz32_4 : wr.cell? ⟨gb798, 4, none⟩ = some (.int .i64 0) := (blk_cell BK798.out 4).trans rfl
     have hcz32_5 : wr.cell? ⟨gb798, 5, none⟩ = some (.int .i64 0) := (blk_cell BK798.out 5).trans rfl
     have hfz32_0 := blk_frozen BK798.out 0
     have hfz32_1 := blk_frozen BK798.out 1
     have hfz32_2 := blk_frozen BK798.out 2
     have hfz32_3 := blk_frozen BK798.out 3
     have hfz32_4 := blk_frozen BK798.out 4
     have hfz32_5 := blk_frozen BK798.out 5
     go_wp2
     refine bodyPost_ret (results_ct rfl _ _ gb798 56 #[.int .i64 x802000_1, .int .i64 x802001_1, .int .i64 x802002_1, .int .i64 x802003_1, .int .i64 x802004_1, .int .i64 x802005_1] (0, 0) _ rfl (by (with_reducible repeat (first | refine blk_drewN ?_ _ | refine blk_drew ?_ | refine blk_alloc ?_ _)); refine blk_put (cs := #[.int .i64 x802000_1, .int .i64 x802001_1, .int .i64 x802002_1, .int .i64 x802003_1, .int .i64 x802004_1, .int .i64 0]) ?_ 5 _ rfl; (with_reducible repeat (first | refine blk_drewN ?_ _ | refine blk_drew ?_ | refine blk_alloc ?_ _)); refine blk_put (cs := #[.int .i64 x802000_1, .int .i64 x802001_1, .int .i64 x802002_1, .int .i64 x802003_1, .int .i64 0, .int .i64 0]) ?_ 4 _ rfl; (with_reducible repeat (first | refine blk_drewN ?_ _ | refine blk_drew ?_ | refine blk_alloc ?_ _)); refine blk_put (cs := #[.int .i64 x802000_1, .int .i64 x802001_1, .int .i64 x802002_1, .int .i64 0, .int .i64 0, .int .i64 0]) ?_ 3 _ rfl; (with_reducible repeat (first | refine blk_drewN ?_ _ | refine blk_drew ?_ | refine blk_alloc ?_ _)); refine blk_put (cs := #[.int .i64 x802000_1, .int .i64 x802001_1, .int .i64 0, .int .i64 0, .int .i64 0, .int .i64 0]) ?_ 2 _ rfl; (with_reducible repeat (first | refine blk_drewN ?_ _ | refine blk_drew ?_ | refine blk_alloc ?_ _)); refine blk_put (cs := #[.int .i64 x802000_1, .int .i64 0, .int .i64 0, .int .i64 0, .int .i64 0, .int .i64 0]) ?_ 1 _ rfl; (with_reducible repeat (first | refine blk_drewN ?_ _ | refine blk_drew ?_ | refine blk_alloc ?_ _)); refine blk_put (cs := #[.int .i64 0, .int .i64 0, .int .i64 0, .int .i64 0, .int .i64 0, .int .i64 0]) ?_ 0 _ rfl; (with_reducible repeat (first | refine blk_drewN ?_ _ | refine blk_drew ?_ | refine blk_alloc ?_ _)); exact BK798.out) Try.underlying56 rfl (by kernel_rfl)) rfl ?_
     exact ⟨by first | rfl | (simp [errW_none, errW_some] <;> rfl) | (simp [*, errW_none, errW_some] <;> rfl), by repeat (first | (with_reducible first | exact HB.out | apply below_alloc | apply pw_below_drewN | apply below_drew1 | refine below_set ?_ GE798.out | refine below_set ?_ GE801.out) | exact HB.out)⟩
  rw [if_neg c6] at H
  exact absurd H (by simp)
 rw [if_neg c5] at H
 exact absurd H (by simp)

end Go.Proofs.Ytihklolcnfbbjaa.G
