-- Written by a program of this session (wip/gen), out of the translation; Lean checks it.
import Derived.Test.YtihklolcnfbbjaaGx0
import Derived.Test.YtihklolcnfbbjaaGx2
import Derived.Test.YtihklolcnfbbjaaGx37
import Derived.Test.YtihklolcnfbbjaaGx51
import Derived.Test.YtihklolcnfbbjaaGx53
import Derived.Test.YtihklolcnfbbjaaGx54
namespace Go.Proofs.Ytihklolcnfbbjaa.G
open Go.RowKit Go.Proofs.YtihklolcnfbbjaaW.PrintWords Go.Proofs.YtihklolcnfbbjaaW.PrintLast Go.Proofs.YtihklolcnfbbjaaW.PrintMore
attribute [local go_sem high] idx35_0 idx35_1 idx35_2 idx35_3 idx41_0 idx41_1 idx41_2 idx84_0 idx84_1 idx84_2 idx88_0 idx88_1 idx88_2 wl0 wl1 wl2 wl3 wl4 wl5 tm0_3 tm1_3 tm2_3 tm3_3 tm4_3 tm5_3
attribute [local go_sem] max2_int min2_int max_two min_two max_three min_three max_four min_four   -- for this text's walks alone
set_option linter.unusedVariables false
set_option linter.unusedSimpArgs false

attribute [local go_sem high] eqA28
/-! ### relievolaw04_SlabFaster: function 13 -/
mutual
def relievolaw04_SlabFaster.j0 : Nat → Int → Bool → Int → Int → Int → Int → Int → Int → Int → Int → Int → Int → Int → Int → Option (Bool)
  | 0, _, _, _, _, _, _, _, _, _, _, _, _, _, _ => none
  | k + 1, x3, x28, x694000, x694001, x694002, x695000, x695001, x695002, x696000, x696001, x696002, x696003, x696004, x696005 => if x28 = true then (some true) else ((slab_Range.f k x694000 x694001 x694002 x695000 x695001 x695002 x696000 x696001 x696002 x696003 x696004 x696005).bind fun bt697 => ((relievoref02_Scale.f x695000 x695001 x695002 x3).bind fun bt705 => ((slab_Range.f k x694000 x694001 x694002 bt705.1 bt705.2.1 bt705.2.2 x696000 x696001 x696002 x696003 x696004 x696005).bind fun bt708 => (if bt697.2.2.2.2.2 = 0 then (relievolaw04_SlabFaster.j1 k x3 bt697.2.2.2.2.1 bt708.2.2.2.2.1 (bt708.2.2.2.2.2 != 0) bt697.1 bt697.2.1 bt697.2.2.1 bt697.2.2.2.1 bt708.1 bt708.2.1 bt708.2.2.1 bt708.2.2.2.1) else (relievolaw04_SlabFaster.j1 k x3 bt697.2.2.2.2.1 bt708.2.2.2.2.1 true bt697.1 bt697.2.1 bt697.2.2.1 bt697.2.2.2.1 bt708.1 bt708.2.1 bt708.2.2.1 bt708.2.2.2.1)))))
def relievolaw04_SlabFaster.j1 : Nat → Int → Bool → Bool → Bool → Int → Int → Int → Int → Int → Int → Int → Int → Option (Bool)
  | 0, _, _, _, _, _, _, _, _, _, _, _, _ => none
  | k + 1, x3, x11, x15, x54, x704000, x704001, x705000, x705001, x715000, x715001, x716000, x716001 => if x54 = true then (some true) else (if (x11 != x15) = true then (relievolaw04_SlabFaster.j2 k x3 x11 x15 true x704000 x704001 x705000 x705001 x715000 x715001 x716000 x716001) else (relievolaw04_SlabFaster.j2 k x3 x11 x15 (!x11) x704000 x704001 x705000 x705001 x715000 x715001 x716000 x716001))
def relievolaw04_SlabFaster.j2 : Nat → Int → Bool → Bool → Bool → Int → Int → Int → Int → Int → Int → Int → Int → Option (Bool)
  | 0, _, _, _, _, _, _, _, _, _, _, _, _ => none
  | k + 1, x3, x11, x15, x61, x704000, x704001, x705000, x705001, x715000, x715001, x716000, x716001 => if x61 = true then (some (x11 == x15)) else ((wide_Order.f k x704000 x704001 (wrap64 (x715000 * x3)) x715001).bind fun bt716 => (if x705001 = 0 then (if bt716.1 = 0 then (some (x705000 == x716000 && (x705001 == x716001))) else (some false)) else (if x716001 = 0 then (if bt716.1 = 0 then (some (x705000 == x716000 && (x705001 == x716001))) else (some false)) else ((wide_Order.f k x705000 x705001 (wrap64 (x716000 * x3)) x716001).bind fun bt718 => (if bt716.1 = 0 then (some (bt718.1 == 0)) else (some false))))))
end
def relievolaw04_SlabFaster.f (k : Nat) (a0_0 : Int) (a0_1 : Int) (a0_2 : Int) (a1_0 : Int) (a1_1 : Int) (a1_2 : Int) (a2_0 : Int) (a2_1 : Int) (a2_2 : Int) (a2_3 : Int) (a2_4 : Int) (a2_5 : Int) (a3 : Int) : Option (Bool) := (relievolaw04_alive.f k).bind fun t696 => (if t696 = true then (if a3 < 1 then (relievolaw04_SlabFaster.j0 k a3 true a0_0 a0_1 a0_2 a1_0 a1_1 a1_2 a2_0 a2_1 a2_2 a2_3 a2_4 a2_5) else (relievolaw04_SlabFaster.j0 k a3 (decide (a3 > 1000)) a0_0 a0_1 a0_2 a1_0 a1_1 a1_2 a2_0 a2_1 a2_2 a2_3 a2_4 a2_5)) else (some false))
def relievolaw04_SlabFaster.T6 : Bool × List (List Nat × List Nat) := (true, [([], []), ([], []), ([], []), ([1, 2], [1, 2]), ([], []), ([0, 3, 4, 3], [0, 3, 4]), ([5], [5]), ([6], [6]), ([6], [6]), ([6], [6]), ([6], [6]), ([], []), ([], []), ([11, 7, 5, 0, 1, 2, 3, 4, 5, 6, 7, 11, 12], [7, 11]), ([12, 8, 13, 0, 1, 2, 3, 4, 5, 6, 7, 8, 11, 12, 13], [8, 12]), ([9, 14, 0, 1, 2, 3, 4, 5, 6, 7, 8, 9, 11, 12, 13, 14], [9]), ([10, 15, 0, 1, 2, 3, 4, 5, 6, 7, 8, 9, 10, 11, 12, 13, 14, 15], [10])])
def relievolaw04_SlabFaster.B6 : List Nat := [0, 0, 0, 6, 0, 31, 63, 127, 127, 127, 127, 0, 0, 6399, 14847, 31743, 65535]
theorem relievolaw04_SlabFaster.tab6 : rtab .any (opsOf Try.f13 6) = relievolaw04_SlabFaster.T6 := by kernel_rfl
theorem relievolaw04_SlabFaster.bits6 : waitsOk relievolaw04_SlabFaster.T6.2 relievolaw04_SlabFaster.B6 = true := by kernel_rfl
set_option maxHeartbeats 8000000 in
set_option maxRecDepth 100000 in
theorem relievolaw04_SlabFaster.calls (k : Nat) (a0_0 : Int) (a0_1 : Int) (a0_2 : Int) (a1_0 : Int) (a1_1 : Int) (a1_2 : Int) (a2_0 : Int) (a2_1 : Int) (a2_2 : Int) (a2_3 : Int) (a2_4 : Int) (a2_5 : Int) (a3 : Int) (r : Bool) (w : World) (h : relievolaw04_SlabFaster.f k a0_0 a0_1 a0_2 a1_0 a1_1 a1_2 a2_0 a2_1 a2_2 a2_3 a2_4 a2_5 a3 = some r) :
    Calls Try.prog 13 #[.agg #[.int .i64 a0_0, .int .i64 a0_1, .int .i64 a0_2], .agg #[.int .i64 a1_0, .int .i64 a1_1, .int .i64 a1_2], .agg #[.int .i64 a2_0, .int .i64 a2_1, .int .i64 a2_2, .int .i64 a2_3, .int .i64 a2_4, .int .i64 a2_5], .int .i64 a3] w fun e w' => e = .returned (.bool r) ∧ Below w.heap.size w w' := by
 have hu23 := Try.underlying23
 have hu56 := Try.underlying56
 have hu28 := Try.underlying28
 have HB := Aside0.mk (Below.refl w.heap.size w)
 have H : ((relievolaw04_alive.f k).bind fun t696 => (if t696 = true then (if a3 < 1 then (relievolaw04_SlabFaster.j0 k a3 true a0_0 a0_1 a0_2 a1_0 a1_1 a1_2 a2_0 a2_1 a2_2 a2_3 a2_4 a2_5) else (relievolaw04_SlabFaster.j0 k a3 (decide (a3 > 1000)) a0_0 a0_1 a0_2 a1_0 a1_1 a1_2 a2_0 a2_1 a2_2 a2_3 a2_4 a2_5)) else (some false))) = some r := h
 clear h
 replace H := Option.bind_eq_some_iff.mp H
 obtain ⟨t696, A50, H⟩ := H
 replace H : (if t696 = true then (if a3 < 1 then (relievolaw04_SlabFaster.j0 k a3 true a0_0 a0_1 a0_2 a1_0 a1_1 a1_2 a2_0 a2_1 a2_2 a2_3 a2_4 a2_5) else (relievolaw04_SlabFaster.j0 k a3 (decide (a3 > 1000)) a0_0 a0_1 a0_2 a1_0 a1_1 a1_2 a2_0 a2_1 a2_2 a2_3 a2_4 a2_5)) else (some false)) = some r := H
 have A5 := Aside0.mk A50
 clear A50
 by_cases c6 : t696 = true
 ·subst c6
  have H1 : (if a3 < 1 then (relievolaw04_SlabFaster.j0 k a3 true a0_0 a0_1 a0_2 a1_0 a1_1 a1_2 a2_0 a2_1 a2_2 a2_3 a2_4 a2_5) else (relievolaw04_SlabFaster.j0 k a3 (decide (a3 > 1000)) a0_0 a0_1 a0_2 a1_0 a1_1 a1_2 a2_0 a2_1 a2_2 a2_3 a2_4 a2_5)) = some r := by rw [if_pos rfl] at H; exact H
  clear H
  have H := H1
  clear H1
  have HC7 := Aside0.mk H
  clear H
  go_enter Try.func13, Try.ntmps13
  go_upto_region 3 with (first | ((with_reducible refine gate_dst (N := 4) rfl ?_); refine box_event ?hg (N := 4) ?hd (cs := #[.int .i64 a0_0, .int .i64 a0_1, .int .i64 a0_2]) (t := 23) ?hr ?_; (case hd => rfl); (case hg => rfl); (case hr => first | (go_simp; done) | (go_simp; rfl)); intro gb693 hg w8 hbox hb; have BK693 := Aside0.mk (hbox); have GE693 := Aside0.mk (bG hg (HB.out)); replace HB := Aside0.mk (below_step (HB.out) hb); clear hb hbox hg) | ((with_reducible refine gate_dst (N := 5) rfl ?_); refine box_event ?hg (N := 5) ?hd (cs := #[.int .i64 a1_0, .int .i64 a1_1, .int .i64 a1_2]) (t := 23) ?hr ?_; (case hd => rfl); (case hg => rfl); (case hr => first | (go_simp; done) | (go_simp; rfl)); intro gb694 hg w9 hbox hb; have BK694 := Aside0.mk (hbox); have GE694 := Aside0.mk (bG hg (HB.out)); have NB693_694 := cN hg BK693; have NB694_693 := cM hg BK693; replace BK693 := cB hb BK693; replace HB := Aside0.mk (below_step (HB.out) hb); clear hb hbox hg) | ((with_reducible refine gate_dst (N := 6) rfl ?_); refine box_event ?hg (N := 6) ?hd (cs := #[.int .i64 a2_0, .int .i64 a2_1, .int .i64 a2_2, .int .i64 a2_3, .int .i64 a2_4, .int .i64 a2_5]) (t := 56) ?hr ?_; (case hd => rfl); (case hg => rfl); (case hr => first | (go_simp; done) | (go_simp; rfl)); intro gb695 hg w10 hbox hb; have BK695 := Aside0.mk (hbox); have GE695 := Aside0.mk (bG hg (HB.out)); have NB693_695 := cN hg BK693; have NB695_693 := cM hg BK693; have NB694_695 := cN hg BK694; have NB695_694 := cM hg BK694; replace BK693 := cB hb BK693; replace BK694 := cB hb BK694; replace HB := Aside0.mk (below_step (HB.out) hb); clear hb hbox hg) | ((with_reducible refine gate_callee (f := 31) rfl ?_); refine goesL_ (some 21) rfl rfl Try.func31 (by kernel_rfl) rfl #[] rfl (by (try simp only [List.map_toArray, List.map_cons, List.map_nil]); first | done | rfl | (simp only [List.length_drop, List.length_take]; rfl)) ?_; (with_reducible refine (relievolaw04_alive.calls k  true _ A5.out).mono ?_); rintro e w11 ⟨rfl, hb⟩; refine ⟨_, rfl, ?_⟩; replace BK693 := cB hb BK693; replace BK694 := cB hb BK694; replace BK695 := cB hb BK695; replace HB := Aside0.mk (below_step (HB.out) hb); (try clear hb); (try clear hb2); (try clear hk); (try clear hi)))
  (try simp only [Act.put, List.setIfInBounds_toArray, List.set_cons_zero, List.set_cons_succ])
  go_cut [28] (fun v28 wc => ∃ (kq : Nat) (x28_6 : Bool), v28 = .bool x28_6 ∧ Aside0 (relievolaw04_SlabFaster.j0 kq a3 x28_6 a0_0 a0_1 a0_2 a1_0 a1_1 a1_2 a2_0 a2_1 a2_2 a2_3 a2_4 a2_5 = some r) ∧ Aside0 (kq ≤ k) ∧ Aside0 (wc.heap[gb693]? = some (.cells #[.int .i64 a0_0, .int .i64 a0_1, .int .i64 a0_2] 23 (0, 0))) ∧ Aside0 (wc.heap[gb694]? = some (.cells #[.int .i64 a1_0, .int .i64 a1_1, .int .i64 a1_2] 23 (0, 0))) ∧ Aside0 (wc.heap[gb695]? = some (.cells #[.int .i64 a2_0, .int .i64 a2_1, .int .i64 a2_2, .int .i64 a2_3, .int .i64 a2_4, .int .i64 a2_5] 56 (0, 0))) ∧ Aside0 (Below w.heap.size w wc))
  case first =>
   have H := HC7.out
   clear HC7
   by_cases c12 : a3 < 1
   ·rw [if_pos c12] at H
    have c12b0 : decide (a3 < 1) = true := decide_eq_true c12
    clear c12
    (first | rw [c12b0] | (simp only [i64_w, i32_w]; rw [c12b0]) | skip)
    have H' := Aside0.mk H
    clear H
    go_wp2
    go_meet
    case rel => exact ⟨_, (true), (by first | rfl | (simp; done) | (simp [*]; done)), H', ⟨by first | omega | exact Nat.le_refl _⟩, ⟨BK693.out⟩, ⟨BK694.out⟩, ⟨BK695.out⟩, ⟨HB.out⟩⟩
   rw [if_neg c12] at H
   have c12b0 : decide (a3 < 1) = false := decide_eq_false c12
   clear c12
   (first | rw [c12b0] | (simp only [i64_w, i32_w]; rw [c12b0]) | skip)
   have H' := Aside0.mk H
   clear H
   go_wp2
   go_meet
   case rel => exact ⟨_, (decide (a3 > 1000)), (by first | rfl | (simp; done) | (simp [*]; done)), H', ⟨by first | omega | exact Nat.le_refl _⟩, ⟨BK693.out⟩, ⟨BK694.out⟩, ⟨BK695.out⟩, ⟨HB.out⟩⟩
  clear HC7
  try clear c6
  obtain ⟨kq, x28_6, rfl, HA, HJ6, BK693, BK694, BK695, HB⟩ := hcut
  cases kq with
  | zero => exact absurd HA.out (by simp [relievolaw04_SlabFaster.j0])
  | succ kj6 =>
   have H := HA.out
   clear HA
   simp only [relievolaw04_SlabFaster.j0] at H
   by_cases c13 : x28_6 = true
   ·subst c13
    have H1 : (some true) = some r := by rw [if_pos rfl] at H; exact H
    clear H
    have H := H1
    clear H1
    obtain rfl := Option.some.inj H
    go_wp2
    go_ret
    exact ⟨by first | rfl | (simp [errW_none, errW_some] <;> rfl) | (simp [*, errW_none, errW_some] <;> rfl), HB.out⟩
   replace c13 := Bool.eq_false_iff.mpr c13
   subst c13
   have H1 : ((slab_Range.f kj6 a0_0 a0_1 a0_2 a1_0 a1_1 a1_2 a2_0 a2_1 a2_2 a2_3 a2_4 a2_5).bind fun bt697 => ((relievoref02_Scale.f a1_0 a1_1 a1_2 a3).bind fun bt705 => ((slab_Range.f kj6 a0_0 a0_1 a0_2 bt705.1 bt705.2.1 bt705.2.2 a2_0 a2_1 a2_2 a2_3 a2_4 a2_5).bind fun bt708 => (if bt697.2.2.2.2.2 = 0 then (relievolaw04_SlabFaster.j1 kj6 a3 bt697.2.2.2.2.1 bt708.2.2.2.2.1 (bt708.2.2.2.2.2 != 0) bt697.1 bt697.2.1 bt697.2.2.1 bt697.2.2.2.1 bt708.1 bt708.2.1 bt708.2.2.1 bt708.2.2.2.1) else (relievolaw04_SlabFaster.j1 kj6 a3 bt697.2.2.2.2.1 bt708.2.2.2.2.1 true bt697.1 bt697.2.1 bt697.2.2.1 bt697.2.2.2.1 bt708.1 bt708.2.1 bt708.2.2.1 bt708.2.2.2.1))))) = some r := by rw [if_neg (show ¬ (false = true) by decide)] at H; exact H
   clear H
   have H := H1
   clear H1
   replace H := Option.bind_eq_some_iff.mp H
   obtain ⟨⟨t697, t698, t699, t700, t701, t702⟩, A140, H⟩ := H
   replace H : ((relievoref02_Scale.f a1_0 a1_1 a1_2 a3).bind fun bt705 => ((slab_Range.f kj6 a0_0 a0_1 a0_2 bt705.1 bt705.2.1 bt705.2.2 a2_0 a2_1 a2_2 a2_3 a2_4 a2_5).bind fun bt708 => (if t702 = 0 then (relievolaw04_SlabFaster.j1 kj6 a3 t701 bt708.2.2.2.2.1 (bt708.2.2.2.2.2 != 0) t697 t698 t699 t700 bt708.1 bt708.2.1 bt708.2.2.1 bt708.2.2.2.1) else (relievolaw04_SlabFaster.j1 kj6 a3 t701 bt708.2.2.2.2.1 true t697 t698 t699 t700 bt708.1 bt708.2.1 bt708.2.2.1 bt708.2.2.2.1)))) = some r := H
   have A14 := Aside0.mk A140
   clear A140
   replace H := Option.bind_eq_some_iff.mp H
   obtain ⟨⟨t705, t706, t707⟩, A150, H⟩ := H
   replace H : ((slab_Range.f kj6 a0_0 a0_1 a0_2 t705 t706 t707 a2_0 a2_1 a2_2 a2_3 a2_4 a2_5).bind fun bt708 => (if t702 = 0 then (relievolaw04_SlabFaster.j1 kj6 a3 t701 bt708.2.2.2.2.1 (bt708.2.2.2.2.2 != 0) t697 t698 t699 t700 bt708.1 bt708.2.1 bt708.2.2.1 bt708.2.2.2.1) else (relievolaw04_SlabFaster.j1 kj6 a3 t701 bt708.2.2.2.2.1 true t697 t698 t699 t700 bt708.1 bt708.2.1 bt708.2.2.1 bt708.2.2.2.1))) = some r := H
   have A15 := Aside0.mk A150
   clear A150
   replace H := Option.bind_eq_some_iff.mp H
   obtain ⟨⟨t708, t709, t710, t711, t712, t713⟩, A160, H⟩ := H
   replace H : (if t702 = 0 then (relievolaw04_SlabFaster.j1 kj6 a3 t701 t712 (t713 != 0) t697 t698 t699 t700 t708 t709 t710 t711) else (relievolaw04_SlabFaster.j1 kj6 a3 t701 t712 true t697 t698 t699 t700 t708 t709 t710 t711)) = some r := H
   have A16 := Aside0.mk A160
   clear A160
   have HC17 := Aside0.mk H
   clear H
   obtain ⟨hcz18_0, hcz18_1, hcz18_2⟩ := cells3 BK693.out
   obtain ⟨hcz19_0, hcz19_1, hcz19_2⟩ := cells3 BK694.out
   obtain ⟨hcz20_0, hcz20_1, hcz20_2, hcz20_3, hcz20_4, hcz20_5⟩ := cells6 BK695.out
   try go_wp2_with (first | ((with_reducible refine gate_callee (f := 32) rfl ?_); refine goesL_ (some 33) rfl rfl Try.func32 (by kernel_rfl) rfl #[.agg #[.int .i64 a0_0, .int .i64 a0_1, .int .i64 a0_2], .agg #[.int .i64 a1_0, .int .i64 a1_1, .int .i64 a1_2], .agg #[.int .i64 a2_0, .int .i64 a2_1, .int .i64 a2_2, .int .i64 a2_3, .int .i64 a2_4, .int .i64 a2_5]] rfl (by (try simp only [List.map_toArray, List.map_cons, List.map_nil]); first | done | rfl | (simp only [List.length_drop, List.length_take]; rfl)) ?_; (with_reducible refine (slab_Range.calls kj6 a0_0 a0_1 a0_2 a1_0 a1_1 a1_2 a2_0 a2_1 a2_2 a2_3 a2_4 a2_5 t697 t698 t699 t700 t701 t702 _ A14.out).mono ?_); rintro e w21 ⟨rfl, hb⟩; refine ⟨_, rfl, ?_⟩; replace BK693 := cB hb BK693; replace BK694 := cB hb BK694; replace BK695 := cB hb BK695; replace HB := Aside0.mk (below_step (HB.out) hb); (try clear hb); (try clear hb2); (try clear hk); (try clear hi)) | ((with_reducible refine gate_dst (N := 9) rfl ?_); refine box_event ?hg (N := 9) ?hd (cs := #[.int .i64 0, .int .i64 0]) (t := 28) ?hr ?_; (case hd => rfl); (case hg => rfl); (case hr => first | (go_simp; done) | (go_simp; rfl)); intro gb703 hg w22 hbox hb; have BK703 := Aside0.mk (hbox); have GE703 := Aside0.mk (bG hg (HB.out)); have NB693_703 := cN hg BK693; have NB703_693 := cM hg BK693; have NB694_703 := cN hg BK694; have NB703_694 := cM hg BK694; have NB695_703 := cN hg BK695; have NB703_695 := cM hg BK695; replace BK693 := cB hb BK693; replace BK694 := cB hb BK694; replace BK695 := cB hb BK695; replace HB := Aside0.mk (below_step (HB.out) hb); clear hb hbox hg) | ((with_reducible refine gate_dst (N := 10) rfl ?_); refine box_event ?hg (N := 10) ?hd (cs := #[.int .i64 0, .int .i64 0]) (t := 28) ?hr ?_; (case hd => rfl); (case hg => rfl); (case hr => first | (go_simp; done) | (go_simp; rfl)); intro gb704 hg w23 hbox hb; have BK704 := Aside0.mk (hbox); have GE704 := Aside0.mk (bG hg (HB.out)); have NB693_704 := cN hg BK693; have NB704_693 := cM hg BK693; have NB694_704 := cN hg BK694; have NB704_694 := cM hg BK694; have NB695_704 := cN hg BK695; have NB704_695 := cM hg BK695; have NB703_704 := cN hg BK703; have NB704_703 := cM hg BK703; replace BK693 := cB hb BK693; replace BK694 := cB hb BK694; replace BK695 := cB hb BK695; replace BK703 := cB hb BK703; replace HB := Aside0.mk (below_step (HB.out) hb); clear hb hbox hg; have hnb24 := NB703_693.out; have hnc24 := NB693_703.out; have hnb25 := NB703_694.out; have hnc25 := NB694_703.out; have hnb26 := NB703_695.out; have hnc26 := NB695_703.out; have hnb27 := NB703_704.out; have hnc27 := NB704_703.out; obtain ⟨hcz28_0, hcz28_1⟩ := cells2 BK703.out; have hfz28_0 := blk_frozen BK703.out 0; have hfz28_1 := blk_frozen BK703.out 1; have hnb29 := NB704_693.out; have hnc29 := NB693_704.out; have hnb30 := NB704_694.out; have hnc30 := NB694_704.out; have hnb31 := NB704_695.out; have hnc31 := NB695_704.out; obtain ⟨hcz32_0, hcz32_1⟩ := cells2 BK704.out; have hfz32_0 := blk_frozen BK704.out 0; have hfz32_1 := blk_frozen BK704.out 1))
   generalize hw_ : ((((w23.setCell ⟨gb703, 0, none⟩ (.int .i64 t697)).setCell ⟨gb703, 1, none⟩ (.int .i64 t698)).setCell ⟨gb704, 0, none⟩ (.int .i64 t699)).setCell ⟨gb704, 1, none⟩ (.int .i64 t700)) = w33
   replace BK693 := Aside0.mk (bF hw_ (blk_far (blk_far (blk_far (blk_far BK693.out NB693_703.out _) NB693_703.out _) NB693_704.out _) NB693_704.out _))
   replace BK694 := Aside0.mk (bF hw_ (blk_far (blk_far (blk_far (blk_far BK694.out NB694_703.out _) NB694_703.out _) NB694_704.out _) NB694_704.out _))
   replace BK695 := Aside0.mk (bF hw_ (blk_far (blk_far (blk_far (blk_far BK695.out NB695_703.out _) NB695_703.out _) NB695_704.out _) NB695_704.out _))
   replace BK703 := Aside0.mk (bF hw_ (blk_far (blk_far (blk_put (cs' := #[.int .i64 t697, .int .i64 t698]) (blk_put BK703.out 0 _ rfl) 1 _ rfl) NB703_704.out _) NB703_704.out _))
   replace BK704 := Aside0.mk (bF hw_ (blk_put (cs' := #[.int .i64 t699, .int .i64 t700]) (blk_put (blk_far (blk_far BK704.out NB704_703.out _) NB704_703.out _) 0 _ rfl) 1 _ rfl))
   replace HB := Aside0.mk (bH hw_ (below_set (below_set (below_set (below_set HB.out GE703.out) GE703.out) GE704.out) GE704.out))
   clear hw_
   replace BK693 := Aside0.mk (blk_drew BK693.out)
   replace BK694 := Aside0.mk (blk_drew BK694.out)
   replace BK695 := Aside0.mk (blk_drew BK695.out)
   replace BK703 := Aside0.mk (blk_drew BK703.out)
   replace BK704 := Aside0.mk (blk_drew BK704.out)
   replace HB := Aside0.mk (below_drew1 HB.out)
   refine start_ (n := 17) (S := fun w' => w'.cell? ⟨gb693, 0, none⟩ = some (.int .i64 a0_0) ∧ w'.cell? ⟨gb693, 1, none⟩ = some (.int .i64 a0_1) ∧ w'.cell? ⟨gb693, 2, none⟩ = some (.int .i64 a0_2) ∧ w'.cell? ⟨gb694, 0, none⟩ = some (.int .i64 a1_0) ∧ w'.cell? ⟨gb694, 1, none⟩ = some (.int .i64 a1_1) ∧ w'.cell? ⟨gb694, 2, none⟩ = some (.int .i64 a1_2) ∧ w'.cell? ⟨gb695, 0, none⟩ = some (.int .i64 a2_0) ∧ w'.cell? ⟨gb695, 1, none⟩ = some (.int .i64 a2_1) ∧ w'.cell? ⟨gb695, 2, none⟩ = some (.int .i64 a2_2) ∧ w'.cell? ⟨gb695, 3, none⟩ = some (.int .i64 a2_3) ∧ w'.cell? ⟨gb695, 4, none⟩ = some (.int .i64 a2_4) ∧ w'.cell? ⟨gb695, 5, none⟩ = some (.int .i64 a2_5)) (ds := []) #[false, false, false, false, false, false, false, false, false, false, false, false, false, false, false, false, false] (by kernel_rfl) rfl rfl ⟨(blk_cell BK693.out 0).trans rfl, (blk_cell BK693.out 1).trans rfl, (blk_cell BK693.out 2).trans rfl, (blk_cell BK694.out 0).trans rfl, (blk_cell BK694.out 1).trans rfl, (blk_cell BK694.out 2).trans rfl, (blk_cell BK695.out 0).trans rfl, (blk_cell BK695.out 1).trans rfl, (blk_cell BK695.out 2).trans rfl, (blk_cell BK695.out 3).trans rfl, (blk_cell BK695.out 4).trans rfl, (blk_cell BK695.out 5).trans rfl⟩ (fun hHeld => ?_); refine with_tabW relievolaw04_SlabFaster.tab6 relievolaw04_SlabFaster.bits6 (fun HT_ HW_ => ?_)
   generalize w33.drew = w34 at BK693 BK694 BK695 BK703 BK704 HB hHeld ⊢
   refine pure_ (i := 2) (N := some 41) (v := ?_) (a' := ?_) #[false, false, true, false, false, false, false, false, false, false, false, false, false, false, false, false, false] rfl rfl (any_of HT_.out (by kernel_rfl)) (fun _ _ _ h => h) (Or.inl ⟨by rfl, ?_⟩) ?_ ?_
   rotate_left
   ·intro w'
    go_simp
    with_reducible rfl
   rotate_left
   ·simp only [Act.put, List.setIfInBounds_toArray, List.set_cons_zero, List.set_cons_succ, i64_w, i32_w]
    rfl
   refine take_ (i := 0) (N := some 39) (v := ?_) (a' := ?_) #[true, false, true, false, false, false, false, false, false, false, false, false, false, false, false, false, false] rfl rfl (take_ofW HT_.out HW_.out (by kernel_rfl)) (fun _ _ _ h => h) (Or.inl ⟨by rfl, ?_⟩) hHeld ?_ ?_
   rotate_left
   ·rintro w' ⟨s0, s1, s2, s3, s4, s5, s6, s7, s8, s9, s10, s11⟩
    go_simp
    with_reducible rfl
   rotate_left
   ·simp only [Act.put, List.setIfInBounds_toArray, List.set_cons_zero, List.set_cons_succ, i64_w, i32_w]
    rfl
   refine take_ (i := 1) (N := some 40) (v := ?_) (a' := ?_) #[true, true, true, false, false, false, false, false, false, false, false, false, false, false, false, false, false] rfl rfl (take_ofW HT_.out HW_.out (by kernel_rfl)) (fun _ _ _ h => h) (Or.inl ⟨by rfl, ?_⟩) hHeld ?_ ?_
   rotate_left
   ·rintro w' ⟨s0, s1, s2, s3, s4, s5, s6, s7, s8, s9, s10, s11⟩
    go_simp
    with_reducible rfl
   rotate_left
   ·simp only [Act.put, List.setIfInBounds_toArray, List.set_cons_zero, List.set_cons_succ, i64_w, i32_w]
    rfl
   refine take_ (i := 4) (N := some 43) (v := ?_) (a' := ?_) #[true, true, true, false, true, false, false, false, false, false, false, false, false, false, false, false, false] rfl rfl (take_ofW HT_.out HW_.out (by kernel_rfl)) (fun _ _ _ h => h) (Or.inl ⟨by rfl, ?_⟩) hHeld ?_ ?_
   rotate_left
   ·rintro w' ⟨s0, s1, s2, s3, s4, s5, s6, s7, s8, s9, s10, s11⟩
    go_simp
    with_reducible rfl
   rotate_left
   ·simp only [Act.put, List.setIfInBounds_toArray, List.set_cons_zero, List.set_cons_succ, i64_w, i32_w]
    rfl
   refine join_ (σ := Nat × Nat) 4 #[true, true, true, true, true, true, true, true, true, true, true, true, true, false, false, false, false] (fun s_ => [(42, .agg #[.int .i64 t705, .int .i64 t706, .int .i64 t707]), (44, .tuple #[.agg #[.int .i64 t708, .int .i64 t709], .agg #[.int .i64 t710, .int .i64 t711], .bool t712, .int .i64 t713]), (13, .pointer (some ⟨s_.1, 0, none⟩)), (14, .pointer (some ⟨s_.2, 0, none⟩)), (38, .tuple #[.agg #[.int .i64 t708, .int .i64 t709], .agg #[.int .i64 t710, .int .i64 t711], .bool t712, .int .i64 t713]), (45, .agg #[.int .i64 t708, .int .i64 t709]), (46, .agg #[.int .i64 t710, .int .i64 t711]), (47, .bool t712), (48, .int .i64 t713)]) (fun s_ w' => (w'.cell? ⟨gb693, 0, none⟩ = some (.int .i64 a0_0) ∧ w'.cell? ⟨gb693, 1, none⟩ = some (.int .i64 a0_1) ∧ w'.cell? ⟨gb693, 2, none⟩ = some (.int .i64 a0_2) ∧ w'.cell? ⟨gb694, 0, none⟩ = some (.int .i64 a1_0) ∧ w'.cell? ⟨gb694, 1, none⟩ = some (.int .i64 a1_1) ∧ w'.cell? ⟨gb694, 2, none⟩ = some (.int .i64 a1_2) ∧ w'.cell? ⟨gb695, 0, none⟩ = some (.int .i64 a2_0) ∧ w'.cell? ⟨gb695, 1, none⟩ = some (.int .i64 a2_1) ∧ w'.cell? ⟨gb695, 2, none⟩ = some (.int .i64 a2_2) ∧ w'.cell? ⟨gb695, 3, none⟩ = some (.int .i64 a2_3) ∧ w'.cell? ⟨gb695, 4, none⟩ = some (.int .i64 a2_4) ∧ w'.cell? ⟨gb695, 5, none⟩ = some (.int .i64 a2_5)) ∧ (w'.heap[gb693]? = some (.cells #[.int .i64 a0_0, .int .i64 a0_1, .int .i64 a0_2] 23 (0, 0))) ∧ (w'.heap[gb694]? = some (.cells #[.int .i64 a1_0, .int .i64 a1_1, .int .i64 a1_2] 23 (0, 0))) ∧ (w'.heap[gb695]? = some (.cells #[.int .i64 a2_0, .int .i64 a2_1, .int .i64 a2_2, .int .i64 a2_3, .int .i64 a2_4, .int .i64 a2_5] 56 (0, 0))) ∧ (w'.heap[gb703]? = some (.cells #[.int .i64 t697, .int .i64 t698] 28 (0, 0))) ∧ (w'.heap[gb704]? = some (.cells #[.int .i64 t699, .int .i64 t700] 28 (0, 0))) ∧ (w'.heap[s_.1]? = some (.cells #[.int .i64 0, .int .i64 0] 28 (0, 0))) ∧ (w'.heap[s_.2]? = some (.cells #[.int .i64 0, .int .i64 0] 28 (0, 0))) ∧ (w.heap.size ≤ s_.1) ∧ (gb693 ≠ s_.1) ∧ (s_.1 ≠ gb693) ∧ (gb694 ≠ s_.1) ∧ (s_.1 ≠ gb694) ∧ (gb695 ≠ s_.1) ∧ (s_.1 ≠ gb695) ∧ (gb703 ≠ s_.1) ∧ (s_.1 ≠ gb703) ∧ (gb704 ≠ s_.1) ∧ (s_.1 ≠ gb704) ∧ (s_.2 ≠ s_.1) ∧ (s_.1 ≠ s_.2) ∧ (w.heap.size ≤ s_.2) ∧ (gb693 ≠ s_.2) ∧ (s_.2 ≠ gb693) ∧ (gb694 ≠ s_.2) ∧ (s_.2 ≠ gb694) ∧ (gb695 ≠ s_.2) ∧ (s_.2 ≠ gb695) ∧ (gb703 ≠ s_.2) ∧ (s_.2 ≠ gb703) ∧ (gb704 ≠ s_.2) ∧ (s_.2 ≠ gb704) ∧ (Below w.heap.size w w')) ?_ ?_
   rotate_left
   ·intro hJ3_5_11_12
    refine join_ (σ := Nat) 5 #[true, true, true, true, true, true, true, true, true, true, true, true, false, false, false, false, false] (fun s_ => [(42, .agg #[.int .i64 t705, .int .i64 t706, .int .i64 t707]), (44, .tuple #[.agg #[.int .i64 t708, .int .i64 t709], .agg #[.int .i64 t710, .int .i64 t711], .bool t712, .int .i64 t713]), (13, .pointer (some ⟨s_, 0, none⟩)), (38, .tuple #[.agg #[.int .i64 t708, .int .i64 t709], .agg #[.int .i64 t710, .int .i64 t711], .bool t712, .int .i64 t713]), (45, .agg #[.int .i64 t708, .int .i64 t709]), (46, .agg #[.int .i64 t710, .int .i64 t711]), (47, .bool t712), (48, .int .i64 t713)]) (fun s_ w' => (w'.cell? ⟨gb693, 0, none⟩ = some (.int .i64 a0_0) ∧ w'.cell? ⟨gb693, 1, none⟩ = some (.int .i64 a0_1) ∧ w'.cell? ⟨gb693, 2, none⟩ = some (.int .i64 a0_2) ∧ w'.cell? ⟨gb694, 0, none⟩ = some (.int .i64 a1_0) ∧ w'.cell? ⟨gb694, 1, none⟩ = some (.int .i64 a1_1) ∧ w'.cell? ⟨gb694, 2, none⟩ = some (.int .i64 a1_2) ∧ w'.cell? ⟨gb695, 0, none⟩ = some (.int .i64 a2_0) ∧ w'.cell? ⟨gb695, 1, none⟩ = some (.int .i64 a2_1) ∧ w'.cell? ⟨gb695, 2, none⟩ = some (.int .i64 a2_2) ∧ w'.cell? ⟨gb695, 3, none⟩ = some (.int .i64 a2_3) ∧ w'.cell? ⟨gb695, 4, none⟩ = some (.int .i64 a2_4) ∧ w'.cell? ⟨gb695, 5, none⟩ = some (.int .i64 a2_5)) ∧ (w'.heap[gb693]? = some (.cells #[.int .i64 a0_0, .int .i64 a0_1, .int .i64 a0_2] 23 (0, 0))) ∧ (w'.heap[gb694]? = some (.cells #[.int .i64 a1_0, .int .i64 a1_1, .int .i64 a1_2] 23 (0, 0))) ∧ (w'.heap[gb695]? = some (.cells #[.int .i64 a2_0, .int .i64 a2_1, .int .i64 a2_2, .int .i64 a2_3, .int .i64 a2_4, .int .i64 a2_5] 56 (0, 0))) ∧ (w'.heap[gb703]? = some (.cells #[.int .i64 t697, .int .i64 t698] 28 (0, 0))) ∧ (w'.heap[gb704]? = some (.cells #[.int .i64 t699, .int .i64 t700] 28 (0, 0))) ∧ (w'.heap[s_]? = some (.cells #[.int .i64 0, .int .i64 0] 28 (0, 0))) ∧ (w.heap.size ≤ s_) ∧ (gb693 ≠ s_) ∧ (s_ ≠ gb693) ∧ (gb694 ≠ s_) ∧ (s_ ≠ gb694) ∧ (gb695 ≠ s_) ∧ (s_ ≠ gb695) ∧ (gb703 ≠ s_) ∧ (s_ ≠ gb703) ∧ (gb704 ≠ s_) ∧ (s_ ≠ gb704) ∧ (Below w.heap.size w w')) ?_ ?_
    rotate_left
    ·intro hJ3_5_11
     refine join_ (σ := Nat) 5 #[true, true, true, true, true, true, true, true, true, true, true, false, true, false, false, false, false] (fun s_ => [(42, .agg #[.int .i64 t705, .int .i64 t706, .int .i64 t707]), (44, .tuple #[.agg #[.int .i64 t708, .int .i64 t709], .agg #[.int .i64 t710, .int .i64 t711], .bool t712, .int .i64 t713]), (14, .pointer (some ⟨s_, 0, none⟩)), (38, .tuple #[.agg #[.int .i64 t708, .int .i64 t709], .agg #[.int .i64 t710, .int .i64 t711], .bool t712, .int .i64 t713]), (45, .agg #[.int .i64 t708, .int .i64 t709]), (46, .agg #[.int .i64 t710, .int .i64 t711]), (47, .bool t712), (48, .int .i64 t713)]) (fun s_ w' => (w'.cell? ⟨gb693, 0, none⟩ = some (.int .i64 a0_0) ∧ w'.cell? ⟨gb693, 1, none⟩ = some (.int .i64 a0_1) ∧ w'.cell? ⟨gb693, 2, none⟩ = some (.int .i64 a0_2) ∧ w'.cell? ⟨gb694, 0, none⟩ = some (.int .i64 a1_0) ∧ w'.cell? ⟨gb694, 1, none⟩ = some (.int .i64 a1_1) ∧ w'.cell? ⟨gb694, 2, none⟩ = some (.int .i64 a1_2) ∧ w'.cell? ⟨gb695, 0, none⟩ = some (.int .i64 a2_0) ∧ w'.cell? ⟨gb695, 1, none⟩ = some (.int .i64 a2_1) ∧ w'.cell? ⟨gb695, 2, none⟩ = some (.int .i64 a2_2) ∧ w'.cell? ⟨gb695, 3, none⟩ = some (.int .i64 a2_3) ∧ w'.cell? ⟨gb695, 4, none⟩ = some (.int .i64 a2_4) ∧ w'.cell? ⟨gb695, 5, none⟩ = some (.int .i64 a2_5)) ∧ (w'.heap[gb693]? = some (.cells #[.int .i64 a0_0, .int .i64 a0_1, .int .i64 a0_2] 23 (0, 0))) ∧ (w'.heap[gb694]? = some (.cells #[.int .i64 a1_0, .int .i64 a1_1, .int .i64 a1_2] 23 (0, 0))) ∧ (w'.heap[gb695]? = some (.cells #[.int .i64 a2_0, .int .i64 a2_1, .int .i64 a2_2, .int .i64 a2_3, .int .i64 a2_4, .int .i64 a2_5] 56 (0, 0))) ∧ (w'.heap[gb703]? = some (.cells #[.int .i64 t697, .int .i64 t698] 28 (0, 0))) ∧ (w'.heap[gb704]? = some (.cells #[.int .i64 t699, .int .i64 t700] 28 (0, 0))) ∧ (w'.heap[s_]? = some (.cells #[.int .i64 0, .int .i64 0] 28 (0, 0))) ∧ (w.heap.size ≤ s_) ∧ (gb693 ≠ s_) ∧ (s_ ≠ gb693) ∧ (gb694 ≠ s_) ∧ (s_ ≠ gb694) ∧ (gb695 ≠ s_) ∧ (s_ ≠ gb695) ∧ (gb703 ≠ s_) ∧ (s_ ≠ gb703) ∧ (gb704 ≠ s_) ∧ (s_ ≠ gb704) ∧ (Below w.heap.size w w')) ?_ ?_
     rotate_left
     ·intro hJ3_5_12
      refine join_ (σ := Nat × Nat) 10 #[true, true, true, true, true, false, false, false, false, false, false, true, true, false, false, false, false] (fun s_ => [(42, .agg #[.int .i64 t705, .int .i64 t706, .int .i64 t707]), (13, .pointer (some ⟨s_.1, 0, none⟩)), (14, .pointer (some ⟨s_.2, 0, none⟩))]) (fun s_ w' => (w'.cell? ⟨gb693, 0, none⟩ = some (.int .i64 a0_0) ∧ w'.cell? ⟨gb693, 1, none⟩ = some (.int .i64 a0_1) ∧ w'.cell? ⟨gb693, 2, none⟩ = some (.int .i64 a0_2) ∧ w'.cell? ⟨gb694, 0, none⟩ = some (.int .i64 a1_0) ∧ w'.cell? ⟨gb694, 1, none⟩ = some (.int .i64 a1_1) ∧ w'.cell? ⟨gb694, 2, none⟩ = some (.int .i64 a1_2) ∧ w'.cell? ⟨gb695, 0, none⟩ = some (.int .i64 a2_0) ∧ w'.cell? ⟨gb695, 1, none⟩ = some (.int .i64 a2_1) ∧ w'.cell? ⟨gb695, 2, none⟩ = some (.int .i64 a2_2) ∧ w'.cell? ⟨gb695, 3, none⟩ = some (.int .i64 a2_3) ∧ w'.cell? ⟨gb695, 4, none⟩ = some (.int .i64 a2_4) ∧ w'.cell? ⟨gb695, 5, none⟩ = some (.int .i64 a2_5)) ∧ (w'.heap[gb693]? = some (.cells #[.int .i64 a0_0, .int .i64 a0_1, .int .i64 a0_2] 23 (0, 0))) ∧ (w'.heap[gb694]? = some (.cells #[.int .i64 a1_0, .int .i64 a1_1, .int .i64 a1_2] 23 (0, 0))) ∧ (w'.heap[gb695]? = some (.cells #[.int .i64 a2_0, .int .i64 a2_1, .int .i64 a2_2, .int .i64 a2_3, .int .i64 a2_4, .int .i64 a2_5] 56 (0, 0))) ∧ (w'.heap[gb703]? = some (.cells #[.int .i64 t697, .int .i64 t698] 28 (0, 0))) ∧ (w'.heap[gb704]? = some (.cells #[.int .i64 t699, .int .i64 t700] 28 (0, 0))) ∧ (w'.heap[s_.1]? = some (.cells #[.int .i64 0, .int .i64 0] 28 (0, 0))) ∧ (w'.heap[s_.2]? = some (.cells #[.int .i64 0, .int .i64 0] 28 (0, 0))) ∧ (w.heap.size ≤ s_.1) ∧ (gb693 ≠ s_.1) ∧ (s_.1 ≠ gb693) ∧ (gb694 ≠ s_.1) ∧ (s_.1 ≠ gb694) ∧ (gb695 ≠ s_.1) ∧ (s_.1 ≠ gb695) ∧ (gb703 ≠ s_.1) ∧ (s_.1 ≠ gb703) ∧ (gb704 ≠ s_.1) ∧ (s_.1 ≠ gb704) ∧ (s_.2 ≠ s_.1) ∧ (s_.1 ≠ s_.2) ∧ (w.heap.size ≤ s_.2) ∧ (gb693 ≠ s_.2) ∧ (s_.2 ≠ gb693) ∧ (gb694 ≠ s_.2) ∧ (s_.2 ≠ gb694) ∧ (gb695 ≠ s_.2) ∧ (s_.2 ≠ gb695) ∧ (gb703 ≠ s_.2) ∧ (s_.2 ≠ gb703) ∧ (gb704 ≠ s_.2) ∧ (s_.2 ≠ gb704) ∧ (Below w.heap.size w w')) ?_ ?_
      rotate_left
      ·intro hJ3_11_12
       refine join_ (σ := Unit) 6 #[true, true, true, true, true, true, true, true, true, true, true, false, false, false, false, false, false] (fun s_ => [(42, .agg #[.int .i64 t705, .int .i64 t706, .int .i64 t707]), (44, .tuple #[.agg #[.int .i64 t708, .int .i64 t709], .agg #[.int .i64 t710, .int .i64 t711], .bool t712, .int .i64 t713]), (38, .tuple #[.agg #[.int .i64 t708, .int .i64 t709], .agg #[.int .i64 t710, .int .i64 t711], .bool t712, .int .i64 t713]), (45, .agg #[.int .i64 t708, .int .i64 t709]), (46, .agg #[.int .i64 t710, .int .i64 t711]), (47, .bool t712), (48, .int .i64 t713)]) (fun s_ w' => (w'.cell? ⟨gb693, 0, none⟩ = some (.int .i64 a0_0) ∧ w'.cell? ⟨gb693, 1, none⟩ = some (.int .i64 a0_1) ∧ w'.cell? ⟨gb693, 2, none⟩ = some (.int .i64 a0_2) ∧ w'.cell? ⟨gb694, 0, none⟩ = some (.int .i64 a1_0) ∧ w'.cell? ⟨gb694, 1, none⟩ = some (.int .i64 a1_1) ∧ w'.cell? ⟨gb694, 2, none⟩ = some (.int .i64 a1_2) ∧ w'.cell? ⟨gb695, 0, none⟩ = some (.int .i64 a2_0) ∧ w'.cell? ⟨gb695, 1, none⟩ = some (.int .i64 a2_1) ∧ w'.cell? ⟨gb695, 2, none⟩ = some (.int .i64 a2_2) ∧ w'.cell? ⟨gb695, 3, none⟩ = some (.int .i64 a2_3) ∧ w'.cell? ⟨gb695, 4, none⟩ = some (.int .i64 a2_4) ∧ w'.cell? ⟨gb695, 5, none⟩ = some (.int .i64 a2_5)) ∧ (w'.heap[gb693]? = some (.cells #[.int .i64 a0_0, .int .i64 a0_1, .int .i64 a0_2] 23 (0, 0))) ∧ (w'.heap[gb694]? = some (.cells #[.int .i64 a1_0, .int .i64 a1_1, .int .i64 a1_2] 23 (0, 0))) ∧ (w'.heap[gb695]? = some (.cells #[.int .i64 a2_0, .int .i64 a2_1, .int .i64 a2_2, .int .i64 a2_3, .int .i64 a2_4, .int .i64 a2_5] 56 (0, 0))) ∧ (w'.heap[gb703]? = some (.cells #[.int .i64 t697, .int .i64 t698] 28 (0, 0))) ∧ (w'.heap[gb704]? = some (.cells #[.int .i64 t699, .int .i64 t700] 28 (0, 0))) ∧ (Below w.heap.size w w')) ?_ ?_
       rotate_left
       ·intro hJ3_5
        refine join_ (σ := Nat) 11 #[true, true, true, true, true, false, false, false, false, false, false, true, false, false, false, false, false] (fun s_ => [(42, .agg #[.int .i64 t705, .int .i64 t706, .int .i64 t707]), (13, .pointer (some ⟨s_, 0, none⟩))]) (fun s_ w' => (w'.cell? ⟨gb693, 0, none⟩ = some (.int .i64 a0_0) ∧ w'.cell? ⟨gb693, 1, none⟩ = some (.int .i64 a0_1) ∧ w'.cell? ⟨gb693, 2, none⟩ = some (.int .i64 a0_2) ∧ w'.cell? ⟨gb694, 0, none⟩ = some (.int .i64 a1_0) ∧ w'.cell? ⟨gb694, 1, none⟩ = some (.int .i64 a1_1) ∧ w'.cell? ⟨gb694, 2, none⟩ = some (.int .i64 a1_2) ∧ w'.cell? ⟨gb695, 0, none⟩ = some (.int .i64 a2_0) ∧ w'.cell? ⟨gb695, 1, none⟩ = some (.int .i64 a2_1) ∧ w'.cell? ⟨gb695, 2, none⟩ = some (.int .i64 a2_2) ∧ w'.cell? ⟨gb695, 3, none⟩ = some (.int .i64 a2_3) ∧ w'.cell? ⟨gb695, 4, none⟩ = some (.int .i64 a2_4) ∧ w'.cell? ⟨gb695, 5, none⟩ = some (.int .i64 a2_5)) ∧ (w'.heap[gb693]? = some (.cells #[.int .i64 a0_0, .int .i64 a0_1, .int .i64 a0_2] 23 (0, 0))) ∧ (w'.heap[gb694]? = some (.cells #[.int .i64 a1_0, .int .i64 a1_1, .int .i64 a1_2] 23 (0, 0))) ∧ (w'.heap[gb695]? = some (.cells #[.int .i64 a2_0, .int .i64 a2_1, .int .i64 a2_2, .int .i64 a2_3, .int .i64 a2_4, .int .i64 a2_5] 56 (0, 0))) ∧ (w'.heap[gb703]? = some (.cells #[.int .i64 t697, .int .i64 t698] 28 (0, 0))) ∧ (w'.heap[gb704]? = some (.cells #[.int .i64 t699, .int .i64 t700] 28 (0, 0))) ∧ (w'.heap[s_]? = some (.cells #[.int .i64 0, .int .i64 0] 28 (0, 0))) ∧ (w.heap.size ≤ s_) ∧ (gb693 ≠ s_) ∧ (s_ ≠ gb693) ∧ (gb694 ≠ s_) ∧ (s_ ≠ gb694) ∧ (gb695 ≠ s_) ∧ (s_ ≠ gb695) ∧ (gb703 ≠ s_) ∧ (s_ ≠ gb703) ∧ (gb704 ≠ s_) ∧ (s_ ≠ gb704) ∧ (Below w.heap.size w w')) ?_ ?_
        rotate_left
        ·intro hJ3_11
         refine join_ (σ := Nat) 11 #[true, true, true, true, true, false, false, false, false, false, false, false, true, false, false, false, false] (fun s_ => [(42, .agg #[.int .i64 t705, .int .i64 t706, .int .i64 t707]), (14, .pointer (some ⟨s_, 0, none⟩))]) (fun s_ w' => (w'.cell? ⟨gb693, 0, none⟩ = some (.int .i64 a0_0) ∧ w'.cell? ⟨gb693, 1, none⟩ = some (.int .i64 a0_1) ∧ w'.cell? ⟨gb693, 2, none⟩ = some (.int .i64 a0_2) ∧ w'.cell? ⟨gb694, 0, none⟩ = some (.int .i64 a1_0) ∧ w'.cell? ⟨gb694, 1, none⟩ = some (.int .i64 a1_1) ∧ w'.cell? ⟨gb694, 2, none⟩ = some (.int .i64 a1_2) ∧ w'.cell? ⟨gb695, 0, none⟩ = some (.int .i64 a2_0) ∧ w'.cell? ⟨gb695, 1, none⟩ = some (.int .i64 a2_1) ∧ w'.cell? ⟨gb695, 2, none⟩ = some (.int .i64 a2_2) ∧ w'.cell? ⟨gb695, 3, none⟩ = some (.int .i64 a2_3) ∧ w'.cell? ⟨gb695, 4, none⟩ = some (.int .i64 a2_4) ∧ w'.cell? ⟨gb695, 5, none⟩ = some (.int .i64 a2_5)) ∧ (w'.heap[gb693]? = some (.cells #[.int .i64 a0_0, .int .i64 a0_1, .int .i64 a0_2] 23 (0, 0))) ∧ (w'.heap[gb694]? = some (.cells #[.int .i64 a1_0, .int .i64 a1_1, .int .i64 a1_2] 23 (0, 0))) ∧ (w'.heap[gb695]? = some (.cells #[.int .i64 a2_0, .int .i64 a2_1, .int .i64 a2_2, .int .i64 a2_3, .int .i64 a2_4, .int .i64 a2_5] 56 (0, 0))) ∧ (w'.heap[gb703]? = some (.cells #[.int .i64 t697, .int .i64 t698] 28 (0, 0))) ∧ (w'.heap[gb704]? = some (.cells #[.int .i64 t699, .int .i64 t700] 28 (0, 0))) ∧ (w'.heap[s_]? = some (.cells #[.int .i64 0, .int .i64 0] 28 (0, 0))) ∧ (w.heap.size ≤ s_) ∧ (gb693 ≠ s_) ∧ (s_ ≠ gb693) ∧ (gb694 ≠ s_) ∧ (s_ ≠ gb694) ∧ (gb695 ≠ s_) ∧ (s_ ≠ gb695) ∧ (gb703 ≠ s_) ∧ (s_ ≠ gb703) ∧ (gb704 ≠ s_) ∧ (s_ ≠ gb704) ∧ (Below w.heap.size w w')) ?_ ?_
         rotate_left
         ·intro hJ3_12
          refine join_ (σ := Nat × Nat) 11 #[true, true, true, false, true, false, false, false, false, false, false, true, true, false, false, false, false] (fun s_ => [(13, .pointer (some ⟨s_.1, 0, none⟩)), (14, .pointer (some ⟨s_.2, 0, none⟩))]) (fun s_ w' => (w'.cell? ⟨gb693, 0, none⟩ = some (.int .i64 a0_0) ∧ w'.cell? ⟨gb693, 1, none⟩ = some (.int .i64 a0_1) ∧ w'.cell? ⟨gb693, 2, none⟩ = some (.int .i64 a0_2) ∧ w'.cell? ⟨gb694, 0, none⟩ = some (.int .i64 a1_0) ∧ w'.cell? ⟨gb694, 1, none⟩ = some (.int .i64 a1_1) ∧ w'.cell? ⟨gb694, 2, none⟩ = some (.int .i64 a1_2) ∧ w'.cell? ⟨gb695, 0, none⟩ = some (.int .i64 a2_0) ∧ w'.cell? ⟨gb695, 1, none⟩ = some (.int .i64 a2_1) ∧ w'.cell? ⟨gb695, 2, none⟩ = some (.int .i64 a2_2) ∧ w'.cell? ⟨gb695, 3, none⟩ = some (.int .i64 a2_3) ∧ w'.cell? ⟨gb695, 4, none⟩ = some (.int .i64 a2_4) ∧ w'.cell? ⟨gb695, 5, none⟩ = some (.int .i64 a2_5)) ∧ (w'.heap[gb693]? = some (.cells #[.int .i64 a0_0, .int .i64 a0_1, .int .i64 a0_2] 23 (0, 0))) ∧ (w'.heap[gb694]? = some (.cells #[.int .i64 a1_0, .int .i64 a1_1, .int .i64 a1_2] 23 (0, 0))) ∧ (w'.heap[gb695]? = some (.cells #[.int .i64 a2_0, .int .i64 a2_1, .int .i64 a2_2, .int .i64 a2_3, .int .i64 a2_4, .int .i64 a2_5] 56 (0, 0))) ∧ (w'.heap[gb703]? = some (.cells #[.int .i64 t697, .int .i64 t698] 28 (0, 0))) ∧ (w'.heap[gb704]? = some (.cells #[.int .i64 t699, .int .i64 t700] 28 (0, 0))) ∧ (w'.heap[s_.1]? = some (.cells #[.int .i64 0, .int .i64 0] 28 (0, 0))) ∧ (w'.heap[s_.2]? = some (.cells #[.int .i64 0, .int .i64 0] 28 (0, 0))) ∧ (w.heap.size ≤ s_.1) ∧ (gb693 ≠ s_.1) ∧ (s_.1 ≠ gb693) ∧ (gb694 ≠ s_.1) ∧ (s_.1 ≠ gb694) ∧ (gb695 ≠ s_.1) ∧ (s_.1 ≠ gb695) ∧ (gb703 ≠ s_.1) ∧ (s_.1 ≠ gb703) ∧ (gb704 ≠ s_.1) ∧ (s_.1 ≠ gb704) ∧ (s_.2 ≠ s_.1) ∧ (s_.1 ≠ s_.2) ∧ (w.heap.size ≤ s_.2) ∧ (gb693 ≠ s_.2) ∧ (s_.2 ≠ gb693) ∧ (gb694 ≠ s_.2) ∧ (s_.2 ≠ gb694) ∧ (gb695 ≠ s_.2) ∧ (s_.2 ≠ gb695) ∧ (gb703 ≠ s_.2) ∧ (s_.2 ≠ gb703) ∧ (gb704 ≠ s_.2) ∧ (s_.2 ≠ gb704) ∧ (Below w.heap.size w w')) ?_ ?_
          rotate_left
          ·intro hJ11_12
           refine join_ (σ := Unit) 12 #[true, true, true, true, true, false, false, false, false, false, false, false, false, false, false, false, false] (fun s_ => [(42, .agg #[.int .i64 t705, .int .i64 t706, .int .i64 t707])]) (fun s_ w' => (w'.cell? ⟨gb693, 0, none⟩ = some (.int .i64 a0_0) ∧ w'.cell? ⟨gb693, 1, none⟩ = some (.int .i64 a0_1) ∧ w'.cell? ⟨gb693, 2, none⟩ = some (.int .i64 a0_2) ∧ w'.cell? ⟨gb694, 0, none⟩ = some (.int .i64 a1_0) ∧ w'.cell? ⟨gb694, 1, none⟩ = some (.int .i64 a1_1) ∧ w'.cell? ⟨gb694, 2, none⟩ = some (.int .i64 a1_2) ∧ w'.cell? ⟨gb695, 0, none⟩ = some (.int .i64 a2_0) ∧ w'.cell? ⟨gb695, 1, none⟩ = some (.int .i64 a2_1) ∧ w'.cell? ⟨gb695, 2, none⟩ = some (.int .i64 a2_2) ∧ w'.cell? ⟨gb695, 3, none⟩ = some (.int .i64 a2_3) ∧ w'.cell? ⟨gb695, 4, none⟩ = some (.int .i64 a2_4) ∧ w'.cell? ⟨gb695, 5, none⟩ = some (.int .i64 a2_5)) ∧ (w'.heap[gb693]? = some (.cells #[.int .i64 a0_0, .int .i64 a0_1, .int .i64 a0_2] 23 (0, 0))) ∧ (w'.heap[gb694]? = some (.cells #[.int .i64 a1_0, .int .i64 a1_1, .int .i64 a1_2] 23 (0, 0))) ∧ (w'.heap[gb695]? = some (.cells #[.int .i64 a2_0, .int .i64 a2_1, .int .i64 a2_2, .int .i64 a2_3, .int .i64 a2_4, .int .i64 a2_5] 56 (0, 0))) ∧ (w'.heap[gb703]? = some (.cells #[.int .i64 t697, .int .i64 t698] 28 (0, 0))) ∧ (w'.heap[gb704]? = some (.cells #[.int .i64 t699, .int .i64 t700] 28 (0, 0))) ∧ (Below w.heap.size w w')) ?_ ?_
           rotate_left
           ·intro hJ3
            refine join_ (σ := Nat) 12 #[true, true, true, false, true, false, false, false, false, false, false, true, false, false, false, false, false] (fun s_ => [(13, .pointer (some ⟨s_, 0, none⟩))]) (fun s_ w' => (w'.cell? ⟨gb693, 0, none⟩ = some (.int .i64 a0_0) ∧ w'.cell? ⟨gb693, 1, none⟩ = some (.int .i64 a0_1) ∧ w'.cell? ⟨gb693, 2, none⟩ = some (.int .i64 a0_2) ∧ w'.cell? ⟨gb694, 0, none⟩ = some (.int .i64 a1_0) ∧ w'.cell? ⟨gb694, 1, none⟩ = some (.int .i64 a1_1) ∧ w'.cell? ⟨gb694, 2, none⟩ = some (.int .i64 a1_2) ∧ w'.cell? ⟨gb695, 0, none⟩ = some (.int .i64 a2_0) ∧ w'.cell? ⟨gb695, 1, none⟩ = some (.int .i64 a2_1) ∧ w'.cell? ⟨gb695, 2, none⟩ = some (.int .i64 a2_2) ∧ w'.cell? ⟨gb695, 3, none⟩ = some (.int .i64 a2_3) ∧ w'.cell? ⟨gb695, 4, none⟩ = some (.int .i64 a2_4) ∧ w'.cell? ⟨gb695, 5, none⟩ = some (.int .i64 a2_5)) ∧ (w'.heap[gb693]? = some (.cells #[.int .i64 a0_0, .int .i64 a0_1, .int .i64 a0_2] 23 (0, 0))) ∧ (w'.heap[gb694]? = some (.cells #[.int .i64 a1_0, .int .i64 a1_1, .int .i64 a1_2] 23 (0, 0))) ∧ (w'.heap[gb695]? = some (.cells #[.int .i64 a2_0, .int .i64 a2_1, .int .i64 a2_2, .int .i64 a2_3, .int .i64 a2_4, .int .i64 a2_5] 56 (0, 0))) ∧ (w'.heap[gb703]? = some (.cells #[.int .i64 t697, .int .i64 t698] 28 (0, 0))) ∧ (w'.heap[gb704]? = some (.cells #[.int .i64 t699, .int .i64 t700] 28 (0, 0))) ∧ (w'.heap[s_]? = some (.cells #[.int .i64 0, .int .i64 0] 28 (0, 0))) ∧ (w.heap.size ≤ s_) ∧ (gb693 ≠ s_) ∧ (s_ ≠ gb693) ∧ (gb694 ≠ s_) ∧ (s_ ≠ gb694) ∧ (gb695 ≠ s_) ∧ (s_ ≠ gb695) ∧ (gb703 ≠ s_) ∧ (s_ ≠ gb703) ∧ (gb704 ≠ s_) ∧ (s_ ≠ gb704) ∧ (Below w.heap.size w w')) ?_ ?_
            rotate_left
            ·intro hJ11
             refine join_ (σ := Nat) 12 #[true, true, true, false, true, false, false, false, false, false, false, false, true, false, false, false, false] (fun s_ => [(14, .pointer (some ⟨s_, 0, none⟩))]) (fun s_ w' => (w'.cell? ⟨gb693, 0, none⟩ = some (.int .i64 a0_0) ∧ w'.cell? ⟨gb693, 1, none⟩ = some (.int .i64 a0_1) ∧ w'.cell? ⟨gb693, 2, none⟩ = some (.int .i64 a0_2) ∧ w'.cell? ⟨gb694, 0, none⟩ = some (.int .i64 a1_0) ∧ w'.cell? ⟨gb694, 1, none⟩ = some (.int .i64 a1_1) ∧ w'.cell? ⟨gb694, 2, none⟩ = some (.int .i64 a1_2) ∧ w'.cell? ⟨gb695, 0, none⟩ = some (.int .i64 a2_0) ∧ w'.cell? ⟨gb695, 1, none⟩ = some (.int .i64 a2_1) ∧ w'.cell? ⟨gb695, 2, none⟩ = some (.int .i64 a2_2) ∧ w'.cell? ⟨gb695, 3, none⟩ = some (.int .i64 a2_3) ∧ w'.cell? ⟨gb695, 4, none⟩ = some (.int .i64 a2_4) ∧ w'.cell? ⟨gb695, 5, none⟩ = some (.int .i64 a2_5)) ∧ (w'.heap[gb693]? = some (.cells #[.int .i64 a0_0, .int .i64 a0_1, .int .i64 a0_2] 23 (0, 0))) ∧ (w'.heap[gb694]? = some (.cells #[.int .i64 a1_0, .int .i64 a1_1, .int .i64 a1_2] 23 (0, 0))) ∧ (w'.heap[gb695]? = some (.cells #[.int .i64 a2_0, .int .i64 a2_1, .int .i64 a2_2, .int .i64 a2_3, .int .i64 a2_4, .int .i64 a2_5] 56 (0, 0))) ∧ (w'.heap[gb703]? = some (.cells #[.int .i64 t697, .int .i64 t698] 28 (0, 0))) ∧ (w'.heap[gb704]? = some (.cells #[.int .i64 t699, .int .i64 t700] 28 (0, 0))) ∧ (w'.heap[s_]? = some (.cells #[.int .i64 0, .int .i64 0] 28 (0, 0))) ∧ (w.heap.size ≤ s_) ∧ (gb693 ≠ s_) ∧ (s_ ≠ gb693) ∧ (gb694 ≠ s_) ∧ (s_ ≠ gb694) ∧ (gb695 ≠ s_) ∧ (s_ ≠ gb695) ∧ (gb703 ≠ s_) ∧ (s_ ≠ gb703) ∧ (gb704 ≠ s_) ∧ (s_ ≠ gb704) ∧ (Below w.heap.size w w')) ?_ ?_
             rotate_left
             ·intro hJ12
              refine three_ (i := 3) (j := 11) (k := 12) (Ni := some 42) (Nj := some 13) (Nk := some 14) #[true, true, true, true, true, false, false, false, false, false, false, false, false, false, false, false, false] #[true, true, true, false, true, false, false, false, false, false, false, true, false, false, false, false, false] #[true, true, true, false, true, false, false, false, false, false, false, false, true, false, false, false, false] rfl rfl rfl rfl rfl rfl (three_of HT_.out (by kernel_rfl)) (by decide) (by decide) (by decide) (fun K hK => ?_) (fun K hK => ?_) (fun K hK => ?_)
              ·skip
               refine goes_ Try.func29 (by kernel_rfl) rfl #[.agg #[.int .i64 a1_0, .int .i64 a1_1, .int .i64 a1_2], .int .i64 a3] (by rfl) rfl rfl (by (try simp only [List.map_toArray, List.map_cons, List.map_nil]); first | done | rfl | (simp only [List.length_drop, List.length_take]; rfl)) ?_
               with_reducible refine (relievoref02_Scale.calls a1_0 a1_1 a1_2 a3 t705 t706 t707 _ A15.out).mono ?_
               rintro e w35 ⟨rfl, hb⟩
               refine ⟨_, rfl, ?_⟩
               replace BK693 := cB hb BK693
               replace BK694 := cB hb BK694
               replace BK695 := cB hb BK695
               replace BK703 := cB hb BK703
               replace BK704 := cB hb BK704
               replace HB := Aside0.mk (below_step (HB.out) hb)
               (try clear hb)
               (try clear hb2)
               (try clear hk)
               (try clear hi)
               refine hK.out _ _ ⟨(blk_cell BK693.out 0).trans rfl, (blk_cell BK693.out 1).trans rfl, (blk_cell BK693.out 2).trans rfl, (blk_cell BK694.out 0).trans rfl, (blk_cell BK694.out 1).trans rfl, (blk_cell BK694.out 2).trans rfl, (blk_cell BK695.out 0).trans rfl, (blk_cell BK695.out 1).trans rfl, (blk_cell BK695.out 2).trans rfl, (blk_cell BK695.out 3).trans rfl, (blk_cell BK695.out 4).trans rfl, (blk_cell BK695.out 5).trans rfl⟩ (fun hHeld => ?_)
               clear hK K
               refine norm_ (a' := ?_) ?_ ?_
               rotate_left
               ·show Act.put _ (some 42) _ = _
                simp only [Act.put, List.setIfInBounds_toArray, List.set_cons_zero, List.set_cons_succ, i64_w, i32_w]
                rfl
               exact norm_ (by simp only [putAll, Act.put, List.setIfInBounds_toArray, List.set_cons_zero, List.set_cons_succ] <;> rfl) (hJ3 () _ ⟨hHeld, (BK693.out), (BK694.out), (BK695.out), (BK703.out), (BK704.out), (HB.out)⟩)
              ·skip
               refine box_step ?hg (N := 13) ?hd (cs := #[.int .i64 0, .int .i64 0]) (t := 28) ?hr ?_; (case hd => rfl); (case hg => rfl); (case hr => first | (go_simp; done) | (go_simp; rfl))
               intro gb714 hg w35 hbox hb
               have BK714 := Aside0.mk (hbox)
               have GE714 := Aside0.mk (bG hg (HB.out))
               have NB693_714 := cN hg BK693
               have NB714_693 := cM hg BK693
               have NB694_714 := cN hg BK694
               have NB714_694 := cM hg BK694
               have NB695_714 := cN hg BK695
               have NB714_695 := cM hg BK695
               have NB703_714 := cN hg BK703
               have NB714_703 := cM hg BK703
               have NB704_714 := cN hg BK704
               have NB714_704 := cM hg BK704
               replace BK693 := cB hb BK693
               replace BK694 := cB hb BK694
               replace BK695 := cB hb BK695
               replace BK703 := cB hb BK703
               replace BK704 := cB hb BK704
               replace HB := Aside0.mk (below_step (HB.out) hb)
               clear hb hbox hg
               refine hK.out _ _ ⟨(blk_cell BK693.out 0).trans rfl, (blk_cell BK693.out 1).trans rfl, (blk_cell BK693.out 2).trans rfl, (blk_cell BK694.out 0).trans rfl, (blk_cell BK694.out 1).trans rfl, (blk_cell BK694.out 2).trans rfl, (blk_cell BK695.out 0).trans rfl, (blk_cell BK695.out 1).trans rfl, (blk_cell BK695.out 2).trans rfl, (blk_cell BK695.out 3).trans rfl, (blk_cell BK695.out 4).trans rfl, (blk_cell BK695.out 5).trans rfl⟩ (fun hHeld => ?_)
               clear hK K
               refine norm_ (a' := ?_) ?_ ?_
               rotate_left
               ·show Act.put _ (some 13) _ = _
                simp only [Act.put, List.setIfInBounds_toArray, List.set_cons_zero, List.set_cons_succ, i64_w, i32_w]
                rfl
               exact norm_ (by simp only [putAll, Act.put, List.setIfInBounds_toArray, List.set_cons_zero, List.set_cons_succ] <;> rfl) (hJ11 (gb714) _ ⟨hHeld, (BK693.out), (BK694.out), (BK695.out), (BK703.out), (BK704.out), (BK714.out), GE714.out, NB693_714.out, NB714_693.out, NB694_714.out, NB714_694.out, NB695_714.out, NB714_695.out, NB703_714.out, NB714_703.out, NB704_714.out, NB714_704.out, (HB.out)⟩)
              skip
              refine box_step ?hg (N := 14) ?hd (cs := #[.int .i64 0, .int .i64 0]) (t := 28) ?hr ?_; (case hd => rfl); (case hg => rfl); (case hr => first | (go_simp; done) | (go_simp; rfl))
              intro gb715 hg w35 hbox hb
              have BK715 := Aside0.mk (hbox)
              have GE715 := Aside0.mk (bG hg (HB.out))
              have NB693_715 := cN hg BK693
              have NB715_693 := cM hg BK693
              have NB694_715 := cN hg BK694
              have NB715_694 := cM hg BK694
              have NB695_715 := cN hg BK695
              have NB715_695 := cM hg BK695
              have NB703_715 := cN hg BK703
              have NB715_703 := cM hg BK703
              have NB704_715 := cN hg BK704
              have NB715_704 := cM hg BK704
              replace BK693 := cB hb BK693
              replace BK694 := cB hb BK694
              replace BK695 := cB hb BK695
              replace BK703 := cB hb BK703
              replace BK704 := cB hb BK704
              replace HB := Aside0.mk (below_step (HB.out) hb)
              clear hb hbox hg
              refine hK.out _ _ ⟨(blk_cell BK693.out 0).trans rfl, (blk_cell BK693.out 1).trans rfl, (blk_cell BK693.out 2).trans rfl, (blk_cell BK694.out 0).trans rfl, (blk_cell BK694.out 1).trans rfl, (blk_cell BK694.out 2).trans rfl, (blk_cell BK695.out 0).trans rfl, (blk_cell BK695.out 1).trans rfl, (blk_cell BK695.out 2).trans rfl, (blk_cell BK695.out 3).trans rfl, (blk_cell BK695.out 4).trans rfl, (blk_cell BK695.out 5).trans rfl⟩ (fun hHeld => ?_)
              clear hK K
              refine norm_ (a' := ?_) ?_ ?_
              rotate_left
              ·show Act.put _ (some 14) _ = _
               simp only [Act.put, List.setIfInBounds_toArray, List.set_cons_zero, List.set_cons_succ, i64_w, i32_w]
               rfl
              exact norm_ (by simp only [putAll, Act.put, List.setIfInBounds_toArray, List.set_cons_zero, List.set_cons_succ] <;> rfl) (hJ12 (gb715) _ ⟨hHeld, (BK693.out), (BK694.out), (BK695.out), (BK703.out), (BK704.out), (BK715.out), GE715.out, NB693_715.out, NB715_693.out, NB694_715.out, NB715_694.out, NB695_715.out, NB715_695.out, NB703_715.out, NB715_703.out, NB704_715.out, NB715_704.out, (HB.out)⟩)
             skip
             rintro gb715 w36 ⟨hS_, h0_, h1_, h2_, h3_, h4_, h5_, h6_, h7_, h8_, h9_, h10_, h11_, h12_, h13_, h14_, h15_, h16_, h17_⟩
             have n0_ : Aside0 (w36.heap[gb693]? = some (.cells #[.int .i64 a0_0, .int .i64 a0_1, .int .i64 a0_2] 23 (0, 0))) := ⟨h0_⟩
             have n1_ : Aside0 (w36.heap[gb694]? = some (.cells #[.int .i64 a1_0, .int .i64 a1_1, .int .i64 a1_2] 23 (0, 0))) := ⟨h1_⟩
             have n2_ : Aside0 (w36.heap[gb695]? = some (.cells #[.int .i64 a2_0, .int .i64 a2_1, .int .i64 a2_2, .int .i64 a2_3, .int .i64 a2_4, .int .i64 a2_5] 56 (0, 0))) := ⟨h2_⟩
             have n3_ : Aside0 (w36.heap[gb703]? = some (.cells #[.int .i64 t697, .int .i64 t698] 28 (0, 0))) := ⟨h3_⟩
             have n4_ : Aside0 (w36.heap[gb704]? = some (.cells #[.int .i64 t699, .int .i64 t700] 28 (0, 0))) := ⟨h4_⟩
             have n5_ : Aside0 (w36.heap[gb715]? = some (.cells #[.int .i64 0, .int .i64 0] 28 (0, 0))) := ⟨h5_⟩
             have GE715 : Aside0 (w.heap.size ≤ gb715) := ⟨h6_⟩
             have NB693_715 : Aside0 (gb693 ≠ gb715) := ⟨h7_⟩
             have NB715_693 : Aside0 (gb715 ≠ gb693) := ⟨h8_⟩
             have NB694_715 : Aside0 (gb694 ≠ gb715) := ⟨h9_⟩
             have NB715_694 : Aside0 (gb715 ≠ gb694) := ⟨h10_⟩
             have NB695_715 : Aside0 (gb695 ≠ gb715) := ⟨h11_⟩
             have NB715_695 : Aside0 (gb715 ≠ gb695) := ⟨h12_⟩
             have NB703_715 : Aside0 (gb703 ≠ gb715) := ⟨h13_⟩
             have NB715_703 : Aside0 (gb715 ≠ gb703) := ⟨h14_⟩
             have NB704_715 : Aside0 (gb704 ≠ gb715) := ⟨h15_⟩
             have NB715_704 : Aside0 (gb715 ≠ gb704) := ⟨h16_⟩
             have n17_ : Aside0 (Below w.heap.size w w36) := ⟨h17_⟩
             clear BK693
             clear BK694
             clear BK695
             clear BK703
             clear BK704
             clear HB
             clear h0_ h1_ h2_ h3_ h4_ h5_ h6_ h7_ h8_ h9_ h10_ h11_ h12_ h13_ h14_ h15_ h16_ h17_
             have BK693 := n0_
             have BK694 := n1_
             have BK695 := n2_
             have BK703 := n3_
             have BK704 := n4_
             have BK715 := n5_
             have HB := n17_
             clear n0_ n1_ n2_ n3_ n4_ n5_ n17_
             have hHeld : w36.cell? ⟨gb693, 0, none⟩ = some (.int .i64 a0_0) ∧ w36.cell? ⟨gb693, 1, none⟩ = some (.int .i64 a0_1) ∧ w36.cell? ⟨gb693, 2, none⟩ = some (.int .i64 a0_2) ∧ w36.cell? ⟨gb694, 0, none⟩ = some (.int .i64 a1_0) ∧ w36.cell? ⟨gb694, 1, none⟩ = some (.int .i64 a1_1) ∧ w36.cell? ⟨gb694, 2, none⟩ = some (.int .i64 a1_2) ∧ w36.cell? ⟨gb695, 0, none⟩ = some (.int .i64 a2_0) ∧ w36.cell? ⟨gb695, 1, none⟩ = some (.int .i64 a2_1) ∧ w36.cell? ⟨gb695, 2, none⟩ = some (.int .i64 a2_2) ∧ w36.cell? ⟨gb695, 3, none⟩ = some (.int .i64 a2_3) ∧ w36.cell? ⟨gb695, 4, none⟩ = some (.int .i64 a2_4) ∧ w36.cell? ⟨gb695, 5, none⟩ = some (.int .i64 a2_5) := hS_
             refine norm_ (a' := ?_) ?_ ?_
             rotate_left
             ·simp only [putAll, Act.put, List.setIfInBounds_toArray, List.set_cons_zero, List.set_cons_succ]
              rfl
             refine two_ (i := 3) (j := 11) (Ni := some 42) (Nj := some 13) #[true, true, true, true, true, false, false, false, false, false, false, false, true, false, false, false, false] #[true, true, true, false, true, false, false, false, false, false, false, true, true, false, false, false, false] rfl rfl rfl rfl (two_of HT_.out (by kernel_rfl)) (by decide) (by decide) (fun K hK => ?_) (fun K hK => ?_)
             ·skip
              refine goes_ Try.func29 (by kernel_rfl) rfl #[.agg #[.int .i64 a1_0, .int .i64 a1_1, .int .i64 a1_2], .int .i64 a3] (by rfl) rfl rfl (by (try simp only [List.map_toArray, List.map_cons, List.map_nil]); first | done | rfl | (simp only [List.length_drop, List.length_take]; rfl)) ?_
              with_reducible refine (relievoref02_Scale.calls a1_0 a1_1 a1_2 a3 t705 t706 t707 _ A15.out).mono ?_
              rintro e w37 ⟨rfl, hb⟩
              refine ⟨_, rfl, ?_⟩
              replace BK693 := cB hb BK693
              replace BK694 := cB hb BK694
              replace BK695 := cB hb BK695
              replace BK703 := cB hb BK703
              replace BK704 := cB hb BK704
              replace BK715 := cB hb BK715
              replace HB := Aside0.mk (below_step (HB.out) hb)
              (try clear hb)
              (try clear hb2)
              (try clear hk)
              (try clear hi)
              refine hK.out _ _ ⟨(blk_cell BK693.out 0).trans rfl, (blk_cell BK693.out 1).trans rfl, (blk_cell BK693.out 2).trans rfl, (blk_cell BK694.out 0).trans rfl, (blk_cell BK694.out 1).trans rfl, (blk_cell BK694.out 2).trans rfl, (blk_cell BK695.out 0).trans rfl, (blk_cell BK695.out 1).trans rfl, (blk_cell BK695.out 2).trans rfl, (blk_cell BK695.out 3).trans rfl, (blk_cell BK695.out 4).trans rfl, (blk_cell BK695.out 5).trans rfl⟩ (fun hHeld => ?_)
              clear hK K
              refine norm_ (a' := ?_) ?_ ?_
              rotate_left
              ·show Act.put _ (some 42) _ = _
               simp only [Act.put, List.setIfInBounds_toArray, List.set_cons_zero, List.set_cons_succ, i64_w, i32_w]
               rfl
              exact norm_ (by simp only [putAll, Act.put, List.setIfInBounds_toArray, List.set_cons_zero, List.set_cons_succ] <;> rfl) (hJ3_12 (gb715) _ ⟨hHeld, (BK693.out), (BK694.out), (BK695.out), (BK703.out), (BK704.out), (BK715.out), GE715.out, NB693_715.out, NB715_693.out, NB694_715.out, NB715_694.out, NB695_715.out, NB715_695.out, NB703_715.out, NB715_703.out, NB704_715.out, NB715_704.out, (HB.out)⟩)
             skip
             refine box_step ?hg (N := 13) ?hd (cs := #[.int .i64 0, .int .i64 0]) (t := 28) ?hr ?_; (case hd => rfl); (case hg => rfl); (case hr => first | (go_simp; done) | (go_simp; rfl))
             intro gb714 hg w37 hbox hb
             have BK714 := Aside0.mk (hbox)
             have GE714 := Aside0.mk (bG hg (HB.out))
             have NB693_714 := cN hg BK693
             have NB714_693 := cM hg BK693
             have NB694_714 := cN hg BK694
             have NB714_694 := cM hg BK694
             have NB695_714 := cN hg BK695
             have NB714_695 := cM hg BK695
             have NB703_714 := cN hg BK703
             have NB714_703 := cM hg BK703
             have NB704_714 := cN hg BK704
             have NB714_704 := cM hg BK704
             have NB715_714 := cN hg BK715
             have NB714_715 := cM hg BK715
             replace BK693 := cB hb BK693
             replace BK694 := cB hb BK694
             replace BK695 := cB hb BK695
             replace BK703 := cB hb BK703
             replace BK704 := cB hb BK704
             replace BK715 := cB hb BK715
             replace HB := Aside0.mk (below_step (HB.out) hb)
             clear hb hbox hg
             refine hK.out _ _ ⟨(blk_cell BK693.out 0).trans rfl, (blk_cell BK693.out 1).trans rfl, (blk_cell BK693.out 2).trans rfl, (blk_cell BK694.out 0).trans rfl, (blk_cell BK694.out 1).trans rfl, (blk_cell BK694.out 2).trans rfl, (blk_cell BK695.out 0).trans rfl, (blk_cell BK695.out 1).trans rfl, (blk_cell BK695.out 2).trans rfl, (blk_cell BK695.out 3).trans rfl, (blk_cell BK695.out 4).trans rfl, (blk_cell BK695.out 5).trans rfl⟩ (fun hHeld => ?_)
             clear hK K
             refine norm_ (a' := ?_) ?_ ?_
             rotate_left
             ·show Act.put _ (some 13) _ = _
              simp only [Act.put, List.setIfInBounds_toArray, List.set_cons_zero, List.set_cons_succ, i64_w, i32_w]
              rfl
             exact norm_ (by simp only [putAll, Act.put, List.setIfInBounds_toArray, List.set_cons_zero, List.set_cons_succ] <;> rfl) (hJ11_12 (gb714, gb715) _ ⟨hHeld, (BK693.out), (BK694.out), (BK695.out), (BK703.out), (BK704.out), (BK714.out), (BK715.out), GE714.out, NB693_714.out, NB714_693.out, NB694_714.out, NB714_694.out, NB695_714.out, NB714_695.out, NB703_714.out, NB714_703.out, NB704_714.out, NB714_704.out, NB715_714.out, NB714_715.out, GE715.out, NB693_715.out, NB715_693.out, NB694_715.out, NB715_694.out, NB695_715.out, NB715_695.out, NB703_715.out, NB715_703.out, NB704_715.out, NB715_704.out, (HB.out)⟩)
            skip
            rintro gb714 w36 ⟨hS_, h0_, h1_, h2_, h3_, h4_, h5_, h6_, h7_, h8_, h9_, h10_, h11_, h12_, h13_, h14_, h15_, h16_, h17_⟩
            have n0_ : Aside0 (w36.heap[gb693]? = some (.cells #[.int .i64 a0_0, .int .i64 a0_1, .int .i64 a0_2] 23 (0, 0))) := ⟨h0_⟩
            have n1_ : Aside0 (w36.heap[gb694]? = some (.cells #[.int .i64 a1_0, .int .i64 a1_1, .int .i64 a1_2] 23 (0, 0))) := ⟨h1_⟩
            have n2_ : Aside0 (w36.heap[gb695]? = some (.cells #[.int .i64 a2_0, .int .i64 a2_1, .int .i64 a2_2, .int .i64 a2_3, .int .i64 a2_4, .int .i64 a2_5] 56 (0, 0))) := ⟨h2_⟩
            have n3_ : Aside0 (w36.heap[gb703]? = some (.cells #[.int .i64 t697, .int .i64 t698] 28 (0, 0))) := ⟨h3_⟩
            have n4_ : Aside0 (w36.heap[gb704]? = some (.cells #[.int .i64 t699, .int .i64 t700] 28 (0, 0))) := ⟨h4_⟩
            have n5_ : Aside0 (w36.heap[gb714]? = some (.cells #[.int .i64 0, .int .i64 0] 28 (0, 0))) := ⟨h5_⟩
            have GE714 : Aside0 (w.heap.size ≤ gb714) := ⟨h6_⟩
            have NB693_714 : Aside0 (gb693 ≠ gb714) := ⟨h7_⟩
            have NB714_693 : Aside0 (gb714 ≠ gb693) := ⟨h8_⟩
            have NB694_714 : Aside0 (gb694 ≠ gb714) := ⟨h9_⟩
            have NB714_694 : Aside0 (gb714 ≠ gb694) := ⟨h10_⟩
            have NB695_714 : Aside0 (gb695 ≠ gb714) := ⟨h11_⟩
            have NB714_695 : Aside0 (gb714 ≠ gb695) := ⟨h12_⟩
            have NB703_714 : Aside0 (gb703 ≠ gb714) := ⟨h13_⟩
            have NB714_703 : Aside0 (gb714 ≠ gb703) := ⟨h14_⟩
            have NB704_714 : Aside0 (gb704 ≠ gb714) := ⟨h15_⟩
            have NB714_704 : Aside0 (gb714 ≠ gb704) := ⟨h16_⟩
            have n17_ : Aside0 (Below w.heap.size w w36) := ⟨h17_⟩
            clear BK693
            clear BK694
            clear BK695
            clear BK703
            clear BK704
            clear HB
            clear h0_ h1_ h2_ h3_ h4_ h5_ h6_ h7_ h8_ h9_ h10_ h11_ h12_ h13_ h14_ h15_ h16_ h17_
            have BK693 := n0_
            have BK694 := n1_
            have BK695 := n2_
            have BK703 := n3_
            have BK704 := n4_
            have BK714 := n5_
            have HB := n17_
            clear n0_ n1_ n2_ n3_ n4_ n5_ n17_
            have hHeld : w36.cell? ⟨gb693, 0, none⟩ = some (.int .i64 a0_0) ∧ w36.cell? ⟨gb693, 1, none⟩ = some (.int .i64 a0_1) ∧ w36.cell? ⟨gb693, 2, none⟩ = some (.int .i64 a0_2) ∧ w36.cell? ⟨gb694, 0, none⟩ = some (.int .i64 a1_0) ∧ w36.cell? ⟨gb694, 1, none⟩ = some (.int .i64 a1_1) ∧ w36.cell? ⟨gb694, 2, none⟩ = some (.int .i64 a1_2) ∧ w36.cell? ⟨gb695, 0, none⟩ = some (.int .i64 a2_0) ∧ w36.cell? ⟨gb695, 1, none⟩ = some (.int .i64 a2_1) ∧ w36.cell? ⟨gb695, 2, none⟩ = some (.int .i64 a2_2) ∧ w36.cell? ⟨gb695, 3, none⟩ = some (.int .i64 a2_3) ∧ w36.cell? ⟨gb695, 4, none⟩ = some (.int .i64 a2_4) ∧ w36.cell? ⟨gb695, 5, none⟩ = some (.int .i64 a2_5) := hS_
            refine norm_ (a' := ?_) ?_ ?_
            rotate_left
            ·simp only [putAll, Act.put, List.setIfInBounds_toArray, List.set_cons_zero, List.set_cons_succ]
             rfl
            refine two_ (i := 3) (j := 12) (Ni := some 42) (Nj := some 14) #[true, true, true, true, true, false, false, false, false, false, false, true, false, false, false, false, false] #[true, true, true, false, true, false, false, false, false, false, false, true, true, false, false, false, false] rfl rfl rfl rfl (two_of HT_.out (by kernel_rfl)) (by decide) (by decide) (fun K hK => ?_) (fun K hK => ?_)
            ·skip
             refine goes_ Try.func29 (by kernel_rfl) rfl #[.agg #[.int .i64 a1_0, .int .i64 a1_1, .int .i64 a1_2], .int .i64 a3] (by rfl) rfl rfl (by (try simp only [List.map_toArray, List.map_cons, List.map_nil]); first | done | rfl | (simp only [List.length_drop, List.length_take]; rfl)) ?_
             with_reducible refine (relievoref02_Scale.calls a1_0 a1_1 a1_2 a3 t705 t706 t707 _ A15.out).mono ?_
             rintro e w37 ⟨rfl, hb⟩
             refine ⟨_, rfl, ?_⟩
             replace BK693 := cB hb BK693
             replace BK694 := cB hb BK694
             replace BK695 := cB hb BK695
             replace BK703 := cB hb BK703
             replace BK704 := cB hb BK704
             replace BK714 := cB hb BK714
             replace HB := Aside0.mk (below_step (HB.out) hb)
             (try clear hb)
             (try clear hb2)
             (try clear hk)
             (try clear hi)
             refine hK.out _ _ ⟨(blk_cell BK693.out 0).trans rfl, (blk_cell BK693.out 1).trans rfl, (blk_cell BK693.out 2).trans rfl, (blk_cell BK694.out 0).trans rfl, (blk_cell BK694.out 1).trans rfl, (blk_cell BK694.out 2).trans rfl, (blk_cell BK695.out 0).trans rfl, (blk_cell BK695.out 1).trans rfl, (blk_cell BK695.out 2).trans rfl, (blk_cell BK695.out 3).trans rfl, (blk_cell BK695.out 4).trans rfl, (blk_cell BK695.out 5).trans rfl⟩ (fun hHeld => ?_)
             clear hK K
             refine norm_ (a' := ?_) ?_ ?_
             rotate_left
             ·show Act.put _ (some 42) _ = _
              simp only [Act.put, List.setIfInBounds_toArray, List.set_cons_zero, List.set_cons_succ, i64_w, i32_w]
              rfl
             exact norm_ (by simp only [putAll, Act.put, List.setIfInBounds_toArray, List.set_cons_zero, List.set_cons_succ] <;> rfl) (hJ3_11 (gb714) _ ⟨hHeld, (BK693.out), (BK694.out), (BK695.out), (BK703.out), (BK704.out), (BK714.out), GE714.out, NB693_714.out, NB714_693.out, NB694_714.out, NB714_694.out, NB695_714.out, NB714_695.out, NB703_714.out, NB714_703.out, NB704_714.out, NB714_704.out, (HB.out)⟩)
            skip
            refine box_step ?hg (N := 14) ?hd (cs := #[.int .i64 0, .int .i64 0]) (t := 28) ?hr ?_; (case hd => rfl); (case hg => rfl); (case hr => first | (go_simp; done) | (go_simp; rfl))
            intro gb715 hg w37 hbox hb
            have BK715 := Aside0.mk (hbox)
            have GE715 := Aside0.mk (bG hg (HB.out))
            have NB693_715 := cN hg BK693
            have NB715_693 := cM hg BK693
            have NB694_715 := cN hg BK694
            have NB715_694 := cM hg BK694
            have NB695_715 := cN hg BK695
            have NB715_695 := cM hg BK695
            have NB703_715 := cN hg BK703
            have NB715_703 := cM hg BK703
            have NB704_715 := cN hg BK704
            have NB715_704 := cM hg BK704
            have NB714_715 := cN hg BK714
            have NB715_714 := cM hg BK714
            replace BK693 := cB hb BK693
            replace BK694 := cB hb BK694
            replace BK695 := cB hb BK695
            replace BK703 := cB hb BK703
            replace BK704 := cB hb BK704
            replace BK714 := cB hb BK714
            replace HB := Aside0.mk (below_step (HB.out) hb)
            clear hb hbox hg
            refine hK.out _ _ ⟨(blk_cell BK693.out 0).trans rfl, (blk_cell BK693.out 1).trans rfl, (blk_cell BK693.out 2).trans rfl, (blk_cell BK694.out 0).trans rfl, (blk_cell BK694.out 1).trans rfl, (blk_cell BK694.out 2).trans rfl, (blk_cell BK695.out 0).trans rfl, (blk_cell BK695.out 1).trans rfl, (blk_cell BK695.out 2).trans rfl, (blk_cell BK695.out 3).trans rfl, (blk_cell BK695.out 4).trans rfl, (blk_cell BK695.out 5).trans rfl⟩ (fun hHeld => ?_)
            clear hK K
            refine norm_ (a' := ?_) ?_ ?_
            rotate_left
            ·show Act.put _ (some 14) _ = _
             simp only [Act.put, List.setIfInBounds_toArray, List.set_cons_zero, List.set_cons_succ, i64_w, i32_w]
             rfl
            exact norm_ (by simp only [putAll, Act.put, List.setIfInBounds_toArray, List.set_cons_zero, List.set_cons_succ] <;> rfl) (hJ11_12 (gb714, gb715) _ ⟨hHeld, (BK693.out), (BK694.out), (BK695.out), (BK703.out), (BK704.out), (BK714.out), (BK715.out), GE714.out, NB693_714.out, NB714_693.out, NB694_714.out, NB714_694.out, NB695_714.out, NB714_695.out, NB703_714.out, NB714_703.out, NB704_714.out, NB714_704.out, NB715_714.out, NB714_715.out, GE715.out, NB693_715.out, NB715_693.out, NB694_715.out, NB715_694.out, NB695_715.out, NB715_695.out, NB703_715.out, NB715_703.out, NB704_715.out, NB715_704.out, (HB.out)⟩)
           skip
           rintro _ w36 ⟨hS_, h0_, h1_, h2_, h3_, h4_, h5_⟩
           have n0_ : Aside0 (w36.heap[gb693]? = some (.cells #[.int .i64 a0_0, .int .i64 a0_1, .int .i64 a0_2] 23 (0, 0))) := ⟨h0_⟩
           have n1_ : Aside0 (w36.heap[gb694]? = some (.cells #[.int .i64 a1_0, .int .i64 a1_1, .int .i64 a1_2] 23 (0, 0))) := ⟨h1_⟩
           have n2_ : Aside0 (w36.heap[gb695]? = some (.cells #[.int .i64 a2_0, .int .i64 a2_1, .int .i64 a2_2, .int .i64 a2_3, .int .i64 a2_4, .int .i64 a2_5] 56 (0, 0))) := ⟨h2_⟩
           have n3_ : Aside0 (w36.heap[gb703]? = some (.cells #[.int .i64 t697, .int .i64 t698] 28 (0, 0))) := ⟨h3_⟩
           have n4_ : Aside0 (w36.heap[gb704]? = some (.cells #[.int .i64 t699, .int .i64 t700] 28 (0, 0))) := ⟨h4_⟩
           have n5_ : Aside0 (Below w.heap.size w w36) := ⟨h5_⟩
           clear BK693
           clear BK694
           clear BK695
           clear BK703
           clear BK704
           clear HB
           clear h0_ h1_ h2_ h3_ h4_ h5_
           have BK693 := n0_
           have BK694 := n1_
           have BK695 := n2_
           have BK703 := n3_
           have BK704 := n4_
           have HB := n5_
           clear n0_ n1_ n2_ n3_ n4_ n5_
           have hHeld : w36.cell? ⟨gb693, 0, none⟩ = some (.int .i64 a0_0) ∧ w36.cell? ⟨gb693, 1, none⟩ = some (.int .i64 a0_1) ∧ w36.cell? ⟨gb693, 2, none⟩ = some (.int .i64 a0_2) ∧ w36.cell? ⟨gb694, 0, none⟩ = some (.int .i64 a1_0) ∧ w36.cell? ⟨gb694, 1, none⟩ = some (.int .i64 a1_1) ∧ w36.cell? ⟨gb694, 2, none⟩ = some (.int .i64 a1_2) ∧ w36.cell? ⟨gb695, 0, none⟩ = some (.int .i64 a2_0) ∧ w36.cell? ⟨gb695, 1, none⟩ = some (.int .i64 a2_1) ∧ w36.cell? ⟨gb695, 2, none⟩ = some (.int .i64 a2_2) ∧ w36.cell? ⟨gb695, 3, none⟩ = some (.int .i64 a2_3) ∧ w36.cell? ⟨gb695, 4, none⟩ = some (.int .i64 a2_4) ∧ w36.cell? ⟨gb695, 5, none⟩ = some (.int .i64 a2_5) := hS_
           refine norm_ (a' := ?_) ?_ ?_
           rotate_left
           ·simp only [putAll, Act.put, List.setIfInBounds_toArray, List.set_cons_zero, List.set_cons_succ]
            rfl
           refine three_ (i := 5) (j := 11) (k := 12) (Ni := some 44) (Nj := some 13) (Nk := some 14) #[true, true, true, true, true, true, false, false, false, false, false, false, false, false, false, false, false] #[true, true, true, true, true, false, false, false, false, false, false, true, false, false, false, false, false] #[true, true, true, true, true, false, false, false, false, false, false, false, true, false, false, false, false] rfl rfl rfl rfl rfl rfl (three_of HT_.out (by kernel_rfl)) (by decide) (by decide) (by decide) (fun K hK => ?_) (fun K hK => ?_) (fun K hK => ?_)
           ·skip
            refine goes_ Try.func32 (by kernel_rfl) rfl #[.agg #[.int .i64 a0_0, .int .i64 a0_1, .int .i64 a0_2], .agg #[.int .i64 t705, .int .i64 t706, .int .i64 t707], .agg #[.int .i64 a2_0, .int .i64 a2_1, .int .i64 a2_2, .int .i64 a2_3, .int .i64 a2_4, .int .i64 a2_5]] (by rfl) rfl rfl (by (try simp only [List.map_toArray, List.map_cons, List.map_nil]); first | done | rfl | (simp only [List.length_drop, List.length_take]; rfl)) ?_
            with_reducible refine (slab_Range.calls kj6 a0_0 a0_1 a0_2 t705 t706 t707 a2_0 a2_1 a2_2 a2_3 a2_4 a2_5 t708 t709 t710 t711 t712 t713 _ A16.out).mono ?_
            rintro e w37 ⟨rfl, hb⟩
            refine ⟨_, rfl, ?_⟩
            replace BK693 := cB hb BK693
            replace BK694 := cB hb BK694
            replace BK695 := cB hb BK695
            replace BK703 := cB hb BK703
            replace BK704 := cB hb BK704
            replace HB := Aside0.mk (below_step (HB.out) hb)
            (try clear hb)
            (try clear hb2)
            (try clear hk)
            (try clear hi)
            refine hK.out _ _ ⟨(blk_cell BK693.out 0).trans rfl, (blk_cell BK693.out 1).trans rfl, (blk_cell BK693.out 2).trans rfl, (blk_cell BK694.out 0).trans rfl, (blk_cell BK694.out 1).trans rfl, (blk_cell BK694.out 2).trans rfl, (blk_cell BK695.out 0).trans rfl, (blk_cell BK695.out 1).trans rfl, (blk_cell BK695.out 2).trans rfl, (blk_cell BK695.out 3).trans rfl, (blk_cell BK695.out 4).trans rfl, (blk_cell BK695.out 5).trans rfl⟩ (fun hHeld => ?_)
            clear hK K
            refine norm_ (a' := ?_) ?_ ?_
            rotate_left
            ·show Act.put _ (some 44) _ = _
             simp only [Act.put, List.setIfInBounds_toArray, List.set_cons_zero, List.set_cons_succ, i64_w, i32_w]
             rfl
            refine pure_ (i := 6) (N := some 38) (v := ?_) (a' := ?_) #[true, true, true, true, true, true, true, false, false, false, false, false, false, false, false, false, false] rfl rfl (any_of HT_.out (by kernel_rfl)) (fun _ _ _ h => h) (Or.inl ⟨by rfl, ?_⟩) ?_ ?_
            rotate_left
            ·intro w'
             go_simp
             with_reducible rfl
            rotate_left
            ·simp only [Act.put, List.setIfInBounds_toArray, List.set_cons_zero, List.set_cons_succ, i64_w, i32_w]
             rfl
            refine pure_ (i := 7) (N := some 45) (v := ?_) (a' := ?_) #[true, true, true, true, true, true, true, true, false, false, false, false, false, false, false, false, false] rfl rfl (any_of HT_.out (by kernel_rfl)) (fun _ _ _ h => h) (Or.inl ⟨by rfl, ?_⟩) ?_ ?_
            rotate_left
            ·intro w'
             go_simp
             with_reducible rfl
            rotate_left
            ·simp only [Act.put, List.setIfInBounds_toArray, List.set_cons_zero, List.set_cons_succ, i64_w, i32_w]
             rfl
            refine pure_ (i := 8) (N := some 46) (v := ?_) (a' := ?_) #[true, true, true, true, true, true, true, true, true, false, false, false, false, false, false, false, false] rfl rfl (any_of HT_.out (by kernel_rfl)) (fun _ _ _ h => h) (Or.inl ⟨by rfl, ?_⟩) ?_ ?_
            rotate_left
            ·intro w'
             go_simp
             with_reducible rfl
            rotate_left
            ·simp only [Act.put, List.setIfInBounds_toArray, List.set_cons_zero, List.set_cons_succ, i64_w, i32_w]
             rfl
            refine pure_ (i := 9) (N := some 47) (v := ?_) (a' := ?_) #[true, true, true, true, true, true, true, true, true, true, false, false, false, false, false, false, false] rfl rfl (any_of HT_.out (by kernel_rfl)) (fun _ _ _ h => h) (Or.inl ⟨by rfl, ?_⟩) ?_ ?_
            rotate_left
            ·intro w'
             go_simp
             with_reducible rfl
            rotate_left
            ·simp only [Act.put, List.setIfInBounds_toArray, List.set_cons_zero, List.set_cons_succ, i64_w, i32_w]
             rfl
            refine pure_ (i := 10) (N := some 48) (v := ?_) (a' := ?_) #[true, true, true, true, true, true, true, true, true, true, true, false, false, false, false, false, false] rfl rfl (any_of HT_.out (by kernel_rfl)) (fun _ _ _ h => h) (Or.inl ⟨by rfl, ?_⟩) ?_ ?_
            rotate_left
            ·intro w'
             go_simp
             with_reducible rfl
            rotate_left
            ·simp only [Act.put, List.setIfInBounds_toArray, List.set_cons_zero, List.set_cons_succ, i64_w, i32_w]
             rfl
            exact norm_ (by simp only [putAll, Act.put, List.setIfInBounds_toArray, List.set_cons_zero, List.set_cons_succ] <;> rfl) (hJ3_5 () _ ⟨hHeld, (BK693.out), (BK694.out), (BK695.out), (BK703.out), (BK704.out), (HB.out)⟩)
           ·skip
            refine box_step ?hg (N := 13) ?hd (cs := #[.int .i64 0, .int .i64 0]) (t := 28) ?hr ?_; (case hd => rfl); (case hg => rfl); (case hr => first | (go_simp; done) | (go_simp; rfl))
            intro gb714 hg w37 hbox hb
            have BK714 := Aside0.mk (hbox)
            have GE714 := Aside0.mk (bG hg (HB.out))
            have NB693_714 := cN hg BK693
            have NB714_693 := cM hg BK693
            have NB694_714 := cN hg BK694
            have NB714_694 := cM hg BK694
            have NB695_714 := cN hg BK695
            have NB714_695 := cM hg BK695
            have NB703_714 := cN hg BK703
            have NB714_703 := cM hg BK703
            have NB704_714 := cN hg BK704
            have NB714_704 := cM hg BK704
            replace BK693 := cB hb BK693
            replace BK694 := cB hb BK694
            replace BK695 := cB hb BK695
            replace BK703 := cB hb BK703
            replace BK704 := cB hb BK704
            replace HB := Aside0.mk (below_step (HB.out) hb)
            clear hb hbox hg
            refine hK.out _ _ ⟨(blk_cell BK693.out 0).trans rfl, (blk_cell BK693.out 1).trans rfl, (blk_cell BK693.out 2).trans rfl, (blk_cell BK694.out 0).trans rfl, (blk_cell BK694.out 1).trans rfl, (blk_cell BK694.out 2).trans rfl, (blk_cell BK695.out 0).trans rfl, (blk_cell BK695.out 1).trans rfl, (blk_cell BK695.out 2).trans rfl, (blk_cell BK695.out 3).trans rfl, (blk_cell BK695.out 4).trans rfl, (blk_cell BK695.out 5).trans rfl⟩ (fun hHeld => ?_)
            clear hK K
            refine norm_ (a' := ?_) ?_ ?_
            rotate_left
            ·show Act.put _ (some 13) _ = _
             simp only [Act.put, List.setIfInBounds_toArray, List.set_cons_zero, List.set_cons_succ, i64_w, i32_w]
             rfl
            exact norm_ (by simp only [putAll, Act.put, List.setIfInBounds_toArray, List.set_cons_zero, List.set_cons_succ] <;> rfl) (hJ3_11 (gb714) _ ⟨hHeld, (BK693.out), (BK694.out), (BK695.out), (BK703.out), (BK704.out), (BK714.out), GE714.out, NB693_714.out, NB714_693.out, NB694_714.out, NB714_694.out, NB695_714.out, NB714_695.out, NB703_714.out, NB714_703.out, NB704_714.out, NB714_704.out, (HB.out)⟩)
           skip
           refine box_step ?hg (N := 14) ?hd (cs := #[.int .i64 0, .int .i64 0]) (t := 28) ?hr ?_; (case hd => rfl); (case hg => rfl); (case hr => first | (go_simp; done) | (go_simp; rfl))
           intro gb715 hg w37 hbox hb
           have BK715 := Aside0.mk (hbox)
           have GE715 := Aside0.mk (bG hg (HB.out))
           have NB693_715 := cN hg BK693
           have NB715_693 := cM hg BK693
           have NB694_715 := cN hg BK694
           have NB715_694 := cM hg BK694
           have NB695_715 := cN hg BK695
           have NB715_695 := cM hg BK695
           have NB703_715 := cN hg BK703
           have NB715_703 := cM hg BK703
           have NB704_715 := cN hg BK704
           have NB715_704 := cM hg BK704
           replace BK693 := cB hb BK693
           replace BK694 := cB hb BK694
           replace BK695 := cB hb BK695
           replace BK703 := cB hb BK703
           replace BK704 := cB hb BK704
           replace HB := Aside0.mk (below_step (HB.out) hb)
           clear hb hbox hg
           refine hK.out _ _ ⟨(blk_cell BK693.out 0).trans rfl, (blk_cell BK693.out 1).trans rfl, (blk_cell BK693.out 2).trans rfl, (blk_cell BK694.out 0).trans rfl, (blk_cell BK694.out 1).trans rfl, (blk_cell BK694.out 2).trans rfl, (blk_cell BK695.out 0).trans rfl, (blk_cell BK695.out 1).trans rfl, (blk_cell BK695.out 2).trans rfl, (blk_cell BK695.out 3).trans rfl, (blk_cell BK695.out 4).trans rfl, (blk_cell BK695.out 5).trans rfl⟩ (fun hHeld => ?_)
           clear hK K
           refine norm_ (a' := ?_) ?_ ?_
           rotate_left
           ·show Act.put _ (some 14) _ = _
            simp only [Act.put, List.setIfInBounds_toArray, List.set_cons_zero, List.set_cons_succ, i64_w, i32_w]
            rfl
           exact norm_ (by simp only [putAll, Act.put, List.setIfInBounds_toArray, List.set_cons_zero, List.set_cons_succ] <;> rfl) (hJ3_12 (gb715) _ ⟨hHeld, (BK693.out), (BK694.out), (BK695.out), (BK703.out), (BK704.out), (BK715.out), GE715.out, NB693_715.out, NB715_693.out, NB694_715.out, NB715_694.out, NB695_715.out, NB715_695.out, NB703_715.out, NB715_703.out, NB704_715.out, NB715_704.out, (HB.out)⟩)
          skip
          rintro ⟨gb714, gb715⟩ w37 ⟨hS_, h0_, h1_, h2_, h3_, h4_, h5_, h6_, h7_, h8_, h9_, h10_, h11_, h12_, h13_, h14_, h15_, h16_, h17_, h18_, h19_, h20_, h21_, h22_, h23_, h24_, h25_, h26_, h27_, h28_, h29_, h30_, h31_⟩
          have n0_ : Aside0 (w37.heap[gb693]? = some (.cells #[.int .i64 a0_0, .int .i64 a0_1, .int .i64 a0_2] 23 (0, 0))) := ⟨h0_⟩
          have n1_ : Aside0 (w37.heap[gb694]? = some (.cells #[.int .i64 a1_0, .int .i64 a1_1, .int .i64 a1_2] 23 (0, 0))) := ⟨h1_⟩
          have n2_ : Aside0 (w37.heap[gb695]? = some (.cells #[.int .i64 a2_0, .int .i64 a2_1, .int .i64 a2_2, .int .i64 a2_3, .int .i64 a2_4, .int .i64 a2_5] 56 (0, 0))) := ⟨h2_⟩
          have n3_ : Aside0 (w37.heap[gb703]? = some (.cells #[.int .i64 t697, .int .i64 t698] 28 (0, 0))) := ⟨h3_⟩
          have n4_ : Aside0 (w37.heap[gb704]? = some (.cells #[.int .i64 t699, .int .i64 t700] 28 (0, 0))) := ⟨h4_⟩
          have n5_ : Aside0 (w37.heap[gb714]? = some (.cells #[.int .i64 0, .int .i64 0] 28 (0, 0))) := ⟨h5_⟩
          have n6_ : Aside0 (w37.heap[gb715]? = some (.cells #[.int .i64 0, .int .i64 0] 28 (0, 0))) := ⟨h6_⟩
          have GE714 : Aside0 (w.heap.size ≤ gb714) := ⟨h7_⟩
          have NB693_714 : Aside0 (gb693 ≠ gb714) := ⟨h8_⟩
          have NB714_693 : Aside0 (gb714 ≠ gb693) := ⟨h9_⟩
          have NB694_714 : Aside0 (gb694 ≠ gb714) := ⟨h10_⟩
          have NB714_694 : Aside0 (gb714 ≠ gb694) := ⟨h11_⟩
          have NB695_714 : Aside0 (gb695 ≠ gb714) := ⟨h12_⟩
          have NB714_695 : Aside0 (gb714 ≠ gb695) := ⟨h13_⟩
          have NB703_714 : Aside0 (gb703 ≠ gb714) := ⟨h14_⟩
          have NB714_703 : Aside0 (gb714 ≠ gb703) := ⟨h15_⟩
          have NB704_714 : Aside0 (gb704 ≠ gb714) := ⟨h16_⟩
          have NB714_704 : Aside0 (gb714 ≠ gb704) := ⟨h17_⟩
          have NB715_714 : Aside0 (gb715 ≠ gb714) := ⟨h18_⟩
          have NB714_715 : Aside0 (gb714 ≠ gb715) := ⟨h19_⟩
          have GE715 : Aside0 (w.heap.size ≤ gb715) := ⟨h20_⟩
          have NB693_715 : Aside0 (gb693 ≠ gb715) := ⟨h21_⟩
          have NB715_693 : Aside0 (gb715 ≠ gb693) := ⟨h22_⟩
          have NB694_715 : Aside0 (gb694 ≠ gb715) := ⟨h23_⟩
          have NB715_694 : Aside0 (gb715 ≠ gb694) := ⟨h24_⟩
          have NB695_715 : Aside0 (gb695 ≠ gb715) := ⟨h25_⟩
          have NB715_695 : Aside0 (gb715 ≠ gb695) := ⟨h26_⟩
          have NB703_715 : Aside0 (gb703 ≠ gb715) := ⟨h27_⟩
          have NB715_703 : Aside0 (gb715 ≠ gb703) := ⟨h28_⟩
          have NB704_715 : Aside0 (gb704 ≠ gb715) := ⟨h29_⟩
          have NB715_704 : Aside0 (gb715 ≠ gb704) := ⟨h30_⟩
          have n31_ : Aside0 (Below w.heap.size w w37) := ⟨h31_⟩
          clear BK693
          clear BK694
          clear BK695
          clear BK703
          clear BK704
          clear HB
          clear h0_ h1_ h2_ h3_ h4_ h5_ h6_ h7_ h8_ h9_ h10_ h11_ h12_ h13_ h14_ h15_ h16_ h17_ h18_ h19_ h20_ h21_ h22_ h23_ h24_ h25_ h26_ h27_ h28_ h29_ h30_ h31_
          have BK693 := n0_
          have BK694 := n1_
          have BK695 := n2_
          have BK703 := n3_
          have BK704 := n4_
          have BK714 := n5_
          have BK715 := n6_
          have HB := n31_
          clear n0_ n1_ n2_ n3_ n4_ n5_ n6_ n31_
          have hHeld : w37.cell? ⟨gb693, 0, none⟩ = some (.int .i64 a0_0) ∧ w37.cell? ⟨gb693, 1, none⟩ = some (.int .i64 a0_1) ∧ w37.cell? ⟨gb693, 2, none⟩ = some (.int .i64 a0_2) ∧ w37.cell? ⟨gb694, 0, none⟩ = some (.int .i64 a1_0) ∧ w37.cell? ⟨gb694, 1, none⟩ = some (.int .i64 a1_1) ∧ w37.cell? ⟨gb694, 2, none⟩ = some (.int .i64 a1_2) ∧ w37.cell? ⟨gb695, 0, none⟩ = some (.int .i64 a2_0) ∧ w37.cell? ⟨gb695, 1, none⟩ = some (.int .i64 a2_1) ∧ w37.cell? ⟨gb695, 2, none⟩ = some (.int .i64 a2_2) ∧ w37.cell? ⟨gb695, 3, none⟩ = some (.int .i64 a2_3) ∧ w37.cell? ⟨gb695, 4, none⟩ = some (.int .i64 a2_4) ∧ w37.cell? ⟨gb695, 5, none⟩ = some (.int .i64 a2_5) := hS_
          refine norm_ (a' := ?_) ?_ ?_
          rotate_left
          ·simp only [putAll, Act.put, List.setIfInBounds_toArray, List.set_cons_zero, List.set_cons_succ]
           rfl
          refine one_ (i := 3) (N := some 42) #[true, true, true, true, true, false, false, false, false, false, false, true, true, false, false, false, false] rfl rfl (one_of HT_.out (by kernel_rfl)) (by decide) (fun K hK => ?_)
          refine goes_ Try.func29 (by kernel_rfl) rfl #[.agg #[.int .i64 a1_0, .int .i64 a1_1, .int .i64 a1_2], .int .i64 a3] (by rfl) rfl rfl (by (try simp only [List.map_toArray, List.map_cons, List.map_nil]); first | done | rfl | (simp only [List.length_drop, List.length_take]; rfl)) ?_
          with_reducible refine (relievoref02_Scale.calls a1_0 a1_1 a1_2 a3 t705 t706 t707 _ A15.out).mono ?_
          rintro e w38 ⟨rfl, hb⟩
          refine ⟨_, rfl, ?_⟩
          replace BK693 := cB hb BK693
          replace BK694 := cB hb BK694
          replace BK695 := cB hb BK695
          replace BK703 := cB hb BK703
          replace BK704 := cB hb BK704
          replace BK714 := cB hb BK714
          replace BK715 := cB hb BK715
          replace HB := Aside0.mk (below_step (HB.out) hb)
          (try clear hb)
          (try clear hb2)
          (try clear hk)
          (try clear hi)
          refine hK.out _ _ ⟨(blk_cell BK693.out 0).trans rfl, (blk_cell BK693.out 1).trans rfl, (blk_cell BK693.out 2).trans rfl, (blk_cell BK694.out 0).trans rfl, (blk_cell BK694.out 1).trans rfl, (blk_cell BK694.out 2).trans rfl, (blk_cell BK695.out 0).trans rfl, (blk_cell BK695.out 1).trans rfl, (blk_cell BK695.out 2).trans rfl, (blk_cell BK695.out 3).trans rfl, (blk_cell BK695.out 4).trans rfl, (blk_cell BK695.out 5).trans rfl⟩ (fun hHeld => ?_)
          clear hK K
          refine norm_ (a' := ?_) ?_ ?_
          rotate_left
          ·show Act.put _ (some 42) _ = _
           simp only [Act.put, List.setIfInBounds_toArray, List.set_cons_zero, List.set_cons_succ, i64_w, i32_w]
           rfl
          exact norm_ (by simp only [putAll, Act.put, List.setIfInBounds_toArray, List.set_cons_zero, List.set_cons_succ] <;> rfl) (hJ3_11_12 (gb714, gb715) _ ⟨hHeld, (BK693.out), (BK694.out), (BK695.out), (BK703.out), (BK704.out), (BK714.out), (BK715.out), GE714.out, NB693_714.out, NB714_693.out, NB694_714.out, NB714_694.out, NB695_714.out, NB714_695.out, NB703_714.out, NB714_703.out, NB704_714.out, NB714_704.out, NB715_714.out, NB714_715.out, GE715.out, NB693_715.out, NB715_693.out, NB694_715.out, NB715_694.out, NB695_715.out, NB715_695.out, NB703_715.out, NB715_703.out, NB704_715.out, NB715_704.out, (HB.out)⟩)
         skip
         rintro gb715 w37 ⟨hS_, h0_, h1_, h2_, h3_, h4_, h5_, h6_, h7_, h8_, h9_, h10_, h11_, h12_, h13_, h14_, h15_, h16_, h17_⟩
         have n0_ : Aside0 (w37.heap[gb693]? = some (.cells #[.int .i64 a0_0, .int .i64 a0_1, .int .i64 a0_2] 23 (0, 0))) := ⟨h0_⟩
         have n1_ : Aside0 (w37.heap[gb694]? = some (.cells #[.int .i64 a1_0, .int .i64 a1_1, .int .i64 a1_2] 23 (0, 0))) := ⟨h1_⟩
         have n2_ : Aside0 (w37.heap[gb695]? = some (.cells #[.int .i64 a2_0, .int .i64 a2_1, .int .i64 a2_2, .int .i64 a2_3, .int .i64 a2_4, .int .i64 a2_5] 56 (0, 0))) := ⟨h2_⟩
         have n3_ : Aside0 (w37.heap[gb703]? = some (.cells #[.int .i64 t697, .int .i64 t698] 28 (0, 0))) := ⟨h3_⟩
         have n4_ : Aside0 (w37.heap[gb704]? = some (.cells #[.int .i64 t699, .int .i64 t700] 28 (0, 0))) := ⟨h4_⟩
         have n5_ : Aside0 (w37.heap[gb715]? = some (.cells #[.int .i64 0, .int .i64 0] 28 (0, 0))) := ⟨h5_⟩
         have GE715 : Aside0 (w.heap.size ≤ gb715) := ⟨h6_⟩
         have NB693_715 : Aside0 (gb693 ≠ gb715) := ⟨h7_⟩
         have NB715_693 : Aside0 (gb715 ≠ gb693) := ⟨h8_⟩
         have NB694_715 : Aside0 (gb694 ≠ gb715) := ⟨h9_⟩
         have NB715_694 : Aside0 (gb715 ≠ gb694) := ⟨h10_⟩
         have NB695_715 : Aside0 (gb695 ≠ gb715) := ⟨h11_⟩
         have NB715_695 : Aside0 (gb715 ≠ gb695) := ⟨h12_⟩
         have NB703_715 : Aside0 (gb703 ≠ gb715) := ⟨h13_⟩
         have NB715_703 : Aside0 (gb715 ≠ gb703) := ⟨h14_⟩
         have NB704_715 : Aside0 (gb704 ≠ gb715) := ⟨h15_⟩
         have NB715_704 : Aside0 (gb715 ≠ gb704) := ⟨h16_⟩
         have n17_ : Aside0 (Below w.heap.size w w37) := ⟨h17_⟩
         clear BK693
         clear BK694
         clear BK695
         clear BK703
         clear BK704
         clear HB
         clear h0_ h1_ h2_ h3_ h4_ h5_ h6_ h7_ h8_ h9_ h10_ h11_ h12_ h13_ h14_ h15_ h16_ h17_
         have BK693 := n0_
         have BK694 := n1_
         have BK695 := n2_
         have BK703 := n3_
         have BK704 := n4_
         have BK715 := n5_
         have HB := n17_
         clear n0_ n1_ n2_ n3_ n4_ n5_ n17_
         have hHeld : w37.cell? ⟨gb693, 0, none⟩ = some (.int .i64 a0_0) ∧ w37.cell? ⟨gb693, 1, none⟩ = some (.int .i64 a0_1) ∧ w37.cell? ⟨gb693, 2, none⟩ = some (.int .i64 a0_2) ∧ w37.cell? ⟨gb694, 0, none⟩ = some (.int .i64 a1_0) ∧ w37.cell? ⟨gb694, 1, none⟩ = some (.int .i64 a1_1) ∧ w37.cell? ⟨gb694, 2, none⟩ = some (.int .i64 a1_2) ∧ w37.cell? ⟨gb695, 0, none⟩ = some (.int .i64 a2_0) ∧ w37.cell? ⟨gb695, 1, none⟩ = some (.int .i64 a2_1) ∧ w37.cell? ⟨gb695, 2, none⟩ = some (.int .i64 a2_2) ∧ w37.cell? ⟨gb695, 3, none⟩ = some (.int .i64 a2_3) ∧ w37.cell? ⟨gb695, 4, none⟩ = some (.int .i64 a2_4) ∧ w37.cell? ⟨gb695, 5, none⟩ = some (.int .i64 a2_5) := hS_
         refine norm_ (a' := ?_) ?_ ?_
         rotate_left
         ·simp only [putAll, Act.put, List.setIfInBounds_toArray, List.set_cons_zero, List.set_cons_succ]
          rfl
         refine two_ (i := 5) (j := 11) (Ni := some 44) (Nj := some 13) #[true, true, true, true, true, true, false, false, false, false, false, false, true, false, false, false, false] #[true, true, true, true, true, false, false, false, false, false, false, true, true, false, false, false, false] rfl rfl rfl rfl (two_of HT_.out (by kernel_rfl)) (by decide) (by decide) (fun K hK => ?_) (fun K hK => ?_)
         ·skip
          refine goes_ Try.func32 (by kernel_rfl) rfl #[.agg #[.int .i64 a0_0, .int .i64 a0_1, .int .i64 a0_2], .agg #[.int .i64 t705, .int .i64 t706, .int .i64 t707], .agg #[.int .i64 a2_0, .int .i64 a2_1, .int .i64 a2_2, .int .i64 a2_3, .int .i64 a2_4, .int .i64 a2_5]] (by rfl) rfl rfl (by (try simp only [List.map_toArray, List.map_cons, List.map_nil]); first | done | rfl | (simp only [List.length_drop, List.length_take]; rfl)) ?_
          with_reducible refine (slab_Range.calls kj6 a0_0 a0_1 a0_2 t705 t706 t707 a2_0 a2_1 a2_2 a2_3 a2_4 a2_5 t708 t709 t710 t711 t712 t713 _ A16.out).mono ?_
          rintro e w38 ⟨rfl, hb⟩
          refine ⟨_, rfl, ?_⟩
          replace BK693 := cB hb BK693
          replace BK694 := cB hb BK694
          replace BK695 := cB hb BK695
          replace BK703 := cB hb BK703
          replace BK704 := cB hb BK704
          replace BK715 := cB hb BK715
          replace HB := Aside0.mk (below_step (HB.out) hb)
          (try clear hb)
          (try clear hb2)
          (try clear hk)
          (try clear hi)
          refine hK.out _ _ ⟨(blk_cell BK693.out 0).trans rfl, (blk_cell BK693.out 1).trans rfl, (blk_cell BK693.out 2).trans rfl, (blk_cell BK694.out 0).trans rfl, (blk_cell BK694.out 1).trans rfl, (blk_cell BK694.out 2).trans rfl, (blk_cell BK695.out 0).trans rfl, (blk_cell BK695.out 1).trans rfl, (blk_cell BK695.out 2).trans rfl, (blk_cell BK695.out 3).trans rfl, (blk_cell BK695.out 4).trans rfl, (blk_cell BK695.out 5).trans rfl⟩ (fun hHeld => ?_)
          clear hK K
          refine norm_ (a' := ?_) ?_ ?_
          rotate_left
          ·show Act.put _ (some 44) _ = _
           simp only [Act.put, List.setIfInBounds_toArray, List.set_cons_zero, List.set_cons_succ, i64_w, i32_w]
           rfl
          refine pure_ (i := 6) (N := some 38) (v := ?_) (a' := ?_) #[true, true, true, true, true, true, true, false, false, false, false, false, true, false, false, false, false] rfl rfl (any_of HT_.out (by kernel_rfl)) (fun _ _ _ h => h) (Or.inl ⟨by rfl, ?_⟩) ?_ ?_
          rotate_left
          ·intro w'
           go_simp
           with_reducible rfl
          rotate_left
          ·simp only [Act.put, List.setIfInBounds_toArray, List.set_cons_zero, List.set_cons_succ, i64_w, i32_w]
           rfl
          refine pure_ (i := 7) (N := some 45) (v := ?_) (a' := ?_) #[true, true, true, true, true, true, true, true, false, false, false, false, true, false, false, false, false] rfl rfl (any_of HT_.out (by kernel_rfl)) (fun _ _ _ h => h) (Or.inl ⟨by rfl, ?_⟩) ?_ ?_
          rotate_left
          ·intro w'
           go_simp
           with_reducible rfl
          rotate_left
          ·simp only [Act.put, List.setIfInBounds_toArray, List.set_cons_zero, List.set_cons_succ, i64_w, i32_w]
           rfl
          refine pure_ (i := 8) (N := some 46) (v := ?_) (a' := ?_) #[true, true, true, true, true, true, true, true, true, false, false, false, true, false, false, false, false] rfl rfl (any_of HT_.out (by kernel_rfl)) (fun _ _ _ h => h) (Or.inl ⟨by rfl, ?_⟩) ?_ ?_
          rotate_left
          ·intro w'
           go_simp
           with_reducible rfl
          rotate_left
          ·simp only [Act.put, List.setIfInBounds_toArray, List.set_cons_zero, List.set_cons_succ, i64_w, i32_w]
           rfl
          refine pure_ (i := 9) (N := some 47) (v := ?_) (a' := ?_) #[true, true, true, true, true, true, true, true, true, true, false, false, true, false, false, false, false] rfl rfl (any_of HT_.out (by kernel_rfl)) (fun _ _ _ h => h) (Or.inl ⟨by rfl, ?_⟩) ?_ ?_
          rotate_left
          ·intro w'
           go_simp
           with_reducible rfl
          rotate_left
          ·simp only [Act.put, List.setIfInBounds_toArray, List.set_cons_zero, List.set_cons_succ, i64_w, i32_w]
           rfl
          refine pure_ (i := 10) (N := some 48) (v := ?_) (a' := ?_) #[true, true, true, true, true, true, true, true, true, true, true, false, true, false, false, false, false] rfl rfl (any_of HT_.out (by kernel_rfl)) (fun _ _ _ h => h) (Or.inl ⟨by rfl, ?_⟩) ?_ ?_
          rotate_left
          ·intro w'
           go_simp
           with_reducible rfl
          rotate_left
          ·simp only [Act.put, List.setIfInBounds_toArray, List.set_cons_zero, List.set_cons_succ, i64_w, i32_w]
           rfl
          exact norm_ (by simp only [putAll, Act.put, List.setIfInBounds_toArray, List.set_cons_zero, List.set_cons_succ] <;> rfl) (hJ3_5_12 (gb715) _ ⟨hHeld, (BK693.out), (BK694.out), (BK695.out), (BK703.out), (BK704.out), (BK715.out), GE715.out, NB693_715.out, NB715_693.out, NB694_715.out, NB715_694.out, NB695_715.out, NB715_695.out, NB703_715.out, NB715_703.out, NB704_715.out, NB715_704.out, (HB.out)⟩)
         skip
         refine box_step ?hg (N := 13) ?hd (cs := #[.int .i64 0, .int .i64 0]) (t := 28) ?hr ?_; (case hd => rfl); (case hg => rfl); (case hr => first | (go_simp; done) | (go_simp; rfl))
         intro gb714 hg w38 hbox hb
         have BK714 := Aside0.mk (hbox)
         have GE714 := Aside0.mk (bG hg (HB.out))
         have NB693_714 := cN hg BK693
         have NB714_693 := cM hg BK693
         have NB694_714 := cN hg BK694
         have NB714_694 := cM hg BK694
         have NB695_714 := cN hg BK695
         have NB714_695 := cM hg BK695
         have NB703_714 := cN hg BK703
         have NB714_703 := cM hg BK703
         have NB704_714 := cN hg BK704
         have NB714_704 := cM hg BK704
         have NB715_714 := cN hg BK715
         have NB714_715 := cM hg BK715
         replace BK693 := cB hb BK693
         replace BK694 := cB hb BK694
         replace BK695 := cB hb BK695
         replace BK703 := cB hb BK703
         replace BK704 := cB hb BK704
         replace BK715 := cB hb BK715
         replace HB := Aside0.mk (below_step (HB.out) hb)
         clear hb hbox hg
         refine hK.out _ _ ⟨(blk_cell BK693.out 0).trans rfl, (blk_cell BK693.out 1).trans rfl, (blk_cell BK693.out 2).trans rfl, (blk_cell BK694.out 0).trans rfl, (blk_cell BK694.out 1).trans rfl, (blk_cell BK694.out 2).trans rfl, (blk_cell BK695.out 0).trans rfl, (blk_cell BK695.out 1).trans rfl, (blk_cell BK695.out 2).trans rfl, (blk_cell BK695.out 3).trans rfl, (blk_cell BK695.out 4).trans rfl, (blk_cell BK695.out 5).trans rfl⟩ (fun hHeld => ?_)
         clear hK K
         refine norm_ (a' := ?_) ?_ ?_
         rotate_left
         ·show Act.put _ (some 13) _ = _
          simp only [Act.put, List.setIfInBounds_toArray, List.set_cons_zero, List.set_cons_succ, i64_w, i32_w]
          rfl
         exact norm_ (by simp only [putAll, Act.put, List.setIfInBounds_toArray, List.set_cons_zero, List.set_cons_succ] <;> rfl) (hJ3_11_12 (gb714, gb715) _ ⟨hHeld, (BK693.out), (BK694.out), (BK695.out), (BK703.out), (BK704.out), (BK714.out), (BK715.out), GE714.out, NB693_714.out, NB714_693.out, NB694_714.out, NB714_694.out, NB695_714.out, NB714_695.out, NB703_714.out, NB714_703.out, NB704_714.out, NB714_704.out, NB715_714.out, NB714_715.out, GE715.out, NB693_715.out, NB715_693.out, NB694_715.out, NB715_694.out, NB695_715.out, NB715_695.out, NB703_715.out, NB715_703.out, NB704_715.out, NB715_704.out, (HB.out)⟩)
        skip
        rintro gb714 w37 ⟨hS_, h0_, h1_, h2_, h3_, h4_, h5_, h6_, h7_, h8_, h9_, h10_, h11_, h12_, h13_, h14_, h15_, h16_, h17_⟩
        have n0_ : Aside0 (w37.heap[gb693]? = some (.cells #[.int .i64 a0_0, .int .i64 a0_1, .int .i64 a0_2] 23 (0, 0))) := ⟨h0_⟩
        have n1_ : Aside0 (w37.heap[gb694]? = some (.cells #[.int .i64 a1_0, .int .i64 a1_1, .int .i64 a1_2] 23 (0, 0))) := ⟨h1_⟩
        have n2_ : Aside0 (w37.heap[gb695]? = some (.cells #[.int .i64 a2_0, .int .i64 a2_1, .int .i64 a2_2, .int .i64 a2_3, .int .i64 a2_4, .int .i64 a2_5] 56 (0, 0))) := ⟨h2_⟩
        have n3_ : Aside0 (w37.heap[gb703]? = some (.cells #[.int .i64 t697, .int .i64 t698] 28 (0, 0))) := ⟨h3_⟩
        have n4_ : Aside0 (w37.heap[gb704]? = some (.cells #[.int .i64 t699, .int .i64 t700] 28 (0, 0))) := ⟨h4_⟩
        have n5_ : Aside0 (w37.heap[gb714]? = some (.cells #[.int .i64 0, .int .i64 0] 28 (0, 0))) := ⟨h5_⟩
        have GE714 : Aside0 (w.heap.size ≤ gb714) := ⟨h6_⟩
        have NB693_714 : Aside0 (gb693 ≠ gb714) := ⟨h7_⟩
        have NB714_693 : Aside0 (gb714 ≠ gb693) := ⟨h8_⟩
        have NB694_714 : Aside0 (gb694 ≠ gb714) := ⟨h9_⟩
        have NB714_694 : Aside0 (gb714 ≠ gb694) := ⟨h10_⟩
        have NB695_714 : Aside0 (gb695 ≠ gb714) := ⟨h11_⟩
        have NB714_695 : Aside0 (gb714 ≠ gb695) := ⟨h12_⟩
        have NB703_714 : Aside0 (gb703 ≠ gb714) := ⟨h13_⟩
        have NB714_703 : Aside0 (gb714 ≠ gb703) := ⟨h14_⟩
        have NB704_714 : Aside0 (gb704 ≠ gb714) := ⟨h15_⟩
        have NB714_704 : Aside0 (gb714 ≠ gb704) := ⟨h16_⟩
        have n17_ : Aside0 (Below w.heap.size w w37) := ⟨h17_⟩
        clear BK693
        clear BK694
        clear BK695
        clear BK703
        clear BK704
        clear HB
        clear h0_ h1_ h2_ h3_ h4_ h5_ h6_ h7_ h8_ h9_ h10_ h11_ h12_ h13_ h14_ h15_ h16_ h17_
        have BK693 := n0_
        have BK694 := n1_
        have BK695 := n2_
        have BK703 := n3_
        have BK704 := n4_
        have BK714 := n5_
        have HB := n17_
        clear n0_ n1_ n2_ n3_ n4_ n5_ n17_
        have hHeld : w37.cell? ⟨gb693, 0, none⟩ = some (.int .i64 a0_0) ∧ w37.cell? ⟨gb693, 1, none⟩ = some (.int .i64 a0_1) ∧ w37.cell? ⟨gb693, 2, none⟩ = some (.int .i64 a0_2) ∧ w37.cell? ⟨gb694, 0, none⟩ = some (.int .i64 a1_0) ∧ w37.cell? ⟨gb694, 1, none⟩ = some (.int .i64 a1_1) ∧ w37.cell? ⟨gb694, 2, none⟩ = some (.int .i64 a1_2) ∧ w37.cell? ⟨gb695, 0, none⟩ = some (.int .i64 a2_0) ∧ w37.cell? ⟨gb695, 1, none⟩ = some (.int .i64 a2_1) ∧ w37.cell? ⟨gb695, 2, none⟩ = some (.int .i64 a2_2) ∧ w37.cell? ⟨gb695, 3, none⟩ = some (.int .i64 a2_3) ∧ w37.cell? ⟨gb695, 4, none⟩ = some (.int .i64 a2_4) ∧ w37.cell? ⟨gb695, 5, none⟩ = some (.int .i64 a2_5) := hS_
        refine norm_ (a' := ?_) ?_ ?_
        rotate_left
        ·simp only [putAll, Act.put, List.setIfInBounds_toArray, List.set_cons_zero, List.set_cons_succ]
         rfl
        refine two_ (i := 5) (j := 12) (Ni := some 44) (Nj := some 14) #[true, true, true, true, true, true, false, false, false, false, false, true, false, false, false, false, false] #[true, true, true, true, true, false, false, false, false, false, false, true, true, false, false, false, false] rfl rfl rfl rfl (two_of HT_.out (by kernel_rfl)) (by decide) (by decide) (fun K hK => ?_) (fun K hK => ?_)
        ·skip
         refine goes_ Try.func32 (by kernel_rfl) rfl #[.agg #[.int .i64 a0_0, .int .i64 a0_1, .int .i64 a0_2], .agg #[.int .i64 t705, .int .i64 t706, .int .i64 t707], .agg #[.int .i64 a2_0, .int .i64 a2_1, .int .i64 a2_2, .int .i64 a2_3, .int .i64 a2_4, .int .i64 a2_5]] (by rfl) rfl rfl (by (try simp only [List.map_toArray, List.map_cons, List.map_nil]); first | done | rfl | (simp only [List.length_drop, List.length_take]; rfl)) ?_
         with_reducible refine (slab_Range.calls kj6 a0_0 a0_1 a0_2 t705 t706 t707 a2_0 a2_1 a2_2 a2_3 a2_4 a2_5 t708 t709 t710 t711 t712 t713 _ A16.out).mono ?_
         rintro e w38 ⟨rfl, hb⟩
         refine ⟨_, rfl, ?_⟩
         replace BK693 := cB hb BK693
         replace BK694 := cB hb BK694
         replace BK695 := cB hb BK695
         replace BK703 := cB hb BK703
         replace BK704 := cB hb BK704
         replace BK714 := cB hb BK714
         replace HB := Aside0.mk (below_step (HB.out) hb)
         (try clear hb)
         (try clear hb2)
         (try clear hk)
         (try clear hi)
         refine hK.out _ _ ⟨(blk_cell BK693.out 0).trans rfl, (blk_cell BK693.out 1).trans rfl, (blk_cell BK693.out 2).trans rfl, (blk_cell BK694.out 0).trans rfl, (blk_cell BK694.out 1).trans rfl, (blk_cell BK694.out 2).trans rfl, (blk_cell BK695.out 0).trans rfl, (blk_cell BK695.out 1).trans rfl, (blk_cell BK695.out 2).trans rfl, (blk_cell BK695.out 3).trans rfl, (blk_cell BK695.out 4).trans rfl, (blk_cell BK695.out 5).trans rfl⟩ (fun hHeld => ?_)
         clear hK K
         refine norm_ (a' := ?_) ?_ ?_
         rotate_left
         ·show Act.put _ (some 44) _ = _
          simp only [Act.put, List.setIfInBounds_toArray, List.set_cons_zero, List.set_cons_succ, i64_w, i32_w]
          rfl
         refine pure_ (i := 6) (N := some 38) (v := ?_) (a' := ?_) #[true, true, true, true, true, true, true, false, false, false, false, true, false, false, false, false, false] rfl rfl (any_of HT_.out (by kernel_rfl)) (fun _ _ _ h => h) (Or.inl ⟨by rfl, ?_⟩) ?_ ?_
         rotate_left
         ·intro w'
          go_simp
          with_reducible rfl
         rotate_left
         ·simp only [Act.put, List.setIfInBounds_toArray, List.set_cons_zero, List.set_cons_succ, i64_w, i32_w]
          rfl
         refine pure_ (i := 7) (N := some 45) (v := ?_) (a' := ?_) #[true, true, true, true, true, true, true, true, false, false, false, true, false, false, false, false, false] rfl rfl (any_of HT_.out (by kernel_rfl)) (fun _ _ _ h => h) (Or.inl ⟨by rfl, ?_⟩) ?_ ?_
         rotate_left
         ·intro w'
          go_simp
          with_reducible rfl
         rotate_left
         ·simp only [Act.put, List.setIfInBounds_toArray, List.set_cons_zero, List.set_cons_succ, i64_w, i32_w]
          rfl
         refine pure_ (i := 8) (N := some 46) (v := ?_) (a' := ?_) #[true, true, true, true, true, true, true, true, true, false, false, true, false, false, false, false, false] rfl rfl (any_of HT_.out (by kernel_rfl)) (fun _ _ _ h => h) (Or.inl ⟨by rfl, ?_⟩) ?_ ?_
         rotate_left
         ·intro w'
          go_simp
          with_reducible rfl
         rotate_left
         ·simp only [Act.put, List.setIfInBounds_toArray, List.set_cons_zero, List.set_cons_succ, i64_w, i32_w]
          rfl
         refine pure_ (i := 9) (N := some 47) (v := ?_) (a' := ?_) #[true, true, true, true, true, true, true, true, true, true, false, true, false, false, false, false, false] rfl rfl (any_of HT_.out (by kernel_rfl)) (fun _ _ _ h => h) (Or.inl ⟨by rfl, ?_⟩) ?_ ?_
         rotate_left
         ·intro w'
          go_simp
          with_reducible rfl
         rotate_left
         ·simp only [Act.put, List.setIfInBounds_toArray, List.set_cons_zero, List.set_cons_succ, i64_w, i32_w]
          rfl
         refine pure_ (i := 10) (N := some 48) (v := ?_) (a' := ?_) #[true, true, true, true, true, true, true, true, true, true, true, true, false, false, false, false, false] rfl rfl (any_of HT_.out (by kernel_rfl)) (fun _ _ _ h => h) (Or.inl ⟨by rfl, ?_⟩) ?_ ?_
         rotate_left
         ·intro w'
          go_simp
          with_reducible rfl
         rotate_left
         ·simp only [Act.put, List.setIfInBounds_toArray, List.set_cons_zero, List.set_cons_succ, i64_w, i32_w]
          rfl
         exact norm_ (by simp only [putAll, Act.put, List.setIfInBounds_toArray, List.set_cons_zero, List.set_cons_succ] <;> rfl) (hJ3_5_11 (gb714) _ ⟨hHeld, (BK693.out), (BK694.out), (BK695.out), (BK703.out), (BK704.out), (BK714.out), GE714.out, NB693_714.out, NB714_693.out, NB694_714.out, NB714_694.out, NB695_714.out, NB714_695.out, NB703_714.out, NB714_703.out, NB704_714.out, NB714_704.out, (HB.out)⟩)
        skip
        refine box_step ?hg (N := 14) ?hd (cs := #[.int .i64 0, .int .i64 0]) (t := 28) ?hr ?_; (case hd => rfl); (case hg => rfl); (case hr => first | (go_simp; done) | (go_simp; rfl))
        intro gb715 hg w38 hbox hb
        have BK715 := Aside0.mk (hbox)
        have GE715 := Aside0.mk (bG hg (HB.out))
        have NB693_715 := cN hg BK693
        have NB715_693 := cM hg BK693
        have NB694_715 := cN hg BK694
        have NB715_694 := cM hg BK694
        have NB695_715 := cN hg BK695
        have NB715_695 := cM hg BK695
        have NB703_715 := cN hg BK703
        have NB715_703 := cM hg BK703
        have NB704_715 := cN hg BK704
        have NB715_704 := cM hg BK704
        have NB714_715 := cN hg BK714
        have NB715_714 := cM hg BK714
        replace BK693 := cB hb BK693
        replace BK694 := cB hb BK694
        replace BK695 := cB hb BK695
        replace BK703 := cB hb BK703
        replace BK704 := cB hb BK704
        replace BK714 := cB hb BK714
        replace HB := Aside0.mk (below_step (HB.out) hb)
        clear hb hbox hg
        refine hK.out _ _ ⟨(blk_cell BK693.out 0).trans rfl, (blk_cell BK693.out 1).trans rfl, (blk_cell BK693.out 2).trans rfl, (blk_cell BK694.out 0).trans rfl, (blk_cell BK694.out 1).trans rfl, (blk_cell BK694.out 2).trans rfl, (blk_cell BK695.out 0).trans rfl, (blk_cell BK695.out 1).trans rfl, (blk_cell BK695.out 2).trans rfl, (blk_cell BK695.out 3).trans rfl, (blk_cell BK695.out 4).trans rfl, (blk_cell BK695.out 5).trans rfl⟩ (fun hHeld => ?_)
        clear hK K
        refine norm_ (a' := ?_) ?_ ?_
        rotate_left
        ·show Act.put _ (some 14) _ = _
         simp only [Act.put, List.setIfInBounds_toArray, List.set_cons_zero, List.set_cons_succ, i64_w, i32_w]
         rfl
        exact norm_ (by simp only [putAll, Act.put, List.setIfInBounds_toArray, List.set_cons_zero, List.set_cons_succ] <;> rfl) (hJ3_11_12 (gb714, gb715) _ ⟨hHeld, (BK693.out), (BK694.out), (BK695.out), (BK703.out), (BK704.out), (BK714.out), (BK715.out), GE714.out, NB693_714.out, NB714_693.out, NB694_714.out, NB714_694.out, NB695_714.out, NB714_695.out, NB703_714.out, NB714_703.out, NB704_714.out, NB714_704.out, NB715_714.out, NB714_715.out, GE715.out, NB693_715.out, NB715_693.out, NB694_715.out, NB715_694.out, NB695_715.out, NB715_695.out, NB703_715.out, NB715_703.out, NB704_715.out, NB715_704.out, (HB.out)⟩)
       skip
       rintro _ w37 ⟨hS_, h0_, h1_, h2_, h3_, h4_, h5_⟩
       have n0_ : Aside0 (w37.heap[gb693]? = some (.cells #[.int .i64 a0_0, .int .i64 a0_1, .int .i64 a0_2] 23 (0, 0))) := ⟨h0_⟩
       have n1_ : Aside0 (w37.heap[gb694]? = some (.cells #[.int .i64 a1_0, .int .i64 a1_1, .int .i64 a1_2] 23 (0, 0))) := ⟨h1_⟩
       have n2_ : Aside0 (w37.heap[gb695]? = some (.cells #[.int .i64 a2_0, .int .i64 a2_1, .int .i64 a2_2, .int .i64 a2_3, .int .i64 a2_4, .int .i64 a2_5] 56 (0, 0))) := ⟨h2_⟩
       have n3_ : Aside0 (w37.heap[gb703]? = some (.cells #[.int .i64 t697, .int .i64 t698] 28 (0, 0))) := ⟨h3_⟩
       have n4_ : Aside0 (w37.heap[gb704]? = some (.cells #[.int .i64 t699, .int .i64 t700] 28 (0, 0))) := ⟨h4_⟩
       have n5_ : Aside0 (Below w.heap.size w w37) := ⟨h5_⟩
       clear BK693
       clear BK694
       clear BK695
       clear BK703
       clear BK704
       clear HB
       clear h0_ h1_ h2_ h3_ h4_ h5_
       have BK693 := n0_
       have BK694 := n1_
       have BK695 := n2_
       have BK703 := n3_
       have BK704 := n4_
       have HB := n5_
       clear n0_ n1_ n2_ n3_ n4_ n5_
       have hHeld : w37.cell? ⟨gb693, 0, none⟩ = some (.int .i64 a0_0) ∧ w37.cell? ⟨gb693, 1, none⟩ = some (.int .i64 a0_1) ∧ w37.cell? ⟨gb693, 2, none⟩ = some (.int .i64 a0_2) ∧ w37.cell? ⟨gb694, 0, none⟩ = some (.int .i64 a1_0) ∧ w37.cell? ⟨gb694, 1, none⟩ = some (.int .i64 a1_1) ∧ w37.cell? ⟨gb694, 2, none⟩ = some (.int .i64 a1_2) ∧ w37.cell? ⟨gb695, 0, none⟩ = some (.int .i64 a2_0) ∧ w37.cell? ⟨gb695, 1, none⟩ = some (.int .i64 a2_1) ∧ w37.cell? ⟨gb695, 2, none⟩ = some (.int .i64 a2_2) ∧ w37.cell? ⟨gb695, 3, none⟩ = some (.int .i64 a2_3) ∧ w37.cell? ⟨gb695, 4, none⟩ = some (.int .i64 a2_4) ∧ w37.cell? ⟨gb695, 5, none⟩ = some (.int .i64 a2_5) := hS_
       refine norm_ (a' := ?_) ?_ ?_
       rotate_left
       ·simp only [putAll, Act.put, List.setIfInBounds_toArray, List.set_cons_zero, List.set_cons_succ]
        rfl
       refine two_ (i := 11) (j := 12) (Ni := some 13) (Nj := some 14) #[true, true, true, true, true, true, true, true, true, true, true, true, false, false, false, false, false] #[true, true, true, true, true, true, true, true, true, true, true, false, true, false, false, false, false] rfl rfl rfl rfl (two_of HT_.out (by kernel_rfl)) (by decide) (by decide) (fun K hK => ?_) (fun K hK => ?_)
       ·skip
        refine box_step ?hg (N := 13) ?hd (cs := #[.int .i64 0, .int .i64 0]) (t := 28) ?hr ?_; (case hd => rfl); (case hg => rfl); (case hr => first | (go_simp; done) | (go_simp; rfl))
        intro gb714 hg w38 hbox hb
        have BK714 := Aside0.mk (hbox)
        have GE714 := Aside0.mk (bG hg (HB.out))
        have NB693_714 := cN hg BK693
        have NB714_693 := cM hg BK693
        have NB694_714 := cN hg BK694
        have NB714_694 := cM hg BK694
        have NB695_714 := cN hg BK695
        have NB714_695 := cM hg BK695
        have NB703_714 := cN hg BK703
        have NB714_703 := cM hg BK703
        have NB704_714 := cN hg BK704
        have NB714_704 := cM hg BK704
        replace BK693 := cB hb BK693
        replace BK694 := cB hb BK694
        replace BK695 := cB hb BK695
        replace BK703 := cB hb BK703
        replace BK704 := cB hb BK704
        replace HB := Aside0.mk (below_step (HB.out) hb)
        clear hb hbox hg
        refine hK.out _ _ ⟨(blk_cell BK693.out 0).trans rfl, (blk_cell BK693.out 1).trans rfl, (blk_cell BK693.out 2).trans rfl, (blk_cell BK694.out 0).trans rfl, (blk_cell BK694.out 1).trans rfl, (blk_cell BK694.out 2).trans rfl, (blk_cell BK695.out 0).trans rfl, (blk_cell BK695.out 1).trans rfl, (blk_cell BK695.out 2).trans rfl, (blk_cell BK695.out 3).trans rfl, (blk_cell BK695.out 4).trans rfl, (blk_cell BK695.out 5).trans rfl⟩ (fun hHeld => ?_)
        clear hK K
        refine norm_ (a' := ?_) ?_ ?_
        rotate_left
        ·show Act.put _ (some 13) _ = _
         simp only [Act.put, List.setIfInBounds_toArray, List.set_cons_zero, List.set_cons_succ, i64_w, i32_w]
         rfl
        exact norm_ (by simp only [putAll, Act.put, List.setIfInBounds_toArray, List.set_cons_zero, List.set_cons_succ] <;> rfl) (hJ3_5_11 (gb714) _ ⟨hHeld, (BK693.out), (BK694.out), (BK695.out), (BK703.out), (BK704.out), (BK714.out), GE714.out, NB693_714.out, NB714_693.out, NB694_714.out, NB714_694.out, NB695_714.out, NB714_695.out, NB703_714.out, NB714_703.out, NB704_714.out, NB714_704.out, (HB.out)⟩)
       skip
       refine box_step ?hg (N := 14) ?hd (cs := #[.int .i64 0, .int .i64 0]) (t := 28) ?hr ?_; (case hd => rfl); (case hg => rfl); (case hr => first | (go_simp; done) | (go_simp; rfl))
       intro gb715 hg w38 hbox hb
       have BK715 := Aside0.mk (hbox)
       have GE715 := Aside0.mk (bG hg (HB.out))
       have NB693_715 := cN hg BK693
       have NB715_693 := cM hg BK693
       have NB694_715 := cN hg BK694
       have NB715_694 := cM hg BK694
       have NB695_715 := cN hg BK695
       have NB715_695 := cM hg BK695
       have NB703_715 := cN hg BK703
       have NB715_703 := cM hg BK703
       have NB704_715 := cN hg BK704
       have NB715_704 := cM hg BK704
       replace BK693 := cB hb BK693
       replace BK694 := cB hb BK694
       replace BK695 := cB hb BK695
       replace BK703 := cB hb BK703
       replace BK704 := cB hb BK704
       replace HB := Aside0.mk (below_step (HB.out) hb)
       clear hb hbox hg
       refine hK.out _ _ ⟨(blk_cell BK693.out 0).trans rfl, (blk_cell BK693.out 1).trans rfl, (blk_cell BK693.out 2).trans rfl, (blk_cell BK694.out 0).trans rfl, (blk_cell BK694.out 1).trans rfl, (blk_cell BK694.out 2).trans rfl, (blk_cell BK695.out 0).trans rfl, (blk_cell BK695.out 1).trans rfl, (blk_cell BK695.out 2).trans rfl, (blk_cell BK695.out 3).trans rfl, (blk_cell BK695.out 4).trans rfl, (blk_cell BK695.out 5).trans rfl⟩ (fun hHeld => ?_)
       clear hK K
       refine norm_ (a' := ?_) ?_ ?_
       rotate_left
       ·show Act.put _ (some 14) _ = _
        simp only [Act.put, List.setIfInBounds_toArray, List.set_cons_zero, List.set_cons_succ, i64_w, i32_w]
        rfl
       exact norm_ (by simp only [putAll, Act.put, List.setIfInBounds_toArray, List.set_cons_zero, List.set_cons_succ] <;> rfl) (hJ3_5_12 (gb715) _ ⟨hHeld, (BK693.out), (BK694.out), (BK695.out), (BK703.out), (BK704.out), (BK715.out), GE715.out, NB693_715.out, NB715_693.out, NB694_715.out, NB715_694.out, NB695_715.out, NB715_695.out, NB703_715.out, NB715_703.out, NB704_715.out, NB715_704.out, (HB.out)⟩)
      skip
      rintro ⟨gb714, gb715⟩ w38 ⟨hS_, h0_, h1_, h2_, h3_, h4_, h5_, h6_, h7_, h8_, h9_, h10_, h11_, h12_, h13_, h14_, h15_, h16_, h17_, h18_, h19_, h20_, h21_, h22_, h23_, h24_, h25_, h26_, h27_, h28_, h29_, h30_, h31_⟩
      have n0_ : Aside0 (w38.heap[gb693]? = some (.cells #[.int .i64 a0_0, .int .i64 a0_1, .int .i64 a0_2] 23 (0, 0))) := ⟨h0_⟩
      have n1_ : Aside0 (w38.heap[gb694]? = some (.cells #[.int .i64 a1_0, .int .i64 a1_1, .int .i64 a1_2] 23 (0, 0))) := ⟨h1_⟩
      have n2_ : Aside0 (w38.heap[gb695]? = some (.cells #[.int .i64 a2_0, .int .i64 a2_1, .int .i64 a2_2, .int .i64 a2_3, .int .i64 a2_4, .int .i64 a2_5] 56 (0, 0))) := ⟨h2_⟩
      have n3_ : Aside0 (w38.heap[gb703]? = some (.cells #[.int .i64 t697, .int .i64 t698] 28 (0, 0))) := ⟨h3_⟩
      have n4_ : Aside0 (w38.heap[gb704]? = some (.cells #[.int .i64 t699, .int .i64 t700] 28 (0, 0))) := ⟨h4_⟩
      have n5_ : Aside0 (w38.heap[gb714]? = some (.cells #[.int .i64 0, .int .i64 0] 28 (0, 0))) := ⟨h5_⟩
      have n6_ : Aside0 (w38.heap[gb715]? = some (.cells #[.int .i64 0, .int .i64 0] 28 (0, 0))) := ⟨h6_⟩
      have GE714 : Aside0 (w.heap.size ≤ gb714) := ⟨h7_⟩
      have NB693_714 : Aside0 (gb693 ≠ gb714) := ⟨h8_⟩
      have NB714_693 : Aside0 (gb714 ≠ gb693) := ⟨h9_⟩
      have NB694_714 : Aside0 (gb694 ≠ gb714) := ⟨h10_⟩
      have NB714_694 : Aside0 (gb714 ≠ gb694) := ⟨h11_⟩
      have NB695_714 : Aside0 (gb695 ≠ gb714) := ⟨h12_⟩
      have NB714_695 : Aside0 (gb714 ≠ gb695) := ⟨h13_⟩
      have NB703_714 : Aside0 (gb703 ≠ gb714) := ⟨h14_⟩
      have NB714_703 : Aside0 (gb714 ≠ gb703) := ⟨h15_⟩
      have NB704_714 : Aside0 (gb704 ≠ gb714) := ⟨h16_⟩
      have NB714_704 : Aside0 (gb714 ≠ gb704) := ⟨h17_⟩
      have NB715_714 : Aside0 (gb715 ≠ gb714) := ⟨h18_⟩
      have NB714_715 : Aside0 (gb714 ≠ gb715) := ⟨h19_⟩
      have GE715 : Aside0 (w.heap.size ≤ gb715) := ⟨h20_⟩
      have NB693_715 : Aside0 (gb693 ≠ gb715) := ⟨h21_⟩
      have NB715_693 : Aside0 (gb715 ≠ gb693) := ⟨h22_⟩
      have NB694_715 : Aside0 (gb694 ≠ gb715) := ⟨h23_⟩
      have NB715_694 : Aside0 (gb715 ≠ gb694) := ⟨h24_⟩
      have NB695_715 : Aside0 (gb695 ≠ gb715) := ⟨h25_⟩
      have NB715_695 : Aside0 (gb715 ≠ gb695) := ⟨h26_⟩
      have NB703_715 : Aside0 (gb703 ≠ gb715) := ⟨h27_⟩
      have NB715_703 : Aside0 (gb715 ≠ gb703) := ⟨h28_⟩
      have NB704_715 : Aside0 (gb704 ≠ gb715) := ⟨h29_⟩
      have NB715_704 : Aside0 (gb715 ≠ gb704) := ⟨h30_⟩
      have n31_ : Aside0 (Below w.heap.size w w38) := ⟨h31_⟩
      clear BK693
      clear BK694
      clear BK695
      clear BK703
      clear BK704
      clear HB
      clear h0_ h1_ h2_ h3_ h4_ h5_ h6_ h7_ h8_ h9_ h10_ h11_ h12_ h13_ h14_ h15_ h16_ h17_ h18_ h19_ h20_ h21_ h22_ h23_ h24_ h25_ h26_ h27_ h28_ h29_ h30_ h31_
      have BK693 := n0_
      have BK694 := n1_
      have BK695 := n2_
      have BK703 := n3_
      have BK704 := n4_
      have BK714 := n5_
      have BK715 := n6_
      have HB := n31_
      clear n0_ n1_ n2_ n3_ n4_ n5_ n6_ n31_
      have hHeld : w38.cell? ⟨gb693, 0, none⟩ = some (.int .i64 a0_0) ∧ w38.cell? ⟨gb693, 1, none⟩ = some (.int .i64 a0_1) ∧ w38.cell? ⟨gb693, 2, none⟩ = some (.int .i64 a0_2) ∧ w38.cell? ⟨gb694, 0, none⟩ = some (.int .i64 a1_0) ∧ w38.cell? ⟨gb694, 1, none⟩ = some (.int .i64 a1_1) ∧ w38.cell? ⟨gb694, 2, none⟩ = some (.int .i64 a1_2) ∧ w38.cell? ⟨gb695, 0, none⟩ = some (.int .i64 a2_0) ∧ w38.cell? ⟨gb695, 1, none⟩ = some (.int .i64 a2_1) ∧ w38.cell? ⟨gb695, 2, none⟩ = some (.int .i64 a2_2) ∧ w38.cell? ⟨gb695, 3, none⟩ = some (.int .i64 a2_3) ∧ w38.cell? ⟨gb695, 4, none⟩ = some (.int .i64 a2_4) ∧ w38.cell? ⟨gb695, 5, none⟩ = some (.int .i64 a2_5) := hS_
      refine norm_ (a' := ?_) ?_ ?_
      rotate_left
      ·simp only [putAll, Act.put, List.setIfInBounds_toArray, List.set_cons_zero, List.set_cons_succ]
       rfl
      refine one_ (i := 5) (N := some 44) #[true, true, true, true, true, true, false, false, false, false, false, true, true, false, false, false, false] rfl rfl (one_of HT_.out (by kernel_rfl)) (by decide) (fun K hK => ?_)
      refine goes_ Try.func32 (by kernel_rfl) rfl #[.agg #[.int .i64 a0_0, .int .i64 a0_1, .int .i64 a0_2], .agg #[.int .i64 t705, .int .i64 t706, .int .i64 t707], .agg #[.int .i64 a2_0, .int .i64 a2_1, .int .i64 a2_2, .int .i64 a2_3, .int .i64 a2_4, .int .i64 a2_5]] (by rfl) rfl rfl (by (try simp only [List.map_toArray, List.map_cons, List.map_nil]); first | done | rfl | (simp only [List.length_drop, List.length_take]; rfl)) ?_
      with_reducible refine (slab_Range.calls kj6 a0_0 a0_1 a0_2 t705 t706 t707 a2_0 a2_1 a2_2 a2_3 a2_4 a2_5 t708 t709 t710 t711 t712 t713 _ A16.out).mono ?_
      rintro e w39 ⟨rfl, hb⟩
      refine ⟨_, rfl, ?_⟩
      replace BK693 := cB hb BK693
      replace BK694 := cB hb BK694
      replace BK695 := cB hb BK695
      replace BK703 := cB hb BK703
      replace BK704 := cB hb BK704
      replace BK714 := cB hb BK714
      replace BK715 := cB hb BK715
      replace HB := Aside0.mk (below_step (HB.out) hb)
      (try clear hb)
      (try clear hb2)
      (try clear hk)
      (try clear hi)
      refine hK.out _ _ ⟨(blk_cell BK693.out 0).trans rfl, (blk_cell BK693.out 1).trans rfl, (blk_cell BK693.out 2).trans rfl, (blk_cell BK694.out 0).trans rfl, (blk_cell BK694.out 1).trans rfl, (blk_cell BK694.out 2).trans rfl, (blk_cell BK695.out 0).trans rfl, (blk_cell BK695.out 1).trans rfl, (blk_cell BK695.out 2).trans rfl, (blk_cell BK695.out 3).trans rfl, (blk_cell BK695.out 4).trans rfl, (blk_cell BK695.out 5).trans rfl⟩ (fun hHeld => ?_)
      clear hK K
      refine norm_ (a' := ?_) ?_ ?_
      rotate_left
      ·show Act.put _ (some 44) _ = _
       simp only [Act.put, List.setIfInBounds_toArray, List.set_cons_zero, List.set_cons_succ, i64_w, i32_w]
       rfl
      refine pure_ (i := 6) (N := some 38) (v := ?_) (a' := ?_) #[true, true, true, true, true, true, true, false, false, false, false, true, true, false, false, false, false] rfl rfl (any_of HT_.out (by kernel_rfl)) (fun _ _ _ h => h) (Or.inl ⟨by rfl, ?_⟩) ?_ ?_
      rotate_left
      ·intro w'
       go_simp
       with_reducible rfl
      rotate_left
      ·simp only [Act.put, List.setIfInBounds_toArray, List.set_cons_zero, List.set_cons_succ, i64_w, i32_w]
       rfl
      refine pure_ (i := 7) (N := some 45) (v := ?_) (a' := ?_) #[true, true, true, true, true, true, true, true, false, false, false, true, true, false, false, false, false] rfl rfl (any_of HT_.out (by kernel_rfl)) (fun _ _ _ h => h) (Or.inl ⟨by rfl, ?_⟩) ?_ ?_
      rotate_left
      ·intro w'
       go_simp
       with_reducible rfl
      rotate_left
      ·simp only [Act.put, List.setIfInBounds_toArray, List.set_cons_zero, List.set_cons_succ, i64_w, i32_w]
       rfl
      refine pure_ (i := 8) (N := some 46) (v := ?_) (a' := ?_) #[true, true, true, true, true, true, true, true, true, false, false, true, true, false, false, false, false] rfl rfl (any_of HT_.out (by kernel_rfl)) (fun _ _ _ h => h) (Or.inl ⟨by rfl, ?_⟩) ?_ ?_
      rotate_left
      ·intro w'
       go_simp
       with_reducible rfl
      rotate_left
      ·simp only [Act.put, List.setIfInBounds_toArray, List.set_cons_zero, List.set_cons_succ, i64_w, i32_w]
       rfl
      refine pure_ (i := 9) (N := some 47) (v := ?_) (a' := ?_) #[true, true, true, true, true, true, true, true, true, true, false, true, true, false, false, false, false] rfl rfl (any_of HT_.out (by kernel_rfl)) (fun _ _ _ h => h) (Or.inl ⟨by rfl, ?_⟩) ?_ ?_
      rotate_left
      ·intro w'
       go_simp
       with_reducible rfl
      rotate_left
      ·simp only [Act.put, List.setIfInBounds_toArray, List.set_cons_zero, List.set_cons_succ, i64_w, i32_w]
       rfl
      refine pure_ (i := 10) (N := some 48) (v := ?_) (a' := ?_) #[true, true, true, true, true, true, true, true, true, true, true, true, true, false, false, false, false] rfl rfl (any_of HT_.out (by kernel_rfl)) (fun _ _ _ h => h) (Or.inl ⟨by rfl, ?_⟩) ?_ ?_
      rotate_left
      ·intro w'
       go_simp
       with_reducible rfl
      rotate_left
      ·simp only [Act.put, List.setIfInBounds_toArray, List.set_cons_zero, List.set_cons_succ, i64_w, i32_w]
       rfl
      exact norm_ (by simp only [putAll, Act.put, List.setIfInBounds_toArray, List.set_cons_zero, List.set_cons_succ] <;> rfl) (hJ3_5_11_12 (gb714, gb715) _ ⟨hHeld, (BK693.out), (BK694.out), (BK695.out), (BK703.out), (BK704.out), (BK714.out), (BK715.out), GE714.out, NB693_714.out, NB714_693.out, NB694_714.out, NB714_694.out, NB695_714.out, NB714_695.out, NB703_714.out, NB714_703.out, NB704_714.out, NB714_704.out, NB715_714.out, NB714_715.out, GE715.out, NB693_715.out, NB715_693.out, NB694_715.out, NB715_694.out, NB695_715.out, NB715_695.out, NB703_715.out, NB715_703.out, NB704_715.out, NB715_704.out, (HB.out)⟩)
     skip
     rintro gb715 w38 ⟨hS_, h0_, h1_, h2_, h3_, h4_, h5_, h6_, h7_, h8_, h9_, h10_, h11_, h12_, h13_, h14_, h15_, h16_, h17_⟩
     have n0_ : Aside0 (w38.heap[gb693]? = some (.cells #[.int .i64 a0_0, .int .i64 a0_1, .int .i64 a0_2] 23 (0, 0))) := ⟨h0_⟩
     have n1_ : Aside0 (w38.heap[gb694]? = some (.cells #[.int .i64 a1_0, .int .i64 a1_1, .int .i64 a1_2] 23 (0, 0))) := ⟨h1_⟩
     have n2_ : Aside0 (w38.heap[gb695]? = some (.cells #[.int .i64 a2_0, .int .i64 a2_1, .int .i64 a2_2, .int .i64 a2_3, .int .i64 a2_4, .int .i64 a2_5] 56 (0, 0))) := ⟨h2_⟩
     have n3_ : Aside0 (w38.heap[gb703]? = some (.cells #[.int .i64 t697, .int .i64 t698] 28 (0, 0))) := ⟨h3_⟩
     have n4_ : Aside0 (w38.heap[gb704]? = some (.cells #[.int .i64 t699, .int .i64 t700] 28 (0, 0))) := ⟨h4_⟩
     have n5_ : Aside0 (w38.heap[gb715]? = some (.cells #[.int .i64 0, .int .i64 0] 28 (0, 0))) := ⟨h5_⟩
     have GE715 : Aside0 (w.heap.size ≤ gb715) := ⟨h6_⟩
     have NB693_715 : Aside0 (gb693 ≠ gb715) := ⟨h7_⟩
     have NB715_693 : Aside0 (gb715 ≠ gb693) := ⟨h8_⟩
     have NB694_715 : Aside0 (gb694 ≠ gb715) := ⟨h9_⟩
     have NB715_694 : Aside0 (gb715 ≠ gb694) := ⟨h10_⟩
     have NB695_715 : Aside0 (gb695 ≠ gb715) := ⟨h11_⟩
     have NB715_695 : Aside0 (gb715 ≠ gb695) := ⟨h12_⟩
     have NB703_715 : Aside0 (gb703 ≠ gb715) := ⟨h13_⟩
     have NB715_703 : Aside0 (gb715 ≠ gb703) := ⟨h14_⟩
     have NB704_715 : Aside0 (gb704 ≠ gb715) := ⟨h15_⟩
     have NB715_704 : Aside0 (gb715 ≠ gb704) := ⟨h16_⟩
     have n17_ : Aside0 (Below w.heap.size w w38) := ⟨h17_⟩
     clear BK693
     clear BK694
     clear BK695
     clear BK703
     clear BK704
     clear HB
     clear h0_ h1_ h2_ h3_ h4_ h5_ h6_ h7_ h8_ h9_ h10_ h11_ h12_ h13_ h14_ h15_ h16_ h17_
     have BK693 := n0_
     have BK694 := n1_
     have BK695 := n2_
     have BK703 := n3_
     have BK704 := n4_
     have BK715 := n5_
     have HB := n17_
     clear n0_ n1_ n2_ n3_ n4_ n5_ n17_
     have hHeld : w38.cell? ⟨gb693, 0, none⟩ = some (.int .i64 a0_0) ∧ w38.cell? ⟨gb693, 1, none⟩ = some (.int .i64 a0_1) ∧ w38.cell? ⟨gb693, 2, none⟩ = some (.int .i64 a0_2) ∧ w38.cell? ⟨gb694, 0, none⟩ = some (.int .i64 a1_0) ∧ w38.cell? ⟨gb694, 1, none⟩ = some (.int .i64 a1_1) ∧ w38.cell? ⟨gb694, 2, none⟩ = some (.int .i64 a1_2) ∧ w38.cell? ⟨gb695, 0, none⟩ = some (.int .i64 a2_0) ∧ w38.cell? ⟨gb695, 1, none⟩ = some (.int .i64 a2_1) ∧ w38.cell? ⟨gb695, 2, none⟩ = some (.int .i64 a2_2) ∧ w38.cell? ⟨gb695, 3, none⟩ = some (.int .i64 a2_3) ∧ w38.cell? ⟨gb695, 4, none⟩ = some (.int .i64 a2_4) ∧ w38.cell? ⟨gb695, 5, none⟩ = some (.int .i64 a2_5) := hS_
     refine norm_ (a' := ?_) ?_ ?_
     rotate_left
     ·simp only [putAll, Act.put, List.setIfInBounds_toArray, List.set_cons_zero, List.set_cons_succ]
      rfl
     refine one_ (i := 11) (N := some 13) #[true, true, true, true, true, true, true, true, true, true, true, true, true, false, false, false, false] rfl rfl (one_of HT_.out (by kernel_rfl)) (by decide) (fun K hK => ?_)
     refine box_step ?hg (N := 13) ?hd (cs := #[.int .i64 0, .int .i64 0]) (t := 28) ?hr ?_; (case hd => rfl); (case hg => rfl); (case hr => first | (go_simp; done) | (go_simp; rfl))
     intro gb714 hg w39 hbox hb
     have BK714 := Aside0.mk (hbox)
     have GE714 := Aside0.mk (bG hg (HB.out))
     have NB693_714 := cN hg BK693
     have NB714_693 := cM hg BK693
     have NB694_714 := cN hg BK694
     have NB714_694 := cM hg BK694
     have NB695_714 := cN hg BK695
     have NB714_695 := cM hg BK695
     have NB703_714 := cN hg BK703
     have NB714_703 := cM hg BK703
     have NB704_714 := cN hg BK704
     have NB714_704 := cM hg BK704
     have NB715_714 := cN hg BK715
     have NB714_715 := cM hg BK715
     replace BK693 := cB hb BK693
     replace BK694 := cB hb BK694
     replace BK695 := cB hb BK695
     replace BK703 := cB hb BK703
     replace BK704 := cB hb BK704
     replace BK715 := cB hb BK715
     replace HB := Aside0.mk (below_step (HB.out) hb)
     clear hb hbox hg
     refine hK.out _ _ ⟨(blk_cell BK693.out 0).trans rfl, (blk_cell BK693.out 1).trans rfl, (blk_cell BK693.out 2).trans rfl, (blk_cell BK694.out 0).trans rfl, (blk_cell BK694.out 1).trans rfl, (blk_cell BK694.out 2).trans rfl, (blk_cell BK695.out 0).trans rfl, (blk_cell BK695.out 1).trans rfl, (blk_cell BK695.out 2).trans rfl, (blk_cell BK695.out 3).trans rfl, (blk_cell BK695.out 4).trans rfl, (blk_cell BK695.out 5).trans rfl⟩ (fun hHeld => ?_)
     clear hK K
     refine norm_ (a' := ?_) ?_ ?_
     rotate_left
     ·show Act.put _ (some 13) _ = _
      simp only [Act.put, List.setIfInBounds_toArray, List.set_cons_zero, List.set_cons_succ, i64_w, i32_w]
      rfl
     exact norm_ (by simp only [putAll, Act.put, List.setIfInBounds_toArray, List.set_cons_zero, List.set_cons_succ] <;> rfl) (hJ3_5_11_12 (gb714, gb715) _ ⟨hHeld, (BK693.out), (BK694.out), (BK695.out), (BK703.out), (BK704.out), (BK714.out), (BK715.out), GE714.out, NB693_714.out, NB714_693.out, NB694_714.out, NB714_694.out, NB695_714.out, NB714_695.out, NB703_714.out, NB714_703.out, NB704_714.out, NB714_704.out, NB715_714.out, NB714_715.out, GE715.out, NB693_715.out, NB715_693.out, NB694_715.out, NB715_694.out, NB695_715.out, NB715_695.out, NB703_715.out, NB715_703.out, NB704_715.out, NB715_704.out, (HB.out)⟩)
    skip
    rintro gb714 w38 ⟨hS_, h0_, h1_, h2_, h3_, h4_, h5_, h6_, h7_, h8_, h9_, h10_, h11_, h12_, h13_, h14_, h15_, h16_, h17_⟩
    have n0_ : Aside0 (w38.heap[gb693]? = some (.cells #[.int .i64 a0_0, .int .i64 a0_1, .int .i64 a0_2] 23 (0, 0))) := ⟨h0_⟩
    have n1_ : Aside0 (w38.heap[gb694]? = some (.cells #[.int .i64 a1_0, .int .i64 a1_1, .int .i64 a1_2] 23 (0, 0))) := ⟨h1_⟩
    have n2_ : Aside0 (w38.heap[gb695]? = some (.cells #[.int .i64 a2_0, .int .i64 a2_1, .int .i64 a2_2, .int .i64 a2_3, .int .i64 a2_4, .int .i64 a2_5] 56 (0, 0))) := ⟨h2_⟩
    have n3_ : Aside0 (w38.heap[gb703]? = some (.cells #[.int .i64 t697, .int .i64 t698] 28 (0, 0))) := ⟨h3_⟩
    have n4_ : Aside0 (w38.heap[gb704]? = some (.cells #[.int .i64 t699, .int .i64 t700] 28 (0, 0))) := ⟨h4_⟩
    have n5_ : Aside0 (w38.heap[gb714]? = some (.cells #[.int .i64 0, .int .i64 0] 28 (0, 0))) := ⟨h5_⟩
    have GE714 : Aside0 (w.heap.size ≤ gb714) := ⟨h6_⟩
    have NB693_714 : Aside0 (gb693 ≠ gb714) := ⟨h7_⟩
    have NB714_693 : Aside0 (gb714 ≠ gb693) := ⟨h8_⟩
    have NB694_714 : Aside0 (gb694 ≠ gb714) := ⟨h9_⟩
    have NB714_694 : Aside0 (gb714 ≠ gb694) := ⟨h10_⟩
    have NB695_714 : Aside0 (gb695 ≠ gb714) := ⟨h11_⟩
    have NB714_695 : Aside0 (gb714 ≠ gb695) := ⟨h12_⟩
    have NB703_714 : Aside0 (gb703 ≠ gb714) := ⟨h13_⟩
    have NB714_703 : Aside0 (gb714 ≠ gb703) := ⟨h14_⟩
    have NB704_714 : Aside0 (gb704 ≠ gb714) := ⟨h15_⟩
    have NB714_704 : Aside0 (gb714 ≠ gb704) := ⟨h16_⟩
    have n17_ : Aside0 (Below w.heap.size w w38) := ⟨h17_⟩
    clear BK693
    clear BK694
    clear BK695
    clear BK703
    clear BK704
    clear HB
    clear h0_ h1_ h2_ h3_ h4_ h5_ h6_ h7_ h8_ h9_ h10_ h11_ h12_ h13_ h14_ h15_ h16_ h17_
    have BK693 := n0_
    have BK694 := n1_
    have BK695 := n2_
    have BK703 := n3_
    have BK704 := n4_
    have BK714 := n5_
    have HB := n17_
    clear n0_ n1_ n2_ n3_ n4_ n5_ n17_
    have hHeld : w38.cell? ⟨gb693, 0, none⟩ = some (.int .i64 a0_0) ∧ w38.cell? ⟨gb693, 1, none⟩ = some (.int .i64 a0_1) ∧ w38.cell? ⟨gb693, 2, none⟩ = some (.int .i64 a0_2) ∧ w38.cell? ⟨gb694, 0, none⟩ = some (.int .i64 a1_0) ∧ w38.cell? ⟨gb694, 1, none⟩ = some (.int .i64 a1_1) ∧ w38.cell? ⟨gb694, 2, none⟩ = some (.int .i64 a1_2) ∧ w38.cell? ⟨gb695, 0, none⟩ = some (.int .i64 a2_0) ∧ w38.cell? ⟨gb695, 1, none⟩ = some (.int .i64 a2_1) ∧ w38.cell? ⟨gb695, 2, none⟩ = some (.int .i64 a2_2) ∧ w38.cell? ⟨gb695, 3, none⟩ = some (.int .i64 a2_3) ∧ w38.cell? ⟨gb695, 4, none⟩ = some (.int .i64 a2_4) ∧ w38.cell? ⟨gb695, 5, none⟩ = some (.int .i64 a2_5) := hS_
    refine norm_ (a' := ?_) ?_ ?_
    rotate_left
    ·simp only [putAll, Act.put, List.setIfInBounds_toArray, List.set_cons_zero, List.set_cons_succ]
     rfl
    refine one_ (i := 12) (N := some 14) #[true, true, true, true, true, true, true, true, true, true, true, true, true, false, false, false, false] rfl rfl (one_of HT_.out (by kernel_rfl)) (by decide) (fun K hK => ?_)
    refine box_step ?hg (N := 14) ?hd (cs := #[.int .i64 0, .int .i64 0]) (t := 28) ?hr ?_; (case hd => rfl); (case hg => rfl); (case hr => first | (go_simp; done) | (go_simp; rfl))
    intro gb715 hg w39 hbox hb
    have BK715 := Aside0.mk (hbox)
    have GE715 := Aside0.mk (bG hg (HB.out))
    have NB693_715 := cN hg BK693
    have NB715_693 := cM hg BK693
    have NB694_715 := cN hg BK694
    have NB715_694 := cM hg BK694
    have NB695_715 := cN hg BK695
    have NB715_695 := cM hg BK695
    have NB703_715 := cN hg BK703
    have NB715_703 := cM hg BK703
    have NB704_715 := cN hg BK704
    have NB715_704 := cM hg BK704
    have NB714_715 := cN hg BK714
    have NB715_714 := cM hg BK714
    replace BK693 := cB hb BK693
    replace BK694 := cB hb BK694
    replace BK695 := cB hb BK695
    replace BK703 := cB hb BK703
    replace BK704 := cB hb BK704
    replace BK714 := cB hb BK714
    replace HB := Aside0.mk (below_step (HB.out) hb)
    clear hb hbox hg
    refine hK.out _ _ ⟨(blk_cell BK693.out 0).trans rfl, (blk_cell BK693.out 1).trans rfl, (blk_cell BK693.out 2).trans rfl, (blk_cell BK694.out 0).trans rfl, (blk_cell BK694.out 1).trans rfl, (blk_cell BK694.out 2).trans rfl, (blk_cell BK695.out 0).trans rfl, (blk_cell BK695.out 1).trans rfl, (blk_cell BK695.out 2).trans rfl, (blk_cell BK695.out 3).trans rfl, (blk_cell BK695.out 4).trans rfl, (blk_cell BK695.out 5).trans rfl⟩ (fun hHeld => ?_)
    clear hK K
    refine norm_ (a' := ?_) ?_ ?_
    rotate_left
    ·show Act.put _ (some 14) _ = _
     simp only [Act.put, List.setIfInBounds_toArray, List.set_cons_zero, List.set_cons_succ, i64_w, i32_w]
     rfl
    exact norm_ (by simp only [putAll, Act.put, List.setIfInBounds_toArray, List.set_cons_zero, List.set_cons_succ] <;> rfl) (hJ3_5_11_12 (gb714, gb715) _ ⟨hHeld, (BK693.out), (BK694.out), (BK695.out), (BK703.out), (BK704.out), (BK714.out), (BK715.out), GE714.out, NB693_714.out, NB714_693.out, NB694_714.out, NB714_694.out, NB695_714.out, NB714_695.out, NB703_714.out, NB714_703.out, NB704_714.out, NB714_704.out, NB715_714.out, NB714_715.out, GE715.out, NB693_715.out, NB715_693.out, NB694_715.out, NB715_694.out, NB695_715.out, NB715_695.out, NB703_715.out, NB715_703.out, NB704_715.out, NB715_704.out, (HB.out)⟩)
   rintro ⟨gb714, gb715⟩ w39 ⟨hS_, h0_, h1_, h2_, h3_, h4_, h5_, h6_, h7_, h8_, h9_, h10_, h11_, h12_, h13_, h14_, h15_, h16_, h17_, h18_, h19_, h20_, h21_, h22_, h23_, h24_, h25_, h26_, h27_, h28_, h29_, h30_, h31_⟩
   have n0_ : Aside0 (w39.heap[gb693]? = some (.cells #[.int .i64 a0_0, .int .i64 a0_1, .int .i64 a0_2] 23 (0, 0))) := ⟨h0_⟩
   have n1_ : Aside0 (w39.heap[gb694]? = some (.cells #[.int .i64 a1_0, .int .i64 a1_1, .int .i64 a1_2] 23 (0, 0))) := ⟨h1_⟩
   have n2_ : Aside0 (w39.heap[gb695]? = some (.cells #[.int .i64 a2_0, .int .i64 a2_1, .int .i64 a2_2, .int .i64 a2_3, .int .i64 a2_4, .int .i64 a2_5] 56 (0, 0))) := ⟨h2_⟩
   have n3_ : Aside0 (w39.heap[gb703]? = some (.cells #[.int .i64 t697, .int .i64 t698] 28 (0, 0))) := ⟨h3_⟩
   have n4_ : Aside0 (w39.heap[gb704]? = some (.cells #[.int .i64 t699, .int .i64 t700] 28 (0, 0))) := ⟨h4_⟩
   have n5_ : Aside0 (w39.heap[gb714]? = some (.cells #[.int .i64 0, .int .i64 0] 28 (0, 0))) := ⟨h5_⟩
   have n6_ : Aside0 (w39.heap[gb715]? = some (.cells #[.int .i64 0, .int .i64 0] 28 (0, 0))) := ⟨h6_⟩
   have GE714 : Aside0 (w.heap.size ≤ gb714) := ⟨h7_⟩
   have NB693_714 : Aside0 (gb693 ≠ gb714) := ⟨h8_⟩
   have NB714_693 : Aside0 (gb714 ≠ gb693) := ⟨h9_⟩
   have NB694_714 : Aside0 (gb694 ≠ gb714) := ⟨h10_⟩
   have NB714_694 : Aside0 (gb714 ≠ gb694) := ⟨h11_⟩
   have NB695_714 : Aside0 (gb695 ≠ gb714) := ⟨h12_⟩
   have NB714_695 : Aside0 (gb714 ≠ gb695) := ⟨h13_⟩
   have NB703_714 : Aside0 (gb703 ≠ gb714) := ⟨h14_⟩
   have NB714_703 : Aside0 (gb714 ≠ gb703) := ⟨h15_⟩
   have NB704_714 : Aside0 (gb704 ≠ gb714) := ⟨h16_⟩
   have NB714_704 : Aside0 (gb714 ≠ gb704) := ⟨h17_⟩
   have NB715_714 : Aside0 (gb715 ≠ gb714) := ⟨h18_⟩
   have NB714_715 : Aside0 (gb714 ≠ gb715) := ⟨h19_⟩
   have GE715 : Aside0 (w.heap.size ≤ gb715) := ⟨h20_⟩
   have NB693_715 : Aside0 (gb693 ≠ gb715) := ⟨h21_⟩
   have NB715_693 : Aside0 (gb715 ≠ gb693) := ⟨h22_⟩
   have NB694_715 : Aside0 (gb694 ≠ gb715) := ⟨h23_⟩
   have NB715_694 : Aside0 (gb715 ≠ gb694) := ⟨h24_⟩
   have NB695_715 : Aside0 (gb695 ≠ gb715) := ⟨h25_⟩
   have NB715_695 : Aside0 (gb715 ≠ gb695) := ⟨h26_⟩
   have NB703_715 : Aside0 (gb703 ≠ gb715) := ⟨h27_⟩
   have NB715_703 : Aside0 (gb715 ≠ gb703) := ⟨h28_⟩
   have NB704_715 : Aside0 (gb704 ≠ gb715) := ⟨h29_⟩
   have NB715_704 : Aside0 (gb715 ≠ gb704) := ⟨h30_⟩
   have n31_ : Aside0 (Below w.heap.size w w39) := ⟨h31_⟩
   clear BK693
   clear BK694
   clear BK695
   clear BK703
   clear BK704
   clear HB
   clear h0_ h1_ h2_ h3_ h4_ h5_ h6_ h7_ h8_ h9_ h10_ h11_ h12_ h13_ h14_ h15_ h16_ h17_ h18_ h19_ h20_ h21_ h22_ h23_ h24_ h25_ h26_ h27_ h28_ h29_ h30_ h31_
   have BK693 := n0_
   have BK694 := n1_
   have BK695 := n2_
   have BK703 := n3_
   have BK704 := n4_
   have BK714 := n5_
   have BK715 := n6_
   have HB := n31_
   clear n0_ n1_ n2_ n3_ n4_ n5_ n6_ n31_
   have hHeld : w39.cell? ⟨gb693, 0, none⟩ = some (.int .i64 a0_0) ∧ w39.cell? ⟨gb693, 1, none⟩ = some (.int .i64 a0_1) ∧ w39.cell? ⟨gb693, 2, none⟩ = some (.int .i64 a0_2) ∧ w39.cell? ⟨gb694, 0, none⟩ = some (.int .i64 a1_0) ∧ w39.cell? ⟨gb694, 1, none⟩ = some (.int .i64 a1_1) ∧ w39.cell? ⟨gb694, 2, none⟩ = some (.int .i64 a1_2) ∧ w39.cell? ⟨gb695, 0, none⟩ = some (.int .i64 a2_0) ∧ w39.cell? ⟨gb695, 1, none⟩ = some (.int .i64 a2_1) ∧ w39.cell? ⟨gb695, 2, none⟩ = some (.int .i64 a2_2) ∧ w39.cell? ⟨gb695, 3, none⟩ = some (.int .i64 a2_3) ∧ w39.cell? ⟨gb695, 4, none⟩ = some (.int .i64 a2_4) ∧ w39.cell? ⟨gb695, 5, none⟩ = some (.int .i64 a2_5) := hS_
   refine norm_ (a' := ?_) ?_ ?_
   rotate_left
   ·simp only [putAll, Act.put, List.setIfInBounds_toArray, List.set_cons_zero, List.set_cons_succ]
    rfl
   refine one_ (i := 13) (N := none) #[true, true, true, true, true, true, true, true, true, true, true, true, true, true, false, false, false] rfl rfl (one_of HT_.out (by kernel_rfl)) (by decide) (fun K hK => ?_)
   have hs40 : w39.cell? ⟨gb714, 0, none⟩ = some (.int .i64 0) := (blk_cell BK714.out 0).trans rfl
   have hfs40 := blk_frozen BK714.out 0
   have hns40_0 := NB693_714.out
   have hns40_1 := NB694_714.out
   have hns40_2 := NB695_714.out
   have hns40_3 := NB703_714.out
   have hns40_4 := NB704_714.out
   have hns40_6 := NB715_714.out
   have hms40_0 := NB714_693.out
   have hms40_1 := NB714_694.out
   have hms40_2 := NB714_695.out
   have hms40_3 := NB714_703.out
   have hms40_4 := NB714_704.out
   have hms40_6 := NB714_715.out
   have hs41 : w39.cell? ⟨gb714, 1, none⟩ = some (.int .i64 0) := (blk_cell BK714.out 1).trans rfl
   have hfs41 := blk_frozen BK714.out 1
   have hns41_0 := NB693_714.out
   have hns41_1 := NB694_714.out
   have hns41_2 := NB695_714.out
   have hns41_3 := NB703_714.out
   have hns41_4 := NB704_714.out
   have hns41_6 := NB715_714.out
   have hms41_0 := NB714_693.out
   have hms41_1 := NB714_694.out
   have hms41_2 := NB714_695.out
   have hms41_3 := NB714_703.out
   have hms41_4 := NB714_704.out
   have hms41_6 := NB714_715.out
   refine skip_ (w1 := ?_) (by rfl) rfl ?_ ?_
   rotate_left
   ·go_simp
    rfl
   refine hK.out _ _ ⟨(cf NB693_714.out (cf NB693_714.out hHeld.1)), (cf NB693_714.out (cf NB693_714.out hHeld.2.1)), (cf NB693_714.out (cf NB693_714.out hHeld.2.2.1)), (cf NB694_714.out (cf NB694_714.out hHeld.2.2.2.1)), (cf NB694_714.out (cf NB694_714.out hHeld.2.2.2.2.1)), (cf NB694_714.out (cf NB694_714.out hHeld.2.2.2.2.2.1)), (cf NB695_714.out (cf NB695_714.out hHeld.2.2.2.2.2.2.1)), (cf NB695_714.out (cf NB695_714.out hHeld.2.2.2.2.2.2.2.1)), (cf NB695_714.out (cf NB695_714.out hHeld.2.2.2.2.2.2.2.2.1)), (cf NB695_714.out (cf NB695_714.out hHeld.2.2.2.2.2.2.2.2.2.1)), (cf NB695_714.out (cf NB695_714.out hHeld.2.2.2.2.2.2.2.2.2.2.1)), (cf NB695_714.out (cf NB695_714.out hHeld.2.2.2.2.2.2.2.2.2.2.2))⟩ (fun hHeld => ?_)
   clear hK K
   refine one_ (i := 14) (N := none) #[true, true, true, true, true, true, true, true, true, true, true, true, true, true, true, false, false] rfl rfl (one_of HT_.out (by kernel_rfl)) (by decide) (fun K hK => ?_)
   have hs42 : w39.cell? ⟨gb715, 0, none⟩ = some (.int .i64 0) := (blk_cell BK715.out 0).trans rfl
   have hfs42 := blk_frozen BK715.out 0
   have hns42_0 := NB693_715.out
   have hns42_1 := NB694_715.out
   have hns42_2 := NB695_715.out
   have hns42_3 := NB703_715.out
   have hns42_4 := NB704_715.out
   have hns42_5 := NB714_715.out
   have hms42_0 := NB715_693.out
   have hms42_1 := NB715_694.out
   have hms42_2 := NB715_695.out
   have hms42_3 := NB715_703.out
   have hms42_4 := NB715_704.out
   have hms42_5 := NB715_714.out
   have hs43 : w39.cell? ⟨gb715, 1, none⟩ = some (.int .i64 0) := (blk_cell BK715.out 1).trans rfl
   have hfs43 := blk_frozen BK715.out 1
   have hns43_0 := NB693_715.out
   have hns43_1 := NB694_715.out
   have hns43_2 := NB695_715.out
   have hns43_3 := NB703_715.out
   have hns43_4 := NB704_715.out
   have hns43_5 := NB714_715.out
   have hms43_0 := NB715_693.out
   have hms43_1 := NB715_694.out
   have hms43_2 := NB715_695.out
   have hms43_3 := NB715_703.out
   have hms43_4 := NB715_704.out
   have hms43_5 := NB715_714.out
   refine skip_ (w1 := ?_) (by rfl) rfl ?_ ?_
   rotate_left
   ·go_simp
    rfl
   refine hK.out _ _ ⟨(cf NB693_715.out (cf NB693_715.out hHeld.1)), (cf NB693_715.out (cf NB693_715.out hHeld.2.1)), (cf NB693_715.out (cf NB693_715.out hHeld.2.2.1)), (cf NB694_715.out (cf NB694_715.out hHeld.2.2.2.1)), (cf NB694_715.out (cf NB694_715.out hHeld.2.2.2.2.1)), (cf NB694_715.out (cf NB694_715.out hHeld.2.2.2.2.2.1)), (cf NB695_715.out (cf NB695_715.out hHeld.2.2.2.2.2.2.1)), (cf NB695_715.out (cf NB695_715.out hHeld.2.2.2.2.2.2.2.1)), (cf NB695_715.out (cf NB695_715.out hHeld.2.2.2.2.2.2.2.2.1)), (cf NB695_715.out (cf NB695_715.out hHeld.2.2.2.2.2.2.2.2.2.1)), (cf NB695_715.out (cf NB695_715.out hHeld.2.2.2.2.2.2.2.2.2.2.1)), (cf NB695_715.out (cf NB695_715.out hHeld.2.2.2.2.2.2.2.2.2.2.2))⟩ (fun hHeld => ?_)
   clear hK K
   refine pure_ (i := 15) (N := some 15) (v := ?_) (a' := ?_) #[true, true, true, true, true, true, true, true, true, true, true, true, true, true, true, true, false] rfl rfl (any_of HT_.out (by kernel_rfl)) (fun _ _ _ h => h) (Or.inl ⟨by rfl, ?_⟩) ?_ ?_
   rotate_left
   ·intro w'
    go_simp
    with_reducible rfl
   rotate_left
   ·simp only [Act.put, List.setIfInBounds_toArray, List.set_cons_zero, List.set_cons_succ, i64_w, i32_w]
    rfl
   refine pure_ (i := 16) (N := some 16) (v := ?_) (a' := ?_) #[true, true, true, true, true, true, true, true, true, true, true, true, true, true, true, true, true] rfl rfl (any_of HT_.out (by kernel_rfl)) (fun _ _ _ h => h) (Or.inl ⟨by rfl, ?_⟩) ?_ ?_
   rotate_left
   ·intro w'
    go_simp
    with_reducible rfl
   rotate_left
   ·simp only [Act.put, List.setIfInBounds_toArray, List.set_cons_zero, List.set_cons_succ, i64_w, i32_w]
    rfl
   refine done_ (done_of HT_.out (by kernel_rfl)) ?_
   go_upto_region 7 with (fail)
   go_cut [54] (fun v54 wc => ∃ (kq : Nat) (x54_16 : Bool), v54 = .bool x54_16 ∧ Aside0 (relievolaw04_SlabFaster.j1 kq a3 t701 t712 x54_16 t697 t698 t699 t700 t708 t709 t710 t711 = some r) ∧ Aside0 (kq ≤ kj6) ∧ Aside0 (wc.heap[gb703]? = some (.cells #[.int .i64 t697, .int .i64 t698] 28 (0, 0))) ∧ Aside0 (wc.heap[gb704]? = some (.cells #[.int .i64 t699, .int .i64 t700] 28 (0, 0))) ∧ Aside0 (wc.heap[gb714]? = some (.cells #[.int .i64 t708, .int .i64 t709] 28 (0, 0))) ∧ Aside0 (wc.heap[gb715]? = some (.cells #[.int .i64 t710, .int .i64 t711] 28 (0, 0))) ∧ Aside0 (Below w.heap.size w wc))
   case first =>
    have H := HC17.out
    clear HC17
    by_cases c44 : t702 = 0
    ·rw [if_pos c44] at H
     have c44b0 : (t702 == 0) = true := beq_iff_eq.mpr c44
     have c44b1 : (t702 != 0) = false := bne_eq_false_iff_eq.mpr c44
     clear c44
     (first | rw [c44b0] | (simp only [i64_w, i32_w]; rw [c44b0]) | skip)
     have H' := Aside0.mk H
     clear H
     go_wp2
     go_meet
     case rel => exact ⟨_, ((t713 != 0)), (by first | rfl | (simp; done) | (simp [*]; done)), H', ⟨by have := HJ6.out; first | omega | exact Nat.le_refl _⟩, ⟨(blk_far (blk_far (blk_far (blk_far BK703.out NB703_714.out _) NB703_714.out _) NB703_715.out _) NB703_715.out _)⟩, ⟨(blk_far (blk_far (blk_far (blk_far BK704.out NB704_714.out _) NB704_714.out _) NB704_715.out _) NB704_715.out _)⟩, ⟨(blk_far (blk_far (blk_put (cs' := #[.int .i64 t708, .int .i64 t709]) (blk_put BK714.out 0 _ rfl) 1 _ rfl) NB714_715.out _) NB714_715.out _)⟩, ⟨(blk_put (cs' := #[.int .i64 t710, .int .i64 t711]) (blk_put (blk_far (blk_far BK715.out NB715_714.out _) NB715_714.out _) 0 _ rfl) 1 _ rfl)⟩, ⟨(below_set (below_set (below_set (below_set HB.out GE714.out) GE714.out) GE715.out) GE715.out)⟩⟩
    rw [if_neg c44] at H
    have c44b0 : (t702 == 0) = false := beq_eq_false_iff_ne.mpr c44
    have c44b1 : (t702 != 0) = true := bne_iff_ne.mpr c44
    (first | rw [c44b0] | (simp only [i64_w, i32_w]; rw [c44b0]) | skip)
    have H' := Aside0.mk H
    clear H
    go_wp2
    go_meet
    case rel => exact ⟨_, (true), (by first | rfl | (simp; done) | (simp [*]; done)), H', ⟨by have := HJ6.out; first | omega | exact Nat.le_refl _⟩, ⟨(blk_far (blk_far (blk_far (blk_far BK703.out NB703_714.out _) NB703_714.out _) NB703_715.out _) NB703_715.out _)⟩, ⟨(blk_far (blk_far (blk_far (blk_far BK704.out NB704_714.out _) NB704_714.out _) NB704_715.out _) NB704_715.out _)⟩, ⟨(blk_far (blk_far (blk_put (cs' := #[.int .i64 t708, .int .i64 t709]) (blk_put BK714.out 0 _ rfl) 1 _ rfl) NB714_715.out _) NB714_715.out _)⟩, ⟨(blk_put (cs' := #[.int .i64 t710, .int .i64 t711]) (blk_put (blk_far (blk_far BK715.out NB715_714.out _) NB715_714.out _) 0 _ rfl) 1 _ rfl)⟩, ⟨(below_set (below_set (below_set (below_set HB.out GE714.out) GE714.out) GE715.out) GE715.out)⟩⟩
   clear HC17
   try clear c13
   try clear hcz18_0
   try clear hcz18_1
   try clear hcz18_2
   try clear hcz19_0
   try clear hcz19_1
   try clear hcz19_2
   try clear hcz20_0
   try clear hcz20_1
   try clear hcz20_2
   try clear hcz20_3
   try clear hcz20_4
   try clear hcz20_5
   try clear hcz28_0
   try clear hcz28_1
   try clear hcz32_0
   try clear hcz32_1
   try clear hfz28_0
   try clear hfz28_1
   try clear hfz32_0
   try clear hfz32_1
   obtain ⟨kq, x54_16, rfl, HA, HJ16, BK703, BK704, BK714, BK715, HB⟩ := hcut
   cases kq with
   | zero => exact absurd HA.out (by simp [relievolaw04_SlabFaster.j1])
   | succ kj16 =>
    have H := HA.out
    clear HA
    simp only [relievolaw04_SlabFaster.j1] at H
    by_cases c45 : x54_16 = true
    ·subst c45
     have H1 : (some true) = some r := by rw [if_pos rfl] at H; exact H
     clear H
     have H := H1
     clear H1
     obtain rfl := Option.some.inj H
     go_wp2
     go_ret
     exact ⟨by first | rfl | (simp [errW_none, errW_some] <;> rfl) | (simp [*, errW_none, errW_some] <;> rfl), HB.out⟩
    replace c45 := Bool.eq_false_iff.mpr c45
    subst c45
    have H1 : (if (t701 != t712) = true then (relievolaw04_SlabFaster.j2 kj16 a3 t701 t712 true t697 t698 t699 t700 t708 t709 t710 t711) else (relievolaw04_SlabFaster.j2 kj16 a3 t701 t712 (!t701) t697 t698 t699 t700 t708 t709 t710 t711)) = some r := by rw [if_neg (show ¬ (false = true) by decide)] at H; exact H
    clear H
    have H := H1
    clear H1
    have HC46 := Aside0.mk H
    clear H
    go_upto_region 9 with (fail)
    go_cut [61] (fun v61 wc => ∃ (kq : Nat) (x61_45 : Bool), v61 = .bool x61_45 ∧ Aside0 (relievolaw04_SlabFaster.j2 kq a3 t701 t712 x61_45 t697 t698 t699 t700 t708 t709 t710 t711 = some r) ∧ Aside0 (kq ≤ kj16) ∧ Aside0 (wc.heap[gb703]? = some (.cells #[.int .i64 t697, .int .i64 t698] 28 (0, 0))) ∧ Aside0 (wc.heap[gb704]? = some (.cells #[.int .i64 t699, .int .i64 t700] 28 (0, 0))) ∧ Aside0 (wc.heap[gb714]? = some (.cells #[.int .i64 t708, .int .i64 t709] 28 (0, 0))) ∧ Aside0 (wc.heap[gb715]? = some (.cells #[.int .i64 t710, .int .i64 t711] 28 (0, 0))) ∧ Aside0 (Below w.heap.size w wc))
    case first =>
     have H := HC46.out
     clear HC46
     by_cases c47 : (t701 != t712) = true
     ·rw [if_pos c47] at H
      have c47b0 : (t701 != t712) = true := c47
      (try (have c47b1 : decide (t701 = t712) = false := by simpa using c47))
      (try (have c47b2 : (t701 == t712) = false := by simpa using c47))
      (try (have c47b3 : ¬ (t701 = t712) := by simpa using c47))
      clear c47
      (first | rw [c47b0] | (simp only [i64_w, i32_w]; rw [c47b0]) | skip)
      have H' := Aside0.mk H
      clear H
      go_wp2
      go_meet
      case rel => exact ⟨_, (true), (by first | rfl | (simp; done) | (simp [*]; done)), H', ⟨by have := HJ6.out; have := HJ16.out; first | omega | exact Nat.le_refl _⟩, ⟨BK703.out⟩, ⟨BK704.out⟩, ⟨BK714.out⟩, ⟨BK715.out⟩, ⟨HB.out⟩⟩
     rw [if_neg c47] at H
     have c47b0 : (t701 != t712) = false := by simpa using c47
     (try (have c47b1 : decide (t701 = t712) = true := by simpa using c47))
     (try (have c47b2 : (t701 == t712) = true := by simpa using c47))
     clear c47
     (first | rw [c47b0] | (simp only [i64_w, i32_w]; rw [c47b0]) | skip)
     have H' := Aside0.mk H
     clear H
     go_wp2
     go_meet
     case rel => exact ⟨_, (!t701), (by first | rfl | (simp; done) | (simp [*]; done)), H', ⟨by have := HJ6.out; have := HJ16.out; first | omega | exact Nat.le_refl _⟩, ⟨BK703.out⟩, ⟨BK704.out⟩, ⟨BK714.out⟩, ⟨BK715.out⟩, ⟨HB.out⟩⟩
    clear HC46
    try clear c45
    obtain ⟨kq, x61_45, rfl, HA, HJ45, BK703, BK704, BK714, BK715, HB⟩ := hcut
    cases kq with
    | zero => exact absurd HA.out (by simp [relievolaw04_SlabFaster.j2])
    | succ kj45 =>
     have H := HA.out
     clear HA
     simp only [relievolaw04_SlabFaster.j2] at H
     by_cases c48 : x61_45 = true
     ·subst c48
      have H1 : (some (t701 == t712)) = some r := by rw [if_pos rfl] at H; exact H
      clear H
      have H := H1
      clear H1
      obtain rfl := Option.some.inj H
      go_wp2
      go_ret
      exact ⟨by first | rfl | (simp [errW_none, errW_some] <;> rfl) | (simp [*, errW_none, errW_some] <;> rfl), HB.out⟩
     replace c48 := Bool.eq_false_iff.mpr c48
     subst c48
     have H1 : ((wide_Order.f kj45 t697 t698 (wrap64 (t708 * a3)) t709).bind fun bt716 => (if t700 = 0 then (if bt716.1 = 0 then (some (t699 == t710 && (t700 == t711))) else (some false)) else (if t711 = 0 then (if bt716.1 = 0 then (some (t699 == t710 && (t700 == t711))) else (some false)) else ((wide_Order.f kj45 t699 t700 (wrap64 (t710 * a3)) t711).bind fun bt718 => (if bt716.1 = 0 then (some (bt718.1 == 0)) else (some false)))))) = some r := by rw [if_neg (show ¬ (false = true) by decide)] at H; exact H
     clear H
     have H := H1
     clear H1
     replace H := Option.bind_eq_some_iff.mp H
     obtain ⟨⟨t716, t717⟩, A490, H⟩ := H
     replace H : (if t700 = 0 then (if t716 = 0 then (some (t699 == t710 && (t700 == t711))) else (some false)) else (if t711 = 0 then (if t716 = 0 then (some (t699 == t710 && (t700 == t711))) else (some false)) else ((wide_Order.f kj45 t699 t700 (wrap64 (t710 * a3)) t711).bind fun bt718 => (if t716 = 0 then (some (bt718.1 == 0)) else (some false))))) = some r := H
     have A49 := Aside0.mk A490
     clear A490
     by_cases c50 : t700 = 0
     ·rw [if_pos c50] at H
      have c50b0 : (t700 == 0) = true := beq_iff_eq.mpr c50
      have c50b1 : (t700 != 0) = false := bne_eq_false_iff_eq.mpr c50
      clear c50
      by_cases c51 : t716 = 0
      ·rw [if_pos c51] at H
       have c51b0 : (t716 == 0) = true := beq_iff_eq.mpr c51
       have c51b1 : (t716 != 0) = false := bne_eq_false_iff_eq.mpr c51
       clear c51
       obtain rfl := Option.some.inj H
       obtain ⟨hcz52_0, hcz52_1⟩ := cells2 BK703.out
       obtain ⟨hcz53_0, hcz53_1⟩ := cells2 BK714.out
       go_wp2_with (first | ((with_reducible refine gate_callee (f := 35) rfl ?_); refine goesL_ (some 74) rfl rfl Try.func35 (by kernel_rfl) rfl #[.agg #[.int .i64 t697, .int .i64 t698], .agg #[.int .i64 (wrap64 (t708 * a3)), .int .i64 t709]] rfl (by (try simp only [List.map_toArray, List.map_cons, List.map_nil]); first | done | rfl | (simp only [List.length_drop, List.length_take]; rfl)) ?_; (with_reducible refine (wide_Order.calls kj45 t697 t698 (wrap64 (t708 * a3)) t709 t716 t717 _ A49.out).mono ?_); rintro e w54 ⟨rfl, hb⟩; refine ⟨_, rfl, ?_⟩; replace BK703 := cB hb BK703; replace BK704 := cB hb BK704; replace BK714 := cB hb BK714; replace BK715 := cB hb BK715; replace HB := Aside0.mk (below_step (HB.out) hb); (try clear hb); (try clear hb2); (try clear hk); (try clear hi); obtain ⟨hcz55_0, hcz55_1⟩ := cells2 BK704.out; obtain ⟨hcz56_0, hcz56_1⟩ := cells2 BK715.out))
       go_ret
       exact ⟨by first | rfl | (simp [errW_none, errW_some] <;> rfl) | (simp [*, errW_none, errW_some] <;> rfl), HB.out⟩
      rw [if_neg c51] at H
      have c51b0 : (t716 == 0) = false := beq_eq_false_iff_ne.mpr c51
      have c51b1 : (t716 != 0) = true := bne_iff_ne.mpr c51
      obtain rfl := Option.some.inj H
      obtain ⟨hcz57_0, hcz57_1⟩ := cells2 BK703.out
      obtain ⟨hcz58_0, hcz58_1⟩ := cells2 BK714.out
      go_wp2_with (first | ((with_reducible refine gate_callee (f := 35) rfl ?_); refine goesL_ (some 74) rfl rfl Try.func35 (by kernel_rfl) rfl #[.agg #[.int .i64 t697, .int .i64 t698], .agg #[.int .i64 (wrap64 (t708 * a3)), .int .i64 t709]] rfl (by (try simp only [List.map_toArray, List.map_cons, List.map_nil]); first | done | rfl | (simp only [List.length_drop, List.length_take]; rfl)) ?_; (with_reducible refine (wide_Order.calls kj45 t697 t698 (wrap64 (t708 * a3)) t709 t716 t717 _ A49.out).mono ?_); rintro e w59 ⟨rfl, hb⟩; refine ⟨_, rfl, ?_⟩; replace BK703 := cB hb BK703; replace BK704 := cB hb BK704; replace BK714 := cB hb BK714; replace BK715 := cB hb BK715; replace HB := Aside0.mk (below_step (HB.out) hb); (try clear hb); (try clear hb2); (try clear hk); (try clear hi); obtain ⟨hcz60_0, hcz60_1⟩ := cells2 BK704.out))
      go_ret
      exact ⟨by first | rfl | (simp [errW_none, errW_some] <;> rfl) | (simp [*, errW_none, errW_some] <;> rfl), HB.out⟩
     rw [if_neg c50] at H
     have c50b0 : (t700 == 0) = false := beq_eq_false_iff_ne.mpr c50
     have c50b1 : (t700 != 0) = true := bne_iff_ne.mpr c50
     by_cases c61 : t711 = 0
     ·rw [if_pos c61] at H
      have c61b0 : (t711 == 0) = true := beq_iff_eq.mpr c61
      have c61b1 : (t711 != 0) = false := bne_eq_false_iff_eq.mpr c61
      clear c61
      by_cases c62 : t716 = 0
      ·rw [if_pos c62] at H
       have c62b0 : (t716 == 0) = true := beq_iff_eq.mpr c62
       have c62b1 : (t716 != 0) = false := bne_eq_false_iff_eq.mpr c62
       clear c62
       obtain rfl := Option.some.inj H
       obtain ⟨hcz63_0, hcz63_1⟩ := cells2 BK703.out
       obtain ⟨hcz64_0, hcz64_1⟩ := cells2 BK714.out
       go_wp2_with (first | ((with_reducible refine gate_callee (f := 35) rfl ?_); refine goesL_ (some 74) rfl rfl Try.func35 (by kernel_rfl) rfl #[.agg #[.int .i64 t697, .int .i64 t698], .agg #[.int .i64 (wrap64 (t708 * a3)), .int .i64 t709]] rfl (by (try simp only [List.map_toArray, List.map_cons, List.map_nil]); first | done | rfl | (simp only [List.length_drop, List.length_take]; rfl)) ?_; (with_reducible refine (wide_Order.calls kj45 t697 t698 (wrap64 (t708 * a3)) t709 t716 t717 _ A49.out).mono ?_); rintro e w65 ⟨rfl, hb⟩; refine ⟨_, rfl, ?_⟩; replace BK703 := cB hb BK703; replace BK704 := cB hb BK704; replace BK714 := cB hb BK714; replace BK715 := cB hb BK715; replace HB := Aside0.mk (below_step (HB.out) hb); (try clear hb); (try clear hb2); (try clear hk); (try clear hi); obtain ⟨hcz66_0, hcz66_1⟩ := cells2 BK704.out; obtain ⟨hcz67_0, hcz67_1⟩ := cells2 BK715.out))
       go_ret
       exact ⟨by first | rfl | (simp [errW_none, errW_some] <;> rfl) | (simp [*, errW_none, errW_some] <;> rfl), HB.out⟩
      rw [if_neg c62] at H
      have c62b0 : (t716 == 0) = false := beq_eq_false_iff_ne.mpr c62
      have c62b1 : (t716 != 0) = true := bne_iff_ne.mpr c62
      obtain rfl := Option.some.inj H
      obtain ⟨hcz68_0, hcz68_1⟩ := cells2 BK703.out
      obtain ⟨hcz69_0, hcz69_1⟩ := cells2 BK714.out
      go_wp2_with (first | ((with_reducible refine gate_callee (f := 35) rfl ?_); refine goesL_ (some 74) rfl rfl Try.func35 (by kernel_rfl) rfl #[.agg #[.int .i64 t697, .int .i64 t698], .agg #[.int .i64 (wrap64 (t708 * a3)), .int .i64 t709]] rfl (by (try simp only [List.map_toArray, List.map_cons, List.map_nil]); first | done | rfl | (simp only [List.length_drop, List.length_take]; rfl)) ?_; (with_reducible refine (wide_Order.calls kj45 t697 t698 (wrap64 (t708 * a3)) t709 t716 t717 _ A49.out).mono ?_); rintro e w70 ⟨rfl, hb⟩; refine ⟨_, rfl, ?_⟩; replace BK703 := cB hb BK703; replace BK704 := cB hb BK704; replace BK714 := cB hb BK714; replace BK715 := cB hb BK715; replace HB := Aside0.mk (below_step (HB.out) hb); (try clear hb); (try clear hb2); (try clear hk); (try clear hi); obtain ⟨hcz71_0, hcz71_1⟩ := cells2 BK704.out; obtain ⟨hcz72_0, hcz72_1⟩ := cells2 BK715.out))
      go_ret
      exact ⟨by first | rfl | (simp [errW_none, errW_some] <;> rfl) | (simp [*, errW_none, errW_some] <;> rfl), HB.out⟩
     rw [if_neg c61] at H
     have c61b0 : (t711 == 0) = false := beq_eq_false_iff_ne.mpr c61
     have c61b1 : (t711 != 0) = true := bne_iff_ne.mpr c61
     replace H := Option.bind_eq_some_iff.mp H
     obtain ⟨⟨t718, t719⟩, A730, H⟩ := H
     replace H : (if t716 = 0 then (some (t718 == 0)) else (some false)) = some r := H
     have A73 := Aside0.mk A730
     clear A730
     by_cases c74 : t716 = 0
     ·rw [if_pos c74] at H
      have c74b0 : (t716 == 0) = true := beq_iff_eq.mpr c74
      have c74b1 : (t716 != 0) = false := bne_eq_false_iff_eq.mpr c74
      clear c74
      obtain rfl := Option.some.inj H
      obtain ⟨hcz75_0, hcz75_1⟩ := cells2 BK703.out
      obtain ⟨hcz76_0, hcz76_1⟩ := cells2 BK714.out
      go_wp2_with (first | ((with_reducible refine gate_callee (f := 35) rfl ?_); refine goesL_ (some 74) rfl rfl Try.func35 (by kernel_rfl) rfl #[.agg #[.int .i64 t697, .int .i64 t698], .agg #[.int .i64 (wrap64 (t708 * a3)), .int .i64 t709]] rfl (by (try simp only [List.map_toArray, List.map_cons, List.map_nil]); first | done | rfl | (simp only [List.length_drop, List.length_take]; rfl)) ?_; (with_reducible refine (wide_Order.calls kj45 t697 t698 (wrap64 (t708 * a3)) t709 t716 t717 _ A49.out).mono ?_); rintro e w77 ⟨rfl, hb⟩; refine ⟨_, rfl, ?_⟩; replace BK703 := cB hb BK703; replace BK704 := cB hb BK704; replace BK714 := cB hb BK714; replace BK715 := cB hb BK715; replace HB := Aside0.mk (below_step (HB.out) hb); (try clear hb); (try clear hb2); (try clear hk); (try clear hi); obtain ⟨hcz78_0, hcz78_1⟩ := cells2 BK704.out; obtain ⟨hcz79_0, hcz79_1⟩ := cells2 BK715.out) | ((with_reducible refine gate_callee (f := 35) rfl ?_); refine goesL_ (some 101) rfl rfl Try.func35 (by kernel_rfl) rfl #[.agg #[.int .i64 t699, .int .i64 t700], .agg #[.int .i64 (wrap64 (t710 * a3)), .int .i64 t711]] rfl (by (try simp only [List.map_toArray, List.map_cons, List.map_nil]); first | done | rfl | (simp only [List.length_drop, List.length_take]; rfl)) ?_; (with_reducible refine (wide_Order.calls kj45 t699 t700 (wrap64 (t710 * a3)) t711 t718 t719 _ A73.out).mono ?_); rintro e w80 ⟨rfl, hb⟩; refine ⟨_, rfl, ?_⟩; replace BK704 := cB hb BK704; replace BK715 := cB hb BK715; replace HB := Aside0.mk (below_step (HB.out) hb); (try clear hb); (try clear hb2); (try clear hk); (try clear hi)))
      go_ret
      exact ⟨by first | rfl | (simp [errW_none, errW_some] <;> rfl) | (simp [*, errW_none, errW_some] <;> rfl), HB.out⟩
     rw [if_neg c74] at H
     have c74b0 : (t716 == 0) = false := beq_eq_false_iff_ne.mpr c74
     have c74b1 : (t716 != 0) = true := bne_iff_ne.mpr c74
     obtain rfl := Option.some.inj H
     obtain ⟨hcz81_0, hcz81_1⟩ := cells2 BK703.out
     obtain ⟨hcz82_0, hcz82_1⟩ := cells2 BK714.out
     go_wp2_with (first | ((with_reducible refine gate_callee (f := 35) rfl ?_); refine goesL_ (some 74) rfl rfl Try.func35 (by kernel_rfl) rfl #[.agg #[.int .i64 t697, .int .i64 t698], .agg #[.int .i64 (wrap64 (t708 * a3)), .int .i64 t709]] rfl (by (try simp only [List.map_toArray, List.map_cons, List.map_nil]); first | done | rfl | (simp only [List.length_drop, List.length_take]; rfl)) ?_; (with_reducible refine (wide_Order.calls kj45 t697 t698 (wrap64 (t708 * a3)) t709 t716 t717 _ A49.out).mono ?_); rintro e w83 ⟨rfl, hb⟩; refine ⟨_, rfl, ?_⟩; replace BK703 := cB hb BK703; replace BK704 := cB hb BK704; replace BK714 := cB hb BK714; replace BK715 := cB hb BK715; replace HB := Aside0.mk (below_step (HB.out) hb); (try clear hb); (try clear hb2); (try clear hk); (try clear hi); obtain ⟨hcz84_0, hcz84_1⟩ := cells2 BK704.out; obtain ⟨hcz85_0, hcz85_1⟩ := cells2 BK715.out) | ((with_reducible refine gate_callee (f := 35) rfl ?_); refine goesL_ (some 101) rfl rfl Try.func35 (by kernel_rfl) rfl #[.agg #[.int .i64 t699, .int .i64 t700], .agg #[.int .i64 (wrap64 (t710 * a3)), .int .i64 t711]] rfl (by (try simp only [List.map_toArray, List.map_cons, List.map_nil]); first | done | rfl | (simp only [List.length_drop, List.length_take]; rfl)) ?_; (with_reducible refine (wide_Order.calls kj45 t699 t700 (wrap64 (t710 * a3)) t711 t718 t719 _ A73.out).mono ?_); rintro e w86 ⟨rfl, hb⟩; refine ⟨_, rfl, ?_⟩; replace BK704 := cB hb BK704; replace BK715 := cB hb BK715; replace HB := Aside0.mk (below_step (HB.out) hb); (try clear hb); (try clear hb2); (try clear hk); (try clear hi)))
     go_ret
     exact ⟨by first | rfl | (simp [errW_none, errW_some] <;> rfl) | (simp [*, errW_none, errW_some] <;> rfl), HB.out⟩
 replace c6 := Bool.eq_false_iff.mpr c6
 subst c6
 have H1 : (some false) = some r := by rw [if_neg (show ¬ (false = true) by decide)] at H; exact H
 clear H
 have H := H1
 clear H1
 obtain rfl := Option.some.inj H
 go_enter Try.func13, Try.ntmps13
 go_wp2_with (first | ((with_reducible refine gate_dst (N := 4) rfl ?_); refine box_event ?hg (N := 4) ?hd (cs := #[.int .i64 a0_0, .int .i64 a0_1, .int .i64 a0_2]) (t := 23) ?hr ?_; (case hd => rfl); (case hg => rfl); (case hr => first | (go_simp; done) | (go_simp; rfl)); intro gb693 hg w87 hbox hb; have BK693 := Aside0.mk (hbox); have GE693 := Aside0.mk (bG hg (HB.out)); replace HB := Aside0.mk (below_step (HB.out) hb); clear hb hbox hg) | ((with_reducible refine gate_dst (N := 5) rfl ?_); refine box_event ?hg (N := 5) ?hd (cs := #[.int .i64 a1_0, .int .i64 a1_1, .int .i64 a1_2]) (t := 23) ?hr ?_; (case hd => rfl); (case hg => rfl); (case hr => first | (go_simp; done) | (go_simp; rfl)); intro gb694 hg w88 hbox hb; have BK694 := Aside0.mk (hbox); have GE694 := Aside0.mk (bG hg (HB.out)); have NB693_694 := cN hg BK693; have NB694_693 := cM hg BK693; replace BK693 := cB hb BK693; replace HB := Aside0.mk (below_step (HB.out) hb); clear hb hbox hg) | ((with_reducible refine gate_dst (N := 6) rfl ?_); refine box_event ?hg (N := 6) ?hd (cs := #[.int .i64 a2_0, .int .i64 a2_1, .int .i64 a2_2, .int .i64 a2_3, .int .i64 a2_4, .int .i64 a2_5]) (t := 56) ?hr ?_; (case hd => rfl); (case hg => rfl); (case hr => first | (go_simp; done) | (go_simp; rfl)); intro gb695 hg w89 hbox hb; have BK695 := Aside0.mk (hbox); have GE695 := Aside0.mk (bG hg (HB.out)); have NB693_695 := cN hg BK693; have NB695_693 := cM hg BK693; have NB694_695 := cN hg BK694; have NB695_694 := cM hg BK694; replace BK693 := cB hb BK693; replace BK694 := cB hb BK694; replace HB := Aside0.mk (below_step (HB.out) hb); clear hb hbox hg) | ((with_reducible refine gate_callee (f := 31) rfl ?_); refine goesL_ (some 21) rfl rfl Try.func31 (by kernel_rfl) rfl #[] rfl (by (try simp only [List.map_toArray, List.map_cons, List.map_nil]); first | done | rfl | (simp only [List.length_drop, List.length_take]; rfl)) ?_; (with_reducible refine (relievolaw04_alive.calls k  false _ A5.out).mono ?_); rintro e w90 ⟨rfl, hb⟩; refine ⟨_, rfl, ?_⟩; replace BK693 := cB hb BK693; replace BK694 := cB hb BK694; replace BK695 := cB hb BK695; replace HB := Aside0.mk (below_step (HB.out) hb); (try clear hb); (try clear hb2); (try clear hk); (try clear hi)))
 go_ret
 exact ⟨by first | rfl | (simp [errW_none, errW_some] <;> rfl) | (simp [*, errW_none, errW_some] <;> rfl), HB.out⟩

end Go.Proofs.Ytihklolcnfbbjaa.G
