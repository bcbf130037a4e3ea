-- Written by a program of this session (wip/gen), out of the translation; Lean checks it.
import Derived.Test.YtihklolcnfbbjaaGx0
import Derived.Test.YtihklolcnfbbjaaGx15
import Derived.Test.YtihklolcnfbbjaaGx16
import Derived.Test.YtihklolcnfbbjaaGx21
import Derived.Test.YtihklolcnfbbjaaGx22
import Derived.Test.YtihklolcnfbbjaaGx37
namespace Go.Proofs.Ytihklolcnfbbjaa.G
open Go.RowKit Go.Proofs.YtihklolcnfbbjaaW.PrintWords Go.Proofs.YtihklolcnfbbjaaW.PrintLast Go.Proofs.YtihklolcnfbbjaaW.PrintMore
attribute [local go_sem high] idx35_0 idx35_1 idx35_2 idx35_3 idx41_0 idx41_1 idx41_2 idx84_0 idx84_1 idx84_2 idx88_0 idx88_1 idx88_2 wl0 wl1 wl2 wl3 wl4 wl5 tm0_3 tm1_3 tm2_3 tm3_3 tm4_3 tm5_3
attribute [local go_sem] max2_int min2_int max_two min_two max_three min_three max_four min_four   -- for this text's walks alone
set_option linter.unusedVariables false
set_option linter.unusedSimpArgs false

/-! ### relievolaw03_SideFlat: function 9 -/
mutual
def relievolaw03_SideFlat.l0 : Nat → Int → Int → Int → Int → List Int → Int → Int → Int → Int → Int → Int → Int → Int → Int → Int → Int → Option (Bool)
  | 0, _, _, _, _, _, _, _, _, _, _, _, _, _, _, _, _ => none
  | k + 1, x1, x2, x3, x4, x29, x30, x31, x450000, x450001, x450002, x450003, x450004, x450005, x450006, x450007, x450008 => if x31 < x30 then (if 0 ≤ x31 then (if x31 < (x29.length : Int) then (if (rd x29 x31) < (-100) then (some true) else (if (rd x29 x31) > 100 then (some true) else (relievolaw03_SideFlat.l0 k x1 x2 x3 x4 x29 x30 (wrap64 (x31 + 1)) x450000 x450001 x450002 x450003 x450004 x450005 x450006 x450007 x450008))) else (none)) else (none)) else ((relievoref02_Sub.f x450003 x450004 x450005 x450000 x450001 x450002).bind fun bt455 => ((relievoref02_Sub.f x450006 x450007 x450008 x450000 x450001 x450002).bind fun bt459 => ((relievoref02_Scale.f bt455.1 bt455.2.1 bt455.2.2 x1).bind fun bt463 => ((relievoref02_Scale.f bt459.1 bt459.2.1 bt459.2.2 x2).bind fun bt466 => ((relievoref02_Add.f bt463.1 bt463.2.1 bt463.2.2 bt466.1 bt466.2.1 bt466.2.2).bind fun bt469 => ((relievoref02_Add.f x450000 x450001 x450002 bt469.1 bt469.2.1 bt469.2.2).bind fun bt472 => ((relievoref02_Scale.f bt455.1 bt455.2.1 bt455.2.2 x3).bind fun bt476 => ((relievoref02_Scale.f bt459.1 bt459.2.1 bt459.2.2 x4).bind fun bt479 => ((relievoref02_Add.f bt476.1 bt476.2.1 bt476.2.2 bt479.1 bt479.2.1 bt479.2.2).bind fun bt482 => ((side_Meet.f k bt472.1 bt472.2.1 bt472.2.2 bt482.1 bt482.2.1 bt482.2.2 x450000 x450001 x450002 x450003 x450004 x450005 x450006 x450007 x450008).bind fun bt486 => ((side_Meet.f k x450000 x450001 x450002 1 2 3 x450000 x450001 x450002 x450000 x450001 x450002 x450006 x450007 x450008).bind fun bt494 => (if bt486.2.2.2.2.2.1 = true then (relievolaw03_SideFlat.j1 k false) else (relievolaw03_SideFlat.j1 k (!bt494.2.2.2.2.2.1))))))))))))))
def relievolaw03_SideFlat.j1 : Nat → Bool → Option (Bool)
  | 0, _ => none
  | k + 1, x10 => some x10
end
def relievolaw03_SideFlat.f (k : Nat) (a0_0 : Int) (a0_1 : Int) (a0_2 : Int) (a0_3 : Int) (a0_4 : Int) (a0_5 : Int) (a0_6 : Int) (a0_7 : Int) (a0_8 : Int) (a1 : Int) (a2 : Int) (a3 : Int) (a4 : Int) : Option (Bool) := (relievolaw03_alive.f k).bind fun t450 => (if t450 = true then ((some (([a1, a2, a3, a4] : List Int) : List Int)).bind fun y451 => (relievolaw03_SideFlat.l0 k a1 a2 a3 a4 y451 (y451.length : Int) 0 a0_0 a0_1 a0_2 a0_3 a0_4 a0_5 a0_6 a0_7 a0_8)) else (some false))
def relievolaw03_SideFlat.T11 : Bool × List (List Nat × List Nat) := (true, [([], []), ([0], [0]), ([], []), ([], []), ([2, 3], [2, 3]), ([], []), ([], []), ([5, 6, 4], [5, 6]), ([4, 7, 7], [4, 7]), ([1, 8, 8], [1, 8]), ([], []), ([10, 9, 9, 0, 1, 2, 3, 4, 5, 6, 7, 8, 9, 10], [9, 10])])
def relievolaw03_SideFlat.B11 : List Nat := [0, 1, 0, 0, 12, 0, 0, 124, 252, 511, 0, 2047]
theorem relievolaw03_SideFlat.tab11 : rtab .any (opsOf Try.f9 11) = relievolaw03_SideFlat.T11 := by kernel_rfl
theorem relievolaw03_SideFlat.bits11 : waitsOk relievolaw03_SideFlat.T11.2 relievolaw03_SideFlat.B11 = true := by kernel_rfl
def relievolaw03_SideFlat.T12 : Bool × List (List Nat × List Nat) := (true, [([], []), ([], []), ([0, 1], [0, 1]), ([], []), ([], []), ([3, 4, 2], [3, 4]), ([2, 5, 5], [2, 5]), ([], []), ([7, 6, 6, 0, 1, 2, 3, 4, 5, 6, 7], [6, 7])])
def relievolaw03_SideFlat.B12 : List Nat := [0, 0, 3, 0, 0, 31, 63, 0, 255]
theorem relievolaw03_SideFlat.tab12 : rtab .any (opsOf Try.f9 12) = relievolaw03_SideFlat.T12 := by kernel_rfl
theorem relievolaw03_SideFlat.bits12 : waitsOk relievolaw03_SideFlat.T12.2 relievolaw03_SideFlat.B12 = true := by kernel_rfl
set_option maxHeartbeats 8000000 in
set_option maxRecDepth 100000 in
theorem relievolaw03_SideFlat.calls (k : Nat) (a0_0 : Int) (a0_1 : Int) (a0_2 : Int) (a0_3 : Int) (a0_4 : Int) (a0_5 : Int) (a0_6 : Int) (a0_7 : Int) (a0_8 : Int) (a1 : Int) (a2 : Int) (a3 : Int) (a4 : Int) (r : Bool) (w : World) (h : relievolaw03_SideFlat.f k a0_0 a0_1 a0_2 a0_3 a0_4 a0_5 a0_6 a0_7 a0_8 a1 a2 a3 a4 = some r) :
    Calls Try.prog 9 #[.agg #[.int .i64 a0_0, .int .i64 a0_1, .int .i64 a0_2, .int .i64 a0_3, .int .i64 a0_4, .int .i64 a0_5, .int .i64 a0_6, .int .i64 a0_7, .int .i64 a0_8], .int .i64 a1, .int .i64 a2, .int .i64 a3, .int .i64 a4] w fun e w' => e = .returned (.bool r) ∧ Below w.heap.size w w' := by
 have hu25 := Try.underlying25
 have hu23 := Try.underlying23
 have hu30 := Try.underlying30
 have HB := Aside0.mk (Below.refl w.heap.size w)
 have H : ((relievolaw03_alive.f k).bind fun t450 => (if t450 = true then ((some (([a1, a2, a3, a4] : List Int) : List Int)).bind fun y451 => (relievolaw03_SideFlat.l0 k a1 a2 a3 a4 y451 (y451.length : Int) 0 a0_0 a0_1 a0_2 a0_3 a0_4 a0_5 a0_6 a0_7 a0_8)) else (some false))) = some r := h
 clear h
 replace H := Option.bind_eq_some_iff.mp H
 obtain ⟨t450, A60, H⟩ := H
 replace H : (if t450 = true then ((some (([a1, a2, a3, a4] : List Int) : List Int)).bind fun y451 => (relievolaw03_SideFlat.l0 k a1 a2 a3 a4 y451 (y451.length : Int) 0 a0_0 a0_1 a0_2 a0_3 a0_4 a0_5 a0_6 a0_7 a0_8)) else (some false)) = some r := H
 have A6 := Aside0.mk A60
 clear A60
 by_cases c7 : t450 = true
 ·subst c7
  have H1 : ((some (([a1, a2, a3, a4] : List Int) : List Int)).bind fun y451 => (relievolaw03_SideFlat.l0 k a1 a2 a3 a4 y451 (y451.length : Int) 0 a0_0 a0_1 a0_2 a0_3 a0_4 a0_5 a0_6 a0_7 a0_8)) = some r := by rw [if_pos rfl] at H; exact H
  clear H
  have H := H1
  clear H1
  obtain ⟨y451, hy451⟩ : ∃ y_ : List Int, y_ = (([a1, a2, a3, a4] : List Int)) := ⟨_, rfl⟩
  replace H : (relievolaw03_SideFlat.l0 k a1 a2 a3 a4 y451 (y451.length : Int) 0 a0_0 a0_1 a0_2 a0_3 a0_4 a0_5 a0_6 a0_7 a0_8) = some r := by first | (rw [hy451]; with_reducible exact H) | (have H2_ := (Option.bind_some _ _).symm.trans H; rw [hy451]; with_reducible exact H2_) | (have H2_ := (Option.bind_some _ _).symm.trans H; with_reducible exact H2_) | with_reducible exact H | (rw [hy451]; exact H) | exact H
  have Ny451 := Aside0.mk hy451
  clear hy451
  have H' := Aside0.mk H
  clear H
  go_enter Try.func9, Try.ntmps9
  go_wp2_with (first | ((with_reducible refine gate_dst (N := 5) rfl ?_); refine box_event ?hg (N := 5) ?hd (cs := #[.int .i64 a0_0, .int .i64 a0_1, .int .i64 a0_2, .int .i64 a0_3, .int .i64 a0_4, .int .i64 a0_5, .int .i64 a0_6, .int .i64 a0_7, .int .i64 a0_8]) (t := 25) ?hr ?_; (case hd => rfl); (case hg => rfl); (case hr => first | (go_simp; done) | (go_simp; rfl)); intro gb449 hg w8 hbox hb; have n0_ := Aside0.mk (below_step (by repeat (first | (with_reducible first | exact HB.out | apply below_alloc | apply pw_below_drewN | apply below_drew1) | exact HB.out)) hb); have n1_ := Aside0.mk (hbox); have n2_ := Aside0.mk ((by rw [hg]; exact (below_size (by repeat (first | (with_reducible first | exact HB.out | apply below_alloc | apply pw_below_drewN | apply below_drew1) | exact HB.out))) : w.heap.size ≤ gb449)); have n3_ := Aside0.mk ((by rw [hg]; exact (below_size (by repeat (first | (with_reducible first | exact HB.out | apply below_alloc | apply pw_below_drewN | apply below_drew1) | exact HB.out))) : w.heap.size ≤ gb449)); clear HB; have HB := n0_; have BK449 := n1_; have GW449 := n2_; have GE449 := n3_; clear n0_ n1_ n2_ n3_; clear hb hbox hg) | ((with_reducible refine gate_callee (f := 19) rfl ?_); refine goesL_ (some 23) rfl rfl Try.func19 (by kernel_rfl) rfl #[] rfl (by (try simp only [List.map_toArray, List.map_cons, List.map_nil]); first | done | rfl | (simp only [List.length_drop, List.length_take]; rfl)) ?_; (with_reducible refine (relievolaw03_alive.calls k  true _ A6.out).mono ?_); rintro e w9 ⟨rfl, hb⟩; refine ⟨_, rfl, ?_⟩; have n0_ := Aside0.mk (blk_below (g := gb449) (o := .cells #[.int .i64 a0_0, .int .i64 a0_1, .int .i64 a0_2, .int .i64 a0_3, .int .i64 a0_4, .int .i64 a0_5, .int .i64 a0_6, .int .i64 a0_7, .int .i64 a0_8] 25 (0, 0)) (by (with_reducible repeat (first | refine blk_drewN ?_ _ | refine blk_drew ?_ | refine blk_alloc ?_ _)); exact BK449.out) hb); have n1_ := Aside0.mk (below_step (by repeat (first | (with_reducible first | exact HB.out | apply below_alloc | apply pw_below_drewN | apply below_drew1 | refine below_set ?_ GE449.out) | exact HB.out)) hb); clear BK449; clear HB; have BK449 := n0_; have HB := n1_; clear n0_ n1_; (try clear hb); (try clear hb2); (try clear hk); (try clear hi)) | ((with_reducible refine gate_dst (N := 29) rfl ?_); refine Kd.R_lit (Kd.int .i64) _ 3 ?hg (N := 29) ?hd (xs := ([a1, a2, a3, a4] : List Int)) (inner := [.int .i64 a1, .int .i64 a2, .int .i64 a3, .int .i64 a4]) (ok := fun _ => True) (okp := fun _ => True) ?hr ?hp (fun _ hk => hk) trivial (Below.refl _ _) (Nat.le_refl _) (by simp) ?_; (case hd => rfl); (case hg => rfl); (case hr => first | (go_simp; done) | (go_simp; rfl)); (case hp => exact (Reps.one (show Kd.M (Kd.int .i64) _ _ _ a1 [.int .i64 a1] from rfl) (Reps.one (show Kd.M (Kd.int .i64) _ _ _ a2 [.int .i64 a2] from rfl) (Reps.one (show Kd.M (Kd.int .i64) _ _ _ a3 [.int .i64 a3] from rfl) (Reps.one (show Kd.M (Kd.int .i64) _ _ _ a4 [.int .i64 a4] from rfl) (Reps.none _ _)))))); intro v452 w10 ho11 hb hg_ hnew_; clear hg_ hnew_; (first | rw [← Ny451.out] at ho11 | (simp only [Int.reduceToNat] at ho11; rw [← Ny451.out] at ho11)); have n0_ := Aside0.mk (Kd.R_lower ho11 (below_size (by repeat (first | (with_reducible first | exact HB.out | apply below_alloc | apply pw_below_drewN | apply below_drew1 | refine below_set ?_ GE449.out) | exact HB.out)))); have n1_ := Aside0.mk (blk_below (g := gb449) (o := .cells #[.int .i64 a0_0, .int .i64 a0_1, .int .i64 a0_2, .int .i64 a0_3, .int .i64 a0_4, .int .i64 a0_5, .int .i64 a0_6, .int .i64 a0_7, .int .i64 a0_8] 25 (0, 0)) (by (with_reducible repeat (first | refine blk_drewN ?_ _ | refine blk_drew ?_ | refine blk_alloc ?_ _)); exact BK449.out) hb); have n2_ := Aside0.mk (below_step (by repeat (first | (with_reducible first | exact HB.out | apply below_alloc | apply pw_below_drewN | apply below_drew1 | refine below_set ?_ GE449.out) | exact HB.out)) hb); clear BK449; clear HB; have HO453 := n0_; have BK449 := n1_; have HB := n2_; clear n0_ n1_ n2_; clear hb ho11; obtain ⟨Ao12, co12, eo12⟩ := Kd.R_slice HO453.out; subst eo12))
  go_loopg [31] k (fun kq v31 w' => ∃ (x31_1 : Int), v31 = .int .i64 x31_1 ∧ Aside0 (relievolaw03_SideFlat.l0 kq a1 a2 a3 a4 y451 (y451.length : Int) x31_1 a0_0 a0_1 a0_2 a0_3 a0_4 a0_5 a0_6 a0_7 a0_8 = some r) ∧ Aside0 (kq ≤ k) ∧ Aside0 (Kd.R (Kd.int .i64) 3 w' w.heap.size (fun _ => True) (.slice Ao12 y451.length co12) y451) ∧ Aside0 (w'.heap[gb449]? = some (.cells #[.int .i64 a0_0, .int .i64 a0_1, .int .i64 a0_2, .int .i64 a0_3, .int .i64 a0_4, .int .i64 a0_5, .int .i64 a0_6, .int .i64 a0_7, .int .i64 a0_8] 25 (0, 0))) ∧ Aside0 (Below w.heap.size w w'))
  case atStart => exact ⟨(0), (by first | rfl | (simp; done) | (simp [*]; done)), H', ⟨Nat.le_refl _⟩, ⟨by (with_reducible repeat (first | apply Kd.R_alloc | apply Kd.R_drewN | apply Kd.R_drew)); exact HO453.out⟩, ⟨by (with_reducible repeat (first | refine blk_drewN ?_ _ | refine blk_drew ?_ | refine blk_alloc ?_ _)); exact BK449.out⟩, ⟨by repeat (first | (with_reducible first | exact HB.out | apply below_alloc | apply pw_below_drewN | apply below_drew1 | refine below_set ?_ GE449.out) | exact HB.out)⟩⟩
  case round =>
   clear H'
   try clear c7
   obtain ⟨x31_1, rfl, HA, HK1, HO_29, BK449, HB⟩ := hrel
   cases gk with
   | zero => exact absurd HA.out (by simp [relievolaw03_SideFlat.l0])
   | succ k1 =>
    have H := HA.out
    clear HA
    simp only [relievolaw03_SideFlat.l0] at H
    by_cases c13 : x31_1 < (y451.length : Int)
    ·rw [if_pos c13] at H
     have c13b0 : decide (x31_1 < (y451.length : Int)) = true := decide_eq_true c13
     clear c13
     by_cases c14 : 0 ≤ x31_1
     ·rw [if_pos c14] at H
      have c14b0 : decide (0 ≤ x31_1) = true := decide_eq_true c14
      clear c14
      by_cases c15 : x31_1 < (y451.length : Int)
      ·rw [if_pos c15] at H
       have c15b0 : decide (x31_1 < (y451.length : Int)) = true := decide_eq_true c15
       clear c15
       by_cases c16 : (rd y451 x31_1) < (-100)
       ·rw [if_pos c16] at H
        have c16b0 : decide ((rd y451 x31_1) < (-100)) = true := decide_eq_true c16
        clear c16
        obtain rfl := Option.some.inj H
        have p454 : 0 ≤ (x31_1 : Int) := of_decide_eq_true (by first | (with_reducible assumption) | assumption)
        have q454 : x31_1 < (y451.length : Int) := of_decide_eq_true (by first | (with_reducible assumption) | assumption)
        obtain ⟨ad454, e454, hx454_0⟩ := Kd.at_int (Kd.R_reads' HO_29.out).2.2 x31_1 p454 q454
        cases e454
        replace p454 := eq_true p454
        replace q454 := eq_true q454
        go_wp2
        go_ret
        exact ⟨by first | rfl | (simp [errW_none, errW_some] <;> rfl) | (simp [*, errW_none, errW_some] <;> rfl), by repeat (first | (with_reducible first | exact HB.out | apply below_alloc | apply pw_below_drewN | apply below_drew1 | refine below_set ?_ GE449.out) | exact HB.out)⟩
       rw [if_neg c16] at H
       have c16b0 : decide ((rd y451 x31_1) < (-100)) = false := decide_eq_false c16
       clear c16
       by_cases c17 : (rd y451 x31_1) > 100
       ·rw [if_pos c17] at H
        have c17b0 : decide (100 < (rd y451 x31_1)) = true := decide_eq_true c17
        clear c17
        obtain rfl := Option.some.inj H
        have p454 : 0 ≤ (x31_1 : Int) := of_decide_eq_true (by first | (with_reducible assumption) | assumption)
        have q454 : x31_1 < (y451.length : Int) := of_decide_eq_true (by first | (with_reducible assumption) | assumption)
        obtain ⟨ad454, e454, hx454_0⟩ := Kd.at_int (Kd.R_reads' HO_29.out).2.2 x31_1 p454 q454
        cases e454
        replace p454 := eq_true p454
        replace q454 := eq_true q454
        go_wp2
        go_ret
        exact ⟨by first | rfl | (simp [errW_none, errW_some] <;> rfl) | (simp [*, errW_none, errW_some] <;> rfl), by repeat (first | (with_reducible first | exact HB.out | apply below_alloc | apply pw_below_drewN | apply below_drew1 | refine below_set ?_ GE449.out) | exact HB.out)⟩
       rw [if_neg c17] at H
       have c17b0 : decide (100 < (rd y451 x31_1)) = false := decide_eq_false c17
       clear c17
       have H' := Aside0.mk H
       clear H
       have p454 : 0 ≤ (x31_1 : Int) := of_decide_eq_true (by first | (with_reducible assumption) | assumption)
       have q454 : x31_1 < (y451.length : Int) := of_decide_eq_true (by first | (with_reducible assumption) | assumption)
       obtain ⟨ad454, e454, hx454_0⟩ := Kd.at_int (Kd.R_reads' HO_29.out).2.2 x31_1 p454 q454
       cases e454
       replace p454 := eq_true p454
       replace q454 := eq_true q454
       go_wp2
       go_roundg k1
       case measure => have := HK1.out; omega
       case rel => exact ⟨(wrap64 (x31_1 + 1)), (by first | rfl | (simp; done) | (simp [*]; done)), H', ⟨by have := HK1.out; omega⟩, ⟨by (with_reducible repeat (first | apply Kd.R_alloc | apply Kd.R_drewN | apply Kd.R_drew)); exact HO_29.out⟩, ⟨by (with_reducible repeat (first | refine blk_drewN ?_ _ | refine blk_drew ?_ | refine blk_alloc ?_ _)); exact BK449.out⟩, ⟨by repeat (first | (with_reducible first | exact HB.out | apply below_alloc | apply pw_below_drewN | apply below_drew1 | refine below_set ?_ GE449.out) | exact HB.out)⟩⟩
      rw [if_neg c15] at H
      exact absurd H (by simp)
     rw [if_neg c14] at H
     exact absurd H (by simp)
    rw [if_neg c13] at H
    have c13b0 : decide (x31_1 < (y451.length : Int)) = false := decide_eq_false c13
    clear c13
    replace H := Option.bind_eq_some_iff.mp H
    obtain ⟨⟨t455, t456, t457⟩, A180, H⟩ := H
    replace H : ((relievoref02_Sub.f a0_6 a0_7 a0_8 a0_0 a0_1 a0_2).bind fun bt459 => ((relievoref02_Scale.f t455 t456 t457 a1).bind fun bt463 => ((relievoref02_Scale.f bt459.1 bt459.2.1 bt459.2.2 a2).bind fun bt466 => ((relievoref02_Add.f bt463.1 bt463.2.1 bt463.2.2 bt466.1 bt466.2.1 bt466.2.2).bind fun bt469 => ((relievoref02_Add.f a0_0 a0_1 a0_2 bt469.1 bt469.2.1 bt469.2.2).bind fun bt472 => ((relievoref02_Scale.f t455 t456 t457 a3).bind fun bt476 => ((relievoref02_Scale.f bt459.1 bt459.2.1 bt459.2.2 a4).bind fun bt479 => ((relievoref02_Add.f bt476.1 bt476.2.1 bt476.2.2 bt479.1 bt479.2.1 bt479.2.2).bind fun bt482 => ((side_Meet.f k1 bt472.1 bt472.2.1 bt472.2.2 bt482.1 bt482.2.1 bt482.2.2 a0_0 a0_1 a0_2 a0_3 a0_4 a0_5 a0_6 a0_7 a0_8).bind fun bt486 => ((side_Meet.f k1 a0_0 a0_1 a0_2 1 2 3 a0_0 a0_1 a0_2 a0_0 a0_1 a0_2 a0_6 a0_7 a0_8).bind fun bt494 => (if bt486.2.2.2.2.2.1 = true then (relievolaw03_SideFlat.j1 k1 false) else (relievolaw03_SideFlat.j1 k1 (!bt494.2.2.2.2.2.1))))))))))))) = some r := H
    have A18 := Aside0.mk A180
    clear A180
    replace H := Option.bind_eq_some_iff.mp H
    obtain ⟨⟨t459, t460, t461⟩, A190, H⟩ := H
    replace H : ((relievoref02_Scale.f t455 t456 t457 a1).bind fun bt463 => ((relievoref02_Scale.f t459 t460 t461 a2).bind fun bt466 => ((relievoref02_Add.f bt463.1 bt463.2.1 bt463.2.2 bt466.1 bt466.2.1 bt466.2.2).bind fun bt469 => ((relievoref02_Add.f a0_0 a0_1 a0_2 bt469.1 bt469.2.1 bt469.2.2).bind fun bt472 => ((relievoref02_Scale.f t455 t456 t457 a3).bind fun bt476 => ((relievoref02_Scale.f t459 t460 t461 a4).bind fun bt479 => ((relievoref02_Add.f bt476.1 bt476.2.1 bt476.2.2 bt479.1 bt479.2.1 bt479.2.2).bind fun bt482 => ((side_Meet.f k1 bt472.1 bt472.2.1 bt472.2.2 bt482.1 bt482.2.1 bt482.2.2 a0_0 a0_1 a0_2 a0_3 a0_4 a0_5 a0_6 a0_7 a0_8).bind fun bt486 => ((side_Meet.f k1 a0_0 a0_1 a0_2 1 2 3 a0_0 a0_1 a0_2 a0_0 a0_1 a0_2 a0_6 a0_7 a0_8).bind fun bt494 => (if bt486.2.2.2.2.2.1 = true then (relievolaw03_SideFlat.j1 k1 false) else (relievolaw03_SideFlat.j1 k1 (!bt494.2.2.2.2.2.1)))))))))))) = some r := H
    have A19 := Aside0.mk A190
    clear A190
    replace H := Option.bind_eq_some_iff.mp H
    obtain ⟨⟨t463, t464, t465⟩, A200, H⟩ := H
    replace H : ((relievoref02_Scale.f t459 t460 t461 a2).bind fun bt466 => ((relievoref02_Add.f t463 t464 t465 bt466.1 bt466.2.1 bt466.2.2).bind fun bt469 => ((relievoref02_Add.f a0_0 a0_1 a0_2 bt469.1 bt469.2.1 bt469.2.2).bind fun bt472 => ((relievoref02_Scale.f t455 t456 t457 a3).bind fun bt476 => ((relievoref02_Scale.f t459 t460 t461 a4).bind fun bt479 => ((relievoref02_Add.f bt476.1 bt476.2.1 bt476.2.2 bt479.1 bt479.2.1 bt479.2.2).bind fun bt482 => ((side_Meet.f k1 bt472.1 bt472.2.1 bt472.2.2 bt482.1 bt482.2.1 bt482.2.2 a0_0 a0_1 a0_2 a0_3 a0_4 a0_5 a0_6 a0_7 a0_8).bind fun bt486 => ((side_Meet.f k1 a0_0 a0_1 a0_2 1 2 3 a0_0 a0_1 a0_2 a0_0 a0_1 a0_2 a0_6 a0_7 a0_8).bind fun bt494 => (if bt486.2.2.2.2.2.1 = true then (relievolaw03_SideFlat.j1 k1 false) else (relievolaw03_SideFlat.j1 k1 (!bt494.2.2.2.2.2.1))))))))))) = some r := H
    have A20 := Aside0.mk A200
    clear A200
    replace H := Option.bind_eq_some_iff.mp H
    obtain ⟨⟨t466, t467, t468⟩, A210, H⟩ := H
    replace H : ((relievoref02_Add.f t463 t464 t465 t466 t467 t468).bind fun bt469 => ((relievoref02_Add.f a0_0 a0_1 a0_2 bt469.1 bt469.2.1 bt469.2.2).bind fun bt472 => ((relievoref02_Scale.f t455 t456 t457 a3).bind fun bt476 => ((relievoref02_Scale.f t459 t460 t461 a4).bind fun bt479 => ((relievoref02_Add.f bt476.1 bt476.2.1 bt476.2.2 bt479.1 bt479.2.1 bt479.2.2).bind fun bt482 => ((side_Meet.f k1 bt472.1 bt472.2.1 bt472.2.2 bt482.1 bt482.2.1 bt482.2.2 a0_0 a0_1 a0_2 a0_3 a0_4 a0_5 a0_6 a0_7 a0_8).bind fun bt486 => ((side_Meet.f k1 a0_0 a0_1 a0_2 1 2 3 a0_0 a0_1 a0_2 a0_0 a0_1 a0_2 a0_6 a0_7 a0_8).bind fun bt494 => (if bt486.2.2.2.2.2.1 = true then (relievolaw03_SideFlat.j1 k1 false) else (relievolaw03_SideFlat.j1 k1 (!bt494.2.2.2.2.2.1)))))))))) = some r := H
    have A21 := Aside0.mk A210
    clear A210
    replace H := Option.bind_eq_some_iff.mp H
    obtain ⟨⟨t469, t470, t471⟩, A220, H⟩ := H
    replace H : ((relievoref02_Add.f a0_0 a0_1 a0_2 t469 t470 t471).bind fun bt472 => ((relievoref02_Scale.f t455 t456 t457 a3).bind fun bt476 => ((relievoref02_Scale.f t459 t460 t461 a4).bind fun bt479 => ((relievoref02_Add.f bt476.1 bt476.2.1 bt476.2.2 bt479.1 bt479.2.1 bt479.2.2).bind fun bt482 => ((side_Meet.f k1 bt472.1 bt472.2.1 bt472.2.2 bt482.1 bt482.2.1 bt482.2.2 a0_0 a0_1 a0_2 a0_3 a0_4 a0_5 a0_6 a0_7 a0_8).bind fun bt486 => ((side_Meet.f k1 a0_0 a0_1 a0_2 1 2 3 a0_0 a0_1 a0_2 a0_0 a0_1 a0_2 a0_6 a0_7 a0_8).bind fun bt494 => (if bt486.2.2.2.2.2.1 = true then (relievolaw03_SideFlat.j1 k1 false) else (relievolaw03_SideFlat.j1 k1 (!bt494.2.2.2.2.2.1))))))))) = some r := H
    have A22 := Aside0.mk A220
    clear A220
    replace H := Option.bind_eq_some_iff.mp H
    obtain ⟨⟨t472, t473, t474⟩, A230, H⟩ := H
    replace H : ((relievoref02_Scale.f t455 t456 t457 a3).bind fun bt476 => ((relievoref02_Scale.f t459 t460 t461 a4).bind fun bt479 => ((relievoref02_Add.f bt476.1 bt476.2.1 bt476.2.2 bt479.1 bt479.2.1 bt479.2.2).bind fun bt482 => ((side_Meet.f k1 t472 t473 t474 bt482.1 bt482.2.1 bt482.2.2 a0_0 a0_1 a0_2 a0_3 a0_4 a0_5 a0_6 a0_7 a0_8).bind fun bt486 => ((side_Meet.f k1 a0_0 a0_1 a0_2 1 2 3 a0_0 a0_1 a0_2 a0_0 a0_1 a0_2 a0_6 a0_7 a0_8).bind fun bt494 => (if bt486.2.2.2.2.2.1 = true then (relievolaw03_SideFlat.j1 k1 false) else (relievolaw03_SideFlat.j1 k1 (!bt494.2.2.2.2.2.1)))))))) = some r := H
    have A23 := Aside0.mk A230
    clear A230
    replace H := Option.bind_eq_some_iff.mp H
    obtain ⟨⟨t476, t477, t478⟩, A240, H⟩ := H
    replace H : ((relievoref02_Scale.f t459 t460 t461 a4).bind fun bt479 => ((relievoref02_Add.f t476 t477 t478 bt479.1 bt479.2.1 bt479.2.2).bind fun bt482 => ((side_Meet.f k1 t472 t473 t474 bt482.1 bt482.2.1 bt482.2.2 a0_0 a0_1 a0_2 a0_3 a0_4 a0_5 a0_6 a0_7 a0_8).bind fun bt486 => ((side_Meet.f k1 a0_0 a0_1 a0_2 1 2 3 a0_0 a0_1 a0_2 a0_0 a0_1 a0_2 a0_6 a0_7 a0_8).bind fun bt494 => (if bt486.2.2.2.2.2.1 = true then (relievolaw03_SideFlat.j1 k1 false) else (relievolaw03_SideFlat.j1 k1 (!bt494.2.2.2.2.2.1))))))) = some r := H
    have A24 := Aside0.mk A240
    clear A240
    replace H := Option.bind_eq_some_iff.mp H
    obtain ⟨⟨t479, t480, t481⟩, A250, H⟩ := H
    replace H : ((relievoref02_Add.f t476 t477 t478 t479 t480 t481).bind fun bt482 => ((side_Meet.f k1 t472 t473 t474 bt482.1 bt482.2.1 bt482.2.2 a0_0 a0_1 a0_2 a0_3 a0_4 a0_5 a0_6 a0_7 a0_8).bind fun bt486 => ((side_Meet.f k1 a0_0 a0_1 a0_2 1 2 3 a0_0 a0_1 a0_2 a0_0 a0_1 a0_2 a0_6 a0_7 a0_8).bind fun bt494 => (if bt486.2.2.2.2.2.1 = true then (relievolaw03_SideFlat.j1 k1 false) else (relievolaw03_SideFlat.j1 k1 (!bt494.2.2.2.2.2.1)))))) = some r := H
    have A25 := Aside0.mk A250
    clear A250
    replace H := Option.bind_eq_some_iff.mp H
    obtain ⟨⟨t482, t483, t484⟩, A260, H⟩ := H
    replace H : ((side_Meet.f k1 t472 t473 t474 t482 t483 t484 a0_0 a0_1 a0_2 a0_3 a0_4 a0_5 a0_6 a0_7 a0_8).bind fun bt486 => ((side_Meet.f k1 a0_0 a0_1 a0_2 1 2 3 a0_0 a0_1 a0_2 a0_0 a0_1 a0_2 a0_6 a0_7 a0_8).bind fun bt494 => (if bt486.2.2.2.2.2.1 = true then (relievolaw03_SideFlat.j1 k1 false) else (relievolaw03_SideFlat.j1 k1 (!bt494.2.2.2.2.2.1))))) = some r := H
    have A26 := Aside0.mk A260
    clear A260
    replace H := Option.bind_eq_some_iff.mp H
    obtain ⟨⟨t486, t487, t488, t489, t490, t491, t492⟩, A270, H⟩ := H
    replace H : ((side_Meet.f k1 a0_0 a0_1 a0_2 1 2 3 a0_0 a0_1 a0_2 a0_0 a0_1 a0_2 a0_6 a0_7 a0_8).bind fun bt494 => (if t491 = true then (relievolaw03_SideFlat.j1 k1 false) else (relievolaw03_SideFlat.j1 k1 (!bt494.2.2.2.2.2.1)))) = some r := H
    have A27 := Aside0.mk A270
    clear A270
    replace H := Option.bind_eq_some_iff.mp H
    obtain ⟨⟨t494, t495, t496, t497, t498, t499, t500⟩, A280, H⟩ := H
    replace H : (if t491 = true then (relievolaw03_SideFlat.j1 k1 false) else (relievolaw03_SideFlat.j1 k1 (!t499))) = some r := H
    have A28 := Aside0.mk A280
    clear A280
    have HC29 := Aside0.mk H
    clear H
    have hcz30_0 : wr.cell? ⟨gb449, 0, none⟩ = some (.int .i64 a0_0) := (blk_cell BK449.out 0).trans rfl
    have hcz30_1 : wr.cell? ⟨gb449, 1, none⟩ = some (.int .i64 a0_1) := (blk_cell BK449.out 1).trans rfl
    have hcz30_2 : wr.cell? ⟨gb449, 2, none⟩ = some (.int .i64 a0_2) := (blk_cell BK449.out 2).trans rfl
    have hcz30_3 : wr.cell? ⟨gb449, 3, none⟩ = some (.int .i64 a0_3) := (blk_cell BK449.out 3).trans rfl
    have hcz30_4 : wr.cell? ⟨gb449, 4, none⟩ = some (.int .i64 a0_4) := (blk_cell BK449.out 4).trans rfl
    have hcz30_5 : wr.cell? ⟨gb449, 5, none⟩ = some (.int .i64 a0_5) := (blk_cell BK449.out 5).trans rfl
    have hcz30_6 : wr.cell? ⟨gb449, 6, none⟩ = some (.int .i64 a0_6) := (blk_cell BK449.out 6).trans rfl
    have hcz30_7 : wr.cell? ⟨gb449, 7, none⟩ = some (.int .i64 a0_7) := (blk_cell BK449.out 7).trans rfl
    have hcz30_8 : wr.cell? ⟨gb449, 8, none⟩ = some (.int .i64 a0_8) := (blk_cell BK449.out 8).trans rfl
    have hfz30_0 := blk_frozen BK449.out 0
    have hfz30_1 := blk_frozen BK449.out 1
    have hfz30_2 := blk_frozen BK449.out 2
    have hfz30_3 := blk_frozen BK449.out 3
    have hfz30_4 := blk_frozen BK449.out 4
    have hfz30_5 := blk_frozen BK449.out 5
    have hfz30_6 := blk_frozen BK449.out 6
    have hfz30_7 := blk_frozen BK449.out 7
    have hfz30_8 := blk_frozen BK449.out 8
    try go_wp2_with (first | ((with_reducible refine gate_callee (f := 23) rfl ?_); refine goesL_ (some 46) rfl rfl Try.func23 (by kernel_rfl) rfl #[.agg #[.int .i64 a0_3, .int .i64 a0_4, .int .i64 a0_5], .agg #[.int .i64 a0_0, .int .i64 a0_1, .int .i64 a0_2]] rfl (by (try simp only [List.map_toArray, List.map_cons, List.map_nil]); first | done | rfl | (simp only [List.length_drop, List.length_take]; rfl)) ?_; (with_reducible refine (relievoref02_Sub.calls a0_3 a0_4 a0_5 a0_0 a0_1 a0_2 t455 t456 t457 _ A18.out).mono ?_); rintro e w31 ⟨rfl, hb⟩; refine ⟨_, rfl, ?_⟩; have n0_ := Aside0.mk (Kd.R_below (by (with_reducible repeat (first | apply Kd.R_alloc | apply Kd.R_drewN | apply Kd.R_drew)); exact HO_29.out) hb); have n1_ := Aside0.mk (blk_below (g := gb449) (o := .cells #[.int .i64 a0_0, .int .i64 a0_1, .int .i64 a0_2, .int .i64 a0_3, .int .i64 a0_4, .int .i64 a0_5, .int .i64 a0_6, .int .i64 a0_7, .int .i64 a0_8] 25 (0, 0)) (by (with_reducible repeat (first | refine blk_drewN ?_ _ | refine blk_drew ?_ | refine blk_alloc ?_ _)); exact BK449.out) hb); have n2_ := Aside0.mk (below_step (by repeat (first | (with_reducible first | exact HB.out | apply below_alloc | apply pw_below_drewN | apply below_drew1 | refine below_set ?_ GE449.out) | exact HB.out)) hb); clear HO_29; clear BK449; clear HB; have HO_29 := n0_; have BK449 := n1_; have HB := n2_; clear n0_ n1_ n2_; (try clear hb); (try clear hb2); (try clear hk); (try clear hi)) | ((with_reducible refine gate_dst (N := 13) rfl ?_); refine box_event ?hg (N := 13) ?hd (cs := #[.int .i64 0, .int .i64 0, .int .i64 0]) (t := 23) ?hr ?_; (case hd => rfl); (case hg => rfl); (case hr => first | (go_simp; done) | (go_simp; rfl)); intro gb458 hg w32 hbox hb; have n0_ := Aside0.mk (Kd.R_below (by (with_reducible repeat (first | apply Kd.R_alloc | apply Kd.R_drewN | apply Kd.R_drew)); exact HO_29.out) hb); have n1_ := Aside0.mk (blk_below (g := gb449) (o := .cells #[.int .i64 a0_0, .int .i64 a0_1, .int .i64 a0_2, .int .i64 a0_3, .int .i64 a0_4, .int .i64 a0_5, .int .i64 a0_6, .int .i64 a0_7, .int .i64 a0_8] 25 (0, 0)) (by (with_reducible repeat (first | refine blk_drewN ?_ _ | refine blk_drew ?_ | refine blk_alloc ?_ _)); exact BK449.out) hb); have n2_ := Aside0.mk (below_step (by repeat (first | (with_reducible first | exact HB.out | apply below_alloc | apply pw_below_drewN | apply below_drew1 | refine below_set ?_ GE449.out) | exact HB.out)) hb); have n3_ := Aside0.mk (hbox); have n4_ := Aside0.mk ((by rw [hg]; exact (below_size (by repeat (first | (with_reducible first | exact HB.out | apply below_alloc | apply pw_below_drewN | apply below_drew1 | refine below_set ?_ GE449.out) | exact HB.out))) : w.heap.size ≤ gb458)); have n5_ := Aside0.mk ((by rw [hg]; exact (below_size (by repeat (first | (with_reducible first | exact HB.out | apply below_alloc | apply pw_below_drewN | apply below_drew1 | refine below_set ?_ GE449.out) | exact HB.out))) : w.heap.size ≤ gb458)); have n6_ := Aside0.mk ((by rw [hg]; exact Nat.ne_of_lt (blk_lt (g := gb449) (o := .cells #[.int .i64 a0_0, .int .i64 a0_1, .int .i64 a0_2, .int .i64 a0_3, .int .i64 a0_4, .int .i64 a0_5, .int .i64 a0_6, .int .i64 a0_7, .int .i64 a0_8] 25 (0, 0)) (by (with_reducible repeat (first | refine blk_drewN ?_ _ | refine blk_drew ?_ | refine blk_alloc ?_ _)); exact BK449.out)) : gb449 ≠ gb458)); have n7_ := Aside0.mk ((by rw [hg]; exact Nat.ne_of_gt (blk_lt (g := gb449) (o := .cells #[.int .i64 a0_0, .int .i64 a0_1, .int .i64 a0_2, .int .i64 a0_3, .int .i64 a0_4, .int .i64 a0_5, .int .i64 a0_6, .int .i64 a0_7, .int .i64 a0_8] 25 (0, 0)) (by (with_reducible repeat (first | refine blk_drewN ?_ _ | refine blk_drew ?_ | refine blk_alloc ?_ _)); exact BK449.out)) : gb458 ≠ gb449)); clear HO_29; clear BK449; clear HB; have HO_29 := n0_; have BK449 := n1_; have HB := n2_; have BK458 := n3_; have GW458 := n4_; have GE458 := n5_; have NB449_458 := n6_; have NB458_449 := n7_; clear n0_ n1_ n2_ n3_ n4_ n5_ n6_ n7_; clear hb hbox hg; have hnb33 := NB458_449.out; have hnc33 := NB449_458.out; have hcz34_0 : w32.cell? ⟨gb458, 0, none⟩ = some (.int .i64 0) := (blk_cell BK458.out 0).trans rfl; have hcz34_1 : w32.cell? ⟨gb458, 1, none⟩ = some (.int .i64 0) := (blk_cell BK458.out 1).trans rfl; have hcz34_2 : w32.cell? ⟨gb458, 2, none⟩ = some (.int .i64 0) := (blk_cell BK458.out 2).trans rfl; have hfz34_0 := blk_frozen BK458.out 0; have hfz34_1 := blk_frozen BK458.out 1; have hfz34_2 := blk_frozen BK458.out 2; have hcz35_0 : w32.cell? ⟨gb449, 0, none⟩ = some (.int .i64 a0_0) := (blk_cell BK449.out 0).trans rfl; have hcz35_1 : w32.cell? ⟨gb449, 1, none⟩ = some (.int .i64 a0_1) := (blk_cell BK449.out 1).trans rfl; have hcz35_2 : w32.cell? ⟨gb449, 2, none⟩ = some (.int .i64 a0_2) := (blk_cell BK449.out 2).trans rfl; have hcz35_3 : w32.cell? ⟨gb449, 3, none⟩ = some (.int .i64 a0_3) := (blk_cell BK449.out 3).trans rfl; have hcz35_4 : w32.cell? ⟨gb449, 4, none⟩ = some (.int .i64 a0_4) := (blk_cell BK449.out 4).trans rfl; have hcz35_5 : w32.cell? ⟨gb449, 5, none⟩ = some (.int .i64 a0_5) := (blk_cell BK449.out 5).trans rfl; have hcz35_6 : w32.cell? ⟨gb449, 6, none⟩ = some (.int .i64 a0_6) := (blk_cell BK449.out 6).trans rfl; have hcz35_7 : w32.cell? ⟨gb449, 7, none⟩ = some (.int .i64 a0_7) := (blk_cell BK449.out 7).trans rfl; have hcz35_8 : w32.cell? ⟨gb449, 8, none⟩ = some (.int .i64 a0_8) := (blk_cell BK449.out 8).trans rfl; have hfz35_0 := blk_frozen BK449.out 0; have hfz35_1 := blk_frozen BK449.out 1; have hfz35_2 := blk_frozen BK449.out 2; have hfz35_3 := blk_frozen BK449.out 3; have hfz35_4 := blk_frozen BK449.out 4; have hfz35_5 := blk_frozen BK449.out 5; have hfz35_6 := blk_frozen BK449.out 6; have hfz35_7 := blk_frozen BK449.out 7; have hfz35_8 := blk_frozen BK449.out 8) | ((with_reducible refine gate_callee (f := 23) rfl ?_); refine goesL_ (some 51) rfl rfl Try.func23 (by kernel_rfl) rfl #[.agg #[.int .i64 a0_6, .int .i64 a0_7, .int .i64 a0_8], .agg #[.int .i64 a0_0, .int .i64 a0_1, .int .i64 a0_2]] rfl (by (try simp only [List.map_toArray, List.map_cons, List.map_nil]); first | done | rfl | (simp only [List.length_drop, List.length_take]; rfl)) ?_; (with_reducible refine (relievoref02_Sub.calls a0_6 a0_7 a0_8 a0_0 a0_1 a0_2 t459 t460 t461 _ A19.out).mono ?_); rintro e w36 ⟨rfl, hb⟩; refine ⟨_, rfl, ?_⟩; have n0_ := Aside0.mk (Kd.R_below (by (with_reducible repeat (first | apply Kd.R_alloc | apply Kd.R_drewN | apply Kd.R_drew)); exact (Kd.R_mono (Kd.R_far (p := ⟨gb458, 2, none⟩) (Kd.R_far (p := ⟨gb458, 1, none⟩) (Kd.R_far (p := ⟨gb458, 0, none⟩) (Kd.R_types HO_29.out BK458.out (by decide)) (fun _ hk => hk.2) (.int .i64 t455)) (fun _ hk => hk.2) (.int .i64 t456)) (fun _ hk => hk.2) (.int .i64 t457)) (fun _ h_ => h_.1))) hb); have n1_ := Aside0.mk (blk_below (g := gb449) (o := .cells #[.int .i64 a0_0, .int .i64 a0_1, .int .i64 a0_2, .int .i64 a0_3, .int .i64 a0_4, .int .i64 a0_5, .int .i64 a0_6, .int .i64 a0_7, .int .i64 a0_8] 25 (0, 0)) (by (with_reducible repeat (first | refine blk_drewN ?_ _ | refine blk_drew ?_ | refine blk_alloc ?_ _)); refine blk_far ?_ NB449_458.out _; (with_reducible repeat (first | refine blk_drewN ?_ _ | refine blk_drew ?_ | refine blk_alloc ?_ _)); refine blk_far ?_ NB449_458.out _; (with_reducible repeat (first | refine blk_drewN ?_ _ | refine blk_drew ?_ | refine blk_alloc ?_ _)); refine blk_far ?_ NB449_458.out _; (with_reducible repeat (first | refine blk_drewN ?_ _ | refine blk_drew ?_ | refine blk_alloc ?_ _)); exact BK449.out) hb); have n2_ := Aside0.mk (blk_below (g := gb458) (o := .cells #[.int .i64 t455, .int .i64 t456, .int .i64 t457] 23 (0, 0)) (by (with_reducible repeat (first | refine blk_drewN ?_ _ | refine blk_drew ?_ | refine blk_alloc ?_ _)); refine blk_put (cs := #[.int .i64 t455, .int .i64 t456, .int .i64 0]) ?_ 2 _ rfl; (with_reducible repeat (first | refine blk_drewN ?_ _ | refine blk_drew ?_ | refine blk_alloc ?_ _)); refine blk_put (cs := #[.int .i64 t455, .int .i64 0, .int .i64 0]) ?_ 1 _ rfl; (with_reducible repeat (first | refine blk_drewN ?_ _ | refine blk_drew ?_ | refine blk_alloc ?_ _)); refine blk_put (cs := #[.int .i64 0, .int .i64 0, .int .i64 0]) ?_ 0 _ rfl; (with_reducible repeat (first | refine blk_drewN ?_ _ | refine blk_drew ?_ | refine blk_alloc ?_ _)); exact BK458.out) hb); have n3_ := Aside0.mk (below_step (by repeat (first | (with_reducible first | exact HB.out | apply below_alloc | apply pw_below_drewN | apply below_drew1 | refine below_set ?_ GE449.out | refine below_set ?_ GE458.out) | exact HB.out)) hb); clear HO_29; clear BK449; clear BK458; clear HB; have HO_29 := n0_; have BK449 := n1_; have BK458 := n2_; have HB := n3_; clear n0_ n1_ n2_ n3_; (try clear hb); (try clear hb2); (try clear hk); (try clear hi)) | ((with_reducible refine gate_dst (N := 14) rfl ?_); refine box_event ?hg (N := 14) ?hd (cs := #[.int .i64 0, .int .i64 0, .int .i64 0]) (t := 23) ?hr ?_; (case hd => rfl); (case hg => rfl); (case hr => first | (go_simp; done) | (go_simp; rfl)); intro gb462 hg w37 hbox hb; have n0_ := Aside0.mk (Kd.R_below (by (with_reducible repeat (first | apply Kd.R_alloc | apply Kd.R_drewN | apply Kd.R_drew)); exact HO_29.out) hb); have n1_ := Aside0.mk (blk_below (g := gb449) (o := .cells #[.int .i64 a0_0, .int .i64 a0_1, .int .i64 a0_2, .int .i64 a0_3, .int .i64 a0_4, .int .i64 a0_5, .int .i64 a0_6, .int .i64 a0_7, .int .i64 a0_8] 25 (0, 0)) (by (with_reducible repeat (first | refine blk_drewN ?_ _ | refine blk_drew ?_ | refine blk_alloc ?_ _)); exact BK449.out) hb); have n2_ := Aside0.mk (blk_below (g := gb458) (o := .cells #[.int .i64 t455, .int .i64 t456, .int .i64 t457] 23 (0, 0)) (by (with_reducible repeat (first | refine blk_drewN ?_ _ | refine blk_drew ?_ | refine blk_alloc ?_ _)); exact BK458.out) hb); have n3_ := Aside0.mk (below_step (by repeat (first | (with_reducible first | exact HB.out | apply below_alloc | apply pw_below_drewN | apply below_drew1 | refine below_set ?_ GE449.out | refine below_set ?_ GE458.out) | exact HB.out)) hb); have n4_ := Aside0.mk (hbox); have n5_ := Aside0.mk ((by rw [hg]; exact (below_size (by repeat (first | (with_reducible first | exact HB.out | apply below_alloc | apply pw_below_drewN | apply below_drew1 | refine below_set ?_ GE449.out | refine below_set ?_ GE458.out) | exact HB.out))) : w.heap.size ≤ gb462)); have n6_ := Aside0.mk ((by rw [hg]; exact (below_size (by repeat (first | (with_reducible first | exact HB.out | apply below_alloc | apply pw_below_drewN | apply below_drew1 | refine below_set ?_ GE449.out | refine below_set ?_ GE458.out) | exact HB.out))) : w.heap.size ≤ gb462)); have n7_ := Aside0.mk ((by rw [hg]; exact Nat.ne_of_lt (blk_lt (g := gb449) (o := .cells #[.int .i64 a0_0, .int .i64 a0_1, .int .i64 a0_2, .int .i64 a0_3, .int .i64 a0_4, .int .i64 a0_5, .int .i64 a0_6, .int .i64 a0_7, .int .i64 a0_8] 25 (0, 0)) (by (with_reducible repeat (first | refine blk_drewN ?_ _ | refine blk_drew ?_ | refine blk_alloc ?_ _)); exact BK449.out)) : gb449 ≠ gb462)); have n8_ := Aside0.mk ((by rw [hg]; exact Nat.ne_of_gt (blk_lt (g := gb449) (o := .cells #[.int .i64 a0_0, .int .i64 a0_1, .int .i64 a0_2, .int .i64 a0_3, .int .i64 a0_4, .int .i64 a0_5, .int .i64 a0_6, .int .i64 a0_7, .int .i64 a0_8] 25 (0, 0)) (by (with_reducible repeat (first | refine blk_drewN ?_ _ | refine blk_drew ?_ | refine blk_alloc ?_ _)); exact BK449.out)) : gb462 ≠ gb449)); have n9_ := Aside0.mk ((by rw [hg]; exact Nat.ne_of_lt (blk_lt (g := gb458) (o := .cells #[.int .i64 t455, .int .i64 t456, .int .i64 t457] 23 (0, 0)) (by (with_reducible repeat (first | refine blk_drewN ?_ _ | refine blk_drew ?_ | refine blk_alloc ?_ _)); exact BK458.out)) : gb458 ≠ gb462)); have n10_ := Aside0.mk ((by rw [hg]; exact Nat.ne_of_gt (blk_lt (g := gb458) (o := .cells #[.int .i64 t455, .int .i64 t456, .int .i64 t457] 23 (0, 0)) (by (with_reducible repeat (first | refine blk_drewN ?_ _ | refine blk_drew ?_ | refine blk_alloc ?_ _)); exact BK458.out)) : gb462 ≠ gb458)); clear HO_29; clear BK449; clear BK458; clear HB; have HO_29 := n0_; have BK449 := n1_; have BK458 := n2_; have HB := n3_; have BK462 := n4_; have GW462 := n5_; have GE462 := n6_; have NB449_462 := n7_; have NB462_449 := n8_; have NB458_462 := n9_; have NB462_458 := n10_; clear n0_ n1_ n2_ n3_ n4_ n5_ n6_ n7_ n8_ n9_ n10_; clear hb hbox hg; have hnb38 := NB462_449.out; have hnc38 := NB449_462.out; have hnb39 := NB462_458.out; have hnc39 := NB458_462.out; have hcz40_0 : w37.cell? ⟨gb462, 0, none⟩ = some (.int .i64 0) := (blk_cell BK462.out 0).trans rfl; have hcz40_1 : w37.cell? ⟨gb462, 1, none⟩ = some (.int .i64 0) := (blk_cell BK462.out 1).trans rfl; have hcz40_2 : w37.cell? ⟨gb462, 2, none⟩ = some (.int .i64 0) := (blk_cell BK462.out 2).trans rfl; have hfz40_0 := blk_frozen BK462.out 0; have hfz40_1 := blk_frozen BK462.out 1; have hfz40_2 := blk_frozen BK462.out 2))
    have n0_ : Aside0 (Kd.R (Kd.int .i64) 3 (((w37.setCell ⟨gb462, 0, none⟩ (.int .i64 t459)).setCell ⟨gb462, 1, none⟩ (.int .i64 t460)).setCell ⟨gb462, 2, none⟩ (.int .i64 t461)) w.heap.size (fun _ => True) (.slice Ao12 y451.length co12) y451) := ⟨by (with_reducible repeat (first | apply Kd.R_alloc | apply Kd.R_drewN | apply Kd.R_drew)); exact Kd.R_mono (Kd.R_far (p := ⟨gb462, 2, none⟩) (Kd.R_far (p := ⟨gb462, 1, none⟩) (Kd.R_far (p := ⟨gb462, 0, none⟩) (Kd.R_types HO_29.out BK462.out (by decide)) (fun _ hk => hk.2) (.int .i64 t459)) (fun _ hk => hk.2) (.int .i64 t460)) (fun _ hk => hk.2) (.int .i64 t461)) (fun _ hk => trivial)⟩
    have n1_ : Aside0 ((((w37.setCell ⟨gb462, 0, none⟩ (.int .i64 t459)).setCell ⟨gb462, 1, none⟩ (.int .i64 t460)).setCell ⟨gb462, 2, none⟩ (.int .i64 t461)).heap[gb449]? = some (.cells #[.int .i64 a0_0, .int .i64 a0_1, .int .i64 a0_2, .int .i64 a0_3, .int .i64 a0_4, .int .i64 a0_5, .int .i64 a0_6, .int .i64 a0_7, .int .i64 a0_8] 25 (0, 0))) := ⟨by (with_reducible repeat (first | refine blk_drewN ?_ _ | refine blk_drew ?_ | refine blk_alloc ?_ _)); refine blk_far ?_ NB449_462.out _; (with_reducible repeat (first | refine blk_drewN ?_ _ | refine blk_drew ?_ | refine blk_alloc ?_ _)); refine blk_far ?_ NB449_462.out _; (with_reducible repeat (first | refine blk_drewN ?_ _ | refine blk_drew ?_ | refine blk_alloc ?_ _)); refine blk_far ?_ NB449_462.out _; (with_reducible repeat (first | refine blk_drewN ?_ _ | refine blk_drew ?_ | refine blk_alloc ?_ _)); exact BK449.out⟩
    have n2_ : Aside0 ((((w37.setCell ⟨gb462, 0, none⟩ (.int .i64 t459)).setCell ⟨gb462, 1, none⟩ (.int .i64 t460)).setCell ⟨gb462, 2, none⟩ (.int .i64 t461)).heap[gb458]? = some (.cells #[.int .i64 t455, .int .i64 t456, .int .i64 t457] 23 (0, 0))) := ⟨by (with_reducible repeat (first | refine blk_drewN ?_ _ | refine blk_drew ?_ | refine blk_alloc ?_ _)); refine blk_far ?_ NB458_462.out _; (with_reducible repeat (first | refine blk_drewN ?_ _ | refine blk_drew ?_ | refine blk_alloc ?_ _)); refine blk_far ?_ NB458_462.out _; (with_reducible repeat (first | refine blk_drewN ?_ _ | refine blk_drew ?_ | refine blk_alloc ?_ _)); refine blk_far ?_ NB458_462.out _; (with_reducible repeat (first | refine blk_drewN ?_ _ | refine blk_drew ?_ | refine blk_alloc ?_ _)); exact BK458.out⟩
    have n3_ : Aside0 ((((w37.setCell ⟨gb462, 0, none⟩ (.int .i64 t459)).setCell ⟨gb462, 1, none⟩ (.int .i64 t460)).setCell ⟨gb462, 2, none⟩ (.int .i64 t461)).heap[gb462]? = some (.cells #[.int .i64 t459, .int .i64 t460, .int .i64 t461] 23 (0, 0))) := ⟨by (with_reducible repeat (first | refine blk_drewN ?_ _ | refine blk_drew ?_ | refine blk_alloc ?_ _)); refine blk_put (cs := #[.int .i64 t459, .int .i64 t460, .int .i64 0]) ?_ 2 _ rfl; (with_reducible repeat (first | refine blk_drewN ?_ _ | refine blk_drew ?_ | refine blk_alloc ?_ _)); refine blk_put (cs := #[.int .i64 t459, .int .i64 0, .int .i64 0]) ?_ 1 _ rfl; (with_reducible repeat (first | refine blk_drewN ?_ _ | refine blk_drew ?_ | refine blk_alloc ?_ _)); refine blk_put (cs := #[.int .i64 0, .int .i64 0, .int .i64 0]) ?_ 0 _ rfl; (with_reducible repeat (first | refine blk_drewN ?_ _ | refine blk_drew ?_ | refine blk_alloc ?_ _)); exact BK462.out⟩
    have n4_ : Aside0 (Below w.heap.size w (((w37.setCell ⟨gb462, 0, none⟩ (.int .i64 t459)).setCell ⟨gb462, 1, none⟩ (.int .i64 t460)).setCell ⟨gb462, 2, none⟩ (.int .i64 t461))) := ⟨by repeat (first | (with_reducible first | exact HB.out | apply below_alloc | apply pw_below_drewN | apply below_drew1 | refine below_set ?_ GE449.out | refine below_set ?_ GE458.out | refine below_set ?_ GE462.out) | exact HB.out)⟩
    (try clear HO_29)
    (try clear BK449)
    (try clear BK458)
    (try clear BK462)
    (try clear HB)
    generalize (((w37.setCell ⟨gb462, 0, none⟩ (.int .i64 t459)).setCell ⟨gb462, 1, none⟩ (.int .i64 t460)).setCell ⟨gb462, 2, none⟩ (.int .i64 t461)) = w41 at n0_ n1_ n2_ n3_ n4_ ⊢
    have HO_29 := n0_
    have BK449 := n1_
    have BK458 := n2_
    have BK462 := n3_
    have HB := n4_
    clear n0_ n1_ n2_ n3_ n4_
    have n0_ := Aside0.mk (Kd.R_drew HO_29.out)
    have n1_ := Aside0.mk (blk_drew BK449.out)
    have n2_ := Aside0.mk (blk_drew BK458.out)
    have n3_ := Aside0.mk (blk_drew BK462.out)
    have n4_ := Aside0.mk (below_drew1 HB.out)
    clear HO_29
    clear BK449
    clear BK458
    clear BK462
    clear HB
    have HO_29 := n0_
    have BK449 := n1_
    have BK458 := n2_
    have BK462 := n3_
    have HB := n4_
    clear n0_ n1_ n2_ n3_ n4_
    refine start_ (n := 12) (S := fun w' => w'.cell? ⟨gb449, 0, none⟩ = some (.int .i64 a0_0) ∧ w'.cell? ⟨gb449, 1, none⟩ = some (.int .i64 a0_1) ∧ w'.cell? ⟨gb449, 2, none⟩ = some (.int .i64 a0_2) ∧ w'.cell? ⟨gb449, 3, none⟩ = some (.int .i64 a0_3) ∧ w'.cell? ⟨gb449, 4, none⟩ = some (.int .i64 a0_4) ∧ w'.cell? ⟨gb449, 5, none⟩ = some (.int .i64 a0_5) ∧ w'.cell? ⟨gb449, 6, none⟩ = some (.int .i64 a0_6) ∧ w'.cell? ⟨gb449, 7, none⟩ = some (.int .i64 a0_7) ∧ w'.cell? ⟨gb449, 8, none⟩ = some (.int .i64 a0_8) ∧ w'.cell? ⟨gb458, 0, none⟩ = some (.int .i64 t455) ∧ w'.cell? ⟨gb458, 1, none⟩ = some (.int .i64 t456) ∧ w'.cell? ⟨gb458, 2, none⟩ = some (.int .i64 t457) ∧ w'.cell? ⟨gb462, 0, none⟩ = some (.int .i64 t459) ∧ w'.cell? ⟨gb462, 1, none⟩ = some (.int .i64 t460) ∧ w'.cell? ⟨gb462, 2, none⟩ = some (.int .i64 t461)) (ds := []) #[false, false, false, false, false, false, false, false, false, false, false, false] (by kernel_rfl) rfl rfl ⟨(blk_cell BK449.out 0).trans rfl, (blk_cell BK449.out 1).trans rfl, (blk_cell BK449.out 2).trans rfl, (blk_cell BK449.out 3).trans rfl, (blk_cell BK449.out 4).trans rfl, (blk_cell BK449.out 5).trans rfl, (blk_cell BK449.out 6).trans rfl, (blk_cell BK449.out 7).trans rfl, (blk_cell BK449.out 8).trans rfl, (blk_cell BK458.out 0).trans rfl, (blk_cell BK458.out 1).trans rfl, (blk_cell BK458.out 2).trans rfl, (blk_cell BK462.out 0).trans rfl, (blk_cell BK462.out 1).trans rfl, (blk_cell BK462.out 2).trans rfl⟩ (fun hHeld => ?_); refine with_tabW relievolaw03_SideFlat.tab11 relievolaw03_SideFlat.bits11 (fun HT_ HW_ => ?_)
    generalize w41.drew = w42 at HO_29 BK449 BK458 BK462 HB hHeld ⊢
    refine pure_ (i := 0) (N := some 52) (v := ?_) (a' := ?_) #[true, false, false, false, false, false, false, false, false, false, false, false] rfl rfl (any_of HT_.out (by kernel_rfl)) (fun _ _ _ h => h) (Or.inl ⟨by rfl, ?_⟩) ?_ ?_
    rotate_left
    ·intro w'
     go_simp
     with_reducible rfl
    rotate_left
    ·simp only [Act.put, List.setIfInBounds_toArray, List.set_cons_zero, List.set_cons_succ, i64_w, i32_w]
     rfl
    refine pure_ (i := 3) (N := some 55) (v := ?_) (a' := ?_) #[true, false, false, true, false, false, false, false, false, false, false, false] rfl rfl (any_of HT_.out (by kernel_rfl)) (fun _ _ _ h => h) (Or.inl ⟨by rfl, ?_⟩) ?_ ?_
    rotate_left
    ·intro w'
     go_simp
     with_reducible rfl
    rotate_left
    ·simp only [Act.put, List.setIfInBounds_toArray, List.set_cons_zero, List.set_cons_succ, i64_w, i32_w]
     rfl
    refine pure_ (i := 6) (N := some 58) (v := ?_) (a' := ?_) #[true, false, false, true, false, false, true, false, false, false, false, false] rfl rfl (any_of HT_.out (by kernel_rfl)) (fun _ _ _ h => h) (Or.inl ⟨by rfl, ?_⟩) ?_ ?_
    rotate_left
    ·intro w'
     go_simp
     with_reducible rfl
    rotate_left
    ·simp only [Act.put, List.setIfInBounds_toArray, List.set_cons_zero, List.set_cons_succ, i64_w, i32_w]
     rfl
    refine take_ (i := 1) (N := some 53) (v := ?_) (a' := ?_) #[true, true, false, true, false, false, true, false, false, false, false, false] rfl rfl (take_ofW HT_.out HW_.out (by kernel_rfl)) (fun _ _ _ h => h) (Or.inl ⟨by rfl, ?_⟩) hHeld ?_ ?_
    rotate_left
    ·rintro w' ⟨s0, s1, s2, s3, s4, s5, s6, s7, s8, s9, s10, s11, s12, s13, s14⟩
     go_simp
     with_reducible rfl
    rotate_left
    ·simp only [Act.put, List.setIfInBounds_toArray, List.set_cons_zero, List.set_cons_succ, i64_w, i32_w]
     rfl
    refine take_ (i := 2) (N := some 54) (v := ?_) (a' := ?_) #[true, true, true, true, false, false, true, false, false, false, false, false] rfl rfl (take_ofW HT_.out HW_.out (by kernel_rfl)) (fun _ _ _ h => h) (Or.inl ⟨by rfl, ?_⟩) hHeld ?_ ?_
    rotate_left
    ·rintro w' ⟨s0, s1, s2, s3, s4, s5, s6, s7, s8, s9, s10, s11, s12, s13, s14⟩
     go_simp
     with_reducible rfl
    rotate_left
    ·simp only [Act.put, List.setIfInBounds_toArray, List.set_cons_zero, List.set_cons_succ, i64_w, i32_w]
     rfl
    refine take_ (i := 5) (N := some 57) (v := ?_) (a' := ?_) #[true, true, true, true, false, true, true, false, false, false, false, false] rfl rfl (take_ofW HT_.out HW_.out (by kernel_rfl)) (fun _ _ _ h => h) (Or.inl ⟨by rfl, ?_⟩) hHeld ?_ ?_
    rotate_left
    ·rintro w' ⟨s0, s1, s2, s3, s4, s5, s6, s7, s8, s9, s10, s11, s12, s13, s14⟩
     go_simp
     with_reducible rfl
    rotate_left
    ·simp only [Act.put, List.setIfInBounds_toArray, List.set_cons_zero, List.set_cons_succ, i64_w, i32_w]
     rfl
    refine join_ (σ := Nat) 1 #[true, true, true, true, true, true, true, true, true, true, true, false] (fun s_ => [(56, .agg #[.int .i64 t463, .int .i64 t464, .int .i64 t465]), (59, .agg #[.int .i64 t466, .int .i64 t467, .int .i64 t468]), (60, .agg #[.int .i64 t469, .int .i64 t470, .int .i64 t471]), (61, .agg #[.int .i64 t472, .int .i64 t473, .int .i64 t474]), (15, .pointer (some ⟨s_, 0, none⟩))]) (fun s_ w' => (w'.cell? ⟨gb449, 0, none⟩ = some (.int .i64 a0_0) ∧ w'.cell? ⟨gb449, 1, none⟩ = some (.int .i64 a0_1) ∧ w'.cell? ⟨gb449, 2, none⟩ = some (.int .i64 a0_2) ∧ w'.cell? ⟨gb449, 3, none⟩ = some (.int .i64 a0_3) ∧ w'.cell? ⟨gb449, 4, none⟩ = some (.int .i64 a0_4) ∧ w'.cell? ⟨gb449, 5, none⟩ = some (.int .i64 a0_5) ∧ w'.cell? ⟨gb449, 6, none⟩ = some (.int .i64 a0_6) ∧ w'.cell? ⟨gb449, 7, none⟩ = some (.int .i64 a0_7) ∧ w'.cell? ⟨gb449, 8, none⟩ = some (.int .i64 a0_8) ∧ w'.cell? ⟨gb458, 0, none⟩ = some (.int .i64 t455) ∧ w'.cell? ⟨gb458, 1, none⟩ = some (.int .i64 t456) ∧ w'.cell? ⟨gb458, 2, none⟩ = some (.int .i64 t457) ∧ w'.cell? ⟨gb462, 0, none⟩ = some (.int .i64 t459) ∧ w'.cell? ⟨gb462, 1, none⟩ = some (.int .i64 t460) ∧ w'.cell? ⟨gb462, 2, none⟩ = some (.int .i64 t461)) ∧ (Kd.R (Kd.int .i64) 3 w' w.heap.size (fun _ => True) (.slice Ao12 y451.length co12) y451) ∧ (w'.heap[gb449]? = some (.cells #[.int .i64 a0_0, .int .i64 a0_1, .int .i64 a0_2, .int .i64 a0_3, .int .i64 a0_4, .int .i64 a0_5, .int .i64 a0_6, .int .i64 a0_7, .int .i64 a0_8] 25 (0, 0))) ∧ (w'.heap[gb458]? = some (.cells #[.int .i64 t455, .int .i64 t456, .int .i64 t457] 23 (0, 0))) ∧ (w'.heap[gb462]? = some (.cells #[.int .i64 t459, .int .i64 t460, .int .i64 t461] 23 (0, 0))) ∧ (w'.heap[s_]? = some (.cells #[.int .i64 0, .int .i64 0, .int .i64 0] 23 (0, 0))) ∧ (w.heap.size ≤ s_) ∧ (w.heap.size ≤ s_) ∧ (gb449 ≠ s_) ∧ (s_ ≠ gb449) ∧ (gb458 ≠ s_) ∧ (s_ ≠ gb458) ∧ (gb462 ≠ s_) ∧ (s_ ≠ gb462) ∧ (Below w.heap.size w w')) ?_ ?_
    rotate_left
    ·intro hJ4_7_8_9_10
     refine join_ (σ := Unit) 2 #[true, true, true, true, true, true, true, true, true, true, false, false] (fun s_ => [(56, .agg #[.int .i64 t463, .int .i64 t464, .int .i64 t465]), (59, .agg #[.int .i64 t466, .int .i64 t467, .int .i64 t468]), (60, .agg #[.int .i64 t469, .int .i64 t470, .int .i64 t471]), (61, .agg #[.int .i64 t472, .int .i64 t473, .int .i64 t474])]) (fun s_ w' => (w'.cell? ⟨gb449, 0, none⟩ = some (.int .i64 a0_0) ∧ w'.cell? ⟨gb449, 1, none⟩ = some (.int .i64 a0_1) ∧ w'.cell? ⟨gb449, 2, none⟩ = some (.int .i64 a0_2) ∧ w'.cell? ⟨gb449, 3, none⟩ = some (.int .i64 a0_3) ∧ w'.cell? ⟨gb449, 4, none⟩ = some (.int .i64 a0_4) ∧ w'.cell? ⟨gb449, 5, none⟩ = some (.int .i64 a0_5) ∧ w'.cell? ⟨gb449, 6, none⟩ = some (.int .i64 a0_6) ∧ w'.cell? ⟨gb449, 7, none⟩ = some (.int .i64 a0_7) ∧ w'.cell? ⟨gb449, 8, none⟩ = some (.int .i64 a0_8) ∧ w'.cell? ⟨gb458, 0, none⟩ = some (.int .i64 t455) ∧ w'.cell? ⟨gb458, 1, none⟩ = some (.int .i64 t456) ∧ w'.cell? ⟨gb458, 2, none⟩ = some (.int .i64 t457) ∧ w'.cell? ⟨gb462, 0, none⟩ = some (.int .i64 t459) ∧ w'.cell? ⟨gb462, 1, none⟩ = some (.int .i64 t460) ∧ w'.cell? ⟨gb462, 2, none⟩ = some (.int .i64 t461)) ∧ (Kd.R (Kd.int .i64) 3 w' w.heap.size (fun _ => True) (.slice Ao12 y451.length co12) y451) ∧ (w'.heap[gb449]? = some (.cells #[.int .i64 a0_0, .int .i64 a0_1, .int .i64 a0_2, .int .i64 a0_3, .int .i64 a0_4, .int .i64 a0_5, .int .i64 a0_6, .int .i64 a0_7, .int .i64 a0_8] 25 (0, 0))) ∧ (w'.heap[gb458]? = some (.cells #[.int .i64 t455, .int .i64 t456, .int .i64 t457] 23 (0, 0))) ∧ (w'.heap[gb462]? = some (.cells #[.int .i64 t459, .int .i64 t460, .int .i64 t461] 23 (0, 0))) ∧ (Below w.heap.size w w')) ?_ ?_
     rotate_left
     ·intro hJ4_7_8_9
      refine join_ (σ := Nat) 2 #[true, true, true, true, true, true, true, true, true, false, true, false] (fun s_ => [(56, .agg #[.int .i64 t463, .int .i64 t464, .int .i64 t465]), (59, .agg #[.int .i64 t466, .int .i64 t467, .int .i64 t468]), (60, .agg #[.int .i64 t469, .int .i64 t470, .int .i64 t471]), (15, .pointer (some ⟨s_, 0, none⟩))]) (fun s_ w' => (w'.cell? ⟨gb449, 0, none⟩ = some (.int .i64 a0_0) ∧ w'.cell? ⟨gb449, 1, none⟩ = some (.int .i64 a0_1) ∧ w'.cell? ⟨gb449, 2, none⟩ = some (.int .i64 a0_2) ∧ w'.cell? ⟨gb449, 3, none⟩ = some (.int .i64 a0_3) ∧ w'.cell? ⟨gb449, 4, none⟩ = some (.int .i64 a0_4) ∧ w'.cell? ⟨gb449, 5, none⟩ = some (.int .i64 a0_5) ∧ w'.cell? ⟨gb449, 6, none⟩ = some (.int .i64 a0_6) ∧ w'.cell? ⟨gb449, 7, none⟩ = some (.int .i64 a0_7) ∧ w'.cell? ⟨gb449, 8, none⟩ = some (.int .i64 a0_8) ∧ w'.cell? ⟨gb458, 0, none⟩ = some (.int .i64 t455) ∧ w'.cell? ⟨gb458, 1, none⟩ = some (.int .i64 t456) ∧ w'.cell? ⟨gb458, 2, none⟩ = some (.int .i64 t457) ∧ w'.cell? ⟨gb462, 0, none⟩ = some (.int .i64 t459) ∧ w'.cell? ⟨gb462, 1, none⟩ = some (.int .i64 t460) ∧ w'.cell? ⟨gb462, 2, none⟩ = some (.int .i64 t461)) ∧ (Kd.R (Kd.int .i64) 3 w' w.heap.size (fun _ => True) (.slice Ao12 y451.length co12) y451) ∧ (w'.heap[gb449]? = some (.cells #[.int .i64 a0_0, .int .i64 a0_1, .int .i64 a0_2, .int .i64 a0_3, .int .i64 a0_4, .int .i64 a0_5, .int .i64 a0_6, .int .i64 a0_7, .int .i64 a0_8] 25 (0, 0))) ∧ (w'.heap[gb458]? = some (.cells #[.int .i64 t455, .int .i64 t456, .int .i64 t457] 23 (0, 0))) ∧ (w'.heap[gb462]? = some (.cells #[.int .i64 t459, .int .i64 t460, .int .i64 t461] 23 (0, 0))) ∧ (w'.heap[s_]? = some (.cells #[.int .i64 0, .int .i64 0, .int .i64 0] 23 (0, 0))) ∧ (w.heap.size ≤ s_) ∧ (w.heap.size ≤ s_) ∧ (gb449 ≠ s_) ∧ (s_ ≠ gb449) ∧ (gb458 ≠ s_) ∧ (s_ ≠ gb458) ∧ (gb462 ≠ s_) ∧ (s_ ≠ gb462) ∧ (Below w.heap.size w w')) ?_ ?_
      rotate_left
      ·intro hJ4_7_8_10
       refine join_ (σ := Unit) 3 #[true, true, true, true, true, true, true, true, true, false, false, false] (fun s_ => [(56, .agg #[.int .i64 t463, .int .i64 t464, .int .i64 t465]), (59, .agg #[.int .i64 t466, .int .i64 t467, .int .i64 t468]), (60, .agg #[.int .i64 t469, .int .i64 t470, .int .i64 t471])]) (fun s_ w' => (w'.cell? ⟨gb449, 0, none⟩ = some (.int .i64 a0_0) ∧ w'.cell? ⟨gb449, 1, none⟩ = some (.int .i64 a0_1) ∧ w'.cell? ⟨gb449, 2, none⟩ = some (.int .i64 a0_2) ∧ w'.cell? ⟨gb449, 3, none⟩ = some (.int .i64 a0_3) ∧ w'.cell? ⟨gb449, 4, none⟩ = some (.int .i64 a0_4) ∧ w'.cell? ⟨gb449, 5, none⟩ = some (.int .i64 a0_5) ∧ w'.cell? ⟨gb449, 6, none⟩ = some (.int .i64 a0_6) ∧ w'.cell? ⟨gb449, 7, none⟩ = some (.int .i64 a0_7) ∧ w'.cell? ⟨gb449, 8, none⟩ = some (.int .i64 a0_8) ∧ w'.cell? ⟨gb458, 0, none⟩ = some (.int .i64 t455) ∧ w'.cell? ⟨gb458, 1, none⟩ = some (.int .i64 t456) ∧ w'.cell? ⟨gb458, 2, none⟩ = some (.int .i64 t457) ∧ w'.cell? ⟨gb462, 0, none⟩ = some (.int .i64 t459) ∧ w'.cell? ⟨gb462, 1, none⟩ = some (.int .i64 t460) ∧ w'.cell? ⟨gb462, 2, none⟩ = some (.int .i64 t461)) ∧ (Kd.R (Kd.int .i64) 3 w' w.heap.size (fun _ => True) (.slice Ao12 y451.length co12) y451) ∧ (w'.heap[gb449]? = some (.cells #[.int .i64 a0_0, .int .i64 a0_1, .int .i64 a0_2, .int .i64 a0_3, .int .i64 a0_4, .int .i64 a0_5, .int .i64 a0_6, .int .i64 a0_7, .int .i64 a0_8] 25 (0, 0))) ∧ (w'.heap[gb458]? = some (.cells #[.int .i64 t455, .int .i64 t456, .int .i64 t457] 23 (0, 0))) ∧ (w'.heap[gb462]? = some (.cells #[.int .i64 t459, .int .i64 t460, .int .i64 t461] 23 (0, 0))) ∧ (Below w.heap.size w w')) ?_ ?_
       rotate_left
       ·intro hJ4_7_8
        refine join_ (σ := Nat) 3 #[true, true, true, true, true, true, true, true, false, false, true, false] (fun s_ => [(56, .agg #[.int .i64 t463, .int .i64 t464, .int .i64 t465]), (59, .agg #[.int .i64 t466, .int .i64 t467, .int .i64 t468]), (15, .pointer (some ⟨s_, 0, none⟩))]) (fun s_ w' => (w'.cell? ⟨gb449, 0, none⟩ = some (.int .i64 a0_0) ∧ w'.cell? ⟨gb449, 1, none⟩ = some (.int .i64 a0_1) ∧ w'.cell? ⟨gb449, 2, none⟩ = some (.int .i64 a0_2) ∧ w'.cell? ⟨gb449, 3, none⟩ = some (.int .i64 a0_3) ∧ w'.cell? ⟨gb449, 4, none⟩ = some (.int .i64 a0_4) ∧ w'.cell? ⟨gb449, 5, none⟩ = some (.int .i64 a0_5) ∧ w'.cell? ⟨gb449, 6, none⟩ = some (.int .i64 a0_6) ∧ w'.cell? ⟨gb449, 7, none⟩ = some (.int .i64 a0_7) ∧ w'.cell? ⟨gb449, 8, none⟩ = some (.int .i64 a0_8) ∧ w'.cell? ⟨gb458, 0, none⟩ = some (.int .i64 t455) ∧ w'.cell? ⟨gb458, 1, none⟩ = some (.int .i64 t456) ∧ w'.cell? ⟨gb458, 2, none⟩ = some (.int .i64 t457) ∧ w'.cell? ⟨gb462, 0, none⟩ = some (.int .i64 t459) ∧ w'.cell? ⟨gb462, 1, none⟩ = some (.int .i64 t460) ∧ w'.cell? ⟨gb462, 2, none⟩ = some (.int .i64 t461)) ∧ (Kd.R (Kd.int .i64) 3 w' w.heap.size (fun _ => True) (.slice Ao12 y451.length co12) y451) ∧ (w'.heap[gb449]? = some (.cells #[.int .i64 a0_0, .int .i64 a0_1, .int .i64 a0_2, .int .i64 a0_3, .int .i64 a0_4, .int .i64 a0_5, .int .i64 a0_6, .int .i64 a0_7, .int .i64 a0_8] 25 (0, 0))) ∧ (w'.heap[gb458]? = some (.cells #[.int .i64 t455, .int .i64 t456, .int .i64 t457] 23 (0, 0))) ∧ (w'.heap[gb462]? = some (.cells #[.int .i64 t459, .int .i64 t460, .int .i64 t461] 23 (0, 0))) ∧ (w'.heap[s_]? = some (.cells #[.int .i64 0, .int .i64 0, .int .i64 0] 23 (0, 0))) ∧ (w.heap.size ≤ s_) ∧ (w.heap.size ≤ s_) ∧ (gb449 ≠ s_) ∧ (s_ ≠ gb449) ∧ (gb458 ≠ s_) ∧ (s_ ≠ gb458) ∧ (gb462 ≠ s_) ∧ (s_ ≠ gb462) ∧ (Below w.heap.size w w')) ?_ ?_
        rotate_left
        ·intro hJ4_7_10
         refine join_ (σ := Unit) 4 #[true, true, true, true, true, true, true, true, false, false, false, false] (fun s_ => [(56, .agg #[.int .i64 t463, .int .i64 t464, .int .i64 t465]), (59, .agg #[.int .i64 t466, .int .i64 t467, .int .i64 t468])]) (fun s_ w' => (w'.cell? ⟨gb449, 0, none⟩ = some (.int .i64 a0_0) ∧ w'.cell? ⟨gb449, 1, none⟩ = some (.int .i64 a0_1) ∧ w'.cell? ⟨gb449, 2, none⟩ = some (.int .i64 a0_2) ∧ w'.cell? ⟨gb449, 3, none⟩ = some (.int .i64 a0_3) ∧ w'.cell? ⟨gb449, 4, none⟩ = some (.int .i64 a0_4) ∧ w'.cell? ⟨gb449, 5, none⟩ = some (.int .i64 a0_5) ∧ w'.cell? ⟨gb449, 6, none⟩ = some (.int .i64 a0_6) ∧ w'.cell? ⟨gb449, 7, none⟩ = some (.int .i64 a0_7) ∧ w'.cell? ⟨gb449, 8, none⟩ = some (.int .i64 a0_8) ∧ w'.cell? ⟨gb458, 0, none⟩ = some (.int .i64 t455) ∧ w'.cell? ⟨gb458, 1, none⟩ = some (.int .i64 t456) ∧ w'.cell? ⟨gb458, 2, none⟩ = some (.int .i64 t457) ∧ w'.cell? ⟨gb462, 0, none⟩ = some (.int .i64 t459) ∧ w'.cell? ⟨gb462, 1, none⟩ = some (.int .i64 t460) ∧ w'.cell? ⟨gb462, 2, none⟩ = some (.int .i64 t461)) ∧ (Kd.R (Kd.int .i64) 3 w' w.heap.size (fun _ => True) (.slice Ao12 y451.length co12) y451) ∧ (w'.heap[gb449]? = some (.cells #[.int .i64 a0_0, .int .i64 a0_1, .int .i64 a0_2, .int .i64 a0_3, .int .i64 a0_4, .int .i64 a0_5, .int .i64 a0_6, .int .i64 a0_7, .int .i64 a0_8] 25 (0, 0))) ∧ (w'.heap[gb458]? = some (.cells #[.int .i64 t455, .int .i64 t456, .int .i64 t457] 23 (0, 0))) ∧ (w'.heap[gb462]? = some (.cells #[.int .i64 t459, .int .i64 t460, .int .i64 t461] 23 (0, 0))) ∧ (Below w.heap.size w w')) ?_ ?_
         rotate_left
         ·intro hJ4_7
          refine join_ (σ := Nat) 4 #[true, true, true, true, true, true, true, false, false, false, true, false] (fun s_ => [(56, .agg #[.int .i64 t463, .int .i64 t464, .int .i64 t465]), (15, .pointer (some ⟨s_, 0, none⟩))]) (fun s_ w' => (w'.cell? ⟨gb449, 0, none⟩ = some (.int .i64 a0_0) ∧ w'.cell? ⟨gb449, 1, none⟩ = some (.int .i64 a0_1) ∧ w'.cell? ⟨gb449, 2, none⟩ = some (.int .i64 a0_2) ∧ w'.cell? ⟨gb449, 3, none⟩ = some (.int .i64 a0_3) ∧ w'.cell? ⟨gb449, 4, none⟩ = some (.int .i64 a0_4) ∧ w'.cell? ⟨gb449, 5, none⟩ = some (.int .i64 a0_5) ∧ w'.cell? ⟨gb449, 6, none⟩ = some (.int .i64 a0_6) ∧ w'.cell? ⟨gb449, 7, none⟩ = some (.int .i64 a0_7) ∧ w'.cell? ⟨gb449, 8, none⟩ = some (.int .i64 a0_8) ∧ w'.cell? ⟨gb458, 0, none⟩ = some (.int .i64 t455) ∧ w'.cell? ⟨gb458, 1, none⟩ = some (.int .i64 t456) ∧ w'.cell? ⟨gb458, 2, none⟩ = some (.int .i64 t457) ∧ w'.cell? ⟨gb462, 0, none⟩ = some (.int .i64 t459) ∧ w'.cell? ⟨gb462, 1, none⟩ = some (.int .i64 t460) ∧ w'.cell? ⟨gb462, 2, none⟩ = some (.int .i64 t461)) ∧ (Kd.R (Kd.int .i64) 3 w' w.heap.size (fun _ => True) (.slice Ao12 y451.length co12) y451) ∧ (w'.heap[gb449]? = some (.cells #[.int .i64 a0_0, .int .i64 a0_1, .int .i64 a0_2, .int .i64 a0_3, .int .i64 a0_4, .int .i64 a0_5, .int .i64 a0_6, .int .i64 a0_7, .int .i64 a0_8] 25 (0, 0))) ∧ (w'.heap[gb458]? = some (.cells #[.int .i64 t455, .int .i64 t456, .int .i64 t457] 23 (0, 0))) ∧ (w'.heap[gb462]? = some (.cells #[.int .i64 t459, .int .i64 t460, .int .i64 t461] 23 (0, 0))) ∧ (w'.heap[s_]? = some (.cells #[.int .i64 0, .int .i64 0, .int .i64 0] 23 (0, 0))) ∧ (w.heap.size ≤ s_) ∧ (w.heap.size ≤ s_) ∧ (gb449 ≠ s_) ∧ (s_ ≠ gb449) ∧ (gb458 ≠ s_) ∧ (s_ ≠ gb458) ∧ (gb462 ≠ s_) ∧ (s_ ≠ gb462) ∧ (Below w.heap.size w w')) ?_ ?_
          rotate_left
          ·intro hJ4_10
           refine join_ (σ := Unit) 5 #[true, true, true, true, true, true, true, false, false, false, false, false] (fun s_ => [(56, .agg #[.int .i64 t463, .int .i64 t464, .int .i64 t465])]) (fun s_ w' => (w'.cell? ⟨gb449, 0, none⟩ = some (.int .i64 a0_0) ∧ w'.cell? ⟨gb449, 1, none⟩ = some (.int .i64 a0_1) ∧ w'.cell? ⟨gb449, 2, none⟩ = some (.int .i64 a0_2) ∧ w'.cell? ⟨gb449, 3, none⟩ = some (.int .i64 a0_3) ∧ w'.cell? ⟨gb449, 4, none⟩ = some (.int .i64 a0_4) ∧ w'.cell? ⟨gb449, 5, none⟩ = some (.int .i64 a0_5) ∧ w'.cell? ⟨gb449, 6, none⟩ = some (.int .i64 a0_6) ∧ w'.cell? ⟨gb449, 7, none⟩ = some (.int .i64 a0_7) ∧ w'.cell? ⟨gb449, 8, none⟩ = some (.int .i64 a0_8) ∧ w'.cell? ⟨gb458, 0, none⟩ = some (.int .i64 t455) ∧ w'.cell? ⟨gb458, 1, none⟩ = some (.int .i64 t456) ∧ w'.cell? ⟨gb458, 2, none⟩ = some (.int .i64 t457) ∧ w'.cell? ⟨gb462, 0, none⟩ = some (.int .i64 t459) ∧ w'.cell? ⟨gb462, 1, none⟩ = some (.int .i64 t460) ∧ w'.cell? ⟨gb462, 2, none⟩ = some (.int .i64 t461)) ∧ (Kd.R (Kd.int .i64) 3 w' w.heap.size (fun _ => True) (.slice Ao12 y451.length co12) y451) ∧ (w'.heap[gb449]? = some (.cells #[.int .i64 a0_0, .int .i64 a0_1, .int .i64 a0_2, .int .i64 a0_3, .int .i64 a0_4, .int .i64 a0_5, .int .i64 a0_6, .int .i64 a0_7, .int .i64 a0_8] 25 (0, 0))) ∧ (w'.heap[gb458]? = some (.cells #[.int .i64 t455, .int .i64 t456, .int .i64 t457] 23 (0, 0))) ∧ (w'.heap[gb462]? = some (.cells #[.int .i64 t459, .int .i64 t460, .int .i64 t461] 23 (0, 0))) ∧ (Below w.heap.size w w')) ?_ ?_
           rotate_left
           ·intro hJ4
            refine join_ (σ := Nat) 5 #[true, true, true, true, false, true, true, false, false, false, true, false] (fun s_ => [(15, .pointer (some ⟨s_, 0, none⟩))]) (fun s_ w' => (w'.cell? ⟨gb449, 0, none⟩ = some (.int .i64 a0_0) ∧ w'.cell? ⟨gb449, 1, none⟩ = some (.int .i64 a0_1) ∧ w'.cell? ⟨gb449, 2, none⟩ = some (.int .i64 a0_2) ∧ w'.cell? ⟨gb449, 3, none⟩ = some (.int .i64 a0_3) ∧ w'.cell? ⟨gb449, 4, none⟩ = some (.int .i64 a0_4) ∧ w'.cell? ⟨gb449, 5, none⟩ = some (.int .i64 a0_5) ∧ w'.cell? ⟨gb449, 6, none⟩ = some (.int .i64 a0_6) ∧ w'.cell? ⟨gb449, 7, none⟩ = some (.int .i64 a0_7) ∧ w'.cell? ⟨gb449, 8, none⟩ = some (.int .i64 a0_8) ∧ w'.cell? ⟨gb458, 0, none⟩ = some (.int .i64 t455) ∧ w'.cell? ⟨gb458, 1, none⟩ = some (.int .i64 t456) ∧ w'.cell? ⟨gb458, 2, none⟩ = some (.int .i64 t457) ∧ w'.cell? ⟨gb462, 0, none⟩ = some (.int .i64 t459) ∧ w'.cell? ⟨gb462, 1, none⟩ = some (.int .i64 t460) ∧ w'.cell? ⟨gb462, 2, none⟩ = some (.int .i64 t461)) ∧ (Kd.R (Kd.int .i64) 3 w' w.heap.size (fun _ => True) (.slice Ao12 y451.length co12) y451) ∧ (w'.heap[gb449]? = some (.cells #[.int .i64 a0_0, .int .i64 a0_1, .int .i64 a0_2, .int .i64 a0_3, .int .i64 a0_4, .int .i64 a0_5, .int .i64 a0_6, .int .i64 a0_7, .int .i64 a0_8] 25 (0, 0))) ∧ (w'.heap[gb458]? = some (.cells #[.int .i64 t455, .int .i64 t456, .int .i64 t457] 23 (0, 0))) ∧ (w'.heap[gb462]? = some (.cells #[.int .i64 t459, .int .i64 t460, .int .i64 t461] 23 (0, 0))) ∧ (w'.heap[s_]? = some (.cells #[.int .i64 0, .int .i64 0, .int .i64 0] 23 (0, 0))) ∧ (w.heap.size ≤ s_) ∧ (w.heap.size ≤ s_) ∧ (gb449 ≠ s_) ∧ (s_ ≠ gb449) ∧ (gb458 ≠ s_) ∧ (s_ ≠ gb458) ∧ (gb462 ≠ s_) ∧ (s_ ≠ gb462) ∧ (Below w.heap.size w w')) ?_ ?_
            rotate_left
            ·intro hJ10
             refine two_ (i := 4) (j := 10) (Ni := some 56) (Nj := some 15) #[true, true, true, true, true, true, true, false, false, false, false, false] #[true, true, true, true, false, true, true, false, false, false, true, false] rfl rfl rfl rfl (two_of HT_.out (by kernel_rfl)) (by decide) (by decide) (fun K hK => ?_) (fun K hK => ?_)
             ·skip
              refine goes_ Try.func29 (by kernel_rfl) rfl #[.agg #[.int .i64 t455, .int .i64 t456, .int .i64 t457], .int .i64 a1] (by rfl) rfl rfl (by (try simp only [List.map_toArray, List.map_cons, List.map_nil]); first | done | rfl | (simp only [List.length_drop, List.length_take]; rfl)) ?_
              with_reducible refine (relievoref02_Scale.calls t455 t456 t457 a1 t463 t464 t465 _ A20.out).mono ?_
              rintro e w43 ⟨rfl, hb⟩
              refine ⟨_, rfl, ?_⟩
              have n0_ := Aside0.mk (Kd.R_below (by (with_reducible repeat (first | apply Kd.R_alloc | apply Kd.R_drewN | apply Kd.R_drew)); exact HO_29.out) hb)
              have n1_ := Aside0.mk (blk_below (g := gb449) (o := .cells #[.int .i64 a0_0, .int .i64 a0_1, .int .i64 a0_2, .int .i64 a0_3, .int .i64 a0_4, .int .i64 a0_5, .int .i64 a0_6, .int .i64 a0_7, .int .i64 a0_8] 25 (0, 0)) (by (with_reducible repeat (first | refine blk_drewN ?_ _ | refine blk_drew ?_ | refine blk_alloc ?_ _)); exact BK449.out) hb)
              have n2_ := Aside0.mk (blk_below (g := gb458) (o := .cells #[.int .i64 t455, .int .i64 t456, .int .i64 t457] 23 (0, 0)) (by (with_reducible repeat (first | refine blk_drewN ?_ _ | refine blk_drew ?_ | refine blk_alloc ?_ _)); exact BK458.out) hb)
              have n3_ := Aside0.mk (blk_below (g := gb462) (o := .cells #[.int .i64 t459, .int .i64 t460, .int .i64 t461] 23 (0, 0)) (by (with_reducible repeat (first | refine blk_drewN ?_ _ | refine blk_drew ?_ | refine blk_alloc ?_ _)); exact BK462.out) hb)
              have n4_ := Aside0.mk (below_step (by repeat (first | (with_reducible first | exact HB.out | apply below_alloc | apply pw_below_drewN | apply below_drew1 | refine below_set ?_ GE449.out | refine below_set ?_ GE458.out | refine below_set ?_ GE462.out) | exact HB.out)) hb)
              clear HO_29
              clear BK449
              clear BK458
              clear BK462
              clear HB
              have HO_29 := n0_
              have BK449 := n1_
              have BK458 := n2_
              have BK462 := n3_
              have HB := n4_
              clear n0_ n1_ n2_ n3_ n4_
              (try clear hb)
              (try clear hb2)
              (try clear hk)
              (try clear hi)
              refine hK.out _ _ ⟨(blk_cell BK449.out 0).trans rfl, (blk_cell BK449.out 1).trans rfl, (blk_cell BK449.out 2).trans rfl, (blk_cell BK449.out 3).trans rfl, (blk_cell BK449.out 4).trans rfl, (blk_cell BK449.out 5).trans rfl, (blk_cell BK449.out 6).trans rfl, (blk_cell BK449.out 7).trans rfl, (blk_cell BK449.out 8).trans rfl, (blk_cell BK458.out 0).trans rfl, (blk_cell BK458.out 1).trans rfl, (blk_cell BK458.out 2).trans rfl, (blk_cell BK462.out 0).trans rfl, (blk_cell BK462.out 1).trans rfl, (blk_cell BK462.out 2).trans rfl⟩ (fun hHeld => ?_)
              clear hK K
              refine norm_ (a' := ?_) ?_ ?_
              rotate_left
              ·show Act.put _ (some 56) _ = _
               simp only [Act.put, List.setIfInBounds_toArray, List.set_cons_zero, List.set_cons_succ, i64_w, i32_w]
               rfl
              exact norm_ (by simp only [putAll, Act.put, List.setIfInBounds_toArray, List.set_cons_zero, List.set_cons_succ] <;> rfl) (hJ4 () _ ⟨hHeld, (by (with_reducible repeat (first | apply Kd.R_alloc | apply Kd.R_drewN | apply Kd.R_drew)); exact HO_29.out), (by (with_reducible repeat (first | refine blk_drewN ?_ _ | refine blk_drew ?_ | refine blk_alloc ?_ _)); exact BK449.out), (by (with_reducible repeat (first | refine blk_drewN ?_ _ | refine blk_drew ?_ | refine blk_alloc ?_ _)); exact BK458.out), (by (with_reducible repeat (first | refine blk_drewN ?_ _ | refine blk_drew ?_ | refine blk_alloc ?_ _)); exact BK462.out), (by repeat (first | (with_reducible first | exact HB.out | apply below_alloc | apply pw_below_drewN | apply below_drew1 | refine below_set ?_ GE449.out | refine below_set ?_ GE458.out | refine below_set ?_ GE462.out) | exact HB.out))⟩)
             skip
             refine box_step ?hg (N := 15) ?hd (cs := #[.int .i64 0, .int .i64 0, .int .i64 0]) (t := 23) ?hr ?_; (case hd => rfl); (case hg => rfl); (case hr => first | (go_simp; done) | (go_simp; rfl))
             intro gb475 hg w43 hbox hb
             have n0_ := Aside0.mk (Kd.R_below (by (with_reducible repeat (first | apply Kd.R_alloc | apply Kd.R_drewN | apply Kd.R_drew)); exact HO_29.out) hb)
             have n1_ := Aside0.mk (blk_below (g := gb449) (o := .cells #[.int .i64 a0_0, .int .i64 a0_1, .int .i64 a0_2, .int .i64 a0_3, .int .i64 a0_4, .int .i64 a0_5, .int .i64 a0_6, .int .i64 a0_7, .int .i64 a0_8] 25 (0, 0)) (by (with_reducible repeat (first | refine blk_drewN ?_ _ | refine blk_drew ?_ | refine blk_alloc ?_ _)); exact BK449.out) hb)
             have n2_ := Aside0.mk (blk_below (g := gb458) (o := .cells #[.int .i64 t455, .int .i64 t456, .int .i64 t457] 23 (0, 0)) (by (with_reducible repeat (first | refine blk_drewN ?_ _ | refine blk_drew ?_ | refine blk_alloc ?_ _)); exact BK458.out) hb)
             have n3_ := Aside0.mk (blk_below (g := gb462) (o := .cells #[.int .i64 t459, .int .i64 t460, .int .i64 t461] 23 (0, 0)) (by (with_reducible repeat (first | refine blk_drewN ?_ _ | refine blk_drew ?_ | refine blk_alloc ?_ _)); exact BK462.out) hb)
             have n4_ := Aside0.mk (below_step (by repeat (first | (with_reducible first | exact HB.out | apply below_alloc | apply pw_below_drewN | apply below_drew1 | refine below_set ?_ GE449.out | refine below_set ?_ GE458.out | refine below_set ?_ GE462.out) | exact HB.out)) hb)
             have n5_ := Aside0.mk (hbox)
             have n6_ := Aside0.mk ((by rw [hg]; exact (below_size (by repeat (first | (with_reducible first | exact HB.out | apply below_alloc | apply pw_below_drewN | apply below_drew1 | refine below_set ?_ GE449.out | refine below_set ?_ GE458.out | refine below_set ?_ GE462.out) | exact HB.out))) : w.heap.size ≤ gb475))
             have GE475 := Aside0.mk ((by rw [hg]; exact (below_size (by repeat (first | (with_reducible first | exact HB.out | apply below_alloc | apply pw_below_drewN | apply below_drew1 | refine below_set ?_ GE449.out | refine below_set ?_ GE458.out | refine below_set ?_ GE462.out) | exact HB.out))) : w.heap.size ≤ gb475))
             have NB449_475 := Aside0.mk ((by rw [hg]; exact Nat.ne_of_lt (blk_lt (g := gb449) (o := .cells #[.int .i64 a0_0, .int .i64 a0_1, .int .i64 a0_2, .int .i64 a0_3, .int .i64 a0_4, .int .i64 a0_5, .int .i64 a0_6, .int .i64 a0_7, .int .i64 a0_8] 25 (0, 0)) (by (with_reducible repeat (first | refine blk_drewN ?_ _ | refine blk_drew ?_ | refine blk_alloc ?_ _)); exact BK449.out)) : gb449 ≠ gb475))
             have NB475_449 := Aside0.mk ((by rw [hg]; exact Nat.ne_of_gt (blk_lt (g := gb449) (o := .cells #[.int .i64 a0_0, .int .i64 a0_1, .int .i64 a0_2, .int .i64 a0_3, .int .i64 a0_4, .int .i64 a0_5, .int .i64 a0_6, .int .i64 a0_7, .int .i64 a0_8] 25 (0, 0)) (by (with_reducible repeat (first | refine blk_drewN ?_ _ | refine blk_drew ?_ | refine blk_alloc ?_ _)); exact BK449.out)) : gb475 ≠ gb449))
             have NB458_475 := Aside0.mk ((by rw [hg]; exact Nat.ne_of_lt (blk_lt (g := gb458) (o := .cells #[.int .i64 t455, .int .i64 t456, .int .i64 t457] 23 (0, 0)) (by (with_reducible repeat (first | refine blk_drewN ?_ _ | refine blk_drew ?_ | refine blk_alloc ?_ _)); exact BK458.out)) : gb458 ≠ gb475))
             have NB475_458 := Aside0.mk ((by rw [hg]; exact Nat.ne_of_gt (blk_lt (g := gb458) (o := .cells #[.int .i64 t455, .int .i64 t456, .int .i64 t457] 23 (0, 0)) (by (with_reducible repeat (first | refine blk_drewN ?_ _ | refine blk_drew ?_ | refine blk_alloc ?_ _)); exact BK458.out)) : gb475 ≠ gb458))
             have NB462_475 := Aside0.mk ((by rw [hg]; exact Nat.ne_of_lt (blk_lt (g := gb462) (o := .cells #[.int .i64 t459, .int .i64 t460, .int .i64 t461] 23 (0, 0)) (by (with_reducible repeat (first | refine blk_drewN ?_ _ | refine blk_drew ?_ | refine blk_alloc ?_ _)); exact BK462.out)) : gb462 ≠ gb475))
             have NB475_462 := Aside0.mk ((by rw [hg]; exact Nat.ne_of_gt (blk_lt (g := gb462) (o := .cells #[.int .i64 t459, .int .i64 t460, .int .i64 t461] 23 (0, 0)) (by (with_reducible repeat (first | refine blk_drewN ?_ _ | refine blk_drew ?_ | refine blk_alloc ?_ _)); exact BK462.out)) : gb475 ≠ gb462))
             clear HO_29
             clear BK449
             clear BK458
             clear BK462
             clear HB
             have HO_29 := n0_
             have BK449 := n1_
             have BK458 := n2_
             have BK462 := n3_
             have HB := n4_
             have BK475 := n5_
             have GW475 := n6_
             clear n0_ n1_ n2_ n3_ n4_ n5_ n6_
             clear hb hbox hg
             refine hK.out _ _ ⟨(blk_cell BK449.out 0).trans rfl, (blk_cell BK449.out 1).trans rfl, (blk_cell BK449.out 2).trans rfl, (blk_cell BK449.out 3).trans rfl, (blk_cell BK449.out 4).trans rfl, (blk_cell BK449.out 5).trans rfl, (blk_cell BK449.out 6).trans rfl, (blk_cell BK449.out 7).trans rfl, (blk_cell BK449.out 8).trans rfl, (blk_cell BK458.out 0).trans rfl, (blk_cell BK458.out 1).trans rfl, (blk_cell BK458.out 2).trans rfl, (blk_cell BK462.out 0).trans rfl, (blk_cell BK462.out 1).trans rfl, (blk_cell BK462.out 2).trans rfl⟩ (fun hHeld => ?_)
             clear hK K
             refine norm_ (a' := ?_) ?_ ?_
             rotate_left
             ·show Act.put _ (some 15) _ = _
              simp only [Act.put, List.setIfInBounds_toArray, List.set_cons_zero, List.set_cons_succ, i64_w, i32_w]
              rfl
             exact norm_ (by simp only [putAll, Act.put, List.setIfInBounds_toArray, List.set_cons_zero, List.set_cons_succ] <;> rfl) (hJ10 (gb475) _ ⟨hHeld, (by (with_reducible repeat (first | apply Kd.R_alloc | apply Kd.R_drewN | apply Kd.R_drew)); exact HO_29.out), (by (with_reducible repeat (first | refine blk_drewN ?_ _ | refine blk_drew ?_ | refine blk_alloc ?_ _)); exact BK449.out), (by (with_reducible repeat (first | refine blk_drewN ?_ _ | refine blk_drew ?_ | refine blk_alloc ?_ _)); exact BK458.out), (by (with_reducible repeat (first | refine blk_drewN ?_ _ | refine blk_drew ?_ | refine blk_alloc ?_ _)); exact BK462.out), (by (with_reducible repeat (first | refine blk_drewN ?_ _ | refine blk_drew ?_ | refine blk_alloc ?_ _)); exact BK475.out), GW475.out, GE475.out, NB449_475.out, NB475_449.out, NB458_475.out, NB475_458.out, NB462_475.out, NB475_462.out, (by repeat (first | (with_reducible first | exact HB.out | apply below_alloc | apply pw_below_drewN | apply below_drew1 | refine below_set ?_ GE449.out | refine below_set ?_ GE458.out | refine below_set ?_ GE462.out | refine below_set ?_ GE475.out) | exact HB.out))⟩)
            skip
            rintro gb475 w44 ⟨hS_, h0_, h1_, h2_, h3_, h4_, h5_, h6_, h7_, h8_, h9_, h10_, h11_, h12_, h13_⟩
            have n0_ : Aside0 (Kd.R (Kd.int .i64) 3 w44 w.heap.size (fun _ => True) (.slice Ao12 y451.length co12) y451) := ⟨h0_⟩
            have n1_ : Aside0 (w44.heap[gb449]? = some (.cells #[.int .i64 a0_0, .int .i64 a0_1, .int .i64 a0_2, .int .i64 a0_3, .int .i64 a0_4, .int .i64 a0_5, .int .i64 a0_6, .int .i64 a0_7, .int .i64 a0_8] 25 (0, 0))) := ⟨h1_⟩
            have n2_ : Aside0 (w44.heap[gb458]? = some (.cells #[.int .i64 t455, .int .i64 t456, .int .i64 t457] 23 (0, 0))) := ⟨h2_⟩
            have n3_ : Aside0 (w44.heap[gb462]? = some (.cells #[.int .i64 t459, .int .i64 t460, .int .i64 t461] 23 (0, 0))) := ⟨h3_⟩
            have n4_ : Aside0 (w44.heap[gb475]? = some (.cells #[.int .i64 0, .int .i64 0, .int .i64 0] 23 (0, 0))) := ⟨h4_⟩
            have n5_ : Aside0 (w.heap.size ≤ gb475) := ⟨h5_⟩
            have GE475 : Aside0 (w.heap.size ≤ gb475) := ⟨h6_⟩
            have NB449_475 : Aside0 (gb449 ≠ gb475) := ⟨h7_⟩
            have NB475_449 : Aside0 (gb475 ≠ gb449) := ⟨h8_⟩
            have NB458_475 : Aside0 (gb458 ≠ gb475) := ⟨h9_⟩
            have NB475_458 : Aside0 (gb475 ≠ gb458) := ⟨h10_⟩
            have NB462_475 : Aside0 (gb462 ≠ gb475) := ⟨h11_⟩
            have NB475_462 : Aside0 (gb475 ≠ gb462) := ⟨h12_⟩
            have n13_ : Aside0 (Below w.heap.size w w44) := ⟨h13_⟩
            clear HO_29
            clear BK449
            clear BK458
            clear BK462
            clear HB
            clear h0_ h1_ h2_ h3_ h4_ h5_ h6_ h7_ h8_ h9_ h10_ h11_ h12_ h13_
            have HO_29 := n0_
            have BK449 := n1_
            have BK458 := n2_
            have BK462 := n3_
            have BK475 := n4_
            have GW475 := n5_
            have HB := n13_
            clear n0_ n1_ n2_ n3_ n4_ n5_ n13_
            have hHeld : w44.cell? ⟨gb449, 0, none⟩ = some (.int .i64 a0_0) ∧ w44.cell? ⟨gb449, 1, none⟩ = some (.int .i64 a0_1) ∧ w44.cell? ⟨gb449, 2, none⟩ = some (.int .i64 a0_2) ∧ w44.cell? ⟨gb449, 3, none⟩ = some (.int .i64 a0_3) ∧ w44.cell? ⟨gb449, 4, none⟩ = some (.int .i64 a0_4) ∧ w44.cell? ⟨gb449, 5, none⟩ = some (.int .i64 a0_5) ∧ w44.cell? ⟨gb449, 6, none⟩ = some (.int .i64 a0_6) ∧ w44.cell? ⟨gb449, 7, none⟩ = some (.int .i64 a0_7) ∧ w44.cell? ⟨gb449, 8, none⟩ = some (.int .i64 a0_8) ∧ w44.cell? ⟨gb458, 0, none⟩ = some (.int .i64 t455) ∧ w44.cell? ⟨gb458, 1, none⟩ = some (.int .i64 t456) ∧ w44.cell? ⟨gb458, 2, none⟩ = some (.int .i64 t457) ∧ w44.cell? ⟨gb462, 0, none⟩ = some (.int .i64 t459) ∧ w44.cell? ⟨gb462, 1, none⟩ = some (.int .i64 t460) ∧ w44.cell? ⟨gb462, 2, none⟩ = some (.int .i64 t461) := hS_
            refine norm_ (a' := ?_) ?_ ?_
            rotate_left
            ·simp only [putAll, Act.put, List.setIfInBounds_toArray, List.set_cons_zero, List.set_cons_succ]
             rfl
            refine one_ (i := 4) (N := some 56) #[true, true, true, true, true, true, true, false, false, false, true, false] rfl rfl (one_of HT_.out (by kernel_rfl)) (by decide) (fun K hK => ?_)
            refine goes_ Try.func29 (by kernel_rfl) rfl #[.agg #[.int .i64 t455, .int .i64 t456, .int .i64 t457], .int .i64 a1] (by rfl) rfl rfl (by (try simp only [List.map_toArray, List.map_cons, List.map_nil]); first | done | rfl | (simp only [List.length_drop, List.length_take]; rfl)) ?_
            with_reducible refine (relievoref02_Scale.calls t455 t456 t457 a1 t463 t464 t465 _ A20.out).mono ?_
            rintro e w45 ⟨rfl, hb⟩
            refine ⟨_, rfl, ?_⟩
            have n0_ := Aside0.mk (Kd.R_below (by (with_reducible repeat (first | apply Kd.R_alloc | apply Kd.R_drewN | apply Kd.R_drew)); exact HO_29.out) hb)
            have n1_ := Aside0.mk (blk_below (g := gb449) (o := .cells #[.int .i64 a0_0, .int .i64 a0_1, .int .i64 a0_2, .int .i64 a0_3, .int .i64 a0_4, .int .i64 a0_5, .int .i64 a0_6, .int .i64 a0_7, .int .i64 a0_8] 25 (0, 0)) (by (with_reducible repeat (first | refine blk_drewN ?_ _ | refine blk_drew ?_ | refine blk_alloc ?_ _)); exact BK449.out) hb)
            have n2_ := Aside0.mk (blk_below (g := gb458) (o := .cells #[.int .i64 t455, .int .i64 t456, .int .i64 t457] 23 (0, 0)) (by (with_reducible repeat (first | refine blk_drewN ?_ _ | refine blk_drew ?_ | refine blk_alloc ?_ _)); exact BK458.out) hb)
            have n3_ := Aside0.mk (blk_below (g := gb462) (o := .cells #[.int .i64 t459, .int .i64 t460, .int .i64 t461] 23 (0, 0)) (by (with_reducible repeat (first | refine blk_drewN ?_ _ | refine blk_drew ?_ | refine blk_alloc ?_ _)); exact BK462.out) hb)
            have n4_ := Aside0.mk (blk_below (g := gb475) (o := .cells #[.int .i64 0, .int .i64 0, .int .i64 0] 23 (0, 0)) (by (with_reducible repeat (first | refine blk_drewN ?_ _ | refine blk_drew ?_ | refine blk_alloc ?_ _)); exact BK475.out) hb)
            have n5_ := Aside0.mk (below_step (by repeat (first | (with_reducible first | exact HB.out | apply below_alloc | apply pw_below_drewN | apply below_drew1 | refine below_set ?_ GE449.out | refine below_set ?_ GE458.out | refine below_set ?_ GE462.out | refine below_set ?_ GE475.out) | exact HB.out)) hb)
            clear HO_29
            clear BK449
            clear BK458
            clear BK462
            clear BK475
            clear HB
            have HO_29 := n0_
            have BK449 := n1_
            have BK458 := n2_
            have BK462 := n3_
            have BK475 := n4_
            have HB := n5_
            clear n0_ n1_ n2_ n3_ n4_ n5_
            (try clear hb)
            (try clear hb2)
            (try clear hk)
            (try clear hi)
            refine hK.out _ _ ⟨(blk_cell BK449.out 0).trans rfl, (blk_cell BK449.out 1).trans rfl, (blk_cell BK449.out 2).trans rfl, (blk_cell BK449.out 3).trans rfl, (blk_cell BK449.out 4).trans rfl, (blk_cell BK449.out 5).trans rfl, (blk_cell BK449.out 6).trans rfl, (blk_cell BK449.out 7).trans rfl, (blk_cell BK449.out 8).trans rfl, (blk_cell BK458.out 0).trans rfl, (blk_cell BK458.out 1).trans rfl, (blk_cell BK458.out 2).trans rfl, (blk_cell BK462.out 0).trans rfl, (blk_cell BK462.out 1).trans rfl, (blk_cell BK462.out 2).trans rfl⟩ (fun hHeld => ?_)
            clear hK K
            refine norm_ (a' := ?_) ?_ ?_
            rotate_left
            ·show Act.put _ (some 56) _ = _
             simp only [Act.put, List.setIfInBounds_toArray, List.set_cons_zero, List.set_cons_succ, i64_w, i32_w]
             rfl
            exact norm_ (by simp only [putAll, Act.put, List.setIfInBounds_toArray, List.set_cons_zero, List.set_cons_succ] <;> rfl) (hJ4_10 (gb475) _ ⟨hHeld, (by (with_reducible repeat (first | apply Kd.R_alloc | apply Kd.R_drewN | apply Kd.R_drew)); exact HO_29.out), (by (with_reducible repeat (first | refine blk_drewN ?_ _ | refine blk_drew ?_ | refine blk_alloc ?_ _)); exact BK449.out), (by (with_reducible repeat (first | refine blk_drewN ?_ _ | refine blk_drew ?_ | refine blk_alloc ?_ _)); exact BK458.out), (by (with_reducible repeat (first | refine blk_drewN ?_ _ | refine blk_drew ?_ | refine blk_alloc ?_ _)); exact BK462.out), (by (with_reducible repeat (first | refine blk_drewN ?_ _ | refine blk_drew ?_ | refine blk_alloc ?_ _)); exact BK475.out), GW475.out, GE475.out, NB449_475.out, NB475_449.out, NB458_475.out, NB475_458.out, NB462_475.out, NB475_462.out, (by repeat (first | (with_reducible first | exact HB.out | apply below_alloc | apply pw_below_drewN | apply below_drew1 | refine below_set ?_ GE449.out | refine below_set ?_ GE458.out | refine below_set ?_ GE462.out | refine below_set ?_ GE475.out) | exact HB.out))⟩)
           skip
           rintro _ w44 ⟨hS_, h0_, h1_, h2_, h3_, h4_⟩
           have n0_ : Aside0 (Kd.R (Kd.int .i64) 3 w44 w.heap.size (fun _ => True) (.slice Ao12 y451.length co12) y451) := ⟨h0_⟩
           have n1_ : Aside0 (w44.heap[gb449]? = some (.cells #[.int .i64 a0_0, .int .i64 a0_1, .int .i64 a0_2, .int .i64 a0_3, .int .i64 a0_4, .int .i64 a0_5, .int .i64 a0_6, .int .i64 a0_7, .int .i64 a0_8] 25 (0, 0))) := ⟨h1_⟩
           have n2_ : Aside0 (w44.heap[gb458]? = some (.cells #[.int .i64 t455, .int .i64 t456, .int .i64 t457] 23 (0, 0))) := ⟨h2_⟩
           have n3_ : Aside0 (w44.heap[gb462]? = some (.cells #[.int .i64 t459, .int .i64 t460, .int .i64 t461] 23 (0, 0))) := ⟨h3_⟩
           have n4_ : Aside0 (Below w.heap.size w w44) := ⟨h4_⟩
           clear HO_29
           clear BK449
           clear BK458
           clear BK462
           clear HB
           clear h0_ h1_ h2_ h3_ h4_
           have HO_29 := n0_
           have BK449 := n1_
           have BK458 := n2_
           have BK462 := n3_
           have HB := n4_
           clear n0_ n1_ n2_ n3_ n4_
           have hHeld : w44.cell? ⟨gb449, 0, none⟩ = some (.int .i64 a0_0) ∧ w44.cell? ⟨gb449, 1, none⟩ = some (.int .i64 a0_1) ∧ w44.cell? ⟨gb449, 2, none⟩ = some (.int .i64 a0_2) ∧ w44.cell? ⟨gb449, 3, none⟩ = some (.int .i64 a0_3) ∧ w44.cell? ⟨gb449, 4, none⟩ = some (.int .i64 a0_4) ∧ w44.cell? ⟨gb449, 5, none⟩ = some (.int .i64 a0_5) ∧ w44.cell? ⟨gb449, 6, none⟩ = some (.int .i64 a0_6) ∧ w44.cell? ⟨gb449, 7, none⟩ = some (.int .i64 a0_7) ∧ w44.cell? ⟨gb449, 8, none⟩ = some (.int .i64 a0_8) ∧ w44.cell? ⟨gb458, 0, none⟩ = some (.int .i64 t455) ∧ w44.cell? ⟨gb458, 1, none⟩ = some (.int .i64 t456) ∧ w44.cell? ⟨gb458, 2, none⟩ = some (.int .i64 t457) ∧ w44.cell? ⟨gb462, 0, none⟩ = some (.int .i64 t459) ∧ w44.cell? ⟨gb462, 1, none⟩ = some (.int .i64 t460) ∧ w44.cell? ⟨gb462, 2, none⟩ = some (.int .i64 t461) := hS_
           refine norm_ (a' := ?_) ?_ ?_
           rotate_left
           ·simp only [putAll, Act.put, List.setIfInBounds_toArray, List.set_cons_zero, List.set_cons_succ]
            rfl
           refine two_ (i := 7) (j := 10) (Ni := some 59) (Nj := some 15) #[true, true, true, true, true, true, true, true, false, false, false, false] #[true, true, true, true, true, true, true, false, false, false, true, false] rfl rfl rfl rfl (two_of HT_.out (by kernel_rfl)) (by decide) (by decide) (fun K hK => ?_) (fun K hK => ?_)
           ·skip
            refine goes_ Try.func29 (by kernel_rfl) rfl #[.agg #[.int .i64 t459, .int .i64 t460, .int .i64 t461], .int .i64 a2] (by rfl) rfl rfl (by (try simp only [List.map_toArray, List.map_cons, List.map_nil]); first | done | rfl | (simp only [List.length_drop, List.length_take]; rfl)) ?_
            with_reducible refine (relievoref02_Scale.calls t459 t460 t461 a2 t466 t467 t468 _ A21.out).mono ?_
            rintro e w45 ⟨rfl, hb⟩
            refine ⟨_, rfl, ?_⟩
            have n0_ := Aside0.mk (Kd.R_below (by (with_reducible repeat (first | apply Kd.R_alloc | apply Kd.R_drewN | apply Kd.R_drew)); exact HO_29.out) hb)
            have n1_ := Aside0.mk (blk_below (g := gb449) (o := .cells #[.int .i64 a0_0, .int .i64 a0_1, .int .i64 a0_2, .int .i64 a0_3, .int .i64 a0_4, .int .i64 a0_5, .int .i64 a0_6, .int .i64 a0_7, .int .i64 a0_8] 25 (0, 0)) (by (with_reducible repeat (first | refine blk_drewN ?_ _ | refine blk_drew ?_ | refine blk_alloc ?_ _)); exact BK449.out) hb)
            have n2_ := Aside0.mk (blk_below (g := gb458) (o := .cells #[.int .i64 t455, .int .i64 t456, .int .i64 t457] 23 (0, 0)) (by (with_reducible repeat (first | refine blk_drewN ?_ _ | refine blk_drew ?_ | refine blk_alloc ?_ _)); exact BK458.out) hb)
            have n3_ := Aside0.mk (blk_below (g := gb462) (o := .cells #[.int .i64 t459, .int .i64 t460, .int .i64 t461] 23 (0, 0)) (by (with_reducible repeat (first | refine blk_drewN ?_ _ | refine blk_drew ?_ | refine blk_alloc ?_ _)); exact BK462.out) hb)
            have n4_ := Aside0.mk (below_step (by repeat (first | (with_reducible first | exact HB.out | apply below_alloc | apply pw_below_drewN | apply below_drew1 | refine below_set ?_ GE449.out | refine below_set ?_ GE458.out | refine below_set ?_ GE462.out) | exact HB.out)) hb)
            clear HO_29
            clear BK449
            clear BK458
            clear BK462
            clear HB
            have HO_29 := n0_
            have BK449 := n1_
            have BK458 := n2_
            have BK462 := n3_
            have HB := n4_
            clear n0_ n1_ n2_ n3_ n4_
            (try clear hb)
            (try clear hb2)
            (try clear hk)
            (try clear hi)
            refine hK.out _ _ ⟨(blk_cell BK449.out 0).trans rfl, (blk_cell BK449.out 1).trans rfl, (blk_cell BK449.out 2).trans rfl, (blk_cell BK449.out 3).trans rfl, (blk_cell BK449.out 4).trans rfl, (blk_cell BK449.out 5).trans rfl, (blk_cell BK449.out 6).trans rfl, (blk_cell BK449.out 7).trans rfl, (blk_cell BK449.out 8).trans rfl, (blk_cell BK458.out 0).trans rfl, (blk_cell BK458.out 1).trans rfl, (blk_cell BK458.out 2).trans rfl, (blk_cell BK462.out 0).trans rfl, (blk_cell BK462.out 1).trans rfl, (blk_cell BK462.out 2).trans rfl⟩ (fun hHeld => ?_)
            clear hK K
            refine norm_ (a' := ?_) ?_ ?_
            rotate_left
            ·show Act.put _ (some 59) _ = _
             simp only [Act.put, List.setIfInBounds_toArray, List.set_cons_zero, List.set_cons_succ, i64_w, i32_w]
             rfl
            exact norm_ (by simp only [putAll, Act.put, List.setIfInBounds_toArray, List.set_cons_zero, List.set_cons_succ] <;> rfl) (hJ4_7 () _ ⟨hHeld, (by (with_reducible repeat (first | apply Kd.R_alloc | apply Kd.R_drewN | apply Kd.R_drew)); exact HO_29.out), (by (with_reducible repeat (first | refine blk_drewN ?_ _ | refine blk_drew ?_ | refine blk_alloc ?_ _)); exact BK449.out), (by (with_reducible repeat (first | refine blk_drewN ?_ _ | refine blk_drew ?_ | refine blk_alloc ?_ _)); exact BK458.out), (by (with_reducible repeat (first | refine blk_drewN ?_ _ | refine blk_drew ?_ | refine blk_alloc ?_ _)); exact BK462.out), (by repeat (first | (with_reducible first | exact HB.out | apply below_alloc | apply pw_below_drewN | apply below_drew1 | refine below_set ?_ GE449.out | refine below_set ?_ GE458.out | refine below_set ?_ GE462.out) | exact HB.out))⟩)
           skip
           refine box_step ?hg (N := 15) ?hd (cs := #[.int .i64 0, .int .i64 0, .int .i64 0]) (t := 23) ?hr ?_; (case hd => rfl); (case hg => rfl); (case hr => first | (go_simp; done) | (go_simp; rfl))
           intro gb475 hg w45 hbox hb
           have n0_ := Aside0.mk (Kd.R_below (by (with_reducible repeat (first | apply Kd.R_alloc | apply Kd.R_drewN | apply Kd.R_drew)); exact HO_29.out) hb)
           have n1_ := Aside0.mk (blk_below (g := gb449) (o := .cells #[.int .i64 a0_0, .int .i64 a0_1, .int .i64 a0_2, .int .i64 a0_3, .int .i64 a0_4, .int .i64 a0_5, .int .i64 a0_6, .int .i64 a0_7, .int .i64 a0_8] 25 (0, 0)) (by (with_reducible repeat (first | refine blk_drewN ?_ _ | refine blk_drew ?_ | refine blk_alloc ?_ _)); exact BK449.out) hb)
           have n2_ := Aside0.mk (blk_below (g := gb458) (o := .cells #[.int .i64 t455, .int .i64 t456, .int .i64 t457] 23 (0, 0)) (by (with_reducible repeat (first | refine blk_drewN ?_ _ | refine blk_drew ?_ | refine blk_alloc ?_ _)); exact BK458.out) hb)
           have n3_ := Aside0.mk (blk_below (g := gb462) (o := .cells #[.int .i64 t459, .int .i64 t460, .int .i64 t461] 23 (0, 0)) (by (with_reducible repeat (first | refine blk_drewN ?_ _ | refine blk_drew ?_ | refine blk_alloc ?_ _)); exact BK462.out) hb)
           have n4_ := Aside0.mk (below_step (by repeat (first | (with_reducible first | exact HB.out | apply below_alloc | apply pw_below_drewN | apply below_drew1 | refine below_set ?_ GE449.out | refine below_set ?_ GE458.out | refine below_set ?_ GE462.out) | exact HB.out)) hb)
           have n5_ := Aside0.mk (hbox)
           have n6_ := Aside0.mk ((by rw [hg]; exact (below_size (by repeat (first | (with_reducible first | exact HB.out | apply below_alloc | apply pw_below_drewN | apply below_drew1 | refine below_set ?_ GE449.out | refine below_set ?_ GE458.out | refine below_set ?_ GE462.out) | exact HB.out))) : w.heap.size ≤ gb475))
           have GE475 := Aside0.mk ((by rw [hg]; exact (below_size (by repeat (first | (with_reducible first | exact HB.out | apply below_alloc | apply pw_below_drewN | apply below_drew1 | refine below_set ?_ GE449.out | refine below_set ?_ GE458.out | refine below_set ?_ GE462.out) | exact HB.out))) : w.heap.size ≤ gb475))
           have NB449_475 := Aside0.mk ((by rw [hg]; exact Nat.ne_of_lt (blk_lt (g := gb449) (o := .cells #[.int .i64 a0_0, .int .i64 a0_1, .int .i64 a0_2, .int .i64 a0_3, .int .i64 a0_4, .int .i64 a0_5, .int .i64 a0_6, .int .i64 a0_7, .int .i64 a0_8] 25 (0, 0)) (by (with_reducible repeat (first | refine blk_drewN ?_ _ | refine blk_drew ?_ | refine blk_alloc ?_ _)); exact BK449.out)) : gb449 ≠ gb475))
           have NB475_449 := Aside0.mk ((by rw [hg]; exact Nat.ne_of_gt (blk_lt (g := gb449) (o := .cells #[.int .i64 a0_0, .int .i64 a0_1, .int .i64 a0_2, .int .i64 a0_3, .int .i64 a0_4, .int .i64 a0_5, .int .i64 a0_6, .int .i64 a0_7, .int .i64 a0_8] 25 (0, 0)) (by (with_reducible repeat (first | refine blk_drewN ?_ _ | refine blk_drew ?_ | refine blk_alloc ?_ _)); exact BK449.out)) : gb475 ≠ gb449))
           have NB458_475 := Aside0.mk ((by rw [hg]; exact Nat.ne_of_lt (blk_lt (g := gb458) (o := .cells #[.int .i64 t455, .int .i64 t456, .int .i64 t457] 23 (0, 0)) (by (with_reducible repeat (first | refine blk_drewN ?_ _ | refine blk_drew ?_ | refine blk_alloc ?_ _)); exact BK458.out)) : gb458 ≠ gb475))
           have NB475_458 := Aside0.mk ((by rw [hg]; exact Nat.ne_of_gt (blk_lt (g := gb458) (o := .cells #[.int .i64 t455, .int .i64 t456, .int .i64 t457] 23 (0, 0)) (by (with_reducible repeat (first | refine blk_drewN ?_ _ | refine blk_drew ?_ | refine blk_alloc ?_ _)); exact BK458.out)) : gb475 ≠ gb458))
           have NB462_475 := Aside0.mk ((by rw [hg]; exact Nat.ne_of_lt (blk_lt (g := gb462) (o := .cells #[.int .i64 t459, .int .i64 t460, .int .i64 t461] 23 (0, 0)) (by (with_reducible repeat (first | refine blk_drewN ?_ _ | refine blk_drew ?_ | refine blk_alloc ?_ _)); exact BK462.out)) : gb462 ≠ gb475))
           have NB475_462 := Aside0.mk ((by rw [hg]; exact Nat.ne_of_gt (blk_lt (g := gb462) (o := .cells #[.int .i64 t459, .int .i64 t460, .int .i64 t461] 23 (0, 0)) (by (with_reducible repeat (first | refine blk_drewN ?_ _ | refine blk_drew ?_ | refine blk_alloc ?_ _)); exact BK462.out)) : gb475 ≠ gb462))
           clear HO_29
           clear BK449
           clear BK458
           clear BK462
           clear HB
           have HO_29 := n0_
           have BK449 := n1_
           have BK458 := n2_
           have BK462 := n3_
           have HB := n4_
           have BK475 := n5_
           have GW475 := n6_
           clear n0_ n1_ n2_ n3_ n4_ n5_ n6_
           clear hb hbox hg
           refine hK.out _ _ ⟨(blk_cell BK449.out 0).trans rfl, (blk_cell BK449.out 1).trans rfl, (blk_cell BK449.out 2).trans rfl, (blk_cell BK449.out 3).trans rfl, (blk_cell BK449.out 4).trans rfl, (blk_cell BK449.out 5).trans rfl, (blk_cell BK449.out 6).trans rfl, (blk_cell BK449.out 7).trans rfl, (blk_cell BK449.out 8).trans rfl, (blk_cell BK458.out 0).trans rfl, (blk_cell BK458.out 1).trans rfl, (blk_cell BK458.out 2).trans rfl, (blk_cell BK462.out 0).trans rfl, (blk_cell BK462.out 1).trans rfl, (blk_cell BK462.out 2).trans rfl⟩ (fun hHeld => ?_)
           clear hK K
           refine norm_ (a' := ?_) ?_ ?_
           rotate_left
           ·show Act.put _ (some 15) _ = _
            simp only [Act.put, List.setIfInBounds_toArray, List.set_cons_zero, List.set_cons_succ, i64_w, i32_w]
            rfl
           exact norm_ (by simp only [putAll, Act.put, List.setIfInBounds_toArray, List.set_cons_zero, List.set_cons_succ] <;> rfl) (hJ4_10 (gb475) _ ⟨hHeld, (by (with_reducible repeat (first | apply Kd.R_alloc | apply Kd.R_drewN | apply Kd.R_drew)); exact HO_29.out), (by (with_reducible repeat (first | refine blk_drewN ?_ _ | refine blk_drew ?_ | refine blk_alloc ?_ _)); exact BK449.out), (by (with_reducible repeat (first | refine blk_drewN ?_ _ | refine blk_drew ?_ | refine blk_alloc ?_ _)); exact BK458.out), (by (with_reducible repeat (first | refine blk_drewN ?_ _ | refine blk_drew ?_ | refine blk_alloc ?_ _)); exact BK462.out), (by (with_reducible repeat (first | refine blk_drewN ?_ _ | refine blk_drew ?_ | refine blk_alloc ?_ _)); exact BK475.out), GW475.out, GE475.out, NB449_475.out, NB475_449.out, NB458_475.out, NB475_458.out, NB462_475.out, NB475_462.out, (by repeat (first | (with_reducible first | exact HB.out | apply below_alloc | apply pw_below_drewN | apply below_drew1 | refine below_set ?_ GE449.out | refine below_set ?_ GE458.out | refine below_set ?_ GE462.out | refine below_set ?_ GE475.out) | exact HB.out))⟩)
          skip
          rintro gb475 w45 ⟨hS_, h0_, h1_, h2_, h3_, h4_, h5_, h6_, h7_, h8_, h9_, h10_, h11_, h12_, h13_⟩
          have n0_ : Aside0 (Kd.R (Kd.int .i64) 3 w45 w.heap.size (fun _ => True) (.slice Ao12 y451.length co12) y451) := ⟨h0_⟩
          have n1_ : Aside0 (w45.heap[gb449]? = some (.cells #[.int .i64 a0_0, .int .i64 a0_1, .int .i64 a0_2, .int .i64 a0_3, .int .i64 a0_4, .int .i64 a0_5, .int .i64 a0_6, .int .i64 a0_7, .int .i64 a0_8] 25 (0, 0))) := ⟨h1_⟩
          have n2_ : Aside0 (w45.heap[gb458]? = some (.cells #[.int .i64 t455, .int .i64 t456, .int .i64 t457] 23 (0, 0))) := ⟨h2_⟩
          have n3_ : Aside0 (w45.heap[gb462]? = some (.cells #[.int .i64 t459, .int .i64 t460, .int .i64 t461] 23 (0, 0))) := ⟨h3_⟩
          have n4_ : Aside0 (w45.heap[gb475]? = some (.cells #[.int .i64 0, .int .i64 0, .int .i64 0] 23 (0, 0))) := ⟨h4_⟩
          have n5_ : Aside0 (w.heap.size ≤ gb475) := ⟨h5_⟩
          have GE475 : Aside0 (w.heap.size ≤ gb475) := ⟨h6_⟩
          have NB449_475 : Aside0 (gb449 ≠ gb475) := ⟨h7_⟩
          have NB475_449 : Aside0 (gb475 ≠ gb449) := ⟨h8_⟩
          have NB458_475 : Aside0 (gb458 ≠ gb475) := ⟨h9_⟩
          have NB475_458 : Aside0 (gb475 ≠ gb458) := ⟨h10_⟩
          have NB462_475 : Aside0 (gb462 ≠ gb475) := ⟨h11_⟩
          have NB475_462 : Aside0 (gb475 ≠ gb462) := ⟨h12_⟩
          have n13_ : Aside0 (Below w.heap.size w w45) := ⟨h13_⟩
          clear HO_29
          clear BK449
          clear BK458
          clear BK462
          clear HB
          clear h0_ h1_ h2_ h3_ h4_ h5_ h6_ h7_ h8_ h9_ h10_ h11_ h12_ h13_
          have HO_29 := n0_
          have BK449 := n1_
          have BK458 := n2_
          have BK462 := n3_
          have BK475 := n4_
          have GW475 := n5_
          have HB := n13_
          clear n0_ n1_ n2_ n3_ n4_ n5_ n13_
          have hHeld : w45.cell? ⟨gb449, 0, none⟩ = some (.int .i64 a0_0) ∧ w45.cell? ⟨gb449, 1, none⟩ = some (.int .i64 a0_1) ∧ w45.cell? ⟨gb449, 2, none⟩ = some (.int .i64 a0_2) ∧ w45.cell? ⟨gb449, 3, none⟩ = some (.int .i64 a0_3) ∧ w45.cell? ⟨gb449, 4, none⟩ = some (.int .i64 a0_4) ∧ w45.cell? ⟨gb449, 5, none⟩ = some (.int .i64 a0_5) ∧ w45.cell? ⟨gb449, 6, none⟩ = some (.int .i64 a0_6) ∧ w45.cell? ⟨gb449, 7, none⟩ = some (.int .i64 a0_7) ∧ w45.cell? ⟨gb449, 8, none⟩ = some (.int .i64 a0_8) ∧ w45.cell? ⟨gb458, 0, none⟩ = some (.int .i64 t455) ∧ w45.cell? ⟨gb458, 1, none⟩ = some (.int .i64 t456) ∧ w45.cell? ⟨gb458, 2, none⟩ = some (.int .i64 t457) ∧ w45.cell? ⟨gb462, 0, none⟩ = some (.int .i64 t459) ∧ w45.cell? ⟨gb462, 1, none⟩ = some (.int .i64 t460) ∧ w45.cell? ⟨gb462, 2, none⟩ = some (.int .i64 t461) := hS_
          refine norm_ (a' := ?_) ?_ ?_
          rotate_left
          ·simp only [putAll, Act.put, List.setIfInBounds_toArray, List.set_cons_zero, List.set_cons_succ]
           rfl
          refine one_ (i := 7) (N := some 59) #[true, true, true, true, true, true, true, true, false, false, true, false] rfl rfl (one_of HT_.out (by kernel_rfl)) (by decide) (fun K hK => ?_)
          refine goes_ Try.func29 (by kernel_rfl) rfl #[.agg #[.int .i64 t459, .int .i64 t460, .int .i64 t461], .int .i64 a2] (by rfl) rfl rfl (by (try simp only [List.map_toArray, List.map_cons, List.map_nil]); first | done | rfl | (simp only [List.length_drop, List.length_take]; rfl)) ?_
          with_reducible refine (relievoref02_Scale.calls t459 t460 t461 a2 t466 t467 t468 _ A21.out).mono ?_
          rintro e w46 ⟨rfl, hb⟩
          refine ⟨_, rfl, ?_⟩
          have n0_ := Aside0.mk (Kd.R_below (by (with_reducible repeat (first | apply Kd.R_alloc | apply Kd.R_drewN | apply Kd.R_drew)); exact HO_29.out) hb)
          have n1_ := Aside0.mk (blk_below (g := gb449) (o := .cells #[.int .i64 a0_0, .int .i64 a0_1, .int .i64 a0_2, .int .i64 a0_3, .int .i64 a0_4, .int .i64 a0_5, .int .i64 a0_6, .int .i64 a0_7, .int .i64 a0_8] 25 (0, 0)) (by (with_reducible repeat (first | refine blk_drewN ?_ _ | refine blk_drew ?_ | refine blk_alloc ?_ _)); exact BK449.out) hb)
          have n2_ := Aside0.mk (blk_below (g := gb458) (o := .cells #[.int .i64 t455, .int .i64 t456, .int .i64 t457] 23 (0, 0)) (by (with_reducible repeat (first | refine blk_drewN ?_ _ | refine blk_drew ?_ | refine blk_alloc ?_ _)); exact BK458.out) hb)
          have n3_ := Aside0.mk (blk_below (g := gb462) (o := .cells #[.int .i64 t459, .int .i64 t460, .int .i64 t461] 23 (0, 0)) (by (with_reducible repeat (first | refine blk_drewN ?_ _ | refine blk_drew ?_ | refine blk_alloc ?_ _)); exact BK462.out) hb)
          have n4_ := Aside0.mk (blk_below (g := gb475) (o := .cells #[.int .i64 0, .int .i64 0, .int .i64 0] 23 (0, 0)) (by (with_reducible repeat (first | refine blk_drewN ?_ _ | refine blk_drew ?_ | refine blk_alloc ?_ _)); exact BK475.out) hb)
          have n5_ := Aside0.mk (below_step (by repeat (first | (with_reducible first | exact HB.out | apply below_alloc | apply pw_below_drewN | apply below_drew1 | refine below_set ?_ GE449.out | refine below_set ?_ GE458.out | refine below_set ?_ GE462.out | refine below_set ?_ GE475.out) | exact HB.out)) hb)
          clear HO_29
          clear BK449
          clear BK458
          clear BK462
          clear BK475
          clear HB
          have HO_29 := n0_
          have BK449 := n1_
          have BK458 := n2_
          have BK462 := n3_
          have BK475 := n4_
          have HB := n5_
          clear n0_ n1_ n2_ n3_ n4_ n5_
          (try clear hb)
          (try clear hb2)
          (try clear hk)
          (try clear hi)
          refine hK.out _ _ ⟨(blk_cell BK449.out 0).trans rfl, (blk_cell BK449.out 1).trans rfl, (blk_cell BK449.out 2).trans rfl, (blk_cell BK449.out 3).trans rfl, (blk_cell BK449.out 4).trans rfl, (blk_cell BK449.out 5).trans rfl, (blk_cell BK449.out 6).trans rfl, (blk_cell BK449.out 7).trans rfl, (blk_cell BK449.out 8).trans rfl, (blk_cell BK458.out 0).trans rfl, (blk_cell BK458.out 1).trans rfl, (blk_cell BK458.out 2).trans rfl, (blk_cell BK462.out 0).trans rfl, (blk_cell BK462.out 1).trans rfl, (blk_cell BK462.out 2).trans rfl⟩ (fun hHeld => ?_)
          clear hK K
          refine norm_ (a' := ?_) ?_ ?_
          rotate_left
          ·show Act.put _ (some 59) _ = _
           simp only [Act.put, List.setIfInBounds_toArray, List.set_cons_zero, List.set_cons_succ, i64_w, i32_w]
           rfl
          exact norm_ (by simp only [putAll, Act.put, List.setIfInBounds_toArray, List.set_cons_zero, List.set_cons_succ] <;> rfl) (hJ4_7_10 (gb475) _ ⟨hHeld, (by (with_reducible repeat (first | apply Kd.R_alloc | apply Kd.R_drewN | apply Kd.R_drew)); exact HO_29.out), (by (with_reducible repeat (first | refine blk_drewN ?_ _ | refine blk_drew ?_ | refine blk_alloc ?_ _)); exact BK449.out), (by (with_reducible repeat (first | refine blk_drewN ?_ _ | refine blk_drew ?_ | refine blk_alloc ?_ _)); exact BK458.out), (by (with_reducible repeat (first | refine blk_drewN ?_ _ | refine blk_drew ?_ | refine blk_alloc ?_ _)); exact BK462.out), (by (with_reducible repeat (first | refine blk_drewN ?_ _ | refine blk_drew ?_ | refine blk_alloc ?_ _)); exact BK475.out), GW475.out, GE475.out, NB449_475.out, NB475_449.out, NB458_475.out, NB475_458.out, NB462_475.out, NB475_462.out, (by repeat (first | (with_reducible first | exact HB.out | apply below_alloc | apply pw_below_drewN | apply below_drew1 | refine below_set ?_ GE449.out | refine below_set ?_ GE458.out | refine below_set ?_ GE462.out | refine below_set ?_ GE475.out) | exact HB.out))⟩)
         skip
         rintro _ w45 ⟨hS_, h0_, h1_, h2_, h3_, h4_⟩
         have n0_ : Aside0 (Kd.R (Kd.int .i64) 3 w45 w.heap.size (fun _ => True) (.slice Ao12 y451.length co12) y451) := ⟨h0_⟩
         have n1_ : Aside0 (w45.heap[gb449]? = some (.cells #[.int .i64 a0_0, .int .i64 a0_1, .int .i64 a0_2, .int .i64 a0_3, .int .i64 a0_4, .int .i64 a0_5, .int .i64 a0_6, .int .i64 a0_7, .int .i64 a0_8] 25 (0, 0))) := ⟨h1_⟩
         have n2_ : Aside0 (w45.heap[gb458]? = some (.cells #[.int .i64 t455, .int .i64 t456, .int .i64 t457] 23 (0, 0))) := ⟨h2_⟩
         have n3_ : Aside0 (w45.heap[gb462]? = some (.cells #[.int .i64 t459, .int .i64 t460, .int .i64 t461] 23 (0, 0))) := ⟨h3_⟩
         have n4_ : Aside0 (Below w.heap.size w w45) := ⟨h4_⟩
         clear HO_29
         clear BK449
         clear BK458
         clear BK462
         clear HB
         clear h0_ h1_ h2_ h3_ h4_
         have HO_29 := n0_
         have BK449 := n1_
         have BK458 := n2_
         have BK462 := n3_
         have HB := n4_
         clear n0_ n1_ n2_ n3_ n4_
         have hHeld : w45.cell? ⟨gb449, 0, none⟩ = some (.int .i64 a0_0) ∧ w45.cell? ⟨gb449, 1, none⟩ = some (.int .i64 a0_1) ∧ w45.cell? ⟨gb449, 2, none⟩ = some (.int .i64 a0_2) ∧ w45.cell? ⟨gb449, 3, none⟩ = some (.int .i64 a0_3) ∧ w45.cell? ⟨gb449, 4, none⟩ = some (.int .i64 a0_4) ∧ w45.cell? ⟨gb449, 5, none⟩ = some (.int .i64 a0_5) ∧ w45.cell? ⟨gb449, 6, none⟩ = some (.int .i64 a0_6) ∧ w45.cell? ⟨gb449, 7, none⟩ = some (.int .i64 a0_7) ∧ w45.cell? ⟨gb449, 8, none⟩ = some (.int .i64 a0_8) ∧ w45.cell? ⟨gb458, 0, none⟩ = some (.int .i64 t455) ∧ w45.cell? ⟨gb458, 1, none⟩ = some (.int .i64 t456) ∧ w45.cell? ⟨gb458, 2, none⟩ = some (.int .i64 t457) ∧ w45.cell? ⟨gb462, 0, none⟩ = some (.int .i64 t459) ∧ w45.cell? ⟨gb462, 1, none⟩ = some (.int .i64 t460) ∧ w45.cell? ⟨gb462, 2, none⟩ = some (.int .i64 t461) := hS_
         refine norm_ (a' := ?_) ?_ ?_
         rotate_left
         ·simp only [putAll, Act.put, List.setIfInBounds_toArray, List.set_cons_zero, List.set_cons_succ]
          rfl
         refine two_ (i := 8) (j := 10) (Ni := some 60) (Nj := some 15) #[true, true, true, true, true, true, true, true, true, false, false, false] #[true, true, true, true, true, true, true, true, false, false, true, false] rfl rfl rfl rfl (two_of HT_.out (by kernel_rfl)) (by decide) (by decide) (fun K hK => ?_) (fun K hK => ?_)
         ·skip
          refine goes_ Try.func24 (by kernel_rfl) rfl #[.agg #[.int .i64 t463, .int .i64 t464, .int .i64 t465], .agg #[.int .i64 t466, .int .i64 t467, .int .i64 t468]] (by rfl) rfl rfl (by (try simp only [List.map_toArray, List.map_cons, List.map_nil]); first | done | rfl | (simp only [List.length_drop, List.length_take]; rfl)) ?_
          with_reducible refine (relievoref02_Add.calls t463 t464 t465 t466 t467 t468 t469 t470 t471 _ A22.out).mono ?_
          rintro e w46 ⟨rfl, hb⟩
          refine ⟨_, rfl, ?_⟩
          have n0_ := Aside0.mk (Kd.R_below (by (with_reducible repeat (first | apply Kd.R_alloc | apply Kd.R_drewN | apply Kd.R_drew)); exact HO_29.out) hb)
          have n1_ := Aside0.mk (blk_below (g := gb449) (o := .cells #[.int .i64 a0_0, .int .i64 a0_1, .int .i64 a0_2, .int .i64 a0_3, .int .i64 a0_4, .int .i64 a0_5, .int .i64 a0_6, .int .i64 a0_7, .int .i64 a0_8] 25 (0, 0)) (by (with_reducible repeat (first | refine blk_drewN ?_ _ | refine blk_drew ?_ | refine blk_alloc ?_ _)); exact BK449.out) hb)
          have n2_ := Aside0.mk (blk_below (g := gb458) (o := .cells #[.int .i64 t455, .int .i64 t456, .int .i64 t457] 23 (0, 0)) (by (with_reducible repeat (first | refine blk_drewN ?_ _ | refine blk_drew ?_ | refine blk_alloc ?_ _)); exact BK458.out) hb)
          have n3_ := Aside0.mk (blk_below (g := gb462) (o := .cells #[.int .i64 t459, .int .i64 t460, .int .i64 t461] 23 (0, 0)) (by (with_reducible repeat (first | refine blk_drewN ?_ _ | refine blk_drew ?_ | refine blk_alloc ?_ _)); exact BK462.out) hb)
          have n4_ := Aside0.mk (below_step (by repeat (first | (with_reducible first | exact HB.out | apply below_alloc | apply pw_below_drewN | apply below_drew1 | refine below_set ?_ GE449.out | refine below_set ?_ GE458.out | refine below_set ?_ GE462.out) | exact HB.out)) hb)
          clear HO_29
          clear BK449
          clear BK458
          clear BK462
          clear HB
          have HO_29 := n0_
          have BK449 := n1_
          have BK458 := n2_
          have BK462 := n3_
          have HB := n4_
          clear n0_ n1_ n2_ n3_ n4_
          (try clear hb)
          (try clear hb2)
          (try clear hk)
          (try clear hi)
          refine hK.out _ _ ⟨(blk_cell BK449.out 0).trans rfl, (blk_cell BK449.out 1).trans rfl, (blk_cell BK449.out 2).trans rfl, (blk_cell BK449.out 3).trans rfl, (blk_cell BK449.out 4).trans rfl, (blk_cell BK449.out 5).trans rfl, (blk_cell BK449.out 6).trans rfl, (blk_cell BK449.out 7).trans rfl, (blk_cell BK449.out 8).trans rfl, (blk_cell BK458.out 0).trans rfl, (blk_cell BK458.out 1).trans rfl, (blk_cell BK458.out 2).trans rfl, (blk_cell BK462.out 0).trans rfl, (blk_cell BK462.out 1).trans rfl, (blk_cell BK462.out 2).trans rfl⟩ (fun hHeld => ?_)
          clear hK K
          refine norm_ (a' := ?_) ?_ ?_
          rotate_left
          ·show Act.put _ (some 60) _ = _
           simp only [Act.put, List.setIfInBounds_toArray, List.set_cons_zero, List.set_cons_succ, i64_w, i32_w]
           rfl
          exact norm_ (by simp only [putAll, Act.put, List.setIfInBounds_toArray, List.set_cons_zero, List.set_cons_succ] <;> rfl) (hJ4_7_8 () _ ⟨hHeld, (by (with_reducible repeat (first | apply Kd.R_alloc | apply Kd.R_drewN | apply Kd.R_drew)); exact HO_29.out), (by (with_reducible repeat (first | refine blk_drewN ?_ _ | refine blk_drew ?_ | refine blk_alloc ?_ _)); exact BK449.out), (by (with_reducible repeat (first | refine blk_drewN ?_ _ | refine blk_drew ?_ | refine blk_alloc ?_ _)); exact BK458.out), (by (with_reducible repeat (first | refine blk_drewN ?_ _ | refine blk_drew ?_ | refine blk_alloc ?_ _)); exact BK462.out), (by repeat (first | (with_reducible first | exact HB.out | apply below_alloc | apply pw_below_drewN | apply below_drew1 | refine below_set ?_ GE449.out | refine below_set ?_ GE458.out | refine below_set ?_ GE462.out) | exact HB.out))⟩)
         skip
         refine box_step ?hg (N := 15) ?hd (cs := #[.int .i64 0, .int .i64 0, .int .i64 0]) (t := 23) ?hr ?_; (case hd => rfl); (case hg => rfl); (case hr => first | (go_simp; done) | (go_simp; rfl))
         intro gb475 hg w46 hbox hb
         have n0_ := Aside0.mk (Kd.R_below (by (with_reducible repeat (first | apply Kd.R_alloc | apply Kd.R_drewN | apply Kd.R_drew)); exact HO_29.out) hb)
         have n1_ := Aside0.mk (blk_below (g := gb449) (o := .cells #[.int .i64 a0_0, .int .i64 a0_1, .int .i64 a0_2, .int .i64 a0_3, .int .i64 a0_4, .int .i64 a0_5, .int .i64 a0_6, .int .i64 a0_7, .int .i64 a0_8] 25 (0, 0)) (by (with_reducible repeat (first | refine blk_drewN ?_ _ | refine blk_drew ?_ | refine blk_alloc ?_ _)); exact BK449.out) hb)
         have n2_ := Aside0.mk (blk_below (g := gb458) (o := .cells #[.int .i64 t455, .int .i64 t456, .int .i64 t457] 23 (0, 0)) (by (with_reducible repeat (first | refine blk_drewN ?_ _ | refine blk_drew ?_ | refine blk_alloc ?_ _)); exact BK458.out) hb)
         have n3_ := Aside0.mk (blk_below (g := gb462) (o := .cells #[.int .i64 t459, .int .i64 t460, .int .i64 t461] 23 (0, 0)) (by (with_reducible repeat (first | refine blk_drewN ?_ _ | refine blk_drew ?_ | refine blk_alloc ?_ _)); exact BK462.out) hb)
         have n4_ := Aside0.mk (below_step (by repeat (first | (with_reducible first | exact HB.out | apply below_alloc | apply pw_below_drewN | apply below_drew1 | refine below_set ?_ GE449.out | refine below_set ?_ GE458.out | refine below_set ?_ GE462.out) | exact HB.out)) hb)
         have n5_ := Aside0.mk (hbox)
         have n6_ := Aside0.mk ((by rw [hg]; exact (below_size (by repeat (first | (with_reducible first | exact HB.out | apply below_alloc | apply pw_below_drewN | apply below_drew1 | refine below_set ?_ GE449.out | refine below_set ?_ GE458.out | refine below_set ?_ GE462.out) | exact HB.out))) : w.heap.size ≤ gb475))
         have GE475 := Aside0.mk ((by rw [hg]; exact (below_size (by repeat (first | (with_reducible first | exact HB.out | apply below_alloc | apply pw_below_drewN | apply below_drew1 | refine below_set ?_ GE449.out | refine below_set ?_ GE458.out | refine below_set ?_ GE462.out) | exact HB.out))) : w.heap.size ≤ gb475))
         have NB449_475 := Aside0.mk ((by rw [hg]; exact Nat.ne_of_lt (blk_lt (g := gb449) (o := .cells #[.int .i64 a0_0, .int .i64 a0_1, .int .i64 a0_2, .int .i64 a0_3, .int .i64 a0_4, .int .i64 a0_5, .int .i64 a0_6, .int .i64 a0_7, .int .i64 a0_8] 25 (0, 0)) (by (with_reducible repeat (first | refine blk_drewN ?_ _ | refine blk_drew ?_ | refine blk_alloc ?_ _)); exact BK449.out)) : gb449 ≠ gb475))
         have NB475_449 := Aside0.mk ((by rw [hg]; exact Nat.ne_of_gt (blk_lt (g := gb449) (o := .cells #[.int .i64 a0_0, .int .i64 a0_1, .int .i64 a0_2, .int .i64 a0_3, .int .i64 a0_4, .int .i64 a0_5, .int .i64 a0_6, .int .i64 a0_7, .int .i64 a0_8] 25 (0, 0)) (by (with_reducible repeat (first | refine blk_drewN ?_ _ | refine blk_drew ?_ | refine blk_alloc ?_ _)); exact BK449.out)) : gb475 ≠ gb449))
         have NB458_475 := Aside0.mk ((by rw [hg]; exact Nat.ne_of_lt (blk_lt (g := gb458) (o := .cells #[.int .i64 t455, .int .i64 t456, .int .i64 t457] 23 (0, 0)) (by (with_reducible repeat (first | refine blk_drewN ?_ _ | refine blk_drew ?_ | refine blk_alloc ?_ _)); exact BK458.out)) : gb458 ≠ gb475))
         have NB475_458 := Aside0.mk ((by rw [hg]; exact Nat.ne_of_gt (blk_lt (g := gb458) (o := .cells #[.int .i64 t455, .int .i64 t456, .int .i64 t457] 23 (0, 0)) (by (with_reducible repeat (first | refine blk_drewN ?_ _ | refine blk_drew ?_ | refine blk_alloc ?_ _)); exact BK458.out)) : gb475 ≠ gb458))
         have NB462_475 := Aside0.mk ((by rw [hg]; exact Nat.ne_of_lt (blk_lt (g := gb462) (o := .cells #[.int .i64 t459, .int .i64 t460, .int .i64 t461] 23 (0, 0)) (by (with_reducible repeat (first | refine blk_drewN ?_ _ | refine blk_drew ?_ | refine blk_alloc ?_ _)); exact BK462.out)) : gb462 ≠ gb475))
         have NB475_462 := Aside0.mk ((by rw [hg]; exact Nat.ne_of_gt (blk_lt (g := gb462) (o := .cells #[.int .i64 t459, .int .i64 t460, .int .i64 t461] 23 (0, 0)) (by (with_reducible repeat (first | refine blk_drewN ?_ _ | refine blk_drew ?_ | refine blk_alloc ?_ _)); exact BK462.out)) : gb475 ≠ gb462))
         clear HO_29
         clear BK449
         clear BK458
         clear BK462
         clear HB
         have HO_29 := n0_
         have BK449 := n1_
         have BK458 := n2_
         have BK462 := n3_
         have HB := n4_
         have BK475 := n5_
         have GW475 := n6_
         clear n0_ n1_ n2_ n3_ n4_ n5_ n6_
         clear hb hbox hg
         refine hK.out _ _ ⟨(blk_cell BK449.out 0).trans rfl, (blk_cell BK449.out 1).trans rfl, (blk_cell BK449.out 2).trans rfl, (blk_cell BK449.out 3).trans rfl, (blk_cell BK449.out 4).trans rfl, (blk_cell BK449.out 5).trans rfl, (blk_cell BK449.out 6).trans rfl, (blk_cell BK449.out 7).trans rfl, (blk_cell BK449.out 8).trans rfl, (blk_cell BK458.out 0).trans rfl, (blk_cell BK458.out 1).trans rfl, (blk_cell BK458.out 2).trans rfl, (blk_cell BK462.out 0).trans rfl, (blk_cell BK462.out 1).trans rfl, (blk_cell BK462.out 2).trans rfl⟩ (fun hHeld => ?_)
         clear hK K
         refine norm_ (a' := ?_) ?_ ?_
         rotate_left
         ·show Act.put _ (some 15) _ = _
          simp only [Act.put, List.setIfInBounds_toArray, List.set_cons_zero, List.set_cons_succ, i64_w, i32_w]
          rfl
         exact norm_ (by simp only [putAll, Act.put, List.setIfInBounds_toArray, List.set_cons_zero, List.set_cons_succ] <;> rfl) (hJ4_7_10 (gb475) _ ⟨hHeld, (by (with_reducible repeat (first | apply Kd.R_alloc | apply Kd.R_drewN | apply Kd.R_drew)); exact HO_29.out), (by (with_reducible repeat (first | refine blk_drewN ?_ _ | refine blk_drew ?_ | refine blk_alloc ?_ _)); exact BK449.out), (by (with_reducible repeat (first | refine blk_drewN ?_ _ | refine blk_drew ?_ | refine blk_alloc ?_ _)); exact BK458.out), (by (with_reducible repeat (first | refine blk_drewN ?_ _ | refine blk_drew ?_ | refine blk_alloc ?_ _)); exact BK462.out), (by (with_reducible repeat (first | refine blk_drewN ?_ _ | refine blk_drew ?_ | refine blk_alloc ?_ _)); exact BK475.out), GW475.out, GE475.out, NB449_475.out, NB475_449.out, NB458_475.out, NB475_458.out, NB462_475.out, NB475_462.out, (by repeat (first | (with_reducible first | exact HB.out | apply below_alloc | apply pw_below_drewN | apply below_drew1 | refine below_set ?_ GE449.out | refine below_set ?_ GE458.out | refine below_set ?_ GE462.out | refine below_set ?_ GE475.out) | exact HB.out))⟩)
        skip
        rintro gb475 w46 ⟨hS_, h0_, h1_, h2_, h3_, h4_, h5_, h6_, h7_, h8_, h9_, h10_, h11_, h12_, h13_⟩
        have n0_ : Aside0 (Kd.R (Kd.int .i64) 3 w46 w.heap.size (fun _ => True) (.slice Ao12 y451.length co12) y451) := ⟨h0_⟩
        have n1_ : Aside0 (w46.heap[gb449]? = some (.cells #[.int .i64 a0_0, .int .i64 a0_1, .int .i64 a0_2, .int .i64 a0_3, .int .i64 a0_4, .int .i64 a0_5, .int .i64 a0_6, .int .i64 a0_7, .int .i64 a0_8] 25 (0, 0))) := ⟨h1_⟩
        have n2_ : Aside0 (w46.heap[gb458]? = some (.cells #[.int .i64 t455, .int .i64 t456, .int .i64 t457] 23 (0, 0))) := ⟨h2_⟩
        have n3_ : Aside0 (w46.heap[gb462]? = some (.cells #[.int .i64 t459, .int .i64 t460, .int .i64 t461] 23 (0, 0))) := ⟨h3_⟩
        have n4_ : Aside0 (w46.heap[gb475]? = some (.cells #[.int .i64 0, .int .i64 0, .int .i64 0] 23 (0, 0))) := ⟨h4_⟩
        have n5_ : Aside0 (w.heap.size ≤ gb475) := ⟨h5_⟩
        have GE475 : Aside0 (w.heap.size ≤ gb475) := ⟨h6_⟩
        have NB449_475 : Aside0 (gb449 ≠ gb475) := ⟨h7_⟩
        have NB475_449 : Aside0 (gb475 ≠ gb449) := ⟨h8_⟩
        have NB458_475 : Aside0 (gb458 ≠ gb475) := ⟨h9_⟩
        have NB475_458 : Aside0 (gb475 ≠ gb458) := ⟨h10_⟩
        have NB462_475 : Aside0 (gb462 ≠ gb475) := ⟨h11_⟩
        have NB475_462 : Aside0 (gb475 ≠ gb462) := ⟨h12_⟩
        have n13_ : Aside0 (Below w.heap.size w w46) := ⟨h13_⟩
        clear HO_29
        clear BK449
        clear BK458
        clear BK462
        clear HB
        clear h0_ h1_ h2_ h3_ h4_ h5_ h6_ h7_ h8_ h9_ h10_ h11_ h12_ h13_
        have HO_29 := n0_
        have BK449 := n1_
        have BK458 := n2_
        have BK462 := n3_
        have BK475 := n4_
        have GW475 := n5_
        have HB := n13_
        clear n0_ n1_ n2_ n3_ n4_ n5_ n13_
        have hHeld : w46.cell? ⟨gb449, 0, none⟩ = some (.int .i64 a0_0) ∧ w46.cell? ⟨gb449, 1, none⟩ = some (.int .i64 a0_1) ∧ w46.cell? ⟨gb449, 2, none⟩ = some (.int .i64 a0_2) ∧ w46.cell? ⟨gb449, 3, none⟩ = some (.int .i64 a0_3) ∧ w46.cell? ⟨gb449, 4, none⟩ = some (.int .i64 a0_4) ∧ w46.cell? ⟨gb449, 5, none⟩ = some (.int .i64 a0_5) ∧ w46.cell? ⟨gb449, 6, none⟩ = some (.int .i64 a0_6) ∧ w46.cell? ⟨gb449, 7, none⟩ = some (.int .i64 a0_7) ∧ w46.cell? ⟨gb449, 8, none⟩ = some (.int .i64 a0_8) ∧ w46.cell? ⟨gb458, 0, none⟩ = some (.int .i64 t455) ∧ w46.cell? ⟨gb458, 1, none⟩ = some (.int .i64 t456) ∧ w46.cell? ⟨gb458, 2, none⟩ = some (.int .i64 t457) ∧ w46.cell? ⟨gb462, 0, none⟩ = some (.int .i64 t459) ∧ w46.cell? ⟨gb462, 1, none⟩ = some (.int .i64 t460) ∧ w46.cell? ⟨gb462, 2, none⟩ = some (.int .i64 t461) := hS_
        refine norm_ (a' := ?_) ?_ ?_
        rotate_left
        ·simp only [putAll, Act.put, List.setIfInBounds_toArray, List.set_cons_zero, List.set_cons_succ]
         rfl
        refine one_ (i := 8) (N := some 60) #[true, true, true, true, true, true, true, true, true, false, true, false] rfl rfl (one_of HT_.out (by kernel_rfl)) (by decide) (fun K hK => ?_)
        refine goes_ Try.func24 (by kernel_rfl) rfl #[.agg #[.int .i64 t463, .int .i64 t464, .int .i64 t465], .agg #[.int .i64 t466, .int .i64 t467, .int .i64 t468]] (by rfl) rfl rfl (by (try simp only [List.map_toArray, List.map_cons, List.map_nil]); first | done | rfl | (simp only [List.length_drop, List.length_take]; rfl)) ?_
        with_reducible refine (relievoref02_Add.calls t463 t464 t465 t466 t467 t468 t469 t470 t471 _ A22.out).mono ?_
        rintro e w47 ⟨rfl, hb⟩
        refine ⟨_, rfl, ?_⟩
        have n0_ := Aside0.mk (Kd.R_below (by (with_reducible repeat (first | apply Kd.R_alloc | apply Kd.R_drewN | apply Kd.R_drew)); exact HO_29.out) hb)
        have n1_ := Aside0.mk (blk_below (g := gb449) (o := .cells #[.int .i64 a0_0, .int .i64 a0_1, .int .i64 a0_2, .int .i64 a0_3, .int .i64 a0_4, .int .i64 a0_5, .int .i64 a0_6, .int .i64 a0_7, .int .i64 a0_8] 25 (0, 0)) (by (with_reducible repeat (first | refine blk_drewN ?_ _ | refine blk_drew ?_ | refine blk_alloc ?_ _)); exact BK449.out) hb)
        have n2_ := Aside0.mk (blk_below (g := gb458) (o := .cells #[.int .i64 t455, .int .i64 t456, .int .i64 t457] 23 (0, 0)) (by (with_reducible repeat (first | refine blk_drewN ?_ _ | refine blk_drew ?_ | refine blk_alloc ?_ _)); exact BK458.out) hb)
        have n3_ := Aside0.mk (blk_below (g := gb462) (o := .cells #[.int .i64 t459, .int .i64 t460, .int .i64 t461] 23 (0, 0)) (by (with_reducible repeat (first | refine blk_drewN ?_ _ | refine blk_drew ?_ | refine blk_alloc ?_ _)); exact BK462.out) hb)
        have n4_ := Aside0.mk (blk_below (g := gb475) (o := .cells #[.int .i64 0, .int .i64 0, .int .i64 0] 23 (0, 0)) (by (with_reducible repeat (first | refine blk_drewN ?_ _ | refine blk_drew ?_ | refine blk_alloc ?_ _)); exact BK475.out) hb)
        have n5_ := Aside0.mk (below_step (by repeat (first | (with_reducible first | exact HB.out | apply below_alloc | apply pw_below_drewN | apply below_drew1 | refine below_set ?_ GE449.out | refine below_set ?_ GE458.out | refine below_set ?_ GE462.out | refine below_set ?_ GE475.out) | exact HB.out)) hb)
        clear HO_29
        clear BK449
        clear BK458
        clear BK462
        clear BK475
        clear HB
        have HO_29 := n0_
        have BK449 := n1_
        have BK458 := n2_
        have BK462 := n3_
        have BK475 := n4_
        have HB := n5_
        clear n0_ n1_ n2_ n3_ n4_ n5_
        (try clear hb)
        (try clear hb2)
        (try clear hk)
        (try clear hi)
        refine hK.out _ _ ⟨(blk_cell BK449.out 0).trans rfl, (blk_cell BK449.out 1).trans rfl, (blk_cell BK449.out 2).trans rfl, (blk_cell BK449.out 3).trans rfl, (blk_cell BK449.out 4).trans rfl, (blk_cell BK449.out 5).trans rfl, (blk_cell BK449.out 6).trans rfl, (blk_cell BK449.out 7).trans rfl, (blk_cell BK449.out 8).trans rfl, (blk_cell BK458.out 0).trans rfl, (blk_cell BK458.out 1).trans rfl, (blk_cell BK458.out 2).trans rfl, (blk_cell BK462.out 0).trans rfl, (blk_cell BK462.out 1).trans rfl, (blk_cell BK462.out 2).trans rfl⟩ (fun hHeld => ?_)
        clear hK K
        refine norm_ (a' := ?_) ?_ ?_
        rotate_left
        ·show Act.put _ (some 60) _ = _
         simp only [Act.put, List.setIfInBounds_toArray, List.set_cons_zero, List.set_cons_succ, i64_w, i32_w]
         rfl
        exact norm_ (by simp only [putAll, Act.put, List.setIfInBounds_toArray, List.set_cons_zero, List.set_cons_succ] <;> rfl) (hJ4_7_8_10 (gb475) _ ⟨hHeld, (by (with_reducible repeat (first | apply Kd.R_alloc | apply Kd.R_drewN | apply Kd.R_drew)); exact HO_29.out), (by (with_reducible repeat (first | refine blk_drewN ?_ _ | refine blk_drew ?_ | refine blk_alloc ?_ _)); exact BK449.out), (by (with_reducible repeat (first | refine blk_drewN ?_ _ | refine blk_drew ?_ | refine blk_alloc ?_ _)); exact BK458.out), (by (with_reducible repeat (first | refine blk_drewN ?_ _ | refine blk_drew ?_ | refine blk_alloc ?_ _)); exact BK462.out), (by (with_reducible repeat (first | refine blk_drewN ?_ _ | refine blk_drew ?_ | refine blk_alloc ?_ _)); exact BK475.out), GW475.out, GE475.out, NB449_475.out, NB475_449.out, NB458_475.out, NB475_458.out, NB462_475.out, NB475_462.out, (by repeat (first | (with_reducible first | exact HB.out | apply below_alloc | apply pw_below_drewN | apply below_drew1 | refine below_set ?_ GE449.out | refine below_set ?_ GE458.out | refine below_set ?_ GE462.out | refine below_set ?_ GE475.out) | exact HB.out))⟩)
       skip
       rintro _ w46 ⟨hS_, h0_, h1_, h2_, h3_, h4_⟩
       have n0_ : Aside0 (Kd.R (Kd.int .i64) 3 w46 w.heap.size (fun _ => True) (.slice Ao12 y451.length co12) y451) := ⟨h0_⟩
       have n1_ : Aside0 (w46.heap[gb449]? = some (.cells #[.int .i64 a0_0, .int .i64 a0_1, .int .i64 a0_2, .int .i64 a0_3, .int .i64 a0_4, .int .i64 a0_5, .int .i64 a0_6, .int .i64 a0_7, .int .i64 a0_8] 25 (0, 0))) := ⟨h1_⟩
       have n2_ : Aside0 (w46.heap[gb458]? = some (.cells #[.int .i64 t455, .int .i64 t456, .int .i64 t457] 23 (0, 0))) := ⟨h2_⟩
       have n3_ : Aside0 (w46.heap[gb462]? = some (.cells #[.int .i64 t459, .int .i64 t460, .int .i64 t461] 23 (0, 0))) := ⟨h3_⟩
       have n4_ : Aside0 (Below w.heap.size w w46) := ⟨h4_⟩
       clear HO_29
       clear BK449
       clear BK458
       clear BK462
       clear HB
       clear h0_ h1_ h2_ h3_ h4_
       have HO_29 := n0_
       have BK449 := n1_
       have BK458 := n2_
       have BK462 := n3_
       have HB := n4_
       clear n0_ n1_ n2_ n3_ n4_
       have hHeld : w46.cell? ⟨gb449, 0, none⟩ = some (.int .i64 a0_0) ∧ w46.cell? ⟨gb449, 1, none⟩ = some (.int .i64 a0_1) ∧ w46.cell? ⟨gb449, 2, none⟩ = some (.int .i64 a0_2) ∧ w46.cell? ⟨gb449, 3, none⟩ = some (.int .i64 a0_3) ∧ w46.cell? ⟨gb449, 4, none⟩ = some (.int .i64 a0_4) ∧ w46.cell? ⟨gb449, 5, none⟩ = some (.int .i64 a0_5) ∧ w46.cell? ⟨gb449, 6, none⟩ = some (.int .i64 a0_6) ∧ w46.cell? ⟨gb449, 7, none⟩ = some (.int .i64 a0_7) ∧ w46.cell? ⟨gb449, 8, none⟩ = some (.int .i64 a0_8) ∧ w46.cell? ⟨gb458, 0, none⟩ = some (.int .i64 t455) ∧ w46.cell? ⟨gb458, 1, none⟩ = some (.int .i64 t456) ∧ w46.cell? ⟨gb458, 2, none⟩ = some (.int .i64 t457) ∧ w46.cell? ⟨gb462, 0, none⟩ = some (.int .i64 t459) ∧ w46.cell? ⟨gb462, 1, none⟩ = some (.int .i64 t460) ∧ w46.cell? ⟨gb462, 2, none⟩ = some (.int .i64 t461) := hS_
       refine norm_ (a' := ?_) ?_ ?_
       rotate_left
       ·simp only [putAll, Act.put, List.setIfInBounds_toArray, List.set_cons_zero, List.set_cons_succ]
        rfl
       refine two_ (i := 9) (j := 10) (Ni := some 61) (Nj := some 15) #[true, true, true, true, true, true, true, true, true, true, false, false] #[true, true, true, true, true, true, true, true, true, false, true, false] rfl rfl rfl rfl (two_of HT_.out (by kernel_rfl)) (by decide) (by decide) (fun K hK => ?_) (fun K hK => ?_)
       ·skip
        refine goes_ Try.func24 (by kernel_rfl) rfl #[.agg #[.int .i64 a0_0, .int .i64 a0_1, .int .i64 a0_2], .agg #[.int .i64 t469, .int .i64 t470, .int .i64 t471]] (by rfl) rfl rfl (by (try simp only [List.map_toArray, List.map_cons, List.map_nil]); first | done | rfl | (simp only [List.length_drop, List.length_take]; rfl)) ?_
        with_reducible refine (relievoref02_Add.calls a0_0 a0_1 a0_2 t469 t470 t471 t472 t473 t474 _ A23.out).mono ?_
        rintro e w47 ⟨rfl, hb⟩
        refine ⟨_, rfl, ?_⟩
        have n0_ := Aside0.mk (Kd.R_below (by (with_reducible repeat (first | apply Kd.R_alloc | apply Kd.R_drewN | apply Kd.R_drew)); exact HO_29.out) hb)
        have n1_ := Aside0.mk (blk_below (g := gb449) (o := .cells #[.int .i64 a0_0, .int .i64 a0_1, .int .i64 a0_2, .int .i64 a0_3, .int .i64 a0_4, .int .i64 a0_5, .int .i64 a0_6, .int .i64 a0_7, .int .i64 a0_8] 25 (0, 0)) (by (with_reducible repeat (first | refine blk_drewN ?_ _ | refine blk_drew ?_ | refine blk_alloc ?_ _)); exact BK449.out) hb)
        have n2_ := Aside0.mk (blk_below (g := gb458) (o := .cells #[.int .i64 t455, .int .i64 t456, .int .i64 t457] 23 (0, 0)) (by (with_reducible repeat (first | refine blk_drewN ?_ _ | refine blk_drew ?_ | refine blk_alloc ?_ _)); exact BK458.out) hb)
        have n3_ := Aside0.mk (blk_below (g := gb462) (o := .cells #[.int .i64 t459, .int .i64 t460, .int .i64 t461] 23 (0, 0)) (by (with_reducible repeat (first | refine blk_drewN ?_ _ | refine blk_drew ?_ | refine blk_alloc ?_ _)); exact BK462.out) hb)
        have n4_ := Aside0.mk (below_step (by repeat (first | (with_reducible first | exact HB.out | apply below_alloc | apply pw_below_drewN | apply below_drew1 | refine below_set ?_ GE449.out | refine below_set ?_ GE458.out | refine below_set ?_ GE462.out) | exact HB.out)) hb)
        clear HO_29
        clear BK449
        clear BK458
        clear BK462
        clear HB
        have HO_29 := n0_
        have BK449 := n1_
        have BK458 := n2_
        have BK462 := n3_
        have HB := n4_
        clear n0_ n1_ n2_ n3_ n4_
        (try clear hb)
        (try clear hb2)
        (try clear hk)
        (try clear hi)
        refine hK.out _ _ ⟨(blk_cell BK449.out 0).trans rfl, (blk_cell BK449.out 1).trans rfl, (blk_cell BK449.out 2).trans rfl, (blk_cell BK449.out 3).trans rfl, (blk_cell BK449.out 4).trans rfl, (blk_cell BK449.out 5).trans rfl, (blk_cell BK449.out 6).trans rfl, (blk_cell BK449.out 7).trans rfl, (blk_cell BK449.out 8).trans rfl, (blk_cell BK458.out 0).trans rfl, (blk_cell BK458.out 1).trans rfl, (blk_cell BK458.out 2).trans rfl, (blk_cell BK462.out 0).trans rfl, (blk_cell BK462.out 1).trans rfl, (blk_cell BK462.out 2).trans rfl⟩ (fun hHeld => ?_)
        clear hK K
        refine norm_ (a' := ?_) ?_ ?_
        rotate_left
        ·show Act.put _ (some 61) _ = _
         simp only [Act.put, List.setIfInBounds_toArray, List.set_cons_zero, List.set_cons_succ, i64_w, i32_w]
         rfl
        exact norm_ (by simp only [putAll, Act.put, List.setIfInBounds_toArray, List.set_cons_zero, List.set_cons_succ] <;> rfl) (hJ4_7_8_9 () _ ⟨hHeld, (by (with_reducible repeat (first | apply Kd.R_alloc | apply Kd.R_drewN | apply Kd.R_drew)); exact HO_29.out), (by (with_reducible repeat (first | refine blk_drewN ?_ _ | refine blk_drew ?_ | refine blk_alloc ?_ _)); exact BK449.out), (by (with_reducible repeat (first | refine blk_drewN ?_ _ | refine blk_drew ?_ | refine blk_alloc ?_ _)); exact BK458.out), (by (with_reducible repeat (first | refine blk_drewN ?_ _ | refine blk_drew ?_ | refine blk_alloc ?_ _)); exact BK462.out), (by repeat (first | (with_reducible first | exact HB.out | apply below_alloc | apply pw_below_drewN | apply below_drew1 | refine below_set ?_ GE449.out | refine below_set ?_ GE458.out | refine below_set ?_ GE462.out) | exact HB.out))⟩)
       skip
       refine box_step ?hg (N := 15) ?hd (cs := #[.int .i64 0, .int .i64 0, .int .i64 0]) (t := 23) ?hr ?_; (case hd => rfl); (case hg => rfl); (case hr => first | (go_simp; done) | (go_simp; rfl))
       intro gb475 hg w47 hbox hb
       have n0_ := Aside0.mk (Kd.R_below (by (with_reducible repeat (first | apply Kd.R_alloc | apply Kd.R_drewN | apply Kd.R_drew)); exact HO_29.out) hb)
       have n1_ := Aside0.mk (blk_below (g := gb449) (o := .cells #[.int .i64 a0_0, .int .i64 a0_1, .int .i64 a0_2, .int .i64 a0_3, .int .i64 a0_4, .int .i64 a0_5, .int .i64 a0_6, .int .i64 a0_7, .int .i64 a0_8] 25 (0, 0)) (by (with_reducible repeat (first | refine blk_drewN ?_ _ | refine blk_drew ?_ | refine blk_alloc ?_ _)); exact BK449.out) hb)
       have n2_ := Aside0.mk (blk_below (g := gb458) (o := .cells #[.int .i64 t455, .int .i64 t456, .int .i64 t457] 23 (0, 0)) (by (with_reducible repeat (first | refine blk_drewN ?_ _ | refine blk_drew ?_ | refine blk_alloc ?_ _)); exact BK458.out) hb)
       have n3_ := Aside0.mk (blk_below (g := gb462) (o := .cells #[.int .i64 t459, .int .i64 t460, .int .i64 t461] 23 (0, 0)) (by (with_reducible repeat (first | refine blk_drewN ?_ _ | refine blk_drew ?_ | refine blk_alloc ?_ _)); exact BK462.out) hb)
       have n4_ := Aside0.mk (below_step (by repeat (first | (with_reducible first | exact HB.out | apply below_alloc | apply pw_below_drewN | apply below_drew1 | refine below_set ?_ GE449.out | refine below_set ?_ GE458.out | refine below_set ?_ GE462.out) | exact HB.out)) hb)
       have n5_ := Aside0.mk (hbox)
       have n6_ := Aside0.mk ((by rw [hg]; exact (below_size (by repeat (first | (with_reducible first | exact HB.out | apply below_alloc | apply pw_below_drewN | apply below_drew1 | refine below_set ?_ GE449.out | refine below_set ?_ GE458.out | refine below_set ?_ GE462.out) | exact HB.out))) : w.heap.size ≤ gb475))
       have GE475 := Aside0.mk ((by rw [hg]; exact (below_size (by repeat (first | (with_reducible first | exact HB.out | apply below_alloc | apply pw_below_drewN | apply below_drew1 | refine below_set ?_ GE449.out | refine below_set ?_ GE458.out | refine below_set ?_ GE462.out) | exact HB.out))) : w.heap.size ≤ gb475))
       have NB449_475 := Aside0.mk ((by rw [hg]; exact Nat.ne_of_lt (blk_lt (g := gb449) (o := .cells #[.int .i64 a0_0, .int .i64 a0_1, .int .i64 a0_2, .int .i64 a0_3, .int .i64 a0_4, .int .i64 a0_5, .int .i64 a0_6, .int .i64 a0_7, .int .i64 a0_8] 25 (0, 0)) (by (with_reducible repeat (first | refine blk_drewN ?_ _ | refine blk_drew ?_ | refine blk_alloc ?_ _)); exact BK449.out)) : gb449 ≠ gb475))
       have NB475_449 := Aside0.mk ((by rw [hg]; exact Nat.ne_of_gt (blk_lt (g := gb449) (o := .cells #[.int .i64 a0_0, .int .i64 a0_1, .int .i64 a0_2, .int .i64 a0_3, .int .i64 a0_4, .int .i64 a0_5, .int .i64 a0_6, .int .i64 a0_7, .int .i64 a0_8] 25 (0, 0)) (by (with_reducible repeat (first | refine blk_drewN ?_ _ | refine blk_drew ?_ | refine blk_alloc ?_ _)); exact BK449.out)) : gb475 ≠ gb449))
       have NB458_475 := Aside0.mk ((by rw [hg]; exact Nat.ne_of_lt (blk_lt (g := gb458) (o := .cells #[.int .i64 t455, .int .i64 t456, .int .i64 t457] 23 (0, 0)) (by (with_reducible repeat (first | refine blk_drewN ?_ _ | refine blk_drew ?_ | refine blk_alloc ?_ _)); exact BK458.out)) : gb458 ≠ gb475))
       have NB475_458 := Aside0.mk ((by rw [hg]; exact Nat.ne_of_gt (blk_lt (g := gb458) (o := .cells #[.int .i64 t455, .int .i64 t456, .int .i64 t457] 23 (0, 0)) (by (with_reducible repeat (first | refine blk_drewN ?_ _ | refine blk_drew ?_ | refine blk_alloc ?_ _)); exact BK458.out)) : gb475 ≠ gb458))
       have NB462_475 := Aside0.mk ((by rw [hg]; exact Nat.ne_of_lt (blk_lt (g := gb462) (o := .cells #[.int .i64 t459, .int .i64 t460, .int .i64 t461] 23 (0, 0)) (by (with_reducible repeat (first | refine blk_drewN ?_ _ | refine blk_drew ?_ | refine blk_alloc ?_ _)); exact BK462.out)) : gb462 ≠ gb475))
       have NB475_462 := Aside0.mk ((by rw [hg]; exact Nat.ne_of_gt (blk_lt (g := gb462) (o := .cells #[.int .i64 t459, .int .i64 t460, .int .i64 t461] 23 (0, 0)) (by (with_reducible repeat (first | refine blk_drewN ?_ _ | refine blk_drew ?_ | refine blk_alloc ?_ _)); exact BK462.out)) : gb475 ≠ gb462))
       clear HO_29
       clear BK449
       clear BK458
       clear BK462
       clear HB
       have HO_29 := n0_
       have BK449 := n1_
       have BK458 := n2_
       have BK462 := n3_
       have HB := n4_
       have BK475 := n5_
       have GW475 := n6_
       clear n0_ n1_ n2_ n3_ n4_ n5_ n6_
       clear hb hbox hg
       refine hK.out _ _ ⟨(blk_cell BK449.out 0).trans rfl, (blk_cell BK449.out 1).trans rfl, (blk_cell BK449.out 2).trans rfl, (blk_cell BK449.out 3).trans rfl, (blk_cell BK449.out 4).trans rfl, (blk_cell BK449.out 5).trans rfl, (blk_cell BK449.out 6).trans rfl, (blk_cell BK449.out 7).trans rfl, (blk_cell BK449.out 8).trans rfl, (blk_cell BK458.out 0).trans rfl, (blk_cell BK458.out 1).trans rfl, (blk_cell BK458.out 2).trans rfl, (blk_cell BK462.out 0).trans rfl, (blk_cell BK462.out 1).trans rfl, (blk_cell BK462.out 2).trans rfl⟩ (fun hHeld => ?_)
       clear hK K
       refine norm_ (a' := ?_) ?_ ?_
       rotate_left
       ·show Act.put _ (some 15) _ = _
        simp only [Act.put, List.setIfInBounds_toArray, List.set_cons_zero, List.set_cons_succ, i64_w, i32_w]
        rfl
       exact norm_ (by simp only [putAll, Act.put, List.setIfInBounds_toArray, List.set_cons_zero, List.set_cons_succ] <;> rfl) (hJ4_7_8_10 (gb475) _ ⟨hHeld, (by (with_reducible repeat (first | apply Kd.R_alloc | apply Kd.R_drewN | apply Kd.R_drew)); exact HO_29.out), (by (with_reducible repeat (first | refine blk_drewN ?_ _ | refine blk_drew ?_ | refine blk_alloc ?_ _)); exact BK449.out), (by (with_reducible repeat (first | refine blk_drewN ?_ _ | refine blk_drew ?_ | refine blk_alloc ?_ _)); exact BK458.out), (by (with_reducible repeat (first | refine blk_drewN ?_ _ | refine blk_drew ?_ | refine blk_alloc ?_ _)); exact BK462.out), (by (with_reducible repeat (first | refine blk_drewN ?_ _ | refine blk_drew ?_ | refine blk_alloc ?_ _)); exact BK475.out), GW475.out, GE475.out, NB449_475.out, NB475_449.out, NB458_475.out, NB475_458.out, NB462_475.out, NB475_462.out, (by repeat (first | (with_reducible first | exact HB.out | apply below_alloc | apply pw_below_drewN | apply below_drew1 | refine below_set ?_ GE449.out | refine below_set ?_ GE458.out | refine below_set ?_ GE462.out | refine below_set ?_ GE475.out) | exact HB.out))⟩)
      skip
      rintro gb475 w47 ⟨hS_, h0_, h1_, h2_, h3_, h4_, h5_, h6_, h7_, h8_, h9_, h10_, h11_, h12_, h13_⟩
      have n0_ : Aside0 (Kd.R (Kd.int .i64) 3 w47 w.heap.size (fun _ => True) (.slice Ao12 y451.length co12) y451) := ⟨h0_⟩
      have n1_ : Aside0 (w47.heap[gb449]? = some (.cells #[.int .i64 a0_0, .int .i64 a0_1, .int .i64 a0_2, .int .i64 a0_3, .int .i64 a0_4, .int .i64 a0_5, .int .i64 a0_6, .int .i64 a0_7, .int .i64 a0_8] 25 (0, 0))) := ⟨h1_⟩
      have n2_ : Aside0 (w47.heap[gb458]? = some (.cells #[.int .i64 t455, .int .i64 t456, .int .i64 t457] 23 (0, 0))) := ⟨h2_⟩
      have n3_ : Aside0 (w47.heap[gb462]? = some (.cells #[.int .i64 t459, .int .i64 t460, .int .i64 t461] 23 (0, 0))) := ⟨h3_⟩
      have n4_ : Aside0 (w47.heap[gb475]? = some (.cells #[.int .i64 0, .int .i64 0, .int .i64 0] 23 (0, 0))) := ⟨h4_⟩
      have n5_ : Aside0 (w.heap.size ≤ gb475) := ⟨h5_⟩
      have GE475 : Aside0 (w.heap.size ≤ gb475) := ⟨h6_⟩
      have NB449_475 : Aside0 (gb449 ≠ gb475) := ⟨h7_⟩
      have NB475_449 : Aside0 (gb475 ≠ gb449) := ⟨h8_⟩
      have NB458_475 : Aside0 (gb458 ≠ gb475) := ⟨h9_⟩
      have NB475_458 : Aside0 (gb475 ≠ gb458) := ⟨h10_⟩
      have NB462_475 : Aside0 (gb462 ≠ gb475) := ⟨h11_⟩
      have NB475_462 : Aside0 (gb475 ≠ gb462) := ⟨h12_⟩
      have n13_ : Aside0 (Below w.heap.size w w47) := ⟨h13_⟩
      clear HO_29
      clear BK449
      clear BK458
      clear BK462
      clear HB
      clear h0_ h1_ h2_ h3_ h4_ h5_ h6_ h7_ h8_ h9_ h10_ h11_ h12_ h13_
      have HO_29 := n0_
      have BK449 := n1_
      have BK458 := n2_
      have BK462 := n3_
      have BK475 := n4_
      have GW475 := n5_
      have HB := n13_
      clear n0_ n1_ n2_ n3_ n4_ n5_ n13_
      have hHeld : w47.cell? ⟨gb449, 0, none⟩ = some (.int .i64 a0_0) ∧ w47.cell? ⟨gb449, 1, none⟩ = some (.int .i64 a0_1) ∧ w47.cell? ⟨gb449, 2, none⟩ = some (.int .i64 a0_2) ∧ w47.cell? ⟨gb449, 3, none⟩ = some (.int .i64 a0_3) ∧ w47.cell? ⟨gb449, 4, none⟩ = some (.int .i64 a0_4) ∧ w47.cell? ⟨gb449, 5, none⟩ = some (.int .i64 a0_5) ∧ w47.cell? ⟨gb449, 6, none⟩ = some (.int .i64 a0_6) ∧ w47.cell? ⟨gb449, 7, none⟩ = some (.int .i64 a0_7) ∧ w47.cell? ⟨gb449, 8, none⟩ = some (.int .i64 a0_8) ∧ w47.cell? ⟨gb458, 0, none⟩ = some (.int .i64 t455) ∧ w47.cell? ⟨gb458, 1, none⟩ = some (.int .i64 t456) ∧ w47.cell? ⟨gb458, 2, none⟩ = some (.int .i64 t457) ∧ w47.cell? ⟨gb462, 0, none⟩ = some (.int .i64 t459) ∧ w47.cell? ⟨gb462, 1, none⟩ = some (.int .i64 t460) ∧ w47.cell? ⟨gb462, 2, none⟩ = some (.int .i64 t461) := hS_
      refine norm_ (a' := ?_) ?_ ?_
      rotate_left
      ·simp only [putAll, Act.put, List.setIfInBounds_toArray, List.set_cons_zero, List.set_cons_succ]
       rfl
      refine one_ (i := 9) (N := some 61) #[true, true, true, true, true, true, true, true, true, true, true, false] rfl rfl (one_of HT_.out (by kernel_rfl)) (by decide) (fun K hK => ?_)
      refine goes_ Try.func24 (by kernel_rfl) rfl #[.agg #[.int .i64 a0_0, .int .i64 a0_1, .int .i64 a0_2], .agg #[.int .i64 t469, .int .i64 t470, .int .i64 t471]] (by rfl) rfl rfl (by (try simp only [List.map_toArray, List.map_cons, List.map_nil]); first | done | rfl | (simp only [List.length_drop, List.length_take]; rfl)) ?_
      with_reducible refine (relievoref02_Add.calls a0_0 a0_1 a0_2 t469 t470 t471 t472 t473 t474 _ A23.out).mono ?_
      rintro e w48 ⟨rfl, hb⟩
      refine ⟨_, rfl, ?_⟩
      have n0_ := Aside0.mk (Kd.R_below (by (with_reducible repeat (first | apply Kd.R_alloc | apply Kd.R_drewN | apply Kd.R_drew)); exact HO_29.out) hb)
      have n1_ := Aside0.mk (blk_below (g := gb449) (o := .cells #[.int .i64 a0_0, .int .i64 a0_1, .int .i64 a0_2, .int .i64 a0_3, .int .i64 a0_4, .int .i64 a0_5, .int .i64 a0_6, .int .i64 a0_7, .int .i64 a0_8] 25 (0, 0)) (by (with_reducible repeat (first | refine blk_drewN ?_ _ | refine blk_drew ?_ | refine blk_alloc ?_ _)); exact BK449.out) hb)
      have n2_ := Aside0.mk (blk_below (g := gb458) (o := .cells #[.int .i64 t455, .int .i64 t456, .int .i64 t457] 23 (0, 0)) (by (with_reducible repeat (first | refine blk_drewN ?_ _ | refine blk_drew ?_ | refine blk_alloc ?_ _)); exact BK458.out) hb)
      have n3_ := Aside0.mk (blk_below (g := gb462) (o := .cells #[.int .i64 t459, .int .i64 t460, .int .i64 t461] 23 (0, 0)) (by (with_reducible repeat (first | refine blk_drewN ?_ _ | refine blk_drew ?_ | refine blk_alloc ?_ _)); exact BK462.out) hb)
      have n4_ := Aside0.mk (blk_below (g := gb475) (o := .cells #[.int .i64 0, .int .i64 0, .int .i64 0] 23 (0, 0)) (by (with_reducible repeat (first | refine blk_drewN ?_ _ | refine blk_drew ?_ | refine blk_alloc ?_ _)); exact BK475.out) hb)
      have n5_ := Aside0.mk (below_step (by repeat (first | (with_reducible first | exact HB.out | apply below_alloc | apply pw_below_drewN | apply below_drew1 | refine below_set ?_ GE449.out | refine below_set ?_ GE458.out | refine below_set ?_ GE462.out | refine below_set ?_ GE475.out) | exact HB.out)) hb)
      clear HO_29
      clear BK449
      clear BK458
      clear BK462
      clear BK475
      clear HB
      have HO_29 := n0_
      have BK449 := n1_
      have BK458 := n2_
      have BK462 := n3_
      have BK475 := n4_
      have HB := n5_
      clear n0_ n1_ n2_ n3_ n4_ n5_
      (try clear hb)
      (try clear hb2)
      (try clear hk)
      (try clear hi)
      refine hK.out _ _ ⟨(blk_cell BK449.out 0).trans rfl, (blk_cell BK449.out 1).trans rfl, (blk_cell BK449.out 2).trans rfl, (blk_cell BK449.out 3).trans rfl, (blk_cell BK449.out 4).trans rfl, (blk_cell BK449.out 5).trans rfl, (blk_cell BK449.out 6).trans rfl, (blk_cell BK449.out 7).trans rfl, (blk_cell BK449.out 8).trans rfl, (blk_cell BK458.out 0).trans rfl, (blk_cell BK458.out 1).trans rfl, (blk_cell BK458.out 2).trans rfl, (blk_cell BK462.out 0).trans rfl, (blk_cell BK462.out 1).trans rfl, (blk_cell BK462.out 2).trans rfl⟩ (fun hHeld => ?_)
      clear hK K
      refine norm_ (a' := ?_) ?_ ?_
      rotate_left
      ·show Act.put _ (some 61) _ = _
       simp only [Act.put, List.setIfInBounds_toArray, List.set_cons_zero, List.set_cons_succ, i64_w, i32_w]
       rfl
      exact norm_ (by simp only [putAll, Act.put, List.setIfInBounds_toArray, List.set_cons_zero, List.set_cons_succ] <;> rfl) (hJ4_7_8_9_10 (gb475) _ ⟨hHeld, (by (with_reducible repeat (first | apply Kd.R_alloc | apply Kd.R_drewN | apply Kd.R_drew)); exact HO_29.out), (by (with_reducible repeat (first | refine blk_drewN ?_ _ | refine blk_drew ?_ | refine blk_alloc ?_ _)); exact BK449.out), (by (with_reducible repeat (first | refine blk_drewN ?_ _ | refine blk_drew ?_ | refine blk_alloc ?_ _)); exact BK458.out), (by (with_reducible repeat (first | refine blk_drewN ?_ _ | refine blk_drew ?_ | refine blk_alloc ?_ _)); exact BK462.out), (by (with_reducible repeat (first | refine blk_drewN ?_ _ | refine blk_drew ?_ | refine blk_alloc ?_ _)); exact BK475.out), GW475.out, GE475.out, NB449_475.out, NB475_449.out, NB458_475.out, NB475_458.out, NB462_475.out, NB475_462.out, (by repeat (first | (with_reducible first | exact HB.out | apply below_alloc | apply pw_below_drewN | apply below_drew1 | refine below_set ?_ GE449.out | refine below_set ?_ GE458.out | refine below_set ?_ GE462.out | refine below_set ?_ GE475.out) | exact HB.out))⟩)
     skip
     rintro _ w47 ⟨hS_, h0_, h1_, h2_, h3_, h4_⟩
     have n0_ : Aside0 (Kd.R (Kd.int .i64) 3 w47 w.heap.size (fun _ => True) (.slice Ao12 y451.length co12) y451) := ⟨h0_⟩
     have n1_ : Aside0 (w47.heap[gb449]? = some (.cells #[.int .i64 a0_0, .int .i64 a0_1, .int .i64 a0_2, .int .i64 a0_3, .int .i64 a0_4, .int .i64 a0_5, .int .i64 a0_6, .int .i64 a0_7, .int .i64 a0_8] 25 (0, 0))) := ⟨h1_⟩
     have n2_ : Aside0 (w47.heap[gb458]? = some (.cells #[.int .i64 t455, .int .i64 t456, .int .i64 t457] 23 (0, 0))) := ⟨h2_⟩
     have n3_ : Aside0 (w47.heap[gb462]? = some (.cells #[.int .i64 t459, .int .i64 t460, .int .i64 t461] 23 (0, 0))) := ⟨h3_⟩
     have n4_ : Aside0 (Below w.heap.size w w47) := ⟨h4_⟩
     clear HO_29
     clear BK449
     clear BK458
     clear BK462
     clear HB
     clear h0_ h1_ h2_ h3_ h4_
     have HO_29 := n0_
     have BK449 := n1_
     have BK458 := n2_
     have BK462 := n3_
     have HB := n4_
     clear n0_ n1_ n2_ n3_ n4_
     have hHeld : w47.cell? ⟨gb449, 0, none⟩ = some (.int .i64 a0_0) ∧ w47.cell? ⟨gb449, 1, none⟩ = some (.int .i64 a0_1) ∧ w47.cell? ⟨gb449, 2, none⟩ = some (.int .i64 a0_2) ∧ w47.cell? ⟨gb449, 3, none⟩ = some (.int .i64 a0_3) ∧ w47.cell? ⟨gb449, 4, none⟩ = some (.int .i64 a0_4) ∧ w47.cell? ⟨gb449, 5, none⟩ = some (.int .i64 a0_5) ∧ w47.cell? ⟨gb449, 6, none⟩ = some (.int .i64 a0_6) ∧ w47.cell? ⟨gb449, 7, none⟩ = some (.int .i64 a0_7) ∧ w47.cell? ⟨gb449, 8, none⟩ = some (.int .i64 a0_8) ∧ w47.cell? ⟨gb458, 0, none⟩ = some (.int .i64 t455) ∧ w47.cell? ⟨gb458, 1, none⟩ = some (.int .i64 t456) ∧ w47.cell? ⟨gb458, 2, none⟩ = some (.int .i64 t457) ∧ w47.cell? ⟨gb462, 0, none⟩ = some (.int .i64 t459) ∧ w47.cell? ⟨gb462, 1, none⟩ = some (.int .i64 t460) ∧ w47.cell? ⟨gb462, 2, none⟩ = some (.int .i64 t461) := hS_
     refine norm_ (a' := ?_) ?_ ?_
     rotate_left
     ·simp only [putAll, Act.put, List.setIfInBounds_toArray, List.set_cons_zero, List.set_cons_succ]
      rfl
     refine one_ (i := 10) (N := some 15) #[true, true, true, true, true, true, true, true, true, true, true, false] rfl rfl (one_of HT_.out (by kernel_rfl)) (by decide) (fun K hK => ?_)
     refine box_step ?hg (N := 15) ?hd (cs := #[.int .i64 0, .int .i64 0, .int .i64 0]) (t := 23) ?hr ?_; (case hd => rfl); (case hg => rfl); (case hr => first | (go_simp; done) | (go_simp; rfl))
     intro gb475 hg w48 hbox hb
     have n0_ := Aside0.mk (Kd.R_below (by (with_reducible repeat (first | apply Kd.R_alloc | apply Kd.R_drewN | apply Kd.R_drew)); exact HO_29.out) hb)
     have n1_ := Aside0.mk (blk_below (g := gb449) (o := .cells #[.int .i64 a0_0, .int .i64 a0_1, .int .i64 a0_2, .int .i64 a0_3, .int .i64 a0_4, .int .i64 a0_5, .int .i64 a0_6, .int .i64 a0_7, .int .i64 a0_8] 25 (0, 0)) (by (with_reducible repeat (first | refine blk_drewN ?_ _ | refine blk_drew ?_ | refine blk_alloc ?_ _)); exact BK449.out) hb)
     have n2_ := Aside0.mk (blk_below (g := gb458) (o := .cells #[.int .i64 t455, .int .i64 t456, .int .i64 t457] 23 (0, 0)) (by (with_reducible repeat (first | refine blk_drewN ?_ _ | refine blk_drew ?_ | refine blk_alloc ?_ _)); exact BK458.out) hb)
     have n3_ := Aside0.mk (blk_below (g := gb462) (o := .cells #[.int .i64 t459, .int .i64 t460, .int .i64 t461] 23 (0, 0)) (by (with_reducible repeat (first | refine blk_drewN ?_ _ | refine blk_drew ?_ | refine blk_alloc ?_ _)); exact BK462.out) hb)
     have n4_ := Aside0.mk (below_step (by repeat (first | (with_reducible first | exact HB.out | apply below_alloc | apply pw_below_drewN | apply below_drew1 | refine below_set ?_ GE449.out | refine below_set ?_ GE458.out | refine below_set ?_ GE462.out) | exact HB.out)) hb)
     have n5_ := Aside0.mk (hbox)
     have n6_ := Aside0.mk ((by rw [hg]; exact (below_size (by repeat (first | (with_reducible first | exact HB.out | apply below_alloc | apply pw_below_drewN | apply below_drew1 | refine below_set ?_ GE449.out | refine below_set ?_ GE458.out | refine below_set ?_ GE462.out) | exact HB.out))) : w.heap.size ≤ gb475))
     have GE475 := Aside0.mk ((by rw [hg]; exact (below_size (by repeat (first | (with_reducible first | exact HB.out | apply below_alloc | apply pw_below_drewN | apply below_drew1 | refine below_set ?_ GE449.out | refine below_set ?_ GE458.out | refine below_set ?_ GE462.out) | exact HB.out))) : w.heap.size ≤ gb475))
     have NB449_475 := Aside0.mk ((by rw [hg]; exact Nat.ne_of_lt (blk_lt (g := gb449) (o := .cells #[.int .i64 a0_0, .int .i64 a0_1, .int .i64 a0_2, .int .i64 a0_3, .int .i64 a0_4, .int .i64 a0_5, .int .i64 a0_6, .int .i64 a0_7, .int .i64 a0_8] 25 (0, 0)) (by (with_reducible repeat (first | refine blk_drewN ?_ _ | refine blk_drew ?_ | refine blk_alloc ?_ _)); exact BK449.out)) : gb449 ≠ gb475))
     have NB475_449 := Aside0.mk ((by rw [hg]; exact Nat.ne_of_gt (blk_lt (g := gb449) (o := .cells #[.int .i64 a0_0, .int .i64 a0_1, .int .i64 a0_2, .int .i64 a0_3, .int .i64 a0_4, .int .i64 a0_5, .int .i64 a0_6, .int .i64 a0_7, .int .i64 a0_8] 25 (0, 0)) (by (with_reducible repeat (first | refine blk_drewN ?_ _ | refine blk_drew ?_ | refine blk_alloc ?_ _)); exact BK449.out)) : gb475 ≠ gb449))
     have NB458_475 := Aside0.mk ((by rw [hg]; exact Nat.ne_of_lt (blk_lt (g := gb458) (o := .cells #[.int .i64 t455, .int .i64 t456, .int .i64 t457] 23 (0, 0)) (by (with_reducible repeat (first | refine blk_drewN ?_ _ | refine blk_drew ?_ | refine blk_alloc ?_ _)); exact BK458.out)) : gb458 ≠ gb475))
     have NB475_458 := Aside0.mk ((by rw [hg]; exact Nat.ne_of_gt (blk_lt (g := gb458) (o := .cells #[.int .i64 t455, .int .i64 t456, .int .i64 t457] 23 (0, 0)) (by (with_reducible repeat (first | refine blk_drewN ?_ _ | refine blk_drew ?_ | refine blk_alloc ?_ _)); exact BK458.out)) : gb475 ≠ gb458))
     have NB462_475 := Aside0.mk ((by rw [hg]; exact Nat.ne_of_lt (blk_lt (g := gb462) (o := .cells #[.int .i64 t459, .int .i64 t460, .int .i64 t461] 23 (0, 0)) (by (with_reducible repeat (first | refine blk_drewN ?_ _ | refine blk_drew ?_ | refine blk_alloc ?_ _)); exact BK462.out)) : gb462 ≠ gb475))
     have NB475_462 := Aside0.mk ((by rw [hg]; exact Nat.ne_of_gt (blk_lt (g := gb462) (o := .cells #[.int .i64 t459, .int .i64 t460, .int .i64 t461] 23 (0, 0)) (by (with_reducible repeat (first | refine blk_drewN ?_ _ | refine blk_drew ?_ | refine blk_alloc ?_ _)); exact BK462.out)) : gb475 ≠ gb462))
     clear HO_29
     clear BK449
     clear BK458
     clear BK462
     clear HB
     have HO_29 := n0_
     have BK449 := n1_
     have BK458 := n2_
     have BK462 := n3_
     have HB := n4_
     have BK475 := n5_
     have GW475 := n6_
     clear n0_ n1_ n2_ n3_ n4_ n5_ n6_
     clear hb hbox hg
     refine hK.out _ _ ⟨(blk_cell BK449.out 0).trans rfl, (blk_cell BK449.out 1).trans rfl, (blk_cell BK449.out 2).trans rfl, (blk_cell BK449.out 3).trans rfl, (blk_cell BK449.out 4).trans rfl, (blk_cell BK449.out 5).trans rfl, (blk_cell BK449.out 6).trans rfl, (blk_cell BK449.out 7).trans rfl, (blk_cell BK449.out 8).trans rfl, (blk_cell BK458.out 0).trans rfl, (blk_cell BK458.out 1).trans rfl, (blk_cell BK458.out 2).trans rfl, (blk_cell BK462.out 0).trans rfl, (blk_cell BK462.out 1).trans rfl, (blk_cell BK462.out 2).trans rfl⟩ (fun hHeld => ?_)
     clear hK K
     refine norm_ (a' := ?_) ?_ ?_
     rotate_left
     ·show Act.put _ (some 15) _ = _
      simp only [Act.put, List.setIfInBounds_toArray, List.set_cons_zero, List.set_cons_succ, i64_w, i32_w]
      rfl
     exact norm_ (by simp only [putAll, Act.put, List.setIfInBounds_toArray, List.set_cons_zero, List.set_cons_succ] <;> rfl) (hJ4_7_8_9_10 (gb475) _ ⟨hHeld, (by (with_reducible repeat (first | apply Kd.R_alloc | apply Kd.R_drewN | apply Kd.R_drew)); exact HO_29.out), (by (with_reducible repeat (first | refine blk_drewN ?_ _ | refine blk_drew ?_ | refine blk_alloc ?_ _)); exact BK449.out), (by (with_reducible repeat (first | refine blk_drewN ?_ _ | refine blk_drew ?_ | refine blk_alloc ?_ _)); exact BK458.out), (by (with_reducible repeat (first | refine blk_drewN ?_ _ | refine blk_drew ?_ | refine blk_alloc ?_ _)); exact BK462.out), (by (with_reducible repeat (first | refine blk_drewN ?_ _ | refine blk_drew ?_ | refine blk_alloc ?_ _)); exact BK475.out), GW475.out, GE475.out, NB449_475.out, NB475_449.out, NB458_475.out, NB475_458.out, NB462_475.out, NB475_462.out, (by repeat (first | (with_reducible first | exact HB.out | apply below_alloc | apply pw_below_drewN | apply below_drew1 | refine below_set ?_ GE449.out | refine below_set ?_ GE458.out | refine below_set ?_ GE462.out | refine below_set ?_ GE475.out) | exact HB.out))⟩)
    rintro gb475 w48 ⟨hS_, h0_, h1_, h2_, h3_, h4_, h5_, h6_, h7_, h8_, h9_, h10_, h11_, h12_, h13_⟩
    have n0_ : Aside0 (Kd.R (Kd.int .i64) 3 w48 w.heap.size (fun _ => True) (.slice Ao12 y451.length co12) y451) := ⟨h0_⟩
    have n1_ : Aside0 (w48.heap[gb449]? = some (.cells #[.int .i64 a0_0, .int .i64 a0_1, .int .i64 a0_2, .int .i64 a0_3, .int .i64 a0_4, .int .i64 a0_5, .int .i64 a0_6, .int .i64 a0_7, .int .i64 a0_8] 25 (0, 0))) := ⟨h1_⟩
    have n2_ : Aside0 (w48.heap[gb458]? = some (.cells #[.int .i64 t455, .int .i64 t456, .int .i64 t457] 23 (0, 0))) := ⟨h2_⟩
    have n3_ : Aside0 (w48.heap[gb462]? = some (.cells #[.int .i64 t459, .int .i64 t460, .int .i64 t461] 23 (0, 0))) := ⟨h3_⟩
    have n4_ : Aside0 (w48.heap[gb475]? = some (.cells #[.int .i64 0, .int .i64 0, .int .i64 0] 23 (0, 0))) := ⟨h4_⟩
    have n5_ : Aside0 (w.heap.size ≤ gb475) := ⟨h5_⟩
    have GE475 : Aside0 (w.heap.size ≤ gb475) := ⟨h6_⟩
    have NB449_475 : Aside0 (gb449 ≠ gb475) := ⟨h7_⟩
    have NB475_449 : Aside0 (gb475 ≠ gb449) := ⟨h8_⟩
    have NB458_475 : Aside0 (gb458 ≠ gb475) := ⟨h9_⟩
    have NB475_458 : Aside0 (gb475 ≠ gb458) := ⟨h10_⟩
    have NB462_475 : Aside0 (gb462 ≠ gb475) := ⟨h11_⟩
    have NB475_462 : Aside0 (gb475 ≠ gb462) := ⟨h12_⟩
    have n13_ : Aside0 (Below w.heap.size w w48) := ⟨h13_⟩
    clear HO_29
    clear BK449
    clear BK458
    clear BK462
    clear HB
    clear h0_ h1_ h2_ h3_ h4_ h5_ h6_ h7_ h8_ h9_ h10_ h11_ h12_ h13_
    have HO_29 := n0_
    have BK449 := n1_
    have BK458 := n2_
    have BK462 := n3_
    have BK475 := n4_
    have GW475 := n5_
    have HB := n13_
    clear n0_ n1_ n2_ n3_ n4_ n5_ n13_
    have hHeld : w48.cell? ⟨gb449, 0, none⟩ = some (.int .i64 a0_0) ∧ w48.cell? ⟨gb449, 1, none⟩ = some (.int .i64 a0_1) ∧ w48.cell? ⟨gb449, 2, none⟩ = some (.int .i64 a0_2) ∧ w48.cell? ⟨gb449, 3, none⟩ = some (.int .i64 a0_3) ∧ w48.cell? ⟨gb449, 4, none⟩ = some (.int .i64 a0_4) ∧ w48.cell? ⟨gb449, 5, none⟩ = some (.int .i64 a0_5) ∧ w48.cell? ⟨gb449, 6, none⟩ = some (.int .i64 a0_6) ∧ w48.cell? ⟨gb449, 7, none⟩ = some (.int .i64 a0_7) ∧ w48.cell? ⟨gb449, 8, none⟩ = some (.int .i64 a0_8) ∧ w48.cell? ⟨gb458, 0, none⟩ = some (.int .i64 t455) ∧ w48.cell? ⟨gb458, 1, none⟩ = some (.int .i64 t456) ∧ w48.cell? ⟨gb458, 2, none⟩ = some (.int .i64 t457) ∧ w48.cell? ⟨gb462, 0, none⟩ = some (.int .i64 t459) ∧ w48.cell? ⟨gb462, 1, none⟩ = some (.int .i64 t460) ∧ w48.cell? ⟨gb462, 2, none⟩ = some (.int .i64 t461) := hS_
    refine norm_ (a' := ?_) ?_ ?_
    rotate_left
    ·simp only [putAll, Act.put, List.setIfInBounds_toArray, List.set_cons_zero, List.set_cons_succ]
     rfl
    refine one_ (i := 11) (N := none) #[true, true, true, true, true, true, true, true, true, true, true, true] rfl rfl (one_of HT_.out (by kernel_rfl)) (by decide) (fun K hK => ?_)
    have hs49 : w48.cell? ⟨gb475, 0, none⟩ = some (.int .i64 0) := (blk_cell BK475.out 0).trans rfl
    have hfs49 := blk_frozen BK475.out 0
    have hns49_0 := NB449_475.out
    have hns49_1 := NB458_475.out
    have hns49_2 := NB462_475.out
    have hms49_0 := NB475_449.out
    have hms49_1 := NB475_458.out
    have hms49_2 := NB475_462.out
    have hs50 : w48.cell? ⟨gb475, 1, none⟩ = some (.int .i64 0) := (blk_cell BK475.out 1).trans rfl
    have hfs50 := blk_frozen BK475.out 1
    have hns50_0 := NB449_475.out
    have hns50_1 := NB458_475.out
    have hns50_2 := NB462_475.out
    have hms50_0 := NB475_449.out
    have hms50_1 := NB475_458.out
    have hms50_2 := NB475_462.out
    have hs51 : w48.cell? ⟨gb475, 2, none⟩ = some (.int .i64 0) := (blk_cell BK475.out 2).trans rfl
    have hfs51 := blk_frozen BK475.out 2
    have hns51_0 := NB449_475.out
    have hns51_1 := NB458_475.out
    have hns51_2 := NB462_475.out
    have hms51_0 := NB475_449.out
    have hms51_1 := NB475_458.out
    have hms51_2 := NB475_462.out
    refine skip_ (w1 := ?_) (by rfl) rfl ?_ ?_
    rotate_left
    ·go_simp
     rfl
    refine hK.out _ _ ⟨((cell_far (p := ⟨gb475, _, none⟩) NB449_475.out _).trans (((cell_far (p := ⟨gb475, _, none⟩) NB449_475.out _).trans (((cell_far (p := ⟨gb475, _, none⟩) NB449_475.out _).trans (hHeld.1)))))), ((cell_far (p := ⟨gb475, _, none⟩) NB449_475.out _).trans (((cell_far (p := ⟨gb475, _, none⟩) NB449_475.out _).trans (((cell_far (p := ⟨gb475, _, none⟩) NB449_475.out _).trans (hHeld.2.1)))))), ((cell_far (p := ⟨gb475, _, none⟩) NB449_475.out _).trans (((cell_far (p := ⟨gb475, _, none⟩) NB449_475.out _).trans (((cell_far (p := ⟨gb475, _, none⟩) NB449_475.out _).trans (hHeld.2.2.1)))))), ((cell_far (p := ⟨gb475, _, none⟩) NB449_475.out _).trans (((cell_far (p := ⟨gb475, _, none⟩) NB449_475.out _).trans (((cell_far (p := ⟨gb475, _, none⟩) NB449_475.out _).trans (hHeld.2.2.2.1)))))), ((cell_far (p := ⟨gb475, _, none⟩) NB449_475.out _).trans (((cell_far (p := ⟨gb475, _, none⟩) NB449_475.out _).trans (((cell_far (p := ⟨gb475, _, none⟩) NB449_475.out _).trans (hHeld.2.2.2.2.1)))))), ((cell_far (p := ⟨gb475, _, none⟩) NB449_475.out _).trans (((cell_far (p := ⟨gb475, _, none⟩) NB449_475.out _).trans (((cell_far (p := ⟨gb475, _, none⟩) NB449_475.out _).trans (hHeld.2.2.2.2.2.1)))))), ((cell_far (p := ⟨gb475, _, none⟩) NB449_475.out _).trans (((cell_far (p := ⟨gb475, _, none⟩) NB449_475.out _).trans (((cell_far (p := ⟨gb475, _, none⟩) NB449_475.out _).trans (hHeld.2.2.2.2.2.2.1)))))), ((cell_far (p := ⟨gb475, _, none⟩) NB449_475.out _).trans (((cell_far (p := ⟨gb475, _, none⟩) NB449_475.out _).trans (((cell_far (p := ⟨gb475, _, none⟩) NB449_475.out _).trans (hHeld.2.2.2.2.2.2.2.1)))))), ((cell_far (p := ⟨gb475, _, none⟩) NB449_475.out _).trans (((cell_far (p := ⟨gb475, _, none⟩) NB449_475.out _).trans (((cell_far (p := ⟨gb475, _, none⟩) NB449_475.out _).trans (hHeld.2.2.2.2.2.2.2.2.1)))))), ((cell_far (p := ⟨gb475, _, none⟩) NB458_475.out _).trans (((cell_far (p := ⟨gb475, _, none⟩) NB458_475.out _).trans (((cell_far (p := ⟨gb475, _, none⟩) NB458_475.out _).trans (hHeld.2.2.2.2.2.2.2.2.2.1)))))), ((cell_far (p := ⟨gb475, _, none⟩) NB458_475.out _).trans (((cell_far (p := ⟨gb475, _, none⟩) NB458_475.out _).trans (((cell_far (p := ⟨gb475, _, none⟩) NB458_475.out _).trans (hHeld.2.2.2.2.2.2.2.2.2.2.1)))))), ((cell_far (p := ⟨gb475, _, none⟩) NB458_475.out _).trans (((cell_far (p := ⟨gb475, _, none⟩) NB458_475.out _).trans (((cell_far (p := ⟨gb475, _, none⟩) NB458_475.out _).trans (hHeld.2.2.2.2.2.2.2.2.2.2.2.1)))))), ((cell_far (p := ⟨gb475, _, none⟩) NB462_475.out _).trans (((cell_far (p := ⟨gb475, _, none⟩) NB462_475.out _).trans (((cell_far (p := ⟨gb475, _, none⟩) NB462_475.out _).trans (hHeld.2.2.2.2.2.2.2.2.2.2.2.2.1)))))), ((cell_far (p := ⟨gb475, _, none⟩) NB462_475.out _).trans (((cell_far (p := ⟨gb475, _, none⟩) NB462_475.out _).trans (((cell_far (p := ⟨gb475, _, none⟩) NB462_475.out _).trans (hHeld.2.2.2.2.2.2.2.2.2.2.2.2.2.1)))))), ((cell_far (p := ⟨gb475, _, none⟩) NB462_475.out _).trans (((cell_far (p := ⟨gb475, _, none⟩) NB462_475.out _).trans (((cell_far (p := ⟨gb475, _, none⟩) NB462_475.out _).trans (hHeld.2.2.2.2.2.2.2.2.2.2.2.2.2.2))))))⟩ (fun hHeld => ?_)
    clear hK K
    refine done_ (done_of HT_.out (by kernel_rfl)) ?_
    try go_wp2
    have n0_ : Aside0 (Kd.R (Kd.int .i64) 3 (((w48.setCell ⟨gb475, 0, none⟩ (.int .i64 t472)).setCell ⟨gb475, 1, none⟩ (.int .i64 t473)).setCell ⟨gb475, 2, none⟩ (.int .i64 t474)) w.heap.size (fun _ => True) (.slice Ao12 y451.length co12) y451) := ⟨by (with_reducible repeat (first | apply Kd.R_alloc | apply Kd.R_drewN | apply Kd.R_drew)); exact Kd.R_mono (Kd.R_far (p := ⟨gb475, 2, none⟩) (Kd.R_far (p := ⟨gb475, 1, none⟩) (Kd.R_far (p := ⟨gb475, 0, none⟩) (Kd.R_types HO_29.out BK475.out (by decide)) (fun _ hk => hk.2) (.int .i64 t472)) (fun _ hk => hk.2) (.int .i64 t473)) (fun _ hk => hk.2) (.int .i64 t474)) (fun _ hk => trivial)⟩
    have n1_ : Aside0 ((((w48.setCell ⟨gb475, 0, none⟩ (.int .i64 t472)).setCell ⟨gb475, 1, none⟩ (.int .i64 t473)).setCell ⟨gb475, 2, none⟩ (.int .i64 t474)).heap[gb449]? = some (.cells #[.int .i64 a0_0, .int .i64 a0_1, .int .i64 a0_2, .int .i64 a0_3, .int .i64 a0_4, .int .i64 a0_5, .int .i64 a0_6, .int .i64 a0_7, .int .i64 a0_8] 25 (0, 0))) := ⟨by (with_reducible repeat (first | refine blk_drewN ?_ _ | refine blk_drew ?_ | refine blk_alloc ?_ _)); refine blk_far ?_ NB449_475.out _; (with_reducible repeat (first | refine blk_drewN ?_ _ | refine blk_drew ?_ | refine blk_alloc ?_ _)); refine blk_far ?_ NB449_475.out _; (with_reducible repeat (first | refine blk_drewN ?_ _ | refine blk_drew ?_ | refine blk_alloc ?_ _)); refine blk_far ?_ NB449_475.out _; (with_reducible repeat (first | refine blk_drewN ?_ _ | refine blk_drew ?_ | refine blk_alloc ?_ _)); exact BK449.out⟩
    have n2_ : Aside0 ((((w48.setCell ⟨gb475, 0, none⟩ (.int .i64 t472)).setCell ⟨gb475, 1, none⟩ (.int .i64 t473)).setCell ⟨gb475, 2, none⟩ (.int .i64 t474)).heap[gb458]? = some (.cells #[.int .i64 t455, .int .i64 t456, .int .i64 t457] 23 (0, 0))) := ⟨by (with_reducible repeat (first | refine blk_drewN ?_ _ | refine blk_drew ?_ | refine blk_alloc ?_ _)); refine blk_far ?_ NB458_475.out _; (with_reducible repeat (first | refine blk_drewN ?_ _ | refine blk_drew ?_ | refine blk_alloc ?_ _)); refine blk_far ?_ NB458_475.out _; (with_reducible repeat (first | refine blk_drewN ?_ _ | refine blk_drew ?_ | refine blk_alloc ?_ _)); refine blk_far ?_ NB458_475.out _; (with_reducible repeat (first | refine blk_drewN ?_ _ | refine blk_drew ?_ | refine blk_alloc ?_ _)); exact BK458.out⟩
    have n3_ : Aside0 ((((w48.setCell ⟨gb475, 0, none⟩ (.int .i64 t472)).setCell ⟨gb475, 1, none⟩ (.int .i64 t473)).setCell ⟨gb475, 2, none⟩ (.int .i64 t474)).heap[gb462]? = some (.cells #[.int .i64 t459, .int .i64 t460, .int .i64 t461] 23 (0, 0))) := ⟨by (with_reducible repeat (first | refine blk_drewN ?_ _ | refine blk_drew ?_ | refine blk_alloc ?_ _)); refine blk_far ?_ NB462_475.out _; (with_reducible repeat (first | refine blk_drewN ?_ _ | refine blk_drew ?_ | refine blk_alloc ?_ _)); refine blk_far ?_ NB462_475.out _; (with_reducible repeat (first | refine blk_drewN ?_ _ | refine blk_drew ?_ | refine blk_alloc ?_ _)); refine blk_far ?_ NB462_475.out _; (with_reducible repeat (first | refine blk_drewN ?_ _ | refine blk_drew ?_ | refine blk_alloc ?_ _)); exact BK462.out⟩
    have n4_ : Aside0 ((((w48.setCell ⟨gb475, 0, none⟩ (.int .i64 t472)).setCell ⟨gb475, 1, none⟩ (.int .i64 t473)).setCell ⟨gb475, 2, none⟩ (.int .i64 t474)).heap[gb475]? = some (.cells #[.int .i64 t472, .int .i64 t473, .int .i64 t474] 23 (0, 0))) := ⟨by (with_reducible repeat (first | refine blk_drewN ?_ _ | refine blk_drew ?_ | refine blk_alloc ?_ _)); refine blk_put (cs := #[.int .i64 t472, .int .i64 t473, .int .i64 0]) ?_ 2 _ rfl; (with_reducible repeat (first | refine blk_drewN ?_ _ | refine blk_drew ?_ | refine blk_alloc ?_ _)); refine blk_put (cs := #[.int .i64 t472, .int .i64 0, .int .i64 0]) ?_ 1 _ rfl; (with_reducible repeat (first | refine blk_drewN ?_ _ | refine blk_drew ?_ | refine blk_alloc ?_ _)); refine blk_put (cs := #[.int .i64 0, .int .i64 0, .int .i64 0]) ?_ 0 _ rfl; (with_reducible repeat (first | refine blk_drewN ?_ _ | refine blk_drew ?_ | refine blk_alloc ?_ _)); exact BK475.out⟩
    have n5_ : Aside0 (Below w.heap.size w (((w48.setCell ⟨gb475, 0, none⟩ (.int .i64 t472)).setCell ⟨gb475, 1, none⟩ (.int .i64 t473)).setCell ⟨gb475, 2, none⟩ (.int .i64 t474))) := ⟨by repeat (first | (with_reducible first | exact HB.out | apply below_alloc | apply pw_below_drewN | apply below_drew1 | refine below_set ?_ GE449.out | refine below_set ?_ GE458.out | refine below_set ?_ GE462.out | refine below_set ?_ GE475.out) | exact HB.out)⟩
    (try clear HO_29)
    (try clear BK449)
    (try clear BK458)
    (try clear BK462)
    (try clear BK475)
    (try clear HB)
    generalize (((w48.setCell ⟨gb475, 0, none⟩ (.int .i64 t472)).setCell ⟨gb475, 1, none⟩ (.int .i64 t473)).setCell ⟨gb475, 2, none⟩ (.int .i64 t474)) = w52 at n0_ n1_ n2_ n3_ n4_ n5_ ⊢
    have HO_29 := n0_
    have BK449 := n1_
    have BK458 := n2_
    have BK462 := n3_
    have BK475 := n4_
    have HB := n5_
    clear n0_ n1_ n2_ n3_ n4_ n5_
    have n0_ := Aside0.mk (Kd.R_drew HO_29.out)
    have n1_ := Aside0.mk (blk_drew BK449.out)
    have n2_ := Aside0.mk (blk_drew BK458.out)
    have n3_ := Aside0.mk (blk_drew BK462.out)
    have n4_ := Aside0.mk (blk_drew BK475.out)
    have n5_ := Aside0.mk (below_drew1 HB.out)
    clear HO_29
    clear BK449
    clear BK458
    clear BK462
    clear BK475
    clear HB
    have HO_29 := n0_
    have BK449 := n1_
    have BK458 := n2_
    have BK462 := n3_
    have BK475 := n4_
    have HB := n5_
    clear n0_ n1_ n2_ n3_ n4_ n5_
    refine start_ (n := 9) (S := fun w' => w'.cell? ⟨gb458, 0, none⟩ = some (.int .i64 t455) ∧ w'.cell? ⟨gb458, 1, none⟩ = some (.int .i64 t456) ∧ w'.cell? ⟨gb458, 2, none⟩ = some (.int .i64 t457) ∧ w'.cell? ⟨gb462, 0, none⟩ = some (.int .i64 t459) ∧ w'.cell? ⟨gb462, 1, none⟩ = some (.int .i64 t460) ∧ w'.cell? ⟨gb462, 2, none⟩ = some (.int .i64 t461)) (ds := []) #[false, false, false, false, false, false, false, false, false] (by kernel_rfl) rfl rfl ⟨(blk_cell BK458.out 0).trans rfl, (blk_cell BK458.out 1).trans rfl, (blk_cell BK458.out 2).trans rfl, (blk_cell BK462.out 0).trans rfl, (blk_cell BK462.out 1).trans rfl, (blk_cell BK462.out 2).trans rfl⟩ (fun hHeld => ?_); refine with_tabW relievolaw03_SideFlat.tab12 relievolaw03_SideFlat.bits12 (fun HT_ HW_ => ?_)
    generalize w52.drew = w53 at HO_29 BK449 BK458 BK462 BK475 HB hHeld ⊢
    refine pure_ (i := 1) (N := some 63) (v := ?_) (a' := ?_) #[false, true, false, false, false, false, false, false, false] rfl rfl (any_of HT_.out (by kernel_rfl)) (fun _ _ _ h => h) (Or.inl ⟨by rfl, ?_⟩) ?_ ?_
    rotate_left
    ·intro w'
     go_simp
     with_reducible rfl
    rotate_left
    ·simp only [Act.put, List.setIfInBounds_toArray, List.set_cons_zero, List.set_cons_succ, i64_w, i32_w]
     rfl
    refine pure_ (i := 4) (N := some 66) (v := ?_) (a' := ?_) #[false, true, false, false, true, false, false, false, false] rfl rfl (any_of HT_.out (by kernel_rfl)) (fun _ _ _ h => h) (Or.inl ⟨by rfl, ?_⟩) ?_ ?_
    rotate_left
    ·intro w'
     go_simp
     with_reducible rfl
    rotate_left
    ·simp only [Act.put, List.setIfInBounds_toArray, List.set_cons_zero, List.set_cons_succ, i64_w, i32_w]
     rfl
    refine take_ (i := 0) (N := some 62) (v := ?_) (a' := ?_) #[true, true, false, false, true, false, false, false, false] rfl rfl (take_ofW HT_.out HW_.out (by kernel_rfl)) (fun _ _ _ h => h) (Or.inl ⟨by rfl, ?_⟩) hHeld ?_ ?_
    rotate_left
    ·rintro w' ⟨s0, s1, s2, s3, s4, s5⟩
     go_simp
     with_reducible rfl
    rotate_left
    ·simp only [Act.put, List.setIfInBounds_toArray, List.set_cons_zero, List.set_cons_succ, i64_w, i32_w]
     rfl
    refine take_ (i := 3) (N := some 65) (v := ?_) (a' := ?_) #[true, true, false, true, true, false, false, false, false] rfl rfl (take_ofW HT_.out HW_.out (by kernel_rfl)) (fun _ _ _ h => h) (Or.inl ⟨by rfl, ?_⟩) hHeld ?_ ?_
    rotate_left
    ·rintro w' ⟨s0, s1, s2, s3, s4, s5⟩
     go_simp
     with_reducible rfl
    rotate_left
    ·simp only [Act.put, List.setIfInBounds_toArray, List.set_cons_zero, List.set_cons_succ, i64_w, i32_w]
     rfl
    refine join_ (σ := Nat) 1 #[true, true, true, true, true, true, true, true, false] (fun s_ => [(64, .agg #[.int .i64 t476, .int .i64 t477, .int .i64 t478]), (67, .agg #[.int .i64 t479, .int .i64 t480, .int .i64 t481]), (68, .agg #[.int .i64 t482, .int .i64 t483, .int .i64 t484]), (16, .pointer (some ⟨s_, 0, none⟩))]) (fun s_ w' => (w'.cell? ⟨gb458, 0, none⟩ = some (.int .i64 t455) ∧ w'.cell? ⟨gb458, 1, none⟩ = some (.int .i64 t456) ∧ w'.cell? ⟨gb458, 2, none⟩ = some (.int .i64 t457) ∧ w'.cell? ⟨gb462, 0, none⟩ = some (.int .i64 t459) ∧ w'.cell? ⟨gb462, 1, none⟩ = some (.int .i64 t460) ∧ w'.cell? ⟨gb462, 2, none⟩ = some (.int .i64 t461)) ∧ (Kd.R (Kd.int .i64) 3 w' w.heap.size (fun _ => True) (.slice Ao12 y451.length co12) y451) ∧ (w'.heap[gb449]? = some (.cells #[.int .i64 a0_0, .int .i64 a0_1, .int .i64 a0_2, .int .i64 a0_3, .int .i64 a0_4, .int .i64 a0_5, .int .i64 a0_6, .int .i64 a0_7, .int .i64 a0_8] 25 (0, 0))) ∧ (w'.heap[gb458]? = some (.cells #[.int .i64 t455, .int .i64 t456, .int .i64 t457] 23 (0, 0))) ∧ (w'.heap[gb462]? = some (.cells #[.int .i64 t459, .int .i64 t460, .int .i64 t461] 23 (0, 0))) ∧ (w'.heap[gb475]? = some (.cells #[.int .i64 t472, .int .i64 t473, .int .i64 t474] 23 (0, 0))) ∧ (w'.heap[s_]? = some (.cells #[.int .i64 0, .int .i64 0, .int .i64 0] 23 (0, 0))) ∧ (w.heap.size ≤ s_) ∧ (w.heap.size ≤ s_) ∧ (gb449 ≠ s_) ∧ (s_ ≠ gb449) ∧ (gb458 ≠ s_) ∧ (s_ ≠ gb458) ∧ (gb462 ≠ s_) ∧ (s_ ≠ gb462) ∧ (gb475 ≠ s_) ∧ (s_ ≠ gb475) ∧ (Below w.heap.size w w')) ?_ ?_
    rotate_left
    ·intro hCont
     refine two_ (i := 2) (j := 7) (Ni := some 64) (Nj := some 16) #[true, true, true, true, true, false, false, false, false] #[true, true, false, true, true, false, false, true, false] rfl rfl rfl rfl (two_of HT_.out (by kernel_rfl)) (by decide) (by decide) (fun K hK => ?_) (fun K hK => ?_)
     ·skip
      refine goes_ Try.func29 (by kernel_rfl) rfl #[.agg #[.int .i64 t455, .int .i64 t456, .int .i64 t457], .int .i64 a3] (by rfl) rfl rfl (by (try simp only [List.map_toArray, List.map_cons, List.map_nil]); first | done | rfl | (simp only [List.length_drop, List.length_take]; rfl)) ?_
      with_reducible refine (relievoref02_Scale.calls t455 t456 t457 a3 t476 t477 t478 _ A24.out).mono ?_
      rintro e w54 ⟨rfl, hb⟩
      refine ⟨_, rfl, ?_⟩
      have n0_ := Aside0.mk (Kd.R_below (by (with_reducible repeat (first | apply Kd.R_alloc | apply Kd.R_drewN | apply Kd.R_drew)); exact HO_29.out) hb)
      have n1_ := Aside0.mk (blk_below (g := gb449) (o := .cells #[.int .i64 a0_0, .int .i64 a0_1, .int .i64 a0_2, .int .i64 a0_3, .int .i64 a0_4, .int .i64 a0_5, .int .i64 a0_6, .int .i64 a0_7, .int .i64 a0_8] 25 (0, 0)) (by (with_reducible repeat (first | refine blk_drewN ?_ _ | refine blk_drew ?_ | refine blk_alloc ?_ _)); exact BK449.out) hb)
      have n2_ := Aside0.mk (blk_below (g := gb458) (o := .cells #[.int .i64 t455, .int .i64 t456, .int .i64 t457] 23 (0, 0)) (by (with_reducible repeat (first | refine blk_drewN ?_ _ | refine blk_drew ?_ | refine blk_alloc ?_ _)); exact BK458.out) hb)
      have n3_ := Aside0.mk (blk_below (g := gb462) (o := .cells #[.int .i64 t459, .int .i64 t460, .int .i64 t461] 23 (0, 0)) (by (with_reducible repeat (first | refine blk_drewN ?_ _ | refine blk_drew ?_ | refine blk_alloc ?_ _)); exact BK462.out) hb)
      have n4_ := Aside0.mk (blk_below (g := gb475) (o := .cells #[.int .i64 t472, .int .i64 t473, .int .i64 t474] 23 (0, 0)) (by (with_reducible repeat (first | refine blk_drewN ?_ _ | refine blk_drew ?_ | refine blk_alloc ?_ _)); exact BK475.out) hb)
      have n5_ := Aside0.mk (below_step (by repeat (first | (with_reducible first | exact HB.out | apply below_alloc | apply pw_below_drewN | apply below_drew1 | refine below_set ?_ GE449.out | refine below_set ?_ GE458.out | refine below_set ?_ GE462.out | refine below_set ?_ GE475.out) | exact HB.out)) hb)
      clear HO_29
      clear BK449
      clear BK458
      clear BK462
      clear BK475
      clear HB
      have HO_29 := n0_
      have BK449 := n1_
      have BK458 := n2_
      have BK462 := n3_
      have BK475 := n4_
      have HB := n5_
      clear n0_ n1_ n2_ n3_ n4_ n5_
      (try clear hb)
      (try clear hb2)
      (try clear hk)
      (try clear hi)
      refine hK.out _ _ ⟨(blk_cell BK458.out 0).trans rfl, (blk_cell BK458.out 1).trans rfl, (blk_cell BK458.out 2).trans rfl, (blk_cell BK462.out 0).trans rfl, (blk_cell BK462.out 1).trans rfl, (blk_cell BK462.out 2).trans rfl⟩ (fun hHeld => ?_)
      clear hK K
      refine norm_ (a' := ?_) ?_ ?_
      rotate_left
      ·show Act.put _ (some 64) _ = _
       simp only [Act.put, List.setIfInBounds_toArray, List.set_cons_zero, List.set_cons_succ, i64_w, i32_w]
       rfl
      refine two_ (i := 5) (j := 7) (Ni := some 67) (Nj := some 16) #[true, true, true, true, true, true, false, false, false] #[true, true, true, true, true, false, false, true, false] rfl rfl rfl rfl (two_of HT_.out (by kernel_rfl)) (by decide) (by decide) (fun K hK => ?_) (fun K hK => ?_)
      ·skip
       refine goes_ Try.func29 (by kernel_rfl) rfl #[.agg #[.int .i64 t459, .int .i64 t460, .int .i64 t461], .int .i64 a4] (by rfl) rfl rfl (by (try simp only [List.map_toArray, List.map_cons, List.map_nil]); first | done | rfl | (simp only [List.length_drop, List.length_take]; rfl)) ?_
       with_reducible refine (relievoref02_Scale.calls t459 t460 t461 a4 t479 t480 t481 _ A25.out).mono ?_
       rintro e w55 ⟨rfl, hb⟩
       refine ⟨_, rfl, ?_⟩
       have n0_ := Aside0.mk (Kd.R_below (by (with_reducible repeat (first | apply Kd.R_alloc | apply Kd.R_drewN | apply Kd.R_drew)); exact HO_29.out) hb)
       have n1_ := Aside0.mk (blk_below (g := gb449) (o := .cells #[.int .i64 a0_0, .int .i64 a0_1, .int .i64 a0_2, .int .i64 a0_3, .int .i64 a0_4, .int .i64 a0_5, .int .i64 a0_6, .int .i64 a0_7, .int .i64 a0_8] 25 (0, 0)) (by (with_reducible repeat (first | refine blk_drewN ?_ _ | refine blk_drew ?_ | refine blk_alloc ?_ _)); exact BK449.out) hb)
       have n2_ := Aside0.mk (blk_below (g := gb458) (o := .cells #[.int .i64 t455, .int .i64 t456, .int .i64 t457] 23 (0, 0)) (by (with_reducible repeat (first | refine blk_drewN ?_ _ | refine blk_drew ?_ | refine blk_alloc ?_ _)); exact BK458.out) hb)
       have n3_ := Aside0.mk (blk_below (g := gb462) (o := .cells #[.int .i64 t459, .int .i64 t460, .int .i64 t461] 23 (0, 0)) (by (with_reducible repeat (first | refine blk_drewN ?_ _ | refine blk_drew ?_ | refine blk_alloc ?_ _)); exact BK462.out) hb)
       have n4_ := Aside0.mk (blk_below (g := gb475) (o := .cells #[.int .i64 t472, .int .i64 t473, .int .i64 t474] 23 (0, 0)) (by (with_reducible repeat (first | refine blk_drewN ?_ _ | refine blk_drew ?_ | refine blk_alloc ?_ _)); exact BK475.out) hb)
       have n5_ := Aside0.mk (below_step (by repeat (first | (with_reducible first | exact HB.out | apply below_alloc | apply pw_below_drewN | apply below_drew1 | refine below_set ?_ GE449.out | refine below_set ?_ GE458.out | refine below_set ?_ GE462.out | refine below_set ?_ GE475.out) | exact HB.out)) hb)
       clear HO_29
       clear BK449
       clear BK458
       clear BK462
       clear BK475
       clear HB
       have HO_29 := n0_
       have BK449 := n1_
       have BK458 := n2_
       have BK462 := n3_
       have BK475 := n4_
       have HB := n5_
       clear n0_ n1_ n2_ n3_ n4_ n5_
       (try clear hb)
       (try clear hb2)
       (try clear hk)
       (try clear hi)
       refine hK.out _ _ ⟨(blk_cell BK458.out 0).trans rfl, (blk_cell BK458.out 1).trans rfl, (blk_cell BK458.out 2).trans rfl, (blk_cell BK462.out 0).trans rfl, (blk_cell BK462.out 1).trans rfl, (blk_cell BK462.out 2).trans rfl⟩ (fun hHeld => ?_)
       clear hK K
       refine norm_ (a' := ?_) ?_ ?_
       rotate_left
       ·show Act.put _ (some 67) _ = _
        simp only [Act.put, List.setIfInBounds_toArray, List.set_cons_zero, List.set_cons_succ, i64_w, i32_w]
        rfl
       refine two_ (i := 6) (j := 7) (Ni := some 68) (Nj := some 16) #[true, true, true, true, true, true, true, false, false] #[true, true, true, true, true, true, false, true, false] rfl rfl rfl rfl (two_of HT_.out (by kernel_rfl)) (by decide) (by decide) (fun K hK => ?_) (fun K hK => ?_)
       ·skip
        refine goes_ Try.func24 (by kernel_rfl) rfl #[.agg #[.int .i64 t476, .int .i64 t477, .int .i64 t478], .agg #[.int .i64 t479, .int .i64 t480, .int .i64 t481]] (by rfl) rfl rfl (by (try simp only [List.map_toArray, List.map_cons, List.map_nil]); first | done | rfl | (simp only [List.length_drop, List.length_take]; rfl)) ?_
        with_reducible refine (relievoref02_Add.calls t476 t477 t478 t479 t480 t481 t482 t483 t484 _ A26.out).mono ?_
        rintro e w56 ⟨rfl, hb⟩
        refine ⟨_, rfl, ?_⟩
        have n0_ := Aside0.mk (Kd.R_below (by (with_reducible repeat (first | apply Kd.R_alloc | apply Kd.R_drewN | apply Kd.R_drew)); exact HO_29.out) hb)
        have n1_ := Aside0.mk (blk_below (g := gb449) (o := .cells #[.int .i64 a0_0, .int .i64 a0_1, .int .i64 a0_2, .int .i64 a0_3, .int .i64 a0_4, .int .i64 a0_5, .int .i64 a0_6, .int .i64 a0_7, .int .i64 a0_8] 25 (0, 0)) (by (with_reducible repeat (first | refine blk_drewN ?_ _ | refine blk_drew ?_ | refine blk_alloc ?_ _)); exact BK449.out) hb)
        have n2_ := Aside0.mk (blk_below (g := gb458) (o := .cells #[.int .i64 t455, .int .i64 t456, .int .i64 t457] 23 (0, 0)) (by (with_reducible repeat (first | refine blk_drewN ?_ _ | refine blk_drew ?_ | refine blk_alloc ?_ _)); exact BK458.out) hb)
        have n3_ := Aside0.mk (blk_below (g := gb462) (o := .cells #[.int .i64 t459, .int .i64 t460, .int .i64 t461] 23 (0, 0)) (by (with_reducible repeat (first | refine blk_drewN ?_ _ | refine blk_drew ?_ | refine blk_alloc ?_ _)); exact BK462.out) hb)
        have n4_ := Aside0.mk (blk_below (g := gb475) (o := .cells #[.int .i64 t472, .int .i64 t473, .int .i64 t474] 23 (0, 0)) (by (with_reducible repeat (first | refine blk_drewN ?_ _ | refine blk_drew ?_ | refine blk_alloc ?_ _)); exact BK475.out) hb)
        have n5_ := Aside0.mk (below_step (by repeat (first | (with_reducible first | exact HB.out | apply below_alloc | apply pw_below_drewN | apply below_drew1 | refine below_set ?_ GE449.out | refine below_set ?_ GE458.out | refine below_set ?_ GE462.out | refine below_set ?_ GE475.out) | exact HB.out)) hb)
        clear HO_29
        clear BK449
        clear BK458
        clear BK462
        clear BK475
        clear HB
        have HO_29 := n0_
        have BK449 := n1_
        have BK458 := n2_
        have BK462 := n3_
        have BK475 := n4_
        have HB := n5_
        clear n0_ n1_ n2_ n3_ n4_ n5_
        (try clear hb)
        (try clear hb2)
        (try clear hk)
        (try clear hi)
        refine hK.out _ _ ⟨(blk_cell BK458.out 0).trans rfl, (blk_cell BK458.out 1).trans rfl, (blk_cell BK458.out 2).trans rfl, (blk_cell BK462.out 0).trans rfl, (blk_cell BK462.out 1).trans rfl, (blk_cell BK462.out 2).trans rfl⟩ (fun hHeld => ?_)
        clear hK K
        refine norm_ (a' := ?_) ?_ ?_
        rotate_left
        ·show Act.put _ (some 68) _ = _
         simp only [Act.put, List.setIfInBounds_toArray, List.set_cons_zero, List.set_cons_succ, i64_w, i32_w]
         rfl
        refine one_ (i := 7) (N := some 16) #[true, true, true, true, true, true, true, true, false] rfl rfl (one_of HT_.out (by kernel_rfl)) (by decide) (fun K hK => ?_)
        refine box_step ?hg (N := 16) ?hd (cs := #[.int .i64 0, .int .i64 0, .int .i64 0]) (t := 23) ?hr ?_; (case hd => rfl); (case hg => rfl); (case hr => first | (go_simp; done) | (go_simp; rfl))
        intro gb485 hg w57 hbox hb
        have n0_ := Aside0.mk (Kd.R_below (by (with_reducible repeat (first | apply Kd.R_alloc | apply Kd.R_drewN | apply Kd.R_drew)); exact HO_29.out) hb)
        have n1_ := Aside0.mk (blk_below (g := gb449) (o := .cells #[.int .i64 a0_0, .int .i64 a0_1, .int .i64 a0_2, .int .i64 a0_3, .int .i64 a0_4, .int .i64 a0_5, .int .i64 a0_6, .int .i64 a0_7, .int .i64 a0_8] 25 (0, 0)) (by (with_reducible repeat (first | refine blk_drewN ?_ _ | refine blk_drew ?_ | refine blk_alloc ?_ _)); exact BK449.out) hb)
        have n2_ := Aside0.mk (blk_below (g := gb458) (o := .cells #[.int .i64 t455, .int .i64 t456, .int .i64 t457] 23 (0, 0)) (by (with_reducible repeat (first | refine blk_drewN ?_ _ | refine blk_drew ?_ | refine blk_alloc ?_ _)); exact BK458.out) hb)
        have n3_ := Aside0.mk (blk_below (g := gb462) (o := .cells #[.int .i64 t459, .int .i64 t460, .int .i64 t461] 23 (0, 0)) (by (with_reducible repeat (first | refine blk_drewN ?_ _ | refine blk_drew ?_ | refine blk_alloc ?_ _)); exact BK462.out) hb)
        have n4_ := Aside0.mk (blk_below (g := gb475) (o := .cells #[.int .i64 t472, .int .i64 t473, .int .i64 t474] 23 (0, 0)) (by (with_reducible repeat (first | refine blk_drewN ?_ _ | refine blk_drew ?_ | refine blk_alloc ?_ _)); exact BK475.out) hb)
        have n5_ := Aside0.mk (below_step (by repeat (first | (with_reducible first | exact HB.out | apply below_alloc | apply pw_below_drewN | apply below_drew1 | refine below_set ?_ GE449.out | refine below_set ?_ GE458.out | refine below_set ?_ GE462.out | refine below_set ?_ GE475.out) | exact HB.out)) hb)
        have n6_ := Aside0.mk (hbox)
        have n7_ := Aside0.mk ((by rw [hg]; exact (below_size (by repeat (first | (with_reducible first | exact HB.out | apply below_alloc | apply pw_below_drewN | apply below_drew1 | refine below_set ?_ GE449.out | refine below_set ?_ GE458.out | refine below_set ?_ GE462.out | refine below_set ?_ GE475.out) | exact HB.out))) : w.heap.size ≤ gb485))
        have GE485 := Aside0.mk ((by rw [hg]; exact (below_size (by repeat (first | (with_reducible first | exact HB.out | apply below_alloc | apply pw_below_drewN | apply below_drew1 | refine below_set ?_ GE449.out | refine below_set ?_ GE458.out | refine below_set ?_ GE462.out | refine below_set ?_ GE475.out) | exact HB.out))) : w.heap.size ≤ gb485))
        have NB449_485 := Aside0.mk ((by rw [hg]; exact Nat.ne_of_lt (blk_lt (g := gb449) (o := .cells #[.int .i64 a0_0, .int .i64 a0_1, .int .i64 a0_2, .int .i64 a0_3, .int .i64 a0_4, .int .i64 a0_5, .int .i64 a0_6, .int .i64 a0_7, .int .i64 a0_8] 25 (0, 0)) (by (with_reducible repeat (first | refine blk_drewN ?_ _ | refine blk_drew ?_ | refine blk_alloc ?_ _)); exact BK449.out)) : gb449 ≠ gb485))
        have NB485_449 := Aside0.mk ((by rw [hg]; exact Nat.ne_of_gt (blk_lt (g := gb449) (o := .cells #[.int .i64 a0_0, .int .i64 a0_1, .int .i64 a0_2, .int .i64 a0_3, .int .i64 a0_4, .int .i64 a0_5, .int .i64 a0_6, .int .i64 a0_7, .int .i64 a0_8] 25 (0, 0)) (by (with_reducible repeat (first | refine blk_drewN ?_ _ | refine blk_drew ?_ | refine blk_alloc ?_ _)); exact BK449.out)) : gb485 ≠ gb449))
        have NB458_485 := Aside0.mk ((by rw [hg]; exact Nat.ne_of_lt (blk_lt (g := gb458) (o := .cells #[.int .i64 t455, .int .i64 t456, .int .i64 t457] 23 (0, 0)) (by (with_reducible repeat (first | refine blk_drewN ?_ _ | refine blk_drew ?_ | refine blk_alloc ?_ _)); exact BK458.out)) : gb458 ≠ gb485))
        have NB485_458 := Aside0.mk ((by rw [hg]; exact Nat.ne_of_gt (blk_lt (g := gb458) (o := .cells #[.int .i64 t455, .int .i64 t456, .int .i64 t457] 23 (0, 0)) (by (with_reducible repeat (first | refine blk_drewN ?_ _ | refine blk_drew ?_ | refine blk_alloc ?_ _)); exact BK458.out)) : gb485 ≠ gb458))
        have NB462_485 := Aside0.mk ((by rw [hg]; exact Nat.ne_of_lt (blk_lt (g := gb462) (o := .cells #[.int .i64 t459, .int .i64 t460, .int .i64 t461] 23 (0, 0)) (by (with_reducible repeat (first | refine blk_drewN ?_ _ | refine blk_drew ?_ | refine blk_alloc ?_ _)); exact BK462.out)) : gb462 ≠ gb485))
        have NB485_462 := Aside0.mk ((by rw [hg]; exact Nat.ne_of_gt (blk_lt (g := gb462) (o := .cells #[.int .i64 t459, .int .i64 t460, .int .i64 t461] 23 (0, 0)) (by (with_reducible repeat (first | refine blk_drewN ?_ _ | refine blk_drew ?_ | refine blk_alloc ?_ _)); exact BK462.out)) : gb485 ≠ gb462))
        have NB475_485 := Aside0.mk ((by rw [hg]; exact Nat.ne_of_lt (blk_lt (g := gb475) (o := .cells #[.int .i64 t472, .int .i64 t473, .int .i64 t474] 23 (0, 0)) (by (with_reducible repeat (first | refine blk_drewN ?_ _ | refine blk_drew ?_ | refine blk_alloc ?_ _)); exact BK475.out)) : gb475 ≠ gb485))
        have NB485_475 := Aside0.mk ((by rw [hg]; exact Nat.ne_of_gt (blk_lt (g := gb475) (o := .cells #[.int .i64 t472, .int .i64 t473, .int .i64 t474] 23 (0, 0)) (by (with_reducible repeat (first | refine blk_drewN ?_ _ | refine blk_drew ?_ | refine blk_alloc ?_ _)); exact BK475.out)) : gb485 ≠ gb475))
        clear HO_29
        clear BK449
        clear BK458
        clear BK462
        clear BK475
        clear HB
        have HO_29 := n0_
        have BK449 := n1_
        have BK458 := n2_
        have BK462 := n3_
        have BK475 := n4_
        have HB := n5_
        have BK485 := n6_
        have GW485 := n7_
        clear n0_ n1_ n2_ n3_ n4_ n5_ n6_ n7_
        clear hb hbox hg
        refine hK.out _ _ ⟨(blk_cell BK458.out 0).trans rfl, (blk_cell BK458.out 1).trans rfl, (blk_cell BK458.out 2).trans rfl, (blk_cell BK462.out 0).trans rfl, (blk_cell BK462.out 1).trans rfl, (blk_cell BK462.out 2).trans rfl⟩ (fun hHeld => ?_)
        clear hK K
        refine norm_ (a' := ?_) ?_ ?_
        rotate_left
        ·show Act.put _ (some 16) _ = _
         simp only [Act.put, List.setIfInBounds_toArray, List.set_cons_zero, List.set_cons_succ, i64_w, i32_w]
         rfl
        exact norm_ (by simp only [putAll, Act.put, List.setIfInBounds_toArray, List.set_cons_zero, List.set_cons_succ]) (hCont (gb485) _ ⟨hHeld, (by (with_reducible repeat (first | apply Kd.R_alloc | apply Kd.R_drewN | apply Kd.R_drew)); exact HO_29.out), (by (with_reducible repeat (first | refine blk_drewN ?_ _ | refine blk_drew ?_ | refine blk_alloc ?_ _)); exact BK449.out), (by (with_reducible repeat (first | refine blk_drewN ?_ _ | refine blk_drew ?_ | refine blk_alloc ?_ _)); exact BK458.out), (by (with_reducible repeat (first | refine blk_drewN ?_ _ | refine blk_drew ?_ | refine blk_alloc ?_ _)); exact BK462.out), (by (with_reducible repeat (first | refine blk_drewN ?_ _ | refine blk_drew ?_ | refine blk_alloc ?_ _)); exact BK475.out), (by (with_reducible repeat (first | refine blk_drewN ?_ _ | refine blk_drew ?_ | refine blk_alloc ?_ _)); exact BK485.out), GW485.out, GE485.out, NB449_485.out, NB485_449.out, NB458_485.out, NB485_458.out, NB462_485.out, NB485_462.out, NB475_485.out, NB485_475.out, (by repeat (first | (with_reducible first | exact HB.out | apply below_alloc | apply pw_below_drewN | apply below_drew1 | refine below_set ?_ GE449.out | refine below_set ?_ GE458.out | refine below_set ?_ GE462.out | refine below_set ?_ GE475.out | refine below_set ?_ GE485.out) | exact HB.out))⟩)
       skip
       refine box_step ?hg (N := 16) ?hd (cs := #[.int .i64 0, .int .i64 0, .int .i64 0]) (t := 23) ?hr ?_; (case hd => rfl); (case hg => rfl); (case hr => first | (go_simp; done) | (go_simp; rfl))
       intro gb485 hg w56 hbox hb
       have n0_ := Aside0.mk (Kd.R_below (by (with_reducible repeat (first | apply Kd.R_alloc | apply Kd.R_drewN | apply Kd.R_drew)); exact HO_29.out) hb)
       have n1_ := Aside0.mk (blk_below (g := gb449) (o := .cells #[.int .i64 a0_0, .int .i64 a0_1, .int .i64 a0_2, .int .i64 a0_3, .int .i64 a0_4, .int .i64 a0_5, .int .i64 a0_6, .int .i64 a0_7, .int .i64 a0_8] 25 (0, 0)) (by (with_reducible repeat (first | refine blk_drewN ?_ _ | refine blk_drew ?_ | refine blk_alloc ?_ _)); exact BK449.out) hb)
       have n2_ := Aside0.mk (blk_below (g := gb458) (o := .cells #[.int .i64 t455, .int .i64 t456, .int .i64 t457] 23 (0, 0)) (by (with_reducible repeat (first | refine blk_drewN ?_ _ | refine blk_drew ?_ | refine blk_alloc ?_ _)); exact BK458.out) hb)
       have n3_ := Aside0.mk (blk_below (g := gb462) (o := .cells #[.int .i64 t459, .int .i64 t460, .int .i64 t461] 23 (0, 0)) (by (with_reducible repeat (first | refine blk_drewN ?_ _ | refine blk_drew ?_ | refine blk_alloc ?_ _)); exact BK462.out) hb)
       have n4_ := Aside0.mk (blk_below (g := gb475) (o := .cells #[.int .i64 t472, .int .i64 t473, .int .i64 t474] 23 (0, 0)) (by (with_reducible repeat (first | refine blk_drewN ?_ _ | refine blk_drew ?_ | refine blk_alloc ?_ _)); exact BK475.out) hb)
       have n5_ := Aside0.mk (below_step (by repeat (first | (with_reducible first | exact HB.out | apply below_alloc | apply pw_below_drewN | apply below_drew1 | refine below_set ?_ GE449.out | refine below_set ?_ GE458.out | refine below_set ?_ GE462.out | refine below_set ?_ GE475.out) | exact HB.out)) hb)
       have n6_ := Aside0.mk (hbox)
       have n7_ := Aside0.mk ((by rw [hg]; exact (below_size (by repeat (first | (with_reducible first | exact HB.out | apply below_alloc | apply pw_below_drewN | apply below_drew1 | refine below_set ?_ GE449.out | refine below_set ?_ GE458.out | refine below_set ?_ GE462.out | refine below_set ?_ GE475.out) | exact HB.out))) : w.heap.size ≤ gb485))
       have GE485 := Aside0.mk ((by rw [hg]; exact (below_size (by repeat (first | (with_reducible first | exact HB.out | apply below_alloc | apply pw_below_drewN | apply below_drew1 | refine below_set ?_ GE449.out | refine below_set ?_ GE458.out | refine below_set ?_ GE462.out | refine below_set ?_ GE475.out) | exact HB.out))) : w.heap.size ≤ gb485))
       have NB449_485 := Aside0.mk ((by rw [hg]; exact Nat.ne_of_lt (blk_lt (g := gb449) (o := .cells #[.int .i64 a0_0, .int .i64 a0_1, .int .i64 a0_2, .int .i64 a0_3, .int .i64 a0_4, .int .i64 a0_5, .int .i64 a0_6, .int .i64 a0_7, .int .i64 a0_8] 25 (0, 0)) (by (with_reducible repeat (first | refine blk_drewN ?_ _ | refine blk_drew ?_ | refine blk_alloc ?_ _)); exact BK449.out)) : gb449 ≠ gb485))
       have NB485_449 := Aside0.mk ((by rw [hg]; exact Nat.ne_of_gt (blk_lt (g := gb449) (o := .cells #[.int .i64 a0_0, .int .i64 a0_1, .int .i64 a0_2, .int .i64 a0_3, .int .i64 a0_4, .int .i64 a0_5, .int .i64 a0_6, .int .i64 a0_7, .int .i64 a0_8] 25 (0, 0)) (by (with_reducible repeat (first | refine blk_drewN ?_ _ | refine blk_drew ?_ | refine blk_alloc ?_ _)); exact BK449.out)) : gb485 ≠ gb449))
       have NB458_485 := Aside0.mk ((by rw [hg]; exact Nat.ne_of_lt (blk_lt (g := gb458) (o := .cells #[.int .i64 t455, .int .i64 t456, .int .i64 t457] 23 (0, 0)) (by (with_reducible repeat (first | refine blk_drewN ?_ _ | refine blk_drew ?_ | refine blk_alloc ?_ _)); exact BK458.out)) : gb458 ≠ gb485))
       have NB485_458 := Aside0.mk ((by rw [hg]; exact Nat.ne_of_gt (blk_lt (g := gb458) (o := .cells #[.int .i64 t455, .int .i64 t456, .int .i64 t457] 23 (0, 0)) (by (with_reducible repeat (first | refine blk_drewN ?_ _ | refine blk_drew ?_ | refine blk_alloc ?_ _)); exact BK458.out)) : gb485 ≠ gb458))
       have NB462_485 := Aside0.mk ((by rw [hg]; exact Nat.ne_of_lt (blk_lt (g := gb462) (o := .cells #[.int .i64 t459, .int .i64 t460, .int .i64 t461] 23 (0, 0)) (by (with_reducible repeat (first | refine blk_drewN ?_ _ | refine blk_drew ?_ | refine blk_alloc ?_ _)); exact BK462.out)) : gb462 ≠ gb485))
       have NB485_462 := Aside0.mk ((by rw [hg]; exact Nat.ne_of_gt (blk_lt (g := gb462) (o := .cells #[.int .i64 t459, .int .i64 t460, .int .i64 t461] 23 (0, 0)) (by (with_reducible repeat (first | refine blk_drewN ?_ _ | refine blk_drew ?_ | refine blk_alloc ?_ _)); exact BK462.out)) : gb485 ≠ gb462))
       have NB475_485 := Aside0.mk ((by rw [hg]; exact Nat.ne_of_lt (blk_lt (g := gb475) (o := .cells #[.int .i64 t472, .int .i64 t473, .int .i64 t474] 23 (0, 0)) (by (with_reducible repeat (first | refine blk_drewN ?_ _ | refine blk_drew ?_ | refine blk_alloc ?_ _)); exact BK475.out)) : gb475 ≠ gb485))
       have NB485_475 := Aside0.mk ((by rw [hg]; exact Nat.ne_of_gt (blk_lt (g := gb475) (o := .cells #[.int .i64 t472, .int .i64 t473, .int .i64 t474] 23 (0, 0)) (by (with_reducible repeat (first | refine blk_drewN ?_ _ | refine blk_drew ?_ | refine blk_alloc ?_ _)); exact BK475.out)) : gb485 ≠ gb475))
       clear HO_29
       clear BK449
       clear BK458
       clear BK462
       clear BK475
       clear HB
       have HO_29 := n0_
       have BK449 := n1_
       have BK458 := n2_
       have BK462 := n3_
       have BK475 := n4_
       have HB := n5_
       have BK485 := n6_
       have GW485 := n7_
       clear n0_ n1_ n2_ n3_ n4_ n5_ n6_ n7_
       clear hb hbox hg
       refine hK.out _ _ ⟨(blk_cell BK458.out 0).trans rfl, (blk_cell BK458.out 1).trans rfl, (blk_cell BK458.out 2).trans rfl, (blk_cell BK462.out 0).trans rfl, (blk_cell BK462.out 1).trans rfl, (blk_cell BK462.out 2).trans rfl⟩ (fun hHeld => ?_)
       clear hK K
       refine norm_ (a' := ?_) ?_ ?_
       rotate_left
       ·show Act.put _ (some 16) _ = _
        simp only [Act.put, List.setIfInBounds_toArray, List.set_cons_zero, List.set_cons_succ, i64_w, i32_w]
        rfl
       refine one_ (i := 6) (N := some 68) #[true, true, true, true, true, true, true, true, false] rfl rfl (one_of HT_.out (by kernel_rfl)) (by decide) (fun K hK => ?_)
       refine goes_ Try.func24 (by kernel_rfl) rfl #[.agg #[.int .i64 t476, .int .i64 t477, .int .i64 t478], .agg #[.int .i64 t479, .int .i64 t480, .int .i64 t481]] (by rfl) rfl rfl (by (try simp only [List.map_toArray, List.map_cons, List.map_nil]); first | done | rfl | (simp only [List.length_drop, List.length_take]; rfl)) ?_
       with_reducible refine (relievoref02_Add.calls t476 t477 t478 t479 t480 t481 t482 t483 t484 _ A26.out).mono ?_
       rintro e w57 ⟨rfl, hb⟩
       refine ⟨_, rfl, ?_⟩
       have n0_ := Aside0.mk (Kd.R_below (by (with_reducible repeat (first | apply Kd.R_alloc | apply Kd.R_drewN | apply Kd.R_drew)); exact HO_29.out) hb)
       have n1_ := Aside0.mk (blk_below (g := gb449) (o := .cells #[.int .i64 a0_0, .int .i64 a0_1, .int .i64 a0_2, .int .i64 a0_3, .int .i64 a0_4, .int .i64 a0_5, .int .i64 a0_6, .int .i64 a0_7, .int .i64 a0_8] 25 (0, 0)) (by (with_reducible repeat (first | refine blk_drewN ?_ _ | refine blk_drew ?_ | refine blk_alloc ?_ _)); exact BK449.out) hb)
       have n2_ := Aside0.mk (blk_below (g := gb458) (o := .cells #[.int .i64 t455, .int .i64 t456, .int .i64 t457] 23 (0, 0)) (by (with_reducible repeat (first | refine blk_drewN ?_ _ | refine blk_drew ?_ | refine blk_alloc ?_ _)); exact BK458.out) hb)
       have n3_ := Aside0.mk (blk_below (g := gb462) (o := .cells #[.int .i64 t459, .int .i64 t460, .int .i64 t461] 23 (0, 0)) (by (with_reducible repeat (first | refine blk_drewN ?_ _ | refine blk_drew ?_ | refine blk_alloc ?_ _)); exact BK462.out) hb)
       have n4_ := Aside0.mk (blk_below (g := gb475) (o := .cells #[.int .i64 t472, .int .i64 t473, .int .i64 t474] 23 (0, 0)) (by (with_reducible repeat (first | refine blk_drewN ?_ _ | refine blk_drew ?_ | refine blk_alloc ?_ _)); exact BK475.out) hb)
       have n5_ := Aside0.mk (blk_below (g := gb485) (o := .cells #[.int .i64 0, .int .i64 0, .int .i64 0] 23 (0, 0)) (by (with_reducible repeat (first | refine blk_drewN ?_ _ | refine blk_drew ?_ | refine blk_alloc ?_ _)); exact BK485.out) hb)
       have n6_ := Aside0.mk (below_step (by repeat (first | (with_reducible first | exact HB.out | apply below_alloc | apply pw_below_drewN | apply below_drew1 | refine below_set ?_ GE449.out | refine below_set ?_ GE458.out | refine below_set ?_ GE462.out | refine below_set ?_ GE475.out | refine below_set ?_ GE485.out) | exact HB.out)) hb)
       clear HO_29
       clear BK449
       clear BK458
       clear BK462
       clear BK475
       clear BK485
       clear HB
       have HO_29 := n0_
       have BK449 := n1_
       have BK458 := n2_
       have BK462 := n3_
       have BK475 := n4_
       have BK485 := n5_
       have HB := n6_
       clear n0_ n1_ n2_ n3_ n4_ n5_ n6_
       (try clear hb)
       (try clear hb2)
       (try clear hk)
       (try clear hi)
       refine hK.out _ _ ⟨(blk_cell BK458.out 0).trans rfl, (blk_cell BK458.out 1).trans rfl, (blk_cell BK458.out 2).trans rfl, (blk_cell BK462.out 0).trans rfl, (blk_cell BK462.out 1).trans rfl, (blk_cell BK462.out 2).trans rfl⟩ (fun hHeld => ?_)
       clear hK K
       refine norm_ (a' := ?_) ?_ ?_
       rotate_left
       ·show Act.put _ (some 68) _ = _
        simp only [Act.put, List.setIfInBounds_toArray, List.set_cons_zero, List.set_cons_succ, i64_w, i32_w]
        rfl
       exact norm_ (by simp only [putAll, Act.put, List.setIfInBounds_toArray, List.set_cons_zero, List.set_cons_succ]) (hCont (gb485) _ ⟨hHeld, (by (with_reducible repeat (first | apply Kd.R_alloc | apply Kd.R_drewN | apply Kd.R_drew)); exact HO_29.out), (by (with_reducible repeat (first | refine blk_drewN ?_ _ | refine blk_drew ?_ | refine blk_alloc ?_ _)); exact BK449.out), (by (with_reducible repeat (first | refine blk_drewN ?_ _ | refine blk_drew ?_ | refine blk_alloc ?_ _)); exact BK458.out), (by (with_reducible repeat (first | refine blk_drewN ?_ _ | refine blk_drew ?_ | refine blk_alloc ?_ _)); exact BK462.out), (by (with_reducible repeat (first | refine blk_drewN ?_ _ | refine blk_drew ?_ | refine blk_alloc ?_ _)); exact BK475.out), (by (with_reducible repeat (first | refine blk_drewN ?_ _ | refine blk_drew ?_ | refine blk_alloc ?_ _)); exact BK485.out), GW485.out, GE485.out, NB449_485.out, NB485_449.out, NB458_485.out, NB485_458.out, NB462_485.out, NB485_462.out, NB475_485.out, NB485_475.out, (by repeat (first | (with_reducible first | exact HB.out | apply below_alloc | apply pw_below_drewN | apply below_drew1 | refine below_set ?_ GE449.out | refine below_set ?_ GE458.out | refine below_set ?_ GE462.out | refine below_set ?_ GE475.out | refine below_set ?_ GE485.out) | exact HB.out))⟩)
      skip
      refine box_step ?hg (N := 16) ?hd (cs := #[.int .i64 0, .int .i64 0, .int .i64 0]) (t := 23) ?hr ?_; (case hd => rfl); (case hg => rfl); (case hr => first | (go_simp; done) | (go_simp; rfl))
      intro gb485 hg w55 hbox hb
      have n0_ := Aside0.mk (Kd.R_below (by (with_reducible repeat (first | apply Kd.R_alloc | apply Kd.R_drewN | apply Kd.R_drew)); exact HO_29.out) hb)
      have n1_ := Aside0.mk (blk_below (g := gb449) (o := .cells #[.int .i64 a0_0, .int .i64 a0_1, .int .i64 a0_2, .int .i64 a0_3, .int .i64 a0_4, .int .i64 a0_5, .int .i64 a0_6, .int .i64 a0_7, .int .i64 a0_8] 25 (0, 0)) (by (with_reducible repeat (first | refine blk_drewN ?_ _ | refine blk_drew ?_ | refine blk_alloc ?_ _)); exact BK449.out) hb)
      have n2_ := Aside0.mk (blk_below (g := gb458) (o := .cells #[.int .i64 t455, .int .i64 t456, .int .i64 t457] 23 (0, 0)) (by (with_reducible repeat (first | refine blk_drewN ?_ _ | refine blk_drew ?_ | refine blk_alloc ?_ _)); exact BK458.out) hb)
      have n3_ := Aside0.mk (blk_below (g := gb462) (o := .cells #[.int .i64 t459, .int .i64 t460, .int .i64 t461] 23 (0, 0)) (by (with_reducible repeat (first | refine blk_drewN ?_ _ | refine blk_drew ?_ | refine blk_alloc ?_ _)); exact BK462.out) hb)
      have n4_ := Aside0.mk (blk_below (g := gb475) (o := .cells #[.int .i64 t472, .int .i64 t473, .int .i64 t474] 23 (0, 0)) (by (with_reducible repeat (first | refine blk_drewN ?_ _ | refine blk_drew ?_ | refine blk_alloc ?_ _)); exact BK475.out) hb)
      have n5_ := Aside0.mk (below_step (by repeat (first | (with_reducible first | exact HB.out | apply below_alloc | apply pw_below_drewN | apply below_drew1 | refine below_set ?_ GE449.out | refine below_set ?_ GE458.out | refine below_set ?_ GE462.out | refine below_set ?_ GE475.out) | exact HB.out)) hb)
      have n6_ := Aside0.mk (hbox)
      have n7_ := Aside0.mk ((by rw [hg]; exact (below_size (by repeat (first | (with_reducible first | exact HB.out | apply below_alloc | apply pw_below_drewN | apply below_drew1 | refine below_set ?_ GE449.out | refine below_set ?_ GE458.out | refine below_set ?_ GE462.out | refine below_set ?_ GE475.out) | exact HB.out))) : w.heap.size ≤ gb485))
      have GE485 := Aside0.mk ((by rw [hg]; exact (below_size (by repeat (first | (with_reducible first | exact HB.out | apply below_alloc | apply pw_below_drewN | apply below_drew1 | refine below_set ?_ GE449.out | refine below_set ?_ GE458.out | refine below_set ?_ GE462.out | refine below_set ?_ GE475.out) | exact HB.out))) : w.heap.size ≤ gb485))
      have NB449_485 := Aside0.mk ((by rw [hg]; exact Nat.ne_of_lt (blk_lt (g := gb449) (o := .cells #[.int .i64 a0_0, .int .i64 a0_1, .int .i64 a0_2, .int .i64 a0_3, .int .i64 a0_4, .int .i64 a0_5, .int .i64 a0_6, .int .i64 a0_7, .int .i64 a0_8] 25 (0, 0)) (by (with_reducible repeat (first | refine blk_drewN ?_ _ | refine blk_drew ?_ | refine blk_alloc ?_ _)); exact BK449.out)) : gb449 ≠ gb485))
      have NB485_449 := Aside0.mk ((by rw [hg]; exact Nat.ne_of_gt (blk_lt (g := gb449) (o := .cells #[.int .i64 a0_0, .int .i64 a0_1, .int .i64 a0_2, .int .i64 a0_3, .int .i64 a0_4, .int .i64 a0_5, .int .i64 a0_6, .int .i64 a0_7, .int .i64 a0_8] 25 (0, 0)) (by (with_reducible repeat (first | refine blk_drewN ?_ _ | refine blk_drew ?_ | refine blk_alloc ?_ _)); exact BK449.out)) : gb485 ≠ gb449))
      have NB458_485 := Aside0.mk ((by rw [hg]; exact Nat.ne_of_lt (blk_lt (g := gb458) (o := .cells #[.int .i64 t455, .int .i64 t456, .int .i64 t457] 23 (0, 0)) (by (with_reducible repeat (first | refine blk_drewN ?_ _ | refine blk_drew ?_ | refine blk_alloc ?_ _)); exact BK458.out)) : gb458 ≠ gb485))
      have NB485_458 := Aside0.mk ((by rw [hg]; exact Nat.ne_of_gt (blk_lt (g := gb458) (o := .cells #[.int .i64 t455, .int .i64 t456, .int .i64 t457] 23 (0, 0)) (by (with_reducible repeat (first | refine blk_drewN ?_ _ | refine blk_drew ?_ | refine blk_alloc ?_ _)); exact BK458.out)) : gb485 ≠ gb458))
      have NB462_485 := Aside0.mk ((by rw [hg]; exact Nat.ne_of_lt (blk_lt (g := gb462) (o := .cells #[.int .i64 t459, .int .i64 t460, .int .i64 t461] 23 (0, 0)) (by (with_reducible repeat (first | refine blk_drewN ?_ _ | refine blk_drew ?_ | refine blk_alloc ?_ _)); exact BK462.out)) : gb462 ≠ gb485))
      have NB485_462 := Aside0.mk ((by rw [hg]; exact Nat.ne_of_gt (blk_lt (g := gb462) (o := .cells #[.int .i64 t459, .int .i64 t460, .int .i64 t461] 23 (0, 0)) (by (with_reducible repeat (first | refine blk_drewN ?_ _ | refine blk_drew ?_ | refine blk_alloc ?_ _)); exact BK462.out)) : gb485 ≠ gb462))
      have NB475_485 := Aside0.mk ((by rw [hg]; exact Nat.ne_of_lt (blk_lt (g := gb475) (o := .cells #[.int .i64 t472, .int .i64 t473, .int .i64 t474] 23 (0, 0)) (by (with_reducible repeat (first | refine blk_drewN ?_ _ | refine blk_drew ?_ | refine blk_alloc ?_ _)); exact BK475.out)) : gb475 ≠ gb485))
      have NB485_475 := Aside0.mk ((by rw [hg]; exact Nat.ne_of_gt (blk_lt (g := gb475) (o := .cells #[.int .i64 t472, .int .i64 t473, .int .i64 t474] 23 (0, 0)) (by (with_reducible repeat (first | refine blk_drewN ?_ _ | refine blk_drew ?_ | refine blk_alloc ?_ _)); exact BK475.out)) : gb485 ≠ gb475))
      clear HO_29
      clear BK449
      clear BK458
      clear BK462
      clear BK475
      clear HB
      have HO_29 := n0_
      have BK449 := n1_
      have BK458 := n2_
      have BK462 := n3_
      have BK475 := n4_
      have HB := n5_
      have BK485 := n6_
      have GW485 := n7_
      clear n0_ n1_ n2_ n3_ n4_ n5_ n6_ n7_
      clear hb hbox hg
      refine hK.out _ _ ⟨(blk_cell BK458.out 0).trans rfl, (blk_cell BK458.out 1).trans rfl, (blk_cell BK458.out 2).trans rfl, (blk_cell BK462.out 0).trans rfl, (blk_cell BK462.out 1).trans rfl, (blk_cell BK462.out 2).trans rfl⟩ (fun hHeld => ?_)
      clear hK K
      refine norm_ (a' := ?_) ?_ ?_
      rotate_left
      ·show Act.put _ (some 16) _ = _
       simp only [Act.put, List.setIfInBounds_toArray, List.set_cons_zero, List.set_cons_succ, i64_w, i32_w]
       rfl
      refine one_ (i := 5) (N := some 67) #[true, true, true, true, true, true, false, true, false] rfl rfl (one_of HT_.out (by kernel_rfl)) (by decide) (fun K hK => ?_)
      refine goes_ Try.func29 (by kernel_rfl) rfl #[.agg #[.int .i64 t459, .int .i64 t460, .int .i64 t461], .int .i64 a4] (by rfl) rfl rfl (by (try simp only [List.map_toArray, List.map_cons, List.map_nil]); first | done | rfl | (simp only [List.length_drop, List.length_take]; rfl)) ?_
      with_reducible refine (relievoref02_Scale.calls t459 t460 t461 a4 t479 t480 t481 _ A25.out).mono ?_
      rintro e w56 ⟨rfl, hb⟩
      refine ⟨_, rfl, ?_⟩
      have n0_ := Aside0.mk (Kd.R_below (by (with_reducible repeat (first | apply Kd.R_alloc | apply Kd.R_drewN | apply Kd.R_drew)); exact HO_29.out) hb)
      have n1_ := Aside0.mk (blk_below (g := gb449) (o := .cells #[.int .i64 a0_0, .int .i64 a0_1, .int .i64 a0_2, .int .i64 a0_3, .int .i64 a0_4, .int .i64 a0_5, .int .i64 a0_6, .int .i64 a0_7, .int .i64 a0_8] 25 (0, 0)) (by (with_reducible repeat (first | refine blk_drewN ?_ _ | refine blk_drew ?_ | refine blk_alloc ?_ _)); exact BK449.out) hb)
      have n2_ := Aside0.mk (blk_below (g := gb458) (o := .cells #[.int .i64 t455, .int .i64 t456, .int .i64 t457] 23 (0, 0)) (by (with_reducible repeat (first | refine blk_drewN ?_ _ | refine blk_drew ?_ | refine blk_alloc ?_ _)); exact BK458.out) hb)
      have n3_ := Aside0.mk (blk_below (g := gb462) (o := .cells #[.int .i64 t459, .int .i64 t460, .int .i64 t461] 23 (0, 0)) (by (with_reducible repeat (first | refine blk_drewN ?_ _ | refine blk_drew ?_ | refine blk_alloc ?_ _)); exact BK462.out) hb)
      have n4_ := Aside0.mk (blk_below (g := gb475) (o := .cells #[.int .i64 t472, .int .i64 t473, .int .i64 t474] 23 (0, 0)) (by (with_reducible repeat (first | refine blk_drewN ?_ _ | refine blk_drew ?_ | refine blk_alloc ?_ _)); exact BK475.out) hb)
      have n5_ := Aside0.mk (blk_below (g := gb485) (o := .cells #[.int .i64 0, .int .i64 0, .int .i64 0] 23 (0, 0)) (by (with_reducible repeat (first | refine blk_drewN ?_ _ | refine blk_drew ?_ | refine blk_alloc ?_ _)); exact BK485.out) hb)
      have n6_ := Aside0.mk (below_step (by repeat (first | (with_reducible first | exact HB.out | apply below_alloc | apply pw_below_drewN | apply below_drew1 | refine below_set ?_ GE449.out | refine below_set ?_ GE458.out | refine below_set ?_ GE462.out | refine below_set ?_ GE475.out | refine below_set ?_ GE485.out) | exact HB.out)) hb)
      clear HO_29
      clear BK449
      clear BK458
      clear BK462
      clear BK475
      clear BK485
      clear HB
      have HO_29 := n0_
      have BK449 := n1_
      have BK458 := n2_
      have BK462 := n3_
      have BK475 := n4_
      have BK485 := n5_
      have HB := n6_
      clear n0_ n1_ n2_ n3_ n4_ n5_ n6_
      (try clear hb)
      (try clear hb2)
      (try clear hk)
      (try clear hi)
      refine hK.out _ _ ⟨(blk_cell BK458.out 0).trans rfl, (blk_cell BK458.out 1).trans rfl, (blk_cell BK458.out 2).trans rfl, (blk_cell BK462.out 0).trans rfl, (blk_cell BK462.out 1).trans rfl, (blk_cell BK462.out 2).trans rfl⟩ (fun hHeld => ?_)
      clear hK K
      refine norm_ (a' := ?_) ?_ ?_
      rotate_left
      ·show Act.put _ (some 67) _ = _
       simp only [Act.put, List.setIfInBounds_toArray, List.set_cons_zero, List.set_cons_succ, i64_w, i32_w]
       rfl
      refine one_ (i := 6) (N := some 68) #[true, true, true, true, true, true, true, true, false] rfl rfl (one_of HT_.out (by kernel_rfl)) (by decide) (fun K hK => ?_)
      refine goes_ Try.func24 (by kernel_rfl) rfl #[.agg #[.int .i64 t476, .int .i64 t477, .int .i64 t478], .agg #[.int .i64 t479, .int .i64 t480, .int .i64 t481]] (by rfl) rfl rfl (by (try simp only [List.map_toArray, List.map_cons, List.map_nil]); first | done | rfl | (simp only [List.length_drop, List.length_take]; rfl)) ?_
      with_reducible refine (relievoref02_Add.calls t476 t477 t478 t479 t480 t481 t482 t483 t484 _ A26.out).mono ?_
      rintro e w57 ⟨rfl, hb⟩
      refine ⟨_, rfl, ?_⟩
      have n0_ := Aside0.mk (Kd.R_below (by (with_reducible repeat (first | apply Kd.R_alloc | apply Kd.R_drewN | apply Kd.R_drew)); exact HO_29.out) hb)
      have n1_ := Aside0.mk (blk_below (g := gb449) (o := .cells #[.int .i64 a0_0, .int .i64 a0_1, .int .i64 a0_2, .int .i64 a0_3, .int .i64 a0_4, .int .i64 a0_5, .int .i64 a0_6, .int .i64 a0_7, .int .i64 a0_8] 25 (0, 0)) (by (with_reducible repeat (first | refine blk_drewN ?_ _ | refine blk_drew ?_ | refine blk_alloc ?_ _)); exact BK449.out) hb)
      have n2_ := Aside0.mk (blk_below (g := gb458) (o := .cells #[.int .i64 t455, .int .i64 t456, .int .i64 t457] 23 (0, 0)) (by (with_reducible repeat (first | refine blk_drewN ?_ _ | refine blk_drew ?_ | refine blk_alloc ?_ _)); exact BK458.out) hb)
      have n3_ := Aside0.mk (blk_below (g := gb462) (o := .cells #[.int .i64 t459, .int .i64 t460, .int .i64 t461] 23 (0, 0)) (by (with_reducible repeat (first | refine blk_drewN ?_ _ | refine blk_drew ?_ | refine blk_alloc ?_ _)); exact BK462.out) hb)
      have n4_ := Aside0.mk (blk_below (g := gb475) (o := .cells #[.int .i64 t472, .int .i64 t473, .int .i64 t474] 23 (0, 0)) (by (with_reducible repeat (first | refine blk_drewN ?_ _ | refine blk_drew ?_ | refine blk_alloc ?_ _)); exact BK475.out) hb)
      have n5_ := Aside0.mk (blk_below (g := gb485) (o := .cells #[.int .i64 0, .int .i64 0, .int .i64 0] 23 (0, 0)) (by (with_reducible repeat (first | refine blk_drewN ?_ _ | refine blk_drew ?_ | refine blk_alloc ?_ _)); exact BK485.out) hb)
      have n6_ := Aside0.mk (below_step (by repeat (first | (with_reducible first | exact HB.out | apply below_alloc | apply pw_below_drewN | apply below_drew1 | refine below_set ?_ GE449.out | refine below_set ?_ GE458.out | refine below_set ?_ GE462.out | refine below_set ?_ GE475.out | refine below_set ?_ GE485.out) | exact HB.out)) hb)
      clear HO_29
      clear BK449
      clear BK458
      clear BK462
      clear BK475
      clear BK485
      clear HB
      have HO_29 := n0_
      have BK449 := n1_
      have BK458 := n2_
      have BK462 := n3_
      have BK475 := n4_
      have BK485 := n5_
      have HB := n6_
      clear n0_ n1_ n2_ n3_ n4_ n5_ n6_
      (try clear hb)
      (try clear hb2)
      (try clear hk)
      (try clear hi)
      refine hK.out _ _ ⟨(blk_cell BK458.out 0).trans rfl, (blk_cell BK458.out 1).trans rfl, (blk_cell BK458.out 2).trans rfl, (blk_cell BK462.out 0).trans rfl, (blk_cell BK462.out 1).trans rfl, (blk_cell BK462.out 2).trans rfl⟩ (fun hHeld => ?_)
      clear hK K
      refine norm_ (a' := ?_) ?_ ?_
      rotate_left
      ·show Act.put _ (some 68) _ = _
       simp only [Act.put, List.setIfInBounds_toArray, List.set_cons_zero, List.set_cons_succ, i64_w, i32_w]
       rfl
      exact norm_ (by simp only [putAll, Act.put, List.setIfInBounds_toArray, List.set_cons_zero, List.set_cons_succ]) (hCont (gb485) _ ⟨hHeld, (by (with_reducible repeat (first | apply Kd.R_alloc | apply Kd.R_drewN | apply Kd.R_drew)); exact HO_29.out), (by (with_reducible repeat (first | refine blk_drewN ?_ _ | refine blk_drew ?_ | refine blk_alloc ?_ _)); exact BK449.out), (by (with_reducible repeat (first | refine blk_drewN ?_ _ | refine blk_drew ?_ | refine blk_alloc ?_ _)); exact BK458.out), (by (with_reducible repeat (first | refine blk_drewN ?_ _ | refine blk_drew ?_ | refine blk_alloc ?_ _)); exact BK462.out), (by (with_reducible repeat (first | refine blk_drewN ?_ _ | refine blk_drew ?_ | refine blk_alloc ?_ _)); exact BK475.out), (by (with_reducible repeat (first | refine blk_drewN ?_ _ | refine blk_drew ?_ | refine blk_alloc ?_ _)); exact BK485.out), GW485.out, GE485.out, NB449_485.out, NB485_449.out, NB458_485.out, NB485_458.out, NB462_485.out, NB485_462.out, NB475_485.out, NB485_475.out, (by repeat (first | (with_reducible first | exact HB.out | apply below_alloc | apply pw_below_drewN | apply below_drew1 | refine below_set ?_ GE449.out | refine below_set ?_ GE458.out | refine below_set ?_ GE462.out | refine below_set ?_ GE475.out | refine below_set ?_ GE485.out) | exact HB.out))⟩)
     skip
     refine box_step ?hg (N := 16) ?hd (cs := #[.int .i64 0, .int .i64 0, .int .i64 0]) (t := 23) ?hr ?_; (case hd => rfl); (case hg => rfl); (case hr => first | (go_simp; done) | (go_simp; rfl))
     intro gb485 hg w54 hbox hb
     have n0_ := Aside0.mk (Kd.R_below (by (with_reducible repeat (first | apply Kd.R_alloc | apply Kd.R_drewN | apply Kd.R_drew)); exact HO_29.out) hb)
     have n1_ := Aside0.mk (blk_below (g := gb449) (o := .cells #[.int .i64 a0_0, .int .i64 a0_1, .int .i64 a0_2, .int .i64 a0_3, .int .i64 a0_4, .int .i64 a0_5, .int .i64 a0_6, .int .i64 a0_7, .int .i64 a0_8] 25 (0, 0)) (by (with_reducible repeat (first | refine blk_drewN ?_ _ | refine blk_drew ?_ | refine blk_alloc ?_ _)); exact BK449.out) hb)
     have n2_ := Aside0.mk (blk_below (g := gb458) (o := .cells #[.int .i64 t455, .int .i64 t456, .int .i64 t457] 23 (0, 0)) (by (with_reducible repeat (first | refine blk_drewN ?_ _ | refine blk_drew ?_ | refine blk_alloc ?_ _)); exact BK458.out) hb)
     have n3_ := Aside0.mk (blk_below (g := gb462) (o := .cells #[.int .i64 t459, .int .i64 t460, .int .i64 t461] 23 (0, 0)) (by (with_reducible repeat (first | refine blk_drewN ?_ _ | refine blk_drew ?_ | refine blk_alloc ?_ _)); exact BK462.out) hb)
     have n4_ := Aside0.mk (blk_below (g := gb475) (o := .cells #[.int .i64 t472, .int .i64 t473, .int .i64 t474] 23 (0, 0)) (by (with_reducible repeat (first | refine blk_drewN ?_ _ | refine blk_drew ?_ | refine blk_alloc ?_ _)); exact BK475.out) hb)
     have n5_ := Aside0.mk (below_step (by repeat (first | (with_reducible first | exact HB.out | apply below_alloc | apply pw_below_drewN | apply below_drew1 | refine below_set ?_ GE449.out | refine below_set ?_ GE458.out | refine below_set ?_ GE462.out | refine below_set ?_ GE475.out) | exact HB.out)) hb)
     have n6_ := Aside0.mk (hbox)
     have n7_ := Aside0.mk ((by rw [hg]; exact (below_size (by repeat (first | (with_reducible first | exact HB.out | apply below_alloc | apply pw_below_drewN | apply below_drew1 | refine below_set ?_ GE449.out | refine below_set ?_ GE458.out | refine below_set ?_ GE462.out | refine below_set ?_ GE475.out) | exact HB.out))) : w.heap.size ≤ gb485))
     have GE485 := Aside0.mk ((by rw [hg]; exact (below_size (by repeat (first | (with_reducible first | exact HB.out | apply below_alloc | apply pw_below_drewN | apply below_drew1 | refine below_set ?_ GE449.out | refine below_set ?_ GE458.out | refine below_set ?_ GE462.out | refine below_set ?_ GE475.out) | exact HB.out))) : w.heap.size ≤ gb485))
     have NB449_485 := Aside0.mk ((by rw [hg]; exact Nat.ne_of_lt (blk_lt (g := gb449) (o := .cells #[.int .i64 a0_0, .int .i64 a0_1, .int .i64 a0_2, .int .i64 a0_3, .int .i64 a0_4, .int .i64 a0_5, .int .i64 a0_6, .int .i64 a0_7, .int .i64 a0_8] 25 (0, 0)) (by (with_reducible repeat (first | refine blk_drewN ?_ _ | refine blk_drew ?_ | refine blk_alloc ?_ _)); exact BK449.out)) : gb449 ≠ gb485))
     have NB485_449 := Aside0.mk ((by rw [hg]; exact Nat.ne_of_gt (blk_lt (g := gb449) (o := .cells #[.int .i64 a0_0, .int .i64 a0_1, .int .i64 a0_2, .int .i64 a0_3, .int .i64 a0_4, .int .i64 a0_5, .int .i64 a0_6, .int .i64 a0_7, .int .i64 a0_8] 25 (0, 0)) (by (with_reducible repeat (first | refine blk_drewN ?_ _ | refine blk_drew ?_ | refine blk_alloc ?_ _)); exact BK449.out)) : gb485 ≠ gb449))
     have NB458_485 := Aside0.mk ((by rw [hg]; exact Nat.ne_of_lt (blk_lt (g := gb458) (o := .cells #[.int .i64 t455, .int .i64 t456, .int .i64 t457] 23 (0, 0)) (by (with_reducible repeat (first | refine blk_drewN ?_ _ | refine blk_drew ?_ | refine blk_alloc ?_ _)); exact BK458.out)) : gb458 ≠ gb485))
     have NB485_458 := Aside0.mk ((by rw [hg]; exact Nat.ne_of_gt (blk_lt (g := gb458) (o := .cells #[.int .i64 t455, .int .i64 t456, .int .i64 t457] 23 (0, 0)) (by (with_reducible repeat (first | refine blk_drewN ?_ _ | refine blk_drew ?_ | refine blk_alloc ?_ _)); exact BK458.out)) : gb485 ≠ gb458))
     have NB462_485 := Aside0.mk ((by rw [hg]; exact Nat.ne_of_lt (blk_lt (g := gb462) (o := .cells #[.int .i64 t459, .int .i64 t460, .int .i64 t461] 23 (0, 0)) (by (with_reducible repeat (first | refine blk_drewN ?_ _ | refine blk_drew ?_ | refine blk_alloc ?_ _)); exact BK462.out)) : gb462 ≠ gb485))
     have NB485_462 := Aside0.mk ((by rw [hg]; exact Nat.ne_of_gt (blk_lt (g := gb462) (o := .cells #[.int .i64 t459, .int .i64 t460, .int .i64 t461] 23 (0, 0)) (by (with_reducible repeat (first | refine blk_drewN ?_ _ | refine blk_drew ?_ | refine blk_alloc ?_ _)); exact BK462.out)) : gb485 ≠ gb462))
     have NB475_485 := Aside0.mk ((by rw [hg]; exact Nat.ne_of_lt (blk_lt (g := gb475) (o := .cells #[.int .i64 t472, .int .i64 t473, .int .i64 t474] 23 (0, 0)) (by (with_reducible repeat (first | refine blk_drewN ?_ _ | refine blk_drew ?_ | refine blk_alloc ?_ _)); exact BK475.out)) : gb475 ≠ gb485))
     have NB485_475 := Aside0.mk ((by rw [hg]; exact Nat.ne_of_gt (blk_lt (g := gb475) (o := .cells #[.int .i64 t472, .int .i64 t473, .int .i64 t474] 23 (0, 0)) (by (with_reducible repeat (first | refine blk_drewN ?_ _ | refine blk_drew ?_ | refine blk_alloc ?_ _)); exact BK475.out)) : gb485 ≠ gb475))
     clear HO_29
     clear BK449
     clear BK458
     clear BK462
     clear BK475
     clear HB
     have HO_29 := n0_
     have BK449 := n1_
     have BK458 := n2_
     have BK462 := n3_
     have BK475 := n4_
     have HB := n5_
     have BK485 := n6_
     have GW485 := n7_
     clear n0_ n1_ n2_ n3_ n4_ n5_ n6_ n7_
     clear hb hbox hg
     refine hK.out _ _ ⟨(blk_cell BK458.out 0).trans rfl, (blk_cell BK458.out 1).trans rfl, (blk_cell BK458.out 2).trans rfl, (blk_cell BK462.out 0).trans rfl, (blk_cell BK462.out 1).trans rfl, (blk_cell BK462.out 2).trans rfl⟩ (fun hHeld => ?_)
     clear hK K
     refine norm_ (a' := ?_) ?_ ?_
     rotate_left
     ·show Act.put _ (some 16) _ = _
      simp only [Act.put, List.setIfInBounds_toArray, List.set_cons_zero, List.set_cons_succ, i64_w, i32_w]
      rfl
     refine one_ (i := 2) (N := some 64) #[true, true, true, true, true, false, false, true, false] rfl rfl (one_of HT_.out (by kernel_rfl)) (by decide) (fun K hK => ?_)
     refine goes_ Try.func29 (by kernel_rfl) rfl #[.agg #[.int .i64 t455, .int .i64 t456, .int .i64 t457], .int .i64 a3] (by rfl) rfl rfl (by (try simp only [List.map_toArray, List.map_cons, List.map_nil]); first | done | rfl | (simp only [List.length_drop, List.length_take]; rfl)) ?_
     with_reducible refine (relievoref02_Scale.calls t455 t456 t457 a3 t476 t477 t478 _ A24.out).mono ?_
     rintro e w55 ⟨rfl, hb⟩
     refine ⟨_, rfl, ?_⟩
     have n0_ := Aside0.mk (Kd.R_below (by (with_reducible repeat (first | apply Kd.R_alloc | apply Kd.R_drewN | apply Kd.R_drew)); exact HO_29.out) hb)
     have n1_ := Aside0.mk (blk_below (g := gb449) (o := .cells #[.int .i64 a0_0, .int .i64 a0_1, .int .i64 a0_2, .int .i64 a0_3, .int .i64 a0_4, .int .i64 a0_5, .int .i64 a0_6, .int .i64 a0_7, .int .i64 a0_8] 25 (0, 0)) (by (with_reducible repeat (first | refine blk_drewN ?_ _ | refine blk_drew ?_ | refine blk_alloc ?_ _)); exact BK449.out) hb)
     have n2_ := Aside0.mk (blk_below (g := gb458) (o := .cells #[.int .i64 t455, .int .i64 t456, .int .i64 t457] 23 (0, 0)) (by (with_reducible repeat (first | refine blk_drewN ?_ _ | refine blk_drew ?_ | refine blk_alloc ?_ _)); exact BK458.out) hb)
     have n3_ := Aside0.mk (blk_below (g := gb462) (o := .cells #[.int .i64 t459, .int .i64 t460, .int .i64 t461] 23 (0, 0)) (by (with_reducible repeat (first | refine blk_drewN ?_ _ | refine blk_drew ?_ | refine blk_alloc ?_ _)); exact BK462.out) hb)
     have n4_ := Aside0.mk (blk_below (g := gb475) (o := .cells #[.int .i64 t472, .int .i64 t473, .int .i64 t474] 23 (0, 0)) (by (with_reducible repeat (first | refine blk_drewN ?_ _ | refine blk_drew ?_ | refine blk_alloc ?_ _)); exact BK475.out) hb)
     have n5_ := Aside0.mk (blk_below (g := gb485) (o := .cells #[.int .i64 0, .int .i64 0, .int .i64 0] 23 (0, 0)) (by (with_reducible repeat (first | refine blk_drewN ?_ _ | refine blk_drew ?_ | refine blk_alloc ?_ _)); exact BK485.out) hb)
     have n6_ := Aside0.mk (below_step (by repeat (first | (with_reducible first | exact HB.out | apply below_alloc | apply pw_below_drewN | apply below_drew1 | refine below_set ?_ GE449.out | refine below_set ?_ GE458.out | refine below_set ?_ GE462.out | refine below_set ?_ GE475.out | refine below_set ?_ GE485.out) | exact HB.out)) hb)
     clear HO_29
     clear BK449
     clear BK458
     clear BK462
     clear BK475
     clear BK485
     clear HB
     have HO_29 := n0_
     have BK449 := n1_
     have BK458 := n2_
     have BK462 := n3_
     have BK475 := n4_
     have BK485 := n5_
     have HB := n6_
     clear n0_ n1_ n2_ n3_ n4_ n5_ n6_
     (try clear hb)
     (try clear hb2)
     (try clear hk)
     (try clear hi)
     refine hK.out _ _ ⟨(blk_cell BK458.out 0).trans rfl, (blk_cell BK458.out 1).trans rfl, (blk_cell BK458.out 2).trans rfl, (blk_cell BK462.out 0).trans rfl, (blk_cell BK462.out 1).trans rfl, (blk_cell BK462.out 2).trans rfl⟩ (fun hHeld => ?_)
     clear hK K
     refine norm_ (a' := ?_) ?_ ?_
     rotate_left
     ·show Act.put _ (some 64) _ = _
      simp only [Act.put, List.setIfInBounds_toArray, List.set_cons_zero, List.set_cons_succ, i64_w, i32_w]
      rfl
     refine one_ (i := 5) (N := some 67) #[true, true, true, true, true, true, false, true, false] rfl rfl (one_of HT_.out (by kernel_rfl)) (by decide) (fun K hK => ?_)
     refine goes_ Try.func29 (by kernel_rfl) rfl #[.agg #[.int .i64 t459, .int .i64 t460, .int .i64 t461], .int .i64 a4] (by rfl) rfl rfl (by (try simp only [List.map_toArray, List.map_cons, List.map_nil]); first | done | rfl | (simp only [List.length_drop, List.length_take]; rfl)) ?_
     with_reducible refine (relievoref02_Scale.calls t459 t460 t461 a4 t479 t480 t481 _ A25.out).mono ?_
     rintro e w56 ⟨rfl, hb⟩
     refine ⟨_, rfl, ?_⟩
     have n0_ := Aside0.mk (Kd.R_below (by (with_reducible repeat (first | apply Kd.R_alloc | apply Kd.R_drewN | apply Kd.R_drew)); exact HO_29.out) hb)
     have n1_ := Aside0.mk (blk_below (g := gb449) (o := .cells #[.int .i64 a0_0, .int .i64 a0_1, .int .i64 a0_2, .int .i64 a0_3, .int .i64 a0_4, .int .i64 a0_5, .int .i64 a0_6, .int .i64 a0_7, .int .i64 a0_8] 25 (0, 0)) (by (with_reducible repeat (first | refine blk_drewN ?_ _ | refine blk_drew ?_ | refine blk_alloc ?_ _)); exact BK449.out) hb)
     have n2_ := Aside0.mk (blk_below (g := gb458) (o := .cells #[.int .i64 t455, .int .i64 t456, .int .i64 t457] 23 (0, 0)) (by (with_reducible repeat (first | refine blk_drewN ?_ _ | refine blk_drew ?_ | refine blk_alloc ?_ _)); exact BK458.out) hb)
     have n3_ := Aside0.mk (blk_below (g := gb462) (o := .cells #[.int .i64 t459, .int .i64 t460, .int .i64 t461] 23 (0, 0)) (by (with_reducible repeat (first | refine blk_drewN ?_ _ | refine blk_drew ?_ | refine blk_alloc ?_ _)); exact BK462.out) hb)
     have n4_ := Aside0.mk (blk_below (g := gb475) (o := .cells #[.int .i64 t472, .int .i64 t473, .int .i64 t474] 23 (0, 0)) (by (with_reducible repeat (first | refine blk_drewN ?_ _ | refine blk_drew ?_ | refine blk_alloc ?_ _)); exact BK475.out) hb)
     have n5_ := Aside0.mk (blk_below (g := gb485) (o := .cells #[.int .i64 0, .int .i64 0, .int .i64 0] 23 (0, 0)) (by (with_reducible repeat (first | refine blk_drewN ?_ _ | refine blk_drew ?_ | refine blk_alloc ?_ _)); exact BK485.out) hb)
     have n6_ := Aside0.mk (below_step (by repeat (first | (with_reducible first | exact HB.out | apply below_alloc | apply pw_below_drewN | apply below_drew1 | refine below_set ?_ GE449.out | refine below_set ?_ GE458.out | refine below_set ?_ GE462.out | refine below_set ?_ GE475.out | refine below_set ?_ GE485.out) | exact HB.out)) hb)
     clear HO_29
     clear BK449
     clear BK458
     clear BK462
     clear BK475
     clear BK485
     clear HB
     have HO_29 := n0_
     have BK449 := n1_
     have BK458 := n2_
     have BK462 := n3_
     have BK475 := n4_
     have BK485 := n5_
     have HB := n6_
     clear n0_ n1_ n2_ n3_ n4_ n5_ n6_
     (try clear hb)
     (try clear hb2)
     (try clear hk)
     (try clear hi)
     refine hK.out _ _ ⟨(blk_cell BK458.out 0).trans rfl, (blk_cell BK458.out 1).trans rfl, (blk_cell BK458.out 2).trans rfl, (blk_cell BK462.out 0).trans rfl, (blk_cell BK462.out 1).trans rfl, (blk_cell BK462.out 2).trans rfl⟩ (fun hHeld => ?_)
     clear hK K
     refine norm_ (a' := ?_) ?_ ?_
     rotate_left
     ·show Act.put _ (some 67) _ = _
      simp only [Act.put, List.setIfInBounds_toArray, List.set_cons_zero, List.set_cons_succ, i64_w, i32_w]
      rfl
     refine one_ (i := 6) (N := some 68) #[true, true, true, true, true, true, true, true, false] rfl rfl (one_of HT_.out (by kernel_rfl)) (by decide) (fun K hK => ?_)
     refine goes_ Try.func24 (by kernel_rfl) rfl #[.agg #[.int .i64 t476, .int .i64 t477, .int .i64 t478], .agg #[.int .i64 t479, .int .i64 t480, .int .i64 t481]] (by rfl) rfl rfl (by (try simp only [List.map_toArray, List.map_cons, List.map_nil]); first | done | rfl | (simp only [List.length_drop, List.length_take]; rfl)) ?_
     with_reducible refine (relievoref02_Add.calls t476 t477 t478 t479 t480 t481 t482 t483 t484 _ A26.out).mono ?_
     rintro e w57 ⟨rfl, hb⟩
     refine ⟨_, rfl, ?_⟩
     have n0_ := Aside0.mk (Kd.R_below (by (with_reducible repeat (first | apply Kd.R_alloc | apply Kd.R_drewN | apply Kd.R_drew)); exact HO_29.out) hb)
     have n1_ := Aside0.mk (blk_below (g := gb449) (o := .cells #[.int .i64 a0_0, .int .i64 a0_1, .int .i64 a0_2, .int .i64 a0_3, .int .i64 a0_4, .int .i64 a0_5, .int .i64 a0_6, .int .i64 a0_7, .int .i64 a0_8] 25 (0, 0)) (by (with_reducible repeat (first | refine blk_drewN ?_ _ | refine blk_drew ?_ | refine blk_alloc ?_ _)); exact BK449.out) hb)
     have n2_ := Aside0.mk (blk_below (g := gb458) (o := .cells #[.int .i64 t455, .int .i64 t456, .int .i64 t457] 23 (0, 0)) (by (with_reducible repeat (first | refine blk_drewN ?_ _ | refine blk_drew ?_ | refine blk_alloc ?_ _)); exact BK458.out) hb)
     have n3_ := Aside0.mk (blk_below (g := gb462) (o := .cells #[.int .i64 t459, .int .i64 t460, .int .i64 t461] 23 (0, 0)) (by (with_reducible repeat (first | refine blk_drewN ?_ _ | refine blk_drew ?_ | refine blk_alloc ?_ _)); exact BK462.out) hb)
     have n4_ := Aside0.mk (blk_below (g := gb475) (o := .cells #[.int .i64 t472, .int .i64 t473, .int .i64 t474] 23 (0, 0)) (by (with_reducible repeat (first | refine blk_drewN ?_ _ | refine blk_drew ?_ | refine blk_alloc ?_ _)); exact BK475.out) hb)
     have n5_ := Aside0.mk (blk_below (g := gb485) (o := .cells #[.int .i64 0, .int .i64 0, .int .i64 0] 23 (0, 0)) (by (with_reducible repeat (first | refine blk_drewN ?_ _ | refine blk_drew ?_ | refine blk_alloc ?_ _)); exact BK485.out) hb)
     have n6_ := Aside0.mk (below_step (by repeat (first | (with_reducible first | exact HB.out | apply below_alloc | apply pw_below_drewN | apply below_drew1 | refine below_set ?_ GE449.out | refine below_set ?_ GE458.out | refine below_set ?_ GE462.out | refine below_set ?_ GE475.out | refine below_set ?_ GE485.out) | exact HB.out)) hb)
     clear HO_29
     clear BK449
     clear BK458
     clear BK462
     clear BK475
     clear BK485
     clear HB
     have HO_29 := n0_
     have BK449 := n1_
     have BK458 := n2_
     have BK462 := n3_
     have BK475 := n4_
     have BK485 := n5_
     have HB := n6_
     clear n0_ n1_ n2_ n3_ n4_ n5_ n6_
     (try clear hb)
     (try clear hb2)
     (try clear hk)
     (try clear hi)
     refine hK.out _ _ ⟨(blk_cell BK458.out 0).trans rfl, (blk_cell BK458.out 1).trans rfl, (blk_cell BK458.out 2).trans rfl, (blk_cell BK462.out 0).trans rfl, (blk_cell BK462.out 1).trans rfl, (blk_cell BK462.out 2).trans rfl⟩ (fun hHeld => ?_)
     clear hK K
     refine norm_ (a' := ?_) ?_ ?_
     rotate_left
     ·show Act.put _ (some 68) _ = _
      simp only [Act.put, List.setIfInBounds_toArray, List.set_cons_zero, List.set_cons_succ, i64_w, i32_w]
      rfl
     exact norm_ (by simp only [putAll, Act.put, List.setIfInBounds_toArray, List.set_cons_zero, List.set_cons_succ]) (hCont (gb485) _ ⟨hHeld, (by (with_reducible repeat (first | apply Kd.R_alloc | apply Kd.R_drewN | apply Kd.R_drew)); exact HO_29.out), (by (with_reducible repeat (first | refine blk_drewN ?_ _ | refine blk_drew ?_ | refine blk_alloc ?_ _)); exact BK449.out), (by (with_reducible repeat (first | refine blk_drewN ?_ _ | refine blk_drew ?_ | refine blk_alloc ?_ _)); exact BK458.out), (by (with_reducible repeat (first | refine blk_drewN ?_ _ | refine blk_drew ?_ | refine blk_alloc ?_ _)); exact BK462.out), (by (with_reducible repeat (first | refine blk_drewN ?_ _ | refine blk_drew ?_ | refine blk_alloc ?_ _)); exact BK475.out), (by (with_reducible repeat (first | refine blk_drewN ?_ _ | refine blk_drew ?_ | refine blk_alloc ?_ _)); exact BK485.out), GW485.out, GE485.out, NB449_485.out, NB485_449.out, NB458_485.out, NB485_458.out, NB462_485.out, NB485_462.out, NB475_485.out, NB485_475.out, (by repeat (first | (with_reducible first | exact HB.out | apply below_alloc | apply pw_below_drewN | apply below_drew1 | refine below_set ?_ GE449.out | refine below_set ?_ GE458.out | refine below_set ?_ GE462.out | refine below_set ?_ GE475.out | refine below_set ?_ GE485.out) | exact HB.out))⟩)
    rintro gb485 w58 ⟨hS_, h0_, h1_, h2_, h3_, h4_, h5_, h6_, h7_, h8_, h9_, h10_, h11_, h12_, h13_, h14_, h15_, h16_⟩
    have n0_ : Aside0 (Kd.R (Kd.int .i64) 3 w58 w.heap.size (fun _ => True) (.slice Ao12 y451.length co12) y451) := ⟨h0_⟩
    have n1_ : Aside0 (w58.heap[gb449]? = some (.cells #[.int .i64 a0_0, .int .i64 a0_1, .int .i64 a0_2, .int .i64 a0_3, .int .i64 a0_4, .int .i64 a0_5, .int .i64 a0_6, .int .i64 a0_7, .int .i64 a0_8] 25 (0, 0))) := ⟨h1_⟩
    have n2_ : Aside0 (w58.heap[gb458]? = some (.cells #[.int .i64 t455, .int .i64 t456, .int .i64 t457] 23 (0, 0))) := ⟨h2_⟩
    have n3_ : Aside0 (w58.heap[gb462]? = some (.cells #[.int .i64 t459, .int .i64 t460, .int .i64 t461] 23 (0, 0))) := ⟨h3_⟩
    have n4_ : Aside0 (w58.heap[gb475]? = some (.cells #[.int .i64 t472, .int .i64 t473, .int .i64 t474] 23 (0, 0))) := ⟨h4_⟩
    have n5_ : Aside0 (w58.heap[gb485]? = some (.cells #[.int .i64 0, .int .i64 0, .int .i64 0] 23 (0, 0))) := ⟨h5_⟩
    have n6_ : Aside0 (w.heap.size ≤ gb485) := ⟨h6_⟩
    have GE485 : Aside0 (w.heap.size ≤ gb485) := ⟨h7_⟩
    have NB449_485 : Aside0 (gb449 ≠ gb485) := ⟨h8_⟩
    have NB485_449 : Aside0 (gb485 ≠ gb449) := ⟨h9_⟩
    have NB458_485 : Aside0 (gb458 ≠ gb485) := ⟨h10_⟩
    have NB485_458 : Aside0 (gb485 ≠ gb458) := ⟨h11_⟩
    have NB462_485 : Aside0 (gb462 ≠ gb485) := ⟨h12_⟩
    have NB485_462 : Aside0 (gb485 ≠ gb462) := ⟨h13_⟩
    have NB475_485 : Aside0 (gb475 ≠ gb485) := ⟨h14_⟩
    have NB485_475 : Aside0 (gb485 ≠ gb475) := ⟨h15_⟩
    have n16_ : Aside0 (Below w.heap.size w w58) := ⟨h16_⟩
    clear HO_29
    clear BK449
    clear BK458
    clear BK462
    clear BK475
    clear HB
    clear h0_ h1_ h2_ h3_ h4_ h5_ h6_ h7_ h8_ h9_ h10_ h11_ h12_ h13_ h14_ h15_ h16_
    have HO_29 := n0_
    have BK449 := n1_
    have BK458 := n2_
    have BK462 := n3_
    have BK475 := n4_
    have BK485 := n5_
    have GW485 := n6_
    have HB := n16_
    clear n0_ n1_ n2_ n3_ n4_ n5_ n6_ n16_
    have hHeld : w58.cell? ⟨gb458, 0, none⟩ = some (.int .i64 t455) ∧ w58.cell? ⟨gb458, 1, none⟩ = some (.int .i64 t456) ∧ w58.cell? ⟨gb458, 2, none⟩ = some (.int .i64 t457) ∧ w58.cell? ⟨gb462, 0, none⟩ = some (.int .i64 t459) ∧ w58.cell? ⟨gb462, 1, none⟩ = some (.int .i64 t460) ∧ w58.cell? ⟨gb462, 2, none⟩ = some (.int .i64 t461) := hS_
    refine norm_ (a' := ?_) ?_ ?_
    rotate_left
    ·simp only [putAll, Act.put, List.setIfInBounds_toArray, List.set_cons_zero, List.set_cons_succ]
     rfl
    refine one_ (i := 8) (N := none) #[true, true, true, true, true, true, true, true, true] rfl rfl (one_of HT_.out (by kernel_rfl)) (by decide) (fun K hK => ?_)
    have hs59 : w58.cell? ⟨gb485, 0, none⟩ = some (.int .i64 0) := (blk_cell BK485.out 0).trans rfl
    have hfs59 := blk_frozen BK485.out 0
    have hns59_0 := NB449_485.out
    have hns59_1 := NB458_485.out
    have hns59_2 := NB462_485.out
    have hns59_3 := NB475_485.out
    have hms59_0 := NB485_449.out
    have hms59_1 := NB485_458.out
    have hms59_2 := NB485_462.out
    have hms59_3 := NB485_475.out
    have hs60 : w58.cell? ⟨gb485, 1, none⟩ = some (.int .i64 0) := (blk_cell BK485.out 1).trans rfl
    have hfs60 := blk_frozen BK485.out 1
    have hns60_0 := NB449_485.out
    have hns60_1 := NB458_485.out
    have hns60_2 := NB462_485.out
    have hns60_3 := NB475_485.out
    have hms60_0 := NB485_449.out
    have hms60_1 := NB485_458.out
    have hms60_2 := NB485_462.out
    have hms60_3 := NB485_475.out
    have hs61 : w58.cell? ⟨gb485, 2, none⟩ = some (.int .i64 0) := (blk_cell BK485.out 2).trans rfl
    have hfs61 := blk_frozen BK485.out 2
    have hns61_0 := NB449_485.out
    have hns61_1 := NB458_485.out
    have hns61_2 := NB462_485.out
    have hns61_3 := NB475_485.out
    have hms61_0 := NB485_449.out
    have hms61_1 := NB485_458.out
    have hms61_2 := NB485_462.out
    have hms61_3 := NB485_475.out
    refine skip_ (w1 := ?_) (by rfl) rfl ?_ ?_
    rotate_left
    ·go_simp
     rfl
    refine hK.out _ _ ⟨((cell_far (p := ⟨gb485, _, none⟩) NB458_485.out _).trans (((cell_far (p := ⟨gb485, _, none⟩) NB458_485.out _).trans (((cell_far (p := ⟨gb485, _, none⟩) NB458_485.out _).trans (hHeld.1)))))), ((cell_far (p := ⟨gb485, _, none⟩) NB458_485.out _).trans (((cell_far (p := ⟨gb485, _, none⟩) NB458_485.out _).trans (((cell_far (p := ⟨gb485, _, none⟩) NB458_485.out _).trans (hHeld.2.1)))))), ((cell_far (p := ⟨gb485, _, none⟩) NB458_485.out _).trans (((cell_far (p := ⟨gb485, _, none⟩) NB458_485.out _).trans (((cell_far (p := ⟨gb485, _, none⟩) NB458_485.out _).trans (hHeld.2.2.1)))))), ((cell_far (p := ⟨gb485, _, none⟩) NB462_485.out _).trans (((cell_far (p := ⟨gb485, _, none⟩) NB462_485.out _).trans (((cell_far (p := ⟨gb485, _, none⟩) NB462_485.out _).trans (hHeld.2.2.2.1)))))), ((cell_far (p := ⟨gb485, _, none⟩) NB462_485.out _).trans (((cell_far (p := ⟨gb485, _, none⟩) NB462_485.out _).trans (((cell_far (p := ⟨gb485, _, none⟩) NB462_485.out _).trans (hHeld.2.2.2.2.1)))))), ((cell_far (p := ⟨gb485, _, none⟩) NB462_485.out _).trans (((cell_far (p := ⟨gb485, _, none⟩) NB462_485.out _).trans (((cell_far (p := ⟨gb485, _, none⟩) NB462_485.out _).trans (hHeld.2.2.2.2.2))))))⟩ (fun hHeld => ?_)
    clear hK K
    refine done_ (done_of HT_.out (by kernel_rfl)) ?_
    have hnb62 := NB475_449.out
    have hnc62 := NB449_475.out
    have hnb63 := NB475_458.out
    have hnc63 := NB458_475.out
    have hnb64 := NB475_462.out
    have hnc64 := NB462_475.out
    have hnb65 := NB475_485.out
    have hnc65 := NB485_475.out
    have hcz66_0 : w58.cell? ⟨gb475, 0, none⟩ = some (.int .i64 t472) := (blk_cell BK475.out 0).trans rfl
    have hcz66_1 : w58.cell? ⟨gb475, 1, none⟩ = some (.int .i64 t473) := (blk_cell BK475.out 1).trans rfl
    have hcz66_2 : w58.cell? ⟨gb475, 2, none⟩ = some (.int .i64 t474) := (blk_cell BK475.out 2).trans rfl
    have hfz66_0 := blk_frozen BK475.out 0
    have hfz66_1 := blk_frozen BK475.out 1
    have hfz66_2 := blk_frozen BK475.out 2
    have hnb67 := NB485_449.out
    have hnc67 := NB449_485.out
    have hnb68 := NB485_458.out
    have hnc68 := NB458_485.out
    have hnb69 := NB485_462.out
    have hnc69 := NB462_485.out
    have hcz70_0 : w58.cell? ⟨gb485, 0, none⟩ = some (.int .i64 0) := (blk_cell BK485.out 0).trans rfl
    have hcz70_1 : w58.cell? ⟨gb485, 1, none⟩ = some (.int .i64 0) := (blk_cell BK485.out 1).trans rfl
    have hcz70_2 : w58.cell? ⟨gb485, 2, none⟩ = some (.int .i64 0) := (blk_cell BK485.out 2).trans rfl
    have hfz70_0 := blk_frozen BK485.out 0
    have hfz70_1 := blk_frozen BK485.out 1
    have hfz70_2 := blk_frozen BK485.out 2
    have hcz71_0 : w58.cell? ⟨gb449, 0, none⟩ = some (.int .i64 a0_0) := (blk_cell BK449.out 0).trans rfl
    have hcz71_1 : w58.cell? ⟨gb449, 1, none⟩ = some (.int .i64 a0_1) := (blk_cell BK449.out 1).trans rfl
    have hcz71_2 : w58.cell? ⟨gb449, 2, none⟩ = some (.int .i64 a0_2) := (blk_cell BK449.out 2).trans rfl
    have hcz71_3 : w58.cell? ⟨gb449, 3, none⟩ = some (.int .i64 a0_3) := (blk_cell BK449.out 3).trans rfl
    have hcz71_4 : w58.cell? ⟨gb449, 4, none⟩ = some (.int .i64 a0_4) := (blk_cell BK449.out 4).trans rfl
    have hcz71_5 : w58.cell? ⟨gb449, 5, none⟩ = some (.int .i64 a0_5) := (blk_cell BK449.out 5).trans rfl
    have hcz71_6 : w58.cell? ⟨gb449, 6, none⟩ = some (.int .i64 a0_6) := (blk_cell BK449.out 6).trans rfl
    have hcz71_7 : w58.cell? ⟨gb449, 7, none⟩ = some (.int .i64 a0_7) := (blk_cell BK449.out 7).trans rfl
    have hcz71_8 : w58.cell? ⟨gb449, 8, none⟩ = some (.int .i64 a0_8) := (blk_cell BK449.out 8).trans rfl
    have hfz71_0 := blk_frozen BK449.out 0
    have hfz71_1 := blk_frozen BK449.out 1
    have hfz71_2 := blk_frozen BK449.out 2
    have hfz71_3 := blk_frozen BK449.out 3
    have hfz71_4 := blk_frozen BK449.out 4
    have hfz71_5 := blk_frozen BK449.out 5
    have hfz71_6 := blk_frozen BK449.out 6
    have hfz71_7 := blk_frozen BK449.out 7
    have hfz71_8 := blk_frozen BK449.out 8
    go_upto_region 15 with (first | ((with_reducible refine gate_callee (f := 20) rfl ?_); refine goesL_ (some 73) rfl rfl Try.func20 (by kernel_rfl) rfl #[.agg #[.int .i64 t472, .int .i64 t473, .int .i64 t474], .agg #[.int .i64 t482, .int .i64 t483, .int .i64 t484], .agg #[.int .i64 a0_0, .int .i64 a0_1, .int .i64 a0_2, .int .i64 a0_3, .int .i64 a0_4, .int .i64 a0_5, .int .i64 a0_6, .int .i64 a0_7, .int .i64 a0_8]] rfl (by (try simp only [List.map_toArray, List.map_cons, List.map_nil]); first | done | rfl | (simp only [List.length_drop, List.length_take]; rfl)) ?_; (with_reducible refine (side_Meet.calls k1 t472 t473 t474 t482 t483 t484 a0_0 a0_1 a0_2 a0_3 a0_4 a0_5 a0_6 a0_7 a0_8 t486 t487 t488 t489 t490 t491 t492 _ A27.out).mono ?_); rintro e w72 ⟨rfl, hb⟩; refine ⟨_, rfl, ?_⟩; have n0_ := Aside0.mk (Kd.R_below (by (with_reducible repeat (first | apply Kd.R_alloc | apply Kd.R_drewN | apply Kd.R_drew)); exact (Kd.R_mono (Kd.R_far (p := ⟨gb485, 2, none⟩) (Kd.R_far (p := ⟨gb485, 1, none⟩) (Kd.R_far (p := ⟨gb485, 0, none⟩) (Kd.R_types HO_29.out BK485.out (by decide)) (fun _ hk => hk.2) (.int .i64 t482)) (fun _ hk => hk.2) (.int .i64 t483)) (fun _ hk => hk.2) (.int .i64 t484)) (fun _ h_ => h_.1))) hb); have n1_ := Aside0.mk (blk_below (g := gb449) (o := .cells #[.int .i64 a0_0, .int .i64 a0_1, .int .i64 a0_2, .int .i64 a0_3, .int .i64 a0_4, .int .i64 a0_5, .int .i64 a0_6, .int .i64 a0_7, .int .i64 a0_8] 25 (0, 0)) (by (with_reducible repeat (first | refine blk_drewN ?_ _ | refine blk_drew ?_ | refine blk_alloc ?_ _)); refine blk_far ?_ NB449_485.out _; (with_reducible repeat (first | refine blk_drewN ?_ _ | refine blk_drew ?_ | refine blk_alloc ?_ _)); refine blk_far ?_ NB449_485.out _; (with_reducible repeat (first | refine blk_drewN ?_ _ | refine blk_drew ?_ | refine blk_alloc ?_ _)); refine blk_far ?_ NB449_485.out _; (with_reducible repeat (first | refine blk_drewN ?_ _ | refine blk_drew ?_ | refine blk_alloc ?_ _)); exact BK449.out) hb); have n2_ := Aside0.mk (blk_below (g := gb458) (o := .cells #[.int .i64 t455, .int .i64 t456, .int .i64 t457] 23 (0, 0)) (by (with_reducible repeat (first | refine blk_drewN ?_ _ | refine blk_drew ?_ | refine blk_alloc ?_ _)); refine blk_far ?_ NB458_485.out _; (with_reducible repeat (first | refine blk_drewN ?_ _ | refine blk_drew ?_ | refine blk_alloc ?_ _)); refine blk_far ?_ NB458_485.out _; (with_reducible repeat (first | refine blk_drewN ?_ _ | refine blk_drew ?_ | refine blk_alloc ?_ _)); refine blk_far ?_ NB458_485.out _; (with_reducible repeat (first | refine blk_drewN ?_ _ | refine blk_drew ?_ | refine blk_alloc ?_ _)); exact BK458.out) hb); have n3_ := Aside0.mk (blk_below (g := gb462) (o := .cells #[.int .i64 t459, .int .i64 t460, .int .i64 t461] 23 (0, 0)) (by (with_reducible repeat (first | refine blk_drewN ?_ _ | refine blk_drew ?_ | refine blk_alloc ?_ _)); refine blk_far ?_ NB462_485.out _; (with_reducible repeat (first | refine blk_drewN ?_ _ | refine blk_drew ?_ | refine blk_alloc ?_ _)); refine blk_far ?_ NB462_485.out _; (with_reducible repeat (first | refine blk_drewN ?_ _ | refine blk_drew ?_ | refine blk_alloc ?_ _)); refine blk_far ?_ NB462_485.out _; (with_reducible repeat (first | refine blk_drewN ?_ _ | refine blk_drew ?_ | refine blk_alloc ?_ _)); exact BK462.out) hb); have n4_ := Aside0.mk (blk_below (g := gb475) (o := .cells #[.int .i64 t472, .int .i64 t473, .int .i64 t474] 23 (0, 0)) (by (with_reducible repeat (first | refine blk_drewN ?_ _ | refine blk_drew ?_ | refine blk_alloc ?_ _)); refine blk_far ?_ NB475_485.out _; (with_reducible repeat (first | refine blk_drewN ?_ _ | refine blk_drew ?_ | refine blk_alloc ?_ _)); refine blk_far ?_ NB475_485.out _; (with_reducible repeat (first | refine blk_drewN ?_ _ | refine blk_drew ?_ | refine blk_alloc ?_ _)); refine blk_far ?_ NB475_485.out _; (with_reducible repeat (first | refine blk_drewN ?_ _ | refine blk_drew ?_ | refine blk_alloc ?_ _)); exact BK475.out) hb); have n5_ := Aside0.mk (blk_below (g := gb485) (o := .cells #[.int .i64 t482, .int .i64 t483, .int .i64 t484] 23 (0, 0)) (by (with_reducible repeat (first | refine blk_drewN ?_ _ | refine blk_drew ?_ | refine blk_alloc ?_ _)); refine blk_put (cs := #[.int .i64 t482, .int .i64 t483, .int .i64 0]) ?_ 2 _ rfl; (with_reducible repeat (first | refine blk_drewN ?_ _ | refine blk_drew ?_ | refine blk_alloc ?_ _)); refine blk_put (cs := #[.int .i64 t482, .int .i64 0, .int .i64 0]) ?_ 1 _ rfl; (with_reducible repeat (first | refine blk_drewN ?_ _ | refine blk_drew ?_ | refine blk_alloc ?_ _)); refine blk_put (cs := #[.int .i64 0, .int .i64 0, .int .i64 0]) ?_ 0 _ rfl; (with_reducible repeat (first | refine blk_drewN ?_ _ | refine blk_drew ?_ | refine blk_alloc ?_ _)); exact BK485.out) hb); have n6_ := Aside0.mk (below_step (by repeat (first | (with_reducible first | exact HB.out | apply below_alloc | apply pw_below_drewN | apply below_drew1 | refine below_set ?_ GE449.out | refine below_set ?_ GE458.out | refine below_set ?_ GE462.out | refine below_set ?_ GE475.out | refine below_set ?_ GE485.out) | exact HB.out)) hb); clear HO_29; clear BK449; clear BK458; clear BK462; clear BK475; clear BK485; clear HB; have HO_29 := n0_; have BK449 := n1_; have BK458 := n2_; have BK462 := n3_; have BK475 := n4_; have BK485 := n5_; have HB := n6_; clear n0_ n1_ n2_ n3_ n4_ n5_ n6_; (try clear hb); (try clear hb2); (try clear hk); (try clear hi)) | ((with_reducible refine gate_dst (N := 17) rfl ?_); refine box_event ?hg (N := 17) ?hd (cs := #[.int .i64 0, .int .i64 0, .bool false, .int .i64 0, .int .i64 0]) (t := 30) ?hr ?_; (case hd => rfl); (case hg => rfl); (case hr => first | (go_simp; done) | (go_simp; rfl)); intro gb493 hg w73 hbox hb; have n0_ := Aside0.mk (Kd.R_below (by (with_reducible repeat (first | apply Kd.R_alloc | apply Kd.R_drewN | apply Kd.R_drew)); exact HO_29.out) hb); have n1_ := Aside0.mk (blk_below (g := gb449) (o := .cells #[.int .i64 a0_0, .int .i64 a0_1, .int .i64 a0_2, .int .i64 a0_3, .int .i64 a0_4, .int .i64 a0_5, .int .i64 a0_6, .int .i64 a0_7, .int .i64 a0_8] 25 (0, 0)) (by (with_reducible repeat (first | refine blk_drewN ?_ _ | refine blk_drew ?_ | refine blk_alloc ?_ _)); exact BK449.out) hb); have n2_ := Aside0.mk (blk_below (g := gb458) (o := .cells #[.int .i64 t455, .int .i64 t456, .int .i64 t457] 23 (0, 0)) (by (with_reducible repeat (first | refine blk_drewN ?_ _ | refine blk_drew ?_ | refine blk_alloc ?_ _)); exact BK458.out) hb); have n3_ := Aside0.mk (blk_below (g := gb462) (o := .cells #[.int .i64 t459, .int .i64 t460, .int .i64 t461] 23 (0, 0)) (by (with_reducible repeat (first | refine blk_drewN ?_ _ | refine blk_drew ?_ | refine blk_alloc ?_ _)); exact BK462.out) hb); have n4_ := Aside0.mk (blk_below (g := gb475) (o := .cells #[.int .i64 t472, .int .i64 t473, .int .i64 t474] 23 (0, 0)) (by (with_reducible repeat (first | refine blk_drewN ?_ _ | refine blk_drew ?_ | refine blk_alloc ?_ _)); exact BK475.out) hb); have n5_ := Aside0.mk (blk_below (g := gb485) (o := .cells #[.int .i64 t482, .int .i64 t483, .int .i64 t484] 23 (0, 0)) (by (with_reducible repeat (first | refine blk_drewN ?_ _ | refine blk_drew ?_ | refine blk_alloc ?_ _)); exact BK485.out) hb); have n6_ := Aside0.mk (below_step (by repeat (first | (with_reducible first | exact HB.out | apply below_alloc | apply pw_below_drewN | apply below_drew1 | refine below_set ?_ GE449.out | refine below_set ?_ GE458.out | refine below_set ?_ GE462.out | refine below_set ?_ GE475.out | refine below_set ?_ GE485.out) | exact HB.out)) hb); have n7_ := Aside0.mk (hbox); have n8_ := Aside0.mk ((by rw [hg]; exact (below_size (by repeat (first | (with_reducible first | exact HB.out | apply below_alloc | apply pw_below_drewN | apply below_drew1 | refine below_set ?_ GE449.out | refine below_set ?_ GE458.out | refine below_set ?_ GE462.out | refine below_set ?_ GE475.out | refine below_set ?_ GE485.out) | exact HB.out))) : w.heap.size ≤ gb493)); have n9_ := Aside0.mk ((by rw [hg]; exact (below_size (by repeat (first | (with_reducible first | exact HB.out | apply below_alloc | apply pw_below_drewN | apply below_drew1 | refine below_set ?_ GE449.out | refine below_set ?_ GE458.out | refine below_set ?_ GE462.out | refine below_set ?_ GE475.out | refine below_set ?_ GE485.out) | exact HB.out))) : w.heap.size ≤ gb493)); have n10_ := Aside0.mk ((by rw [hg]; exact Nat.ne_of_lt (blk_lt (g := gb449) (o := .cells #[.int .i64 a0_0, .int .i64 a0_1, .int .i64 a0_2, .int .i64 a0_3, .int .i64 a0_4, .int .i64 a0_5, .int .i64 a0_6, .int .i64 a0_7, .int .i64 a0_8] 25 (0, 0)) (by (with_reducible repeat (first | refine blk_drewN ?_ _ | refine blk_drew ?_ | refine blk_alloc ?_ _)); exact BK449.out)) : gb449 ≠ gb493)); have n11_ := Aside0.mk ((by rw [hg]; exact Nat.ne_of_gt (blk_lt (g := gb449) (o := .cells #[.int .i64 a0_0, .int .i64 a0_1, .int .i64 a0_2, .int .i64 a0_3, .int .i64 a0_4, .int .i64 a0_5, .int .i64 a0_6, .int .i64 a0_7, .int .i64 a0_8] 25 (0, 0)) (by (with_reducible repeat (first | refine blk_drewN ?_ _ | refine blk_drew ?_ | refine blk_alloc ?_ _)); exact BK449.out)) : gb493 ≠ gb449)); have n12_ := Aside0.mk ((by rw [hg]; exact Nat.ne_of_lt (blk_lt (g := gb458) (o := .cells #[.int .i64 t455, .int .i64 t456, .int .i64 t457] 23 (0, 0)) (by (with_reducible repeat (first | refine blk_drewN ?_ _ | refine blk_drew ?_ | refine blk_alloc ?_ _)); exact BK458.out)) : gb458 ≠ gb493)); have n13_ := Aside0.mk ((by rw [hg]; exact Nat.ne_of_gt (blk_lt (g := gb458) (o := .cells #[.int .i64 t455, .int .i64 t456, .int .i64 t457] 23 (0, 0)) (by (with_reducible repeat (first | refine blk_drewN ?_ _ | refine blk_drew ?_ | refine blk_alloc ?_ _)); exact BK458.out)) : gb493 ≠ gb458)); have n14_ := Aside0.mk ((by rw [hg]; exact Nat.ne_of_lt (blk_lt (g := gb462) (o := .cells #[.int .i64 t459, .int .i64 t460, .int .i64 t461] 23 (0, 0)) (by (with_reducible repeat (first | refine blk_drewN ?_ _ | refine blk_drew ?_ | refine blk_alloc ?_ _)); exact BK462.out)) : gb462 ≠ gb493)); have n15_ := Aside0.mk ((by rw [hg]; exact Nat.ne_of_gt (blk_lt (g := gb462) (o := .cells #[.int .i64 t459, .int .i64 t460, .int .i64 t461] 23 (0, 0)) (by (with_reducible repeat (first | refine blk_drewN ?_ _ | refine blk_drew ?_ | refine blk_alloc ?_ _)); exact BK462.out)) : gb493 ≠ gb462)); have n16_ := Aside0.mk ((by rw [hg]; exact Nat.ne_of_lt (blk_lt (g := gb475) (o := .cells #[.int .i64 t472, .int .i64 t473, .int .i64 t474] 23 (0, 0)) (by (with_reducible repeat (first | refine blk_drewN ?_ _ | refine blk_drew ?_ | refine blk_alloc ?_ _)); exact BK475.out)) : gb475 ≠ gb493)); have n17_ := Aside0.mk ((by rw [hg]; exact Nat.ne_of_gt (blk_lt (g := gb475) (o := .cells #[.int .i64 t472, .int .i64 t473, .int .i64 t474] 23 (0, 0)) (by (with_reducible repeat (first | refine blk_drewN ?_ _ | refine blk_drew ?_ | refine blk_alloc ?_ _)); exact BK475.out)) : gb493 ≠ gb475)); have n18_ := Aside0.mk ((by rw [hg]; exact Nat.ne_of_lt (blk_lt (g := gb485) (o := .cells #[.int .i64 t482, .int .i64 t483, .int .i64 t484] 23 (0, 0)) (by (with_reducible repeat (first | refine blk_drewN ?_ _ | refine blk_drew ?_ | refine blk_alloc ?_ _)); exact BK485.out)) : gb485 ≠ gb493)); have n19_ := Aside0.mk ((by rw [hg]; exact Nat.ne_of_gt (blk_lt (g := gb485) (o := .cells #[.int .i64 t482, .int .i64 t483, .int .i64 t484] 23 (0, 0)) (by (with_reducible repeat (first | refine blk_drewN ?_ _ | refine blk_drew ?_ | refine blk_alloc ?_ _)); exact BK485.out)) : gb493 ≠ gb485)); clear HO_29; clear BK449; clear BK458; clear BK462; clear BK475; clear BK485; clear HB; have HO_29 := n0_; have BK449 := n1_; have BK458 := n2_; have BK462 := n3_; have BK475 := n4_; have BK485 := n5_; have HB := n6_; have BK493 := n7_; have GW493 := n8_; have GE493 := n9_; have NB449_493 := n10_; have NB493_449 := n11_; have NB458_493 := n12_; have NB493_458 := n13_; have NB462_493 := n14_; have NB493_462 := n15_; have NB475_493 := n16_; have NB493_475 := n17_; have NB485_493 := n18_; have NB493_485 := n19_; clear n0_ n1_ n2_ n3_ n4_ n5_ n6_ n7_ n8_ n9_ n10_ n11_ n12_ n13_ n14_ n15_ n16_ n17_ n18_ n19_; clear hb hbox hg; have hnb74 := NB493_449.out; have hnc74 := NB449_493.out; have hnb75 := NB493_458.out; have hnc75 := NB458_493.out; have hnb76 := NB493_462.out; have hnc76 := NB462_493.out; have hnb77 := NB493_475.out; have hnc77 := NB475_493.out; have hnb78 := NB493_485.out; have hnc78 := NB485_493.out; have hcz79_0 : w73.cell? ⟨gb493, 0, none⟩ = some (.int .i64 0) := (blk_cell BK493.out 0).trans rfl; have hcz79_1 : w73.cell? ⟨gb493, 1, none⟩ = some (.int .i64 0) := (blk_cell BK493.out 1).trans rfl; have hcz79_2 : w73.cell? ⟨gb493, 2, none⟩ = some (.bool false) := (blk_cell BK493.out 2).trans rfl; have hcz79_3 : w73.cell? ⟨gb493, 3, none⟩ = some (.int .i64 0) := (blk_cell BK493.out 3).trans rfl; have hcz79_4 : w73.cell? ⟨gb493, 4, none⟩ = some (.int .i64 0) := (blk_cell BK493.out 4).trans rfl; have hfz79_0 := blk_frozen BK493.out 0; have hfz79_1 := blk_frozen BK493.out 1; have hfz79_2 := blk_frozen BK493.out 2; have hfz79_3 := blk_frozen BK493.out 3; have hfz79_4 := blk_frozen BK493.out 4; have hcz80_0 : w73.cell? ⟨gb449, 0, none⟩ = some (.int .i64 a0_0) := (blk_cell BK449.out 0).trans rfl; have hcz80_1 : w73.cell? ⟨gb449, 1, none⟩ = some (.int .i64 a0_1) := (blk_cell BK449.out 1).trans rfl; have hcz80_2 : w73.cell? ⟨gb449, 2, none⟩ = some (.int .i64 a0_2) := (blk_cell BK449.out 2).trans rfl; have hcz80_3 : w73.cell? ⟨gb449, 3, none⟩ = some (.int .i64 a0_3) := (blk_cell BK449.out 3).trans rfl; have hcz80_4 : w73.cell? ⟨gb449, 4, none⟩ = some (.int .i64 a0_4) := (blk_cell BK449.out 4).trans rfl; have hcz80_5 : w73.cell? ⟨gb449, 5, none⟩ = some (.int .i64 a0_5) := (blk_cell BK449.out 5).trans rfl; have hcz80_6 : w73.cell? ⟨gb449, 6, none⟩ = some (.int .i64 a0_6) := (blk_cell BK449.out 6).trans rfl; have hcz80_7 : w73.cell? ⟨gb449, 7, none⟩ = some (.int .i64 a0_7) := (blk_cell BK449.out 7).trans rfl; have hcz80_8 : w73.cell? ⟨gb449, 8, none⟩ = some (.int .i64 a0_8) := (blk_cell BK449.out 8).trans rfl; have hfz80_0 := blk_frozen BK449.out 0; have hfz80_1 := blk_frozen BK449.out 1; have hfz80_2 := blk_frozen BK449.out 2; have hfz80_3 := blk_frozen BK449.out 3; have hfz80_4 := blk_frozen BK449.out 4; have hfz80_5 := blk_frozen BK449.out 5; have hfz80_6 := blk_frozen BK449.out 6; have hfz80_7 := blk_frozen BK449.out 7; have hfz80_8 := blk_frozen BK449.out 8) | ((with_reducible refine gate_callee (f := 20) rfl ?_); refine goesL_ (some 88) rfl rfl Try.func20 (by kernel_rfl) rfl #[.agg #[.int .i64 a0_0, .int .i64 a0_1, .int .i64 a0_2], .agg #[.int .i64 1, .int .i64 2, .int .i64 3], .agg #[.int .i64 a0_0, .int .i64 a0_1, .int .i64 a0_2, .int .i64 a0_0, .int .i64 a0_1, .int .i64 a0_2, .int .i64 a0_6, .int .i64 a0_7, .int .i64 a0_8]] rfl (by (try simp only [List.map_toArray, List.map_cons, List.map_nil]); first | done | rfl | (simp only [List.length_drop, List.length_take]; rfl)) ?_; (with_reducible refine (side_Meet.calls k1 a0_0 a0_1 a0_2 1 2 3 a0_0 a0_1 a0_2 a0_0 a0_1 a0_2 a0_6 a0_7 a0_8 t494 t495 t496 t497 t498 t499 t500 _ A28.out).mono ?_); rintro e w81 ⟨rfl, hb⟩; refine ⟨_, rfl, ?_⟩; have n0_ := Aside0.mk (Kd.R_below (by (with_reducible repeat (first | apply Kd.R_alloc | apply Kd.R_drewN | apply Kd.R_drew)); exact (Kd.R_mono (Kd.R_far (p := ⟨gb493, 4, none⟩) (Kd.R_far (p := ⟨gb493, 3, none⟩) (Kd.R_far (p := ⟨gb493, 2, none⟩) (Kd.R_far (p := ⟨gb493, 1, none⟩) (Kd.R_far (p := ⟨gb493, 0, none⟩) (Kd.R_types HO_29.out BK493.out (by decide)) (fun _ hk => hk.2) (.int .i64 t486)) (fun _ hk => hk.2) (.int .i64 t487)) (fun _ hk => hk.2) (.bool t488)) (fun _ hk => hk.2) (.int .i64 t489)) (fun _ hk => hk.2) (.int .i64 t490)) (fun _ h_ => h_.1))) hb); have n1_ := Aside0.mk (blk_below (g := gb449) (o := .cells #[.int .i64 a0_0, .int .i64 a0_1, .int .i64 a0_2, .int .i64 a0_3, .int .i64 a0_4, .int .i64 a0_5, .int .i64 a0_6, .int .i64 a0_7, .int .i64 a0_8] 25 (0, 0)) (by (with_reducible repeat (first | refine blk_drewN ?_ _ | refine blk_drew ?_ | refine blk_alloc ?_ _)); refine blk_far ?_ NB449_493.out _; (with_reducible repeat (first | refine blk_drewN ?_ _ | refine blk_drew ?_ | refine blk_alloc ?_ _)); refine blk_far ?_ NB449_493.out _; (with_reducible repeat (first | refine blk_drewN ?_ _ | refine blk_drew ?_ | refine blk_alloc ?_ _)); refine blk_far ?_ NB449_493.out _; (with_reducible repeat (first | refine blk_drewN ?_ _ | refine blk_drew ?_ | refine blk_alloc ?_ _)); refine blk_far ?_ NB449_493.out _; (with_reducible repeat (first | refine blk_drewN ?_ _ | refine blk_drew ?_ | refine blk_alloc ?_ _)); refine blk_far ?_ NB449_493.out _; (with_reducible repeat (first | refine blk_drewN ?_ _ | refine blk_drew ?_ | refine blk_alloc ?_ _)); exact BK449.out) hb); have n2_ := Aside0.mk (blk_below (g := gb458) (o := .cells #[.int .i64 t455, .int .i64 t456, .int .i64 t457] 23 (0, 0)) (by (with_reducible repeat (first | refine blk_drewN ?_ _ | refine blk_drew ?_ | refine blk_alloc ?_ _)); refine blk_far ?_ NB458_493.out _; (with_reducible repeat (first | refine blk_drewN ?_ _ | refine blk_drew ?_ | refine blk_alloc ?_ _)); refine blk_far ?_ NB458_493.out _; (with_reducible repeat (first | refine blk_drewN ?_ _ | refine blk_drew ?_ | refine blk_alloc ?_ _)); refine blk_far ?_ NB458_493.out _; (with_reducible repeat (first | refine blk_drewN ?_ _ | refine blk_drew ?_ | refine blk_alloc ?_ _)); refine blk_far ?_ NB458_493.out _; (with_reducible repeat (first | refine blk_drewN ?_ _ | refine blk_drew ?_ | refine blk_alloc ?_ _)); refine blk_far ?_ NB458_493.out _; (with_reducible repeat (first | refine blk_drewN ?_ _ | refine blk_drew ?_ | refine blk_alloc ?_ _)); exact BK458.out) hb); have n3_ := Aside0.mk (blk_below (g := gb462) (o := .cells #[.int .i64 t459, .int .i64 t460, .int .i64 t461] 23 (0, 0)) (by (with_reducible repeat (first | refine blk_drewN ?_ _ | refine blk_drew ?_ | refine blk_alloc ?_ _)); refine blk_far ?_ NB462_493.out _; (with_reducible repeat (first | refine blk_drewN ?_ _ | refine blk_drew ?_ | refine blk_alloc ?_ _)); refine blk_far ?_ NB462_493.out _; (with_reducible repeat (first | refine blk_drewN ?_ _ | refine blk_drew ?_ | refine blk_alloc ?_ _)); refine blk_far ?_ NB462_493.out _; (with_reducible repeat (first | refine blk_drewN ?_ _ | refine blk_drew ?_ | refine blk_alloc ?_ _)); refine blk_far ?_ NB462_493.out _; (with_reducible repeat (first | refine blk_drewN ?_ _ | refine blk_drew ?_ | refine blk_alloc ?_ _)); refine blk_far ?_ NB462_493.out _; (with_reducible repeat (first | refine blk_drewN ?_ _ | refine blk_drew ?_ | refine blk_alloc ?_ _)); exact BK462.out) hb); have n4_ := Aside0.mk (blk_below (g := gb475) (o := .cells #[.int .i64 t472, .int .i64 t473, .int .i64 t474] 23 (0, 0)) (by (with_reducible repeat (first | refine blk_drewN ?_ _ | refine blk_drew ?_ | refine blk_alloc ?_ _)); refine blk_far ?_ NB475_493.out _; (with_reducible repeat (first | refine blk_drewN ?_ _ | refine blk_drew ?_ | refine blk_alloc ?_ _)); refine blk_far ?_ NB475_493.out _; (with_reducible repeat (first | refine blk_drewN ?_ _ | refine blk_drew ?_ | refine blk_alloc ?_ _)); refine blk_far ?_ NB475_493.out _; (with_reducible repeat (first | refine blk_drewN ?_ _ | refine blk_drew ?_ | refine blk_alloc ?_ _)); refine blk_far ?_ NB475_493.out _; (with_reducible repeat (first | refine blk_drewN ?_ _ | refine blk_drew ?_ | refine blk_alloc ?_ _)); refine blk_far ?_ NB475_493.out _; (with_reducible repeat (first | refine blk_drewN ?_ _ | refine blk_drew ?_ | refine blk_alloc ?_ _)); exact BK475.out) hb); have n5_ := Aside0.mk (blk_below (g := gb485) (o := .cells #[.int .i64 t482, .int .i64 t483, .int .i64 t484] 23 (0, 0)) (by (with_reducible repeat (first | refine blk_drewN ?_ _ | refine blk_drew ?_ | refine blk_alloc ?_ _)); refine blk_far ?_ NB485_493.out _; (with_reducible repeat (first | refine blk_drewN ?_ _ | refine blk_drew ?_ | refine blk_alloc ?_ _)); refine blk_far ?_ NB485_493.out _; (with_reducible repeat (first | refine blk_drewN ?_ _ | refine blk_drew ?_ | refine blk_alloc ?_ _)); refine blk_far ?_ NB485_493.out _; (with_reducible repeat (first | refine blk_drewN ?_ _ | refine blk_drew ?_ | refine blk_alloc ?_ _)); refine blk_far ?_ NB485_493.out _; (with_reducible repeat (first | refine blk_drewN ?_ _ | refine blk_drew ?_ | refine blk_alloc ?_ _)); refine blk_far ?_ NB485_493.out _; (with_reducible repeat (first | refine blk_drewN ?_ _ | refine blk_drew ?_ | refine blk_alloc ?_ _)); exact BK485.out) hb); have n6_ := Aside0.mk (blk_below (g := gb493) (o := .cells #[.int .i64 t486, .int .i64 t487, .bool t488, .int .i64 t489, .int .i64 t490] 30 (0, 0)) (by (with_reducible repeat (first | refine blk_drewN ?_ _ | refine blk_drew ?_ | refine blk_alloc ?_ _)); refine blk_put (cs := #[.int .i64 t486, .int .i64 t487, .bool t488, .int .i64 t489, .int .i64 0]) ?_ 4 _ rfl; (with_reducible repeat (first | refine blk_drewN ?_ _ | refine blk_drew ?_ | refine blk_alloc ?_ _)); refine blk_put (cs := #[.int .i64 t486, .int .i64 t487, .bool t488, .int .i64 0, .int .i64 0]) ?_ 3 _ rfl; (with_reducible repeat (first | refine blk_drewN ?_ _ | refine blk_drew ?_ | refine blk_alloc ?_ _)); refine blk_put (cs := #[.int .i64 t486, .int .i64 t487, .bool false, .int .i64 0, .int .i64 0]) ?_ 2 _ rfl; (with_reducible repeat (first | refine blk_drewN ?_ _ | refine blk_drew ?_ | refine blk_alloc ?_ _)); refine blk_put (cs := #[.int .i64 t486, .int .i64 0, .bool false, .int .i64 0, .int .i64 0]) ?_ 1 _ rfl; (with_reducible repeat (first | refine blk_drewN ?_ _ | refine blk_drew ?_ | refine blk_alloc ?_ _)); refine blk_put (cs := #[.int .i64 0, .int .i64 0, .bool false, .int .i64 0, .int .i64 0]) ?_ 0 _ rfl; (with_reducible repeat (first | refine blk_drewN ?_ _ | refine blk_drew ?_ | refine blk_alloc ?_ _)); exact BK493.out) hb); have n7_ := Aside0.mk (below_step (by repeat (first | (with_reducible first | exact HB.out | apply below_alloc | apply pw_below_drewN | apply below_drew1 | refine below_set ?_ GE449.out | refine below_set ?_ GE458.out | refine below_set ?_ GE462.out | refine below_set ?_ GE475.out | refine below_set ?_ GE485.out | refine below_set ?_ GE493.out) | exact HB.out)) hb); clear HO_29; clear BK449; clear BK458; clear BK462; clear BK475; clear BK485; clear BK493; clear HB; have HO_29 := n0_; have BK449 := n1_; have BK458 := n2_; have BK462 := n3_; have BK475 := n4_; have BK485 := n5_; have BK493 := n6_; have HB := n7_; clear n0_ n1_ n2_ n3_ n4_ n5_ n6_ n7_; (try clear hb); (try clear hb2); (try clear hk); (try clear hi)) | ((with_reducible refine gate_dst (N := 20) rfl ?_); refine box_event ?hg (N := 20) ?hd (cs := #[.int .i64 0, .int .i64 0, .bool false, .int .i64 0, .int .i64 0]) (t := 30) ?hr ?_; (case hd => rfl); (case hg => rfl); (case hr => first | (go_simp; done) | (go_simp; rfl)); intro gb501 hg w82 hbox hb; have n0_ := Aside0.mk (Kd.R_below (by (with_reducible repeat (first | apply Kd.R_alloc | apply Kd.R_drewN | apply Kd.R_drew)); exact HO_29.out) hb); have n1_ := Aside0.mk (blk_below (g := gb449) (o := .cells #[.int .i64 a0_0, .int .i64 a0_1, .int .i64 a0_2, .int .i64 a0_3, .int .i64 a0_4, .int .i64 a0_5, .int .i64 a0_6, .int .i64 a0_7, .int .i64 a0_8] 25 (0, 0)) (by (with_reducible repeat (first | refine blk_drewN ?_ _ | refine blk_drew ?_ | refine blk_alloc ?_ _)); exact BK449.out) hb); have n2_ := Aside0.mk (blk_below (g := gb458) (o := .cells #[.int .i64 t455, .int .i64 t456, .int .i64 t457] 23 (0, 0)) (by (with_reducible repeat (first | refine blk_drewN ?_ _ | refine blk_drew ?_ | refine blk_alloc ?_ _)); exact BK458.out) hb); have n3_ := Aside0.mk (blk_below (g := gb462) (o := .cells #[.int .i64 t459, .int .i64 t460, .int .i64 t461] 23 (0, 0)) (by (with_reducible repeat (first | refine blk_drewN ?_ _ | refine blk_drew ?_ | refine blk_alloc ?_ _)); exact BK462.out) hb); have n4_ := Aside0.mk (blk_below (g := gb475) (o := .cells #[.int .i64 t472, .int .i64 t473, .int .i64 t474] 23 (0, 0)) (by (with_reducible repeat (first | refine blk_drewN ?_ _ | refine blk_drew ?_ | refine blk_alloc ?_ _)); exact BK475.out) hb); have n5_ := Aside0.mk (blk_below (g := gb485) (o := .cells #[.int .i64 t482, .int .i64 t483, .int .i64 t484] 23 (0, 0)) (by (with_reducible repeat (first | refine blk_drewN ?_ _ | refine blk_drew ?_ | refine blk_alloc ?_ _)); exact BK485.out) hb); have n6_ := Aside0.mk (blk_below (g := gb493) (o := .cells #[.int .i64 t486, .int .i64 t487, .bool t488, .int .i64 t489, .int .i64 t490] 30 (0, 0)) (by (with_reducible repeat (first | refine blk_drewN ?_ _ | refine blk_drew ?_ | refine blk_alloc ?_ _)); exact BK493.out) hb); have n7_ := Aside0.mk (below_step (by repeat (first | (with_reducible first | exact HB.out | apply below_alloc | apply pw_below_drewN | apply below_drew1 | refine below_set ?_ GE449.out | refine below_set ?_ GE458.out | refine below_set ?_ GE462.out | refine below_set ?_ GE475.out | refine below_set ?_ GE485.out | refine below_set ?_ GE493.out) | exact HB.out)) hb); have n8_ := Aside0.mk (hbox); have n9_ := Aside0.mk ((by rw [hg]; exact (below_size (by repeat (first | (with_reducible first | exact HB.out | apply below_alloc | apply pw_below_drewN | apply below_drew1 | refine below_set ?_ GE449.out | refine below_set ?_ GE458.out | refine below_set ?_ GE462.out | refine below_set ?_ GE475.out | refine below_set ?_ GE485.out | refine below_set ?_ GE493.out) | exact HB.out))) : w.heap.size ≤ gb501)); have n10_ := Aside0.mk ((by rw [hg]; exact (below_size (by repeat (first | (with_reducible first | exact HB.out | apply below_alloc | apply pw_below_drewN | apply below_drew1 | refine below_set ?_ GE449.out | refine below_set ?_ GE458.out | refine below_set ?_ GE462.out | refine below_set ?_ GE475.out | refine below_set ?_ GE485.out | refine below_set ?_ GE493.out) | exact HB.out))) : w.heap.size ≤ gb501)); have n11_ := Aside0.mk ((by rw [hg]; exact Nat.ne_of_lt (blk_lt (g := gb449) (o := .cells #[.int .i64 a0_0, .int .i64 a0_1, .int .i64 a0_2, .int .i64 a0_3, .int .i64 a0_4, .int .i64 a0_5, .int .i64 a0_6, .int .i64 a0_7, .int .i64 a0_8] 25 (0, 0)) (by (with_reducible repeat (first | refine blk_drewN ?_ _ | refine blk_drew ?_ | refine blk_alloc ?_ _)); exact BK449.out)) : gb449 ≠ gb501)); have n12_ := Aside0.mk ((by rw [hg]; exact Nat.ne_of_gt (blk_lt (g := gb449) (o := .cells #[.int .i64 a0_0, .int .i64 a0_1, .int .i64 a0_2, .int .i64 a0_3, .int .i64 a0_4, .int .i64 a0_5, .int .i64 a0_6, .int .i64 a0_7, .int .i64 a0_8] 25 (0, 0)) (by (with_reducible repeat (first | refine blk_drewN ?_ _ | refine blk_drew ?_ | refine blk_alloc ?_ _)); exact BK449.out)) : gb501 ≠ gb449)); have n13_ := Aside0.mk ((by rw [hg]; exact Nat.ne_of_lt (blk_lt (g := gb458) (o := .cells #[.int .i64 t455, .int .i64 t456, .int .i64 t457] 23 (0, 0)) (by (with_reducible repeat (first | refine blk_drewN ?_ _ | refine blk_drew ?_ | refine blk_alloc ?_ _)); exact BK458.out)) : gb458 ≠ gb501)); have n14_ := Aside0.mk ((by rw [hg]; exact Nat.ne_of_gt (blk_lt (g := gb458) (o := .cells #[.int .i64 t455, .int .i64 t456, .int .i64 t457] 23 (0, 0)) (by (with_reducible repeat (first | refine blk_drewN ?_ _ | refine blk_drew ?_ | refine blk_alloc ?_ _)); exact BK458.out)) : gb501 ≠ gb458)); have n15_ := Aside0.mk ((by rw [hg]; exact Nat.ne_of_lt (blk_lt (g := gb462) (o := .cells #[.int .i64 t459, .int .i64 t460, .int .i64 t461] 23 (0, 0)) (by (with_reducible repeat (first | refine blk_drewN ?_ _ | refine blk_drew ?_ | refine blk_alloc ?_ _)); exact BK462.out)) : gb462 ≠ gb501)); have n16_ := Aside0.mk ((by rw [hg]; exact Nat.ne_of_gt (blk_lt (g := gb462) (o := .cells #[.int .i64 t459, .int .i64 t460, .int .i64 t461] 23 (0, 0)) (by (with_reducible repeat (first | refine blk_drewN ?_ _ | refine blk_drew ?_ | refine blk_alloc ?_ _)); exact BK462.out)) : gb501 ≠ gb462)); have n17_ := Aside0.mk ((by rw [hg]; exact Nat.ne_of_lt (blk_lt (g := gb475) (o := .cells #[.int .i64 t472, .int .i64 t473, .int .i64 t474] 23 (0, 0)) (by (with_reducible repeat (first | refine blk_drewN ?_ _ | refine blk_drew ?_ | refine blk_alloc ?_ _)); exact BK475.out)) : gb475 ≠ gb501)); have n18_ := Aside0.mk ((by rw [hg]; exact Nat.ne_of_gt (blk_lt (g := gb475) (o := .cells #[.int .i64 t472, .int .i64 t473, .int .i64 t474] 23 (0, 0)) (by (with_reducible repeat (first | refine blk_drewN ?_ _ | refine blk_drew ?_ | refine blk_alloc ?_ _)); exact BK475.out)) : gb501 ≠ gb475)); have n19_ := Aside0.mk ((by rw [hg]; exact Nat.ne_of_lt (blk_lt (g := gb485) (o := .cells #[.int .i64 t482, .int .i64 t483, .int .i64 t484] 23 (0, 0)) (by (with_reducible repeat (first | refine blk_drewN ?_ _ | refine blk_drew ?_ | refine blk_alloc ?_ _)); exact BK485.out)) : gb485 ≠ gb501)); have n20_ := Aside0.mk ((by rw [hg]; exact Nat.ne_of_gt (blk_lt (g := gb485) (o := .cells #[.int .i64 t482, .int .i64 t483, .int .i64 t484] 23 (0, 0)) (by (with_reducible repeat (first | refine blk_drewN ?_ _ | refine blk_drew ?_ | refine blk_alloc ?_ _)); exact BK485.out)) : gb501 ≠ gb485)); have n21_ := Aside0.mk ((by rw [hg]; exact Nat.ne_of_lt (blk_lt (g := gb493) (o := .cells #[.int .i64 t486, .int .i64 t487, .bool t488, .int .i64 t489, .int .i64 t490] 30 (0, 0)) (by (with_reducible repeat (first | refine blk_drewN ?_ _ | refine blk_drew ?_ | refine blk_alloc ?_ _)); exact BK493.out)) : gb493 ≠ gb501)); have n22_ := Aside0.mk ((by rw [hg]; exact Nat.ne_of_gt (blk_lt (g := gb493) (o := .cells #[.int .i64 t486, .int .i64 t487, .bool t488, .int .i64 t489, .int .i64 t490] 30 (0, 0)) (by (with_reducible repeat (first | refine blk_drewN ?_ _ | refine blk_drew ?_ | refine blk_alloc ?_ _)); exact BK493.out)) : gb501 ≠ gb493)); clear HO_29; clear BK449; clear BK458; clear BK462; clear BK475; clear BK485; clear BK493; clear HB; have HO_29 := n0_; have BK449 := n1_; have BK458 := n2_; have BK462 := n3_; have BK475 := n4_; have BK485 := n5_; have BK493 := n6_; have HB := n7_; have BK501 := n8_; have GW501 := n9_; have GE501 := n10_; have NB449_501 := n11_; have NB501_449 := n12_; have NB458_501 := n13_; have NB501_458 := n14_; have NB462_501 := n15_; have NB501_462 := n16_; have NB475_501 := n17_; have NB501_475 := n18_; have NB485_501 := n19_; have NB501_485 := n20_; have NB493_501 := n21_; have NB501_493 := n22_; clear n0_ n1_ n2_ n3_ n4_ n5_ n6_ n7_ n8_ n9_ n10_ n11_ n12_ n13_ n14_ n15_ n16_ n17_ n18_ n19_ n20_ n21_ n22_; clear hb hbox hg; have hnb83 := NB501_449.out; have hnc83 := NB449_501.out; have hnb84 := NB501_458.out; have hnc84 := NB458_501.out; have hnb85 := NB501_462.out; have hnc85 := NB462_501.out; have hnb86 := NB501_475.out; have hnc86 := NB475_501.out; have hnb87 := NB501_485.out; have hnc87 := NB485_501.out; have hnb88 := NB501_493.out; have hnc88 := NB493_501.out; have hcz89_0 : w82.cell? ⟨gb501, 0, none⟩ = some (.int .i64 0) := (blk_cell BK501.out 0).trans rfl; have hcz89_1 : w82.cell? ⟨gb501, 1, none⟩ = some (.int .i64 0) := (blk_cell BK501.out 1).trans rfl; have hcz89_2 : w82.cell? ⟨gb501, 2, none⟩ = some (.bool false) := (blk_cell BK501.out 2).trans rfl; have hcz89_3 : w82.cell? ⟨gb501, 3, none⟩ = some (.int .i64 0) := (blk_cell BK501.out 3).trans rfl; have hcz89_4 : w82.cell? ⟨gb501, 4, none⟩ = some (.int .i64 0) := (blk_cell BK501.out 4).trans rfl; have hfz89_0 := blk_frozen BK501.out 0; have hfz89_1 := blk_frozen BK501.out 1; have hfz89_2 := blk_frozen BK501.out 2; have hfz89_3 := blk_frozen BK501.out 3; have hfz89_4 := blk_frozen BK501.out 4))
    (try simp only [Act.put, List.setIfInBounds_toArray, List.set_cons_zero, List.set_cons_succ])
    go_cut [10] (fun v10 wc => ∃ (kq : Nat) (x10_28 : Bool), v10 = .bool x10_28 ∧ Aside0 (relievolaw03_SideFlat.j1 kq x10_28 = some r) ∧ Aside0 (kq ≤ k1) ∧ Aside0 (wc.heap[gb449]? = some (.cells #[.int .i64 a0_0, .int .i64 a0_1, .int .i64 a0_2, .int .i64 a0_3, .int .i64 a0_4, .int .i64 a0_5, .int .i64 a0_6, .int .i64 a0_7, .int .i64 a0_8] 25 (0, 0))) ∧ Aside0 (wc.heap[gb458]? = some (.cells #[.int .i64 t455, .int .i64 t456, .int .i64 t457] 23 (0, 0))) ∧ Aside0 (wc.heap[gb462]? = some (.cells #[.int .i64 t459, .int .i64 t460, .int .i64 t461] 23 (0, 0))) ∧ Aside0 (wc.heap[gb475]? = some (.cells #[.int .i64 t472, .int .i64 t473, .int .i64 t474] 23 (0, 0))) ∧ Aside0 (wc.heap[gb485]? = some (.cells #[.int .i64 t482, .int .i64 t483, .int .i64 t484] 23 (0, 0))) ∧ Aside0 (wc.heap[gb493]? = some (.cells #[.int .i64 t486, .int .i64 t487, .bool t488, .int .i64 t489, .int .i64 t490] 30 (0, 0))) ∧ Aside0 (wc.heap[gb501]? = some (.cells #[.int .i64 t494, .int .i64 t495, .bool t496, .int .i64 t497, .int .i64 t498] 30 (0, 0))) ∧ Aside0 (Below w.heap.size w wc))
    case first =>
     have H := HC29.out
     clear HC29
     by_cases c90 : t491 = true
     ·subst c90
      have H1 : (relievolaw03_SideFlat.j1 k1 false) = some r := by rw [if_pos rfl] at H; exact H
      clear H
      have H := H1
      clear H1
      have H' := Aside0.mk H
      clear H
      go_wp2
      go_meet
      case rel => exact ⟨_, (false), (by first | rfl | (simp; done) | (simp [*]; done)), H', ⟨by have := HK1.out; first | omega | exact Nat.le_refl _⟩, ⟨by (with_reducible repeat (first | refine blk_drewN ?_ _ | refine blk_drew ?_ | refine blk_alloc ?_ _)); refine blk_far ?_ NB449_501.out _; (with_reducible repeat (first | refine blk_drewN ?_ _ | refine blk_drew ?_ | refine blk_alloc ?_ _)); refine blk_far ?_ NB449_501.out _; (with_reducible repeat (first | refine blk_drewN ?_ _ | refine blk_drew ?_ | refine blk_alloc ?_ _)); refine blk_far ?_ NB449_501.out _; (with_reducible repeat (first | refine blk_drewN ?_ _ | refine blk_drew ?_ | refine blk_alloc ?_ _)); refine blk_far ?_ NB449_501.out _; (with_reducible repeat (first | refine blk_drewN ?_ _ | refine blk_drew ?_ | refine blk_alloc ?_ _)); refine blk_far ?_ NB449_501.out _; (with_reducible repeat (first | refine blk_drewN ?_ _ | refine blk_drew ?_ | refine blk_alloc ?_ _)); exact BK449.out⟩, ⟨by (with_reducible repeat (first | refine blk_drewN ?_ _ | refine blk_drew ?_ | refine blk_alloc ?_ _)); refine blk_far ?_ NB458_501.out _; (with_reducible repeat (first | refine blk_drewN ?_ _ | refine blk_drew ?_ | refine blk_alloc ?_ _)); refine blk_far ?_ NB458_501.out _; (with_reducible repeat (first | refine blk_drewN ?_ _ | refine blk_drew ?_ | refine blk_alloc ?_ _)); refine blk_far ?_ NB458_501.out _; (with_reducible repeat (first | refine blk_drewN ?_ _ | refine blk_drew ?_ | refine blk_alloc ?_ _)); refine blk_far ?_ NB458_501.out _; (with_reducible repeat (first | refine blk_drewN ?_ _ | refine blk_drew ?_ | refine blk_alloc ?_ _)); refine blk_far ?_ NB458_501.out _; (with_reducible repeat (first | refine blk_drewN ?_ _ | refine blk_drew ?_ | refine blk_alloc ?_ _)); exact BK458.out⟩, ⟨by (with_reducible repeat (first | refine blk_drewN ?_ _ | refine blk_drew ?_ | refine blk_alloc ?_ _)); refine blk_far ?_ NB462_501.out _; (with_reducible repeat (first | refine blk_drewN ?_ _ | refine blk_drew ?_ | refine blk_alloc ?_ _)); refine blk_far ?_ NB462_501.out _; (with_reducible repeat (first | refine blk_drewN ?_ _ | refine blk_drew ?_ | refine blk_alloc ?_ _)); refine blk_far ?_ NB462_501.out _; (with_reducible repeat (first | refine blk_drewN ?_ _ | refine blk_drew ?_ | refine blk_alloc ?_ _)); refine blk_far ?_ NB462_501.out _; (with_reducible repeat (first | refine blk_drewN ?_ _ | refine blk_drew ?_ | refine blk_alloc ?_ _)); refine blk_far ?_ NB462_501.out _; (with_reducible repeat (first | refine blk_drewN ?_ _ | refine blk_drew ?_ | refine blk_alloc ?_ _)); exact BK462.out⟩, ⟨by (with_reducible repeat (first | refine blk_drewN ?_ _ | refine blk_drew ?_ | refine blk_alloc ?_ _)); refine blk_far ?_ NB475_501.out _; (with_reducible repeat (first | refine blk_drewN ?_ _ | refine blk_drew ?_ | refine blk_alloc ?_ _)); refine blk_far ?_ NB475_501.out _; (with_reducible repeat (first | refine blk_drewN ?_ _ | refine blk_drew ?_ | refine blk_alloc ?_ _)); refine blk_far ?_ NB475_501.out _; (with_reducible repeat (first | refine blk_drewN ?_ _ | refine blk_drew ?_ | refine blk_alloc ?_ _)); refine blk_far ?_ NB475_501.out _; (with_reducible repeat (first | refine blk_drewN ?_ _ | refine blk_drew ?_ | refine blk_alloc ?_ _)); refine blk_far ?_ NB475_501.out _; (with_reducible repeat (first | refine blk_drewN ?_ _ | refine blk_drew ?_ | refine blk_alloc ?_ _)); exact BK475.out⟩, ⟨by (with_reducible repeat (first | refine blk_drewN ?_ _ | refine blk_drew ?_ | refine blk_alloc ?_ _)); refine blk_far ?_ NB485_501.out _; (with_reducible repeat (first | refine blk_drewN ?_ _ | refine blk_drew ?_ | refine blk_alloc ?_ _)); refine blk_far ?_ NB485_501.out _; (with_reducible repeat (first | refine blk_drewN ?_ _ | refine blk_drew ?_ | refine blk_alloc ?_ _)); refine blk_far ?_ NB485_501.out _; (with_reducible repeat (first | refine blk_drewN ?_ _ | refine blk_drew ?_ | refine blk_alloc ?_ _)); refine blk_far ?_ NB485_501.out _; (with_reducible repeat (first | refine blk_drewN ?_ _ | refine blk_drew ?_ | refine blk_alloc ?_ _)); refine blk_far ?_ NB485_501.out _; (with_reducible repeat (first | refine blk_drewN ?_ _ | refine blk_drew ?_ | refine blk_alloc ?_ _)); exact BK485.out⟩, ⟨by (with_reducible repeat (first | refine blk_drewN ?_ _ | refine blk_drew ?_ | refine blk_alloc ?_ _)); refine blk_far ?_ NB493_501.out _; (with_reducible repeat (first | refine blk_drewN ?_ _ | refine blk_drew ?_ | refine blk_alloc ?_ _)); refine blk_far ?_ NB493_501.out _; (with_reducible repeat (first | refine blk_drewN ?_ _ | refine blk_drew ?_ | refine blk_alloc ?_ _)); refine blk_far ?_ NB493_501.out _; (with_reducible repeat (first | refine blk_drewN ?_ _ | refine blk_drew ?_ | refine blk_alloc ?_ _)); refine blk_far ?_ NB493_501.out _; (with_reducible repeat (first | refine blk_drewN ?_ _ | refine blk_drew ?_ | refine blk_alloc ?_ _)); refine blk_far ?_ NB493_501.out _; (with_reducible repeat (first | refine blk_drewN ?_ _ | refine blk_drew ?_ | refine blk_alloc ?_ _)); exact BK493.out⟩, ⟨by (with_reducible repeat (first | refine blk_drewN ?_ _ | refine blk_drew ?_ | refine blk_alloc ?_ _)); refine blk_put (cs := #[.int .i64 t494, .int .i64 t495, .bool t496, .int .i64 t497, .int .i64 0]) ?_ 4 _ rfl; (with_reducible repeat (first | refine blk_drewN ?_ _ | refine blk_drew ?_ | refine blk_alloc ?_ _)); refine blk_put (cs := #[.int .i64 t494, .int .i64 t495, .bool t496, .int .i64 0, .int .i64 0]) ?_ 3 _ rfl; (with_reducible repeat (first | refine blk_drewN ?_ _ | refine blk_drew ?_ | refine blk_alloc ?_ _)); refine blk_put (cs := #[.int .i64 t494, .int .i64 t495, .bool false, .int .i64 0, .int .i64 0]) ?_ 2 _ rfl; (with_reducible repeat (first | refine blk_drewN ?_ _ | refine blk_drew ?_ | refine blk_alloc ?_ _)); refine blk_put (cs := #[.int .i64 t494, .int .i64 0, .bool false, .int .i64 0, .int .i64 0]) ?_ 1 _ rfl; (with_reducible repeat (first | refine blk_drewN ?_ _ | refine blk_drew ?_ | refine blk_alloc ?_ _)); refine blk_put (cs := #[.int .i64 0, .int .i64 0, .bool false, .int .i64 0, .int .i64 0]) ?_ 0 _ rfl; (with_reducible repeat (first | refine blk_drewN ?_ _ | refine blk_drew ?_ | refine blk_alloc ?_ _)); exact BK501.out⟩, ⟨by repeat (first | (with_reducible first | exact HB.out | apply below_alloc | apply pw_below_drewN | apply below_drew1 | refine below_set ?_ GE449.out | refine below_set ?_ GE458.out | refine below_set ?_ GE462.out | refine below_set ?_ GE475.out | refine below_set ?_ GE485.out | refine below_set ?_ GE493.out | refine below_set ?_ GE501.out) | exact HB.out)⟩⟩
     replace c90 := Bool.eq_false_iff.mpr c90
     subst c90
     have H1 : (relievolaw03_SideFlat.j1 k1 (!t499)) = some r := by rw [if_neg (show ¬ (false = true) by decide)] at H; exact H
     clear H
     have H := H1
     clear H1
     have H' := Aside0.mk H
     clear H
     go_wp2
     go_meet
     case rel => exact ⟨_, (!t499), (by first | rfl | (simp; done) | (simp [*]; done)), H', ⟨by have := HK1.out; first | omega | exact Nat.le_refl _⟩, ⟨by (with_reducible repeat (first | refine blk_drewN ?_ _ | refine blk_drew ?_ | refine blk_alloc ?_ _)); refine blk_far ?_ NB449_501.out _; (with_reducible repeat (first | refine blk_drewN ?_ _ | refine blk_drew ?_ | refine blk_alloc ?_ _)); refine blk_far ?_ NB449_501.out _; (with_reducible repeat (first | refine blk_drewN ?_ _ | refine blk_drew ?_ | refine blk_alloc ?_ _)); refine blk_far ?_ NB449_501.out _; (with_reducible repeat (first | refine blk_drewN ?_ _ | refine blk_drew ?_ | refine blk_alloc ?_ _)); refine blk_far ?_ NB449_501.out _; (with_reducible repeat (first | refine blk_drewN ?_ _ | refine blk_drew ?_ | refine blk_alloc ?_ _)); refine blk_far ?_ NB449_501.out _; (with_reducible repeat (first | refine blk_drewN ?_ _ | refine blk_drew ?_ | refine blk_alloc ?_ _)); exact BK449.out⟩, ⟨by (with_reducible repeat (first | refine blk_drewN ?_ _ | refine blk_drew ?_ | refine blk_alloc ?_ _)); refine blk_far ?_ NB458_501.out _; (with_reducible repeat (first | refine blk_drewN ?_ _ | refine blk_drew ?_ | refine blk_alloc ?_ _)); refine blk_far ?_ NB458_501.out _; (with_reducible repeat (first | refine blk_drewN ?_ _ | refine blk_drew ?_ | refine blk_alloc ?_ _)); refine blk_far ?_ NB458_501.out _; (with_reducible repeat (first | refine blk_drewN ?_ _ | refine blk_drew ?_ | refine blk_alloc ?_ _)); refine blk_far ?_ NB458_501.out _; (with_reducible repeat (first | refine blk_drewN ?_ _ | refine blk_drew ?_ | refine blk_alloc ?_ _)); refine blk_far ?_ NB458_501.out _; (with_reducible repeat (first | refine blk_drewN ?_ _ | refine blk_drew ?_ | refine blk_alloc ?_ _)); exact BK458.out⟩, ⟨by (with_reducible repeat (first | refine blk_drewN ?_ _ | refine blk_drew ?_ | refine blk_alloc ?_ _)); refine blk_far ?_ NB462_501.out _; (with_reducible repeat (first | refine blk_drewN ?_ _ | refine blk_drew ?_ | refine blk_alloc ?_ _)); refine blk_far ?_ NB462_501.out _; (with_reducible repeat (first | refine blk_drewN ?_ _ | refine blk_drew ?_ | refine blk_alloc ?_ _)); refine blk_far ?_ NB462_501.out _; (with_reducible repeat (first | refine blk_drewN ?_ _ | refine blk_drew ?_ | refine blk_alloc ?_ _)); refine blk_far ?_ NB462_501.out _; (with_reducible repeat (first | refine blk_drewN ?_ _ | refine blk_drew ?_ | refine blk_alloc ?_ _)); refine blk_far ?_ NB462_501.out _; (with_reducible repeat (first | refine blk_drewN ?_ _ | refine blk_drew ?_ | refine blk_alloc ?_ _)); exact BK462.out⟩, ⟨by (with_reducible repeat (first | refine blk_drewN ?_ _ | refine blk_drew ?_ | refine blk_alloc ?_ _)); refine blk_far ?_ NB475_501.out _; (with_reducible repeat (first | refine blk_drewN ?_ _ | refine blk_drew ?_ | refine blk_alloc ?_ _)); refine blk_far ?_ NB475_501.out _; (with_reducible repeat (first | refine blk_drewN ?_ _ | refine blk_drew ?_ | refine blk_alloc ?_ _)); refine blk_far ?_ NB475_501.out _; (with_reducible repeat (first | refine blk_drewN ?_ _ | refine blk_drew ?_ | refine blk_alloc ?_ _)); refine blk_far ?_ NB475_501.out _; (with_reducible repeat (first | refine blk_drewN ?_ _ | refine blk_drew ?_ | refine blk_alloc ?_ _)); refine blk_far ?_ NB475_501.out _; (with_reducible repeat (first | refine blk_drewN ?_ _ | refine blk_drew ?_ | refine blk_alloc ?_ _)); exact BK475.out⟩, ⟨by (with_reducible repeat (first | refine blk_drewN ?_ _ | refine blk_drew ?_ | refine blk_alloc ?_ _)); refine blk_far ?_ NB485_501.out _; (with_reducible repeat (first | refine blk_drewN ?_ _ | refine blk_drew ?_ | refine blk_alloc ?_ _)); refine blk_far ?_ NB485_501.out _; (with_reducible repeat (first | refine blk_drewN ?_ _ | refine blk_drew ?_ | refine blk_alloc ?_ _)); refine blk_far ?_ NB485_501.out _; (with_reducible repeat (first | refine blk_drewN ?_ _ | refine blk_drew ?_ | refine blk_alloc ?_ _)); refine blk_far ?_ NB485_501.out _; (with_reducible repeat (first | refine blk_drewN ?_ _ | refine blk_drew ?_ | refine blk_alloc ?_ _)); refine blk_far ?_ NB485_501.out _; (with_reducible repeat (first | refine blk_drewN ?_ _ | refine blk_drew ?_ | refine blk_alloc ?_ _)); exact BK485.out⟩, ⟨by (with_reducible repeat (first | refine blk_drewN ?_ _ | refine blk_drew ?_ | refine blk_alloc ?_ _)); refine blk_far ?_ NB493_501.out _; (with_reducible repeat (first | refine blk_drewN ?_ _ | refine blk_drew ?_ | refine blk_alloc ?_ _)); refine blk_far ?_ NB493_501.out _; (with_reducible repeat (first | refine blk_drewN ?_ _ | refine blk_drew ?_ | refine blk_alloc ?_ _)); refine blk_far ?_ NB493_501.out _; (with_reducible repeat (first | refine blk_drewN ?_ _ | refine blk_drew ?_ | refine blk_alloc ?_ _)); refine blk_far ?_ NB493_501.out _; (with_reducible repeat (first | refine blk_drewN ?_ _ | refine blk_drew ?_ | refine blk_alloc ?_ _)); refine blk_far ?_ NB493_501.out _; (with_reducible repeat (first | refine blk_drewN ?_ _ | refine blk_drew ?_ | refine blk_alloc ?_ _)); exact BK493.out⟩, ⟨by (with_reducible repeat (first | refine blk_drewN ?_ _ | refine blk_drew ?_ | refine blk_alloc ?_ _)); refine blk_put (cs := #[.int .i64 t494, .int .i64 t495, .bool t496, .int .i64 t497, .int .i64 0]) ?_ 4 _ rfl; (with_reducible repeat (first | refine blk_drewN ?_ _ | refine blk_drew ?_ | refine blk_alloc ?_ _)); refine blk_put (cs := #[.int .i64 t494, .int .i64 t495, .bool t496, .int .i64 0, .int .i64 0]) ?_ 3 _ rfl; (with_reducible repeat (first | refine blk_drewN ?_ _ | refine blk_drew ?_ | refine blk_alloc ?_ _)); refine blk_put (cs := #[.int .i64 t494, .int .i64 t495, .bool false, .int .i64 0, .int .i64 0]) ?_ 2 _ rfl; (with_reducible repeat (first | refine blk_drewN ?_ _ | refine blk_drew ?_ | refine blk_alloc ?_ _)); refine blk_put (cs := #[.int .i64 t494, .int .i64 0, .bool false, .int .i64 0, .int .i64 0]) ?_ 1 _ rfl; (with_reducible repeat (first | refine blk_drewN ?_ _ | refine blk_drew ?_ | refine blk_alloc ?_ _)); refine blk_put (cs := #[.int .i64 0, .int .i64 0, .bool false, .int .i64 0, .int .i64 0]) ?_ 0 _ rfl; (with_reducible repeat (first | refine blk_drewN ?_ _ | refine blk_drew ?_ | refine blk_alloc ?_ _)); exact BK501.out⟩, ⟨by repeat (first | (with_reducible first | exact HB.out | apply below_alloc | apply pw_below_drewN | apply below_drew1 | refine below_set ?_ GE449.out | refine below_set ?_ GE458.out | refine below_set ?_ GE462.out | refine below_set ?_ GE475.out | refine below_set ?_ GE485.out | refine below_set ?_ GE493.out | refine below_set ?_ GE501.out) | exact HB.out)⟩⟩
    clear HC29
    try clear c13
    try clear c13b0
    try clear hcz30_0
    try clear hcz30_1
    try clear hcz30_2
    try clear hcz30_3
    try clear hcz30_4
    try clear hcz30_5
    try clear hcz30_6
    try clear hcz30_7
    try clear hcz30_8
    try clear hcz34_0
    try clear hcz34_1
    try clear hcz34_2
    try clear hcz35_0
    try clear hcz35_1
    try clear hcz35_2
    try clear hcz35_3
    try clear hcz35_4
    try clear hcz35_5
    try clear hcz35_6
    try clear hcz35_7
    try clear hcz35_8
    try clear hcz40_0
    try clear hcz40_1
    try clear hcz40_2
    try clear hcz66_0
    try clear hcz66_1
    try clear hcz66_2
    try clear hcz70_0
    try clear hcz70_1
    try clear hcz70_2
    try clear hcz71_0
    try clear hcz71_1
    try clear hcz71_2
    try clear hcz71_3
    try clear hcz71_4
    try clear hcz71_5
    try clear hcz71_6
    try clear hcz71_7
    try clear hcz71_8
    try clear hcz79_0
    try clear hcz79_1
    try clear hcz79_2
    try clear hcz79_3
    try clear hcz79_4
    try clear hcz80_0
    try clear hcz80_1
    try clear hcz80_2
    try clear hcz80_3
    try clear hcz80_4
    try clear hcz80_5
    try clear hcz80_6
    try clear hcz80_7
    try clear hcz80_8
    try clear hcz89_0
    try clear hcz89_1
    try clear hcz89_2
    try clear hcz89_3
    try clear hcz89_4
    try clear hfz30_0
    try clear hfz30_1
    try clear hfz30_2
    try clear hfz30_3
    try clear hfz30_4
    try clear hfz30_5
    try clear hfz30_6
    try clear hfz30_7
    try clear hfz30_8
    try clear hfz34_0
    try clear hfz34_1
    try clear hfz34_2
    try clear hfz35_0
    try clear hfz35_1
    try clear hfz35_2
    try clear hfz35_3
    try clear hfz35_4
    try clear hfz35_5
    try clear hfz35_6
    try clear hfz35_7
    try clear hfz35_8
    try clear hfz40_0
    try clear hfz40_1
    try clear hfz40_2
    try clear hfz66_0
    try clear hfz66_1
    try clear hfz66_2
    try clear hfz70_0
    try clear hfz70_1
    try clear hfz70_2
    try clear hfz71_0
    try clear hfz71_1
    try clear hfz71_2
    try clear hfz71_3
    try clear hfz71_4
    try clear hfz71_5
    try clear hfz71_6
    try clear hfz71_7
    try clear hfz71_8
    try clear hfz79_0
    try clear hfz79_1
    try clear hfz79_2
    try clear hfz79_3
    try clear hfz79_4
    try clear hfz80_0
    try clear hfz80_1
    try clear hfz80_2
    try clear hfz80_3
    try clear hfz80_4
    try clear hfz80_5
    try clear hfz80_6
    try clear hfz80_7
    try clear hfz80_8
    try clear hfz89_0
    try clear hfz89_1
    try clear hfz89_2
    try clear hfz89_3
    try clear hfz89_4
    obtain ⟨kq, x10_28, rfl, HA, HJ28, BK449, BK458, BK462, BK475, BK485, BK493, BK501, HB⟩ := hcut
    cases kq with
    | zero => exact absurd HA.out (by simp [relievolaw03_SideFlat.j1])
    | succ kj28 =>
     have H := HA.out
     clear HA
     simp only [relievolaw03_SideFlat.j1] at H
     obtain rfl := Option.some.inj H
     go_wp2
     go_ret
     exact ⟨by first | rfl | (simp [errW_none, errW_some] <;> rfl) | (simp [*, errW_none, errW_some] <;> rfl), by repeat (first | (with_reducible first | exact HB.out | apply below_alloc | apply pw_below_drewN | apply below_drew1 | refine below_set ?_ GE449.out | refine below_set ?_ GE458.out | refine below_set ?_ GE462.out | refine below_set ?_ GE475.out | refine below_set ?_ GE485.out | refine below_set ?_ GE493.out | refine below_set ?_ GE501.out) | exact HB.out)⟩
 replace c7 := Bool.eq_false_iff.mpr c7
 subst c7
 have H1 : (some false) = some r := by rw [if_neg (show ¬ (false = true) by decide)] at H; exact H
 clear H
 have H := H1
 clear H1
 obtain rfl := Option.some.inj H
 go_enter Try.func9, Try.ntmps9
 go_wp2_with (first | ((with_reducible refine gate_dst (N := 5) rfl ?_); refine box_event ?hg (N := 5) ?hd (cs := #[.int .i64 a0_0, .int .i64 a0_1, .int .i64 a0_2, .int .i64 a0_3, .int .i64 a0_4, .int .i64 a0_5, .int .i64 a0_6, .int .i64 a0_7, .int .i64 a0_8]) (t := 25) ?hr ?_; (case hd => rfl); (case hg => rfl); (case hr => first | (go_simp; done) | (go_simp; rfl)); intro gb449 hg w91 hbox hb; have n0_ := Aside0.mk (below_step (by repeat (first | (with_reducible first | exact HB.out | apply below_alloc | apply pw_below_drewN | apply below_drew1) | exact HB.out)) hb); have n1_ := Aside0.mk (hbox); have n2_ := Aside0.mk ((by rw [hg]; exact (below_size (by repeat (first | (with_reducible first | exact HB.out | apply below_alloc | apply pw_below_drewN | apply below_drew1) | exact HB.out))) : w.heap.size ≤ gb449)); have n3_ := Aside0.mk ((by rw [hg]; exact (below_size (by repeat (first | (with_reducible first | exact HB.out | apply below_alloc | apply pw_below_drewN | apply below_drew1) | exact HB.out))) : w.heap.size ≤ gb449)); clear HB; have HB := n0_; have BK449 := n1_; have GW449 := n2_; have GE449 := n3_; clear n0_ n1_ n2_ n3_; clear hb hbox hg) | ((with_reducible refine gate_callee (f := 19) rfl ?_); refine goesL_ (some 23) rfl rfl Try.func19 (by kernel_rfl) rfl #[] rfl (by (try simp only [List.map_toArray, List.map_cons, List.map_nil]); first | done | rfl | (simp only [List.length_drop, List.length_take]; rfl)) ?_; (with_reducible refine (relievolaw03_alive.calls k  false _ A6.out).mono ?_); rintro e w92 ⟨rfl, hb⟩; refine ⟨_, rfl, ?_⟩; have n0_ := Aside0.mk (blk_below (g := gb449) (o := .cells #[.int .i64 a0_0, .int .i64 a0_1, .int .i64 a0_2, .int .i64 a0_3, .int .i64 a0_4, .int .i64 a0_5, .int .i64 a0_6, .int .i64 a0_7, .int .i64 a0_8] 25 (0, 0)) (by (with_reducible repeat (first | refine blk_drewN ?_ _ | refine blk_drew ?_ | refine blk_alloc ?_ _)); exact BK449.out) hb); have n1_ := Aside0.mk (below_step (by repeat (first | (with_reducible first | exact HB.out | apply below_alloc | apply pw_below_drewN | apply below_drew1 | refine below_set ?_ GE449.out) | exact HB.out)) hb); clear BK449; clear HB; have BK449 := n0_; have HB := n1_; clear n0_ n1_; (try clear hb); (try clear hb2); (try clear hk); (try clear hi)))
 go_ret
 exact ⟨by first | rfl | (simp [errW_none, errW_some] <;> rfl) | (simp [*, errW_none, errW_some] <;> rfl), by repeat (first | (with_reducible first | exact HB.out | apply below_alloc | apply pw_below_drewN | apply below_drew1 | refine below_set ?_ GE449.out) | exact HB.out)⟩

end Go.Proofs.Ytihklolcnfbbjaa.G
