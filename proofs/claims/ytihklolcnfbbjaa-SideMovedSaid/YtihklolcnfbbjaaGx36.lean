-- Written by a program of this session (wip/gen), out of the translation; Lean checks it.
import Derived.Test.YtihklolcnfbbjaaGx0
import Derived.Test.YtihklolcnfbbjaaGx3
import Derived.Test.YtihklolcnfbbjaaGx15
import Derived.Test.YtihklolcnfbbjaaGx16
import Derived.Test.YtihklolcnfbbjaaGx19
import Derived.Test.YtihklolcnfbbjaaGx22
namespace Go.Proofs.Ytihklolcnfbbjaa.G
open Go.RowKit Go.Proofs.YtihklolcnfbbjaaW.PrintWords Go.Proofs.YtihklolcnfbbjaaW.PrintLast Go.Proofs.YtihklolcnfbbjaaW.PrintMore
attribute [local go_sem high] idx35_0 idx35_1 idx35_2 idx35_3 idx41_0 idx41_1 idx41_2 idx84_0 idx84_1 idx84_2 idx88_0 idx88_1 idx88_2 wl0 wl1 wl2 wl3 wl4 wl5 tm0_3 tm1_3 tm2_3 tm3_3 tm4_3 tm5_3
attribute [local go_sem] max2_int min2_int max_two min_two max_three min_three max_four min_four   -- for this text's walks alone
set_option linter.unusedVariables false
set_option linter.unusedSimpArgs false

attribute [local go_sem high] eqA30
/-! ### relievolaw03_SideMoved: function 7 -/
mutual
def relievolaw03_SideMoved.j0 : Nat → Bool → Bool → Int → Int → Int → Int → Int → Int → Int → Int → Int → Int → Int → Int → Int → Int → Int → Int → Int → Int → Int → Int → Bool → Int → Int → Option (Bool)
  | 0, _, _, _, _, _, _, _, _, _, _, _, _, _, _, _, _, _, _, _, _, _, _, _, _, _ => none
  | k + 1, x10, x31, x385000, x385001, x385002, x386000, x386001, x386002, x387000, x387001, x387002, x387003, x387004, x387005, x387006, x387007, x387008, x388000, x388001, x388002, x397000, x397001, x397002, x397003, x397004 => if x31 = true then (some true) else ((relievoref02_Add.f x385000 x385001 x385002 x388000 x388001 x388002).bind fun bt398 => ((relievoref02_Add.f x387000 x387001 x387002 x388000 x388001 x388002).bind fun bt401 => ((relievoref02_Add.f x387003 x387004 x387005 x388000 x388001 x388002).bind fun bt404 => ((relievoref02_Add.f x387006 x387007 x387008 x388000 x388001 x388002).bind fun bt407 => ((side_Meet.f k bt398.1 bt398.2.1 bt398.2.2 x386000 x386001 x386002 bt401.1 bt401.2.1 bt401.2.2 bt404.1 bt404.2.1 bt404.2.2 bt407.1 bt407.2.1 bt407.2.2).bind fun bt410 => (if bt410.2.2.2.2.2.2 = 0 then (if ((x397000 == bt410.1 && (x397001 == bt410.2.1)) && (x397002 == bt410.2.2.1 && (x397003 == bt410.2.2.2.1 && (x397004 == bt410.2.2.2.2.1)))) = true then (relievolaw03_SideMoved.j1 k (x10 == bt410.2.2.2.2.2.1)) else (relievolaw03_SideMoved.j1 k false)) else (relievolaw03_SideMoved.j1 k true)))))))
def relievolaw03_SideMoved.j1 : Nat → Bool → Option (Bool)
  | 0, _ => none
  | k + 1, x8 => some x8
end
def relievolaw03_SideMoved.f (k : Nat) (a0_0 : Int) (a0_1 : Int) (a0_2 : Int) (a1_0 : Int) (a1_1 : Int) (a1_2 : Int) (a2_0 : Int) (a2_1 : Int) (a2_2 : Int) (a2_3 : Int) (a2_4 : Int) (a2_5 : Int) (a2_6 : Int) (a2_7 : Int) (a2_8 : Int) (a3_0 : Int) (a3_1 : Int) (a3_2 : Int) : Option (Bool) := (relievolaw03_alive.f k).bind fun t388 => (if t388 = true then ((side_Meet.f k a0_0 a0_1 a0_2 a1_0 a1_1 a1_2 a2_0 a2_1 a2_2 a2_3 a2_4 a2_5 a2_6 a2_7 a2_8).bind fun bt389 => (if bt389.2.2.2.2.2.2 = 0 then ((relievoref00_Within.f a3_0 a3_1 a3_2 1048576).bind fun t397 => (relievolaw03_SideMoved.j0 k bt389.2.2.2.2.2.1 (!t397) a0_0 a0_1 a0_2 a1_0 a1_1 a1_2 a2_0 a2_1 a2_2 a2_3 a2_4 a2_5 a2_6 a2_7 a2_8 a3_0 a3_1 a3_2 bt389.1 bt389.2.1 bt389.2.2.1 bt389.2.2.2.1 bt389.2.2.2.2.1)) else (relievolaw03_SideMoved.j0 k bt389.2.2.2.2.2.1 true a0_0 a0_1 a0_2 a1_0 a1_1 a1_2 a2_0 a2_1 a2_2 a2_3 a2_4 a2_5 a2_6 a2_7 a2_8 a3_0 a3_1 a3_2 bt389.1 bt389.2.1 bt389.2.2.1 bt389.2.2.2.1 bt389.2.2.2.2.1))) else (some false))
theorem relievolaw03_SideMoved.mono_l : ∀ k, (∀ y0 y1 y2 y3 y4 y5 y6 y7 y8 y9 y10 y11 y12 y13 y14 y15 y16 y17 y18 y19 y20 y21 y22 y23 y24, LeO (relievolaw03_SideMoved.j0 k y0 y1 y2 y3 y4 y5 y6 y7 y8 y9 y10 y11 y12 y13 y14 y15 y16 y17 y18 y19 y20 y21 y22 y23 y24) (relievolaw03_SideMoved.j0 (k + 1) y0 y1 y2 y3 y4 y5 y6 y7 y8 y9 y10 y11 y12 y13 y14 y15 y16 y17 y18 y19 y20 y21 y22 y23 y24)) ∧ (∀ y0, LeO (relievolaw03_SideMoved.j1 k y0) (relievolaw03_SideMoved.j1 (k + 1) y0))
  | 0 => ⟨fun _ _ _ _ _ _ _ _ _ _ _ _ _ _ _ _ _ _ _ _ _ _ _ _ _ r h => by simp [relievolaw03_SideMoved.j0] at h, fun _ r h => by simp [relievolaw03_SideMoved.j1] at h⟩
  | k + 1 => by
    obtain ⟨ih0, ih1⟩ := relievolaw03_SideMoved.mono_l k
    refine ⟨?_, ?_⟩
    · intro y0 y1 y2 y3 y4 y5 y6 y7 y8 y9 y10 y11 y12 y13 y14 y15 y16 y17 y18 y19 y20 y21 y22 y23 y24
      unfold relievolaw03_SideMoved.j0
      repeat' first
      | (with_reducible exact ih0 _ _ _ _ _ _ _ _ _ _ _ _ _ _ _ _ _ _ _ _ _ _ _ _ _)
      | (with_reducible exact ih1 _)
      | (with_reducible exact relievolaw03_alive.mono _)
      | (with_reducible exact side_Meet.mono _ _ _ _ _ _ _ _ _ _ _ _ _ _ _ _)
      | (with_reducible exact LeO.refl _)
      | (with_reducible exact LeO.none _)
      | (with_reducible refine LeO.ite ?_ ?_)
      | (with_reducible refine LeO.bind ?_ (fun _ => ?_))
      | exact ih0 _ _ _ _ _ _ _ _ _ _ _ _ _ _ _ _ _ _ _ _ _ _ _ _ _
      | exact ih1 _
      | exact relievolaw03_alive.mono _
      | exact side_Meet.mono _ _ _ _ _ _ _ _ _ _ _ _ _ _ _ _
      | exact LeO.none _
      | refine LeO.ite ?_ ?_
      | refine LeO.bind ?_ (fun _ => ?_)
    · intro y0
      unfold relievolaw03_SideMoved.j1
      repeat' first
      | (with_reducible exact ih0 _ _ _ _ _ _ _ _ _ _ _ _ _ _ _ _ _ _ _ _ _ _ _ _ _)
      | (with_reducible exact ih1 _)
      | (with_reducible exact relievolaw03_alive.mono _)
      | (with_reducible exact side_Meet.mono _ _ _ _ _ _ _ _ _ _ _ _ _ _ _ _)
      | (with_reducible exact LeO.refl _)
      | (with_reducible exact LeO.none _)
      | (with_reducible refine LeO.ite ?_ ?_)
      | (with_reducible refine LeO.bind ?_ (fun _ => ?_))
      | exact ih0 _ _ _ _ _ _ _ _ _ _ _ _ _ _ _ _ _ _ _ _ _ _ _ _ _
      | exact ih1 _
      | exact relievolaw03_alive.mono _
      | exact side_Meet.mono _ _ _ _ _ _ _ _ _ _ _ _ _ _ _ _
      | exact LeO.none _
      | refine LeO.ite ?_ ?_
      | refine LeO.bind ?_ (fun _ => ?_)
theorem relievolaw03_SideMoved.mono : ∀ a0 a1 a2 a3 a4 a5 a6 a7 a8 a9 a10 a11 a12 a13 a14 a15 a16 a17 k, LeO (relievolaw03_SideMoved.f k a0 a1 a2 a3 a4 a5 a6 a7 a8 a9 a10 a11 a12 a13 a14 a15 a16 a17) (relievolaw03_SideMoved.f (k + 1) a0 a1 a2 a3 a4 a5 a6 a7 a8 a9 a10 a11 a12 a13 a14 a15 a16 a17) := by
  intro a0 a1 a2 a3 a4 a5 a6 a7 a8 a9 a10 a11 a12 a13 a14 a15 a16 a17 k
  obtain ⟨ih0, ih1⟩ := relievolaw03_SideMoved.mono_l k
  unfold relievolaw03_SideMoved.f
  repeat' first
      | (with_reducible exact ih0 _ _ _ _ _ _ _ _ _ _ _ _ _ _ _ _ _ _ _ _ _ _ _ _ _)
      | (with_reducible exact ih1 _)
      | (with_reducible exact relievolaw03_alive.mono _)
      | (with_reducible exact side_Meet.mono _ _ _ _ _ _ _ _ _ _ _ _ _ _ _ _)
      | (with_reducible exact LeO.refl _)
      | (with_reducible exact LeO.none _)
      | (with_reducible refine LeO.ite ?_ ?_)
      | (with_reducible refine LeO.bind ?_ (fun _ => ?_))
      | exact ih0 _ _ _ _ _ _ _ _ _ _ _ _ _ _ _ _ _ _ _ _ _ _ _ _ _
      | exact ih1 _
      | exact relievolaw03_alive.mono _
      | exact side_Meet.mono _ _ _ _ _ _ _ _ _ _ _ _ _ _ _ _
      | exact LeO.none _
      | refine LeO.ite ?_ ?_
      | refine LeO.bind ?_ (fun _ => ?_)
def relievolaw03_SideMoved.T6 : Bool × List (List Nat × List Nat) := (true, [([], []), ([], []), ([0, 1], [0, 1]), ([], []), ([], []), ([4], [4]), ([], []), ([5, 6, 2], [5, 6]), ([], []), ([8], [8]), ([], []), ([9, 10, 7], [9, 10]), ([], []), ([12], [12]), ([], []), ([13, 14, 11], [13, 14]), ([7, 11, 15], [7, 11, 15]), ([2, 3, 16, 15], [2, 3, 16]), ([17], [17]), ([18], [18]), ([18], [18]), ([18], [18]), ([], []), ([22, 19, 17, 0, 1, 2, 3, 4, 5, 6, 7, 8, 9, 10, 11, 12, 13, 14, 15, 16, 17, 18, 19, 22], [19, 22]), ([20, 23, 0, 1, 2, 3, 4, 5, 6, 7, 8, 9, 10, 11, 12, 13, 14, 15, 16, 17, 18, 19, 20, 22, 23], [20]), ([21, 24, 0, 1, 2, 3, 4, 5, 6, 7, 8, 9, 10, 11, 12, 13, 14, 15, 16, 17, 18, 19, 20, 21, 22, 23, 24], [21])])
def relievolaw03_SideMoved.B6 : List Nat := [0, 0, 3, 0, 0, 16, 0, 119, 0, 256, 0, 2039, 0, 4096, 0, 32759, 65527, 131071, 262143, 524287, 524287, 524287, 0, 5242879, 14680063, 33554431]
theorem relievolaw03_SideMoved.tab6 : rtab .any (opsOf Try.f7 6) = relievolaw03_SideMoved.T6 := by kernel_rfl
theorem relievolaw03_SideMoved.bits6 : waitsOk relievolaw03_SideMoved.T6.2 relievolaw03_SideMoved.B6 = true := by kernel_rfl
set_option maxHeartbeats 8000000 in
set_option maxRecDepth 100000 in
theorem relievolaw03_SideMoved.calls (k : Nat) (a0_0 : Int) (a0_1 : Int) (a0_2 : Int) (a1_0 : Int) (a1_1 : Int) (a1_2 : Int) (a2_0 : Int) (a2_1 : Int) (a2_2 : Int) (a2_3 : Int) (a2_4 : Int) (a2_5 : Int) (a2_6 : Int) (a2_7 : Int) (a2_8 : Int) (a3_0 : Int) (a3_1 : Int) (a3_2 : Int) (r : Bool) (w : World) (h : relievolaw03_SideMoved.f k a0_0 a0_1 a0_2 a1_0 a1_1 a1_2 a2_0 a2_1 a2_2 a2_3 a2_4 a2_5 a2_6 a2_7 a2_8 a3_0 a3_1 a3_2 = some r) :
    Calls Try.prog 7 #[.agg #[.int .i64 a0_0, .int .i64 a0_1, .int .i64 a0_2], .agg #[.int .i64 a1_0, .int .i64 a1_1, .int .i64 a1_2], .agg #[.int .i64 a2_0, .int .i64 a2_1, .int .i64 a2_2, .int .i64 a2_3, .int .i64 a2_4, .int .i64 a2_5, .int .i64 a2_6, .int .i64 a2_7, .int .i64 a2_8], .agg #[.int .i64 a3_0, .int .i64 a3_1, .int .i64 a3_2]] w fun e w' => e = .returned (.bool r) ∧ Below w.heap.size w w' := by
 have hu23 := Try.underlying23
 have hu25 := Try.underlying25
 have hu30 := Try.underlying30
 have HB := Aside0.mk (Below.refl w.heap.size w)
 have H : ((relievolaw03_alive.f k).bind fun t388 => (if t388 = true then ((side_Meet.f k a0_0 a0_1 a0_2 a1_0 a1_1 a1_2 a2_0 a2_1 a2_2 a2_3 a2_4 a2_5 a2_6 a2_7 a2_8).bind fun bt389 => (if bt389.2.2.2.2.2.2 = 0 then ((relievoref00_Within.f a3_0 a3_1 a3_2 1048576).bind fun t397 => (relievolaw03_SideMoved.j0 k bt389.2.2.2.2.2.1 (!t397) a0_0 a0_1 a0_2 a1_0 a1_1 a1_2 a2_0 a2_1 a2_2 a2_3 a2_4 a2_5 a2_6 a2_7 a2_8 a3_0 a3_1 a3_2 bt389.1 bt389.2.1 bt389.2.2.1 bt389.2.2.2.1 bt389.2.2.2.2.1)) else (relievolaw03_SideMoved.j0 k bt389.2.2.2.2.2.1 true a0_0 a0_1 a0_2 a1_0 a1_1 a1_2 a2_0 a2_1 a2_2 a2_3 a2_4 a2_5 a2_6 a2_7 a2_8 a3_0 a3_1 a3_2 bt389.1 bt389.2.1 bt389.2.2.1 bt389.2.2.2.1 bt389.2.2.2.2.1))) else (some false))) = some r := h
 clear h
 replace H := Option.bind_eq_some_iff.mp H
 obtain ⟨t388, A50, H⟩ := H
 replace H : (if t388 = true then ((side_Meet.f k a0_0 a0_1 a0_2 a1_0 a1_1 a1_2 a2_0 a2_1 a2_2 a2_3 a2_4 a2_5 a2_6 a2_7 a2_8).bind fun bt389 => (if bt389.2.2.2.2.2.2 = 0 then ((relievoref00_Within.f a3_0 a3_1 a3_2 1048576).bind fun t397 => (relievolaw03_SideMoved.j0 k bt389.2.2.2.2.2.1 (!t397) a0_0 a0_1 a0_2 a1_0 a1_1 a1_2 a2_0 a2_1 a2_2 a2_3 a2_4 a2_5 a2_6 a2_7 a2_8 a3_0 a3_1 a3_2 bt389.1 bt389.2.1 bt389.2.2.1 bt389.2.2.2.1 bt389.2.2.2.2.1)) else (relievolaw03_SideMoved.j0 k bt389.2.2.2.2.2.1 true a0_0 a0_1 a0_2 a1_0 a1_1 a1_2 a2_0 a2_1 a2_2 a2_3 a2_4 a2_5 a2_6 a2_7 a2_8 a3_0 a3_1 a3_2 bt389.1 bt389.2.1 bt389.2.2.1 bt389.2.2.2.1 bt389.2.2.2.2.1))) else (some false)) = some r := H
 have A5 := Aside0.mk A50
 clear A50
 by_cases c6 : t388 = true
 ·subst c6
  have H1 : ((side_Meet.f k a0_0 a0_1 a0_2 a1_0 a1_1 a1_2 a2_0 a2_1 a2_2 a2_3 a2_4 a2_5 a2_6 a2_7 a2_8).bind fun bt389 => (if bt389.2.2.2.2.2.2 = 0 then ((relievoref00_Within.f a3_0 a3_1 a3_2 1048576).bind fun t397 => (relievolaw03_SideMoved.j0 k bt389.2.2.2.2.2.1 (!t397) a0_0 a0_1 a0_2 a1_0 a1_1 a1_2 a2_0 a2_1 a2_2 a2_3 a2_4 a2_5 a2_6 a2_7 a2_8 a3_0 a3_1 a3_2 bt389.1 bt389.2.1 bt389.2.2.1 bt389.2.2.2.1 bt389.2.2.2.2.1)) else (relievolaw03_SideMoved.j0 k bt389.2.2.2.2.2.1 true a0_0 a0_1 a0_2 a1_0 a1_1 a1_2 a2_0 a2_1 a2_2 a2_3 a2_4 a2_5 a2_6 a2_7 a2_8 a3_0 a3_1 a3_2 bt389.1 bt389.2.1 bt389.2.2.1 bt389.2.2.2.1 bt389.2.2.2.2.1))) = some r := by rw [if_pos rfl] at H; exact H
  clear H
  have H := H1
  clear H1
  replace H := Option.bind_eq_some_iff.mp H
  obtain ⟨⟨t389, t390, t391, t392, t393, t394, t395⟩, A70, H⟩ := H
  replace H : (if t395 = 0 then ((relievoref00_Within.f a3_0 a3_1 a3_2 1048576).bind fun t397 => (relievolaw03_SideMoved.j0 k t394 (!t397) a0_0 a0_1 a0_2 a1_0 a1_1 a1_2 a2_0 a2_1 a2_2 a2_3 a2_4 a2_5 a2_6 a2_7 a2_8 a3_0 a3_1 a3_2 t389 t390 t391 t392 t393)) else (relievolaw03_SideMoved.j0 k t394 true a0_0 a0_1 a0_2 a1_0 a1_1 a1_2 a2_0 a2_1 a2_2 a2_3 a2_4 a2_5 a2_6 a2_7 a2_8 a3_0 a3_1 a3_2 t389 t390 t391 t392 t393)) = some r := H
  have A7 := Aside0.mk A70
  clear A70
  have HC8 := Aside0.mk H
  clear H
  go_enter Try.func7, Try.ntmps7
  go_upto_region 4 with (first | ((with_reducible refine gate_dst (N := 4) rfl ?_); refine box_event ?hg (N := 4) ?hd (cs := #[.int .i64 a0_0, .int .i64 a0_1, .int .i64 a0_2]) (t := 23) ?hr ?_; (case hd => rfl); (case hg => rfl); (case hr => first | (go_simp; done) | (go_simp; rfl)); intro gb384 hg w9 hbox hb; have BK384 := Aside0.mk (hbox); have GE384 := Aside0.mk (bG hg (HB.out)); replace HB := Aside0.mk (below_step (HB.out) hb); clear hb hbox hg) | ((with_reducible refine gate_dst (N := 5) rfl ?_); refine box_event ?hg (N := 5) ?hd (cs := #[.int .i64 a1_0, .int .i64 a1_1, .int .i64 a1_2]) (t := 23) ?hr ?_; (case hd => rfl); (case hg => rfl); (case hr => first | (go_simp; done) | (go_simp; rfl)); intro gb385 hg w10 hbox hb; have BK385 := Aside0.mk (hbox); have GE385 := Aside0.mk (bG hg (HB.out)); have NB384_385 := Aside0.mk (bN hg (BK384.out)); have NB385_384 := Aside0.mk (bM hg (BK384.out)); replace BK384 := Aside0.mk (bB hb (BK384.out)); replace HB := Aside0.mk (below_step (HB.out) hb); clear hb hbox hg) | ((with_reducible refine gate_dst (N := 6) rfl ?_); refine box_event ?hg (N := 6) ?hd (cs := #[.int .i64 a2_0, .int .i64 a2_1, .int .i64 a2_2, .int .i64 a2_3, .int .i64 a2_4, .int .i64 a2_5, .int .i64 a2_6, .int .i64 a2_7, .int .i64 a2_8]) (t := 25) ?hr ?_; (case hd => rfl); (case hg => rfl); (case hr => first | (go_simp; done) | (go_simp; rfl)); intro gb386 hg w11 hbox hb; have BK386 := Aside0.mk (hbox); have GE386 := Aside0.mk (bG hg (HB.out)); have NB384_386 := Aside0.mk (bN hg (BK384.out)); have NB386_384 := Aside0.mk (bM hg (BK384.out)); have NB385_386 := Aside0.mk (bN hg (BK385.out)); have NB386_385 := Aside0.mk (bM hg (BK385.out)); replace BK384 := Aside0.mk (bB hb (BK384.out)); replace BK385 := Aside0.mk (bB hb (BK385.out)); replace HB := Aside0.mk (below_step (HB.out) hb); clear hb hbox hg) | ((with_reducible refine gate_dst (N := 7) rfl ?_); refine box_event ?hg (N := 7) ?hd (cs := #[.int .i64 a3_0, .int .i64 a3_1, .int .i64 a3_2]) (t := 23) ?hr ?_; (case hd => rfl); (case hg => rfl); (case hr => first | (go_simp; done) | (go_simp; rfl)); intro gb387 hg w12 hbox hb; have BK387 := Aside0.mk (hbox); have GE387 := Aside0.mk (bG hg (HB.out)); have NB384_387 := Aside0.mk (bN hg (BK384.out)); have NB387_384 := Aside0.mk (bM hg (BK384.out)); have NB385_387 := Aside0.mk (bN hg (BK385.out)); have NB387_385 := Aside0.mk (bM hg (BK385.out)); have NB386_387 := Aside0.mk (bN hg (BK386.out)); have NB387_386 := Aside0.mk (bM hg (BK386.out)); replace BK384 := Aside0.mk (bB hb (BK384.out)); replace BK385 := Aside0.mk (bB hb (BK385.out)); replace BK386 := Aside0.mk (bB hb (BK386.out)); replace HB := Aside0.mk (below_step (HB.out) hb); clear hb hbox hg) | ((with_reducible refine gate_callee (f := 19) rfl ?_); refine goesL_ (some 15) rfl rfl Try.func19 (by kernel_rfl) rfl #[] rfl (by (try simp only [List.map_toArray, List.map_cons, List.map_nil]); first | done | rfl | (simp only [List.length_drop, List.length_take]; rfl)) ?_; (with_reducible refine (relievolaw03_alive.calls k  true _ A5.out).mono ?_); rintro e w13 ⟨rfl, hb⟩; refine ⟨_, rfl, ?_⟩; replace BK384 := Aside0.mk (bB hb (BK384.out)); replace BK385 := Aside0.mk (bB hb (BK385.out)); replace BK386 := Aside0.mk (bB hb (BK386.out)); replace BK387 := Aside0.mk (bB hb (BK387.out)); replace HB := Aside0.mk (below_step (HB.out) hb); (try clear hb); (try clear hb2); (try clear hk); (try clear hi); obtain ⟨hcz14_0, hcz14_1, hcz14_2⟩ := cells3 BK384.out; obtain ⟨hcz15_0, hcz15_1, hcz15_2⟩ := cells3 BK385.out; obtain ⟨hcz16_0, hcz16_1, hcz16_2, hcz16_3, hcz16_4, hcz16_5, hcz16_6, hcz16_7, hcz16_8⟩ := cells9 BK386.out) | ((with_reducible refine gate_callee (f := 20) rfl ?_); refine goesL_ (some 21) rfl rfl Try.func20 (by kernel_rfl) rfl #[.agg #[.int .i64 a0_0, .int .i64 a0_1, .int .i64 a0_2], .agg #[.int .i64 a1_0, .int .i64 a1_1, .int .i64 a1_2], .agg #[.int .i64 a2_0, .int .i64 a2_1, .int .i64 a2_2, .int .i64 a2_3, .int .i64 a2_4, .int .i64 a2_5, .int .i64 a2_6, .int .i64 a2_7, .int .i64 a2_8]] rfl (by (try simp only [List.map_toArray, List.map_cons, List.map_nil]); first | done | rfl | (simp only [List.length_drop, List.length_take]; rfl)) ?_; (with_reducible refine (side_Meet.calls k a0_0 a0_1 a0_2 a1_0 a1_1 a1_2 a2_0 a2_1 a2_2 a2_3 a2_4 a2_5 a2_6 a2_7 a2_8 t389 t390 t391 t392 t393 t394 t395 _ A7.out).mono ?_); rintro e w17 ⟨rfl, hb⟩; refine ⟨_, rfl, ?_⟩; replace BK384 := Aside0.mk (bB hb (BK384.out)); replace BK385 := Aside0.mk (bB hb (BK385.out)); replace BK386 := Aside0.mk (bB hb (BK386.out)); replace BK387 := Aside0.mk (bB hb (BK387.out)); replace HB := Aside0.mk (below_step (HB.out) hb); (try clear hb); (try clear hb2); (try clear hk); (try clear hi)) | ((with_reducible refine gate_dst (N := 9) rfl ?_); refine box_event ?hg (N := 9) ?hd (cs := #[.int .i64 0, .int .i64 0, .bool false, .int .i64 0, .int .i64 0]) (t := 30) ?hr ?_; (case hd => rfl); (case hg => rfl); (case hr => first | (go_simp; done) | (go_simp; rfl)); intro gb396 hg w18 hbox hb; have BK396 := Aside0.mk (hbox); have GE396 := Aside0.mk (bG hg (HB.out)); have NB384_396 := Aside0.mk (bN hg (BK384.out)); have NB396_384 := Aside0.mk (bM hg (BK384.out)); have NB385_396 := Aside0.mk (bN hg (BK385.out)); have NB396_385 := Aside0.mk (bM hg (BK385.out)); have NB386_396 := Aside0.mk (bN hg (BK386.out)); have NB396_386 := Aside0.mk (bM hg (BK386.out)); have NB387_396 := Aside0.mk (bN hg (BK387.out)); have NB396_387 := Aside0.mk (bM hg (BK387.out)); replace BK384 := Aside0.mk (bB hb (BK384.out)); replace BK385 := Aside0.mk (bB hb (BK385.out)); replace BK386 := Aside0.mk (bB hb (BK386.out)); replace BK387 := Aside0.mk (bB hb (BK387.out)); replace HB := Aside0.mk (below_step (HB.out) hb); clear hb hbox hg; have hnb19 := NB396_384.out; have hnc19 := NB384_396.out; have hnb20 := NB396_385.out; have hnc20 := NB385_396.out; have hnb21 := NB396_386.out; have hnc21 := NB386_396.out; have hnb22 := NB396_387.out; have hnc22 := NB387_396.out; obtain ⟨hcz23_0, hcz23_1, hcz23_2, hcz23_3, hcz23_4⟩ := cells5 BK396.out; have hfz23_0 := blk_frozen BK396.out 0; have hfz23_1 := blk_frozen BK396.out 1; have hfz23_2 := blk_frozen BK396.out 2; have hfz23_3 := blk_frozen BK396.out 3; have hfz23_4 := blk_frozen BK396.out 4))
  (try simp only [Act.put, List.setIfInBounds_toArray, List.set_cons_zero, List.set_cons_succ])
  go_cut [31] (fun v31 wc => ∃ (kq : Nat) (x31_7 : Bool), v31 = .bool x31_7 ∧ Aside0 (relievolaw03_SideMoved.j0 kq t394 x31_7 a0_0 a0_1 a0_2 a1_0 a1_1 a1_2 a2_0 a2_1 a2_2 a2_3 a2_4 a2_5 a2_6 a2_7 a2_8 a3_0 a3_1 a3_2 t389 t390 t391 t392 t393 = some r) ∧ Aside0 (kq ≤ k) ∧ Aside0 (wc.heap[gb384]? = some (.cells #[.int .i64 a0_0, .int .i64 a0_1, .int .i64 a0_2] 23 (0, 0))) ∧ Aside0 (wc.heap[gb385]? = some (.cells #[.int .i64 a1_0, .int .i64 a1_1, .int .i64 a1_2] 23 (0, 0))) ∧ Aside0 (wc.heap[gb386]? = some (.cells #[.int .i64 a2_0, .int .i64 a2_1, .int .i64 a2_2, .int .i64 a2_3, .int .i64 a2_4, .int .i64 a2_5, .int .i64 a2_6, .int .i64 a2_7, .int .i64 a2_8] 25 (0, 0))) ∧ Aside0 (wc.heap[gb387]? = some (.cells #[.int .i64 a3_0, .int .i64 a3_1, .int .i64 a3_2] 23 (0, 0))) ∧ Aside0 (wc.heap[gb396]? = some (.cells #[.int .i64 t389, .int .i64 t390, .bool t391, .int .i64 t392, .int .i64 t393] 30 (0, 0))) ∧ Aside0 (Below w.heap.size w wc))
  case first =>
   have H := HC8.out
   clear HC8
   by_cases c24 : t395 = 0
   ·rw [if_pos c24] at H
    have c24b0 : (t395 == 0) = true := beq_iff_eq.mpr c24
    have c24b1 : (t395 != 0) = false := bne_eq_false_iff_eq.mpr c24
    clear c24
    (first | rw [c24b0] | (simp only [i64_w, i32_w]; rw [c24b0]) | skip)
    replace H := Option.bind_eq_some_iff.mp H
    obtain ⟨t397, A250, H⟩ := H
    replace H : (relievolaw03_SideMoved.j0 k t394 (!t397) a0_0 a0_1 a0_2 a1_0 a1_1 a1_2 a2_0 a2_1 a2_2 a2_3 a2_4 a2_5 a2_6 a2_7 a2_8 a3_0 a3_1 a3_2 t389 t390 t391 t392 t393) = some r := H
    have A25 := Aside0.mk A250
    clear A250
    have H' := Aside0.mk H
    clear H
    obtain ⟨hcz26_0, hcz26_1, hcz26_2⟩ := cells3 BK387.out
    go_wp2_with (first | (go_at_call 22; (with_reducible refine (relievoref00_Within.calls a3_0 a3_1 a3_2 1048576 t397 _ A25.out).mono ?_); rintro e w27 ⟨rfl, hb⟩; replace BK384 := Aside0.mk (bB hb ((blk_far (blk_far (blk_far (blk_far (blk_far BK384.out NB384_396.out _) NB384_396.out _) NB384_396.out _) NB384_396.out _) NB384_396.out _))); replace BK385 := Aside0.mk (bB hb ((blk_far (blk_far (blk_far (blk_far (blk_far BK385.out NB385_396.out _) NB385_396.out _) NB385_396.out _) NB385_396.out _) NB385_396.out _))); replace BK386 := Aside0.mk (bB hb ((blk_far (blk_far (blk_far (blk_far (blk_far BK386.out NB386_396.out _) NB386_396.out _) NB386_396.out _) NB386_396.out _) NB386_396.out _))); replace BK387 := Aside0.mk (bB hb ((blk_far (blk_far (blk_far (blk_far (blk_far BK387.out NB387_396.out _) NB387_396.out _) NB387_396.out _) NB387_396.out _) NB387_396.out _))); replace BK396 := Aside0.mk (bB hb ((blk_put (cs' := #[.int .i64 t389, .int .i64 t390, .bool t391, .int .i64 t392, .int .i64 t393]) (blk_put (cs' := #[.int .i64 t389, .int .i64 t390, .bool t391, .int .i64 t392, .int .i64 0]) (blk_put (cs' := #[.int .i64 t389, .int .i64 t390, .bool t391, .int .i64 0, .int .i64 0]) (blk_put (cs' := #[.int .i64 t389, .int .i64 t390, .bool false, .int .i64 0, .int .i64 0]) (blk_put (cs' := #[.int .i64 t389, .int .i64 0, .bool false, .int .i64 0, .int .i64 0]) BK396.out 0 _ rfl) 1 _ rfl) 2 _ rfl) 3 _ rfl) 4 _ rfl))); replace HB := Aside0.mk (below_step ((below_set (below_set (below_set (below_set (below_set HB.out GE396.out) GE396.out) GE396.out) GE396.out) GE396.out)) hb); (try clear hb); (try clear hb2); (try clear hk); (try clear hi)))
    go_meet
    case rel => exact ⟨_, (!t397), (by first | rfl | (simp; done) | (simp [*]; done)), H', ⟨by first | omega | exact Nat.le_refl _⟩, ⟨BK384.out⟩, ⟨BK385.out⟩, ⟨BK386.out⟩, ⟨BK387.out⟩, ⟨BK396.out⟩, ⟨HB.out⟩⟩
   ·rw [if_neg c24] at H
    have c24b0 : (t395 == 0) = false := beq_eq_false_iff_ne.mpr c24
    have c24b1 : (t395 != 0) = true := bne_iff_ne.mpr c24
    (first | rw [c24b0] | (simp only [i64_w, i32_w]; rw [c24b0]) | skip)
    have H' := Aside0.mk H
    clear H
    go_wp2
    go_meet
    case rel => exact ⟨_, (true), (by first | rfl | (simp; done) | (simp [*]; done)), H', ⟨by first | omega | exact Nat.le_refl _⟩, ⟨(blk_far (blk_far (blk_far (blk_far (blk_far BK384.out NB384_396.out _) NB384_396.out _) NB384_396.out _) NB384_396.out _) NB384_396.out _)⟩, ⟨(blk_far (blk_far (blk_far (blk_far (blk_far BK385.out NB385_396.out _) NB385_396.out _) NB385_396.out _) NB385_396.out _) NB385_396.out _)⟩, ⟨(blk_far (blk_far (blk_far (blk_far (blk_far BK386.out NB386_396.out _) NB386_396.out _) NB386_396.out _) NB386_396.out _) NB386_396.out _)⟩, ⟨(blk_far (blk_far (blk_far (blk_far (blk_far BK387.out NB387_396.out _) NB387_396.out _) NB387_396.out _) NB387_396.out _) NB387_396.out _)⟩, ⟨(blk_put (cs' := #[.int .i64 t389, .int .i64 t390, .bool t391, .int .i64 t392, .int .i64 t393]) (blk_put (cs' := #[.int .i64 t389, .int .i64 t390, .bool t391, .int .i64 t392, .int .i64 0]) (blk_put (cs' := #[.int .i64 t389, .int .i64 t390, .bool t391, .int .i64 0, .int .i64 0]) (blk_put (cs' := #[.int .i64 t389, .int .i64 t390, .bool false, .int .i64 0, .int .i64 0]) (blk_put (cs' := #[.int .i64 t389, .int .i64 0, .bool false, .int .i64 0, .int .i64 0]) BK396.out 0 _ rfl) 1 _ rfl) 2 _ rfl) 3 _ rfl) 4 _ rfl)⟩, ⟨(below_set (below_set (below_set (below_set (below_set HB.out GE396.out) GE396.out) GE396.out) GE396.out) GE396.out)⟩⟩
  case rest =>
   clear HC8
   try clear c6
   try clear hcz14_0
   try clear hcz14_1
   try clear hcz14_2
   try clear hcz15_0
   try clear hcz15_1
   try clear hcz15_2
   try clear hcz16_0
   try clear hcz16_1
   try clear hcz16_2
   try clear hcz16_3
   try clear hcz16_4
   try clear hcz16_5
   try clear hcz16_6
   try clear hcz16_7
   try clear hcz16_8
   try clear hcz23_0
   try clear hcz23_1
   try clear hcz23_2
   try clear hcz23_3
   try clear hcz23_4
   try clear hfz23_0
   try clear hfz23_1
   try clear hfz23_2
   try clear hfz23_3
   try clear hfz23_4
   obtain ⟨kq, x31_7, rfl, HA, HJ7, BK384, BK385, BK386, BK387, BK396, HB⟩ := hcut
   cases kq with
   | zero => exact absurd HA.out (by simp [relievolaw03_SideMoved.j0])
   | succ kj7 =>
    have H := HA.out
    clear HA
    simp only [relievolaw03_SideMoved.j0] at H
    by_cases c28 : x31_7 = true
    ·subst c28
     have H1 : (some true) = some r := by rw [if_pos rfl] at H; exact H
     clear H
     have H := H1
     clear H1
     obtain rfl := Option.some.inj H
     go_wp2
     go_ret
     exact ⟨by first | rfl | (simp [errW_none, errW_some] <;> rfl) | (simp [*, errW_none, errW_some] <;> rfl), HB.out⟩
    ·replace c28 := Bool.eq_false_iff.mpr c28
     subst c28
     have H1 : ((relievoref02_Add.f a0_0 a0_1 a0_2 a3_0 a3_1 a3_2).bind fun bt398 => ((relievoref02_Add.f a2_0 a2_1 a2_2 a3_0 a3_1 a3_2).bind fun bt401 => ((relievoref02_Add.f a2_3 a2_4 a2_5 a3_0 a3_1 a3_2).bind fun bt404 => ((relievoref02_Add.f a2_6 a2_7 a2_8 a3_0 a3_1 a3_2).bind fun bt407 => ((side_Meet.f kj7 bt398.1 bt398.2.1 bt398.2.2 a1_0 a1_1 a1_2 bt401.1 bt401.2.1 bt401.2.2 bt404.1 bt404.2.1 bt404.2.2 bt407.1 bt407.2.1 bt407.2.2).bind fun bt410 => (if bt410.2.2.2.2.2.2 = 0 then (if ((t389 == bt410.1 && (t390 == bt410.2.1)) && (t391 == bt410.2.2.1 && (t392 == bt410.2.2.2.1 && (t393 == bt410.2.2.2.2.1)))) = true then (relievolaw03_SideMoved.j1 kj7 (t394 == bt410.2.2.2.2.2.1)) else (relievolaw03_SideMoved.j1 kj7 false)) else (relievolaw03_SideMoved.j1 kj7 true))))))) = some r := by rw [if_neg (show ¬ (false = true) by decide)] at H; exact H
     clear H
     have H := H1
     clear H1
     replace H := Option.bind_eq_some_iff.mp H
     obtain ⟨⟨t398, t399, t400⟩, A290, H⟩ := H
     replace H : ((relievoref02_Add.f a2_0 a2_1 a2_2 a3_0 a3_1 a3_2).bind fun bt401 => ((relievoref02_Add.f a2_3 a2_4 a2_5 a3_0 a3_1 a3_2).bind fun bt404 => ((relievoref02_Add.f a2_6 a2_7 a2_8 a3_0 a3_1 a3_2).bind fun bt407 => ((side_Meet.f kj7 t398 t399 t400 a1_0 a1_1 a1_2 bt401.1 bt401.2.1 bt401.2.2 bt404.1 bt404.2.1 bt404.2.2 bt407.1 bt407.2.1 bt407.2.2).bind fun bt410 => (if bt410.2.2.2.2.2.2 = 0 then (if ((t389 == bt410.1 && (t390 == bt410.2.1)) && (t391 == bt410.2.2.1 && (t392 == bt410.2.2.2.1 && (t393 == bt410.2.2.2.2.1)))) = true then (relievolaw03_SideMoved.j1 kj7 (t394 == bt410.2.2.2.2.2.1)) else (relievolaw03_SideMoved.j1 kj7 false)) else (relievolaw03_SideMoved.j1 kj7 true)))))) = some r := H
     have A29 := Aside0.mk A290
     clear A290
     replace H := Option.bind_eq_some_iff.mp H
     obtain ⟨⟨t401, t402, t403⟩, A300, H⟩ := H
     replace H : ((relievoref02_Add.f a2_3 a2_4 a2_5 a3_0 a3_1 a3_2).bind fun bt404 => ((relievoref02_Add.f a2_6 a2_7 a2_8 a3_0 a3_1 a3_2).bind fun bt407 => ((side_Meet.f kj7 t398 t399 t400 a1_0 a1_1 a1_2 t401 t402 t403 bt404.1 bt404.2.1 bt404.2.2 bt407.1 bt407.2.1 bt407.2.2).bind fun bt410 => (if bt410.2.2.2.2.2.2 = 0 then (if ((t389 == bt410.1 && (t390 == bt410.2.1)) && (t391 == bt410.2.2.1 && (t392 == bt410.2.2.2.1 && (t393 == bt410.2.2.2.2.1)))) = true then (relievolaw03_SideMoved.j1 kj7 (t394 == bt410.2.2.2.2.2.1)) else (relievolaw03_SideMoved.j1 kj7 false)) else (relievolaw03_SideMoved.j1 kj7 true))))) = some r := H
     have A30 := Aside0.mk A300
     clear A300
     replace H := Option.bind_eq_some_iff.mp H
     obtain ⟨⟨t404, t405, t406⟩, A310, H⟩ := H
     replace H : ((relievoref02_Add.f a2_6 a2_7 a2_8 a3_0 a3_1 a3_2).bind fun bt407 => ((side_Meet.f kj7 t398 t399 t400 a1_0 a1_1 a1_2 t401 t402 t403 t404 t405 t406 bt407.1 bt407.2.1 bt407.2.2).bind fun bt410 => (if bt410.2.2.2.2.2.2 = 0 then (if ((t389 == bt410.1 && (t390 == bt410.2.1)) && (t391 == bt410.2.2.1 && (t392 == bt410.2.2.2.1 && (t393 == bt410.2.2.2.2.1)))) = true then (relievolaw03_SideMoved.j1 kj7 (t394 == bt410.2.2.2.2.2.1)) else (relievolaw03_SideMoved.j1 kj7 false)) else (relievolaw03_SideMoved.j1 kj7 true)))) = some r := H
     have A31 := Aside0.mk A310
     clear A310
     replace H := Option.bind_eq_some_iff.mp H
     obtain ⟨⟨t407, t408, t409⟩, A320, H⟩ := H
     replace H : ((side_Meet.f kj7 t398 t399 t400 a1_0 a1_1 a1_2 t401 t402 t403 t404 t405 t406 t407 t408 t409).bind fun bt410 => (if bt410.2.2.2.2.2.2 = 0 then (if ((t389 == bt410.1 && (t390 == bt410.2.1)) && (t391 == bt410.2.2.1 && (t392 == bt410.2.2.2.1 && (t393 == bt410.2.2.2.2.1)))) = true then (relievolaw03_SideMoved.j1 kj7 (t394 == bt410.2.2.2.2.2.1)) else (relievolaw03_SideMoved.j1 kj7 false)) else (relievolaw03_SideMoved.j1 kj7 true))) = some r := H
     have A32 := Aside0.mk A320
     clear A320
     replace H := Option.bind_eq_some_iff.mp H
     obtain ⟨⟨t410, t411, t412, t413, t414, t415, t416⟩, A330, H⟩ := H
     replace H : (if t416 = 0 then (if ((t389 == t410 && (t390 == t411)) && (t391 == t412 && (t392 == t413 && (t393 == t414)))) = true then (relievolaw03_SideMoved.j1 kj7 (t394 == t415)) else (relievolaw03_SideMoved.j1 kj7 false)) else (relievolaw03_SideMoved.j1 kj7 true)) = some r := H
     have A33 := Aside0.mk A330
     clear A330
     have HC34 := Aside0.mk H
     clear H
     try go_wp2
     replace BK384 := Aside0.mk (blk_drew BK384.out)
     replace BK385 := Aside0.mk (blk_drew BK385.out)
     replace BK386 := Aside0.mk (blk_drew BK386.out)
     replace BK387 := Aside0.mk (blk_drew BK387.out)
     replace BK396 := Aside0.mk (blk_drew BK396.out)
     replace HB := Aside0.mk (below_drew1 HB.out)
     refine start_ (n := 26) (S := fun w' => w'.cell? ⟨gb384, 0, none⟩ = some (.int .i64 a0_0) ∧ w'.cell? ⟨gb384, 1, none⟩ = some (.int .i64 a0_1) ∧ w'.cell? ⟨gb384, 2, none⟩ = some (.int .i64 a0_2) ∧ w'.cell? ⟨gb387, 0, none⟩ = some (.int .i64 a3_0) ∧ w'.cell? ⟨gb387, 1, none⟩ = some (.int .i64 a3_1) ∧ w'.cell? ⟨gb387, 2, none⟩ = some (.int .i64 a3_2) ∧ w'.cell? ⟨gb385, 0, none⟩ = some (.int .i64 a1_0) ∧ w'.cell? ⟨gb385, 1, none⟩ = some (.int .i64 a1_1) ∧ w'.cell? ⟨gb385, 2, none⟩ = some (.int .i64 a1_2) ∧ w'.cell? ⟨gb386, 0, none⟩ = some (.int .i64 a2_0) ∧ w'.cell? ⟨gb386, 1, none⟩ = some (.int .i64 a2_1) ∧ w'.cell? ⟨gb386, 2, none⟩ = some (.int .i64 a2_2) ∧ w'.cell? ⟨gb386, 3, none⟩ = some (.int .i64 a2_3) ∧ w'.cell? ⟨gb386, 4, none⟩ = some (.int .i64 a2_4) ∧ w'.cell? ⟨gb386, 5, none⟩ = some (.int .i64 a2_5) ∧ w'.cell? ⟨gb386, 6, none⟩ = some (.int .i64 a2_6) ∧ w'.cell? ⟨gb386, 7, none⟩ = some (.int .i64 a2_7) ∧ w'.cell? ⟨gb386, 8, none⟩ = some (.int .i64 a2_8)) (ds := []) #[false, false, false, false, false, false, false, false, false, false, false, false, false, false, false, false, false, false, false, false, false, false, false, false, false, false] (by kernel_rfl) rfl rfl ⟨(blk_cell BK384.out 0).trans rfl, (blk_cell BK384.out 1).trans rfl, (blk_cell BK384.out 2).trans rfl, (blk_cell BK387.out 0).trans rfl, (blk_cell BK387.out 1).trans rfl, (blk_cell BK387.out 2).trans rfl, (blk_cell BK385.out 0).trans rfl, (blk_cell BK385.out 1).trans rfl, (blk_cell BK385.out 2).trans rfl, (blk_cell BK386.out 0).trans rfl, (blk_cell BK386.out 1).trans rfl, (blk_cell BK386.out 2).trans rfl, (blk_cell BK386.out 3).trans rfl, (blk_cell BK386.out 4).trans rfl, (blk_cell BK386.out 5).trans rfl, (blk_cell BK386.out 6).trans rfl, (blk_cell BK386.out 7).trans rfl, (blk_cell BK386.out 8).trans rfl⟩ (fun hHeld => ?_); refine with_tabW relievolaw03_SideMoved.tab6 relievolaw03_SideMoved.bits6 (fun HT_ HW_ => ?_)
     generalize wc.drew = w35 at BK384 BK385 BK386 BK387 BK396 HB hHeld ⊢
     refine pure_ (i := 4) (N := some 37) (v := ?_) (a' := ?_) #[false, false, false, false, true, false, false, false, false, false, false, false, false, false, false, false, false, false, false, false, false, false, false, false, false, false] rfl rfl (any_of HT_.out (by kernel_rfl)) (fun _ _ _ h => h) (Or.inl ⟨by rfl, ?_⟩) ?_ ?_
     rotate_left
     ·intro w'
      go_simp
      with_reducible rfl
     rotate_left
     ·simp only [Act.put, List.setIfInBounds_toArray, List.set_cons_zero, List.set_cons_succ, i64_w, i32_w]
      rfl
     refine pure_ (i := 8) (N := some 41) (v := ?_) (a' := ?_) #[false, false, false, false, true, false, false, false, true, false, false, false, false, false, false, false, false, false, false, false, false, false, false, false, false, false] rfl rfl (any_of HT_.out (by kernel_rfl)) (fun _ _ _ h => h) (Or.inl ⟨by rfl, ?_⟩) ?_ ?_
     rotate_left
     ·intro w'
      go_simp
      with_reducible rfl
     rotate_left
     ·simp only [Act.put, List.setIfInBounds_toArray, List.set_cons_zero, List.set_cons_succ, i64_w, i32_w]
      rfl
     refine pure_ (i := 12) (N := some 45) (v := ?_) (a' := ?_) #[false, false, false, false, true, false, false, false, true, false, false, false, true, false, false, false, false, false, false, false, false, false, false, false, false, false] rfl rfl (any_of HT_.out (by kernel_rfl)) (fun _ _ _ h => h) (Or.inl ⟨by rfl, ?_⟩) ?_ ?_
     rotate_left
     ·intro w'
      go_simp
      with_reducible rfl
     rotate_left
     ·simp only [Act.put, List.setIfInBounds_toArray, List.set_cons_zero, List.set_cons_succ, i64_w, i32_w]
      rfl
     refine take_ (i := 0) (N := some 33) (v := ?_) (a' := ?_) #[true, false, false, false, true, false, false, false, true, false, false, false, true, false, false, false, false, false, false, false, false, false, false, false, false, false] rfl rfl (take_ofW HT_.out HW_.out (by kernel_rfl)) (fun _ _ _ h => h) (Or.inl ⟨by rfl, ?_⟩) hHeld ?_ ?_
     rotate_left
     ·rintro w' ⟨s0, s1, s2, s3, s4, s5, s6, s7, s8, s9, s10, s11, s12, s13, s14, s15, s16, s17⟩
      go_simp
      with_reducible rfl
     rotate_left
     ·simp only [Act.put, List.setIfInBounds_toArray, List.set_cons_zero, List.set_cons_succ, i64_w, i32_w]
      rfl
     refine take_ (i := 1) (N := some 34) (v := ?_) (a' := ?_) #[true, true, false, false, true, false, false, false, true, false, false, false, true, false, false, false, false, false, false, false, false, false, false, false, false, false] rfl rfl (take_ofW HT_.out HW_.out (by kernel_rfl)) (fun _ _ _ h => h) (Or.inl ⟨by rfl, ?_⟩) hHeld ?_ ?_
     rotate_left
     ·rintro w' ⟨s0, s1, s2, s3, s4, s5, s6, s7, s8, s9, s10, s11, s12, s13, s14, s15, s16, s17⟩
      go_simp
      with_reducible rfl
     rotate_left
     ·simp only [Act.put, List.setIfInBounds_toArray, List.set_cons_zero, List.set_cons_succ, i64_w, i32_w]
      rfl
     refine take_ (i := 3) (N := some 36) (v := ?_) (a' := ?_) #[true, true, false, true, true, false, false, false, true, false, false, false, true, false, false, false, false, false, false, false, false, false, false, false, false, false] rfl rfl (take_ofW HT_.out HW_.out (by kernel_rfl)) (fun _ _ _ h => h) (Or.inl ⟨by rfl, ?_⟩) hHeld ?_ ?_
     rotate_left
     ·rintro w' ⟨s0, s1, s2, s3, s4, s5, s6, s7, s8, s9, s10, s11, s12, s13, s14, s15, s16, s17⟩
      go_simp
      with_reducible rfl
     rotate_left
     ·simp only [Act.put, List.setIfInBounds_toArray, List.set_cons_zero, List.set_cons_succ, i64_w, i32_w]
      rfl
     refine take_ (i := 5) (N := some 38) (v := ?_) (a' := ?_) #[true, true, false, true, true, true, false, false, true, false, false, false, true, false, false, false, false, false, false, false, false, false, false, false, false, false] rfl rfl (take_ofW HT_.out HW_.out (by kernel_rfl)) (fun _ _ _ h => h) (Or.inl ⟨by rfl, ?_⟩) hHeld ?_ ?_
     rotate_left
     ·rintro w' ⟨s0, s1, s2, s3, s4, s5, s6, s7, s8, s9, s10, s11, s12, s13, s14, s15, s16, s17⟩
      go_simp
      with_reducible rfl
     rotate_left
     ·simp only [Act.put, List.setIfInBounds_toArray, List.set_cons_zero, List.set_cons_succ, i64_w, i32_w]
      rfl
     refine take_ (i := 6) (N := some 39) (v := ?_) (a' := ?_) #[true, true, false, true, true, true, true, false, true, false, false, false, true, false, false, false, false, false, false, false, false, false, false, false, false, false] rfl rfl (take_ofW HT_.out HW_.out (by kernel_rfl)) (fun _ _ _ h => h) (Or.inl ⟨by rfl, ?_⟩) hHeld ?_ ?_
     rotate_left
     ·rintro w' ⟨s0, s1, s2, s3, s4, s5, s6, s7, s8, s9, s10, s11, s12, s13, s14, s15, s16, s17⟩
      go_simp
      with_reducible rfl
     rotate_left
     ·simp only [Act.put, List.setIfInBounds_toArray, List.set_cons_zero, List.set_cons_succ, i64_w, i32_w]
      rfl
     refine take_ (i := 9) (N := some 42) (v := ?_) (a' := ?_) #[true, true, false, true, true, true, true, false, true, true, false, false, true, false, false, false, false, false, false, false, false, false, false, false, false, false] rfl rfl (take_ofW HT_.out HW_.out (by kernel_rfl)) (fun _ _ _ h => h) (Or.inl ⟨by rfl, ?_⟩) hHeld ?_ ?_
     rotate_left
     ·rintro w' ⟨s0, s1, s2, s3, s4, s5, s6, s7, s8, s9, s10, s11, s12, s13, s14, s15, s16, s17⟩
      go_simp
      with_reducible rfl
     rotate_left
     ·simp only [Act.put, List.setIfInBounds_toArray, List.set_cons_zero, List.set_cons_succ, i64_w, i32_w]
      rfl
     refine take_ (i := 10) (N := some 43) (v := ?_) (a' := ?_) #[true, true, false, true, true, true, true, false, true, true, true, false, true, false, false, false, false, false, false, false, false, false, false, false, false, false] rfl rfl (take_ofW HT_.out HW_.out (by kernel_rfl)) (fun _ _ _ h => h) (Or.inl ⟨by rfl, ?_⟩) hHeld ?_ ?_
     rotate_left
     ·rintro w' ⟨s0, s1, s2, s3, s4, s5, s6, s7, s8, s9, s10, s11, s12, s13, s14, s15, s16, s17⟩
      go_simp
      with_reducible rfl
     rotate_left
     ·simp only [Act.put, List.setIfInBounds_toArray, List.set_cons_zero, List.set_cons_succ, i64_w, i32_w]
      rfl
     refine take_ (i := 13) (N := some 46) (v := ?_) (a' := ?_) #[true, true, false, true, true, true, true, false, true, true, true, false, true, true, false, false, false, false, false, false, false, false, false, false, false, false] rfl rfl (take_ofW HT_.out HW_.out (by kernel_rfl)) (fun _ _ _ h => h) (Or.inl ⟨by rfl, ?_⟩) hHeld ?_ ?_
     rotate_left
     ·rintro w' ⟨s0, s1, s2, s3, s4, s5, s6, s7, s8, s9, s10, s11, s12, s13, s14, s15, s16, s17⟩
      go_simp
      with_reducible rfl
     rotate_left
     ·simp only [Act.put, List.setIfInBounds_toArray, List.set_cons_zero, List.set_cons_succ, i64_w, i32_w]
      rfl
     refine take_ (i := 14) (N := some 47) (v := ?_) (a' := ?_) #[true, true, false, true, true, true, true, false, true, true, true, false, true, true, true, false, false, false, false, false, false, false, false, false, false, false] rfl rfl (take_ofW HT_.out HW_.out (by kernel_rfl)) (fun _ _ _ h => h) (Or.inl ⟨by rfl, ?_⟩) hHeld ?_ ?_
     rotate_left
     ·rintro w' ⟨s0, s1, s2, s3, s4, s5, s6, s7, s8, s9, s10, s11, s12, s13, s14, s15, s16, s17⟩
      go_simp
      with_reducible rfl
     rotate_left
     ·simp only [Act.put, List.setIfInBounds_toArray, List.set_cons_zero, List.set_cons_succ, i64_w, i32_w]
      rfl
     refine join_ (σ := Nat) 3 #[true, true, true, true, true, true, true, true, true, true, true, true, true, true, true, true, true, true, true, true, true, true, true, false, false, false] (fun s_ => [(35, .agg #[.int .i64 t398, .int .i64 t399, .int .i64 t400]), (40, .agg #[.int .i64 t401, .int .i64 t402, .int .i64 t403]), (44, .agg #[.int .i64 t404, .int .i64 t405, .int .i64 t406]), (48, .agg #[.int .i64 t407, .int .i64 t408, .int .i64 t409]), (50, .tuple #[.agg #[.int .i64 t410, .int .i64 t411, .bool t412, .int .i64 t413, .int .i64 t414], .bool t415, .int .i64 t416]), (12, .pointer (some ⟨s_, 0, none⟩)), (49, .agg #[.int .i64 t401, .int .i64 t402, .int .i64 t403, .int .i64 t404, .int .i64 t405, .int .i64 t406, .int .i64 t407, .int .i64 t408, .int .i64 t409]), (32, .tuple #[.agg #[.int .i64 t410, .int .i64 t411, .bool t412, .int .i64 t413, .int .i64 t414], .bool t415, .int .i64 t416]), (51, .agg #[.int .i64 t410, .int .i64 t411, .bool t412, .int .i64 t413, .int .i64 t414]), (52, .bool t415), (53, .int .i64 t416)]) (fun s_ w' => (w'.cell? ⟨gb384, 0, none⟩ = some (.int .i64 a0_0) ∧ w'.cell? ⟨gb384, 1, none⟩ = some (.int .i64 a0_1) ∧ w'.cell? ⟨gb384, 2, none⟩ = some (.int .i64 a0_2) ∧ w'.cell? ⟨gb387, 0, none⟩ = some (.int .i64 a3_0) ∧ w'.cell? ⟨gb387, 1, none⟩ = some (.int .i64 a3_1) ∧ w'.cell? ⟨gb387, 2, none⟩ = some (.int .i64 a3_2) ∧ w'.cell? ⟨gb385, 0, none⟩ = some (.int .i64 a1_0) ∧ w'.cell? ⟨gb385, 1, none⟩ = some (.int .i64 a1_1) ∧ w'.cell? ⟨gb385, 2, none⟩ = some (.int .i64 a1_2) ∧ w'.cell? ⟨gb386, 0, none⟩ = some (.int .i64 a2_0) ∧ w'.cell? ⟨gb386, 1, none⟩ = some (.int .i64 a2_1) ∧ w'.cell? ⟨gb386, 2, none⟩ = some (.int .i64 a2_2) ∧ w'.cell? ⟨gb386, 3, none⟩ = some (.int .i64 a2_3) ∧ w'.cell? ⟨gb386, 4, none⟩ = some (.int .i64 a2_4) ∧ w'.cell? ⟨gb386, 5, none⟩ = some (.int .i64 a2_5) ∧ w'.cell? ⟨gb386, 6, none⟩ = some (.int .i64 a2_6) ∧ w'.cell? ⟨gb386, 7, none⟩ = some (.int .i64 a2_7) ∧ w'.cell? ⟨gb386, 8, none⟩ = some (.int .i64 a2_8)) ∧ (w'.heap[gb384]? = some (.cells #[.int .i64 a0_0, .int .i64 a0_1, .int .i64 a0_2] 23 (0, 0))) ∧ (w'.heap[gb385]? = some (.cells #[.int .i64 a1_0, .int .i64 a1_1, .int .i64 a1_2] 23 (0, 0))) ∧ (w'.heap[gb386]? = some (.cells #[.int .i64 a2_0, .int .i64 a2_1, .int .i64 a2_2, .int .i64 a2_3, .int .i64 a2_4, .int .i64 a2_5, .int .i64 a2_6, .int .i64 a2_7, .int .i64 a2_8] 25 (0, 0))) ∧ (w'.heap[gb387]? = some (.cells #[.int .i64 a3_0, .int .i64 a3_1, .int .i64 a3_2] 23 (0, 0))) ∧ (w'.heap[gb396]? = some (.cells #[.int .i64 t389, .int .i64 t390, .bool t391, .int .i64 t392, .int .i64 t393] 30 (0, 0))) ∧ (w'.heap[s_]? = some (.cells #[.int .i64 0, .int .i64 0, .bool false, .int .i64 0, .int .i64 0] 30 (0, 0))) ∧ (w.heap.size ≤ s_) ∧ (gb384 ≠ s_) ∧ (s_ ≠ gb384) ∧ (gb385 ≠ s_) ∧ (s_ ≠ gb385) ∧ (gb386 ≠ s_) ∧ (s_ ≠ gb386) ∧ (gb387 ≠ s_) ∧ (s_ ≠ gb387) ∧ (gb396 ≠ s_) ∧ (s_ ≠ gb396) ∧ (Below w.heap.size w w')) ?_ ?_
     rotate_left
     ·intro hJ2_7_11_15_17_22
      refine join_ (σ := Unit) 4 #[true, true, true, true, true, true, true, true, true, true, true, true, true, true, true, true, true, true, true, true, true, true, false, false, false, false] (fun s_ => [(35, .agg #[.int .i64 t398, .int .i64 t399, .int .i64 t400]), (40, .agg #[.int .i64 t401, .int .i64 t402, .int .i64 t403]), (44, .agg #[.int .i64 t404, .int .i64 t405, .int .i64 t406]), (48, .agg #[.int .i64 t407, .int .i64 t408, .int .i64 t409]), (50, .tuple #[.agg #[.int .i64 t410, .int .i64 t411, .bool t412, .int .i64 t413, .int .i64 t414], .bool t415, .int .i64 t416]), (49, .agg #[.int .i64 t401, .int .i64 t402, .int .i64 t403, .int .i64 t404, .int .i64 t405, .int .i64 t406, .int .i64 t407, .int .i64 t408, .int .i64 t409]), (32, .tuple #[.agg #[.int .i64 t410, .int .i64 t411, .bool t412, .int .i64 t413, .int .i64 t414], .bool t415, .int .i64 t416]), (51, .agg #[.int .i64 t410, .int .i64 t411, .bool t412, .int .i64 t413, .int .i64 t414]), (52, .bool t415), (53, .int .i64 t416)]) (fun s_ w' => (w'.cell? ⟨gb384, 0, none⟩ = some (.int .i64 a0_0) ∧ w'.cell? ⟨gb384, 1, none⟩ = some (.int .i64 a0_1) ∧ w'.cell? ⟨gb384, 2, none⟩ = some (.int .i64 a0_2) ∧ w'.cell? ⟨gb387, 0, none⟩ = some (.int .i64 a3_0) ∧ w'.cell? ⟨gb387, 1, none⟩ = some (.int .i64 a3_1) ∧ w'.cell? ⟨gb387, 2, none⟩ = some (.int .i64 a3_2) ∧ w'.cell? ⟨gb385, 0, none⟩ = some (.int .i64 a1_0) ∧ w'.cell? ⟨gb385, 1, none⟩ = some (.int .i64 a1_1) ∧ w'.cell? ⟨gb385, 2, none⟩ = some (.int .i64 a1_2) ∧ w'.cell? ⟨gb386, 0, none⟩ = some (.int .i64 a2_0) ∧ w'.cell? ⟨gb386, 1, none⟩ = some (.int .i64 a2_1) ∧ w'.cell? ⟨gb386, 2, none⟩ = some (.int .i64 a2_2) ∧ w'.cell? ⟨gb386, 3, none⟩ = some (.int .i64 a2_3) ∧ w'.cell? ⟨gb386, 4, none⟩ = some (.int .i64 a2_4) ∧ w'.cell? ⟨gb386, 5, none⟩ = some (.int .i64 a2_5) ∧ w'.cell? ⟨gb386, 6, none⟩ = some (.int .i64 a2_6) ∧ w'.cell? ⟨gb386, 7, none⟩ = some (.int .i64 a2_7) ∧ w'.cell? ⟨gb386, 8, none⟩ = some (.int .i64 a2_8)) ∧ (w'.heap[gb384]? = some (.cells #[.int .i64 a0_0, .int .i64 a0_1, .int .i64 a0_2] 23 (0, 0))) ∧ (w'.heap[gb385]? = some (.cells #[.int .i64 a1_0, .int .i64 a1_1, .int .i64 a1_2] 23 (0, 0))) ∧ (w'.heap[gb386]? = some (.cells #[.int .i64 a2_0, .int .i64 a2_1, .int .i64 a2_2, .int .i64 a2_3, .int .i64 a2_4, .int .i64 a2_5, .int .i64 a2_6, .int .i64 a2_7, .int .i64 a2_8] 25 (0, 0))) ∧ (w'.heap[gb387]? = some (.cells #[.int .i64 a3_0, .int .i64 a3_1, .int .i64 a3_2] 23 (0, 0))) ∧ (w'.heap[gb396]? = some (.cells #[.int .i64 t389, .int .i64 t390, .bool t391, .int .i64 t392, .int .i64 t393] 30 (0, 0))) ∧ (Below w.heap.size w w')) ?_ ?_
      rotate_left
      ·intro hJ2_7_11_15_17
       refine join_ (σ := Nat) 8 #[true, true, true, true, true, true, true, true, true, true, true, true, true, true, true, true, true, false, false, false, false, false, true, false, false, false] (fun s_ => [(35, .agg #[.int .i64 t398, .int .i64 t399, .int .i64 t400]), (40, .agg #[.int .i64 t401, .int .i64 t402, .int .i64 t403]), (44, .agg #[.int .i64 t404, .int .i64 t405, .int .i64 t406]), (48, .agg #[.int .i64 t407, .int .i64 t408, .int .i64 t409]), (12, .pointer (some ⟨s_, 0, none⟩)), (49, .agg #[.int .i64 t401, .int .i64 t402, .int .i64 t403, .int .i64 t404, .int .i64 t405, .int .i64 t406, .int .i64 t407, .int .i64 t408, .int .i64 t409])]) (fun s_ w' => (w'.cell? ⟨gb384, 0, none⟩ = some (.int .i64 a0_0) ∧ w'.cell? ⟨gb384, 1, none⟩ = some (.int .i64 a0_1) ∧ w'.cell? ⟨gb384, 2, none⟩ = some (.int .i64 a0_2) ∧ w'.cell? ⟨gb387, 0, none⟩ = some (.int .i64 a3_0) ∧ w'.cell? ⟨gb387, 1, none⟩ = some (.int .i64 a3_1) ∧ w'.cell? ⟨gb387, 2, none⟩ = some (.int .i64 a3_2) ∧ w'.cell? ⟨gb385, 0, none⟩ = some (.int .i64 a1_0) ∧ w'.cell? ⟨gb385, 1, none⟩ = some (.int .i64 a1_1) ∧ w'.cell? ⟨gb385, 2, none⟩ = some (.int .i64 a1_2) ∧ w'.cell? ⟨gb386, 0, none⟩ = some (.int .i64 a2_0) ∧ w'.cell? ⟨gb386, 1, none⟩ = some (.int .i64 a2_1) ∧ w'.cell? ⟨gb386, 2, none⟩ = some (.int .i64 a2_2) ∧ w'.cell? ⟨gb386, 3, none⟩ = some (.int .i64 a2_3) ∧ w'.cell? ⟨gb386, 4, none⟩ = some (.int .i64 a2_4) ∧ w'.cell? ⟨gb386, 5, none⟩ = some (.int .i64 a2_5) ∧ w'.cell? ⟨gb386, 6, none⟩ = some (.int .i64 a2_6) ∧ w'.cell? ⟨gb386, 7, none⟩ = some (.int .i64 a2_7) ∧ w'.cell? ⟨gb386, 8, none⟩ = some (.int .i64 a2_8)) ∧ (w'.heap[gb384]? = some (.cells #[.int .i64 a0_0, .int .i64 a0_1, .int .i64 a0_2] 23 (0, 0))) ∧ (w'.heap[gb385]? = some (.cells #[.int .i64 a1_0, .int .i64 a1_1, .int .i64 a1_2] 23 (0, 0))) ∧ (w'.heap[gb386]? = some (.cells #[.int .i64 a2_0, .int .i64 a2_1, .int .i64 a2_2, .int .i64 a2_3, .int .i64 a2_4, .int .i64 a2_5, .int .i64 a2_6, .int .i64 a2_7, .int .i64 a2_8] 25 (0, 0))) ∧ (w'.heap[gb387]? = some (.cells #[.int .i64 a3_0, .int .i64 a3_1, .int .i64 a3_2] 23 (0, 0))) ∧ (w'.heap[gb396]? = some (.cells #[.int .i64 t389, .int .i64 t390, .bool t391, .int .i64 t392, .int .i64 t393] 30 (0, 0))) ∧ (w'.heap[s_]? = some (.cells #[.int .i64 0, .int .i64 0, .bool false, .int .i64 0, .int .i64 0] 30 (0, 0))) ∧ (w.heap.size ≤ s_) ∧ (gb384 ≠ s_) ∧ (s_ ≠ gb384) ∧ (gb385 ≠ s_) ∧ (s_ ≠ gb385) ∧ (gb386 ≠ s_) ∧ (s_ ≠ gb386) ∧ (gb387 ≠ s_) ∧ (s_ ≠ gb387) ∧ (gb396 ≠ s_) ∧ (s_ ≠ gb396) ∧ (Below w.heap.size w w')) ?_ ?_
       rotate_left
       ·intro hJ2_7_11_15_22
        refine join_ (σ := Unit) 9 #[true, true, true, true, true, true, true, true, true, true, true, true, true, true, true, true, true, false, false, false, false, false, false, false, false, false] (fun s_ => [(35, .agg #[.int .i64 t398, .int .i64 t399, .int .i64 t400]), (40, .agg #[.int .i64 t401, .int .i64 t402, .int .i64 t403]), (44, .agg #[.int .i64 t404, .int .i64 t405, .int .i64 t406]), (48, .agg #[.int .i64 t407, .int .i64 t408, .int .i64 t409]), (49, .agg #[.int .i64 t401, .int .i64 t402, .int .i64 t403, .int .i64 t404, .int .i64 t405, .int .i64 t406, .int .i64 t407, .int .i64 t408, .int .i64 t409])]) (fun s_ w' => (w'.cell? ⟨gb384, 0, none⟩ = some (.int .i64 a0_0) ∧ w'.cell? ⟨gb384, 1, none⟩ = some (.int .i64 a0_1) ∧ w'.cell? ⟨gb384, 2, none⟩ = some (.int .i64 a0_2) ∧ w'.cell? ⟨gb387, 0, none⟩ = some (.int .i64 a3_0) ∧ w'.cell? ⟨gb387, 1, none⟩ = some (.int .i64 a3_1) ∧ w'.cell? ⟨gb387, 2, none⟩ = some (.int .i64 a3_2) ∧ w'.cell? ⟨gb385, 0, none⟩ = some (.int .i64 a1_0) ∧ w'.cell? ⟨gb385, 1, none⟩ = some (.int .i64 a1_1) ∧ w'.cell? ⟨gb385, 2, none⟩ = some (.int .i64 a1_2) ∧ w'.cell? ⟨gb386, 0, none⟩ = some (.int .i64 a2_0) ∧ w'.cell? ⟨gb386, 1, none⟩ = some (.int .i64 a2_1) ∧ w'.cell? ⟨gb386, 2, none⟩ = some (.int .i64 a2_2) ∧ w'.cell? ⟨gb386, 3, none⟩ = some (.int .i64 a2_3) ∧ w'.cell? ⟨gb386, 4, none⟩ = some (.int .i64 a2_4) ∧ w'.cell? ⟨gb386, 5, none⟩ = some (.int .i64 a2_5) ∧ w'.cell? ⟨gb386, 6, none⟩ = some (.int .i64 a2_6) ∧ w'.cell? ⟨gb386, 7, none⟩ = some (.int .i64 a2_7) ∧ w'.cell? ⟨gb386, 8, none⟩ = some (.int .i64 a2_8)) ∧ (w'.heap[gb384]? = some (.cells #[.int .i64 a0_0, .int .i64 a0_1, .int .i64 a0_2] 23 (0, 0))) ∧ (w'.heap[gb385]? = some (.cells #[.int .i64 a1_0, .int .i64 a1_1, .int .i64 a1_2] 23 (0, 0))) ∧ (w'.heap[gb386]? = some (.cells #[.int .i64 a2_0, .int .i64 a2_1, .int .i64 a2_2, .int .i64 a2_3, .int .i64 a2_4, .int .i64 a2_5, .int .i64 a2_6, .int .i64 a2_7, .int .i64 a2_8] 25 (0, 0))) ∧ (w'.heap[gb387]? = some (.cells #[.int .i64 a3_0, .int .i64 a3_1, .int .i64 a3_2] 23 (0, 0))) ∧ (w'.heap[gb396]? = some (.cells #[.int .i64 t389, .int .i64 t390, .bool t391, .int .i64 t392, .int .i64 t393] 30 (0, 0))) ∧ (Below w.heap.size w w')) ?_ ?_
        rotate_left
        ·intro hJ2_7_11_15
         refine join_ (σ := Nat) 10 #[true, true, true, true, true, true, true, true, true, true, true, true, true, true, true, false, false, false, false, false, false, false, true, false, false, false] (fun s_ => [(35, .agg #[.int .i64 t398, .int .i64 t399, .int .i64 t400]), (40, .agg #[.int .i64 t401, .int .i64 t402, .int .i64 t403]), (44, .agg #[.int .i64 t404, .int .i64 t405, .int .i64 t406]), (12, .pointer (some ⟨s_, 0, none⟩))]) (fun s_ w' => (w'.cell? ⟨gb384, 0, none⟩ = some (.int .i64 a0_0) ∧ w'.cell? ⟨gb384, 1, none⟩ = some (.int .i64 a0_1) ∧ w'.cell? ⟨gb384, 2, none⟩ = some (.int .i64 a0_2) ∧ w'.cell? ⟨gb387, 0, none⟩ = some (.int .i64 a3_0) ∧ w'.cell? ⟨gb387, 1, none⟩ = some (.int .i64 a3_1) ∧ w'.cell? ⟨gb387, 2, none⟩ = some (.int .i64 a3_2) ∧ w'.cell? ⟨gb385, 0, none⟩ = some (.int .i64 a1_0) ∧ w'.cell? ⟨gb385, 1, none⟩ = some (.int .i64 a1_1) ∧ w'.cell? ⟨gb385, 2, none⟩ = some (.int .i64 a1_2) ∧ w'.cell? ⟨gb386, 0, none⟩ = some (.int .i64 a2_0) ∧ w'.cell? ⟨gb386, 1, none⟩ = some (.int .i64 a2_1) ∧ w'.cell? ⟨gb386, 2, none⟩ = some (.int .i64 a2_2) ∧ w'.cell? ⟨gb386, 3, none⟩ = some (.int .i64 a2_3) ∧ w'.cell? ⟨gb386, 4, none⟩ = some (.int .i64 a2_4) ∧ w'.cell? ⟨gb386, 5, none⟩ = some (.int .i64 a2_5) ∧ w'.cell? ⟨gb386, 6, none⟩ = some (.int .i64 a2_6) ∧ w'.cell? ⟨gb386, 7, none⟩ = some (.int .i64 a2_7) ∧ w'.cell? ⟨gb386, 8, none⟩ = some (.int .i64 a2_8)) ∧ (w'.heap[gb384]? = some (.cells #[.int .i64 a0_0, .int .i64 a0_1, .int .i64 a0_2] 23 (0, 0))) ∧ (w'.heap[gb385]? = some (.cells #[.int .i64 a1_0, .int .i64 a1_1, .int .i64 a1_2] 23 (0, 0))) ∧ (w'.heap[gb386]? = some (.cells #[.int .i64 a2_0, .int .i64 a2_1, .int .i64 a2_2, .int .i64 a2_3, .int .i64 a2_4, .int .i64 a2_5, .int .i64 a2_6, .int .i64 a2_7, .int .i64 a2_8] 25 (0, 0))) ∧ (w'.heap[gb387]? = some (.cells #[.int .i64 a3_0, .int .i64 a3_1, .int .i64 a3_2] 23 (0, 0))) ∧ (w'.heap[gb396]? = some (.cells #[.int .i64 t389, .int .i64 t390, .bool t391, .int .i64 t392, .int .i64 t393] 30 (0, 0))) ∧ (w'.heap[s_]? = some (.cells #[.int .i64 0, .int .i64 0, .bool false, .int .i64 0, .int .i64 0] 30 (0, 0))) ∧ (w.heap.size ≤ s_) ∧ (gb384 ≠ s_) ∧ (s_ ≠ gb384) ∧ (gb385 ≠ s_) ∧ (s_ ≠ gb385) ∧ (gb386 ≠ s_) ∧ (s_ ≠ gb386) ∧ (gb387 ≠ s_) ∧ (s_ ≠ gb387) ∧ (gb396 ≠ s_) ∧ (s_ ≠ gb396) ∧ (Below w.heap.size w w')) ?_ ?_
         rotate_left
         ·intro hJ2_7_11_22
          refine join_ (σ := Unit) 11 #[true, true, true, true, true, true, true, true, true, true, true, true, true, true, true, false, false, false, false, false, false, false, false, false, false, false] (fun s_ => [(35, .agg #[.int .i64 t398, .int .i64 t399, .int .i64 t400]), (40, .agg #[.int .i64 t401, .int .i64 t402, .int .i64 t403]), (44, .agg #[.int .i64 t404, .int .i64 t405, .int .i64 t406])]) (fun s_ w' => (w'.cell? ⟨gb384, 0, none⟩ = some (.int .i64 a0_0) ∧ w'.cell? ⟨gb384, 1, none⟩ = some (.int .i64 a0_1) ∧ w'.cell? ⟨gb384, 2, none⟩ = some (.int .i64 a0_2) ∧ w'.cell? ⟨gb387, 0, none⟩ = some (.int .i64 a3_0) ∧ w'.cell? ⟨gb387, 1, none⟩ = some (.int .i64 a3_1) ∧ w'.cell? ⟨gb387, 2, none⟩ = some (.int .i64 a3_2) ∧ w'.cell? ⟨gb385, 0, none⟩ = some (.int .i64 a1_0) ∧ w'.cell? ⟨gb385, 1, none⟩ = some (.int .i64 a1_1) ∧ w'.cell? ⟨gb385, 2, none⟩ = some (.int .i64 a1_2) ∧ w'.cell? ⟨gb386, 0, none⟩ = some (.int .i64 a2_0) ∧ w'.cell? ⟨gb386, 1, none⟩ = some (.int .i64 a2_1) ∧ w'.cell? ⟨gb386, 2, none⟩ = some (.int .i64 a2_2) ∧ w'.cell? ⟨gb386, 3, none⟩ = some (.int .i64 a2_3) ∧ w'.cell? ⟨gb386, 4, none⟩ = some (.int .i64 a2_4) ∧ w'.cell? ⟨gb386, 5, none⟩ = some (.int .i64 a2_5) ∧ w'.cell? ⟨gb386, 6, none⟩ = some (.int .i64 a2_6) ∧ w'.cell? ⟨gb386, 7, none⟩ = some (.int .i64 a2_7) ∧ w'.cell? ⟨gb386, 8, none⟩ = some (.int .i64 a2_8)) ∧ (w'.heap[gb384]? = some (.cells #[.int .i64 a0_0, .int .i64 a0_1, .int .i64 a0_2] 23 (0, 0))) ∧ (w'.heap[gb385]? = some (.cells #[.int .i64 a1_0, .int .i64 a1_1, .int .i64 a1_2] 23 (0, 0))) ∧ (w'.heap[gb386]? = some (.cells #[.int .i64 a2_0, .int .i64 a2_1, .int .i64 a2_2, .int .i64 a2_3, .int .i64 a2_4, .int .i64 a2_5, .int .i64 a2_6, .int .i64 a2_7, .int .i64 a2_8] 25 (0, 0))) ∧ (w'.heap[gb387]? = some (.cells #[.int .i64 a3_0, .int .i64 a3_1, .int .i64 a3_2] 23 (0, 0))) ∧ (w'.heap[gb396]? = some (.cells #[.int .i64 t389, .int .i64 t390, .bool t391, .int .i64 t392, .int .i64 t393] 30 (0, 0))) ∧ (Below w.heap.size w w')) ?_ ?_
          rotate_left
          ·intro hJ2_7_11
           refine join_ (σ := Nat) 11 #[true, true, true, true, true, true, true, true, true, true, true, false, true, true, true, false, false, false, false, false, false, false, true, false, false, false] (fun s_ => [(35, .agg #[.int .i64 t398, .int .i64 t399, .int .i64 t400]), (40, .agg #[.int .i64 t401, .int .i64 t402, .int .i64 t403]), (12, .pointer (some ⟨s_, 0, none⟩))]) (fun s_ w' => (w'.cell? ⟨gb384, 0, none⟩ = some (.int .i64 a0_0) ∧ w'.cell? ⟨gb384, 1, none⟩ = some (.int .i64 a0_1) ∧ w'.cell? ⟨gb384, 2, none⟩ = some (.int .i64 a0_2) ∧ w'.cell? ⟨gb387, 0, none⟩ = some (.int .i64 a3_0) ∧ w'.cell? ⟨gb387, 1, none⟩ = some (.int .i64 a3_1) ∧ w'.cell? ⟨gb387, 2, none⟩ = some (.int .i64 a3_2) ∧ w'.cell? ⟨gb385, 0, none⟩ = some (.int .i64 a1_0) ∧ w'.cell? ⟨gb385, 1, none⟩ = some (.int .i64 a1_1) ∧ w'.cell? ⟨gb385, 2, none⟩ = some (.int .i64 a1_2) ∧ w'.cell? ⟨gb386, 0, none⟩ = some (.int .i64 a2_0) ∧ w'.cell? ⟨gb386, 1, none⟩ = some (.int .i64 a2_1) ∧ w'.cell? ⟨gb386, 2, none⟩ = some (.int .i64 a2_2) ∧ w'.cell? ⟨gb386, 3, none⟩ = some (.int .i64 a2_3) ∧ w'.cell? ⟨gb386, 4, none⟩ = some (.int .i64 a2_4) ∧ w'.cell? ⟨gb386, 5, none⟩ = some (.int .i64 a2_5) ∧ w'.cell? ⟨gb386, 6, none⟩ = some (.int .i64 a2_6) ∧ w'.cell? ⟨gb386, 7, none⟩ = some (.int .i64 a2_7) ∧ w'.cell? ⟨gb386, 8, none⟩ = some (.int .i64 a2_8)) ∧ (w'.heap[gb384]? = some (.cells #[.int .i64 a0_0, .int .i64 a0_1, .int .i64 a0_2] 23 (0, 0))) ∧ (w'.heap[gb385]? = some (.cells #[.int .i64 a1_0, .int .i64 a1_1, .int .i64 a1_2] 23 (0, 0))) ∧ (w'.heap[gb386]? = some (.cells #[.int .i64 a2_0, .int .i64 a2_1, .int .i64 a2_2, .int .i64 a2_3, .int .i64 a2_4, .int .i64 a2_5, .int .i64 a2_6, .int .i64 a2_7, .int .i64 a2_8] 25 (0, 0))) ∧ (w'.heap[gb387]? = some (.cells #[.int .i64 a3_0, .int .i64 a3_1, .int .i64 a3_2] 23 (0, 0))) ∧ (w'.heap[gb396]? = some (.cells #[.int .i64 t389, .int .i64 t390, .bool t391, .int .i64 t392, .int .i64 t393] 30 (0, 0))) ∧ (w'.heap[s_]? = some (.cells #[.int .i64 0, .int .i64 0, .bool false, .int .i64 0, .int .i64 0] 30 (0, 0))) ∧ (w.heap.size ≤ s_) ∧ (gb384 ≠ s_) ∧ (s_ ≠ gb384) ∧ (gb385 ≠ s_) ∧ (s_ ≠ gb385) ∧ (gb386 ≠ s_) ∧ (s_ ≠ gb386) ∧ (gb387 ≠ s_) ∧ (s_ ≠ gb387) ∧ (gb396 ≠ s_) ∧ (s_ ≠ gb396) ∧ (Below w.heap.size w w')) ?_ ?_
           rotate_left
           ·intro hJ2_7_22
            refine join_ (σ := Unit) 12 #[true, true, true, true, true, true, true, true, true, true, true, false, true, true, true, false, false, false, false, false, false, false, false, false, false, false] (fun s_ => [(35, .agg #[.int .i64 t398, .int .i64 t399, .int .i64 t400]), (40, .agg #[.int .i64 t401, .int .i64 t402, .int .i64 t403])]) (fun s_ w' => (w'.cell? ⟨gb384, 0, none⟩ = some (.int .i64 a0_0) ∧ w'.cell? ⟨gb384, 1, none⟩ = some (.int .i64 a0_1) ∧ w'.cell? ⟨gb384, 2, none⟩ = some (.int .i64 a0_2) ∧ w'.cell? ⟨gb387, 0, none⟩ = some (.int .i64 a3_0) ∧ w'.cell? ⟨gb387, 1, none⟩ = some (.int .i64 a3_1) ∧ w'.cell? ⟨gb387, 2, none⟩ = some (.int .i64 a3_2) ∧ w'.cell? ⟨gb385, 0, none⟩ = some (.int .i64 a1_0) ∧ w'.cell? ⟨gb385, 1, none⟩ = some (.int .i64 a1_1) ∧ w'.cell? ⟨gb385, 2, none⟩ = some (.int .i64 a1_2) ∧ w'.cell? ⟨gb386, 0, none⟩ = some (.int .i64 a2_0) ∧ w'.cell? ⟨gb386, 1, none⟩ = some (.int .i64 a2_1) ∧ w'.cell? ⟨gb386, 2, none⟩ = some (.int .i64 a2_2) ∧ w'.cell? ⟨gb386, 3, none⟩ = some (.int .i64 a2_3) ∧ w'.cell? ⟨gb386, 4, none⟩ = some (.int .i64 a2_4) ∧ w'.cell? ⟨gb386, 5, none⟩ = some (.int .i64 a2_5) ∧ w'.cell? ⟨gb386, 6, none⟩ = some (.int .i64 a2_6) ∧ w'.cell? ⟨gb386, 7, none⟩ = some (.int .i64 a2_7) ∧ w'.cell? ⟨gb386, 8, none⟩ = some (.int .i64 a2_8)) ∧ (w'.heap[gb384]? = some (.cells #[.int .i64 a0_0, .int .i64 a0_1, .int .i64 a0_2] 23 (0, 0))) ∧ (w'.heap[gb385]? = some (.cells #[.int .i64 a1_0, .int .i64 a1_1, .int .i64 a1_2] 23 (0, 0))) ∧ (w'.heap[gb386]? = some (.cells #[.int .i64 a2_0, .int .i64 a2_1, .int .i64 a2_2, .int .i64 a2_3, .int .i64 a2_4, .int .i64 a2_5, .int .i64 a2_6, .int .i64 a2_7, .int .i64 a2_8] 25 (0, 0))) ∧ (w'.heap[gb387]? = some (.cells #[.int .i64 a3_0, .int .i64 a3_1, .int .i64 a3_2] 23 (0, 0))) ∧ (w'.heap[gb396]? = some (.cells #[.int .i64 t389, .int .i64 t390, .bool t391, .int .i64 t392, .int .i64 t393] 30 (0, 0))) ∧ (Below w.heap.size w w')) ?_ ?_
            rotate_left
            ·intro hJ2_7
             refine join_ (σ := Nat) 12 #[true, true, true, true, true, true, true, false, true, true, true, false, true, true, true, false, false, false, false, false, false, false, true, false, false, false] (fun s_ => [(35, .agg #[.int .i64 t398, .int .i64 t399, .int .i64 t400]), (12, .pointer (some ⟨s_, 0, none⟩))]) (fun s_ w' => (w'.cell? ⟨gb384, 0, none⟩ = some (.int .i64 a0_0) ∧ w'.cell? ⟨gb384, 1, none⟩ = some (.int .i64 a0_1) ∧ w'.cell? ⟨gb384, 2, none⟩ = some (.int .i64 a0_2) ∧ w'.cell? ⟨gb387, 0, none⟩ = some (.int .i64 a3_0) ∧ w'.cell? ⟨gb387, 1, none⟩ = some (.int .i64 a3_1) ∧ w'.cell? ⟨gb387, 2, none⟩ = some (.int .i64 a3_2) ∧ w'.cell? ⟨gb385, 0, none⟩ = some (.int .i64 a1_0) ∧ w'.cell? ⟨gb385, 1, none⟩ = some (.int .i64 a1_1) ∧ w'.cell? ⟨gb385, 2, none⟩ = some (.int .i64 a1_2) ∧ w'.cell? ⟨gb386, 0, none⟩ = some (.int .i64 a2_0) ∧ w'.cell? ⟨gb386, 1, none⟩ = some (.int .i64 a2_1) ∧ w'.cell? ⟨gb386, 2, none⟩ = some (.int .i64 a2_2) ∧ w'.cell? ⟨gb386, 3, none⟩ = some (.int .i64 a2_3) ∧ w'.cell? ⟨gb386, 4, none⟩ = some (.int .i64 a2_4) ∧ w'.cell? ⟨gb386, 5, none⟩ = some (.int .i64 a2_5) ∧ w'.cell? ⟨gb386, 6, none⟩ = some (.int .i64 a2_6) ∧ w'.cell? ⟨gb386, 7, none⟩ = some (.int .i64 a2_7) ∧ w'.cell? ⟨gb386, 8, none⟩ = some (.int .i64 a2_8)) ∧ (w'.heap[gb384]? = some (.cells #[.int .i64 a0_0, .int .i64 a0_1, .int .i64 a0_2] 23 (0, 0))) ∧ (w'.heap[gb385]? = some (.cells #[.int .i64 a1_0, .int .i64 a1_1, .int .i64 a1_2] 23 (0, 0))) ∧ (w'.heap[gb386]? = some (.cells #[.int .i64 a2_0, .int .i64 a2_1, .int .i64 a2_2, .int .i64 a2_3, .int .i64 a2_4, .int .i64 a2_5, .int .i64 a2_6, .int .i64 a2_7, .int .i64 a2_8] 25 (0, 0))) ∧ (w'.heap[gb387]? = some (.cells #[.int .i64 a3_0, .int .i64 a3_1, .int .i64 a3_2] 23 (0, 0))) ∧ (w'.heap[gb396]? = some (.cells #[.int .i64 t389, .int .i64 t390, .bool t391, .int .i64 t392, .int .i64 t393] 30 (0, 0))) ∧ (w'.heap[s_]? = some (.cells #[.int .i64 0, .int .i64 0, .bool false, .int .i64 0, .int .i64 0] 30 (0, 0))) ∧ (w.heap.size ≤ s_) ∧ (gb384 ≠ s_) ∧ (s_ ≠ gb384) ∧ (gb385 ≠ s_) ∧ (s_ ≠ gb385) ∧ (gb386 ≠ s_) ∧ (s_ ≠ gb386) ∧ (gb387 ≠ s_) ∧ (s_ ≠ gb387) ∧ (gb396 ≠ s_) ∧ (s_ ≠ gb396) ∧ (Below w.heap.size w w')) ?_ ?_
             rotate_left
             ·intro hJ2_22
              refine join_ (σ := Unit) 13 #[true, true, true, true, true, true, true, false, true, true, true, false, true, true, true, false, false, false, false, false, false, false, false, false, false, false] (fun s_ => [(35, .agg #[.int .i64 t398, .int .i64 t399, .int .i64 t400])]) (fun s_ w' => (w'.cell? ⟨gb384, 0, none⟩ = some (.int .i64 a0_0) ∧ w'.cell? ⟨gb384, 1, none⟩ = some (.int .i64 a0_1) ∧ w'.cell? ⟨gb384, 2, none⟩ = some (.int .i64 a0_2) ∧ w'.cell? ⟨gb387, 0, none⟩ = some (.int .i64 a3_0) ∧ w'.cell? ⟨gb387, 1, none⟩ = some (.int .i64 a3_1) ∧ w'.cell? ⟨gb387, 2, none⟩ = some (.int .i64 a3_2) ∧ w'.cell? ⟨gb385, 0, none⟩ = some (.int .i64 a1_0) ∧ w'.cell? ⟨gb385, 1, none⟩ = some (.int .i64 a1_1) ∧ w'.cell? ⟨gb385, 2, none⟩ = some (.int .i64 a1_2) ∧ w'.cell? ⟨gb386, 0, none⟩ = some (.int .i64 a2_0) ∧ w'.cell? ⟨gb386, 1, none⟩ = some (.int .i64 a2_1) ∧ w'.cell? ⟨gb386, 2, none⟩ = some (.int .i64 a2_2) ∧ w'.cell? ⟨gb386, 3, none⟩ = some (.int .i64 a2_3) ∧ w'.cell? ⟨gb386, 4, none⟩ = some (.int .i64 a2_4) ∧ w'.cell? ⟨gb386, 5, none⟩ = some (.int .i64 a2_5) ∧ w'.cell? ⟨gb386, 6, none⟩ = some (.int .i64 a2_6) ∧ w'.cell? ⟨gb386, 7, none⟩ = some (.int .i64 a2_7) ∧ w'.cell? ⟨gb386, 8, none⟩ = some (.int .i64 a2_8)) ∧ (w'.heap[gb384]? = some (.cells #[.int .i64 a0_0, .int .i64 a0_1, .int .i64 a0_2] 23 (0, 0))) ∧ (w'.heap[gb385]? = some (.cells #[.int .i64 a1_0, .int .i64 a1_1, .int .i64 a1_2] 23 (0, 0))) ∧ (w'.heap[gb386]? = some (.cells #[.int .i64 a2_0, .int .i64 a2_1, .int .i64 a2_2, .int .i64 a2_3, .int .i64 a2_4, .int .i64 a2_5, .int .i64 a2_6, .int .i64 a2_7, .int .i64 a2_8] 25 (0, 0))) ∧ (w'.heap[gb387]? = some (.cells #[.int .i64 a3_0, .int .i64 a3_1, .int .i64 a3_2] 23 (0, 0))) ∧ (w'.heap[gb396]? = some (.cells #[.int .i64 t389, .int .i64 t390, .bool t391, .int .i64 t392, .int .i64 t393] 30 (0, 0))) ∧ (Below w.heap.size w w')) ?_ ?_
              rotate_left
              ·intro hJ2
               refine join_ (σ := Nat) 13 #[true, true, false, true, true, true, true, false, true, true, true, false, true, true, true, false, false, false, false, false, false, false, true, false, false, false] (fun s_ => [(12, .pointer (some ⟨s_, 0, none⟩))]) (fun s_ w' => (w'.cell? ⟨gb384, 0, none⟩ = some (.int .i64 a0_0) ∧ w'.cell? ⟨gb384, 1, none⟩ = some (.int .i64 a0_1) ∧ w'.cell? ⟨gb384, 2, none⟩ = some (.int .i64 a0_2) ∧ w'.cell? ⟨gb387, 0, none⟩ = some (.int .i64 a3_0) ∧ w'.cell? ⟨gb387, 1, none⟩ = some (.int .i64 a3_1) ∧ w'.cell? ⟨gb387, 2, none⟩ = some (.int .i64 a3_2) ∧ w'.cell? ⟨gb385, 0, none⟩ = some (.int .i64 a1_0) ∧ w'.cell? ⟨gb385, 1, none⟩ = some (.int .i64 a1_1) ∧ w'.cell? ⟨gb385, 2, none⟩ = some (.int .i64 a1_2) ∧ w'.cell? ⟨gb386, 0, none⟩ = some (.int .i64 a2_0) ∧ w'.cell? ⟨gb386, 1, none⟩ = some (.int .i64 a2_1) ∧ w'.cell? ⟨gb386, 2, none⟩ = some (.int .i64 a2_2) ∧ w'.cell? ⟨gb386, 3, none⟩ = some (.int .i64 a2_3) ∧ w'.cell? ⟨gb386, 4, none⟩ = some (.int .i64 a2_4) ∧ w'.cell? ⟨gb386, 5, none⟩ = some (.int .i64 a2_5) ∧ w'.cell? ⟨gb386, 6, none⟩ = some (.int .i64 a2_6) ∧ w'.cell? ⟨gb386, 7, none⟩ = some (.int .i64 a2_7) ∧ w'.cell? ⟨gb386, 8, none⟩ = some (.int .i64 a2_8)) ∧ (w'.heap[gb384]? = some (.cells #[.int .i64 a0_0, .int .i64 a0_1, .int .i64 a0_2] 23 (0, 0))) ∧ (w'.heap[gb385]? = some (.cells #[.int .i64 a1_0, .int .i64 a1_1, .int .i64 a1_2] 23 (0, 0))) ∧ (w'.heap[gb386]? = some (.cells #[.int .i64 a2_0, .int .i64 a2_1, .int .i64 a2_2, .int .i64 a2_3, .int .i64 a2_4, .int .i64 a2_5, .int .i64 a2_6, .int .i64 a2_7, .int .i64 a2_8] 25 (0, 0))) ∧ (w'.heap[gb387]? = some (.cells #[.int .i64 a3_0, .int .i64 a3_1, .int .i64 a3_2] 23 (0, 0))) ∧ (w'.heap[gb396]? = some (.cells #[.int .i64 t389, .int .i64 t390, .bool t391, .int .i64 t392, .int .i64 t393] 30 (0, 0))) ∧ (w'.heap[s_]? = some (.cells #[.int .i64 0, .int .i64 0, .bool false, .int .i64 0, .int .i64 0] 30 (0, 0))) ∧ (w.heap.size ≤ s_) ∧ (gb384 ≠ s_) ∧ (s_ ≠ gb384) ∧ (gb385 ≠ s_) ∧ (s_ ≠ gb385) ∧ (gb386 ≠ s_) ∧ (s_ ≠ gb386) ∧ (gb387 ≠ s_) ∧ (s_ ≠ gb387) ∧ (gb396 ≠ s_) ∧ (s_ ≠ gb396) ∧ (Below w.heap.size w w')) ?_ ?_
               rotate_left
               ·intro hJ22
                refine two_ (i := 2) (j := 22) (Ni := some 35) (Nj := some 12) #[true, true, true, true, true, true, true, false, true, true, true, false, true, true, true, false, false, false, false, false, false, false, false, false, false, false] #[true, true, false, true, true, true, true, false, true, true, true, false, true, true, true, false, false, false, false, false, false, false, true, false, false, false] rfl rfl rfl rfl (two_of HT_.out (by kernel_rfl)) (by decide) (by decide) (fun K hK => ?_) (fun K hK => ?_)
                ·skip
                 refine goes_ Try.func24 (by kernel_rfl) rfl #[.agg #[.int .i64 a0_0, .int .i64 a0_1, .int .i64 a0_2], .agg #[.int .i64 a3_0, .int .i64 a3_1, .int .i64 a3_2]] (by rfl) rfl rfl (by (try simp only [List.map_toArray, List.map_cons, List.map_nil]); first | done | rfl | (simp only [List.length_drop, List.length_take]; rfl)) ?_
                 with_reducible refine (relievoref02_Add.calls a0_0 a0_1 a0_2 a3_0 a3_1 a3_2 t398 t399 t400 _ A29.out).mono ?_
                 rintro e w36 ⟨rfl, hb⟩
                 refine ⟨_, rfl, ?_⟩
                 replace BK384 := Aside0.mk (bB hb (BK384.out))
                 replace BK385 := Aside0.mk (bB hb (BK385.out))
                 replace BK386 := Aside0.mk (bB hb (BK386.out))
                 replace BK387 := Aside0.mk (bB hb (BK387.out))
                 replace BK396 := Aside0.mk (bB hb (BK396.out))
                 replace HB := Aside0.mk (below_step (HB.out) hb)
                 (try clear hb)
                 (try clear hb2)
                 (try clear hk)
                 (try clear hi)
                 refine hK.out _ _ ⟨(blk_cell BK384.out 0).trans rfl, (blk_cell BK384.out 1).trans rfl, (blk_cell BK384.out 2).trans rfl, (blk_cell BK387.out 0).trans rfl, (blk_cell BK387.out 1).trans rfl, (blk_cell BK387.out 2).trans rfl, (blk_cell BK385.out 0).trans rfl, (blk_cell BK385.out 1).trans rfl, (blk_cell BK385.out 2).trans rfl, (blk_cell BK386.out 0).trans rfl, (blk_cell BK386.out 1).trans rfl, (blk_cell BK386.out 2).trans rfl, (blk_cell BK386.out 3).trans rfl, (blk_cell BK386.out 4).trans rfl, (blk_cell BK386.out 5).trans rfl, (blk_cell BK386.out 6).trans rfl, (blk_cell BK386.out 7).trans rfl, (blk_cell BK386.out 8).trans rfl⟩ (fun hHeld => ?_)
                 clear hK K
                 refine norm_ (a' := ?_) ?_ ?_
                 rotate_left
                 ·show Act.put _ (some 35) _ = _
                  simp only [Act.put, List.setIfInBounds_toArray, List.set_cons_zero, List.set_cons_succ, i64_w, i32_w]
                  rfl
                 exact norm_ (by first | (simp only [putAll, Act.put, List.setIfInBounds_toArray, List.set_cons_zero, List.set_cons_succ]; done) | (simp only [putAll, Act.put, List.setIfInBounds_toArray, List.set_cons_zero, List.set_cons_succ]; rfl)) (hJ2 () _ ⟨hHeld, (BK384.out), (BK385.out), (BK386.out), (BK387.out), (BK396.out), (HB.out)⟩)
                ·skip
                 refine box_step ?hg (N := 12) ?hd (cs := #[.int .i64 0, .int .i64 0, .bool false, .int .i64 0, .int .i64 0]) (t := 30) ?hr ?_; (case hd => rfl); (case hg => rfl); (case hr => first | (go_simp; done) | (go_simp; rfl))
                 intro gb417 hg w36 hbox hb
                 have BK417 := Aside0.mk (hbox)
                 have GE417 := Aside0.mk (bG hg (HB.out))
                 have NB384_417 := Aside0.mk (bN hg (BK384.out))
                 have NB417_384 := Aside0.mk (bM hg (BK384.out))
                 have NB385_417 := Aside0.mk (bN hg (BK385.out))
                 have NB417_385 := Aside0.mk (bM hg (BK385.out))
                 have NB386_417 := Aside0.mk (bN hg (BK386.out))
                 have NB417_386 := Aside0.mk (bM hg (BK386.out))
                 have NB387_417 := Aside0.mk (bN hg (BK387.out))
                 have NB417_387 := Aside0.mk (bM hg (BK387.out))
                 have NB396_417 := Aside0.mk (bN hg (BK396.out))
                 have NB417_396 := Aside0.mk (bM hg (BK396.out))
                 replace BK384 := Aside0.mk (bB hb (BK384.out))
                 replace BK385 := Aside0.mk (bB hb (BK385.out))
                 replace BK386 := Aside0.mk (bB hb (BK386.out))
                 replace BK387 := Aside0.mk (bB hb (BK387.out))
                 replace BK396 := Aside0.mk (bB hb (BK396.out))
                 replace HB := Aside0.mk (below_step (HB.out) hb)
                 clear hb hbox hg
                 refine hK.out _ _ ⟨(blk_cell BK384.out 0).trans rfl, (blk_cell BK384.out 1).trans rfl, (blk_cell BK384.out 2).trans rfl, (blk_cell BK387.out 0).trans rfl, (blk_cell BK387.out 1).trans rfl, (blk_cell BK387.out 2).trans rfl, (blk_cell BK385.out 0).trans rfl, (blk_cell BK385.out 1).trans rfl, (blk_cell BK385.out 2).trans rfl, (blk_cell BK386.out 0).trans rfl, (blk_cell BK386.out 1).trans rfl, (blk_cell BK386.out 2).trans rfl, (blk_cell BK386.out 3).trans rfl, (blk_cell BK386.out 4).trans rfl, (blk_cell BK386.out 5).trans rfl, (blk_cell BK386.out 6).trans rfl, (blk_cell BK386.out 7).trans rfl, (blk_cell BK386.out 8).trans rfl⟩ (fun hHeld => ?_)
                 clear hK K
                 refine norm_ (a' := ?_) ?_ ?_
                 rotate_left
                 ·show Act.put _ (some 12) _ = _
                  simp only [Act.put, List.setIfInBounds_toArray, List.set_cons_zero, List.set_cons_succ, i64_w, i32_w]
                  rfl
                 exact norm_ (by first | (simp only [putAll, Act.put, List.setIfInBounds_toArray, List.set_cons_zero, List.set_cons_succ]; done) | (simp only [putAll, Act.put, List.setIfInBounds_toArray, List.set_cons_zero, List.set_cons_succ]; rfl)) (hJ22 (gb417) _ ⟨hHeld, (BK384.out), (BK385.out), (BK386.out), (BK387.out), (BK396.out), (BK417.out), GE417.out, NB384_417.out, NB417_384.out, NB385_417.out, NB417_385.out, NB386_417.out, NB417_386.out, NB387_417.out, NB417_387.out, NB396_417.out, NB417_396.out, (HB.out)⟩)
               ·skip
                rintro gb417 w37 ⟨hS_, h0_, h1_, h2_, h3_, h4_, h5_, h6_, h7_, h8_, h9_, h10_, h11_, h12_, h13_, h14_, h15_, h16_, h17_⟩
                have n0_ : Aside0 (w37.heap[gb384]? = some (.cells #[.int .i64 a0_0, .int .i64 a0_1, .int .i64 a0_2] 23 (0, 0))) := ⟨h0_⟩
                have n1_ : Aside0 (w37.heap[gb385]? = some (.cells #[.int .i64 a1_0, .int .i64 a1_1, .int .i64 a1_2] 23 (0, 0))) := ⟨h1_⟩
                have n2_ : Aside0 (w37.heap[gb386]? = some (.cells #[.int .i64 a2_0, .int .i64 a2_1, .int .i64 a2_2, .int .i64 a2_3, .int .i64 a2_4, .int .i64 a2_5, .int .i64 a2_6, .int .i64 a2_7, .int .i64 a2_8] 25 (0, 0))) := ⟨h2_⟩
                have n3_ : Aside0 (w37.heap[gb387]? = some (.cells #[.int .i64 a3_0, .int .i64 a3_1, .int .i64 a3_2] 23 (0, 0))) := ⟨h3_⟩
                have n4_ : Aside0 (w37.heap[gb396]? = some (.cells #[.int .i64 t389, .int .i64 t390, .bool t391, .int .i64 t392, .int .i64 t393] 30 (0, 0))) := ⟨h4_⟩
                have n5_ : Aside0 (w37.heap[gb417]? = some (.cells #[.int .i64 0, .int .i64 0, .bool false, .int .i64 0, .int .i64 0] 30 (0, 0))) := ⟨h5_⟩
                have n6_ : Aside0 (w.heap.size ≤ gb417) := ⟨h6_⟩
                have n7_ : Aside0 (gb384 ≠ gb417) := ⟨h7_⟩
                have n8_ : Aside0 (gb417 ≠ gb384) := ⟨h8_⟩
                have n9_ : Aside0 (gb385 ≠ gb417) := ⟨h9_⟩
                have n10_ : Aside0 (gb417 ≠ gb385) := ⟨h10_⟩
                have n11_ : Aside0 (gb386 ≠ gb417) := ⟨h11_⟩
                have n12_ : Aside0 (gb417 ≠ gb386) := ⟨h12_⟩
                have n13_ : Aside0 (gb387 ≠ gb417) := ⟨h13_⟩
                have n14_ : Aside0 (gb417 ≠ gb387) := ⟨h14_⟩
                have n15_ : Aside0 (gb396 ≠ gb417) := ⟨h15_⟩
                have n16_ : Aside0 (gb417 ≠ gb396) := ⟨h16_⟩
                have n17_ : Aside0 (Below w.heap.size w w37) := ⟨h17_⟩
                clear BK384
                clear BK385
                clear BK386
                clear BK387
                clear BK396
                clear HB
                clear h0_ h1_ h2_ h3_ h4_ h5_ h6_ h7_ h8_ h9_ h10_ h11_ h12_ h13_ h14_ h15_ h16_ h17_
                have BK384 := n0_
                have BK385 := n1_
                have BK386 := n2_
                have BK387 := n3_
                have BK396 := n4_
                have BK417 := n5_
                have GE417 := n6_
                have NB384_417 := n7_
                have NB417_384 := n8_
                have NB385_417 := n9_
                have NB417_385 := n10_
                have NB386_417 := n11_
                have NB417_386 := n12_
                have NB387_417 := n13_
                have NB417_387 := n14_
                have NB396_417 := n15_
                have NB417_396 := n16_
                have HB := n17_
                clear n0_ n1_ n2_ n3_ n4_ n5_ n6_ n7_ n8_ n9_ n10_ n11_ n12_ n13_ n14_ n15_ n16_ n17_
                have hHeld : w37.cell? ⟨gb384, 0, none⟩ = some (.int .i64 a0_0) ∧ w37.cell? ⟨gb384, 1, none⟩ = some (.int .i64 a0_1) ∧ w37.cell? ⟨gb384, 2, none⟩ = some (.int .i64 a0_2) ∧ w37.cell? ⟨gb387, 0, none⟩ = some (.int .i64 a3_0) ∧ w37.cell? ⟨gb387, 1, none⟩ = some (.int .i64 a3_1) ∧ w37.cell? ⟨gb387, 2, none⟩ = some (.int .i64 a3_2) ∧ w37.cell? ⟨gb385, 0, none⟩ = some (.int .i64 a1_0) ∧ w37.cell? ⟨gb385, 1, none⟩ = some (.int .i64 a1_1) ∧ w37.cell? ⟨gb385, 2, none⟩ = some (.int .i64 a1_2) ∧ w37.cell? ⟨gb386, 0, none⟩ = some (.int .i64 a2_0) ∧ w37.cell? ⟨gb386, 1, none⟩ = some (.int .i64 a2_1) ∧ w37.cell? ⟨gb386, 2, none⟩ = some (.int .i64 a2_2) ∧ w37.cell? ⟨gb386, 3, none⟩ = some (.int .i64 a2_3) ∧ w37.cell? ⟨gb386, 4, none⟩ = some (.int .i64 a2_4) ∧ w37.cell? ⟨gb386, 5, none⟩ = some (.int .i64 a2_5) ∧ w37.cell? ⟨gb386, 6, none⟩ = some (.int .i64 a2_6) ∧ w37.cell? ⟨gb386, 7, none⟩ = some (.int .i64 a2_7) ∧ w37.cell? ⟨gb386, 8, none⟩ = some (.int .i64 a2_8) := hS_
                refine norm_ (a' := ?_) ?_ ?_
                rotate_left
                ·simp only [putAll, Act.put, List.setIfInBounds_toArray, List.set_cons_zero, List.set_cons_succ]
                 rfl
                refine one_ (i := 2) (N := some 35) #[true, true, true, true, true, true, true, false, true, true, true, false, true, true, true, false, false, false, false, false, false, false, true, false, false, false] rfl rfl (one_of HT_.out (by kernel_rfl)) (by decide) (fun K hK => ?_)
                refine goes_ Try.func24 (by kernel_rfl) rfl #[.agg #[.int .i64 a0_0, .int .i64 a0_1, .int .i64 a0_2], .agg #[.int .i64 a3_0, .int .i64 a3_1, .int .i64 a3_2]] (by rfl) rfl rfl (by (try simp only [List.map_toArray, List.map_cons, List.map_nil]); first | done | rfl | (simp only [List.length_drop, List.length_take]; rfl)) ?_
                with_reducible refine (relievoref02_Add.calls a0_0 a0_1 a0_2 a3_0 a3_1 a3_2 t398 t399 t400 _ A29.out).mono ?_
                rintro e w38 ⟨rfl, hb⟩
                refine ⟨_, rfl, ?_⟩
                replace BK384 := Aside0.mk (bB hb (BK384.out))
                replace BK385 := Aside0.mk (bB hb (BK385.out))
                replace BK386 := Aside0.mk (bB hb (BK386.out))
                replace BK387 := Aside0.mk (bB hb (BK387.out))
                replace BK396 := Aside0.mk (bB hb (BK396.out))
                replace BK417 := Aside0.mk (bB hb (BK417.out))
                replace HB := Aside0.mk (below_step (HB.out) hb)
                (try clear hb)
                (try clear hb2)
                (try clear hk)
                (try clear hi)
                refine hK.out _ _ ⟨(blk_cell BK384.out 0).trans rfl, (blk_cell BK384.out 1).trans rfl, (blk_cell BK384.out 2).trans rfl, (blk_cell BK387.out 0).trans rfl, (blk_cell BK387.out 1).trans rfl, (blk_cell BK387.out 2).trans rfl, (blk_cell BK385.out 0).trans rfl, (blk_cell BK385.out 1).trans rfl, (blk_cell BK385.out 2).trans rfl, (blk_cell BK386.out 0).trans rfl, (blk_cell BK386.out 1).trans rfl, (blk_cell BK386.out 2).trans rfl, (blk_cell BK386.out 3).trans rfl, (blk_cell BK386.out 4).trans rfl, (blk_cell BK386.out 5).trans rfl, (blk_cell BK386.out 6).trans rfl, (blk_cell BK386.out 7).trans rfl, (blk_cell BK386.out 8).trans rfl⟩ (fun hHeld => ?_)
                clear hK K
                refine norm_ (a' := ?_) ?_ ?_
                rotate_left
                ·show Act.put _ (some 35) _ = _
                 simp only [Act.put, List.setIfInBounds_toArray, List.set_cons_zero, List.set_cons_succ, i64_w, i32_w]
                 rfl
                exact norm_ (by first | (simp only [putAll, Act.put, List.setIfInBounds_toArray, List.set_cons_zero, List.set_cons_succ]; done) | (simp only [putAll, Act.put, List.setIfInBounds_toArray, List.set_cons_zero, List.set_cons_succ]; rfl)) (hJ2_22 (gb417) _ ⟨hHeld, (BK384.out), (BK385.out), (BK386.out), (BK387.out), (BK396.out), (BK417.out), GE417.out, NB384_417.out, NB417_384.out, NB385_417.out, NB417_385.out, NB386_417.out, NB417_386.out, NB387_417.out, NB417_387.out, NB396_417.out, NB417_396.out, (HB.out)⟩)
              ·skip
               rintro _ w37 ⟨hS_, h0_, h1_, h2_, h3_, h4_, h5_⟩
               have n0_ : Aside0 (w37.heap[gb384]? = some (.cells #[.int .i64 a0_0, .int .i64 a0_1, .int .i64 a0_2] 23 (0, 0))) := ⟨h0_⟩
               have n1_ : Aside0 (w37.heap[gb385]? = some (.cells #[.int .i64 a1_0, .int .i64 a1_1, .int .i64 a1_2] 23 (0, 0))) := ⟨h1_⟩
               have n2_ : Aside0 (w37.heap[gb386]? = some (.cells #[.int .i64 a2_0, .int .i64 a2_1, .int .i64 a2_2, .int .i64 a2_3, .int .i64 a2_4, .int .i64 a2_5, .int .i64 a2_6, .int .i64 a2_7, .int .i64 a2_8] 25 (0, 0))) := ⟨h2_⟩
               have n3_ : Aside0 (w37.heap[gb387]? = some (.cells #[.int .i64 a3_0, .int .i64 a3_1, .int .i64 a3_2] 23 (0, 0))) := ⟨h3_⟩
               have n4_ : Aside0 (w37.heap[gb396]? = some (.cells #[.int .i64 t389, .int .i64 t390, .bool t391, .int .i64 t392, .int .i64 t393] 30 (0, 0))) := ⟨h4_⟩
               have n5_ : Aside0 (Below w.heap.size w w37) := ⟨h5_⟩
               clear BK384
               clear BK385
               clear BK386
               clear BK387
               clear BK396
               clear HB
               clear h0_ h1_ h2_ h3_ h4_ h5_
               have BK384 := n0_
               have BK385 := n1_
               have BK386 := n2_
               have BK387 := n3_
               have BK396 := n4_
               have HB := n5_
               clear n0_ n1_ n2_ n3_ n4_ n5_
               have hHeld : w37.cell? ⟨gb384, 0, none⟩ = some (.int .i64 a0_0) ∧ w37.cell? ⟨gb384, 1, none⟩ = some (.int .i64 a0_1) ∧ w37.cell? ⟨gb384, 2, none⟩ = some (.int .i64 a0_2) ∧ w37.cell? ⟨gb387, 0, none⟩ = some (.int .i64 a3_0) ∧ w37.cell? ⟨gb387, 1, none⟩ = some (.int .i64 a3_1) ∧ w37.cell? ⟨gb387, 2, none⟩ = some (.int .i64 a3_2) ∧ w37.cell? ⟨gb385, 0, none⟩ = some (.int .i64 a1_0) ∧ w37.cell? ⟨gb385, 1, none⟩ = some (.int .i64 a1_1) ∧ w37.cell? ⟨gb385, 2, none⟩ = some (.int .i64 a1_2) ∧ w37.cell? ⟨gb386, 0, none⟩ = some (.int .i64 a2_0) ∧ w37.cell? ⟨gb386, 1, none⟩ = some (.int .i64 a2_1) ∧ w37.cell? ⟨gb386, 2, none⟩ = some (.int .i64 a2_2) ∧ w37.cell? ⟨gb386, 3, none⟩ = some (.int .i64 a2_3) ∧ w37.cell? ⟨gb386, 4, none⟩ = some (.int .i64 a2_4) ∧ w37.cell? ⟨gb386, 5, none⟩ = some (.int .i64 a2_5) ∧ w37.cell? ⟨gb386, 6, none⟩ = some (.int .i64 a2_6) ∧ w37.cell? ⟨gb386, 7, none⟩ = some (.int .i64 a2_7) ∧ w37.cell? ⟨gb386, 8, none⟩ = some (.int .i64 a2_8) := hS_
               refine norm_ (a' := ?_) ?_ ?_
               rotate_left
               ·simp only [putAll, Act.put, List.setIfInBounds_toArray, List.set_cons_zero, List.set_cons_succ]
                rfl
               refine two_ (i := 7) (j := 22) (Ni := some 40) (Nj := some 12) #[true, true, true, true, true, true, true, true, true, true, true, false, true, true, true, false, false, false, false, false, false, false, false, false, false, false] #[true, true, true, true, true, true, true, false, true, true, true, false, true, true, true, false, false, false, false, false, false, false, true, false, false, false] rfl rfl rfl rfl (two_of HT_.out (by kernel_rfl)) (by decide) (by decide) (fun K hK => ?_) (fun K hK => ?_)
               ·skip
                refine goes_ Try.func24 (by kernel_rfl) rfl #[.agg #[.int .i64 a2_0, .int .i64 a2_1, .int .i64 a2_2], .agg #[.int .i64 a3_0, .int .i64 a3_1, .int .i64 a3_2]] (by rfl) rfl rfl (by (try simp only [List.map_toArray, List.map_cons, List.map_nil]); first | done | rfl | (simp only [List.length_drop, List.length_take]; rfl)) ?_
                with_reducible refine (relievoref02_Add.calls a2_0 a2_1 a2_2 a3_0 a3_1 a3_2 t401 t402 t403 _ A30.out).mono ?_
                rintro e w38 ⟨rfl, hb⟩
                refine ⟨_, rfl, ?_⟩
                replace BK384 := Aside0.mk (bB hb (BK384.out))
                replace BK385 := Aside0.mk (bB hb (BK385.out))
                replace BK386 := Aside0.mk (bB hb (BK386.out))
                replace BK387 := Aside0.mk (bB hb (BK387.out))
                replace BK396 := Aside0.mk (bB hb (BK396.out))
                replace HB := Aside0.mk (below_step (HB.out) hb)
                (try clear hb)
                (try clear hb2)
                (try clear hk)
                (try clear hi)
                refine hK.out _ _ ⟨(blk_cell BK384.out 0).trans rfl, (blk_cell BK384.out 1).trans rfl, (blk_cell BK384.out 2).trans rfl, (blk_cell BK387.out 0).trans rfl, (blk_cell BK387.out 1).trans rfl, (blk_cell BK387.out 2).trans rfl, (blk_cell BK385.out 0).trans rfl, (blk_cell BK385.out 1).trans rfl, (blk_cell BK385.out 2).trans rfl, (blk_cell BK386.out 0).trans rfl, (blk_cell BK386.out 1).trans rfl, (blk_cell BK386.out 2).trans rfl, (blk_cell BK386.out 3).trans rfl, (blk_cell BK386.out 4).trans rfl, (blk_cell BK386.out 5).trans rfl, (blk_cell BK386.out 6).trans rfl, (blk_cell BK386.out 7).trans rfl, (blk_cell BK386.out 8).trans rfl⟩ (fun hHeld => ?_)
                clear hK K
                refine norm_ (a' := ?_) ?_ ?_
                rotate_left
                ·show Act.put _ (some 40) _ = _
                 simp only [Act.put, List.setIfInBounds_toArray, List.set_cons_zero, List.set_cons_succ, i64_w, i32_w]
                 rfl
                exact norm_ (by first | (simp only [putAll, Act.put, List.setIfInBounds_toArray, List.set_cons_zero, List.set_cons_succ]; done) | (simp only [putAll, Act.put, List.setIfInBounds_toArray, List.set_cons_zero, List.set_cons_succ]; rfl)) (hJ2_7 () _ ⟨hHeld, (BK384.out), (BK385.out), (BK386.out), (BK387.out), (BK396.out), (HB.out)⟩)
               ·skip
                refine box_step ?hg (N := 12) ?hd (cs := #[.int .i64 0, .int .i64 0, .bool false, .int .i64 0, .int .i64 0]) (t := 30) ?hr ?_; (case hd => rfl); (case hg => rfl); (case hr => first | (go_simp; done) | (go_simp; rfl))
                intro gb417 hg w38 hbox hb
                have BK417 := Aside0.mk (hbox)
                have GE417 := Aside0.mk (bG hg (HB.out))
                have NB384_417 := Aside0.mk (bN hg (BK384.out))
                have NB417_384 := Aside0.mk (bM hg (BK384.out))
                have NB385_417 := Aside0.mk (bN hg (BK385.out))
                have NB417_385 := Aside0.mk (bM hg (BK385.out))
                have NB386_417 := Aside0.mk (bN hg (BK386.out))
                have NB417_386 := Aside0.mk (bM hg (BK386.out))
                have NB387_417 := Aside0.mk (bN hg (BK387.out))
                have NB417_387 := Aside0.mk (bM hg (BK387.out))
                have NB396_417 := Aside0.mk (bN hg (BK396.out))
                have NB417_396 := Aside0.mk (bM hg (BK396.out))
                replace BK384 := Aside0.mk (bB hb (BK384.out))
                replace BK385 := Aside0.mk (bB hb (BK385.out))
                replace BK386 := Aside0.mk (bB hb (BK386.out))
                replace BK387 := Aside0.mk (bB hb (BK387.out))
                replace BK396 := Aside0.mk (bB hb (BK396.out))
                replace HB := Aside0.mk (below_step (HB.out) hb)
                clear hb hbox hg
                refine hK.out _ _ ⟨(blk_cell BK384.out 0).trans rfl, (blk_cell BK384.out 1).trans rfl, (blk_cell BK384.out 2).trans rfl, (blk_cell BK387.out 0).trans rfl, (blk_cell BK387.out 1).trans rfl, (blk_cell BK387.out 2).trans rfl, (blk_cell BK385.out 0).trans rfl, (blk_cell BK385.out 1).trans rfl, (blk_cell BK385.out 2).trans rfl, (blk_cell BK386.out 0).trans rfl, (blk_cell BK386.out 1).trans rfl, (blk_cell BK386.out 2).trans rfl, (blk_cell BK386.out 3).trans rfl, (blk_cell BK386.out 4).trans rfl, (blk_cell BK386.out 5).trans rfl, (blk_cell BK386.out 6).trans rfl, (blk_cell BK386.out 7).trans rfl, (blk_cell BK386.out 8).trans rfl⟩ (fun hHeld => ?_)
                clear hK K
                refine norm_ (a' := ?_) ?_ ?_
                rotate_left
                ·show Act.put _ (some 12) _ = _
                 simp only [Act.put, List.setIfInBounds_toArray, List.set_cons_zero, List.set_cons_succ, i64_w, i32_w]
                 rfl
                exact norm_ (by first | (simp only [putAll, Act.put, List.setIfInBounds_toArray, List.set_cons_zero, List.set_cons_succ]; done) | (simp only [putAll, Act.put, List.setIfInBounds_toArray, List.set_cons_zero, List.set_cons_succ]; rfl)) (hJ2_22 (gb417) _ ⟨hHeld, (BK384.out), (BK385.out), (BK386.out), (BK387.out), (BK396.out), (BK417.out), GE417.out, NB384_417.out, NB417_384.out, NB385_417.out, NB417_385.out, NB386_417.out, NB417_386.out, NB387_417.out, NB417_387.out, NB396_417.out, NB417_396.out, (HB.out)⟩)
             ·skip
              rintro gb417 w38 ⟨hS_, h0_, h1_, h2_, h3_, h4_, h5_, h6_, h7_, h8_, h9_, h10_, h11_, h12_, h13_, h14_, h15_, h16_, h17_⟩
              have n0_ : Aside0 (w38.heap[gb384]? = some (.cells #[.int .i64 a0_0, .int .i64 a0_1, .int .i64 a0_2] 23 (0, 0))) := ⟨h0_⟩
              have n1_ : Aside0 (w38.heap[gb385]? = some (.cells #[.int .i64 a1_0, .int .i64 a1_1, .int .i64 a1_2] 23 (0, 0))) := ⟨h1_⟩
              have n2_ : Aside0 (w38.heap[gb386]? = some (.cells #[.int .i64 a2_0, .int .i64 a2_1, .int .i64 a2_2, .int .i64 a2_3, .int .i64 a2_4, .int .i64 a2_5, .int .i64 a2_6, .int .i64 a2_7, .int .i64 a2_8] 25 (0, 0))) := ⟨h2_⟩
              have n3_ : Aside0 (w38.heap[gb387]? = some (.cells #[.int .i64 a3_0, .int .i64 a3_1, .int .i64 a3_2] 23 (0, 0))) := ⟨h3_⟩
              have n4_ : Aside0 (w38.heap[gb396]? = some (.cells #[.int .i64 t389, .int .i64 t390, .bool t391, .int .i64 t392, .int .i64 t393] 30 (0, 0))) := ⟨h4_⟩
              have n5_ : Aside0 (w38.heap[gb417]? = some (.cells #[.int .i64 0, .int .i64 0, .bool false, .int .i64 0, .int .i64 0] 30 (0, 0))) := ⟨h5_⟩
              have n6_ : Aside0 (w.heap.size ≤ gb417) := ⟨h6_⟩
              have n7_ : Aside0 (gb384 ≠ gb417) := ⟨h7_⟩
              have n8_ : Aside0 (gb417 ≠ gb384) := ⟨h8_⟩
              have n9_ : Aside0 (gb385 ≠ gb417) := ⟨h9_⟩
              have n10_ : Aside0 (gb417 ≠ gb385) := ⟨h10_⟩
              have n11_ : Aside0 (gb386 ≠ gb417) := ⟨h11_⟩
              have n12_ : Aside0 (gb417 ≠ gb386) := ⟨h12_⟩
              have n13_ : Aside0 (gb387 ≠ gb417) := ⟨h13_⟩
              have n14_ : Aside0 (gb417 ≠ gb387) := ⟨h14_⟩
              have n15_ : Aside0 (gb396 ≠ gb417) := ⟨h15_⟩
              have n16_ : Aside0 (gb417 ≠ gb396) := ⟨h16_⟩
              have n17_ : Aside0 (Below w.heap.size w w38) := ⟨h17_⟩
              clear BK384
              clear BK385
              clear BK386
              clear BK387
              clear BK396
              clear HB
              clear h0_ h1_ h2_ h3_ h4_ h5_ h6_ h7_ h8_ h9_ h10_ h11_ h12_ h13_ h14_ h15_ h16_ h17_
              have BK384 := n0_
              have BK385 := n1_
              have BK386 := n2_
              have BK387 := n3_
              have BK396 := n4_
              have BK417 := n5_
              have GE417 := n6_
              have NB384_417 := n7_
              have NB417_384 := n8_
              have NB385_417 := n9_
              have NB417_385 := n10_
              have NB386_417 := n11_
              have NB417_386 := n12_
              have NB387_417 := n13_
              have NB417_387 := n14_
              have NB396_417 := n15_
              have NB417_396 := n16_
              have HB := n17_
              clear n0_ n1_ n2_ n3_ n4_ n5_ n6_ n7_ n8_ n9_ n10_ n11_ n12_ n13_ n14_ n15_ n16_ n17_
              have hHeld : w38.cell? ⟨gb384, 0, none⟩ = some (.int .i64 a0_0) ∧ w38.cell? ⟨gb384, 1, none⟩ = some (.int .i64 a0_1) ∧ w38.cell? ⟨gb384, 2, none⟩ = some (.int .i64 a0_2) ∧ w38.cell? ⟨gb387, 0, none⟩ = some (.int .i64 a3_0) ∧ w38.cell? ⟨gb387, 1, none⟩ = some (.int .i64 a3_1) ∧ w38.cell? ⟨gb387, 2, none⟩ = some (.int .i64 a3_2) ∧ w38.cell? ⟨gb385, 0, none⟩ = some (.int .i64 a1_0) ∧ w38.cell? ⟨gb385, 1, none⟩ = some (.int .i64 a1_1) ∧ w38.cell? ⟨gb385, 2, none⟩ = some (.int .i64 a1_2) ∧ w38.cell? ⟨gb386, 0, none⟩ = some (.int .i64 a2_0) ∧ w38.cell? ⟨gb386, 1, none⟩ = some (.int .i64 a2_1) ∧ w38.cell? ⟨gb386, 2, none⟩ = some (.int .i64 a2_2) ∧ w38.cell? ⟨gb386, 3, none⟩ = some (.int .i64 a2_3) ∧ w38.cell? ⟨gb386, 4, none⟩ = some (.int .i64 a2_4) ∧ w38.cell? ⟨gb386, 5, none⟩ = some (.int .i64 a2_5) ∧ w38.cell? ⟨gb386, 6, none⟩ = some (.int .i64 a2_6) ∧ w38.cell? ⟨gb386, 7, none⟩ = some (.int .i64 a2_7) ∧ w38.cell? ⟨gb386, 8, none⟩ = some (.int .i64 a2_8) := hS_
              refine norm_ (a' := ?_) ?_ ?_
              rotate_left
              ·simp only [putAll, Act.put, List.setIfInBounds_toArray, List.set_cons_zero, List.set_cons_succ]
               rfl
              refine one_ (i := 7) (N := some 40) #[true, true, true, true, true, true, true, true, true, true, true, false, true, true, true, false, false, false, false, false, false, false, true, false, false, false] rfl rfl (one_of HT_.out (by kernel_rfl)) (by decide) (fun K hK => ?_)
              refine goes_ Try.func24 (by kernel_rfl) rfl #[.agg #[.int .i64 a2_0, .int .i64 a2_1, .int .i64 a2_2], .agg #[.int .i64 a3_0, .int .i64 a3_1, .int .i64 a3_2]] (by rfl) rfl rfl (by (try simp only [List.map_toArray, List.map_cons, List.map_nil]); first | done | rfl | (simp only [List.length_drop, List.length_take]; rfl)) ?_
              with_reducible refine (relievoref02_Add.calls a2_0 a2_1 a2_2 a3_0 a3_1 a3_2 t401 t402 t403 _ A30.out).mono ?_
              rintro e w39 ⟨rfl, hb⟩
              refine ⟨_, rfl, ?_⟩
              replace BK384 := Aside0.mk (bB hb (BK384.out))
              replace BK385 := Aside0.mk (bB hb (BK385.out))
              replace BK386 := Aside0.mk (bB hb (BK386.out))
              replace BK387 := Aside0.mk (bB hb (BK387.out))
              replace BK396 := Aside0.mk (bB hb (BK396.out))
              replace BK417 := Aside0.mk (bB hb (BK417.out))
              replace HB := Aside0.mk (below_step (HB.out) hb)
              (try clear hb)
              (try clear hb2)
              (try clear hk)
              (try clear hi)
              refine hK.out _ _ ⟨(blk_cell BK384.out 0).trans rfl, (blk_cell BK384.out 1).trans rfl, (blk_cell BK384.out 2).trans rfl, (blk_cell BK387.out 0).trans rfl, (blk_cell BK387.out 1).trans rfl, (blk_cell BK387.out 2).trans rfl, (blk_cell BK385.out 0).trans rfl, (blk_cell BK385.out 1).trans rfl, (blk_cell BK385.out 2).trans rfl, (blk_cell BK386.out 0).trans rfl, (blk_cell BK386.out 1).trans rfl, (blk_cell BK386.out 2).trans rfl, (blk_cell BK386.out 3).trans rfl, (blk_cell BK386.out 4).trans rfl, (blk_cell BK386.out 5).trans rfl, (blk_cell BK386.out 6).trans rfl, (blk_cell BK386.out 7).trans rfl, (blk_cell BK386.out 8).trans rfl⟩ (fun hHeld => ?_)
              clear hK K
              refine norm_ (a' := ?_) ?_ ?_
              rotate_left
              ·show Act.put _ (some 40) _ = _
               simp only [Act.put, List.setIfInBounds_toArray, List.set_cons_zero, List.set_cons_succ, i64_w, i32_w]
               rfl
              exact norm_ (by first | (simp only [putAll, Act.put, List.setIfInBounds_toArray, List.set_cons_zero, List.set_cons_succ]; done) | (simp only [putAll, Act.put, List.setIfInBounds_toArray, List.set_cons_zero, List.set_cons_succ]; rfl)) (hJ2_7_22 (gb417) _ ⟨hHeld, (BK384.out), (BK385.out), (BK386.out), (BK387.out), (BK396.out), (BK417.out), GE417.out, NB384_417.out, NB417_384.out, NB385_417.out, NB417_385.out, NB386_417.out, NB417_386.out, NB387_417.out, NB417_387.out, NB396_417.out, NB417_396.out, (HB.out)⟩)
            ·skip
             rintro _ w38 ⟨hS_, h0_, h1_, h2_, h3_, h4_, h5_⟩
             have n0_ : Aside0 (w38.heap[gb384]? = some (.cells #[.int .i64 a0_0, .int .i64 a0_1, .int .i64 a0_2] 23 (0, 0))) := ⟨h0_⟩
             have n1_ : Aside0 (w38.heap[gb385]? = some (.cells #[.int .i64 a1_0, .int .i64 a1_1, .int .i64 a1_2] 23 (0, 0))) := ⟨h1_⟩
             have n2_ : Aside0 (w38.heap[gb386]? = some (.cells #[.int .i64 a2_0, .int .i64 a2_1, .int .i64 a2_2, .int .i64 a2_3, .int .i64 a2_4, .int .i64 a2_5, .int .i64 a2_6, .int .i64 a2_7, .int .i64 a2_8] 25 (0, 0))) := ⟨h2_⟩
             have n3_ : Aside0 (w38.heap[gb387]? = some (.cells #[.int .i64 a3_0, .int .i64 a3_1, .int .i64 a3_2] 23 (0, 0))) := ⟨h3_⟩
             have n4_ : Aside0 (w38.heap[gb396]? = some (.cells #[.int .i64 t389, .int .i64 t390, .bool t391, .int .i64 t392, .int .i64 t393] 30 (0, 0))) := ⟨h4_⟩
             have n5_ : Aside0 (Below w.heap.size w w38) := ⟨h5_⟩
             clear BK384
             clear BK385
             clear BK386
             clear BK387
             clear BK396
             clear HB
             clear h0_ h1_ h2_ h3_ h4_ h5_
             have BK384 := n0_
             have BK385 := n1_
             have BK386 := n2_
             have BK387 := n3_
             have BK396 := n4_
             have HB := n5_
             clear n0_ n1_ n2_ n3_ n4_ n5_
             have hHeld : w38.cell? ⟨gb384, 0, none⟩ = some (.int .i64 a0_0) ∧ w38.cell? ⟨gb384, 1, none⟩ = some (.int .i64 a0_1) ∧ w38.cell? ⟨gb384, 2, none⟩ = some (.int .i64 a0_2) ∧ w38.cell? ⟨gb387, 0, none⟩ = some (.int .i64 a3_0) ∧ w38.cell? ⟨gb387, 1, none⟩ = some (.int .i64 a3_1) ∧ w38.cell? ⟨gb387, 2, none⟩ = some (.int .i64 a3_2) ∧ w38.cell? ⟨gb385, 0, none⟩ = some (.int .i64 a1_0) ∧ w38.cell? ⟨gb385, 1, none⟩ = some (.int .i64 a1_1) ∧ w38.cell? ⟨gb385, 2, none⟩ = some (.int .i64 a1_2) ∧ w38.cell? ⟨gb386, 0, none⟩ = some (.int .i64 a2_0) ∧ w38.cell? ⟨gb386, 1, none⟩ = some (.int .i64 a2_1) ∧ w38.cell? ⟨gb386, 2, none⟩ = some (.int .i64 a2_2) ∧ w38.cell? ⟨gb386, 3, none⟩ = some (.int .i64 a2_3) ∧ w38.cell? ⟨gb386, 4, none⟩ = some (.int .i64 a2_4) ∧ w38.cell? ⟨gb386, 5, none⟩ = some (.int .i64 a2_5) ∧ w38.cell? ⟨gb386, 6, none⟩ = some (.int .i64 a2_6) ∧ w38.cell? ⟨gb386, 7, none⟩ = some (.int .i64 a2_7) ∧ w38.cell? ⟨gb386, 8, none⟩ = some (.int .i64 a2_8) := hS_
             refine norm_ (a' := ?_) ?_ ?_
             rotate_left
             ·simp only [putAll, Act.put, List.setIfInBounds_toArray, List.set_cons_zero, List.set_cons_succ]
              rfl
             refine two_ (i := 11) (j := 22) (Ni := some 44) (Nj := some 12) #[true, true, true, true, true, true, true, true, true, true, true, true, true, true, true, false, false, false, false, false, false, false, false, false, false, false] #[true, true, true, true, true, true, true, true, true, true, true, false, true, true, true, false, false, false, false, false, false, false, true, false, false, false] rfl rfl rfl rfl (two_of HT_.out (by kernel_rfl)) (by decide) (by decide) (fun K hK => ?_) (fun K hK => ?_)
             ·skip
              refine goes_ Try.func24 (by kernel_rfl) rfl #[.agg #[.int .i64 a2_3, .int .i64 a2_4, .int .i64 a2_5], .agg #[.int .i64 a3_0, .int .i64 a3_1, .int .i64 a3_2]] (by rfl) rfl rfl (by (try simp only [List.map_toArray, List.map_cons, List.map_nil]); first | done | rfl | (simp only [List.length_drop, List.length_take]; rfl)) ?_
              with_reducible refine (relievoref02_Add.calls a2_3 a2_4 a2_5 a3_0 a3_1 a3_2 t404 t405 t406 _ A31.out).mono ?_
              rintro e w39 ⟨rfl, hb⟩
              refine ⟨_, rfl, ?_⟩
              replace BK384 := Aside0.mk (bB hb (BK384.out))
              replace BK385 := Aside0.mk (bB hb (BK385.out))
              replace BK386 := Aside0.mk (bB hb (BK386.out))
              replace BK387 := Aside0.mk (bB hb (BK387.out))
              replace BK396 := Aside0.mk (bB hb (BK396.out))
              replace HB := Aside0.mk (below_step (HB.out) hb)
              (try clear hb)
              (try clear hb2)
              (try clear hk)
              (try clear hi)
              refine hK.out _ _ ⟨(blk_cell BK384.out 0).trans rfl, (blk_cell BK384.out 1).trans rfl, (blk_cell BK384.out 2).trans rfl, (blk_cell BK387.out 0).trans rfl, (blk_cell BK387.out 1).trans rfl, (blk_cell BK387.out 2).trans rfl, (blk_cell BK385.out 0).trans rfl, (blk_cell BK385.out 1).trans rfl, (blk_cell BK385.out 2).trans rfl, (blk_cell BK386.out 0).trans rfl, (blk_cell BK386.out 1).trans rfl, (blk_cell BK386.out 2).trans rfl, (blk_cell BK386.out 3).trans rfl, (blk_cell BK386.out 4).trans rfl, (blk_cell BK386.out 5).trans rfl, (blk_cell BK386.out 6).trans rfl, (blk_cell BK386.out 7).trans rfl, (blk_cell BK386.out 8).trans rfl⟩ (fun hHeld => ?_)
              clear hK K
              refine norm_ (a' := ?_) ?_ ?_
              rotate_left
              ·show Act.put _ (some 44) _ = _
               simp only [Act.put, List.setIfInBounds_toArray, List.set_cons_zero, List.set_cons_succ, i64_w, i32_w]
               rfl
              exact norm_ (by first | (simp only [putAll, Act.put, List.setIfInBounds_toArray, List.set_cons_zero, List.set_cons_succ]; done) | (simp only [putAll, Act.put, List.setIfInBounds_toArray, List.set_cons_zero, List.set_cons_succ]; rfl)) (hJ2_7_11 () _ ⟨hHeld, (BK384.out), (BK385.out), (BK386.out), (BK387.out), (BK396.out), (HB.out)⟩)
             ·skip
              refine box_step ?hg (N := 12) ?hd (cs := #[.int .i64 0, .int .i64 0, .bool false, .int .i64 0, .int .i64 0]) (t := 30) ?hr ?_; (case hd => rfl); (case hg => rfl); (case hr => first | (go_simp; done) | (go_simp; rfl))
              intro gb417 hg w39 hbox hb
              have BK417 := Aside0.mk (hbox)
              have GE417 := Aside0.mk (bG hg (HB.out))
              have NB384_417 := Aside0.mk (bN hg (BK384.out))
              have NB417_384 := Aside0.mk (bM hg (BK384.out))
              have NB385_417 := Aside0.mk (bN hg (BK385.out))
              have NB417_385 := Aside0.mk (bM hg (BK385.out))
              have NB386_417 := Aside0.mk (bN hg (BK386.out))
              have NB417_386 := Aside0.mk (bM hg (BK386.out))
              have NB387_417 := Aside0.mk (bN hg (BK387.out))
              have NB417_387 := Aside0.mk (bM hg (BK387.out))
              have NB396_417 := Aside0.mk (bN hg (BK396.out))
              have NB417_396 := Aside0.mk (bM hg (BK396.out))
              replace BK384 := Aside0.mk (bB hb (BK384.out))
              replace BK385 := Aside0.mk (bB hb (BK385.out))
              replace BK386 := Aside0.mk (bB hb (BK386.out))
              replace BK387 := Aside0.mk (bB hb (BK387.out))
              replace BK396 := Aside0.mk (bB hb (BK396.out))
              replace HB := Aside0.mk (below_step (HB.out) hb)
              clear hb hbox hg
              refine hK.out _ _ ⟨(blk_cell BK384.out 0).trans rfl, (blk_cell BK384.out 1).trans rfl, (blk_cell BK384.out 2).trans rfl, (blk_cell BK387.out 0).trans rfl, (blk_cell BK387.out 1).trans rfl, (blk_cell BK387.out 2).trans rfl, (blk_cell BK385.out 0).trans rfl, (blk_cell BK385.out 1).trans rfl, (blk_cell BK385.out 2).trans rfl, (blk_cell BK386.out 0).trans rfl, (blk_cell BK386.out 1).trans rfl, (blk_cell BK386.out 2).trans rfl, (blk_cell BK386.out 3).trans rfl, (blk_cell BK386.out 4).trans rfl, (blk_cell BK386.out 5).trans rfl, (blk_cell BK386.out 6).trans rfl, (blk_cell BK386.out 7).trans rfl, (blk_cell BK386.out 8).trans rfl⟩ (fun hHeld => ?_)
              clear hK K
              refine norm_ (a' := ?_) ?_ ?_
              rotate_left
              ·show Act.put _ (some 12) _ = _
               simp only [Act.put, List.setIfInBounds_toArray, List.set_cons_zero, List.set_cons_succ, i64_w, i32_w]
               rfl
              exact norm_ (by first | (simp only [putAll, Act.put, List.setIfInBounds_toArray, List.set_cons_zero, List.set_cons_succ]; done) | (simp only [putAll, Act.put, List.setIfInBounds_toArray, List.set_cons_zero, List.set_cons_succ]; rfl)) (hJ2_7_22 (gb417) _ ⟨hHeld, (BK384.out), (BK385.out), (BK386.out), (BK387.out), (BK396.out), (BK417.out), GE417.out, NB384_417.out, NB417_384.out, NB385_417.out, NB417_385.out, NB386_417.out, NB417_386.out, NB387_417.out, NB417_387.out, NB396_417.out, NB417_396.out, (HB.out)⟩)
           ·skip
            rintro gb417 w39 ⟨hS_, h0_, h1_, h2_, h3_, h4_, h5_, h6_, h7_, h8_, h9_, h10_, h11_, h12_, h13_, h14_, h15_, h16_, h17_⟩
            have n0_ : Aside0 (w39.heap[gb384]? = some (.cells #[.int .i64 a0_0, .int .i64 a0_1, .int .i64 a0_2] 23 (0, 0))) := ⟨h0_⟩
            have n1_ : Aside0 (w39.heap[gb385]? = some (.cells #[.int .i64 a1_0, .int .i64 a1_1, .int .i64 a1_2] 23 (0, 0))) := ⟨h1_⟩
            have n2_ : Aside0 (w39.heap[gb386]? = some (.cells #[.int .i64 a2_0, .int .i64 a2_1, .int .i64 a2_2, .int .i64 a2_3, .int .i64 a2_4, .int .i64 a2_5, .int .i64 a2_6, .int .i64 a2_7, .int .i64 a2_8] 25 (0, 0))) := ⟨h2_⟩
            have n3_ : Aside0 (w39.heap[gb387]? = some (.cells #[.int .i64 a3_0, .int .i64 a3_1, .int .i64 a3_2] 23 (0, 0))) := ⟨h3_⟩
            have n4_ : Aside0 (w39.heap[gb396]? = some (.cells #[.int .i64 t389, .int .i64 t390, .bool t391, .int .i64 t392, .int .i64 t393] 30 (0, 0))) := ⟨h4_⟩
            have n5_ : Aside0 (w39.heap[gb417]? = some (.cells #[.int .i64 0, .int .i64 0, .bool false, .int .i64 0, .int .i64 0] 30 (0, 0))) := ⟨h5_⟩
            have n6_ : Aside0 (w.heap.size ≤ gb417) := ⟨h6_⟩
            have n7_ : Aside0 (gb384 ≠ gb417) := ⟨h7_⟩
            have n8_ : Aside0 (gb417 ≠ gb384) := ⟨h8_⟩
            have n9_ : Aside0 (gb385 ≠ gb417) := ⟨h9_⟩
            have n10_ : Aside0 (gb417 ≠ gb385) := ⟨h10_⟩
            have n11_ : Aside0 (gb386 ≠ gb417) := ⟨h11_⟩
            have n12_ : Aside0 (gb417 ≠ gb386) := ⟨h12_⟩
            have n13_ : Aside0 (gb387 ≠ gb417) := ⟨h13_⟩
            have n14_ : Aside0 (gb417 ≠ gb387) := ⟨h14_⟩
            have n15_ : Aside0 (gb396 ≠ gb417) := ⟨h15_⟩
            have n16_ : Aside0 (gb417 ≠ gb396) := ⟨h16_⟩
            have n17_ : Aside0 (Below w.heap.size w w39) := ⟨h17_⟩
            clear BK384
            clear BK385
            clear BK386
            clear BK387
            clear BK396
            clear HB
            clear h0_ h1_ h2_ h3_ h4_ h5_ h6_ h7_ h8_ h9_ h10_ h11_ h12_ h13_ h14_ h15_ h16_ h17_
            have BK384 := n0_
            have BK385 := n1_
            have BK386 := n2_
            have BK387 := n3_
            have BK396 := n4_
            have BK417 := n5_
            have GE417 := n6_
            have NB384_417 := n7_
            have NB417_384 := n8_
            have NB385_417 := n9_
            have NB417_385 := n10_
            have NB386_417 := n11_
            have NB417_386 := n12_
            have NB387_417 := n13_
            have NB417_387 := n14_
            have NB396_417 := n15_
            have NB417_396 := n16_
            have HB := n17_
            clear n0_ n1_ n2_ n3_ n4_ n5_ n6_ n7_ n8_ n9_ n10_ n11_ n12_ n13_ n14_ n15_ n16_ n17_
            have hHeld : w39.cell? ⟨gb384, 0, none⟩ = some (.int .i64 a0_0) ∧ w39.cell? ⟨gb384, 1, none⟩ = some (.int .i64 a0_1) ∧ w39.cell? ⟨gb384, 2, none⟩ = some (.int .i64 a0_2) ∧ w39.cell? ⟨gb387, 0, none⟩ = some (.int .i64 a3_0) ∧ w39.cell? ⟨gb387, 1, none⟩ = some (.int .i64 a3_1) ∧ w39.cell? ⟨gb387, 2, none⟩ = some (.int .i64 a3_2) ∧ w39.cell? ⟨gb385, 0, none⟩ = some (.int .i64 a1_0) ∧ w39.cell? ⟨gb385, 1, none⟩ = some (.int .i64 a1_1) ∧ w39.cell? ⟨gb385, 2, none⟩ = some (.int .i64 a1_2) ∧ w39.cell? ⟨gb386, 0, none⟩ = some (.int .i64 a2_0) ∧ w39.cell? ⟨gb386, 1, none⟩ = some (.int .i64 a2_1) ∧ w39.cell? ⟨gb386, 2, none⟩ = some (.int .i64 a2_2) ∧ w39.cell? ⟨gb386, 3, none⟩ = some (.int .i64 a2_3) ∧ w39.cell? ⟨gb386, 4, none⟩ = some (.int .i64 a2_4) ∧ w39.cell? ⟨gb386, 5, none⟩ = some (.int .i64 a2_5) ∧ w39.cell? ⟨gb386, 6, none⟩ = some (.int .i64 a2_6) ∧ w39.cell? ⟨gb386, 7, none⟩ = some (.int .i64 a2_7) ∧ w39.cell? ⟨gb386, 8, none⟩ = some (.int .i64 a2_8) := hS_
            refine norm_ (a' := ?_) ?_ ?_
            rotate_left
            ·simp only [putAll, Act.put, List.setIfInBounds_toArray, List.set_cons_zero, List.set_cons_succ]
             rfl
            refine one_ (i := 11) (N := some 44) #[true, true, true, true, true, true, true, true, true, true, true, true, true, true, true, false, false, false, false, false, false, false, true, false, false, false] rfl rfl (one_of HT_.out (by kernel_rfl)) (by decide) (fun K hK => ?_)
            refine goes_ Try.func24 (by kernel_rfl) rfl #[.agg #[.int .i64 a2_3, .int .i64 a2_4, .int .i64 a2_5], .agg #[.int .i64 a3_0, .int .i64 a3_1, .int .i64 a3_2]] (by rfl) rfl rfl (by (try simp only [List.map_toArray, List.map_cons, List.map_nil]); first | done | rfl | (simp only [List.length_drop, List.length_take]; rfl)) ?_
            with_reducible refine (relievoref02_Add.calls a2_3 a2_4 a2_5 a3_0 a3_1 a3_2 t404 t405 t406 _ A31.out).mono ?_
            rintro e w40 ⟨rfl, hb⟩
            refine ⟨_, rfl, ?_⟩
            replace BK384 := Aside0.mk (bB hb (BK384.out))
            replace BK385 := Aside0.mk (bB hb (BK385.out))
            replace BK386 := Aside0.mk (bB hb (BK386.out))
            replace BK387 := Aside0.mk (bB hb (BK387.out))
            replace BK396 := Aside0.mk (bB hb (BK396.out))
            replace BK417 := Aside0.mk (bB hb (BK417.out))
            replace HB := Aside0.mk (below_step (HB.out) hb)
            (try clear hb)
            (try clear hb2)
            (try clear hk)
            (try clear hi)
            refine hK.out _ _ ⟨(blk_cell BK384.out 0).trans rfl, (blk_cell BK384.out 1).trans rfl, (blk_cell BK384.out 2).trans rfl, (blk_cell BK387.out 0).trans rfl, (blk_cell BK387.out 1).trans rfl, (blk_cell BK387.out 2).trans rfl, (blk_cell BK385.out 0).trans rfl, (blk_cell BK385.out 1).trans rfl, (blk_cell BK385.out 2).trans rfl, (blk_cell BK386.out 0).trans rfl, (blk_cell BK386.out 1).trans rfl, (blk_cell BK386.out 2).trans rfl, (blk_cell BK386.out 3).trans rfl, (blk_cell BK386.out 4).trans rfl, (blk_cell BK386.out 5).trans rfl, (blk_cell BK386.out 6).trans rfl, (blk_cell BK386.out 7).trans rfl, (blk_cell BK386.out 8).trans rfl⟩ (fun hHeld => ?_)
            clear hK K
            refine norm_ (a' := ?_) ?_ ?_
            rotate_left
            ·show Act.put _ (some 44) _ = _
             simp only [Act.put, List.setIfInBounds_toArray, List.set_cons_zero, List.set_cons_succ, i64_w, i32_w]
             rfl
            exact norm_ (by first | (simp only [putAll, Act.put, List.setIfInBounds_toArray, List.set_cons_zero, List.set_cons_succ]; done) | (simp only [putAll, Act.put, List.setIfInBounds_toArray, List.set_cons_zero, List.set_cons_succ]; rfl)) (hJ2_7_11_22 (gb417) _ ⟨hHeld, (BK384.out), (BK385.out), (BK386.out), (BK387.out), (BK396.out), (BK417.out), GE417.out, NB384_417.out, NB417_384.out, NB385_417.out, NB417_385.out, NB386_417.out, NB417_386.out, NB387_417.out, NB417_387.out, NB396_417.out, NB417_396.out, (HB.out)⟩)
          ·skip
           rintro _ w39 ⟨hS_, h0_, h1_, h2_, h3_, h4_, h5_⟩
           have n0_ : Aside0 (w39.heap[gb384]? = some (.cells #[.int .i64 a0_0, .int .i64 a0_1, .int .i64 a0_2] 23 (0, 0))) := ⟨h0_⟩
           have n1_ : Aside0 (w39.heap[gb385]? = some (.cells #[.int .i64 a1_0, .int .i64 a1_1, .int .i64 a1_2] 23 (0, 0))) := ⟨h1_⟩
           have n2_ : Aside0 (w39.heap[gb386]? = some (.cells #[.int .i64 a2_0, .int .i64 a2_1, .int .i64 a2_2, .int .i64 a2_3, .int .i64 a2_4, .int .i64 a2_5, .int .i64 a2_6, .int .i64 a2_7, .int .i64 a2_8] 25 (0, 0))) := ⟨h2_⟩
           have n3_ : Aside0 (w39.heap[gb387]? = some (.cells #[.int .i64 a3_0, .int .i64 a3_1, .int .i64 a3_2] 23 (0, 0))) := ⟨h3_⟩
           have n4_ : Aside0 (w39.heap[gb396]? = some (.cells #[.int .i64 t389, .int .i64 t390, .bool t391, .int .i64 t392, .int .i64 t393] 30 (0, 0))) := ⟨h4_⟩
           have n5_ : Aside0 (Below w.heap.size w w39) := ⟨h5_⟩
           clear BK384
           clear BK385
           clear BK386
           clear BK387
           clear BK396
           clear HB
           clear h0_ h1_ h2_ h3_ h4_ h5_
           have BK384 := n0_
           have BK385 := n1_
           have BK386 := n2_
           have BK387 := n3_
           have BK396 := n4_
           have HB := n5_
           clear n0_ n1_ n2_ n3_ n4_ n5_
           have hHeld : w39.cell? ⟨gb384, 0, none⟩ = some (.int .i64 a0_0) ∧ w39.cell? ⟨gb384, 1, none⟩ = some (.int .i64 a0_1) ∧ w39.cell? ⟨gb384, 2, none⟩ = some (.int .i64 a0_2) ∧ w39.cell? ⟨gb387, 0, none⟩ = some (.int .i64 a3_0) ∧ w39.cell? ⟨gb387, 1, none⟩ = some (.int .i64 a3_1) ∧ w39.cell? ⟨gb387, 2, none⟩ = some (.int .i64 a3_2) ∧ w39.cell? ⟨gb385, 0, none⟩ = some (.int .i64 a1_0) ∧ w39.cell? ⟨gb385, 1, none⟩ = some (.int .i64 a1_1) ∧ w39.cell? ⟨gb385, 2, none⟩ = some (.int .i64 a1_2) ∧ w39.cell? ⟨gb386, 0, none⟩ = some (.int .i64 a2_0) ∧ w39.cell? ⟨gb386, 1, none⟩ = some (.int .i64 a2_1) ∧ w39.cell? ⟨gb386, 2, none⟩ = some (.int .i64 a2_2) ∧ w39.cell? ⟨gb386, 3, none⟩ = some (.int .i64 a2_3) ∧ w39.cell? ⟨gb386, 4, none⟩ = some (.int .i64 a2_4) ∧ w39.cell? ⟨gb386, 5, none⟩ = some (.int .i64 a2_5) ∧ w39.cell? ⟨gb386, 6, none⟩ = some (.int .i64 a2_6) ∧ w39.cell? ⟨gb386, 7, none⟩ = some (.int .i64 a2_7) ∧ w39.cell? ⟨gb386, 8, none⟩ = some (.int .i64 a2_8) := hS_
           refine norm_ (a' := ?_) ?_ ?_
           rotate_left
           ·simp only [putAll, Act.put, List.setIfInBounds_toArray, List.set_cons_zero, List.set_cons_succ]
            rfl
           refine two_ (i := 15) (j := 22) (Ni := some 48) (Nj := some 12) #[true, true, true, true, true, true, true, true, true, true, true, true, true, true, true, true, false, false, false, false, false, false, false, false, false, false] #[true, true, true, true, true, true, true, true, true, true, true, true, true, true, true, false, false, false, false, false, false, false, true, false, false, false] rfl rfl rfl rfl (two_of HT_.out (by kernel_rfl)) (by decide) (by decide) (fun K hK => ?_) (fun K hK => ?_)
           ·skip
            refine goes_ Try.func24 (by kernel_rfl) rfl #[.agg #[.int .i64 a2_6, .int .i64 a2_7, .int .i64 a2_8], .agg #[.int .i64 a3_0, .int .i64 a3_1, .int .i64 a3_2]] (by rfl) rfl rfl (by (try simp only [List.map_toArray, List.map_cons, List.map_nil]); first | done | rfl | (simp only [List.length_drop, List.length_take]; rfl)) ?_
            with_reducible refine (relievoref02_Add.calls a2_6 a2_7 a2_8 a3_0 a3_1 a3_2 t407 t408 t409 _ A32.out).mono ?_
            rintro e w40 ⟨rfl, hb⟩
            refine ⟨_, rfl, ?_⟩
            replace BK384 := Aside0.mk (bB hb (BK384.out))
            replace BK385 := Aside0.mk (bB hb (BK385.out))
            replace BK386 := Aside0.mk (bB hb (BK386.out))
            replace BK387 := Aside0.mk (bB hb (BK387.out))
            replace BK396 := Aside0.mk (bB hb (BK396.out))
            replace HB := Aside0.mk (below_step (HB.out) hb)
            (try clear hb)
            (try clear hb2)
            (try clear hk)
            (try clear hi)
            refine hK.out _ _ ⟨(blk_cell BK384.out 0).trans rfl, (blk_cell BK384.out 1).trans rfl, (blk_cell BK384.out 2).trans rfl, (blk_cell BK387.out 0).trans rfl, (blk_cell BK387.out 1).trans rfl, (blk_cell BK387.out 2).trans rfl, (blk_cell BK385.out 0).trans rfl, (blk_cell BK385.out 1).trans rfl, (blk_cell BK385.out 2).trans rfl, (blk_cell BK386.out 0).trans rfl, (blk_cell BK386.out 1).trans rfl, (blk_cell BK386.out 2).trans rfl, (blk_cell BK386.out 3).trans rfl, (blk_cell BK386.out 4).trans rfl, (blk_cell BK386.out 5).trans rfl, (blk_cell BK386.out 6).trans rfl, (blk_cell BK386.out 7).trans rfl, (blk_cell BK386.out 8).trans rfl⟩ (fun hHeld => ?_)
            clear hK K
            refine norm_ (a' := ?_) ?_ ?_
            rotate_left
            ·show Act.put _ (some 48) _ = _
             simp only [Act.put, List.setIfInBounds_toArray, List.set_cons_zero, List.set_cons_succ, i64_w, i32_w]
             rfl
            refine pure_ (i := 16) (N := some 49) (v := ?_) (a' := ?_) #[true, true, true, true, true, true, true, true, true, true, true, true, true, true, true, true, true, false, false, false, false, false, false, false, false, false] rfl rfl (any_of HT_.out (by kernel_rfl)) (fun _ _ _ h => h) (Or.inl ⟨by rfl, ?_⟩) ?_ ?_
            rotate_left
            ·intro w'
             go_simp
             with_reducible rfl
            rotate_left
            ·simp only [Act.put, List.setIfInBounds_toArray, List.set_cons_zero, List.set_cons_succ, i64_w, i32_w]
             rfl
            exact norm_ (by first | (simp only [putAll, Act.put, List.setIfInBounds_toArray, List.set_cons_zero, List.set_cons_succ]; done) | (simp only [putAll, Act.put, List.setIfInBounds_toArray, List.set_cons_zero, List.set_cons_succ]; rfl)) (hJ2_7_11_15 () _ ⟨hHeld, (BK384.out), (BK385.out), (BK386.out), (BK387.out), (BK396.out), (HB.out)⟩)
           ·skip
            refine box_step ?hg (N := 12) ?hd (cs := #[.int .i64 0, .int .i64 0, .bool false, .int .i64 0, .int .i64 0]) (t := 30) ?hr ?_; (case hd => rfl); (case hg => rfl); (case hr => first | (go_simp; done) | (go_simp; rfl))
            intro gb417 hg w40 hbox hb
            have BK417 := Aside0.mk (hbox)
            have GE417 := Aside0.mk (bG hg (HB.out))
            have NB384_417 := Aside0.mk (bN hg (BK384.out))
            have NB417_384 := Aside0.mk (bM hg (BK384.out))
            have NB385_417 := Aside0.mk (bN hg (BK385.out))
            have NB417_385 := Aside0.mk (bM hg (BK385.out))
            have NB386_417 := Aside0.mk (bN hg (BK386.out))
            have NB417_386 := Aside0.mk (bM hg (BK386.out))
            have NB387_417 := Aside0.mk (bN hg (BK387.out))
            have NB417_387 := Aside0.mk (bM hg (BK387.out))
            have NB396_417 := Aside0.mk (bN hg (BK396.out))
            have NB417_396 := Aside0.mk (bM hg (BK396.out))
            replace BK384 := Aside0.mk (bB hb (BK384.out))
            replace BK385 := Aside0.mk (bB hb (BK385.out))
            replace BK386 := Aside0.mk (bB hb (BK386.out))
            replace BK387 := Aside0.mk (bB hb (BK387.out))
            replace BK396 := Aside0.mk (bB hb (BK396.out))
            replace HB := Aside0.mk (below_step (HB.out) hb)
            clear hb hbox hg
            refine hK.out _ _ ⟨(blk_cell BK384.out 0).trans rfl, (blk_cell BK384.out 1).trans rfl, (blk_cell BK384.out 2).trans rfl, (blk_cell BK387.out 0).trans rfl, (blk_cell BK387.out 1).trans rfl, (blk_cell BK387.out 2).trans rfl, (blk_cell BK385.out 0).trans rfl, (blk_cell BK385.out 1).trans rfl, (blk_cell BK385.out 2).trans rfl, (blk_cell BK386.out 0).trans rfl, (blk_cell BK386.out 1).trans rfl, (blk_cell BK386.out 2).trans rfl, (blk_cell BK386.out 3).trans rfl, (blk_cell BK386.out 4).trans rfl, (blk_cell BK386.out 5).trans rfl, (blk_cell BK386.out 6).trans rfl, (blk_cell BK386.out 7).trans rfl, (blk_cell BK386.out 8).trans rfl⟩ (fun hHeld => ?_)
            clear hK K
            refine norm_ (a' := ?_) ?_ ?_
            rotate_left
            ·show Act.put _ (some 12) _ = _
             simp only [Act.put, List.setIfInBounds_toArray, List.set_cons_zero, List.set_cons_succ, i64_w, i32_w]
             rfl
            exact norm_ (by first | (simp only [putAll, Act.put, List.setIfInBounds_toArray, List.set_cons_zero, List.set_cons_succ]; done) | (simp only [putAll, Act.put, List.setIfInBounds_toArray, List.set_cons_zero, List.set_cons_succ]; rfl)) (hJ2_7_11_22 (gb417) _ ⟨hHeld, (BK384.out), (BK385.out), (BK386.out), (BK387.out), (BK396.out), (BK417.out), GE417.out, NB384_417.out, NB417_384.out, NB385_417.out, NB417_385.out, NB386_417.out, NB417_386.out, NB387_417.out, NB417_387.out, NB396_417.out, NB417_396.out, (HB.out)⟩)
         ·skip
          rintro gb417 w40 ⟨hS_, h0_, h1_, h2_, h3_, h4_, h5_, h6_, h7_, h8_, h9_, h10_, h11_, h12_, h13_, h14_, h15_, h16_, h17_⟩
          have n0_ : Aside0 (w40.heap[gb384]? = some (.cells #[.int .i64 a0_0, .int .i64 a0_1, .int .i64 a0_2] 23 (0, 0))) := ⟨h0_⟩
          have n1_ : Aside0 (w40.heap[gb385]? = some (.cells #[.int .i64 a1_0, .int .i64 a1_1, .int .i64 a1_2] 23 (0, 0))) := ⟨h1_⟩
          have n2_ : Aside0 (w40.heap[gb386]? = some (.cells #[.int .i64 a2_0, .int .i64 a2_1, .int .i64 a2_2, .int .i64 a2_3, .int .i64 a2_4, .int .i64 a2_5, .int .i64 a2_6, .int .i64 a2_7, .int .i64 a2_8] 25 (0, 0))) := ⟨h2_⟩
          have n3_ : Aside0 (w40.heap[gb387]? = some (.cells #[.int .i64 a3_0, .int .i64 a3_1, .int .i64 a3_2] 23 (0, 0))) := ⟨h3_⟩
          have n4_ : Aside0 (w40.heap[gb396]? = some (.cells #[.int .i64 t389, .int .i64 t390, .bool t391, .int .i64 t392, .int .i64 t393] 30 (0, 0))) := ⟨h4_⟩
          have n5_ : Aside0 (w40.heap[gb417]? = some (.cells #[.int .i64 0, .int .i64 0, .bool false, .int .i64 0, .int .i64 0] 30 (0, 0))) := ⟨h5_⟩
          have n6_ : Aside0 (w.heap.size ≤ gb417) := ⟨h6_⟩
          have n7_ : Aside0 (gb384 ≠ gb417) := ⟨h7_⟩
          have n8_ : Aside0 (gb417 ≠ gb384) := ⟨h8_⟩
          have n9_ : Aside0 (gb385 ≠ gb417) := ⟨h9_⟩
          have n10_ : Aside0 (gb417 ≠ gb385) := ⟨h10_⟩
          have n11_ : Aside0 (gb386 ≠ gb417) := ⟨h11_⟩
          have n12_ : Aside0 (gb417 ≠ gb386) := ⟨h12_⟩
          have n13_ : Aside0 (gb387 ≠ gb417) := ⟨h13_⟩
          have n14_ : Aside0 (gb417 ≠ gb387) := ⟨h14_⟩
          have n15_ : Aside0 (gb396 ≠ gb417) := ⟨h15_⟩
          have n16_ : Aside0 (gb417 ≠ gb396) := ⟨h16_⟩
          have n17_ : Aside0 (Below w.heap.size w w40) := ⟨h17_⟩
          clear BK384
          clear BK385
          clear BK386
          clear BK387
          clear BK396
          clear HB
          clear h0_ h1_ h2_ h3_ h4_ h5_ h6_ h7_ h8_ h9_ h10_ h11_ h12_ h13_ h14_ h15_ h16_ h17_
          have BK384 := n0_
          have BK385 := n1_
          have BK386 := n2_
          have BK387 := n3_
          have BK396 := n4_
          have BK417 := n5_
          have GE417 := n6_
          have NB384_417 := n7_
          have NB417_384 := n8_
          have NB385_417 := n9_
          have NB417_385 := n10_
          have NB386_417 := n11_
          have NB417_386 := n12_
          have NB387_417 := n13_
          have NB417_387 := n14_
          have NB396_417 := n15_
          have NB417_396 := n16_
          have HB := n17_
          clear n0_ n1_ n2_ n3_ n4_ n5_ n6_ n7_ n8_ n9_ n10_ n11_ n12_ n13_ n14_ n15_ n16_ n17_
          have hHeld : w40.cell? ⟨gb384, 0, none⟩ = some (.int .i64 a0_0) ∧ w40.cell? ⟨gb384, 1, none⟩ = some (.int .i64 a0_1) ∧ w40.cell? ⟨gb384, 2, none⟩ = some (.int .i64 a0_2) ∧ w40.cell? ⟨gb387, 0, none⟩ = some (.int .i64 a3_0) ∧ w40.cell? ⟨gb387, 1, none⟩ = some (.int .i64 a3_1) ∧ w40.cell? ⟨gb387, 2, none⟩ = some (.int .i64 a3_2) ∧ w40.cell? ⟨gb385, 0, none⟩ = some (.int .i64 a1_0) ∧ w40.cell? ⟨gb385, 1, none⟩ = some (.int .i64 a1_1) ∧ w40.cell? ⟨gb385, 2, none⟩ = some (.int .i64 a1_2) ∧ w40.cell? ⟨gb386, 0, none⟩ = some (.int .i64 a2_0) ∧ w40.cell? ⟨gb386, 1, none⟩ = some (.int .i64 a2_1) ∧ w40.cell? ⟨gb386, 2, none⟩ = some (.int .i64 a2_2) ∧ w40.cell? ⟨gb386, 3, none⟩ = some (.int .i64 a2_3) ∧ w40.cell? ⟨gb386, 4, none⟩ = some (.int .i64 a2_4) ∧ w40.cell? ⟨gb386, 5, none⟩ = some (.int .i64 a2_5) ∧ w40.cell? ⟨gb386, 6, none⟩ = some (.int .i64 a2_6) ∧ w40.cell? ⟨gb386, 7, none⟩ = some (.int .i64 a2_7) ∧ w40.cell? ⟨gb386, 8, none⟩ = some (.int .i64 a2_8) := hS_
          refine norm_ (a' := ?_) ?_ ?_
          rotate_left
          ·simp only [putAll, Act.put, List.setIfInBounds_toArray, List.set_cons_zero, List.set_cons_succ]
           rfl
          refine one_ (i := 15) (N := some 48) #[true, true, true, true, true, true, true, true, true, true, true, true, true, true, true, true, false, false, false, false, false, false, true, false, false, false] rfl rfl (one_of HT_.out (by kernel_rfl)) (by decide) (fun K hK => ?_)
          refine goes_ Try.func24 (by kernel_rfl) rfl #[.agg #[.int .i64 a2_6, .int .i64 a2_7, .int .i64 a2_8], .agg #[.int .i64 a3_0, .int .i64 a3_1, .int .i64 a3_2]] (by rfl) rfl rfl (by (try simp only [List.map_toArray, List.map_cons, List.map_nil]); first | done | rfl | (simp only [List.length_drop, List.length_take]; rfl)) ?_
          with_reducible refine (relievoref02_Add.calls a2_6 a2_7 a2_8 a3_0 a3_1 a3_2 t407 t408 t409 _ A32.out).mono ?_
          rintro e w41 ⟨rfl, hb⟩
          refine ⟨_, rfl, ?_⟩
          replace BK384 := Aside0.mk (bB hb (BK384.out))
          replace BK385 := Aside0.mk (bB hb (BK385.out))
          replace BK386 := Aside0.mk (bB hb (BK386.out))
          replace BK387 := Aside0.mk (bB hb (BK387.out))
          replace BK396 := Aside0.mk (bB hb (BK396.out))
          replace BK417 := Aside0.mk (bB hb (BK417.out))
          replace HB := Aside0.mk (below_step (HB.out) hb)
          (try clear hb)
          (try clear hb2)
          (try clear hk)
          (try clear hi)
          refine hK.out _ _ ⟨(blk_cell BK384.out 0).trans rfl, (blk_cell BK384.out 1).trans rfl, (blk_cell BK384.out 2).trans rfl, (blk_cell BK387.out 0).trans rfl, (blk_cell BK387.out 1).trans rfl, (blk_cell BK387.out 2).trans rfl, (blk_cell BK385.out 0).trans rfl, (blk_cell BK385.out 1).trans rfl, (blk_cell BK385.out 2).trans rfl, (blk_cell BK386.out 0).trans rfl, (blk_cell BK386.out 1).trans rfl, (blk_cell BK386.out 2).trans rfl, (blk_cell BK386.out 3).trans rfl, (blk_cell BK386.out 4).trans rfl, (blk_cell BK386.out 5).trans rfl, (blk_cell BK386.out 6).trans rfl, (blk_cell BK386.out 7).trans rfl, (blk_cell BK386.out 8).trans rfl⟩ (fun hHeld => ?_)
          clear hK K
          refine norm_ (a' := ?_) ?_ ?_
          rotate_left
          ·show Act.put _ (some 48) _ = _
           simp only [Act.put, List.setIfInBounds_toArray, List.set_cons_zero, List.set_cons_succ, i64_w, i32_w]
           rfl
          refine pure_ (i := 16) (N := some 49) (v := ?_) (a' := ?_) #[true, true, true, true, true, true, true, true, true, true, true, true, true, true, true, true, true, false, false, false, false, false, true, false, false, false] rfl rfl (any_of HT_.out (by kernel_rfl)) (fun _ _ _ h => h) (Or.inl ⟨by rfl, ?_⟩) ?_ ?_
          rotate_left
          ·intro w'
           go_simp
           with_reducible rfl
          rotate_left
          ·simp only [Act.put, List.setIfInBounds_toArray, List.set_cons_zero, List.set_cons_succ, i64_w, i32_w]
           rfl
          exact norm_ (by first | (simp only [putAll, Act.put, List.setIfInBounds_toArray, List.set_cons_zero, List.set_cons_succ]; done) | (simp only [putAll, Act.put, List.setIfInBounds_toArray, List.set_cons_zero, List.set_cons_succ]; rfl)) (hJ2_7_11_15_22 (gb417) _ ⟨hHeld, (BK384.out), (BK385.out), (BK386.out), (BK387.out), (BK396.out), (BK417.out), GE417.out, NB384_417.out, NB417_384.out, NB385_417.out, NB417_385.out, NB386_417.out, NB417_386.out, NB387_417.out, NB417_387.out, NB396_417.out, NB417_396.out, (HB.out)⟩)
        ·skip
         rintro _ w40 ⟨hS_, h0_, h1_, h2_, h3_, h4_, h5_⟩
         have n0_ : Aside0 (w40.heap[gb384]? = some (.cells #[.int .i64 a0_0, .int .i64 a0_1, .int .i64 a0_2] 23 (0, 0))) := ⟨h0_⟩
         have n1_ : Aside0 (w40.heap[gb385]? = some (.cells #[.int .i64 a1_0, .int .i64 a1_1, .int .i64 a1_2] 23 (0, 0))) := ⟨h1_⟩
         have n2_ : Aside0 (w40.heap[gb386]? = some (.cells #[.int .i64 a2_0, .int .i64 a2_1, .int .i64 a2_2, .int .i64 a2_3, .int .i64 a2_4, .int .i64 a2_5, .int .i64 a2_6, .int .i64 a2_7, .int .i64 a2_8] 25 (0, 0))) := ⟨h2_⟩
         have n3_ : Aside0 (w40.heap[gb387]? = some (.cells #[.int .i64 a3_0, .int .i64 a3_1, .int .i64 a3_2] 23 (0, 0))) := ⟨h3_⟩
         have n4_ : Aside0 (w40.heap[gb396]? = some (.cells #[.int .i64 t389, .int .i64 t390, .bool t391, .int .i64 t392, .int .i64 t393] 30 (0, 0))) := ⟨h4_⟩
         have n5_ : Aside0 (Below w.heap.size w w40) := ⟨h5_⟩
         clear BK384
         clear BK385
         clear BK386
         clear BK387
         clear BK396
         clear HB
         clear h0_ h1_ h2_ h3_ h4_ h5_
         have BK384 := n0_
         have BK385 := n1_
         have BK386 := n2_
         have BK387 := n3_
         have BK396 := n4_
         have HB := n5_
         clear n0_ n1_ n2_ n3_ n4_ n5_
         have hHeld : w40.cell? ⟨gb384, 0, none⟩ = some (.int .i64 a0_0) ∧ w40.cell? ⟨gb384, 1, none⟩ = some (.int .i64 a0_1) ∧ w40.cell? ⟨gb384, 2, none⟩ = some (.int .i64 a0_2) ∧ w40.cell? ⟨gb387, 0, none⟩ = some (.int .i64 a3_0) ∧ w40.cell? ⟨gb387, 1, none⟩ = some (.int .i64 a3_1) ∧ w40.cell? ⟨gb387, 2, none⟩ = some (.int .i64 a3_2) ∧ w40.cell? ⟨gb385, 0, none⟩ = some (.int .i64 a1_0) ∧ w40.cell? ⟨gb385, 1, none⟩ = some (.int .i64 a1_1) ∧ w40.cell? ⟨gb385, 2, none⟩ = some (.int .i64 a1_2) ∧ w40.cell? ⟨gb386, 0, none⟩ = some (.int .i64 a2_0) ∧ w40.cell? ⟨gb386, 1, none⟩ = some (.int .i64 a2_1) ∧ w40.cell? ⟨gb386, 2, none⟩ = some (.int .i64 a2_2) ∧ w40.cell? ⟨gb386, 3, none⟩ = some (.int .i64 a2_3) ∧ w40.cell? ⟨gb386, 4, none⟩ = some (.int .i64 a2_4) ∧ w40.cell? ⟨gb386, 5, none⟩ = some (.int .i64 a2_5) ∧ w40.cell? ⟨gb386, 6, none⟩ = some (.int .i64 a2_6) ∧ w40.cell? ⟨gb386, 7, none⟩ = some (.int .i64 a2_7) ∧ w40.cell? ⟨gb386, 8, none⟩ = some (.int .i64 a2_8) := hS_
         refine norm_ (a' := ?_) ?_ ?_
         rotate_left
         ·simp only [putAll, Act.put, List.setIfInBounds_toArray, List.set_cons_zero, List.set_cons_succ]
          rfl
         refine two_ (i := 17) (j := 22) (Ni := some 50) (Nj := some 12) #[true, true, true, true, true, true, true, true, true, true, true, true, true, true, true, true, true, true, false, false, false, false, false, false, false, false] #[true, true, true, true, true, true, true, true, true, true, true, true, true, true, true, true, true, false, false, false, false, false, true, false, false, false] rfl rfl rfl rfl (two_of HT_.out (by kernel_rfl)) (by decide) (by decide) (fun K hK => ?_) (fun K hK => ?_)
         ·skip
          refine goes_ Try.func20 (by kernel_rfl) rfl #[.agg #[.int .i64 t398, .int .i64 t399, .int .i64 t400], .agg #[.int .i64 a1_0, .int .i64 a1_1, .int .i64 a1_2], .agg #[.int .i64 t401, .int .i64 t402, .int .i64 t403, .int .i64 t404, .int .i64 t405, .int .i64 t406, .int .i64 t407, .int .i64 t408, .int .i64 t409]] (by rfl) rfl rfl (by (try simp only [List.map_toArray, List.map_cons, List.map_nil]); first | done | rfl | (simp only [List.length_drop, List.length_take]; rfl)) ?_
          with_reducible refine (side_Meet.calls kj7 t398 t399 t400 a1_0 a1_1 a1_2 t401 t402 t403 t404 t405 t406 t407 t408 t409 t410 t411 t412 t413 t414 t415 t416 _ A33.out).mono ?_
          rintro e w41 ⟨rfl, hb⟩
          refine ⟨_, rfl, ?_⟩
          replace BK384 := Aside0.mk (bB hb (BK384.out))
          replace BK385 := Aside0.mk (bB hb (BK385.out))
          replace BK386 := Aside0.mk (bB hb (BK386.out))
          replace BK387 := Aside0.mk (bB hb (BK387.out))
          replace BK396 := Aside0.mk (bB hb (BK396.out))
          replace HB := Aside0.mk (below_step (HB.out) hb)
          (try clear hb)
          (try clear hb2)
          (try clear hk)
          (try clear hi)
          refine hK.out _ _ ⟨(blk_cell BK384.out 0).trans rfl, (blk_cell BK384.out 1).trans rfl, (blk_cell BK384.out 2).trans rfl, (blk_cell BK387.out 0).trans rfl, (blk_cell BK387.out 1).trans rfl, (blk_cell BK387.out 2).trans rfl, (blk_cell BK385.out 0).trans rfl, (blk_cell BK385.out 1).trans rfl, (blk_cell BK385.out 2).trans rfl, (blk_cell BK386.out 0).trans rfl, (blk_cell BK386.out 1).trans rfl, (blk_cell BK386.out 2).trans rfl, (blk_cell BK386.out 3).trans rfl, (blk_cell BK386.out 4).trans rfl, (blk_cell BK386.out 5).trans rfl, (blk_cell BK386.out 6).trans rfl, (blk_cell BK386.out 7).trans rfl, (blk_cell BK386.out 8).trans rfl⟩ (fun hHeld => ?_)
          clear hK K
          refine norm_ (a' := ?_) ?_ ?_
          rotate_left
          ·show Act.put _ (some 50) _ = _
           simp only [Act.put, List.setIfInBounds_toArray, List.set_cons_zero, List.set_cons_succ, i64_w, i32_w]
           rfl
          refine pure_ (i := 18) (N := some 32) (v := ?_) (a' := ?_) #[true, true, true, true, true, true, true, true, true, true, true, true, true, true, true, true, true, true, true, false, false, false, false, false, false, false] rfl rfl (any_of HT_.out (by kernel_rfl)) (fun _ _ _ h => h) (Or.inl ⟨by rfl, ?_⟩) ?_ ?_
          rotate_left
          ·intro w'
           go_simp
           with_reducible rfl
          rotate_left
          ·simp only [Act.put, List.setIfInBounds_toArray, List.set_cons_zero, List.set_cons_succ, i64_w, i32_w]
           rfl
          refine pure_ (i := 19) (N := some 51) (v := ?_) (a' := ?_) #[true, true, true, true, true, true, true, true, true, true, true, true, true, true, true, true, true, true, true, true, false, false, false, false, false, false] rfl rfl (any_of HT_.out (by kernel_rfl)) (fun _ _ _ h => h) (Or.inl ⟨by rfl, ?_⟩) ?_ ?_
          rotate_left
          ·intro w'
           go_simp
           with_reducible rfl
          rotate_left
          ·simp only [Act.put, List.setIfInBounds_toArray, List.set_cons_zero, List.set_cons_succ, i64_w, i32_w]
           rfl
          refine pure_ (i := 20) (N := some 52) (v := ?_) (a' := ?_) #[true, true, true, true, true, true, true, true, true, true, true, true, true, true, true, true, true, true, true, true, true, false, false, false, false, false] rfl rfl (any_of HT_.out (by kernel_rfl)) (fun _ _ _ h => h) (Or.inl ⟨by rfl, ?_⟩) ?_ ?_
          rotate_left
          ·intro w'
           go_simp
           with_reducible rfl
          rotate_left
          ·simp only [Act.put, List.setIfInBounds_toArray, List.set_cons_zero, List.set_cons_succ, i64_w, i32_w]
           rfl
          refine pure_ (i := 21) (N := some 53) (v := ?_) (a' := ?_) #[true, true, true, true, true, true, true, true, true, true, true, true, true, true, true, true, true, true, true, true, true, true, false, false, false, false] rfl rfl (any_of HT_.out (by kernel_rfl)) (fun _ _ _ h => h) (Or.inl ⟨by rfl, ?_⟩) ?_ ?_
          rotate_left
          ·intro w'
           go_simp
           with_reducible rfl
          rotate_left
          ·simp only [Act.put, List.setIfInBounds_toArray, List.set_cons_zero, List.set_cons_succ, i64_w, i32_w]
           rfl
          exact norm_ (by first | (simp only [putAll, Act.put, List.setIfInBounds_toArray, List.set_cons_zero, List.set_cons_succ]; done) | (simp only [putAll, Act.put, List.setIfInBounds_toArray, List.set_cons_zero, List.set_cons_succ]; rfl)) (hJ2_7_11_15_17 () _ ⟨hHeld, (BK384.out), (BK385.out), (BK386.out), (BK387.out), (BK396.out), (HB.out)⟩)
         ·skip
          refine box_step ?hg (N := 12) ?hd (cs := #[.int .i64 0, .int .i64 0, .bool false, .int .i64 0, .int .i64 0]) (t := 30) ?hr ?_; (case hd => rfl); (case hg => rfl); (case hr => first | (go_simp; done) | (go_simp; rfl))
          intro gb417 hg w41 hbox hb
          have BK417 := Aside0.mk (hbox)
          have GE417 := Aside0.mk (bG hg (HB.out))
          have NB384_417 := Aside0.mk (bN hg (BK384.out))
          have NB417_384 := Aside0.mk (bM hg (BK384.out))
          have NB385_417 := Aside0.mk (bN hg (BK385.out))
          have NB417_385 := Aside0.mk (bM hg (BK385.out))
          have NB386_417 := Aside0.mk (bN hg (BK386.out))
          have NB417_386 := Aside0.mk (bM hg (BK386.out))
          have NB387_417 := Aside0.mk (bN hg (BK387.out))
          have NB417_387 := Aside0.mk (bM hg (BK387.out))
          have NB396_417 := Aside0.mk (bN hg (BK396.out))
          have NB417_396 := Aside0.mk (bM hg (BK396.out))
          replace BK384 := Aside0.mk (bB hb (BK384.out))
          replace BK385 := Aside0.mk (bB hb (BK385.out))
          replace BK386 := Aside0.mk (bB hb (BK386.out))
          replace BK387 := Aside0.mk (bB hb (BK387.out))
          replace BK396 := Aside0.mk (bB hb (BK396.out))
          replace HB := Aside0.mk (below_step (HB.out) hb)
          clear hb hbox hg
          refine hK.out _ _ ⟨(blk_cell BK384.out 0).trans rfl, (blk_cell BK384.out 1).trans rfl, (blk_cell BK384.out 2).trans rfl, (blk_cell BK387.out 0).trans rfl, (blk_cell BK387.out 1).trans rfl, (blk_cell BK387.out 2).trans rfl, (blk_cell BK385.out 0).trans rfl, (blk_cell BK385.out 1).trans rfl, (blk_cell BK385.out 2).trans rfl, (blk_cell BK386.out 0).trans rfl, (blk_cell BK386.out 1).trans rfl, (blk_cell BK386.out 2).trans rfl, (blk_cell BK386.out 3).trans rfl, (blk_cell BK386.out 4).trans rfl, (blk_cell BK386.out 5).trans rfl, (blk_cell BK386.out 6).trans rfl, (blk_cell BK386.out 7).trans rfl, (blk_cell BK386.out 8).trans rfl⟩ (fun hHeld => ?_)
          clear hK K
          refine norm_ (a' := ?_) ?_ ?_
          rotate_left
          ·show Act.put _ (some 12) _ = _
           simp only [Act.put, List.setIfInBounds_toArray, List.set_cons_zero, List.set_cons_succ, i64_w, i32_w]
           rfl
          exact norm_ (by first | (simp only [putAll, Act.put, List.setIfInBounds_toArray, List.set_cons_zero, List.set_cons_succ]; done) | (simp only [putAll, Act.put, List.setIfInBounds_toArray, List.set_cons_zero, List.set_cons_succ]; rfl)) (hJ2_7_11_15_22 (gb417) _ ⟨hHeld, (BK384.out), (BK385.out), (BK386.out), (BK387.out), (BK396.out), (BK417.out), GE417.out, NB384_417.out, NB417_384.out, NB385_417.out, NB417_385.out, NB386_417.out, NB417_386.out, NB387_417.out, NB417_387.out, NB396_417.out, NB417_396.out, (HB.out)⟩)
       ·skip
        rintro gb417 w41 ⟨hS_, h0_, h1_, h2_, h3_, h4_, h5_, h6_, h7_, h8_, h9_, h10_, h11_, h12_, h13_, h14_, h15_, h16_, h17_⟩
        have n0_ : Aside0 (w41.heap[gb384]? = some (.cells #[.int .i64 a0_0, .int .i64 a0_1, .int .i64 a0_2] 23 (0, 0))) := ⟨h0_⟩
        have n1_ : Aside0 (w41.heap[gb385]? = some (.cells #[.int .i64 a1_0, .int .i64 a1_1, .int .i64 a1_2] 23 (0, 0))) := ⟨h1_⟩
        have n2_ : Aside0 (w41.heap[gb386]? = some (.cells #[.int .i64 a2_0, .int .i64 a2_1, .int .i64 a2_2, .int .i64 a2_3, .int .i64 a2_4, .int .i64 a2_5, .int .i64 a2_6, .int .i64 a2_7, .int .i64 a2_8] 25 (0, 0))) := ⟨h2_⟩
        have n3_ : Aside0 (w41.heap[gb387]? = some (.cells #[.int .i64 a3_0, .int .i64 a3_1, .int .i64 a3_2] 23 (0, 0))) := ⟨h3_⟩
        have n4_ : Aside0 (w41.heap[gb396]? = some (.cells #[.int .i64 t389, .int .i64 t390, .bool t391, .int .i64 t392, .int .i64 t393] 30 (0, 0))) := ⟨h4_⟩
        have n5_ : Aside0 (w41.heap[gb417]? = some (.cells #[.int .i64 0, .int .i64 0, .bool false, .int .i64 0, .int .i64 0] 30 (0, 0))) := ⟨h5_⟩
        have n6_ : Aside0 (w.heap.size ≤ gb417) := ⟨h6_⟩
        have n7_ : Aside0 (gb384 ≠ gb417) := ⟨h7_⟩
        have n8_ : Aside0 (gb417 ≠ gb384) := ⟨h8_⟩
        have n9_ : Aside0 (gb385 ≠ gb417) := ⟨h9_⟩
        have n10_ : Aside0 (gb417 ≠ gb385) := ⟨h10_⟩
        have n11_ : Aside0 (gb386 ≠ gb417) := ⟨h11_⟩
        have n12_ : Aside0 (gb417 ≠ gb386) := ⟨h12_⟩
        have n13_ : Aside0 (gb387 ≠ gb417) := ⟨h13_⟩
        have n14_ : Aside0 (gb417 ≠ gb387) := ⟨h14_⟩
        have n15_ : Aside0 (gb396 ≠ gb417) := ⟨h15_⟩
        have n16_ : Aside0 (gb417 ≠ gb396) := ⟨h16_⟩
        have n17_ : Aside0 (Below w.heap.size w w41) := ⟨h17_⟩
        clear BK384
        clear BK385
        clear BK386
        clear BK387
        clear BK396
        clear HB
        clear h0_ h1_ h2_ h3_ h4_ h5_ h6_ h7_ h8_ h9_ h10_ h11_ h12_ h13_ h14_ h15_ h16_ h17_
        have BK384 := n0_
        have BK385 := n1_
        have BK386 := n2_
        have BK387 := n3_
        have BK396 := n4_
        have BK417 := n5_
        have GE417 := n6_
        have NB384_417 := n7_
        have NB417_384 := n8_
        have NB385_417 := n9_
        have NB417_385 := n10_
        have NB386_417 := n11_
        have NB417_386 := n12_
        have NB387_417 := n13_
        have NB417_387 := n14_
        have NB396_417 := n15_
        have NB417_396 := n16_
        have HB := n17_
        clear n0_ n1_ n2_ n3_ n4_ n5_ n6_ n7_ n8_ n9_ n10_ n11_ n12_ n13_ n14_ n15_ n16_ n17_
        have hHeld : w41.cell? ⟨gb384, 0, none⟩ = some (.int .i64 a0_0) ∧ w41.cell? ⟨gb384, 1, none⟩ = some (.int .i64 a0_1) ∧ w41.cell? ⟨gb384, 2, none⟩ = some (.int .i64 a0_2) ∧ w41.cell? ⟨gb387, 0, none⟩ = some (.int .i64 a3_0) ∧ w41.cell? ⟨gb387, 1, none⟩ = some (.int .i64 a3_1) ∧ w41.cell? ⟨gb387, 2, none⟩ = some (.int .i64 a3_2) ∧ w41.cell? ⟨gb385, 0, none⟩ = some (.int .i64 a1_0) ∧ w41.cell? ⟨gb385, 1, none⟩ = some (.int .i64 a1_1) ∧ w41.cell? ⟨gb385, 2, none⟩ = some (.int .i64 a1_2) ∧ w41.cell? ⟨gb386, 0, none⟩ = some (.int .i64 a2_0) ∧ w41.cell? ⟨gb386, 1, none⟩ = some (.int .i64 a2_1) ∧ w41.cell? ⟨gb386, 2, none⟩ = some (.int .i64 a2_2) ∧ w41.cell? ⟨gb386, 3, none⟩ = some (.int .i64 a2_3) ∧ w41.cell? ⟨gb386, 4, none⟩ = some (.int .i64 a2_4) ∧ w41.cell? ⟨gb386, 5, none⟩ = some (.int .i64 a2_5) ∧ w41.cell? ⟨gb386, 6, none⟩ = some (.int .i64 a2_6) ∧ w41.cell? ⟨gb386, 7, none⟩ = some (.int .i64 a2_7) ∧ w41.cell? ⟨gb386, 8, none⟩ = some (.int .i64 a2_8) := hS_
        refine norm_ (a' := ?_) ?_ ?_
        rotate_left
        ·simp only [putAll, Act.put, List.setIfInBounds_toArray, List.set_cons_zero, List.set_cons_succ]
         rfl
        refine one_ (i := 17) (N := some 50) #[true, true, true, true, true, true, true, true, true, true, true, true, true, true, true, true, true, true, false, false, false, false, true, false, false, false] rfl rfl (one_of HT_.out (by kernel_rfl)) (by decide) (fun K hK => ?_)
        refine goes_ Try.func20 (by kernel_rfl) rfl #[.agg #[.int .i64 t398, .int .i64 t399, .int .i64 t400], .agg #[.int .i64 a1_0, .int .i64 a1_1, .int .i64 a1_2], .agg #[.int .i64 t401, .int .i64 t402, .int .i64 t403, .int .i64 t404, .int .i64 t405, .int .i64 t406, .int .i64 t407, .int .i64 t408, .int .i64 t409]] (by rfl) rfl rfl (by (try simp only [List.map_toArray, List.map_cons, List.map_nil]); first | done | rfl | (simp only [List.length_drop, List.length_take]; rfl)) ?_
        with_reducible refine (side_Meet.calls kj7 t398 t399 t400 a1_0 a1_1 a1_2 t401 t402 t403 t404 t405 t406 t407 t408 t409 t410 t411 t412 t413 t414 t415 t416 _ A33.out).mono ?_
        rintro e w42 ⟨rfl, hb⟩
        refine ⟨_, rfl, ?_⟩
        replace BK384 := Aside0.mk (bB hb (BK384.out))
        replace BK385 := Aside0.mk (bB hb (BK385.out))
        replace BK386 := Aside0.mk (bB hb (BK386.out))
        replace BK387 := Aside0.mk (bB hb (BK387.out))
        replace BK396 := Aside0.mk (bB hb (BK396.out))
        replace BK417 := Aside0.mk (bB hb (BK417.out))
        replace HB := Aside0.mk (below_step (HB.out) hb)
        (try clear hb)
        (try clear hb2)
        (try clear hk)
        (try clear hi)
        refine hK.out _ _ ⟨(blk_cell BK384.out 0).trans rfl, (blk_cell BK384.out 1).trans rfl, (blk_cell BK384.out 2).trans rfl, (blk_cell BK387.out 0).trans rfl, (blk_cell BK387.out 1).trans rfl, (blk_cell BK387.out 2).trans rfl, (blk_cell BK385.out 0).trans rfl, (blk_cell BK385.out 1).trans rfl, (blk_cell BK385.out 2).trans rfl, (blk_cell BK386.out 0).trans rfl, (blk_cell BK386.out 1).trans rfl, (blk_cell BK386.out 2).trans rfl, (blk_cell BK386.out 3).trans rfl, (blk_cell BK386.out 4).trans rfl, (blk_cell BK386.out 5).trans rfl, (blk_cell BK386.out 6).trans rfl, (blk_cell BK386.out 7).trans rfl, (blk_cell BK386.out 8).trans rfl⟩ (fun hHeld => ?_)
        clear hK K
        refine norm_ (a' := ?_) ?_ ?_
        rotate_left
        ·show Act.put _ (some 50) _ = _
         simp only [Act.put, List.setIfInBounds_toArray, List.set_cons_zero, List.set_cons_succ, i64_w, i32_w]
         rfl
        refine pure_ (i := 18) (N := some 32) (v := ?_) (a' := ?_) #[true, true, true, true, true, true, true, true, true, true, true, true, true, true, true, true, true, true, true, false, false, false, true, false, false, false] rfl rfl (any_of HT_.out (by kernel_rfl)) (fun _ _ _ h => h) (Or.inl ⟨by rfl, ?_⟩) ?_ ?_
        rotate_left
        ·intro w'
         go_simp
         with_reducible rfl
        rotate_left
        ·simp only [Act.put, List.setIfInBounds_toArray, List.set_cons_zero, List.set_cons_succ, i64_w, i32_w]
         rfl
        refine pure_ (i := 19) (N := some 51) (v := ?_) (a' := ?_) #[true, true, true, true, true, true, true, true, true, true, true, true, true, true, true, true, true, true, true, true, false, false, true, false, false, false] rfl rfl (any_of HT_.out (by kernel_rfl)) (fun _ _ _ h => h) (Or.inl ⟨by rfl, ?_⟩) ?_ ?_
        rotate_left
        ·intro w'
         go_simp
         with_reducible rfl
        rotate_left
        ·simp only [Act.put, List.setIfInBounds_toArray, List.set_cons_zero, List.set_cons_succ, i64_w, i32_w]
         rfl
        refine pure_ (i := 20) (N := some 52) (v := ?_) (a' := ?_) #[true, true, true, true, true, true, true, true, true, true, true, true, true, true, true, true, true, true, true, true, true, false, true, false, false, false] rfl rfl (any_of HT_.out (by kernel_rfl)) (fun _ _ _ h => h) (Or.inl ⟨by rfl, ?_⟩) ?_ ?_
        rotate_left
        ·intro w'
         go_simp
         with_reducible rfl
        rotate_left
        ·simp only [Act.put, List.setIfInBounds_toArray, List.set_cons_zero, List.set_cons_succ, i64_w, i32_w]
         rfl
        refine pure_ (i := 21) (N := some 53) (v := ?_) (a' := ?_) #[true, true, true, true, true, true, true, true, true, true, true, true, true, true, true, true, true, true, true, true, true, true, true, false, false, false] rfl rfl (any_of HT_.out (by kernel_rfl)) (fun _ _ _ h => h) (Or.inl ⟨by rfl, ?_⟩) ?_ ?_
        rotate_left
        ·intro w'
         go_simp
         with_reducible rfl
        rotate_left
        ·simp only [Act.put, List.setIfInBounds_toArray, List.set_cons_zero, List.set_cons_succ, i64_w, i32_w]
         rfl
        exact norm_ (by first | (simp only [putAll, Act.put, List.setIfInBounds_toArray, List.set_cons_zero, List.set_cons_succ]; done) | (simp only [putAll, Act.put, List.setIfInBounds_toArray, List.set_cons_zero, List.set_cons_succ]; rfl)) (hJ2_7_11_15_17_22 (gb417) _ ⟨hHeld, (BK384.out), (BK385.out), (BK386.out), (BK387.out), (BK396.out), (BK417.out), GE417.out, NB384_417.out, NB417_384.out, NB385_417.out, NB417_385.out, NB386_417.out, NB417_386.out, NB387_417.out, NB417_387.out, NB396_417.out, NB417_396.out, (HB.out)⟩)
      ·skip
       rintro _ w41 ⟨hS_, h0_, h1_, h2_, h3_, h4_, h5_⟩
       have n0_ : Aside0 (w41.heap[gb384]? = some (.cells #[.int .i64 a0_0, .int .i64 a0_1, .int .i64 a0_2] 23 (0, 0))) := ⟨h0_⟩
       have n1_ : Aside0 (w41.heap[gb385]? = some (.cells #[.int .i64 a1_0, .int .i64 a1_1, .int .i64 a1_2] 23 (0, 0))) := ⟨h1_⟩
       have n2_ : Aside0 (w41.heap[gb386]? = some (.cells #[.int .i64 a2_0, .int .i64 a2_1, .int .i64 a2_2, .int .i64 a2_3, .int .i64 a2_4, .int .i64 a2_5, .int .i64 a2_6, .int .i64 a2_7, .int .i64 a2_8] 25 (0, 0))) := ⟨h2_⟩
       have n3_ : Aside0 (w41.heap[gb387]? = some (.cells #[.int .i64 a3_0, .int .i64 a3_1, .int .i64 a3_2] 23 (0, 0))) := ⟨h3_⟩
       have n4_ : Aside0 (w41.heap[gb396]? = some (.cells #[.int .i64 t389, .int .i64 t390, .bool t391, .int .i64 t392, .int .i64 t393] 30 (0, 0))) := ⟨h4_⟩
       have n5_ : Aside0 (Below w.heap.size w w41) := ⟨h5_⟩
       clear BK384
       clear BK385
       clear BK386
       clear BK387
       clear BK396
       clear HB
       clear h0_ h1_ h2_ h3_ h4_ h5_
       have BK384 := n0_
       have BK385 := n1_
       have BK386 := n2_
       have BK387 := n3_
       have BK396 := n4_
       have HB := n5_
       clear n0_ n1_ n2_ n3_ n4_ n5_
       have hHeld : w41.cell? ⟨gb384, 0, none⟩ = some (.int .i64 a0_0) ∧ w41.cell? ⟨gb384, 1, none⟩ = some (.int .i64 a0_1) ∧ w41.cell? ⟨gb384, 2, none⟩ = some (.int .i64 a0_2) ∧ w41.cell? ⟨gb387, 0, none⟩ = some (.int .i64 a3_0) ∧ w41.cell? ⟨gb387, 1, none⟩ = some (.int .i64 a3_1) ∧ w41.cell? ⟨gb387, 2, none⟩ = some (.int .i64 a3_2) ∧ w41.cell? ⟨gb385, 0, none⟩ = some (.int .i64 a1_0) ∧ w41.cell? ⟨gb385, 1, none⟩ = some (.int .i64 a1_1) ∧ w41.cell? ⟨gb385, 2, none⟩ = some (.int .i64 a1_2) ∧ w41.cell? ⟨gb386, 0, none⟩ = some (.int .i64 a2_0) ∧ w41.cell? ⟨gb386, 1, none⟩ = some (.int .i64 a2_1) ∧ w41.cell? ⟨gb386, 2, none⟩ = some (.int .i64 a2_2) ∧ w41.cell? ⟨gb386, 3, none⟩ = some (.int .i64 a2_3) ∧ w41.cell? ⟨gb386, 4, none⟩ = some (.int .i64 a2_4) ∧ w41.cell? ⟨gb386, 5, none⟩ = some (.int .i64 a2_5) ∧ w41.cell? ⟨gb386, 6, none⟩ = some (.int .i64 a2_6) ∧ w41.cell? ⟨gb386, 7, none⟩ = some (.int .i64 a2_7) ∧ w41.cell? ⟨gb386, 8, none⟩ = some (.int .i64 a2_8) := hS_
       refine norm_ (a' := ?_) ?_ ?_
       rotate_left
       ·simp only [putAll, Act.put, List.setIfInBounds_toArray, List.set_cons_zero, List.set_cons_succ]
        rfl
       refine one_ (i := 22) (N := some 12) #[true, true, true, true, true, true, true, true, true, true, true, true, true, true, true, true, true, true, true, true, true, true, true, false, false, false] rfl rfl (one_of HT_.out (by kernel_rfl)) (by decide) (fun K hK => ?_)
       refine box_step ?hg (N := 12) ?hd (cs := #[.int .i64 0, .int .i64 0, .bool false, .int .i64 0, .int .i64 0]) (t := 30) ?hr ?_; (case hd => rfl); (case hg => rfl); (case hr => first | (go_simp; done) | (go_simp; rfl))
       intro gb417 hg w42 hbox hb
       have BK417 := Aside0.mk (hbox)
       have GE417 := Aside0.mk (bG hg (HB.out))
       have NB384_417 := Aside0.mk (bN hg (BK384.out))
       have NB417_384 := Aside0.mk (bM hg (BK384.out))
       have NB385_417 := Aside0.mk (bN hg (BK385.out))
       have NB417_385 := Aside0.mk (bM hg (BK385.out))
       have NB386_417 := Aside0.mk (bN hg (BK386.out))
       have NB417_386 := Aside0.mk (bM hg (BK386.out))
       have NB387_417 := Aside0.mk (bN hg (BK387.out))
       have NB417_387 := Aside0.mk (bM hg (BK387.out))
       have NB396_417 := Aside0.mk (bN hg (BK396.out))
       have NB417_396 := Aside0.mk (bM hg (BK396.out))
       replace BK384 := Aside0.mk (bB hb (BK384.out))
       replace BK385 := Aside0.mk (bB hb (BK385.out))
       replace BK386 := Aside0.mk (bB hb (BK386.out))
       replace BK387 := Aside0.mk (bB hb (BK387.out))
       replace BK396 := Aside0.mk (bB hb (BK396.out))
       replace HB := Aside0.mk (below_step (HB.out) hb)
       clear hb hbox hg
       refine hK.out _ _ ⟨(blk_cell BK384.out 0).trans rfl, (blk_cell BK384.out 1).trans rfl, (blk_cell BK384.out 2).trans rfl, (blk_cell BK387.out 0).trans rfl, (blk_cell BK387.out 1).trans rfl, (blk_cell BK387.out 2).trans rfl, (blk_cell BK385.out 0).trans rfl, (blk_cell BK385.out 1).trans rfl, (blk_cell BK385.out 2).trans rfl, (blk_cell BK386.out 0).trans rfl, (blk_cell BK386.out 1).trans rfl, (blk_cell BK386.out 2).trans rfl, (blk_cell BK386.out 3).trans rfl, (blk_cell BK386.out 4).trans rfl, (blk_cell BK386.out 5).trans rfl, (blk_cell BK386.out 6).trans rfl, (blk_cell BK386.out 7).trans rfl, (blk_cell BK386.out 8).trans rfl⟩ (fun hHeld => ?_)
       clear hK K
       refine norm_ (a' := ?_) ?_ ?_
       rotate_left
       ·show Act.put _ (some 12) _ = _
        simp only [Act.put, List.setIfInBounds_toArray, List.set_cons_zero, List.set_cons_succ, i64_w, i32_w]
        rfl
       exact norm_ (by first | (simp only [putAll, Act.put, List.setIfInBounds_toArray, List.set_cons_zero, List.set_cons_succ]; done) | (simp only [putAll, Act.put, List.setIfInBounds_toArray, List.set_cons_zero, List.set_cons_succ]; rfl)) (hJ2_7_11_15_17_22 (gb417) _ ⟨hHeld, (BK384.out), (BK385.out), (BK386.out), (BK387.out), (BK396.out), (BK417.out), GE417.out, NB384_417.out, NB417_384.out, NB385_417.out, NB417_385.out, NB386_417.out, NB417_386.out, NB387_417.out, NB417_387.out, NB396_417.out, NB417_396.out, (HB.out)⟩)
     rintro gb417 w42 ⟨hS_, h0_, h1_, h2_, h3_, h4_, h5_, h6_, h7_, h8_, h9_, h10_, h11_, h12_, h13_, h14_, h15_, h16_, h17_⟩
     have n0_ : Aside0 (w42.heap[gb384]? = some (.cells #[.int .i64 a0_0, .int .i64 a0_1, .int .i64 a0_2] 23 (0, 0))) := ⟨h0_⟩
     have n1_ : Aside0 (w42.heap[gb385]? = some (.cells #[.int .i64 a1_0, .int .i64 a1_1, .int .i64 a1_2] 23 (0, 0))) := ⟨h1_⟩
     have n2_ : Aside0 (w42.heap[gb386]? = some (.cells #[.int .i64 a2_0, .int .i64 a2_1, .int .i64 a2_2, .int .i64 a2_3, .int .i64 a2_4, .int .i64 a2_5, .int .i64 a2_6, .int .i64 a2_7, .int .i64 a2_8] 25 (0, 0))) := ⟨h2_⟩
     have n3_ : Aside0 (w42.heap[gb387]? = some (.cells #[.int .i64 a3_0, .int .i64 a3_1, .int .i64 a3_2] 23 (0, 0))) := ⟨h3_⟩
     have n4_ : Aside0 (w42.heap[gb396]? = some (.cells #[.int .i64 t389, .int .i64 t390, .bool t391, .int .i64 t392, .int .i64 t393] 30 (0, 0))) := ⟨h4_⟩
     have n5_ : Aside0 (w42.heap[gb417]? = some (.cells #[.int .i64 0, .int .i64 0, .bool false, .int .i64 0, .int .i64 0] 30 (0, 0))) := ⟨h5_⟩
     have n6_ : Aside0 (w.heap.size ≤ gb417) := ⟨h6_⟩
     have n7_ : Aside0 (gb384 ≠ gb417) := ⟨h7_⟩
     have n8_ : Aside0 (gb417 ≠ gb384) := ⟨h8_⟩
     have n9_ : Aside0 (gb385 ≠ gb417) := ⟨h9_⟩
     have n10_ : Aside0 (gb417 ≠ gb385) := ⟨h10_⟩
     have n11_ : Aside0 (gb386 ≠ gb417) := ⟨h11_⟩
     have n12_ : Aside0 (gb417 ≠ gb386) := ⟨h12_⟩
     have n13_ : Aside0 (gb387 ≠ gb417) := ⟨h13_⟩
     have n14_ : Aside0 (gb417 ≠ gb387) := ⟨h14_⟩
     have n15_ : Aside0 (gb396 ≠ gb417) := ⟨h15_⟩
     have n16_ : Aside0 (gb417 ≠ gb396) := ⟨h16_⟩
     have n17_ : Aside0 (Below w.heap.size w w42) := ⟨h17_⟩
     clear BK384
     clear BK385
     clear BK386
     clear BK387
     clear BK396
     clear HB
     clear h0_ h1_ h2_ h3_ h4_ h5_ h6_ h7_ h8_ h9_ h10_ h11_ h12_ h13_ h14_ h15_ h16_ h17_
     have BK384 := n0_
     have BK385 := n1_
     have BK386 := n2_
     have BK387 := n3_
     have BK396 := n4_
     have BK417 := n5_
     have GE417 := n6_
     have NB384_417 := n7_
     have NB417_384 := n8_
     have NB385_417 := n9_
     have NB417_385 := n10_
     have NB386_417 := n11_
     have NB417_386 := n12_
     have NB387_417 := n13_
     have NB417_387 := n14_
     have NB396_417 := n15_
     have NB417_396 := n16_
     have HB := n17_
     clear n0_ n1_ n2_ n3_ n4_ n5_ n6_ n7_ n8_ n9_ n10_ n11_ n12_ n13_ n14_ n15_ n16_ n17_
     have hHeld : w42.cell? ⟨gb384, 0, none⟩ = some (.int .i64 a0_0) ∧ w42.cell? ⟨gb384, 1, none⟩ = some (.int .i64 a0_1) ∧ w42.cell? ⟨gb384, 2, none⟩ = some (.int .i64 a0_2) ∧ w42.cell? ⟨gb387, 0, none⟩ = some (.int .i64 a3_0) ∧ w42.cell? ⟨gb387, 1, none⟩ = some (.int .i64 a3_1) ∧ w42.cell? ⟨gb387, 2, none⟩ = some (.int .i64 a3_2) ∧ w42.cell? ⟨gb385, 0, none⟩ = some (.int .i64 a1_0) ∧ w42.cell? ⟨gb385, 1, none⟩ = some (.int .i64 a1_1) ∧ w42.cell? ⟨gb385, 2, none⟩ = some (.int .i64 a1_2) ∧ w42.cell? ⟨gb386, 0, none⟩ = some (.int .i64 a2_0) ∧ w42.cell? ⟨gb386, 1, none⟩ = some (.int .i64 a2_1) ∧ w42.cell? ⟨gb386, 2, none⟩ = some (.int .i64 a2_2) ∧ w42.cell? ⟨gb386, 3, none⟩ = some (.int .i64 a2_3) ∧ w42.cell? ⟨gb386, 4, none⟩ = some (.int .i64 a2_4) ∧ w42.cell? ⟨gb386, 5, none⟩ = some (.int .i64 a2_5) ∧ w42.cell? ⟨gb386, 6, none⟩ = some (.int .i64 a2_6) ∧ w42.cell? ⟨gb386, 7, none⟩ = some (.int .i64 a2_7) ∧ w42.cell? ⟨gb386, 8, none⟩ = some (.int .i64 a2_8) := hS_
     refine norm_ (a' := ?_) ?_ ?_
     rotate_left
     ·simp only [putAll, Act.put, List.setIfInBounds_toArray, List.set_cons_zero, List.set_cons_succ]
      rfl
     refine one_ (i := 23) (N := none) #[true, true, true, true, true, true, true, true, true, true, true, true, true, true, true, true, true, true, true, true, true, true, true, true, false, false] rfl rfl (one_of HT_.out (by kernel_rfl)) (by decide) (fun K hK => ?_)
     have hs43 : w42.cell? ⟨gb417, 0, none⟩ = some (.int .i64 0) := (blk_cell BK417.out 0).trans rfl
     have hfs43 := blk_frozen BK417.out 0
     have hns43_0 := NB384_417.out
     have hns43_1 := NB385_417.out
     have hns43_2 := NB386_417.out
     have hns43_3 := NB387_417.out
     have hns43_4 := NB396_417.out
     have hms43_0 := NB417_384.out
     have hms43_1 := NB417_385.out
     have hms43_2 := NB417_386.out
     have hms43_3 := NB417_387.out
     have hms43_4 := NB417_396.out
     have hs44 : w42.cell? ⟨gb417, 1, none⟩ = some (.int .i64 0) := (blk_cell BK417.out 1).trans rfl
     have hfs44 := blk_frozen BK417.out 1
     have hns44_0 := NB384_417.out
     have hns44_1 := NB385_417.out
     have hns44_2 := NB386_417.out
     have hns44_3 := NB387_417.out
     have hns44_4 := NB396_417.out
     have hms44_0 := NB417_384.out
     have hms44_1 := NB417_385.out
     have hms44_2 := NB417_386.out
     have hms44_3 := NB417_387.out
     have hms44_4 := NB417_396.out
     have hs45 : w42.cell? ⟨gb417, 2, none⟩ = some (.bool false) := (blk_cell BK417.out 2).trans rfl
     have hfs45 := blk_frozen BK417.out 2
     have hns45_0 := NB384_417.out
     have hns45_1 := NB385_417.out
     have hns45_2 := NB386_417.out
     have hns45_3 := NB387_417.out
     have hns45_4 := NB396_417.out
     have hms45_0 := NB417_384.out
     have hms45_1 := NB417_385.out
     have hms45_2 := NB417_386.out
     have hms45_3 := NB417_387.out
     have hms45_4 := NB417_396.out
     have hs46 : w42.cell? ⟨gb417, 3, none⟩ = some (.int .i64 0) := (blk_cell BK417.out 3).trans rfl
     have hfs46 := blk_frozen BK417.out 3
     have hns46_0 := NB384_417.out
     have hns46_1 := NB385_417.out
     have hns46_2 := NB386_417.out
     have hns46_3 := NB387_417.out
     have hns46_4 := NB396_417.out
     have hms46_0 := NB417_384.out
     have hms46_1 := NB417_385.out
     have hms46_2 := NB417_386.out
     have hms46_3 := NB417_387.out
     have hms46_4 := NB417_396.out
     have hs47 : w42.cell? ⟨gb417, 4, none⟩ = some (.int .i64 0) := (blk_cell BK417.out 4).trans rfl
     have hfs47 := blk_frozen BK417.out 4
     have hns47_0 := NB384_417.out
     have hns47_1 := NB385_417.out
     have hns47_2 := NB386_417.out
     have hns47_3 := NB387_417.out
     have hns47_4 := NB396_417.out
     have hms47_0 := NB417_384.out
     have hms47_1 := NB417_385.out
     have hms47_2 := NB417_386.out
     have hms47_3 := NB417_387.out
     have hms47_4 := NB417_396.out
     refine skip_ (w1 := ?_) (by rfl) rfl ?_ ?_
     rotate_left
     ·go_simp
      rfl
     refine hK.out _ _ ⟨((cell_far (p := ⟨gb417, _, none⟩) NB384_417.out _).trans (((cell_far (p := ⟨gb417, _, none⟩) NB384_417.out _).trans (((cell_far (p := ⟨gb417, _, none⟩) NB384_417.out _).trans (((cell_far (p := ⟨gb417, _, none⟩) NB384_417.out _).trans (((cell_far (p := ⟨gb417, _, none⟩) NB384_417.out _).trans (hHeld.1)))))))))), ((cell_far (p := ⟨gb417, _, none⟩) NB384_417.out _).trans (((cell_far (p := ⟨gb417, _, none⟩) NB384_417.out _).trans (((cell_far (p := ⟨gb417, _, none⟩) NB384_417.out _).trans (((cell_far (p := ⟨gb417, _, none⟩) NB384_417.out _).trans (((cell_far (p := ⟨gb417, _, none⟩) NB384_417.out _).trans (hHeld.2.1)))))))))), ((cell_far (p := ⟨gb417, _, none⟩) NB384_417.out _).trans (((cell_far (p := ⟨gb417, _, none⟩) NB384_417.out _).trans (((cell_far (p := ⟨gb417, _, none⟩) NB384_417.out _).trans (((cell_far (p := ⟨gb417, _, none⟩) NB384_417.out _).trans (((cell_far (p := ⟨gb417, _, none⟩) NB384_417.out _).trans (hHeld.2.2.1)))))))))), ((cell_far (p := ⟨gb417, _, none⟩) NB387_417.out _).trans (((cell_far (p := ⟨gb417, _, none⟩) NB387_417.out _).trans (((cell_far (p := ⟨gb417, _, none⟩) NB387_417.out _).trans (((cell_far (p := ⟨gb417, _, none⟩) NB387_417.out _).trans (((cell_far (p := ⟨gb417, _, none⟩) NB387_417.out _).trans (hHeld.2.2.2.1)))))))))), ((cell_far (p := ⟨gb417, _, none⟩) NB387_417.out _).trans (((cell_far (p := ⟨gb417, _, none⟩) NB387_417.out _).trans (((cell_far (p := ⟨gb417, _, none⟩) NB387_417.out _).trans (((cell_far (p := ⟨gb417, _, none⟩) NB387_417.out _).trans (((cell_far (p := ⟨gb417, _, none⟩) NB387_417.out _).trans (hHeld.2.2.2.2.1)))))))))), ((cell_far (p := ⟨gb417, _, none⟩) NB387_417.out _).trans (((cell_far (p := ⟨gb417, _, none⟩) NB387_417.out _).trans (((cell_far (p := ⟨gb417, _, none⟩) NB387_417.out _).trans (((cell_far (p := ⟨gb417, _, none⟩) NB387_417.out _).trans (((cell_far (p := ⟨gb417, _, none⟩) NB387_417.out _).trans (hHeld.2.2.2.2.2.1)))))))))), ((cell_far (p := ⟨gb417, _, none⟩) NB385_417.out _).trans (((cell_far (p := ⟨gb417, _, none⟩) NB385_417.out _).trans (((cell_far (p := ⟨gb417, _, none⟩) NB385_417.out _).trans (((cell_far (p := ⟨gb417, _, none⟩) NB385_417.out _).trans (((cell_far (p := ⟨gb417, _, none⟩) NB385_417.out _).trans (hHeld.2.2.2.2.2.2.1)))))))))), ((cell_far (p := ⟨gb417, _, none⟩) NB385_417.out _).trans (((cell_far (p := ⟨gb417, _, none⟩) NB385_417.out _).trans (((cell_far (p := ⟨gb417, _, none⟩) NB385_417.out _).trans (((cell_far (p := ⟨gb417, _, none⟩) NB385_417.out _).trans (((cell_far (p := ⟨gb417, _, none⟩) NB385_417.out _).trans (hHeld.2.2.2.2.2.2.2.1)))))))))), ((cell_far (p := ⟨gb417, _, none⟩) NB385_417.out _).trans (((cell_far (p := ⟨gb417, _, none⟩) NB385_417.out _).trans (((cell_far (p := ⟨gb417, _, none⟩) NB385_417.out _).trans (((cell_far (p := ⟨gb417, _, none⟩) NB385_417.out _).trans (((cell_far (p := ⟨gb417, _, none⟩) NB385_417.out _).trans (hHeld.2.2.2.2.2.2.2.2.1)))))))))), ((cell_far (p := ⟨gb417, _, none⟩) NB386_417.out _).trans (((cell_far (p := ⟨gb417, _, none⟩) NB386_417.out _).trans (((cell_far (p := ⟨gb417, _, none⟩) NB386_417.out _).trans (((cell_far (p := ⟨gb417, _, none⟩) NB386_417.out _).trans (((cell_far (p := ⟨gb417, _, none⟩) NB386_417.out _).trans (hHeld.2.2.2.2.2.2.2.2.2.1)))))))))), ((cell_far (p := ⟨gb417, _, none⟩) NB386_417.out _).trans (((cell_far (p := ⟨gb417, _, none⟩) NB386_417.out _).trans (((cell_far (p := ⟨gb417, _, none⟩) NB386_417.out _).trans (((cell_far (p := ⟨gb417, _, none⟩) NB386_417.out _).trans (((cell_far (p := ⟨gb417, _, none⟩) NB386_417.out _).trans (hHeld.2.2.2.2.2.2.2.2.2.2.1)))))))))), ((cell_far (p := ⟨gb417, _, none⟩) NB386_417.out _).trans (((cell_far (p := ⟨gb417, _, none⟩) NB386_417.out _).trans (((cell_far (p := ⟨gb417, _, none⟩) NB386_417.out _).trans (((cell_far (p := ⟨gb417, _, none⟩) NB386_417.out _).trans (((cell_far (p := ⟨gb417, _, none⟩) NB386_417.out _).trans (hHeld.2.2.2.2.2.2.2.2.2.2.2.1)))))))))), ((cell_far (p := ⟨gb417, _, none⟩) NB386_417.out _).trans (((cell_far (p := ⟨gb417, _, none⟩) NB386_417.out _).trans (((cell_far (p := ⟨gb417, _, none⟩) NB386_417.out _).trans (((cell_far (p := ⟨gb417, _, none⟩) NB386_417.out _).trans (((cell_far (p := ⟨gb417, _, none⟩) NB386_417.out _).trans (hHeld.2.2.2.2.2.2.2.2.2.2.2.2.1)))))))))), ((cell_far (p := ⟨gb417, _, none⟩) NB386_417.out _).trans (((cell_far (p := ⟨gb417, _, none⟩) NB386_417.out _).trans (((cell_far (p := ⟨gb417, _, none⟩) NB386_417.out _).trans (((cell_far (p := ⟨gb417, _, none⟩) NB386_417.out _).trans (((cell_far (p := ⟨gb417, _, none⟩) NB386_417.out _).trans (hHeld.2.2.2.2.2.2.2.2.2.2.2.2.2.1)))))))))), ((cell_far (p := ⟨gb417, _, none⟩) NB386_417.out _).trans (((cell_far (p := ⟨gb417, _, none⟩) NB386_417.out _).trans (((cell_far (p := ⟨gb417, _, none⟩) NB386_417.out _).trans (((cell_far (p := ⟨gb417, _, none⟩) NB386_417.out _).trans (((cell_far (p := ⟨gb417, _, none⟩) NB386_417.out _).trans (hHeld.2.2.2.2.2.2.2.2.2.2.2.2.2.2.1)))))))))), ((cell_far (p := ⟨gb417, _, none⟩) NB386_417.out _).trans (((cell_far (p := ⟨gb417, _, none⟩) NB386_417.out _).trans (((cell_far (p := ⟨gb417, _, none⟩) NB386_417.out _).trans (((cell_far (p := ⟨gb417, _, none⟩) NB386_417.out _).trans (((cell_far (p := ⟨gb417, _, none⟩) NB386_417.out _).trans (hHeld.2.2.2.2.2.2.2.2.2.2.2.2.2.2.2.1)))))))))), ((cell_far (p := ⟨gb417, _, none⟩) NB386_417.out _).trans (((cell_far (p := ⟨gb417, _, none⟩) NB386_417.out _).trans (((cell_far (p := ⟨gb417, _, none⟩) NB386_417.out _).trans (((cell_far (p := ⟨gb417, _, none⟩) NB386_417.out _).trans (((cell_far (p := ⟨gb417, _, none⟩) NB386_417.out _).trans (hHeld.2.2.2.2.2.2.2.2.2.2.2.2.2.2.2.2.1)))))))))), ((cell_far (p := ⟨gb417, _, none⟩) NB386_417.out _).trans (((cell_far (p := ⟨gb417, _, none⟩) NB386_417.out _).trans (((cell_far (p := ⟨gb417, _, none⟩) NB386_417.out _).trans (((cell_far (p := ⟨gb417, _, none⟩) NB386_417.out _).trans (((cell_far (p := ⟨gb417, _, none⟩) NB386_417.out _).trans (hHeld.2.2.2.2.2.2.2.2.2.2.2.2.2.2.2.2.2))))))))))⟩ (fun hHeld => ?_)
     clear hK K
     refine pure_ (i := 24) (N := some 13) (v := ?_) (a' := ?_) #[true, true, true, true, true, true, true, true, true, true, true, true, true, true, true, true, true, true, true, true, true, true, true, true, true, false] rfl rfl (any_of HT_.out (by kernel_rfl)) (fun _ _ _ h => h) (Or.inl ⟨by rfl, ?_⟩) ?_ ?_
     rotate_left
     ·intro w'
      go_simp
      with_reducible rfl
     rotate_left
     ·simp only [Act.put, List.setIfInBounds_toArray, List.set_cons_zero, List.set_cons_succ, i64_w, i32_w]
      rfl
     refine pure_ (i := 25) (N := some 14) (v := ?_) (a' := ?_) #[true, true, true, true, true, true, true, true, true, true, true, true, true, true, true, true, true, true, true, true, true, true, true, true, true, true] rfl rfl (any_of HT_.out (by kernel_rfl)) (fun _ _ _ h => h) (Or.inl ⟨by rfl, ?_⟩) ?_ ?_
     rotate_left
     ·intro w'
      go_simp
      with_reducible rfl
     rotate_left
     ·simp only [Act.put, List.setIfInBounds_toArray, List.set_cons_zero, List.set_cons_succ, i64_w, i32_w]
      rfl
     refine done_ (done_of HT_.out (by kernel_rfl)) ?_
     go_upto_region 7 with (fail)
     go_cut [8] (fun v8 wc => ∃ (kq : Nat) (x8_33 : Bool), v8 = .bool x8_33 ∧ Aside0 (relievolaw03_SideMoved.j1 kq x8_33 = some r) ∧ Aside0 (kq ≤ kj7) ∧ Aside0 (wc.heap[gb396]? = some (.cells #[.int .i64 t389, .int .i64 t390, .bool t391, .int .i64 t392, .int .i64 t393] 30 (0, 0))) ∧ Aside0 (wc.heap[gb417]? = some (.cells #[.int .i64 t410, .int .i64 t411, .bool t412, .int .i64 t413, .int .i64 t414] 30 (0, 0))) ∧ Aside0 (Below w.heap.size w wc))
     case first =>
      have H := HC34.out
      clear HC34
      by_cases c48 : t416 = 0
      ·rw [if_pos c48] at H
       have c48b0 : (t416 == 0) = true := beq_iff_eq.mpr c48
       have c48b1 : (t416 != 0) = false := bne_eq_false_iff_eq.mpr c48
       clear c48
       (first | rw [c48b0] | (simp only [i64_w, i32_w]; rw [c48b0]) | skip)
       by_cases c49 : ((t389 == t410 && (t390 == t411)) && (t391 == t412 && (t392 == t413 && (t393 == t414)))) = true
       ·rw [if_pos c49] at H
        have c49b0 : ((t389 == t410 && (t390 == t411)) && (t391 == t412 && (t392 == t413 && (t393 == t414)))) = true := c49
        clear c49
        have H' := Aside0.mk H
        clear H
        obtain ⟨hcz50_0, hcz50_1, hcz50_2, hcz50_3, hcz50_4⟩ := cells5 BK396.out
        obtain ⟨hcz51_0, hcz51_1, hcz51_2, hcz51_3, hcz51_4⟩ := cells5 BK417.out
        go_wp2
        go_meet
        case rel => exact ⟨_, ((t394 == t415)), (by first | rfl | (simp; done) | (simp [*]; done)), H', ⟨by have := HJ7.out; first | omega | exact Nat.le_refl _⟩, ⟨(blk_far (blk_far (blk_far (blk_far (blk_far BK396.out NB396_417.out _) NB396_417.out _) NB396_417.out _) NB396_417.out _) NB396_417.out _)⟩, ⟨(blk_put (cs' := #[.int .i64 t410, .int .i64 t411, .bool t412, .int .i64 t413, .int .i64 t414]) (blk_put (cs' := #[.int .i64 t410, .int .i64 t411, .bool t412, .int .i64 t413, .int .i64 0]) (blk_put (cs' := #[.int .i64 t410, .int .i64 t411, .bool t412, .int .i64 0, .int .i64 0]) (blk_put (cs' := #[.int .i64 t410, .int .i64 t411, .bool false, .int .i64 0, .int .i64 0]) (blk_put (cs' := #[.int .i64 t410, .int .i64 0, .bool false, .int .i64 0, .int .i64 0]) BK417.out 0 _ rfl) 1 _ rfl) 2 _ rfl) 3 _ rfl) 4 _ rfl)⟩, ⟨(below_set (below_set (below_set (below_set (below_set HB.out GE417.out) GE417.out) GE417.out) GE417.out) GE417.out)⟩⟩
       ·rw [if_neg c49] at H
        have c49b0 : ((t389 == t410 && (t390 == t411)) && (t391 == t412 && (t392 == t413 && (t393 == t414)))) = false := by simpa using c49
        clear c49
        have H' := Aside0.mk H
        clear H
        obtain ⟨hcz52_0, hcz52_1, hcz52_2, hcz52_3, hcz52_4⟩ := cells5 BK396.out
        obtain ⟨hcz53_0, hcz53_1, hcz53_2, hcz53_3, hcz53_4⟩ := cells5 BK417.out
        go_wp2
        go_meet
        case rel => exact ⟨_, (false), (by first | rfl | (simp; done) | (simp [*]; done)), H', ⟨by have := HJ7.out; first | omega | exact Nat.le_refl _⟩, ⟨(blk_far (blk_far (blk_far (blk_far (blk_far BK396.out NB396_417.out _) NB396_417.out _) NB396_417.out _) NB396_417.out _) NB396_417.out _)⟩, ⟨(blk_put (cs' := #[.int .i64 t410, .int .i64 t411, .bool t412, .int .i64 t413, .int .i64 t414]) (blk_put (cs' := #[.int .i64 t410, .int .i64 t411, .bool t412, .int .i64 t413, .int .i64 0]) (blk_put (cs' := #[.int .i64 t410, .int .i64 t411, .bool t412, .int .i64 0, .int .i64 0]) (blk_put (cs' := #[.int .i64 t410, .int .i64 t411, .bool false, .int .i64 0, .int .i64 0]) (blk_put (cs' := #[.int .i64 t410, .int .i64 0, .bool false, .int .i64 0, .int .i64 0]) BK417.out 0 _ rfl) 1 _ rfl) 2 _ rfl) 3 _ rfl) 4 _ rfl)⟩, ⟨(below_set (below_set (below_set (below_set (below_set HB.out GE417.out) GE417.out) GE417.out) GE417.out) GE417.out)⟩⟩
      ·rw [if_neg c48] at H
       have c48b0 : (t416 == 0) = false := beq_eq_false_iff_ne.mpr c48
       have c48b1 : (t416 != 0) = true := bne_iff_ne.mpr c48
       (first | rw [c48b0] | (simp only [i64_w, i32_w]; rw [c48b0]) | skip)
       have H' := Aside0.mk H
       clear H
       go_wp2
       go_meet
       case rel => exact ⟨_, (true), (by first | rfl | (simp; done) | (simp [*]; done)), H', ⟨by have := HJ7.out; first | omega | exact Nat.le_refl _⟩, ⟨(blk_far (blk_far (blk_far (blk_far (blk_far BK396.out NB396_417.out _) NB396_417.out _) NB396_417.out _) NB396_417.out _) NB396_417.out _)⟩, ⟨(blk_put (cs' := #[.int .i64 t410, .int .i64 t411, .bool t412, .int .i64 t413, .int .i64 t414]) (blk_put (cs' := #[.int .i64 t410, .int .i64 t411, .bool t412, .int .i64 t413, .int .i64 0]) (blk_put (cs' := #[.int .i64 t410, .int .i64 t411, .bool t412, .int .i64 0, .int .i64 0]) (blk_put (cs' := #[.int .i64 t410, .int .i64 t411, .bool false, .int .i64 0, .int .i64 0]) (blk_put (cs' := #[.int .i64 t410, .int .i64 0, .bool false, .int .i64 0, .int .i64 0]) BK417.out 0 _ rfl) 1 _ rfl) 2 _ rfl) 3 _ rfl) 4 _ rfl)⟩, ⟨(below_set (below_set (below_set (below_set (below_set HB.out GE417.out) GE417.out) GE417.out) GE417.out) GE417.out)⟩⟩
     case rest =>
      clear HC34
      try clear c28
      obtain ⟨kq, x8_33, rfl, HA, HJ33, BK396, BK417, HB⟩ := hcut
      cases kq with
      | zero => exact absurd HA.out (by simp [relievolaw03_SideMoved.j1])
      | succ kj33 =>
       have H := HA.out
       clear HA
       simp only [relievolaw03_SideMoved.j1] at H
       obtain rfl := Option.some.inj H
       go_wp2
       go_ret
       exact ⟨by first | rfl | (simp [errW_none, errW_some] <;> rfl) | (simp [*, errW_none, errW_some] <;> rfl), HB.out⟩
 ·replace c6 := Bool.eq_false_iff.mpr c6
  subst c6
  have H1 : (some false) = some r := by rw [if_neg (show ¬ (false = true) by decide)] at H; exact H
  clear H
  have H := H1
  clear H1
  obtain rfl := Option.some.inj H
  go_enter Try.func7, Try.ntmps7
  go_wp2_with (first | ((with_reducible refine gate_dst (N := 4) rfl ?_); refine box_event ?hg (N := 4) ?hd (cs := #[.int .i64 a0_0, .int .i64 a0_1, .int .i64 a0_2]) (t := 23) ?hr ?_; (case hd => rfl); (case hg => rfl); (case hr => first | (go_simp; done) | (go_simp; rfl)); intro gb384 hg w54 hbox hb; have BK384 := Aside0.mk (hbox); have GE384 := Aside0.mk (bG hg (HB.out)); replace HB := Aside0.mk (below_step (HB.out) hb); clear hb hbox hg) | ((with_reducible refine gate_dst (N := 5) rfl ?_); refine box_event ?hg (N := 5) ?hd (cs := #[.int .i64 a1_0, .int .i64 a1_1, .int .i64 a1_2]) (t := 23) ?hr ?_; (case hd => rfl); (case hg => rfl); (case hr => first | (go_simp; done) | (go_simp; rfl)); intro gb385 hg w55 hbox hb; have BK385 := Aside0.mk (hbox); have GE385 := Aside0.mk (bG hg (HB.out)); have NB384_385 := Aside0.mk (bN hg (BK384.out)); have NB385_384 := Aside0.mk (bM hg (BK384.out)); replace BK384 := Aside0.mk (bB hb (BK384.out)); replace HB := Aside0.mk (below_step (HB.out) hb); clear hb hbox hg) | ((with_reducible refine gate_dst (N := 6) rfl ?_); refine box_event ?hg (N := 6) ?hd (cs := #[.int .i64 a2_0, .int .i64 a2_1, .int .i64 a2_2, .int .i64 a2_3, .int .i64 a2_4, .int .i64 a2_5, .int .i64 a2_6, .int .i64 a2_7, .int .i64 a2_8]) (t := 25) ?hr ?_; (case hd => rfl); (case hg => rfl); (case hr => first | (go_simp; done) | (go_simp; rfl)); intro gb386 hg w56 hbox hb; have BK386 := Aside0.mk (hbox); have GE386 := Aside0.mk (bG hg (HB.out)); have NB384_386 := Aside0.mk (bN hg (BK384.out)); have NB386_384 := Aside0.mk (bM hg (BK384.out)); have NB385_386 := Aside0.mk (bN hg (BK385.out)); have NB386_385 := Aside0.mk (bM hg (BK385.out)); replace BK384 := Aside0.mk (bB hb (BK384.out)); replace BK385 := Aside0.mk (bB hb (BK385.out)); replace HB := Aside0.mk (below_step (HB.out) hb); clear hb hbox hg) | ((with_reducible refine gate_dst (N := 7) rfl ?_); refine box_event ?hg (N := 7) ?hd (cs := #[.int .i64 a3_0, .int .i64 a3_1, .int .i64 a3_2]) (t := 23) ?hr ?_; (case hd => rfl); (case hg => rfl); (case hr => first | (go_simp; done) | (go_simp; rfl)); intro gb387 hg w57 hbox hb; have BK387 := Aside0.mk (hbox); have GE387 := Aside0.mk (bG hg (HB.out)); have NB384_387 := Aside0.mk (bN hg (BK384.out)); have NB387_384 := Aside0.mk (bM hg (BK384.out)); have NB385_387 := Aside0.mk (bN hg (BK385.out)); have NB387_385 := Aside0.mk (bM hg (BK385.out)); have NB386_387 := Aside0.mk (bN hg (BK386.out)); have NB387_386 := Aside0.mk (bM hg (BK386.out)); replace BK384 := Aside0.mk (bB hb (BK384.out)); replace BK385 := Aside0.mk (bB hb (BK385.out)); replace BK386 := Aside0.mk (bB hb (BK386.out)); replace HB := Aside0.mk (below_step (HB.out) hb); clear hb hbox hg) | ((with_reducible refine gate_callee (f := 19) rfl ?_); refine goesL_ (some 15) rfl rfl Try.func19 (by kernel_rfl) rfl #[] rfl (by (try simp only [List.map_toArray, List.map_cons, List.map_nil]); first | done | rfl | (simp only [List.length_drop, List.length_take]; rfl)) ?_; (with_reducible refine (relievolaw03_alive.calls k  false _ A5.out).mono ?_); rintro e w58 ⟨rfl, hb⟩; refine ⟨_, rfl, ?_⟩; replace BK384 := Aside0.mk (bB hb (BK384.out)); replace BK385 := Aside0.mk (bB hb (BK385.out)); replace BK386 := Aside0.mk (bB hb (BK386.out)); replace BK387 := Aside0.mk (bB hb (BK387.out)); replace HB := Aside0.mk (below_step (HB.out) hb); (try clear hb); (try clear hb2); (try clear hk); (try clear hi)))
  go_ret
  exact ⟨by first | rfl | (simp [errW_none, errW_some] <;> rfl) | (simp [*, errW_none, errW_some] <;> rfl), HB.out⟩

end Go.Proofs.Ytihklolcnfbbjaa.G
