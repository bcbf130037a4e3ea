-- Written by a program of this session (wip/gen), out of the translation; Lean checks it.
import Derived.Test.YtfmbophennepdaaGx0
import Derived.Test.YtfmbophennepdaaGxEq
import Derived.Test.YtfmbophennepdaaGx7
import Derived.Test.YtfmbophennepdaaGx15
import Derived.Test.YtfmbophennepdaaGx16
import Derived.Test.YtfmbophennepdaaGx17
import Derived.Test.YtfmbophennepdaaGx25
import Derived.Test.YtfmbophennepdaaGx26
import Derived.Test.YtfmbophennepdaaGx27
import Derived.Test.YtfmbophennepdaaGx41
import Derived.Test.YtfmbophennepdaaGx56
namespace Go.Proofs.Ytfmbophennepdaa.G
open Go.RowKit Go.Proofs.YtfmbophennepdaaW.PrintWords Go.Proofs.YtfmbophennepdaaW.PrintLast Go.Proofs.YtfmbophennepdaaW.PrintMore
attribute [local go_sem high] idx43_0 idx43_1 idx43_2 wl0 wl1 wl2 wl3 wl4 wl5 tm0_3 tm1_3 tm2_3 tm3_3 tm4_3 tm5_3
attribute [local go_sem] max2_int min2_int max_two min_two max_three min_three max_four min_four   -- for this text's walks alone
set_option linter.unusedVariables false
set_option linter.unusedSimpArgs false

attribute [local go_sem high] eqA23 eqA33
/-! ### relievolaw03_SideMeets: function 3 -/
def relievolaw03_SideMeets.f (k : Nat) (a0_0 : Int) (a0_1 : Int) (a0_2 : Int) (a1_0 : Int) (a1_1 : Int) (a1_2 : Int) (a2_0 : Int) (a2_1 : Int) (a2_2 : Int) (a2_3 : Int) (a2_4 : Int) (a2_5 : Int) (a2_6 : Int) (a2_7 : Int) (a2_8 : Int) (a3_0 : Int) (a3_1 : Int) : Option (Bool) := (relievolaw03_alive.f k).bind fun t363 => (if t363 = true then ((side_Side.f k a0_0 a0_1 a0_2 a1_0 a1_1 a1_2 a2_0 a2_1 a2_2 a2_3 a2_4 a2_5).bind fun bt364 => ((relievoref03_Side.f k a0_0 a0_1 a0_2 a1_0 a1_1 a1_2 a2_0 a2_1 a2_2 a2_3 a2_4 a2_5).bind fun bt366 => ((side_Meet.f k a0_0 a0_1 a0_2 a1_0 a1_1 a1_2 a2_0 a2_1 a2_2 a2_3 a2_4 a2_5 a2_6 a2_7 a2_8).bind fun bt368 => ((relievoref03_Meet.f k a0_0 a0_1 a0_2 a1_0 a1_1 a1_2 a2_0 a2_1 a2_2 a2_3 a2_4 a2_5 a2_6 a2_7 a2_8).bind fun bt376 => ((side_At.f k a0_0 a0_1 a0_2 a1_0 a1_1 a1_2 a3_0 a3_1).bind fun bt384 => ((relievoref03_At.f k a0_0 a0_1 a0_2 a1_0 a1_1 a1_2 a3_0 a3_1).bind fun bt389 => (if bt364.1 = bt366.1 then (if bt364.2 = bt366.2 then (if ((bt368.1 == bt376.1 && (bt368.2.1 == bt376.2.1)) && (bt368.2.2.1 == bt376.2.2.1 && (bt368.2.2.2.1 == bt376.2.2.2.1 && (bt368.2.2.2.2.1 == bt376.2.2.2.2.1)))) = true then (if (bt368.2.2.2.2.2.1 == bt376.2.2.2.2.2.1) = true then (if bt368.2.2.2.2.2.2 = bt376.2.2.2.2.2.2 then (if (bt384.1 == bt389.1 && (bt384.2.1 == bt389.2.1 && (bt384.2.2.1 == bt389.2.2.1))) = true then (if (bt384.2.2.2 == bt389.2.2.2) = true then ((side_Normal.f a2_0 a2_1 a2_2 a2_3 a2_4 a2_5 a2_6 a2_7 a2_8).bind fun bt394 => ((relievoref03_Normal.f a2_0 a2_1 a2_2 a2_3 a2_4 a2_5 a2_6 a2_7 a2_8).bind fun bt397 => (some (bt394.1 == bt397.1 && (bt394.2.1 == bt397.2.1 && (bt394.2.2 == bt397.2.2)))))) else (some false)) else (some false)) else (some false)) else (some false)) else (some false)) else (some false)) else (some false)))))))) else (some false))
def relievolaw03_SideMeets.T9 : Bool × List (List Nat × List Nat) := (true, [([], []), ([], []), ([0, 1], [0, 1]), ([2], [2]), ([3], [3]), ([3], [3]), ([4, 5, 3], [3, 4, 5]), ([3, 6], [3, 6]), ([7, 3], [7]), ([8], [8]), ([8], [8]), ([9, 10, 8], [8, 9, 10]), ([8, 11], [8, 11]), ([12, 8], [12]), ([13], [13]), ([13], [13]), ([14, 15, 13], [13, 14, 15]), ([13, 16], [13, 16]), ([17, 13], [17]), ([18], [18]), ([18], [18]), ([19, 20, 18], [18, 19, 20]), ([18, 21], [18, 21]), ([22, 18], [22]), ([23], [23]), ([23], [23]), ([24, 25, 23], [23, 24, 25]), ([23, 26], [23, 26]), ([27, 23], [27]), ([28], [28]), ([28], [28]), ([29, 30, 28], [28, 29, 30]), ([28, 31], [28, 31]), ([32, 28], [32]), ([33], [33]), ([34, 33, 33], [33, 34]), ([33], [33]), ([36, 35, 33], [33, 36]), ([35, 37, 33], [33, 35, 37]), ([33, 38], [33, 38]), ([39, 37, 0, 1, 2, 3, 4, 5, 6, 7, 8, 9, 10, 11, 12, 13, 14, 15, 16, 17, 18, 19, 20, 21, 22, 23, 24, 25, 26, 27, 28, 29, 30, 31, 32, 33, 34, 35, 36, 37, 38, 39], [39])])
def relievolaw03_SideMeets.B9 : List Nat := [0, 0, 3, 7, 15, 15, 63, 127, 255, 511, 511, 2047, 4095, 8191, 16383, 16383, 65535, 131071, 262143, 524287, 524287, 2097151, 4194303, 8388607, 16777215, 16777215, 67108863, 134217727, 268435455, 536870911, 536870911, 2147483647, 4294967295, 8589934591, 17179869183, 34359738367, 17179869183, 137438953471, 274877906943, 549755813887, 1099511627775]
theorem relievolaw03_SideMeets.tab9 : rtab .any (opsOf Try.f3 9) = relievolaw03_SideMeets.T9 := by kernel_rfl
theorem relievolaw03_SideMeets.bits9 : waitsOk relievolaw03_SideMeets.T9.2 relievolaw03_SideMeets.B9 = true := by kernel_rfl
set_option maxHeartbeats 8000000 in
set_option maxRecDepth 100000 in
theorem relievolaw03_SideMeets.calls (k : Nat) (a0_0 : Int) (a0_1 : Int) (a0_2 : Int) (a1_0 : Int) (a1_1 : Int) (a1_2 : Int) (a2_0 : Int) (a2_1 : Int) (a2_2 : Int) (a2_3 : Int) (a2_4 : Int) (a2_5 : Int) (a2_6 : Int) (a2_7 : Int) (a2_8 : Int) (a3_0 : Int) (a3_1 : Int) (r : Bool) (hrt : r = true) (w : World) (h : relievolaw03_SideMeets.f k a0_0 a0_1 a0_2 a1_0 a1_1 a1_2 a2_0 a2_1 a2_2 a2_3 a2_4 a2_5 a2_6 a2_7 a2_8 a3_0 a3_1 = some r) :
    Calls Try.prog 3 #[.agg #[.int .i64 a0_0, .int .i64 a0_1, .int .i64 a0_2], .agg #[.int .i64 a1_0, .int .i64 a1_1, .int .i64 a1_2], .agg #[.int .i64 a2_0, .int .i64 a2_1, .int .i64 a2_2, .int .i64 a2_3, .int .i64 a2_4, .int .i64 a2_5, .int .i64 a2_6, .int .i64 a2_7, .int .i64 a2_8], .agg #[.int .i64 a3_0, .int .i64 a3_1]] w fun e w' => e = .returned (.bool r) ∧ Below w.heap.size w w' := by
 have hu23 := Try.underlying23
 have hu25 := Try.underlying25
 have hu27 := Try.underlying27
 have hu33 := Try.underlying33
 have HB := Aside0.mk (Below.refl w.heap.size w)
 have H : ((relievolaw03_alive.f k).bind fun t363 => (if t363 = true then ((side_Side.f k a0_0 a0_1 a0_2 a1_0 a1_1 a1_2 a2_0 a2_1 a2_2 a2_3 a2_4 a2_5).bind fun bt364 => ((relievoref03_Side.f k a0_0 a0_1 a0_2 a1_0 a1_1 a1_2 a2_0 a2_1 a2_2 a2_3 a2_4 a2_5).bind fun bt366 => ((side_Meet.f k a0_0 a0_1 a0_2 a1_0 a1_1 a1_2 a2_0 a2_1 a2_2 a2_3 a2_4 a2_5 a2_6 a2_7 a2_8).bind fun bt368 => ((relievoref03_Meet.f k a0_0 a0_1 a0_2 a1_0 a1_1 a1_2 a2_0 a2_1 a2_2 a2_3 a2_4 a2_5 a2_6 a2_7 a2_8).bind fun bt376 => ((side_At.f k a0_0 a0_1 a0_2 a1_0 a1_1 a1_2 a3_0 a3_1).bind fun bt384 => ((relievoref03_At.f k a0_0 a0_1 a0_2 a1_0 a1_1 a1_2 a3_0 a3_1).bind fun bt389 => (if bt364.1 = bt366.1 then (if bt364.2 = bt366.2 then (if ((bt368.1 == bt376.1 && (bt368.2.1 == bt376.2.1)) && (bt368.2.2.1 == bt376.2.2.1 && (bt368.2.2.2.1 == bt376.2.2.2.1 && (bt368.2.2.2.2.1 == bt376.2.2.2.2.1)))) = true then (if (bt368.2.2.2.2.2.1 == bt376.2.2.2.2.2.1) = true then (if bt368.2.2.2.2.2.2 = bt376.2.2.2.2.2.2 then (if (bt384.1 == bt389.1 && (bt384.2.1 == bt389.2.1 && (bt384.2.2.1 == bt389.2.2.1))) = true then (if (bt384.2.2.2 == bt389.2.2.2) = true then ((side_Normal.f a2_0 a2_1 a2_2 a2_3 a2_4 a2_5 a2_6 a2_7 a2_8).bind fun bt394 => ((relievoref03_Normal.f a2_0 a2_1 a2_2 a2_3 a2_4 a2_5 a2_6 a2_7 a2_8).bind fun bt397 => (some (bt394.1 == bt397.1 && (bt394.2.1 == bt397.2.1 && (bt394.2.2 == bt397.2.2)))))) else (some false)) else (some false)) else (some false)) else (some false)) else (some false)) else (some false)) else (some false)))))))) else (some false))) = some r := h
 clear h
 replace H := Option.bind_eq_some_iff.mp H
 obtain ⟨t363, A50, H⟩ := H
 replace H : (if t363 = true then ((side_Side.f k a0_0 a0_1 a0_2 a1_0 a1_1 a1_2 a2_0 a2_1 a2_2 a2_3 a2_4 a2_5).bind fun bt364 => ((relievoref03_Side.f k a0_0 a0_1 a0_2 a1_0 a1_1 a1_2 a2_0 a2_1 a2_2 a2_3 a2_4 a2_5).bind fun bt366 => ((side_Meet.f k a0_0 a0_1 a0_2 a1_0 a1_1 a1_2 a2_0 a2_1 a2_2 a2_3 a2_4 a2_5 a2_6 a2_7 a2_8).bind fun bt368 => ((relievoref03_Meet.f k a0_0 a0_1 a0_2 a1_0 a1_1 a1_2 a2_0 a2_1 a2_2 a2_3 a2_4 a2_5 a2_6 a2_7 a2_8).bind fun bt376 => ((side_At.f k a0_0 a0_1 a0_2 a1_0 a1_1 a1_2 a3_0 a3_1).bind fun bt384 => ((relievoref03_At.f k a0_0 a0_1 a0_2 a1_0 a1_1 a1_2 a3_0 a3_1).bind fun bt389 => (if bt364.1 = bt366.1 then (if bt364.2 = bt366.2 then (if ((bt368.1 == bt376.1 && (bt368.2.1 == bt376.2.1)) && (bt368.2.2.1 == bt376.2.2.1 && (bt368.2.2.2.1 == bt376.2.2.2.1 && (bt368.2.2.2.2.1 == bt376.2.2.2.2.1)))) = true then (if (bt368.2.2.2.2.2.1 == bt376.2.2.2.2.2.1) = true then (if bt368.2.2.2.2.2.2 = bt376.2.2.2.2.2.2 then (if (bt384.1 == bt389.1 && (bt384.2.1 == bt389.2.1 && (bt384.2.2.1 == bt389.2.2.1))) = true then (if (bt384.2.2.2 == bt389.2.2.2) = true then ((side_Normal.f a2_0 a2_1 a2_2 a2_3 a2_4 a2_5 a2_6 a2_7 a2_8).bind fun bt394 => ((relievoref03_Normal.f a2_0 a2_1 a2_2 a2_3 a2_4 a2_5 a2_6 a2_7 a2_8).bind fun bt397 => (some (bt394.1 == bt397.1 && (bt394.2.1 == bt397.2.1 && (bt394.2.2 == bt397.2.2)))))) else (some false)) else (some false)) else (some false)) else (some false)) else (some false)) else (some false)) else (some false)))))))) else (some false)) = some r := H
 have A5 := Aside0.mk A50
 clear A50
 by_cases c6 : t363 = true
 ·subst c6
  have H1 : ((side_Side.f k a0_0 a0_1 a0_2 a1_0 a1_1 a1_2 a2_0 a2_1 a2_2 a2_3 a2_4 a2_5).bind fun bt364 => ((relievoref03_Side.f k a0_0 a0_1 a0_2 a1_0 a1_1 a1_2 a2_0 a2_1 a2_2 a2_3 a2_4 a2_5).bind fun bt366 => ((side_Meet.f k a0_0 a0_1 a0_2 a1_0 a1_1 a1_2 a2_0 a2_1 a2_2 a2_3 a2_4 a2_5 a2_6 a2_7 a2_8).bind fun bt368 => ((relievoref03_Meet.f k a0_0 a0_1 a0_2 a1_0 a1_1 a1_2 a2_0 a2_1 a2_2 a2_3 a2_4 a2_5 a2_6 a2_7 a2_8).bind fun bt376 => ((side_At.f k a0_0 a0_1 a0_2 a1_0 a1_1 a1_2 a3_0 a3_1).bind fun bt384 => ((relievoref03_At.f k a0_0 a0_1 a0_2 a1_0 a1_1 a1_2 a3_0 a3_1).bind fun bt389 => (if bt364.1 = bt366.1 then (if bt364.2 = bt366.2 then (if ((bt368.1 == bt376.1 && (bt368.2.1 == bt376.2.1)) && (bt368.2.2.1 == bt376.2.2.1 && (bt368.2.2.2.1 == bt376.2.2.2.1 && (bt368.2.2.2.2.1 == bt376.2.2.2.2.1)))) = true then (if (bt368.2.2.2.2.2.1 == bt376.2.2.2.2.2.1) = true then (if bt368.2.2.2.2.2.2 = bt376.2.2.2.2.2.2 then (if (bt384.1 == bt389.1 && (bt384.2.1 == bt389.2.1 && (bt384.2.2.1 == bt389.2.2.1))) = true then (if (bt384.2.2.2 == bt389.2.2.2) = true then ((side_Normal.f a2_0 a2_1 a2_2 a2_3 a2_4 a2_5 a2_6 a2_7 a2_8).bind fun bt394 => ((relievoref03_Normal.f a2_0 a2_1 a2_2 a2_3 a2_4 a2_5 a2_6 a2_7 a2_8).bind fun bt397 => (some (bt394.1 == bt397.1 && (bt394.2.1 == bt397.2.1 && (bt394.2.2 == bt397.2.2)))))) else (some false)) else (some false)) else (some false)) else (some false)) else (some false)) else (some false)) else (some false)))))))) = some r := by rw [if_pos rfl] at H; exact H
  clear H
  have H := H1
  clear H1
  replace H := Option.bind_eq_some_iff.mp H
  obtain ⟨⟨t364, t365⟩, A70, H⟩ := H
  replace H : ((relievoref03_Side.f k a0_0 a0_1 a0_2 a1_0 a1_1 a1_2 a2_0 a2_1 a2_2 a2_3 a2_4 a2_5).bind fun bt366 => ((side_Meet.f k a0_0 a0_1 a0_2 a1_0 a1_1 a1_2 a2_0 a2_1 a2_2 a2_3 a2_4 a2_5 a2_6 a2_7 a2_8).bind fun bt368 => ((relievoref03_Meet.f k a0_0 a0_1 a0_2 a1_0 a1_1 a1_2 a2_0 a2_1 a2_2 a2_3 a2_4 a2_5 a2_6 a2_7 a2_8).bind fun bt376 => ((side_At.f k a0_0 a0_1 a0_2 a1_0 a1_1 a1_2 a3_0 a3_1).bind fun bt384 => ((relievoref03_At.f k a0_0 a0_1 a0_2 a1_0 a1_1 a1_2 a3_0 a3_1).bind fun bt389 => (if t364 = bt366.1 then (if t365 = bt366.2 then (if ((bt368.1 == bt376.1 && (bt368.2.1 == bt376.2.1)) && (bt368.2.2.1 == bt376.2.2.1 && (bt368.2.2.2.1 == bt376.2.2.2.1 && (bt368.2.2.2.2.1 == bt376.2.2.2.2.1)))) = true then (if (bt368.2.2.2.2.2.1 == bt376.2.2.2.2.2.1) = true then (if bt368.2.2.2.2.2.2 = bt376.2.2.2.2.2.2 then (if (bt384.1 == bt389.1 && (bt384.2.1 == bt389.2.1 && (bt384.2.2.1 == bt389.2.2.1))) = true then (if (bt384.2.2.2 == bt389.2.2.2) = true then ((side_Normal.f a2_0 a2_1 a2_2 a2_3 a2_4 a2_5 a2_6 a2_7 a2_8).bind fun bt394 => ((relievoref03_Normal.f a2_0 a2_1 a2_2 a2_3 a2_4 a2_5 a2_6 a2_7 a2_8).bind fun bt397 => (some (bt394.1 == bt397.1 && (bt394.2.1 == bt397.2.1 && (bt394.2.2 == bt397.2.2)))))) else (some false)) else (some false)) else (some false)) else (some false)) else (some false)) else (some false)) else (some false))))))) = some r := H
  have A7 := Aside0.mk A70
  clear A70
  replace H := Option.bind_eq_some_iff.mp H
  obtain ⟨⟨t366, t367⟩, A80, H⟩ := H
  replace H : ((side_Meet.f k a0_0 a0_1 a0_2 a1_0 a1_1 a1_2 a2_0 a2_1 a2_2 a2_3 a2_4 a2_5 a2_6 a2_7 a2_8).bind fun bt368 => ((relievoref03_Meet.f k a0_0 a0_1 a0_2 a1_0 a1_1 a1_2 a2_0 a2_1 a2_2 a2_3 a2_4 a2_5 a2_6 a2_7 a2_8).bind fun bt376 => ((side_At.f k a0_0 a0_1 a0_2 a1_0 a1_1 a1_2 a3_0 a3_1).bind fun bt384 => ((relievoref03_At.f k a0_0 a0_1 a0_2 a1_0 a1_1 a1_2 a3_0 a3_1).bind fun bt389 => (if t364 = t366 then (if t365 = t367 then (if ((bt368.1 == bt376.1 && (bt368.2.1 == bt376.2.1)) && (bt368.2.2.1 == bt376.2.2.1 && (bt368.2.2.2.1 == bt376.2.2.2.1 && (bt368.2.2.2.2.1 == bt376.2.2.2.2.1)))) = true then (if (bt368.2.2.2.2.2.1 == bt376.2.2.2.2.2.1) = true then (if bt368.2.2.2.2.2.2 = bt376.2.2.2.2.2.2 then (if (bt384.1 == bt389.1 && (bt384.2.1 == bt389.2.1 && (bt384.2.2.1 == bt389.2.2.1))) = true then (if (bt384.2.2.2 == bt389.2.2.2) = true then ((side_Normal.f a2_0 a2_1 a2_2 a2_3 a2_4 a2_5 a2_6 a2_7 a2_8).bind fun bt394 => ((relievoref03_Normal.f a2_0 a2_1 a2_2 a2_3 a2_4 a2_5 a2_6 a2_7 a2_8).bind fun bt397 => (some (bt394.1 == bt397.1 && (bt394.2.1 == bt397.2.1 && (bt394.2.2 == bt397.2.2)))))) else (some false)) else (some false)) else (some false)) else (some false)) else (some false)) else (some false)) else (some false)))))) = some r := H
  have A8 := Aside0.mk A80
  clear A80
  replace H := Option.bind_eq_some_iff.mp H
  obtain ⟨⟨t368, t369, t370, t371, t372, t373, t374⟩, A90, H⟩ := H
  replace H : ((relievoref03_Meet.f k a0_0 a0_1 a0_2 a1_0 a1_1 a1_2 a2_0 a2_1 a2_2 a2_3 a2_4 a2_5 a2_6 a2_7 a2_8).bind fun bt376 => ((side_At.f k a0_0 a0_1 a0_2 a1_0 a1_1 a1_2 a3_0 a3_1).bind fun bt384 => ((relievoref03_At.f k a0_0 a0_1 a0_2 a1_0 a1_1 a1_2 a3_0 a3_1).bind fun bt389 => (if t364 = t366 then (if t365 = t367 then (if ((t368 == bt376.1 && (t369 == bt376.2.1)) && (t370 == bt376.2.2.1 && (t371 == bt376.2.2.2.1 && (t372 == bt376.2.2.2.2.1)))) = true then (if (t373 == bt376.2.2.2.2.2.1) = true then (if t374 = bt376.2.2.2.2.2.2 then (if (bt384.1 == bt389.1 && (bt384.2.1 == bt389.2.1 && (bt384.2.2.1 == bt389.2.2.1))) = true then (if (bt384.2.2.2 == bt389.2.2.2) = true then ((side_Normal.f a2_0 a2_1 a2_2 a2_3 a2_4 a2_5 a2_6 a2_7 a2_8).bind fun bt394 => ((relievoref03_Normal.f a2_0 a2_1 a2_2 a2_3 a2_4 a2_5 a2_6 a2_7 a2_8).bind fun bt397 => (some (bt394.1 == bt397.1 && (bt394.2.1 == bt397.2.1 && (bt394.2.2 == bt397.2.2)))))) else (some false)) else (some false)) else (some false)) else (some false)) else (some false)) else (some false)) else (some false))))) = some r := H
  have A9 := Aside0.mk A90
  clear A90
  replace H := Option.bind_eq_some_iff.mp H
  obtain ⟨⟨t376, t377, t378, t379, t380, t381, t382⟩, A100, H⟩ := H
  replace H : ((side_At.f k a0_0 a0_1 a0_2 a1_0 a1_1 a1_2 a3_0 a3_1).bind fun bt384 => ((relievoref03_At.f k a0_0 a0_1 a0_2 a1_0 a1_1 a1_2 a3_0 a3_1).bind fun bt389 => (if t364 = t366 then (if t365 = t367 then (if ((t368 == t376 && (t369 == t377)) && (t370 == t378 && (t371 == t379 && (t372 == t380)))) = true then (if (t373 == t381) = true then (if t374 = t382 then (if (bt384.1 == bt389.1 && (bt384.2.1 == bt389.2.1 && (bt384.2.2.1 == bt389.2.2.1))) = true then (if (bt384.2.2.2 == bt389.2.2.2) = true then ((side_Normal.f a2_0 a2_1 a2_2 a2_3 a2_4 a2_5 a2_6 a2_7 a2_8).bind fun bt394 => ((relievoref03_Normal.f a2_0 a2_1 a2_2 a2_3 a2_4 a2_5 a2_6 a2_7 a2_8).bind fun bt397 => (some (bt394.1 == bt397.1 && (bt394.2.1 == bt397.2.1 && (bt394.2.2 == bt397.2.2)))))) else (some false)) else (some false)) else (some false)) else (some false)) else (some false)) else (some false)) else (some false)))) = some r := H
  have A10 := Aside0.mk A100
  clear A100
  replace H := Option.bind_eq_some_iff.mp H
  obtain ⟨⟨t384, t385, t386, t387⟩, A110, H⟩ := H
  replace H : ((relievoref03_At.f k a0_0 a0_1 a0_2 a1_0 a1_1 a1_2 a3_0 a3_1).bind fun bt389 => (if t364 = t366 then (if t365 = t367 then (if ((t368 == t376 && (t369 == t377)) && (t370 == t378 && (t371 == t379 && (t372 == t380)))) = true then (if (t373 == t381) = true then (if t374 = t382 then (if (t384 == bt389.1 && (t385 == bt389.2.1 && (t386 == bt389.2.2.1))) = true then (if (t387 == bt389.2.2.2) = true then ((side_Normal.f a2_0 a2_1 a2_2 a2_3 a2_4 a2_5 a2_6 a2_7 a2_8).bind fun bt394 => ((relievoref03_Normal.f a2_0 a2_1 a2_2 a2_3 a2_4 a2_5 a2_6 a2_7 a2_8).bind fun bt397 => (some (bt394.1 == bt397.1 && (bt394.2.1 == bt397.2.1 && (bt394.2.2 == bt397.2.2)))))) else (some false)) else (some false)) else (some false)) else (some false)) else (some false)) else (some false)) else (some false))) = some r := H
  have A11 := Aside0.mk A110
  clear A110
  replace H := Option.bind_eq_some_iff.mp H
  obtain ⟨⟨t389, t390, t391, t392⟩, A120, H⟩ := H
  replace H : (if t364 = t366 then (if t365 = t367 then (if ((t368 == t376 && (t369 == t377)) && (t370 == t378 && (t371 == t379 && (t372 == t380)))) = true then (if (t373 == t381) = true then (if t374 = t382 then (if (t384 == t389 && (t385 == t390 && (t386 == t391))) = true then (if (t387 == t392) = true then ((side_Normal.f a2_0 a2_1 a2_2 a2_3 a2_4 a2_5 a2_6 a2_7 a2_8).bind fun bt394 => ((relievoref03_Normal.f a2_0 a2_1 a2_2 a2_3 a2_4 a2_5 a2_6 a2_7 a2_8).bind fun bt397 => (some (bt394.1 == bt397.1 && (bt394.2.1 == bt397.2.1 && (bt394.2.2 == bt397.2.2)))))) else (some false)) else (some false)) else (some false)) else (some false)) else (some false)) else (some false)) else (some false)) = some r := H
  have A12 := Aside0.mk A120
  clear A120
  by_cases c13 : t364 = t366
  ·rw [if_pos c13] at H
   have c13b0 : (t364 == t366) = true := beq_iff_eq.mpr c13
   have c13b1 : (t364 != t366) = false := bne_eq_false_iff_eq.mpr c13
   clear c13
   by_cases c14 : t365 = t367
   ·rw [if_pos c14] at H
    have c14b0 : (t365 == t367) = true := beq_iff_eq.mpr c14
    have c14b1 : (t365 != t367) = false := bne_eq_false_iff_eq.mpr c14
    clear c14
    by_cases c15 : ((t368 == t376 && (t369 == t377)) && (t370 == t378 && (t371 == t379 && (t372 == t380)))) = true
    ·rw [if_pos c15] at H
     have c15b0 : ((t368 == t376 && (t369 == t377)) && (t370 == t378 && (t371 == t379 && (t372 == t380)))) = true := c15
     clear c15
     by_cases c16 : (t373 == t381) = true
     ·rw [if_pos c16] at H
      have c16b0 : (t373 == t381) = true := c16
      (try (have c16b1 : decide (t373 = t381) = true := by simpa using c16))
      (try (have c16b2 : (t373 == t381) = true := by simpa using c16))
      clear c16
      by_cases c17 : t374 = t382
      ·rw [if_pos c17] at H
       have c17b0 : (t374 == t382) = true := beq_iff_eq.mpr c17
       have c17b1 : (t374 != t382) = false := bne_eq_false_iff_eq.mpr c17
       clear c17
       by_cases c18 : (t384 == t389 && (t385 == t390 && (t386 == t391))) = true
       ·rw [if_pos c18] at H
        have c18b0 : (t384 == t389 && (t385 == t390 && (t386 == t391))) = true := c18
        (try (have c18b1 : decide (t384 = t389 && (t385 == t390 && (t386 == t391))) = true := by simpa using c18))
        (try (have c18b2 : (t384 == t389 && (t385 == t390 && (t386 == t391))) = true := by simpa using c18))
        clear c18
        by_cases c19 : (t387 == t392) = true
        ·rw [if_pos c19] at H
         have c19b0 : (t387 == t392) = true := c19
         (try (have c19b1 : decide (t387 = t392) = true := by simpa using c19))
         (try (have c19b2 : (t387 == t392) = true := by simpa using c19))
         clear c19
         replace H := Option.bind_eq_some_iff.mp H
         obtain ⟨⟨t394, t395, t396⟩, A200, H⟩ := H
         replace H : ((relievoref03_Normal.f a2_0 a2_1 a2_2 a2_3 a2_4 a2_5 a2_6 a2_7 a2_8).bind fun bt397 => (some (t394 == bt397.1 && (t395 == bt397.2.1 && (t396 == bt397.2.2))))) = some r := H
         have A20 := Aside0.mk A200
         clear A200
         replace H := Option.bind_eq_some_iff.mp H
         obtain ⟨⟨t397, t398, t399⟩, A210, H⟩ := H
         replace H : (some (t394 == t397 && (t395 == t398 && (t396 == t399)))) = some r := H
         have A21 := Aside0.mk A210
         clear A210
         clear hrt
         obtain rfl := Option.some.inj H
         go_enter Try.func3, Try.ntmps3
         try go_wp2_with (first | ((with_reducible refine gate_dst (N := 4) rfl ?_); refine box_event ?hg (N := 4) ?hd (cs := #[.int .i64 a0_0, .int .i64 a0_1, .int .i64 a0_2]) (t := 23) ?hr ?_; (case hd => rfl); (case hg => rfl); (case hr => first | (go_simp; done) | (go_simp; rfl)); intro gb359 hg w22 hbox hb; have BK359 := Aside0.mk (hbox); have GE359 := Aside0.mk (bG hg (HB.out)); replace HB := Aside0.mk (below_step (HB.out) hb); clear hb hbox hg) | ((with_reducible refine gate_dst (N := 5) rfl ?_); refine box_event ?hg (N := 5) ?hd (cs := #[.int .i64 a1_0, .int .i64 a1_1, .int .i64 a1_2]) (t := 23) ?hr ?_; (case hd => rfl); (case hg => rfl); (case hr => first | (go_simp; done) | (go_simp; rfl)); intro gb360 hg w23 hbox hb; have BK360 := Aside0.mk (hbox); have GE360 := Aside0.mk (bG hg (HB.out)); have NB359_360 := cN hg BK359; have NB360_359 := cM hg BK359; replace BK359 := cB hb BK359; replace HB := Aside0.mk (below_step (HB.out) hb); clear hb hbox hg) | ((with_reducible refine gate_dst (N := 6) rfl ?_); refine box_event ?hg (N := 6) ?hd (cs := #[.int .i64 a2_0, .int .i64 a2_1, .int .i64 a2_2, .int .i64 a2_3, .int .i64 a2_4, .int .i64 a2_5, .int .i64 a2_6, .int .i64 a2_7, .int .i64 a2_8]) (t := 25) ?hr ?_; (case hd => rfl); (case hg => rfl); (case hr => first | (go_simp; done) | (go_simp; rfl)); intro gb361 hg w24 hbox hb; have BK361 := Aside0.mk (hbox); have GE361 := Aside0.mk (bG hg (HB.out)); have NB359_361 := cN hg BK359; have NB361_359 := cM hg BK359; have NB360_361 := cN hg BK360; have NB361_360 := cM hg BK360; replace BK359 := cB hb BK359; replace BK360 := cB hb BK360; replace HB := Aside0.mk (below_step (HB.out) hb); clear hb hbox hg) | ((with_reducible refine gate_dst (N := 7) rfl ?_); refine box_event ?hg (N := 7) ?hd (cs := #[.int .i64 a3_0, .int .i64 a3_1]) (t := 27) ?hr ?_; (case hd => rfl); (case hg => rfl); (case hr => first | (go_simp; done) | (go_simp; rfl)); intro gb362 hg w25 hbox hb; have BK362 := Aside0.mk (hbox); have GE362 := Aside0.mk (bG hg (HB.out)); have NB359_362 := cN hg BK359; have NB362_359 := cM hg BK359; have NB360_362 := cN hg BK360; have NB362_360 := cM hg BK360; have NB361_362 := cN hg BK361; have NB362_361 := cM hg BK361; replace BK359 := cB hb BK359; replace BK360 := cB hb BK360; replace BK361 := cB hb BK361; replace HB := Aside0.mk (below_step (HB.out) hb); clear hb hbox hg) | ((with_reducible refine gate_callee (f := 4) rfl ?_); refine goesL_ (some 23) rfl rfl Try.func4 (by kernel_rfl) rfl #[] rfl (by (try simp only [List.map_toArray, List.map_cons, List.map_nil]); first | done | rfl | (simp only [List.length_drop, List.length_take]; rfl)) ?_; (with_reducible refine (relievolaw03_alive.calls k  true rfl _ A5.out).mono ?_); rintro e w26 ⟨rfl, hb⟩; refine ⟨_, rfl, ?_⟩; replace BK359 := cB hb BK359; replace BK360 := cB hb BK360; replace BK361 := cB hb BK361; replace BK362 := cB hb BK362; replace HB := Aside0.mk (below_step (HB.out) hb); (try clear hb); (try clear hb2); (try clear hk); (try clear hi); obtain ⟨hcz27_0, hcz27_1, hcz27_2⟩ := cells3 BK359.out; obtain ⟨hcz28_0, hcz28_1, hcz28_2⟩ := cells3 BK360.out; obtain ⟨hcz29_0, hcz29_1, hcz29_2, hcz29_3, hcz29_4, hcz29_5, hcz29_6, hcz29_7, hcz29_8⟩ := cells9 BK361.out) | ((with_reducible refine gate_callee (f := 5) rfl ?_); refine goesL_ (some 32) rfl rfl Try.func5 (by kernel_rfl) rfl #[.agg #[.int .i64 a0_0, .int .i64 a0_1, .int .i64 a0_2], .agg #[.int .i64 a1_0, .int .i64 a1_1, .int .i64 a1_2], .agg #[.int .i64 a2_0, .int .i64 a2_1, .int .i64 a2_2], .agg #[.int .i64 a2_3, .int .i64 a2_4, .int .i64 a2_5]] rfl (by (try simp only [List.map_toArray, List.map_cons, List.map_nil]); first | done | rfl | (simp only [List.length_drop, List.length_take]; rfl)) ?_; (with_reducible refine (side_Side.calls k a0_0 a0_1 a0_2 a1_0 a1_1 a1_2 a2_0 a2_1 a2_2 a2_3 a2_4 a2_5 t364 t365 _ A7.out).mono ?_); rintro e w30 ⟨rfl, hb⟩; refine ⟨_, rfl, ?_⟩; replace BK359 := cB hb BK359; replace BK360 := cB hb BK360; replace BK361 := cB hb BK361; replace BK362 := cB hb BK362; replace HB := Aside0.mk (below_step (HB.out) hb); (try clear hb); (try clear hb2); (try clear hk); (try clear hi); obtain ⟨hcz31_0, hcz31_1, hcz31_2⟩ := cells3 BK359.out; obtain ⟨hcz32_0, hcz32_1, hcz32_2⟩ := cells3 BK360.out; obtain ⟨hcz33_0, hcz33_1, hcz33_2, hcz33_3, hcz33_4, hcz33_5, hcz33_6, hcz33_7, hcz33_8⟩ := cells9 BK361.out) | ((with_reducible refine gate_callee (f := 6) rfl ?_); refine goesL_ (some 42) rfl rfl Try.func6 (by kernel_rfl) rfl #[.agg #[.int .i64 a0_0, .int .i64 a0_1, .int .i64 a0_2], .agg #[.int .i64 a1_0, .int .i64 a1_1, .int .i64 a1_2], .agg #[.int .i64 a2_0, .int .i64 a2_1, .int .i64 a2_2], .agg #[.int .i64 a2_3, .int .i64 a2_4, .int .i64 a2_5]] rfl (by (try simp only [List.map_toArray, List.map_cons, List.map_nil]); first | done | rfl | (simp only [List.length_drop, List.length_take]; rfl)) ?_; (with_reducible refine (relievoref03_Side.calls k a0_0 a0_1 a0_2 a1_0 a1_1 a1_2 a2_0 a2_1 a2_2 a2_3 a2_4 a2_5 t366 t367 _ A8.out).mono ?_); rintro e w34 ⟨rfl, hb⟩; refine ⟨_, rfl, ?_⟩; replace BK359 := cB hb BK359; replace BK360 := cB hb BK360; replace BK361 := cB hb BK361; replace BK362 := cB hb BK362; replace HB := Aside0.mk (below_step (HB.out) hb); (try clear hb); (try clear hb2); (try clear hk); (try clear hi); obtain ⟨hcz35_0, hcz35_1, hcz35_2⟩ := cells3 BK359.out; obtain ⟨hcz36_0, hcz36_1, hcz36_2⟩ := cells3 BK360.out; obtain ⟨hcz37_0, hcz37_1, hcz37_2, hcz37_3, hcz37_4, hcz37_5, hcz37_6, hcz37_7, hcz37_8⟩ := cells9 BK361.out) | ((with_reducible refine gate_callee (f := 7) rfl ?_); refine goesL_ (some 49) rfl rfl Try.func7 (by kernel_rfl) rfl #[.agg #[.int .i64 a0_0, .int .i64 a0_1, .int .i64 a0_2], .agg #[.int .i64 a1_0, .int .i64 a1_1, .int .i64 a1_2], .agg #[.int .i64 a2_0, .int .i64 a2_1, .int .i64 a2_2, .int .i64 a2_3, .int .i64 a2_4, .int .i64 a2_5, .int .i64 a2_6, .int .i64 a2_7, .int .i64 a2_8]] rfl (by (try simp only [List.map_toArray, List.map_cons, List.map_nil]); first | done | rfl | (simp only [List.length_drop, List.length_take]; rfl)) ?_; (with_reducible refine (side_Meet.calls k a0_0 a0_1 a0_2 a1_0 a1_1 a1_2 a2_0 a2_1 a2_2 a2_3 a2_4 a2_5 a2_6 a2_7 a2_8 t368 t369 t370 t371 t372 t373 t374 _ A9.out).mono ?_); rintro e w38 ⟨rfl, hb⟩; refine ⟨_, rfl, ?_⟩; replace BK359 := cB hb BK359; replace BK360 := cB hb BK360; replace BK361 := cB hb BK361; replace BK362 := cB hb BK362; replace HB := Aside0.mk (below_step (HB.out) hb); (try clear hb); (try clear hb2); (try clear hk); (try clear hi)) | ((with_reducible refine gate_dst (N := 13) rfl ?_); refine box_event ?hg (N := 13) ?hd (cs := #[.int .i64 0, .int .i64 0, .bool false, .int .i64 0, .int .i64 0]) (t := 33) ?hr ?_; (case hd => rfl); (case hg => rfl); (case hr => first | (go_simp; done) | (go_simp; rfl)); intro gb375 hg w39 hbox hb; have BK375 := Aside0.mk (hbox); have GE375 := Aside0.mk (bG hg (HB.out)); have NB359_375 := cN hg BK359; have NB375_359 := cM hg BK359; have NB360_375 := cN hg BK360; have NB375_360 := cM hg BK360; have NB361_375 := cN hg BK361; have NB375_361 := cM hg BK361; have NB362_375 := cN hg BK362; have NB375_362 := cM hg BK362; replace BK359 := cB hb BK359; replace BK360 := cB hb BK360; replace BK361 := cB hb BK361; replace BK362 := cB hb BK362; replace HB := Aside0.mk (below_step (HB.out) hb); clear hb hbox hg; have hnb40 := NB375_359.out; have hnc40 := NB359_375.out; have hnb41 := NB375_360.out; have hnc41 := NB360_375.out; have hnb42 := NB375_361.out; have hnc42 := NB361_375.out; have hnb43 := NB375_362.out; have hnc43 := NB362_375.out; obtain ⟨hcz44_0, hcz44_1, hcz44_2, hcz44_3, hcz44_4⟩ := cells5 BK375.out; have hfz44_0 := blk_frozen BK375.out 0; have hfz44_1 := blk_frozen BK375.out 1; have hfz44_2 := blk_frozen BK375.out 2; have hfz44_3 := blk_frozen BK375.out 3; have hfz44_4 := blk_frozen BK375.out 4; obtain ⟨hcz45_0, hcz45_1, hcz45_2⟩ := cells3 BK359.out; obtain ⟨hcz46_0, hcz46_1, hcz46_2⟩ := cells3 BK360.out; obtain ⟨hcz47_0, hcz47_1, hcz47_2, hcz47_3, hcz47_4, hcz47_5, hcz47_6, hcz47_7, hcz47_8⟩ := cells9 BK361.out) | ((with_reducible refine gate_callee (f := 8) rfl ?_); refine goesL_ (some 57) rfl rfl Try.func8 (by kernel_rfl) rfl #[.agg #[.int .i64 a0_0, .int .i64 a0_1, .int .i64 a0_2], .agg #[.int .i64 a1_0, .int .i64 a1_1, .int .i64 a1_2], .agg #[.int .i64 a2_0, .int .i64 a2_1, .int .i64 a2_2, .int .i64 a2_3, .int .i64 a2_4, .int .i64 a2_5, .int .i64 a2_6, .int .i64 a2_7, .int .i64 a2_8]] rfl (by (try simp only [List.map_toArray, List.map_cons, List.map_nil]); first | done | rfl | (simp only [List.length_drop, List.length_take]; rfl)) ?_; (with_reducible refine (relievoref03_Meet.calls k a0_0 a0_1 a0_2 a1_0 a1_1 a1_2 a2_0 a2_1 a2_2 a2_3 a2_4 a2_5 a2_6 a2_7 a2_8 t376 t377 t378 t379 t380 t381 t382 _ A10.out).mono ?_); rintro e w48 ⟨rfl, hb⟩; refine ⟨_, rfl, ?_⟩; replace BK359 := Aside0.mk (bB hb ((blk_far (blk_far (blk_far (blk_far (blk_far BK359.out NB359_375.out _) NB359_375.out _) NB359_375.out _) NB359_375.out _) NB359_375.out _))); replace BK360 := Aside0.mk (bB hb ((blk_far (blk_far (blk_far (blk_far (blk_far BK360.out NB360_375.out _) NB360_375.out _) NB360_375.out _) NB360_375.out _) NB360_375.out _))); replace BK361 := Aside0.mk (bB hb ((blk_far (blk_far (blk_far (blk_far (blk_far BK361.out NB361_375.out _) NB361_375.out _) NB361_375.out _) NB361_375.out _) NB361_375.out _))); replace BK362 := Aside0.mk (bB hb ((blk_far (blk_far (blk_far (blk_far (blk_far BK362.out NB362_375.out _) NB362_375.out _) NB362_375.out _) NB362_375.out _) NB362_375.out _))); replace BK375 := Aside0.mk (bB hb ((blk_put (cs' := #[.int .i64 t368, .int .i64 t369, .bool t370, .int .i64 t371, .int .i64 t372]) (blk_put (blk_put (blk_put (blk_put BK375.out 0 _ rfl) 1 _ rfl) 2 _ rfl) 3 _ rfl) 4 _ rfl))); replace HB := Aside0.mk (below_step ((below_set (below_set (below_set (below_set (below_set HB.out GE375.out) GE375.out) GE375.out) GE375.out) GE375.out)) hb); (try clear hb); (try clear hb2); (try clear hk); (try clear hi)) | ((with_reducible refine gate_dst (N := 16) rfl ?_); refine box_event ?hg (N := 16) ?hd (cs := #[.int .i64 0, .int .i64 0, .bool false, .int .i64 0, .int .i64 0]) (t := 33) ?hr ?_; (case hd => rfl); (case hg => rfl); (case hr => first | (go_simp; done) | (go_simp; rfl)); intro gb383 hg w49 hbox hb; have BK383 := Aside0.mk (hbox); have GE383 := Aside0.mk (bG hg (HB.out)); have NB359_383 := cN hg BK359; have NB383_359 := cM hg BK359; have NB360_383 := cN hg BK360; have NB383_360 := cM hg BK360; have NB361_383 := cN hg BK361; have NB383_361 := cM hg BK361; have NB362_383 := cN hg BK362; have NB383_362 := cM hg BK362; have NB375_383 := cN hg BK375; have NB383_375 := cM hg BK375; replace BK359 := cB hb BK359; replace BK360 := cB hb BK360; replace BK361 := cB hb BK361; replace BK362 := cB hb BK362; replace BK375 := cB hb BK375; replace HB := Aside0.mk (below_step (HB.out) hb); clear hb hbox hg; have hnb50 := NB383_359.out; have hnc50 := NB359_383.out; have hnb51 := NB383_360.out; have hnc51 := NB360_383.out; have hnb52 := NB383_361.out; have hnc52 := NB361_383.out; have hnb53 := NB383_362.out; have hnc53 := NB362_383.out; have hnb54 := NB383_375.out; have hnc54 := NB375_383.out; obtain ⟨hcz55_0, hcz55_1, hcz55_2, hcz55_3, hcz55_4⟩ := cells5 BK383.out; have hfz55_0 := blk_frozen BK383.out 0; have hfz55_1 := blk_frozen BK383.out 1; have hfz55_2 := blk_frozen BK383.out 2; have hfz55_3 := blk_frozen BK383.out 3; have hfz55_4 := blk_frozen BK383.out 4; obtain ⟨hcz56_0, hcz56_1, hcz56_2⟩ := cells3 BK359.out; obtain ⟨hcz57_0, hcz57_1, hcz57_2⟩ := cells3 BK360.out; obtain ⟨hcz58_0, hcz58_1⟩ := cells2 BK362.out) | ((with_reducible refine gate_callee (f := 9) rfl ?_); refine goesL_ (some 65) rfl rfl Try.func9 (by kernel_rfl) rfl #[.agg #[.int .i64 a0_0, .int .i64 a0_1, .int .i64 a0_2], .agg #[.int .i64 a1_0, .int .i64 a1_1, .int .i64 a1_2], .agg #[.int .i64 a3_0, .int .i64 a3_1]] rfl (by (try simp only [List.map_toArray, List.map_cons, List.map_nil]); first | done | rfl | (simp only [List.length_drop, List.length_take]; rfl)) ?_; (with_reducible refine (side_At.calls k a0_0 a0_1 a0_2 a1_0 a1_1 a1_2 a3_0 a3_1 t384 t385 t386 t387 _ A11.out).mono ?_); rintro e w59 ⟨rfl, hb⟩; refine ⟨_, rfl, ?_⟩; replace BK359 := Aside0.mk (bB hb ((blk_far (blk_far (blk_far (blk_far (blk_far BK359.out NB359_383.out _) NB359_383.out _) NB359_383.out _) NB359_383.out _) NB359_383.out _))); replace BK360 := Aside0.mk (bB hb ((blk_far (blk_far (blk_far (blk_far (blk_far BK360.out NB360_383.out _) NB360_383.out _) NB360_383.out _) NB360_383.out _) NB360_383.out _))); replace BK361 := Aside0.mk (bB hb ((blk_far (blk_far (blk_far (blk_far (blk_far BK361.out NB361_383.out _) NB361_383.out _) NB361_383.out _) NB361_383.out _) NB361_383.out _))); replace BK362 := Aside0.mk (bB hb ((blk_far (blk_far (blk_far (blk_far (blk_far BK362.out NB362_383.out _) NB362_383.out _) NB362_383.out _) NB362_383.out _) NB362_383.out _))); replace BK375 := Aside0.mk (bB hb ((blk_far (blk_far (blk_far (blk_far (blk_far BK375.out NB375_383.out _) NB375_383.out _) NB375_383.out _) NB375_383.out _) NB375_383.out _))); replace BK383 := Aside0.mk (bB hb ((blk_put (cs' := #[.int .i64 t376, .int .i64 t377, .bool t378, .int .i64 t379, .int .i64 t380]) (blk_put (blk_put (blk_put (blk_put BK383.out 0 _ rfl) 1 _ rfl) 2 _ rfl) 3 _ rfl) 4 _ rfl))); replace HB := Aside0.mk (below_step ((below_set (below_set (below_set (below_set (below_set HB.out GE383.out) GE383.out) GE383.out) GE383.out) GE383.out)) hb); (try clear hb); (try clear hb2); (try clear hk); (try clear hi)) | ((with_reducible refine gate_dst (N := 19) rfl ?_); refine box_event ?hg (N := 19) ?hd (cs := #[.int .i64 0, .int .i64 0, .int .i64 0]) (t := 23) ?hr ?_; (case hd => rfl); (case hg => rfl); (case hr => first | (go_simp; done) | (go_simp; rfl)); intro gb388 hg w60 hbox hb; have BK388 := Aside0.mk (hbox); have GE388 := Aside0.mk (bG hg (HB.out)); have NB359_388 := cN hg BK359; have NB388_359 := cM hg BK359; have NB360_388 := cN hg BK360; have NB388_360 := cM hg BK360; have NB361_388 := cN hg BK361; have NB388_361 := cM hg BK361; have NB362_388 := cN hg BK362; have NB388_362 := cM hg BK362; have NB375_388 := cN hg BK375; have NB388_375 := cM hg BK375; have NB383_388 := cN hg BK383; have NB388_383 := cM hg BK383; replace BK359 := cB hb BK359; replace BK360 := cB hb BK360; replace BK361 := cB hb BK361; replace BK362 := cB hb BK362; replace BK375 := cB hb BK375; replace BK383 := cB hb BK383; replace HB := Aside0.mk (below_step (HB.out) hb); clear hb hbox hg; have hnb61 := NB388_359.out; have hnc61 := NB359_388.out; have hnb62 := NB388_360.out; have hnc62 := NB360_388.out; have hnb63 := NB388_361.out; have hnc63 := NB361_388.out; have hnb64 := NB388_362.out; have hnc64 := NB362_388.out; have hnb65 := NB388_375.out; have hnc65 := NB375_388.out; have hnb66 := NB388_383.out; have hnc66 := NB383_388.out; obtain ⟨hcz67_0, hcz67_1, hcz67_2⟩ := cells3 BK388.out; have hfz67_0 := blk_frozen BK388.out 0; have hfz67_1 := blk_frozen BK388.out 1; have hfz67_2 := blk_frozen BK388.out 2; obtain ⟨hcz68_0, hcz68_1, hcz68_2⟩ := cells3 BK359.out; obtain ⟨hcz69_0, hcz69_1, hcz69_2⟩ := cells3 BK360.out; obtain ⟨hcz70_0, hcz70_1⟩ := cells2 BK362.out) | ((with_reducible refine gate_callee (f := 10) rfl ?_); refine goesL_ (some 72) rfl rfl Try.func10 (by kernel_rfl) rfl #[.agg #[.int .i64 a0_0, .int .i64 a0_1, .int .i64 a0_2], .agg #[.int .i64 a1_0, .int .i64 a1_1, .int .i64 a1_2], .agg #[.int .i64 a3_0, .int .i64 a3_1]] rfl (by (try simp only [List.map_toArray, List.map_cons, List.map_nil]); first | done | rfl | (simp only [List.length_drop, List.length_take]; rfl)) ?_; (with_reducible refine (relievoref03_At.calls k a0_0 a0_1 a0_2 a1_0 a1_1 a1_2 a3_0 a3_1 t389 t390 t391 t392 _ A12.out).mono ?_); rintro e w71 ⟨rfl, hb⟩; refine ⟨_, rfl, ?_⟩; replace BK359 := Aside0.mk (bB hb ((blk_far (blk_far (blk_far BK359.out NB359_388.out _) NB359_388.out _) NB359_388.out _))); replace BK360 := Aside0.mk (bB hb ((blk_far (blk_far (blk_far BK360.out NB360_388.out _) NB360_388.out _) NB360_388.out _))); replace BK361 := Aside0.mk (bB hb ((blk_far (blk_far (blk_far BK361.out NB361_388.out _) NB361_388.out _) NB361_388.out _))); replace BK362 := Aside0.mk (bB hb ((blk_far (blk_far (blk_far BK362.out NB362_388.out _) NB362_388.out _) NB362_388.out _))); replace BK375 := Aside0.mk (bB hb ((blk_far (blk_far (blk_far BK375.out NB375_388.out _) NB375_388.out _) NB375_388.out _))); replace BK383 := Aside0.mk (bB hb ((blk_far (blk_far (blk_far BK383.out NB383_388.out _) NB383_388.out _) NB383_388.out _))); replace BK388 := Aside0.mk (bB hb ((blk_put (cs' := #[.int .i64 t384, .int .i64 t385, .int .i64 t386]) (blk_put (blk_put BK388.out 0 _ rfl) 1 _ rfl) 2 _ rfl))); replace HB := Aside0.mk (below_step ((below_set (below_set (below_set HB.out GE388.out) GE388.out) GE388.out)) hb); (try clear hb); (try clear hb2); (try clear hk); (try clear hi)) | ((with_reducible refine gate_dst (N := 21) rfl ?_); refine box_event ?hg (N := 21) ?hd (cs := #[.int .i64 0, .int .i64 0, .int .i64 0]) (t := 23) ?hr ?_; (case hd => rfl); (case hg => rfl); (case hr => first | (go_simp; done) | (go_simp; rfl)); intro gb393 hg w72 hbox hb; have BK393 := Aside0.mk (hbox); have GE393 := Aside0.mk (bG hg (HB.out)); have NB359_393 := cN hg BK359; have NB393_359 := cM hg BK359; have NB360_393 := cN hg BK360; have NB393_360 := cM hg BK360; have NB361_393 := cN hg BK361; have NB393_361 := cM hg BK361; have NB362_393 := cN hg BK362; have NB393_362 := cM hg BK362; have NB375_393 := cN hg BK375; have NB393_375 := cM hg BK375; have NB383_393 := cN hg BK383; have NB393_383 := cM hg BK383; have NB388_393 := cN hg BK388; have NB393_388 := cM hg BK388; replace BK359 := cB hb BK359; replace BK360 := cB hb BK360; replace BK361 := cB hb BK361; replace BK362 := cB hb BK362; replace BK375 := cB hb BK375; replace BK383 := cB hb BK383; replace BK388 := cB hb BK388; replace HB := Aside0.mk (below_step (HB.out) hb); clear hb hbox hg; have hnb73 := NB393_359.out; have hnc73 := NB359_393.out; have hnb74 := NB393_360.out; have hnc74 := NB360_393.out; have hnb75 := NB393_361.out; have hnc75 := NB361_393.out; have hnb76 := NB393_362.out; have hnc76 := NB362_393.out; have hnb77 := NB393_375.out; have hnc77 := NB375_393.out; have hnb78 := NB393_383.out; have hnc78 := NB383_393.out; have hnb79 := NB393_388.out; have hnc79 := NB388_393.out; obtain ⟨hcz80_0, hcz80_1, hcz80_2⟩ := cells3 BK393.out; have hfz80_0 := blk_frozen BK393.out 0; have hfz80_1 := blk_frozen BK393.out 1; have hfz80_2 := blk_frozen BK393.out 2))
         generalize hw_ : (((w72.setCell ⟨gb393, 0, none⟩ (.int .i64 t389)).setCell ⟨gb393, 1, none⟩ (.int .i64 t390)).setCell ⟨gb393, 2, none⟩ (.int .i64 t391)) = w81
         replace BK361 := Aside0.mk (bF hw_ (blk_far (blk_far (blk_far BK361.out NB361_393.out _) NB361_393.out _) NB361_393.out _))
         replace BK375 := Aside0.mk (bF hw_ (blk_far (blk_far (blk_far BK375.out NB375_393.out _) NB375_393.out _) NB375_393.out _))
         replace BK383 := Aside0.mk (bF hw_ (blk_far (blk_far (blk_far BK383.out NB383_393.out _) NB383_393.out _) NB383_393.out _))
         replace BK388 := Aside0.mk (bF hw_ (blk_far (blk_far (blk_far BK388.out NB388_393.out _) NB388_393.out _) NB388_393.out _))
         replace BK393 := Aside0.mk (bF hw_ (blk_put (cs' := #[.int .i64 t389, .int .i64 t390, .int .i64 t391]) (blk_put (blk_put BK393.out 0 _ rfl) 1 _ rfl) 2 _ rfl))
         replace HB := Aside0.mk (bH hw_ (below_set (below_set (below_set HB.out GE393.out) GE393.out) GE393.out))
         clear hw_
         replace BK361 := Aside0.mk (blk_drew BK361.out)
         replace BK375 := Aside0.mk (blk_drew BK375.out)
         replace BK383 := Aside0.mk (blk_drew BK383.out)
         replace BK388 := Aside0.mk (blk_drew BK388.out)
         replace BK393 := Aside0.mk (blk_drew BK393.out)
         replace HB := Aside0.mk (below_drew1 HB.out)
         refine start_ (n := 41) (S := fun w' => w'.cell? ⟨gb375, 0, none⟩ = some (.int .i64 t368) ∧ w'.cell? ⟨gb375, 1, none⟩ = some (.int .i64 t369) ∧ w'.cell? ⟨gb375, 2, none⟩ = some (.bool t370) ∧ w'.cell? ⟨gb375, 3, none⟩ = some (.int .i64 t371) ∧ w'.cell? ⟨gb375, 4, none⟩ = some (.int .i64 t372) ∧ w'.cell? ⟨gb383, 0, none⟩ = some (.int .i64 t376) ∧ w'.cell? ⟨gb383, 1, none⟩ = some (.int .i64 t377) ∧ w'.cell? ⟨gb383, 2, none⟩ = some (.bool t378) ∧ w'.cell? ⟨gb383, 3, none⟩ = some (.int .i64 t379) ∧ w'.cell? ⟨gb383, 4, none⟩ = some (.int .i64 t380) ∧ w'.cell? ⟨gb388, 0, none⟩ = some (.int .i64 t384) ∧ w'.cell? ⟨gb388, 1, none⟩ = some (.int .i64 t385) ∧ w'.cell? ⟨gb388, 2, none⟩ = some (.int .i64 t386) ∧ w'.cell? ⟨gb393, 0, none⟩ = some (.int .i64 t389) ∧ w'.cell? ⟨gb393, 1, none⟩ = some (.int .i64 t390) ∧ w'.cell? ⟨gb393, 2, none⟩ = some (.int .i64 t391) ∧ w'.cell? ⟨gb361, 0, none⟩ = some (.int .i64 a2_0) ∧ w'.cell? ⟨gb361, 1, none⟩ = some (.int .i64 a2_1) ∧ w'.cell? ⟨gb361, 2, none⟩ = some (.int .i64 a2_2) ∧ w'.cell? ⟨gb361, 3, none⟩ = some (.int .i64 a2_3) ∧ w'.cell? ⟨gb361, 4, none⟩ = some (.int .i64 a2_4) ∧ w'.cell? ⟨gb361, 5, none⟩ = some (.int .i64 a2_5) ∧ w'.cell? ⟨gb361, 6, none⟩ = some (.int .i64 a2_6) ∧ w'.cell? ⟨gb361, 7, none⟩ = some (.int .i64 a2_7) ∧ w'.cell? ⟨gb361, 8, none⟩ = some (.int .i64 a2_8)) (ds := []) #[false, false, false, false, false, false, false, false, false, false, false, false, false, false, false, false, false, false, false, false, false, false, false, false, false, false, false, false, false, false, false, false, false, false, false, false, false, false, false, false, false] (by kernel_rfl) rfl rfl ⟨(blk_cell BK375.out 0).trans rfl, (blk_cell BK375.out 1).trans rfl, (blk_cell BK375.out 2).trans rfl, (blk_cell BK375.out 3).trans rfl, (blk_cell BK375.out 4).trans rfl, (blk_cell BK383.out 0).trans rfl, (blk_cell BK383.out 1).trans rfl, (blk_cell BK383.out 2).trans rfl, (blk_cell BK383.out 3).trans rfl, (blk_cell BK383.out 4).trans rfl, (blk_cell BK388.out 0).trans rfl, (blk_cell BK388.out 1).trans rfl, (blk_cell BK388.out 2).trans rfl, (blk_cell BK393.out 0).trans rfl, (blk_cell BK393.out 1).trans rfl, (blk_cell BK393.out 2).trans rfl, (blk_cell BK361.out 0).trans rfl, (blk_cell BK361.out 1).trans rfl, (blk_cell BK361.out 2).trans rfl, (blk_cell BK361.out 3).trans rfl, (blk_cell BK361.out 4).trans rfl, (blk_cell BK361.out 5).trans rfl, (blk_cell BK361.out 6).trans rfl, (blk_cell BK361.out 7).trans rfl, (blk_cell BK361.out 8).trans rfl⟩ (fun hHeld => ?_); refine with_tabW relievolaw03_SideMeets.tab9 relievolaw03_SideMeets.bits9 (fun HT_ HW_ => ?_)
         generalize w81.drew = w82 at BK361 BK375 BK383 BK388 BK393 HB hHeld ⊢
         refine pure_ (i := 0) (N := some 75) (v := ?_) (a' := ?_) (bm 41 1) rfl rfl (any_of HT_.out (by kernel_rfl)) (fun _ _ _ h => h) (Or.inl ⟨by rfl, ?_⟩) ?_ ?_
         rotate_left
         ·intro w'
          go_simp
          with_reducible rfl
         rotate_left
         ·simp only [Act.put, List.setIfInBounds_toArray, List.set_cons_zero, List.set_cons_succ, i64_w, i32_w]
          rfl
         refine pure_ (i := 1) (N := some 76) (v := ?_) (a' := ?_) (bm 41 3) rfl rfl (any_of HT_.out (by kernel_rfl)) (fun _ _ _ h => h) (Or.inl ⟨by rfl, ?_⟩) ?_ ?_
         rotate_left
         ·intro w'
          go_simp
          with_reducible rfl
         rotate_left
         ·simp only [Act.put, List.setIfInBounds_toArray, List.set_cons_zero, List.set_cons_succ, i64_w, i32_w]
          rfl
         refine pure_ (i := 2) (N := some 77) (v := ?_) (a' := ?_) (bm 41 7) rfl rfl (any_of HT_.out (by kernel_rfl)) (fun _ _ _ h => h) (Or.inl ⟨by rfl, ?_⟩) ?_ ?_
         rotate_left
         ·intro w'
          go_simp
          with_reducible rfl
         rotate_left
         ·simp only [Act.put, List.setIfInBounds_toArray, List.set_cons_zero, List.set_cons_succ, i64_w, i32_w]
          rfl
         refine pure_ (i := 3) (N := some 78) (v := ?_) (a' := ?_) (bm 41 15) rfl rfl (any_of HT_.out (by kernel_rfl)) (fun _ _ _ h => h) (Or.inl ⟨by rfl, ?_⟩) ?_ ?_
         rotate_left
         ·intro w'
          go_simp
          with_reducible rfl
         rotate_left
         ·simp only [Act.put, List.setIfInBounds_toArray, List.set_cons_zero, List.set_cons_succ, i64_w, i32_w]
          rfl
         refine pure_ (i := 4) (N := some 79) (v := ?_) (a' := ?_) (bm 41 31) rfl rfl (any_of HT_.out (by kernel_rfl)) (fun _ _ _ h => h) (Or.inl ⟨by rfl, ?_⟩) ?_ ?_
         rotate_left
         ·intro w'
          go_simp
          with_reducible rfl
         rotate_left
         ·simp only [Act.put, List.setIfInBounds_toArray, List.set_cons_zero, List.set_cons_succ, i64_w, i32_w]
          rfl
         refine pure_ (i := 5) (N := some 80) (v := ?_) (a' := ?_) (bm 41 63) rfl rfl (any_of HT_.out (by kernel_rfl)) (fun _ _ _ h => h) (Or.inl ⟨by rfl, ?_⟩) ?_ ?_
         rotate_left
         ·intro w'
          go_simp
          with_reducible rfl
         rotate_left
         ·simp only [Act.put, List.setIfInBounds_toArray, List.set_cons_zero, List.set_cons_succ, i64_w, i32_w]
          rfl
         refine pure_ (i := 6) (N := some 81) (v := ?_) (a' := ?_) (bm 41 127) rfl rfl (any_of HT_.out (by kernel_rfl)) (fun _ _ _ h => h) (Or.inl ⟨by rfl, ?_⟩) ?_ ?_
         rotate_left
         ·intro w'
          go_simp
          with_reducible rfl
         rotate_left
         ·simp only [Act.put, List.setIfInBounds_toArray, List.set_cons_zero, List.set_cons_succ, i64_w, i32_w]
          rfl
         refine pure_ (i := 7) (N := some 82) (v := ?_) (a' := ?_) (bm 41 255) rfl rfl (any_of HT_.out (by kernel_rfl)) (fun _ _ _ h => h) (Or.inl ⟨by rfl, ?_⟩) ?_ ?_
         rotate_left
         ·intro w'
          go_simp
          with_reducible rfl
         rotate_left
         ·simp only [Act.put, List.setIfInBounds_toArray, List.set_cons_zero, List.set_cons_succ, i64_w, i32_w]
          rfl
         refine pure_ (i := 8) (N := some 83) (v := ?_) (a' := ?_) (bm 41 511) rfl rfl (any_of HT_.out (by kernel_rfl)) (fun _ _ _ h => h) (Or.inl ⟨by rfl, ?_⟩) ?_ ?_
         rotate_left
         ·intro w'
          go_simp
          with_reducible rfl
         rotate_left
         ·simp only [Act.put, List.setIfInBounds_toArray, List.set_cons_zero, List.set_cons_succ, i64_w, i32_w]
          rfl
         refine take_ (i := 9) (N := some 84) (v := ?_) (a' := ?_) (bm 41 1023) rfl rfl (take_ofW HT_.out HW_.out (by kernel_rfl)) (fun _ _ _ h => h) (Or.inl ⟨by rfl, ?_⟩) hHeld ?_ ?_
         rotate_left
         ·rintro w' ⟨s0, s1, s2, s3, s4, s5, s6, s7, s8, s9, s10, s11, s12, s13, s14, s15, s16, s17, s18, s19, s20, s21, s22, s23, s24⟩
          go_simp
          with_reducible rfl
         rotate_left
         ·simp only [Act.put, List.setIfInBounds_toArray, List.set_cons_zero, List.set_cons_succ, i64_w, i32_w]
          rfl
         refine take_ (i := 10) (N := some 85) (v := ?_) (a' := ?_) (bm 41 2047) rfl rfl (take_ofW HT_.out HW_.out (by kernel_rfl)) (fun _ _ _ h => h) (Or.inl ⟨by rfl, ?_⟩) hHeld ?_ ?_
         rotate_left
         ·rintro w' ⟨s0, s1, s2, s3, s4, s5, s6, s7, s8, s9, s10, s11, s12, s13, s14, s15, s16, s17, s18, s19, s20, s21, s22, s23, s24⟩
          go_simp
          with_reducible rfl
         rotate_left
         ·simp only [Act.put, List.setIfInBounds_toArray, List.set_cons_zero, List.set_cons_succ, i64_w, i32_w]
          rfl
         refine pure_ (i := 11) (N := some 86) (v := ?_) (a' := ?_) (bm 41 4095) rfl rfl (any_of HT_.out (by kernel_rfl)) (fun _ _ _ h => h) (Or.inl ⟨by rfl, ?_⟩) ?_ ?_
         rotate_left
         ·intro w'
          go_simp
          with_reducible rfl
         rotate_left
         ·simp only [Act.put, List.setIfInBounds_toArray, List.set_cons_zero, List.set_cons_succ, i64_w, i32_w]
          rfl
         refine pure_ (i := 12) (N := some 87) (v := ?_) (a' := ?_) (bm 41 8191) rfl rfl (any_of HT_.out (by kernel_rfl)) (fun _ _ _ h => h) (Or.inl ⟨by rfl, ?_⟩) ?_ ?_
         rotate_left
         ·intro w'
          go_simp
          with_reducible rfl
         rotate_left
         ·simp only [Act.put, List.setIfInBounds_toArray, List.set_cons_zero, List.set_cons_succ, i64_w, i32_w]
          rfl
         refine pure_ (i := 13) (N := some 88) (v := ?_) (a' := ?_) (bm 41 16383) rfl rfl (any_of HT_.out (by kernel_rfl)) (fun _ _ _ h => h) (Or.inl ⟨by rfl, ?_⟩) ?_ ?_
         rotate_left
         ·intro w'
          go_simp
          with_reducible rfl
         rotate_left
         ·simp only [Act.put, List.setIfInBounds_toArray, List.set_cons_zero, List.set_cons_succ, i64_w, i32_w]
          rfl
         refine pure_ (i := 14) (N := some 89) (v := ?_) (a' := ?_) (bm 41 32767) rfl rfl (any_of HT_.out (by kernel_rfl)) (fun _ _ _ h => h) (Or.inl ⟨by rfl, ?_⟩) ?_ ?_
         rotate_left
         ·intro w'
          go_simp
          with_reducible rfl
         rotate_left
         ·simp only [Act.put, List.setIfInBounds_toArray, List.set_cons_zero, List.set_cons_succ, i64_w, i32_w]
          rfl
         refine pure_ (i := 15) (N := some 90) (v := ?_) (a' := ?_) (bm 41 65535) rfl rfl (any_of HT_.out (by kernel_rfl)) (fun _ _ _ h => h) (Or.inl ⟨by rfl, ?_⟩) ?_ ?_
         rotate_left
         ·intro w'
          go_simp
          with_reducible rfl
         rotate_left
         ·simp only [Act.put, List.setIfInBounds_toArray, List.set_cons_zero, List.set_cons_succ, i64_w, i32_w]
          rfl
         refine pure_ (i := 16) (N := some 91) (v := ?_) (a' := ?_) (bm 41 131071) rfl rfl (any_of HT_.out (by kernel_rfl)) (fun _ _ _ h => h) (Or.inl ⟨by rfl, ?_⟩) ?_ ?_
         rotate_left
         ·intro w'
          go_simp
          with_reducible rfl
         rotate_left
         ·simp only [Act.put, List.setIfInBounds_toArray, List.set_cons_zero, List.set_cons_succ, i64_w, i32_w]
          rfl
         refine pure_ (i := 17) (N := some 92) (v := ?_) (a' := ?_) (bm 41 262143) rfl rfl (any_of HT_.out (by kernel_rfl)) (fun _ _ _ h => h) (Or.inl ⟨by rfl, ?_⟩) ?_ ?_
         rotate_left
         ·intro w'
          go_simp
          with_reducible rfl
         rotate_left
         ·simp only [Act.put, List.setIfInBounds_toArray, List.set_cons_zero, List.set_cons_succ, i64_w, i32_w]
          rfl
         refine pure_ (i := 18) (N := some 93) (v := ?_) (a' := ?_) (bm 41 524287) rfl rfl (any_of HT_.out (by kernel_rfl)) (fun _ _ _ h => h) (Or.inl ⟨by rfl, ?_⟩) ?_ ?_
         rotate_left
         ·intro w'
          go_simp
          with_reducible rfl
         rotate_left
         ·simp only [Act.put, List.setIfInBounds_toArray, List.set_cons_zero, List.set_cons_succ, i64_w, i32_w]
          rfl
         refine pure_ (i := 19) (N := some 94) (v := ?_) (a' := ?_) (bm 41 1048575) rfl rfl (any_of HT_.out (by kernel_rfl)) (fun _ _ _ h => h) (Or.inl ⟨by rfl, ?_⟩) ?_ ?_
         rotate_left
         ·intro w'
          go_simp
          with_reducible rfl
         rotate_left
         ·simp only [Act.put, List.setIfInBounds_toArray, List.set_cons_zero, List.set_cons_succ, i64_w, i32_w]
          rfl
         refine pure_ (i := 20) (N := some 95) (v := ?_) (a' := ?_) (bm 41 2097151) rfl rfl (any_of HT_.out (by kernel_rfl)) (fun _ _ _ h => h) (Or.inl ⟨by rfl, ?_⟩) ?_ ?_
         rotate_left
         ·intro w'
          go_simp
          with_reducible rfl
         rotate_left
         ·simp only [Act.put, List.setIfInBounds_toArray, List.set_cons_zero, List.set_cons_succ, i64_w, i32_w]
          rfl
         refine pure_ (i := 21) (N := some 96) (v := ?_) (a' := ?_) (bm 41 4194303) rfl rfl (any_of HT_.out (by kernel_rfl)) (fun _ _ _ h => h) (Or.inl ⟨by rfl, ?_⟩) ?_ ?_
         rotate_left
         ·intro w'
          go_simp
          with_reducible rfl
         rotate_left
         ·simp only [Act.put, List.setIfInBounds_toArray, List.set_cons_zero, List.set_cons_succ, i64_w, i32_w]
          rfl
         refine pure_ (i := 22) (N := some 97) (v := ?_) (a' := ?_) (bm 41 8388607) rfl rfl (any_of HT_.out (by kernel_rfl)) (fun _ _ _ h => h) (Or.inl ⟨by rfl, ?_⟩) ?_ ?_
         rotate_left
         ·intro w'
          go_simp
          with_reducible rfl
         rotate_left
         ·simp only [Act.put, List.setIfInBounds_toArray, List.set_cons_zero, List.set_cons_succ, i64_w, i32_w]
          rfl
         refine pure_ (i := 23) (N := some 98) (v := ?_) (a' := ?_) (bm 41 16777215) rfl rfl (any_of HT_.out (by kernel_rfl)) (fun _ _ _ h => h) (Or.inl ⟨by rfl, ?_⟩) ?_ ?_
         rotate_left
         ·intro w'
          go_simp
          with_reducible rfl
         rotate_left
         ·simp only [Act.put, List.setIfInBounds_toArray, List.set_cons_zero, List.set_cons_succ, i64_w, i32_w]
          rfl
         refine take_ (i := 24) (N := some 99) (v := ?_) (a' := ?_) (bm 41 33554431) rfl rfl (take_ofW HT_.out HW_.out (by kernel_rfl)) (fun _ _ _ h => h) (Or.inl ⟨by rfl, ?_⟩) hHeld ?_ ?_
         rotate_left
         ·rintro w' ⟨s0, s1, s2, s3, s4, s5, s6, s7, s8, s9, s10, s11, s12, s13, s14, s15, s16, s17, s18, s19, s20, s21, s22, s23, s24⟩
          go_simp
          with_reducible rfl
         rotate_left
         ·simp only [Act.put, List.setIfInBounds_toArray, List.set_cons_zero, List.set_cons_succ, i64_w, i32_w]
          rfl
         refine take_ (i := 25) (N := some 100) (v := ?_) (a' := ?_) (bm 41 67108863) rfl rfl (take_ofW HT_.out HW_.out (by kernel_rfl)) (fun _ _ _ h => h) (Or.inl ⟨by rfl, ?_⟩) hHeld ?_ ?_
         rotate_left
         ·rintro w' ⟨s0, s1, s2, s3, s4, s5, s6, s7, s8, s9, s10, s11, s12, s13, s14, s15, s16, s17, s18, s19, s20, s21, s22, s23, s24⟩
          go_simp
          with_reducible rfl
         rotate_left
         ·simp only [Act.put, List.setIfInBounds_toArray, List.set_cons_zero, List.set_cons_succ, i64_w, i32_w]
          rfl
         refine pure_ (i := 26) (N := some 101) (v := ?_) (a' := ?_) (bm 41 134217727) rfl rfl (any_of HT_.out (by kernel_rfl)) (fun _ _ _ h => h) (Or.inl ⟨by rfl, ?_⟩) ?_ ?_
         rotate_left
         ·intro w'
          go_simp
          with_reducible rfl
         rotate_left
         ·simp only [Act.put, List.setIfInBounds_toArray, List.set_cons_zero, List.set_cons_succ, i64_w, i32_w]
          rfl
         refine pure_ (i := 27) (N := some 102) (v := ?_) (a' := ?_) (bm 41 268435455) rfl rfl (any_of HT_.out (by kernel_rfl)) (fun _ _ _ h => h) (Or.inl ⟨by rfl, ?_⟩) ?_ ?_
         rotate_left
         ·intro w'
          go_simp
          with_reducible rfl
         rotate_left
         ·simp only [Act.put, List.setIfInBounds_toArray, List.set_cons_zero, List.set_cons_succ, i64_w, i32_w]
          rfl
         refine pure_ (i := 28) (N := some 103) (v := ?_) (a' := ?_) (bm 41 536870911) rfl rfl (any_of HT_.out (by kernel_rfl)) (fun _ _ _ h => h) (Or.inl ⟨by rfl, ?_⟩) ?_ ?_
         rotate_left
         ·intro w'
          go_simp
          with_reducible rfl
         rotate_left
         ·simp only [Act.put, List.setIfInBounds_toArray, List.set_cons_zero, List.set_cons_succ, i64_w, i32_w]
          rfl
         refine pure_ (i := 29) (N := some 104) (v := ?_) (a' := ?_) (bm 41 1073741823) rfl rfl (any_of HT_.out (by kernel_rfl)) (fun _ _ _ h => h) (Or.inl ⟨by rfl, ?_⟩) ?_ ?_
         rotate_left
         ·intro w'
          go_simp
          with_reducible rfl
         rotate_left
         ·simp only [Act.put, List.setIfInBounds_toArray, List.set_cons_zero, List.set_cons_succ, i64_w, i32_w]
          rfl
         refine pure_ (i := 30) (N := some 105) (v := ?_) (a' := ?_) (bm 41 2147483647) rfl rfl (any_of HT_.out (by kernel_rfl)) (fun _ _ _ h => h) (Or.inl ⟨by rfl, ?_⟩) ?_ ?_
         rotate_left
         ·intro w'
          go_simp
          with_reducible rfl
         rotate_left
         ·simp only [Act.put, List.setIfInBounds_toArray, List.set_cons_zero, List.set_cons_succ, i64_w, i32_w]
          rfl
         refine pure_ (i := 31) (N := some 106) (v := ?_) (a' := ?_) (bm 41 4294967295) rfl rfl (any_of HT_.out (by kernel_rfl)) (fun _ _ _ h => h) (Or.inl ⟨by rfl, ?_⟩) ?_ ?_
         rotate_left
         ·intro w'
          go_simp
          with_reducible rfl
         rotate_left
         ·simp only [Act.put, List.setIfInBounds_toArray, List.set_cons_zero, List.set_cons_succ, i64_w, i32_w]
          rfl
         refine pure_ (i := 32) (N := some 107) (v := ?_) (a' := ?_) (bm 41 8589934591) rfl rfl (any_of HT_.out (by kernel_rfl)) (fun _ _ _ h => h) (Or.inl ⟨by rfl, ?_⟩) ?_ ?_
         rotate_left
         ·intro w'
          go_simp
          with_reducible rfl
         rotate_left
         ·simp only [Act.put, List.setIfInBounds_toArray, List.set_cons_zero, List.set_cons_succ, i64_w, i32_w]
          rfl
         refine pure_ (i := 33) (N := some 108) (v := ?_) (a' := ?_) (bm 41 17179869183) rfl rfl (any_of HT_.out (by kernel_rfl)) (fun _ _ _ h => h) (Or.inl ⟨by rfl, ?_⟩) ?_ ?_
         rotate_left
         ·intro w'
          go_simp
          with_reducible rfl
         rotate_left
         ·simp only [Act.put, List.setIfInBounds_toArray, List.set_cons_zero, List.set_cons_succ, i64_w, i32_w]
          rfl
         refine take_ (i := 34) (N := some 109) (v := ?_) (a' := ?_) (bm 41 34359738367) rfl rfl (take_ofW HT_.out HW_.out (by kernel_rfl)) (fun _ _ _ h => h) (Or.inl ⟨by rfl, ?_⟩) hHeld ?_ ?_
         rotate_left
         ·rintro w' ⟨s0, s1, s2, s3, s4, s5, s6, s7, s8, s9, s10, s11, s12, s13, s14, s15, s16, s17, s18, s19, s20, s21, s22, s23, s24⟩
          go_simp
          with_reducible rfl
         rotate_left
         ·simp only [Act.put, List.setIfInBounds_toArray, List.set_cons_zero, List.set_cons_succ, i64_w, i32_w]
          rfl
         refine take_ (i := 36) (N := some 111) (v := ?_) (a' := ?_) (bm 41 103079215103) rfl rfl (take_ofW HT_.out HW_.out (by kernel_rfl)) (fun _ _ _ h => h) (Or.inl ⟨by rfl, ?_⟩) hHeld ?_ ?_
         rotate_left
         ·rintro w' ⟨s0, s1, s2, s3, s4, s5, s6, s7, s8, s9, s10, s11, s12, s13, s14, s15, s16, s17, s18, s19, s20, s21, s22, s23, s24⟩
          go_simp
          with_reducible rfl
         rotate_left
         ·simp only [Act.put, List.setIfInBounds_toArray, List.set_cons_zero, List.set_cons_succ, i64_w, i32_w]
          rfl
         refine one_ (i := 35) (N := some 110) (bm 41 137438953471) rfl rfl (one_of HT_.out (by kernel_rfl)) (by decide) (fun K hK => ?_)
         refine goes_ Try.func11 (by kernel_rfl) rfl #[.agg #[.int .i64 a2_0, .int .i64 a2_1, .int .i64 a2_2, .int .i64 a2_3, .int .i64 a2_4, .int .i64 a2_5, .int .i64 a2_6, .int .i64 a2_7, .int .i64 a2_8]] (by rfl) rfl rfl (by (try simp only [List.map_toArray, List.map_cons, List.map_nil]); first | done | rfl | (simp only [List.length_drop, List.length_take]; rfl)) ?_
         with_reducible refine (side_Normal.calls a2_0 a2_1 a2_2 a2_3 a2_4 a2_5 a2_6 a2_7 a2_8 t394 t395 t396 _ A20.out).mono ?_
         rintro e w83 ⟨rfl, hb⟩
         refine ⟨_, rfl, ?_⟩
         replace BK361 := cB hb BK361
         replace BK375 := cB hb BK375
         replace BK383 := cB hb BK383
         replace BK388 := cB hb BK388
         replace BK393 := cB hb BK393
         replace HB := Aside0.mk (below_step (HB.out) hb)
         (try clear hb)
         (try clear hb2)
         (try clear hk)
         (try clear hi)
         refine hK.out _ _ ⟨(blk_cell BK375.out 0).trans rfl, (blk_cell BK375.out 1).trans rfl, (blk_cell BK375.out 2).trans rfl, (blk_cell BK375.out 3).trans rfl, (blk_cell BK375.out 4).trans rfl, (blk_cell BK383.out 0).trans rfl, (blk_cell BK383.out 1).trans rfl, (blk_cell BK383.out 2).trans rfl, (blk_cell BK383.out 3).trans rfl, (blk_cell BK383.out 4).trans rfl, (blk_cell BK388.out 0).trans rfl, (blk_cell BK388.out 1).trans rfl, (blk_cell BK388.out 2).trans rfl, (blk_cell BK393.out 0).trans rfl, (blk_cell BK393.out 1).trans rfl, (blk_cell BK393.out 2).trans rfl, (blk_cell BK361.out 0).trans rfl, (blk_cell BK361.out 1).trans rfl, (blk_cell BK361.out 2).trans rfl, (blk_cell BK361.out 3).trans rfl, (blk_cell BK361.out 4).trans rfl, (blk_cell BK361.out 5).trans rfl, (blk_cell BK361.out 6).trans rfl, (blk_cell BK361.out 7).trans rfl, (blk_cell BK361.out 8).trans rfl⟩ (fun hHeld => ?_)
         clear hK K
         refine norm_ (a' := ?_) ?_ ?_
         rotate_left
         ·show Act.put _ (some 110) _ = _
          simp only [Act.put, List.setIfInBounds_toArray, List.set_cons_zero, List.set_cons_succ, i64_w, i32_w]
          rfl
         refine one_ (i := 37) (N := some 112) (bm 41 274877906943) rfl rfl (one_of HT_.out (by kernel_rfl)) (by decide) (fun K hK => ?_)
         refine goes_ Try.func12 (by kernel_rfl) rfl #[.agg #[.int .i64 a2_0, .int .i64 a2_1, .int .i64 a2_2, .int .i64 a2_3, .int .i64 a2_4, .int .i64 a2_5, .int .i64 a2_6, .int .i64 a2_7, .int .i64 a2_8]] (by rfl) rfl rfl (by (try simp only [List.map_toArray, List.map_cons, List.map_nil]); first | done | rfl | (simp only [List.length_drop, List.length_take]; rfl)) ?_
         with_reducible refine (relievoref03_Normal.calls a2_0 a2_1 a2_2 a2_3 a2_4 a2_5 a2_6 a2_7 a2_8 t397 t398 t399 _ A21.out).mono ?_
         rintro e w84 ⟨rfl, hb⟩
         refine ⟨_, rfl, ?_⟩
         replace BK361 := cB hb BK361
         replace BK375 := cB hb BK375
         replace BK383 := cB hb BK383
         replace BK388 := cB hb BK388
         replace BK393 := cB hb BK393
         replace HB := Aside0.mk (below_step (HB.out) hb)
         (try clear hb)
         (try clear hb2)
         (try clear hk)
         (try clear hi)
         refine hK.out _ _ ⟨(blk_cell BK375.out 0).trans rfl, (blk_cell BK375.out 1).trans rfl, (blk_cell BK375.out 2).trans rfl, (blk_cell BK375.out 3).trans rfl, (blk_cell BK375.out 4).trans rfl, (blk_cell BK383.out 0).trans rfl, (blk_cell BK383.out 1).trans rfl, (blk_cell BK383.out 2).trans rfl, (blk_cell BK383.out 3).trans rfl, (blk_cell BK383.out 4).trans rfl, (blk_cell BK388.out 0).trans rfl, (blk_cell BK388.out 1).trans rfl, (blk_cell BK388.out 2).trans rfl, (blk_cell BK393.out 0).trans rfl, (blk_cell BK393.out 1).trans rfl, (blk_cell BK393.out 2).trans rfl, (blk_cell BK361.out 0).trans rfl, (blk_cell BK361.out 1).trans rfl, (blk_cell BK361.out 2).trans rfl, (blk_cell BK361.out 3).trans rfl, (blk_cell BK361.out 4).trans rfl, (blk_cell BK361.out 5).trans rfl, (blk_cell BK361.out 6).trans rfl, (blk_cell BK361.out 7).trans rfl, (blk_cell BK361.out 8).trans rfl⟩ (fun hHeld => ?_)
         clear hK K
         refine norm_ (a' := ?_) ?_ ?_
         rotate_left
         ·show Act.put _ (some 112) _ = _
          simp only [Act.put, List.setIfInBounds_toArray, List.set_cons_zero, List.set_cons_succ, i64_w, i32_w]
          rfl
         refine pure_ (i := 38) (N := some 113) (v := ?_) (a' := ?_) (bm 41 549755813887) rfl rfl (any_of HT_.out (by kernel_rfl)) (fun _ _ _ h => h) (Or.inl ⟨by rfl, ?_⟩) ?_ ?_
         rotate_left
         ·intro w'
          go_simp
          with_reducible rfl
         rotate_left
         ·simp only [Act.put, List.setIfInBounds_toArray, List.set_cons_zero, List.set_cons_succ, i64_w, i32_w]
          rfl
         refine pure_ (i := 39) (N := some 114) (v := ?_) (a' := ?_) (bm 41 1099511627775) rfl rfl (any_of HT_.out (by kernel_rfl)) (fun _ _ _ h => h) (Or.inl ⟨by rfl, ?_⟩) ?_ ?_
         rotate_left
         ·intro w'
          go_simp
          with_reducible rfl
         rotate_left
         ·simp only [Act.put, List.setIfInBounds_toArray, List.set_cons_zero, List.set_cons_succ, i64_w, i32_w]
          rfl
         refine pure_ (i := 40) (N := some 8) (v := ?_) (a' := ?_) (bm 41 2199023255551) rfl rfl (any_of HT_.out (by kernel_rfl)) (fun _ _ _ h => h) (Or.inl ⟨by rfl, ?_⟩) ?_ ?_
         rotate_left
         ·intro w'
          go_simp
          with_reducible rfl
         rotate_left
         ·simp only [Act.put, List.setIfInBounds_toArray, List.set_cons_zero, List.set_cons_succ, i64_w, i32_w]
          rfl
         refine done_ (done_of HT_.out (by kernel_rfl)) ?_
         try go_wp2
         go_ret
         exact ⟨by first | rfl | (simp [errW_none, errW_some] <;> rfl) | (simp [*, errW_none, errW_some] <;> rfl), HB.out⟩
        rw [if_neg c19] at H
        have c19b0 : (t387 == t392) = false := by simpa using c19
        (try (have c19b1 : decide (t387 = t392) = false := by simpa using c19))
        (try (have c19b2 : (t387 == t392) = false := by simpa using c19))
        (try (have c19b3 : ¬ (t387 = t392) := by simpa using c19))
        clear c19
        exact absurd (Option.some.inj H) (by rw [hrt]; decide)
       rw [if_neg c18] at H
       have c18b0 : (t384 == t389 && (t385 == t390 && (t386 == t391))) = false := by simpa using c18
       (try (have c18b1 : decide (t384 = t389 && (t385 == t390 && (t386 == t391))) = false := by simpa using c18))
       (try (have c18b2 : (t384 == t389 && (t385 == t390 && (t386 == t391))) = false := by simpa using c18))
       (try (have c18b3 : ¬ (t384 = t389 && (t385 == t390 && (t386 == t391))) := by simpa using c18))
       clear c18
       exact absurd (Option.some.inj H) (by rw [hrt]; decide)
      rw [if_neg c17] at H
      have c17b0 : (t374 == t382) = false := beq_eq_false_iff_ne.mpr c17
      have c17b1 : (t374 != t382) = true := bne_iff_ne.mpr c17
      exact absurd (Option.some.inj H) (by rw [hrt]; decide)
     rw [if_neg c16] at H
     have c16b0 : (t373 == t381) = false := by simpa using c16
     (try (have c16b1 : decide (t373 = t381) = false := by simpa using c16))
     (try (have c16b2 : (t373 == t381) = false := by simpa using c16))
     (try (have c16b3 : ¬ (t373 = t381) := by simpa using c16))
     clear c16
     exact absurd (Option.some.inj H) (by rw [hrt]; decide)
    rw [if_neg c15] at H
    have c15b0 : ((t368 == t376 && (t369 == t377)) && (t370 == t378 && (t371 == t379 && (t372 == t380)))) = false := by simpa using c15
    clear c15
    exact absurd (Option.some.inj H) (by rw [hrt]; decide)
   rw [if_neg c14] at H
   have c14b0 : (t365 == t367) = false := beq_eq_false_iff_ne.mpr c14
   have c14b1 : (t365 != t367) = true := bne_iff_ne.mpr c14
   exact absurd (Option.some.inj H) (by rw [hrt]; decide)
  rw [if_neg c13] at H
  have c13b0 : (t364 == t366) = false := beq_eq_false_iff_ne.mpr c13
  have c13b1 : (t364 != t366) = true := bne_iff_ne.mpr c13
  exact absurd (Option.some.inj H) (by rw [hrt]; decide)
 replace c6 := Bool.eq_false_iff.mpr c6
 subst c6
 have H1 : (some false) = some r := by rw [if_neg (show ¬ (false = true) by decide)] at H; exact H
 clear H
 have H := H1
 clear H1
 exact absurd (Option.some.inj H) (by rw [hrt]; decide)

end Go.Proofs.Ytfmbophennepdaa.G
