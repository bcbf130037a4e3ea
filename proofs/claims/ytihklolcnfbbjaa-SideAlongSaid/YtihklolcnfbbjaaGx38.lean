-- Written by a program of this session (wip/gen), out of the translation; Lean checks it.
import Derived.Test.YtihklolcnfbbjaaNumD
import Derived.Test.YtihklolcnfbbjaaGx0
import Derived.Test.YtihklolcnfbbjaaGx4
import Derived.Test.YtihklolcnfbbjaaGx15
import Derived.Test.YtihklolcnfbbjaaGx16
import Derived.Test.YtihklolcnfbbjaaGx22
import Derived.Test.YtihklolcnfbbjaaGx37
namespace Go.Proofs.Ytihklolcnfbbjaa.G
open Go.RowKit Go.Proofs.YtihklolcnfbbjaaW.PrintWords Go.Proofs.YtihklolcnfbbjaaW.PrintLast Go.Proofs.YtihklolcnfbbjaaW.PrintMore
attribute [local go_sem high] idx35_0 idx35_1 idx35_2 idx35_3 idx41_0 idx41_1 idx41_2 idx84_0 idx84_1 idx84_2 idx88_0 idx88_1 idx88_2 wl0 wl1 wl2 wl3 wl4 wl5 tm0_3 tm1_3 tm2_3 tm3_3 tm4_3 tm5_3
attribute [local go_sem] max2_int min2_int max_two min_two max_three min_three max_four min_four   -- for this text's walks alone
set_option linter.unusedVariables false
set_option linter.unusedSimpArgs false

attribute [local go_sem high] eqA46
/-! ### relievolaw03_SideAlong: function 8 -/
mutual
def relievolaw03_SideAlong.j0 : Nat → Int → Int → Bool → Bool → Int → Int → Int → Int → Int → Int → Int → Int → Int → Int → Int → Int → Int → Int → Int → Int → Int → Bool → Int → Int → Option (Bool)
  | 0, _, _, _, _, _, _, _, _, _, _, _, _, _, _, _, _, _, _, _, _, _, _, _, _ => none
  | k + 1, x3, x4, x12, x50, x430000, x430001, x430002, x431000, x431001, x431002, x432000, x432001, x432002, x432003, x432004, x432005, x432006, x432007, x432008, x441000, x441001, x441002, x441003, x441004 => if x50 = true then (some true) else ((relievoref02_Scale.f x431000 x431001 x431002 x3).bind fun bt441 => ((relievoref02_Add.f x430000 x430001 x430002 bt441.1 bt441.2.1 bt441.2.2).bind fun bt444 => ((relievoref02_Scale.f x431000 x431001 x431002 x4).bind fun bt447 => ((side_Meet.f k bt444.1 bt444.2.1 bt444.2.2 bt447.1 bt447.2.1 bt447.2.2 x432000 x432001 x432002 x432003 x432004 x432005 x432006 x432007 x432008).bind fun bt450 => (if bt450.2.2.2.2.2.2 = 0 then (relievolaw03_SideAlong.j1 k x3 x4 x12 bt450.2.2.2.2.2.1 x441000 x441001 x441002 x441003 x441004 bt450.1 bt450.2.1 bt450.2.2.1 bt450.2.2.2.1 bt450.2.2.2.2.1) else (some true))))))
def relievolaw03_SideAlong.j1 : Nat → Int → Int → Bool → Bool → Int → Int → Bool → Int → Int → Int → Int → Bool → Int → Int → Option (Bool)
  | 0, _, _, _, _, _, _, _, _, _, _, _, _, _, _ => none
  | k + 1, x3, x4, x12, x15, x441000, x441001, x441002, x441003, x441004, x458000, x458001, x458002, x458003, x458004 => if (x12 != x15) = true then (some false) else (if x12 = true then ((relievoref01_Mul.f (wrap64 (x441000 - (wrap64 (x3 * x441001)))) x458001).bind fun bt458 => ((relievoref01_Mul.f x458000 (wrap64 (x441001 * x4))).bind fun bt461 => (if (bt458.1 == bt461.1 && (bt458.2 == bt461.2)) = true then (some (x441002 == (x458002 == (decide (x4 > 0))))) else (some false)))) else (some true))
end
def relievolaw03_SideAlong.f (k : Nat) (a0_0 : Int) (a0_1 : Int) (a0_2 : Int) (a1_0 : Int) (a1_1 : Int) (a1_2 : Int) (a2_0 : Int) (a2_1 : Int) (a2_2 : Int) (a2_3 : Int) (a2_4 : Int) (a2_5 : Int) (a2_6 : Int) (a2_7 : Int) (a2_8 : Int) (a3 : Int) (a4 : Int) : Option (Bool) := (relievolaw03_alive.f k).bind fun t432 => (if t432 = true then ((side_Meet.f k a0_0 a0_1 a0_2 a1_0 a1_1 a1_2 a2_0 a2_1 a2_2 a2_3 a2_4 a2_5 a2_6 a2_7 a2_8).bind fun bt433 => (if bt433.2.2.2.2.2.2 = 0 then (if a3 < (-1000) then (relievolaw03_SideAlong.j0 k a3 a4 bt433.2.2.2.2.2.1 true a0_0 a0_1 a0_2 a1_0 a1_1 a1_2 a2_0 a2_1 a2_2 a2_3 a2_4 a2_5 a2_6 a2_7 a2_8 bt433.1 bt433.2.1 bt433.2.2.1 bt433.2.2.2.1 bt433.2.2.2.2.1) else (if a3 > 1000 then (relievolaw03_SideAlong.j0 k a3 a4 bt433.2.2.2.2.2.1 true a0_0 a0_1 a0_2 a1_0 a1_1 a1_2 a2_0 a2_1 a2_2 a2_3 a2_4 a2_5 a2_6 a2_7 a2_8 bt433.1 bt433.2.1 bt433.2.2.1 bt433.2.2.2.1 bt433.2.2.2.2.1) else (if a4 < (-1000) then (relievolaw03_SideAlong.j0 k a3 a4 bt433.2.2.2.2.2.1 true a0_0 a0_1 a0_2 a1_0 a1_1 a1_2 a2_0 a2_1 a2_2 a2_3 a2_4 a2_5 a2_6 a2_7 a2_8 bt433.1 bt433.2.1 bt433.2.2.1 bt433.2.2.2.1 bt433.2.2.2.2.1) else (if a4 > 1000 then (relievolaw03_SideAlong.j0 k a3 a4 bt433.2.2.2.2.2.1 true a0_0 a0_1 a0_2 a1_0 a1_1 a1_2 a2_0 a2_1 a2_2 a2_3 a2_4 a2_5 a2_6 a2_7 a2_8 bt433.1 bt433.2.1 bt433.2.2.1 bt433.2.2.2.1 bt433.2.2.2.2.1) else (relievolaw03_SideAlong.j0 k a3 a4 bt433.2.2.2.2.2.1 (a4 == 0) a0_0 a0_1 a0_2 a1_0 a1_1 a1_2 a2_0 a2_1 a2_2 a2_3 a2_4 a2_5 a2_6 a2_7 a2_8 bt433.1 bt433.2.1 bt433.2.2.1 bt433.2.2.2.1 bt433.2.2.2.2.1))))) else (relievolaw03_SideAlong.j0 k a3 a4 bt433.2.2.2.2.2.1 true a0_0 a0_1 a0_2 a1_0 a1_1 a1_2 a2_0 a2_1 a2_2 a2_3 a2_4 a2_5 a2_6 a2_7 a2_8 bt433.1 bt433.2.1 bt433.2.2.1 bt433.2.2.2.1 bt433.2.2.2.2.1))) else (some false))
def relievolaw03_SideAlong.T6 : Bool × List (List Nat × List Nat) := (true, [([], []), ([], []), ([], []), ([1, 2], [1, 2]), ([0, 3, 3], [0, 3]), ([], []), ([], []), ([5, 6, 4], [5, 6]), ([], []), ([4, 7, 8, 7], [4, 7, 8]), ([9], [9]), ([10], [10]), ([10], [10]), ([10], [10]), ([], []), ([14, 11, 9, 0, 1, 2, 3, 4, 5, 6, 7, 8, 9, 10, 11, 14], [11, 14]), ([12, 15, 0, 1, 2, 3, 4, 5, 6, 7, 8, 9, 10, 11, 12, 14, 15], [12]), ([13, 16, 0, 1, 2, 3, 4, 5, 6, 7, 8, 9, 10, 11, 12, 13, 14, 15, 16], [13])])
def relievolaw03_SideAlong.B6 : List Nat := [0, 0, 0, 6, 15, 0, 0, 127, 0, 511, 1023, 2047, 2047, 2047, 0, 20479, 57343, 131071]
theorem relievolaw03_SideAlong.tab6 : rtab .any (opsOf Try.f8 6) = relievolaw03_SideAlong.T6 := by kernel_rfl
theorem relievolaw03_SideAlong.bits6 : waitsOk relievolaw03_SideAlong.T6.2 relievolaw03_SideAlong.B6 = true := by kernel_rfl
set_option maxHeartbeats 8000000 in
set_option maxRecDepth 100000 in
theorem relievolaw03_SideAlong.calls (k : Nat) (a0_0 : Int) (a0_1 : Int) (a0_2 : Int) (a1_0 : Int) (a1_1 : Int) (a1_2 : Int) (a2_0 : Int) (a2_1 : Int) (a2_2 : Int) (a2_3 : Int) (a2_4 : Int) (a2_5 : Int) (a2_6 : Int) (a2_7 : Int) (a2_8 : Int) (a3 : Int) (a4 : Int) (r : Bool) (w : World) (h : relievolaw03_SideAlong.f k a0_0 a0_1 a0_2 a1_0 a1_1 a1_2 a2_0 a2_1 a2_2 a2_3 a2_4 a2_5 a2_6 a2_7 a2_8 a3 a4 = some r) :
    Calls Try.prog 8 #[.agg #[.int .i64 a0_0, .int .i64 a0_1, .int .i64 a0_2], .agg #[.int .i64 a1_0, .int .i64 a1_1, .int .i64 a1_2], .agg #[.int .i64 a2_0, .int .i64 a2_1, .int .i64 a2_2, .int .i64 a2_3, .int .i64 a2_4, .int .i64 a2_5, .int .i64 a2_6, .int .i64 a2_7, .int .i64 a2_8], .int .i64 a3, .int .i64 a4] w fun e w' => e = .returned (.bool r) ∧ Below w.heap.size w w' := by
 have hu23 := Try.underlying23
 have hu25 := Try.underlying25
 have hu30 := Try.underlying30
 have hu46 := Try.underlying46
 have HB := Aside0.mk (Below.refl w.heap.size w)
 have H : ((relievolaw03_alive.f k).bind fun t432 => (if t432 = true then ((side_Meet.f k a0_0 a0_1 a0_2 a1_0 a1_1 a1_2 a2_0 a2_1 a2_2 a2_3 a2_4 a2_5 a2_6 a2_7 a2_8).bind fun bt433 => (if bt433.2.2.2.2.2.2 = 0 then (if a3 < (-1000) then (relievolaw03_SideAlong.j0 k a3 a4 bt433.2.2.2.2.2.1 true a0_0 a0_1 a0_2 a1_0 a1_1 a1_2 a2_0 a2_1 a2_2 a2_3 a2_4 a2_5 a2_6 a2_7 a2_8 bt433.1 bt433.2.1 bt433.2.2.1 bt433.2.2.2.1 bt433.2.2.2.2.1) else (if a3 > 1000 then (relievolaw03_SideAlong.j0 k a3 a4 bt433.2.2.2.2.2.1 true a0_0 a0_1 a0_2 a1_0 a1_1 a1_2 a2_0 a2_1 a2_2 a2_3 a2_4 a2_5 a2_6 a2_7 a2_8 bt433.1 bt433.2.1 bt433.2.2.1 bt433.2.2.2.1 bt433.2.2.2.2.1) else (if a4 < (-1000) then (relievolaw03_SideAlong.j0 k a3 a4 bt433.2.2.2.2.2.1 true a0_0 a0_1 a0_2 a1_0 a1_1 a1_2 a2_0 a2_1 a2_2 a2_3 a2_4 a2_5 a2_6 a2_7 a2_8 bt433.1 bt433.2.1 bt433.2.2.1 bt433.2.2.2.1 bt433.2.2.2.2.1) else (if a4 > 1000 then (relievolaw03_SideAlong.j0 k a3 a4 bt433.2.2.2.2.2.1 true a0_0 a0_1 a0_2 a1_0 a1_1 a1_2 a2_0 a2_1 a2_2 a2_3 a2_4 a2_5 a2_6 a2_7 a2_8 bt433.1 bt433.2.1 bt433.2.2.1 bt433.2.2.2.1 bt433.2.2.2.2.1) else (relievolaw03_SideAlong.j0 k a3 a4 bt433.2.2.2.2.2.1 (a4 == 0) a0_0 a0_1 a0_2 a1_0 a1_1 a1_2 a2_0 a2_1 a2_2 a2_3 a2_4 a2_5 a2_6 a2_7 a2_8 bt433.1 bt433.2.1 bt433.2.2.1 bt433.2.2.2.1 bt433.2.2.2.2.1))))) else (relievolaw03_SideAlong.j0 k a3 a4 bt433.2.2.2.2.2.1 true a0_0 a0_1 a0_2 a1_0 a1_1 a1_2 a2_0 a2_1 a2_2 a2_3 a2_4 a2_5 a2_6 a2_7 a2_8 bt433.1 bt433.2.1 bt433.2.2.1 bt433.2.2.2.1 bt433.2.2.2.2.1))) else (some false))) = some r := h
 clear h
 replace H := Option.bind_eq_some_iff.mp H
 obtain ⟨t432, A60, H⟩ := H
 replace H : (if t432 = true then ((side_Meet.f k a0_0 a0_1 a0_2 a1_0 a1_1 a1_2 a2_0 a2_1 a2_2 a2_3 a2_4 a2_5 a2_6 a2_7 a2_8).bind fun bt433 => (if bt433.2.2.2.2.2.2 = 0 then (if a3 < (-1000) then (relievolaw03_SideAlong.j0 k a3 a4 bt433.2.2.2.2.2.1 true a0_0 a0_1 a0_2 a1_0 a1_1 a1_2 a2_0 a2_1 a2_2 a2_3 a2_4 a2_5 a2_6 a2_7 a2_8 bt433.1 bt433.2.1 bt433.2.2.1 bt433.2.2.2.1 bt433.2.2.2.2.1) else (if a3 > 1000 then (relievolaw03_SideAlong.j0 k a3 a4 bt433.2.2.2.2.2.1 true a0_0 a0_1 a0_2 a1_0 a1_1 a1_2 a2_0 a2_1 a2_2 a2_3 a2_4 a2_5 a2_6 a2_7 a2_8 bt433.1 bt433.2.1 bt433.2.2.1 bt433.2.2.2.1 bt433.2.2.2.2.1) else (if a4 < (-1000) then (relievolaw03_SideAlong.j0 k a3 a4 bt433.2.2.2.2.2.1 true a0_0 a0_1 a0_2 a1_0 a1_1 a1_2 a2_0 a2_1 a2_2 a2_3 a2_4 a2_5 a2_6 a2_7 a2_8 bt433.1 bt433.2.1 bt433.2.2.1 bt433.2.2.2.1 bt433.2.2.2.2.1) else (if a4 > 1000 then (relievolaw03_SideAlong.j0 k a3 a4 bt433.2.2.2.2.2.1 true a0_0 a0_1 a0_2 a1_0 a1_1 a1_2 a2_0 a2_1 a2_2 a2_3 a2_4 a2_5 a2_6 a2_7 a2_8 bt433.1 bt433.2.1 bt433.2.2.1 bt433.2.2.2.1 bt433.2.2.2.2.1) else (relievolaw03_SideAlong.j0 k a3 a4 bt433.2.2.2.2.2.1 (a4 == 0) a0_0 a0_1 a0_2 a1_0 a1_1 a1_2 a2_0 a2_1 a2_2 a2_3 a2_4 a2_5 a2_6 a2_7 a2_8 bt433.1 bt433.2.1 bt433.2.2.1 bt433.2.2.2.1 bt433.2.2.2.2.1))))) else (relievolaw03_SideAlong.j0 k a3 a4 bt433.2.2.2.2.2.1 true a0_0 a0_1 a0_2 a1_0 a1_1 a1_2 a2_0 a2_1 a2_2 a2_3 a2_4 a2_5 a2_6 a2_7 a2_8 bt433.1 bt433.2.1 bt433.2.2.1 bt433.2.2.2.1 bt433.2.2.2.2.1))) else (some false)) = some r := H
 have A6 := Aside0.mk A60
 clear A60
 by_cases c7 : t432 = true
 ·subst c7
  have H1 : ((side_Meet.f k a0_0 a0_1 a0_2 a1_0 a1_1 a1_2 a2_0 a2_1 a2_2 a2_3 a2_4 a2_5 a2_6 a2_7 a2_8).bind fun bt433 => (if bt433.2.2.2.2.2.2 = 0 then (if a3 < (-1000) then (relievolaw03_SideAlong.j0 k a3 a4 bt433.2.2.2.2.2.1 true a0_0 a0_1 a0_2 a1_0 a1_1 a1_2 a2_0 a2_1 a2_2 a2_3 a2_4 a2_5 a2_6 a2_7 a2_8 bt433.1 bt433.2.1 bt433.2.2.1 bt433.2.2.2.1 bt433.2.2.2.2.1) else (if a3 > 1000 then (relievolaw03_SideAlong.j0 k a3 a4 bt433.2.2.2.2.2.1 true a0_0 a0_1 a0_2 a1_0 a1_1 a1_2 a2_0 a2_1 a2_2 a2_3 a2_4 a2_5 a2_6 a2_7 a2_8 bt433.1 bt433.2.1 bt433.2.2.1 bt433.2.2.2.1 bt433.2.2.2.2.1) else (if a4 < (-1000) then (relievolaw03_SideAlong.j0 k a3 a4 bt433.2.2.2.2.2.1 true a0_0 a0_1 a0_2 a1_0 a1_1 a1_2 a2_0 a2_1 a2_2 a2_3 a2_4 a2_5 a2_6 a2_7 a2_8 bt433.1 bt433.2.1 bt433.2.2.1 bt433.2.2.2.1 bt433.2.2.2.2.1) else (if a4 > 1000 then (relievolaw03_SideAlong.j0 k a3 a4 bt433.2.2.2.2.2.1 true a0_0 a0_1 a0_2 a1_0 a1_1 a1_2 a2_0 a2_1 a2_2 a2_3 a2_4 a2_5 a2_6 a2_7 a2_8 bt433.1 bt433.2.1 bt433.2.2.1 bt433.2.2.2.1 bt433.2.2.2.2.1) else (relievolaw03_SideAlong.j0 k a3 a4 bt433.2.2.2.2.2.1 (a4 == 0) a0_0 a0_1 a0_2 a1_0 a1_1 a1_2 a2_0 a2_1 a2_2 a2_3 a2_4 a2_5 a2_6 a2_7 a2_8 bt433.1 bt433.2.1 bt433.2.2.1 bt433.2.2.2.1 bt433.2.2.2.2.1))))) else (relievolaw03_SideAlong.j0 k a3 a4 bt433.2.2.2.2.2.1 true a0_0 a0_1 a0_2 a1_0 a1_1 a1_2 a2_0 a2_1 a2_2 a2_3 a2_4 a2_5 a2_6 a2_7 a2_8 bt433.1 bt433.2.1 bt433.2.2.1 bt433.2.2.2.1 bt433.2.2.2.2.1))) = some r := by rw [if_pos rfl] at H; exact H
  clear H
  have H := H1
  clear H1
  replace H := Option.bind_eq_some_iff.mp H
  obtain ⟨⟨t433, t434, t435, t436, t437, t438, t439⟩, A80, H⟩ := H
  replace H : (if t439 = 0 then (if a3 < (-1000) then (relievolaw03_SideAlong.j0 k a3 a4 t438 true a0_0 a0_1 a0_2 a1_0 a1_1 a1_2 a2_0 a2_1 a2_2 a2_3 a2_4 a2_5 a2_6 a2_7 a2_8 t433 t434 t435 t436 t437) else (if a3 > 1000 then (relievolaw03_SideAlong.j0 k a3 a4 t438 true a0_0 a0_1 a0_2 a1_0 a1_1 a1_2 a2_0 a2_1 a2_2 a2_3 a2_4 a2_5 a2_6 a2_7 a2_8 t433 t434 t435 t436 t437) else (if a4 < (-1000) then (relievolaw03_SideAlong.j0 k a3 a4 t438 true a0_0 a0_1 a0_2 a1_0 a1_1 a1_2 a2_0 a2_1 a2_2 a2_3 a2_4 a2_5 a2_6 a2_7 a2_8 t433 t434 t435 t436 t437) else (if a4 > 1000 then (relievolaw03_SideAlong.j0 k a3 a4 t438 true a0_0 a0_1 a0_2 a1_0 a1_1 a1_2 a2_0 a2_1 a2_2 a2_3 a2_4 a2_5 a2_6 a2_7 a2_8 t433 t434 t435 t436 t437) else (relievolaw03_SideAlong.j0 k a3 a4 t438 (a4 == 0) a0_0 a0_1 a0_2 a1_0 a1_1 a1_2 a2_0 a2_1 a2_2 a2_3 a2_4 a2_5 a2_6 a2_7 a2_8 t433 t434 t435 t436 t437))))) else (relievolaw03_SideAlong.j0 k a3 a4 t438 true a0_0 a0_1 a0_2 a1_0 a1_1 a1_2 a2_0 a2_1 a2_2 a2_3 a2_4 a2_5 a2_6 a2_7 a2_8 t433 t434 t435 t436 t437)) = some r := H
  have A8 := Aside0.mk A80
  clear A80
  have HC9 := Aside0.mk H
  clear H
  go_enter Try.func8, Try.ntmps8
  go_upto_region 4 with (first | ((with_reducible refine gate_dst (N := 5) rfl ?_); refine box_event ?hg (N := 5) ?hd (cs := #[.int .i64 a0_0, .int .i64 a0_1, .int .i64 a0_2]) (t := 23) ?hr ?_; (case hd => rfl); (case hg => rfl); (case hr => first | (go_simp; done) | (go_simp; rfl)); intro gb429 hg w10 hbox hb; have BK429 := Aside0.mk (hbox); have GE429 := Aside0.mk (bG hg (HB.out)); replace HB := Aside0.mk (below_step (HB.out) hb); clear hb hbox hg) | ((with_reducible refine gate_dst (N := 6) rfl ?_); refine box_event ?hg (N := 6) ?hd (cs := #[.int .i64 a1_0, .int .i64 a1_1, .int .i64 a1_2]) (t := 23) ?hr ?_; (case hd => rfl); (case hg => rfl); (case hr => first | (go_simp; done) | (go_simp; rfl)); intro gb430 hg w11 hbox hb; have BK430 := Aside0.mk (hbox); have GE430 := Aside0.mk (bG hg (HB.out)); have NB429_430 := cN hg BK429; have NB430_429 := cM hg BK429; replace BK429 := cB hb BK429; replace HB := Aside0.mk (below_step (HB.out) hb); clear hb hbox hg) | ((with_reducible refine gate_dst (N := 7) rfl ?_); refine box_event ?hg (N := 7) ?hd (cs := #[.int .i64 a2_0, .int .i64 a2_1, .int .i64 a2_2, .int .i64 a2_3, .int .i64 a2_4, .int .i64 a2_5, .int .i64 a2_6, .int .i64 a2_7, .int .i64 a2_8]) (t := 25) ?hr ?_; (case hd => rfl); (case hg => rfl); (case hr => first | (go_simp; done) | (go_simp; rfl)); intro gb431 hg w12 hbox hb; have BK431 := Aside0.mk (hbox); have GE431 := Aside0.mk (bG hg (HB.out)); have NB429_431 := cN hg BK429; have NB431_429 := cM hg BK429; have NB430_431 := cN hg BK430; have NB431_430 := cM hg BK430; replace BK429 := cB hb BK429; replace BK430 := cB hb BK430; replace HB := Aside0.mk (below_step (HB.out) hb); clear hb hbox hg) | ((with_reducible refine gate_callee (f := 19) rfl ?_); refine goesL_ (some 19) rfl rfl Try.func19 (by kernel_rfl) rfl #[] rfl (by (try simp only [List.map_toArray, List.map_cons, List.map_nil]); first | done | rfl | (simp only [List.length_drop, List.length_take]; rfl)) ?_; (with_reducible refine (relievolaw03_alive.calls k  true _ A6.out).mono ?_); rintro e w13 ⟨rfl, hb⟩; refine ⟨_, rfl, ?_⟩; replace BK429 := cB hb BK429; replace BK430 := cB hb BK430; replace BK431 := cB hb BK431; replace HB := Aside0.mk (below_step (HB.out) hb); (try clear hb); (try clear hb2); (try clear hk); (try clear hi); obtain ⟨hcz14_0, hcz14_1, hcz14_2⟩ := cells3 BK429.out; obtain ⟨hcz15_0, hcz15_1, hcz15_2⟩ := cells3 BK430.out; obtain ⟨hcz16_0, hcz16_1, hcz16_2, hcz16_3, hcz16_4, hcz16_5, hcz16_6, hcz16_7, hcz16_8⟩ := cells9 BK431.out) | ((with_reducible refine gate_callee (f := 20) rfl ?_); refine goesL_ (some 25) rfl rfl Try.func20 (by kernel_rfl) rfl #[.agg #[.int .i64 a0_0, .int .i64 a0_1, .int .i64 a0_2], .agg #[.int .i64 a1_0, .int .i64 a1_1, .int .i64 a1_2], .agg #[.int .i64 a2_0, .int .i64 a2_1, .int .i64 a2_2, .int .i64 a2_3, .int .i64 a2_4, .int .i64 a2_5, .int .i64 a2_6, .int .i64 a2_7, .int .i64 a2_8]] rfl (by (try simp only [List.map_toArray, List.map_cons, List.map_nil]); first | done | rfl | (simp only [List.length_drop, List.length_take]; rfl)) ?_; (with_reducible refine (side_Meet.calls k a0_0 a0_1 a0_2 a1_0 a1_1 a1_2 a2_0 a2_1 a2_2 a2_3 a2_4 a2_5 a2_6 a2_7 a2_8 t433 t434 t435 t436 t437 t438 t439 _ A8.out).mono ?_); rintro e w17 ⟨rfl, hb⟩; refine ⟨_, rfl, ?_⟩; replace BK429 := cB hb BK429; replace BK430 := cB hb BK430; replace BK431 := cB hb BK431; replace HB := Aside0.mk (below_step (HB.out) hb); (try clear hb); (try clear hb2); (try clear hk); (try clear hi)) | ((with_reducible refine gate_dst (N := 11) rfl ?_); refine box_event ?hg (N := 11) ?hd (cs := #[.int .i64 0, .int .i64 0, .bool false, .int .i64 0, .int .i64 0]) (t := 30) ?hr ?_; (case hd => rfl); (case hg => rfl); (case hr => first | (go_simp; done) | (go_simp; rfl)); intro gb440 hg w18 hbox hb; have BK440 := Aside0.mk (hbox); have GE440 := Aside0.mk (bG hg (HB.out)); have NB429_440 := cN hg BK429; have NB440_429 := cM hg BK429; have NB430_440 := cN hg BK430; have NB440_430 := cM hg BK430; have NB431_440 := cN hg BK431; have NB440_431 := cM hg BK431; replace BK429 := cB hb BK429; replace BK430 := cB hb BK430; replace BK431 := cB hb BK431; replace HB := Aside0.mk (below_step (HB.out) hb); clear hb hbox hg; have hnb19 := NB440_429.out; have hnc19 := NB429_440.out; have hnb20 := NB440_430.out; have hnc20 := NB430_440.out; have hnb21 := NB440_431.out; have hnc21 := NB431_440.out; obtain ⟨hcz22_0, hcz22_1, hcz22_2, hcz22_3, hcz22_4⟩ := cells5 BK440.out; have hfz22_0 := blk_frozen BK440.out 0; have hfz22_1 := blk_frozen BK440.out 1; have hfz22_2 := blk_frozen BK440.out 2; have hfz22_3 := blk_frozen BK440.out 3; have hfz22_4 := blk_frozen BK440.out 4))
  (try simp only [Act.put, List.setIfInBounds_toArray, List.set_cons_zero, List.set_cons_succ])
  go_cut [50] (fun v50 wc => ∃ (kq : Nat) (x50_8 : Bool), v50 = .bool x50_8 ∧ Aside0 (relievolaw03_SideAlong.j0 kq a3 a4 t438 x50_8 a0_0 a0_1 a0_2 a1_0 a1_1 a1_2 a2_0 a2_1 a2_2 a2_3 a2_4 a2_5 a2_6 a2_7 a2_8 t433 t434 t435 t436 t437 = some r) ∧ Aside0 (kq ≤ k) ∧ Aside0 (wc.heap[gb429]? = some (.cells #[.int .i64 a0_0, .int .i64 a0_1, .int .i64 a0_2] 23 (0, 0))) ∧ Aside0 (wc.heap[gb430]? = some (.cells #[.int .i64 a1_0, .int .i64 a1_1, .int .i64 a1_2] 23 (0, 0))) ∧ Aside0 (wc.heap[gb431]? = some (.cells #[.int .i64 a2_0, .int .i64 a2_1, .int .i64 a2_2, .int .i64 a2_3, .int .i64 a2_4, .int .i64 a2_5, .int .i64 a2_6, .int .i64 a2_7, .int .i64 a2_8] 25 (0, 0))) ∧ Aside0 (wc.heap[gb440]? = some (.cells #[.int .i64 t433, .int .i64 t434, .bool t435, .int .i64 t436, .int .i64 t437] 30 (0, 0))) ∧ Aside0 (Below w.heap.size w wc))
  case first =>
   have H := HC9.out
   clear HC9
   by_cases c23 : t439 = 0
   ·rw [if_pos c23] at H
    have c23b0 : (t439 == 0) = true := beq_iff_eq.mpr c23
    have c23b1 : (t439 != 0) = false := bne_eq_false_iff_eq.mpr c23
    clear c23
    (first | rw [c23b0] | (simp only [i64_w, i32_w]; rw [c23b0]) | skip)
    by_cases c24 : a3 < (-1000)
    ·rw [if_pos c24] at H
     have c24b0 : decide (a3 < (-1000)) = true := decide_eq_true c24
     clear c24
     have H' := Aside0.mk H
     clear H
     go_wp2
     go_meet
     case rel => exact ⟨_, (true), (by first | rfl | (simp; done) | (simp [*]; done)), H', ⟨by first | omega | exact Nat.le_refl _⟩, ⟨(blk_far (blk_far (blk_far (blk_far (blk_far BK429.out NB429_440.out _) NB429_440.out _) NB429_440.out _) NB429_440.out _) NB429_440.out _)⟩, ⟨(blk_far (blk_far (blk_far (blk_far (blk_far BK430.out NB430_440.out _) NB430_440.out _) NB430_440.out _) NB430_440.out _) NB430_440.out _)⟩, ⟨(blk_far (blk_far (blk_far (blk_far (blk_far BK431.out NB431_440.out _) NB431_440.out _) NB431_440.out _) NB431_440.out _) NB431_440.out _)⟩, ⟨(blk_put (cs' := #[.int .i64 t433, .int .i64 t434, .bool t435, .int .i64 t436, .int .i64 t437]) (blk_put (blk_put (blk_put (blk_put BK440.out 0 _ rfl) 1 _ rfl) 2 _ rfl) 3 _ rfl) 4 _ rfl)⟩, ⟨(below_set (below_set (below_set (below_set (below_set HB.out GE440.out) GE440.out) GE440.out) GE440.out) GE440.out)⟩⟩
    rw [if_neg c24] at H
    have c24b0 : decide (a3 < (-1000)) = false := decide_eq_false c24
    clear c24
    by_cases c25 : a3 > 1000
    ·rw [if_pos c25] at H
     have c25b0 : decide (1000 < a3) = true := decide_eq_true c25
     clear c25
     have H' := Aside0.mk H
     clear H
     go_wp2
     go_meet
     case rel => exact ⟨_, (true), (by first | rfl | (simp; done) | (simp [*]; done)), H', ⟨by first | omega | exact Nat.le_refl _⟩, ⟨(blk_far (blk_far (blk_far (blk_far (blk_far BK429.out NB429_440.out _) NB429_440.out _) NB429_440.out _) NB429_440.out _) NB429_440.out _)⟩, ⟨(blk_far (blk_far (blk_far (blk_far (blk_far BK430.out NB430_440.out _) NB430_440.out _) NB430_440.out _) NB430_440.out _) NB430_440.out _)⟩, ⟨(blk_far (blk_far (blk_far (blk_far (blk_far BK431.out NB431_440.out _) NB431_440.out _) NB431_440.out _) NB431_440.out _) NB431_440.out _)⟩, ⟨(blk_put (cs' := #[.int .i64 t433, .int .i64 t434, .bool t435, .int .i64 t436, .int .i64 t437]) (blk_put (blk_put (blk_put (blk_put BK440.out 0 _ rfl) 1 _ rfl) 2 _ rfl) 3 _ rfl) 4 _ rfl)⟩, ⟨(below_set (below_set (below_set (below_set (below_set HB.out GE440.out) GE440.out) GE440.out) GE440.out) GE440.out)⟩⟩
    rw [if_neg c25] at H
    have c25b0 : decide (1000 < a3) = false := decide_eq_false c25
    clear c25
    by_cases c26 : a4 < (-1000)
    ·rw [if_pos c26] at H
     have c26b0 : decide (a4 < (-1000)) = true := decide_eq_true c26
     clear c26
     have H' := Aside0.mk H
     clear H
     go_wp2
     go_meet
     case rel => exact ⟨_, (true), (by first | rfl | (simp; done) | (simp [*]; done)), H', ⟨by first | omega | exact Nat.le_refl _⟩, ⟨(blk_far (blk_far (blk_far (blk_far (blk_far BK429.out NB429_440.out _) NB429_440.out _) NB429_440.out _) NB429_440.out _) NB429_440.out _)⟩, ⟨(blk_far (blk_far (blk_far (blk_far (blk_far BK430.out NB430_440.out _) NB430_440.out _) NB430_440.out _) NB430_440.out _) NB430_440.out _)⟩, ⟨(blk_far (blk_far (blk_far (blk_far (blk_far BK431.out NB431_440.out _) NB431_440.out _) NB431_440.out _) NB431_440.out _) NB431_440.out _)⟩, ⟨(blk_put (cs' := #[.int .i64 t433, .int .i64 t434, .bool t435, .int .i64 t436, .int .i64 t437]) (blk_put (blk_put (blk_put (blk_put BK440.out 0 _ rfl) 1 _ rfl) 2 _ rfl) 3 _ rfl) 4 _ rfl)⟩, ⟨(below_set (below_set (below_set (below_set (below_set HB.out GE440.out) GE440.out) GE440.out) GE440.out) GE440.out)⟩⟩
    rw [if_neg c26] at H
    have c26b0 : decide (a4 < (-1000)) = false := decide_eq_false c26
    clear c26
    by_cases c27 : a4 > 1000
    ·rw [if_pos c27] at H
     have c27b0 : decide (1000 < a4) = true := decide_eq_true c27
     clear c27
     have H' := Aside0.mk H
     clear H
     go_wp2
     go_meet
     case rel => exact ⟨_, (true), (by first | rfl | (simp; done) | (simp [*]; done)), H', ⟨by first | omega | exact Nat.le_refl _⟩, ⟨(blk_far (blk_far (blk_far (blk_far (blk_far BK429.out NB429_440.out _) NB429_440.out _) NB429_440.out _) NB429_440.out _) NB429_440.out _)⟩, ⟨(blk_far (blk_far (blk_far (blk_far (blk_far BK430.out NB430_440.out _) NB430_440.out _) NB430_440.out _) NB430_440.out _) NB430_440.out _)⟩, ⟨(blk_far (blk_far (blk_far (blk_far (blk_far BK431.out NB431_440.out _) NB431_440.out _) NB431_440.out _) NB431_440.out _) NB431_440.out _)⟩, ⟨(blk_put (cs' := #[.int .i64 t433, .int .i64 t434, .bool t435, .int .i64 t436, .int .i64 t437]) (blk_put (blk_put (blk_put (blk_put BK440.out 0 _ rfl) 1 _ rfl) 2 _ rfl) 3 _ rfl) 4 _ rfl)⟩, ⟨(below_set (below_set (below_set (below_set (below_set HB.out GE440.out) GE440.out) GE440.out) GE440.out) GE440.out)⟩⟩
    rw [if_neg c27] at H
    have c27b0 : decide (1000 < a4) = false := decide_eq_false c27
    clear c27
    have H' := Aside0.mk H
    clear H
    go_wp2
    go_meet
    case rel => exact ⟨_, ((a4 == 0)), (by first | rfl | (simp; done) | (simp [*]; done)), H', ⟨by first | omega | exact Nat.le_refl _⟩, ⟨(blk_far (blk_far (blk_far (blk_far (blk_far BK429.out NB429_440.out _) NB429_440.out _) NB429_440.out _) NB429_440.out _) NB429_440.out _)⟩, ⟨(blk_far (blk_far (blk_far (blk_far (blk_far BK430.out NB430_440.out _) NB430_440.out _) NB430_440.out _) NB430_440.out _) NB430_440.out _)⟩, ⟨(blk_far (blk_far (blk_far (blk_far (blk_far BK431.out NB431_440.out _) NB431_440.out _) NB431_440.out _) NB431_440.out _) NB431_440.out _)⟩, ⟨(blk_put (cs' := #[.int .i64 t433, .int .i64 t434, .bool t435, .int .i64 t436, .int .i64 t437]) (blk_put (blk_put (blk_put (blk_put BK440.out 0 _ rfl) 1 _ rfl) 2 _ rfl) 3 _ rfl) 4 _ rfl)⟩, ⟨(below_set (below_set (below_set (below_set (below_set HB.out GE440.out) GE440.out) GE440.out) GE440.out) GE440.out)⟩⟩
   rw [if_neg c23] at H
   have c23b0 : (t439 == 0) = false := beq_eq_false_iff_ne.mpr c23
   have c23b1 : (t439 != 0) = true := bne_iff_ne.mpr c23
   (first | rw [c23b0] | (simp only [i64_w, i32_w]; rw [c23b0]) | skip)
   have H' := Aside0.mk H
   clear H
   go_wp2
   go_meet
   case rel => exact ⟨_, (true), (by first | rfl | (simp; done) | (simp [*]; done)), H', ⟨by first | omega | exact Nat.le_refl _⟩, ⟨(blk_far (blk_far (blk_far (blk_far (blk_far BK429.out NB429_440.out _) NB429_440.out _) NB429_440.out _) NB429_440.out _) NB429_440.out _)⟩, ⟨(blk_far (blk_far (blk_far (blk_far (blk_far BK430.out NB430_440.out _) NB430_440.out _) NB430_440.out _) NB430_440.out _) NB430_440.out _)⟩, ⟨(blk_far (blk_far (blk_far (blk_far (blk_far BK431.out NB431_440.out _) NB431_440.out _) NB431_440.out _) NB431_440.out _) NB431_440.out _)⟩, ⟨(blk_put (cs' := #[.int .i64 t433, .int .i64 t434, .bool t435, .int .i64 t436, .int .i64 t437]) (blk_put (blk_put (blk_put (blk_put BK440.out 0 _ rfl) 1 _ rfl) 2 _ rfl) 3 _ rfl) 4 _ rfl)⟩, ⟨(below_set (below_set (below_set (below_set (below_set HB.out GE440.out) GE440.out) GE440.out) GE440.out) GE440.out)⟩⟩
  clear HC9
  try clear c7
  try clear hcz14_0
  try clear hcz14_1
  try clear hcz14_2
  try clear hcz15_0
  try clear hcz15_1
  try clear hcz15_2
  try clear hcz16_0
  try clear hcz16_1
  try clear hcz16_2
  try clear hcz16_3
  try clear hcz16_4
  try clear hcz16_5
  try clear hcz16_6
  try clear hcz16_7
  try clear hcz16_8
  try clear hcz22_0
  try clear hcz22_1
  try clear hcz22_2
  try clear hcz22_3
  try clear hcz22_4
  try clear hfz22_0
  try clear hfz22_1
  try clear hfz22_2
  try clear hfz22_3
  try clear hfz22_4
  obtain ⟨kq, x50_8, rfl, HA, HJ8, BK429, BK430, BK431, BK440, HB⟩ := hcut
  cases kq with
  | zero => exact absurd HA.out (by simp [relievolaw03_SideAlong.j0])
  | succ kj8 =>
   have H := HA.out
   clear HA
   simp only [relievolaw03_SideAlong.j0] at H
   by_cases c28 : x50_8 = true
   ·subst c28
    have H1 : (some true) = some r := by rw [if_pos rfl] at H; exact H
    clear H
    have H := H1
    clear H1
    obtain rfl := Option.some.inj H
    go_wp2
    go_ret
    exact ⟨by first | rfl | (simp [errW_none, errW_some] <;> rfl) | (simp [*, errW_none, errW_some] <;> rfl), HB.out⟩
   replace c28 := Bool.eq_false_iff.mpr c28
   subst c28
   have H1 : ((relievoref02_Scale.f a1_0 a1_1 a1_2 a3).bind fun bt441 => ((relievoref02_Add.f a0_0 a0_1 a0_2 bt441.1 bt441.2.1 bt441.2.2).bind fun bt444 => ((relievoref02_Scale.f a1_0 a1_1 a1_2 a4).bind fun bt447 => ((side_Meet.f kj8 bt444.1 bt444.2.1 bt444.2.2 bt447.1 bt447.2.1 bt447.2.2 a2_0 a2_1 a2_2 a2_3 a2_4 a2_5 a2_6 a2_7 a2_8).bind fun bt450 => (if bt450.2.2.2.2.2.2 = 0 then (relievolaw03_SideAlong.j1 kj8 a3 a4 t438 bt450.2.2.2.2.2.1 t433 t434 t435 t436 t437 bt450.1 bt450.2.1 bt450.2.2.1 bt450.2.2.2.1 bt450.2.2.2.2.1) else (some true)))))) = some r := by rw [if_neg (show ¬ (false = true) by decide)] at H; exact H
   clear H
   have H := H1
   clear H1
   replace H := Option.bind_eq_some_iff.mp H
   obtain ⟨⟨t441, t442, t443⟩, A290, H⟩ := H
   replace H : ((relievoref02_Add.f a0_0 a0_1 a0_2 t441 t442 t443).bind fun bt444 => ((relievoref02_Scale.f a1_0 a1_1 a1_2 a4).bind fun bt447 => ((side_Meet.f kj8 bt444.1 bt444.2.1 bt444.2.2 bt447.1 bt447.2.1 bt447.2.2 a2_0 a2_1 a2_2 a2_3 a2_4 a2_5 a2_6 a2_7 a2_8).bind fun bt450 => (if bt450.2.2.2.2.2.2 = 0 then (relievolaw03_SideAlong.j1 kj8 a3 a4 t438 bt450.2.2.2.2.2.1 t433 t434 t435 t436 t437 bt450.1 bt450.2.1 bt450.2.2.1 bt450.2.2.2.1 bt450.2.2.2.2.1) else (some true))))) = some r := H
   have A29 := Aside0.mk A290
   clear A290
   replace H := Option.bind_eq_some_iff.mp H
   obtain ⟨⟨t444, t445, t446⟩, A300, H⟩ := H
   replace H : ((relievoref02_Scale.f a1_0 a1_1 a1_2 a4).bind fun bt447 => ((side_Meet.f kj8 t444 t445 t446 bt447.1 bt447.2.1 bt447.2.2 a2_0 a2_1 a2_2 a2_3 a2_4 a2_5 a2_6 a2_7 a2_8).bind fun bt450 => (if bt450.2.2.2.2.2.2 = 0 then (relievolaw03_SideAlong.j1 kj8 a3 a4 t438 bt450.2.2.2.2.2.1 t433 t434 t435 t436 t437 bt450.1 bt450.2.1 bt450.2.2.1 bt450.2.2.2.1 bt450.2.2.2.2.1) else (some true)))) = some r := H
   have A30 := Aside0.mk A300
   clear A300
   replace H := Option.bind_eq_some_iff.mp H
   obtain ⟨⟨t447, t448, t449⟩, A310, H⟩ := H
   replace H : ((side_Meet.f kj8 t444 t445 t446 t447 t448 t449 a2_0 a2_1 a2_2 a2_3 a2_4 a2_5 a2_6 a2_7 a2_8).bind fun bt450 => (if bt450.2.2.2.2.2.2 = 0 then (relievolaw03_SideAlong.j1 kj8 a3 a4 t438 bt450.2.2.2.2.2.1 t433 t434 t435 t436 t437 bt450.1 bt450.2.1 bt450.2.2.1 bt450.2.2.2.1 bt450.2.2.2.2.1) else (some true))) = some r := H
   have A31 := Aside0.mk A310
   clear A310
   replace H := Option.bind_eq_some_iff.mp H
   obtain ⟨⟨t450, t451, t452, t453, t454, t455, t456⟩, A320, H⟩ := H
   replace H : (if t456 = 0 then (relievolaw03_SideAlong.j1 kj8 a3 a4 t438 t455 t433 t434 t435 t436 t437 t450 t451 t452 t453 t454) else (some true)) = some r := H
   have A32 := Aside0.mk A320
   clear A320
   have HC33 := Aside0.mk H
   clear H
   try go_wp2
   replace BK429 := Aside0.mk (blk_drew BK429.out)
   replace BK430 := Aside0.mk (blk_drew BK430.out)
   replace BK431 := Aside0.mk (blk_drew BK431.out)
   replace BK440 := Aside0.mk (blk_drew BK440.out)
   replace HB := Aside0.mk (below_drew1 HB.out)
   refine start_ (n := 18) (S := fun w' => w'.cell? ⟨gb429, 0, none⟩ = some (.int .i64 a0_0) ∧ w'.cell? ⟨gb429, 1, none⟩ = some (.int .i64 a0_1) ∧ w'.cell? ⟨gb429, 2, none⟩ = some (.int .i64 a0_2) ∧ w'.cell? ⟨gb430, 0, none⟩ = some (.int .i64 a1_0) ∧ w'.cell? ⟨gb430, 1, none⟩ = some (.int .i64 a1_1) ∧ w'.cell? ⟨gb430, 2, none⟩ = some (.int .i64 a1_2) ∧ w'.cell? ⟨gb431, 0, none⟩ = some (.int .i64 a2_0) ∧ w'.cell? ⟨gb431, 1, none⟩ = some (.int .i64 a2_1) ∧ w'.cell? ⟨gb431, 2, none⟩ = some (.int .i64 a2_2) ∧ w'.cell? ⟨gb431, 3, none⟩ = some (.int .i64 a2_3) ∧ w'.cell? ⟨gb431, 4, none⟩ = some (.int .i64 a2_4) ∧ w'.cell? ⟨gb431, 5, none⟩ = some (.int .i64 a2_5) ∧ w'.cell? ⟨gb431, 6, none⟩ = some (.int .i64 a2_6) ∧ w'.cell? ⟨gb431, 7, none⟩ = some (.int .i64 a2_7) ∧ w'.cell? ⟨gb431, 8, none⟩ = some (.int .i64 a2_8)) (ds := []) #[false, false, false, false, false, false, false, false, false, false, false, false, false, false, false, false, false, false] (by kernel_rfl) rfl rfl ⟨(blk_cell BK429.out 0).trans rfl, (blk_cell BK429.out 1).trans rfl, (blk_cell BK429.out 2).trans rfl, (blk_cell BK430.out 0).trans rfl, (blk_cell BK430.out 1).trans rfl, (blk_cell BK430.out 2).trans rfl, (blk_cell BK431.out 0).trans rfl, (blk_cell BK431.out 1).trans rfl, (blk_cell BK431.out 2).trans rfl, (blk_cell BK431.out 3).trans rfl, (blk_cell BK431.out 4).trans rfl, (blk_cell BK431.out 5).trans rfl, (blk_cell BK431.out 6).trans rfl, (blk_cell BK431.out 7).trans rfl, (blk_cell BK431.out 8).trans rfl⟩ (fun hHeld => ?_); refine with_tabW relievolaw03_SideAlong.tab6 relievolaw03_SideAlong.bits6 (fun HT_ HW_ => ?_)
   generalize wc.drew = w34 at BK429 BK430 BK431 BK440 HB hHeld ⊢
   refine pure_ (i := 2) (N := some 54) (v := ?_) (a' := ?_) #[false, false, true, false, false, false, false, false, false, false, false, false, false, false, false, false, false, false] rfl rfl (any_of HT_.out (by kernel_rfl)) (fun _ _ _ h => h) (Or.inl ⟨by rfl, ?_⟩) ?_ ?_
   rotate_left
   ·intro w'
    go_simp
    with_reducible rfl
   rotate_left
   ·simp only [Act.put, List.setIfInBounds_toArray, List.set_cons_zero, List.set_cons_succ, i64_w, i32_w]
    rfl
   refine pure_ (i := 6) (N := some 58) (v := ?_) (a' := ?_) #[false, false, true, false, false, false, true, false, false, false, false, false, false, false, false, false, false, false] rfl rfl (any_of HT_.out (by kernel_rfl)) (fun _ _ _ h => h) (Or.inl ⟨by rfl, ?_⟩) ?_ ?_
   rotate_left
   ·intro w'
    go_simp
    with_reducible rfl
   rotate_left
   ·simp only [Act.put, List.setIfInBounds_toArray, List.set_cons_zero, List.set_cons_succ, i64_w, i32_w]
    rfl
   refine take_ (i := 0) (N := some 52) (v := ?_) (a' := ?_) #[true, false, true, false, false, false, true, false, false, false, false, false, false, false, false, false, false, false] rfl rfl (take_ofW HT_.out HW_.out (by kernel_rfl)) (fun _ _ _ h => h) (Or.inl ⟨by rfl, ?_⟩) hHeld ?_ ?_
   rotate_left
   ·rintro w' ⟨s0, s1, s2, s3, s4, s5, s6, s7, s8, s9, s10, s11, s12, s13, s14⟩
    go_simp
    with_reducible rfl
   rotate_left
   ·simp only [Act.put, List.setIfInBounds_toArray, List.set_cons_zero, List.set_cons_succ, i64_w, i32_w]
    rfl
   refine take_ (i := 1) (N := some 53) (v := ?_) (a' := ?_) #[true, true, true, false, false, false, true, false, false, false, false, false, false, false, false, false, false, false] rfl rfl (take_ofW HT_.out HW_.out (by kernel_rfl)) (fun _ _ _ h => h) (Or.inl ⟨by rfl, ?_⟩) hHeld ?_ ?_
   rotate_left
   ·rintro w' ⟨s0, s1, s2, s3, s4, s5, s6, s7, s8, s9, s10, s11, s12, s13, s14⟩
    go_simp
    with_reducible rfl
   rotate_left
   ·simp only [Act.put, List.setIfInBounds_toArray, List.set_cons_zero, List.set_cons_succ, i64_w, i32_w]
    rfl
   refine take_ (i := 5) (N := some 57) (v := ?_) (a' := ?_) #[true, true, true, false, false, true, true, false, false, false, false, false, false, false, false, false, false, false] rfl rfl (take_ofW HT_.out HW_.out (by kernel_rfl)) (fun _ _ _ h => h) (Or.inl ⟨by rfl, ?_⟩) hHeld ?_ ?_
   rotate_left
   ·rintro w' ⟨s0, s1, s2, s3, s4, s5, s6, s7, s8, s9, s10, s11, s12, s13, s14⟩
    go_simp
    with_reducible rfl
   rotate_left
   ·simp only [Act.put, List.setIfInBounds_toArray, List.set_cons_zero, List.set_cons_succ, i64_w, i32_w]
    rfl
   refine take_ (i := 8) (N := some 60) (v := ?_) (a' := ?_) #[true, true, true, false, false, true, true, false, true, false, false, false, false, false, false, false, false, false] rfl rfl (take_ofW HT_.out HW_.out (by kernel_rfl)) (fun _ _ _ h => h) (Or.inl ⟨by rfl, ?_⟩) hHeld ?_ ?_
   rotate_left
   ·rintro w' ⟨s0, s1, s2, s3, s4, s5, s6, s7, s8, s9, s10, s11, s12, s13, s14⟩
    go_simp
    with_reducible rfl
   rotate_left
   ·simp only [Act.put, List.setIfInBounds_toArray, List.set_cons_zero, List.set_cons_succ, i64_w, i32_w]
    rfl
   refine join_ (σ := Nat) 3 #[true, true, true, true, true, true, true, true, true, true, true, true, true, true, true, false, false, false] (fun s_ => [(55, .agg #[.int .i64 t441, .int .i64 t442, .int .i64 t443]), (56, .agg #[.int .i64 t444, .int .i64 t445, .int .i64 t446]), (59, .agg #[.int .i64 t447, .int .i64 t448, .int .i64 t449]), (61, .tuple #[.agg #[.int .i64 t450, .int .i64 t451, .bool t452, .int .i64 t453, .int .i64 t454], .bool t455, .int .i64 t456]), (14, .pointer (some ⟨s_, 0, none⟩)), (51, .tuple #[.agg #[.int .i64 t450, .int .i64 t451, .bool t452, .int .i64 t453, .int .i64 t454], .bool t455, .int .i64 t456]), (62, .agg #[.int .i64 t450, .int .i64 t451, .bool t452, .int .i64 t453, .int .i64 t454]), (63, .bool t455), (64, .int .i64 t456)]) (fun s_ w' => (w'.cell? ⟨gb429, 0, none⟩ = some (.int .i64 a0_0) ∧ w'.cell? ⟨gb429, 1, none⟩ = some (.int .i64 a0_1) ∧ w'.cell? ⟨gb429, 2, none⟩ = some (.int .i64 a0_2) ∧ w'.cell? ⟨gb430, 0, none⟩ = some (.int .i64 a1_0) ∧ w'.cell? ⟨gb430, 1, none⟩ = some (.int .i64 a1_1) ∧ w'.cell? ⟨gb430, 2, none⟩ = some (.int .i64 a1_2) ∧ w'.cell? ⟨gb431, 0, none⟩ = some (.int .i64 a2_0) ∧ w'.cell? ⟨gb431, 1, none⟩ = some (.int .i64 a2_1) ∧ w'.cell? ⟨gb431, 2, none⟩ = some (.int .i64 a2_2) ∧ w'.cell? ⟨gb431, 3, none⟩ = some (.int .i64 a2_3) ∧ w'.cell? ⟨gb431, 4, none⟩ = some (.int .i64 a2_4) ∧ w'.cell? ⟨gb431, 5, none⟩ = some (.int .i64 a2_5) ∧ w'.cell? ⟨gb431, 6, none⟩ = some (.int .i64 a2_6) ∧ w'.cell? ⟨gb431, 7, none⟩ = some (.int .i64 a2_7) ∧ w'.cell? ⟨gb431, 8, none⟩ = some (.int .i64 a2_8)) ∧ (w'.heap[gb429]? = some (.cells #[.int .i64 a0_0, .int .i64 a0_1, .int .i64 a0_2] 23 (0, 0))) ∧ (w'.heap[gb430]? = some (.cells #[.int .i64 a1_0, .int .i64 a1_1, .int .i64 a1_2] 23 (0, 0))) ∧ (w'.heap[gb431]? = some (.cells #[.int .i64 a2_0, .int .i64 a2_1, .int .i64 a2_2, .int .i64 a2_3, .int .i64 a2_4, .int .i64 a2_5, .int .i64 a2_6, .int .i64 a2_7, .int .i64 a2_8] 25 (0, 0))) ∧ (w'.heap[gb440]? = some (.cells #[.int .i64 t433, .int .i64 t434, .bool t435, .int .i64 t436, .int .i64 t437] 30 (0, 0))) ∧ (w'.heap[s_]? = some (.cells #[.int .i64 0, .int .i64 0, .bool false, .int .i64 0, .int .i64 0] 30 (0, 0))) ∧ (w.heap.size ≤ s_) ∧ (gb429 ≠ s_) ∧ (s_ ≠ gb429) ∧ (gb430 ≠ s_) ∧ (s_ ≠ gb430) ∧ (gb431 ≠ s_) ∧ (s_ ≠ gb431) ∧ (gb440 ≠ s_) ∧ (s_ ≠ gb440) ∧ (Below w.heap.size w w')) ?_ ?_
   rotate_left
   ·intro hJ3_4_7_9_14
    refine join_ (σ := Unit) 4 #[true, true, true, true, true, true, true, true, true, true, true, true, true, true, false, false, false, false] (fun s_ => [(55, .agg #[.int .i64 t441, .int .i64 t442, .int .i64 t443]), (56, .agg #[.int .i64 t444, .int .i64 t445, .int .i64 t446]), (59, .agg #[.int .i64 t447, .int .i64 t448, .int .i64 t449]), (61, .tuple #[.agg #[.int .i64 t450, .int .i64 t451, .bool t452, .int .i64 t453, .int .i64 t454], .bool t455, .int .i64 t456]), (51, .tuple #[.agg #[.int .i64 t450, .int .i64 t451, .bool t452, .int .i64 t453, .int .i64 t454], .bool t455, .int .i64 t456]), (62, .agg #[.int .i64 t450, .int .i64 t451, .bool t452, .int .i64 t453, .int .i64 t454]), (63, .bool t455), (64, .int .i64 t456)]) (fun s_ w' => (w'.cell? ⟨gb429, 0, none⟩ = some (.int .i64 a0_0) ∧ w'.cell? ⟨gb429, 1, none⟩ = some (.int .i64 a0_1) ∧ w'.cell? ⟨gb429, 2, none⟩ = some (.int .i64 a0_2) ∧ w'.cell? ⟨gb430, 0, none⟩ = some (.int .i64 a1_0) ∧ w'.cell? ⟨gb430, 1, none⟩ = some (.int .i64 a1_1) ∧ w'.cell? ⟨gb430, 2, none⟩ = some (.int .i64 a1_2) ∧ w'.cell? ⟨gb431, 0, none⟩ = some (.int .i64 a2_0) ∧ w'.cell? ⟨gb431, 1, none⟩ = some (.int .i64 a2_1) ∧ w'.cell? ⟨gb431, 2, none⟩ = some (.int .i64 a2_2) ∧ w'.cell? ⟨gb431, 3, none⟩ = some (.int .i64 a2_3) ∧ w'.cell? ⟨gb431, 4, none⟩ = some (.int .i64 a2_4) ∧ w'.cell? ⟨gb431, 5, none⟩ = some (.int .i64 a2_5) ∧ w'.cell? ⟨gb431, 6, none⟩ = some (.int .i64 a2_6) ∧ w'.cell? ⟨gb431, 7, none⟩ = some (.int .i64 a2_7) ∧ w'.cell? ⟨gb431, 8, none⟩ = some (.int .i64 a2_8)) ∧ (w'.heap[gb429]? = some (.cells #[.int .i64 a0_0, .int .i64 a0_1, .int .i64 a0_2] 23 (0, 0))) ∧ (w'.heap[gb430]? = some (.cells #[.int .i64 a1_0, .int .i64 a1_1, .int .i64 a1_2] 23 (0, 0))) ∧ (w'.heap[gb431]? = some (.cells #[.int .i64 a2_0, .int .i64 a2_1, .int .i64 a2_2, .int .i64 a2_3, .int .i64 a2_4, .int .i64 a2_5, .int .i64 a2_6, .int .i64 a2_7, .int .i64 a2_8] 25 (0, 0))) ∧ (w'.heap[gb440]? = some (.cells #[.int .i64 t433, .int .i64 t434, .bool t435, .int .i64 t436, .int .i64 t437] 30 (0, 0))) ∧ (Below w.heap.size w w')) ?_ ?_
    rotate_left
    ·intro hJ3_4_7_9
     refine join_ (σ := Nat) 8 #[true, true, true, true, true, true, true, true, true, false, false, false, false, false, true, false, false, false] (fun s_ => [(55, .agg #[.int .i64 t441, .int .i64 t442, .int .i64 t443]), (56, .agg #[.int .i64 t444, .int .i64 t445, .int .i64 t446]), (59, .agg #[.int .i64 t447, .int .i64 t448, .int .i64 t449]), (14, .pointer (some ⟨s_, 0, none⟩))]) (fun s_ w' => (w'.cell? ⟨gb429, 0, none⟩ = some (.int .i64 a0_0) ∧ w'.cell? ⟨gb429, 1, none⟩ = some (.int .i64 a0_1) ∧ w'.cell? ⟨gb429, 2, none⟩ = some (.int .i64 a0_2) ∧ w'.cell? ⟨gb430, 0, none⟩ = some (.int .i64 a1_0) ∧ w'.cell? ⟨gb430, 1, none⟩ = some (.int .i64 a1_1) ∧ w'.cell? ⟨gb430, 2, none⟩ = some (.int .i64 a1_2) ∧ w'.cell? ⟨gb431, 0, none⟩ = some (.int .i64 a2_0) ∧ w'.cell? ⟨gb431, 1, none⟩ = some (.int .i64 a2_1) ∧ w'.cell? ⟨gb431, 2, none⟩ = some (.int .i64 a2_2) ∧ w'.cell? ⟨gb431, 3, none⟩ = some (.int .i64 a2_3) ∧ w'.cell? ⟨gb431, 4, none⟩ = some (.int .i64 a2_4) ∧ w'.cell? ⟨gb431, 5, none⟩ = some (.int .i64 a2_5) ∧ w'.cell? ⟨gb431, 6, none⟩ = some (.int .i64 a2_6) ∧ w'.cell? ⟨gb431, 7, none⟩ = some (.int .i64 a2_7) ∧ w'.cell? ⟨gb431, 8, none⟩ = some (.int .i64 a2_8)) ∧ (w'.heap[gb429]? = some (.cells #[.int .i64 a0_0, .int .i64 a0_1, .int .i64 a0_2] 23 (0, 0))) ∧ (w'.heap[gb430]? = some (.cells #[.int .i64 a1_0, .int .i64 a1_1, .int .i64 a1_2] 23 (0, 0))) ∧ (w'.heap[gb431]? = some (.cells #[.int .i64 a2_0, .int .i64 a2_1, .int .i64 a2_2, .int .i64 a2_3, .int .i64 a2_4, .int .i64 a2_5, .int .i64 a2_6, .int .i64 a2_7, .int .i64 a2_8] 25 (0, 0))) ∧ (w'.heap[gb440]? = some (.cells #[.int .i64 t433, .int .i64 t434, .bool t435, .int .i64 t436, .int .i64 t437] 30 (0, 0))) ∧ (w'.heap[s_]? = some (.cells #[.int .i64 0, .int .i64 0, .bool false, .int .i64 0, .int .i64 0] 30 (0, 0))) ∧ (w.heap.size ≤ s_) ∧ (gb429 ≠ s_) ∧ (s_ ≠ gb429) ∧ (gb430 ≠ s_) ∧ (s_ ≠ gb430) ∧ (gb431 ≠ s_) ∧ (s_ ≠ gb431) ∧ (gb440 ≠ s_) ∧ (s_ ≠ gb440) ∧ (Below w.heap.size w w')) ?_ ?_
     rotate_left
     ·intro hJ3_4_7_14
      refine join_ (σ := Unit) 9 #[true, true, true, true, true, true, true, true, true, false, false, false, false, false, false, false, false, false] (fun s_ => [(55, .agg #[.int .i64 t441, .int .i64 t442, .int .i64 t443]), (56, .agg #[.int .i64 t444, .int .i64 t445, .int .i64 t446]), (59, .agg #[.int .i64 t447, .int .i64 t448, .int .i64 t449])]) (fun s_ w' => (w'.cell? ⟨gb429, 0, none⟩ = some (.int .i64 a0_0) ∧ w'.cell? ⟨gb429, 1, none⟩ = some (.int .i64 a0_1) ∧ w'.cell? ⟨gb429, 2, none⟩ = some (.int .i64 a0_2) ∧ w'.cell? ⟨gb430, 0, none⟩ = some (.int .i64 a1_0) ∧ w'.cell? ⟨gb430, 1, none⟩ = some (.int .i64 a1_1) ∧ w'.cell? ⟨gb430, 2, none⟩ = some (.int .i64 a1_2) ∧ w'.cell? ⟨gb431, 0, none⟩ = some (.int .i64 a2_0) ∧ w'.cell? ⟨gb431, 1, none⟩ = some (.int .i64 a2_1) ∧ w'.cell? ⟨gb431, 2, none⟩ = some (.int .i64 a2_2) ∧ w'.cell? ⟨gb431, 3, none⟩ = some (.int .i64 a2_3) ∧ w'.cell? ⟨gb431, 4, none⟩ = some (.int .i64 a2_4) ∧ w'.cell? ⟨gb431, 5, none⟩ = some (.int .i64 a2_5) ∧ w'.cell? ⟨gb431, 6, none⟩ = some (.int .i64 a2_6) ∧ w'.cell? ⟨gb431, 7, none⟩ = some (.int .i64 a2_7) ∧ w'.cell? ⟨gb431, 8, none⟩ = some (.int .i64 a2_8)) ∧ (w'.heap[gb429]? = some (.cells #[.int .i64 a0_0, .int .i64 a0_1, .int .i64 a0_2] 23 (0, 0))) ∧ (w'.heap[gb430]? = some (.cells #[.int .i64 a1_0, .int .i64 a1_1, .int .i64 a1_2] 23 (0, 0))) ∧ (w'.heap[gb431]? = some (.cells #[.int .i64 a2_0, .int .i64 a2_1, .int .i64 a2_2, .int .i64 a2_3, .int .i64 a2_4, .int .i64 a2_5, .int .i64 a2_6, .int .i64 a2_7, .int .i64 a2_8] 25 (0, 0))) ∧ (w'.heap[gb440]? = some (.cells #[.int .i64 t433, .int .i64 t434, .bool t435, .int .i64 t436, .int .i64 t437] 30 (0, 0))) ∧ (Below w.heap.size w w')) ?_ ?_
      rotate_left
      ·intro hJ3_4_7
       refine join_ (σ := Nat) 9 #[true, true, true, true, true, true, true, false, true, false, false, false, false, false, true, false, false, false] (fun s_ => [(55, .agg #[.int .i64 t441, .int .i64 t442, .int .i64 t443]), (56, .agg #[.int .i64 t444, .int .i64 t445, .int .i64 t446]), (14, .pointer (some ⟨s_, 0, none⟩))]) (fun s_ w' => (w'.cell? ⟨gb429, 0, none⟩ = some (.int .i64 a0_0) ∧ w'.cell? ⟨gb429, 1, none⟩ = some (.int .i64 a0_1) ∧ w'.cell? ⟨gb429, 2, none⟩ = some (.int .i64 a0_2) ∧ w'.cell? ⟨gb430, 0, none⟩ = some (.int .i64 a1_0) ∧ w'.cell? ⟨gb430, 1, none⟩ = some (.int .i64 a1_1) ∧ w'.cell? ⟨gb430, 2, none⟩ = some (.int .i64 a1_2) ∧ w'.cell? ⟨gb431, 0, none⟩ = some (.int .i64 a2_0) ∧ w'.cell? ⟨gb431, 1, none⟩ = some (.int .i64 a2_1) ∧ w'.cell? ⟨gb431, 2, none⟩ = some (.int .i64 a2_2) ∧ w'.cell? ⟨gb431, 3, none⟩ = some (.int .i64 a2_3) ∧ w'.cell? ⟨gb431, 4, none⟩ = some (.int .i64 a2_4) ∧ w'.cell? ⟨gb431, 5, none⟩ = some (.int .i64 a2_5) ∧ w'.cell? ⟨gb431, 6, none⟩ = some (.int .i64 a2_6) ∧ w'.cell? ⟨gb431, 7, none⟩ = some (.int .i64 a2_7) ∧ w'.cell? ⟨gb431, 8, none⟩ = some (.int .i64 a2_8)) ∧ (w'.heap[gb429]? = some (.cells #[.int .i64 a0_0, .int .i64 a0_1, .int .i64 a0_2] 23 (0, 0))) ∧ (w'.heap[gb430]? = some (.cells #[.int .i64 a1_0, .int .i64 a1_1, .int .i64 a1_2] 23 (0, 0))) ∧ (w'.heap[gb431]? = some (.cells #[.int .i64 a2_0, .int .i64 a2_1, .int .i64 a2_2, .int .i64 a2_3, .int .i64 a2_4, .int .i64 a2_5, .int .i64 a2_6, .int .i64 a2_7, .int .i64 a2_8] 25 (0, 0))) ∧ (w'.heap[gb440]? = some (.cells #[.int .i64 t433, .int .i64 t434, .bool t435, .int .i64 t436, .int .i64 t437] 30 (0, 0))) ∧ (w'.heap[s_]? = some (.cells #[.int .i64 0, .int .i64 0, .bool false, .int .i64 0, .int .i64 0] 30 (0, 0))) ∧ (w.heap.size ≤ s_) ∧ (gb429 ≠ s_) ∧ (s_ ≠ gb429) ∧ (gb430 ≠ s_) ∧ (s_ ≠ gb430) ∧ (gb431 ≠ s_) ∧ (s_ ≠ gb431) ∧ (gb440 ≠ s_) ∧ (s_ ≠ gb440) ∧ (Below w.heap.size w w')) ?_ ?_
       rotate_left
       ·intro hJ3_4_14
        refine join_ (σ := Unit) 10 #[true, true, true, true, true, true, true, false, true, false, false, false, false, false, false, false, false, false] (fun s_ => [(55, .agg #[.int .i64 t441, .int .i64 t442, .int .i64 t443]), (56, .agg #[.int .i64 t444, .int .i64 t445, .int .i64 t446])]) (fun s_ w' => (w'.cell? ⟨gb429, 0, none⟩ = some (.int .i64 a0_0) ∧ w'.cell? ⟨gb429, 1, none⟩ = some (.int .i64 a0_1) ∧ w'.cell? ⟨gb429, 2, none⟩ = some (.int .i64 a0_2) ∧ w'.cell? ⟨gb430, 0, none⟩ = some (.int .i64 a1_0) ∧ w'.cell? ⟨gb430, 1, none⟩ = some (.int .i64 a1_1) ∧ w'.cell? ⟨gb430, 2, none⟩ = some (.int .i64 a1_2) ∧ w'.cell? ⟨gb431, 0, none⟩ = some (.int .i64 a2_0) ∧ w'.cell? ⟨gb431, 1, none⟩ = some (.int .i64 a2_1) ∧ w'.cell? ⟨gb431, 2, none⟩ = some (.int .i64 a2_2) ∧ w'.cell? ⟨gb431, 3, none⟩ = some (.int .i64 a2_3) ∧ w'.cell? ⟨gb431, 4, none⟩ = some (.int .i64 a2_4) ∧ w'.cell? ⟨gb431, 5, none⟩ = some (.int .i64 a2_5) ∧ w'.cell? ⟨gb431, 6, none⟩ = some (.int .i64 a2_6) ∧ w'.cell? ⟨gb431, 7, none⟩ = some (.int .i64 a2_7) ∧ w'.cell? ⟨gb431, 8, none⟩ = some (.int .i64 a2_8)) ∧ (w'.heap[gb429]? = some (.cells #[.int .i64 a0_0, .int .i64 a0_1, .int .i64 a0_2] 23 (0, 0))) ∧ (w'.heap[gb430]? = some (.cells #[.int .i64 a1_0, .int .i64 a1_1, .int .i64 a1_2] 23 (0, 0))) ∧ (w'.heap[gb431]? = some (.cells #[.int .i64 a2_0, .int .i64 a2_1, .int .i64 a2_2, .int .i64 a2_3, .int .i64 a2_4, .int .i64 a2_5, .int .i64 a2_6, .int .i64 a2_7, .int .i64 a2_8] 25 (0, 0))) ∧ (w'.heap[gb440]? = some (.cells #[.int .i64 t433, .int .i64 t434, .bool t435, .int .i64 t436, .int .i64 t437] 30 (0, 0))) ∧ (Below w.heap.size w w')) ?_ ?_
        rotate_left
        ·intro hJ3_4
         refine join_ (σ := Nat) 10 #[true, true, true, true, false, true, true, false, true, false, false, false, false, false, true, false, false, false] (fun s_ => [(55, .agg #[.int .i64 t441, .int .i64 t442, .int .i64 t443]), (14, .pointer (some ⟨s_, 0, none⟩))]) (fun s_ w' => (w'.cell? ⟨gb429, 0, none⟩ = some (.int .i64 a0_0) ∧ w'.cell? ⟨gb429, 1, none⟩ = some (.int .i64 a0_1) ∧ w'.cell? ⟨gb429, 2, none⟩ = some (.int .i64 a0_2) ∧ w'.cell? ⟨gb430, 0, none⟩ = some (.int .i64 a1_0) ∧ w'.cell? ⟨gb430, 1, none⟩ = some (.int .i64 a1_1) ∧ w'.cell? ⟨gb430, 2, none⟩ = some (.int .i64 a1_2) ∧ w'.cell? ⟨gb431, 0, none⟩ = some (.int .i64 a2_0) ∧ w'.cell? ⟨gb431, 1, none⟩ = some (.int .i64 a2_1) ∧ w'.cell? ⟨gb431, 2, none⟩ = some (.int .i64 a2_2) ∧ w'.cell? ⟨gb431, 3, none⟩ = some (.int .i64 a2_3) ∧ w'.cell? ⟨gb431, 4, none⟩ = some (.int .i64 a2_4) ∧ w'.cell? ⟨gb431, 5, none⟩ = some (.int .i64 a2_5) ∧ w'.cell? ⟨gb431, 6, none⟩ = some (.int .i64 a2_6) ∧ w'.cell? ⟨gb431, 7, none⟩ = some (.int .i64 a2_7) ∧ w'.cell? ⟨gb431, 8, none⟩ = some (.int .i64 a2_8)) ∧ (w'.heap[gb429]? = some (.cells #[.int .i64 a0_0, .int .i64 a0_1, .int .i64 a0_2] 23 (0, 0))) ∧ (w'.heap[gb430]? = some (.cells #[.int .i64 a1_0, .int .i64 a1_1, .int .i64 a1_2] 23 (0, 0))) ∧ (w'.heap[gb431]? = some (.cells #[.int .i64 a2_0, .int .i64 a2_1, .int .i64 a2_2, .int .i64 a2_3, .int .i64 a2_4, .int .i64 a2_5, .int .i64 a2_6, .int .i64 a2_7, .int .i64 a2_8] 25 (0, 0))) ∧ (w'.heap[gb440]? = some (.cells #[.int .i64 t433, .int .i64 t434, .bool t435, .int .i64 t436, .int .i64 t437] 30 (0, 0))) ∧ (w'.heap[s_]? = some (.cells #[.int .i64 0, .int .i64 0, .bool false, .int .i64 0, .int .i64 0] 30 (0, 0))) ∧ (w.heap.size ≤ s_) ∧ (gb429 ≠ s_) ∧ (s_ ≠ gb429) ∧ (gb430 ≠ s_) ∧ (s_ ≠ gb430) ∧ (gb431 ≠ s_) ∧ (s_ ≠ gb431) ∧ (gb440 ≠ s_) ∧ (s_ ≠ gb440) ∧ (Below w.heap.size w w')) ?_ ?_
         rotate_left
         ·intro hJ3_14
          refine join_ (σ := Unit) 11 #[true, true, true, true, false, true, true, false, true, false, false, false, false, false, false, false, false, false] (fun s_ => [(55, .agg #[.int .i64 t441, .int .i64 t442, .int .i64 t443])]) (fun s_ w' => (w'.cell? ⟨gb429, 0, none⟩ = some (.int .i64 a0_0) ∧ w'.cell? ⟨gb429, 1, none⟩ = some (.int .i64 a0_1) ∧ w'.cell? ⟨gb429, 2, none⟩ = some (.int .i64 a0_2) ∧ w'.cell? ⟨gb430, 0, none⟩ = some (.int .i64 a1_0) ∧ w'.cell? ⟨gb430, 1, none⟩ = some (.int .i64 a1_1) ∧ w'.cell? ⟨gb430, 2, none⟩ = some (.int .i64 a1_2) ∧ w'.cell? ⟨gb431, 0, none⟩ = some (.int .i64 a2_0) ∧ w'.cell? ⟨gb431, 1, none⟩ = some (.int .i64 a2_1) ∧ w'.cell? ⟨gb431, 2, none⟩ = some (.int .i64 a2_2) ∧ w'.cell? ⟨gb431, 3, none⟩ = some (.int .i64 a2_3) ∧ w'.cell? ⟨gb431, 4, none⟩ = some (.int .i64 a2_4) ∧ w'.cell? ⟨gb431, 5, none⟩ = some (.int .i64 a2_5) ∧ w'.cell? ⟨gb431, 6, none⟩ = some (.int .i64 a2_6) ∧ w'.cell? ⟨gb431, 7, none⟩ = some (.int .i64 a2_7) ∧ w'.cell? ⟨gb431, 8, none⟩ = some (.int .i64 a2_8)) ∧ (w'.heap[gb429]? = some (.cells #[.int .i64 a0_0, .int .i64 a0_1, .int .i64 a0_2] 23 (0, 0))) ∧ (w'.heap[gb430]? = some (.cells #[.int .i64 a1_0, .int .i64 a1_1, .int .i64 a1_2] 23 (0, 0))) ∧ (w'.heap[gb431]? = some (.cells #[.int .i64 a2_0, .int .i64 a2_1, .int .i64 a2_2, .int .i64 a2_3, .int .i64 a2_4, .int .i64 a2_5, .int .i64 a2_6, .int .i64 a2_7, .int .i64 a2_8] 25 (0, 0))) ∧ (w'.heap[gb440]? = some (.cells #[.int .i64 t433, .int .i64 t434, .bool t435, .int .i64 t436, .int .i64 t437] 30 (0, 0))) ∧ (Below w.heap.size w w')) ?_ ?_
          rotate_left
          ·intro hJ3
           refine join_ (σ := Nat) 11 #[true, true, true, false, false, true, true, false, true, false, false, false, false, false, true, false, false, false] (fun s_ => [(14, .pointer (some ⟨s_, 0, none⟩))]) (fun s_ w' => (w'.cell? ⟨gb429, 0, none⟩ = some (.int .i64 a0_0) ∧ w'.cell? ⟨gb429, 1, none⟩ = some (.int .i64 a0_1) ∧ w'.cell? ⟨gb429, 2, none⟩ = some (.int .i64 a0_2) ∧ w'.cell? ⟨gb430, 0, none⟩ = some (.int .i64 a1_0) ∧ w'.cell? ⟨gb430, 1, none⟩ = some (.int .i64 a1_1) ∧ w'.cell? ⟨gb430, 2, none⟩ = some (.int .i64 a1_2) ∧ w'.cell? ⟨gb431, 0, none⟩ = some (.int .i64 a2_0) ∧ w'.cell? ⟨gb431, 1, none⟩ = some (.int .i64 a2_1) ∧ w'.cell? ⟨gb431, 2, none⟩ = some (.int .i64 a2_2) ∧ w'.cell? ⟨gb431, 3, none⟩ = some (.int .i64 a2_3) ∧ w'.cell? ⟨gb431, 4, none⟩ = some (.int .i64 a2_4) ∧ w'.cell? ⟨gb431, 5, none⟩ = some (.int .i64 a2_5) ∧ w'.cell? ⟨gb431, 6, none⟩ = some (.int .i64 a2_6) ∧ w'.cell? ⟨gb431, 7, none⟩ = some (.int .i64 a2_7) ∧ w'.cell? ⟨gb431, 8, none⟩ = some (.int .i64 a2_8)) ∧ (w'.heap[gb429]? = some (.cells #[.int .i64 a0_0, .int .i64 a0_1, .int .i64 a0_2] 23 (0, 0))) ∧ (w'.heap[gb430]? = some (.cells #[.int .i64 a1_0, .int .i64 a1_1, .int .i64 a1_2] 23 (0, 0))) ∧ (w'.heap[gb431]? = some (.cells #[.int .i64 a2_0, .int .i64 a2_1, .int .i64 a2_2, .int .i64 a2_3, .int .i64 a2_4, .int .i64 a2_5, .int .i64 a2_6, .int .i64 a2_7, .int .i64 a2_8] 25 (0, 0))) ∧ (w'.heap[gb440]? = some (.cells #[.int .i64 t433, .int .i64 t434, .bool t435, .int .i64 t436, .int .i64 t437] 30 (0, 0))) ∧ (w'.heap[s_]? = some (.cells #[.int .i64 0, .int .i64 0, .bool false, .int .i64 0, .int .i64 0] 30 (0, 0))) ∧ (w.heap.size ≤ s_) ∧ (gb429 ≠ s_) ∧ (s_ ≠ gb429) ∧ (gb430 ≠ s_) ∧ (s_ ≠ gb430) ∧ (gb431 ≠ s_) ∧ (s_ ≠ gb431) ∧ (gb440 ≠ s_) ∧ (s_ ≠ gb440) ∧ (Below w.heap.size w w')) ?_ ?_
           rotate_left
           ·intro hJ14
            refine two_ (i := 3) (j := 14) (Ni := some 55) (Nj := some 14) #[true, true, true, true, false, true, true, false, true, false, false, false, false, false, false, false, false, false] #[true, true, true, false, false, true, true, false, true, false, false, false, false, false, true, false, false, false] rfl rfl rfl rfl (two_of HT_.out (by kernel_rfl)) (by decide) (by decide) (fun K hK => ?_) (fun K hK => ?_)
            ·skip
             refine goes_ Try.func29 (by kernel_rfl) rfl #[.agg #[.int .i64 a1_0, .int .i64 a1_1, .int .i64 a1_2], .int .i64 a3] (by rfl) rfl rfl (by (try simp only [List.map_toArray, List.map_cons, List.map_nil]); first | done | rfl | (simp only [List.length_drop, List.length_take]; rfl)) ?_
             with_reducible refine (relievoref02_Scale.calls a1_0 a1_1 a1_2 a3 t441 t442 t443 _ A29.out).mono ?_
             rintro e w35 ⟨rfl, hb⟩
             refine ⟨_, rfl, ?_⟩
             replace BK429 := cB hb BK429
             replace BK430 := cB hb BK430
             replace BK431 := cB hb BK431
             replace BK440 := cB hb BK440
             replace HB := Aside0.mk (below_step (HB.out) hb)
             (try clear hb)
             (try clear hb2)
             (try clear hk)
             (try clear hi)
             refine hK.out _ _ ⟨(blk_cell BK429.out 0).trans rfl, (blk_cell BK429.out 1).trans rfl, (blk_cell BK429.out 2).trans rfl, (blk_cell BK430.out 0).trans rfl, (blk_cell BK430.out 1).trans rfl, (blk_cell BK430.out 2).trans rfl, (blk_cell BK431.out 0).trans rfl, (blk_cell BK431.out 1).trans rfl, (blk_cell BK431.out 2).trans rfl, (blk_cell BK431.out 3).trans rfl, (blk_cell BK431.out 4).trans rfl, (blk_cell BK431.out 5).trans rfl, (blk_cell BK431.out 6).trans rfl, (blk_cell BK431.out 7).trans rfl, (blk_cell BK431.out 8).trans rfl⟩ (fun hHeld => ?_)
             clear hK K
             refine norm_ (a' := ?_) ?_ ?_
             rotate_left
             ·show Act.put _ (some 55) _ = _
              simp only [Act.put, List.setIfInBounds_toArray, List.set_cons_zero, List.set_cons_succ, i64_w, i32_w]
              rfl
             exact norm_ (by simp only [putAll, Act.put, List.setIfInBounds_toArray, List.set_cons_zero, List.set_cons_succ] <;> rfl) (hJ3 () _ ⟨hHeld, (BK429.out), (BK430.out), (BK431.out), (BK440.out), (HB.out)⟩)
            skip
            refine box_step ?hg (N := 14) ?hd (cs := #[.int .i64 0, .int .i64 0, .bool false, .int .i64 0, .int .i64 0]) (t := 30) ?hr ?_; (case hd => rfl); (case hg => rfl); (case hr => first | (go_simp; done) | (go_simp; rfl))
            intro gb457 hg w35 hbox hb
            have BK457 := Aside0.mk (hbox)
            have GE457 := Aside0.mk (bG hg (HB.out))
            have NB429_457 := cN hg BK429
            have NB457_429 := cM hg BK429
            have NB430_457 := cN hg BK430
            have NB457_430 := cM hg BK430
            have NB431_457 := cN hg BK431
            have NB457_431 := cM hg BK431
            have NB440_457 := cN hg BK440
            have NB457_440 := cM hg BK440
            replace BK429 := cB hb BK429
            replace BK430 := cB hb BK430
            replace BK431 := cB hb BK431
            replace BK440 := cB hb BK440
            replace HB := Aside0.mk (below_step (HB.out) hb)
            clear hb hbox hg
            refine hK.out _ _ ⟨(blk_cell BK429.out 0).trans rfl, (blk_cell BK429.out 1).trans rfl, (blk_cell BK429.out 2).trans rfl, (blk_cell BK430.out 0).trans rfl, (blk_cell BK430.out 1).trans rfl, (blk_cell BK430.out 2).trans rfl, (blk_cell BK431.out 0).trans rfl, (blk_cell BK431.out 1).trans rfl, (blk_cell BK431.out 2).trans rfl, (blk_cell BK431.out 3).trans rfl, (blk_cell BK431.out 4).trans rfl, (blk_cell BK431.out 5).trans rfl, (blk_cell BK431.out 6).trans rfl, (blk_cell BK431.out 7).trans rfl, (blk_cell BK431.out 8).trans rfl⟩ (fun hHeld => ?_)
            clear hK K
            refine norm_ (a' := ?_) ?_ ?_
            rotate_left
            ·show Act.put _ (some 14) _ = _
             simp only [Act.put, List.setIfInBounds_toArray, List.set_cons_zero, List.set_cons_succ, i64_w, i32_w]
             rfl
            exact norm_ (by simp only [putAll, Act.put, List.setIfInBounds_toArray, List.set_cons_zero, List.set_cons_succ] <;> rfl) (hJ14 (gb457) _ ⟨hHeld, (BK429.out), (BK430.out), (BK431.out), (BK440.out), (BK457.out), GE457.out, NB429_457.out, NB457_429.out, NB430_457.out, NB457_430.out, NB431_457.out, NB457_431.out, NB440_457.out, NB457_440.out, (HB.out)⟩)
           skip
           rintro gb457 w36 ⟨hS_, h0_, h1_, h2_, h3_, h4_, h5_, h6_, h7_, h8_, h9_, h10_, h11_, h12_, h13_, h14_⟩
           have n0_ : Aside0 (w36.heap[gb429]? = some (.cells #[.int .i64 a0_0, .int .i64 a0_1, .int .i64 a0_2] 23 (0, 0))) := ⟨h0_⟩
           have n1_ : Aside0 (w36.heap[gb430]? = some (.cells #[.int .i64 a1_0, .int .i64 a1_1, .int .i64 a1_2] 23 (0, 0))) := ⟨h1_⟩
           have n2_ : Aside0 (w36.heap[gb431]? = some (.cells #[.int .i64 a2_0, .int .i64 a2_1, .int .i64 a2_2, .int .i64 a2_3, .int .i64 a2_4, .int .i64 a2_5, .int .i64 a2_6, .int .i64 a2_7, .int .i64 a2_8] 25 (0, 0))) := ⟨h2_⟩
           have n3_ : Aside0 (w36.heap[gb440]? = some (.cells #[.int .i64 t433, .int .i64 t434, .bool t435, .int .i64 t436, .int .i64 t437] 30 (0, 0))) := ⟨h3_⟩
           have n4_ : Aside0 (w36.heap[gb457]? = some (.cells #[.int .i64 0, .int .i64 0, .bool false, .int .i64 0, .int .i64 0] 30 (0, 0))) := ⟨h4_⟩
           have GE457 : Aside0 (w.heap.size ≤ gb457) := ⟨h5_⟩
           have NB429_457 : Aside0 (gb429 ≠ gb457) := ⟨h6_⟩
           have NB457_429 : Aside0 (gb457 ≠ gb429) := ⟨h7_⟩
           have NB430_457 : Aside0 (gb430 ≠ gb457) := ⟨h8_⟩
           have NB457_430 : Aside0 (gb457 ≠ gb430) := ⟨h9_⟩
           have NB431_457 : Aside0 (gb431 ≠ gb457) := ⟨h10_⟩
           have NB457_431 : Aside0 (gb457 ≠ gb431) := ⟨h11_⟩
           have NB440_457 : Aside0 (gb440 ≠ gb457) := ⟨h12_⟩
           have NB457_440 : Aside0 (gb457 ≠ gb440) := ⟨h13_⟩
           have n14_ : Aside0 (Below w.heap.size w w36) := ⟨h14_⟩
           clear BK429
           clear BK430
           clear BK431
           clear BK440
           clear HB
           clear h0_ h1_ h2_ h3_ h4_ h5_ h6_ h7_ h8_ h9_ h10_ h11_ h12_ h13_ h14_
           have BK429 := n0_
           have BK430 := n1_
           have BK431 := n2_
           have BK440 := n3_
           have BK457 := n4_
           have HB := n14_
           clear n0_ n1_ n2_ n3_ n4_ n14_
           have hHeld : w36.cell? ⟨gb429, 0, none⟩ = some (.int .i64 a0_0) ∧ w36.cell? ⟨gb429, 1, none⟩ = some (.int .i64 a0_1) ∧ w36.cell? ⟨gb429, 2, none⟩ = some (.int .i64 a0_2) ∧ w36.cell? ⟨gb430, 0, none⟩ = some (.int .i64 a1_0) ∧ w36.cell? ⟨gb430, 1, none⟩ = some (.int .i64 a1_1) ∧ w36.cell? ⟨gb430, 2, none⟩ = some (.int .i64 a1_2) ∧ w36.cell? ⟨gb431, 0, none⟩ = some (.int .i64 a2_0) ∧ w36.cell? ⟨gb431, 1, none⟩ = some (.int .i64 a2_1) ∧ w36.cell? ⟨gb431, 2, none⟩ = some (.int .i64 a2_2) ∧ w36.cell? ⟨gb431, 3, none⟩ = some (.int .i64 a2_3) ∧ w36.cell? ⟨gb431, 4, none⟩ = some (.int .i64 a2_4) ∧ w36.cell? ⟨gb431, 5, none⟩ = some (.int .i64 a2_5) ∧ w36.cell? ⟨gb431, 6, none⟩ = some (.int .i64 a2_6) ∧ w36.cell? ⟨gb431, 7, none⟩ = some (.int .i64 a2_7) ∧ w36.cell? ⟨gb431, 8, none⟩ = some (.int .i64 a2_8) := hS_
           refine norm_ (a' := ?_) ?_ ?_
           rotate_left
           ·simp only [putAll, Act.put, List.setIfInBounds_toArray, List.set_cons_zero, List.set_cons_succ]
            rfl
           refine one_ (i := 3) (N := some 55) #[true, true, true, true, false, true, true, false, true, false, false, false, false, false, true, false, false, false] rfl rfl (one_of HT_.out (by kernel_rfl)) (by decide) (fun K hK => ?_)
           refine goes_ Try.func29 (by kernel_rfl) rfl #[.agg #[.int .i64 a1_0, .int .i64 a1_1, .int .i64 a1_2], .int .i64 a3] (by rfl) rfl rfl (by (try simp only [List.map_toArray, List.map_cons, List.map_nil]); first | done | rfl | (simp only [List.length_drop, List.length_take]; rfl)) ?_
           with_reducible refine (relievoref02_Scale.calls a1_0 a1_1 a1_2 a3 t441 t442 t443 _ A29.out).mono ?_
           rintro e w37 ⟨rfl, hb⟩
           refine ⟨_, rfl, ?_⟩
           replace BK429 := cB hb BK429
           replace BK430 := cB hb BK430
           replace BK431 := cB hb BK431
           replace BK440 := cB hb BK440
           replace BK457 := cB hb BK457
           replace HB := Aside0.mk (below_step (HB.out) hb)
           (try clear hb)
           (try clear hb2)
           (try clear hk)
           (try clear hi)
           refine hK.out _ _ ⟨(blk_cell BK429.out 0).trans rfl, (blk_cell BK429.out 1).trans rfl, (blk_cell BK429.out 2).trans rfl, (blk_cell BK430.out 0).trans rfl, (blk_cell BK430.out 1).trans rfl, (blk_cell BK430.out 2).trans rfl, (blk_cell BK431.out 0).trans rfl, (blk_cell BK431.out 1).trans rfl, (blk_cell BK431.out 2).trans rfl, (blk_cell BK431.out 3).trans rfl, (blk_cell BK431.out 4).trans rfl, (blk_cell BK431.out 5).trans rfl, (blk_cell BK431.out 6).trans rfl, (blk_cell BK431.out 7).trans rfl, (blk_cell BK431.out 8).trans rfl⟩ (fun hHeld => ?_)
           clear hK K
           refine norm_ (a' := ?_) ?_ ?_
           rotate_left
           ·show Act.put _ (some 55) _ = _
            simp only [Act.put, List.setIfInBounds_toArray, List.set_cons_zero, List.set_cons_succ, i64_w, i32_w]
            rfl
           exact norm_ (by simp only [putAll, Act.put, List.setIfInBounds_toArray, List.set_cons_zero, List.set_cons_succ] <;> rfl) (hJ3_14 (gb457) _ ⟨hHeld, (BK429.out), (BK430.out), (BK431.out), (BK440.out), (BK457.out), GE457.out, NB429_457.out, NB457_429.out, NB430_457.out, NB457_430.out, NB431_457.out, NB457_431.out, NB440_457.out, NB457_440.out, (HB.out)⟩)
          skip
          rintro _ w36 ⟨hS_, h0_, h1_, h2_, h3_, h4_⟩
          have n0_ : Aside0 (w36.heap[gb429]? = some (.cells #[.int .i64 a0_0, .int .i64 a0_1, .int .i64 a0_2] 23 (0, 0))) := ⟨h0_⟩
          have n1_ : Aside0 (w36.heap[gb430]? = some (.cells #[.int .i64 a1_0, .int .i64 a1_1, .int .i64 a1_2] 23 (0, 0))) := ⟨h1_⟩
          have n2_ : Aside0 (w36.heap[gb431]? = some (.cells #[.int .i64 a2_0, .int .i64 a2_1, .int .i64 a2_2, .int .i64 a2_3, .int .i64 a2_4, .int .i64 a2_5, .int .i64 a2_6, .int .i64 a2_7, .int .i64 a2_8] 25 (0, 0))) := ⟨h2_⟩
          have n3_ : Aside0 (w36.heap[gb440]? = some (.cells #[.int .i64 t433, .int .i64 t434, .bool t435, .int .i64 t436, .int .i64 t437] 30 (0, 0))) := ⟨h3_⟩
          have n4_ : Aside0 (Below w.heap.size w w36) := ⟨h4_⟩
          clear BK429
          clear BK430
          clear BK431
          clear BK440
          clear HB
          clear h0_ h1_ h2_ h3_ h4_
          have BK429 := n0_
          have BK430 := n1_
          have BK431 := n2_
          have BK440 := n3_
          have HB := n4_
          clear n0_ n1_ n2_ n3_ n4_
          have hHeld : w36.cell? ⟨gb429, 0, none⟩ = some (.int .i64 a0_0) ∧ w36.cell? ⟨gb429, 1, none⟩ = some (.int .i64 a0_1) ∧ w36.cell? ⟨gb429, 2, none⟩ = some (.int .i64 a0_2) ∧ w36.cell? ⟨gb430, 0, none⟩ = some (.int .i64 a1_0) ∧ w36.cell? ⟨gb430, 1, none⟩ = some (.int .i64 a1_1) ∧ w36.cell? ⟨gb430, 2, none⟩ = some (.int .i64 a1_2) ∧ w36.cell? ⟨gb431, 0, none⟩ = some (.int .i64 a2_0) ∧ w36.cell? ⟨gb431, 1, none⟩ = some (.int .i64 a2_1) ∧ w36.cell? ⟨gb431, 2, none⟩ = some (.int .i64 a2_2) ∧ w36.cell? ⟨gb431, 3, none⟩ = some (.int .i64 a2_3) ∧ w36.cell? ⟨gb431, 4, none⟩ = some (.int .i64 a2_4) ∧ w36.cell? ⟨gb431, 5, none⟩ = some (.int .i64 a2_5) ∧ w36.cell? ⟨gb431, 6, none⟩ = some (.int .i64 a2_6) ∧ w36.cell? ⟨gb431, 7, none⟩ = some (.int .i64 a2_7) ∧ w36.cell? ⟨gb431, 8, none⟩ = some (.int .i64 a2_8) := hS_
          refine norm_ (a' := ?_) ?_ ?_
          rotate_left
          ·simp only [putAll, Act.put, List.setIfInBounds_toArray, List.set_cons_zero, List.set_cons_succ]
           rfl
          refine two_ (i := 4) (j := 14) (Ni := some 56) (Nj := some 14) #[true, true, true, true, true, true, true, false, true, false, false, false, false, false, false, false, false, false] #[true, true, true, true, false, true, true, false, true, false, false, false, false, false, true, false, false, false] rfl rfl rfl rfl (two_of HT_.out (by kernel_rfl)) (by decide) (by decide) (fun K hK => ?_) (fun K hK => ?_)
          ·skip
           refine goes_ Try.func24 (by kernel_rfl) rfl #[.agg #[.int .i64 a0_0, .int .i64 a0_1, .int .i64 a0_2], .agg #[.int .i64 t441, .int .i64 t442, .int .i64 t443]] (by rfl) rfl rfl (by (try simp only [List.map_toArray, List.map_cons, List.map_nil]); first | done | rfl | (simp only [List.length_drop, List.length_take]; rfl)) ?_
           with_reducible refine (relievoref02_Add.calls a0_0 a0_1 a0_2 t441 t442 t443 t444 t445 t446 _ A30.out).mono ?_
           rintro e w37 ⟨rfl, hb⟩
           refine ⟨_, rfl, ?_⟩
           replace BK429 := cB hb BK429
           replace BK430 := cB hb BK430
           replace BK431 := cB hb BK431
           replace BK440 := cB hb BK440
           replace HB := Aside0.mk (below_step (HB.out) hb)
           (try clear hb)
           (try clear hb2)
           (try clear hk)
           (try clear hi)
           refine hK.out _ _ ⟨(blk_cell BK429.out 0).trans rfl, (blk_cell BK429.out 1).trans rfl, (blk_cell BK429.out 2).trans rfl, (blk_cell BK430.out 0).trans rfl, (blk_cell BK430.out 1).trans rfl, (blk_cell BK430.out 2).trans rfl, (blk_cell BK431.out 0).trans rfl, (blk_cell BK431.out 1).trans rfl, (blk_cell BK431.out 2).trans rfl, (blk_cell BK431.out 3).trans rfl, (blk_cell BK431.out 4).trans rfl, (blk_cell BK431.out 5).trans rfl, (blk_cell BK431.out 6).trans rfl, (blk_cell BK431.out 7).trans rfl, (blk_cell BK431.out 8).trans rfl⟩ (fun hHeld => ?_)
           clear hK K
           refine norm_ (a' := ?_) ?_ ?_
           rotate_left
           ·show Act.put _ (some 56) _ = _
            simp only [Act.put, List.setIfInBounds_toArray, List.set_cons_zero, List.set_cons_succ, i64_w, i32_w]
            rfl
           exact norm_ (by simp only [putAll, Act.put, List.setIfInBounds_toArray, List.set_cons_zero, List.set_cons_succ] <;> rfl) (hJ3_4 () _ ⟨hHeld, (BK429.out), (BK430.out), (BK431.out), (BK440.out), (HB.out)⟩)
          skip
          refine box_step ?hg (N := 14) ?hd (cs := #[.int .i64 0, .int .i64 0, .bool false, .int .i64 0, .int .i64 0]) (t := 30) ?hr ?_; (case hd => rfl); (case hg => rfl); (case hr => first | (go_simp; done) | (go_simp; rfl))
          intro gb457 hg w37 hbox hb
          have BK457 := Aside0.mk (hbox)
          have GE457 := Aside0.mk (bG hg (HB.out))
          have NB429_457 := cN hg BK429
          have NB457_429 := cM hg BK429
          have NB430_457 := cN hg BK430
          have NB457_430 := cM hg BK430
          have NB431_457 := cN hg BK431
          have NB457_431 := cM hg BK431
          have NB440_457 := cN hg BK440
          have NB457_440 := cM hg BK440
          replace BK429 := cB hb BK429
          replace BK430 := cB hb BK430
          replace BK431 := cB hb BK431
          replace BK440 := cB hb BK440
          replace HB := Aside0.mk (below_step (HB.out) hb)
          clear hb hbox hg
          refine hK.out _ _ ⟨(blk_cell BK429.out 0).trans rfl, (blk_cell BK429.out 1).trans rfl, (blk_cell BK429.out 2).trans rfl, (blk_cell BK430.out 0).trans rfl, (blk_cell BK430.out 1).trans rfl, (blk_cell BK430.out 2).trans rfl, (blk_cell BK431.out 0).trans rfl, (blk_cell BK431.out 1).trans rfl, (blk_cell BK431.out 2).trans rfl, (blk_cell BK431.out 3).trans rfl, (blk_cell BK431.out 4).trans rfl, (blk_cell BK431.out 5).trans rfl, (blk_cell BK431.out 6).trans rfl, (blk_cell BK431.out 7).trans rfl, (blk_cell BK431.out 8).trans rfl⟩ (fun hHeld => ?_)
          clear hK K
          refine norm_ (a' := ?_) ?_ ?_
          rotate_left
          ·show Act.put _ (some 14) _ = _
           simp only [Act.put, List.setIfInBounds_toArray, List.set_cons_zero, List.set_cons_succ, i64_w, i32_w]
           rfl
          exact norm_ (by simp only [putAll, Act.put, List.setIfInBounds_toArray, List.set_cons_zero, List.set_cons_succ] <;> rfl) (hJ3_14 (gb457) _ ⟨hHeld, (BK429.out), (BK430.out), (BK431.out), (BK440.out), (BK457.out), GE457.out, NB429_457.out, NB457_429.out, NB430_457.out, NB457_430.out, NB431_457.out, NB457_431.out, NB440_457.out, NB457_440.out, (HB.out)⟩)
         skip
         rintro gb457 w37 ⟨hS_, h0_, h1_, h2_, h3_, h4_, h5_, h6_, h7_, h8_, h9_, h10_, h11_, h12_, h13_, h14_⟩
         have n0_ : Aside0 (w37.heap[gb429]? = some (.cells #[.int .i64 a0_0, .int .i64 a0_1, .int .i64 a0_2] 23 (0, 0))) := ⟨h0_⟩
         have n1_ : Aside0 (w37.heap[gb430]? = some (.cells #[.int .i64 a1_0, .int .i64 a1_1, .int .i64 a1_2] 23 (0, 0))) := ⟨h1_⟩
         have n2_ : Aside0 (w37.heap[gb431]? = some (.cells #[.int .i64 a2_0, .int .i64 a2_1, .int .i64 a2_2, .int .i64 a2_3, .int .i64 a2_4, .int .i64 a2_5, .int .i64 a2_6, .int .i64 a2_7, .int .i64 a2_8] 25 (0, 0))) := ⟨h2_⟩
         have n3_ : Aside0 (w37.heap[gb440]? = some (.cells #[.int .i64 t433, .int .i64 t434, .bool t435, .int .i64 t436, .int .i64 t437] 30 (0, 0))) := ⟨h3_⟩
         have n4_ : Aside0 (w37.heap[gb457]? = some (.cells #[.int .i64 0, .int .i64 0, .bool false, .int .i64 0, .int .i64 0] 30 (0, 0))) := ⟨h4_⟩
         have GE457 : Aside0 (w.heap.size ≤ gb457) := ⟨h5_⟩
         have NB429_457 : Aside0 (gb429 ≠ gb457) := ⟨h6_⟩
         have NB457_429 : Aside0 (gb457 ≠ gb429) := ⟨h7_⟩
         have NB430_457 : Aside0 (gb430 ≠ gb457) := ⟨h8_⟩
         have NB457_430 : Aside0 (gb457 ≠ gb430) := ⟨h9_⟩
         have NB431_457 : Aside0 (gb431 ≠ gb457) := ⟨h10_⟩
         have NB457_431 : Aside0 (gb457 ≠ gb431) := ⟨h11_⟩
         have NB440_457 : Aside0 (gb440 ≠ gb457) := ⟨h12_⟩
         have NB457_440 : Aside0 (gb457 ≠ gb440) := ⟨h13_⟩
         have n14_ : Aside0 (Below w.heap.size w w37) := ⟨h14_⟩
         clear BK429
         clear BK430
         clear BK431
         clear BK440
         clear HB
         clear h0_ h1_ h2_ h3_ h4_ h5_ h6_ h7_ h8_ h9_ h10_ h11_ h12_ h13_ h14_
         have BK429 := n0_
         have BK430 := n1_
         have BK431 := n2_
         have BK440 := n3_
         have BK457 := n4_
         have HB := n14_
         clear n0_ n1_ n2_ n3_ n4_ n14_
         have hHeld : w37.cell? ⟨gb429, 0, none⟩ = some (.int .i64 a0_0) ∧ w37.cell? ⟨gb429, 1, none⟩ = some (.int .i64 a0_1) ∧ w37.cell? ⟨gb429, 2, none⟩ = some (.int .i64 a0_2) ∧ w37.cell? ⟨gb430, 0, none⟩ = some (.int .i64 a1_0) ∧ w37.cell? ⟨gb430, 1, none⟩ = some (.int .i64 a1_1) ∧ w37.cell? ⟨gb430, 2, none⟩ = some (.int .i64 a1_2) ∧ w37.cell? ⟨gb431, 0, none⟩ = some (.int .i64 a2_0) ∧ w37.cell? ⟨gb431, 1, none⟩ = some (.int .i64 a2_1) ∧ w37.cell? ⟨gb431, 2, none⟩ = some (.int .i64 a2_2) ∧ w37.cell? ⟨gb431, 3, none⟩ = some (.int .i64 a2_3) ∧ w37.cell? ⟨gb431, 4, none⟩ = some (.int .i64 a2_4) ∧ w37.cell? ⟨gb431, 5, none⟩ = some (.int .i64 a2_5) ∧ w37.cell? ⟨gb431, 6, none⟩ = some (.int .i64 a2_6) ∧ w37.cell? ⟨gb431, 7, none⟩ = some (.int .i64 a2_7) ∧ w37.cell? ⟨gb431, 8, none⟩ = some (.int .i64 a2_8) := hS_
         refine norm_ (a' := ?_) ?_ ?_
         rotate_left
         ·simp only [putAll, Act.put, List.setIfInBounds_toArray, List.set_cons_zero, List.set_cons_succ]
          rfl
         refine one_ (i := 4) (N := some 56) #[true, true, true, true, true, true, true, false, true, false, false, false, false, false, true, false, false, false] rfl rfl (one_of HT_.out (by kernel_rfl)) (by decide) (fun K hK => ?_)
         refine goes_ Try.func24 (by kernel_rfl) rfl #[.agg #[.int .i64 a0_0, .int .i64 a0_1, .int .i64 a0_2], .agg #[.int .i64 t441, .int .i64 t442, .int .i64 t443]] (by rfl) rfl rfl (by (try simp only [List.map_toArray, List.map_cons, List.map_nil]); first | done | rfl | (simp only [List.length_drop, List.length_take]; rfl)) ?_
         with_reducible refine (relievoref02_Add.calls a0_0 a0_1 a0_2 t441 t442 t443 t444 t445 t446 _ A30.out).mono ?_
         rintro e w38 ⟨rfl, hb⟩
         refine ⟨_, rfl, ?_⟩
         replace BK429 := cB hb BK429
         replace BK430 := cB hb BK430
         replace BK431 := cB hb BK431
         replace BK440 := cB hb BK440
         replace BK457 := cB hb BK457
         replace HB := Aside0.mk (below_step (HB.out) hb)
         (try clear hb)
         (try clear hb2)
         (try clear hk)
         (try clear hi)
         refine hK.out _ _ ⟨(blk_cell BK429.out 0).trans rfl, (blk_cell BK429.out 1).trans rfl, (blk_cell BK429.out 2).trans rfl, (blk_cell BK430.out 0).trans rfl, (blk_cell BK430.out 1).trans rfl, (blk_cell BK430.out 2).trans rfl, (blk_cell BK431.out 0).trans rfl, (blk_cell BK431.out 1).trans rfl, (blk_cell BK431.out 2).trans rfl, (blk_cell BK431.out 3).trans rfl, (blk_cell BK431.out 4).trans rfl, (blk_cell BK431.out 5).trans rfl, (blk_cell BK431.out 6).trans rfl, (blk_cell BK431.out 7).trans rfl, (blk_cell BK431.out 8).trans rfl⟩ (fun hHeld => ?_)
         clear hK K
         refine norm_ (a' := ?_) ?_ ?_
         rotate_left
         ·show Act.put _ (some 56) _ = _
          simp only [Act.put, List.setIfInBounds_toArray, List.set_cons_zero, List.set_cons_succ, i64_w, i32_w]
          rfl
         exact norm_ (by simp only [putAll, Act.put, List.setIfInBounds_toArray, List.set_cons_zero, List.set_cons_succ] <;> rfl) (hJ3_4_14 (gb457) _ ⟨hHeld, (BK429.out), (BK430.out), (BK431.out), (BK440.out), (BK457.out), GE457.out, NB429_457.out, NB457_429.out, NB430_457.out, NB457_430.out, NB431_457.out, NB457_431.out, NB440_457.out, NB457_440.out, (HB.out)⟩)
        skip
        rintro _ w37 ⟨hS_, h0_, h1_, h2_, h3_, h4_⟩
        have n0_ : Aside0 (w37.heap[gb429]? = some (.cells #[.int .i64 a0_0, .int .i64 a0_1, .int .i64 a0_2] 23 (0, 0))) := ⟨h0_⟩
        have n1_ : Aside0 (w37.heap[gb430]? = some (.cells #[.int .i64 a1_0, .int .i64 a1_1, .int .i64 a1_2] 23 (0, 0))) := ⟨h1_⟩
        have n2_ : Aside0 (w37.heap[gb431]? = some (.cells #[.int .i64 a2_0, .int .i64 a2_1, .int .i64 a2_2, .int .i64 a2_3, .int .i64 a2_4, .int .i64 a2_5, .int .i64 a2_6, .int .i64 a2_7, .int .i64 a2_8] 25 (0, 0))) := ⟨h2_⟩
        have n3_ : Aside0 (w37.heap[gb440]? = some (.cells #[.int .i64 t433, .int .i64 t434, .bool t435, .int .i64 t436, .int .i64 t437] 30 (0, 0))) := ⟨h3_⟩
        have n4_ : Aside0 (Below w.heap.size w w37) := ⟨h4_⟩
        clear BK429
        clear BK430
        clear BK431
        clear BK440
        clear HB
        clear h0_ h1_ h2_ h3_ h4_
        have BK429 := n0_
        have BK430 := n1_
        have BK431 := n2_
        have BK440 := n3_
        have HB := n4_
        clear n0_ n1_ n2_ n3_ n4_
        have hHeld : w37.cell? ⟨gb429, 0, none⟩ = some (.int .i64 a0_0) ∧ w37.cell? ⟨gb429, 1, none⟩ = some (.int .i64 a0_1) ∧ w37.cell? ⟨gb429, 2, none⟩ = some (.int .i64 a0_2) ∧ w37.cell? ⟨gb430, 0, none⟩ = some (.int .i64 a1_0) ∧ w37.cell? ⟨gb430, 1, none⟩ = some (.int .i64 a1_1) ∧ w37.cell? ⟨gb430, 2, none⟩ = some (.int .i64 a1_2) ∧ w37.cell? ⟨gb431, 0, none⟩ = some (.int .i64 a2_0) ∧ w37.cell? ⟨gb431, 1, none⟩ = some (.int .i64 a2_1) ∧ w37.cell? ⟨gb431, 2, none⟩ = some (.int .i64 a2_2) ∧ w37.cell? ⟨gb431, 3, none⟩ = some (.int .i64 a2_3) ∧ w37.cell? ⟨gb431, 4, none⟩ = some (.int .i64 a2_4) ∧ w37.cell? ⟨gb431, 5, none⟩ = some (.int .i64 a2_5) ∧ w37.cell? ⟨gb431, 6, none⟩ = some (.int .i64 a2_6) ∧ w37.cell? ⟨gb431, 7, none⟩ = some (.int .i64 a2_7) ∧ w37.cell? ⟨gb431, 8, none⟩ = some (.int .i64 a2_8) := hS_
        refine norm_ (a' := ?_) ?_ ?_
        rotate_left
        ·simp only [putAll, Act.put, List.setIfInBounds_toArray, List.set_cons_zero, List.set_cons_succ]
         rfl
        refine two_ (i := 7) (j := 14) (Ni := some 59) (Nj := some 14) #[true, true, true, true, true, true, true, true, true, false, false, false, false, false, false, false, false, false] #[true, true, true, true, true, true, true, false, true, false, false, false, false, false, true, false, false, false] rfl rfl rfl rfl (two_of HT_.out (by kernel_rfl)) (by decide) (by decide) (fun K hK => ?_) (fun K hK => ?_)
        ·skip
         refine goes_ Try.func29 (by kernel_rfl) rfl #[.agg #[.int .i64 a1_0, .int .i64 a1_1, .int .i64 a1_2], .int .i64 a4] (by rfl) rfl rfl (by (try simp only [List.map_toArray, List.map_cons, List.map_nil]); first | done | rfl | (simp only [List.length_drop, List.length_take]; rfl)) ?_
         with_reducible refine (relievoref02_Scale.calls a1_0 a1_1 a1_2 a4 t447 t448 t449 _ A31.out).mono ?_
         rintro e w38 ⟨rfl, hb⟩
         refine ⟨_, rfl, ?_⟩
         replace BK429 := cB hb BK429
         replace BK430 := cB hb BK430
         replace BK431 := cB hb BK431
         replace BK440 := cB hb BK440
         replace HB := Aside0.mk (below_step (HB.out) hb)
         (try clear hb)
         (try clear hb2)
         (try clear hk)
         (try clear hi)
         refine hK.out _ _ ⟨(blk_cell BK429.out 0).trans rfl, (blk_cell BK429.out 1).trans rfl, (blk_cell BK429.out 2).trans rfl, (blk_cell BK430.out 0).trans rfl, (blk_cell BK430.out 1).trans rfl, (blk_cell BK430.out 2).trans rfl, (blk_cell BK431.out 0).trans rfl, (blk_cell BK431.out 1).trans rfl, (blk_cell BK431.out 2).trans rfl, (blk_cell BK431.out 3).trans rfl, (blk_cell BK431.out 4).trans rfl, (blk_cell BK431.out 5).trans rfl, (blk_cell BK431.out 6).trans rfl, (blk_cell BK431.out 7).trans rfl, (blk_cell BK431.out 8).trans rfl⟩ (fun hHeld => ?_)
         clear hK K
         refine norm_ (a' := ?_) ?_ ?_
         rotate_left
         ·show Act.put _ (some 59) _ = _
          simp only [Act.put, List.setIfInBounds_toArray, List.set_cons_zero, List.set_cons_succ, i64_w, i32_w]
          rfl
         exact norm_ (by simp only [putAll, Act.put, List.setIfInBounds_toArray, List.set_cons_zero, List.set_cons_succ] <;> rfl) (hJ3_4_7 () _ ⟨hHeld, (BK429.out), (BK430.out), (BK431.out), (BK440.out), (HB.out)⟩)
        skip
        refine box_step ?hg (N := 14) ?hd (cs := #[.int .i64 0, .int .i64 0, .bool false, .int .i64 0, .int .i64 0]) (t := 30) ?hr ?_; (case hd => rfl); (case hg => rfl); (case hr => first | (go_simp; done) | (go_simp; rfl))
        intro gb457 hg w38 hbox hb
        have BK457 := Aside0.mk (hbox)
        have GE457 := Aside0.mk (bG hg (HB.out))
        have NB429_457 := cN hg BK429
        have NB457_429 := cM hg BK429
        have NB430_457 := cN hg BK430
        have NB457_430 := cM hg BK430
        have NB431_457 := cN hg BK431
        have NB457_431 := cM hg BK431
        have NB440_457 := cN hg BK440
        have NB457_440 := cM hg BK440
        replace BK429 := cB hb BK429
        replace BK430 := cB hb BK430
        replace BK431 := cB hb BK431
        replace BK440 := cB hb BK440
        replace HB := Aside0.mk (below_step (HB.out) hb)
        clear hb hbox hg
        refine hK.out _ _ ⟨(blk_cell BK429.out 0).trans rfl, (blk_cell BK429.out 1).trans rfl, (blk_cell BK429.out 2).trans rfl, (blk_cell BK430.out 0).trans rfl, (blk_cell BK430.out 1).trans rfl, (blk_cell BK430.out 2).trans rfl, (blk_cell BK431.out 0).trans rfl, (blk_cell BK431.out 1).trans rfl, (blk_cell BK431.out 2).trans rfl, (blk_cell BK431.out 3).trans rfl, (blk_cell BK431.out 4).trans rfl, (blk_cell BK431.out 5).trans rfl, (blk_cell BK431.out 6).trans rfl, (blk_cell BK431.out 7).trans rfl, (blk_cell BK431.out 8).trans rfl⟩ (fun hHeld => ?_)
        clear hK K
        refine norm_ (a' := ?_) ?_ ?_
        rotate_left
        ·show Act.put _ (some 14) _ = _
         simp only [Act.put, List.setIfInBounds_toArray, List.set_cons_zero, List.set_cons_succ, i64_w, i32_w]
         rfl
        exact norm_ (by simp only [putAll, Act.put, List.setIfInBounds_toArray, List.set_cons_zero, List.set_cons_succ] <;> rfl) (hJ3_4_14 (gb457) _ ⟨hHeld, (BK429.out), (BK430.out), (BK431.out), (BK440.out), (BK457.out), GE457.out, NB429_457.out, NB457_429.out, NB430_457.out, NB457_430.out, NB431_457.out, NB457_431.out, NB440_457.out, NB457_440.out, (HB.out)⟩)
       skip
       rintro gb457 w38 ⟨hS_, h0_, h1_, h2_, h3_, h4_, h5_, h6_, h7_, h8_, h9_, h10_, h11_, h12_, h13_, h14_⟩
       have n0_ : Aside0 (w38.heap[gb429]? = some (.cells #[.int .i64 a0_0, .int .i64 a0_1, .int .i64 a0_2] 23 (0, 0))) := ⟨h0_⟩
       have n1_ : Aside0 (w38.heap[gb430]? = some (.cells #[.int .i64 a1_0, .int .i64 a1_1, .int .i64 a1_2] 23 (0, 0))) := ⟨h1_⟩
       have n2_ : Aside0 (w38.heap[gb431]? = some (.cells #[.int .i64 a2_0, .int .i64 a2_1, .int .i64 a2_2, .int .i64 a2_3, .int .i64 a2_4, .int .i64 a2_5, .int .i64 a2_6, .int .i64 a2_7, .int .i64 a2_8] 25 (0, 0))) := ⟨h2_⟩
       have n3_ : Aside0 (w38.heap[gb440]? = some (.cells #[.int .i64 t433, .int .i64 t434, .bool t435, .int .i64 t436, .int .i64 t437] 30 (0, 0))) := ⟨h3_⟩
       have n4_ : Aside0 (w38.heap[gb457]? = some (.cells #[.int .i64 0, .int .i64 0, .bool false, .int .i64 0, .int .i64 0] 30 (0, 0))) := ⟨h4_⟩
       have GE457 : Aside0 (w.heap.size ≤ gb457) := ⟨h5_⟩
       have NB429_457 : Aside0 (gb429 ≠ gb457) := ⟨h6_⟩
       have NB457_429 : Aside0 (gb457 ≠ gb429) := ⟨h7_⟩
       have NB430_457 : Aside0 (gb430 ≠ gb457) := ⟨h8_⟩
       have NB457_430 : Aside0 (gb457 ≠ gb430) := ⟨h9_⟩
       have NB431_457 : Aside0 (gb431 ≠ gb457) := ⟨h10_⟩
       have NB457_431 : Aside0 (gb457 ≠ gb431) := ⟨h11_⟩
       have NB440_457 : Aside0 (gb440 ≠ gb457) := ⟨h12_⟩
       have NB457_440 : Aside0 (gb457 ≠ gb440) := ⟨h13_⟩
       have n14_ : Aside0 (Below w.heap.size w w38) := ⟨h14_⟩
       clear BK429
       clear BK430
       clear BK431
       clear BK440
       clear HB
       clear h0_ h1_ h2_ h3_ h4_ h5_ h6_ h7_ h8_ h9_ h10_ h11_ h12_ h13_ h14_
       have BK429 := n0_
       have BK430 := n1_
       have BK431 := n2_
       have BK440 := n3_
       have BK457 := n4_
       have HB := n14_
       clear n0_ n1_ n2_ n3_ n4_ n14_
       have hHeld : w38.cell? ⟨gb429, 0, none⟩ = some (.int .i64 a0_0) ∧ w38.cell? ⟨gb429, 1, none⟩ = some (.int .i64 a0_1) ∧ w38.cell? ⟨gb429, 2, none⟩ = some (.int .i64 a0_2) ∧ w38.cell? ⟨gb430, 0, none⟩ = some (.int .i64 a1_0) ∧ w38.cell? ⟨gb430, 1, none⟩ = some (.int .i64 a1_1) ∧ w38.cell? ⟨gb430, 2, none⟩ = some (.int .i64 a1_2) ∧ w38.cell? ⟨gb431, 0, none⟩ = some (.int .i64 a2_0) ∧ w38.cell? ⟨gb431, 1, none⟩ = some (.int .i64 a2_1) ∧ w38.cell? ⟨gb431, 2, none⟩ = some (.int .i64 a2_2) ∧ w38.cell? ⟨gb431, 3, none⟩ = some (.int .i64 a2_3) ∧ w38.cell? ⟨gb431, 4, none⟩ = some (.int .i64 a2_4) ∧ w38.cell? ⟨gb431, 5, none⟩ = some (.int .i64 a2_5) ∧ w38.cell? ⟨gb431, 6, none⟩ = some (.int .i64 a2_6) ∧ w38.cell? ⟨gb431, 7, none⟩ = some (.int .i64 a2_7) ∧ w38.cell? ⟨gb431, 8, none⟩ = some (.int .i64 a2_8) := hS_
       refine norm_ (a' := ?_) ?_ ?_
       rotate_left
       ·simp only [putAll, Act.put, List.setIfInBounds_toArray, List.set_cons_zero, List.set_cons_succ]
        rfl
       refine one_ (i := 7) (N := some 59) #[true, true, true, true, true, true, true, true, true, false, false, false, false, false, true, false, false, false] rfl rfl (one_of HT_.out (by kernel_rfl)) (by decide) (fun K hK => ?_)
       refine goes_ Try.func29 (by kernel_rfl) rfl #[.agg #[.int .i64 a1_0, .int .i64 a1_1, .int .i64 a1_2], .int .i64 a4] (by rfl) rfl rfl (by (try simp only [List.map_toArray, List.map_cons, List.map_nil]); first | done | rfl | (simp only [List.length_drop, List.length_take]; rfl)) ?_
       with_reducible refine (relievoref02_Scale.calls a1_0 a1_1 a1_2 a4 t447 t448 t449 _ A31.out).mono ?_
       rintro e w39 ⟨rfl, hb⟩
       refine ⟨_, rfl, ?_⟩
       replace BK429 := cB hb BK429
       replace BK430 := cB hb BK430
       replace BK431 := cB hb BK431
       replace BK440 := cB hb BK440
       replace BK457 := cB hb BK457
       replace HB := Aside0.mk (below_step (HB.out) hb)
       (try clear hb)
       (try clear hb2)
       (try clear hk)
       (try clear hi)
       refine hK.out _ _ ⟨(blk_cell BK429.out 0).trans rfl, (blk_cell BK429.out 1).trans rfl, (blk_cell BK429.out 2).trans rfl, (blk_cell BK430.out 0).trans rfl, (blk_cell BK430.out 1).trans rfl, (blk_cell BK430.out 2).trans rfl, (blk_cell BK431.out 0).trans rfl, (blk_cell BK431.out 1).trans rfl, (blk_cell BK431.out 2).trans rfl, (blk_cell BK431.out 3).trans rfl, (blk_cell BK431.out 4).trans rfl, (blk_cell BK431.out 5).trans rfl, (blk_cell BK431.out 6).trans rfl, (blk_cell BK431.out 7).trans rfl, (blk_cell BK431.out 8).trans rfl⟩ (fun hHeld => ?_)
       clear hK K
       refine norm_ (a' := ?_) ?_ ?_
       rotate_left
       ·show Act.put _ (some 59) _ = _
        simp only [Act.put, List.setIfInBounds_toArray, List.set_cons_zero, List.set_cons_succ, i64_w, i32_w]
        rfl
       exact norm_ (by simp only [putAll, Act.put, List.setIfInBounds_toArray, List.set_cons_zero, List.set_cons_succ] <;> rfl) (hJ3_4_7_14 (gb457) _ ⟨hHeld, (BK429.out), (BK430.out), (BK431.out), (BK440.out), (BK457.out), GE457.out, NB429_457.out, NB457_429.out, NB430_457.out, NB457_430.out, NB431_457.out, NB457_431.out, NB440_457.out, NB457_440.out, (HB.out)⟩)
      skip
      rintro _ w38 ⟨hS_, h0_, h1_, h2_, h3_, h4_⟩
      have n0_ : Aside0 (w38.heap[gb429]? = some (.cells #[.int .i64 a0_0, .int .i64 a0_1, .int .i64 a0_2] 23 (0, 0))) := ⟨h0_⟩
      have n1_ : Aside0 (w38.heap[gb430]? = some (.cells #[.int .i64 a1_0, .int .i64 a1_1, .int .i64 a1_2] 23 (0, 0))) := ⟨h1_⟩
      have n2_ : Aside0 (w38.heap[gb431]? = some (.cells #[.int .i64 a2_0, .int .i64 a2_1, .int .i64 a2_2, .int .i64 a2_3, .int .i64 a2_4, .int .i64 a2_5, .int .i64 a2_6, .int .i64 a2_7, .int .i64 a2_8] 25 (0, 0))) := ⟨h2_⟩
      have n3_ : Aside0 (w38.heap[gb440]? = some (.cells #[.int .i64 t433, .int .i64 t434, .bool t435, .int .i64 t436, .int .i64 t437] 30 (0, 0))) := ⟨h3_⟩
      have n4_ : Aside0 (Below w.heap.size w w38) := ⟨h4_⟩
      clear BK429
      clear BK430
      clear BK431
      clear BK440
      clear HB
      clear h0_ h1_ h2_ h3_ h4_
      have BK429 := n0_
      have BK430 := n1_
      have BK431 := n2_
      have BK440 := n3_
      have HB := n4_
      clear n0_ n1_ n2_ n3_ n4_
      have hHeld : w38.cell? ⟨gb429, 0, none⟩ = some (.int .i64 a0_0) ∧ w38.cell? ⟨gb429, 1, none⟩ = some (.int .i64 a0_1) ∧ w38.cell? ⟨gb429, 2, none⟩ = some (.int .i64 a0_2) ∧ w38.cell? ⟨gb430, 0, none⟩ = some (.int .i64 a1_0) ∧ w38.cell? ⟨gb430, 1, none⟩ = some (.int .i64 a1_1) ∧ w38.cell? ⟨gb430, 2, none⟩ = some (.int .i64 a1_2) ∧ w38.cell? ⟨gb431, 0, none⟩ = some (.int .i64 a2_0) ∧ w38.cell? ⟨gb431, 1, none⟩ = some (.int .i64 a2_1) ∧ w38.cell? ⟨gb431, 2, none⟩ = some (.int .i64 a2_2) ∧ w38.cell? ⟨gb431, 3, none⟩ = some (.int .i64 a2_3) ∧ w38.cell? ⟨gb431, 4, none⟩ = some (.int .i64 a2_4) ∧ w38.cell? ⟨gb431, 5, none⟩ = some (.int .i64 a2_5) ∧ w38.cell? ⟨gb431, 6, none⟩ = some (.int .i64 a2_6) ∧ w38.cell? ⟨gb431, 7, none⟩ = some (.int .i64 a2_7) ∧ w38.cell? ⟨gb431, 8, none⟩ = some (.int .i64 a2_8) := hS_
      refine norm_ (a' := ?_) ?_ ?_
      rotate_left
      ·simp only [putAll, Act.put, List.setIfInBounds_toArray, List.set_cons_zero, List.set_cons_succ]
       rfl
      refine two_ (i := 9) (j := 14) (Ni := some 61) (Nj := some 14) #[true, true, true, true, true, true, true, true, true, true, false, false, false, false, false, false, false, false] #[true, true, true, true, true, true, true, true, true, false, false, false, false, false, true, false, false, false] rfl rfl rfl rfl (two_of HT_.out (by kernel_rfl)) (by decide) (by decide) (fun K hK => ?_) (fun K hK => ?_)
      ·skip
       refine goes_ Try.func20 (by kernel_rfl) rfl #[.agg #[.int .i64 t444, .int .i64 t445, .int .i64 t446], .agg #[.int .i64 t447, .int .i64 t448, .int .i64 t449], .agg #[.int .i64 a2_0, .int .i64 a2_1, .int .i64 a2_2, .int .i64 a2_3, .int .i64 a2_4, .int .i64 a2_5, .int .i64 a2_6, .int .i64 a2_7, .int .i64 a2_8]] (by rfl) rfl rfl (by (try simp only [List.map_toArray, List.map_cons, List.map_nil]); first | done | rfl | (simp only [List.length_drop, List.length_take]; rfl)) ?_
       with_reducible refine (side_Meet.calls kj8 t444 t445 t446 t447 t448 t449 a2_0 a2_1 a2_2 a2_3 a2_4 a2_5 a2_6 a2_7 a2_8 t450 t451 t452 t453 t454 t455 t456 _ A32.out).mono ?_
       rintro e w39 ⟨rfl, hb⟩
       refine ⟨_, rfl, ?_⟩
       replace BK429 := cB hb BK429
       replace BK430 := cB hb BK430
       replace BK431 := cB hb BK431
       replace BK440 := cB hb BK440
       replace HB := Aside0.mk (below_step (HB.out) hb)
       (try clear hb)
       (try clear hb2)
       (try clear hk)
       (try clear hi)
       refine hK.out _ _ ⟨(blk_cell BK429.out 0).trans rfl, (blk_cell BK429.out 1).trans rfl, (blk_cell BK429.out 2).trans rfl, (blk_cell BK430.out 0).trans rfl, (blk_cell BK430.out 1).trans rfl, (blk_cell BK430.out 2).trans rfl, (blk_cell BK431.out 0).trans rfl, (blk_cell BK431.out 1).trans rfl, (blk_cell BK431.out 2).trans rfl, (blk_cell BK431.out 3).trans rfl, (blk_cell BK431.out 4).trans rfl, (blk_cell BK431.out 5).trans rfl, (blk_cell BK431.out 6).trans rfl, (blk_cell BK431.out 7).trans rfl, (blk_cell BK431.out 8).trans rfl⟩ (fun hHeld => ?_)
       clear hK K
       refine norm_ (a' := ?_) ?_ ?_
       rotate_left
       ·show Act.put _ (some 61) _ = _
        simp only [Act.put, List.setIfInBounds_toArray, List.set_cons_zero, List.set_cons_succ, i64_w, i32_w]
        rfl
       refine pure_ (i := 10) (N := some 51) (v := ?_) (a' := ?_) #[true, true, true, true, true, true, true, true, true, true, true, false, false, false, false, false, false, false] rfl rfl (any_of HT_.out (by kernel_rfl)) (fun _ _ _ h => h) (Or.inl ⟨by rfl, ?_⟩) ?_ ?_
       rotate_left
       ·intro w'
        go_simp
        with_reducible rfl
       rotate_left
       ·simp only [Act.put, List.setIfInBounds_toArray, List.set_cons_zero, List.set_cons_succ, i64_w, i32_w]
        rfl
       refine pure_ (i := 11) (N := some 62) (v := ?_) (a' := ?_) #[true, true, true, true, true, true, true, true, true, true, true, true, false, false, false, false, false, false] rfl rfl (any_of HT_.out (by kernel_rfl)) (fun _ _ _ h => h) (Or.inl ⟨by rfl, ?_⟩) ?_ ?_
       rotate_left
       ·intro w'
        go_simp
        with_reducible rfl
       rotate_left
       ·simp only [Act.put, List.setIfInBounds_toArray, List.set_cons_zero, List.set_cons_succ, i64_w, i32_w]
        rfl
       refine pure_ (i := 12) (N := some 63) (v := ?_) (a' := ?_) #[true, true, true, true, true, true, true, true, true, true, true, true, true, false, false, false, false, false] rfl rfl (any_of HT_.out (by kernel_rfl)) (fun _ _ _ h => h) (Or.inl ⟨by rfl, ?_⟩) ?_ ?_
       rotate_left
       ·intro w'
        go_simp
        with_reducible rfl
       rotate_left
       ·simp only [Act.put, List.setIfInBounds_toArray, List.set_cons_zero, List.set_cons_succ, i64_w, i32_w]
        rfl
       refine pure_ (i := 13) (N := some 64) (v := ?_) (a' := ?_) #[true, true, true, true, true, true, true, true, true, true, true, true, true, true, false, false, false, false] rfl rfl (any_of HT_.out (by kernel_rfl)) (fun _ _ _ h => h) (Or.inl ⟨by rfl, ?_⟩) ?_ ?_
       rotate_left
       ·intro w'
        go_simp
        with_reducible rfl
       rotate_left
       ·simp only [Act.put, List.setIfInBounds_toArray, List.set_cons_zero, List.set_cons_succ, i64_w, i32_w]
        rfl
       exact norm_ (by simp only [putAll, Act.put, List.setIfInBounds_toArray, List.set_cons_zero, List.set_cons_succ] <;> rfl) (hJ3_4_7_9 () _ ⟨hHeld, (BK429.out), (BK430.out), (BK431.out), (BK440.out), (HB.out)⟩)
      skip
      refine box_step ?hg (N := 14) ?hd (cs := #[.int .i64 0, .int .i64 0, .bool false, .int .i64 0, .int .i64 0]) (t := 30) ?hr ?_; (case hd => rfl); (case hg => rfl); (case hr => first | (go_simp; done) | (go_simp; rfl))
      intro gb457 hg w39 hbox hb
      have BK457 := Aside0.mk (hbox)
      have GE457 := Aside0.mk (bG hg (HB.out))
      have NB429_457 := cN hg BK429
      have NB457_429 := cM hg BK429
      have NB430_457 := cN hg BK430
      have NB457_430 := cM hg BK430
      have NB431_457 := cN hg BK431
      have NB457_431 := cM hg BK431
      have NB440_457 := cN hg BK440
      have NB457_440 := cM hg BK440
      replace BK429 := cB hb BK429
      replace BK430 := cB hb BK430
      replace BK431 := cB hb BK431
      replace BK440 := cB hb BK440
      replace HB := Aside0.mk (below_step (HB.out) hb)
      clear hb hbox hg
      refine hK.out _ _ ⟨(blk_cell BK429.out 0).trans rfl, (blk_cell BK429.out 1).trans rfl, (blk_cell BK429.out 2).trans rfl, (blk_cell BK430.out 0).trans rfl, (blk_cell BK430.out 1).trans rfl, (blk_cell BK430.out 2).trans rfl, (blk_cell BK431.out 0).trans rfl, (blk_cell BK431.out 1).trans rfl, (blk_cell BK431.out 2).trans rfl, (blk_cell BK431.out 3).trans rfl, (blk_cell BK431.out 4).trans rfl, (blk_cell BK431.out 5).trans rfl, (blk_cell BK431.out 6).trans rfl, (blk_cell BK431.out 7).trans rfl, (blk_cell BK431.out 8).trans rfl⟩ (fun hHeld => ?_)
      clear hK K
      refine norm_ (a' := ?_) ?_ ?_
      rotate_left
      ·show Act.put _ (some 14) _ = _
       simp only [Act.put, List.setIfInBounds_toArray, List.set_cons_zero, List.set_cons_succ, i64_w, i32_w]
       rfl
      exact norm_ (by simp only [putAll, Act.put, List.setIfInBounds_toArray, List.set_cons_zero, List.set_cons_succ] <;> rfl) (hJ3_4_7_14 (gb457) _ ⟨hHeld, (BK429.out), (BK430.out), (BK431.out), (BK440.out), (BK457.out), GE457.out, NB429_457.out, NB457_429.out, NB430_457.out, NB457_430.out, NB431_457.out, NB457_431.out, NB440_457.out, NB457_440.out, (HB.out)⟩)
     skip
     rintro gb457 w39 ⟨hS_, h0_, h1_, h2_, h3_, h4_, h5_, h6_, h7_, h8_, h9_, h10_, h11_, h12_, h13_, h14_⟩
     have n0_ : Aside0 (w39.heap[gb429]? = some (.cells #[.int .i64 a0_0, .int .i64 a0_1, .int .i64 a0_2] 23 (0, 0))) := ⟨h0_⟩
     have n1_ : Aside0 (w39.heap[gb430]? = some (.cells #[.int .i64 a1_0, .int .i64 a1_1, .int .i64 a1_2] 23 (0, 0))) := ⟨h1_⟩
     have n2_ : Aside0 (w39.heap[gb431]? = some (.cells #[.int .i64 a2_0, .int .i64 a2_1, .int .i64 a2_2, .int .i64 a2_3, .int .i64 a2_4, .int .i64 a2_5, .int .i64 a2_6, .int .i64 a2_7, .int .i64 a2_8] 25 (0, 0))) := ⟨h2_⟩
     have n3_ : Aside0 (w39.heap[gb440]? = some (.cells #[.int .i64 t433, .int .i64 t434, .bool t435, .int .i64 t436, .int .i64 t437] 30 (0, 0))) := ⟨h3_⟩
     have n4_ : Aside0 (w39.heap[gb457]? = some (.cells #[.int .i64 0, .int .i64 0, .bool false, .int .i64 0, .int .i64 0] 30 (0, 0))) := ⟨h4_⟩
     have GE457 : Aside0 (w.heap.size ≤ gb457) := ⟨h5_⟩
     have NB429_457 : Aside0 (gb429 ≠ gb457) := ⟨h6_⟩
     have NB457_429 : Aside0 (gb457 ≠ gb429) := ⟨h7_⟩
     have NB430_457 : Aside0 (gb430 ≠ gb457) := ⟨h8_⟩
     have NB457_430 : Aside0 (gb457 ≠ gb430) := ⟨h9_⟩
     have NB431_457 : Aside0 (gb431 ≠ gb457) := ⟨h10_⟩
     have NB457_431 : Aside0 (gb457 ≠ gb431) := ⟨h11_⟩
     have NB440_457 : Aside0 (gb440 ≠ gb457) := ⟨h12_⟩
     have NB457_440 : Aside0 (gb457 ≠ gb440) := ⟨h13_⟩
     have n14_ : Aside0 (Below w.heap.size w w39) := ⟨h14_⟩
     clear BK429
     clear BK430
     clear BK431
     clear BK440
     clear HB
     clear h0_ h1_ h2_ h3_ h4_ h5_ h6_ h7_ h8_ h9_ h10_ h11_ h12_ h13_ h14_
     have BK429 := n0_
     have BK430 := n1_
     have BK431 := n2_
     have BK440 := n3_
     have BK457 := n4_
     have HB := n14_
     clear n0_ n1_ n2_ n3_ n4_ n14_
     have hHeld : w39.cell? ⟨gb429, 0, none⟩ = some (.int .i64 a0_0) ∧ w39.cell? ⟨gb429, 1, none⟩ = some (.int .i64 a0_1) ∧ w39.cell? ⟨gb429, 2, none⟩ = some (.int .i64 a0_2) ∧ w39.cell? ⟨gb430, 0, none⟩ = some (.int .i64 a1_0) ∧ w39.cell? ⟨gb430, 1, none⟩ = some (.int .i64 a1_1) ∧ w39.cell? ⟨gb430, 2, none⟩ = some (.int .i64 a1_2) ∧ w39.cell? ⟨gb431, 0, none⟩ = some (.int .i64 a2_0) ∧ w39.cell? ⟨gb431, 1, none⟩ = some (.int .i64 a2_1) ∧ w39.cell? ⟨gb431, 2, none⟩ = some (.int .i64 a2_2) ∧ w39.cell? ⟨gb431, 3, none⟩ = some (.int .i64 a2_3) ∧ w39.cell? ⟨gb431, 4, none⟩ = some (.int .i64 a2_4) ∧ w39.cell? ⟨gb431, 5, none⟩ = some (.int .i64 a2_5) ∧ w39.cell? ⟨gb431, 6, none⟩ = some (.int .i64 a2_6) ∧ w39.cell? ⟨gb431, 7, none⟩ = some (.int .i64 a2_7) ∧ w39.cell? ⟨gb431, 8, none⟩ = some (.int .i64 a2_8) := hS_
     refine norm_ (a' := ?_) ?_ ?_
     rotate_left
     ·simp only [putAll, Act.put, List.setIfInBounds_toArray, List.set_cons_zero, List.set_cons_succ]
      rfl
     refine one_ (i := 9) (N := some 61) #[true, true, true, true, true, true, true, true, true, true, false, false, false, false, true, false, false, false] rfl rfl (one_of HT_.out (by kernel_rfl)) (by decide) (fun K hK => ?_)
     refine goes_ Try.func20 (by kernel_rfl) rfl #[.agg #[.int .i64 t444, .int .i64 t445, .int .i64 t446], .agg #[.int .i64 t447, .int .i64 t448, .int .i64 t449], .agg #[.int .i64 a2_0, .int .i64 a2_1, .int .i64 a2_2, .int .i64 a2_3, .int .i64 a2_4, .int .i64 a2_5, .int .i64 a2_6, .int .i64 a2_7, .int .i64 a2_8]] (by rfl) rfl rfl (by (try simp only [List.map_toArray, List.map_cons, List.map_nil]); first | done | rfl | (simp only [List.length_drop, List.length_take]; rfl)) ?_
     with_reducible refine (side_Meet.calls kj8 t444 t445 t446 t447 t448 t449 a2_0 a2_1 a2_2 a2_3 a2_4 a2_5 a2_6 a2_7 a2_8 t450 t451 t452 t453 t454 t455 t456 _ A32.out).mono ?_
     rintro e w40 ⟨rfl, hb⟩
     refine ⟨_, rfl, ?_⟩
     replace BK429 := cB hb BK429
     replace BK430 := cB hb BK430
     replace BK431 := cB hb BK431
     replace BK440 := cB hb BK440
     replace BK457 := cB hb BK457
     replace HB := Aside0.mk (below_step (HB.out) hb)
     (try clear hb)
     (try clear hb2)
     (try clear hk)
     (try clear hi)
     refine hK.out _ _ ⟨(blk_cell BK429.out 0).trans rfl, (blk_cell BK429.out 1).trans rfl, (blk_cell BK429.out 2).trans rfl, (blk_cell BK430.out 0).trans rfl, (blk_cell BK430.out 1).trans rfl, (blk_cell BK430.out 2).trans rfl, (blk_cell BK431.out 0).trans rfl, (blk_cell BK431.out 1).trans rfl, (blk_cell BK431.out 2).trans rfl, (blk_cell BK431.out 3).trans rfl, (blk_cell BK431.out 4).trans rfl, (blk_cell BK431.out 5).trans rfl, (blk_cell BK431.out 6).trans rfl, (blk_cell BK431.out 7).trans rfl, (blk_cell BK431.out 8).trans rfl⟩ (fun hHeld => ?_)
     clear hK K
     refine norm_ (a' := ?_) ?_ ?_
     rotate_left
     ·show Act.put _ (some 61) _ = _
      simp only [Act.put, List.setIfInBounds_toArray, List.set_cons_zero, List.set_cons_succ, i64_w, i32_w]
      rfl
     refine pure_ (i := 10) (N := some 51) (v := ?_) (a' := ?_) #[true, true, true, true, true, true, true, true, true, true, true, false, false, false, true, false, false, false] rfl rfl (any_of HT_.out (by kernel_rfl)) (fun _ _ _ h => h) (Or.inl ⟨by rfl, ?_⟩) ?_ ?_
     rotate_left
     ·intro w'
      go_simp
      with_reducible rfl
     rotate_left
     ·simp only [Act.put, List.setIfInBounds_toArray, List.set_cons_zero, List.set_cons_succ, i64_w, i32_w]
      rfl
     refine pure_ (i := 11) (N := some 62) (v := ?_) (a' := ?_) #[true, true, true, true, true, true, true, true, true, true, true, true, false, false, true, false, false, false] rfl rfl (any_of HT_.out (by kernel_rfl)) (fun _ _ _ h => h) (Or.inl ⟨by rfl, ?_⟩) ?_ ?_
     rotate_left
     ·intro w'
      go_simp
      with_reducible rfl
     rotate_left
     ·simp only [Act.put, List.setIfInBounds_toArray, List.set_cons_zero, List.set_cons_succ, i64_w, i32_w]
      rfl
     refine pure_ (i := 12) (N := some 63) (v := ?_) (a' := ?_) #[true, true, true, true, true, true, true, true, true, true, true, true, true, false, true, false, false, false] rfl rfl (any_of HT_.out (by kernel_rfl)) (fun _ _ _ h => h) (Or.inl ⟨by rfl, ?_⟩) ?_ ?_
     rotate_left
     ·intro w'
      go_simp
      with_reducible rfl
     rotate_left
     ·simp only [Act.put, List.setIfInBounds_toArray, List.set_cons_zero, List.set_cons_succ, i64_w, i32_w]
      rfl
     refine pure_ (i := 13) (N := some 64) (v := ?_) (a' := ?_) #[true, true, true, true, true, true, true, true, true, true, true, true, true, true, true, false, false, false] rfl rfl (any_of HT_.out (by kernel_rfl)) (fun _ _ _ h => h) (Or.inl ⟨by rfl, ?_⟩) ?_ ?_
     rotate_left
     ·intro w'
      go_simp
      with_reducible rfl
     rotate_left
     ·simp only [Act.put, List.setIfInBounds_toArray, List.set_cons_zero, List.set_cons_succ, i64_w, i32_w]
      rfl
     exact norm_ (by simp only [putAll, Act.put, List.setIfInBounds_toArray, List.set_cons_zero, List.set_cons_succ] <;> rfl) (hJ3_4_7_9_14 (gb457) _ ⟨hHeld, (BK429.out), (BK430.out), (BK431.out), (BK440.out), (BK457.out), GE457.out, NB429_457.out, NB457_429.out, NB430_457.out, NB457_430.out, NB431_457.out, NB457_431.out, NB440_457.out, NB457_440.out, (HB.out)⟩)
    skip
    rintro _ w39 ⟨hS_, h0_, h1_, h2_, h3_, h4_⟩
    have n0_ : Aside0 (w39.heap[gb429]? = some (.cells #[.int .i64 a0_0, .int .i64 a0_1, .int .i64 a0_2] 23 (0, 0))) := ⟨h0_⟩
    have n1_ : Aside0 (w39.heap[gb430]? = some (.cells #[.int .i64 a1_0, .int .i64 a1_1, .int .i64 a1_2] 23 (0, 0))) := ⟨h1_⟩
    have n2_ : Aside0 (w39.heap[gb431]? = some (.cells #[.int .i64 a2_0, .int .i64 a2_1, .int .i64 a2_2, .int .i64 a2_3, .int .i64 a2_4, .int .i64 a2_5, .int .i64 a2_6, .int .i64 a2_7, .int .i64 a2_8] 25 (0, 0))) := ⟨h2_⟩
    have n3_ : Aside0 (w39.heap[gb440]? = some (.cells #[.int .i64 t433, .int .i64 t434, .bool t435, .int .i64 t436, .int .i64 t437] 30 (0, 0))) := ⟨h3_⟩
    have n4_ : Aside0 (Below w.heap.size w w39) := ⟨h4_⟩
    clear BK429
    clear BK430
    clear BK431
    clear BK440
    clear HB
    clear h0_ h1_ h2_ h3_ h4_
    have BK429 := n0_
    have BK430 := n1_
    have BK431 := n2_
    have BK440 := n3_
    have HB := n4_
    clear n0_ n1_ n2_ n3_ n4_
    have hHeld : w39.cell? ⟨gb429, 0, none⟩ = some (.int .i64 a0_0) ∧ w39.cell? ⟨gb429, 1, none⟩ = some (.int .i64 a0_1) ∧ w39.cell? ⟨gb429, 2, none⟩ = some (.int .i64 a0_2) ∧ w39.cell? ⟨gb430, 0, none⟩ = some (.int .i64 a1_0) ∧ w39.cell? ⟨gb430, 1, none⟩ = some (.int .i64 a1_1) ∧ w39.cell? ⟨gb430, 2, none⟩ = some (.int .i64 a1_2) ∧ w39.cell? ⟨gb431, 0, none⟩ = some (.int .i64 a2_0) ∧ w39.cell? ⟨gb431, 1, none⟩ = some (.int .i64 a2_1) ∧ w39.cell? ⟨gb431, 2, none⟩ = some (.int .i64 a2_2) ∧ w39.cell? ⟨gb431, 3, none⟩ = some (.int .i64 a2_3) ∧ w39.cell? ⟨gb431, 4, none⟩ = some (.int .i64 a2_4) ∧ w39.cell? ⟨gb431, 5, none⟩ = some (.int .i64 a2_5) ∧ w39.cell? ⟨gb431, 6, none⟩ = some (.int .i64 a2_6) ∧ w39.cell? ⟨gb431, 7, none⟩ = some (.int .i64 a2_7) ∧ w39.cell? ⟨gb431, 8, none⟩ = some (.int .i64 a2_8) := hS_
    refine norm_ (a' := ?_) ?_ ?_
    rotate_left
    ·simp only [putAll, Act.put, List.setIfInBounds_toArray, List.set_cons_zero, List.set_cons_succ]
     rfl
    refine one_ (i := 14) (N := some 14) #[true, true, true, true, true, true, true, true, true, true, true, true, true, true, true, false, false, false] rfl rfl (one_of HT_.out (by kernel_rfl)) (by decide) (fun K hK => ?_)
    refine box_step ?hg (N := 14) ?hd (cs := #[.int .i64 0, .int .i64 0, .bool false, .int .i64 0, .int .i64 0]) (t := 30) ?hr ?_; (case hd => rfl); (case hg => rfl); (case hr => first | (go_simp; done) | (go_simp; rfl))
    intro gb457 hg w40 hbox hb
    have BK457 := Aside0.mk (hbox)
    have GE457 := Aside0.mk (bG hg (HB.out))
    have NB429_457 := cN hg BK429
    have NB457_429 := cM hg BK429
    have NB430_457 := cN hg BK430
    have NB457_430 := cM hg BK430
    have NB431_457 := cN hg BK431
    have NB457_431 := cM hg BK431
    have NB440_457 := cN hg BK440
    have NB457_440 := cM hg BK440
    replace BK429 := cB hb BK429
    replace BK430 := cB hb BK430
    replace BK431 := cB hb BK431
    replace BK440 := cB hb BK440
    replace HB := Aside0.mk (below_step (HB.out) hb)
    clear hb hbox hg
    refine hK.out _ _ ⟨(blk_cell BK429.out 0).trans rfl, (blk_cell BK429.out 1).trans rfl, (blk_cell BK429.out 2).trans rfl, (blk_cell BK430.out 0).trans rfl, (blk_cell BK430.out 1).trans rfl, (blk_cell BK430.out 2).trans rfl, (blk_cell BK431.out 0).trans rfl, (blk_cell BK431.out 1).trans rfl, (blk_cell BK431.out 2).trans rfl, (blk_cell BK431.out 3).trans rfl, (blk_cell BK431.out 4).trans rfl, (blk_cell BK431.out 5).trans rfl, (blk_cell BK431.out 6).trans rfl, (blk_cell BK431.out 7).trans rfl, (blk_cell BK431.out 8).trans rfl⟩ (fun hHeld => ?_)
    clear hK K
    refine norm_ (a' := ?_) ?_ ?_
    rotate_left
    ·show Act.put _ (some 14) _ = _
     simp only [Act.put, List.setIfInBounds_toArray, List.set_cons_zero, List.set_cons_succ, i64_w, i32_w]
     rfl
    exact norm_ (by simp only [putAll, Act.put, List.setIfInBounds_toArray, List.set_cons_zero, List.set_cons_succ] <;> rfl) (hJ3_4_7_9_14 (gb457) _ ⟨hHeld, (BK429.out), (BK430.out), (BK431.out), (BK440.out), (BK457.out), GE457.out, NB429_457.out, NB457_429.out, NB430_457.out, NB457_430.out, NB431_457.out, NB457_431.out, NB440_457.out, NB457_440.out, (HB.out)⟩)
   rintro gb457 w40 ⟨hS_, h0_, h1_, h2_, h3_, h4_, h5_, h6_, h7_, h8_, h9_, h10_, h11_, h12_, h13_, h14_⟩
   have n0_ : Aside0 (w40.heap[gb429]? = some (.cells #[.int .i64 a0_0, .int .i64 a0_1, .int .i64 a0_2] 23 (0, 0))) := ⟨h0_⟩
   have n1_ : Aside0 (w40.heap[gb430]? = some (.cells #[.int .i64 a1_0, .int .i64 a1_1, .int .i64 a1_2] 23 (0, 0))) := ⟨h1_⟩
   have n2_ : Aside0 (w40.heap[gb431]? = some (.cells #[.int .i64 a2_0, .int .i64 a2_1, .int .i64 a2_2, .int .i64 a2_3, .int .i64 a2_4, .int .i64 a2_5, .int .i64 a2_6, .int .i64 a2_7, .int .i64 a2_8] 25 (0, 0))) := ⟨h2_⟩
   have n3_ : Aside0 (w40.heap[gb440]? = some (.cells #[.int .i64 t433, .int .i64 t434, .bool t435, .int .i64 t436, .int .i64 t437] 30 (0, 0))) := ⟨h3_⟩
   have n4_ : Aside0 (w40.heap[gb457]? = some (.cells #[.int .i64 0, .int .i64 0, .bool false, .int .i64 0, .int .i64 0] 30 (0, 0))) := ⟨h4_⟩
   have GE457 : Aside0 (w.heap.size ≤ gb457) := ⟨h5_⟩
   have NB429_457 : Aside0 (gb429 ≠ gb457) := ⟨h6_⟩
   have NB457_429 : Aside0 (gb457 ≠ gb429) := ⟨h7_⟩
   have NB430_457 : Aside0 (gb430 ≠ gb457) := ⟨h8_⟩
   have NB457_430 : Aside0 (gb457 ≠ gb430) := ⟨h9_⟩
   have NB431_457 : Aside0 (gb431 ≠ gb457) := ⟨h10_⟩
   have NB457_431 : Aside0 (gb457 ≠ gb431) := ⟨h11_⟩
   have NB440_457 : Aside0 (gb440 ≠ gb457) := ⟨h12_⟩
   have NB457_440 : Aside0 (gb457 ≠ gb440) := ⟨h13_⟩
   have n14_ : Aside0 (Below w.heap.size w w40) := ⟨h14_⟩
   clear BK429
   clear BK430
   clear BK431
   clear BK440
   clear HB
   clear h0_ h1_ h2_ h3_ h4_ h5_ h6_ h7_ h8_ h9_ h10_ h11_ h12_ h13_ h14_
   have BK429 := n0_
   have BK430 := n1_
   have BK431 := n2_
   have BK440 := n3_
   have BK457 := n4_
   have HB := n14_
   clear n0_ n1_ n2_ n3_ n4_ n14_
   have hHeld : w40.cell? ⟨gb429, 0, none⟩ = some (.int .i64 a0_0) ∧ w40.cell? ⟨gb429, 1, none⟩ = some (.int .i64 a0_1) ∧ w40.cell? ⟨gb429, 2, none⟩ = some (.int .i64 a0_2) ∧ w40.cell? ⟨gb430, 0, none⟩ = some (.int .i64 a1_0) ∧ w40.cell? ⟨gb430, 1, none⟩ = some (.int .i64 a1_1) ∧ w40.cell? ⟨gb430, 2, none⟩ = some (.int .i64 a1_2) ∧ w40.cell? ⟨gb431, 0, none⟩ = some (.int .i64 a2_0) ∧ w40.cell? ⟨gb431, 1, none⟩ = some (.int .i64 a2_1) ∧ w40.cell? ⟨gb431, 2, none⟩ = some (.int .i64 a2_2) ∧ w40.cell? ⟨gb431, 3, none⟩ = some (.int .i64 a2_3) ∧ w40.cell? ⟨gb431, 4, none⟩ = some (.int .i64 a2_4) ∧ w40.cell? ⟨gb431, 5, none⟩ = some (.int .i64 a2_5) ∧ w40.cell? ⟨gb431, 6, none⟩ = some (.int .i64 a2_6) ∧ w40.cell? ⟨gb431, 7, none⟩ = some (.int .i64 a2_7) ∧ w40.cell? ⟨gb431, 8, none⟩ = some (.int .i64 a2_8) := hS_
   refine norm_ (a' := ?_) ?_ ?_
   rotate_left
   ·simp only [putAll, Act.put, List.setIfInBounds_toArray, List.set_cons_zero, List.set_cons_succ]
    rfl
   refine one_ (i := 15) (N := none) #[true, true, true, true, true, true, true, true, true, true, true, true, true, true, true, true, false, false] rfl rfl (one_of HT_.out (by kernel_rfl)) (by decide) (fun K hK => ?_)
   have hs41 : w40.cell? ⟨gb457, 0, none⟩ = some (.int .i64 0) := (blk_cell BK457.out 0).trans rfl
   have hfs41 := blk_frozen BK457.out 0
   have hns41_0 := NB429_457.out
   have hns41_1 := NB430_457.out
   have hns41_2 := NB431_457.out
   have hns41_3 := NB440_457.out
   have hms41_0 := NB457_429.out
   have hms41_1 := NB457_430.out
   have hms41_2 := NB457_431.out
   have hms41_3 := NB457_440.out
   have hs42 : w40.cell? ⟨gb457, 1, none⟩ = some (.int .i64 0) := (blk_cell BK457.out 1).trans rfl
   have hfs42 := blk_frozen BK457.out 1
   have hns42_0 := NB429_457.out
   have hns42_1 := NB430_457.out
   have hns42_2 := NB431_457.out
   have hns42_3 := NB440_457.out
   have hms42_0 := NB457_429.out
   have hms42_1 := NB457_430.out
   have hms42_2 := NB457_431.out
   have hms42_3 := NB457_440.out
   have hs43 : w40.cell? ⟨gb457, 2, none⟩ = some (.bool false) := (blk_cell BK457.out 2).trans rfl
   have hfs43 := blk_frozen BK457.out 2
   have hns43_0 := NB429_457.out
   have hns43_1 := NB430_457.out
   have hns43_2 := NB431_457.out
   have hns43_3 := NB440_457.out
   have hms43_0 := NB457_429.out
   have hms43_1 := NB457_430.out
   have hms43_2 := NB457_431.out
   have hms43_3 := NB457_440.out
   have hs44 : w40.cell? ⟨gb457, 3, none⟩ = some (.int .i64 0) := (blk_cell BK457.out 3).trans rfl
   have hfs44 := blk_frozen BK457.out 3
   have hns44_0 := NB429_457.out
   have hns44_1 := NB430_457.out
   have hns44_2 := NB431_457.out
   have hns44_3 := NB440_457.out
   have hms44_0 := NB457_429.out
   have hms44_1 := NB457_430.out
   have hms44_2 := NB457_431.out
   have hms44_3 := NB457_440.out
   have hs45 : w40.cell? ⟨gb457, 4, none⟩ = some (.int .i64 0) := (blk_cell BK457.out 4).trans rfl
   have hfs45 := blk_frozen BK457.out 4
   have hns45_0 := NB429_457.out
   have hns45_1 := NB430_457.out
   have hns45_2 := NB431_457.out
   have hns45_3 := NB440_457.out
   have hms45_0 := NB457_429.out
   have hms45_1 := NB457_430.out
   have hms45_2 := NB457_431.out
   have hms45_3 := NB457_440.out
   refine skip_ (w1 := ?_) (by rfl) rfl ?_ ?_
   rotate_left
   ·go_simp
    rfl
   refine hK.out _ _ ⟨(cf NB429_457.out (cf NB429_457.out (cf NB429_457.out (cf NB429_457.out (cf NB429_457.out hHeld.1))))), (cf NB429_457.out (cf NB429_457.out (cf NB429_457.out (cf NB429_457.out (cf NB429_457.out hHeld.2.1))))), (cf NB429_457.out (cf NB429_457.out (cf NB429_457.out (cf NB429_457.out (cf NB429_457.out hHeld.2.2.1))))), (cf NB430_457.out (cf NB430_457.out (cf NB430_457.out (cf NB430_457.out (cf NB430_457.out hHeld.2.2.2.1))))), (cf NB430_457.out (cf NB430_457.out (cf NB430_457.out (cf NB430_457.out (cf NB430_457.out hHeld.2.2.2.2.1))))), (cf NB430_457.out (cf NB430_457.out (cf NB430_457.out (cf NB430_457.out (cf NB430_457.out hHeld.2.2.2.2.2.1))))), (cf NB431_457.out (cf NB431_457.out (cf NB431_457.out (cf NB431_457.out (cf NB431_457.out hHeld.2.2.2.2.2.2.1))))), (cf NB431_457.out (cf NB431_457.out (cf NB431_457.out (cf NB431_457.out (cf NB431_457.out hHeld.2.2.2.2.2.2.2.1))))), (cf NB431_457.out (cf NB431_457.out (cf NB431_457.out (cf NB431_457.out (cf NB431_457.out hHeld.2.2.2.2.2.2.2.2.1))))), (cf NB431_457.out (cf NB431_457.out (cf NB431_457.out (cf NB431_457.out (cf NB431_457.out hHeld.2.2.2.2.2.2.2.2.2.1))))), (cf NB431_457.out (cf NB431_457.out (cf NB431_457.out (cf NB431_457.out (cf NB431_457.out hHeld.2.2.2.2.2.2.2.2.2.2.1))))), (cf NB431_457.out (cf NB431_457.out (cf NB431_457.out (cf NB431_457.out (cf NB431_457.out hHeld.2.2.2.2.2.2.2.2.2.2.2.1))))), (cf NB431_457.out (cf NB431_457.out (cf NB431_457.out (cf NB431_457.out (cf NB431_457.out hHeld.2.2.2.2.2.2.2.2.2.2.2.2.1))))), (cf NB431_457.out (cf NB431_457.out (cf NB431_457.out (cf NB431_457.out (cf NB431_457.out hHeld.2.2.2.2.2.2.2.2.2.2.2.2.2.1))))), (cf NB431_457.out (cf NB431_457.out (cf NB431_457.out (cf NB431_457.out (cf NB431_457.out hHeld.2.2.2.2.2.2.2.2.2.2.2.2.2.2)))))⟩ (fun hHeld => ?_)
   clear hK K
   refine pure_ (i := 16) (N := some 15) (v := ?_) (a' := ?_) #[true, true, true, true, true, true, true, true, true, true, true, true, true, true, true, true, true, false] rfl rfl (any_of HT_.out (by kernel_rfl)) (fun _ _ _ h => h) (Or.inl ⟨by rfl, ?_⟩) ?_ ?_
   rotate_left
   ·intro w'
    go_simp
    with_reducible rfl
   rotate_left
   ·simp only [Act.put, List.setIfInBounds_toArray, List.set_cons_zero, List.set_cons_succ, i64_w, i32_w]
    rfl
   refine pure_ (i := 17) (N := some 16) (v := ?_) (a' := ?_) #[true, true, true, true, true, true, true, true, true, true, true, true, true, true, true, true, true, true] rfl rfl (any_of HT_.out (by kernel_rfl)) (fun _ _ _ h => h) (Or.inl ⟨by rfl, ?_⟩) ?_ ?_
   rotate_left
   ·intro w'
    go_simp
    with_reducible rfl
   rotate_left
   ·simp only [Act.put, List.setIfInBounds_toArray, List.set_cons_zero, List.set_cons_succ, i64_w, i32_w]
    rfl
   refine done_ (done_of HT_.out (by kernel_rfl)) ?_
   go_upto_if 66 with (fail)
   go_cut [] (fun wc => ∃ (kq : Nat), Aside0 (relievolaw03_SideAlong.j1 kq a3 a4 t438 t455 t433 t434 t435 t436 t437 t450 t451 t452 t453 t454 = some r) ∧ Aside0 (kq ≤ kj8) ∧ Aside0 (wc.heap[gb440]? = some (.cells #[.int .i64 t433, .int .i64 t434, .bool t435, .int .i64 t436, .int .i64 t437] 30 (0, 0))) ∧ Aside0 (wc.heap[gb457]? = some (.cells #[.int .i64 t450, .int .i64 t451, .bool t452, .int .i64 t453, .int .i64 t454] 30 (0, 0))) ∧ Aside0 (Below w.heap.size w wc))
   case first =>
    have H := HC33.out
    clear HC33
    by_cases c46 : t456 = 0
    ·rw [if_pos c46] at H
     have c46b0 : (t456 == 0) = true := beq_iff_eq.mpr c46
     have c46b1 : (t456 != 0) = false := bne_eq_false_iff_eq.mpr c46
     clear c46
     (first | rw [c46b0] | (simp only [i64_w, i32_w]; rw [c46b0]) | skip)
     have H' := Aside0.mk H
     clear H
     go_wp2
     go_meet
     case rel => exact ⟨_, H', ⟨by have := HJ8.out; first | omega | exact Nat.le_refl _⟩, ⟨(blk_far (blk_far (blk_far (blk_far (blk_far BK440.out NB440_457.out _) NB440_457.out _) NB440_457.out _) NB440_457.out _) NB440_457.out _)⟩, ⟨(blk_put (cs' := #[.int .i64 t450, .int .i64 t451, .bool t452, .int .i64 t453, .int .i64 t454]) (blk_put (blk_put (blk_put (blk_put BK457.out 0 _ rfl) 1 _ rfl) 2 _ rfl) 3 _ rfl) 4 _ rfl)⟩, ⟨(below_set (below_set (below_set (below_set (below_set HB.out GE457.out) GE457.out) GE457.out) GE457.out) GE457.out)⟩⟩
    rw [if_neg c46] at H
    have c46b0 : (t456 == 0) = false := beq_eq_false_iff_ne.mpr c46
    have c46b1 : (t456 != 0) = true := bne_iff_ne.mpr c46
    (first | rw [c46b0] | (simp only [i64_w, i32_w]; rw [c46b0]) | skip)
    obtain rfl := Option.some.inj H
    go_wp2
    go_ret
    exact ⟨by first | rfl | (simp [errW_none, errW_some] <;> rfl) | (simp [*, errW_none, errW_some] <;> rfl), (below_set (below_set (below_set (below_set (below_set HB.out GE457.out) GE457.out) GE457.out) GE457.out) GE457.out)⟩
   clear HC33
   try clear c28
   obtain ⟨kq, HA, HJ32, BK440, BK457, HB⟩ := hcut
   cases kq with
   | zero => exact absurd HA.out (by simp [relievolaw03_SideAlong.j1])
   | succ kj32 =>
    have H := HA.out
    clear HA
    simp only [relievolaw03_SideAlong.j1] at H
    by_cases c47 : (t438 != t455) = true
    ·rw [if_pos c47] at H
     have c47b0 : (t438 != t455) = true := c47
     (try (have c47b1 : decide (t438 = t455) = false := by simpa using c47))
     (try (have c47b2 : (t438 == t455) = false := by simpa using c47))
     (try (have c47b3 : ¬ (t438 = t455) := by simpa using c47))
     clear c47
     obtain rfl := Option.some.inj H
     go_wp2
     go_ret
     exact ⟨by first | rfl | (simp [errW_none, errW_some] <;> rfl) | (simp [*, errW_none, errW_some] <;> rfl), HB.out⟩
    rw [if_neg c47] at H
    have c47b0 : (t438 != t455) = false := by simpa using c47
    (try (have c47b1 : decide (t438 = t455) = true := by simpa using c47))
    (try (have c47b2 : (t438 == t455) = true := by simpa using c47))
    clear c47
    by_cases c48 : t438 = true
    ·subst c48
     have H1 : ((relievoref01_Mul.f (wrap64 (t433 - (wrap64 (a3 * t434)))) t451).bind fun bt458 => ((relievoref01_Mul.f t450 (wrap64 (t434 * a4))).bind fun bt461 => (if (bt458.1 == bt461.1 && (bt458.2 == bt461.2)) = true then (some (t435 == (t452 == (decide (a4 > 0))))) else (some false)))) = some r := by rw [if_pos rfl] at H; exact H
     clear H
     have H := H1
     clear H1
     replace H := Option.bind_eq_some_iff.mp H
     obtain ⟨⟨t458, t459⟩, A490, H⟩ := H
     replace H : ((relievoref01_Mul.f t450 (wrap64 (t434 * a4))).bind fun bt461 => (if (t458 == bt461.1 && (t459 == bt461.2)) = true then (some (t435 == (t452 == (decide (a4 > 0))))) else (some false))) = some r := H
     have A49 := Aside0.mk A490
     clear A490
     replace H := Option.bind_eq_some_iff.mp H
     obtain ⟨⟨t461, t462⟩, A500, H⟩ := H
     replace H : (if (t458 == t461 && (t459 == t462)) = true then (some (t435 == (t452 == (decide (a4 > 0))))) else (some false)) = some r := H
     have A50 := Aside0.mk A500
     clear A500
     by_cases c51 : (t458 == t461 && (t459 == t462)) = true
     ·rw [if_pos c51] at H
      have c51b0 : (t458 == t461 && (t459 == t462)) = true := c51
      (try (have c51b1 : decide (t458 = t461 && (t459 == t462)) = true := by simpa using c51))
      (try (have c51b2 : (t458 == t461 && (t459 == t462)) = true := by simpa using c51))
      clear c51
      obtain rfl := Option.some.inj H
      obtain ⟨hcz52_0, hcz52_1, hcz52_2, hcz52_3, hcz52_4⟩ := cells5 BK440.out
      obtain ⟨hcz53_0, hcz53_1, hcz53_2, hcz53_3, hcz53_4⟩ := cells5 BK457.out
      go_wp2_with (first | ((with_reducible refine gate_callee (f := 28) rfl ?_); refine goesL_ (some 84) rfl rfl Try.func28 (by kernel_rfl) rfl #[.int .i64 (wrap64 (t433 - (wrap64 (a3 * t434)))), .int .i64 t451] rfl (by (try simp only [List.map_toArray, List.map_cons, List.map_nil]); first | done | rfl | (simp only [List.length_drop, List.length_take]; rfl)) ?_; (with_reducible refine (relievoref01_Mul.calls (wrap64 (t433 - (wrap64 (a3 * t434)))) t451 t458 t459 _ A49.out).mono ?_); rintro e w54 ⟨rfl, hb⟩; refine ⟨_, rfl, ?_⟩; replace BK440 := cB hb BK440; replace BK457 := cB hb BK457; replace HB := Aside0.mk (below_step (HB.out) hb); (try clear hb); (try clear hb2); (try clear hk); (try clear hi)) | ((with_reducible refine gate_dst (N := 17) rfl ?_); refine box_event ?hg (N := 17) ?hd (cs := #[.int .i64 0, .int .u64 0]) (t := 46) ?hr ?_; (case hd => rfl); (case hg => rfl); (case hr => first | (go_simp; done) | (go_simp; rfl)); intro gb460 hg w55 hbox hb; have BK460 := Aside0.mk (hbox); have GE460 := Aside0.mk (bG hg (HB.out)); have NB440_460 := cN hg BK440; have NB460_440 := cM hg BK440; have NB457_460 := cN hg BK457; have NB460_457 := cM hg BK457; replace BK440 := cB hb BK440; replace BK457 := cB hb BK457; replace HB := Aside0.mk (below_step (HB.out) hb); clear hb hbox hg; have hnb56 := NB460_440.out; have hnc56 := NB440_460.out; have hnb57 := NB460_457.out; have hnc57 := NB457_460.out; obtain ⟨hcz58_0, hcz58_1⟩ := cells2 BK460.out; have hfz58_0 := blk_frozen BK460.out 0; have hfz58_1 := blk_frozen BK460.out 1; obtain ⟨hcz59_0, hcz59_1, hcz59_2, hcz59_3, hcz59_4⟩ := cells5 BK457.out; obtain ⟨hcz60_0, hcz60_1, hcz60_2, hcz60_3, hcz60_4⟩ := cells5 BK440.out) | ((with_reducible refine gate_callee (f := 28) rfl ?_); refine goesL_ (some 93) rfl rfl Try.func28 (by kernel_rfl) rfl #[.int .i64 t450, .int .i64 (wrap64 (t434 * a4))] rfl (by (try simp only [List.map_toArray, List.map_cons, List.map_nil]); first | done | rfl | (simp only [List.length_drop, List.length_take]; rfl)) ?_; (with_reducible refine (relievoref01_Mul.calls t450 (wrap64 (t434 * a4)) t461 t462 _ A50.out).mono ?_); rintro e w61 ⟨rfl, hb⟩; refine ⟨_, rfl, ?_⟩; replace BK440 := Aside0.mk (bB hb ((blk_far (blk_far BK440.out NB440_460.out _) NB440_460.out _))); replace BK457 := Aside0.mk (bB hb ((blk_far (blk_far BK457.out NB457_460.out _) NB457_460.out _))); replace BK460 := Aside0.mk (bB hb ((blk_put (cs' := #[.int .i64 t458, .int .u64 t459]) (blk_put BK460.out 0 _ rfl) 1 _ rfl))); replace HB := Aside0.mk (below_step ((below_set (below_set HB.out GE460.out) GE460.out)) hb); (try clear hb); (try clear hb2); (try clear hk); (try clear hi)) | ((with_reducible refine gate_dst (N := 18) rfl ?_); refine box_event ?hg (N := 18) ?hd (cs := #[.int .i64 0, .int .u64 0]) (t := 46) ?hr ?_; (case hd => rfl); (case hg => rfl); (case hr => first | (go_simp; done) | (go_simp; rfl)); intro gb463 hg w62 hbox hb; have BK463 := Aside0.mk (hbox); have GE463 := Aside0.mk (bG hg (HB.out)); have NB440_463 := cN hg BK440; have NB463_440 := cM hg BK440; have NB457_463 := cN hg BK457; have NB463_457 := cM hg BK457; have NB460_463 := cN hg BK460; have NB463_460 := cM hg BK460; replace BK440 := cB hb BK440; replace BK457 := cB hb BK457; replace BK460 := cB hb BK460; replace HB := Aside0.mk (below_step (HB.out) hb); clear hb hbox hg; have hnb63 := NB463_440.out; have hnc63 := NB440_463.out; have hnb64 := NB463_457.out; have hnc64 := NB457_463.out; have hnb65 := NB463_460.out; have hnc65 := NB460_463.out; obtain ⟨hcz66_0, hcz66_1⟩ := cells2 BK463.out; have hfz66_0 := blk_frozen BK463.out 0; have hfz66_1 := blk_frozen BK463.out 1; obtain ⟨hcz67_0, hcz67_1⟩ := cells2 BK460.out; have hfz67_0 := blk_frozen BK460.out 0; have hfz67_1 := blk_frozen BK460.out 1; obtain ⟨hcz68_0, hcz68_1, hcz68_2, hcz68_3, hcz68_4⟩ := cells5 BK440.out; obtain ⟨hcz69_0, hcz69_1, hcz69_2, hcz69_3, hcz69_4⟩ := cells5 BK457.out))
      go_ret
      exact ⟨by first | rfl | (simp [errW_none, errW_some] <;> rfl) | (simp [*, errW_none, errW_some] <;> rfl), (below_set (below_set HB.out GE463.out) GE463.out)⟩
     rw [if_neg c51] at H
     have c51b0 : (t458 == t461 && (t459 == t462)) = false := by simpa using c51
     (try (have c51b1 : decide (t458 = t461 && (t459 == t462)) = false := by simpa using c51))
     (try (have c51b2 : (t458 == t461 && (t459 == t462)) = false := by simpa using c51))
     (try (have c51b3 : ¬ (t458 = t461 && (t459 == t462)) := by simpa using c51))
     clear c51
     obtain rfl := Option.some.inj H
     obtain ⟨hcz70_0, hcz70_1, hcz70_2, hcz70_3, hcz70_4⟩ := cells5 BK440.out
     obtain ⟨hcz71_0, hcz71_1, hcz71_2, hcz71_3, hcz71_4⟩ := cells5 BK457.out
     go_wp2_with (first | ((with_reducible refine gate_callee (f := 28) rfl ?_); refine goesL_ (some 84) rfl rfl Try.func28 (by kernel_rfl) rfl #[.int .i64 (wrap64 (t433 - (wrap64 (a3 * t434)))), .int .i64 t451] rfl (by (try simp only [List.map_toArray, List.map_cons, List.map_nil]); first | done | rfl | (simp only [List.length_drop, List.length_take]; rfl)) ?_; (with_reducible refine (relievoref01_Mul.calls (wrap64 (t433 - (wrap64 (a3 * t434)))) t451 t458 t459 _ A49.out).mono ?_); rintro e w72 ⟨rfl, hb⟩; refine ⟨_, rfl, ?_⟩; replace BK440 := cB hb BK440; replace BK457 := cB hb BK457; replace HB := Aside0.mk (below_step (HB.out) hb); (try clear hb); (try clear hb2); (try clear hk); (try clear hi)) | ((with_reducible refine gate_dst (N := 17) rfl ?_); refine box_event ?hg (N := 17) ?hd (cs := #[.int .i64 0, .int .u64 0]) (t := 46) ?hr ?_; (case hd => rfl); (case hg => rfl); (case hr => first | (go_simp; done) | (go_simp; rfl)); intro gb460 hg w73 hbox hb; have BK460 := Aside0.mk (hbox); have GE460 := Aside0.mk (bG hg (HB.out)); have NB440_460 := cN hg BK440; have NB460_440 := cM hg BK440; have NB457_460 := cN hg BK457; have NB460_457 := cM hg BK457; replace BK440 := cB hb BK440; replace BK457 := cB hb BK457; replace HB := Aside0.mk (below_step (HB.out) hb); clear hb hbox hg; have hnb74 := NB460_440.out; have hnc74 := NB440_460.out; have hnb75 := NB460_457.out; have hnc75 := NB457_460.out; obtain ⟨hcz76_0, hcz76_1⟩ := cells2 BK460.out; have hfz76_0 := blk_frozen BK460.out 0; have hfz76_1 := blk_frozen BK460.out 1; obtain ⟨hcz77_0, hcz77_1, hcz77_2, hcz77_3, hcz77_4⟩ := cells5 BK457.out; obtain ⟨hcz78_0, hcz78_1, hcz78_2, hcz78_3, hcz78_4⟩ := cells5 BK440.out) | ((with_reducible refine gate_callee (f := 28) rfl ?_); refine goesL_ (some 93) rfl rfl Try.func28 (by kernel_rfl) rfl #[.int .i64 t450, .int .i64 (wrap64 (t434 * a4))] rfl (by (try simp only [List.map_toArray, List.map_cons, List.map_nil]); first | done | rfl | (simp only [List.length_drop, List.length_take]; rfl)) ?_; (with_reducible refine (relievoref01_Mul.calls t450 (wrap64 (t434 * a4)) t461 t462 _ A50.out).mono ?_); rintro e w79 ⟨rfl, hb⟩; refine ⟨_, rfl, ?_⟩; replace BK440 := Aside0.mk (bB hb ((blk_far (blk_far BK440.out NB440_460.out _) NB440_460.out _))); replace BK457 := Aside0.mk (bB hb ((blk_far (blk_far BK457.out NB457_460.out _) NB457_460.out _))); replace BK460 := Aside0.mk (bB hb ((blk_put (cs' := #[.int .i64 t458, .int .u64 t459]) (blk_put BK460.out 0 _ rfl) 1 _ rfl))); replace HB := Aside0.mk (below_step ((below_set (below_set HB.out GE460.out) GE460.out)) hb); (try clear hb); (try clear hb2); (try clear hk); (try clear hi)) | ((with_reducible refine gate_dst (N := 18) rfl ?_); refine box_event ?hg (N := 18) ?hd (cs := #[.int .i64 0, .int .u64 0]) (t := 46) ?hr ?_; (case hd => rfl); (case hg => rfl); (case hr => first | (go_simp; done) | (go_simp; rfl)); intro gb463 hg w80 hbox hb; have BK463 := Aside0.mk (hbox); have GE463 := Aside0.mk (bG hg (HB.out)); have NB440_463 := cN hg BK440; have NB463_440 := cM hg BK440; have NB457_463 := cN hg BK457; have NB463_457 := cM hg BK457; have NB460_463 := cN hg BK460; have NB463_460 := cM hg BK460; replace BK440 := cB hb BK440; replace BK457 := cB hb BK457; replace BK460 := cB hb BK460; replace HB := Aside0.mk (below_step (HB.out) hb); clear hb hbox hg; have hnb81 := NB463_440.out; have hnc81 := NB440_463.out; have hnb82 := NB463_457.out; have hnc82 := NB457_463.out; have hnb83 := NB463_460.out; have hnc83 := NB460_463.out; obtain ⟨hcz84_0, hcz84_1⟩ := cells2 BK463.out; have hfz84_0 := blk_frozen BK463.out 0; have hfz84_1 := blk_frozen BK463.out 1; obtain ⟨hcz85_0, hcz85_1⟩ := cells2 BK460.out; have hfz85_0 := blk_frozen BK460.out 0; have hfz85_1 := blk_frozen BK460.out 1))
     go_ret
     exact ⟨by first | rfl | (simp [errW_none, errW_some] <;> rfl) | (simp [*, errW_none, errW_some] <;> rfl), (below_set (below_set HB.out GE463.out) GE463.out)⟩
    replace c48 := Bool.eq_false_iff.mpr c48
    subst c48
    have H1 : (some true) = some r := by rw [if_neg (show ¬ (false = true) by decide)] at H; exact H
    clear H
    have H := H1
    clear H1
    obtain rfl := Option.some.inj H
    go_wp2
    go_ret
    exact ⟨by first | rfl | (simp [errW_none, errW_some] <;> rfl) | (simp [*, errW_none, errW_some] <;> rfl), HB.out⟩
 replace c7 := Bool.eq_false_iff.mpr c7
 subst c7
 have H1 : (some false) = some r := by rw [if_neg (show ¬ (false = true) by decide)] at H; exact H
 clear H
 have H := H1
 clear H1
 obtain rfl := Option.some.inj H
 go_enter Try.func8, Try.ntmps8
 go_wp2_with (first | ((with_reducible refine gate_dst (N := 5) rfl ?_); refine box_event ?hg (N := 5) ?hd (cs := #[.int .i64 a0_0, .int .i64 a0_1, .int .i64 a0_2]) (t := 23) ?hr ?_; (case hd => rfl); (case hg => rfl); (case hr => first | (go_simp; done) | (go_simp; rfl)); intro gb429 hg w86 hbox hb; have BK429 := Aside0.mk (hbox); have GE429 := Aside0.mk (bG hg (HB.out)); replace HB := Aside0.mk (below_step (HB.out) hb); clear hb hbox hg) | ((with_reducible refine gate_dst (N := 6) rfl ?_); refine box_event ?hg (N := 6) ?hd (cs := #[.int .i64 a1_0, .int .i64 a1_1, .int .i64 a1_2]) (t := 23) ?hr ?_; (case hd => rfl); (case hg => rfl); (case hr => first | (go_simp; done) | (go_simp; rfl)); intro gb430 hg w87 hbox hb; have BK430 := Aside0.mk (hbox); have GE430 := Aside0.mk (bG hg (HB.out)); have NB429_430 := cN hg BK429; have NB430_429 := cM hg BK429; replace BK429 := cB hb BK429; replace HB := Aside0.mk (below_step (HB.out) hb); clear hb hbox hg) | ((with_reducible refine gate_dst (N := 7) rfl ?_); refine box_event ?hg (N := 7) ?hd (cs := #[.int .i64 a2_0, .int .i64 a2_1, .int .i64 a2_2, .int .i64 a2_3, .int .i64 a2_4, .int .i64 a2_5, .int .i64 a2_6, .int .i64 a2_7, .int .i64 a2_8]) (t := 25) ?hr ?_; (case hd => rfl); (case hg => rfl); (case hr => first | (go_simp; done) | (go_simp; rfl)); intro gb431 hg w88 hbox hb; have BK431 := Aside0.mk (hbox); have GE431 := Aside0.mk (bG hg (HB.out)); have NB429_431 := cN hg BK429; have NB431_429 := cM hg BK429; have NB430_431 := cN hg BK430; have NB431_430 := cM hg BK430; replace BK429 := cB hb BK429; replace BK430 := cB hb BK430; replace HB := Aside0.mk (below_step (HB.out) hb); clear hb hbox hg) | ((with_reducible refine gate_callee (f := 19) rfl ?_); refine goesL_ (some 19) rfl rfl Try.func19 (by kernel_rfl) rfl #[] rfl (by (try simp only [List.map_toArray, List.map_cons, List.map_nil]); first | done | rfl | (simp only [List.length_drop, List.length_take]; rfl)) ?_; (with_reducible refine (relievolaw03_alive.calls k  false _ A6.out).mono ?_); rintro e w89 ⟨rfl, hb⟩; refine ⟨_, rfl, ?_⟩; replace BK429 := cB hb BK429; replace BK430 := cB hb BK430; replace BK431 := cB hb BK431; replace HB := Aside0.mk (below_step (HB.out) hb); (try clear hb); (try clear hb2); (try clear hk); (try clear hi)))
 go_ret
 exact ⟨by first | rfl | (simp [errW_none, errW_some] <;> rfl) | (simp [*, errW_none, errW_some] <;> rfl), HB.out⟩

end Go.Proofs.Ytihklolcnfbbjaa.G
