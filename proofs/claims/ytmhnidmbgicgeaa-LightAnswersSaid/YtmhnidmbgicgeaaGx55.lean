-- Written by a program of this session (wip/gen), out of the translation; Lean checks it.
import Derived.Test.YtmhnidmbgicgeaaLitBlend
import Derived.Test.YtmhnidmbgicgeaaLitRefract
import Derived.Test.YtmhnidmbgicgeaaLitAll
import Derived.Test.YtmhnidmbgicgeaaGx0
import Derived.Test.YtmhnidmbgicgeaaGx1
import Derived.Test.YtmhnidmbgicgeaaGx2
import Derived.Test.YtmhnidmbgicgeaaGx3
import Derived.Test.YtmhnidmbgicgeaaGx17
import Derived.Test.YtmhnidmbgicgeaaGx18
import Derived.Test.YtmhnidmbgicgeaaGx49
import Derived.Test.YtmhnidmbgicgeaaGx50
import Derived.Test.YtmhnidmbgicgeaaGx51
import Derived.Test.YtmhnidmbgicgeaaGx52
import Derived.Test.YtmhnidmbgicgeaaGx54
namespace Go.Proofs.Ytmhnidmbgicgeaa.G
open Go.RowKit Go.Proofs.YtmhnidmbgicgeaaW.PrintWords Go.Proofs.YtmhnidmbgicgeaaW.PrintLast Go.Proofs.YtmhnidmbgicgeaaW.PrintMore
attribute [local go_sem] max2_int min2_int max_two min_two max_three min_three max_four min_four   -- for this text's walks alone
set_option linter.unusedVariables false
set_option linter.unusedSimpArgs false

attribute [local go_sem high] eqA26 eqA37
/-! ### relievolaw19_LightAnswers: function 9 -/
def relievolaw19_LightAnswers.f (k : Nat) (a0_0 : Int) (a0_1 : Int) (a0_2 : Int) (a1_0 : Int) (a1_1 : Int) (a1_2 : Int) (a2 : Int) (a3 : Int) (a4 : Int) (a5_0 : Int) (a5_1 : Int) (a5_2 : Int) (a6_0 : Int) (a6_1 : Int) (a6_2 : Int) (a7_0 : Int) (a7_1 : Int) (a7_2 : Int) : Option (Bool) := (relievolaw19_alive.f k).bind fun t363 => (if t363 = true then ((light_Refract.f k a0_0 a0_1 a0_2 a1_0 a1_1 a1_2 a2).bind fun bt364 => ((relievoref19_Refract.f k a0_0 a0_1 a0_2 a1_0 a1_1 a1_2 a2).bind fun bt369 => ((light_Cos.f k a0_0 a0_1 a0_2 a1_0 a1_1 a1_2).bind fun t374 => ((relievoref19_Cos.f k a0_0 a0_1 a0_2 a1_0 a1_1 a1_2).bind fun t375 => (if t374 = t375 then ((light_Power.f k a3 a4).bind fun t376 => ((relievoref19_Power.f k a3 a4).bind fun t377 => (if t376 = t377 then ((light_Reflect.f k a0_0 a0_1 a0_2 a1_0 a1_1 a1_2).bind fun bt378 => ((relievoref19_Reflect.f k a0_0 a0_1 a0_2 a1_0 a1_1 a1_2).bind fun bt381 => (if (bt378.1 == bt381.1 && (bt378.2.1 == bt381.2.1 && (bt378.2.2 == bt381.2.2))) = true then (if (bt364.1 == bt369.1 && (bt364.2.1 == bt369.2.1 && (bt364.2.2.1 == bt369.2.2.1))) = true then (if (bt364.2.2.2 == bt369.2.2.2) = true then ((light_Blend.f a5_0 a5_1 a5_2 a6_0 a6_1 a6_2 a7_0 a7_1 a7_2 a3 a4).bind fun bt384 => ((relievoref19_Blend.f k a5_0 a5_1 a5_2 a6_0 a6_1 a6_2 a7_0 a7_1 a7_2 a3 a4).bind fun bt387 => (some (bt384.1 == bt387.1 && (bt384.2.1 == bt387.2.1 && (bt384.2.2 == bt387.2.2)))))) else (some false)) else (some false)) else (some false)))) else (some false)))) else (some false)))))) else (some false))
def relievolaw19_LightAnswers.T5 : Bool × List (List Nat × List Nat) := (true, [([], []), ([], []), ([0, 1], [0, 1]), ([], []), ([], []), ([3, 4, 2], [3, 4]), ([2, 5], [2, 5]), ([6, 5], [6]), ([7], [7]), ([7], [7]), ([8, 9, 7, 7], [7, 8, 9]), ([7], [7]), ([7], [7]), ([11, 12, 10, 7], [7, 11, 12]), ([10, 13, 7], [7, 10, 13]), ([7, 14], [7, 14]), ([15, 13], [15]), ([16], [16]), ([16], [16]), ([17, 18, 16, 16], [16, 17, 18]), ([16], [16]), ([16], [16]), ([20, 21, 19, 16], [16, 20, 21]), ([19, 22, 16], [16, 19, 22]), ([16, 23], [16, 23]), ([24, 22], [24]), ([25], [25]), ([25], [25]), ([26, 27, 25], [25, 26, 27]), ([25, 28], [25, 28]), ([29, 25], [29]), ([30], [30]), ([30], [30]), ([31, 32, 30], [30, 31, 32]), ([30, 33], [30, 33]), ([34, 30], [34]), ([35], [35]), ([35], [35]), ([35], [35]), ([35], [35]), ([35], [35]), ([36, 37, 38, 39, 40, 35, 35], [35, 36, 37, 38, 39, 40]), ([35], [35]), ([35], [35]), ([35], [35]), ([35], [35]), ([35], [35]), ([42, 43, 44, 45, 46, 41, 35], [35, 42, 43, 44, 45, 46]), ([41, 47, 35], [35, 41, 47]), ([35, 48], [35, 48]), ([49, 47, 0, 1, 2, 3, 4, 5, 6, 7, 8, 9, 10, 11, 12, 13, 14, 15, 16, 17, 18, 19, 20, 21, 22, 23, 24, 25, 26, 27, 28, 29, 30, 31, 32, 33, 34, 35, 36, 37, 38, 39, 40, 41, 42, 43, 44, 45, 46, 47, 48, 49], [49])])
def relievolaw19_LightAnswers.B5 : List Nat := [0, 0, 3, 0, 0, 31, 63, 127, 255, 255, 1023, 255, 255, 8191, 16383, 32767, 65535, 131071, 131071, 524287, 131071, 131071, 4194303, 8388607, 16777215, 33554431, 67108863, 67108863, 268435455, 536870911, 1073741823, 2147483647, 2147483647, 8589934591, 17179869183, 34359738367, 68719476735, 68719476735, 68719476735, 68719476735, 68719476735, 2199023255551, 68719476735, 68719476735, 68719476735, 68719476735, 68719476735, 140737488355327, 281474976710655, 562949953421311, 1125899906842623]
theorem relievolaw19_LightAnswers.tab5 : rtab .any (opsOf Try.f9 5) = relievolaw19_LightAnswers.T5 := by kernel_rfl
theorem relievolaw19_LightAnswers.bits5 : waitsOk relievolaw19_LightAnswers.T5.2 relievolaw19_LightAnswers.B5 = true := by kernel_rfl
set_option maxHeartbeats 8000000 in
set_option maxRecDepth 100000 in
theorem relievolaw19_LightAnswers.calls (k : Nat) (a0_0 : Int) (a0_1 : Int) (a0_2 : Int) (a1_0 : Int) (a1_1 : Int) (a1_2 : Int) (a2 : Int) (a3 : Int) (a4 : Int) (a5_0 : Int) (a5_1 : Int) (a5_2 : Int) (a6_0 : Int) (a6_1 : Int) (a6_2 : Int) (a7_0 : Int) (a7_1 : Int) (a7_2 : Int) (r : Bool) (w : World) (h : relievolaw19_LightAnswers.f k a0_0 a0_1 a0_2 a1_0 a1_1 a1_2 a2 a3 a4 a5_0 a5_1 a5_2 a6_0 a6_1 a6_2 a7_0 a7_1 a7_2 = some r) :
    Calls Try.prog 9 #[.agg #[.int .i64 a0_0, .int .i64 a0_1, .int .i64 a0_2], .agg #[.int .i64 a1_0, .int .i64 a1_1, .int .i64 a1_2], .int .i64 a2, .int .i64 a3, .int .i64 a4, .agg #[.int .i64 a5_0, .int .i64 a5_1, .int .i64 a5_2], .agg #[.int .i64 a6_0, .int .i64 a6_1, .int .i64 a6_2], .agg #[.int .i64 a7_0, .int .i64 a7_1, .int .i64 a7_2]] w fun e w' => e = .returned (.bool r) ∧ Below w.heap.size w w' := by
 have hu26 := Try.underlying26
 have hu37 := Try.underlying37
 have HB := Aside0.mk (Below.refl w.heap.size w)
 have H : ((relievolaw19_alive.f k).bind fun t363 => (if t363 = true then ((light_Refract.f k a0_0 a0_1 a0_2 a1_0 a1_1 a1_2 a2).bind fun bt364 => ((relievoref19_Refract.f k a0_0 a0_1 a0_2 a1_0 a1_1 a1_2 a2).bind fun bt369 => ((light_Cos.f k a0_0 a0_1 a0_2 a1_0 a1_1 a1_2).bind fun t374 => ((relievoref19_Cos.f k a0_0 a0_1 a0_2 a1_0 a1_1 a1_2).bind fun t375 => (if t374 = t375 then ((light_Power.f k a3 a4).bind fun t376 => ((relievoref19_Power.f k a3 a4).bind fun t377 => (if t376 = t377 then ((light_Reflect.f k a0_0 a0_1 a0_2 a1_0 a1_1 a1_2).bind fun bt378 => ((relievoref19_Reflect.f k a0_0 a0_1 a0_2 a1_0 a1_1 a1_2).bind fun bt381 => (if (bt378.1 == bt381.1 && (bt378.2.1 == bt381.2.1 && (bt378.2.2 == bt381.2.2))) = true then (if (bt364.1 == bt369.1 && (bt364.2.1 == bt369.2.1 && (bt364.2.2.1 == bt369.2.2.1))) = true then (if (bt364.2.2.2 == bt369.2.2.2) = true then ((light_Blend.f a5_0 a5_1 a5_2 a6_0 a6_1 a6_2 a7_0 a7_1 a7_2 a3 a4).bind fun bt384 => ((relievoref19_Blend.f k a5_0 a5_1 a5_2 a6_0 a6_1 a6_2 a7_0 a7_1 a7_2 a3 a4).bind fun bt387 => (some (bt384.1 == bt387.1 && (bt384.2.1 == bt387.2.1 && (bt384.2.2 == bt387.2.2)))))) else (some false)) else (some false)) else (some false)))) else (some false)))) else (some false)))))) else (some false))) = some r := h
 clear h
 replace H := Option.bind_eq_some_iff.mp H
 obtain ⟨t363, A90, H⟩ := H
 replace H : (if t363 = true then ((light_Refract.f k a0_0 a0_1 a0_2 a1_0 a1_1 a1_2 a2).bind fun bt364 => ((relievoref19_Refract.f k a0_0 a0_1 a0_2 a1_0 a1_1 a1_2 a2).bind fun bt369 => ((light_Cos.f k a0_0 a0_1 a0_2 a1_0 a1_1 a1_2).bind fun t374 => ((relievoref19_Cos.f k a0_0 a0_1 a0_2 a1_0 a1_1 a1_2).bind fun t375 => (if t374 = t375 then ((light_Power.f k a3 a4).bind fun t376 => ((relievoref19_Power.f k a3 a4).bind fun t377 => (if t376 = t377 then ((light_Reflect.f k a0_0 a0_1 a0_2 a1_0 a1_1 a1_2).bind fun bt378 => ((relievoref19_Reflect.f k a0_0 a0_1 a0_2 a1_0 a1_1 a1_2).bind fun bt381 => (if (bt378.1 == bt381.1 && (bt378.2.1 == bt381.2.1 && (bt378.2.2 == bt381.2.2))) = true then (if (bt364.1 == bt369.1 && (bt364.2.1 == bt369.2.1 && (bt364.2.2.1 == bt369.2.2.1))) = true then (if (bt364.2.2.2 == bt369.2.2.2) = true then ((light_Blend.f a5_0 a5_1 a5_2 a6_0 a6_1 a6_2 a7_0 a7_1 a7_2 a3 a4).bind fun bt384 => ((relievoref19_Blend.f k a5_0 a5_1 a5_2 a6_0 a6_1 a6_2 a7_0 a7_1 a7_2 a3 a4).bind fun bt387 => (some (bt384.1 == bt387.1 && (bt384.2.1 == bt387.2.1 && (bt384.2.2 == bt387.2.2)))))) else (some false)) else (some false)) else (some false)))) else (some false)))) else (some false)))))) else (some false)) = some r := H
 have A9 := Aside0.mk A90
 clear A90
 by_cases c10 : t363 = true
 ·subst c10
  have H1 : ((light_Refract.f k a0_0 a0_1 a0_2 a1_0 a1_1 a1_2 a2).bind fun bt364 => ((relievoref19_Refract.f k a0_0 a0_1 a0_2 a1_0 a1_1 a1_2 a2).bind fun bt369 => ((light_Cos.f k a0_0 a0_1 a0_2 a1_0 a1_1 a1_2).bind fun t374 => ((relievoref19_Cos.f k a0_0 a0_1 a0_2 a1_0 a1_1 a1_2).bind fun t375 => (if t374 = t375 then ((light_Power.f k a3 a4).bind fun t376 => ((relievoref19_Power.f k a3 a4).bind fun t377 => (if t376 = t377 then ((light_Reflect.f k a0_0 a0_1 a0_2 a1_0 a1_1 a1_2).bind fun bt378 => ((relievoref19_Reflect.f k a0_0 a0_1 a0_2 a1_0 a1_1 a1_2).bind fun bt381 => (if (bt378.1 == bt381.1 && (bt378.2.1 == bt381.2.1 && (bt378.2.2 == bt381.2.2))) = true then (if (bt364.1 == bt369.1 && (bt364.2.1 == bt369.2.1 && (bt364.2.2.1 == bt369.2.2.1))) = true then (if (bt364.2.2.2 == bt369.2.2.2) = true then ((light_Blend.f a5_0 a5_1 a5_2 a6_0 a6_1 a6_2 a7_0 a7_1 a7_2 a3 a4).bind fun bt384 => ((relievoref19_Blend.f k a5_0 a5_1 a5_2 a6_0 a6_1 a6_2 a7_0 a7_1 a7_2 a3 a4).bind fun bt387 => (some (bt384.1 == bt387.1 && (bt384.2.1 == bt387.2.1 && (bt384.2.2 == bt387.2.2)))))) else (some false)) else (some false)) else (some false)))) else (some false)))) else (some false)))))) = some r := by rw [if_pos rfl] at H; exact H
  clear H
  have H := H1
  clear H1
  replace H := Option.bind_eq_some_iff.mp H
  obtain ⟨⟨t364, t365, t366, t367⟩, A110, H⟩ := H
  replace H : ((relievoref19_Refract.f k a0_0 a0_1 a0_2 a1_0 a1_1 a1_2 a2).bind fun bt369 => ((light_Cos.f k a0_0 a0_1 a0_2 a1_0 a1_1 a1_2).bind fun t374 => ((relievoref19_Cos.f k a0_0 a0_1 a0_2 a1_0 a1_1 a1_2).bind fun t375 => (if t374 = t375 then ((light_Power.f k a3 a4).bind fun t376 => ((relievoref19_Power.f k a3 a4).bind fun t377 => (if t376 = t377 then ((light_Reflect.f k a0_0 a0_1 a0_2 a1_0 a1_1 a1_2).bind fun bt378 => ((relievoref19_Reflect.f k a0_0 a0_1 a0_2 a1_0 a1_1 a1_2).bind fun bt381 => (if (bt378.1 == bt381.1 && (bt378.2.1 == bt381.2.1 && (bt378.2.2 == bt381.2.2))) = true then (if (t364 == bt369.1 && (t365 == bt369.2.1 && (t366 == bt369.2.2.1))) = true then (if (t367 == bt369.2.2.2) = true then ((light_Blend.f a5_0 a5_1 a5_2 a6_0 a6_1 a6_2 a7_0 a7_1 a7_2 a3 a4).bind fun bt384 => ((relievoref19_Blend.f k a5_0 a5_1 a5_2 a6_0 a6_1 a6_2 a7_0 a7_1 a7_2 a3 a4).bind fun bt387 => (some (bt384.1 == bt387.1 && (bt384.2.1 == bt387.2.1 && (bt384.2.2 == bt387.2.2)))))) else (some false)) else (some false)) else (some false)))) else (some false)))) else (some false))))) = some r := H
  have A11 := Aside0.mk A110
  clear A110
  replace H := Option.bind_eq_some_iff.mp H
  obtain ⟨⟨t369, t370, t371, t372⟩, A120, H⟩ := H
  replace H : ((light_Cos.f k a0_0 a0_1 a0_2 a1_0 a1_1 a1_2).bind fun t374 => ((relievoref19_Cos.f k a0_0 a0_1 a0_2 a1_0 a1_1 a1_2).bind fun t375 => (if t374 = t375 then ((light_Power.f k a3 a4).bind fun t376 => ((relievoref19_Power.f k a3 a4).bind fun t377 => (if t376 = t377 then ((light_Reflect.f k a0_0 a0_1 a0_2 a1_0 a1_1 a1_2).bind fun bt378 => ((relievoref19_Reflect.f k a0_0 a0_1 a0_2 a1_0 a1_1 a1_2).bind fun bt381 => (if (bt378.1 == bt381.1 && (bt378.2.1 == bt381.2.1 && (bt378.2.2 == bt381.2.2))) = true then (if (t364 == t369 && (t365 == t370 && (t366 == t371))) = true then (if (t367 == t372) = true then ((light_Blend.f a5_0 a5_1 a5_2 a6_0 a6_1 a6_2 a7_0 a7_1 a7_2 a3 a4).bind fun bt384 => ((relievoref19_Blend.f k a5_0 a5_1 a5_2 a6_0 a6_1 a6_2 a7_0 a7_1 a7_2 a3 a4).bind fun bt387 => (some (bt384.1 == bt387.1 && (bt384.2.1 == bt387.2.1 && (bt384.2.2 == bt387.2.2)))))) else (some false)) else (some false)) else (some false)))) else (some false)))) else (some false)))) = some r := H
  have A12 := Aside0.mk A120
  clear A120
  replace H := Option.bind_eq_some_iff.mp H
  obtain ⟨t374, A130, H⟩ := H
  replace H : ((relievoref19_Cos.f k a0_0 a0_1 a0_2 a1_0 a1_1 a1_2).bind fun t375 => (if t374 = t375 then ((light_Power.f k a3 a4).bind fun t376 => ((relievoref19_Power.f k a3 a4).bind fun t377 => (if t376 = t377 then ((light_Reflect.f k a0_0 a0_1 a0_2 a1_0 a1_1 a1_2).bind fun bt378 => ((relievoref19_Reflect.f k a0_0 a0_1 a0_2 a1_0 a1_1 a1_2).bind fun bt381 => (if (bt378.1 == bt381.1 && (bt378.2.1 == bt381.2.1 && (bt378.2.2 == bt381.2.2))) = true then (if (t364 == t369 && (t365 == t370 && (t366 == t371))) = true then (if (t367 == t372) = true then ((light_Blend.f a5_0 a5_1 a5_2 a6_0 a6_1 a6_2 a7_0 a7_1 a7_2 a3 a4).bind fun bt384 => ((relievoref19_Blend.f k a5_0 a5_1 a5_2 a6_0 a6_1 a6_2 a7_0 a7_1 a7_2 a3 a4).bind fun bt387 => (some (bt384.1 == bt387.1 && (bt384.2.1 == bt387.2.1 && (bt384.2.2 == bt387.2.2)))))) else (some false)) else (some false)) else (some false)))) else (some false)))) else (some false))) = some r := H
  have A13 := Aside0.mk A130
  clear A130
  replace H := Option.bind_eq_some_iff.mp H
  obtain ⟨t375, A140, H⟩ := H
  replace H : (if t374 = t375 then ((light_Power.f k a3 a4).bind fun t376 => ((relievoref19_Power.f k a3 a4).bind fun t377 => (if t376 = t377 then ((light_Reflect.f k a0_0 a0_1 a0_2 a1_0 a1_1 a1_2).bind fun bt378 => ((relievoref19_Reflect.f k a0_0 a0_1 a0_2 a1_0 a1_1 a1_2).bind fun bt381 => (if (bt378.1 == bt381.1 && (bt378.2.1 == bt381.2.1 && (bt378.2.2 == bt381.2.2))) = true then (if (t364 == t369 && (t365 == t370 && (t366 == t371))) = true then (if (t367 == t372) = true then ((light_Blend.f a5_0 a5_1 a5_2 a6_0 a6_1 a6_2 a7_0 a7_1 a7_2 a3 a4).bind fun bt384 => ((relievoref19_Blend.f k a5_0 a5_1 a5_2 a6_0 a6_1 a6_2 a7_0 a7_1 a7_2 a3 a4).bind fun bt387 => (some (bt384.1 == bt387.1 && (bt384.2.1 == bt387.2.1 && (bt384.2.2 == bt387.2.2)))))) else (some false)) else (some false)) else (some false)))) else (some false)))) else (some false)) = some r := H
  have A14 := Aside0.mk A140
  clear A140
  by_cases c15 : t374 = t375
  ·rw [if_pos c15] at H
   have c15b0 : (t374 == t375) = true := beq_iff_eq.mpr c15
   have c15b1 : (t374 != t375) = false := bne_eq_false_iff_eq.mpr c15
   clear c15
   replace H := Option.bind_eq_some_iff.mp H
   obtain ⟨t376, A160, H⟩ := H
   replace H : ((relievoref19_Power.f k a3 a4).bind fun t377 => (if t376 = t377 then ((light_Reflect.f k a0_0 a0_1 a0_2 a1_0 a1_1 a1_2).bind fun bt378 => ((relievoref19_Reflect.f k a0_0 a0_1 a0_2 a1_0 a1_1 a1_2).bind fun bt381 => (if (bt378.1 == bt381.1 && (bt378.2.1 == bt381.2.1 && (bt378.2.2 == bt381.2.2))) = true then (if (t364 == t369 && (t365 == t370 && (t366 == t371))) = true then (if (t367 == t372) = true then ((light_Blend.f a5_0 a5_1 a5_2 a6_0 a6_1 a6_2 a7_0 a7_1 a7_2 a3 a4).bind fun bt384 => ((relievoref19_Blend.f k a5_0 a5_1 a5_2 a6_0 a6_1 a6_2 a7_0 a7_1 a7_2 a3 a4).bind fun bt387 => (some (bt384.1 == bt387.1 && (bt384.2.1 == bt387.2.1 && (bt384.2.2 == bt387.2.2)))))) else (some false)) else (some false)) else (some false)))) else (some false))) = some r := H
   have A16 := Aside0.mk A160
   clear A160
   replace H := Option.bind_eq_some_iff.mp H
   obtain ⟨t377, A170, H⟩ := H
   replace H : (if t376 = t377 then ((light_Reflect.f k a0_0 a0_1 a0_2 a1_0 a1_1 a1_2).bind fun bt378 => ((relievoref19_Reflect.f k a0_0 a0_1 a0_2 a1_0 a1_1 a1_2).bind fun bt381 => (if (bt378.1 == bt381.1 && (bt378.2.1 == bt381.2.1 && (bt378.2.2 == bt381.2.2))) = true then (if (t364 == t369 && (t365 == t370 && (t366 == t371))) = true then (if (t367 == t372) = true then ((light_Blend.f a5_0 a5_1 a5_2 a6_0 a6_1 a6_2 a7_0 a7_1 a7_2 a3 a4).bind fun bt384 => ((relievoref19_Blend.f k a5_0 a5_1 a5_2 a6_0 a6_1 a6_2 a7_0 a7_1 a7_2 a3 a4).bind fun bt387 => (some (bt384.1 == bt387.1 && (bt384.2.1 == bt387.2.1 && (bt384.2.2 == bt387.2.2)))))) else (some false)) else (some false)) else (some false)))) else (some false)) = some r := H
   have A17 := Aside0.mk A170
   clear A170
   by_cases c18 : t376 = t377
   ·rw [if_pos c18] at H
    have c18b0 : (t376 == t377) = true := beq_iff_eq.mpr c18
    have c18b1 : (t376 != t377) = false := bne_eq_false_iff_eq.mpr c18
    clear c18
    replace H := Option.bind_eq_some_iff.mp H
    obtain ⟨⟨t378, t379, t380⟩, A190, H⟩ := H
    replace H : ((relievoref19_Reflect.f k a0_0 a0_1 a0_2 a1_0 a1_1 a1_2).bind fun bt381 => (if (t378 == bt381.1 && (t379 == bt381.2.1 && (t380 == bt381.2.2))) = true then (if (t364 == t369 && (t365 == t370 && (t366 == t371))) = true then (if (t367 == t372) = true then ((light_Blend.f a5_0 a5_1 a5_2 a6_0 a6_1 a6_2 a7_0 a7_1 a7_2 a3 a4).bind fun bt384 => ((relievoref19_Blend.f k a5_0 a5_1 a5_2 a6_0 a6_1 a6_2 a7_0 a7_1 a7_2 a3 a4).bind fun bt387 => (some (bt384.1 == bt387.1 && (bt384.2.1 == bt387.2.1 && (bt384.2.2 == bt387.2.2)))))) else (some false)) else (some false)) else (some false))) = some r := H
    have A19 := Aside0.mk A190
    clear A190
    replace H := Option.bind_eq_some_iff.mp H
    obtain ⟨⟨t381, t382, t383⟩, A200, H⟩ := H
    replace H : (if (t378 == t381 && (t379 == t382 && (t380 == t383))) = true then (if (t364 == t369 && (t365 == t370 && (t366 == t371))) = true then (if (t367 == t372) = true then ((light_Blend.f a5_0 a5_1 a5_2 a6_0 a6_1 a6_2 a7_0 a7_1 a7_2 a3 a4).bind fun bt384 => ((relievoref19_Blend.f k a5_0 a5_1 a5_2 a6_0 a6_1 a6_2 a7_0 a7_1 a7_2 a3 a4).bind fun bt387 => (some (bt384.1 == bt387.1 && (bt384.2.1 == bt387.2.1 && (bt384.2.2 == bt387.2.2)))))) else (some false)) else (some false)) else (some false)) = some r := H
    have A20 := Aside0.mk A200
    clear A200
    by_cases c21 : (t378 == t381 && (t379 == t382 && (t380 == t383))) = true
    ·rw [if_pos c21] at H
     have c21b0 : (t378 == t381 && (t379 == t382 && (t380 == t383))) = true := c21
     (try (have c21b1 : decide (t378 = t381 && (t379 == t382 && (t380 == t383))) = true := by simpa using c21))
     (try (have c21b2 : (t378 == t381 && (t379 == t382 && (t380 == t383))) = true := by simpa using c21))
     clear c21
     by_cases c22 : (t364 == t369 && (t365 == t370 && (t366 == t371))) = true
     ·rw [if_pos c22] at H
      have c22b0 : (t364 == t369 && (t365 == t370 && (t366 == t371))) = true := c22
      (try (have c22b1 : decide (t364 = t369 && (t365 == t370 && (t366 == t371))) = true := by simpa using c22))
      (try (have c22b2 : (t364 == t369 && (t365 == t370 && (t366 == t371))) = true := by simpa using c22))
      clear c22
      by_cases c23 : (t367 == t372) = true
      ·rw [if_pos c23] at H
       have c23b0 : (t367 == t372) = true := c23
       (try (have c23b1 : decide (t367 = t372) = true := by simpa using c23))
       (try (have c23b2 : (t367 == t372) = true := by simpa using c23))
       clear c23
       replace H := Option.bind_eq_some_iff.mp H
       obtain ⟨⟨t384, t385, t386⟩, A240, H⟩ := H
       replace H : ((relievoref19_Blend.f k a5_0 a5_1 a5_2 a6_0 a6_1 a6_2 a7_0 a7_1 a7_2 a3 a4).bind fun bt387 => (some (t384 == bt387.1 && (t385 == bt387.2.1 && (t386 == bt387.2.2))))) = some r := H
       have A24 := Aside0.mk A240
       clear A240
       replace H := Option.bind_eq_some_iff.mp H
       obtain ⟨⟨t387, t388, t389⟩, A250, H⟩ := H
       replace H : (some (t384 == t387 && (t385 == t388 && (t386 == t389)))) = some r := H
       have A25 := Aside0.mk A250
       clear A250
       obtain rfl := Option.some.inj H
       go_enter Try.func9, Try.ntmps9
       try go_wp2_with (first | ((with_reducible refine gate_dst (N := 8) rfl ?_); refine box_event ?hg (N := 8) ?hd (cs := #[.int .i64 a0_0, .int .i64 a0_1, .int .i64 a0_2]) (t := 26) ?hr ?_; (case hd => rfl); (case hg => rfl); (case hr => first | (go_simp; done) | (go_simp; rfl)); intro gb358 hg w26 hbox hb; have BK358 := Aside0.mk (hbox); have GE358 := Aside0.mk (bG hg (by first | exact HB.out | (repeat (first | exact HB.out | apply pw_below_drewN | apply below_drew1 | apply below_alloc)))); replace HB := Aside0.mk (below_step (by first | exact HB.out | (repeat (first | exact HB.out | apply pw_below_drewN | apply below_drew1 | apply below_alloc))) hb); clear hb hbox hg) | ((with_reducible refine gate_dst (N := 9) rfl ?_); refine box_event ?hg (N := 9) ?hd (cs := #[.int .i64 a1_0, .int .i64 a1_1, .int .i64 a1_2]) (t := 26) ?hr ?_; (case hd => rfl); (case hg => rfl); (case hr => first | (go_simp; done) | (go_simp; rfl)); intro gb359 hg w27 hbox hb; have BK359 := Aside0.mk (hbox); have GE359 := Aside0.mk (bG hg (by first | exact HB.out | (repeat (first | exact HB.out | apply pw_below_drewN | apply below_drew1 | apply below_alloc)))); have NB358_359 := cN hg BK358; have NB359_358 := cM hg BK358; replace BK358 := cB hb BK358; replace HB := Aside0.mk (below_step (by first | exact HB.out | (repeat (first | exact HB.out | apply pw_below_drewN | apply below_drew1 | apply below_alloc))) hb); clear hb hbox hg) | ((with_reducible refine gate_dst (N := 13) rfl ?_); refine box_event ?hg (N := 13) ?hd (cs := #[.int .i64 a5_0, .int .i64 a5_1, .int .i64 a5_2]) (t := 37) ?hr ?_; (case hd => rfl); (case hg => rfl); (case hr => first | (go_simp; done) | (go_simp; rfl)); intro gb360 hg w28 hbox hb; have BK360 := Aside0.mk (hbox); have GE360 := Aside0.mk (bG hg (by first | exact HB.out | (repeat (first | exact HB.out | apply pw_below_drewN | apply below_drew1 | apply below_alloc)))); have NB358_360 := cN hg BK358; have NB360_358 := cM hg BK358; have NB359_360 := cN hg BK359; have NB360_359 := cM hg BK359; replace BK358 := cB hb BK358; replace BK359 := cB hb BK359; replace HB := Aside0.mk (below_step (by first | exact HB.out | (repeat (first | exact HB.out | apply pw_below_drewN | apply below_drew1 | apply below_alloc))) hb); clear hb hbox hg) | ((with_reducible refine gate_dst (N := 14) rfl ?_); refine box_event ?hg (N := 14) ?hd (cs := #[.int .i64 a6_0, .int .i64 a6_1, .int .i64 a6_2]) (t := 37) ?hr ?_; (case hd => rfl); (case hg => rfl); (case hr => first | (go_simp; done) | (go_simp; rfl)); intro gb361 hg w29 hbox hb; have BK361 := Aside0.mk (hbox); have GE361 := Aside0.mk (bG hg (by first | exact HB.out | (repeat (first | exact HB.out | apply pw_below_drewN | apply below_drew1 | apply below_alloc)))); have NB358_361 := cN hg BK358; have NB361_358 := cM hg BK358; have NB359_361 := cN hg BK359; have NB361_359 := cM hg BK359; have NB360_361 := cN hg BK360; have NB361_360 := cM hg BK360; replace BK358 := cB hb BK358; replace BK359 := cB hb BK359; replace BK360 := cB hb BK360; replace HB := Aside0.mk (below_step (by first | exact HB.out | (repeat (first | exact HB.out | apply pw_below_drewN | apply below_drew1 | apply below_alloc))) hb); clear hb hbox hg) | ((with_reducible refine gate_dst (N := 15) rfl ?_); refine box_event ?hg (N := 15) ?hd (cs := #[.int .i64 a7_0, .int .i64 a7_1, .int .i64 a7_2]) (t := 37) ?hr ?_; (case hd => rfl); (case hg => rfl); (case hr => first | (go_simp; done) | (go_simp; rfl)); intro gb362 hg w30 hbox hb; have BK362 := Aside0.mk (hbox); have GE362 := Aside0.mk (bG hg (by first | exact HB.out | (repeat (first | exact HB.out | apply pw_below_drewN | apply below_drew1 | apply below_alloc)))); have NB358_362 := cN hg BK358; have NB362_358 := cM hg BK358; have NB359_362 := cN hg BK359; have NB362_359 := cM hg BK359; have NB360_362 := cN hg BK360; have NB362_360 := cM hg BK360; have NB361_362 := cN hg BK361; have NB362_361 := cM hg BK361; replace BK358 := cB hb BK358; replace BK359 := cB hb BK359; replace BK360 := cB hb BK360; replace BK361 := cB hb BK361; replace HB := Aside0.mk (below_step (by first | exact HB.out | (repeat (first | exact HB.out | apply pw_below_drewN | apply below_drew1 | apply below_alloc))) hb); clear hb hbox hg) | ((with_reducible refine gate_callee (f := 11) rfl ?_); refine goesL_ (some 21) rfl rfl Try.func11 (by kernel_rfl) rfl #[] rfl (by (try simp only [List.map_toArray, List.map_cons, List.map_nil]); first | done | rfl | (simp only [List.length_drop, List.length_take]; rfl)) ?_; (with_reducible refine (relievolaw19_alive.calls k  true _ A9.out).mono ?_); rintro e w31 ⟨rfl, hb⟩; refine ⟨_, rfl, ?_⟩; replace BK358 := cB hb BK358; replace BK359 := cB hb BK359; replace BK360 := cB hb BK360; replace BK361 := cB hb BK361; replace BK362 := cB hb BK362; replace HB := Aside0.mk (below_step (by first | exact HB.out | (repeat (first | exact HB.out | apply pw_below_drewN | apply below_drew1 | apply below_alloc))) hb); (try clear hb); (try clear hb2); (try clear hk); (try clear hi); obtain ⟨hcz32_0, hcz32_1, hcz32_2⟩ := cells3 BK358.out; obtain ⟨hcz33_0, hcz33_1, hcz33_2⟩ := cells3 BK359.out) | ((with_reducible refine gate_callee (f := 15) rfl ?_); refine goesL_ (some 27) rfl rfl Try.func15 (by kernel_rfl) rfl #[.agg #[.int .i64 a0_0, .int .i64 a0_1, .int .i64 a0_2], .agg #[.int .i64 a1_0, .int .i64 a1_1, .int .i64 a1_2], .int .i64 a2] rfl (by (try simp only [List.map_toArray, List.map_cons, List.map_nil]); first | done | rfl | (simp only [List.length_drop, List.length_take]; rfl)) ?_; (with_reducible refine (light_Refract.calls k a0_0 a0_1 a0_2 a1_0 a1_1 a1_2 a2 t364 t365 t366 t367 _ A11.out).mono ?_); rintro e w34 ⟨rfl, hb⟩; refine ⟨_, rfl, ?_⟩; replace BK358 := cB hb BK358; replace BK359 := cB hb BK359; replace BK360 := cB hb BK360; replace BK361 := cB hb BK361; replace BK362 := cB hb BK362; replace HB := Aside0.mk (below_step (by first | exact HB.out | (repeat (first | exact HB.out | apply pw_below_drewN | apply below_drew1 | apply below_alloc))) hb); (try clear hb); (try clear hb2); (try clear hk); (try clear hi)) | ((with_reducible refine gate_dst (N := 17) rfl ?_); refine box_event ?hg (N := 17) ?hd (cs := #[.int .i64 0, .int .i64 0, .int .i64 0]) (t := 26) ?hr ?_; (case hd => rfl); (case hg => rfl); (case hr => first | (go_simp; done) | (go_simp; rfl)); intro gb368 hg w35 hbox hb; have BK368 := Aside0.mk (hbox); have GE368 := Aside0.mk (bG hg (by first | exact HB.out | (repeat (first | exact HB.out | apply pw_below_drewN | apply below_drew1 | apply below_alloc)))); have NB358_368 := cN hg BK358; have NB368_358 := cM hg BK358; have NB359_368 := cN hg BK359; have NB368_359 := cM hg BK359; have NB360_368 := cN hg BK360; have NB368_360 := cM hg BK360; have NB361_368 := cN hg BK361; have NB368_361 := cM hg BK361; have NB362_368 := cN hg BK362; have NB368_362 := cM hg BK362; replace BK358 := cB hb BK358; replace BK359 := cB hb BK359; replace BK360 := cB hb BK360; replace BK361 := cB hb BK361; replace BK362 := cB hb BK362; replace HB := Aside0.mk (below_step (by first | exact HB.out | (repeat (first | exact HB.out | apply pw_below_drewN | apply below_drew1 | apply below_alloc))) hb); clear hb hbox hg; have hnb36 := NB368_358.out; have hnc36 := NB358_368.out; have hnb37 := NB368_359.out; have hnc37 := NB359_368.out; have hnb38 := NB368_360.out; have hnc38 := NB360_368.out; have hnb39 := NB368_361.out; have hnc39 := NB361_368.out; have hnb40 := NB368_362.out; have hnc40 := NB362_368.out; obtain ⟨hcz41_0, hcz41_1, hcz41_2⟩ := cells3 BK368.out; have hfz41_0 := blk_frozen BK368.out 0; have hfz41_1 := blk_frozen BK368.out 1; have hfz41_2 := blk_frozen BK368.out 2; obtain ⟨hcz42_0, hcz42_1, hcz42_2⟩ := cells3 BK358.out; obtain ⟨hcz43_0, hcz43_1, hcz43_2⟩ := cells3 BK359.out) | ((with_reducible refine gate_callee (f := 20) rfl ?_); refine goesL_ (some 34) rfl rfl Try.func20 (by kernel_rfl) rfl #[.agg #[.int .i64 a0_0, .int .i64 a0_1, .int .i64 a0_2], .agg #[.int .i64 a1_0, .int .i64 a1_1, .int .i64 a1_2], .int .i64 a2] rfl (by (try simp only [List.map_toArray, List.map_cons, List.map_nil]); first | done | rfl | (simp only [List.length_drop, List.length_take]; rfl)) ?_; (with_reducible refine (relievoref19_Refract.calls k a0_0 a0_1 a0_2 a1_0 a1_1 a1_2 a2 t369 t370 t371 t372 _ A12.out).mono ?_); rintro e w44 ⟨rfl, hb⟩; refine ⟨_, rfl, ?_⟩; replace BK358 := Aside0.mk (bB hb ((blk_far (blk_far (blk_far BK358.out NB358_368.out _) NB358_368.out _) NB358_368.out _))); replace BK359 := Aside0.mk (bB hb ((blk_far (blk_far (blk_far BK359.out NB359_368.out _) NB359_368.out _) NB359_368.out _))); replace BK360 := Aside0.mk (bB hb ((blk_far (blk_far (blk_far BK360.out NB360_368.out _) NB360_368.out _) NB360_368.out _))); replace BK361 := Aside0.mk (bB hb ((blk_far (blk_far (blk_far BK361.out NB361_368.out _) NB361_368.out _) NB361_368.out _))); replace BK362 := Aside0.mk (bB hb ((blk_far (blk_far (blk_far BK362.out NB362_368.out _) NB362_368.out _) NB362_368.out _))); replace BK368 := Aside0.mk (bB hb ((blk_put (cs' := #[.int .i64 t364, .int .i64 t365, .int .i64 t366]) (blk_put (blk_put BK368.out 0 _ rfl) 1 _ rfl) 2 _ rfl))); replace HB := Aside0.mk (below_step (by first | exact (below_set (below_set (below_set HB.out GE368.out) GE368.out) GE368.out) | (repeat (first | exact (below_set (below_set (below_set HB.out GE368.out) GE368.out) GE368.out) | apply pw_below_drewN | apply below_drew1 | apply below_alloc))) hb); (try clear hb); (try clear hb2); (try clear hk); (try clear hi)) | ((with_reducible refine gate_dst (N := 19) rfl ?_); refine box_event ?hg (N := 19) ?hd (cs := #[.int .i64 0, .int .i64 0, .int .i64 0]) (t := 26) ?hr ?_; (case hd => rfl); (case hg => rfl); (case hr => first | (go_simp; done) | (go_simp; rfl)); intro gb373 hg w45 hbox hb; have BK373 := Aside0.mk (hbox); have GE373 := Aside0.mk (bG hg (by first | exact HB.out | (repeat (first | exact HB.out | apply pw_below_drewN | apply below_drew1 | apply below_alloc)))); have NB358_373 := cN hg BK358; have NB373_358 := cM hg BK358; have NB359_373 := cN hg BK359; have NB373_359 := cM hg BK359; have NB360_373 := cN hg BK360; have NB373_360 := cM hg BK360; have NB361_373 := cN hg BK361; have NB373_361 := cM hg BK361; have NB362_373 := cN hg BK362; have NB373_362 := cM hg BK362; have NB368_373 := cN hg BK368; have NB373_368 := cM hg BK368; replace BK358 := cB hb BK358; replace BK359 := cB hb BK359; replace BK360 := cB hb BK360; replace BK361 := cB hb BK361; replace BK362 := cB hb BK362; replace BK368 := cB hb BK368; replace HB := Aside0.mk (below_step (by first | exact HB.out | (repeat (first | exact HB.out | apply pw_below_drewN | apply below_drew1 | apply below_alloc))) hb); clear hb hbox hg; have hnb46 := NB373_358.out; have hnc46 := NB358_373.out; have hnb47 := NB373_359.out; have hnc47 := NB359_373.out; have hnb48 := NB373_360.out; have hnc48 := NB360_373.out; have hnb49 := NB373_361.out; have hnc49 := NB361_373.out; have hnb50 := NB373_362.out; have hnc50 := NB362_373.out; have hnb51 := NB373_368.out; have hnc51 := NB368_373.out; obtain ⟨hcz52_0, hcz52_1, hcz52_2⟩ := cells3 BK373.out; have hfz52_0 := blk_frozen BK373.out 0; have hfz52_1 := blk_frozen BK373.out 1; have hfz52_2 := blk_frozen BK373.out 2))
       generalize hw_ : (((w45.setCell ⟨gb373, 0, none⟩ (.int .i64 t369)).setCell ⟨gb373, 1, none⟩ (.int .i64 t370)).setCell ⟨gb373, 2, none⟩ (.int .i64 t371)) = w53
       replace BK358 := Aside0.mk (bF hw_ (blk_far (blk_far (blk_far BK358.out NB358_373.out _) NB358_373.out _) NB358_373.out _))
       replace BK359 := Aside0.mk (bF hw_ (blk_far (blk_far (blk_far BK359.out NB359_373.out _) NB359_373.out _) NB359_373.out _))
       replace BK360 := Aside0.mk (bF hw_ (blk_far (blk_far (blk_far BK360.out NB360_373.out _) NB360_373.out _) NB360_373.out _))
       replace BK361 := Aside0.mk (bF hw_ (blk_far (blk_far (blk_far BK361.out NB361_373.out _) NB361_373.out _) NB361_373.out _))
       replace BK362 := Aside0.mk (bF hw_ (blk_far (blk_far (blk_far BK362.out NB362_373.out _) NB362_373.out _) NB362_373.out _))
       replace BK368 := Aside0.mk (bF hw_ (blk_far (blk_far (blk_far BK368.out NB368_373.out _) NB368_373.out _) NB368_373.out _))
       replace BK373 := Aside0.mk (bF hw_ (blk_put (cs' := #[.int .i64 t369, .int .i64 t370, .int .i64 t371]) (blk_put (blk_put BK373.out 0 _ rfl) 1 _ rfl) 2 _ rfl))
       replace HB := Aside0.mk (bH hw_ (by first | exact (below_set (below_set (below_set HB.out GE373.out) GE373.out) GE373.out) | (repeat (first | exact (below_set (below_set (below_set HB.out GE373.out) GE373.out) GE373.out) | apply pw_below_drewN | apply below_drew1 | apply below_alloc))))
       clear hw_
       replace BK358 := Aside0.mk (blk_drew BK358.out)
       replace BK359 := Aside0.mk (blk_drew BK359.out)
       replace BK360 := Aside0.mk (blk_drew BK360.out)
       replace BK361 := Aside0.mk (blk_drew BK361.out)
       replace BK362 := Aside0.mk (blk_drew BK362.out)
       replace BK368 := Aside0.mk (blk_drew BK368.out)
       replace BK373 := Aside0.mk (blk_drew BK373.out)
       replace HB := Aside0.mk (below_drew1 HB.out)
       refine start_ (n := 51) (S := fun w' => w'.cell? ⟨gb358, 0, none⟩ = some (.int .i64 a0_0) ∧ w'.cell? ⟨gb358, 1, none⟩ = some (.int .i64 a0_1) ∧ w'.cell? ⟨gb358, 2, none⟩ = some (.int .i64 a0_2) ∧ w'.cell? ⟨gb359, 0, none⟩ = some (.int .i64 a1_0) ∧ w'.cell? ⟨gb359, 1, none⟩ = some (.int .i64 a1_1) ∧ w'.cell? ⟨gb359, 2, none⟩ = some (.int .i64 a1_2) ∧ w'.cell? ⟨gb368, 0, none⟩ = some (.int .i64 t364) ∧ w'.cell? ⟨gb368, 1, none⟩ = some (.int .i64 t365) ∧ w'.cell? ⟨gb368, 2, none⟩ = some (.int .i64 t366) ∧ w'.cell? ⟨gb373, 0, none⟩ = some (.int .i64 t369) ∧ w'.cell? ⟨gb373, 1, none⟩ = some (.int .i64 t370) ∧ w'.cell? ⟨gb373, 2, none⟩ = some (.int .i64 t371) ∧ w'.cell? ⟨gb360, 0, none⟩ = some (.int .i64 a5_0) ∧ w'.cell? ⟨gb360, 1, none⟩ = some (.int .i64 a5_1) ∧ w'.cell? ⟨gb360, 2, none⟩ = some (.int .i64 a5_2) ∧ w'.cell? ⟨gb361, 0, none⟩ = some (.int .i64 a6_0) ∧ w'.cell? ⟨gb361, 1, none⟩ = some (.int .i64 a6_1) ∧ w'.cell? ⟨gb361, 2, none⟩ = some (.int .i64 a6_2) ∧ w'.cell? ⟨gb362, 0, none⟩ = some (.int .i64 a7_0) ∧ w'.cell? ⟨gb362, 1, none⟩ = some (.int .i64 a7_1) ∧ w'.cell? ⟨gb362, 2, none⟩ = some (.int .i64 a7_2)) (ds := []) #[false, false, false, false, false, false, false, false, false, false, false, false, false, false, false, false, false, false, false, false, false, false, false, false, false, false, false, false, false, false, false, false, false, false, false, false, false, false, false, false, false, false, false, false, false, false, false, false, false, false, false] (by kernel_rfl) rfl rfl ⟨(blk_cell BK358.out 0).trans rfl, (blk_cell BK358.out 1).trans rfl, (blk_cell BK358.out 2).trans rfl, (blk_cell BK359.out 0).trans rfl, (blk_cell BK359.out 1).trans rfl, (blk_cell BK359.out 2).trans rfl, (blk_cell BK368.out 0).trans rfl, (blk_cell BK368.out 1).trans rfl, (blk_cell BK368.out 2).trans rfl, (blk_cell BK373.out 0).trans rfl, (blk_cell BK373.out 1).trans rfl, (blk_cell BK373.out 2).trans rfl, (blk_cell BK360.out 0).trans rfl, (blk_cell BK360.out 1).trans rfl, (blk_cell BK360.out 2).trans rfl, (blk_cell BK361.out 0).trans rfl, (blk_cell BK361.out 1).trans rfl, (blk_cell BK361.out 2).trans rfl, (blk_cell BK362.out 0).trans rfl, (blk_cell BK362.out 1).trans rfl, (blk_cell BK362.out 2).trans rfl⟩ (fun hHeld => ?_); refine with_tabW relievolaw19_LightAnswers.tab5 relievolaw19_LightAnswers.bits5 (fun HT_ HW_ => ?_)
       generalize w53.drew = w54 at BK358 BK359 BK360 BK361 BK362 BK368 BK373 HB hHeld ⊢
       refine take_ (i := 0) (N := some 37) (v := ?_) (a' := ?_) (bm 51 1) rfl rfl (take_ofW HT_.out HW_.out (by kernel_rfl)) (fun _ _ _ h => h) (Or.inl ⟨by rfl, ?_⟩) hHeld ?_ ?_
       rotate_left
       ·rintro w' ⟨s0, s1, s2, s3, s4, s5, s6, s7, s8, s9, s10, s11, s12, s13, s14, s15, s16, s17, s18, s19, s20⟩
        go_simp
        with_reducible rfl
       rotate_left
       ·simp only [Act.put, List.setIfInBounds_toArray, List.set_cons_zero, List.set_cons_succ, i64_w, i32_w]
        rfl
       refine take_ (i := 1) (N := some 38) (v := ?_) (a' := ?_) (bm 51 3) rfl rfl (take_ofW HT_.out HW_.out (by kernel_rfl)) (fun _ _ _ h => h) (Or.inl ⟨by rfl, ?_⟩) hHeld ?_ ?_
       rotate_left
       ·rintro w' ⟨s0, s1, s2, s3, s4, s5, s6, s7, s8, s9, s10, s11, s12, s13, s14, s15, s16, s17, s18, s19, s20⟩
        go_simp
        with_reducible rfl
       rotate_left
       ·simp only [Act.put, List.setIfInBounds_toArray, List.set_cons_zero, List.set_cons_succ, i64_w, i32_w]
        rfl
       refine take_ (i := 3) (N := some 40) (v := ?_) (a' := ?_) (bm 51 11) rfl rfl (take_ofW HT_.out HW_.out (by kernel_rfl)) (fun _ _ _ h => h) (Or.inl ⟨by rfl, ?_⟩) hHeld ?_ ?_
       rotate_left
       ·rintro w' ⟨s0, s1, s2, s3, s4, s5, s6, s7, s8, s9, s10, s11, s12, s13, s14, s15, s16, s17, s18, s19, s20⟩
        go_simp
        with_reducible rfl
       rotate_left
       ·simp only [Act.put, List.setIfInBounds_toArray, List.set_cons_zero, List.set_cons_succ, i64_w, i32_w]
        rfl
       refine take_ (i := 4) (N := some 41) (v := ?_) (a' := ?_) (bm 51 27) rfl rfl (take_ofW HT_.out HW_.out (by kernel_rfl)) (fun _ _ _ h => h) (Or.inl ⟨by rfl, ?_⟩) hHeld ?_ ?_
       rotate_left
       ·rintro w' ⟨s0, s1, s2, s3, s4, s5, s6, s7, s8, s9, s10, s11, s12, s13, s14, s15, s16, s17, s18, s19, s20⟩
        go_simp
        with_reducible rfl
       rotate_left
       ·simp only [Act.put, List.setIfInBounds_toArray, List.set_cons_zero, List.set_cons_succ, i64_w, i32_w]
        rfl
       refine one_ (i := 2) (N := some 39) (bm 51 31) rfl rfl (one_of HT_.out (by kernel_rfl)) (by decide) (fun K hK => ?_)
       refine goes_ Try.func17 (by kernel_rfl) rfl #[.agg #[.int .i64 a0_0, .int .i64 a0_1, .int .i64 a0_2], .agg #[.int .i64 a1_0, .int .i64 a1_1, .int .i64 a1_2]] (by rfl) rfl rfl (by (try simp only [List.map_toArray, List.map_cons, List.map_nil]); first | done | rfl | (simp only [List.length_drop, List.length_take]; rfl)) ?_
       with_reducible refine (light_Cos.calls k a0_0 a0_1 a0_2 a1_0 a1_1 a1_2 t374 _ A13.out).mono ?_
       rintro e w55 ⟨rfl, hb⟩
       refine ⟨_, rfl, ?_⟩
       replace BK358 := cB hb BK358
       replace BK359 := cB hb BK359
       replace BK360 := cB hb BK360
       replace BK361 := cB hb BK361
       replace BK362 := cB hb BK362
       replace BK368 := cB hb BK368
       replace BK373 := cB hb BK373
       replace HB := Aside0.mk (below_step (by first | exact HB.out | (repeat (first | exact HB.out | apply pw_below_drewN | apply below_drew1 | apply below_alloc))) hb)
       (try clear hb)
       (try clear hb2)
       (try clear hk)
       (try clear hi)
       refine hK.out _ _ ⟨(blk_cell BK358.out 0).trans rfl, (blk_cell BK358.out 1).trans rfl, (blk_cell BK358.out 2).trans rfl, (blk_cell BK359.out 0).trans rfl, (blk_cell BK359.out 1).trans rfl, (blk_cell BK359.out 2).trans rfl, (blk_cell BK368.out 0).trans rfl, (blk_cell BK368.out 1).trans rfl, (blk_cell BK368.out 2).trans rfl, (blk_cell BK373.out 0).trans rfl, (blk_cell BK373.out 1).trans rfl, (blk_cell BK373.out 2).trans rfl, (blk_cell BK360.out 0).trans rfl, (blk_cell BK360.out 1).trans rfl, (blk_cell BK360.out 2).trans rfl, (blk_cell BK361.out 0).trans rfl, (blk_cell BK361.out 1).trans rfl, (blk_cell BK361.out 2).trans rfl, (blk_cell BK362.out 0).trans rfl, (blk_cell BK362.out 1).trans rfl, (blk_cell BK362.out 2).trans rfl⟩ (fun hHeld => ?_)
       clear hK K
       refine norm_ (a' := ?_) ?_ ?_
       rotate_left
       ·show Act.put _ (some 39) _ = _
        simp only [Act.put, List.setIfInBounds_toArray, List.set_cons_zero, List.set_cons_succ, i64_w, i32_w]
        rfl
       refine one_ (i := 5) (N := some 42) (bm 51 63) rfl rfl (one_of HT_.out (by kernel_rfl)) (by decide) (fun K hK => ?_)
       refine goes_ Try.func21 (by kernel_rfl) rfl #[.agg #[.int .i64 a0_0, .int .i64 a0_1, .int .i64 a0_2], .agg #[.int .i64 a1_0, .int .i64 a1_1, .int .i64 a1_2]] (by rfl) rfl rfl (by (try simp only [List.map_toArray, List.map_cons, List.map_nil]); first | done | rfl | (simp only [List.length_drop, List.length_take]; rfl)) ?_
       with_reducible refine (relievoref19_Cos.calls k a0_0 a0_1 a0_2 a1_0 a1_1 a1_2 t375 _ A14.out).mono ?_
       rintro e w56 ⟨rfl, hb⟩
       refine ⟨_, rfl, ?_⟩
       replace BK358 := cB hb BK358
       replace BK359 := cB hb BK359
       replace BK360 := cB hb BK360
       replace BK361 := cB hb BK361
       replace BK362 := cB hb BK362
       replace BK368 := cB hb BK368
       replace BK373 := cB hb BK373
       replace HB := Aside0.mk (below_step (by first | exact HB.out | (repeat (first | exact HB.out | apply pw_below_drewN | apply below_drew1 | apply below_alloc))) hb)
       (try clear hb)
       (try clear hb2)
       (try clear hk)
       (try clear hi)
       refine hK.out _ _ ⟨(blk_cell BK358.out 0).trans rfl, (blk_cell BK358.out 1).trans rfl, (blk_cell BK358.out 2).trans rfl, (blk_cell BK359.out 0).trans rfl, (blk_cell BK359.out 1).trans rfl, (blk_cell BK359.out 2).trans rfl, (blk_cell BK368.out 0).trans rfl, (blk_cell BK368.out 1).trans rfl, (blk_cell BK368.out 2).trans rfl, (blk_cell BK373.out 0).trans rfl, (blk_cell BK373.out 1).trans rfl, (blk_cell BK373.out 2).trans rfl, (blk_cell BK360.out 0).trans rfl, (blk_cell BK360.out 1).trans rfl, (blk_cell BK360.out 2).trans rfl, (blk_cell BK361.out 0).trans rfl, (blk_cell BK361.out 1).trans rfl, (blk_cell BK361.out 2).trans rfl, (blk_cell BK362.out 0).trans rfl, (blk_cell BK362.out 1).trans rfl, (blk_cell BK362.out 2).trans rfl⟩ (fun hHeld => ?_)
       clear hK K
       refine norm_ (a' := ?_) ?_ ?_
       rotate_left
       ·show Act.put _ (some 42) _ = _
        simp only [Act.put, List.setIfInBounds_toArray, List.set_cons_zero, List.set_cons_succ, i64_w, i32_w]
        rfl
       refine pure_ (i := 6) (N := some 43) (v := ?_) (a' := ?_) (bm 51 127) rfl rfl (any_of HT_.out (by kernel_rfl)) (fun _ _ _ h => h) (Or.inl ⟨by rfl, ?_⟩) ?_ ?_
       rotate_left
       ·intro w'
        go_simp
        with_reducible rfl
       rotate_left
       ·simp only [Act.put, List.setIfInBounds_toArray, List.set_cons_zero, List.set_cons_succ, i64_w, i32_w]
        rfl
       refine pure_ (i := 7) (N := some 44) (v := ?_) (a' := ?_) (bm 51 255) rfl rfl (any_of HT_.out (by kernel_rfl)) (fun _ _ _ h => h) (Or.inl ⟨by rfl, ?_⟩) ?_ ?_
       rotate_left
       ·intro w'
        go_simp
        with_reducible rfl
       rotate_left
       ·simp only [Act.put, List.setIfInBounds_toArray, List.set_cons_zero, List.set_cons_succ, i64_w, i32_w]
        rfl
       refine pure_ (i := 8) (N := some 45) (v := ?_) (a' := ?_) (bm 51 511) rfl rfl (any_of HT_.out (by kernel_rfl)) (fun _ _ _ h => h) (Or.inl ⟨by rfl, ?_⟩) ?_ ?_
       rotate_left
       ·intro w'
        go_simp
        with_reducible rfl
       rotate_left
       ·simp only [Act.put, List.setIfInBounds_toArray, List.set_cons_zero, List.set_cons_succ, i64_w, i32_w]
        rfl
       refine pure_ (i := 9) (N := some 46) (v := ?_) (a' := ?_) (bm 51 1023) rfl rfl (any_of HT_.out (by kernel_rfl)) (fun _ _ _ h => h) (Or.inl ⟨by rfl, ?_⟩) ?_ ?_
       rotate_left
       ·intro w'
        go_simp
        with_reducible rfl
       rotate_left
       ·simp only [Act.put, List.setIfInBounds_toArray, List.set_cons_zero, List.set_cons_succ, i64_w, i32_w]
        rfl
       refine pure_ (i := 11) (N := some 48) (v := ?_) (a' := ?_) (bm 51 3071) rfl rfl (any_of HT_.out (by kernel_rfl)) (fun _ _ _ h => h) (Or.inl ⟨by rfl, ?_⟩) ?_ ?_
       rotate_left
       ·intro w'
        go_simp
        with_reducible rfl
       rotate_left
       ·simp only [Act.put, List.setIfInBounds_toArray, List.set_cons_zero, List.set_cons_succ, i64_w, i32_w]
        rfl
       refine pure_ (i := 12) (N := some 49) (v := ?_) (a' := ?_) (bm 51 7167) rfl rfl (any_of HT_.out (by kernel_rfl)) (fun _ _ _ h => h) (Or.inl ⟨by rfl, ?_⟩) ?_ ?_
       rotate_left
       ·intro w'
        go_simp
        with_reducible rfl
       rotate_left
       ·simp only [Act.put, List.setIfInBounds_toArray, List.set_cons_zero, List.set_cons_succ, i64_w, i32_w]
        rfl
       refine one_ (i := 10) (N := some 47) (bm 51 8191) rfl rfl (one_of HT_.out (by kernel_rfl)) (by decide) (fun K hK => ?_)
       refine goes_ Try.func12 (by kernel_rfl) rfl #[.int .i64 a3, .int .i64 a4] (by rfl) rfl rfl (by (try simp only [List.map_toArray, List.map_cons, List.map_nil]); first | done | rfl | (simp only [List.length_drop, List.length_take]; rfl)) ?_
       with_reducible refine (light_Power.calls k a3 a4 t376 _ A16.out).mono ?_
       rintro e w' ⟨rfl, ⟨nd, rfl⟩⟩
       refine ⟨_, rfl, ?_⟩
       refine hK.out _ _ ⟨(blk_cell BK358.out 0).trans rfl, (blk_cell BK358.out 1).trans rfl, (blk_cell BK358.out 2).trans rfl, (blk_cell BK359.out 0).trans rfl, (blk_cell BK359.out 1).trans rfl, (blk_cell BK359.out 2).trans rfl, (blk_cell BK368.out 0).trans rfl, (blk_cell BK368.out 1).trans rfl, (blk_cell BK368.out 2).trans rfl, (blk_cell BK373.out 0).trans rfl, (blk_cell BK373.out 1).trans rfl, (blk_cell BK373.out 2).trans rfl, (blk_cell BK360.out 0).trans rfl, (blk_cell BK360.out 1).trans rfl, (blk_cell BK360.out 2).trans rfl, (blk_cell BK361.out 0).trans rfl, (blk_cell BK361.out 1).trans rfl, (blk_cell BK361.out 2).trans rfl, (blk_cell BK362.out 0).trans rfl, (blk_cell BK362.out 1).trans rfl, (blk_cell BK362.out 2).trans rfl⟩ (fun hHeld => ?_)
       clear hK K
       refine norm_ (a' := ?_) ?_ ?_
       rotate_left
       ·show Act.put _ (some 47) _ = _
        simp only [Act.put, List.setIfInBounds_toArray, List.set_cons_zero, List.set_cons_succ, i64_w, i32_w]
        rfl
       refine one_ (i := 13) (N := some 50) (bm 51 16383) rfl rfl (one_of HT_.out (by kernel_rfl)) (by decide) (fun K hK => ?_)
       refine goes_ Try.func22 (by kernel_rfl) rfl #[.int .i64 a3, .int .i64 a4] (by rfl) rfl rfl (by (try simp only [List.map_toArray, List.map_cons, List.map_nil]); first | done | rfl | (simp only [List.length_drop, List.length_take]; rfl)) ?_
       with_reducible refine (relievoref19_Power.calls k a3 a4 t377 _ A17.out).mono ?_
       rintro e w' ⟨rfl, ⟨nd, rfl⟩⟩
       refine ⟨_, rfl, ?_⟩
       refine hK.out _ _ ⟨(blk_cell BK358.out 0).trans rfl, (blk_cell BK358.out 1).trans rfl, (blk_cell BK358.out 2).trans rfl, (blk_cell BK359.out 0).trans rfl, (blk_cell BK359.out 1).trans rfl, (blk_cell BK359.out 2).trans rfl, (blk_cell BK368.out 0).trans rfl, (blk_cell BK368.out 1).trans rfl, (blk_cell BK368.out 2).trans rfl, (blk_cell BK373.out 0).trans rfl, (blk_cell BK373.out 1).trans rfl, (blk_cell BK373.out 2).trans rfl, (blk_cell BK360.out 0).trans rfl, (blk_cell BK360.out 1).trans rfl, (blk_cell BK360.out 2).trans rfl, (blk_cell BK361.out 0).trans rfl, (blk_cell BK361.out 1).trans rfl, (blk_cell BK361.out 2).trans rfl, (blk_cell BK362.out 0).trans rfl, (blk_cell BK362.out 1).trans rfl, (blk_cell BK362.out 2).trans rfl⟩ (fun hHeld => ?_)
       clear hK K
       refine norm_ (a' := ?_) ?_ ?_
       rotate_left
       ·show Act.put _ (some 50) _ = _
        simp only [Act.put, List.setIfInBounds_toArray, List.set_cons_zero, List.set_cons_succ, i64_w, i32_w]
        rfl
       refine pure_ (i := 14) (N := some 51) (v := ?_) (a' := ?_) (bm 51 32767) rfl rfl (any_of HT_.out (by kernel_rfl)) (fun _ _ _ h => h) (Or.inl ⟨by rfl, ?_⟩) ?_ ?_
       rotate_left
       ·intro w'
        go_simp
        with_reducible rfl
       rotate_left
       ·simp only [Act.put, List.setIfInBounds_toArray, List.set_cons_zero, List.set_cons_succ, i64_w, i32_w]
        rfl
       refine pure_ (i := 15) (N := some 52) (v := ?_) (a' := ?_) (bm 51 65535) rfl rfl (any_of HT_.out (by kernel_rfl)) (fun _ _ _ h => h) (Or.inl ⟨by rfl, ?_⟩) ?_ ?_
       rotate_left
       ·intro w'
        go_simp
        with_reducible rfl
       rotate_left
       ·simp only [Act.put, List.setIfInBounds_toArray, List.set_cons_zero, List.set_cons_succ, i64_w, i32_w]
        rfl
       refine pure_ (i := 16) (N := some 53) (v := ?_) (a' := ?_) (bm 51 131071) rfl rfl (any_of HT_.out (by kernel_rfl)) (fun _ _ _ h => h) (Or.inl ⟨by rfl, ?_⟩) ?_ ?_
       rotate_left
       ·intro w'
        go_simp
        with_reducible rfl
       rotate_left
       ·simp only [Act.put, List.setIfInBounds_toArray, List.set_cons_zero, List.set_cons_succ, i64_w, i32_w]
        rfl
       refine take_ (i := 17) (N := some 54) (v := ?_) (a' := ?_) (bm 51 262143) rfl rfl (take_ofW HT_.out HW_.out (by kernel_rfl)) (fun _ _ _ h => h) (Or.inl ⟨by rfl, ?_⟩) hHeld ?_ ?_
       rotate_left
       ·rintro w' ⟨s0, s1, s2, s3, s4, s5, s6, s7, s8, s9, s10, s11, s12, s13, s14, s15, s16, s17, s18, s19, s20⟩
        go_simp
        with_reducible rfl
       rotate_left
       ·simp only [Act.put, List.setIfInBounds_toArray, List.set_cons_zero, List.set_cons_succ, i64_w, i32_w]
        rfl
       refine take_ (i := 18) (N := some 55) (v := ?_) (a' := ?_) (bm 51 524287) rfl rfl (take_ofW HT_.out HW_.out (by kernel_rfl)) (fun _ _ _ h => h) (Or.inl ⟨by rfl, ?_⟩) hHeld ?_ ?_
       rotate_left
       ·rintro w' ⟨s0, s1, s2, s3, s4, s5, s6, s7, s8, s9, s10, s11, s12, s13, s14, s15, s16, s17, s18, s19, s20⟩
        go_simp
        with_reducible rfl
       rotate_left
       ·simp only [Act.put, List.setIfInBounds_toArray, List.set_cons_zero, List.set_cons_succ, i64_w, i32_w]
        rfl
       refine take_ (i := 20) (N := some 57) (v := ?_) (a' := ?_) (bm 51 1572863) rfl rfl (take_ofW HT_.out HW_.out (by kernel_rfl)) (fun _ _ _ h => h) (Or.inl ⟨by rfl, ?_⟩) hHeld ?_ ?_
       rotate_left
       ·rintro w' ⟨s0, s1, s2, s3, s4, s5, s6, s7, s8, s9, s10, s11, s12, s13, s14, s15, s16, s17, s18, s19, s20⟩
        go_simp
        with_reducible rfl
       rotate_left
       ·simp only [Act.put, List.setIfInBounds_toArray, List.set_cons_zero, List.set_cons_succ, i64_w, i32_w]
        rfl
       refine take_ (i := 21) (N := some 58) (v := ?_) (a' := ?_) (bm 51 3670015) rfl rfl (take_ofW HT_.out HW_.out (by kernel_rfl)) (fun _ _ _ h => h) (Or.inl ⟨by rfl, ?_⟩) hHeld ?_ ?_
       rotate_left
       ·rintro w' ⟨s0, s1, s2, s3, s4, s5, s6, s7, s8, s9, s10, s11, s12, s13, s14, s15, s16, s17, s18, s19, s20⟩
        go_simp
        with_reducible rfl
       rotate_left
       ·simp only [Act.put, List.setIfInBounds_toArray, List.set_cons_zero, List.set_cons_succ, i64_w, i32_w]
        rfl
       refine one_ (i := 19) (N := some 56) (bm 51 4194303) rfl rfl (one_of HT_.out (by kernel_rfl)) (by decide) (fun K hK => ?_)
       refine goes_ Try.func14 (by kernel_rfl) rfl #[.agg #[.int .i64 a0_0, .int .i64 a0_1, .int .i64 a0_2], .agg #[.int .i64 a1_0, .int .i64 a1_1, .int .i64 a1_2]] (by rfl) rfl rfl (by (try simp only [List.map_toArray, List.map_cons, List.map_nil]); first | done | rfl | (simp only [List.length_drop, List.length_take]; rfl)) ?_
       with_reducible refine (light_Reflect.calls k a0_0 a0_1 a0_2 a1_0 a1_1 a1_2 t378 t379 t380 _ A19.out).mono ?_
       rintro e w57 ⟨rfl, hb⟩
       refine ⟨_, rfl, ?_⟩
       replace BK358 := cB hb BK358
       replace BK359 := cB hb BK359
       replace BK360 := cB hb BK360
       replace BK361 := cB hb BK361
       replace BK362 := cB hb BK362
       replace BK368 := cB hb BK368
       replace BK373 := cB hb BK373
       replace HB := Aside0.mk (below_step (by first | exact HB.out | (repeat (first | exact HB.out | apply pw_below_drewN | apply below_drew1 | apply below_alloc))) hb)
       (try clear hb)
       (try clear hb2)
       (try clear hk)
       (try clear hi)
       refine hK.out _ _ ⟨(blk_cell BK358.out 0).trans rfl, (blk_cell BK358.out 1).trans rfl, (blk_cell BK358.out 2).trans rfl, (blk_cell BK359.out 0).trans rfl, (blk_cell BK359.out 1).trans rfl, (blk_cell BK359.out 2).trans rfl, (blk_cell BK368.out 0).trans rfl, (blk_cell BK368.out 1).trans rfl, (blk_cell BK368.out 2).trans rfl, (blk_cell BK373.out 0).trans rfl, (blk_cell BK373.out 1).trans rfl, (blk_cell BK373.out 2).trans rfl, (blk_cell BK360.out 0).trans rfl, (blk_cell BK360.out 1).trans rfl, (blk_cell BK360.out 2).trans rfl, (blk_cell BK361.out 0).trans rfl, (blk_cell BK361.out 1).trans rfl, (blk_cell BK361.out 2).trans rfl, (blk_cell BK362.out 0).trans rfl, (blk_cell BK362.out 1).trans rfl, (blk_cell BK362.out 2).trans rfl⟩ (fun hHeld => ?_)
       clear hK K
       refine norm_ (a' := ?_) ?_ ?_
       rotate_left
       ·show Act.put _ (some 56) _ = _
        simp only [Act.put, List.setIfInBounds_toArray, List.set_cons_zero, List.set_cons_succ, i64_w, i32_w]
        rfl
       refine one_ (i := 22) (N := some 59) (bm 51 8388607) rfl rfl (one_of HT_.out (by kernel_rfl)) (by decide) (fun K hK => ?_)
       refine goes_ Try.func23 (by kernel_rfl) rfl #[.agg #[.int .i64 a0_0, .int .i64 a0_1, .int .i64 a0_2], .agg #[.int .i64 a1_0, .int .i64 a1_1, .int .i64 a1_2]] (by rfl) rfl rfl (by (try simp only [List.map_toArray, List.map_cons, List.map_nil]); first | done | rfl | (simp only [List.length_drop, List.length_take]; rfl)) ?_
       with_reducible refine (relievoref19_Reflect.calls k a0_0 a0_1 a0_2 a1_0 a1_1 a1_2 t381 t382 t383 _ A20.out).mono ?_
       rintro e w58 ⟨rfl, hb⟩
       refine ⟨_, rfl, ?_⟩
       replace BK358 := cB hb BK358
       replace BK359 := cB hb BK359
       replace BK360 := cB hb BK360
       replace BK361 := cB hb BK361
       replace BK362 := cB hb BK362
       replace BK368 := cB hb BK368
       replace BK373 := cB hb BK373
       replace HB := Aside0.mk (below_step (by first | exact HB.out | (repeat (first | exact HB.out | apply pw_below_drewN | apply below_drew1 | apply below_alloc))) hb)
       (try clear hb)
       (try clear hb2)
       (try clear hk)
       (try clear hi)
       refine hK.out _ _ ⟨(blk_cell BK358.out 0).trans rfl, (blk_cell BK358.out 1).trans rfl, (blk_cell BK358.out 2).trans rfl, (blk_cell BK359.out 0).trans rfl, (blk_cell BK359.out 1).trans rfl, (blk_cell BK359.out 2).trans rfl, (blk_cell BK368.out 0).trans rfl, (blk_cell BK368.out 1).trans rfl, (blk_cell BK368.out 2).trans rfl, (blk_cell BK373.out 0).trans rfl, (blk_cell BK373.out 1).trans rfl, (blk_cell BK373.out 2).trans rfl, (blk_cell BK360.out 0).trans rfl, (blk_cell BK360.out 1).trans rfl, (blk_cell BK360.out 2).trans rfl, (blk_cell BK361.out 0).trans rfl, (blk_cell BK361.out 1).trans rfl, (blk_cell BK361.out 2).trans rfl, (blk_cell BK362.out 0).trans rfl, (blk_cell BK362.out 1).trans rfl, (blk_cell BK362.out 2).trans rfl⟩ (fun hHeld => ?_)
       clear hK K
       refine norm_ (a' := ?_) ?_ ?_
       rotate_left
       ·show Act.put _ (some 59) _ = _
        simp only [Act.put, List.setIfInBounds_toArray, List.set_cons_zero, List.set_cons_succ, i64_w, i32_w]
        rfl
       refine pure_ (i := 23) (N := some 60) (v := ?_) (a' := ?_) (bm 51 16777215) rfl rfl (any_of HT_.out (by kernel_rfl)) (fun _ _ _ h => h) (Or.inl ⟨by rfl, ?_⟩) ?_ ?_
       rotate_left
       ·intro w'
        go_simp
        with_reducible rfl
       rotate_left
       ·simp only [Act.put, List.setIfInBounds_toArray, List.set_cons_zero, List.set_cons_succ, i64_w, i32_w]
        rfl
       refine pure_ (i := 24) (N := some 61) (v := ?_) (a' := ?_) (bm 51 33554431) rfl rfl (any_of HT_.out (by kernel_rfl)) (fun _ _ _ h => h) (Or.inl ⟨by rfl, ?_⟩) ?_ ?_
       rotate_left
       ·intro w'
        go_simp
        with_reducible rfl
       rotate_left
       ·simp only [Act.put, List.setIfInBounds_toArray, List.set_cons_zero, List.set_cons_succ, i64_w, i32_w]
        rfl
       refine pure_ (i := 25) (N := some 62) (v := ?_) (a' := ?_) (bm 51 67108863) rfl rfl (any_of HT_.out (by kernel_rfl)) (fun _ _ _ h => h) (Or.inl ⟨by rfl, ?_⟩) ?_ ?_
       rotate_left
       ·intro w'
        go_simp
        with_reducible rfl
       rotate_left
       ·simp only [Act.put, List.setIfInBounds_toArray, List.set_cons_zero, List.set_cons_succ, i64_w, i32_w]
        rfl
       refine take_ (i := 26) (N := some 63) (v := ?_) (a' := ?_) (bm 51 134217727) rfl rfl (take_ofW HT_.out HW_.out (by kernel_rfl)) (fun _ _ _ h => h) (Or.inl ⟨by rfl, ?_⟩) hHeld ?_ ?_
       rotate_left
       ·rintro w' ⟨s0, s1, s2, s3, s4, s5, s6, s7, s8, s9, s10, s11, s12, s13, s14, s15, s16, s17, s18, s19, s20⟩
        go_simp
        with_reducible rfl
       rotate_left
       ·simp only [Act.put, List.setIfInBounds_toArray, List.set_cons_zero, List.set_cons_succ, i64_w, i32_w]
        rfl
       refine take_ (i := 27) (N := some 64) (v := ?_) (a' := ?_) (bm 51 268435455) rfl rfl (take_ofW HT_.out HW_.out (by kernel_rfl)) (fun _ _ _ h => h) (Or.inl ⟨by rfl, ?_⟩) hHeld ?_ ?_
       rotate_left
       ·rintro w' ⟨s0, s1, s2, s3, s4, s5, s6, s7, s8, s9, s10, s11, s12, s13, s14, s15, s16, s17, s18, s19, s20⟩
        go_simp
        with_reducible rfl
       rotate_left
       ·simp only [Act.put, List.setIfInBounds_toArray, List.set_cons_zero, List.set_cons_succ, i64_w, i32_w]
        rfl
       refine pure_ (i := 28) (N := some 65) (v := ?_) (a' := ?_) (bm 51 536870911) rfl rfl (any_of HT_.out (by kernel_rfl)) (fun _ _ _ h => h) (Or.inl ⟨by rfl, ?_⟩) ?_ ?_
       rotate_left
       ·intro w'
        go_simp
        with_reducible rfl
       rotate_left
       ·simp only [Act.put, List.setIfInBounds_toArray, List.set_cons_zero, List.set_cons_succ, i64_w, i32_w]
        rfl
       refine pure_ (i := 29) (N := some 66) (v := ?_) (a' := ?_) (bm 51 1073741823) rfl rfl (any_of HT_.out (by kernel_rfl)) (fun _ _ _ h => h) (Or.inl ⟨by rfl, ?_⟩) ?_ ?_
       rotate_left
       ·intro w'
        go_simp
        with_reducible rfl
       rotate_left
       ·simp only [Act.put, List.setIfInBounds_toArray, List.set_cons_zero, List.set_cons_succ, i64_w, i32_w]
        rfl
       refine pure_ (i := 30) (N := some 67) (v := ?_) (a' := ?_) (bm 51 2147483647) rfl rfl (any_of HT_.out (by kernel_rfl)) (fun _ _ _ h => h) (Or.inl ⟨by rfl, ?_⟩) ?_ ?_
       rotate_left
       ·intro w'
        go_simp
        with_reducible rfl
       rotate_left
       ·simp only [Act.put, List.setIfInBounds_toArray, List.set_cons_zero, List.set_cons_succ, i64_w, i32_w]
        rfl
       refine pure_ (i := 31) (N := some 68) (v := ?_) (a' := ?_) (bm 51 4294967295) rfl rfl (any_of HT_.out (by kernel_rfl)) (fun _ _ _ h => h) (Or.inl ⟨by rfl, ?_⟩) ?_ ?_
       rotate_left
       ·intro w'
        go_simp
        with_reducible rfl
       rotate_left
       ·simp only [Act.put, List.setIfInBounds_toArray, List.set_cons_zero, List.set_cons_succ, i64_w, i32_w]
        rfl
       refine pure_ (i := 32) (N := some 69) (v := ?_) (a' := ?_) (bm 51 8589934591) rfl rfl (any_of HT_.out (by kernel_rfl)) (fun _ _ _ h => h) (Or.inl ⟨by rfl, ?_⟩) ?_ ?_
       rotate_left
       ·intro w'
        go_simp
        with_reducible rfl
       rotate_left
       ·simp only [Act.put, List.setIfInBounds_toArray, List.set_cons_zero, List.set_cons_succ, i64_w, i32_w]
        rfl
       refine pure_ (i := 33) (N := some 70) (v := ?_) (a' := ?_) (bm 51 17179869183) rfl rfl (any_of HT_.out (by kernel_rfl)) (fun _ _ _ h => h) (Or.inl ⟨by rfl, ?_⟩) ?_ ?_
       rotate_left
       ·intro w'
        go_simp
        with_reducible rfl
       rotate_left
       ·simp only [Act.put, List.setIfInBounds_toArray, List.set_cons_zero, List.set_cons_succ, i64_w, i32_w]
        rfl
       refine pure_ (i := 34) (N := some 71) (v := ?_) (a' := ?_) (bm 51 34359738367) rfl rfl (any_of HT_.out (by kernel_rfl)) (fun _ _ _ h => h) (Or.inl ⟨by rfl, ?_⟩) ?_ ?_
       rotate_left
       ·intro w'
        go_simp
        with_reducible rfl
       rotate_left
       ·simp only [Act.put, List.setIfInBounds_toArray, List.set_cons_zero, List.set_cons_succ, i64_w, i32_w]
        rfl
       refine pure_ (i := 35) (N := some 72) (v := ?_) (a' := ?_) (bm 51 68719476735) rfl rfl (any_of HT_.out (by kernel_rfl)) (fun _ _ _ h => h) (Or.inl ⟨by rfl, ?_⟩) ?_ ?_
       rotate_left
       ·intro w'
        go_simp
        with_reducible rfl
       rotate_left
       ·simp only [Act.put, List.setIfInBounds_toArray, List.set_cons_zero, List.set_cons_succ, i64_w, i32_w]
        rfl
       refine pure_ (i := 39) (N := some 76) (v := ?_) (a' := ?_) (bm 51 618475290623) rfl rfl (any_of HT_.out (by kernel_rfl)) (fun _ _ _ h => h) (Or.inl ⟨by rfl, ?_⟩) ?_ ?_
       rotate_left
       ·intro w'
        go_simp
        with_reducible rfl
       rotate_left
       ·simp only [Act.put, List.setIfInBounds_toArray, List.set_cons_zero, List.set_cons_succ, i64_w, i32_w]
        rfl
       refine pure_ (i := 40) (N := some 77) (v := ?_) (a' := ?_) (bm 51 1717986918399) rfl rfl (any_of HT_.out (by kernel_rfl)) (fun _ _ _ h => h) (Or.inl ⟨by rfl, ?_⟩) ?_ ?_
       rotate_left
       ·intro w'
        go_simp
        with_reducible rfl
       rotate_left
       ·simp only [Act.put, List.setIfInBounds_toArray, List.set_cons_zero, List.set_cons_succ, i64_w, i32_w]
        rfl
       refine pure_ (i := 45) (N := some 82) (v := ?_) (a' := ?_) (bm 51 36902359007231) rfl rfl (any_of HT_.out (by kernel_rfl)) (fun _ _ _ h => h) (Or.inl ⟨by rfl, ?_⟩) ?_ ?_
       rotate_left
       ·intro w'
        go_simp
        with_reducible rfl
       rotate_left
       ·simp only [Act.put, List.setIfInBounds_toArray, List.set_cons_zero, List.set_cons_succ, i64_w, i32_w]
        rfl
       refine pure_ (i := 46) (N := some 83) (v := ?_) (a' := ?_) (bm 51 107271103184895) rfl rfl (any_of HT_.out (by kernel_rfl)) (fun _ _ _ h => h) (Or.inl ⟨by rfl, ?_⟩) ?_ ?_
       rotate_left
       ·intro w'
        go_simp
        with_reducible rfl
       rotate_left
       ·simp only [Act.put, List.setIfInBounds_toArray, List.set_cons_zero, List.set_cons_succ, i64_w, i32_w]
        rfl
       refine take_ (i := 36) (N := some 73) (v := ?_) (a' := ?_) (bm 51 107339822661631) rfl rfl (take_ofW HT_.out HW_.out (by kernel_rfl)) (fun _ _ _ h => h) (Or.inl ⟨by rfl, ?_⟩) hHeld ?_ ?_
       rotate_left
       ·rintro w' ⟨s0, s1, s2, s3, s4, s5, s6, s7, s8, s9, s10, s11, s12, s13, s14, s15, s16, s17, s18, s19, s20⟩
        go_simp
        with_reducible rfl
       rotate_left
       ·simp only [Act.put, List.setIfInBounds_toArray, List.set_cons_zero, List.set_cons_succ, i64_w, i32_w]
        rfl
       refine take_ (i := 37) (N := some 74) (v := ?_) (a' := ?_) (bm 51 107477261615103) rfl rfl (take_ofW HT_.out HW_.out (by kernel_rfl)) (fun _ _ _ h => h) (Or.inl ⟨by rfl, ?_⟩) hHeld ?_ ?_
       rotate_left
       ·rintro w' ⟨s0, s1, s2, s3, s4, s5, s6, s7, s8, s9, s10, s11, s12, s13, s14, s15, s16, s17, s18, s19, s20⟩
        go_simp
        with_reducible rfl
       rotate_left
       ·simp only [Act.put, List.setIfInBounds_toArray, List.set_cons_zero, List.set_cons_succ, i64_w, i32_w]
        rfl
       refine take_ (i := 38) (N := some 75) (v := ?_) (a' := ?_) (bm 51 107752139522047) rfl rfl (take_ofW HT_.out HW_.out (by kernel_rfl)) (fun _ _ _ h => h) (Or.inl ⟨by rfl, ?_⟩) hHeld ?_ ?_
       rotate_left
       ·rintro w' ⟨s0, s1, s2, s3, s4, s5, s6, s7, s8, s9, s10, s11, s12, s13, s14, s15, s16, s17, s18, s19, s20⟩
        go_simp
        with_reducible rfl
       rotate_left
       ·simp only [Act.put, List.setIfInBounds_toArray, List.set_cons_zero, List.set_cons_succ, i64_w, i32_w]
        rfl
       refine take_ (i := 42) (N := some 79) (v := ?_) (a' := ?_) (bm 51 112150186033151) rfl rfl (take_ofW HT_.out HW_.out (by kernel_rfl)) (fun _ _ _ h => h) (Or.inl ⟨by rfl, ?_⟩) hHeld ?_ ?_
       rotate_left
       ·rintro w' ⟨s0, s1, s2, s3, s4, s5, s6, s7, s8, s9, s10, s11, s12, s13, s14, s15, s16, s17, s18, s19, s20⟩
        go_simp
        with_reducible rfl
       rotate_left
       ·simp only [Act.put, List.setIfInBounds_toArray, List.set_cons_zero, List.set_cons_succ, i64_w, i32_w]
        rfl
       refine take_ (i := 43) (N := some 80) (v := ?_) (a' := ?_) (bm 51 120946279055359) rfl rfl (take_ofW HT_.out HW_.out (by kernel_rfl)) (fun _ _ _ h => h) (Or.inl ⟨by rfl, ?_⟩) hHeld ?_ ?_
       rotate_left
       ·rintro w' ⟨s0, s1, s2, s3, s4, s5, s6, s7, s8, s9, s10, s11, s12, s13, s14, s15, s16, s17, s18, s19, s20⟩
        go_simp
        with_reducible rfl
       rotate_left
       ·simp only [Act.put, List.setIfInBounds_toArray, List.set_cons_zero, List.set_cons_succ, i64_w, i32_w]
        rfl
       refine take_ (i := 44) (N := some 81) (v := ?_) (a' := ?_) (bm 51 138538465099775) rfl rfl (take_ofW HT_.out HW_.out (by kernel_rfl)) (fun _ _ _ h => h) (Or.inl ⟨by rfl, ?_⟩) hHeld ?_ ?_
       rotate_left
       ·rintro w' ⟨s0, s1, s2, s3, s4, s5, s6, s7, s8, s9, s10, s11, s12, s13, s14, s15, s16, s17, s18, s19, s20⟩
        go_simp
        with_reducible rfl
       rotate_left
       ·simp only [Act.put, List.setIfInBounds_toArray, List.set_cons_zero, List.set_cons_succ, i64_w, i32_w]
        rfl
       refine one_ (i := 41) (N := some 78) (bm 51 140737488355327) rfl rfl (one_of HT_.out (by kernel_rfl)) (by decide) (fun K hK => ?_)
       refine goes_ Try.func24 (by kernel_rfl) rfl #[.agg #[.int .i64 a5_0, .int .i64 a5_1, .int .i64 a5_2], .agg #[.int .i64 a6_0, .int .i64 a6_1, .int .i64 a6_2], .agg #[.int .i64 a7_0, .int .i64 a7_1, .int .i64 a7_2], .int .i64 a3, .int .i64 a4] (by rfl) rfl rfl (by (try simp only [List.map_toArray, List.map_cons, List.map_nil]); first | done | rfl | (simp only [List.length_drop, List.length_take]; rfl)) ?_
       with_reducible refine (light_Blend.calls a5_0 a5_1 a5_2 a6_0 a6_1 a6_2 a7_0 a7_1 a7_2 a3 a4 t384 t385 t386 _ A24.out).mono ?_
       rintro e w59 ⟨rfl, hb⟩
       refine ⟨_, rfl, ?_⟩
       replace BK358 := cB hb BK358
       replace BK359 := cB hb BK359
       replace BK360 := cB hb BK360
       replace BK361 := cB hb BK361
       replace BK362 := cB hb BK362
       replace BK368 := cB hb BK368
       replace BK373 := cB hb BK373
       replace HB := Aside0.mk (below_step (by first | exact HB.out | (repeat (first | exact HB.out | apply pw_below_drewN | apply below_drew1 | apply below_alloc))) hb)
       (try clear hb)
       (try clear hb2)
       (try clear hk)
       (try clear hi)
       refine hK.out _ _ ⟨(blk_cell BK358.out 0).trans rfl, (blk_cell BK358.out 1).trans rfl, (blk_cell BK358.out 2).trans rfl, (blk_cell BK359.out 0).trans rfl, (blk_cell BK359.out 1).trans rfl, (blk_cell BK359.out 2).trans rfl, (blk_cell BK368.out 0).trans rfl, (blk_cell BK368.out 1).trans rfl, (blk_cell BK368.out 2).trans rfl, (blk_cell BK373.out 0).trans rfl, (blk_cell BK373.out 1).trans rfl, (blk_cell BK373.out 2).trans rfl, (blk_cell BK360.out 0).trans rfl, (blk_cell BK360.out 1).trans rfl, (blk_cell BK360.out 2).trans rfl, (blk_cell BK361.out 0).trans rfl, (blk_cell BK361.out 1).trans rfl, (blk_cell BK361.out 2).trans rfl, (blk_cell BK362.out 0).trans rfl, (blk_cell BK362.out 1).trans rfl, (blk_cell BK362.out 2).trans rfl⟩ (fun hHeld => ?_)
       clear hK K
       refine norm_ (a' := ?_) ?_ ?_
       rotate_left
       ·show Act.put _ (some 78) _ = _
        simp only [Act.put, List.setIfInBounds_toArray, List.set_cons_zero, List.set_cons_succ, i64_w, i32_w]
        rfl
       refine one_ (i := 47) (N := some 84) (bm 51 281474976710655) rfl rfl (one_of HT_.out (by kernel_rfl)) (by decide) (fun K hK => ?_)
       refine goes_ Try.func25 (by kernel_rfl) rfl #[.agg #[.int .i64 a5_0, .int .i64 a5_1, .int .i64 a5_2], .agg #[.int .i64 a6_0, .int .i64 a6_1, .int .i64 a6_2], .agg #[.int .i64 a7_0, .int .i64 a7_1, .int .i64 a7_2], .int .i64 a3, .int .i64 a4] (by rfl) rfl rfl (by (try simp only [List.map_toArray, List.map_cons, List.map_nil]); first | done | rfl | (simp only [List.length_drop, List.length_take]; rfl)) ?_
       with_reducible refine (relievoref19_Blend.calls k a5_0 a5_1 a5_2 a6_0 a6_1 a6_2 a7_0 a7_1 a7_2 a3 a4 t387 t388 t389 _ A25.out).mono ?_
       rintro e w60 ⟨rfl, hb⟩
       refine ⟨_, rfl, ?_⟩
       replace BK358 := cB hb BK358
       replace BK359 := cB hb BK359
       replace BK360 := cB hb BK360
       replace BK361 := cB hb BK361
       replace BK362 := cB hb BK362
       replace BK368 := cB hb BK368
       replace BK373 := cB hb BK373
       replace HB := Aside0.mk (below_step (by first | exact HB.out | (repeat (first | exact HB.out | apply pw_below_drewN | apply below_drew1 | apply below_alloc))) hb)
       (try clear hb)
       (try clear hb2)
       (try clear hk)
       (try clear hi)
       refine hK.out _ _ ⟨(blk_cell BK358.out 0).trans rfl, (blk_cell BK358.out 1).trans rfl, (blk_cell BK358.out 2).trans rfl, (blk_cell BK359.out 0).trans rfl, (blk_cell BK359.out 1).trans rfl, (blk_cell BK359.out 2).trans rfl, (blk_cell BK368.out 0).trans rfl, (blk_cell BK368.out 1).trans rfl, (blk_cell BK368.out 2).trans rfl, (blk_cell BK373.out 0).trans rfl, (blk_cell BK373.out 1).trans rfl, (blk_cell BK373.out 2).trans rfl, (blk_cell BK360.out 0).trans rfl, (blk_cell BK360.out 1).trans rfl, (blk_cell BK360.out 2).trans rfl, (blk_cell BK361.out 0).trans rfl, (blk_cell BK361.out 1).trans rfl, (blk_cell BK361.out 2).trans rfl, (blk_cell BK362.out 0).trans rfl, (blk_cell BK362.out 1).trans rfl, (blk_cell BK362.out 2).trans rfl⟩ (fun hHeld => ?_)
       clear hK K
       refine norm_ (a' := ?_) ?_ ?_
       rotate_left
       ·show Act.put _ (some 84) _ = _
        simp only [Act.put, List.setIfInBounds_toArray, List.set_cons_zero, List.set_cons_succ, i64_w, i32_w]
        rfl
       refine pure_ (i := 48) (N := some 85) (v := ?_) (a' := ?_) (bm 51 562949953421311) rfl rfl (any_of HT_.out (by kernel_rfl)) (fun _ _ _ h => h) (Or.inl ⟨by rfl, ?_⟩) ?_ ?_
       rotate_left
       ·intro w'
        go_simp
        with_reducible rfl
       rotate_left
       ·simp only [Act.put, List.setIfInBounds_toArray, List.set_cons_zero, List.set_cons_succ, i64_w, i32_w]
        rfl
       refine pure_ (i := 49) (N := some 86) (v := ?_) (a' := ?_) (bm 51 1125899906842623) rfl rfl (any_of HT_.out (by kernel_rfl)) (fun _ _ _ h => h) (Or.inl ⟨by rfl, ?_⟩) ?_ ?_
       rotate_left
       ·intro w'
        go_simp
        with_reducible rfl
       rotate_left
       ·simp only [Act.put, List.setIfInBounds_toArray, List.set_cons_zero, List.set_cons_succ, i64_w, i32_w]
        rfl
       refine pure_ (i := 50) (N := some 16) (v := ?_) (a' := ?_) (bm 51 2251799813685247) rfl rfl (any_of HT_.out (by kernel_rfl)) (fun _ _ _ h => h) (Or.inl ⟨by rfl, ?_⟩) ?_ ?_
       rotate_left
       ·intro w'
        go_simp
        with_reducible rfl
       rotate_left
       ·simp only [Act.put, List.setIfInBounds_toArray, List.set_cons_zero, List.set_cons_succ, i64_w, i32_w]
        rfl
       refine done_ (done_of HT_.out (by kernel_rfl)) ?_
       try go_wp2
       go_ret
       exact ⟨by first | rfl | (simp [errW_none, errW_some] <;> rfl) | (simp [*, errW_none, errW_some] <;> rfl), by first | exact HB.out | (repeat (first | exact HB.out | apply pw_below_drewN | apply below_drew1 | apply below_alloc))⟩
      rw [if_neg c23] at H
      have c23b0 : (t367 == t372) = false := by simpa using c23
      (try (have c23b1 : decide (t367 = t372) = false := by simpa using c23))
      (try (have c23b2 : (t367 == t372) = false := by simpa using c23))
      (try (have c23b3 : ¬ (t367 = t372) := by simpa using c23))
      clear c23
      obtain rfl := Option.some.inj H
      go_enter Try.func9, Try.ntmps9
      try go_wp2_with (first | ((with_reducible refine gate_dst (N := 8) rfl ?_); refine box_event ?hg (N := 8) ?hd (cs := #[.int .i64 a0_0, .int .i64 a0_1, .int .i64 a0_2]) (t := 26) ?hr ?_; (case hd => rfl); (case hg => rfl); (case hr => first | (go_simp; done) | (go_simp; rfl)); intro gb358 hg w61 hbox hb; have BK358 := Aside0.mk (hbox); have GE358 := Aside0.mk (bG hg (by first | exact HB.out | (repeat (first | exact HB.out | apply pw_below_drewN | apply below_drew1 | apply below_alloc)))); replace HB := Aside0.mk (below_step (by first | exact HB.out | (repeat (first | exact HB.out | apply pw_below_drewN | apply below_drew1 | apply below_alloc))) hb); clear hb hbox hg) | ((with_reducible refine gate_dst (N := 9) rfl ?_); refine box_event ?hg (N := 9) ?hd (cs := #[.int .i64 a1_0, .int .i64 a1_1, .int .i64 a1_2]) (t := 26) ?hr ?_; (case hd => rfl); (case hg => rfl); (case hr => first | (go_simp; done) | (go_simp; rfl)); intro gb359 hg w62 hbox hb; have BK359 := Aside0.mk (hbox); have GE359 := Aside0.mk (bG hg (by first | exact HB.out | (repeat (first | exact HB.out | apply pw_below_drewN | apply below_drew1 | apply below_alloc)))); have NB358_359 := cN hg BK358; have NB359_358 := cM hg BK358; replace BK358 := cB hb BK358; replace HB := Aside0.mk (below_step (by first | exact HB.out | (repeat (first | exact HB.out | apply pw_below_drewN | apply below_drew1 | apply below_alloc))) hb); clear hb hbox hg) | ((with_reducible refine gate_dst (N := 13) rfl ?_); refine box_event ?hg (N := 13) ?hd (cs := #[.int .i64 a5_0, .int .i64 a5_1, .int .i64 a5_2]) (t := 37) ?hr ?_; (case hd => rfl); (case hg => rfl); (case hr => first | (go_simp; done) | (go_simp; rfl)); intro gb360 hg w63 hbox hb; have BK360 := Aside0.mk (hbox); have GE360 := Aside0.mk (bG hg (by first | exact HB.out | (repeat (first | exact HB.out | apply pw_below_drewN | apply below_drew1 | apply below_alloc)))); have NB358_360 := cN hg BK358; have NB360_358 := cM hg BK358; have NB359_360 := cN hg BK359; have NB360_359 := cM hg BK359; replace BK358 := cB hb BK358; replace BK359 := cB hb BK359; replace HB := Aside0.mk (below_step (by first | exact HB.out | (repeat (first | exact HB.out | apply pw_below_drewN | apply below_drew1 | apply below_alloc))) hb); clear hb hbox hg) | ((with_reducible refine gate_dst (N := 14) rfl ?_); refine box_event ?hg (N := 14) ?hd (cs := #[.int .i64 a6_0, .int .i64 a6_1, .int .i64 a6_2]) (t := 37) ?hr ?_; (case hd => rfl); (case hg => rfl); (case hr => first | (go_simp; done) | (go_simp; rfl)); intro gb361 hg w64 hbox hb; have BK361 := Aside0.mk (hbox); have GE361 := Aside0.mk (bG hg (by first | exact HB.out | (repeat (first | exact HB.out | apply pw_below_drewN | apply below_drew1 | apply below_alloc)))); have NB358_361 := cN hg BK358; have NB361_358 := cM hg BK358; have NB359_361 := cN hg BK359; have NB361_359 := cM hg BK359; have NB360_361 := cN hg BK360; have NB361_360 := cM hg BK360; replace BK358 := cB hb BK358; replace BK359 := cB hb BK359; replace BK360 := cB hb BK360; replace HB := Aside0.mk (below_step (by first | exact HB.out | (repeat (first | exact HB.out | apply pw_below_drewN | apply below_drew1 | apply below_alloc))) hb); clear hb hbox hg) | ((with_reducible refine gate_dst (N := 15) rfl ?_); refine box_event ?hg (N := 15) ?hd (cs := #[.int .i64 a7_0, .int .i64 a7_1, .int .i64 a7_2]) (t := 37) ?hr ?_; (case hd => rfl); (case hg => rfl); (case hr => first | (go_simp; done) | (go_simp; rfl)); intro gb362 hg w65 hbox hb; have BK362 := Aside0.mk (hbox); have GE362 := Aside0.mk (bG hg (by first | exact HB.out | (repeat (first | exact HB.out | apply pw_below_drewN | apply below_drew1 | apply below_alloc)))); have NB358_362 := cN hg BK358; have NB362_358 := cM hg BK358; have NB359_362 := cN hg BK359; have NB362_359 := cM hg BK359; have NB360_362 := cN hg BK360; have NB362_360 := cM hg BK360; have NB361_362 := cN hg BK361; have NB362_361 := cM hg BK361; replace BK358 := cB hb BK358; replace BK359 := cB hb BK359; replace BK360 := cB hb BK360; replace BK361 := cB hb BK361; replace HB := Aside0.mk (below_step (by first | exact HB.out | (repeat (first | exact HB.out | apply pw_below_drewN | apply below_drew1 | apply below_alloc))) hb); clear hb hbox hg) | ((with_reducible refine gate_callee (f := 11) rfl ?_); refine goesL_ (some 21) rfl rfl Try.func11 (by kernel_rfl) rfl #[] rfl (by (try simp only [List.map_toArray, List.map_cons, List.map_nil]); first | done | rfl | (simp only [List.length_drop, List.length_take]; rfl)) ?_; (with_reducible refine (relievolaw19_alive.calls k  true _ A9.out).mono ?_); rintro e w66 ⟨rfl, hb⟩; refine ⟨_, rfl, ?_⟩; replace BK358 := cB hb BK358; replace BK359 := cB hb BK359; replace BK360 := cB hb BK360; replace BK361 := cB hb BK361; replace BK362 := cB hb BK362; replace HB := Aside0.mk (below_step (by first | exact HB.out | (repeat (first | exact HB.out | apply pw_below_drewN | apply below_drew1 | apply below_alloc))) hb); (try clear hb); (try clear hb2); (try clear hk); (try clear hi); obtain ⟨hcz67_0, hcz67_1, hcz67_2⟩ := cells3 BK358.out; obtain ⟨hcz68_0, hcz68_1, hcz68_2⟩ := cells3 BK359.out) | ((with_reducible refine gate_callee (f := 15) rfl ?_); refine goesL_ (some 27) rfl rfl Try.func15 (by kernel_rfl) rfl #[.agg #[.int .i64 a0_0, .int .i64 a0_1, .int .i64 a0_2], .agg #[.int .i64 a1_0, .int .i64 a1_1, .int .i64 a1_2], .int .i64 a2] rfl (by (try simp only [List.map_toArray, List.map_cons, List.map_nil]); first | done | rfl | (simp only [List.length_drop, List.length_take]; rfl)) ?_; (with_reducible refine (light_Refract.calls k a0_0 a0_1 a0_2 a1_0 a1_1 a1_2 a2 t364 t365 t366 t367 _ A11.out).mono ?_); rintro e w69 ⟨rfl, hb⟩; refine ⟨_, rfl, ?_⟩; replace BK358 := cB hb BK358; replace BK359 := cB hb BK359; replace BK360 := cB hb BK360; replace BK361 := cB hb BK361; replace BK362 := cB hb BK362; replace HB := Aside0.mk (below_step (by first | exact HB.out | (repeat (first | exact HB.out | apply pw_below_drewN | apply below_drew1 | apply below_alloc))) hb); (try clear hb); (try clear hb2); (try clear hk); (try clear hi)) | ((with_reducible refine gate_dst (N := 17) rfl ?_); refine box_event ?hg (N := 17) ?hd (cs := #[.int .i64 0, .int .i64 0, .int .i64 0]) (t := 26) ?hr ?_; (case hd => rfl); (case hg => rfl); (case hr => first | (go_simp; done) | (go_simp; rfl)); intro gb368 hg w70 hbox hb; have BK368 := Aside0.mk (hbox); have GE368 := Aside0.mk (bG hg (by first | exact HB.out | (repeat (first | exact HB.out | apply pw_below_drewN | apply below_drew1 | apply below_alloc)))); have NB358_368 := cN hg BK358; have NB368_358 := cM hg BK358; have NB359_368 := cN hg BK359; have NB368_359 := cM hg BK359; have NB360_368 := cN hg BK360; have NB368_360 := cM hg BK360; have NB361_368 := cN hg BK361; have NB368_361 := cM hg BK361; have NB362_368 := cN hg BK362; have NB368_362 := cM hg BK362; replace BK358 := cB hb BK358; replace BK359 := cB hb BK359; replace BK360 := cB hb BK360; replace BK361 := cB hb BK361; replace BK362 := cB hb BK362; replace HB := Aside0.mk (below_step (by first | exact HB.out | (repeat (first | exact HB.out | apply pw_below_drewN | apply below_drew1 | apply below_alloc))) hb); clear hb hbox hg; have hnb71 := NB368_358.out; have hnc71 := NB358_368.out; have hnb72 := NB368_359.out; have hnc72 := NB359_368.out; have hnb73 := NB368_360.out; have hnc73 := NB360_368.out; have hnb74 := NB368_361.out; have hnc74 := NB361_368.out; have hnb75 := NB368_362.out; have hnc75 := NB362_368.out; obtain ⟨hcz76_0, hcz76_1, hcz76_2⟩ := cells3 BK368.out; have hfz76_0 := blk_frozen BK368.out 0; have hfz76_1 := blk_frozen BK368.out 1; have hfz76_2 := blk_frozen BK368.out 2; obtain ⟨hcz77_0, hcz77_1, hcz77_2⟩ := cells3 BK358.out; obtain ⟨hcz78_0, hcz78_1, hcz78_2⟩ := cells3 BK359.out) | ((with_reducible refine gate_callee (f := 20) rfl ?_); refine goesL_ (some 34) rfl rfl Try.func20 (by kernel_rfl) rfl #[.agg #[.int .i64 a0_0, .int .i64 a0_1, .int .i64 a0_2], .agg #[.int .i64 a1_0, .int .i64 a1_1, .int .i64 a1_2], .int .i64 a2] rfl (by (try simp only [List.map_toArray, List.map_cons, List.map_nil]); first | done | rfl | (simp only [List.length_drop, List.length_take]; rfl)) ?_; (with_reducible refine (relievoref19_Refract.calls k a0_0 a0_1 a0_2 a1_0 a1_1 a1_2 a2 t369 t370 t371 t372 _ A12.out).mono ?_); rintro e w79 ⟨rfl, hb⟩; refine ⟨_, rfl, ?_⟩; replace BK358 := Aside0.mk (bB hb ((blk_far (blk_far (blk_far BK358.out NB358_368.out _) NB358_368.out _) NB358_368.out _))); replace BK359 := Aside0.mk (bB hb ((blk_far (blk_far (blk_far BK359.out NB359_368.out _) NB359_368.out _) NB359_368.out _))); replace BK360 := Aside0.mk (bB hb ((blk_far (blk_far (blk_far BK360.out NB360_368.out _) NB360_368.out _) NB360_368.out _))); replace BK361 := Aside0.mk (bB hb ((blk_far (blk_far (blk_far BK361.out NB361_368.out _) NB361_368.out _) NB361_368.out _))); replace BK362 := Aside0.mk (bB hb ((blk_far (blk_far (blk_far BK362.out NB362_368.out _) NB362_368.out _) NB362_368.out _))); replace BK368 := Aside0.mk (bB hb ((blk_put (cs' := #[.int .i64 t364, .int .i64 t365, .int .i64 t366]) (blk_put (blk_put BK368.out 0 _ rfl) 1 _ rfl) 2 _ rfl))); replace HB := Aside0.mk (below_step (by first | exact (below_set (below_set (below_set HB.out GE368.out) GE368.out) GE368.out) | (repeat (first | exact (below_set (below_set (below_set HB.out GE368.out) GE368.out) GE368.out) | apply pw_below_drewN | apply below_drew1 | apply below_alloc))) hb); (try clear hb); (try clear hb2); (try clear hk); (try clear hi)) | ((with_reducible refine gate_dst (N := 19) rfl ?_); refine box_event ?hg (N := 19) ?hd (cs := #[.int .i64 0, .int .i64 0, .int .i64 0]) (t := 26) ?hr ?_; (case hd => rfl); (case hg => rfl); (case hr => first | (go_simp; done) | (go_simp; rfl)); intro gb373 hg w80 hbox hb; have BK373 := Aside0.mk (hbox); have GE373 := Aside0.mk (bG hg (by first | exact HB.out | (repeat (first | exact HB.out | apply pw_below_drewN | apply below_drew1 | apply below_alloc)))); have NB358_373 := cN hg BK358; have NB373_358 := cM hg BK358; have NB359_373 := cN hg BK359; have NB373_359 := cM hg BK359; have NB360_373 := cN hg BK360; have NB373_360 := cM hg BK360; have NB361_373 := cN hg BK361; have NB373_361 := cM hg BK361; have NB362_373 := cN hg BK362; have NB373_362 := cM hg BK362; have NB368_373 := cN hg BK368; have NB373_368 := cM hg BK368; replace BK358 := cB hb BK358; replace BK359 := cB hb BK359; replace BK360 := cB hb BK360; replace BK361 := cB hb BK361; replace BK362 := cB hb BK362; replace BK368 := cB hb BK368; replace HB := Aside0.mk (below_step (by first | exact HB.out | (repeat (first | exact HB.out | apply pw_below_drewN | apply below_drew1 | apply below_alloc))) hb); clear hb hbox hg; have hnb81 := NB373_358.out; have hnc81 := NB358_373.out; have hnb82 := NB373_359.out; have hnc82 := NB359_373.out; have hnb83 := NB373_360.out; have hnc83 := NB360_373.out; have hnb84 := NB373_361.out; have hnc84 := NB361_373.out; have hnb85 := NB373_362.out; have hnc85 := NB362_373.out; have hnb86 := NB373_368.out; have hnc86 := NB368_373.out; obtain ⟨hcz87_0, hcz87_1, hcz87_2⟩ := cells3 BK373.out; have hfz87_0 := blk_frozen BK373.out 0; have hfz87_1 := blk_frozen BK373.out 1; have hfz87_2 := blk_frozen BK373.out 2))
      generalize hw_ : (((w80.setCell ⟨gb373, 0, none⟩ (.int .i64 t369)).setCell ⟨gb373, 1, none⟩ (.int .i64 t370)).setCell ⟨gb373, 2, none⟩ (.int .i64 t371)) = w88
      replace BK358 := Aside0.mk (bF hw_ (blk_far (blk_far (blk_far BK358.out NB358_373.out _) NB358_373.out _) NB358_373.out _))
      replace BK359 := Aside0.mk (bF hw_ (blk_far (blk_far (blk_far BK359.out NB359_373.out _) NB359_373.out _) NB359_373.out _))
      replace BK360 := Aside0.mk (bF hw_ (blk_far (blk_far (blk_far BK360.out NB360_373.out _) NB360_373.out _) NB360_373.out _))
      replace BK361 := Aside0.mk (bF hw_ (blk_far (blk_far (blk_far BK361.out NB361_373.out _) NB361_373.out _) NB361_373.out _))
      replace BK362 := Aside0.mk (bF hw_ (blk_far (blk_far (blk_far BK362.out NB362_373.out _) NB362_373.out _) NB362_373.out _))
      replace BK368 := Aside0.mk (bF hw_ (blk_far (blk_far (blk_far BK368.out NB368_373.out _) NB368_373.out _) NB368_373.out _))
      replace BK373 := Aside0.mk (bF hw_ (blk_put (cs' := #[.int .i64 t369, .int .i64 t370, .int .i64 t371]) (blk_put (blk_put BK373.out 0 _ rfl) 1 _ rfl) 2 _ rfl))
      replace HB := Aside0.mk (bH hw_ (by first | exact (below_set (below_set (below_set HB.out GE373.out) GE373.out) GE373.out) | (repeat (first | exact (below_set (below_set (below_set HB.out GE373.out) GE373.out) GE373.out) | apply pw_below_drewN | apply below_drew1 | apply below_alloc))))
      clear hw_
      replace BK358 := Aside0.mk (blk_drew BK358.out)
      replace BK359 := Aside0.mk (blk_drew BK359.out)
      replace BK360 := Aside0.mk (blk_drew BK360.out)
      replace BK361 := Aside0.mk (blk_drew BK361.out)
      replace BK362 := Aside0.mk (blk_drew BK362.out)
      replace BK368 := Aside0.mk (blk_drew BK368.out)
      replace BK373 := Aside0.mk (blk_drew BK373.out)
      replace HB := Aside0.mk (below_drew1 HB.out)
      refine start_ (n := 51) (S := fun w' => w'.cell? ⟨gb358, 0, none⟩ = some (.int .i64 a0_0) ∧ w'.cell? ⟨gb358, 1, none⟩ = some (.int .i64 a0_1) ∧ w'.cell? ⟨gb358, 2, none⟩ = some (.int .i64 a0_2) ∧ w'.cell? ⟨gb359, 0, none⟩ = some (.int .i64 a1_0) ∧ w'.cell? ⟨gb359, 1, none⟩ = some (.int .i64 a1_1) ∧ w'.cell? ⟨gb359, 2, none⟩ = some (.int .i64 a1_2) ∧ w'.cell? ⟨gb368, 0, none⟩ = some (.int .i64 t364) ∧ w'.cell? ⟨gb368, 1, none⟩ = some (.int .i64 t365) ∧ w'.cell? ⟨gb368, 2, none⟩ = some (.int .i64 t366) ∧ w'.cell? ⟨gb373, 0, none⟩ = some (.int .i64 t369) ∧ w'.cell? ⟨gb373, 1, none⟩ = some (.int .i64 t370) ∧ w'.cell? ⟨gb373, 2, none⟩ = some (.int .i64 t371)) (ds := []) #[false, false, false, false, false, false, false, false, false, false, false, false, false, false, false, false, false, false, false, false, false, false, false, false, false, false, false, false, false, false, false, false, false, false, false, false, false, false, false, false, false, false, false, false, false, false, false, false, false, false, false] (by kernel_rfl) rfl rfl ⟨(blk_cell BK358.out 0).trans rfl, (blk_cell BK358.out 1).trans rfl, (blk_cell BK358.out 2).trans rfl, (blk_cell BK359.out 0).trans rfl, (blk_cell BK359.out 1).trans rfl, (blk_cell BK359.out 2).trans rfl, (blk_cell BK368.out 0).trans rfl, (blk_cell BK368.out 1).trans rfl, (blk_cell BK368.out 2).trans rfl, (blk_cell BK373.out 0).trans rfl, (blk_cell BK373.out 1).trans rfl, (blk_cell BK373.out 2).trans rfl⟩ (fun hHeld => ?_); refine with_tabW relievolaw19_LightAnswers.tab5 relievolaw19_LightAnswers.bits5 (fun HT_ HW_ => ?_)
      generalize w88.drew = w89 at BK358 BK359 BK360 BK361 BK362 BK368 BK373 HB hHeld ⊢
      refine take_ (i := 0) (N := some 37) (v := ?_) (a' := ?_) (bm 51 1) rfl rfl (take_ofW HT_.out HW_.out (by kernel_rfl)) (fun _ _ _ h => h) (Or.inl ⟨by rfl, ?_⟩) hHeld ?_ ?_
      rotate_left
      ·rintro w' ⟨s0, s1, s2, s3, s4, s5, s6, s7, s8, s9, s10, s11⟩
       go_simp
       with_reducible rfl
      rotate_left
      ·simp only [Act.put, List.setIfInBounds_toArray, List.set_cons_zero, List.set_cons_succ, i64_w, i32_w]
       rfl
      refine take_ (i := 1) (N := some 38) (v := ?_) (a' := ?_) (bm 51 3) rfl rfl (take_ofW HT_.out HW_.out (by kernel_rfl)) (fun _ _ _ h => h) (Or.inl ⟨by rfl, ?_⟩) hHeld ?_ ?_
      rotate_left
      ·rintro w' ⟨s0, s1, s2, s3, s4, s5, s6, s7, s8, s9, s10, s11⟩
       go_simp
       with_reducible rfl
      rotate_left
      ·simp only [Act.put, List.setIfInBounds_toArray, List.set_cons_zero, List.set_cons_succ, i64_w, i32_w]
       rfl
      refine take_ (i := 3) (N := some 40) (v := ?_) (a' := ?_) (bm 51 11) rfl rfl (take_ofW HT_.out HW_.out (by kernel_rfl)) (fun _ _ _ h => h) (Or.inl ⟨by rfl, ?_⟩) hHeld ?_ ?_
      rotate_left
      ·rintro w' ⟨s0, s1, s2, s3, s4, s5, s6, s7, s8, s9, s10, s11⟩
       go_simp
       with_reducible rfl
      rotate_left
      ·simp only [Act.put, List.setIfInBounds_toArray, List.set_cons_zero, List.set_cons_succ, i64_w, i32_w]
       rfl
      refine take_ (i := 4) (N := some 41) (v := ?_) (a' := ?_) (bm 51 27) rfl rfl (take_ofW HT_.out HW_.out (by kernel_rfl)) (fun _ _ _ h => h) (Or.inl ⟨by rfl, ?_⟩) hHeld ?_ ?_
      rotate_left
      ·rintro w' ⟨s0, s1, s2, s3, s4, s5, s6, s7, s8, s9, s10, s11⟩
       go_simp
       with_reducible rfl
      rotate_left
      ·simp only [Act.put, List.setIfInBounds_toArray, List.set_cons_zero, List.set_cons_succ, i64_w, i32_w]
       rfl
      refine one_ (i := 2) (N := some 39) (bm 51 31) rfl rfl (one_of HT_.out (by kernel_rfl)) (by decide) (fun K hK => ?_)
      refine goes_ Try.func17 (by kernel_rfl) rfl #[.agg #[.int .i64 a0_0, .int .i64 a0_1, .int .i64 a0_2], .agg #[.int .i64 a1_0, .int .i64 a1_1, .int .i64 a1_2]] (by rfl) rfl rfl (by (try simp only [List.map_toArray, List.map_cons, List.map_nil]); first | done | rfl | (simp only [List.length_drop, List.length_take]; rfl)) ?_
      with_reducible refine (light_Cos.calls k a0_0 a0_1 a0_2 a1_0 a1_1 a1_2 t374 _ A13.out).mono ?_
      rintro e w90 ⟨rfl, hb⟩
      refine ⟨_, rfl, ?_⟩
      replace BK358 := cB hb BK358
      replace BK359 := cB hb BK359
      replace BK360 := cB hb BK360
      replace BK361 := cB hb BK361
      replace BK362 := cB hb BK362
      replace BK368 := cB hb BK368
      replace BK373 := cB hb BK373
      replace HB := Aside0.mk (below_step (by first | exact HB.out | (repeat (first | exact HB.out | apply pw_below_drewN | apply below_drew1 | apply below_alloc))) hb)
      (try clear hb)
      (try clear hb2)
      (try clear hk)
      (try clear hi)
      refine hK.out _ _ ⟨(blk_cell BK358.out 0).trans rfl, (blk_cell BK358.out 1).trans rfl, (blk_cell BK358.out 2).trans rfl, (blk_cell BK359.out 0).trans rfl, (blk_cell BK359.out 1).trans rfl, (blk_cell BK359.out 2).trans rfl, (blk_cell BK368.out 0).trans rfl, (blk_cell BK368.out 1).trans rfl, (blk_cell BK368.out 2).trans rfl, (blk_cell BK373.out 0).trans rfl, (blk_cell BK373.out 1).trans rfl, (blk_cell BK373.out 2).trans rfl⟩ (fun hHeld => ?_)
      clear hK K
      refine norm_ (a' := ?_) ?_ ?_
      rotate_left
      ·show Act.put _ (some 39) _ = _
       simp only [Act.put, List.setIfInBounds_toArray, List.set_cons_zero, List.set_cons_succ, i64_w, i32_w]
       rfl
      refine one_ (i := 5) (N := some 42) (bm 51 63) rfl rfl (one_of HT_.out (by kernel_rfl)) (by decide) (fun K hK => ?_)
      refine goes_ Try.func21 (by kernel_rfl) rfl #[.agg #[.int .i64 a0_0, .int .i64 a0_1, .int .i64 a0_2], .agg #[.int .i64 a1_0, .int .i64 a1_1, .int .i64 a1_2]] (by rfl) rfl rfl (by (try simp only [List.map_toArray, List.map_cons, List.map_nil]); first | done | rfl | (simp only [List.length_drop, List.length_take]; rfl)) ?_
      with_reducible refine (relievoref19_Cos.calls k a0_0 a0_1 a0_2 a1_0 a1_1 a1_2 t375 _ A14.out).mono ?_
      rintro e w91 ⟨rfl, hb⟩
      refine ⟨_, rfl, ?_⟩
      replace BK358 := cB hb BK358
      replace BK359 := cB hb BK359
      replace BK360 := cB hb BK360
      replace BK361 := cB hb BK361
      replace BK362 := cB hb BK362
      replace BK368 := cB hb BK368
      replace BK373 := cB hb BK373
      replace HB := Aside0.mk (below_step (by first | exact HB.out | (repeat (first | exact HB.out | apply pw_below_drewN | apply below_drew1 | apply below_alloc))) hb)
      (try clear hb)
      (try clear hb2)
      (try clear hk)
      (try clear hi)
      refine hK.out _ _ ⟨(blk_cell BK358.out 0).trans rfl, (blk_cell BK358.out 1).trans rfl, (blk_cell BK358.out 2).trans rfl, (blk_cell BK359.out 0).trans rfl, (blk_cell BK359.out 1).trans rfl, (blk_cell BK359.out 2).trans rfl, (blk_cell BK368.out 0).trans rfl, (blk_cell BK368.out 1).trans rfl, (blk_cell BK368.out 2).trans rfl, (blk_cell BK373.out 0).trans rfl, (blk_cell BK373.out 1).trans rfl, (blk_cell BK373.out 2).trans rfl⟩ (fun hHeld => ?_)
      clear hK K
      refine norm_ (a' := ?_) ?_ ?_
      rotate_left
      ·show Act.put _ (some 42) _ = _
       simp only [Act.put, List.setIfInBounds_toArray, List.set_cons_zero, List.set_cons_succ, i64_w, i32_w]
       rfl
      refine pure_ (i := 6) (N := some 43) (v := ?_) (a' := ?_) (bm 51 127) rfl rfl (any_of HT_.out (by kernel_rfl)) (fun _ _ _ h => h) (Or.inl ⟨by rfl, ?_⟩) ?_ ?_
      rotate_left
      ·intro w'
       go_simp
       with_reducible rfl
      rotate_left
      ·simp only [Act.put, List.setIfInBounds_toArray, List.set_cons_zero, List.set_cons_succ, i64_w, i32_w]
       rfl
      refine pure_ (i := 7) (N := some 44) (v := ?_) (a' := ?_) (bm 51 255) rfl rfl (any_of HT_.out (by kernel_rfl)) (fun _ _ _ h => h) (Or.inl ⟨by rfl, ?_⟩) ?_ ?_
      rotate_left
      ·intro w'
       go_simp
       with_reducible rfl
      rotate_left
      ·simp only [Act.put, List.setIfInBounds_toArray, List.set_cons_zero, List.set_cons_succ, i64_w, i32_w]
       rfl
      refine pure_ (i := 8) (N := some 45) (v := ?_) (a' := ?_) (bm 51 511) rfl rfl (any_of HT_.out (by kernel_rfl)) (fun _ _ _ h => h) (Or.inl ⟨by rfl, ?_⟩) ?_ ?_
      rotate_left
      ·intro w'
       go_simp
       with_reducible rfl
      rotate_left
      ·simp only [Act.put, List.setIfInBounds_toArray, List.set_cons_zero, List.set_cons_succ, i64_w, i32_w]
       rfl
      refine pure_ (i := 9) (N := some 46) (v := ?_) (a' := ?_) (bm 51 1023) rfl rfl (any_of HT_.out (by kernel_rfl)) (fun _ _ _ h => h) (Or.inl ⟨by rfl, ?_⟩) ?_ ?_
      rotate_left
      ·intro w'
       go_simp
       with_reducible rfl
      rotate_left
      ·simp only [Act.put, List.setIfInBounds_toArray, List.set_cons_zero, List.set_cons_succ, i64_w, i32_w]
       rfl
      refine pure_ (i := 11) (N := some 48) (v := ?_) (a' := ?_) (bm 51 3071) rfl rfl (any_of HT_.out (by kernel_rfl)) (fun _ _ _ h => h) (Or.inl ⟨by rfl, ?_⟩) ?_ ?_
      rotate_left
      ·intro w'
       go_simp
       with_reducible rfl
      rotate_left
      ·simp only [Act.put, List.setIfInBounds_toArray, List.set_cons_zero, List.set_cons_succ, i64_w, i32_w]
       rfl
      refine pure_ (i := 12) (N := some 49) (v := ?_) (a' := ?_) (bm 51 7167) rfl rfl (any_of HT_.out (by kernel_rfl)) (fun _ _ _ h => h) (Or.inl ⟨by rfl, ?_⟩) ?_ ?_
      rotate_left
      ·intro w'
       go_simp
       with_reducible rfl
      rotate_left
      ·simp only [Act.put, List.setIfInBounds_toArray, List.set_cons_zero, List.set_cons_succ, i64_w, i32_w]
       rfl
      refine one_ (i := 10) (N := some 47) (bm 51 8191) rfl rfl (one_of HT_.out (by kernel_rfl)) (by decide) (fun K hK => ?_)
      refine goes_ Try.func12 (by kernel_rfl) rfl #[.int .i64 a3, .int .i64 a4] (by rfl) rfl rfl (by (try simp only [List.map_toArray, List.map_cons, List.map_nil]); first | done | rfl | (simp only [List.length_drop, List.length_take]; rfl)) ?_
      with_reducible refine (light_Power.calls k a3 a4 t376 _ A16.out).mono ?_
      rintro e w' ⟨rfl, ⟨nd, rfl⟩⟩
      refine ⟨_, rfl, ?_⟩
      refine hK.out _ _ ⟨(blk_cell BK358.out 0).trans rfl, (blk_cell BK358.out 1).trans rfl, (blk_cell BK358.out 2).trans rfl, (blk_cell BK359.out 0).trans rfl, (blk_cell BK359.out 1).trans rfl, (blk_cell BK359.out 2).trans rfl, (blk_cell BK368.out 0).trans rfl, (blk_cell BK368.out 1).trans rfl, (blk_cell BK368.out 2).trans rfl, (blk_cell BK373.out 0).trans rfl, (blk_cell BK373.out 1).trans rfl, (blk_cell BK373.out 2).trans rfl⟩ (fun hHeld => ?_)
      clear hK K
      refine norm_ (a' := ?_) ?_ ?_
      rotate_left
      ·show Act.put _ (some 47) _ = _
       simp only [Act.put, List.setIfInBounds_toArray, List.set_cons_zero, List.set_cons_succ, i64_w, i32_w]
       rfl
      refine one_ (i := 13) (N := some 50) (bm 51 16383) rfl rfl (one_of HT_.out (by kernel_rfl)) (by decide) (fun K hK => ?_)
      refine goes_ Try.func22 (by kernel_rfl) rfl #[.int .i64 a3, .int .i64 a4] (by rfl) rfl rfl (by (try simp only [List.map_toArray, List.map_cons, List.map_nil]); first | done | rfl | (simp only [List.length_drop, List.length_take]; rfl)) ?_
      with_reducible refine (relievoref19_Power.calls k a3 a4 t377 _ A17.out).mono ?_
      rintro e w' ⟨rfl, ⟨nd, rfl⟩⟩
      refine ⟨_, rfl, ?_⟩
      refine hK.out _ _ ⟨(blk_cell BK358.out 0).trans rfl, (blk_cell BK358.out 1).trans rfl, (blk_cell BK358.out 2).trans rfl, (blk_cell BK359.out 0).trans rfl, (blk_cell BK359.out 1).trans rfl, (blk_cell BK359.out 2).trans rfl, (blk_cell BK368.out 0).trans rfl, (blk_cell BK368.out 1).trans rfl, (blk_cell BK368.out 2).trans rfl, (blk_cell BK373.out 0).trans rfl, (blk_cell BK373.out 1).trans rfl, (blk_cell BK373.out 2).trans rfl⟩ (fun hHeld => ?_)
      clear hK K
      refine norm_ (a' := ?_) ?_ ?_
      rotate_left
      ·show Act.put _ (some 50) _ = _
       simp only [Act.put, List.setIfInBounds_toArray, List.set_cons_zero, List.set_cons_succ, i64_w, i32_w]
       rfl
      refine pure_ (i := 14) (N := some 51) (v := ?_) (a' := ?_) (bm 51 32767) rfl rfl (any_of HT_.out (by kernel_rfl)) (fun _ _ _ h => h) (Or.inl ⟨by rfl, ?_⟩) ?_ ?_
      rotate_left
      ·intro w'
       go_simp
       with_reducible rfl
      rotate_left
      ·simp only [Act.put, List.setIfInBounds_toArray, List.set_cons_zero, List.set_cons_succ, i64_w, i32_w]
       rfl
      refine pure_ (i := 15) (N := some 52) (v := ?_) (a' := ?_) (bm 51 65535) rfl rfl (any_of HT_.out (by kernel_rfl)) (fun _ _ _ h => h) (Or.inl ⟨by rfl, ?_⟩) ?_ ?_
      rotate_left
      ·intro w'
       go_simp
       with_reducible rfl
      rotate_left
      ·simp only [Act.put, List.setIfInBounds_toArray, List.set_cons_zero, List.set_cons_succ, i64_w, i32_w]
       rfl
      refine pure_ (i := 16) (N := some 53) (v := ?_) (a' := ?_) (bm 51 131071) rfl rfl (any_of HT_.out (by kernel_rfl)) (fun _ _ _ h => h) (Or.inl ⟨by rfl, ?_⟩) ?_ ?_
      rotate_left
      ·intro w'
       go_simp
       with_reducible rfl
      rotate_left
      ·simp only [Act.put, List.setIfInBounds_toArray, List.set_cons_zero, List.set_cons_succ, i64_w, i32_w]
       rfl
      refine take_ (i := 17) (N := some 54) (v := ?_) (a' := ?_) (bm 51 262143) rfl rfl (take_ofW HT_.out HW_.out (by kernel_rfl)) (fun _ _ _ h => h) (Or.inl ⟨by rfl, ?_⟩) hHeld ?_ ?_
      rotate_left
      ·rintro w' ⟨s0, s1, s2, s3, s4, s5, s6, s7, s8, s9, s10, s11⟩
       go_simp
       with_reducible rfl
      rotate_left
      ·simp only [Act.put, List.setIfInBounds_toArray, List.set_cons_zero, List.set_cons_succ, i64_w, i32_w]
       rfl
      refine take_ (i := 18) (N := some 55) (v := ?_) (a' := ?_) (bm 51 524287) rfl rfl (take_ofW HT_.out HW_.out (by kernel_rfl)) (fun _ _ _ h => h) (Or.inl ⟨by rfl, ?_⟩) hHeld ?_ ?_
      rotate_left
      ·rintro w' ⟨s0, s1, s2, s3, s4, s5, s6, s7, s8, s9, s10, s11⟩
       go_simp
       with_reducible rfl
      rotate_left
      ·simp only [Act.put, List.setIfInBounds_toArray, List.set_cons_zero, List.set_cons_succ, i64_w, i32_w]
       rfl
      refine take_ (i := 20) (N := some 57) (v := ?_) (a' := ?_) (bm 51 1572863) rfl rfl (take_ofW HT_.out HW_.out (by kernel_rfl)) (fun _ _ _ h => h) (Or.inl ⟨by rfl, ?_⟩) hHeld ?_ ?_
      rotate_left
      ·rintro w' ⟨s0, s1, s2, s3, s4, s5, s6, s7, s8, s9, s10, s11⟩
       go_simp
       with_reducible rfl
      rotate_left
      ·simp only [Act.put, List.setIfInBounds_toArray, List.set_cons_zero, List.set_cons_succ, i64_w, i32_w]
       rfl
      refine take_ (i := 21) (N := some 58) (v := ?_) (a' := ?_) (bm 51 3670015) rfl rfl (take_ofW HT_.out HW_.out (by kernel_rfl)) (fun _ _ _ h => h) (Or.inl ⟨by rfl, ?_⟩) hHeld ?_ ?_
      rotate_left
      ·rintro w' ⟨s0, s1, s2, s3, s4, s5, s6, s7, s8, s9, s10, s11⟩
       go_simp
       with_reducible rfl
      rotate_left
      ·simp only [Act.put, List.setIfInBounds_toArray, List.set_cons_zero, List.set_cons_succ, i64_w, i32_w]
       rfl
      refine one_ (i := 19) (N := some 56) (bm 51 4194303) rfl rfl (one_of HT_.out (by kernel_rfl)) (by decide) (fun K hK => ?_)
      refine goes_ Try.func14 (by kernel_rfl) rfl #[.agg #[.int .i64 a0_0, .int .i64 a0_1, .int .i64 a0_2], .agg #[.int .i64 a1_0, .int .i64 a1_1, .int .i64 a1_2]] (by rfl) rfl rfl (by (try simp only [List.map_toArray, List.map_cons, List.map_nil]); first | done | rfl | (simp only [List.length_drop, List.length_take]; rfl)) ?_
      with_reducible refine (light_Reflect.calls k a0_0 a0_1 a0_2 a1_0 a1_1 a1_2 t378 t379 t380 _ A19.out).mono ?_
      rintro e w92 ⟨rfl, hb⟩
      refine ⟨_, rfl, ?_⟩
      replace BK358 := cB hb BK358
      replace BK359 := cB hb BK359
      replace BK360 := cB hb BK360
      replace BK361 := cB hb BK361
      replace BK362 := cB hb BK362
      replace BK368 := cB hb BK368
      replace BK373 := cB hb BK373
      replace HB := Aside0.mk (below_step (by first | exact HB.out | (repeat (first | exact HB.out | apply pw_below_drewN | apply below_drew1 | apply below_alloc))) hb)
      (try clear hb)
      (try clear hb2)
      (try clear hk)
      (try clear hi)
      refine hK.out _ _ ⟨(blk_cell BK358.out 0).trans rfl, (blk_cell BK358.out 1).trans rfl, (blk_cell BK358.out 2).trans rfl, (blk_cell BK359.out 0).trans rfl, (blk_cell BK359.out 1).trans rfl, (blk_cell BK359.out 2).trans rfl, (blk_cell BK368.out 0).trans rfl, (blk_cell BK368.out 1).trans rfl, (blk_cell BK368.out 2).trans rfl, (blk_cell BK373.out 0).trans rfl, (blk_cell BK373.out 1).trans rfl, (blk_cell BK373.out 2).trans rfl⟩ (fun hHeld => ?_)
      clear hK K
      refine norm_ (a' := ?_) ?_ ?_
      rotate_left
      ·show Act.put _ (some 56) _ = _
       simp only [Act.put, List.setIfInBounds_toArray, List.set_cons_zero, List.set_cons_succ, i64_w, i32_w]
       rfl
      refine one_ (i := 22) (N := some 59) (bm 51 8388607) rfl rfl (one_of HT_.out (by kernel_rfl)) (by decide) (fun K hK => ?_)
      refine goes_ Try.func23 (by kernel_rfl) rfl #[.agg #[.int .i64 a0_0, .int .i64 a0_1, .int .i64 a0_2], .agg #[.int .i64 a1_0, .int .i64 a1_1, .int .i64 a1_2]] (by rfl) rfl rfl (by (try simp only [List.map_toArray, List.map_cons, List.map_nil]); first | done | rfl | (simp only [List.length_drop, List.length_take]; rfl)) ?_
      with_reducible refine (relievoref19_Reflect.calls k a0_0 a0_1 a0_2 a1_0 a1_1 a1_2 t381 t382 t383 _ A20.out).mono ?_
      rintro e w93 ⟨rfl, hb⟩
      refine ⟨_, rfl, ?_⟩
      replace BK358 := cB hb BK358
      replace BK359 := cB hb BK359
      replace BK360 := cB hb BK360
      replace BK361 := cB hb BK361
      replace BK362 := cB hb BK362
      replace BK368 := cB hb BK368
      replace BK373 := cB hb BK373
      replace HB := Aside0.mk (below_step (by first | exact HB.out | (repeat (first | exact HB.out | apply pw_below_drewN | apply below_drew1 | apply below_alloc))) hb)
      (try clear hb)
      (try clear hb2)
      (try clear hk)
      (try clear hi)
      refine hK.out _ _ ⟨(blk_cell BK358.out 0).trans rfl, (blk_cell BK358.out 1).trans rfl, (blk_cell BK358.out 2).trans rfl, (blk_cell BK359.out 0).trans rfl, (blk_cell BK359.out 1).trans rfl, (blk_cell BK359.out 2).trans rfl, (blk_cell BK368.out 0).trans rfl, (blk_cell BK368.out 1).trans rfl, (blk_cell BK368.out 2).trans rfl, (blk_cell BK373.out 0).trans rfl, (blk_cell BK373.out 1).trans rfl, (blk_cell BK373.out 2).trans rfl⟩ (fun hHeld => ?_)
      clear hK K
      refine norm_ (a' := ?_) ?_ ?_
      rotate_left
      ·show Act.put _ (some 59) _ = _
       simp only [Act.put, List.setIfInBounds_toArray, List.set_cons_zero, List.set_cons_succ, i64_w, i32_w]
       rfl
      refine pure_ (i := 23) (N := some 60) (v := ?_) (a' := ?_) (bm 51 16777215) rfl rfl (any_of HT_.out (by kernel_rfl)) (fun _ _ _ h => h) (Or.inl ⟨by rfl, ?_⟩) ?_ ?_
      rotate_left
      ·intro w'
       go_simp
       with_reducible rfl
      rotate_left
      ·simp only [Act.put, List.setIfInBounds_toArray, List.set_cons_zero, List.set_cons_succ, i64_w, i32_w]
       rfl
      refine pure_ (i := 24) (N := some 61) (v := ?_) (a' := ?_) (bm 51 33554431) rfl rfl (any_of HT_.out (by kernel_rfl)) (fun _ _ _ h => h) (Or.inl ⟨by rfl, ?_⟩) ?_ ?_
      rotate_left
      ·intro w'
       go_simp
       with_reducible rfl
      rotate_left
      ·simp only [Act.put, List.setIfInBounds_toArray, List.set_cons_zero, List.set_cons_succ, i64_w, i32_w]
       rfl
      refine pure_ (i := 25) (N := some 62) (v := ?_) (a' := ?_) (bm 51 67108863) rfl rfl (any_of HT_.out (by kernel_rfl)) (fun _ _ _ h => h) (Or.inl ⟨by rfl, ?_⟩) ?_ ?_
      rotate_left
      ·intro w'
       go_simp
       with_reducible rfl
      rotate_left
      ·simp only [Act.put, List.setIfInBounds_toArray, List.set_cons_zero, List.set_cons_succ, i64_w, i32_w]
       rfl
      refine take_ (i := 26) (N := some 63) (v := ?_) (a' := ?_) (bm 51 134217727) rfl rfl (take_ofW HT_.out HW_.out (by kernel_rfl)) (fun _ _ _ h => h) (Or.inl ⟨by rfl, ?_⟩) hHeld ?_ ?_
      rotate_left
      ·rintro w' ⟨s0, s1, s2, s3, s4, s5, s6, s7, s8, s9, s10, s11⟩
       go_simp
       with_reducible rfl
      rotate_left
      ·simp only [Act.put, List.setIfInBounds_toArray, List.set_cons_zero, List.set_cons_succ, i64_w, i32_w]
       rfl
      refine take_ (i := 27) (N := some 64) (v := ?_) (a' := ?_) (bm 51 268435455) rfl rfl (take_ofW HT_.out HW_.out (by kernel_rfl)) (fun _ _ _ h => h) (Or.inl ⟨by rfl, ?_⟩) hHeld ?_ ?_
      rotate_left
      ·rintro w' ⟨s0, s1, s2, s3, s4, s5, s6, s7, s8, s9, s10, s11⟩
       go_simp
       with_reducible rfl
      rotate_left
      ·simp only [Act.put, List.setIfInBounds_toArray, List.set_cons_zero, List.set_cons_succ, i64_w, i32_w]
       rfl
      refine pure_ (i := 28) (N := some 65) (v := ?_) (a' := ?_) (bm 51 536870911) rfl rfl (any_of HT_.out (by kernel_rfl)) (fun _ _ _ h => h) (Or.inl ⟨by rfl, ?_⟩) ?_ ?_
      rotate_left
      ·intro w'
       go_simp
       with_reducible rfl
      rotate_left
      ·simp only [Act.put, List.setIfInBounds_toArray, List.set_cons_zero, List.set_cons_succ, i64_w, i32_w]
       rfl
      refine pure_ (i := 29) (N := some 66) (v := ?_) (a' := ?_) (bm 51 1073741823) rfl rfl (any_of HT_.out (by kernel_rfl)) (fun _ _ _ h => h) (Or.inl ⟨by rfl, ?_⟩) ?_ ?_
      rotate_left
      ·intro w'
       go_simp
       with_reducible rfl
      rotate_left
      ·simp only [Act.put, List.setIfInBounds_toArray, List.set_cons_zero, List.set_cons_succ, i64_w, i32_w]
       rfl
      refine pure_ (i := 30) (N := some 67) (v := ?_) (a' := ?_) (bm 51 2147483647) rfl rfl (any_of HT_.out (by kernel_rfl)) (fun _ _ _ h => h) (Or.inl ⟨by rfl, ?_⟩) ?_ ?_
      rotate_left
      ·intro w'
       go_simp
       with_reducible rfl
      rotate_left
      ·simp only [Act.put, List.setIfInBounds_toArray, List.set_cons_zero, List.set_cons_succ, i64_w, i32_w]
       rfl
      refine pure_ (i := 31) (N := some 68) (v := ?_) (a' := ?_) (bm 51 4294967295) rfl rfl (any_of HT_.out (by kernel_rfl)) (fun _ _ _ h => h) (Or.inl ⟨by rfl, ?_⟩) ?_ ?_
      rotate_left
      ·intro w'
       go_simp
       with_reducible rfl
      rotate_left
      ·simp only [Act.put, List.setIfInBounds_toArray, List.set_cons_zero, List.set_cons_succ, i64_w, i32_w]
       rfl
      refine pure_ (i := 32) (N := some 69) (v := ?_) (a' := ?_) (bm 51 8589934591) rfl rfl (any_of HT_.out (by kernel_rfl)) (fun _ _ _ h => h) (Or.inl ⟨by rfl, ?_⟩) ?_ ?_
      rotate_left
      ·intro w'
       go_simp
       with_reducible rfl
      rotate_left
      ·simp only [Act.put, List.setIfInBounds_toArray, List.set_cons_zero, List.set_cons_succ, i64_w, i32_w]
       rfl
      refine pure_ (i := 33) (N := some 70) (v := ?_) (a' := ?_) (bm 51 17179869183) rfl rfl (any_of HT_.out (by kernel_rfl)) (fun _ _ _ h => h) (Or.inl ⟨by rfl, ?_⟩) ?_ ?_
      rotate_left
      ·intro w'
       go_simp
       with_reducible rfl
      rotate_left
      ·simp only [Act.put, List.setIfInBounds_toArray, List.set_cons_zero, List.set_cons_succ, i64_w, i32_w]
       rfl
      refine pure_ (i := 34) (N := some 71) (v := ?_) (a' := ?_) (bm 51 34359738367) rfl rfl (any_of HT_.out (by kernel_rfl)) (fun _ _ _ h => h) (Or.inl ⟨by rfl, ?_⟩) ?_ ?_
      rotate_left
      ·intro w'
       go_simp
       with_reducible rfl
      rotate_left
      ·simp only [Act.put, List.setIfInBounds_toArray, List.set_cons_zero, List.set_cons_succ, i64_w, i32_w]
       rfl
      refine pure_ (i := 35) (N := some 72) (v := ?_) (a' := ?_) (bm 51 68719476735) rfl rfl (any_of HT_.out (by kernel_rfl)) (fun _ _ _ h => h) (Or.inl ⟨by rfl, ?_⟩) ?_ ?_
      rotate_left
      ·intro w'
       go_simp
       with_reducible rfl
      rotate_left
      ·simp only [Act.put, List.setIfInBounds_toArray, List.set_cons_zero, List.set_cons_succ, i64_w, i32_w]
       rfl
      refine pure_ (i := 36) (N := some 73) (v := undef) (a' := ?_) (bm 51 137438953471) rfl rfl (any_of HT_.out (by kernel_rfl)) (fun _ _ _ h => h) (Or.inr ⟨by rfl, rfl⟩) ?_ ?_
      rotate_left
      ·simp only [Act.put, List.setIfInBounds_toArray, List.set_cons_zero, List.set_cons_succ, i64_w, i32_w]
       rfl
      refine pure_ (i := 37) (N := some 74) (v := undef) (a' := ?_) (bm 51 274877906943) rfl rfl (any_of HT_.out (by kernel_rfl)) (fun _ _ _ h => h) (Or.inr ⟨by rfl, rfl⟩) ?_ ?_
      rotate_left
      ·simp only [Act.put, List.setIfInBounds_toArray, List.set_cons_zero, List.set_cons_succ, i64_w, i32_w]
       rfl
      refine pure_ (i := 38) (N := some 75) (v := undef) (a' := ?_) (bm 51 549755813887) rfl rfl (any_of HT_.out (by kernel_rfl)) (fun _ _ _ h => h) (Or.inr ⟨by rfl, rfl⟩) ?_ ?_
      rotate_left
      ·simp only [Act.put, List.setIfInBounds_toArray, List.set_cons_zero, List.set_cons_succ, i64_w, i32_w]
       rfl
      refine pure_ (i := 39) (N := some 76) (v := undef) (a' := ?_) (bm 51 1099511627775) rfl rfl (any_of HT_.out (by kernel_rfl)) (fun _ _ _ h => h) (Or.inr ⟨by rfl, rfl⟩) ?_ ?_
      rotate_left
      ·simp only [Act.put, List.setIfInBounds_toArray, List.set_cons_zero, List.set_cons_succ, i64_w, i32_w]
       rfl
      refine pure_ (i := 40) (N := some 77) (v := undef) (a' := ?_) (bm 51 2199023255551) rfl rfl (any_of HT_.out (by kernel_rfl)) (fun _ _ _ h => h) (Or.inr ⟨by rfl, rfl⟩) ?_ ?_
      rotate_left
      ·simp only [Act.put, List.setIfInBounds_toArray, List.set_cons_zero, List.set_cons_succ, i64_w, i32_w]
       rfl
      refine pure_ (i := 41) (N := some 78) (v := undef) (a' := ?_) (bm 51 4398046511103) rfl rfl (any_of HT_.out (by kernel_rfl)) (fun _ _ _ h => h) (Or.inr ⟨by rfl, rfl⟩) ?_ ?_
      rotate_left
      ·simp only [Act.put, List.setIfInBounds_toArray, List.set_cons_zero, List.set_cons_succ, i64_w, i32_w]
       rfl
      refine pure_ (i := 42) (N := some 79) (v := undef) (a' := ?_) (bm 51 8796093022207) rfl rfl (any_of HT_.out (by kernel_rfl)) (fun _ _ _ h => h) (Or.inr ⟨by rfl, rfl⟩) ?_ ?_
      rotate_left
      ·simp only [Act.put, List.setIfInBounds_toArray, List.set_cons_zero, List.set_cons_succ, i64_w, i32_w]
       rfl
      refine pure_ (i := 43) (N := some 80) (v := undef) (a' := ?_) (bm 51 17592186044415) rfl rfl (any_of HT_.out (by kernel_rfl)) (fun _ _ _ h => h) (Or.inr ⟨by rfl, rfl⟩) ?_ ?_
      rotate_left
      ·simp only [Act.put, List.setIfInBounds_toArray, List.set_cons_zero, List.set_cons_succ, i64_w, i32_w]
       rfl
      refine pure_ (i := 44) (N := some 81) (v := undef) (a' := ?_) (bm 51 35184372088831) rfl rfl (any_of HT_.out (by kernel_rfl)) (fun _ _ _ h => h) (Or.inr ⟨by rfl, rfl⟩) ?_ ?_
      rotate_left
      ·simp only [Act.put, List.setIfInBounds_toArray, List.set_cons_zero, List.set_cons_succ, i64_w, i32_w]
       rfl
      refine pure_ (i := 45) (N := some 82) (v := undef) (a' := ?_) (bm 51 70368744177663) rfl rfl (any_of HT_.out (by kernel_rfl)) (fun _ _ _ h => h) (Or.inr ⟨by rfl, rfl⟩) ?_ ?_
      rotate_left
      ·simp only [Act.put, List.setIfInBounds_toArray, List.set_cons_zero, List.set_cons_succ, i64_w, i32_w]
       rfl
      refine pure_ (i := 46) (N := some 83) (v := undef) (a' := ?_) (bm 51 140737488355327) rfl rfl (any_of HT_.out (by kernel_rfl)) (fun _ _ _ h => h) (Or.inr ⟨by rfl, rfl⟩) ?_ ?_
      rotate_left
      ·simp only [Act.put, List.setIfInBounds_toArray, List.set_cons_zero, List.set_cons_succ, i64_w, i32_w]
       rfl
      refine pure_ (i := 47) (N := some 84) (v := undef) (a' := ?_) (bm 51 281474976710655) rfl rfl (any_of HT_.out (by kernel_rfl)) (fun _ _ _ h => h) (Or.inr ⟨by rfl, rfl⟩) ?_ ?_
      rotate_left
      ·simp only [Act.put, List.setIfInBounds_toArray, List.set_cons_zero, List.set_cons_succ, i64_w, i32_w]
       rfl
      refine pure_ (i := 48) (N := some 85) (v := undef) (a' := ?_) (bm 51 562949953421311) rfl rfl (any_of HT_.out (by kernel_rfl)) (fun _ _ _ h => h) (Or.inr ⟨by rfl, rfl⟩) ?_ ?_
      rotate_left
      ·simp only [Act.put, List.setIfInBounds_toArray, List.set_cons_zero, List.set_cons_succ, i64_w, i32_w]
       rfl
      refine pure_ (i := 49) (N := some 86) (v := ?_) (a' := ?_) (bm 51 1125899906842623) rfl rfl (any_of HT_.out (by kernel_rfl)) (fun _ _ _ h => h) (Or.inl ⟨by rfl, ?_⟩) ?_ ?_
      rotate_left
      ·intro w'
       go_simp
       with_reducible rfl
      rotate_left
      ·simp only [Act.put, List.setIfInBounds_toArray, List.set_cons_zero, List.set_cons_succ, i64_w, i32_w]
       rfl
      refine pure_ (i := 50) (N := some 16) (v := ?_) (a' := ?_) (bm 51 2251799813685247) rfl rfl (any_of HT_.out (by kernel_rfl)) (fun _ _ _ h => h) (Or.inl ⟨by rfl, ?_⟩) ?_ ?_
      rotate_left
      ·intro w'
       go_simp
       with_reducible rfl
      rotate_left
      ·simp only [Act.put, List.setIfInBounds_toArray, List.set_cons_zero, List.set_cons_succ, i64_w, i32_w]
       rfl
      refine done_ (done_of HT_.out (by kernel_rfl)) ?_
      try go_wp2
      go_ret
      exact ⟨by first | rfl | (simp [errW_none, errW_some] <;> rfl) | (simp [*, errW_none, errW_some] <;> rfl), by first | exact HB.out | (repeat (first | exact HB.out | apply pw_below_drewN | apply below_drew1 | apply below_alloc))⟩
     rw [if_neg c22] at H
     have c22b0 : (t364 == t369 && (t365 == t370 && (t366 == t371))) = false := by simpa using c22
     (try (have c22b1 : decide (t364 = t369 && (t365 == t370 && (t366 == t371))) = false := by simpa using c22))
     (try (have c22b2 : (t364 == t369 && (t365 == t370 && (t366 == t371))) = false := by simpa using c22))
     (try (have c22b3 : ¬ (t364 = t369 && (t365 == t370 && (t366 == t371))) := by simpa using c22))
     clear c22
     obtain rfl := Option.some.inj H
     go_enter Try.func9, Try.ntmps9
     try go_wp2_with (first | ((with_reducible refine gate_dst (N := 8) rfl ?_); refine box_event ?hg (N := 8) ?hd (cs := #[.int .i64 a0_0, .int .i64 a0_1, .int .i64 a0_2]) (t := 26) ?hr ?_; (case hd => rfl); (case hg => rfl); (case hr => first | (go_simp; done) | (go_simp; rfl)); intro gb358 hg w94 hbox hb; have BK358 := Aside0.mk (hbox); have GE358 := Aside0.mk (bG hg (by first | exact HB.out | (repeat (first | exact HB.out | apply pw_below_drewN | apply below_drew1 | apply below_alloc)))); replace HB := Aside0.mk (below_step (by first | exact HB.out | (repeat (first | exact HB.out | apply pw_below_drewN | apply below_drew1 | apply below_alloc))) hb); clear hb hbox hg) | ((with_reducible refine gate_dst (N := 9) rfl ?_); refine box_event ?hg (N := 9) ?hd (cs := #[.int .i64 a1_0, .int .i64 a1_1, .int .i64 a1_2]) (t := 26) ?hr ?_; (case hd => rfl); (case hg => rfl); (case hr => first | (go_simp; done) | (go_simp; rfl)); intro gb359 hg w95 hbox hb; have BK359 := Aside0.mk (hbox); have GE359 := Aside0.mk (bG hg (by first | exact HB.out | (repeat (first | exact HB.out | apply pw_below_drewN | apply below_drew1 | apply below_alloc)))); have NB358_359 := cN hg BK358; have NB359_358 := cM hg BK358; replace BK358 := cB hb BK358; replace HB := Aside0.mk (below_step (by first | exact HB.out | (repeat (first | exact HB.out | apply pw_below_drewN | apply below_drew1 | apply below_alloc))) hb); clear hb hbox hg) | ((with_reducible refine gate_dst (N := 13) rfl ?_); refine box_event ?hg (N := 13) ?hd (cs := #[.int .i64 a5_0, .int .i64 a5_1, .int .i64 a5_2]) (t := 37) ?hr ?_; (case hd => rfl); (case hg => rfl); (case hr => first | (go_simp; done) | (go_simp; rfl)); intro gb360 hg w96 hbox hb; have BK360 := Aside0.mk (hbox); have GE360 := Aside0.mk (bG hg (by first | exact HB.out | (repeat (first | exact HB.out | apply pw_below_drewN | apply below_drew1 | apply below_alloc)))); have NB358_360 := cN hg BK358; have NB360_358 := cM hg BK358; have NB359_360 := cN hg BK359; have NB360_359 := cM hg BK359; replace BK358 := cB hb BK358; replace BK359 := cB hb BK359; replace HB := Aside0.mk (below_step (by first | exact HB.out | (repeat (first | exact HB.out | apply pw_below_drewN | apply below_drew1 | apply below_alloc))) hb); clear hb hbox hg) | ((with_reducible refine gate_dst (N := 14) rfl ?_); refine box_event ?hg (N := 14) ?hd (cs := #[.int .i64 a6_0, .int .i64 a6_1, .int .i64 a6_2]) (t := 37) ?hr ?_; (case hd => rfl); (case hg => rfl); (case hr => first | (go_simp; done) | (go_simp; rfl)); intro gb361 hg w97 hbox hb; have BK361 := Aside0.mk (hbox); have GE361 := Aside0.mk (bG hg (by first | exact HB.out | (repeat (first | exact HB.out | apply pw_below_drewN | apply below_drew1 | apply below_alloc)))); have NB358_361 := cN hg BK358; have NB361_358 := cM hg BK358; have NB359_361 := cN hg BK359; have NB361_359 := cM hg BK359; have NB360_361 := cN hg BK360; have NB361_360 := cM hg BK360; replace BK358 := cB hb BK358; replace BK359 := cB hb BK359; replace BK360 := cB hb BK360; replace HB := Aside0.mk (below_step (by first | exact HB.out | (repeat (first | exact HB.out | apply pw_below_drewN | apply below_drew1 | apply below_alloc))) hb); clear hb hbox hg) | ((with_reducible refine gate_dst (N := 15) rfl ?_); refine box_event ?hg (N := 15) ?hd (cs := #[.int .i64 a7_0, .int .i64 a7_1, .int .i64 a7_2]) (t := 37) ?hr ?_; (case hd => rfl); (case hg => rfl); (case hr => first | (go_simp; done) | (go_simp; rfl)); intro gb362 hg w98 hbox hb; have BK362 := Aside0.mk (hbox); have GE362 := Aside0.mk (bG hg (by first | exact HB.out | (repeat (first | exact HB.out | apply pw_below_drewN | apply below_drew1 | apply below_alloc)))); have NB358_362 := cN hg BK358; have NB362_358 := cM hg BK358; have NB359_362 := cN hg BK359; have NB362_359 := cM hg BK359; have NB360_362 := cN hg BK360; have NB362_360 := cM hg BK360; have NB361_362 := cN hg BK361; have NB362_361 := cM hg BK361; replace BK358 := cB hb BK358; replace BK359 := cB hb BK359; replace BK360 := cB hb BK360; replace BK361 := cB hb BK361; replace HB := Aside0.mk (below_step (by first | exact HB.out | (repeat (first | exact HB.out | apply pw_below_drewN | apply below_drew1 | apply below_alloc))) hb); clear hb hbox hg) | ((with_reducible refine gate_callee (f := 11) rfl ?_); refine goesL_ (some 21) rfl rfl Try.func11 (by kernel_rfl) rfl #[] rfl (by (try simp only [List.map_toArray, List.map_cons, List.map_nil]); first | done | rfl | (simp only [List.length_drop, List.length_take]; rfl)) ?_; (with_reducible refine (relievolaw19_alive.calls k  true _ A9.out).mono ?_); rintro e w99 ⟨rfl, hb⟩; refine ⟨_, rfl, ?_⟩; replace BK358 := cB hb BK358; replace BK359 := cB hb BK359; replace BK360 := cB hb BK360; replace BK361 := cB hb BK361; replace BK362 := cB hb BK362; replace HB := Aside0.mk (below_step (by first | exact HB.out | (repeat (first | exact HB.out | apply pw_below_drewN | apply below_drew1 | apply below_alloc))) hb); (try clear hb); (try clear hb2); (try clear hk); (try clear hi); obtain ⟨hcz100_0, hcz100_1, hcz100_2⟩ := cells3 BK358.out; obtain ⟨hcz101_0, hcz101_1, hcz101_2⟩ := cells3 BK359.out) | ((with_reducible refine gate_callee (f := 15) rfl ?_); refine goesL_ (some 27) rfl rfl Try.func15 (by kernel_rfl) rfl #[.agg #[.int .i64 a0_0, .int .i64 a0_1, .int .i64 a0_2], .agg #[.int .i64 a1_0, .int .i64 a1_1, .int .i64 a1_2], .int .i64 a2] rfl (by (try simp only [List.map_toArray, List.map_cons, List.map_nil]); first | done | rfl | (simp only [List.length_drop, List.length_take]; rfl)) ?_; (with_reducible refine (light_Refract.calls k a0_0 a0_1 a0_2 a1_0 a1_1 a1_2 a2 t364 t365 t366 t367 _ A11.out).mono ?_); rintro e w102 ⟨rfl, hb⟩; refine ⟨_, rfl, ?_⟩; replace BK358 := cB hb BK358; replace BK359 := cB hb BK359; replace BK360 := cB hb BK360; replace BK361 := cB hb BK361; replace BK362 := cB hb BK362; replace HB := Aside0.mk (below_step (by first | exact HB.out | (repeat (first | exact HB.out | apply pw_below_drewN | apply below_drew1 | apply below_alloc))) hb); (try clear hb); (try clear hb2); (try clear hk); (try clear hi)) | ((with_reducible refine gate_dst (N := 17) rfl ?_); refine box_event ?hg (N := 17) ?hd (cs := #[.int .i64 0, .int .i64 0, .int .i64 0]) (t := 26) ?hr ?_; (case hd => rfl); (case hg => rfl); (case hr => first | (go_simp; done) | (go_simp; rfl)); intro gb368 hg w103 hbox hb; have BK368 := Aside0.mk (hbox); have GE368 := Aside0.mk (bG hg (by first | exact HB.out | (repeat (first | exact HB.out | apply pw_below_drewN | apply below_drew1 | apply below_alloc)))); have NB358_368 := cN hg BK358; have NB368_358 := cM hg BK358; have NB359_368 := cN hg BK359; have NB368_359 := cM hg BK359; have NB360_368 := cN hg BK360; have NB368_360 := cM hg BK360; have NB361_368 := cN hg BK361; have NB368_361 := cM hg BK361; have NB362_368 := cN hg BK362; have NB368_362 := cM hg BK362; replace BK358 := cB hb BK358; replace BK359 := cB hb BK359; replace BK360 := cB hb BK360; replace BK361 := cB hb BK361; replace BK362 := cB hb BK362; replace HB := Aside0.mk (below_step (by first | exact HB.out | (repeat (first | exact HB.out | apply pw_below_drewN | apply below_drew1 | apply below_alloc))) hb); clear hb hbox hg; have hnb104 := NB368_358.out; have hnc104 := NB358_368.out; have hnb105 := NB368_359.out; have hnc105 := NB359_368.out; have hnb106 := NB368_360.out; have hnc106 := NB360_368.out; have hnb107 := NB368_361.out; have hnc107 := NB361_368.out; have hnb108 := NB368_362.out; have hnc108 := NB362_368.out; obtain ⟨hcz109_0, hcz109_1, hcz109_2⟩ := cells3 BK368.out; have hfz109_0 := blk_frozen BK368.out 0; have hfz109_1 := blk_frozen BK368.out 1; have hfz109_2 := blk_frozen BK368.out 2; obtain ⟨hcz110_0, hcz110_1, hcz110_2⟩ := cells3 BK358.out; obtain ⟨hcz111_0, hcz111_1, hcz111_2⟩ := cells3 BK359.out) | ((with_reducible refine gate_callee (f := 20) rfl ?_); refine goesL_ (some 34) rfl rfl Try.func20 (by kernel_rfl) rfl #[.agg #[.int .i64 a0_0, .int .i64 a0_1, .int .i64 a0_2], .agg #[.int .i64 a1_0, .int .i64 a1_1, .int .i64 a1_2], .int .i64 a2] rfl (by (try simp only [List.map_toArray, List.map_cons, List.map_nil]); first | done | rfl | (simp only [List.length_drop, List.length_take]; rfl)) ?_; (with_reducible refine (relievoref19_Refract.calls k a0_0 a0_1 a0_2 a1_0 a1_1 a1_2 a2 t369 t370 t371 t372 _ A12.out).mono ?_); rintro e w112 ⟨rfl, hb⟩; refine ⟨_, rfl, ?_⟩; replace BK358 := Aside0.mk (bB hb ((blk_far (blk_far (blk_far BK358.out NB358_368.out _) NB358_368.out _) NB358_368.out _))); replace BK359 := Aside0.mk (bB hb ((blk_far (blk_far (blk_far BK359.out NB359_368.out _) NB359_368.out _) NB359_368.out _))); replace BK360 := Aside0.mk (bB hb ((blk_far (blk_far (blk_far BK360.out NB360_368.out _) NB360_368.out _) NB360_368.out _))); replace BK361 := Aside0.mk (bB hb ((blk_far (blk_far (blk_far BK361.out NB361_368.out _) NB361_368.out _) NB361_368.out _))); replace BK362 := Aside0.mk (bB hb ((blk_far (blk_far (blk_far BK362.out NB362_368.out _) NB362_368.out _) NB362_368.out _))); replace BK368 := Aside0.mk (bB hb ((blk_put (cs' := #[.int .i64 t364, .int .i64 t365, .int .i64 t366]) (blk_put (blk_put BK368.out 0 _ rfl) 1 _ rfl) 2 _ rfl))); replace HB := Aside0.mk (below_step (by first | exact (below_set (below_set (below_set HB.out GE368.out) GE368.out) GE368.out) | (repeat (first | exact (below_set (below_set (below_set HB.out GE368.out) GE368.out) GE368.out) | apply pw_below_drewN | apply below_drew1 | apply below_alloc))) hb); (try clear hb); (try clear hb2); (try clear hk); (try clear hi)) | ((with_reducible refine gate_dst (N := 19) rfl ?_); refine box_event ?hg (N := 19) ?hd (cs := #[.int .i64 0, .int .i64 0, .int .i64 0]) (t := 26) ?hr ?_; (case hd => rfl); (case hg => rfl); (case hr => first | (go_simp; done) | (go_simp; rfl)); intro gb373 hg w113 hbox hb; have BK373 := Aside0.mk (hbox); have GE373 := Aside0.mk (bG hg (by first | exact HB.out | (repeat (first | exact HB.out | apply pw_below_drewN | apply below_drew1 | apply below_alloc)))); have NB358_373 := cN hg BK358; have NB373_358 := cM hg BK358; have NB359_373 := cN hg BK359; have NB373_359 := cM hg BK359; have NB360_373 := cN hg BK360; have NB373_360 := cM hg BK360; have NB361_373 := cN hg BK361; have NB373_361 := cM hg BK361; have NB362_373 := cN hg BK362; have NB373_362 := cM hg BK362; have NB368_373 := cN hg BK368; have NB373_368 := cM hg BK368; replace BK358 := cB hb BK358; replace BK359 := cB hb BK359; replace BK360 := cB hb BK360; replace BK361 := cB hb BK361; replace BK362 := cB hb BK362; replace BK368 := cB hb BK368; replace HB := Aside0.mk (below_step (by first | exact HB.out | (repeat (first | exact HB.out | apply pw_below_drewN | apply below_drew1 | apply below_alloc))) hb); clear hb hbox hg; have hnb114 := NB373_358.out; have hnc114 := NB358_373.out; have hnb115 := NB373_359.out; have hnc115 := NB359_373.out; have hnb116 := NB373_360.out; have hnc116 := NB360_373.out; have hnb117 := NB373_361.out; have hnc117 := NB361_373.out; have hnb118 := NB373_362.out; have hnc118 := NB362_373.out; have hnb119 := NB373_368.out; have hnc119 := NB368_373.out; obtain ⟨hcz120_0, hcz120_1, hcz120_2⟩ := cells3 BK373.out; have hfz120_0 := blk_frozen BK373.out 0; have hfz120_1 := blk_frozen BK373.out 1; have hfz120_2 := blk_frozen BK373.out 2))
     generalize hw_ : (((w113.setCell ⟨gb373, 0, none⟩ (.int .i64 t369)).setCell ⟨gb373, 1, none⟩ (.int .i64 t370)).setCell ⟨gb373, 2, none⟩ (.int .i64 t371)) = w121
     replace BK358 := Aside0.mk (bF hw_ (blk_far (blk_far (blk_far BK358.out NB358_373.out _) NB358_373.out _) NB358_373.out _))
     replace BK359 := Aside0.mk (bF hw_ (blk_far (blk_far (blk_far BK359.out NB359_373.out _) NB359_373.out _) NB359_373.out _))
     replace BK360 := Aside0.mk (bF hw_ (blk_far (blk_far (blk_far BK360.out NB360_373.out _) NB360_373.out _) NB360_373.out _))
     replace BK361 := Aside0.mk (bF hw_ (blk_far (blk_far (blk_far BK361.out NB361_373.out _) NB361_373.out _) NB361_373.out _))
     replace BK362 := Aside0.mk (bF hw_ (blk_far (blk_far (blk_far BK362.out NB362_373.out _) NB362_373.out _) NB362_373.out _))
     replace BK368 := Aside0.mk (bF hw_ (blk_far (blk_far (blk_far BK368.out NB368_373.out _) NB368_373.out _) NB368_373.out _))
     replace BK373 := Aside0.mk (bF hw_ (blk_put (cs' := #[.int .i64 t369, .int .i64 t370, .int .i64 t371]) (blk_put (blk_put BK373.out 0 _ rfl) 1 _ rfl) 2 _ rfl))
     replace HB := Aside0.mk (bH hw_ (by first | exact (below_set (below_set (below_set HB.out GE373.out) GE373.out) GE373.out) | (repeat (first | exact (below_set (below_set (below_set HB.out GE373.out) GE373.out) GE373.out) | apply pw_below_drewN | apply below_drew1 | apply below_alloc))))
     clear hw_
     replace BK358 := Aside0.mk (blk_drew BK358.out)
     replace BK359 := Aside0.mk (blk_drew BK359.out)
     replace BK360 := Aside0.mk (blk_drew BK360.out)
     replace BK361 := Aside0.mk (blk_drew BK361.out)
     replace BK362 := Aside0.mk (blk_drew BK362.out)
     replace BK368 := Aside0.mk (blk_drew BK368.out)
     replace BK373 := Aside0.mk (blk_drew BK373.out)
     replace HB := Aside0.mk (below_drew1 HB.out)
     refine start_ (n := 51) (S := fun w' => w'.cell? ⟨gb358, 0, none⟩ = some (.int .i64 a0_0) ∧ w'.cell? ⟨gb358, 1, none⟩ = some (.int .i64 a0_1) ∧ w'.cell? ⟨gb358, 2, none⟩ = some (.int .i64 a0_2) ∧ w'.cell? ⟨gb359, 0, none⟩ = some (.int .i64 a1_0) ∧ w'.cell? ⟨gb359, 1, none⟩ = some (.int .i64 a1_1) ∧ w'.cell? ⟨gb359, 2, none⟩ = some (.int .i64 a1_2) ∧ w'.cell? ⟨gb368, 0, none⟩ = some (.int .i64 t364) ∧ w'.cell? ⟨gb368, 1, none⟩ = some (.int .i64 t365) ∧ w'.cell? ⟨gb368, 2, none⟩ = some (.int .i64 t366) ∧ w'.cell? ⟨gb373, 0, none⟩ = some (.int .i64 t369) ∧ w'.cell? ⟨gb373, 1, none⟩ = some (.int .i64 t370) ∧ w'.cell? ⟨gb373, 2, none⟩ = some (.int .i64 t371)) (ds := []) #[false, false, false, false, false, false, false, false, false, false, false, false, false, false, false, false, false, false, false, false, false, false, false, false, false, false, false, false, false, false, false, false, false, false, false, false, false, false, false, false, false, false, false, false, false, false, false, false, false, false, false] (by kernel_rfl) rfl rfl ⟨(blk_cell BK358.out 0).trans rfl, (blk_cell BK358.out 1).trans rfl, (blk_cell BK358.out 2).trans rfl, (blk_cell BK359.out 0).trans rfl, (blk_cell BK359.out 1).trans rfl, (blk_cell BK359.out 2).trans rfl, (blk_cell BK368.out 0).trans rfl, (blk_cell BK368.out 1).trans rfl, (blk_cell BK368.out 2).trans rfl, (blk_cell BK373.out 0).trans rfl, (blk_cell BK373.out 1).trans rfl, (blk_cell BK373.out 2).trans rfl⟩ (fun hHeld => ?_); refine with_tabW relievolaw19_LightAnswers.tab5 relievolaw19_LightAnswers.bits5 (fun HT_ HW_ => ?_)
     generalize w121.drew = w122 at BK358 BK359 BK360 BK361 BK362 BK368 BK373 HB hHeld ⊢
     refine take_ (i := 0) (N := some 37) (v := ?_) (a' := ?_) (bm 51 1) rfl rfl (take_ofW HT_.out HW_.out (by kernel_rfl)) (fun _ _ _ h => h) (Or.inl ⟨by rfl, ?_⟩) hHeld ?_ ?_
     rotate_left
     ·rintro w' ⟨s0, s1, s2, s3, s4, s5, s6, s7, s8, s9, s10, s11⟩
      go_simp
      with_reducible rfl
     rotate_left
     ·simp only [Act.put, List.setIfInBounds_toArray, List.set_cons_zero, List.set_cons_succ, i64_w, i32_w]
      rfl
     refine take_ (i := 1) (N := some 38) (v := ?_) (a' := ?_) (bm 51 3) rfl rfl (take_ofW HT_.out HW_.out (by kernel_rfl)) (fun _ _ _ h => h) (Or.inl ⟨by rfl, ?_⟩) hHeld ?_ ?_
     rotate_left
     ·rintro w' ⟨s0, s1, s2, s3, s4, s5, s6, s7, s8, s9, s10, s11⟩
      go_simp
      with_reducible rfl
     rotate_left
     ·simp only [Act.put, List.setIfInBounds_toArray, List.set_cons_zero, List.set_cons_succ, i64_w, i32_w]
      rfl
     refine take_ (i := 3) (N := some 40) (v := ?_) (a' := ?_) (bm 51 11) rfl rfl (take_ofW HT_.out HW_.out (by kernel_rfl)) (fun _ _ _ h => h) (Or.inl ⟨by rfl, ?_⟩) hHeld ?_ ?_
     rotate_left
     ·rintro w' ⟨s0, s1, s2, s3, s4, s5, s6, s7, s8, s9, s10, s11⟩
      go_simp
      with_reducible rfl
     rotate_left
     ·simp only [Act.put, List.setIfInBounds_toArray, List.set_cons_zero, List.set_cons_succ, i64_w, i32_w]
      rfl
     refine take_ (i := 4) (N := some 41) (v := ?_) (a' := ?_) (bm 51 27) rfl rfl (take_ofW HT_.out HW_.out (by kernel_rfl)) (fun _ _ _ h => h) (Or.inl ⟨by rfl, ?_⟩) hHeld ?_ ?_
     rotate_left
     ·rintro w' ⟨s0, s1, s2, s3, s4, s5, s6, s7, s8, s9, s10, s11⟩
      go_simp
      with_reducible rfl
     rotate_left
     ·simp only [Act.put, List.setIfInBounds_toArray, List.set_cons_zero, List.set_cons_succ, i64_w, i32_w]
      rfl
     refine one_ (i := 2) (N := some 39) (bm 51 31) rfl rfl (one_of HT_.out (by kernel_rfl)) (by decide) (fun K hK => ?_)
     refine goes_ Try.func17 (by kernel_rfl) rfl #[.agg #[.int .i64 a0_0, .int .i64 a0_1, .int .i64 a0_2], .agg #[.int .i64 a1_0, .int .i64 a1_1, .int .i64 a1_2]] (by rfl) rfl rfl (by (try simp only [List.map_toArray, List.map_cons, List.map_nil]); first | done | rfl | (simp only [List.length_drop, List.length_take]; rfl)) ?_
     with_reducible refine (light_Cos.calls k a0_0 a0_1 a0_2 a1_0 a1_1 a1_2 t374 _ A13.out).mono ?_
     rintro e w123 ⟨rfl, hb⟩
     refine ⟨_, rfl, ?_⟩
     replace BK358 := cB hb BK358
     replace BK359 := cB hb BK359
     replace BK360 := cB hb BK360
     replace BK361 := cB hb BK361
     replace BK362 := cB hb BK362
     replace BK368 := cB hb BK368
     replace BK373 := cB hb BK373
     replace HB := Aside0.mk (below_step (by first | exact HB.out | (repeat (first | exact HB.out | apply pw_below_drewN | apply below_drew1 | apply below_alloc))) hb)
     (try clear hb)
     (try clear hb2)
     (try clear hk)
     (try clear hi)
     refine hK.out _ _ ⟨(blk_cell BK358.out 0).trans rfl, (blk_cell BK358.out 1).trans rfl, (blk_cell BK358.out 2).trans rfl, (blk_cell BK359.out 0).trans rfl, (blk_cell BK359.out 1).trans rfl, (blk_cell BK359.out 2).trans rfl, (blk_cell BK368.out 0).trans rfl, (blk_cell BK368.out 1).trans rfl, (blk_cell BK368.out 2).trans rfl, (blk_cell BK373.out 0).trans rfl, (blk_cell BK373.out 1).trans rfl, (blk_cell BK373.out 2).trans rfl⟩ (fun hHeld => ?_)
     clear hK K
     refine norm_ (a' := ?_) ?_ ?_
     rotate_left
     ·show Act.put _ (some 39) _ = _
      simp only [Act.put, List.setIfInBounds_toArray, List.set_cons_zero, List.set_cons_succ, i64_w, i32_w]
      rfl
     refine one_ (i := 5) (N := some 42) (bm 51 63) rfl rfl (one_of HT_.out (by kernel_rfl)) (by decide) (fun K hK => ?_)
     refine goes_ Try.func21 (by kernel_rfl) rfl #[.agg #[.int .i64 a0_0, .int .i64 a0_1, .int .i64 a0_2], .agg #[.int .i64 a1_0, .int .i64 a1_1, .int .i64 a1_2]] (by rfl) rfl rfl (by (try simp only [List.map_toArray, List.map_cons, List.map_nil]); first | done | rfl | (simp only [List.length_drop, List.length_take]; rfl)) ?_
     with_reducible refine (relievoref19_Cos.calls k a0_0 a0_1 a0_2 a1_0 a1_1 a1_2 t375 _ A14.out).mono ?_
     rintro e w124 ⟨rfl, hb⟩
     refine ⟨_, rfl, ?_⟩
     replace BK358 := cB hb BK358
     replace BK359 := cB hb BK359
     replace BK360 := cB hb BK360
     replace BK361 := cB hb BK361
     replace BK362 := cB hb BK362
     replace BK368 := cB hb BK368
     replace BK373 := cB hb BK373
     replace HB := Aside0.mk (below_step (by first | exact HB.out | (repeat (first | exact HB.out | apply pw_below_drewN | apply below_drew1 | apply below_alloc))) hb)
     (try clear hb)
     (try clear hb2)
     (try clear hk)
     (try clear hi)
     refine hK.out _ _ ⟨(blk_cell BK358.out 0).trans rfl, (blk_cell BK358.out 1).trans rfl, (blk_cell BK358.out 2).trans rfl, (blk_cell BK359.out 0).trans rfl, (blk_cell BK359.out 1).trans rfl, (blk_cell BK359.out 2).trans rfl, (blk_cell BK368.out 0).trans rfl, (blk_cell BK368.out 1).trans rfl, (blk_cell BK368.out 2).trans rfl, (blk_cell BK373.out 0).trans rfl, (blk_cell BK373.out 1).trans rfl, (blk_cell BK373.out 2).trans rfl⟩ (fun hHeld => ?_)
     clear hK K
     refine norm_ (a' := ?_) ?_ ?_
     rotate_left
     ·show Act.put _ (some 42) _ = _
      simp only [Act.put, List.setIfInBounds_toArray, List.set_cons_zero, List.set_cons_succ, i64_w, i32_w]
      rfl
     refine pure_ (i := 6) (N := some 43) (v := ?_) (a' := ?_) (bm 51 127) rfl rfl (any_of HT_.out (by kernel_rfl)) (fun _ _ _ h => h) (Or.inl ⟨by rfl, ?_⟩) ?_ ?_
     rotate_left
     ·intro w'
      go_simp
      with_reducible rfl
     rotate_left
     ·simp only [Act.put, List.setIfInBounds_toArray, List.set_cons_zero, List.set_cons_succ, i64_w, i32_w]
      rfl
     refine pure_ (i := 7) (N := some 44) (v := ?_) (a' := ?_) (bm 51 255) rfl rfl (any_of HT_.out (by kernel_rfl)) (fun _ _ _ h => h) (Or.inl ⟨by rfl, ?_⟩) ?_ ?_
     rotate_left
     ·intro w'
      go_simp
      with_reducible rfl
     rotate_left
     ·simp only [Act.put, List.setIfInBounds_toArray, List.set_cons_zero, List.set_cons_succ, i64_w, i32_w]
      rfl
     refine pure_ (i := 8) (N := some 45) (v := ?_) (a' := ?_) (bm 51 511) rfl rfl (any_of HT_.out (by kernel_rfl)) (fun _ _ _ h => h) (Or.inl ⟨by rfl, ?_⟩) ?_ ?_
     rotate_left
     ·intro w'
      go_simp
      with_reducible rfl
     rotate_left
     ·simp only [Act.put, List.setIfInBounds_toArray, List.set_cons_zero, List.set_cons_succ, i64_w, i32_w]
      rfl
     refine pure_ (i := 9) (N := some 46) (v := ?_) (a' := ?_) (bm 51 1023) rfl rfl (any_of HT_.out (by kernel_rfl)) (fun _ _ _ h => h) (Or.inl ⟨by rfl, ?_⟩) ?_ ?_
     rotate_left
     ·intro w'
      go_simp
      with_reducible rfl
     rotate_left
     ·simp only [Act.put, List.setIfInBounds_toArray, List.set_cons_zero, List.set_cons_succ, i64_w, i32_w]
      rfl
     refine pure_ (i := 11) (N := some 48) (v := ?_) (a' := ?_) (bm 51 3071) rfl rfl (any_of HT_.out (by kernel_rfl)) (fun _ _ _ h => h) (Or.inl ⟨by rfl, ?_⟩) ?_ ?_
     rotate_left
     ·intro w'
      go_simp
      with_reducible rfl
     rotate_left
     ·simp only [Act.put, List.setIfInBounds_toArray, List.set_cons_zero, List.set_cons_succ, i64_w, i32_w]
      rfl
     refine pure_ (i := 12) (N := some 49) (v := ?_) (a' := ?_) (bm 51 7167) rfl rfl (any_of HT_.out (by kernel_rfl)) (fun _ _ _ h => h) (Or.inl ⟨by rfl, ?_⟩) ?_ ?_
     rotate_left
     ·intro w'
      go_simp
      with_reducible rfl
     rotate_left
     ·simp only [Act.put, List.setIfInBounds_toArray, List.set_cons_zero, List.set_cons_succ, i64_w, i32_w]
      rfl
     refine one_ (i := 10) (N := some 47) (bm 51 8191) rfl rfl (one_of HT_.out (by kernel_rfl)) (by decide) (fun K hK => ?_)
     refine goes_ Try.func12 (by kernel_rfl) rfl #[.int .i64 a3, .int .i64 a4] (by rfl) rfl rfl (by (try simp only [List.map_toArray, List.map_cons, List.map_nil]); first | done | rfl | (simp only [List.length_drop, List.length_take]; rfl)) ?_
     with_reducible refine (light_Power.calls k a3 a4 t376 _ A16.out).mono ?_
     rintro e w' ⟨rfl, ⟨nd, rfl⟩⟩
     refine ⟨_, rfl, ?_⟩
     refine hK.out _ _ ⟨(blk_cell BK358.out 0).trans rfl, (blk_cell BK358.out 1).trans rfl, (blk_cell BK358.out 2).trans rfl, (blk_cell BK359.out 0).trans rfl, (blk_cell BK359.out 1).trans rfl, (blk_cell BK359.out 2).trans rfl, (blk_cell BK368.out 0).trans rfl, (blk_cell BK368.out 1).trans rfl, (blk_cell BK368.out 2).trans rfl, (blk_cell BK373.out 0).trans rfl, (blk_cell BK373.out 1).trans rfl, (blk_cell BK373.out 2).trans rfl⟩ (fun hHeld => ?_)
     clear hK K
     refine norm_ (a' := ?_) ?_ ?_
     rotate_left
     ·show Act.put _ (some 47) _ = _
      simp only [Act.put, List.setIfInBounds_toArray, List.set_cons_zero, List.set_cons_succ, i64_w, i32_w]
      rfl
     refine one_ (i := 13) (N := some 50) (bm 51 16383) rfl rfl (one_of HT_.out (by kernel_rfl)) (by decide) (fun K hK => ?_)
     refine goes_ Try.func22 (by kernel_rfl) rfl #[.int .i64 a3, .int .i64 a4] (by rfl) rfl rfl (by (try simp only [List.map_toArray, List.map_cons, List.map_nil]); first | done | rfl | (simp only [List.length_drop, List.length_take]; rfl)) ?_
     with_reducible refine (relievoref19_Power.calls k a3 a4 t377 _ A17.out).mono ?_
     rintro e w' ⟨rfl, ⟨nd, rfl⟩⟩
     refine ⟨_, rfl, ?_⟩
     refine hK.out _ _ ⟨(blk_cell BK358.out 0).trans rfl, (blk_cell BK358.out 1).trans rfl, (blk_cell BK358.out 2).trans rfl, (blk_cell BK359.out 0).trans rfl, (blk_cell BK359.out 1).trans rfl, (blk_cell BK359.out 2).trans rfl, (blk_cell BK368.out 0).trans rfl, (blk_cell BK368.out 1).trans rfl, (blk_cell BK368.out 2).trans rfl, (blk_cell BK373.out 0).trans rfl, (blk_cell BK373.out 1).trans rfl, (blk_cell BK373.out 2).trans rfl⟩ (fun hHeld => ?_)
     clear hK K
     refine norm_ (a' := ?_) ?_ ?_
     rotate_left
     ·show Act.put _ (some 50) _ = _
      simp only [Act.put, List.setIfInBounds_toArray, List.set_cons_zero, List.set_cons_succ, i64_w, i32_w]
      rfl
     refine pure_ (i := 14) (N := some 51) (v := ?_) (a' := ?_) (bm 51 32767) rfl rfl (any_of HT_.out (by kernel_rfl)) (fun _ _ _ h => h) (Or.inl ⟨by rfl, ?_⟩) ?_ ?_
     rotate_left
     ·intro w'
      go_simp
      with_reducible rfl
     rotate_left
     ·simp only [Act.put, List.setIfInBounds_toArray, List.set_cons_zero, List.set_cons_succ, i64_w, i32_w]
      rfl
     refine pure_ (i := 15) (N := some 52) (v := ?_) (a' := ?_) (bm 51 65535) rfl rfl (any_of HT_.out (by kernel_rfl)) (fun _ _ _ h => h) (Or.inl ⟨by rfl, ?_⟩) ?_ ?_
     rotate_left
     ·intro w'
      go_simp
      with_reducible rfl
     rotate_left
     ·simp only [Act.put, List.setIfInBounds_toArray, List.set_cons_zero, List.set_cons_succ, i64_w, i32_w]
      rfl
     refine pure_ (i := 16) (N := some 53) (v := ?_) (a' := ?_) (bm 51 131071) rfl rfl (any_of HT_.out (by kernel_rfl)) (fun _ _ _ h => h) (Or.inl ⟨by rfl, ?_⟩) ?_ ?_
     rotate_left
     ·intro w'
      go_simp
      with_reducible rfl
     rotate_left
     ·simp only [Act.put, List.setIfInBounds_toArray, List.set_cons_zero, List.set_cons_succ, i64_w, i32_w]
      rfl
     refine take_ (i := 17) (N := some 54) (v := ?_) (a' := ?_) (bm 51 262143) rfl rfl (take_ofW HT_.out HW_.out (by kernel_rfl)) (fun _ _ _ h => h) (Or.inl ⟨by rfl, ?_⟩) hHeld ?_ ?_
     rotate_left
     ·rintro w' ⟨s0, s1, s2, s3, s4, s5, s6, s7, s8, s9, s10, s11⟩
      go_simp
      with_reducible rfl
     rotate_left
     ·simp only [Act.put, List.setIfInBounds_toArray, List.set_cons_zero, List.set_cons_succ, i64_w, i32_w]
      rfl
     refine take_ (i := 18) (N := some 55) (v := ?_) (a' := ?_) (bm 51 524287) rfl rfl (take_ofW HT_.out HW_.out (by kernel_rfl)) (fun _ _ _ h => h) (Or.inl ⟨by rfl, ?_⟩) hHeld ?_ ?_
     rotate_left
     ·rintro w' ⟨s0, s1, s2, s3, s4, s5, s6, s7, s8, s9, s10, s11⟩
      go_simp
      with_reducible rfl
     rotate_left
     ·simp only [Act.put, List.setIfInBounds_toArray, List.set_cons_zero, List.set_cons_succ, i64_w, i32_w]
      rfl
     refine take_ (i := 20) (N := some 57) (v := ?_) (a' := ?_) (bm 51 1572863) rfl rfl (take_ofW HT_.out HW_.out (by kernel_rfl)) (fun _ _ _ h => h) (Or.inl ⟨by rfl, ?_⟩) hHeld ?_ ?_
     rotate_left
     ·rintro w' ⟨s0, s1, s2, s3, s4, s5, s6, s7, s8, s9, s10, s11⟩
      go_simp
      with_reducible rfl
     rotate_left
     ·simp only [Act.put, List.setIfInBounds_toArray, List.set_cons_zero, List.set_cons_succ, i64_w, i32_w]
      rfl
     refine take_ (i := 21) (N := some 58) (v := ?_) (a' := ?_) (bm 51 3670015) rfl rfl (take_ofW HT_.out HW_.out (by kernel_rfl)) (fun _ _ _ h => h) (Or.inl ⟨by rfl, ?_⟩) hHeld ?_ ?_
     rotate_left
     ·rintro w' ⟨s0, s1, s2, s3, s4, s5, s6, s7, s8, s9, s10, s11⟩
      go_simp
      with_reducible rfl
     rotate_left
     ·simp only [Act.put, List.setIfInBounds_toArray, List.set_cons_zero, List.set_cons_succ, i64_w, i32_w]
      rfl
     refine one_ (i := 19) (N := some 56) (bm 51 4194303) rfl rfl (one_of HT_.out (by kernel_rfl)) (by decide) (fun K hK => ?_)
     refine goes_ Try.func14 (by kernel_rfl) rfl #[.agg #[.int .i64 a0_0, .int .i64 a0_1, .int .i64 a0_2], .agg #[.int .i64 a1_0, .int .i64 a1_1, .int .i64 a1_2]] (by rfl) rfl rfl (by (try simp only [List.map_toArray, List.map_cons, List.map_nil]); first | done | rfl | (simp only [List.length_drop, List.length_take]; rfl)) ?_
     with_reducible refine (light_Reflect.calls k a0_0 a0_1 a0_2 a1_0 a1_1 a1_2 t378 t379 t380 _ A19.out).mono ?_
     rintro e w125 ⟨rfl, hb⟩
     refine ⟨_, rfl, ?_⟩
     replace BK358 := cB hb BK358
     replace BK359 := cB hb BK359
     replace BK360 := cB hb BK360
     replace BK361 := cB hb BK361
     replace BK362 := cB hb BK362
     replace BK368 := cB hb BK368
     replace BK373 := cB hb BK373
     replace HB := Aside0.mk (below_step (by first | exact HB.out | (repeat (first | exact HB.out | apply pw_below_drewN | apply below_drew1 | apply below_alloc))) hb)
     (try clear hb)
     (try clear hb2)
     (try clear hk)
     (try clear hi)
     refine hK.out _ _ ⟨(blk_cell BK358.out 0).trans rfl, (blk_cell BK358.out 1).trans rfl, (blk_cell BK358.out 2).trans rfl, (blk_cell BK359.out 0).trans rfl, (blk_cell BK359.out 1).trans rfl, (blk_cell BK359.out 2).trans rfl, (blk_cell BK368.out 0).trans rfl, (blk_cell BK368.out 1).trans rfl, (blk_cell BK368.out 2).trans rfl, (blk_cell BK373.out 0).trans rfl, (blk_cell BK373.out 1).trans rfl, (blk_cell BK373.out 2).trans rfl⟩ (fun hHeld => ?_)
     clear hK K
     refine norm_ (a' := ?_) ?_ ?_
     rotate_left
     ·show Act.put _ (some 56) _ = _
      simp only [Act.put, List.setIfInBounds_toArray, List.set_cons_zero, List.set_cons_succ, i64_w, i32_w]
      rfl
     refine one_ (i := 22) (N := some 59) (bm 51 8388607) rfl rfl (one_of HT_.out (by kernel_rfl)) (by decide) (fun K hK => ?_)
     refine goes_ Try.func23 (by kernel_rfl) rfl #[.agg #[.int .i64 a0_0, .int .i64 a0_1, .int .i64 a0_2], .agg #[.int .i64 a1_0, .int .i64 a1_1, .int .i64 a1_2]] (by rfl) rfl rfl (by (try simp only [List.map_toArray, List.map_cons, List.map_nil]); first | done | rfl | (simp only [List.length_drop, List.length_take]; rfl)) ?_
     with_reducible refine (relievoref19_Reflect.calls k a0_0 a0_1 a0_2 a1_0 a1_1 a1_2 t381 t382 t383 _ A20.out).mono ?_
     rintro e w126 ⟨rfl, hb⟩
     refine ⟨_, rfl, ?_⟩
     replace BK358 := cB hb BK358
     replace BK359 := cB hb BK359
     replace BK360 := cB hb BK360
     replace BK361 := cB hb BK361
     replace BK362 := cB hb BK362
     replace BK368 := cB hb BK368
     replace BK373 := cB hb BK373
     replace HB := Aside0.mk (below_step (by first | exact HB.out | (repeat (first | exact HB.out | apply pw_below_drewN | apply below_drew1 | apply below_alloc))) hb)
     (try clear hb)
     (try clear hb2)
     (try clear hk)
     (try clear hi)
     refine hK.out _ _ ⟨(blk_cell BK358.out 0).trans rfl, (blk_cell BK358.out 1).trans rfl, (blk_cell BK358.out 2).trans rfl, (blk_cell BK359.out 0).trans rfl, (blk_cell BK359.out 1).trans rfl, (blk_cell BK359.out 2).trans rfl, (blk_cell BK368.out 0).trans rfl, (blk_cell BK368.out 1).trans rfl, (blk_cell BK368.out 2).trans rfl, (blk_cell BK373.out 0).trans rfl, (blk_cell BK373.out 1).trans rfl, (blk_cell BK373.out 2).trans rfl⟩ (fun hHeld => ?_)
     clear hK K
     refine norm_ (a' := ?_) ?_ ?_
     rotate_left
     ·show Act.put _ (some 59) _ = _
      simp only [Act.put, List.setIfInBounds_toArray, List.set_cons_zero, List.set_cons_succ, i64_w, i32_w]
      rfl
     refine pure_ (i := 23) (N := some 60) (v := ?_) (a' := ?_) (bm 51 16777215) rfl rfl (any_of HT_.out (by kernel_rfl)) (fun _ _ _ h => h) (Or.inl ⟨by rfl, ?_⟩) ?_ ?_
     rotate_left
     ·intro w'
      go_simp
      with_reducible rfl
     rotate_left
     ·simp only [Act.put, List.setIfInBounds_toArray, List.set_cons_zero, List.set_cons_succ, i64_w, i32_w]
      rfl
     refine pure_ (i := 24) (N := some 61) (v := ?_) (a' := ?_) (bm 51 33554431) rfl rfl (any_of HT_.out (by kernel_rfl)) (fun _ _ _ h => h) (Or.inl ⟨by rfl, ?_⟩) ?_ ?_
     rotate_left
     ·intro w'
      go_simp
      with_reducible rfl
     rotate_left
     ·simp only [Act.put, List.setIfInBounds_toArray, List.set_cons_zero, List.set_cons_succ, i64_w, i32_w]
      rfl
     refine pure_ (i := 25) (N := some 62) (v := ?_) (a' := ?_) (bm 51 67108863) rfl rfl (any_of HT_.out (by kernel_rfl)) (fun _ _ _ h => h) (Or.inl ⟨by rfl, ?_⟩) ?_ ?_
     rotate_left
     ·intro w'
      go_simp
      with_reducible rfl
     rotate_left
     ·simp only [Act.put, List.setIfInBounds_toArray, List.set_cons_zero, List.set_cons_succ, i64_w, i32_w]
      rfl
     refine take_ (i := 26) (N := some 63) (v := ?_) (a' := ?_) (bm 51 134217727) rfl rfl (take_ofW HT_.out HW_.out (by kernel_rfl)) (fun _ _ _ h => h) (Or.inl ⟨by rfl, ?_⟩) hHeld ?_ ?_
     rotate_left
     ·rintro w' ⟨s0, s1, s2, s3, s4, s5, s6, s7, s8, s9, s10, s11⟩
      go_simp
      with_reducible rfl
     rotate_left
     ·simp only [Act.put, List.setIfInBounds_toArray, List.set_cons_zero, List.set_cons_succ, i64_w, i32_w]
      rfl
     refine take_ (i := 27) (N := some 64) (v := ?_) (a' := ?_) (bm 51 268435455) rfl rfl (take_ofW HT_.out HW_.out (by kernel_rfl)) (fun _ _ _ h => h) (Or.inl ⟨by rfl, ?_⟩) hHeld ?_ ?_
     rotate_left
     ·rintro w' ⟨s0, s1, s2, s3, s4, s5, s6, s7, s8, s9, s10, s11⟩
      go_simp
      with_reducible rfl
     rotate_left
     ·simp only [Act.put, List.setIfInBounds_toArray, List.set_cons_zero, List.set_cons_succ, i64_w, i32_w]
      rfl
     refine pure_ (i := 28) (N := some 65) (v := ?_) (a' := ?_) (bm 51 536870911) rfl rfl (any_of HT_.out (by kernel_rfl)) (fun _ _ _ h => h) (Or.inl ⟨by rfl, ?_⟩) ?_ ?_
     rotate_left
     ·intro w'
      go_simp
      with_reducible rfl
     rotate_left
     ·simp only [Act.put, List.setIfInBounds_toArray, List.set_cons_zero, List.set_cons_succ, i64_w, i32_w]
      rfl
     refine pure_ (i := 29) (N := some 66) (v := ?_) (a' := ?_) (bm 51 1073741823) rfl rfl (any_of HT_.out (by kernel_rfl)) (fun _ _ _ h => h) (Or.inl ⟨by rfl, ?_⟩) ?_ ?_
     rotate_left
     ·intro w'
      go_simp
      with_reducible rfl
     rotate_left
     ·simp only [Act.put, List.setIfInBounds_toArray, List.set_cons_zero, List.set_cons_succ, i64_w, i32_w]
      rfl
     refine pure_ (i := 30) (N := some 67) (v := ?_) (a' := ?_) (bm 51 2147483647) rfl rfl (any_of HT_.out (by kernel_rfl)) (fun _ _ _ h => h) (Or.inl ⟨by rfl, ?_⟩) ?_ ?_
     rotate_left
     ·intro w'
      go_simp
      with_reducible rfl
     rotate_left
     ·simp only [Act.put, List.setIfInBounds_toArray, List.set_cons_zero, List.set_cons_succ, i64_w, i32_w]
      rfl
     refine pure_ (i := 31) (N := some 68) (v := undef) (a' := ?_) (bm 51 4294967295) rfl rfl (any_of HT_.out (by kernel_rfl)) (fun _ _ _ h => h) (Or.inr ⟨by rfl, rfl⟩) ?_ ?_
     rotate_left
     ·simp only [Act.put, List.setIfInBounds_toArray, List.set_cons_zero, List.set_cons_succ, i64_w, i32_w]
      rfl
     refine pure_ (i := 32) (N := some 69) (v := undef) (a' := ?_) (bm 51 8589934591) rfl rfl (any_of HT_.out (by kernel_rfl)) (fun _ _ _ h => h) (Or.inr ⟨by rfl, rfl⟩) ?_ ?_
     rotate_left
     ·simp only [Act.put, List.setIfInBounds_toArray, List.set_cons_zero, List.set_cons_succ, i64_w, i32_w]
      rfl
     refine pure_ (i := 33) (N := some 70) (v := undef) (a' := ?_) (bm 51 17179869183) rfl rfl (any_of HT_.out (by kernel_rfl)) (fun _ _ _ h => h) (Or.inr ⟨by rfl, rfl⟩) ?_ ?_
     rotate_left
     ·simp only [Act.put, List.setIfInBounds_toArray, List.set_cons_zero, List.set_cons_succ, i64_w, i32_w]
      rfl
     refine pure_ (i := 34) (N := some 71) (v := ?_) (a' := ?_) (bm 51 34359738367) rfl rfl (any_of HT_.out (by kernel_rfl)) (fun _ _ _ h => h) (Or.inl ⟨by rfl, ?_⟩) ?_ ?_
     rotate_left
     ·intro w'
      go_simp
      with_reducible rfl
     rotate_left
     ·simp only [Act.put, List.setIfInBounds_toArray, List.set_cons_zero, List.set_cons_succ, i64_w, i32_w]
      rfl
     refine pure_ (i := 35) (N := some 72) (v := ?_) (a' := ?_) (bm 51 68719476735) rfl rfl (any_of HT_.out (by kernel_rfl)) (fun _ _ _ h => h) (Or.inl ⟨by rfl, ?_⟩) ?_ ?_
     rotate_left
     ·intro w'
      go_simp
      with_reducible rfl
     rotate_left
     ·simp only [Act.put, List.setIfInBounds_toArray, List.set_cons_zero, List.set_cons_succ, i64_w, i32_w]
      rfl
     refine pure_ (i := 36) (N := some 73) (v := undef) (a' := ?_) (bm 51 137438953471) rfl rfl (any_of HT_.out (by kernel_rfl)) (fun _ _ _ h => h) (Or.inr ⟨by rfl, rfl⟩) ?_ ?_
     rotate_left
     ·simp only [Act.put, List.setIfInBounds_toArray, List.set_cons_zero, List.set_cons_succ, i64_w, i32_w]
      rfl
     refine pure_ (i := 37) (N := some 74) (v := undef) (a' := ?_) (bm 51 274877906943) rfl rfl (any_of HT_.out (by kernel_rfl)) (fun _ _ _ h => h) (Or.inr ⟨by rfl, rfl⟩) ?_ ?_
     rotate_left
     ·simp only [Act.put, List.setIfInBounds_toArray, List.set_cons_zero, List.set_cons_succ, i64_w, i32_w]
      rfl
     refine pure_ (i := 38) (N := some 75) (v := undef) (a' := ?_) (bm 51 549755813887) rfl rfl (any_of HT_.out (by kernel_rfl)) (fun _ _ _ h => h) (Or.inr ⟨by rfl, rfl⟩) ?_ ?_
     rotate_left
     ·simp only [Act.put, List.setIfInBounds_toArray, List.set_cons_zero, List.set_cons_succ, i64_w, i32_w]
      rfl
     refine pure_ (i := 39) (N := some 76) (v := undef) (a' := ?_) (bm 51 1099511627775) rfl rfl (any_of HT_.out (by kernel_rfl)) (fun _ _ _ h => h) (Or.inr ⟨by rfl, rfl⟩) ?_ ?_
     rotate_left
     ·simp only [Act.put, List.setIfInBounds_toArray, List.set_cons_zero, List.set_cons_succ, i64_w, i32_w]
      rfl
     refine pure_ (i := 40) (N := some 77) (v := undef) (a' := ?_) (bm 51 2199023255551) rfl rfl (any_of HT_.out (by kernel_rfl)) (fun _ _ _ h => h) (Or.inr ⟨by rfl, rfl⟩) ?_ ?_
     rotate_left
     ·simp only [Act.put, List.setIfInBounds_toArray, List.set_cons_zero, List.set_cons_succ, i64_w, i32_w]
      rfl
     refine pure_ (i := 41) (N := some 78) (v := undef) (a' := ?_) (bm 51 4398046511103) rfl rfl (any_of HT_.out (by kernel_rfl)) (fun _ _ _ h => h) (Or.inr ⟨by rfl, rfl⟩) ?_ ?_
     rotate_left
     ·simp only [Act.put, List.setIfInBounds_toArray, List.set_cons_zero, List.set_cons_succ, i64_w, i32_w]
      rfl
     refine pure_ (i := 42) (N := some 79) (v := undef) (a' := ?_) (bm 51 8796093022207) rfl rfl (any_of HT_.out (by kernel_rfl)) (fun _ _ _ h => h) (Or.inr ⟨by rfl, rfl⟩) ?_ ?_
     rotate_left
     ·simp only [Act.put, List.setIfInBounds_toArray, List.set_cons_zero, List.set_cons_succ, i64_w, i32_w]
      rfl
     refine pure_ (i := 43) (N := some 80) (v := undef) (a' := ?_) (bm 51 17592186044415) rfl rfl (any_of HT_.out (by kernel_rfl)) (fun _ _ _ h => h) (Or.inr ⟨by rfl, rfl⟩) ?_ ?_
     rotate_left
     ·simp only [Act.put, List.setIfInBounds_toArray, List.set_cons_zero, List.set_cons_succ, i64_w, i32_w]
      rfl
     refine pure_ (i := 44) (N := some 81) (v := undef) (a' := ?_) (bm 51 35184372088831) rfl rfl (any_of HT_.out (by kernel_rfl)) (fun _ _ _ h => h) (Or.inr ⟨by rfl, rfl⟩) ?_ ?_
     rotate_left
     ·simp only [Act.put, List.setIfInBounds_toArray, List.set_cons_zero, List.set_cons_succ, i64_w, i32_w]
      rfl
     refine pure_ (i := 45) (N := some 82) (v := undef) (a' := ?_) (bm 51 70368744177663) rfl rfl (any_of HT_.out (by kernel_rfl)) (fun _ _ _ h => h) (Or.inr ⟨by rfl, rfl⟩) ?_ ?_
     rotate_left
     ·simp only [Act.put, List.setIfInBounds_toArray, List.set_cons_zero, List.set_cons_succ, i64_w, i32_w]
      rfl
     refine pure_ (i := 46) (N := some 83) (v := undef) (a' := ?_) (bm 51 140737488355327) rfl rfl (any_of HT_.out (by kernel_rfl)) (fun _ _ _ h => h) (Or.inr ⟨by rfl, rfl⟩) ?_ ?_
     rotate_left
     ·simp only [Act.put, List.setIfInBounds_toArray, List.set_cons_zero, List.set_cons_succ, i64_w, i32_w]
      rfl
     refine pure_ (i := 47) (N := some 84) (v := undef) (a' := ?_) (bm 51 281474976710655) rfl rfl (any_of HT_.out (by kernel_rfl)) (fun _ _ _ h => h) (Or.inr ⟨by rfl, rfl⟩) ?_ ?_
     rotate_left
     ·simp only [Act.put, List.setIfInBounds_toArray, List.set_cons_zero, List.set_cons_succ, i64_w, i32_w]
      rfl
     refine pure_ (i := 48) (N := some 85) (v := undef) (a' := ?_) (bm 51 562949953421311) rfl rfl (any_of HT_.out (by kernel_rfl)) (fun _ _ _ h => h) (Or.inr ⟨by rfl, rfl⟩) ?_ ?_
     rotate_left
     ·simp only [Act.put, List.setIfInBounds_toArray, List.set_cons_zero, List.set_cons_succ, i64_w, i32_w]
      rfl
     refine pure_ (i := 49) (N := some 86) (v := ?_) (a' := ?_) (bm 51 1125899906842623) rfl rfl (any_of HT_.out (by kernel_rfl)) (fun _ _ _ h => h) (Or.inl ⟨by rfl, ?_⟩) ?_ ?_
     rotate_left
     ·intro w'
      go_simp
      with_reducible rfl
     rotate_left
     ·simp only [Act.put, List.setIfInBounds_toArray, List.set_cons_zero, List.set_cons_succ, i64_w, i32_w]
      rfl
     refine pure_ (i := 50) (N := some 16) (v := ?_) (a' := ?_) (bm 51 2251799813685247) rfl rfl (any_of HT_.out (by kernel_rfl)) (fun _ _ _ h => h) (Or.inl ⟨by rfl, ?_⟩) ?_ ?_
     rotate_left
     ·intro w'
      go_simp
      with_reducible rfl
     rotate_left
     ·simp only [Act.put, List.setIfInBounds_toArray, List.set_cons_zero, List.set_cons_succ, i64_w, i32_w]
      rfl
     refine done_ (done_of HT_.out (by kernel_rfl)) ?_
     try go_wp2
     go_ret
     exact ⟨by first | rfl | (simp [errW_none, errW_some] <;> rfl) | (simp [*, errW_none, errW_some] <;> rfl), by first | exact HB.out | (repeat (first | exact HB.out | apply pw_below_drewN | apply below_drew1 | apply below_alloc))⟩
    rw [if_neg c21] at H
    have c21b0 : (t378 == t381 && (t379 == t382 && (t380 == t383))) = false := by simpa using c21
    (try (have c21b1 : decide (t378 = t381 && (t379 == t382 && (t380 == t383))) = false := by simpa using c21))
    (try (have c21b2 : (t378 == t381 && (t379 == t382 && (t380 == t383))) = false := by simpa using c21))
    (try (have c21b3 : ¬ (t378 = t381 && (t379 == t382 && (t380 == t383))) := by simpa using c21))
    clear c21
    obtain rfl := Option.some.inj H
    go_enter Try.func9, Try.ntmps9
    try go_wp2_with (first | ((with_reducible refine gate_dst (N := 8) rfl ?_); refine box_event ?hg (N := 8) ?hd (cs := #[.int .i64 a0_0, .int .i64 a0_1, .int .i64 a0_2]) (t := 26) ?hr ?_; (case hd => rfl); (case hg => rfl); (case hr => first | (go_simp; done) | (go_simp; rfl)); intro gb358 hg w127 hbox hb; have BK358 := Aside0.mk (hbox); have GE358 := Aside0.mk (bG hg (by first | exact HB.out | (repeat (first | exact HB.out | apply pw_below_drewN | apply below_drew1 | apply below_alloc)))); replace HB := Aside0.mk (below_step (by first | exact HB.out | (repeat (first | exact HB.out | apply pw_below_drewN | apply below_drew1 | apply below_alloc))) hb); clear hb hbox hg) | ((with_reducible refine gate_dst (N := 9) rfl ?_); refine box_event ?hg (N := 9) ?hd (cs := #[.int .i64 a1_0, .int .i64 a1_1, .int .i64 a1_2]) (t := 26) ?hr ?_; (case hd => rfl); (case hg => rfl); (case hr => first | (go_simp; done) | (go_simp; rfl)); intro gb359 hg w128 hbox hb; have BK359 := Aside0.mk (hbox); have GE359 := Aside0.mk (bG hg (by first | exact HB.out | (repeat (first | exact HB.out | apply pw_below_drewN | apply below_drew1 | apply below_alloc)))); have NB358_359 := cN hg BK358; have NB359_358 := cM hg BK358; replace BK358 := cB hb BK358; replace HB := Aside0.mk (below_step (by first | exact HB.out | (repeat (first | exact HB.out | apply pw_below_drewN | apply below_drew1 | apply below_alloc))) hb); clear hb hbox hg) | ((with_reducible refine gate_dst (N := 13) rfl ?_); refine box_event ?hg (N := 13) ?hd (cs := #[.int .i64 a5_0, .int .i64 a5_1, .int .i64 a5_2]) (t := 37) ?hr ?_; (case hd => rfl); (case hg => rfl); (case hr => first | (go_simp; done) | (go_simp; rfl)); intro gb360 hg w129 hbox hb; have BK360 := Aside0.mk (hbox); have GE360 := Aside0.mk (bG hg (by first | exact HB.out | (repeat (first | exact HB.out | apply pw_below_drewN | apply below_drew1 | apply below_alloc)))); have NB358_360 := cN hg BK358; have NB360_358 := cM hg BK358; have NB359_360 := cN hg BK359; have NB360_359 := cM hg BK359; replace BK358 := cB hb BK358; replace BK359 := cB hb BK359; replace HB := Aside0.mk (below_step (by first | exact HB.out | (repeat (first | exact HB.out | apply pw_below_drewN | apply below_drew1 | apply below_alloc))) hb); clear hb hbox hg) | ((with_reducible refine gate_dst (N := 14) rfl ?_); refine box_event ?hg (N := 14) ?hd (cs := #[.int .i64 a6_0, .int .i64 a6_1, .int .i64 a6_2]) (t := 37) ?hr ?_; (case hd => rfl); (case hg => rfl); (case hr => first | (go_simp; done) | (go_simp; rfl)); intro gb361 hg w130 hbox hb; have BK361 := Aside0.mk (hbox); have GE361 := Aside0.mk (bG hg (by first | exact HB.out | (repeat (first | exact HB.out | apply pw_below_drewN | apply below_drew1 | apply below_alloc)))); have NB358_361 := cN hg BK358; have NB361_358 := cM hg BK358; have NB359_361 := cN hg BK359; have NB361_359 := cM hg BK359; have NB360_361 := cN hg BK360; have NB361_360 := cM hg BK360; replace BK358 := cB hb BK358; replace BK359 := cB hb BK359; replace BK360 := cB hb BK360; replace HB := Aside0.mk (below_step (by first | exact HB.out | (repeat (first | exact HB.out | apply pw_below_drewN | apply below_drew1 | apply below_alloc))) hb); clear hb hbox hg) | ((with_reducible refine gate_dst (N := 15) rfl ?_); refine box_event ?hg (N := 15) ?hd (cs := #[.int .i64 a7_0, .int .i64 a7_1, .int .i64 a7_2]) (t := 37) ?hr ?_; (case hd => rfl); (case hg => rfl); (case hr => first | (go_simp; done) | (go_simp; rfl)); intro gb362 hg w131 hbox hb; have BK362 := Aside0.mk (hbox); have GE362 := Aside0.mk (bG hg (by first | exact HB.out | (repeat (first | exact HB.out | apply pw_below_drewN | apply below_drew1 | apply below_alloc)))); have NB358_362 := cN hg BK358; have NB362_358 := cM hg BK358; have NB359_362 := cN hg BK359; have NB362_359 := cM hg BK359; have NB360_362 := cN hg BK360; have NB362_360 := cM hg BK360; have NB361_362 := cN hg BK361; have NB362_361 := cM hg BK361; replace BK358 := cB hb BK358; replace BK359 := cB hb BK359; replace BK360 := cB hb BK360; replace BK361 := cB hb BK361; replace HB := Aside0.mk (below_step (by first | exact HB.out | (repeat (first | exact HB.out | apply pw_below_drewN | apply below_drew1 | apply below_alloc))) hb); clear hb hbox hg) | ((with_reducible refine gate_callee (f := 11) rfl ?_); refine goesL_ (some 21) rfl rfl Try.func11 (by kernel_rfl) rfl #[] rfl (by (try simp only [List.map_toArray, List.map_cons, List.map_nil]); first | done | rfl | (simp only [List.length_drop, List.length_take]; rfl)) ?_; (with_reducible refine (relievolaw19_alive.calls k  true _ A9.out).mono ?_); rintro e w132 ⟨rfl, hb⟩; refine ⟨_, rfl, ?_⟩; replace BK358 := cB hb BK358; replace BK359 := cB hb BK359; replace BK360 := cB hb BK360; replace BK361 := cB hb BK361; replace BK362 := cB hb BK362; replace HB := Aside0.mk (below_step (by first | exact HB.out | (repeat (first | exact HB.out | apply pw_below_drewN | apply below_drew1 | apply below_alloc))) hb); (try clear hb); (try clear hb2); (try clear hk); (try clear hi); obtain ⟨hcz133_0, hcz133_1, hcz133_2⟩ := cells3 BK358.out; obtain ⟨hcz134_0, hcz134_1, hcz134_2⟩ := cells3 BK359.out) | ((with_reducible refine gate_callee (f := 15) rfl ?_); refine goesL_ (some 27) rfl rfl Try.func15 (by kernel_rfl) rfl #[.agg #[.int .i64 a0_0, .int .i64 a0_1, .int .i64 a0_2], .agg #[.int .i64 a1_0, .int .i64 a1_1, .int .i64 a1_2], .int .i64 a2] rfl (by (try simp only [List.map_toArray, List.map_cons, List.map_nil]); first | done | rfl | (simp only [List.length_drop, List.length_take]; rfl)) ?_; (with_reducible refine (light_Refract.calls k a0_0 a0_1 a0_2 a1_0 a1_1 a1_2 a2 t364 t365 t366 t367 _ A11.out).mono ?_); rintro e w135 ⟨rfl, hb⟩; refine ⟨_, rfl, ?_⟩; replace BK358 := cB hb BK358; replace BK359 := cB hb BK359; replace BK360 := cB hb BK360; replace BK361 := cB hb BK361; replace BK362 := cB hb BK362; replace HB := Aside0.mk (below_step (by first | exact HB.out | (repeat (first | exact HB.out | apply pw_below_drewN | apply below_drew1 | apply below_alloc))) hb); (try clear hb); (try clear hb2); (try clear hk); (try clear hi)) | ((with_reducible refine gate_dst (N := 17) rfl ?_); refine box_event ?hg (N := 17) ?hd (cs := #[.int .i64 0, .int .i64 0, .int .i64 0]) (t := 26) ?hr ?_; (case hd => rfl); (case hg => rfl); (case hr => first | (go_simp; done) | (go_simp; rfl)); intro gb368 hg w136 hbox hb; have BK368 := Aside0.mk (hbox); have GE368 := Aside0.mk (bG hg (by first | exact HB.out | (repeat (first | exact HB.out | apply pw_below_drewN | apply below_drew1 | apply below_alloc)))); have NB358_368 := cN hg BK358; have NB368_358 := cM hg BK358; have NB359_368 := cN hg BK359; have NB368_359 := cM hg BK359; have NB360_368 := cN hg BK360; have NB368_360 := cM hg BK360; have NB361_368 := cN hg BK361; have NB368_361 := cM hg BK361; have NB362_368 := cN hg BK362; have NB368_362 := cM hg BK362; replace BK358 := cB hb BK358; replace BK359 := cB hb BK359; replace BK360 := cB hb BK360; replace BK361 := cB hb BK361; replace BK362 := cB hb BK362; replace HB := Aside0.mk (below_step (by first | exact HB.out | (repeat (first | exact HB.out | apply pw_below_drewN | apply below_drew1 | apply below_alloc))) hb); clear hb hbox hg; have hnb137 := NB368_358.out; have hnc137 := NB358_368.out; have hnb138 := NB368_359.out; have hnc138 := NB359_368.out; have hnb139 := NB368_360.out; have hnc139 := NB360_368.out; have hnb140 := NB368_361.out; have hnc140 := NB361_368.out; have hnb141 := NB368_362.out; have hnc141 := NB362_368.out; obtain ⟨hcz142_0, hcz142_1, hcz142_2⟩ := cells3 BK368.out; have hfz142_0 := blk_frozen BK368.out 0; have hfz142_1 := blk_frozen BK368.out 1; have hfz142_2 := blk_frozen BK368.out 2; obtain ⟨hcz143_0, hcz143_1, hcz143_2⟩ := cells3 BK358.out; obtain ⟨hcz144_0, hcz144_1, hcz144_2⟩ := cells3 BK359.out) | ((with_reducible refine gate_callee (f := 20) rfl ?_); refine goesL_ (some 34) rfl rfl Try.func20 (by kernel_rfl) rfl #[.agg #[.int .i64 a0_0, .int .i64 a0_1, .int .i64 a0_2], .agg #[.int .i64 a1_0, .int .i64 a1_1, .int .i64 a1_2], .int .i64 a2] rfl (by (try simp only [List.map_toArray, List.map_cons, List.map_nil]); first | done | rfl | (simp only [List.length_drop, List.length_take]; rfl)) ?_; (with_reducible refine (relievoref19_Refract.calls k a0_0 a0_1 a0_2 a1_0 a1_1 a1_2 a2 t369 t370 t371 t372 _ A12.out).mono ?_); rintro e w145 ⟨rfl, hb⟩; refine ⟨_, rfl, ?_⟩; replace BK358 := Aside0.mk (bB hb ((blk_far (blk_far (blk_far BK358.out NB358_368.out _) NB358_368.out _) NB358_368.out _))); replace BK359 := Aside0.mk (bB hb ((blk_far (blk_far (blk_far BK359.out NB359_368.out _) NB359_368.out _) NB359_368.out _))); replace BK360 := Aside0.mk (bB hb ((blk_far (blk_far (blk_far BK360.out NB360_368.out _) NB360_368.out _) NB360_368.out _))); replace BK361 := Aside0.mk (bB hb ((blk_far (blk_far (blk_far BK361.out NB361_368.out _) NB361_368.out _) NB361_368.out _))); replace BK362 := Aside0.mk (bB hb ((blk_far (blk_far (blk_far BK362.out NB362_368.out _) NB362_368.out _) NB362_368.out _))); replace BK368 := Aside0.mk (bB hb ((blk_put (cs' := #[.int .i64 t364, .int .i64 t365, .int .i64 t366]) (blk_put (blk_put BK368.out 0 _ rfl) 1 _ rfl) 2 _ rfl))); replace HB := Aside0.mk (below_step (by first | exact (below_set (below_set (below_set HB.out GE368.out) GE368.out) GE368.out) | (repeat (first | exact (below_set (below_set (below_set HB.out GE368.out) GE368.out) GE368.out) | apply pw_below_drewN | apply below_drew1 | apply below_alloc))) hb); (try clear hb); (try clear hb2); (try clear hk); (try clear hi)) | ((with_reducible refine gate_dst (N := 19) rfl ?_); refine box_event ?hg (N := 19) ?hd (cs := #[.int .i64 0, .int .i64 0, .int .i64 0]) (t := 26) ?hr ?_; (case hd => rfl); (case hg => rfl); (case hr => first | (go_simp; done) | (go_simp; rfl)); intro gb373 hg w146 hbox hb; have BK373 := Aside0.mk (hbox); have GE373 := Aside0.mk (bG hg (by first | exact HB.out | (repeat (first | exact HB.out | apply pw_below_drewN | apply below_drew1 | apply below_alloc)))); have NB358_373 := cN hg BK358; have NB373_358 := cM hg BK358; have NB359_373 := cN hg BK359; have NB373_359 := cM hg BK359; have NB360_373 := cN hg BK360; have NB373_360 := cM hg BK360; have NB361_373 := cN hg BK361; have NB373_361 := cM hg BK361; have NB362_373 := cN hg BK362; have NB373_362 := cM hg BK362; have NB368_373 := cN hg BK368; have NB373_368 := cM hg BK368; replace BK358 := cB hb BK358; replace BK359 := cB hb BK359; replace BK360 := cB hb BK360; replace BK361 := cB hb BK361; replace BK362 := cB hb BK362; replace BK368 := cB hb BK368; replace HB := Aside0.mk (below_step (by first | exact HB.out | (repeat (first | exact HB.out | apply pw_below_drewN | apply below_drew1 | apply below_alloc))) hb); clear hb hbox hg; have hnb147 := NB373_358.out; have hnc147 := NB358_373.out; have hnb148 := NB373_359.out; have hnc148 := NB359_373.out; have hnb149 := NB373_360.out; have hnc149 := NB360_373.out; have hnb150 := NB373_361.out; have hnc150 := NB361_373.out; have hnb151 := NB373_362.out; have hnc151 := NB362_373.out; have hnb152 := NB373_368.out; have hnc152 := NB368_373.out; obtain ⟨hcz153_0, hcz153_1, hcz153_2⟩ := cells3 BK373.out; have hfz153_0 := blk_frozen BK373.out 0; have hfz153_1 := blk_frozen BK373.out 1; have hfz153_2 := blk_frozen BK373.out 2))
    generalize hw_ : (((w146.setCell ⟨gb373, 0, none⟩ (.int .i64 t369)).setCell ⟨gb373, 1, none⟩ (.int .i64 t370)).setCell ⟨gb373, 2, none⟩ (.int .i64 t371)) = w154
    replace BK358 := Aside0.mk (bF hw_ (blk_far (blk_far (blk_far BK358.out NB358_373.out _) NB358_373.out _) NB358_373.out _))
    replace BK359 := Aside0.mk (bF hw_ (blk_far (blk_far (blk_far BK359.out NB359_373.out _) NB359_373.out _) NB359_373.out _))
    replace BK360 := Aside0.mk (bF hw_ (blk_far (blk_far (blk_far BK360.out NB360_373.out _) NB360_373.out _) NB360_373.out _))
    replace BK361 := Aside0.mk (bF hw_ (blk_far (blk_far (blk_far BK361.out NB361_373.out _) NB361_373.out _) NB361_373.out _))
    replace BK362 := Aside0.mk (bF hw_ (blk_far (blk_far (blk_far BK362.out NB362_373.out _) NB362_373.out _) NB362_373.out _))
    replace BK368 := Aside0.mk (bF hw_ (blk_far (blk_far (blk_far BK368.out NB368_373.out _) NB368_373.out _) NB368_373.out _))
    replace BK373 := Aside0.mk (bF hw_ (blk_put (cs' := #[.int .i64 t369, .int .i64 t370, .int .i64 t371]) (blk_put (blk_put BK373.out 0 _ rfl) 1 _ rfl) 2 _ rfl))
    replace HB := Aside0.mk (bH hw_ (by first | exact (below_set (below_set (below_set HB.out GE373.out) GE373.out) GE373.out) | (repeat (first | exact (below_set (below_set (below_set HB.out GE373.out) GE373.out) GE373.out) | apply pw_below_drewN | apply below_drew1 | apply below_alloc))))
    clear hw_
    replace BK358 := Aside0.mk (blk_drew BK358.out)
    replace BK359 := Aside0.mk (blk_drew BK359.out)
    replace BK360 := Aside0.mk (blk_drew BK360.out)
    replace BK361 := Aside0.mk (blk_drew BK361.out)
    replace BK362 := Aside0.mk (blk_drew BK362.out)
    replace BK368 := Aside0.mk (blk_drew BK368.out)
    replace BK373 := Aside0.mk (blk_drew BK373.out)
    replace HB := Aside0.mk (below_drew1 HB.out)
    refine start_ (n := 51) (S := fun w' => w'.cell? ⟨gb358, 0, none⟩ = some (.int .i64 a0_0) ∧ w'.cell? ⟨gb358, 1, none⟩ = some (.int .i64 a0_1) ∧ w'.cell? ⟨gb358, 2, none⟩ = some (.int .i64 a0_2) ∧ w'.cell? ⟨gb359, 0, none⟩ = some (.int .i64 a1_0) ∧ w'.cell? ⟨gb359, 1, none⟩ = some (.int .i64 a1_1) ∧ w'.cell? ⟨gb359, 2, none⟩ = some (.int .i64 a1_2)) (ds := []) #[false, false, false, false, false, false, false, false, false, false, false, false, false, false, false, false, false, false, false, false, false, false, false, false, false, false, false, false, false, false, false, false, false, false, false, false, false, false, false, false, false, false, false, false, false, false, false, false, false, false, false] (by kernel_rfl) rfl rfl ⟨(blk_cell BK358.out 0).trans rfl, (blk_cell BK358.out 1).trans rfl, (blk_cell BK358.out 2).trans rfl, (blk_cell BK359.out 0).trans rfl, (blk_cell BK359.out 1).trans rfl, (blk_cell BK359.out 2).trans rfl⟩ (fun hHeld => ?_); refine with_tabW relievolaw19_LightAnswers.tab5 relievolaw19_LightAnswers.bits5 (fun HT_ HW_ => ?_)
    generalize w154.drew = w155 at BK358 BK359 BK360 BK361 BK362 BK368 BK373 HB hHeld ⊢
    refine take_ (i := 0) (N := some 37) (v := ?_) (a' := ?_) (bm 51 1) rfl rfl (take_ofW HT_.out HW_.out (by kernel_rfl)) (fun _ _ _ h => h) (Or.inl ⟨by rfl, ?_⟩) hHeld ?_ ?_
    rotate_left
    ·rintro w' ⟨s0, s1, s2, s3, s4, s5⟩
     go_simp
     with_reducible rfl
    rotate_left
    ·simp only [Act.put, List.setIfInBounds_toArray, List.set_cons_zero, List.set_cons_succ, i64_w, i32_w]
     rfl
    refine take_ (i := 1) (N := some 38) (v := ?_) (a' := ?_) (bm 51 3) rfl rfl (take_ofW HT_.out HW_.out (by kernel_rfl)) (fun _ _ _ h => h) (Or.inl ⟨by rfl, ?_⟩) hHeld ?_ ?_
    rotate_left
    ·rintro w' ⟨s0, s1, s2, s3, s4, s5⟩
     go_simp
     with_reducible rfl
    rotate_left
    ·simp only [Act.put, List.setIfInBounds_toArray, List.set_cons_zero, List.set_cons_succ, i64_w, i32_w]
     rfl
    refine take_ (i := 3) (N := some 40) (v := ?_) (a' := ?_) (bm 51 11) rfl rfl (take_ofW HT_.out HW_.out (by kernel_rfl)) (fun _ _ _ h => h) (Or.inl ⟨by rfl, ?_⟩) hHeld ?_ ?_
    rotate_left
    ·rintro w' ⟨s0, s1, s2, s3, s4, s5⟩
     go_simp
     with_reducible rfl
    rotate_left
    ·simp only [Act.put, List.setIfInBounds_toArray, List.set_cons_zero, List.set_cons_succ, i64_w, i32_w]
     rfl
    refine take_ (i := 4) (N := some 41) (v := ?_) (a' := ?_) (bm 51 27) rfl rfl (take_ofW HT_.out HW_.out (by kernel_rfl)) (fun _ _ _ h => h) (Or.inl ⟨by rfl, ?_⟩) hHeld ?_ ?_
    rotate_left
    ·rintro w' ⟨s0, s1, s2, s3, s4, s5⟩
     go_simp
     with_reducible rfl
    rotate_left
    ·simp only [Act.put, List.setIfInBounds_toArray, List.set_cons_zero, List.set_cons_succ, i64_w, i32_w]
     rfl
    refine one_ (i := 2) (N := some 39) (bm 51 31) rfl rfl (one_of HT_.out (by kernel_rfl)) (by decide) (fun K hK => ?_)
    refine goes_ Try.func17 (by kernel_rfl) rfl #[.agg #[.int .i64 a0_0, .int .i64 a0_1, .int .i64 a0_2], .agg #[.int .i64 a1_0, .int .i64 a1_1, .int .i64 a1_2]] (by rfl) rfl rfl (by (try simp only [List.map_toArray, List.map_cons, List.map_nil]); first | done | rfl | (simp only [List.length_drop, List.length_take]; rfl)) ?_
    with_reducible refine (light_Cos.calls k a0_0 a0_1 a0_2 a1_0 a1_1 a1_2 t374 _ A13.out).mono ?_
    rintro e w156 ⟨rfl, hb⟩
    refine ⟨_, rfl, ?_⟩
    replace BK358 := cB hb BK358
    replace BK359 := cB hb BK359
    replace BK360 := cB hb BK360
    replace BK361 := cB hb BK361
    replace BK362 := cB hb BK362
    replace BK368 := cB hb BK368
    replace BK373 := cB hb BK373
    replace HB := Aside0.mk (below_step (by first | exact HB.out | (repeat (first | exact HB.out | apply pw_below_drewN | apply below_drew1 | apply below_alloc))) hb)
    (try clear hb)
    (try clear hb2)
    (try clear hk)
    (try clear hi)
    refine hK.out _ _ ⟨(blk_cell BK358.out 0).trans rfl, (blk_cell BK358.out 1).trans rfl, (blk_cell BK358.out 2).trans rfl, (blk_cell BK359.out 0).trans rfl, (blk_cell BK359.out 1).trans rfl, (blk_cell BK359.out 2).trans rfl⟩ (fun hHeld => ?_)
    clear hK K
    refine norm_ (a' := ?_) ?_ ?_
    rotate_left
    ·show Act.put _ (some 39) _ = _
     simp only [Act.put, List.setIfInBounds_toArray, List.set_cons_zero, List.set_cons_succ, i64_w, i32_w]
     rfl
    refine one_ (i := 5) (N := some 42) (bm 51 63) rfl rfl (one_of HT_.out (by kernel_rfl)) (by decide) (fun K hK => ?_)
    refine goes_ Try.func21 (by kernel_rfl) rfl #[.agg #[.int .i64 a0_0, .int .i64 a0_1, .int .i64 a0_2], .agg #[.int .i64 a1_0, .int .i64 a1_1, .int .i64 a1_2]] (by rfl) rfl rfl (by (try simp only [List.map_toArray, List.map_cons, List.map_nil]); first | done | rfl | (simp only [List.length_drop, List.length_take]; rfl)) ?_
    with_reducible refine (relievoref19_Cos.calls k a0_0 a0_1 a0_2 a1_0 a1_1 a1_2 t375 _ A14.out).mono ?_
    rintro e w157 ⟨rfl, hb⟩
    refine ⟨_, rfl, ?_⟩
    replace BK358 := cB hb BK358
    replace BK359 := cB hb BK359
    replace BK360 := cB hb BK360
    replace BK361 := cB hb BK361
    replace BK362 := cB hb BK362
    replace BK368 := cB hb BK368
    replace BK373 := cB hb BK373
    replace HB := Aside0.mk (below_step (by first | exact HB.out | (repeat (first | exact HB.out | apply pw_below_drewN | apply below_drew1 | apply below_alloc))) hb)
    (try clear hb)
    (try clear hb2)
    (try clear hk)
    (try clear hi)
    refine hK.out _ _ ⟨(blk_cell BK358.out 0).trans rfl, (blk_cell BK358.out 1).trans rfl, (blk_cell BK358.out 2).trans rfl, (blk_cell BK359.out 0).trans rfl, (blk_cell BK359.out 1).trans rfl, (blk_cell BK359.out 2).trans rfl⟩ (fun hHeld => ?_)
    clear hK K
    refine norm_ (a' := ?_) ?_ ?_
    rotate_left
    ·show Act.put _ (some 42) _ = _
     simp only [Act.put, List.setIfInBounds_toArray, List.set_cons_zero, List.set_cons_succ, i64_w, i32_w]
     rfl
    refine pure_ (i := 6) (N := some 43) (v := ?_) (a' := ?_) (bm 51 127) rfl rfl (any_of HT_.out (by kernel_rfl)) (fun _ _ _ h => h) (Or.inl ⟨by rfl, ?_⟩) ?_ ?_
    rotate_left
    ·intro w'
     go_simp
     with_reducible rfl
    rotate_left
    ·simp only [Act.put, List.setIfInBounds_toArray, List.set_cons_zero, List.set_cons_succ, i64_w, i32_w]
     rfl
    refine pure_ (i := 7) (N := some 44) (v := ?_) (a' := ?_) (bm 51 255) rfl rfl (any_of HT_.out (by kernel_rfl)) (fun _ _ _ h => h) (Or.inl ⟨by rfl, ?_⟩) ?_ ?_
    rotate_left
    ·intro w'
     go_simp
     with_reducible rfl
    rotate_left
    ·simp only [Act.put, List.setIfInBounds_toArray, List.set_cons_zero, List.set_cons_succ, i64_w, i32_w]
     rfl
    refine pure_ (i := 8) (N := some 45) (v := ?_) (a' := ?_) (bm 51 511) rfl rfl (any_of HT_.out (by kernel_rfl)) (fun _ _ _ h => h) (Or.inl ⟨by rfl, ?_⟩) ?_ ?_
    rotate_left
    ·intro w'
     go_simp
     with_reducible rfl
    rotate_left
    ·simp only [Act.put, List.setIfInBounds_toArray, List.set_cons_zero, List.set_cons_succ, i64_w, i32_w]
     rfl
    refine pure_ (i := 9) (N := some 46) (v := ?_) (a' := ?_) (bm 51 1023) rfl rfl (any_of HT_.out (by kernel_rfl)) (fun _ _ _ h => h) (Or.inl ⟨by rfl, ?_⟩) ?_ ?_
    rotate_left
    ·intro w'
     go_simp
     with_reducible rfl
    rotate_left
    ·simp only [Act.put, List.setIfInBounds_toArray, List.set_cons_zero, List.set_cons_succ, i64_w, i32_w]
     rfl
    refine pure_ (i := 11) (N := some 48) (v := ?_) (a' := ?_) (bm 51 3071) rfl rfl (any_of HT_.out (by kernel_rfl)) (fun _ _ _ h => h) (Or.inl ⟨by rfl, ?_⟩) ?_ ?_
    rotate_left
    ·intro w'
     go_simp
     with_reducible rfl
    rotate_left
    ·simp only [Act.put, List.setIfInBounds_toArray, List.set_cons_zero, List.set_cons_succ, i64_w, i32_w]
     rfl
    refine pure_ (i := 12) (N := some 49) (v := ?_) (a' := ?_) (bm 51 7167) rfl rfl (any_of HT_.out (by kernel_rfl)) (fun _ _ _ h => h) (Or.inl ⟨by rfl, ?_⟩) ?_ ?_
    rotate_left
    ·intro w'
     go_simp
     with_reducible rfl
    rotate_left
    ·simp only [Act.put, List.setIfInBounds_toArray, List.set_cons_zero, List.set_cons_succ, i64_w, i32_w]
     rfl
    refine one_ (i := 10) (N := some 47) (bm 51 8191) rfl rfl (one_of HT_.out (by kernel_rfl)) (by decide) (fun K hK => ?_)
    refine goes_ Try.func12 (by kernel_rfl) rfl #[.int .i64 a3, .int .i64 a4] (by rfl) rfl rfl (by (try simp only [List.map_toArray, List.map_cons, List.map_nil]); first | done | rfl | (simp only [List.length_drop, List.length_take]; rfl)) ?_
    with_reducible refine (light_Power.calls k a3 a4 t376 _ A16.out).mono ?_
    rintro e w' ⟨rfl, ⟨nd, rfl⟩⟩
    refine ⟨_, rfl, ?_⟩
    refine hK.out _ _ ⟨(blk_cell BK358.out 0).trans rfl, (blk_cell BK358.out 1).trans rfl, (blk_cell BK358.out 2).trans rfl, (blk_cell BK359.out 0).trans rfl, (blk_cell BK359.out 1).trans rfl, (blk_cell BK359.out 2).trans rfl⟩ (fun hHeld => ?_)
    clear hK K
    refine norm_ (a' := ?_) ?_ ?_
    rotate_left
    ·show Act.put _ (some 47) _ = _
     simp only [Act.put, List.setIfInBounds_toArray, List.set_cons_zero, List.set_cons_succ, i64_w, i32_w]
     rfl
    refine one_ (i := 13) (N := some 50) (bm 51 16383) rfl rfl (one_of HT_.out (by kernel_rfl)) (by decide) (fun K hK => ?_)
    refine goes_ Try.func22 (by kernel_rfl) rfl #[.int .i64 a3, .int .i64 a4] (by rfl) rfl rfl (by (try simp only [List.map_toArray, List.map_cons, List.map_nil]); first | done | rfl | (simp only [List.length_drop, List.length_take]; rfl)) ?_
    with_reducible refine (relievoref19_Power.calls k a3 a4 t377 _ A17.out).mono ?_
    rintro e w' ⟨rfl, ⟨nd, rfl⟩⟩
    refine ⟨_, rfl, ?_⟩
    refine hK.out _ _ ⟨(blk_cell BK358.out 0).trans rfl, (blk_cell BK358.out 1).trans rfl, (blk_cell BK358.out 2).trans rfl, (blk_cell BK359.out 0).trans rfl, (blk_cell BK359.out 1).trans rfl, (blk_cell BK359.out 2).trans rfl⟩ (fun hHeld => ?_)
    clear hK K
    refine norm_ (a' := ?_) ?_ ?_
    rotate_left
    ·show Act.put _ (some 50) _ = _
     simp only [Act.put, List.setIfInBounds_toArray, List.set_cons_zero, List.set_cons_succ, i64_w, i32_w]
     rfl
    refine pure_ (i := 14) (N := some 51) (v := ?_) (a' := ?_) (bm 51 32767) rfl rfl (any_of HT_.out (by kernel_rfl)) (fun _ _ _ h => h) (Or.inl ⟨by rfl, ?_⟩) ?_ ?_
    rotate_left
    ·intro w'
     go_simp
     with_reducible rfl
    rotate_left
    ·simp only [Act.put, List.setIfInBounds_toArray, List.set_cons_zero, List.set_cons_succ, i64_w, i32_w]
     rfl
    refine pure_ (i := 15) (N := some 52) (v := ?_) (a' := ?_) (bm 51 65535) rfl rfl (any_of HT_.out (by kernel_rfl)) (fun _ _ _ h => h) (Or.inl ⟨by rfl, ?_⟩) ?_ ?_
    rotate_left
    ·intro w'
     go_simp
     with_reducible rfl
    rotate_left
    ·simp only [Act.put, List.setIfInBounds_toArray, List.set_cons_zero, List.set_cons_succ, i64_w, i32_w]
     rfl
    refine pure_ (i := 16) (N := some 53) (v := ?_) (a' := ?_) (bm 51 131071) rfl rfl (any_of HT_.out (by kernel_rfl)) (fun _ _ _ h => h) (Or.inl ⟨by rfl, ?_⟩) ?_ ?_
    rotate_left
    ·intro w'
     go_simp
     with_reducible rfl
    rotate_left
    ·simp only [Act.put, List.setIfInBounds_toArray, List.set_cons_zero, List.set_cons_succ, i64_w, i32_w]
     rfl
    refine take_ (i := 17) (N := some 54) (v := ?_) (a' := ?_) (bm 51 262143) rfl rfl (take_ofW HT_.out HW_.out (by kernel_rfl)) (fun _ _ _ h => h) (Or.inl ⟨by rfl, ?_⟩) hHeld ?_ ?_
    rotate_left
    ·rintro w' ⟨s0, s1, s2, s3, s4, s5⟩
     go_simp
     with_reducible rfl
    rotate_left
    ·simp only [Act.put, List.setIfInBounds_toArray, List.set_cons_zero, List.set_cons_succ, i64_w, i32_w]
     rfl
    refine take_ (i := 18) (N := some 55) (v := ?_) (a' := ?_) (bm 51 524287) rfl rfl (take_ofW HT_.out HW_.out (by kernel_rfl)) (fun _ _ _ h => h) (Or.inl ⟨by rfl, ?_⟩) hHeld ?_ ?_
    rotate_left
    ·rintro w' ⟨s0, s1, s2, s3, s4, s5⟩
     go_simp
     with_reducible rfl
    rotate_left
    ·simp only [Act.put, List.setIfInBounds_toArray, List.set_cons_zero, List.set_cons_succ, i64_w, i32_w]
     rfl
    refine take_ (i := 20) (N := some 57) (v := ?_) (a' := ?_) (bm 51 1572863) rfl rfl (take_ofW HT_.out HW_.out (by kernel_rfl)) (fun _ _ _ h => h) (Or.inl ⟨by rfl, ?_⟩) hHeld ?_ ?_
    rotate_left
    ·rintro w' ⟨s0, s1, s2, s3, s4, s5⟩
     go_simp
     with_reducible rfl
    rotate_left
    ·simp only [Act.put, List.setIfInBounds_toArray, List.set_cons_zero, List.set_cons_succ, i64_w, i32_w]
     rfl
    refine take_ (i := 21) (N := some 58) (v := ?_) (a' := ?_) (bm 51 3670015) rfl rfl (take_ofW HT_.out HW_.out (by kernel_rfl)) (fun _ _ _ h => h) (Or.inl ⟨by rfl, ?_⟩) hHeld ?_ ?_
    rotate_left
    ·rintro w' ⟨s0, s1, s2, s3, s4, s5⟩
     go_simp
     with_reducible rfl
    rotate_left
    ·simp only [Act.put, List.setIfInBounds_toArray, List.set_cons_zero, List.set_cons_succ, i64_w, i32_w]
     rfl
    refine one_ (i := 19) (N := some 56) (bm 51 4194303) rfl rfl (one_of HT_.out (by kernel_rfl)) (by decide) (fun K hK => ?_)
    refine goes_ Try.func14 (by kernel_rfl) rfl #[.agg #[.int .i64 a0_0, .int .i64 a0_1, .int .i64 a0_2], .agg #[.int .i64 a1_0, .int .i64 a1_1, .int .i64 a1_2]] (by rfl) rfl rfl (by (try simp only [List.map_toArray, List.map_cons, List.map_nil]); first | done | rfl | (simp only [List.length_drop, List.length_take]; rfl)) ?_
    with_reducible refine (light_Reflect.calls k a0_0 a0_1 a0_2 a1_0 a1_1 a1_2 t378 t379 t380 _ A19.out).mono ?_
    rintro e w158 ⟨rfl, hb⟩
    refine ⟨_, rfl, ?_⟩
    replace BK358 := cB hb BK358
    replace BK359 := cB hb BK359
    replace BK360 := cB hb BK360
    replace BK361 := cB hb BK361
    replace BK362 := cB hb BK362
    replace BK368 := cB hb BK368
    replace BK373 := cB hb BK373
    replace HB := Aside0.mk (below_step (by first | exact HB.out | (repeat (first | exact HB.out | apply pw_below_drewN | apply below_drew1 | apply below_alloc))) hb)
    (try clear hb)
    (try clear hb2)
    (try clear hk)
    (try clear hi)
    refine hK.out _ _ ⟨(blk_cell BK358.out 0).trans rfl, (blk_cell BK358.out 1).trans rfl, (blk_cell BK358.out 2).trans rfl, (blk_cell BK359.out 0).trans rfl, (blk_cell BK359.out 1).trans rfl, (blk_cell BK359.out 2).trans rfl⟩ (fun hHeld => ?_)
    clear hK K
    refine norm_ (a' := ?_) ?_ ?_
    rotate_left
    ·show Act.put _ (some 56) _ = _
     simp only [Act.put, List.setIfInBounds_toArray, List.set_cons_zero, List.set_cons_succ, i64_w, i32_w]
     rfl
    refine one_ (i := 22) (N := some 59) (bm 51 8388607) rfl rfl (one_of HT_.out (by kernel_rfl)) (by decide) (fun K hK => ?_)
    refine goes_ Try.func23 (by kernel_rfl) rfl #[.agg #[.int .i64 a0_0, .int .i64 a0_1, .int .i64 a0_2], .agg #[.int .i64 a1_0, .int .i64 a1_1, .int .i64 a1_2]] (by rfl) rfl rfl (by (try simp only [List.map_toArray, List.map_cons, List.map_nil]); first | done | rfl | (simp only [List.length_drop, List.length_take]; rfl)) ?_
    with_reducible refine (relievoref19_Reflect.calls k a0_0 a0_1 a0_2 a1_0 a1_1 a1_2 t381 t382 t383 _ A20.out).mono ?_
    rintro e w159 ⟨rfl, hb⟩
    refine ⟨_, rfl, ?_⟩
    replace BK358 := cB hb BK358
    replace BK359 := cB hb BK359
    replace BK360 := cB hb BK360
    replace BK361 := cB hb BK361
    replace BK362 := cB hb BK362
    replace BK368 := cB hb BK368
    replace BK373 := cB hb BK373
    replace HB := Aside0.mk (below_step (by first | exact HB.out | (repeat (first | exact HB.out | apply pw_below_drewN | apply below_drew1 | apply below_alloc))) hb)
    (try clear hb)
    (try clear hb2)
    (try clear hk)
    (try clear hi)
    refine hK.out _ _ ⟨(blk_cell BK358.out 0).trans rfl, (blk_cell BK358.out 1).trans rfl, (blk_cell BK358.out 2).trans rfl, (blk_cell BK359.out 0).trans rfl, (blk_cell BK359.out 1).trans rfl, (blk_cell BK359.out 2).trans rfl⟩ (fun hHeld => ?_)
    clear hK K
    refine norm_ (a' := ?_) ?_ ?_
    rotate_left
    ·show Act.put _ (some 59) _ = _
     simp only [Act.put, List.setIfInBounds_toArray, List.set_cons_zero, List.set_cons_succ, i64_w, i32_w]
     rfl
    refine pure_ (i := 23) (N := some 60) (v := ?_) (a' := ?_) (bm 51 16777215) rfl rfl (any_of HT_.out (by kernel_rfl)) (fun _ _ _ h => h) (Or.inl ⟨by rfl, ?_⟩) ?_ ?_
    rotate_left
    ·intro w'
     go_simp
     with_reducible rfl
    rotate_left
    ·simp only [Act.put, List.setIfInBounds_toArray, List.set_cons_zero, List.set_cons_succ, i64_w, i32_w]
     rfl
    refine pure_ (i := 24) (N := some 61) (v := ?_) (a' := ?_) (bm 51 33554431) rfl rfl (any_of HT_.out (by kernel_rfl)) (fun _ _ _ h => h) (Or.inl ⟨by rfl, ?_⟩) ?_ ?_
    rotate_left
    ·intro w'
     go_simp
     with_reducible rfl
    rotate_left
    ·simp only [Act.put, List.setIfInBounds_toArray, List.set_cons_zero, List.set_cons_succ, i64_w, i32_w]
     rfl
    refine pure_ (i := 25) (N := some 62) (v := ?_) (a' := ?_) (bm 51 67108863) rfl rfl (any_of HT_.out (by kernel_rfl)) (fun _ _ _ h => h) (Or.inl ⟨by rfl, ?_⟩) ?_ ?_
    rotate_left
    ·intro w'
     go_simp
     with_reducible rfl
    rotate_left
    ·simp only [Act.put, List.setIfInBounds_toArray, List.set_cons_zero, List.set_cons_succ, i64_w, i32_w]
     rfl
    refine pure_ (i := 26) (N := some 63) (v := undef) (a' := ?_) (bm 51 134217727) rfl rfl (any_of HT_.out (by kernel_rfl)) (fun _ _ _ h => h) (Or.inr ⟨by rfl, rfl⟩) ?_ ?_
    rotate_left
    ·simp only [Act.put, List.setIfInBounds_toArray, List.set_cons_zero, List.set_cons_succ, i64_w, i32_w]
     rfl
    refine pure_ (i := 27) (N := some 64) (v := undef) (a' := ?_) (bm 51 268435455) rfl rfl (any_of HT_.out (by kernel_rfl)) (fun _ _ _ h => h) (Or.inr ⟨by rfl, rfl⟩) ?_ ?_
    rotate_left
    ·simp only [Act.put, List.setIfInBounds_toArray, List.set_cons_zero, List.set_cons_succ, i64_w, i32_w]
     rfl
    refine pure_ (i := 28) (N := some 65) (v := undef) (a' := ?_) (bm 51 536870911) rfl rfl (any_of HT_.out (by kernel_rfl)) (fun _ _ _ h => h) (Or.inr ⟨by rfl, rfl⟩) ?_ ?_
    rotate_left
    ·simp only [Act.put, List.setIfInBounds_toArray, List.set_cons_zero, List.set_cons_succ, i64_w, i32_w]
     rfl
    refine pure_ (i := 29) (N := some 66) (v := ?_) (a' := ?_) (bm 51 1073741823) rfl rfl (any_of HT_.out (by kernel_rfl)) (fun _ _ _ h => h) (Or.inl ⟨by rfl, ?_⟩) ?_ ?_
    rotate_left
    ·intro w'
     go_simp
     with_reducible rfl
    rotate_left
    ·simp only [Act.put, List.setIfInBounds_toArray, List.set_cons_zero, List.set_cons_succ, i64_w, i32_w]
     rfl
    refine pure_ (i := 30) (N := some 67) (v := ?_) (a' := ?_) (bm 51 2147483647) rfl rfl (any_of HT_.out (by kernel_rfl)) (fun _ _ _ h => h) (Or.inl ⟨by rfl, ?_⟩) ?_ ?_
    rotate_left
    ·intro w'
     go_simp
     with_reducible rfl
    rotate_left
    ·simp only [Act.put, List.setIfInBounds_toArray, List.set_cons_zero, List.set_cons_succ, i64_w, i32_w]
     rfl
    refine pure_ (i := 31) (N := some 68) (v := undef) (a' := ?_) (bm 51 4294967295) rfl rfl (any_of HT_.out (by kernel_rfl)) (fun _ _ _ h => h) (Or.inr ⟨by rfl, rfl⟩) ?_ ?_
    rotate_left
    ·simp only [Act.put, List.setIfInBounds_toArray, List.set_cons_zero, List.set_cons_succ, i64_w, i32_w]
     rfl
    refine pure_ (i := 32) (N := some 69) (v := undef) (a' := ?_) (bm 51 8589934591) rfl rfl (any_of HT_.out (by kernel_rfl)) (fun _ _ _ h => h) (Or.inr ⟨by rfl, rfl⟩) ?_ ?_
    rotate_left
    ·simp only [Act.put, List.setIfInBounds_toArray, List.set_cons_zero, List.set_cons_succ, i64_w, i32_w]
     rfl
    refine pure_ (i := 33) (N := some 70) (v := undef) (a' := ?_) (bm 51 17179869183) rfl rfl (any_of HT_.out (by kernel_rfl)) (fun _ _ _ h => h) (Or.inr ⟨by rfl, rfl⟩) ?_ ?_
    rotate_left
    ·simp only [Act.put, List.setIfInBounds_toArray, List.set_cons_zero, List.set_cons_succ, i64_w, i32_w]
     rfl
    refine pure_ (i := 34) (N := some 71) (v := ?_) (a' := ?_) (bm 51 34359738367) rfl rfl (any_of HT_.out (by kernel_rfl)) (fun _ _ _ h => h) (Or.inl ⟨by rfl, ?_⟩) ?_ ?_
    rotate_left
    ·intro w'
     go_simp
     with_reducible rfl
    rotate_left
    ·simp only [Act.put, List.setIfInBounds_toArray, List.set_cons_zero, List.set_cons_succ, i64_w, i32_w]
     rfl
    refine pure_ (i := 35) (N := some 72) (v := ?_) (a' := ?_) (bm 51 68719476735) rfl rfl (any_of HT_.out (by kernel_rfl)) (fun _ _ _ h => h) (Or.inl ⟨by rfl, ?_⟩) ?_ ?_
    rotate_left
    ·intro w'
     go_simp
     with_reducible rfl
    rotate_left
    ·simp only [Act.put, List.setIfInBounds_toArray, List.set_cons_zero, List.set_cons_succ, i64_w, i32_w]
     rfl
    refine pure_ (i := 36) (N := some 73) (v := undef) (a' := ?_) (bm 51 137438953471) rfl rfl (any_of HT_.out (by kernel_rfl)) (fun _ _ _ h => h) (Or.inr ⟨by rfl, rfl⟩) ?_ ?_
    rotate_left
    ·simp only [Act.put, List.setIfInBounds_toArray, List.set_cons_zero, List.set_cons_succ, i64_w, i32_w]
     rfl
    refine pure_ (i := 37) (N := some 74) (v := undef) (a' := ?_) (bm 51 274877906943) rfl rfl (any_of HT_.out (by kernel_rfl)) (fun _ _ _ h => h) (Or.inr ⟨by rfl, rfl⟩) ?_ ?_
    rotate_left
    ·simp only [Act.put, List.setIfInBounds_toArray, List.set_cons_zero, List.set_cons_succ, i64_w, i32_w]
     rfl
    refine pure_ (i := 38) (N := some 75) (v := undef) (a' := ?_) (bm 51 549755813887) rfl rfl (any_of HT_.out (by kernel_rfl)) (fun _ _ _ h => h) (Or.inr ⟨by rfl, rfl⟩) ?_ ?_
    rotate_left
    ·simp only [Act.put, List.setIfInBounds_toArray, List.set_cons_zero, List.set_cons_succ, i64_w, i32_w]
     rfl
    refine pure_ (i := 39) (N := some 76) (v := undef) (a' := ?_) (bm 51 1099511627775) rfl rfl (any_of HT_.out (by kernel_rfl)) (fun _ _ _ h => h) (Or.inr ⟨by rfl, rfl⟩) ?_ ?_
    rotate_left
    ·simp only [Act.put, List.setIfInBounds_toArray, List.set_cons_zero, List.set_cons_succ, i64_w, i32_w]
     rfl
    refine pure_ (i := 40) (N := some 77) (v := undef) (a' := ?_) (bm 51 2199023255551) rfl rfl (any_of HT_.out (by kernel_rfl)) (fun _ _ _ h => h) (Or.inr ⟨by rfl, rfl⟩) ?_ ?_
    rotate_left
    ·simp only [Act.put, List.setIfInBounds_toArray, List.set_cons_zero, List.set_cons_succ, i64_w, i32_w]
     rfl
    refine pure_ (i := 41) (N := some 78) (v := undef) (a' := ?_) (bm 51 4398046511103) rfl rfl (any_of HT_.out (by kernel_rfl)) (fun _ _ _ h => h) (Or.inr ⟨by rfl, rfl⟩) ?_ ?_
    rotate_left
    ·simp only [Act.put, List.setIfInBounds_toArray, List.set_cons_zero, List.set_cons_succ, i64_w, i32_w]
     rfl
    refine pure_ (i := 42) (N := some 79) (v := undef) (a' := ?_) (bm 51 8796093022207) rfl rfl (any_of HT_.out (by kernel_rfl)) (fun _ _ _ h => h) (Or.inr ⟨by rfl, rfl⟩) ?_ ?_
    rotate_left
    ·simp only [Act.put, List.setIfInBounds_toArray, List.set_cons_zero, List.set_cons_succ, i64_w, i32_w]
     rfl
    refine pure_ (i := 43) (N := some 80) (v := undef) (a' := ?_) (bm 51 17592186044415) rfl rfl (any_of HT_.out (by kernel_rfl)) (fun _ _ _ h => h) (Or.inr ⟨by rfl, rfl⟩) ?_ ?_
    rotate_left
    ·simp only [Act.put, List.setIfInBounds_toArray, List.set_cons_zero, List.set_cons_succ, i64_w, i32_w]
     rfl
    refine pure_ (i := 44) (N := some 81) (v := undef) (a' := ?_) (bm 51 35184372088831) rfl rfl (any_of HT_.out (by kernel_rfl)) (fun _ _ _ h => h) (Or.inr ⟨by rfl, rfl⟩) ?_ ?_
    rotate_left
    ·simp only [Act.put, List.setIfInBounds_toArray, List.set_cons_zero, List.set_cons_succ, i64_w, i32_w]
     rfl
    refine pure_ (i := 45) (N := some 82) (v := undef) (a' := ?_) (bm 51 70368744177663) rfl rfl (any_of HT_.out (by kernel_rfl)) (fun _ _ _ h => h) (Or.inr ⟨by rfl, rfl⟩) ?_ ?_
    rotate_left
    ·simp only [Act.put, List.setIfInBounds_toArray, List.set_cons_zero, List.set_cons_succ, i64_w, i32_w]
     rfl
    refine pure_ (i := 46) (N := some 83) (v := undef) (a' := ?_) (bm 51 140737488355327) rfl rfl (any_of HT_.out (by kernel_rfl)) (fun _ _ _ h => h) (Or.inr ⟨by rfl, rfl⟩) ?_ ?_
    rotate_left
    ·simp only [Act.put, List.setIfInBounds_toArray, List.set_cons_zero, List.set_cons_succ, i64_w, i32_w]
     rfl
    refine pure_ (i := 47) (N := some 84) (v := undef) (a' := ?_) (bm 51 281474976710655) rfl rfl (any_of HT_.out (by kernel_rfl)) (fun _ _ _ h => h) (Or.inr ⟨by rfl, rfl⟩) ?_ ?_
    rotate_left
    ·simp only [Act.put, List.setIfInBounds_toArray, List.set_cons_zero, List.set_cons_succ, i64_w, i32_w]
     rfl
    refine pure_ (i := 48) (N := some 85) (v := undef) (a' := ?_) (bm 51 562949953421311) rfl rfl (any_of HT_.out (by kernel_rfl)) (fun _ _ _ h => h) (Or.inr ⟨by rfl, rfl⟩) ?_ ?_
    rotate_left
    ·simp only [Act.put, List.setIfInBounds_toArray, List.set_cons_zero, List.set_cons_succ, i64_w, i32_w]
     rfl
    refine pure_ (i := 49) (N := some 86) (v := ?_) (a' := ?_) (bm 51 1125899906842623) rfl rfl (any_of HT_.out (by kernel_rfl)) (fun _ _ _ h => h) (Or.inl ⟨by rfl, ?_⟩) ?_ ?_
    rotate_left
    ·intro w'
     go_simp
     with_reducible rfl
    rotate_left
    ·simp only [Act.put, List.setIfInBounds_toArray, List.set_cons_zero, List.set_cons_succ, i64_w, i32_w]
     rfl
    refine pure_ (i := 50) (N := some 16) (v := ?_) (a' := ?_) (bm 51 2251799813685247) rfl rfl (any_of HT_.out (by kernel_rfl)) (fun _ _ _ h => h) (Or.inl ⟨by rfl, ?_⟩) ?_ ?_
    rotate_left
    ·intro w'
     go_simp
     with_reducible rfl
    rotate_left
    ·simp only [Act.put, List.setIfInBounds_toArray, List.set_cons_zero, List.set_cons_succ, i64_w, i32_w]
     rfl
    refine done_ (done_of HT_.out (by kernel_rfl)) ?_
    try go_wp2
    go_ret
    exact ⟨by first | rfl | (simp [errW_none, errW_some] <;> rfl) | (simp [*, errW_none, errW_some] <;> rfl), by first | exact HB.out | (repeat (first | exact HB.out | apply pw_below_drewN | apply below_drew1 | apply below_alloc))⟩
   rw [if_neg c18] at H
   have c18b0 : (t376 == t377) = false := beq_eq_false_iff_ne.mpr c18
   have c18b1 : (t376 != t377) = true := bne_iff_ne.mpr c18
   obtain rfl := Option.some.inj H
   go_enter Try.func9, Try.ntmps9
   try go_wp2_with (first | ((with_reducible refine gate_dst (N := 8) rfl ?_); refine box_event ?hg (N := 8) ?hd (cs := #[.int .i64 a0_0, .int .i64 a0_1, .int .i64 a0_2]) (t := 26) ?hr ?_; (case hd => rfl); (case hg => rfl); (case hr => first | (go_simp; done) | (go_simp; rfl)); intro gb358 hg w160 hbox hb; have BK358 := Aside0.mk (hbox); have GE358 := Aside0.mk (bG hg (by first | exact HB.out | (repeat (first | exact HB.out | apply pw_below_drewN | apply below_drew1 | apply below_alloc)))); replace HB := Aside0.mk (below_step (by first | exact HB.out | (repeat (first | exact HB.out | apply pw_below_drewN | apply below_drew1 | apply below_alloc))) hb); clear hb hbox hg) | ((with_reducible refine gate_dst (N := 9) rfl ?_); refine box_event ?hg (N := 9) ?hd (cs := #[.int .i64 a1_0, .int .i64 a1_1, .int .i64 a1_2]) (t := 26) ?hr ?_; (case hd => rfl); (case hg => rfl); (case hr => first | (go_simp; done) | (go_simp; rfl)); intro gb359 hg w161 hbox hb; have BK359 := Aside0.mk (hbox); have GE359 := Aside0.mk (bG hg (by first | exact HB.out | (repeat (first | exact HB.out | apply pw_below_drewN | apply below_drew1 | apply below_alloc)))); have NB358_359 := cN hg BK358; have NB359_358 := cM hg BK358; replace BK358 := cB hb BK358; replace HB := Aside0.mk (below_step (by first | exact HB.out | (repeat (first | exact HB.out | apply pw_below_drewN | apply below_drew1 | apply below_alloc))) hb); clear hb hbox hg) | ((with_reducible refine gate_dst (N := 13) rfl ?_); refine box_event ?hg (N := 13) ?hd (cs := #[.int .i64 a5_0, .int .i64 a5_1, .int .i64 a5_2]) (t := 37) ?hr ?_; (case hd => rfl); (case hg => rfl); (case hr => first | (go_simp; done) | (go_simp; rfl)); intro gb360 hg w162 hbox hb; have BK360 := Aside0.mk (hbox); have GE360 := Aside0.mk (bG hg (by first | exact HB.out | (repeat (first | exact HB.out | apply pw_below_drewN | apply below_drew1 | apply below_alloc)))); have NB358_360 := cN hg BK358; have NB360_358 := cM hg BK358; have NB359_360 := cN hg BK359; have NB360_359 := cM hg BK359; replace BK358 := cB hb BK358; replace BK359 := cB hb BK359; replace HB := Aside0.mk (below_step (by first | exact HB.out | (repeat (first | exact HB.out | apply pw_below_drewN | apply below_drew1 | apply below_alloc))) hb); clear hb hbox hg) | ((with_reducible refine gate_dst (N := 14) rfl ?_); refine box_event ?hg (N := 14) ?hd (cs := #[.int .i64 a6_0, .int .i64 a6_1, .int .i64 a6_2]) (t := 37) ?hr ?_; (case hd => rfl); (case hg => rfl); (case hr => first | (go_simp; done) | (go_simp; rfl)); intro gb361 hg w163 hbox hb; have BK361 := Aside0.mk (hbox); have GE361 := Aside0.mk (bG hg (by first | exact HB.out | (repeat (first | exact HB.out | apply pw_below_drewN | apply below_drew1 | apply below_alloc)))); have NB358_361 := cN hg BK358; have NB361_358 := cM hg BK358; have NB359_361 := cN hg BK359; have NB361_359 := cM hg BK359; have NB360_361 := cN hg BK360; have NB361_360 := cM hg BK360; replace BK358 := cB hb BK358; replace BK359 := cB hb BK359; replace BK360 := cB hb BK360; replace HB := Aside0.mk (below_step (by first | exact HB.out | (repeat (first | exact HB.out | apply pw_below_drewN | apply below_drew1 | apply below_alloc))) hb); clear hb hbox hg) | ((with_reducible refine gate_dst (N := 15) rfl ?_); refine box_event ?hg (N := 15) ?hd (cs := #[.int .i64 a7_0, .int .i64 a7_1, .int .i64 a7_2]) (t := 37) ?hr ?_; (case hd => rfl); (case hg => rfl); (case hr => first | (go_simp; done) | (go_simp; rfl)); intro gb362 hg w164 hbox hb; have BK362 := Aside0.mk (hbox); have GE362 := Aside0.mk (bG hg (by first | exact HB.out | (repeat (first | exact HB.out | apply pw_below_drewN | apply below_drew1 | apply below_alloc)))); have NB358_362 := cN hg BK358; have NB362_358 := cM hg BK358; have NB359_362 := cN hg BK359; have NB362_359 := cM hg BK359; have NB360_362 := cN hg BK360; have NB362_360 := cM hg BK360; have NB361_362 := cN hg BK361; have NB362_361 := cM hg BK361; replace BK358 := cB hb BK358; replace BK359 := cB hb BK359; replace BK360 := cB hb BK360; replace BK361 := cB hb BK361; replace HB := Aside0.mk (below_step (by first | exact HB.out | (repeat (first | exact HB.out | apply pw_below_drewN | apply below_drew1 | apply below_alloc))) hb); clear hb hbox hg) | ((with_reducible refine gate_callee (f := 11) rfl ?_); refine goesL_ (some 21) rfl rfl Try.func11 (by kernel_rfl) rfl #[] rfl (by (try simp only [List.map_toArray, List.map_cons, List.map_nil]); first | done | rfl | (simp only [List.length_drop, List.length_take]; rfl)) ?_; (with_reducible refine (relievolaw19_alive.calls k  true _ A9.out).mono ?_); rintro e w165 ⟨rfl, hb⟩; refine ⟨_, rfl, ?_⟩; replace BK358 := cB hb BK358; replace BK359 := cB hb BK359; replace BK360 := cB hb BK360; replace BK361 := cB hb BK361; replace BK362 := cB hb BK362; replace HB := Aside0.mk (below_step (by first | exact HB.out | (repeat (first | exact HB.out | apply pw_below_drewN | apply below_drew1 | apply below_alloc))) hb); (try clear hb); (try clear hb2); (try clear hk); (try clear hi); obtain ⟨hcz166_0, hcz166_1, hcz166_2⟩ := cells3 BK358.out; obtain ⟨hcz167_0, hcz167_1, hcz167_2⟩ := cells3 BK359.out) | ((with_reducible refine gate_callee (f := 15) rfl ?_); refine goesL_ (some 27) rfl rfl Try.func15 (by kernel_rfl) rfl #[.agg #[.int .i64 a0_0, .int .i64 a0_1, .int .i64 a0_2], .agg #[.int .i64 a1_0, .int .i64 a1_1, .int .i64 a1_2], .int .i64 a2] rfl (by (try simp only [List.map_toArray, List.map_cons, List.map_nil]); first | done | rfl | (simp only [List.length_drop, List.length_take]; rfl)) ?_; (with_reducible refine (light_Refract.calls k a0_0 a0_1 a0_2 a1_0 a1_1 a1_2 a2 t364 t365 t366 t367 _ A11.out).mono ?_); rintro e w168 ⟨rfl, hb⟩; refine ⟨_, rfl, ?_⟩; replace BK358 := cB hb BK358; replace BK359 := cB hb BK359; replace BK360 := cB hb BK360; replace BK361 := cB hb BK361; replace BK362 := cB hb BK362; replace HB := Aside0.mk (below_step (by first | exact HB.out | (repeat (first | exact HB.out | apply pw_below_drewN | apply below_drew1 | apply below_alloc))) hb); (try clear hb); (try clear hb2); (try clear hk); (try clear hi)) | ((with_reducible refine gate_dst (N := 17) rfl ?_); refine box_event ?hg (N := 17) ?hd (cs := #[.int .i64 0, .int .i64 0, .int .i64 0]) (t := 26) ?hr ?_; (case hd => rfl); (case hg => rfl); (case hr => first | (go_simp; done) | (go_simp; rfl)); intro gb368 hg w169 hbox hb; have BK368 := Aside0.mk (hbox); have GE368 := Aside0.mk (bG hg (by first | exact HB.out | (repeat (first | exact HB.out | apply pw_below_drewN | apply below_drew1 | apply below_alloc)))); have NB358_368 := cN hg BK358; have NB368_358 := cM hg BK358; have NB359_368 := cN hg BK359; have NB368_359 := cM hg BK359; have NB360_368 := cN hg BK360; have NB368_360 := cM hg BK360; have NB361_368 := cN hg BK361; have NB368_361 := cM hg BK361; have NB362_368 := cN hg BK362; have NB368_362 := cM hg BK362; replace BK358 := cB hb BK358; replace BK359 := cB hb BK359; replace BK360 := cB hb BK360; replace BK361 := cB hb BK361; replace BK362 := cB hb BK362; replace HB := Aside0.mk (below_step (by first | exact HB.out | (repeat (first | exact HB.out | apply pw_below_drewN | apply below_drew1 | apply below_alloc))) hb); clear hb hbox hg; have hnb170 := NB368_358.out; have hnc170 := NB358_368.out; have hnb171 := NB368_359.out; have hnc171 := NB359_368.out; have hnb172 := NB368_360.out; have hnc172 := NB360_368.out; have hnb173 := NB368_361.out; have hnc173 := NB361_368.out; have hnb174 := NB368_362.out; have hnc174 := NB362_368.out; obtain ⟨hcz175_0, hcz175_1, hcz175_2⟩ := cells3 BK368.out; have hfz175_0 := blk_frozen BK368.out 0; have hfz175_1 := blk_frozen BK368.out 1; have hfz175_2 := blk_frozen BK368.out 2; obtain ⟨hcz176_0, hcz176_1, hcz176_2⟩ := cells3 BK358.out; obtain ⟨hcz177_0, hcz177_1, hcz177_2⟩ := cells3 BK359.out) | ((with_reducible refine gate_callee (f := 20) rfl ?_); refine goesL_ (some 34) rfl rfl Try.func20 (by kernel_rfl) rfl #[.agg #[.int .i64 a0_0, .int .i64 a0_1, .int .i64 a0_2], .agg #[.int .i64 a1_0, .int .i64 a1_1, .int .i64 a1_2], .int .i64 a2] rfl (by (try simp only [List.map_toArray, List.map_cons, List.map_nil]); first | done | rfl | (simp only [List.length_drop, List.length_take]; rfl)) ?_; (with_reducible refine (relievoref19_Refract.calls k a0_0 a0_1 a0_2 a1_0 a1_1 a1_2 a2 t369 t370 t371 t372 _ A12.out).mono ?_); rintro e w178 ⟨rfl, hb⟩; refine ⟨_, rfl, ?_⟩; replace BK358 := Aside0.mk (bB hb ((blk_far (blk_far (blk_far BK358.out NB358_368.out _) NB358_368.out _) NB358_368.out _))); replace BK359 := Aside0.mk (bB hb ((blk_far (blk_far (blk_far BK359.out NB359_368.out _) NB359_368.out _) NB359_368.out _))); replace BK360 := Aside0.mk (bB hb ((blk_far (blk_far (blk_far BK360.out NB360_368.out _) NB360_368.out _) NB360_368.out _))); replace BK361 := Aside0.mk (bB hb ((blk_far (blk_far (blk_far BK361.out NB361_368.out _) NB361_368.out _) NB361_368.out _))); replace BK362 := Aside0.mk (bB hb ((blk_far (blk_far (blk_far BK362.out NB362_368.out _) NB362_368.out _) NB362_368.out _))); replace BK368 := Aside0.mk (bB hb ((blk_put (cs' := #[.int .i64 t364, .int .i64 t365, .int .i64 t366]) (blk_put (blk_put BK368.out 0 _ rfl) 1 _ rfl) 2 _ rfl))); replace HB := Aside0.mk (below_step (by first | exact (below_set (below_set (below_set HB.out GE368.out) GE368.out) GE368.out) | (repeat (first | exact (below_set (below_set (below_set HB.out GE368.out) GE368.out) GE368.out) | apply pw_below_drewN | apply below_drew1 | apply below_alloc))) hb); (try clear hb); (try clear hb2); (try clear hk); (try clear hi)) | ((with_reducible refine gate_dst (N := 19) rfl ?_); refine box_event ?hg (N := 19) ?hd (cs := #[.int .i64 0, .int .i64 0, .int .i64 0]) (t := 26) ?hr ?_; (case hd => rfl); (case hg => rfl); (case hr => first | (go_simp; done) | (go_simp; rfl)); intro gb373 hg w179 hbox hb; have BK373 := Aside0.mk (hbox); have GE373 := Aside0.mk (bG hg (by first | exact HB.out | (repeat (first | exact HB.out | apply pw_below_drewN | apply below_drew1 | apply below_alloc)))); have NB358_373 := cN hg BK358; have NB373_358 := cM hg BK358; have NB359_373 := cN hg BK359; have NB373_359 := cM hg BK359; have NB360_373 := cN hg BK360; have NB373_360 := cM hg BK360; have NB361_373 := cN hg BK361; have NB373_361 := cM hg BK361; have NB362_373 := cN hg BK362; have NB373_362 := cM hg BK362; have NB368_373 := cN hg BK368; have NB373_368 := cM hg BK368; replace BK358 := cB hb BK358; replace BK359 := cB hb BK359; replace BK360 := cB hb BK360; replace BK361 := cB hb BK361; replace BK362 := cB hb BK362; replace BK368 := cB hb BK368; replace HB := Aside0.mk (below_step (by first | exact HB.out | (repeat (first | exact HB.out | apply pw_below_drewN | apply below_drew1 | apply below_alloc))) hb); clear hb hbox hg; have hnb180 := NB373_358.out; have hnc180 := NB358_373.out; have hnb181 := NB373_359.out; have hnc181 := NB359_373.out; have hnb182 := NB373_360.out; have hnc182 := NB360_373.out; have hnb183 := NB373_361.out; have hnc183 := NB361_373.out; have hnb184 := NB373_362.out; have hnc184 := NB362_373.out; have hnb185 := NB373_368.out; have hnc185 := NB368_373.out; obtain ⟨hcz186_0, hcz186_1, hcz186_2⟩ := cells3 BK373.out; have hfz186_0 := blk_frozen BK373.out 0; have hfz186_1 := blk_frozen BK373.out 1; have hfz186_2 := blk_frozen BK373.out 2))
   generalize hw_ : (((w179.setCell ⟨gb373, 0, none⟩ (.int .i64 t369)).setCell ⟨gb373, 1, none⟩ (.int .i64 t370)).setCell ⟨gb373, 2, none⟩ (.int .i64 t371)) = w187
   replace BK358 := Aside0.mk (bF hw_ (blk_far (blk_far (blk_far BK358.out NB358_373.out _) NB358_373.out _) NB358_373.out _))
   replace BK359 := Aside0.mk (bF hw_ (blk_far (blk_far (blk_far BK359.out NB359_373.out _) NB359_373.out _) NB359_373.out _))
   replace BK360 := Aside0.mk (bF hw_ (blk_far (blk_far (blk_far BK360.out NB360_373.out _) NB360_373.out _) NB360_373.out _))
   replace BK361 := Aside0.mk (bF hw_ (blk_far (blk_far (blk_far BK361.out NB361_373.out _) NB361_373.out _) NB361_373.out _))
   replace BK362 := Aside0.mk (bF hw_ (blk_far (blk_far (blk_far BK362.out NB362_373.out _) NB362_373.out _) NB362_373.out _))
   replace BK368 := Aside0.mk (bF hw_ (blk_far (blk_far (blk_far BK368.out NB368_373.out _) NB368_373.out _) NB368_373.out _))
   replace BK373 := Aside0.mk (bF hw_ (blk_put (cs' := #[.int .i64 t369, .int .i64 t370, .int .i64 t371]) (blk_put (blk_put BK373.out 0 _ rfl) 1 _ rfl) 2 _ rfl))
   replace HB := Aside0.mk (bH hw_ (by first | exact (below_set (below_set (below_set HB.out GE373.out) GE373.out) GE373.out) | (repeat (first | exact (below_set (below_set (below_set HB.out GE373.out) GE373.out) GE373.out) | apply pw_below_drewN | apply below_drew1 | apply below_alloc))))
   clear hw_
   replace BK358 := Aside0.mk (blk_drew BK358.out)
   replace BK359 := Aside0.mk (blk_drew BK359.out)
   replace BK360 := Aside0.mk (blk_drew BK360.out)
   replace BK361 := Aside0.mk (blk_drew BK361.out)
   replace BK362 := Aside0.mk (blk_drew BK362.out)
   replace BK368 := Aside0.mk (blk_drew BK368.out)
   replace BK373 := Aside0.mk (blk_drew BK373.out)
   replace HB := Aside0.mk (below_drew1 HB.out)
   refine start_ (n := 51) (S := fun w' => w'.cell? ⟨gb358, 0, none⟩ = some (.int .i64 a0_0) ∧ w'.cell? ⟨gb358, 1, none⟩ = some (.int .i64 a0_1) ∧ w'.cell? ⟨gb358, 2, none⟩ = some (.int .i64 a0_2) ∧ w'.cell? ⟨gb359, 0, none⟩ = some (.int .i64 a1_0) ∧ w'.cell? ⟨gb359, 1, none⟩ = some (.int .i64 a1_1) ∧ w'.cell? ⟨gb359, 2, none⟩ = some (.int .i64 a1_2)) (ds := []) #[false, false, false, false, false, false, false, false, false, false, false, false, false, false, false, false, false, false, false, false, false, false, false, false, false, false, false, false, false, false, false, false, false, false, false, false, false, false, false, false, false, false, false, false, false, false, false, false, false, false, false] (by kernel_rfl) rfl rfl ⟨(blk_cell BK358.out 0).trans rfl, (blk_cell BK358.out 1).trans rfl, (blk_cell BK358.out 2).trans rfl, (blk_cell BK359.out 0).trans rfl, (blk_cell BK359.out 1).trans rfl, (blk_cell BK359.out 2).trans rfl⟩ (fun hHeld => ?_); refine with_tabW relievolaw19_LightAnswers.tab5 relievolaw19_LightAnswers.bits5 (fun HT_ HW_ => ?_)
   generalize w187.drew = w188 at BK358 BK359 BK360 BK361 BK362 BK368 BK373 HB hHeld ⊢
   refine take_ (i := 0) (N := some 37) (v := ?_) (a' := ?_) (bm 51 1) rfl rfl (take_ofW HT_.out HW_.out (by kernel_rfl)) (fun _ _ _ h => h) (Or.inl ⟨by rfl, ?_⟩) hHeld ?_ ?_
   rotate_left
   ·rintro w' ⟨s0, s1, s2, s3, s4, s5⟩
    go_simp
    with_reducible rfl
   rotate_left
   ·simp only [Act.put, List.setIfInBounds_toArray, List.set_cons_zero, List.set_cons_succ, i64_w, i32_w]
    rfl
   refine take_ (i := 1) (N := some 38) (v := ?_) (a' := ?_) (bm 51 3) rfl rfl (take_ofW HT_.out HW_.out (by kernel_rfl)) (fun _ _ _ h => h) (Or.inl ⟨by rfl, ?_⟩) hHeld ?_ ?_
   rotate_left
   ·rintro w' ⟨s0, s1, s2, s3, s4, s5⟩
    go_simp
    with_reducible rfl
   rotate_left
   ·simp only [Act.put, List.setIfInBounds_toArray, List.set_cons_zero, List.set_cons_succ, i64_w, i32_w]
    rfl
   refine take_ (i := 3) (N := some 40) (v := ?_) (a' := ?_) (bm 51 11) rfl rfl (take_ofW HT_.out HW_.out (by kernel_rfl)) (fun _ _ _ h => h) (Or.inl ⟨by rfl, ?_⟩) hHeld ?_ ?_
   rotate_left
   ·rintro w' ⟨s0, s1, s2, s3, s4, s5⟩
    go_simp
    with_reducible rfl
   rotate_left
   ·simp only [Act.put, List.setIfInBounds_toArray, List.set_cons_zero, List.set_cons_succ, i64_w, i32_w]
    rfl
   refine take_ (i := 4) (N := some 41) (v := ?_) (a' := ?_) (bm 51 27) rfl rfl (take_ofW HT_.out HW_.out (by kernel_rfl)) (fun _ _ _ h => h) (Or.inl ⟨by rfl, ?_⟩) hHeld ?_ ?_
   rotate_left
   ·rintro w' ⟨s0, s1, s2, s3, s4, s5⟩
    go_simp
    with_reducible rfl
   rotate_left
   ·simp only [Act.put, List.setIfInBounds_toArray, List.set_cons_zero, List.set_cons_succ, i64_w, i32_w]
    rfl
   refine one_ (i := 2) (N := some 39) (bm 51 31) rfl rfl (one_of HT_.out (by kernel_rfl)) (by decide) (fun K hK => ?_)
   refine goes_ Try.func17 (by kernel_rfl) rfl #[.agg #[.int .i64 a0_0, .int .i64 a0_1, .int .i64 a0_2], .agg #[.int .i64 a1_0, .int .i64 a1_1, .int .i64 a1_2]] (by rfl) rfl rfl (by (try simp only [List.map_toArray, List.map_cons, List.map_nil]); first | done | rfl | (simp only [List.length_drop, List.length_take]; rfl)) ?_
   with_reducible refine (light_Cos.calls k a0_0 a0_1 a0_2 a1_0 a1_1 a1_2 t374 _ A13.out).mono ?_
   rintro e w189 ⟨rfl, hb⟩
   refine ⟨_, rfl, ?_⟩
   replace BK358 := cB hb BK358
   replace BK359 := cB hb BK359
   replace BK360 := cB hb BK360
   replace BK361 := cB hb BK361
   replace BK362 := cB hb BK362
   replace BK368 := cB hb BK368
   replace BK373 := cB hb BK373
   replace HB := Aside0.mk (below_step (by first | exact HB.out | (repeat (first | exact HB.out | apply pw_below_drewN | apply below_drew1 | apply below_alloc))) hb)
   (try clear hb)
   (try clear hb2)
   (try clear hk)
   (try clear hi)
   refine hK.out _ _ ⟨(blk_cell BK358.out 0).trans rfl, (blk_cell BK358.out 1).trans rfl, (blk_cell BK358.out 2).trans rfl, (blk_cell BK359.out 0).trans rfl, (blk_cell BK359.out 1).trans rfl, (blk_cell BK359.out 2).trans rfl⟩ (fun hHeld => ?_)
   clear hK K
   refine norm_ (a' := ?_) ?_ ?_
   rotate_left
   ·show Act.put _ (some 39) _ = _
    simp only [Act.put, List.setIfInBounds_toArray, List.set_cons_zero, List.set_cons_succ, i64_w, i32_w]
    rfl
   refine one_ (i := 5) (N := some 42) (bm 51 63) rfl rfl (one_of HT_.out (by kernel_rfl)) (by decide) (fun K hK => ?_)
   refine goes_ Try.func21 (by kernel_rfl) rfl #[.agg #[.int .i64 a0_0, .int .i64 a0_1, .int .i64 a0_2], .agg #[.int .i64 a1_0, .int .i64 a1_1, .int .i64 a1_2]] (by rfl) rfl rfl (by (try simp only [List.map_toArray, List.map_cons, List.map_nil]); first | done | rfl | (simp only [List.length_drop, List.length_take]; rfl)) ?_
   with_reducible refine (relievoref19_Cos.calls k a0_0 a0_1 a0_2 a1_0 a1_1 a1_2 t375 _ A14.out).mono ?_
   rintro e w190 ⟨rfl, hb⟩
   refine ⟨_, rfl, ?_⟩
   replace BK358 := cB hb BK358
   replace BK359 := cB hb BK359
   replace BK360 := cB hb BK360
   replace BK361 := cB hb BK361
   replace BK362 := cB hb BK362
   replace BK368 := cB hb BK368
   replace BK373 := cB hb BK373
   replace HB := Aside0.mk (below_step (by first | exact HB.out | (repeat (first | exact HB.out | apply pw_below_drewN | apply below_drew1 | apply below_alloc))) hb)
   (try clear hb)
   (try clear hb2)
   (try clear hk)
   (try clear hi)
   refine hK.out _ _ ⟨(blk_cell BK358.out 0).trans rfl, (blk_cell BK358.out 1).trans rfl, (blk_cell BK358.out 2).trans rfl, (blk_cell BK359.out 0).trans rfl, (blk_cell BK359.out 1).trans rfl, (blk_cell BK359.out 2).trans rfl⟩ (fun hHeld => ?_)
   clear hK K
   refine norm_ (a' := ?_) ?_ ?_
   rotate_left
   ·show Act.put _ (some 42) _ = _
    simp only [Act.put, List.setIfInBounds_toArray, List.set_cons_zero, List.set_cons_succ, i64_w, i32_w]
    rfl
   refine pure_ (i := 6) (N := some 43) (v := ?_) (a' := ?_) (bm 51 127) rfl rfl (any_of HT_.out (by kernel_rfl)) (fun _ _ _ h => h) (Or.inl ⟨by rfl, ?_⟩) ?_ ?_
   rotate_left
   ·intro w'
    go_simp
    with_reducible rfl
   rotate_left
   ·simp only [Act.put, List.setIfInBounds_toArray, List.set_cons_zero, List.set_cons_succ, i64_w, i32_w]
    rfl
   refine pure_ (i := 7) (N := some 44) (v := ?_) (a' := ?_) (bm 51 255) rfl rfl (any_of HT_.out (by kernel_rfl)) (fun _ _ _ h => h) (Or.inl ⟨by rfl, ?_⟩) ?_ ?_
   rotate_left
   ·intro w'
    go_simp
    with_reducible rfl
   rotate_left
   ·simp only [Act.put, List.setIfInBounds_toArray, List.set_cons_zero, List.set_cons_succ, i64_w, i32_w]
    rfl
   refine pure_ (i := 8) (N := some 45) (v := ?_) (a' := ?_) (bm 51 511) rfl rfl (any_of HT_.out (by kernel_rfl)) (fun _ _ _ h => h) (Or.inl ⟨by rfl, ?_⟩) ?_ ?_
   rotate_left
   ·intro w'
    go_simp
    with_reducible rfl
   rotate_left
   ·simp only [Act.put, List.setIfInBounds_toArray, List.set_cons_zero, List.set_cons_succ, i64_w, i32_w]
    rfl
   refine pure_ (i := 9) (N := some 46) (v := ?_) (a' := ?_) (bm 51 1023) rfl rfl (any_of HT_.out (by kernel_rfl)) (fun _ _ _ h => h) (Or.inl ⟨by rfl, ?_⟩) ?_ ?_
   rotate_left
   ·intro w'
    go_simp
    with_reducible rfl
   rotate_left
   ·simp only [Act.put, List.setIfInBounds_toArray, List.set_cons_zero, List.set_cons_succ, i64_w, i32_w]
    rfl
   refine pure_ (i := 11) (N := some 48) (v := ?_) (a' := ?_) (bm 51 3071) rfl rfl (any_of HT_.out (by kernel_rfl)) (fun _ _ _ h => h) (Or.inl ⟨by rfl, ?_⟩) ?_ ?_
   rotate_left
   ·intro w'
    go_simp
    with_reducible rfl
   rotate_left
   ·simp only [Act.put, List.setIfInBounds_toArray, List.set_cons_zero, List.set_cons_succ, i64_w, i32_w]
    rfl
   refine pure_ (i := 12) (N := some 49) (v := ?_) (a' := ?_) (bm 51 7167) rfl rfl (any_of HT_.out (by kernel_rfl)) (fun _ _ _ h => h) (Or.inl ⟨by rfl, ?_⟩) ?_ ?_
   rotate_left
   ·intro w'
    go_simp
    with_reducible rfl
   rotate_left
   ·simp only [Act.put, List.setIfInBounds_toArray, List.set_cons_zero, List.set_cons_succ, i64_w, i32_w]
    rfl
   refine one_ (i := 10) (N := some 47) (bm 51 8191) rfl rfl (one_of HT_.out (by kernel_rfl)) (by decide) (fun K hK => ?_)
   refine goes_ Try.func12 (by kernel_rfl) rfl #[.int .i64 a3, .int .i64 a4] (by rfl) rfl rfl (by (try simp only [List.map_toArray, List.map_cons, List.map_nil]); first | done | rfl | (simp only [List.length_drop, List.length_take]; rfl)) ?_
   with_reducible refine (light_Power.calls k a3 a4 t376 _ A16.out).mono ?_
   rintro e w' ⟨rfl, ⟨nd, rfl⟩⟩
   refine ⟨_, rfl, ?_⟩
   refine hK.out _ _ ⟨(blk_cell BK358.out 0).trans rfl, (blk_cell BK358.out 1).trans rfl, (blk_cell BK358.out 2).trans rfl, (blk_cell BK359.out 0).trans rfl, (blk_cell BK359.out 1).trans rfl, (blk_cell BK359.out 2).trans rfl⟩ (fun hHeld => ?_)
   clear hK K
   refine norm_ (a' := ?_) ?_ ?_
   rotate_left
   ·show Act.put _ (some 47) _ = _
    simp only [Act.put, List.setIfInBounds_toArray, List.set_cons_zero, List.set_cons_succ, i64_w, i32_w]
    rfl
   refine one_ (i := 13) (N := some 50) (bm 51 16383) rfl rfl (one_of HT_.out (by kernel_rfl)) (by decide) (fun K hK => ?_)
   refine goes_ Try.func22 (by kernel_rfl) rfl #[.int .i64 a3, .int .i64 a4] (by rfl) rfl rfl (by (try simp only [List.map_toArray, List.map_cons, List.map_nil]); first | done | rfl | (simp only [List.length_drop, List.length_take]; rfl)) ?_
   with_reducible refine (relievoref19_Power.calls k a3 a4 t377 _ A17.out).mono ?_
   rintro e w' ⟨rfl, ⟨nd, rfl⟩⟩
   refine ⟨_, rfl, ?_⟩
   refine hK.out _ _ ⟨(blk_cell BK358.out 0).trans rfl, (blk_cell BK358.out 1).trans rfl, (blk_cell BK358.out 2).trans rfl, (blk_cell BK359.out 0).trans rfl, (blk_cell BK359.out 1).trans rfl, (blk_cell BK359.out 2).trans rfl⟩ (fun hHeld => ?_)
   clear hK K
   refine norm_ (a' := ?_) ?_ ?_
   rotate_left
   ·show Act.put _ (some 50) _ = _
    simp only [Act.put, List.setIfInBounds_toArray, List.set_cons_zero, List.set_cons_succ, i64_w, i32_w]
    rfl
   refine pure_ (i := 14) (N := some 51) (v := ?_) (a' := ?_) (bm 51 32767) rfl rfl (any_of HT_.out (by kernel_rfl)) (fun _ _ _ h => h) (Or.inl ⟨by rfl, ?_⟩) ?_ ?_
   rotate_left
   ·intro w'
    go_simp
    with_reducible rfl
   rotate_left
   ·simp only [Act.put, List.setIfInBounds_toArray, List.set_cons_zero, List.set_cons_succ, i64_w, i32_w]
    rfl
   refine pure_ (i := 15) (N := some 52) (v := ?_) (a' := ?_) (bm 51 65535) rfl rfl (any_of HT_.out (by kernel_rfl)) (fun _ _ _ h => h) (Or.inl ⟨by rfl, ?_⟩) ?_ ?_
   rotate_left
   ·intro w'
    go_simp
    with_reducible rfl
   rotate_left
   ·simp only [Act.put, List.setIfInBounds_toArray, List.set_cons_zero, List.set_cons_succ, i64_w, i32_w]
    rfl
   refine pure_ (i := 16) (N := some 53) (v := ?_) (a' := ?_) (bm 51 131071) rfl rfl (any_of HT_.out (by kernel_rfl)) (fun _ _ _ h => h) (Or.inl ⟨by rfl, ?_⟩) ?_ ?_
   rotate_left
   ·intro w'
    go_simp
    with_reducible rfl
   rotate_left
   ·simp only [Act.put, List.setIfInBounds_toArray, List.set_cons_zero, List.set_cons_succ, i64_w, i32_w]
    rfl
   refine pure_ (i := 17) (N := some 54) (v := undef) (a' := ?_) (bm 51 262143) rfl rfl (any_of HT_.out (by kernel_rfl)) (fun _ _ _ h => h) (Or.inr ⟨by rfl, rfl⟩) ?_ ?_
   rotate_left
   ·simp only [Act.put, List.setIfInBounds_toArray, List.set_cons_zero, List.set_cons_succ, i64_w, i32_w]
    rfl
   refine pure_ (i := 18) (N := some 55) (v := undef) (a' := ?_) (bm 51 524287) rfl rfl (any_of HT_.out (by kernel_rfl)) (fun _ _ _ h => h) (Or.inr ⟨by rfl, rfl⟩) ?_ ?_
   rotate_left
   ·simp only [Act.put, List.setIfInBounds_toArray, List.set_cons_zero, List.set_cons_succ, i64_w, i32_w]
    rfl
   refine pure_ (i := 19) (N := some 56) (v := undef) (a' := ?_) (bm 51 1048575) rfl rfl (any_of HT_.out (by kernel_rfl)) (fun _ _ _ h => h) (Or.inr ⟨by rfl, rfl⟩) ?_ ?_
   rotate_left
   ·simp only [Act.put, List.setIfInBounds_toArray, List.set_cons_zero, List.set_cons_succ, i64_w, i32_w]
    rfl
   refine pure_ (i := 20) (N := some 57) (v := undef) (a' := ?_) (bm 51 2097151) rfl rfl (any_of HT_.out (by kernel_rfl)) (fun _ _ _ h => h) (Or.inr ⟨by rfl, rfl⟩) ?_ ?_
   rotate_left
   ·simp only [Act.put, List.setIfInBounds_toArray, List.set_cons_zero, List.set_cons_succ, i64_w, i32_w]
    rfl
   refine pure_ (i := 21) (N := some 58) (v := undef) (a' := ?_) (bm 51 4194303) rfl rfl (any_of HT_.out (by kernel_rfl)) (fun _ _ _ h => h) (Or.inr ⟨by rfl, rfl⟩) ?_ ?_
   rotate_left
   ·simp only [Act.put, List.setIfInBounds_toArray, List.set_cons_zero, List.set_cons_succ, i64_w, i32_w]
    rfl
   refine pure_ (i := 22) (N := some 59) (v := undef) (a' := ?_) (bm 51 8388607) rfl rfl (any_of HT_.out (by kernel_rfl)) (fun _ _ _ h => h) (Or.inr ⟨by rfl, rfl⟩) ?_ ?_
   rotate_left
   ·simp only [Act.put, List.setIfInBounds_toArray, List.set_cons_zero, List.set_cons_succ, i64_w, i32_w]
    rfl
   refine pure_ (i := 23) (N := some 60) (v := undef) (a' := ?_) (bm 51 16777215) rfl rfl (any_of HT_.out (by kernel_rfl)) (fun _ _ _ h => h) (Or.inr ⟨by rfl, rfl⟩) ?_ ?_
   rotate_left
   ·simp only [Act.put, List.setIfInBounds_toArray, List.set_cons_zero, List.set_cons_succ, i64_w, i32_w]
    rfl
   refine pure_ (i := 24) (N := some 61) (v := ?_) (a' := ?_) (bm 51 33554431) rfl rfl (any_of HT_.out (by kernel_rfl)) (fun _ _ _ h => h) (Or.inl ⟨by rfl, ?_⟩) ?_ ?_
   rotate_left
   ·intro w'
    go_simp
    with_reducible rfl
   rotate_left
   ·simp only [Act.put, List.setIfInBounds_toArray, List.set_cons_zero, List.set_cons_succ, i64_w, i32_w]
    rfl
   refine pure_ (i := 25) (N := some 62) (v := ?_) (a' := ?_) (bm 51 67108863) rfl rfl (any_of HT_.out (by kernel_rfl)) (fun _ _ _ h => h) (Or.inl ⟨by rfl, ?_⟩) ?_ ?_
   rotate_left
   ·intro w'
    go_simp
    with_reducible rfl
   rotate_left
   ·simp only [Act.put, List.setIfInBounds_toArray, List.set_cons_zero, List.set_cons_succ, i64_w, i32_w]
    rfl
   refine pure_ (i := 26) (N := some 63) (v := undef) (a' := ?_) (bm 51 134217727) rfl rfl (any_of HT_.out (by kernel_rfl)) (fun _ _ _ h => h) (Or.inr ⟨by rfl, rfl⟩) ?_ ?_
   rotate_left
   ·simp only [Act.put, List.setIfInBounds_toArray, List.set_cons_zero, List.set_cons_succ, i64_w, i32_w]
    rfl
   refine pure_ (i := 27) (N := some 64) (v := undef) (a' := ?_) (bm 51 268435455) rfl rfl (any_of HT_.out (by kernel_rfl)) (fun _ _ _ h => h) (Or.inr ⟨by rfl, rfl⟩) ?_ ?_
   rotate_left
   ·simp only [Act.put, List.setIfInBounds_toArray, List.set_cons_zero, List.set_cons_succ, i64_w, i32_w]
    rfl
   refine pure_ (i := 28) (N := some 65) (v := undef) (a' := ?_) (bm 51 536870911) rfl rfl (any_of HT_.out (by kernel_rfl)) (fun _ _ _ h => h) (Or.inr ⟨by rfl, rfl⟩) ?_ ?_
   rotate_left
   ·simp only [Act.put, List.setIfInBounds_toArray, List.set_cons_zero, List.set_cons_succ, i64_w, i32_w]
    rfl
   refine pure_ (i := 29) (N := some 66) (v := ?_) (a' := ?_) (bm 51 1073741823) rfl rfl (any_of HT_.out (by kernel_rfl)) (fun _ _ _ h => h) (Or.inl ⟨by rfl, ?_⟩) ?_ ?_
   rotate_left
   ·intro w'
    go_simp
    with_reducible rfl
   rotate_left
   ·simp only [Act.put, List.setIfInBounds_toArray, List.set_cons_zero, List.set_cons_succ, i64_w, i32_w]
    rfl
   refine pure_ (i := 30) (N := some 67) (v := ?_) (a' := ?_) (bm 51 2147483647) rfl rfl (any_of HT_.out (by kernel_rfl)) (fun _ _ _ h => h) (Or.inl ⟨by rfl, ?_⟩) ?_ ?_
   rotate_left
   ·intro w'
    go_simp
    with_reducible rfl
   rotate_left
   ·simp only [Act.put, List.setIfInBounds_toArray, List.set_cons_zero, List.set_cons_succ, i64_w, i32_w]
    rfl
   refine pure_ (i := 31) (N := some 68) (v := undef) (a' := ?_) (bm 51 4294967295) rfl rfl (any_of HT_.out (by kernel_rfl)) (fun _ _ _ h => h) (Or.inr ⟨by rfl, rfl⟩) ?_ ?_
   rotate_left
   ·simp only [Act.put, List.setIfInBounds_toArray, List.set_cons_zero, List.set_cons_succ, i64_w, i32_w]
    rfl
   refine pure_ (i := 32) (N := some 69) (v := undef) (a' := ?_) (bm 51 8589934591) rfl rfl (any_of HT_.out (by kernel_rfl)) (fun _ _ _ h => h) (Or.inr ⟨by rfl, rfl⟩) ?_ ?_
   rotate_left
   ·simp only [Act.put, List.setIfInBounds_toArray, List.set_cons_zero, List.set_cons_succ, i64_w, i32_w]
    rfl
   refine pure_ (i := 33) (N := some 70) (v := undef) (a' := ?_) (bm 51 17179869183) rfl rfl (any_of HT_.out (by kernel_rfl)) (fun _ _ _ h => h) (Or.inr ⟨by rfl, rfl⟩) ?_ ?_
   rotate_left
   ·simp only [Act.put, List.setIfInBounds_toArray, List.set_cons_zero, List.set_cons_succ, i64_w, i32_w]
    rfl
   refine pure_ (i := 34) (N := some 71) (v := ?_) (a' := ?_) (bm 51 34359738367) rfl rfl (any_of HT_.out (by kernel_rfl)) (fun _ _ _ h => h) (Or.inl ⟨by rfl, ?_⟩) ?_ ?_
   rotate_left
   ·intro w'
    go_simp
    with_reducible rfl
   rotate_left
   ·simp only [Act.put, List.setIfInBounds_toArray, List.set_cons_zero, List.set_cons_succ, i64_w, i32_w]
    rfl
   refine pure_ (i := 35) (N := some 72) (v := ?_) (a' := ?_) (bm 51 68719476735) rfl rfl (any_of HT_.out (by kernel_rfl)) (fun _ _ _ h => h) (Or.inl ⟨by rfl, ?_⟩) ?_ ?_
   rotate_left
   ·intro w'
    go_simp
    with_reducible rfl
   rotate_left
   ·simp only [Act.put, List.setIfInBounds_toArray, List.set_cons_zero, List.set_cons_succ, i64_w, i32_w]
    rfl
   refine pure_ (i := 36) (N := some 73) (v := undef) (a' := ?_) (bm 51 137438953471) rfl rfl (any_of HT_.out (by kernel_rfl)) (fun _ _ _ h => h) (Or.inr ⟨by rfl, rfl⟩) ?_ ?_
   rotate_left
   ·simp only [Act.put, List.setIfInBounds_toArray, List.set_cons_zero, List.set_cons_succ, i64_w, i32_w]
    rfl
   refine pure_ (i := 37) (N := some 74) (v := undef) (a' := ?_) (bm 51 274877906943) rfl rfl (any_of HT_.out (by kernel_rfl)) (fun _ _ _ h => h) (Or.inr ⟨by rfl, rfl⟩) ?_ ?_
   rotate_left
   ·simp only [Act.put, List.setIfInBounds_toArray, List.set_cons_zero, List.set_cons_succ, i64_w, i32_w]
    rfl
   refine pure_ (i := 38) (N := some 75) (v := undef) (a' := ?_) (bm 51 549755813887) rfl rfl (any_of HT_.out (by kernel_rfl)) (fun _ _ _ h => h) (Or.inr ⟨by rfl, rfl⟩) ?_ ?_
   rotate_left
   ·simp only [Act.put, List.setIfInBounds_toArray, List.set_cons_zero, List.set_cons_succ, i64_w, i32_w]
    rfl
   refine pure_ (i := 39) (N := some 76) (v := undef) (a' := ?_) (bm 51 1099511627775) rfl rfl (any_of HT_.out (by kernel_rfl)) (fun _ _ _ h => h) (Or.inr ⟨by rfl, rfl⟩) ?_ ?_
   rotate_left
   ·simp only [Act.put, List.setIfInBounds_toArray, List.set_cons_zero, List.set_cons_succ, i64_w, i32_w]
    rfl
   refine pure_ (i := 40) (N := some 77) (v := undef) (a' := ?_) (bm 51 2199023255551) rfl rfl (any_of HT_.out (by kernel_rfl)) (fun _ _ _ h => h) (Or.inr ⟨by rfl, rfl⟩) ?_ ?_
   rotate_left
   ·simp only [Act.put, List.setIfInBounds_toArray, List.set_cons_zero, List.set_cons_succ, i64_w, i32_w]
    rfl
   refine pure_ (i := 41) (N := some 78) (v := undef) (a' := ?_) (bm 51 4398046511103) rfl rfl (any_of HT_.out (by kernel_rfl)) (fun _ _ _ h => h) (Or.inr ⟨by rfl, rfl⟩) ?_ ?_
   rotate_left
   ·simp only [Act.put, List.setIfInBounds_toArray, List.set_cons_zero, List.set_cons_succ, i64_w, i32_w]
    rfl
   refine pure_ (i := 42) (N := some 79) (v := undef) (a' := ?_) (bm 51 8796093022207) rfl rfl (any_of HT_.out (by kernel_rfl)) (fun _ _ _ h => h) (Or.inr ⟨by rfl, rfl⟩) ?_ ?_
   rotate_left
   ·simp only [Act.put, List.setIfInBounds_toArray, List.set_cons_zero, List.set_cons_succ, i64_w, i32_w]
    rfl
   refine pure_ (i := 43) (N := some 80) (v := undef) (a' := ?_) (bm 51 17592186044415) rfl rfl (any_of HT_.out (by kernel_rfl)) (fun _ _ _ h => h) (Or.inr ⟨by rfl, rfl⟩) ?_ ?_
   rotate_left
   ·simp only [Act.put, List.setIfInBounds_toArray, List.set_cons_zero, List.set_cons_succ, i64_w, i32_w]
    rfl
   refine pure_ (i := 44) (N := some 81) (v := undef) (a' := ?_) (bm 51 35184372088831) rfl rfl (any_of HT_.out (by kernel_rfl)) (fun _ _ _ h => h) (Or.inr ⟨by rfl, rfl⟩) ?_ ?_
   rotate_left
   ·simp only [Act.put, List.setIfInBounds_toArray, List.set_cons_zero, List.set_cons_succ, i64_w, i32_w]
    rfl
   refine pure_ (i := 45) (N := some 82) (v := undef) (a' := ?_) (bm 51 70368744177663) rfl rfl (any_of HT_.out (by kernel_rfl)) (fun _ _ _ h => h) (Or.inr ⟨by rfl, rfl⟩) ?_ ?_
   rotate_left
   ·simp only [Act.put, List.setIfInBounds_toArray, List.set_cons_zero, List.set_cons_succ, i64_w, i32_w]
    rfl
   refine pure_ (i := 46) (N := some 83) (v := undef) (a' := ?_) (bm 51 140737488355327) rfl rfl (any_of HT_.out (by kernel_rfl)) (fun _ _ _ h => h) (Or.inr ⟨by rfl, rfl⟩) ?_ ?_
   rotate_left
   ·simp only [Act.put, List.setIfInBounds_toArray, List.set_cons_zero, List.set_cons_succ, i64_w, i32_w]
    rfl
   refine pure_ (i := 47) (N := some 84) (v := undef) (a' := ?_) (bm 51 281474976710655) rfl rfl (any_of HT_.out (by kernel_rfl)) (fun _ _ _ h => h) (Or.inr ⟨by rfl, rfl⟩) ?_ ?_
   rotate_left
   ·simp only [Act.put, List.setIfInBounds_toArray, List.set_cons_zero, List.set_cons_succ, i64_w, i32_w]
    rfl
   refine pure_ (i := 48) (N := some 85) (v := undef) (a' := ?_) (bm 51 562949953421311) rfl rfl (any_of HT_.out (by kernel_rfl)) (fun _ _ _ h => h) (Or.inr ⟨by rfl, rfl⟩) ?_ ?_
   rotate_left
   ·simp only [Act.put, List.setIfInBounds_toArray, List.set_cons_zero, List.set_cons_succ, i64_w, i32_w]
    rfl
   refine pure_ (i := 49) (N := some 86) (v := ?_) (a' := ?_) (bm 51 1125899906842623) rfl rfl (any_of HT_.out (by kernel_rfl)) (fun _ _ _ h => h) (Or.inl ⟨by rfl, ?_⟩) ?_ ?_
   rotate_left
   ·intro w'
    go_simp
    with_reducible rfl
   rotate_left
   ·simp only [Act.put, List.setIfInBounds_toArray, List.set_cons_zero, List.set_cons_succ, i64_w, i32_w]
    rfl
   refine pure_ (i := 50) (N := some 16) (v := ?_) (a' := ?_) (bm 51 2251799813685247) rfl rfl (any_of HT_.out (by kernel_rfl)) (fun _ _ _ h => h) (Or.inl ⟨by rfl, ?_⟩) ?_ ?_
   rotate_left
   ·intro w'
    go_simp
    with_reducible rfl
   rotate_left
   ·simp only [Act.put, List.setIfInBounds_toArray, List.set_cons_zero, List.set_cons_succ, i64_w, i32_w]
    rfl
   refine done_ (done_of HT_.out (by kernel_rfl)) ?_
   try go_wp2
   go_ret
   exact ⟨by first | rfl | (simp [errW_none, errW_some] <;> rfl) | (simp [*, errW_none, errW_some] <;> rfl), by first | exact HB.out | (repeat (first | exact HB.out | apply pw_below_drewN | apply below_drew1 | apply below_alloc))⟩
  rw [if_neg c15] at H
  have c15b0 : (t374 == t375) = false := beq_eq_false_iff_ne.mpr c15
  have c15b1 : (t374 != t375) = true := bne_iff_ne.mpr c15
  obtain rfl := Option.some.inj H
  go_enter Try.func9, Try.ntmps9
  try go_wp2_with (first | ((with_reducible refine gate_dst (N := 8) rfl ?_); refine box_event ?hg (N := 8) ?hd (cs := #[.int .i64 a0_0, .int .i64 a0_1, .int .i64 a0_2]) (t := 26) ?hr ?_; (case hd => rfl); (case hg => rfl); (case hr => first | (go_simp; done) | (go_simp; rfl)); intro gb358 hg w191 hbox hb; have BK358 := Aside0.mk (hbox); have GE358 := Aside0.mk (bG hg (by first | exact HB.out | (repeat (first | exact HB.out | apply pw_below_drewN | apply below_drew1 | apply below_alloc)))); replace HB := Aside0.mk (below_step (by first | exact HB.out | (repeat (first | exact HB.out | apply pw_below_drewN | apply below_drew1 | apply below_alloc))) hb); clear hb hbox hg) | ((with_reducible refine gate_dst (N := 9) rfl ?_); refine box_event ?hg (N := 9) ?hd (cs := #[.int .i64 a1_0, .int .i64 a1_1, .int .i64 a1_2]) (t := 26) ?hr ?_; (case hd => rfl); (case hg => rfl); (case hr => first | (go_simp; done) | (go_simp; rfl)); intro gb359 hg w192 hbox hb; have BK359 := Aside0.mk (hbox); have GE359 := Aside0.mk (bG hg (by first | exact HB.out | (repeat (first | exact HB.out | apply pw_below_drewN | apply below_drew1 | apply below_alloc)))); have NB358_359 := cN hg BK358; have NB359_358 := cM hg BK358; replace BK358 := cB hb BK358; replace HB := Aside0.mk (below_step (by first | exact HB.out | (repeat (first | exact HB.out | apply pw_below_drewN | apply below_drew1 | apply below_alloc))) hb); clear hb hbox hg) | ((with_reducible refine gate_dst (N := 13) rfl ?_); refine box_event ?hg (N := 13) ?hd (cs := #[.int .i64 a5_0, .int .i64 a5_1, .int .i64 a5_2]) (t := 37) ?hr ?_; (case hd => rfl); (case hg => rfl); (case hr => first | (go_simp; done) | (go_simp; rfl)); intro gb360 hg w193 hbox hb; have BK360 := Aside0.mk (hbox); have GE360 := Aside0.mk (bG hg (by first | exact HB.out | (repeat (first | exact HB.out | apply pw_below_drewN | apply below_drew1 | apply below_alloc)))); have NB358_360 := cN hg BK358; have NB360_358 := cM hg BK358; have NB359_360 := cN hg BK359; have NB360_359 := cM hg BK359; replace BK358 := cB hb BK358; replace BK359 := cB hb BK359; replace HB := Aside0.mk (below_step (by first | exact HB.out | (repeat (first | exact HB.out | apply pw_below_drewN | apply below_drew1 | apply below_alloc))) hb); clear hb hbox hg) | ((with_reducible refine gate_dst (N := 14) rfl ?_); refine box_event ?hg (N := 14) ?hd (cs := #[.int .i64 a6_0, .int .i64 a6_1, .int .i64 a6_2]) (t := 37) ?hr ?_; (case hd => rfl); (case hg => rfl); (case hr => first | (go_simp; done) | (go_simp; rfl)); intro gb361 hg w194 hbox hb; have BK361 := Aside0.mk (hbox); have GE361 := Aside0.mk (bG hg (by first | exact HB.out | (repeat (first | exact HB.out | apply pw_below_drewN | apply below_drew1 | apply below_alloc)))); have NB358_361 := cN hg BK358; have NB361_358 := cM hg BK358; have NB359_361 := cN hg BK359; have NB361_359 := cM hg BK359; have NB360_361 := cN hg BK360; have NB361_360 := cM hg BK360; replace BK358 := cB hb BK358; replace BK359 := cB hb BK359; replace BK360 := cB hb BK360; replace HB := Aside0.mk (below_step (by first | exact HB.out | (repeat (first | exact HB.out | apply pw_below_drewN | apply below_drew1 | apply below_alloc))) hb); clear hb hbox hg) | ((with_reducible refine gate_dst (N := 15) rfl ?_); refine box_event ?hg (N := 15) ?hd (cs := #[.int .i64 a7_0, .int .i64 a7_1, .int .i64 a7_2]) (t := 37) ?hr ?_; (case hd => rfl); (case hg => rfl); (case hr => first | (go_simp; done) | (go_simp; rfl)); intro gb362 hg w195 hbox hb; have BK362 := Aside0.mk (hbox); have GE362 := Aside0.mk (bG hg (by first | exact HB.out | (repeat (first | exact HB.out | apply pw_below_drewN | apply below_drew1 | apply below_alloc)))); have NB358_362 := cN hg BK358; have NB362_358 := cM hg BK358; have NB359_362 := cN hg BK359; have NB362_359 := cM hg BK359; have NB360_362 := cN hg BK360; have NB362_360 := cM hg BK360; have NB361_362 := cN hg BK361; have NB362_361 := cM hg BK361; replace BK358 := cB hb BK358; replace BK359 := cB hb BK359; replace BK360 := cB hb BK360; replace BK361 := cB hb BK361; replace HB := Aside0.mk (below_step (by first | exact HB.out | (repeat (first | exact HB.out | apply pw_below_drewN | apply below_drew1 | apply below_alloc))) hb); clear hb hbox hg) | ((with_reducible refine gate_callee (f := 11) rfl ?_); refine goesL_ (some 21) rfl rfl Try.func11 (by kernel_rfl) rfl #[] rfl (by (try simp only [List.map_toArray, List.map_cons, List.map_nil]); first | done | rfl | (simp only [List.length_drop, List.length_take]; rfl)) ?_; (with_reducible refine (relievolaw19_alive.calls k  true _ A9.out).mono ?_); rintro e w196 ⟨rfl, hb⟩; refine ⟨_, rfl, ?_⟩; replace BK358 := cB hb BK358; replace BK359 := cB hb BK359; replace BK360 := cB hb BK360; replace BK361 := cB hb BK361; replace BK362 := cB hb BK362; replace HB := Aside0.mk (below_step (by first | exact HB.out | (repeat (first | exact HB.out | apply pw_below_drewN | apply below_drew1 | apply below_alloc))) hb); (try clear hb); (try clear hb2); (try clear hk); (try clear hi); obtain ⟨hcz197_0, hcz197_1, hcz197_2⟩ := cells3 BK358.out; obtain ⟨hcz198_0, hcz198_1, hcz198_2⟩ := cells3 BK359.out) | ((with_reducible refine gate_callee (f := 15) rfl ?_); refine goesL_ (some 27) rfl rfl Try.func15 (by kernel_rfl) rfl #[.agg #[.int .i64 a0_0, .int .i64 a0_1, .int .i64 a0_2], .agg #[.int .i64 a1_0, .int .i64 a1_1, .int .i64 a1_2], .int .i64 a2] rfl (by (try simp only [List.map_toArray, List.map_cons, List.map_nil]); first | done | rfl | (simp only [List.length_drop, List.length_take]; rfl)) ?_; (with_reducible refine (light_Refract.calls k a0_0 a0_1 a0_2 a1_0 a1_1 a1_2 a2 t364 t365 t366 t367 _ A11.out).mono ?_); rintro e w199 ⟨rfl, hb⟩; refine ⟨_, rfl, ?_⟩; replace BK358 := cB hb BK358; replace BK359 := cB hb BK359; replace BK360 := cB hb BK360; replace BK361 := cB hb BK361; replace BK362 := cB hb BK362; replace HB := Aside0.mk (below_step (by first | exact HB.out | (repeat (first | exact HB.out | apply pw_below_drewN | apply below_drew1 | apply below_alloc))) hb); (try clear hb); (try clear hb2); (try clear hk); (try clear hi)) | ((with_reducible refine gate_dst (N := 17) rfl ?_); refine box_event ?hg (N := 17) ?hd (cs := #[.int .i64 0, .int .i64 0, .int .i64 0]) (t := 26) ?hr ?_; (case hd => rfl); (case hg => rfl); (case hr => first | (go_simp; done) | (go_simp; rfl)); intro gb368 hg w200 hbox hb; have BK368 := Aside0.mk (hbox); have GE368 := Aside0.mk (bG hg (by first | exact HB.out | (repeat (first | exact HB.out | apply pw_below_drewN | apply below_drew1 | apply below_alloc)))); have NB358_368 := cN hg BK358; have NB368_358 := cM hg BK358; have NB359_368 := cN hg BK359; have NB368_359 := cM hg BK359; have NB360_368 := cN hg BK360; have NB368_360 := cM hg BK360; have NB361_368 := cN hg BK361; have NB368_361 := cM hg BK361; have NB362_368 := cN hg BK362; have NB368_362 := cM hg BK362; replace BK358 := cB hb BK358; replace BK359 := cB hb BK359; replace BK360 := cB hb BK360; replace BK361 := cB hb BK361; replace BK362 := cB hb BK362; replace HB := Aside0.mk (below_step (by first | exact HB.out | (repeat (first | exact HB.out | apply pw_below_drewN | apply below_drew1 | apply below_alloc))) hb); clear hb hbox hg; have hnb201 := NB368_358.out; have hnc201 := NB358_368.out; have hnb202 := NB368_359.out; have hnc202 := NB359_368.out; have hnb203 := NB368_360.out; have hnc203 := NB360_368.out; have hnb204 := NB368_361.out; have hnc204 := NB361_368.out; have hnb205 := NB368_362.out; have hnc205 := NB362_368.out; obtain ⟨hcz206_0, hcz206_1, hcz206_2⟩ := cells3 BK368.out; have hfz206_0 := blk_frozen BK368.out 0; have hfz206_1 := blk_frozen BK368.out 1; have hfz206_2 := blk_frozen BK368.out 2; obtain ⟨hcz207_0, hcz207_1, hcz207_2⟩ := cells3 BK358.out; obtain ⟨hcz208_0, hcz208_1, hcz208_2⟩ := cells3 BK359.out) | ((with_reducible refine gate_callee (f := 20) rfl ?_); refine goesL_ (some 34) rfl rfl Try.func20 (by kernel_rfl) rfl #[.agg #[.int .i64 a0_0, .int .i64 a0_1, .int .i64 a0_2], .agg #[.int .i64 a1_0, .int .i64 a1_1, .int .i64 a1_2], .int .i64 a2] rfl (by (try simp only [List.map_toArray, List.map_cons, List.map_nil]); first | done | rfl | (simp only [List.length_drop, List.length_take]; rfl)) ?_; (with_reducible refine (relievoref19_Refract.calls k a0_0 a0_1 a0_2 a1_0 a1_1 a1_2 a2 t369 t370 t371 t372 _ A12.out).mono ?_); rintro e w209 ⟨rfl, hb⟩; refine ⟨_, rfl, ?_⟩; replace BK358 := Aside0.mk (bB hb ((blk_far (blk_far (blk_far BK358.out NB358_368.out _) NB358_368.out _) NB358_368.out _))); replace BK359 := Aside0.mk (bB hb ((blk_far (blk_far (blk_far BK359.out NB359_368.out _) NB359_368.out _) NB359_368.out _))); replace BK360 := Aside0.mk (bB hb ((blk_far (blk_far (blk_far BK360.out NB360_368.out _) NB360_368.out _) NB360_368.out _))); replace BK361 := Aside0.mk (bB hb ((blk_far (blk_far (blk_far BK361.out NB361_368.out _) NB361_368.out _) NB361_368.out _))); replace BK362 := Aside0.mk (bB hb ((blk_far (blk_far (blk_far BK362.out NB362_368.out _) NB362_368.out _) NB362_368.out _))); replace BK368 := Aside0.mk (bB hb ((blk_put (cs' := #[.int .i64 t364, .int .i64 t365, .int .i64 t366]) (blk_put (blk_put BK368.out 0 _ rfl) 1 _ rfl) 2 _ rfl))); replace HB := Aside0.mk (below_step (by first | exact (below_set (below_set (below_set HB.out GE368.out) GE368.out) GE368.out) | (repeat (first | exact (below_set (below_set (below_set HB.out GE368.out) GE368.out) GE368.out) | apply pw_below_drewN | apply below_drew1 | apply below_alloc))) hb); (try clear hb); (try clear hb2); (try clear hk); (try clear hi)) | ((with_reducible refine gate_dst (N := 19) rfl ?_); refine box_event ?hg (N := 19) ?hd (cs := #[.int .i64 0, .int .i64 0, .int .i64 0]) (t := 26) ?hr ?_; (case hd => rfl); (case hg => rfl); (case hr => first | (go_simp; done) | (go_simp; rfl)); intro gb373 hg w210 hbox hb; have BK373 := Aside0.mk (hbox); have GE373 := Aside0.mk (bG hg (by first | exact HB.out | (repeat (first | exact HB.out | apply pw_below_drewN | apply below_drew1 | apply below_alloc)))); have NB358_373 := cN hg BK358; have NB373_358 := cM hg BK358; have NB359_373 := cN hg BK359; have NB373_359 := cM hg BK359; have NB360_373 := cN hg BK360; have NB373_360 := cM hg BK360; have NB361_373 := cN hg BK361; have NB373_361 := cM hg BK361; have NB362_373 := cN hg BK362; have NB373_362 := cM hg BK362; have NB368_373 := cN hg BK368; have NB373_368 := cM hg BK368; replace BK358 := cB hb BK358; replace BK359 := cB hb BK359; replace BK360 := cB hb BK360; replace BK361 := cB hb BK361; replace BK362 := cB hb BK362; replace BK368 := cB hb BK368; replace HB := Aside0.mk (below_step (by first | exact HB.out | (repeat (first | exact HB.out | apply pw_below_drewN | apply below_drew1 | apply below_alloc))) hb); clear hb hbox hg; have hnb211 := NB373_358.out; have hnc211 := NB358_373.out; have hnb212 := NB373_359.out; have hnc212 := NB359_373.out; have hnb213 := NB373_360.out; have hnc213 := NB360_373.out; have hnb214 := NB373_361.out; have hnc214 := NB361_373.out; have hnb215 := NB373_362.out; have hnc215 := NB362_373.out; have hnb216 := NB373_368.out; have hnc216 := NB368_373.out; obtain ⟨hcz217_0, hcz217_1, hcz217_2⟩ := cells3 BK373.out; have hfz217_0 := blk_frozen BK373.out 0; have hfz217_1 := blk_frozen BK373.out 1; have hfz217_2 := blk_frozen BK373.out 2))
  generalize hw_ : (((w210.setCell ⟨gb373, 0, none⟩ (.int .i64 t369)).setCell ⟨gb373, 1, none⟩ (.int .i64 t370)).setCell ⟨gb373, 2, none⟩ (.int .i64 t371)) = w218
  replace BK358 := Aside0.mk (bF hw_ (blk_far (blk_far (blk_far BK358.out NB358_373.out _) NB358_373.out _) NB358_373.out _))
  replace BK359 := Aside0.mk (bF hw_ (blk_far (blk_far (blk_far BK359.out NB359_373.out _) NB359_373.out _) NB359_373.out _))
  replace BK360 := Aside0.mk (bF hw_ (blk_far (blk_far (blk_far BK360.out NB360_373.out _) NB360_373.out _) NB360_373.out _))
  replace BK361 := Aside0.mk (bF hw_ (blk_far (blk_far (blk_far BK361.out NB361_373.out _) NB361_373.out _) NB361_373.out _))
  replace BK362 := Aside0.mk (bF hw_ (blk_far (blk_far (blk_far BK362.out NB362_373.out _) NB362_373.out _) NB362_373.out _))
  replace BK368 := Aside0.mk (bF hw_ (blk_far (blk_far (blk_far BK368.out NB368_373.out _) NB368_373.out _) NB368_373.out _))
  replace BK373 := Aside0.mk (bF hw_ (blk_put (cs' := #[.int .i64 t369, .int .i64 t370, .int .i64 t371]) (blk_put (blk_put BK373.out 0 _ rfl) 1 _ rfl) 2 _ rfl))
  replace HB := Aside0.mk (bH hw_ (by first | exact (below_set (below_set (below_set HB.out GE373.out) GE373.out) GE373.out) | (repeat (first | exact (below_set (below_set (below_set HB.out GE373.out) GE373.out) GE373.out) | apply pw_below_drewN | apply below_drew1 | apply below_alloc))))
  clear hw_
  replace BK358 := Aside0.mk (blk_drew BK358.out)
  replace BK359 := Aside0.mk (blk_drew BK359.out)
  replace BK360 := Aside0.mk (blk_drew BK360.out)
  replace BK361 := Aside0.mk (blk_drew BK361.out)
  replace BK362 := Aside0.mk (blk_drew BK362.out)
  replace BK368 := Aside0.mk (blk_drew BK368.out)
  replace BK373 := Aside0.mk (blk_drew BK373.out)
  replace HB := Aside0.mk (below_drew1 HB.out)
  refine start_ (n := 51) (S := fun w' => w'.cell? ⟨gb358, 0, none⟩ = some (.int .i64 a0_0) ∧ w'.cell? ⟨gb358, 1, none⟩ = some (.int .i64 a0_1) ∧ w'.cell? ⟨gb358, 2, none⟩ = some (.int .i64 a0_2) ∧ w'.cell? ⟨gb359, 0, none⟩ = some (.int .i64 a1_0) ∧ w'.cell? ⟨gb359, 1, none⟩ = some (.int .i64 a1_1) ∧ w'.cell? ⟨gb359, 2, none⟩ = some (.int .i64 a1_2)) (ds := []) #[false, false, false, false, false, false, false, false, false, false, false, false, false, false, false, false, false, false, false, false, false, false, false, false, false, false, false, false, false, false, false, false, false, false, false, false, false, false, false, false, false, false, false, false, false, false, false, false, false, false, false] (by kernel_rfl) rfl rfl ⟨(blk_cell BK358.out 0).trans rfl, (blk_cell BK358.out 1).trans rfl, (blk_cell BK358.out 2).trans rfl, (blk_cell BK359.out 0).trans rfl, (blk_cell BK359.out 1).trans rfl, (blk_cell BK359.out 2).trans rfl⟩ (fun hHeld => ?_); refine with_tabW relievolaw19_LightAnswers.tab5 relievolaw19_LightAnswers.bits5 (fun HT_ HW_ => ?_)
  generalize w218.drew = w219 at BK358 BK359 BK360 BK361 BK362 BK368 BK373 HB hHeld ⊢
  refine take_ (i := 0) (N := some 37) (v := ?_) (a' := ?_) (bm 51 1) rfl rfl (take_ofW HT_.out HW_.out (by kernel_rfl)) (fun _ _ _ h => h) (Or.inl ⟨by rfl, ?_⟩) hHeld ?_ ?_
  rotate_left
  ·rintro w' ⟨s0, s1, s2, s3, s4, s5⟩
   go_simp
   with_reducible rfl
  rotate_left
  ·simp only [Act.put, List.setIfInBounds_toArray, List.set_cons_zero, List.set_cons_succ, i64_w, i32_w]
   rfl
  refine take_ (i := 1) (N := some 38) (v := ?_) (a' := ?_) (bm 51 3) rfl rfl (take_ofW HT_.out HW_.out (by kernel_rfl)) (fun _ _ _ h => h) (Or.inl ⟨by rfl, ?_⟩) hHeld ?_ ?_
  rotate_left
  ·rintro w' ⟨s0, s1, s2, s3, s4, s5⟩
   go_simp
   with_reducible rfl
  rotate_left
  ·simp only [Act.put, List.setIfInBounds_toArray, List.set_cons_zero, List.set_cons_succ, i64_w, i32_w]
   rfl
  refine take_ (i := 3) (N := some 40) (v := ?_) (a' := ?_) (bm 51 11) rfl rfl (take_ofW HT_.out HW_.out (by kernel_rfl)) (fun _ _ _ h => h) (Or.inl ⟨by rfl, ?_⟩) hHeld ?_ ?_
  rotate_left
  ·rintro w' ⟨s0, s1, s2, s3, s4, s5⟩
   go_simp
   with_reducible rfl
  rotate_left
  ·simp only [Act.put, List.setIfInBounds_toArray, List.set_cons_zero, List.set_cons_succ, i64_w, i32_w]
   rfl
  refine take_ (i := 4) (N := some 41) (v := ?_) (a' := ?_) (bm 51 27) rfl rfl (take_ofW HT_.out HW_.out (by kernel_rfl)) (fun _ _ _ h => h) (Or.inl ⟨by rfl, ?_⟩) hHeld ?_ ?_
  rotate_left
  ·rintro w' ⟨s0, s1, s2, s3, s4, s5⟩
   go_simp
   with_reducible rfl
  rotate_left
  ·simp only [Act.put, List.setIfInBounds_toArray, List.set_cons_zero, List.set_cons_succ, i64_w, i32_w]
   rfl
  refine one_ (i := 2) (N := some 39) (bm 51 31) rfl rfl (one_of HT_.out (by kernel_rfl)) (by decide) (fun K hK => ?_)
  refine goes_ Try.func17 (by kernel_rfl) rfl #[.agg #[.int .i64 a0_0, .int .i64 a0_1, .int .i64 a0_2], .agg #[.int .i64 a1_0, .int .i64 a1_1, .int .i64 a1_2]] (by rfl) rfl rfl (by (try simp only [List.map_toArray, List.map_cons, List.map_nil]); first | done | rfl | (simp only [List.length_drop, List.length_take]; rfl)) ?_
  with_reducible refine (light_Cos.calls k a0_0 a0_1 a0_2 a1_0 a1_1 a1_2 t374 _ A13.out).mono ?_
  rintro e w220 ⟨rfl, hb⟩
  refine ⟨_, rfl, ?_⟩
  replace BK358 := cB hb BK358
  replace BK359 := cB hb BK359
  replace BK360 := cB hb BK360
  replace BK361 := cB hb BK361
  replace BK362 := cB hb BK362
  replace BK368 := cB hb BK368
  replace BK373 := cB hb BK373
  replace HB := Aside0.mk (below_step (by first | exact HB.out | (repeat (first | exact HB.out | apply pw_below_drewN | apply below_drew1 | apply below_alloc))) hb)
  (try clear hb)
  (try clear hb2)
  (try clear hk)
  (try clear hi)
  refine hK.out _ _ ⟨(blk_cell BK358.out 0).trans rfl, (blk_cell BK358.out 1).trans rfl, (blk_cell BK358.out 2).trans rfl, (blk_cell BK359.out 0).trans rfl, (blk_cell BK359.out 1).trans rfl, (blk_cell BK359.out 2).trans rfl⟩ (fun hHeld => ?_)
  clear hK K
  refine norm_ (a' := ?_) ?_ ?_
  rotate_left
  ·show Act.put _ (some 39) _ = _
   simp only [Act.put, List.setIfInBounds_toArray, List.set_cons_zero, List.set_cons_succ, i64_w, i32_w]
   rfl
  refine one_ (i := 5) (N := some 42) (bm 51 63) rfl rfl (one_of HT_.out (by kernel_rfl)) (by decide) (fun K hK => ?_)
  refine goes_ Try.func21 (by kernel_rfl) rfl #[.agg #[.int .i64 a0_0, .int .i64 a0_1, .int .i64 a0_2], .agg #[.int .i64 a1_0, .int .i64 a1_1, .int .i64 a1_2]] (by rfl) rfl rfl (by (try simp only [List.map_toArray, List.map_cons, List.map_nil]); first | done | rfl | (simp only [List.length_drop, List.length_take]; rfl)) ?_
  with_reducible refine (relievoref19_Cos.calls k a0_0 a0_1 a0_2 a1_0 a1_1 a1_2 t375 _ A14.out).mono ?_
  rintro e w221 ⟨rfl, hb⟩
  refine ⟨_, rfl, ?_⟩
  replace BK358 := cB hb BK358
  replace BK359 := cB hb BK359
  replace BK360 := cB hb BK360
  replace BK361 := cB hb BK361
  replace BK362 := cB hb BK362
  replace BK368 := cB hb BK368
  replace BK373 := cB hb BK373
  replace HB := Aside0.mk (below_step (by first | exact HB.out | (repeat (first | exact HB.out | apply pw_below_drewN | apply below_drew1 | apply below_alloc))) hb)
  (try clear hb)
  (try clear hb2)
  (try clear hk)
  (try clear hi)
  refine hK.out _ _ ⟨(blk_cell BK358.out 0).trans rfl, (blk_cell BK358.out 1).trans rfl, (blk_cell BK358.out 2).trans rfl, (blk_cell BK359.out 0).trans rfl, (blk_cell BK359.out 1).trans rfl, (blk_cell BK359.out 2).trans rfl⟩ (fun hHeld => ?_)
  clear hK K
  refine norm_ (a' := ?_) ?_ ?_
  rotate_left
  ·show Act.put _ (some 42) _ = _
   simp only [Act.put, List.setIfInBounds_toArray, List.set_cons_zero, List.set_cons_succ, i64_w, i32_w]
   rfl
  refine pure_ (i := 6) (N := some 43) (v := ?_) (a' := ?_) (bm 51 127) rfl rfl (any_of HT_.out (by kernel_rfl)) (fun _ _ _ h => h) (Or.inl ⟨by rfl, ?_⟩) ?_ ?_
  rotate_left
  ·intro w'
   go_simp
   with_reducible rfl
  rotate_left
  ·simp only [Act.put, List.setIfInBounds_toArray, List.set_cons_zero, List.set_cons_succ, i64_w, i32_w]
   rfl
  refine pure_ (i := 7) (N := some 44) (v := ?_) (a' := ?_) (bm 51 255) rfl rfl (any_of HT_.out (by kernel_rfl)) (fun _ _ _ h => h) (Or.inl ⟨by rfl, ?_⟩) ?_ ?_
  rotate_left
  ·intro w'
   go_simp
   with_reducible rfl
  rotate_left
  ·simp only [Act.put, List.setIfInBounds_toArray, List.set_cons_zero, List.set_cons_succ, i64_w, i32_w]
   rfl
  refine pure_ (i := 8) (N := some 45) (v := undef) (a' := ?_) (bm 51 511) rfl rfl (any_of HT_.out (by kernel_rfl)) (fun _ _ _ h => h) (Or.inr ⟨by rfl, rfl⟩) ?_ ?_
  rotate_left
  ·simp only [Act.put, List.setIfInBounds_toArray, List.set_cons_zero, List.set_cons_succ, i64_w, i32_w]
   rfl
  refine pure_ (i := 9) (N := some 46) (v := undef) (a' := ?_) (bm 51 1023) rfl rfl (any_of HT_.out (by kernel_rfl)) (fun _ _ _ h => h) (Or.inr ⟨by rfl, rfl⟩) ?_ ?_
  rotate_left
  ·simp only [Act.put, List.setIfInBounds_toArray, List.set_cons_zero, List.set_cons_succ, i64_w, i32_w]
   rfl
  refine pure_ (i := 10) (N := some 47) (v := undef) (a' := ?_) (bm 51 2047) rfl rfl (any_of HT_.out (by kernel_rfl)) (fun _ _ _ h => h) (Or.inr ⟨by rfl, rfl⟩) ?_ ?_
  rotate_left
  ·simp only [Act.put, List.setIfInBounds_toArray, List.set_cons_zero, List.set_cons_succ, i64_w, i32_w]
   rfl
  refine pure_ (i := 11) (N := some 48) (v := undef) (a' := ?_) (bm 51 4095) rfl rfl (any_of HT_.out (by kernel_rfl)) (fun _ _ _ h => h) (Or.inr ⟨by rfl, rfl⟩) ?_ ?_
  rotate_left
  ·simp only [Act.put, List.setIfInBounds_toArray, List.set_cons_zero, List.set_cons_succ, i64_w, i32_w]
   rfl
  refine pure_ (i := 12) (N := some 49) (v := undef) (a' := ?_) (bm 51 8191) rfl rfl (any_of HT_.out (by kernel_rfl)) (fun _ _ _ h => h) (Or.inr ⟨by rfl, rfl⟩) ?_ ?_
  rotate_left
  ·simp only [Act.put, List.setIfInBounds_toArray, List.set_cons_zero, List.set_cons_succ, i64_w, i32_w]
   rfl
  refine pure_ (i := 13) (N := some 50) (v := undef) (a' := ?_) (bm 51 16383) rfl rfl (any_of HT_.out (by kernel_rfl)) (fun _ _ _ h => h) (Or.inr ⟨by rfl, rfl⟩) ?_ ?_
  rotate_left
  ·simp only [Act.put, List.setIfInBounds_toArray, List.set_cons_zero, List.set_cons_succ, i64_w, i32_w]
   rfl
  refine pure_ (i := 14) (N := some 51) (v := undef) (a' := ?_) (bm 51 32767) rfl rfl (any_of HT_.out (by kernel_rfl)) (fun _ _ _ h => h) (Or.inr ⟨by rfl, rfl⟩) ?_ ?_
  rotate_left
  ·simp only [Act.put, List.setIfInBounds_toArray, List.set_cons_zero, List.set_cons_succ, i64_w, i32_w]
   rfl
  refine pure_ (i := 15) (N := some 52) (v := ?_) (a' := ?_) (bm 51 65535) rfl rfl (any_of HT_.out (by kernel_rfl)) (fun _ _ _ h => h) (Or.inl ⟨by rfl, ?_⟩) ?_ ?_
  rotate_left
  ·intro w'
   go_simp
   with_reducible rfl
  rotate_left
  ·simp only [Act.put, List.setIfInBounds_toArray, List.set_cons_zero, List.set_cons_succ, i64_w, i32_w]
   rfl
  refine pure_ (i := 16) (N := some 53) (v := ?_) (a' := ?_) (bm 51 131071) rfl rfl (any_of HT_.out (by kernel_rfl)) (fun _ _ _ h => h) (Or.inl ⟨by rfl, ?_⟩) ?_ ?_
  rotate_left
  ·intro w'
   go_simp
   with_reducible rfl
  rotate_left
  ·simp only [Act.put, List.setIfInBounds_toArray, List.set_cons_zero, List.set_cons_succ, i64_w, i32_w]
   rfl
  refine pure_ (i := 17) (N := some 54) (v := undef) (a' := ?_) (bm 51 262143) rfl rfl (any_of HT_.out (by kernel_rfl)) (fun _ _ _ h => h) (Or.inr ⟨by rfl, rfl⟩) ?_ ?_
  rotate_left
  ·simp only [Act.put, List.setIfInBounds_toArray, List.set_cons_zero, List.set_cons_succ, i64_w, i32_w]
   rfl
  refine pure_ (i := 18) (N := some 55) (v := undef) (a' := ?_) (bm 51 524287) rfl rfl (any_of HT_.out (by kernel_rfl)) (fun _ _ _ h => h) (Or.inr ⟨by rfl, rfl⟩) ?_ ?_
  rotate_left
  ·simp only [Act.put, List.setIfInBounds_toArray, List.set_cons_zero, List.set_cons_succ, i64_w, i32_w]
   rfl
  refine pure_ (i := 19) (N := some 56) (v := undef) (a' := ?_) (bm 51 1048575) rfl rfl (any_of HT_.out (by kernel_rfl)) (fun _ _ _ h => h) (Or.inr ⟨by rfl, rfl⟩) ?_ ?_
  rotate_left
  ·simp only [Act.put, List.setIfInBounds_toArray, List.set_cons_zero, List.set_cons_succ, i64_w, i32_w]
   rfl
  refine pure_ (i := 20) (N := some 57) (v := undef) (a' := ?_) (bm 51 2097151) rfl rfl (any_of HT_.out (by kernel_rfl)) (fun _ _ _ h => h) (Or.inr ⟨by rfl, rfl⟩) ?_ ?_
  rotate_left
  ·simp only [Act.put, List.setIfInBounds_toArray, List.set_cons_zero, List.set_cons_succ, i64_w, i32_w]
   rfl
  refine pure_ (i := 21) (N := some 58) (v := undef) (a' := ?_) (bm 51 4194303) rfl rfl (any_of HT_.out (by kernel_rfl)) (fun _ _ _ h => h) (Or.inr ⟨by rfl, rfl⟩) ?_ ?_
  rotate_left
  ·simp only [Act.put, List.setIfInBounds_toArray, List.set_cons_zero, List.set_cons_succ, i64_w, i32_w]
   rfl
  refine pure_ (i := 22) (N := some 59) (v := undef) (a' := ?_) (bm 51 8388607) rfl rfl (any_of HT_.out (by kernel_rfl)) (fun _ _ _ h => h) (Or.inr ⟨by rfl, rfl⟩) ?_ ?_
  rotate_left
  ·simp only [Act.put, List.setIfInBounds_toArray, List.set_cons_zero, List.set_cons_succ, i64_w, i32_w]
   rfl
  refine pure_ (i := 23) (N := some 60) (v := undef) (a' := ?_) (bm 51 16777215) rfl rfl (any_of HT_.out (by kernel_rfl)) (fun _ _ _ h => h) (Or.inr ⟨by rfl, rfl⟩) ?_ ?_
  rotate_left
  ·simp only [Act.put, List.setIfInBounds_toArray, List.set_cons_zero, List.set_cons_succ, i64_w, i32_w]
   rfl
  refine pure_ (i := 24) (N := some 61) (v := ?_) (a' := ?_) (bm 51 33554431) rfl rfl (any_of HT_.out (by kernel_rfl)) (fun _ _ _ h => h) (Or.inl ⟨by rfl, ?_⟩) ?_ ?_
  rotate_left
  ·intro w'
   go_simp
   with_reducible rfl
  rotate_left
  ·simp only [Act.put, List.setIfInBounds_toArray, List.set_cons_zero, List.set_cons_succ, i64_w, i32_w]
   rfl
  refine pure_ (i := 25) (N := some 62) (v := ?_) (a' := ?_) (bm 51 67108863) rfl rfl (any_of HT_.out (by kernel_rfl)) (fun _ _ _ h => h) (Or.inl ⟨by rfl, ?_⟩) ?_ ?_
  rotate_left
  ·intro w'
   go_simp
   with_reducible rfl
  rotate_left
  ·simp only [Act.put, List.setIfInBounds_toArray, List.set_cons_zero, List.set_cons_succ, i64_w, i32_w]
   rfl
  refine pure_ (i := 26) (N := some 63) (v := undef) (a' := ?_) (bm 51 134217727) rfl rfl (any_of HT_.out (by kernel_rfl)) (fun _ _ _ h => h) (Or.inr ⟨by rfl, rfl⟩) ?_ ?_
  rotate_left
  ·simp only [Act.put, List.setIfInBounds_toArray, List.set_cons_zero, List.set_cons_succ, i64_w, i32_w]
   rfl
  refine pure_ (i := 27) (N := some 64) (v := undef) (a' := ?_) (bm 51 268435455) rfl rfl (any_of HT_.out (by kernel_rfl)) (fun _ _ _ h => h) (Or.inr ⟨by rfl, rfl⟩) ?_ ?_
  rotate_left
  ·simp only [Act.put, List.setIfInBounds_toArray, List.set_cons_zero, List.set_cons_succ, i64_w, i32_w]
   rfl
  refine pure_ (i := 28) (N := some 65) (v := undef) (a' := ?_) (bm 51 536870911) rfl rfl (any_of HT_.out (by kernel_rfl)) (fun _ _ _ h => h) (Or.inr ⟨by rfl, rfl⟩) ?_ ?_
  rotate_left
  ·simp only [Act.put, List.setIfInBounds_toArray, List.set_cons_zero, List.set_cons_succ, i64_w, i32_w]
   rfl
  refine pure_ (i := 29) (N := some 66) (v := ?_) (a' := ?_) (bm 51 1073741823) rfl rfl (any_of HT_.out (by kernel_rfl)) (fun _ _ _ h => h) (Or.inl ⟨by rfl, ?_⟩) ?_ ?_
  rotate_left
  ·intro w'
   go_simp
   with_reducible rfl
  rotate_left
  ·simp only [Act.put, List.setIfInBounds_toArray, List.set_cons_zero, List.set_cons_succ, i64_w, i32_w]
   rfl
  refine pure_ (i := 30) (N := some 67) (v := ?_) (a' := ?_) (bm 51 2147483647) rfl rfl (any_of HT_.out (by kernel_rfl)) (fun _ _ _ h => h) (Or.inl ⟨by rfl, ?_⟩) ?_ ?_
  rotate_left
  ·intro w'
   go_simp
   with_reducible rfl
  rotate_left
  ·simp only [Act.put, List.setIfInBounds_toArray, List.set_cons_zero, List.set_cons_succ, i64_w, i32_w]
   rfl
  refine pure_ (i := 31) (N := some 68) (v := undef) (a' := ?_) (bm 51 4294967295) rfl rfl (any_of HT_.out (by kernel_rfl)) (fun _ _ _ h => h) (Or.inr ⟨by rfl, rfl⟩) ?_ ?_
  rotate_left
  ·simp only [Act.put, List.setIfInBounds_toArray, List.set_cons_zero, List.set_cons_succ, i64_w, i32_w]
   rfl
  refine pure_ (i := 32) (N := some 69) (v := undef) (a' := ?_) (bm 51 8589934591) rfl rfl (any_of HT_.out (by kernel_rfl)) (fun _ _ _ h => h) (Or.inr ⟨by rfl, rfl⟩) ?_ ?_
  rotate_left
  ·simp only [Act.put, List.setIfInBounds_toArray, List.set_cons_zero, List.set_cons_succ, i64_w, i32_w]
   rfl
  refine pure_ (i := 33) (N := some 70) (v := undef) (a' := ?_) (bm 51 17179869183) rfl rfl (any_of HT_.out (by kernel_rfl)) (fun _ _ _ h => h) (Or.inr ⟨by rfl, rfl⟩) ?_ ?_
  rotate_left
  ·simp only [Act.put, List.setIfInBounds_toArray, List.set_cons_zero, List.set_cons_succ, i64_w, i32_w]
   rfl
  refine pure_ (i := 34) (N := some 71) (v := ?_) (a' := ?_) (bm 51 34359738367) rfl rfl (any_of HT_.out (by kernel_rfl)) (fun _ _ _ h => h) (Or.inl ⟨by rfl, ?_⟩) ?_ ?_
  rotate_left
  ·intro w'
   go_simp
   with_reducible rfl
  rotate_left
  ·simp only [Act.put, List.setIfInBounds_toArray, List.set_cons_zero, List.set_cons_succ, i64_w, i32_w]
   rfl
  refine pure_ (i := 35) (N := some 72) (v := ?_) (a' := ?_) (bm 51 68719476735) rfl rfl (any_of HT_.out (by kernel_rfl)) (fun _ _ _ h => h) (Or.inl ⟨by rfl, ?_⟩) ?_ ?_
  rotate_left
  ·intro w'
   go_simp
   with_reducible rfl
  rotate_left
  ·simp only [Act.put, List.setIfInBounds_toArray, List.set_cons_zero, List.set_cons_succ, i64_w, i32_w]
   rfl
  refine pure_ (i := 36) (N := some 73) (v := undef) (a' := ?_) (bm 51 137438953471) rfl rfl (any_of HT_.out (by kernel_rfl)) (fun _ _ _ h => h) (Or.inr ⟨by rfl, rfl⟩) ?_ ?_
  rotate_left
  ·simp only [Act.put, List.setIfInBounds_toArray, List.set_cons_zero, List.set_cons_succ, i64_w, i32_w]
   rfl
  refine pure_ (i := 37) (N := some 74) (v := undef) (a' := ?_) (bm 51 274877906943) rfl rfl (any_of HT_.out (by kernel_rfl)) (fun _ _ _ h => h) (Or.inr ⟨by rfl, rfl⟩) ?_ ?_
  rotate_left
  ·simp only [Act.put, List.setIfInBounds_toArray, List.set_cons_zero, List.set_cons_succ, i64_w, i32_w]
   rfl
  refine pure_ (i := 38) (N := some 75) (v := undef) (a' := ?_) (bm 51 549755813887) rfl rfl (any_of HT_.out (by kernel_rfl)) (fun _ _ _ h => h) (Or.inr ⟨by rfl, rfl⟩) ?_ ?_
  rotate_left
  ·simp only [Act.put, List.setIfInBounds_toArray, List.set_cons_zero, List.set_cons_succ, i64_w, i32_w]
   rfl
  refine pure_ (i := 39) (N := some 76) (v := undef) (a' := ?_) (bm 51 1099511627775) rfl rfl (any_of HT_.out (by kernel_rfl)) (fun _ _ _ h => h) (Or.inr ⟨by rfl, rfl⟩) ?_ ?_
  rotate_left
  ·simp only [Act.put, List.setIfInBounds_toArray, List.set_cons_zero, List.set_cons_succ, i64_w, i32_w]
   rfl
  refine pure_ (i := 40) (N := some 77) (v := undef) (a' := ?_) (bm 51 2199023255551) rfl rfl (any_of HT_.out (by kernel_rfl)) (fun _ _ _ h => h) (Or.inr ⟨by rfl, rfl⟩) ?_ ?_
  rotate_left
  ·simp only [Act.put, List.setIfInBounds_toArray, List.set_cons_zero, List.set_cons_succ, i64_w, i32_w]
   rfl
  refine pure_ (i := 41) (N := some 78) (v := undef) (a' := ?_) (bm 51 4398046511103) rfl rfl (any_of HT_.out (by kernel_rfl)) (fun _ _ _ h => h) (Or.inr ⟨by rfl, rfl⟩) ?_ ?_
  rotate_left
  ·simp only [Act.put, List.setIfInBounds_toArray, List.set_cons_zero, List.set_cons_succ, i64_w, i32_w]
   rfl
  refine pure_ (i := 42) (N := some 79) (v := undef) (a' := ?_) (bm 51 8796093022207) rfl rfl (any_of HT_.out (by kernel_rfl)) (fun _ _ _ h => h) (Or.inr ⟨by rfl, rfl⟩) ?_ ?_
  rotate_left
  ·simp only [Act.put, List.setIfInBounds_toArray, List.set_cons_zero, List.set_cons_succ, i64_w, i32_w]
   rfl
  refine pure_ (i := 43) (N := some 80) (v := undef) (a' := ?_) (bm 51 17592186044415) rfl rfl (any_of HT_.out (by kernel_rfl)) (fun _ _ _ h => h) (Or.inr ⟨by rfl, rfl⟩) ?_ ?_
  rotate_left
  ·simp only [Act.put, List.setIfInBounds_toArray, List.set_cons_zero, List.set_cons_succ, i64_w, i32_w]
   rfl
  refine pure_ (i := 44) (N := some 81) (v := undef) (a' := ?_) (bm 51 35184372088831) rfl rfl (any_of HT_.out (by kernel_rfl)) (fun _ _ _ h => h) (Or.inr ⟨by rfl, rfl⟩) ?_ ?_
  rotate_left
  ·simp only [Act.put, List.setIfInBounds_toArray, List.set_cons_zero, List.set_cons_succ, i64_w, i32_w]
   rfl
  refine pure_ (i := 45) (N := some 82) (v := undef) (a' := ?_) (bm 51 70368744177663) rfl rfl (any_of HT_.out (by kernel_rfl)) (fun _ _ _ h => h) (Or.inr ⟨by rfl, rfl⟩) ?_ ?_
  rotate_left
  ·simp only [Act.put, List.setIfInBounds_toArray, List.set_cons_zero, List.set_cons_succ, i64_w, i32_w]
   rfl
  refine pure_ (i := 46) (N := some 83) (v := undef) (a' := ?_) (bm 51 140737488355327) rfl rfl (any_of HT_.out (by kernel_rfl)) (fun _ _ _ h => h) (Or.inr ⟨by rfl, rfl⟩) ?_ ?_
  rotate_left
  ·simp only [Act.put, List.setIfInBounds_toArray, List.set_cons_zero, List.set_cons_succ, i64_w, i32_w]
   rfl
  refine pure_ (i := 47) (N := some 84) (v := undef) (a' := ?_) (bm 51 281474976710655) rfl rfl (any_of HT_.out (by kernel_rfl)) (fun _ _ _ h => h) (Or.inr ⟨by rfl, rfl⟩) ?_ ?_
  rotate_left
  ·simp only [Act.put, List.setIfInBounds_toArray, List.set_cons_zero, List.set_cons_succ, i64_w, i32_w]
   rfl
  refine pure_ (i := 48) (N := some 85) (v := undef) (a' := ?_) (bm 51 562949953421311) rfl rfl (any_of HT_.out (by kernel_rfl)) (fun _ _ _ h => h) (Or.inr ⟨by rfl, rfl⟩) ?_ ?_
  rotate_left
  ·simp only [Act.put, List.setIfInBounds_toArray, List.set_cons_zero, List.set_cons_succ, i64_w, i32_w]
   rfl
  refine pure_ (i := 49) (N := some 86) (v := ?_) (a' := ?_) (bm 51 1125899906842623) rfl rfl (any_of HT_.out (by kernel_rfl)) (fun _ _ _ h => h) (Or.inl ⟨by rfl, ?_⟩) ?_ ?_
  rotate_left
  ·intro w'
   go_simp
   with_reducible rfl
  rotate_left
  ·simp only [Act.put, List.setIfInBounds_toArray, List.set_cons_zero, List.set_cons_succ, i64_w, i32_w]
   rfl
  refine pure_ (i := 50) (N := some 16) (v := ?_) (a' := ?_) (bm 51 2251799813685247) rfl rfl (any_of HT_.out (by kernel_rfl)) (fun _ _ _ h => h) (Or.inl ⟨by rfl, ?_⟩) ?_ ?_
  rotate_left
  ·intro w'
   go_simp
   with_reducible rfl
  rotate_left
  ·simp only [Act.put, List.setIfInBounds_toArray, List.set_cons_zero, List.set_cons_succ, i64_w, i32_w]
   rfl
  refine done_ (done_of HT_.out (by kernel_rfl)) ?_
  try go_wp2
  go_ret
  exact ⟨by first | rfl | (simp [errW_none, errW_some] <;> rfl) | (simp [*, errW_none, errW_some] <;> rfl), by first | exact HB.out | (repeat (first | exact HB.out | apply pw_below_drewN | apply below_drew1 | apply below_alloc))⟩
 replace c10 := Bool.eq_false_iff.mpr c10
 subst c10
 have H1 : (some false) = some r := by rw [if_neg (show ¬ (false = true) by decide)] at H; exact H
 clear H
 have H := H1
 clear H1
 obtain rfl := Option.some.inj H
 go_enter Try.func9, Try.ntmps9
 go_wp2_with (first | ((with_reducible refine gate_dst (N := 8) rfl ?_); refine box_event ?hg (N := 8) ?hd (cs := #[.int .i64 a0_0, .int .i64 a0_1, .int .i64 a0_2]) (t := 26) ?hr ?_; (case hd => rfl); (case hg => rfl); (case hr => first | (go_simp; done) | (go_simp; rfl)); intro gb358 hg w222 hbox hb; have BK358 := Aside0.mk (hbox); have GE358 := Aside0.mk (bG hg (by first | exact HB.out | (repeat (first | exact HB.out | apply pw_below_drewN | apply below_drew1 | apply below_alloc)))); replace HB := Aside0.mk (below_step (by first | exact HB.out | (repeat (first | exact HB.out | apply pw_below_drewN | apply below_drew1 | apply below_alloc))) hb); clear hb hbox hg) | ((with_reducible refine gate_dst (N := 9) rfl ?_); refine box_event ?hg (N := 9) ?hd (cs := #[.int .i64 a1_0, .int .i64 a1_1, .int .i64 a1_2]) (t := 26) ?hr ?_; (case hd => rfl); (case hg => rfl); (case hr => first | (go_simp; done) | (go_simp; rfl)); intro gb359 hg w223 hbox hb; have BK359 := Aside0.mk (hbox); have GE359 := Aside0.mk (bG hg (by first | exact HB.out | (repeat (first | exact HB.out | apply pw_below_drewN | apply below_drew1 | apply below_alloc)))); have NB358_359 := cN hg BK358; have NB359_358 := cM hg BK358; replace BK358 := cB hb BK358; replace HB := Aside0.mk (below_step (by first | exact HB.out | (repeat (first | exact HB.out | apply pw_below_drewN | apply below_drew1 | apply below_alloc))) hb); clear hb hbox hg) | ((with_reducible refine gate_dst (N := 13) rfl ?_); refine box_event ?hg (N := 13) ?hd (cs := #[.int .i64 a5_0, .int .i64 a5_1, .int .i64 a5_2]) (t := 37) ?hr ?_; (case hd => rfl); (case hg => rfl); (case hr => first | (go_simp; done) | (go_simp; rfl)); intro gb360 hg w224 hbox hb; have BK360 := Aside0.mk (hbox); have GE360 := Aside0.mk (bG hg (by first | exact HB.out | (repeat (first | exact HB.out | apply pw_below_drewN | apply below_drew1 | apply below_alloc)))); have NB358_360 := cN hg BK358; have NB360_358 := cM hg BK358; have NB359_360 := cN hg BK359; have NB360_359 := cM hg BK359; replace BK358 := cB hb BK358; replace BK359 := cB hb BK359; replace HB := Aside0.mk (below_step (by first | exact HB.out | (repeat (first | exact HB.out | apply pw_below_drewN | apply below_drew1 | apply below_alloc))) hb); clear hb hbox hg) | ((with_reducible refine gate_dst (N := 14) rfl ?_); refine box_event ?hg (N := 14) ?hd (cs := #[.int .i64 a6_0, .int .i64 a6_1, .int .i64 a6_2]) (t := 37) ?hr ?_; (case hd => rfl); (case hg => rfl); (case hr => first | (go_simp; done) | (go_simp; rfl)); intro gb361 hg w225 hbox hb; have BK361 := Aside0.mk (hbox); have GE361 := Aside0.mk (bG hg (by first | exact HB.out | (repeat (first | exact HB.out | apply pw_below_drewN | apply below_drew1 | apply below_alloc)))); have NB358_361 := cN hg BK358; have NB361_358 := cM hg BK358; have NB359_361 := cN hg BK359; have NB361_359 := cM hg BK359; have NB360_361 := cN hg BK360; have NB361_360 := cM hg BK360; replace BK358 := cB hb BK358; replace BK359 := cB hb BK359; replace BK360 := cB hb BK360; replace HB := Aside0.mk (below_step (by first | exact HB.out | (repeat (first | exact HB.out | apply pw_below_drewN | apply below_drew1 | apply below_alloc))) hb); clear hb hbox hg) | ((with_reducible refine gate_dst (N := 15) rfl ?_); refine box_event ?hg (N := 15) ?hd (cs := #[.int .i64 a7_0, .int .i64 a7_1, .int .i64 a7_2]) (t := 37) ?hr ?_; (case hd => rfl); (case hg => rfl); (case hr => first | (go_simp; done) | (go_simp; rfl)); intro gb362 hg w226 hbox hb; have BK362 := Aside0.mk (hbox); have GE362 := Aside0.mk (bG hg (by first | exact HB.out | (repeat (first | exact HB.out | apply pw_below_drewN | apply below_drew1 | apply below_alloc)))); have NB358_362 := cN hg BK358; have NB362_358 := cM hg BK358; have NB359_362 := cN hg BK359; have NB362_359 := cM hg BK359; have NB360_362 := cN hg BK360; have NB362_360 := cM hg BK360; have NB361_362 := cN hg BK361; have NB362_361 := cM hg BK361; replace BK358 := cB hb BK358; replace BK359 := cB hb BK359; replace BK360 := cB hb BK360; replace BK361 := cB hb BK361; replace HB := Aside0.mk (below_step (by first | exact HB.out | (repeat (first | exact HB.out | apply pw_below_drewN | apply below_drew1 | apply below_alloc))) hb); clear hb hbox hg) | ((with_reducible refine gate_callee (f := 11) rfl ?_); refine goesL_ (some 21) rfl rfl Try.func11 (by kernel_rfl) rfl #[] rfl (by (try simp only [List.map_toArray, List.map_cons, List.map_nil]); first | done | rfl | (simp only [List.length_drop, List.length_take]; rfl)) ?_; (with_reducible refine (relievolaw19_alive.calls k  false _ A9.out).mono ?_); rintro e w227 ⟨rfl, hb⟩; refine ⟨_, rfl, ?_⟩; replace BK358 := cB hb BK358; replace BK359 := cB hb BK359; replace BK360 := cB hb BK360; replace BK361 := cB hb BK361; replace BK362 := cB hb BK362; replace HB := Aside0.mk (below_step (by first | exact HB.out | (repeat (first | exact HB.out | apply pw_below_drewN | apply below_drew1 | apply below_alloc))) hb); (try clear hb); (try clear hb2); (try clear hk); (try clear hi)))
 go_ret
 exact ⟨by first | rfl | (simp [errW_none, errW_some] <;> rfl) | (simp [*, errW_none, errW_some] <;> rfl), by first | exact HB.out | (repeat (first | exact HB.out | apply pw_below_drewN | apply below_drew1 | apply below_alloc))⟩

end Go.Proofs.Ytmhnidmbgicgeaa.G
