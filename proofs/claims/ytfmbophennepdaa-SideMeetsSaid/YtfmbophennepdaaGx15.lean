-- Written by a program of this session (wip/gen), out of the translation; Lean checks it.
import Derived.Test.YtfmbophennepdaaGx0
import Derived.Test.YtfmbophennepdaaGx5
import Derived.Test.YtfmbophennepdaaGx7
import Derived.Test.YtfmbophennepdaaGx8
import Derived.Test.YtfmbophennepdaaGx9
import Derived.Test.YtfmbophennepdaaGx10
import Derived.Test.YtfmbophennepdaaGx14
namespace Go.Proofs.Ytfmbophennepdaa.G
open Go.RowKit Go.Proofs.YtfmbophennepdaaW.PrintWords Go.Proofs.YtfmbophennepdaaW.PrintLast Go.Proofs.YtfmbophennepdaaW.PrintMore
attribute [local go_sem high] idx43_0 idx43_1 idx43_2 wl0 wl1 wl2 wl3 wl4 wl5 tm0_3 tm1_3 tm2_3 tm3_3 tm4_3 tm5_3
attribute [local go_sem] max2_int min2_int max_two min_two max_three min_three max_four min_four   -- for this text's walks alone
set_option linter.unusedVariables false
set_option linter.unusedSimpArgs false

/-! ### side_Meet: function 7 -/
mutual
def side_Meet.j0 : Nat → Bool → Int → Int → Int → Int → Int → Int → Int → Int → Int → Int → Int → Int → Int → Int → Int → Int → Int → Int → Int → Int → Int → Int → Int → Int → Option (Int × Int × Bool × Int × Int × Bool × Int)
  | 0, _, _, _, _, _, _, _, _, _, _, _, _, _, _, _, _, _, _, _, _, _, _, _, _, _ => none
  | k + 1, x10, x158000, x158001, x158002, x159000, x159001, x159002, x160000, x160001, x160002, x160003, x160004, x160005, x160006, x160007, x160008, x163000, x163001, x163002, x163003, x163004, x163005, x163006, x163007, x163008 => if x10 = true then ((side_pass.f k x158000 x158001 x158002 x159000 x159001 x159002 x160000 x160001 x160002 x160003 x160004 x160005).bind fun t173 => (if t173 = 0 then (side_Meet.j1 k t173 true x158000 x158001 x158002 x159000 x159001 x159002 x160000 x160001 x160002 x160003 x160004 x160005 x160006 x160007 x160008 x163000 x163001 x163002 x163003 x163004 x163005 x163006 x163007 x163008) else ((side_pass.f k x158000 x158001 x158002 x159000 x159001 x159002 x163000 x163001 x163002 x163003 x163004 x163005).bind fun t175 => (side_Meet.j1 k t173 (t175 != t173) x158000 x158001 x158002 x159000 x159001 x159002 x160000 x160001 x160002 x160003 x160004 x160005 x160006 x160007 x160008 x163000 x163001 x163002 x163003 x163004 x163005 x163006 x163007 x163008)))) else (some (0, 0, false, 0, 0, false, 21))
def side_Meet.j7 : Nat → Int → Int → Int → Int → Int → Int → Int → Int → Int → Int → Int → Int → Int → Int → Int → Int → Option (Int × Int × Bool × Int × Int × Bool × Int)
  | 0, _, _, _, _, _, _, _, _, _, _, _, _, _, _, _, _ => none
  | k + 1, x13, x158000, x158001, x158002, x159000, x159001, x159002, x160000, x160001, x160002, x160003, x160004, x160005, x160006, x160007, x160008 => (side_Normal.f x160000 x160001 x160002 x160003 x160004 x160005 x160006 x160007 x160008).bind fun bt180 => ((vec_Sub.f x160000 x160001 x160002 x158000 x158001 x158002).bind fun bt184 => ((vec_Dot.f bt180.1 bt180.2.1 bt180.2.2 bt184.1 bt184.2.1 bt184.2.2).bind fun t187 => ((vec_Dot.f bt180.1 bt180.2.1 bt180.2.2 x159000 x159001 x159002).bind fun t188 => (if t188 = 0 then (some (0, 0, false, 0, 0, false, 0)) else (if t188 < 0 then (side_Meet.j8 k x13 (wrap64 (-t187)) (wrap64 (-t188))) else (side_Meet.j8 k x13 t187 t188))))))
def side_Meet.j8 : Nat → Int → Int → Int → Option (Int × Int × Bool × Int × Int × Bool × Int)
  | 0, _, _, _ => none
  | k + 1, x13, x190000, x190001 => some (x190000, x190001, decide (x13 < 0), 0, 0, true, 0)
def side_Meet.j2 : Nat → Int → Int → Int → Int → Int → Int → Int → Int → Int → Int → Int → Int → Int → Int → Int → Int → Int → Int → Int → Int → Int → Int → Int → Int → Int → Option (Int × Int × Bool × Int × Int × Bool × Int)
  | 0, _, _, _, _, _, _, _, _, _, _, _, _, _, _, _, _, _, _, _, _, _, _, _, _, _ => none
  | k + 1, x13, x158000, x158001, x158002, x159000, x159001, x159002, x160000, x160001, x160002, x160003, x160004, x160005, x160006, x160007, x160008, x163000, x163001, x163002, x163003, x163004, x163005, x163006, x163007, x163008 => if x13 = 0 then (side_Meet.j3 k x13 true x158000 x158001 x158002 x159000 x159001 x159002 x160000 x160001 x160002 x160003 x160004 x160005 x160006 x160007 x160008 x163000 x163001 x163002 x163003 x163004 x163005 x163006 x163007 x163008) else ((side_pass.f k x158000 x158001 x158002 x159000 x159001 x159002 x163003 x163004 x163005 x163006 x163007 x163008).bind fun t177 => (side_Meet.j3 k x13 (t177 != x13) x158000 x158001 x158002 x159000 x159001 x159002 x160000 x160001 x160002 x160003 x160004 x160005 x160006 x160007 x160008 x163000 x163001 x163002 x163003 x163004 x163005 x163006 x163007 x163008))
def side_Meet.j4 : Nat → Int → Int → Int → Int → Int → Int → Int → Int → Int → Int → Int → Int → Int → Int → Int → Int → Int → Int → Int → Int → Int → Int → Int → Int → Int → Option (Int × Int × Bool × Int × Int × Bool × Int)
  | 0, _, _, _, _, _, _, _, _, _, _, _, _, _, _, _, _, _, _, _, _, _, _, _, _, _ => none
  | k + 1, x13, x158000, x158001, x158002, x159000, x159001, x159002, x160000, x160001, x160002, x160003, x160004, x160005, x160006, x160007, x160008, x163000, x163001, x163002, x163003, x163004, x163005, x163006, x163007, x163008 => if x13 = 0 then (side_Meet.j5 k x13 true x158000 x158001 x158002 x159000 x159001 x159002 x160000 x160001 x160002 x160003 x160004 x160005 x160006 x160007 x160008) else ((side_pass.f k x158000 x158001 x158002 x159000 x159001 x159002 x163006 x163007 x163008 x163000 x163001 x163002).bind fun t179 => (side_Meet.j5 k x13 (t179 != x13) x158000 x158001 x158002 x159000 x159001 x159002 x160000 x160001 x160002 x160003 x160004 x160005 x160006 x160007 x160008))
def side_Meet.j6 : Nat → Int → Int → Int → Int → Int → Int → Int → Int → Int → Int → Int → Int → Int → Int → Int → Int → Option (Int × Int × Bool × Int × Int × Bool × Int)
  | 0, _, _, _, _, _, _, _, _, _, _, _, _, _, _, _, _ => none
  | k + 1, x13, x158000, x158001, x158002, x159000, x159001, x159002, x160000, x160001, x160002, x160003, x160004, x160005, x160006, x160007, x160008 => side_Meet.j7 k x13 x158000 x158001 x158002 x159000 x159001 x159002 x160000 x160001 x160002 x160003 x160004 x160005 x160006 x160007 x160008
def side_Meet.j5 : Nat → Int → Bool → Int → Int → Int → Int → Int → Int → Int → Int → Int → Int → Int → Int → Int → Int → Int → Option (Int × Int × Bool × Int × Int × Bool × Int)
  | 0, _, _, _, _, _, _, _, _, _, _, _, _, _, _, _, _, _ => none
  | k + 1, x13, x67, x158000, x158001, x158002, x159000, x159001, x159002, x160000, x160001, x160002, x160003, x160004, x160005, x160006, x160007, x160008 => if x67 = true then (some (0, 0, false, 0, 0, false, 0)) else (side_Meet.j6 k x13 x158000 x158001 x158002 x159000 x159001 x159002 x160000 x160001 x160002 x160003 x160004 x160005 x160006 x160007 x160008)
def side_Meet.j3 : Nat → Int → Bool → Int → Int → Int → Int → Int → Int → Int → Int → Int → Int → Int → Int → Int → Int → Int → Int → Int → Int → Int → Int → Int → Int → Int → Int → Option (Int × Int × Bool × Int × Int × Bool × Int)
  | 0, _, _, _, _, _, _, _, _, _, _, _, _, _, _, _, _, _, _, _, _, _, _, _, _, _, _ => none
  | k + 1, x13, x67, x158000, x158001, x158002, x159000, x159001, x159002, x160000, x160001, x160002, x160003, x160004, x160005, x160006, x160007, x160008, x163000, x163001, x163002, x163003, x163004, x163005, x163006, x163007, x163008 => if x67 = true then (some (0, 0, false, 0, 0, false, 0)) else (side_Meet.j4 k x13 x158000 x158001 x158002 x159000 x159001 x159002 x160000 x160001 x160002 x160003 x160004 x160005 x160006 x160007 x160008 x163000 x163001 x163002 x163003 x163004 x163005 x163006 x163007 x163008)
def side_Meet.j1 : Nat → Int → Bool → Int → Int → Int → Int → Int → Int → Int → Int → Int → Int → Int → Int → Int → Int → Int → Int → Int → Int → Int → Int → Int → Int → Int → Int → Option (Int × Int × Bool × Int × Int × Bool × Int)
  | 0, _, _, _, _, _, _, _, _, _, _, _, _, _, _, _, _, _, _, _, _, _, _, _, _, _, _ => none
  | k + 1, x13, x67, x158000, x158001, x158002, x159000, x159001, x159002, x160000, x160001, x160002, x160003, x160004, x160005, x160006, x160007, x160008, x163000, x163001, x163002, x163003, x163004, x163005, x163006, x163007, x163008 => if x67 = true then (some (0, 0, false, 0, 0, false, 0)) else (side_Meet.j2 k x13 x158000 x158001 x158002 x159000 x159001 x159002 x160000 x160001 x160002 x160003 x160004 x160005 x160006 x160007 x160008 x163000 x163001 x163002 x163003 x163004 x163005 x163006 x163007 x163008)
end
def side_Meet.f (k : Nat) (a0_0 : Int) (a0_1 : Int) (a0_2 : Int) (a1_0 : Int) (a1_1 : Int) (a1_2 : Int) (a2_0 : Int) (a2_1 : Int) (a2_2 : Int) (a2_3 : Int) (a2_4 : Int) (a2_5 : Int) (a2_6 : Int) (a2_7 : Int) (a2_8 : Int) : Option (Int × Int × Bool × Int × Int × Bool × Int) := (side_line.f a0_0 a0_1 a0_2 a1_0 a1_1 a1_2).bind fun t163 => (if t163 = true then ((vec_Within.f a2_0 a2_1 a2_2 65536).bind fun t165 => (if t165 = true then ((vec_Within.f a2_3 a2_4 a2_5 65536).bind fun t167 => (if t167 = true then ((vec_Within.f a2_6 a2_7 a2_8 65536).bind fun t169 => (side_Meet.j0 k t169 a0_0 a0_1 a0_2 a1_0 a1_1 a1_2 a2_0 a2_1 a2_2 a2_3 a2_4 a2_5 a2_6 a2_7 a2_8 a2_0 a2_1 a2_2 a2_3 a2_4 a2_5 a2_6 a2_7 a2_8)) else (side_Meet.j0 k false a0_0 a0_1 a0_2 a1_0 a1_1 a1_2 a2_0 a2_1 a2_2 a2_3 a2_4 a2_5 a2_6 a2_7 a2_8 a2_0 a2_1 a2_2 a2_3 a2_4 a2_5 a2_6 a2_7 a2_8))) else (side_Meet.j0 k false a0_0 a0_1 a0_2 a1_0 a1_1 a1_2 a2_0 a2_1 a2_2 a2_3 a2_4 a2_5 a2_6 a2_7 a2_8 a2_0 a2_1 a2_2 a2_3 a2_4 a2_5 a2_6 a2_7 a2_8))) else (side_Meet.j0 k false a0_0 a0_1 a0_2 a1_0 a1_1 a1_2 a2_0 a2_1 a2_2 a2_3 a2_4 a2_5 a2_6 a2_7 a2_8 a2_0 a2_1 a2_2 a2_3 a2_4 a2_5 a2_6 a2_7 a2_8))
theorem side_Meet.mono_l : ∀ k, (∀ y0 y1 y2 y3 y4 y5 y6 y7 y8 y9 y10 y11 y12 y13 y14 y15 y16 y17 y18 y19 y20 y21 y22 y23 y24, LeO (side_Meet.j0 k y0 y1 y2 y3 y4 y5 y6 y7 y8 y9 y10 y11 y12 y13 y14 y15 y16 y17 y18 y19 y20 y21 y22 y23 y24) (side_Meet.j0 (k + 1) y0 y1 y2 y3 y4 y5 y6 y7 y8 y9 y10 y11 y12 y13 y14 y15 y16 y17 y18 y19 y20 y21 y22 y23 y24)) ∧ (∀ y0 y1 y2 y3 y4 y5 y6 y7 y8 y9 y10 y11 y12 y13 y14 y15, LeO (side_Meet.j7 k y0 y1 y2 y3 y4 y5 y6 y7 y8 y9 y10 y11 y12 y13 y14 y15) (side_Meet.j7 (k + 1) y0 y1 y2 y3 y4 y5 y6 y7 y8 y9 y10 y11 y12 y13 y14 y15)) ∧ (∀ y0 y1 y2, LeO (side_Meet.j8 k y0 y1 y2) (side_Meet.j8 (k + 1) y0 y1 y2)) ∧ (∀ y0 y1 y2 y3 y4 y5 y6 y7 y8 y9 y10 y11 y12 y13 y14 y15 y16 y17 y18 y19 y20 y21 y22 y23 y24, LeO (side_Meet.j2 k y0 y1 y2 y3 y4 y5 y6 y7 y8 y9 y10 y11 y12 y13 y14 y15 y16 y17 y18 y19 y20 y21 y22 y23 y24) (side_Meet.j2 (k + 1) y0 y1 y2 y3 y4 y5 y6 y7 y8 y9 y10 y11 y12 y13 y14 y15 y16 y17 y18 y19 y20 y21 y22 y23 y24)) ∧ (∀ y0 y1 y2 y3 y4 y5 y6 y7 y8 y9 y10 y11 y12 y13 y14 y15 y16 y17 y18 y19 y20 y21 y22 y23 y24, LeO (side_Meet.j4 k y0 y1 y2 y3 y4 y5 y6 y7 y8 y9 y10 y11 y12 y13 y14 y15 y16 y17 y18 y19 y20 y21 y22 y23 y24) (side_Meet.j4 (k + 1) y0 y1 y2 y3 y4 y5 y6 y7 y8 y9 y10 y11 y12 y13 y14 y15 y16 y17 y18 y19 y20 y21 y22 y23 y24)) ∧ (∀ y0 y1 y2 y3 y4 y5 y6 y7 y8 y9 y10 y11 y12 y13 y14 y15, LeO (side_Meet.j6 k y0 y1 y2 y3 y4 y5 y6 y7 y8 y9 y10 y11 y12 y13 y14 y15) (side_Meet.j6 (k + 1) y0 y1 y2 y3 y4 y5 y6 y7 y8 y9 y10 y11 y12 y13 y14 y15)) ∧ (∀ y0 y1 y2 y3 y4 y5 y6 y7 y8 y9 y10 y11 y12 y13 y14 y15 y16, LeO (side_Meet.j5 k y0 y1 y2 y3 y4 y5 y6 y7 y8 y9 y10 y11 y12 y13 y14 y15 y16) (side_Meet.j5 (k + 1) y0 y1 y2 y3 y4 y5 y6 y7 y8 y9 y10 y11 y12 y13 y14 y15 y16)) ∧ (∀ y0 y1 y2 y3 y4 y5 y6 y7 y8 y9 y10 y11 y12 y13 y14 y15 y16 y17 y18 y19 y20 y21 y22 y23 y24 y25, LeO (side_Meet.j3 k y0 y1 y2 y3 y4 y5 y6 y7 y8 y9 y10 y11 y12 y13 y14 y15 y16 y17 y18 y19 y20 y21 y22 y23 y24 y25) (side_Meet.j3 (k + 1) y0 y1 y2 y3 y4 y5 y6 y7 y8 y9 y10 y11 y12 y13 y14 y15 y16 y17 y18 y19 y20 y21 y22 y23 y24 y25)) ∧ (∀ y0 y1 y2 y3 y4 y5 y6 y7 y8 y9 y10 y11 y12 y13 y14 y15 y16 y17 y18 y19 y20 y21 y22 y23 y24 y25, LeO (side_Meet.j1 k y0 y1 y2 y3 y4 y5 y6 y7 y8 y9 y10 y11 y12 y13 y14 y15 y16 y17 y18 y19 y20 y21 y22 y23 y24 y25) (side_Meet.j1 (k + 1) y0 y1 y2 y3 y4 y5 y6 y7 y8 y9 y10 y11 y12 y13 y14 y15 y16 y17 y18 y19 y20 y21 y22 y23 y24 y25))
  | 0 => ⟨fun _ _ _ _ _ _ _ _ _ _ _ _ _ _ _ _ _ _ _ _ _ _ _ _ _ r h => by simp [side_Meet.j0] at h, fun _ _ _ _ _ _ _ _ _ _ _ _ _ _ _ _ r h => by simp [side_Meet.j7] at h, fun _ _ _ r h => by simp [side_Meet.j8] at h, fun _ _ _ _ _ _ _ _ _ _ _ _ _ _ _ _ _ _ _ _ _ _ _ _ _ r h => by simp [side_Meet.j2] at h, fun _ _ _ _ _ _ _ _ _ _ _ _ _ _ _ _ _ _ _ _ _ _ _ _ _ r h => by simp [side_Meet.j4] at h, fun _ _ _ _ _ _ _ _ _ _ _ _ _ _ _ _ r h => by simp [side_Meet.j6] at h, fun _ _ _ _ _ _ _ _ _ _ _ _ _ _ _ _ _ r h => by simp [side_Meet.j5] at h, fun _ _ _ _ _ _ _ _ _ _ _ _ _ _ _ _ _ _ _ _ _ _ _ _ _ _ r h => by simp [side_Meet.j3] at h, fun _ _ _ _ _ _ _ _ _ _ _ _ _ _ _ _ _ _ _ _ _ _ _ _ _ _ r h => by simp [side_Meet.j1] at h⟩
  | k + 1 => by
    obtain ⟨ih0, ih1, ih2, ih3, ih4, ih5, ih6, ih7, ih8⟩ := side_Meet.mono_l k
    refine ⟨?_, ?_, ?_, ?_, ?_, ?_, ?_, ?_, ?_⟩
    · intro y0 y1 y2 y3 y4 y5 y6 y7 y8 y9 y10 y11 y12 y13 y14 y15 y16 y17 y18 y19 y20 y21 y22 y23 y24
      unfold side_Meet.j0
      repeat' first
      | (with_reducible exact ih0 _ _ _ _ _ _ _ _ _ _ _ _ _ _ _ _ _ _ _ _ _ _ _ _ _)
      | (with_reducible exact ih1 _ _ _ _ _ _ _ _ _ _ _ _ _ _ _ _)
      | (with_reducible exact ih2 _ _ _)
      | (with_reducible exact ih3 _ _ _ _ _ _ _ _ _ _ _ _ _ _ _ _ _ _ _ _ _ _ _ _ _)
      | (with_reducible exact ih4 _ _ _ _ _ _ _ _ _ _ _ _ _ _ _ _ _ _ _ _ _ _ _ _ _)
      | (with_reducible exact ih5 _ _ _ _ _ _ _ _ _ _ _ _ _ _ _ _)
      | (with_reducible exact ih6 _ _ _ _ _ _ _ _ _ _ _ _ _ _ _ _ _)
      | (with_reducible exact ih7 _ _ _ _ _ _ _ _ _ _ _ _ _ _ _ _ _ _ _ _ _ _ _ _ _ _)
      | (with_reducible exact ih8 _ _ _ _ _ _ _ _ _ _ _ _ _ _ _ _ _ _ _ _ _ _ _ _ _ _)
      | (with_reducible exact side_pass.mono _ _ _ _ _ _ _ _ _ _ _ _ _)
      | (with_reducible exact LeO.refl _)
      | (with_reducible exact LeO.none _)
      | (with_reducible refine LeO.ite ?_ ?_)
      | (with_reducible refine LeO.bind ?_ (fun _ => ?_))
      | exact ih0 _ _ _ _ _ _ _ _ _ _ _ _ _ _ _ _ _ _ _ _ _ _ _ _ _
      | exact ih1 _ _ _ _ _ _ _ _ _ _ _ _ _ _ _ _
      | exact ih2 _ _ _
      | exact ih3 _ _ _ _ _ _ _ _ _ _ _ _ _ _ _ _ _ _ _ _ _ _ _ _ _
      | exact ih4 _ _ _ _ _ _ _ _ _ _ _ _ _ _ _ _ _ _ _ _ _ _ _ _ _
      | exact ih5 _ _ _ _ _ _ _ _ _ _ _ _ _ _ _ _
      | exact ih6 _ _ _ _ _ _ _ _ _ _ _ _ _ _ _ _ _
      | exact ih7 _ _ _ _ _ _ _ _ _ _ _ _ _ _ _ _ _ _ _ _ _ _ _ _ _ _
      | exact ih8 _ _ _ _ _ _ _ _ _ _ _ _ _ _ _ _ _ _ _ _ _ _ _ _ _ _
      | exact side_pass.mono _ _ _ _ _ _ _ _ _ _ _ _ _
      | exact LeO.none _
      | refine LeO.ite ?_ ?_
      | refine LeO.bind ?_ (fun _ => ?_)
    · intro y0 y1 y2 y3 y4 y5 y6 y7 y8 y9 y10 y11 y12 y13 y14 y15
      unfold side_Meet.j7
      repeat' first
      | (with_reducible exact ih0 _ _ _ _ _ _ _ _ _ _ _ _ _ _ _ _ _ _ _ _ _ _ _ _ _)
      | (with_reducible exact ih1 _ _ _ _ _ _ _ _ _ _ _ _ _ _ _ _)
      | (with_reducible exact ih2 _ _ _)
      | (with_reducible exact ih3 _ _ _ _ _ _ _ _ _ _ _ _ _ _ _ _ _ _ _ _ _ _ _ _ _)
      | (with_reducible exact ih4 _ _ _ _ _ _ _ _ _ _ _ _ _ _ _ _ _ _ _ _ _ _ _ _ _)
      | (with_reducible exact ih5 _ _ _ _ _ _ _ _ _ _ _ _ _ _ _ _)
      | (with_reducible exact ih6 _ _ _ _ _ _ _ _ _ _ _ _ _ _ _ _ _)
      | (with_reducible exact ih7 _ _ _ _ _ _ _ _ _ _ _ _ _ _ _ _ _ _ _ _ _ _ _ _ _ _)
      | (with_reducible exact ih8 _ _ _ _ _ _ _ _ _ _ _ _ _ _ _ _ _ _ _ _ _ _ _ _ _ _)
      | (with_reducible exact side_pass.mono _ _ _ _ _ _ _ _ _ _ _ _ _)
      | (with_reducible exact LeO.refl _)
      | (with_reducible exact LeO.none _)
      | (with_reducible refine LeO.ite ?_ ?_)
      | (with_reducible refine LeO.bind ?_ (fun _ => ?_))
      | exact ih0 _ _ _ _ _ _ _ _ _ _ _ _ _ _ _ _ _ _ _ _ _ _ _ _ _
      | exact ih1 _ _ _ _ _ _ _ _ _ _ _ _ _ _ _ _
      | exact ih2 _ _ _
      | exact ih3 _ _ _ _ _ _ _ _ _ _ _ _ _ _ _ _ _ _ _ _ _ _ _ _ _
      | exact ih4 _ _ _ _ _ _ _ _ _ _ _ _ _ _ _ _ _ _ _ _ _ _ _ _ _
      | exact ih5 _ _ _ _ _ _ _ _ _ _ _ _ _ _ _ _
      | exact ih6 _ _ _ _ _ _ _ _ _ _ _ _ _ _ _ _ _
      | exact ih7 _ _ _ _ _ _ _ _ _ _ _ _ _ _ _ _ _ _ _ _ _ _ _ _ _ _
      | exact ih8 _ _ _ _ _ _ _ _ _ _ _ _ _ _ _ _ _ _ _ _ _ _ _ _ _ _
      | exact side_pass.mono _ _ _ _ _ _ _ _ _ _ _ _ _
      | exact LeO.none _
      | refine LeO.ite ?_ ?_
      | refine LeO.bind ?_ (fun _ => ?_)
    · intro y0 y1 y2
      unfold side_Meet.j8
      repeat' first
      | (with_reducible exact ih0 _ _ _ _ _ _ _ _ _ _ _ _ _ _ _ _ _ _ _ _ _ _ _ _ _)
      | (with_reducible exact ih1 _ _ _ _ _ _ _ _ _ _ _ _ _ _ _ _)
      | (with_reducible exact ih2 _ _ _)
      | (with_reducible exact ih3 _ _ _ _ _ _ _ _ _ _ _ _ _ _ _ _ _ _ _ _ _ _ _ _ _)
      | (with_reducible exact ih4 _ _ _ _ _ _ _ _ _ _ _ _ _ _ _ _ _ _ _ _ _ _ _ _ _)
      | (with_reducible exact ih5 _ _ _ _ _ _ _ _ _ _ _ _ _ _ _ _)
      | (with_reducible exact ih6 _ _ _ _ _ _ _ _ _ _ _ _ _ _ _ _ _)
      | (with_reducible exact ih7 _ _ _ _ _ _ _ _ _ _ _ _ _ _ _ _ _ _ _ _ _ _ _ _ _ _)
      | (with_reducible exact ih8 _ _ _ _ _ _ _ _ _ _ _ _ _ _ _ _ _ _ _ _ _ _ _ _ _ _)
      | (with_reducible exact side_pass.mono _ _ _ _ _ _ _ _ _ _ _ _ _)
      | (with_reducible exact LeO.refl _)
      | (with_reducible exact LeO.none _)
      | (with_reducible refine LeO.ite ?_ ?_)
      | (with_reducible refine LeO.bind ?_ (fun _ => ?_))
      | exact ih0 _ _ _ _ _ _ _ _ _ _ _ _ _ _ _ _ _ _ _ _ _ _ _ _ _
      | exact ih1 _ _ _ _ _ _ _ _ _ _ _ _ _ _ _ _
      | exact ih2 _ _ _
      | exact ih3 _ _ _ _ _ _ _ _ _ _ _ _ _ _ _ _ _ _ _ _ _ _ _ _ _
      | exact ih4 _ _ _ _ _ _ _ _ _ _ _ _ _ _ _ _ _ _ _ _ _ _ _ _ _
      | exact ih5 _ _ _ _ _ _ _ _ _ _ _ _ _ _ _ _
      | exact ih6 _ _ _ _ _ _ _ _ _ _ _ _ _ _ _ _ _
      | exact ih7 _ _ _ _ _ _ _ _ _ _ _ _ _ _ _ _ _ _ _ _ _ _ _ _ _ _
      | exact ih8 _ _ _ _ _ _ _ _ _ _ _ _ _ _ _ _ _ _ _ _ _ _ _ _ _ _
      | exact side_pass.mono _ _ _ _ _ _ _ _ _ _ _ _ _
      | exact LeO.none _
      | refine LeO.ite ?_ ?_
      | refine LeO.bind ?_ (fun _ => ?_)
    · intro y0 y1 y2 y3 y4 y5 y6 y7 y8 y9 y10 y11 y12 y13 y14 y15 y16 y17 y18 y19 y20 y21 y22 y23 y24
      unfold side_Meet.j2
      repeat' first
      | (with_reducible exact ih0 _ _ _ _ _ _ _ _ _ _ _ _ _ _ _ _ _ _ _ _ _ _ _ _ _)
      | (with_reducible exact ih1 _ _ _ _ _ _ _ _ _ _ _ _ _ _ _ _)
      | (with_reducible exact ih2 _ _ _)
      | (with_reducible exact ih3 _ _ _ _ _ _ _ _ _ _ _ _ _ _ _ _ _ _ _ _ _ _ _ _ _)
      | (with_reducible exact ih4 _ _ _ _ _ _ _ _ _ _ _ _ _ _ _ _ _ _ _ _ _ _ _ _ _)
      | (with_reducible exact ih5 _ _ _ _ _ _ _ _ _ _ _ _ _ _ _ _)
      | (with_reducible exact ih6 _ _ _ _ _ _ _ _ _ _ _ _ _ _ _ _ _)
      | (with_reducible exact ih7 _ _ _ _ _ _ _ _ _ _ _ _ _ _ _ _ _ _ _ _ _ _ _ _ _ _)
      | (with_reducible exact ih8 _ _ _ _ _ _ _ _ _ _ _ _ _ _ _ _ _ _ _ _ _ _ _ _ _ _)
      | (with_reducible exact side_pass.mono _ _ _ _ _ _ _ _ _ _ _ _ _)
      | (with_reducible exact LeO.refl _)
      | (with_reducible exact LeO.none _)
      | (with_reducible refine LeO.ite ?_ ?_)
      | (with_reducible refine LeO.bind ?_ (fun _ => ?_))
      | exact ih0 _ _ _ _ _ _ _ _ _ _ _ _ _ _ _ _ _ _ _ _ _ _ _ _ _
      | exact ih1 _ _ _ _ _ _ _ _ _ _ _ _ _ _ _ _
      | exact ih2 _ _ _
      | exact ih3 _ _ _ _ _ _ _ _ _ _ _ _ _ _ _ _ _ _ _ _ _ _ _ _ _
      | exact ih4 _ _ _ _ _ _ _ _ _ _ _ _ _ _ _ _ _ _ _ _ _ _ _ _ _
      | exact ih5 _ _ _ _ _ _ _ _ _ _ _ _ _ _ _ _
      | exact ih6 _ _ _ _ _ _ _ _ _ _ _ _ _ _ _ _ _
      | exact ih7 _ _ _ _ _ _ _ _ _ _ _ _ _ _ _ _ _ _ _ _ _ _ _ _ _ _
      | exact ih8 _ _ _ _ _ _ _ _ _ _ _ _ _ _ _ _ _ _ _ _ _ _ _ _ _ _
      | exact side_pass.mono _ _ _ _ _ _ _ _ _ _ _ _ _
      | exact LeO.none _
      | refine LeO.ite ?_ ?_
      | refine LeO.bind ?_ (fun _ => ?_)
    · intro y0 y1 y2 y3 y4 y5 y6 y7 y8 y9 y10 y11 y12 y13 y14 y15 y16 y17 y18 y19 y20 y21 y22 y23 y24
      unfold side_Meet.j4
      repeat' first
      | (with_reducible exact ih0 _ _ _ _ _ _ _ _ _ _ _ _ _ _ _ _ _ _ _ _ _ _ _ _ _)
      | (with_reducible exact ih1 _ _ _ _ _ _ _ _ _ _ _ _ _ _ _ _)
      | (with_reducible exact ih2 _ _ _)
      | (with_reducible exact ih3 _ _ _ _ _ _ _ _ _ _ _ _ _ _ _ _ _ _ _ _ _ _ _ _ _)
      | (with_reducible exact ih4 _ _ _ _ _ _ _ _ _ _ _ _ _ _ _ _ _ _ _ _ _ _ _ _ _)
      | (with_reducible exact ih5 _ _ _ _ _ _ _ _ _ _ _ _ _ _ _ _)
      | (with_reducible exact ih6 _ _ _ _ _ _ _ _ _ _ _ _ _ _ _ _ _)
      | (with_reducible exact ih7 _ _ _ _ _ _ _ _ _ _ _ _ _ _ _ _ _ _ _ _ _ _ _ _ _ _)
      | (with_reducible exact ih8 _ _ _ _ _ _ _ _ _ _ _ _ _ _ _ _ _ _ _ _ _ _ _ _ _ _)
      | (with_reducible exact side_pass.mono _ _ _ _ _ _ _ _ _ _ _ _ _)
      | (with_reducible exact LeO.refl _)
      | (with_reducible exact LeO.none _)
      | (with_reducible refine LeO.ite ?_ ?_)
      | (with_reducible refine LeO.bind ?_ (fun _ => ?_))
      | exact ih0 _ _ _ _ _ _ _ _ _ _ _ _ _ _ _ _ _ _ _ _ _ _ _ _ _
      | exact ih1 _ _ _ _ _ _ _ _ _ _ _ _ _ _ _ _
      | exact ih2 _ _ _
      | exact ih3 _ _ _ _ _ _ _ _ _ _ _ _ _ _ _ _ _ _ _ _ _ _ _ _ _
      | exact ih4 _ _ _ _ _ _ _ _ _ _ _ _ _ _ _ _ _ _ _ _ _ _ _ _ _
      | exact ih5 _ _ _ _ _ _ _ _ _ _ _ _ _ _ _ _
      | exact ih6 _ _ _ _ _ _ _ _ _ _ _ _ _ _ _ _ _
      | exact ih7 _ _ _ _ _ _ _ _ _ _ _ _ _ _ _ _ _ _ _ _ _ _ _ _ _ _
      | exact ih8 _ _ _ _ _ _ _ _ _ _ _ _ _ _ _ _ _ _ _ _ _ _ _ _ _ _
      | exact side_pass.mono _ _ _ _ _ _ _ _ _ _ _ _ _
      | exact LeO.none _
      | refine LeO.ite ?_ ?_
      | refine LeO.bind ?_ (fun _ => ?_)
    · intro y0 y1 y2 y3 y4 y5 y6 y7 y8 y9 y10 y11 y12 y13 y14 y15
      unfold side_Meet.j6
      repeat' first
      | (with_reducible exact ih0 _ _ _ _ _ _ _ _ _ _ _ _ _ _ _ _ _ _ _ _ _ _ _ _ _)
      | (with_reducible exact ih1 _ _ _ _ _ _ _ _ _ _ _ _ _ _ _ _)
      | (with_reducible exact ih2 _ _ _)
      | (with_reducible exact ih3 _ _ _ _ _ _ _ _ _ _ _ _ _ _ _ _ _ _ _ _ _ _ _ _ _)
      | (with_reducible exact ih4 _ _ _ _ _ _ _ _ _ _ _ _ _ _ _ _ _ _ _ _ _ _ _ _ _)
      | (with_reducible exact ih5 _ _ _ _ _ _ _ _ _ _ _ _ _ _ _ _)
      | (with_reducible exact ih6 _ _ _ _ _ _ _ _ _ _ _ _ _ _ _ _ _)
      | (with_reducible exact ih7 _ _ _ _ _ _ _ _ _ _ _ _ _ _ _ _ _ _ _ _ _ _ _ _ _ _)
      | (with_reducible exact ih8 _ _ _ _ _ _ _ _ _ _ _ _ _ _ _ _ _ _ _ _ _ _ _ _ _ _)
      | (with_reducible exact side_pass.mono _ _ _ _ _ _ _ _ _ _ _ _ _)
      | (with_reducible exact LeO.refl _)
      | (with_reducible exact LeO.none _)
      | (with_reducible refine LeO.ite ?_ ?_)
      | (with_reducible refine LeO.bind ?_ (fun _ => ?_))
      | exact ih0 _ _ _ _ _ _ _ _ _ _ _ _ _ _ _ _ _ _ _ _ _ _ _ _ _
      | exact ih1 _ _ _ _ _ _ _ _ _ _ _ _ _ _ _ _
      | exact ih2 _ _ _
      | exact ih3 _ _ _ _ _ _ _ _ _ _ _ _ _ _ _ _ _ _ _ _ _ _ _ _ _
      | exact ih4 _ _ _ _ _ _ _ _ _ _ _ _ _ _ _ _ _ _ _ _ _ _ _ _ _
      | exact ih5 _ _ _ _ _ _ _ _ _ _ _ _ _ _ _ _
      | exact ih6 _ _ _ _ _ _ _ _ _ _ _ _ _ _ _ _ _
      | exact ih7 _ _ _ _ _ _ _ _ _ _ _ _ _ _ _ _ _ _ _ _ _ _ _ _ _ _
      | exact ih8 _ _ _ _ _ _ _ _ _ _ _ _ _ _ _ _ _ _ _ _ _ _ _ _ _ _
      | exact side_pass.mono _ _ _ _ _ _ _ _ _ _ _ _ _
      | exact LeO.none _
      | refine LeO.ite ?_ ?_
      | refine LeO.bind ?_ (fun _ => ?_)
    · intro y0 y1 y2 y3 y4 y5 y6 y7 y8 y9 y10 y11 y12 y13 y14 y15 y16
      unfold side_Meet.j5
      repeat' first
      | (with_reducible exact ih0 _ _ _ _ _ _ _ _ _ _ _ _ _ _ _ _ _ _ _ _ _ _ _ _ _)
      | (with_reducible exact ih1 _ _ _ _ _ _ _ _ _ _ _ _ _ _ _ _)
      | (with_reducible exact ih2 _ _ _)
      | (with_reducible exact ih3 _ _ _ _ _ _ _ _ _ _ _ _ _ _ _ _ _ _ _ _ _ _ _ _ _)
      | (with_reducible exact ih4 _ _ _ _ _ _ _ _ _ _ _ _ _ _ _ _ _ _ _ _ _ _ _ _ _)
      | (with_reducible exact ih5 _ _ _ _ _ _ _ _ _ _ _ _ _ _ _ _)
      | (with_reducible exact ih6 _ _ _ _ _ _ _ _ _ _ _ _ _ _ _ _ _)
      | (with_reducible exact ih7 _ _ _ _ _ _ _ _ _ _ _ _ _ _ _ _ _ _ _ _ _ _ _ _ _ _)
      | (with_reducible exact ih8 _ _ _ _ _ _ _ _ _ _ _ _ _ _ _ _ _ _ _ _ _ _ _ _ _ _)
      | (with_reducible exact side_pass.mono _ _ _ _ _ _ _ _ _ _ _ _ _)
      | (with_reducible exact LeO.refl _)
      | (with_reducible exact LeO.none _)
      | (with_reducible refine LeO.ite ?_ ?_)
      | (with_reducible refine LeO.bind ?_ (fun _ => ?_))
      | exact ih0 _ _ _ _ _ _ _ _ _ _ _ _ _ _ _ _ _ _ _ _ _ _ _ _ _
      | exact ih1 _ _ _ _ _ _ _ _ _ _ _ _ _ _ _ _
      | exact ih2 _ _ _
      | exact ih3 _ _ _ _ _ _ _ _ _ _ _ _ _ _ _ _ _ _ _ _ _ _ _ _ _
      | exact ih4 _ _ _ _ _ _ _ _ _ _ _ _ _ _ _ _ _ _ _ _ _ _ _ _ _
      | exact ih5 _ _ _ _ _ _ _ _ _ _ _ _ _ _ _ _
      | exact ih6 _ _ _ _ _ _ _ _ _ _ _ _ _ _ _ _ _
      | exact ih7 _ _ _ _ _ _ _ _ _ _ _ _ _ _ _ _ _ _ _ _ _ _ _ _ _ _
      | exact ih8 _ _ _ _ _ _ _ _ _ _ _ _ _ _ _ _ _ _ _ _ _ _ _ _ _ _
      | exact side_pass.mono _ _ _ _ _ _ _ _ _ _ _ _ _
      | exact LeO.none _
      | refine LeO.ite ?_ ?_
      | refine LeO.bind ?_ (fun _ => ?_)
    · intro y0 y1 y2 y3 y4 y5 y6 y7 y8 y9 y10 y11 y12 y13 y14 y15 y16 y17 y18 y19 y20 y21 y22 y23 y24 y25
      unfold side_Meet.j3
      repeat' first
      | (with_reducible exact ih0 _ _ _ _ _ _ _ _ _ _ _ _ _ _ _ _ _ _ _ _ _ _ _ _ _)
      | (with_reducible exact ih1 _ _ _ _ _ _ _ _ _ _ _ _ _ _ _ _)
      | (with_reducible exact ih2 _ _ _)
      | (with_reducible exact ih3 _ _ _ _ _ _ _ _ _ _ _ _ _ _ _ _ _ _ _ _ _ _ _ _ _)
      | (with_reducible exact ih4 _ _ _ _ _ _ _ _ _ _ _ _ _ _ _ _ _ _ _ _ _ _ _ _ _)
      | (with_reducible exact ih5 _ _ _ _ _ _ _ _ _ _ _ _ _ _ _ _)
      | (with_reducible exact ih6 _ _ _ _ _ _ _ _ _ _ _ _ _ _ _ _ _)
      | (with_reducible exact ih7 _ _ _ _ _ _ _ _ _ _ _ _ _ _ _ _ _ _ _ _ _ _ _ _ _ _)
      | (with_reducible exact ih8 _ _ _ _ _ _ _ _ _ _ _ _ _ _ _ _ _ _ _ _ _ _ _ _ _ _)
      | (with_reducible exact side_pass.mono _ _ _ _ _ _ _ _ _ _ _ _ _)
      | (with_reducible exact LeO.refl _)
      | (with_reducible exact LeO.none _)
      | (with_reducible refine LeO.ite ?_ ?_)
      | (with_reducible refine LeO.bind ?_ (fun _ => ?_))
      | exact ih0 _ _ _ _ _ _ _ _ _ _ _ _ _ _ _ _ _ _ _ _ _ _ _ _ _
      | exact ih1 _ _ _ _ _ _ _ _ _ _ _ _ _ _ _ _
      | exact ih2 _ _ _
      | exact ih3 _ _ _ _ _ _ _ _ _ _ _ _ _ _ _ _ _ _ _ _ _ _ _ _ _
      | exact ih4 _ _ _ _ _ _ _ _ _ _ _ _ _ _ _ _ _ _ _ _ _ _ _ _ _
      | exact ih5 _ _ _ _ _ _ _ _ _ _ _ _ _ _ _ _
      | exact ih6 _ _ _ _ _ _ _ _ _ _ _ _ _ _ _ _ _
      | exact ih7 _ _ _ _ _ _ _ _ _ _ _ _ _ _ _ _ _ _ _ _ _ _ _ _ _ _
      | exact ih8 _ _ _ _ _ _ _ _ _ _ _ _ _ _ _ _ _ _ _ _ _ _ _ _ _ _
      | exact side_pass.mono _ _ _ _ _ _ _ _ _ _ _ _ _
      | exact LeO.none _
      | refine LeO.ite ?_ ?_
      | refine LeO.bind ?_ (fun _ => ?_)
    · intro y0 y1 y2 y3 y4 y5 y6 y7 y8 y9 y10 y11 y12 y13 y14 y15 y16 y17 y18 y19 y20 y21 y22 y23 y24 y25
      unfold side_Meet.j1
      repeat' first
      | (with_reducible exact ih0 _ _ _ _ _ _ _ _ _ _ _ _ _ _ _ _ _ _ _ _ _ _ _ _ _)
      | (with_reducible exact ih1 _ _ _ _ _ _ _ _ _ _ _ _ _ _ _ _)
      | (with_reducible exact ih2 _ _ _)
      | (with_reducible exact ih3 _ _ _ _ _ _ _ _ _ _ _ _ _ _ _ _ _ _ _ _ _ _ _ _ _)
      | (with_reducible exact ih4 _ _ _ _ _ _ _ _ _ _ _ _ _ _ _ _ _ _ _ _ _ _ _ _ _)
      | (with_reducible exact ih5 _ _ _ _ _ _ _ _ _ _ _ _ _ _ _ _)
      | (with_reducible exact ih6 _ _ _ _ _ _ _ _ _ _ _ _ _ _ _ _ _)
      | (with_reducible exact ih7 _ _ _ _ _ _ _ _ _ _ _ _ _ _ _ _ _ _ _ _ _ _ _ _ _ _)
      | (with_reducible exact ih8 _ _ _ _ _ _ _ _ _ _ _ _ _ _ _ _ _ _ _ _ _ _ _ _ _ _)
      | (with_reducible exact side_pass.mono _ _ _ _ _ _ _ _ _ _ _ _ _)
      | (with_reducible exact LeO.refl _)
      | (with_reducible exact LeO.none _)
      | (with_reducible refine LeO.ite ?_ ?_)
      | (with_reducible refine LeO.bind ?_ (fun _ => ?_))
      | exact ih0 _ _ _ _ _ _ _ _ _ _ _ _ _ _ _ _ _ _ _ _ _ _ _ _ _
      | exact ih1 _ _ _ _ _ _ _ _ _ _ _ _ _ _ _ _
      | exact ih2 _ _ _
      | exact ih3 _ _ _ _ _ _ _ _ _ _ _ _ _ _ _ _ _ _ _ _ _ _ _ _ _
      | exact ih4 _ _ _ _ _ _ _ _ _ _ _ _ _ _ _ _ _ _ _ _ _ _ _ _ _
      | exact ih5 _ _ _ _ _ _ _ _ _ _ _ _ _ _ _ _
      | exact ih6 _ _ _ _ _ _ _ _ _ _ _ _ _ _ _ _ _
      | exact ih7 _ _ _ _ _ _ _ _ _ _ _ _ _ _ _ _ _ _ _ _ _ _ _ _ _ _
      | exact ih8 _ _ _ _ _ _ _ _ _ _ _ _ _ _ _ _ _ _ _ _ _ _ _ _ _ _
      | exact side_pass.mono _ _ _ _ _ _ _ _ _ _ _ _ _
      | exact LeO.none _
      | refine LeO.ite ?_ ?_
      | refine LeO.bind ?_ (fun _ => ?_)
theorem side_Meet.mono : ∀ a0 a1 a2 a3 a4 a5 a6 a7 a8 a9 a10 a11 a12 a13 a14 k, LeO (side_Meet.f k a0 a1 a2 a3 a4 a5 a6 a7 a8 a9 a10 a11 a12 a13 a14) (side_Meet.f (k + 1) a0 a1 a2 a3 a4 a5 a6 a7 a8 a9 a10 a11 a12 a13 a14) := by
  intro a0 a1 a2 a3 a4 a5 a6 a7 a8 a9 a10 a11 a12 a13 a14 k
  obtain ⟨ih0, ih1, ih2, ih3, ih4, ih5, ih6, ih7, ih8⟩ := side_Meet.mono_l k
  unfold side_Meet.f
  repeat' first
      | (with_reducible exact ih0 _ _ _ _ _ _ _ _ _ _ _ _ _ _ _ _ _ _ _ _ _ _ _ _ _)
      | (with_reducible exact ih1 _ _ _ _ _ _ _ _ _ _ _ _ _ _ _ _)
      | (with_reducible exact ih2 _ _ _)
      | (with_reducible exact ih3 _ _ _ _ _ _ _ _ _ _ _ _ _ _ _ _ _ _ _ _ _ _ _ _ _)
      | (with_reducible exact ih4 _ _ _ _ _ _ _ _ _ _ _ _ _ _ _ _ _ _ _ _ _ _ _ _ _)
      | (with_reducible exact ih5 _ _ _ _ _ _ _ _ _ _ _ _ _ _ _ _)
      | (with_reducible exact ih6 _ _ _ _ _ _ _ _ _ _ _ _ _ _ _ _ _)
      | (with_reducible exact ih7 _ _ _ _ _ _ _ _ _ _ _ _ _ _ _ _ _ _ _ _ _ _ _ _ _ _)
      | (with_reducible exact ih8 _ _ _ _ _ _ _ _ _ _ _ _ _ _ _ _ _ _ _ _ _ _ _ _ _ _)
      | (with_reducible exact side_pass.mono _ _ _ _ _ _ _ _ _ _ _ _ _)
      | (with_reducible exact LeO.refl _)
      | (with_reducible exact LeO.none _)
      | (with_reducible refine LeO.ite ?_ ?_)
      | (with_reducible refine LeO.bind ?_ (fun _ => ?_))
      | exact ih0 _ _ _ _ _ _ _ _ _ _ _ _ _ _ _ _ _ _ _ _ _ _ _ _ _
      | exact ih1 _ _ _ _ _ _ _ _ _ _ _ _ _ _ _ _
      | exact ih2 _ _ _
      | exact ih3 _ _ _ _ _ _ _ _ _ _ _ _ _ _ _ _ _ _ _ _ _ _ _ _ _
      | exact ih4 _ _ _ _ _ _ _ _ _ _ _ _ _ _ _ _ _ _ _ _ _ _ _ _ _
      | exact ih5 _ _ _ _ _ _ _ _ _ _ _ _ _ _ _ _
      | exact ih6 _ _ _ _ _ _ _ _ _ _ _ _ _ _ _ _ _
      | exact ih7 _ _ _ _ _ _ _ _ _ _ _ _ _ _ _ _ _ _ _ _ _ _ _ _ _ _
      | exact ih8 _ _ _ _ _ _ _ _ _ _ _ _ _ _ _ _ _ _ _ _ _ _ _ _ _ _
      | exact side_pass.mono _ _ _ _ _ _ _ _ _ _ _ _ _
      | exact LeO.none _
      | refine LeO.ite ?_ ?_
      | refine LeO.bind ?_ (fun _ => ?_)
def side_Meet.T14 : Bool × List (List Nat × List Nat) := (true, [([], []), ([0], [0]), ([1], [1]), ([2], [2]), ([2], [2]), ([2], [2]), ([2], [2]), ([6, 2], [2, 6]), ([7, 2], [2, 7]), ([8, 2], [2, 8]), ([9, 2], [2, 9]), ([3, 4, 5, 10, 2, 2], [2, 3, 4, 5, 10]), ([2], [2]), ([11, 12, 2], [2, 11, 12]), ([2, 13], [2, 13])])
def side_Meet.B14 : List Nat := [0, 1, 3, 7, 7, 7, 7, 71, 199, 455, 967, 2047, 7, 8191, 16383]
theorem side_Meet.tab14 : rtab .any (opsOf Try.f7 14) = side_Meet.T14 := by kernel_rfl
theorem side_Meet.bits14 : waitsOk side_Meet.T14.2 side_Meet.B14 = true := by kernel_rfl
def side_Meet.T18 : Bool × List (List Nat × List Nat) := (true, [([], []), ([], []), ([1], [1]), ([], []), ([2, 3], [2, 3]), ([0, 4, 4], [0, 4]), ([], []), ([], []), ([6, 7, 5], [6, 7]), ([5, 8], [5, 8]), ([], []), ([10, 9, 8, 0, 1, 2, 3, 4, 5, 6, 7, 8, 9, 10], [9, 10])])
def side_Meet.B18 : List Nat := [0, 0, 2, 0, 14, 31, 0, 0, 255, 511, 0, 2047]
theorem side_Meet.tab18 : rtab .any (opsOf Try.f7 18) = side_Meet.T18 := by kernel_rfl
theorem side_Meet.bits18 : waitsOk side_Meet.T18.2 side_Meet.B18 = true := by kernel_rfl
set_option maxHeartbeats 8000000 in
set_option maxRecDepth 100000 in
theorem side_Meet.calls (k : Nat) (a0_0 : Int) (a0_1 : Int) (a0_2 : Int) (a1_0 : Int) (a1_1 : Int) (a1_2 : Int) (a2_0 : Int) (a2_1 : Int) (a2_2 : Int) (a2_3 : Int) (a2_4 : Int) (a2_5 : Int) (a2_6 : Int) (a2_7 : Int) (a2_8 : Int) (r1 : Int) (r2 : Int) (r3 : Bool) (r4 : Int) (r5 : Int) (r6 : Bool) (r7 : Int) (w : World) (h : side_Meet.f k a0_0 a0_1 a0_2 a1_0 a1_1 a1_2 a2_0 a2_1 a2_2 a2_3 a2_4 a2_5 a2_6 a2_7 a2_8 = some (r1, r2, r3, r4, r5, r6, r7)) :
    Calls Try.prog 7 #[.agg #[.int .i64 a0_0, .int .i64 a0_1, .int .i64 a0_2], .agg #[.int .i64 a1_0, .int .i64 a1_1, .int .i64 a1_2], .agg #[.int .i64 a2_0, .int .i64 a2_1, .int .i64 a2_2, .int .i64 a2_3, .int .i64 a2_4, .int .i64 a2_5, .int .i64 a2_6, .int .i64 a2_7, .int .i64 a2_8]] w fun e w' => e = .returned (.tuple #[.agg #[.int .i64 r1, .int .i64 r2, .bool r3, .int .i64 r4, .int .i64 r5], .bool r6, .int .i64 r7]) ∧ Below w.heap.size w w' := by
 have hu23 := Try.underlying23
 have hu25 := Try.underlying25
 have hu33 := Try.underlying33
 have hu43 := Try.underlying43
 have hu27 := Try.underlying27
 have HB := Aside0.mk (Below.refl w.heap.size w)
 have H : ((side_line.f a0_0 a0_1 a0_2 a1_0 a1_1 a1_2).bind fun t163 => (if t163 = true then ((vec_Within.f a2_0 a2_1 a2_2 65536).bind fun t165 => (if t165 = true then ((vec_Within.f a2_3 a2_4 a2_5 65536).bind fun t167 => (if t167 = true then ((vec_Within.f a2_6 a2_7 a2_8 65536).bind fun t169 => (side_Meet.j0 k t169 a0_0 a0_1 a0_2 a1_0 a1_1 a1_2 a2_0 a2_1 a2_2 a2_3 a2_4 a2_5 a2_6 a2_7 a2_8 a2_0 a2_1 a2_2 a2_3 a2_4 a2_5 a2_6 a2_7 a2_8)) else (side_Meet.j0 k false a0_0 a0_1 a0_2 a1_0 a1_1 a1_2 a2_0 a2_1 a2_2 a2_3 a2_4 a2_5 a2_6 a2_7 a2_8 a2_0 a2_1 a2_2 a2_3 a2_4 a2_5 a2_6 a2_7 a2_8))) else (side_Meet.j0 k false a0_0 a0_1 a0_2 a1_0 a1_1 a1_2 a2_0 a2_1 a2_2 a2_3 a2_4 a2_5 a2_6 a2_7 a2_8 a2_0 a2_1 a2_2 a2_3 a2_4 a2_5 a2_6 a2_7 a2_8))) else (side_Meet.j0 k false a0_0 a0_1 a0_2 a1_0 a1_1 a1_2 a2_0 a2_1 a2_2 a2_3 a2_4 a2_5 a2_6 a2_7 a2_8 a2_0 a2_1 a2_2 a2_3 a2_4 a2_5 a2_6 a2_7 a2_8))) = some (r1, r2, r3, r4, r5, r6, r7) := h
 clear h
 replace H := Option.bind_eq_some_iff.mp H
 obtain ⟨t163, A40, H⟩ := H
 replace H : (if t163 = true then ((vec_Within.f a2_0 a2_1 a2_2 65536).bind fun t165 => (if t165 = true then ((vec_Within.f a2_3 a2_4 a2_5 65536).bind fun t167 => (if t167 = true then ((vec_Within.f a2_6 a2_7 a2_8 65536).bind fun t169 => (side_Meet.j0 k t169 a0_0 a0_1 a0_2 a1_0 a1_1 a1_2 a2_0 a2_1 a2_2 a2_3 a2_4 a2_5 a2_6 a2_7 a2_8 a2_0 a2_1 a2_2 a2_3 a2_4 a2_5 a2_6 a2_7 a2_8)) else (side_Meet.j0 k false a0_0 a0_1 a0_2 a1_0 a1_1 a1_2 a2_0 a2_1 a2_2 a2_3 a2_4 a2_5 a2_6 a2_7 a2_8 a2_0 a2_1 a2_2 a2_3 a2_4 a2_5 a2_6 a2_7 a2_8))) else (side_Meet.j0 k false a0_0 a0_1 a0_2 a1_0 a1_1 a1_2 a2_0 a2_1 a2_2 a2_3 a2_4 a2_5 a2_6 a2_7 a2_8 a2_0 a2_1 a2_2 a2_3 a2_4 a2_5 a2_6 a2_7 a2_8))) else (side_Meet.j0 k false a0_0 a0_1 a0_2 a1_0 a1_1 a1_2 a2_0 a2_1 a2_2 a2_3 a2_4 a2_5 a2_6 a2_7 a2_8 a2_0 a2_1 a2_2 a2_3 a2_4 a2_5 a2_6 a2_7 a2_8)) = some (r1, r2, r3, r4, r5, r6, r7) := H
 have A4 := Aside0.mk A40
 clear A40
 have HC5 := Aside0.mk H
 clear H
 go_enter Try.func7, Try.ntmps7
 go_upto_block 0 with (first | ((with_reducible refine gate_dst (N := 3) rfl ?_); refine box_event ?hg (N := 3) ?hd (cs := #[.int .i64 a0_0, .int .i64 a0_1, .int .i64 a0_2]) (t := 23) ?hr ?_; (case hd => rfl); (case hg => rfl); (case hr => first | (go_simp; done) | (go_simp; rfl)); intro gb157 hg w6 hbox hb; have BK157 := Aside0.mk (hbox); have GE157 := Aside0.mk (bG hg (HB.out)); replace HB := Aside0.mk (below_step (HB.out) hb); clear hb hbox hg) | ((with_reducible refine gate_dst (N := 4) rfl ?_); refine box_event ?hg (N := 4) ?hd (cs := #[.int .i64 a1_0, .int .i64 a1_1, .int .i64 a1_2]) (t := 23) ?hr ?_; (case hd => rfl); (case hg => rfl); (case hr => first | (go_simp; done) | (go_simp; rfl)); intro gb158 hg w7 hbox hb; have BK158 := Aside0.mk (hbox); have GE158 := Aside0.mk (bG hg (HB.out)); have NB157_158 := cN hg BK157; have NB158_157 := cM hg BK157; replace BK157 := cB hb BK157; replace HB := Aside0.mk (below_step (HB.out) hb); clear hb hbox hg) | ((with_reducible refine gate_dst (N := 5) rfl ?_); refine box_event ?hg (N := 5) ?hd (cs := #[.int .i64 a2_0, .int .i64 a2_1, .int .i64 a2_2, .int .i64 a2_3, .int .i64 a2_4, .int .i64 a2_5, .int .i64 a2_6, .int .i64 a2_7, .int .i64 a2_8]) (t := 25) ?hr ?_; (case hd => rfl); (case hg => rfl); (case hr => first | (go_simp; done) | (go_simp; rfl)); intro gb159 hg w8 hbox hb; have BK159 := Aside0.mk (hbox); have GE159 := Aside0.mk (bG hg (HB.out)); have NB157_159 := cN hg BK157; have NB159_157 := cM hg BK157; have NB158_159 := cN hg BK158; have NB159_158 := cM hg BK158; replace BK157 := cB hb BK157; replace BK158 := cB hb BK158; replace HB := Aside0.mk (below_step (HB.out) hb); clear hb hbox hg) | ((with_reducible refine gate_dst (N := 6) rfl ?_); refine box_event ?hg (N := 6) ?hd (cs := #[.int .i64 0, .int .i64 0, .bool false, .int .i64 0, .int .i64 0]) (t := 33) ?hr ?_; (case hd => rfl); (case hg => rfl); (case hr => first | (go_simp; done) | (go_simp; rfl)); intro gb160 hg w9 hbox hb; have BK160 := Aside0.mk (hbox); have GE160 := Aside0.mk (bG hg (HB.out)); have NB157_160 := cN hg BK157; have NB160_157 := cM hg BK157; have NB158_160 := cN hg BK158; have NB160_158 := cM hg BK158; have NB159_160 := cN hg BK159; have NB160_159 := cM hg BK159; replace BK157 := cB hb BK157; replace BK158 := cB hb BK158; replace BK159 := cB hb BK159; replace HB := Aside0.mk (below_step (HB.out) hb); clear hb hbox hg; obtain ⟨hcz10_0, hcz10_1, hcz10_2, hcz10_3, hcz10_4, hcz10_5, hcz10_6, hcz10_7, hcz10_8⟩ := cells9 BK159.out) | ((with_reducible refine gate_dst (N := 9) rfl ?_); refine box_event ?hg (N := 9) ?hd (cs := #[.int .i64 0, .int .i64 0, .int .i64 0, .int .i64 0, .int .i64 0, .int .i64 0, .int .i64 0, .int .i64 0, .int .i64 0]) (t := 43) ?hr ?_; (case hd => rfl); (case hg => rfl); (case hr => first | (go_simp; done) | (go_simp; rfl)); intro gb162 hg w11 hbox hb; have BK162 := Aside0.mk (hbox); have GE162 := Aside0.mk (bG hg (HB.out)); have NB157_162 := cN hg BK157; have NB162_157 := cM hg BK157; have NB158_162 := cN hg BK158; have NB162_158 := cM hg BK158; have NB159_162 := cN hg BK159; have NB162_159 := cM hg BK159; have NB160_162 := cN hg BK160; have NB162_160 := cM hg BK160; replace BK157 := cB hb BK157; replace BK158 := cB hb BK158; replace BK159 := cB hb BK159; replace BK160 := cB hb BK160; replace HB := Aside0.mk (below_step (HB.out) hb); clear hb hbox hg; have hnb12 := NB162_157.out; have hnc12 := NB157_162.out; have hnb13 := NB162_158.out; have hnc13 := NB158_162.out; have hnb14 := NB162_159.out; have hnc14 := NB159_162.out; have hnb15 := NB162_160.out; have hnc15 := NB160_162.out; obtain ⟨hcz16_0, hcz16_1, hcz16_2, hcz16_3, hcz16_4, hcz16_5, hcz16_6, hcz16_7, hcz16_8⟩ := cells9 BK162.out; have hfz16_0 := blk_frozen BK162.out 0; have hfz16_1 := blk_frozen BK162.out 1; have hfz16_2 := blk_frozen BK162.out 2; have hfz16_3 := blk_frozen BK162.out 3; have hfz16_4 := blk_frozen BK162.out 4; have hfz16_5 := blk_frozen BK162.out 5; have hfz16_6 := blk_frozen BK162.out 6; have hfz16_7 := blk_frozen BK162.out 7; have hfz16_8 := blk_frozen BK162.out 8; obtain ⟨hcz17_0, hcz17_1, hcz17_2⟩ := cells3 BK157.out; obtain ⟨hcz18_0, hcz18_1, hcz18_2⟩ := cells3 BK158.out) | ((with_reducible refine gate_callee (f := 13) rfl ?_); refine goesL_ (some 27) rfl rfl Try.func13 (by kernel_rfl) rfl #[.agg #[.int .i64 a0_0, .int .i64 a0_1, .int .i64 a0_2], .agg #[.int .i64 a1_0, .int .i64 a1_1, .int .i64 a1_2]] rfl (by (try simp only [List.map_toArray, List.map_cons, List.map_nil]); first | done | rfl | (simp only [List.length_drop, List.length_take]; rfl)) ?_; (with_reducible refine (side_line.calls a0_0 a0_1 a0_2 a1_0 a1_1 a1_2 t163 _ A4.out).mono ?_); rintro e w19 ⟨rfl, hb⟩; refine ⟨_, rfl, ?_⟩; replace BK157 := Aside0.mk (bB hb ((blk_far (blk_far (blk_far (blk_far (blk_far (blk_far (blk_far (blk_far (blk_far BK157.out NB157_162.out _) NB157_162.out _) NB157_162.out _) NB157_162.out _) NB157_162.out _) NB157_162.out _) NB157_162.out _) NB157_162.out _) NB157_162.out _))); replace BK158 := Aside0.mk (bB hb ((blk_far (blk_far (blk_far (blk_far (blk_far (blk_far (blk_far (blk_far (blk_far BK158.out NB158_162.out _) NB158_162.out _) NB158_162.out _) NB158_162.out _) NB158_162.out _) NB158_162.out _) NB158_162.out _) NB158_162.out _) NB158_162.out _))); replace BK159 := Aside0.mk (bB hb ((blk_far (blk_far (blk_far (blk_far (blk_far (blk_far (blk_far (blk_far (blk_far BK159.out NB159_162.out _) NB159_162.out _) NB159_162.out _) NB159_162.out _) NB159_162.out _) NB159_162.out _) NB159_162.out _) NB159_162.out _) NB159_162.out _))); replace BK160 := Aside0.mk (bB hb ((blk_far (blk_far (blk_far (blk_far (blk_far (blk_far (blk_far (blk_far (blk_far BK160.out NB160_162.out _) NB160_162.out _) NB160_162.out _) NB160_162.out _) NB160_162.out _) NB160_162.out _) NB160_162.out _) NB160_162.out _) NB160_162.out _))); replace BK162 := Aside0.mk (bB hb ((blk_put (cs' := #[.int .i64 a2_0, .int .i64 a2_1, .int .i64 a2_2, .int .i64 a2_3, .int .i64 a2_4, .int .i64 a2_5, .int .i64 a2_6, .int .i64 a2_7, .int .i64 a2_8]) (blk_put (blk_put (blk_put (cs' := #[.int .i64 a2_0, .int .i64 a2_1, .int .i64 a2_2, .int .i64 a2_3, .int .i64 a2_4, .int .i64 a2_5, .int .i64 0, .int .i64 0, .int .i64 0]) (blk_put (blk_put (blk_put (blk_put (blk_put BK162.out 0 _ rfl) 1 _ rfl) 2 _ rfl) 3 _ rfl) 4 _ rfl) 5 _ rfl) 6 _ rfl) 7 _ rfl) 8 _ rfl))); replace HB := Aside0.mk (below_step ((below_set (below_set (below_set (below_set (below_set (below_set (below_set (below_set (below_set HB.out GE162.out) GE162.out) GE162.out) GE162.out) GE162.out) GE162.out) GE162.out) GE162.out) GE162.out)) hb); (try clear hb); (try clear hb2); (try clear hk); (try clear hi); obtain ⟨hcz20_0, hcz20_1, hcz20_2, hcz20_3, hcz20_4, hcz20_5, hcz20_6, hcz20_7, hcz20_8⟩ := cells9 BK162.out; have hfz20_0 := blk_frozen BK162.out 0; have hfz20_1 := blk_frozen BK162.out 1; have hfz20_2 := blk_frozen BK162.out 2; have hfz20_3 := blk_frozen BK162.out 3; have hfz20_4 := blk_frozen BK162.out 4; have hfz20_5 := blk_frozen BK162.out 5; have hfz20_6 := blk_frozen BK162.out 6; have hfz20_7 := blk_frozen BK162.out 7; have hfz20_8 := blk_frozen BK162.out 8))
 (try simp only [Act.put, List.setIfInBounds_toArray, List.set_cons_zero, List.set_cons_succ])
 go_cut [10] (fun v10 wc => ∃ (kq : Nat) (x10_4 : Bool), v10 = .bool x10_4 ∧ Aside0 (side_Meet.j0 kq x10_4 a0_0 a0_1 a0_2 a1_0 a1_1 a1_2 a2_0 a2_1 a2_2 a2_3 a2_4 a2_5 a2_6 a2_7 a2_8 a2_0 a2_1 a2_2 a2_3 a2_4 a2_5 a2_6 a2_7 a2_8 = some (r1, r2, r3, r4, r5, r6, r7)) ∧ Aside0 (kq ≤ k) ∧ Aside0 (wc.heap[gb157]? = some (.cells #[.int .i64 a0_0, .int .i64 a0_1, .int .i64 a0_2] 23 (0, 0))) ∧ Aside0 (wc.heap[gb158]? = some (.cells #[.int .i64 a1_0, .int .i64 a1_1, .int .i64 a1_2] 23 (0, 0))) ∧ Aside0 (wc.heap[gb159]? = some (.cells #[.int .i64 a2_0, .int .i64 a2_1, .int .i64 a2_2, .int .i64 a2_3, .int .i64 a2_4, .int .i64 a2_5, .int .i64 a2_6, .int .i64 a2_7, .int .i64 a2_8] 25 (0, 0))) ∧ Aside0 (wc.heap[gb160]? = some (.cells #[.int .i64 0, .int .i64 0, .bool false, .int .i64 0, .int .i64 0] 33 (0, 0))) ∧ Aside0 (wc.heap[gb162]? = some (.cells #[.int .i64 a2_0, .int .i64 a2_1, .int .i64 a2_2, .int .i64 a2_3, .int .i64 a2_4, .int .i64 a2_5, .int .i64 a2_6, .int .i64 a2_7, .int .i64 a2_8] 43 (0, 0))) ∧ Aside0 (Below w.heap.size w wc))
 case first =>
  have H := HC5.out
  clear HC5
  by_cases c21 : t163 = true
  ·subst c21
   have H1 : ((vec_Within.f a2_0 a2_1 a2_2 65536).bind fun t165 => (if t165 = true then ((vec_Within.f a2_3 a2_4 a2_5 65536).bind fun t167 => (if t167 = true then ((vec_Within.f a2_6 a2_7 a2_8 65536).bind fun t169 => (side_Meet.j0 k t169 a0_0 a0_1 a0_2 a1_0 a1_1 a1_2 a2_0 a2_1 a2_2 a2_3 a2_4 a2_5 a2_6 a2_7 a2_8 a2_0 a2_1 a2_2 a2_3 a2_4 a2_5 a2_6 a2_7 a2_8)) else (side_Meet.j0 k false a0_0 a0_1 a0_2 a1_0 a1_1 a1_2 a2_0 a2_1 a2_2 a2_3 a2_4 a2_5 a2_6 a2_7 a2_8 a2_0 a2_1 a2_2 a2_3 a2_4 a2_5 a2_6 a2_7 a2_8))) else (side_Meet.j0 k false a0_0 a0_1 a0_2 a1_0 a1_1 a1_2 a2_0 a2_1 a2_2 a2_3 a2_4 a2_5 a2_6 a2_7 a2_8 a2_0 a2_1 a2_2 a2_3 a2_4 a2_5 a2_6 a2_7 a2_8))) = some (r1, r2, r3, r4, r5, r6, r7) := by rw [if_pos rfl] at H; exact H
   clear H
   have H := H1
   clear H1
   replace H := Option.bind_eq_some_iff.mp H
   obtain ⟨t165, A220, H⟩ := H
   replace H : (if t165 = true then ((vec_Within.f a2_3 a2_4 a2_5 65536).bind fun t167 => (if t167 = true then ((vec_Within.f a2_6 a2_7 a2_8 65536).bind fun t169 => (side_Meet.j0 k t169 a0_0 a0_1 a0_2 a1_0 a1_1 a1_2 a2_0 a2_1 a2_2 a2_3 a2_4 a2_5 a2_6 a2_7 a2_8 a2_0 a2_1 a2_2 a2_3 a2_4 a2_5 a2_6 a2_7 a2_8)) else (side_Meet.j0 k false a0_0 a0_1 a0_2 a1_0 a1_1 a1_2 a2_0 a2_1 a2_2 a2_3 a2_4 a2_5 a2_6 a2_7 a2_8 a2_0 a2_1 a2_2 a2_3 a2_4 a2_5 a2_6 a2_7 a2_8))) else (side_Meet.j0 k false a0_0 a0_1 a0_2 a1_0 a1_1 a1_2 a2_0 a2_1 a2_2 a2_3 a2_4 a2_5 a2_6 a2_7 a2_8 a2_0 a2_1 a2_2 a2_3 a2_4 a2_5 a2_6 a2_7 a2_8)) = some (r1, r2, r3, r4, r5, r6, r7) := H
   have A22 := Aside0.mk A220
   clear A220
   by_cases c23 : t165 = true
   ·subst c23
    have H1 : ((vec_Within.f a2_3 a2_4 a2_5 65536).bind fun t167 => (if t167 = true then ((vec_Within.f a2_6 a2_7 a2_8 65536).bind fun t169 => (side_Meet.j0 k t169 a0_0 a0_1 a0_2 a1_0 a1_1 a1_2 a2_0 a2_1 a2_2 a2_3 a2_4 a2_5 a2_6 a2_7 a2_8 a2_0 a2_1 a2_2 a2_3 a2_4 a2_5 a2_6 a2_7 a2_8)) else (side_Meet.j0 k false a0_0 a0_1 a0_2 a1_0 a1_1 a1_2 a2_0 a2_1 a2_2 a2_3 a2_4 a2_5 a2_6 a2_7 a2_8 a2_0 a2_1 a2_2 a2_3 a2_4 a2_5 a2_6 a2_7 a2_8))) = some (r1, r2, r3, r4, r5, r6, r7) := by rw [if_pos rfl] at H; exact H
    clear H
    have H := H1
    clear H1
    replace H := Option.bind_eq_some_iff.mp H
    obtain ⟨t167, A240, H⟩ := H
    replace H : (if t167 = true then ((vec_Within.f a2_6 a2_7 a2_8 65536).bind fun t169 => (side_Meet.j0 k t169 a0_0 a0_1 a0_2 a1_0 a1_1 a1_2 a2_0 a2_1 a2_2 a2_3 a2_4 a2_5 a2_6 a2_7 a2_8 a2_0 a2_1 a2_2 a2_3 a2_4 a2_5 a2_6 a2_7 a2_8)) else (side_Meet.j0 k false a0_0 a0_1 a0_2 a1_0 a1_1 a1_2 a2_0 a2_1 a2_2 a2_3 a2_4 a2_5 a2_6 a2_7 a2_8 a2_0 a2_1 a2_2 a2_3 a2_4 a2_5 a2_6 a2_7 a2_8)) = some (r1, r2, r3, r4, r5, r6, r7) := H
    have A24 := Aside0.mk A240
    clear A240
    by_cases c25 : t167 = true
    ·subst c25
     have H1 : ((vec_Within.f a2_6 a2_7 a2_8 65536).bind fun t169 => (side_Meet.j0 k t169 a0_0 a0_1 a0_2 a1_0 a1_1 a1_2 a2_0 a2_1 a2_2 a2_3 a2_4 a2_5 a2_6 a2_7 a2_8 a2_0 a2_1 a2_2 a2_3 a2_4 a2_5 a2_6 a2_7 a2_8)) = some (r1, r2, r3, r4, r5, r6, r7) := by rw [if_pos rfl] at H; exact H
     clear H
     have H := H1
     clear H1
     replace H := Option.bind_eq_some_iff.mp H
     obtain ⟨t169, A260, H⟩ := H
     replace H : (side_Meet.j0 k t169 a0_0 a0_1 a0_2 a1_0 a1_1 a1_2 a2_0 a2_1 a2_2 a2_3 a2_4 a2_5 a2_6 a2_7 a2_8 a2_0 a2_1 a2_2 a2_3 a2_4 a2_5 a2_6 a2_7 a2_8) = some (r1, r2, r3, r4, r5, r6, r7) := H
     have A26 := Aside0.mk A260
     clear A260
     have H' := Aside0.mk H
     clear H
     try go_wp2
     refine wp_loop_rounds 4 ?_
     rw [rounds_succ]
     try go_wp2_with (first | ((with_reducible refine gate_dst (N := 12) rfl ?_); refine box_event ?hg (N := 12) ?hd (cs := #[.int .i64 0, .int .i64 0, .int .i64 0]) (t := 23) ?hr ?_; (case hd => rfl); (case hg => rfl); (case hr => first | (go_simp; done) | (go_simp; rfl)); intro gb164 hg w27 hbox hb; have BK164 := Aside0.mk (hbox); have GE164 := Aside0.mk (bG hg (HB.out)); have NB157_164 := cN hg BK157; have NB164_157 := cM hg BK157; have NB158_164 := cN hg BK158; have NB164_158 := cM hg BK158; have NB159_164 := cN hg BK159; have NB164_159 := cM hg BK159; have NB160_164 := cN hg BK160; have NB164_160 := cM hg BK160; have NB162_164 := cN hg BK162; have NB164_162 := cM hg BK162; replace BK157 := cB hb BK157; replace BK158 := cB hb BK158; replace BK159 := cB hb BK159; replace BK160 := cB hb BK160; replace BK162 := cB hb BK162; replace HB := Aside0.mk (below_step (HB.out) hb); clear hb hbox hg; have hnb28 := NB164_157.out; have hnc28 := NB157_164.out; have hnb29 := NB164_158.out; have hnc29 := NB158_164.out; have hnb30 := NB164_159.out; have hnc30 := NB159_164.out; have hnb31 := NB164_160.out; have hnc31 := NB160_164.out; have hnb32 := NB164_162.out; have hnc32 := NB162_164.out; obtain ⟨hcz33_0, hcz33_1, hcz33_2⟩ := cells3 BK164.out; have hfz33_0 := blk_frozen BK164.out 0; have hfz33_1 := blk_frozen BK164.out 1; have hfz33_2 := blk_frozen BK164.out 2) | (go_at_call 14; (with_reducible refine (vec_Within.calls a2_0 a2_1 a2_2 65536 true _ A22.out).mono ?_); rintro e w34 ⟨rfl, hb⟩; replace BK157 := Aside0.mk (bB hb ((blk_far (blk_far (blk_far BK157.out NB157_164.out _) NB157_164.out _) NB157_164.out _))); replace BK158 := Aside0.mk (bB hb ((blk_far (blk_far (blk_far BK158.out NB158_164.out _) NB158_164.out _) NB158_164.out _))); replace BK159 := Aside0.mk (bB hb ((blk_far (blk_far (blk_far BK159.out NB159_164.out _) NB159_164.out _) NB159_164.out _))); replace BK160 := Aside0.mk (bB hb ((blk_far (blk_far (blk_far BK160.out NB160_164.out _) NB160_164.out _) NB160_164.out _))); replace BK162 := Aside0.mk (bB hb ((blk_far (blk_far (blk_far BK162.out NB162_164.out _) NB162_164.out _) NB162_164.out _))); replace BK164 := Aside0.mk (bB hb ((blk_put (cs' := #[.int .i64 a2_0, .int .i64 a2_1, .int .i64 a2_2]) (blk_put (blk_put BK164.out 0 _ rfl) 1 _ rfl) 2 _ rfl))); replace HB := Aside0.mk (below_step ((below_set (below_set (below_set HB.out GE164.out) GE164.out) GE164.out)) hb); (try clear hb); (try clear hb2); (try clear hk); (try clear hi)))
     rw [rounds_succ]
     try go_wp2_with (first | ((with_reducible refine gate_dst (N := 12) rfl ?_); refine box_event ?hg (N := 12) ?hd (cs := #[.int .i64 0, .int .i64 0, .int .i64 0]) (t := 23) ?hr ?_; (case hd => rfl); (case hg => rfl); (case hr => first | (go_simp; done) | (go_simp; rfl)); intro gb166 hg w35 hbox hb; have BK166 := Aside0.mk (hbox); have GE166 := Aside0.mk (bG hg (HB.out)); have NB157_166 := cN hg BK157; have NB166_157 := cM hg BK157; have NB158_166 := cN hg BK158; have NB166_158 := cM hg BK158; have NB159_166 := cN hg BK159; have NB166_159 := cM hg BK159; have NB160_166 := cN hg BK160; have NB166_160 := cM hg BK160; have NB162_166 := cN hg BK162; have NB166_162 := cM hg BK162; replace BK157 := cB hb BK157; replace BK158 := cB hb BK158; replace BK159 := cB hb BK159; replace BK160 := cB hb BK160; replace BK162 := cB hb BK162; replace HB := Aside0.mk (below_step (HB.out) hb); clear hb hbox hg; have hnb36 := NB166_157.out; have hnc36 := NB157_166.out; have hnb37 := NB166_158.out; have hnc37 := NB158_166.out; have hnb38 := NB166_159.out; have hnc38 := NB159_166.out; have hnb39 := NB166_160.out; have hnc39 := NB160_166.out; have hnb40 := NB166_162.out; have hnc40 := NB162_166.out; obtain ⟨hcz41_0, hcz41_1, hcz41_2⟩ := cells3 BK166.out; have hfz41_0 := blk_frozen BK166.out 0; have hfz41_1 := blk_frozen BK166.out 1; have hfz41_2 := blk_frozen BK166.out 2) | (go_at_call 14; (with_reducible refine (vec_Within.calls a2_3 a2_4 a2_5 65536 true _ A24.out).mono ?_); rintro e w42 ⟨rfl, hb⟩; replace BK157 := Aside0.mk (bB hb ((blk_far (blk_far (blk_far BK157.out NB157_166.out _) NB157_166.out _) NB157_166.out _))); replace BK158 := Aside0.mk (bB hb ((blk_far (blk_far (blk_far BK158.out NB158_166.out _) NB158_166.out _) NB158_166.out _))); replace BK159 := Aside0.mk (bB hb ((blk_far (blk_far (blk_far BK159.out NB159_166.out _) NB159_166.out _) NB159_166.out _))); replace BK160 := Aside0.mk (bB hb ((blk_far (blk_far (blk_far BK160.out NB160_166.out _) NB160_166.out _) NB160_166.out _))); replace BK162 := Aside0.mk (bB hb ((blk_far (blk_far (blk_far BK162.out NB162_166.out _) NB162_166.out _) NB162_166.out _))); replace BK166 := Aside0.mk (bB hb ((blk_put (cs' := #[.int .i64 a2_3, .int .i64 a2_4, .int .i64 a2_5]) (blk_put (blk_put BK166.out 0 _ rfl) 1 _ rfl) 2 _ rfl))); replace HB := Aside0.mk (below_step ((below_set (below_set (below_set HB.out GE166.out) GE166.out) GE166.out)) hb); (try clear hb); (try clear hb2); (try clear hk); (try clear hi)))
     rw [rounds_succ]
     try go_wp2_with (first | ((with_reducible refine gate_dst (N := 12) rfl ?_); refine box_event ?hg (N := 12) ?hd (cs := #[.int .i64 0, .int .i64 0, .int .i64 0]) (t := 23) ?hr ?_; (case hd => rfl); (case hg => rfl); (case hr => first | (go_simp; done) | (go_simp; rfl)); intro gb168 hg w43 hbox hb; have BK168 := Aside0.mk (hbox); have GE168 := Aside0.mk (bG hg (HB.out)); have NB157_168 := cN hg BK157; have NB168_157 := cM hg BK157; have NB158_168 := cN hg BK158; have NB168_158 := cM hg BK158; have NB159_168 := cN hg BK159; have NB168_159 := cM hg BK159; have NB160_168 := cN hg BK160; have NB168_160 := cM hg BK160; have NB162_168 := cN hg BK162; have NB168_162 := cM hg BK162; replace BK157 := cB hb BK157; replace BK158 := cB hb BK158; replace BK159 := cB hb BK159; replace BK160 := cB hb BK160; replace BK162 := cB hb BK162; replace HB := Aside0.mk (below_step (HB.out) hb); clear hb hbox hg; have hnb44 := NB168_157.out; have hnc44 := NB157_168.out; have hnb45 := NB168_158.out; have hnc45 := NB158_168.out; have hnb46 := NB168_159.out; have hnc46 := NB159_168.out; have hnb47 := NB168_160.out; have hnc47 := NB160_168.out; have hnb48 := NB168_162.out; have hnc48 := NB162_168.out; obtain ⟨hcz49_0, hcz49_1, hcz49_2⟩ := cells3 BK168.out; have hfz49_0 := blk_frozen BK168.out 0; have hfz49_1 := blk_frozen BK168.out 1; have hfz49_2 := blk_frozen BK168.out 2) | (go_at_call 14; (with_reducible refine (vec_Within.calls a2_6 a2_7 a2_8 65536 t169 _ A26.out).mono ?_); rintro e w50 ⟨rfl, hb⟩; replace BK157 := Aside0.mk (bB hb ((blk_far (blk_far (blk_far BK157.out NB157_168.out _) NB157_168.out _) NB157_168.out _))); replace BK158 := Aside0.mk (bB hb ((blk_far (blk_far (blk_far BK158.out NB158_168.out _) NB158_168.out _) NB158_168.out _))); replace BK159 := Aside0.mk (bB hb ((blk_far (blk_far (blk_far BK159.out NB159_168.out _) NB159_168.out _) NB159_168.out _))); replace BK160 := Aside0.mk (bB hb ((blk_far (blk_far (blk_far BK160.out NB160_168.out _) NB160_168.out _) NB160_168.out _))); replace BK162 := Aside0.mk (bB hb ((blk_far (blk_far (blk_far BK162.out NB162_168.out _) NB162_168.out _) NB162_168.out _))); replace BK168 := Aside0.mk (bB hb ((blk_put (cs' := #[.int .i64 a2_6, .int .i64 a2_7, .int .i64 a2_8]) (blk_put (blk_put BK168.out 0 _ rfl) 1 _ rfl) 2 _ rfl))); replace HB := Aside0.mk (below_step ((below_set (below_set (below_set HB.out GE168.out) GE168.out) GE168.out)) hb); (try clear hb); (try clear hb2); (try clear hk); (try clear hi)))
     rw [rounds_succ]
     try go_wp2
     go_meet
     case rel => exact ⟨_, (t169), (by first | rfl | (simp; done) | (simp [*]; done)), H', ⟨by first | omega | exact Nat.le_refl _⟩, ⟨BK157.out⟩, ⟨BK158.out⟩, ⟨BK159.out⟩, ⟨BK160.out⟩, ⟨BK162.out⟩, ⟨HB.out⟩⟩
    replace c25 := Bool.eq_false_iff.mpr c25
    subst c25
    have H1 : (side_Meet.j0 k false a0_0 a0_1 a0_2 a1_0 a1_1 a1_2 a2_0 a2_1 a2_2 a2_3 a2_4 a2_5 a2_6 a2_7 a2_8 a2_0 a2_1 a2_2 a2_3 a2_4 a2_5 a2_6 a2_7 a2_8) = some (r1, r2, r3, r4, r5, r6, r7) := by rw [if_neg (show ¬ (false = true) by decide)] at H; exact H
    clear H
    have H := H1
    clear H1
    have H' := Aside0.mk H
    clear H
    try go_wp2
    refine wp_loop_rounds 4 ?_
    rw [rounds_succ]
    try go_wp2_with (first | ((with_reducible refine gate_dst (N := 12) rfl ?_); refine box_event ?hg (N := 12) ?hd (cs := #[.int .i64 0, .int .i64 0, .int .i64 0]) (t := 23) ?hr ?_; (case hd => rfl); (case hg => rfl); (case hr => first | (go_simp; done) | (go_simp; rfl)); intro gb164 hg w51 hbox hb; have BK164 := Aside0.mk (hbox); have GE164 := Aside0.mk (bG hg (HB.out)); have NB157_164 := cN hg BK157; have NB164_157 := cM hg BK157; have NB158_164 := cN hg BK158; have NB164_158 := cM hg BK158; have NB159_164 := cN hg BK159; have NB164_159 := cM hg BK159; have NB160_164 := cN hg BK160; have NB164_160 := cM hg BK160; have NB162_164 := cN hg BK162; have NB164_162 := cM hg BK162; replace BK157 := cB hb BK157; replace BK158 := cB hb BK158; replace BK159 := cB hb BK159; replace BK160 := cB hb BK160; replace BK162 := cB hb BK162; replace HB := Aside0.mk (below_step (HB.out) hb); clear hb hbox hg; have hnb52 := NB164_157.out; have hnc52 := NB157_164.out; have hnb53 := NB164_158.out; have hnc53 := NB158_164.out; have hnb54 := NB164_159.out; have hnc54 := NB159_164.out; have hnb55 := NB164_160.out; have hnc55 := NB160_164.out; have hnb56 := NB164_162.out; have hnc56 := NB162_164.out; obtain ⟨hcz57_0, hcz57_1, hcz57_2⟩ := cells3 BK164.out; have hfz57_0 := blk_frozen BK164.out 0; have hfz57_1 := blk_frozen BK164.out 1; have hfz57_2 := blk_frozen BK164.out 2) | (go_at_call 14; (with_reducible refine (vec_Within.calls a2_0 a2_1 a2_2 65536 true _ A22.out).mono ?_); rintro e w58 ⟨rfl, hb⟩; replace BK157 := Aside0.mk (bB hb ((blk_far (blk_far (blk_far BK157.out NB157_164.out _) NB157_164.out _) NB157_164.out _))); replace BK158 := Aside0.mk (bB hb ((blk_far (blk_far (blk_far BK158.out NB158_164.out _) NB158_164.out _) NB158_164.out _))); replace BK159 := Aside0.mk (bB hb ((blk_far (blk_far (blk_far BK159.out NB159_164.out _) NB159_164.out _) NB159_164.out _))); replace BK160 := Aside0.mk (bB hb ((blk_far (blk_far (blk_far BK160.out NB160_164.out _) NB160_164.out _) NB160_164.out _))); replace BK162 := Aside0.mk (bB hb ((blk_far (blk_far (blk_far BK162.out NB162_164.out _) NB162_164.out _) NB162_164.out _))); replace BK164 := Aside0.mk (bB hb ((blk_put (cs' := #[.int .i64 a2_0, .int .i64 a2_1, .int .i64 a2_2]) (blk_put (blk_put BK164.out 0 _ rfl) 1 _ rfl) 2 _ rfl))); replace HB := Aside0.mk (below_step ((below_set (below_set (below_set HB.out GE164.out) GE164.out) GE164.out)) hb); (try clear hb); (try clear hb2); (try clear hk); (try clear hi)))
    rw [rounds_succ]
    try go_wp2_with (first | ((with_reducible refine gate_dst (N := 12) rfl ?_); refine box_event ?hg (N := 12) ?hd (cs := #[.int .i64 0, .int .i64 0, .int .i64 0]) (t := 23) ?hr ?_; (case hd => rfl); (case hg => rfl); (case hr => first | (go_simp; done) | (go_simp; rfl)); intro gb166 hg w59 hbox hb; have BK166 := Aside0.mk (hbox); have GE166 := Aside0.mk (bG hg (HB.out)); have NB157_166 := cN hg BK157; have NB166_157 := cM hg BK157; have NB158_166 := cN hg BK158; have NB166_158 := cM hg BK158; have NB159_166 := cN hg BK159; have NB166_159 := cM hg BK159; have NB160_166 := cN hg BK160; have NB166_160 := cM hg BK160; have NB162_166 := cN hg BK162; have NB166_162 := cM hg BK162; replace BK157 := cB hb BK157; replace BK158 := cB hb BK158; replace BK159 := cB hb BK159; replace BK160 := cB hb BK160; replace BK162 := cB hb BK162; replace HB := Aside0.mk (below_step (HB.out) hb); clear hb hbox hg; have hnb60 := NB166_157.out; have hnc60 := NB157_166.out; have hnb61 := NB166_158.out; have hnc61 := NB158_166.out; have hnb62 := NB166_159.out; have hnc62 := NB159_166.out; have hnb63 := NB166_160.out; have hnc63 := NB160_166.out; have hnb64 := NB166_162.out; have hnc64 := NB162_166.out; obtain ⟨hcz65_0, hcz65_1, hcz65_2⟩ := cells3 BK166.out; have hfz65_0 := blk_frozen BK166.out 0; have hfz65_1 := blk_frozen BK166.out 1; have hfz65_2 := blk_frozen BK166.out 2) | (go_at_call 14; (with_reducible refine (vec_Within.calls a2_3 a2_4 a2_5 65536 false _ A24.out).mono ?_); rintro e w66 ⟨rfl, hb⟩; replace BK157 := Aside0.mk (bB hb ((blk_far (blk_far (blk_far BK157.out NB157_166.out _) NB157_166.out _) NB157_166.out _))); replace BK158 := Aside0.mk (bB hb ((blk_far (blk_far (blk_far BK158.out NB158_166.out _) NB158_166.out _) NB158_166.out _))); replace BK159 := Aside0.mk (bB hb ((blk_far (blk_far (blk_far BK159.out NB159_166.out _) NB159_166.out _) NB159_166.out _))); replace BK160 := Aside0.mk (bB hb ((blk_far (blk_far (blk_far BK160.out NB160_166.out _) NB160_166.out _) NB160_166.out _))); replace BK162 := Aside0.mk (bB hb ((blk_far (blk_far (blk_far BK162.out NB162_166.out _) NB162_166.out _) NB162_166.out _))); replace BK166 := Aside0.mk (bB hb ((blk_put (cs' := #[.int .i64 a2_3, .int .i64 a2_4, .int .i64 a2_5]) (blk_put (blk_put BK166.out 0 _ rfl) 1 _ rfl) 2 _ rfl))); replace HB := Aside0.mk (below_step ((below_set (below_set (below_set HB.out GE166.out) GE166.out) GE166.out)) hb); (try clear hb); (try clear hb2); (try clear hk); (try clear hi)))
    rw [rounds_succ]
    try go_wp2_with (first | ((with_reducible refine gate_dst (N := 12) rfl ?_); refine box_event ?hg (N := 12) ?hd (cs := #[.int .i64 0, .int .i64 0, .int .i64 0]) (t := 23) ?hr ?_; (case hd => rfl); (case hg => rfl); (case hr => first | (go_simp; done) | (go_simp; rfl)); intro gb168 hg w67 hbox hb; have BK168 := Aside0.mk (hbox); have GE168 := Aside0.mk (bG hg (HB.out)); have NB157_168 := cN hg BK157; have NB168_157 := cM hg BK157; have NB158_168 := cN hg BK158; have NB168_158 := cM hg BK158; have NB159_168 := cN hg BK159; have NB168_159 := cM hg BK159; have NB160_168 := cN hg BK160; have NB168_160 := cM hg BK160; have NB162_168 := cN hg BK162; have NB168_162 := cM hg BK162; replace BK157 := cB hb BK157; replace BK158 := cB hb BK158; replace BK159 := cB hb BK159; replace BK160 := cB hb BK160; replace BK162 := cB hb BK162; replace HB := Aside0.mk (below_step (HB.out) hb); clear hb hbox hg; have hnb68 := NB168_157.out; have hnc68 := NB157_168.out; have hnb69 := NB168_158.out; have hnc69 := NB158_168.out; have hnb70 := NB168_159.out; have hnc70 := NB159_168.out; have hnb71 := NB168_160.out; have hnc71 := NB160_168.out; have hnb72 := NB168_162.out; have hnc72 := NB162_168.out; obtain ⟨hcz73_0, hcz73_1, hcz73_2⟩ := cells3 BK168.out; have hfz73_0 := blk_frozen BK168.out 0; have hfz73_1 := blk_frozen BK168.out 1; have hfz73_2 := blk_frozen BK168.out 2))
    rw [rounds_succ]
    try go_wp2
    go_meet
    case rel => exact ⟨_, (false), (by first | rfl | (simp; done) | (simp [*]; done)), H', ⟨by first | omega | exact Nat.le_refl _⟩, ⟨(blk_far (blk_far (blk_far BK157.out NB157_168.out _) NB157_168.out _) NB157_168.out _)⟩, ⟨(blk_far (blk_far (blk_far BK158.out NB158_168.out _) NB158_168.out _) NB158_168.out _)⟩, ⟨(blk_far (blk_far (blk_far BK159.out NB159_168.out _) NB159_168.out _) NB159_168.out _)⟩, ⟨(blk_far (blk_far (blk_far BK160.out NB160_168.out _) NB160_168.out _) NB160_168.out _)⟩, ⟨(blk_far (blk_far (blk_far BK162.out NB162_168.out _) NB162_168.out _) NB162_168.out _)⟩, ⟨(below_set (below_set (below_set HB.out GE168.out) GE168.out) GE168.out)⟩⟩
   replace c23 := Bool.eq_false_iff.mpr c23
   subst c23
   have H1 : (side_Meet.j0 k false a0_0 a0_1 a0_2 a1_0 a1_1 a1_2 a2_0 a2_1 a2_2 a2_3 a2_4 a2_5 a2_6 a2_7 a2_8 a2_0 a2_1 a2_2 a2_3 a2_4 a2_5 a2_6 a2_7 a2_8) = some (r1, r2, r3, r4, r5, r6, r7) := by rw [if_neg (show ¬ (false = true) by decide)] at H; exact H
   clear H
   have H := H1
   clear H1
   have H' := Aside0.mk H
   clear H
   try go_wp2
   refine wp_loop_rounds 4 ?_
   rw [rounds_succ]
   try go_wp2_with (first | ((with_reducible refine gate_dst (N := 12) rfl ?_); refine box_event ?hg (N := 12) ?hd (cs := #[.int .i64 0, .int .i64 0, .int .i64 0]) (t := 23) ?hr ?_; (case hd => rfl); (case hg => rfl); (case hr => first | (go_simp; done) | (go_simp; rfl)); intro gb164 hg w74 hbox hb; have BK164 := Aside0.mk (hbox); have GE164 := Aside0.mk (bG hg (HB.out)); have NB157_164 := cN hg BK157; have NB164_157 := cM hg BK157; have NB158_164 := cN hg BK158; have NB164_158 := cM hg BK158; have NB159_164 := cN hg BK159; have NB164_159 := cM hg BK159; have NB160_164 := cN hg BK160; have NB164_160 := cM hg BK160; have NB162_164 := cN hg BK162; have NB164_162 := cM hg BK162; replace BK157 := cB hb BK157; replace BK158 := cB hb BK158; replace BK159 := cB hb BK159; replace BK160 := cB hb BK160; replace BK162 := cB hb BK162; replace HB := Aside0.mk (below_step (HB.out) hb); clear hb hbox hg; have hnb75 := NB164_157.out; have hnc75 := NB157_164.out; have hnb76 := NB164_158.out; have hnc76 := NB158_164.out; have hnb77 := NB164_159.out; have hnc77 := NB159_164.out; have hnb78 := NB164_160.out; have hnc78 := NB160_164.out; have hnb79 := NB164_162.out; have hnc79 := NB162_164.out; obtain ⟨hcz80_0, hcz80_1, hcz80_2⟩ := cells3 BK164.out; have hfz80_0 := blk_frozen BK164.out 0; have hfz80_1 := blk_frozen BK164.out 1; have hfz80_2 := blk_frozen BK164.out 2) | (go_at_call 14; (with_reducible refine (vec_Within.calls a2_0 a2_1 a2_2 65536 false _ A22.out).mono ?_); rintro e w81 ⟨rfl, hb⟩; replace BK157 := Aside0.mk (bB hb ((blk_far (blk_far (blk_far BK157.out NB157_164.out _) NB157_164.out _) NB157_164.out _))); replace BK158 := Aside0.mk (bB hb ((blk_far (blk_far (blk_far BK158.out NB158_164.out _) NB158_164.out _) NB158_164.out _))); replace BK159 := Aside0.mk (bB hb ((blk_far (blk_far (blk_far BK159.out NB159_164.out _) NB159_164.out _) NB159_164.out _))); replace BK160 := Aside0.mk (bB hb ((blk_far (blk_far (blk_far BK160.out NB160_164.out _) NB160_164.out _) NB160_164.out _))); replace BK162 := Aside0.mk (bB hb ((blk_far (blk_far (blk_far BK162.out NB162_164.out _) NB162_164.out _) NB162_164.out _))); replace BK164 := Aside0.mk (bB hb ((blk_put (cs' := #[.int .i64 a2_0, .int .i64 a2_1, .int .i64 a2_2]) (blk_put (blk_put BK164.out 0 _ rfl) 1 _ rfl) 2 _ rfl))); replace HB := Aside0.mk (below_step ((below_set (below_set (below_set HB.out GE164.out) GE164.out) GE164.out)) hb); (try clear hb); (try clear hb2); (try clear hk); (try clear hi)))
   rw [rounds_succ]
   try go_wp2_with (first | ((with_reducible refine gate_dst (N := 12) rfl ?_); refine box_event ?hg (N := 12) ?hd (cs := #[.int .i64 0, .int .i64 0, .int .i64 0]) (t := 23) ?hr ?_; (case hd => rfl); (case hg => rfl); (case hr => first | (go_simp; done) | (go_simp; rfl)); intro gb166 hg w82 hbox hb; have BK166 := Aside0.mk (hbox); have GE166 := Aside0.mk (bG hg (HB.out)); have NB157_166 := cN hg BK157; have NB166_157 := cM hg BK157; have NB158_166 := cN hg BK158; have NB166_158 := cM hg BK158; have NB159_166 := cN hg BK159; have NB166_159 := cM hg BK159; have NB160_166 := cN hg BK160; have NB166_160 := cM hg BK160; have NB162_166 := cN hg BK162; have NB166_162 := cM hg BK162; replace BK157 := cB hb BK157; replace BK158 := cB hb BK158; replace BK159 := cB hb BK159; replace BK160 := cB hb BK160; replace BK162 := cB hb BK162; replace HB := Aside0.mk (below_step (HB.out) hb); clear hb hbox hg; have hnb83 := NB166_157.out; have hnc83 := NB157_166.out; have hnb84 := NB166_158.out; have hnc84 := NB158_166.out; have hnb85 := NB166_159.out; have hnc85 := NB159_166.out; have hnb86 := NB166_160.out; have hnc86 := NB160_166.out; have hnb87 := NB166_162.out; have hnc87 := NB162_166.out; obtain ⟨hcz88_0, hcz88_1, hcz88_2⟩ := cells3 BK166.out; have hfz88_0 := blk_frozen BK166.out 0; have hfz88_1 := blk_frozen BK166.out 1; have hfz88_2 := blk_frozen BK166.out 2))
   rw [rounds_succ]
   try go_wp2_with (first | ((with_reducible refine gate_dst (N := 12) rfl ?_); refine box_event ?hg (N := 12) ?hd (cs := #[.int .i64 0, .int .i64 0, .int .i64 0]) (t := 23) ?hr ?_; (case hd => rfl); (case hg => rfl); (case hr => first | (go_simp; done) | (go_simp; rfl)); intro gb170 hg w89 hbox hb; have BK170 := Aside0.mk (hbox); have GE170 := Aside0.mk (bG hg ((below_set (below_set (below_set HB.out GE166.out) GE166.out) GE166.out))); have NB157_170 := Aside0.mk (bN hg ((blk_far (blk_far (blk_far BK157.out NB157_166.out _) NB157_166.out _) NB157_166.out _))); have NB170_157 := Aside0.mk (bM hg ((blk_far (blk_far (blk_far BK157.out NB157_166.out _) NB157_166.out _) NB157_166.out _))); have NB158_170 := Aside0.mk (bN hg ((blk_far (blk_far (blk_far BK158.out NB158_166.out _) NB158_166.out _) NB158_166.out _))); have NB170_158 := Aside0.mk (bM hg ((blk_far (blk_far (blk_far BK158.out NB158_166.out _) NB158_166.out _) NB158_166.out _))); have NB159_170 := Aside0.mk (bN hg ((blk_far (blk_far (blk_far BK159.out NB159_166.out _) NB159_166.out _) NB159_166.out _))); have NB170_159 := Aside0.mk (bM hg ((blk_far (blk_far (blk_far BK159.out NB159_166.out _) NB159_166.out _) NB159_166.out _))); have NB160_170 := Aside0.mk (bN hg ((blk_far (blk_far (blk_far BK160.out NB160_166.out _) NB160_166.out _) NB160_166.out _))); have NB170_160 := Aside0.mk (bM hg ((blk_far (blk_far (blk_far BK160.out NB160_166.out _) NB160_166.out _) NB160_166.out _))); have NB162_170 := Aside0.mk (bN hg ((blk_far (blk_far (blk_far BK162.out NB162_166.out _) NB162_166.out _) NB162_166.out _))); have NB170_162 := Aside0.mk (bM hg ((blk_far (blk_far (blk_far BK162.out NB162_166.out _) NB162_166.out _) NB162_166.out _))); replace BK157 := Aside0.mk (bB hb ((blk_far (blk_far (blk_far BK157.out NB157_166.out _) NB157_166.out _) NB157_166.out _))); replace BK158 := Aside0.mk (bB hb ((blk_far (blk_far (blk_far BK158.out NB158_166.out _) NB158_166.out _) NB158_166.out _))); replace BK159 := Aside0.mk (bB hb ((blk_far (blk_far (blk_far BK159.out NB159_166.out _) NB159_166.out _) NB159_166.out _))); replace BK160 := Aside0.mk (bB hb ((blk_far (blk_far (blk_far BK160.out NB160_166.out _) NB160_166.out _) NB160_166.out _))); replace BK162 := Aside0.mk (bB hb ((blk_far (blk_far (blk_far BK162.out NB162_166.out _) NB162_166.out _) NB162_166.out _))); replace HB := Aside0.mk (below_step ((below_set (below_set (below_set HB.out GE166.out) GE166.out) GE166.out)) hb); clear hb hbox hg; have hnb90 := NB170_157.out; have hnc90 := NB157_170.out; have hnb91 := NB170_158.out; have hnc91 := NB158_170.out; have hnb92 := NB170_159.out; have hnc92 := NB159_170.out; have hnb93 := NB170_160.out; have hnc93 := NB160_170.out; have hnb94 := NB170_162.out; have hnc94 := NB162_170.out; obtain ⟨hcz95_0, hcz95_1, hcz95_2⟩ := cells3 BK170.out; have hfz95_0 := blk_frozen BK170.out 0; have hfz95_1 := blk_frozen BK170.out 1; have hfz95_2 := blk_frozen BK170.out 2))
   rw [rounds_succ]
   try go_wp2
   go_meet
   case rel => exact ⟨_, (false), (by first | rfl | (simp; done) | (simp [*]; done)), H', ⟨by first | omega | exact Nat.le_refl _⟩, ⟨(blk_far (blk_far (blk_far BK157.out NB157_170.out _) NB157_170.out _) NB157_170.out _)⟩, ⟨(blk_far (blk_far (blk_far BK158.out NB158_170.out _) NB158_170.out _) NB158_170.out _)⟩, ⟨(blk_far (blk_far (blk_far BK159.out NB159_170.out _) NB159_170.out _) NB159_170.out _)⟩, ⟨(blk_far (blk_far (blk_far BK160.out NB160_170.out _) NB160_170.out _) NB160_170.out _)⟩, ⟨(blk_far (blk_far (blk_far BK162.out NB162_170.out _) NB162_170.out _) NB162_170.out _)⟩, ⟨(below_set (below_set (below_set HB.out GE170.out) GE170.out) GE170.out)⟩⟩
  replace c21 := Bool.eq_false_iff.mpr c21
  subst c21
  have H1 : (side_Meet.j0 k false a0_0 a0_1 a0_2 a1_0 a1_1 a1_2 a2_0 a2_1 a2_2 a2_3 a2_4 a2_5 a2_6 a2_7 a2_8 a2_0 a2_1 a2_2 a2_3 a2_4 a2_5 a2_6 a2_7 a2_8) = some (r1, r2, r3, r4, r5, r6, r7) := by rw [if_neg (show ¬ (false = true) by decide)] at H; exact H
  clear H
  have H := H1
  clear H1
  have H' := Aside0.mk H
  clear H
  try go_wp2
  refine wp_loop_rounds 4 ?_
  rw [rounds_succ]
  try go_wp2_with (first | ((with_reducible refine gate_dst (N := 12) rfl ?_); refine box_event ?hg (N := 12) ?hd (cs := #[.int .i64 0, .int .i64 0, .int .i64 0]) (t := 23) ?hr ?_; (case hd => rfl); (case hg => rfl); (case hr => first | (go_simp; done) | (go_simp; rfl)); intro gb164 hg w96 hbox hb; have BK164 := Aside0.mk (hbox); have GE164 := Aside0.mk (bG hg (HB.out)); have NB157_164 := cN hg BK157; have NB164_157 := cM hg BK157; have NB158_164 := cN hg BK158; have NB164_158 := cM hg BK158; have NB159_164 := cN hg BK159; have NB164_159 := cM hg BK159; have NB160_164 := cN hg BK160; have NB164_160 := cM hg BK160; have NB162_164 := cN hg BK162; have NB164_162 := cM hg BK162; replace BK157 := cB hb BK157; replace BK158 := cB hb BK158; replace BK159 := cB hb BK159; replace BK160 := cB hb BK160; replace BK162 := cB hb BK162; replace HB := Aside0.mk (below_step (HB.out) hb); clear hb hbox hg; have hnb97 := NB164_157.out; have hnc97 := NB157_164.out; have hnb98 := NB164_158.out; have hnc98 := NB158_164.out; have hnb99 := NB164_159.out; have hnc99 := NB159_164.out; have hnb100 := NB164_160.out; have hnc100 := NB160_164.out; have hnb101 := NB164_162.out; have hnc101 := NB162_164.out; obtain ⟨hcz102_0, hcz102_1, hcz102_2⟩ := cells3 BK164.out; have hfz102_0 := blk_frozen BK164.out 0; have hfz102_1 := blk_frozen BK164.out 1; have hfz102_2 := blk_frozen BK164.out 2))
  rw [rounds_succ]
  try go_wp2_with (first | ((with_reducible refine gate_dst (N := 12) rfl ?_); refine box_event ?hg (N := 12) ?hd (cs := #[.int .i64 0, .int .i64 0, .int .i64 0]) (t := 23) ?hr ?_; (case hd => rfl); (case hg => rfl); (case hr => first | (go_simp; done) | (go_simp; rfl)); intro gb171 hg w103 hbox hb; have BK171 := Aside0.mk (hbox); have GE171 := Aside0.mk (bG hg ((below_set (below_set (below_set HB.out GE164.out) GE164.out) GE164.out))); have NB157_171 := Aside0.mk (bN hg ((blk_far (blk_far (blk_far BK157.out NB157_164.out _) NB157_164.out _) NB157_164.out _))); have NB171_157 := Aside0.mk (bM hg ((blk_far (blk_far (blk_far BK157.out NB157_164.out _) NB157_164.out _) NB157_164.out _))); have NB158_171 := Aside0.mk (bN hg ((blk_far (blk_far (blk_far BK158.out NB158_164.out _) NB158_164.out _) NB158_164.out _))); have NB171_158 := Aside0.mk (bM hg ((blk_far (blk_far (blk_far BK158.out NB158_164.out _) NB158_164.out _) NB158_164.out _))); have NB159_171 := Aside0.mk (bN hg ((blk_far (blk_far (blk_far BK159.out NB159_164.out _) NB159_164.out _) NB159_164.out _))); have NB171_159 := Aside0.mk (bM hg ((blk_far (blk_far (blk_far BK159.out NB159_164.out _) NB159_164.out _) NB159_164.out _))); have NB160_171 := Aside0.mk (bN hg ((blk_far (blk_far (blk_far BK160.out NB160_164.out _) NB160_164.out _) NB160_164.out _))); have NB171_160 := Aside0.mk (bM hg ((blk_far (blk_far (blk_far BK160.out NB160_164.out _) NB160_164.out _) NB160_164.out _))); have NB162_171 := Aside0.mk (bN hg ((blk_far (blk_far (blk_far BK162.out NB162_164.out _) NB162_164.out _) NB162_164.out _))); have NB171_162 := Aside0.mk (bM hg ((blk_far (blk_far (blk_far BK162.out NB162_164.out _) NB162_164.out _) NB162_164.out _))); replace BK157 := Aside0.mk (bB hb ((blk_far (blk_far (blk_far BK157.out NB157_164.out _) NB157_164.out _) NB157_164.out _))); replace BK158 := Aside0.mk (bB hb ((blk_far (blk_far (blk_far BK158.out NB158_164.out _) NB158_164.out _) NB158_164.out _))); replace BK159 := Aside0.mk (bB hb ((blk_far (blk_far (blk_far BK159.out NB159_164.out _) NB159_164.out _) NB159_164.out _))); replace BK160 := Aside0.mk (bB hb ((blk_far (blk_far (blk_far BK160.out NB160_164.out _) NB160_164.out _) NB160_164.out _))); replace BK162 := Aside0.mk (bB hb ((blk_far (blk_far (blk_far BK162.out NB162_164.out _) NB162_164.out _) NB162_164.out _))); replace HB := Aside0.mk (below_step ((below_set (below_set (below_set HB.out GE164.out) GE164.out) GE164.out)) hb); clear hb hbox hg; have hnb104 := NB171_157.out; have hnc104 := NB157_171.out; have hnb105 := NB171_158.out; have hnc105 := NB158_171.out; have hnb106 := NB171_159.out; have hnc106 := NB159_171.out; have hnb107 := NB171_160.out; have hnc107 := NB160_171.out; have hnb108 := NB171_162.out; have hnc108 := NB162_171.out; obtain ⟨hcz109_0, hcz109_1, hcz109_2⟩ := cells3 BK171.out; have hfz109_0 := blk_frozen BK171.out 0; have hfz109_1 := blk_frozen BK171.out 1; have hfz109_2 := blk_frozen BK171.out 2))
  rw [rounds_succ]
  try go_wp2_with (first | ((with_reducible refine gate_dst (N := 12) rfl ?_); refine box_event ?hg (N := 12) ?hd (cs := #[.int .i64 0, .int .i64 0, .int .i64 0]) (t := 23) ?hr ?_; (case hd => rfl); (case hg => rfl); (case hr => first | (go_simp; done) | (go_simp; rfl)); intro gb172 hg w110 hbox hb; have BK172 := Aside0.mk (hbox); have GE172 := Aside0.mk (bG hg ((below_set (below_set (below_set HB.out GE171.out) GE171.out) GE171.out))); have NB157_172 := Aside0.mk (bN hg ((blk_far (blk_far (blk_far BK157.out NB157_171.out _) NB157_171.out _) NB157_171.out _))); have NB172_157 := Aside0.mk (bM hg ((blk_far (blk_far (blk_far BK157.out NB157_171.out _) NB157_171.out _) NB157_171.out _))); have NB158_172 := Aside0.mk (bN hg ((blk_far (blk_far (blk_far BK158.out NB158_171.out _) NB158_171.out _) NB158_171.out _))); have NB172_158 := Aside0.mk (bM hg ((blk_far (blk_far (blk_far BK158.out NB158_171.out _) NB158_171.out _) NB158_171.out _))); have NB159_172 := Aside0.mk (bN hg ((blk_far (blk_far (blk_far BK159.out NB159_171.out _) NB159_171.out _) NB159_171.out _))); have NB172_159 := Aside0.mk (bM hg ((blk_far (blk_far (blk_far BK159.out NB159_171.out _) NB159_171.out _) NB159_171.out _))); have NB160_172 := Aside0.mk (bN hg ((blk_far (blk_far (blk_far BK160.out NB160_171.out _) NB160_171.out _) NB160_171.out _))); have NB172_160 := Aside0.mk (bM hg ((blk_far (blk_far (blk_far BK160.out NB160_171.out _) NB160_171.out _) NB160_171.out _))); have NB162_172 := Aside0.mk (bN hg ((blk_far (blk_far (blk_far BK162.out NB162_171.out _) NB162_171.out _) NB162_171.out _))); have NB172_162 := Aside0.mk (bM hg ((blk_far (blk_far (blk_far BK162.out NB162_171.out _) NB162_171.out _) NB162_171.out _))); replace BK157 := Aside0.mk (bB hb ((blk_far (blk_far (blk_far BK157.out NB157_171.out _) NB157_171.out _) NB157_171.out _))); replace BK158 := Aside0.mk (bB hb ((blk_far (blk_far (blk_far BK158.out NB158_171.out _) NB158_171.out _) NB158_171.out _))); replace BK159 := Aside0.mk (bB hb ((blk_far (blk_far (blk_far BK159.out NB159_171.out _) NB159_171.out _) NB159_171.out _))); replace BK160 := Aside0.mk (bB hb ((blk_far (blk_far (blk_far BK160.out NB160_171.out _) NB160_171.out _) NB160_171.out _))); replace BK162 := Aside0.mk (bB hb ((blk_far (blk_far (blk_far BK162.out NB162_171.out _) NB162_171.out _) NB162_171.out _))); replace HB := Aside0.mk (below_step ((below_set (below_set (below_set HB.out GE171.out) GE171.out) GE171.out)) hb); clear hb hbox hg; have hnb111 := NB172_157.out; have hnc111 := NB157_172.out; have hnb112 := NB172_158.out; have hnc112 := NB158_172.out; have hnb113 := NB172_159.out; have hnc113 := NB159_172.out; have hnb114 := NB172_160.out; have hnc114 := NB160_172.out; have hnb115 := NB172_162.out; have hnc115 := NB162_172.out; obtain ⟨hcz116_0, hcz116_1, hcz116_2⟩ := cells3 BK172.out; have hfz116_0 := blk_frozen BK172.out 0; have hfz116_1 := blk_frozen BK172.out 1; have hfz116_2 := blk_frozen BK172.out 2))
  rw [rounds_succ]
  try go_wp2
  go_meet
  case rel => exact ⟨_, (false), (by first | rfl | (simp; done) | (simp [*]; done)), H', ⟨by first | omega | exact Nat.le_refl _⟩, ⟨(blk_far (blk_far (blk_far BK157.out NB157_172.out _) NB157_172.out _) NB157_172.out _)⟩, ⟨(blk_far (blk_far (blk_far BK158.out NB158_172.out _) NB158_172.out _) NB158_172.out _)⟩, ⟨(blk_far (blk_far (blk_far BK159.out NB159_172.out _) NB159_172.out _) NB159_172.out _)⟩, ⟨(blk_far (blk_far (blk_far BK160.out NB160_172.out _) NB160_172.out _) NB160_172.out _)⟩, ⟨(blk_far (blk_far (blk_far BK162.out NB162_172.out _) NB162_172.out _) NB162_172.out _)⟩, ⟨(below_set (below_set (below_set HB.out GE172.out) GE172.out) GE172.out)⟩⟩
 clear HC5
 try clear hcz10_0
 try clear hcz10_1
 try clear hcz10_2
 try clear hcz10_3
 try clear hcz10_4
 try clear hcz10_5
 try clear hcz10_6
 try clear hcz10_7
 try clear hcz10_8
 try clear hcz16_0
 try clear hcz16_1
 try clear hcz16_2
 try clear hcz16_3
 try clear hcz16_4
 try clear hcz16_5
 try clear hcz16_6
 try clear hcz16_7
 try clear hcz16_8
 try clear hcz17_0
 try clear hcz17_1
 try clear hcz17_2
 try clear hcz18_0
 try clear hcz18_1
 try clear hcz18_2
 try clear hcz20_0
 try clear hcz20_1
 try clear hcz20_2
 try clear hcz20_3
 try clear hcz20_4
 try clear hcz20_5
 try clear hcz20_6
 try clear hcz20_7
 try clear hcz20_8
 try clear hfz16_0
 try clear hfz16_1
 try clear hfz16_2
 try clear hfz16_3
 try clear hfz16_4
 try clear hfz16_5
 try clear hfz16_6
 try clear hfz16_7
 try clear hfz16_8
 try clear hfz20_0
 try clear hfz20_1
 try clear hfz20_2
 try clear hfz20_3
 try clear hfz20_4
 try clear hfz20_5
 try clear hfz20_6
 try clear hfz20_7
 try clear hfz20_8
 obtain ⟨kq, x10_4, rfl, HA, HJ4, BK157, BK158, BK159, BK160, BK162, HB⟩ := hcut
 cases kq with
 | zero => exact absurd HA.out (by simp [side_Meet.j0])
 | succ kj4 =>
  have H := HA.out
  clear HA
  simp only [side_Meet.j0] at H
  by_cases c117 : x10_4 = true
  ·subst c117
   have H1 : ((side_pass.f kj4 a0_0 a0_1 a0_2 a1_0 a1_1 a1_2 a2_0 a2_1 a2_2 a2_3 a2_4 a2_5).bind fun t173 => (if t173 = 0 then (side_Meet.j1 kj4 t173 true a0_0 a0_1 a0_2 a1_0 a1_1 a1_2 a2_0 a2_1 a2_2 a2_3 a2_4 a2_5 a2_6 a2_7 a2_8 a2_0 a2_1 a2_2 a2_3 a2_4 a2_5 a2_6 a2_7 a2_8) else ((side_pass.f kj4 a0_0 a0_1 a0_2 a1_0 a1_1 a1_2 a2_0 a2_1 a2_2 a2_3 a2_4 a2_5).bind fun t175 => (side_Meet.j1 kj4 t173 (t175 != t173) a0_0 a0_1 a0_2 a1_0 a1_1 a1_2 a2_0 a2_1 a2_2 a2_3 a2_4 a2_5 a2_6 a2_7 a2_8 a2_0 a2_1 a2_2 a2_3 a2_4 a2_5 a2_6 a2_7 a2_8)))) = some (r1, r2, r3, r4, r5, r6, r7) := by rw [if_pos rfl] at H; exact H
   clear H
   have H := H1
   clear H1
   replace H := Option.bind_eq_some_iff.mp H
   obtain ⟨t173, A1180, H⟩ := H
   replace H : (if t173 = 0 then (side_Meet.j1 kj4 t173 true a0_0 a0_1 a0_2 a1_0 a1_1 a1_2 a2_0 a2_1 a2_2 a2_3 a2_4 a2_5 a2_6 a2_7 a2_8 a2_0 a2_1 a2_2 a2_3 a2_4 a2_5 a2_6 a2_7 a2_8) else ((side_pass.f kj4 a0_0 a0_1 a0_2 a1_0 a1_1 a1_2 a2_0 a2_1 a2_2 a2_3 a2_4 a2_5).bind fun t175 => (side_Meet.j1 kj4 t173 (t175 != t173) a0_0 a0_1 a0_2 a1_0 a1_1 a1_2 a2_0 a2_1 a2_2 a2_3 a2_4 a2_5 a2_6 a2_7 a2_8 a2_0 a2_1 a2_2 a2_3 a2_4 a2_5 a2_6 a2_7 a2_8))) = some (r1, r2, r3, r4, r5, r6, r7) := H
   have A118 := Aside0.mk A1180
   clear A1180
   have HC119 := Aside0.mk H
   clear H
   obtain ⟨hcz120_0, hcz120_1, hcz120_2⟩ := cells3 BK157.out
   obtain ⟨hcz121_0, hcz121_1, hcz121_2⟩ := cells3 BK158.out
   obtain ⟨hcz122_0, hcz122_1, hcz122_2, hcz122_3, hcz122_4, hcz122_5, hcz122_6, hcz122_7, hcz122_8⟩ := cells9 BK159.out
   go_upto_block 2 with (first | ((with_reducible refine gate_callee (f := 15) rfl ?_); refine goesL_ (some 47) rfl rfl Try.func15 (by kernel_rfl) rfl #[.agg #[.int .i64 a0_0, .int .i64 a0_1, .int .i64 a0_2], .agg #[.int .i64 a1_0, .int .i64 a1_1, .int .i64 a1_2], .agg #[.int .i64 a2_0, .int .i64 a2_1, .int .i64 a2_2], .agg #[.int .i64 a2_3, .int .i64 a2_4, .int .i64 a2_5]] rfl (by (try simp only [List.map_toArray, List.map_cons, List.map_nil]); first | done | rfl | (simp only [List.length_drop, List.length_take]; rfl)) ?_; (with_reducible refine (side_pass.calls kj4 a0_0 a0_1 a0_2 a1_0 a1_1 a1_2 a2_0 a2_1 a2_2 a2_3 a2_4 a2_5 t173 _ A118.out).mono ?_); rintro e w123 ⟨rfl, hb⟩; refine ⟨_, rfl, ?_⟩; replace BK157 := cB hb BK157; replace BK158 := cB hb BK158; replace BK159 := cB hb BK159; replace BK160 := cB hb BK160; replace BK162 := cB hb BK162; replace HB := Aside0.mk (below_step (HB.out) hb); (try clear hb); (try clear hb2); (try clear hk); (try clear hi); obtain ⟨hcz124_0, hcz124_1, hcz124_2, hcz124_3, hcz124_4, hcz124_5, hcz124_6, hcz124_7, hcz124_8⟩ := cells9 BK162.out))
   (try simp only [Act.put, List.setIfInBounds_toArray, List.set_cons_zero, List.set_cons_succ])
   go_cut [] (fun wc => ∃ (kq : Nat) (x161000_118 : Int) (x161001_118 : Int) (x161002_118 : Bool) (x161003_118 : Int) (x161004_118 : Int), Aside0 (side_Meet.j7 kq t173 a0_0 a0_1 a0_2 a1_0 a1_1 a1_2 a2_0 a2_1 a2_2 a2_3 a2_4 a2_5 a2_6 a2_7 a2_8 = some (r1, r2, r3, r4, r5, r6, r7)) ∧ Aside0 (kq ≤ kj4) ∧ Aside0 (wc.heap[gb157]? = some (.cells #[.int .i64 a0_0, .int .i64 a0_1, .int .i64 a0_2] 23 (0, 0))) ∧ Aside0 (wc.heap[gb158]? = some (.cells #[.int .i64 a1_0, .int .i64 a1_1, .int .i64 a1_2] 23 (0, 0))) ∧ Aside0 (wc.heap[gb159]? = some (.cells #[.int .i64 a2_0, .int .i64 a2_1, .int .i64 a2_2, .int .i64 a2_3, .int .i64 a2_4, .int .i64 a2_5, .int .i64 a2_6, .int .i64 a2_7, .int .i64 a2_8] 25 (0, 0))) ∧ Aside0 (wc.heap[gb160]? = some (.cells #[.int .i64 x161000_118, .int .i64 x161001_118, .bool x161002_118, .int .i64 x161003_118, .int .i64 x161004_118] 33 (0, 0))) ∧ Aside0 (wc.heap[gb162]? = some (.cells #[.int .i64 a2_0, .int .i64 a2_1, .int .i64 a2_2, .int .i64 a2_3, .int .i64 a2_4, .int .i64 a2_5, .int .i64 a2_6, .int .i64 a2_7, .int .i64 a2_8] 43 (0, 0))) ∧ Aside0 (Below w.heap.size w wc))
   case first =>
    have H := HC119.out
    clear HC119
    have HC125 := Aside0.mk H
    clear H
    try go_wp2
    refine wp_loop_rounds 4 ?_
    rw [rounds_succ]
    go_upto_block 3 with (fail)
    go_cut [] (fun wc => ∃ (kq : Nat) (x161000_124 : Int) (x161001_124 : Int) (x161002_124 : Bool) (x161003_124 : Int) (x161004_124 : Int), Aside0 (side_Meet.j2 kq t173 a0_0 a0_1 a0_2 a1_0 a1_1 a1_2 a2_0 a2_1 a2_2 a2_3 a2_4 a2_5 a2_6 a2_7 a2_8 a2_0 a2_1 a2_2 a2_3 a2_4 a2_5 a2_6 a2_7 a2_8 = some (r1, r2, r3, r4, r5, r6, r7)) ∧ Aside0 (kq ≤ kj4) ∧ Aside0 (wc.heap[gb157]? = some (.cells #[.int .i64 a0_0, .int .i64 a0_1, .int .i64 a0_2] 23 (0, 0))) ∧ Aside0 (wc.heap[gb158]? = some (.cells #[.int .i64 a1_0, .int .i64 a1_1, .int .i64 a1_2] 23 (0, 0))) ∧ Aside0 (wc.heap[gb159]? = some (.cells #[.int .i64 a2_0, .int .i64 a2_1, .int .i64 a2_2, .int .i64 a2_3, .int .i64 a2_4, .int .i64 a2_5, .int .i64 a2_6, .int .i64 a2_7, .int .i64 a2_8] 25 (0, 0))) ∧ Aside0 (wc.heap[gb160]? = some (.cells #[.int .i64 x161000_124, .int .i64 x161001_124, .bool x161002_124, .int .i64 x161003_124, .int .i64 x161004_124] 33 (0, 0))) ∧ Aside0 (wc.heap[gb162]? = some (.cells #[.int .i64 a2_0, .int .i64 a2_1, .int .i64 a2_2, .int .i64 a2_3, .int .i64 a2_4, .int .i64 a2_5, .int .i64 a2_6, .int .i64 a2_7, .int .i64 a2_8] 43 (0, 0))) ∧ Aside0 (Below w.heap.size w wc))
    case first =>
     have H := HC125.out
     clear HC125
     have HC126 := Aside0.mk H
     clear H
     go_upto_region 14 with (first | ((with_reducible refine gate_dst (N := 15) rfl ?_); refine box_event ?hg (N := 15) ?hd (cs := #[.int .i64 0, .int .i64 0, .int .i64 0]) (t := 23) ?hr ?_; (case hd => rfl); (case hg => rfl); (case hr => first | (go_simp; done) | (go_simp; rfl)); intro gb174 hg w127 hbox hb; have BK174 := Aside0.mk (hbox); have GE174 := Aside0.mk (bG hg (HB.out)); have NB157_174 := cN hg BK157; have NB174_157 := cM hg BK157; have NB158_174 := cN hg BK158; have NB174_158 := cM hg BK158; have NB159_174 := cN hg BK159; have NB174_159 := cM hg BK159; have NB160_174 := cN hg BK160; have NB174_160 := cM hg BK160; have NB162_174 := cN hg BK162; have NB174_162 := cM hg BK162; replace BK157 := cB hb BK157; replace BK158 := cB hb BK158; replace BK159 := cB hb BK159; replace BK160 := cB hb BK160; replace BK162 := cB hb BK162; replace HB := Aside0.mk (below_step (HB.out) hb); clear hb hbox hg; have hnb128 := NB174_157.out; have hnc128 := NB157_174.out; have hnb129 := NB174_158.out; have hnc129 := NB158_174.out; have hnb130 := NB174_159.out; have hnc130 := NB159_174.out; have hnb131 := NB174_160.out; have hnc131 := NB160_174.out; have hnb132 := NB174_162.out; have hnc132 := NB162_174.out; obtain ⟨hcz133_0, hcz133_1, hcz133_2⟩ := cells3 BK174.out; have hfz133_0 := blk_frozen BK174.out 0; have hfz133_1 := blk_frozen BK174.out 1; have hfz133_2 := blk_frozen BK174.out 2))
     (try simp only [Act.put, List.setIfInBounds_toArray, List.set_cons_zero, List.set_cons_succ])
     go_cut [67] (fun v67 wc => ∃ (kq : Nat) (x67_125 : Bool), v67 = .bool x67_125 ∧ Aside0 (side_Meet.j1 kq t173 x67_125 a0_0 a0_1 a0_2 a1_0 a1_1 a1_2 a2_0 a2_1 a2_2 a2_3 a2_4 a2_5 a2_6 a2_7 a2_8 a2_0 a2_1 a2_2 a2_3 a2_4 a2_5 a2_6 a2_7 a2_8 = some (r1, r2, r3, r4, r5, r6, r7)) ∧ Aside0 (kq ≤ kj4) ∧ Aside0 (wc.heap[gb157]? = some (.cells #[.int .i64 a0_0, .int .i64 a0_1, .int .i64 a0_2] 23 (0, 0))) ∧ Aside0 (wc.heap[gb158]? = some (.cells #[.int .i64 a1_0, .int .i64 a1_1, .int .i64 a1_2] 23 (0, 0))) ∧ Aside0 (wc.heap[gb159]? = some (.cells #[.int .i64 a2_0, .int .i64 a2_1, .int .i64 a2_2, .int .i64 a2_3, .int .i64 a2_4, .int .i64 a2_5, .int .i64 a2_6, .int .i64 a2_7, .int .i64 a2_8] 25 (0, 0))) ∧ Aside0 (wc.heap[gb160]? = some (.cells #[.int .i64 0, .int .i64 0, .bool false, .int .i64 0, .int .i64 0] 33 (0, 0))) ∧ Aside0 (wc.heap[gb162]? = some (.cells #[.int .i64 a2_0, .int .i64 a2_1, .int .i64 a2_2, .int .i64 a2_3, .int .i64 a2_4, .int .i64 a2_5, .int .i64 a2_6, .int .i64 a2_7, .int .i64 a2_8] 43 (0, 0))) ∧ Aside0 (wc.heap[gb174]? = some (.cells #[.int .i64 a2_0, .int .i64 a2_1, .int .i64 a2_2] 23 (0, 0))) ∧ Aside0 (Below w.heap.size w wc))
     case first =>
      have H := HC126.out
      clear HC126
      by_cases c134 : t173 = 0
      ·rw [if_pos c134] at H
       have c134b0 : (t173 == 0) = true := beq_iff_eq.mpr c134
       have c134b1 : (t173 != 0) = false := bne_eq_false_iff_eq.mpr c134
       clear c134
       (first | rw [c134b0] | (simp only [i64_w, i32_w]; rw [c134b0]) | skip)
       have H' := Aside0.mk H
       clear H
       try go_wp2
       generalize hw_ : (((w127.setCell ⟨gb174, 0, none⟩ (.int .i64 a2_0)).setCell ⟨gb174, 1, none⟩ (.int .i64 a2_1)).setCell ⟨gb174, 2, none⟩ (.int .i64 a2_2)) = w135
       replace BK157 := Aside0.mk (bF hw_ (blk_far (blk_far (blk_far BK157.out NB157_174.out _) NB157_174.out _) NB157_174.out _))
       replace BK158 := Aside0.mk (bF hw_ (blk_far (blk_far (blk_far BK158.out NB158_174.out _) NB158_174.out _) NB158_174.out _))
       replace BK159 := Aside0.mk (bF hw_ (blk_far (blk_far (blk_far BK159.out NB159_174.out _) NB159_174.out _) NB159_174.out _))
       replace BK160 := Aside0.mk (bF hw_ (blk_far (blk_far (blk_far BK160.out NB160_174.out _) NB160_174.out _) NB160_174.out _))
       replace BK162 := Aside0.mk (bF hw_ (blk_far (blk_far (blk_far BK162.out NB162_174.out _) NB162_174.out _) NB162_174.out _))
       replace BK174 := Aside0.mk (bF hw_ (blk_put (cs' := #[.int .i64 a2_0, .int .i64 a2_1, .int .i64 a2_2]) (blk_put (blk_put BK174.out 0 _ rfl) 1 _ rfl) 2 _ rfl))
       replace HB := Aside0.mk (bH hw_ (below_set (below_set (below_set HB.out GE174.out) GE174.out) GE174.out))
       clear hw_
       replace BK157 := Aside0.mk (blk_drew BK157.out)
       replace BK158 := Aside0.mk (blk_drew BK158.out)
       replace BK159 := Aside0.mk (blk_drew BK159.out)
       replace BK160 := Aside0.mk (blk_drew BK160.out)
       replace BK162 := Aside0.mk (blk_drew BK162.out)
       replace BK174 := Aside0.mk (blk_drew BK174.out)
       replace HB := Aside0.mk (below_drew1 HB.out)
       refine start_ (n := 15) (S := fun w' => True) (ds := []) #[false, false, false, false, false, false, false, false, false, false, false, false, false, false, false] (by kernel_rfl) rfl rfl trivial (fun hHeld => ?_); refine with_tabW side_Meet.tab14 side_Meet.bits14 (fun HT_ HW_ => ?_)
       generalize w135.drew = w136 at BK157 BK158 BK159 BK160 BK162 BK174 HB hHeld ⊢
       refine pure_ (i := 0) (N := some 53) (v := ?_) (a' := ?_) (bm 15 1) rfl rfl (any_of HT_.out (by kernel_rfl)) (fun _ _ _ h => h) (Or.inl ⟨by rfl, ?_⟩) ?_ ?_
       rotate_left
       ·intro w'
        go_simp
        with_reducible rfl
       rotate_left
       ·simp only [Act.put, List.setIfInBounds_toArray, List.set_cons_zero, List.set_cons_succ, i64_w, i32_w]
        rfl
       refine pure_ (i := 1) (N := some 54) (v := ?_) (a' := ?_) (bm 15 3) rfl rfl (any_of HT_.out (by kernel_rfl)) (fun _ _ _ h => h) (Or.inl ⟨by rfl, ?_⟩) ?_ ?_
       rotate_left
       ·intro w'
        go_simp
        with_reducible rfl
       rotate_left
       ·simp only [Act.put, List.setIfInBounds_toArray, List.set_cons_zero, List.set_cons_succ, i64_w, i32_w]
        rfl
       refine pure_ (i := 2) (N := some 55) (v := ?_) (a' := ?_) (bm 15 7) rfl rfl (any_of HT_.out (by kernel_rfl)) (fun _ _ _ h => h) (Or.inl ⟨by rfl, ?_⟩) ?_ ?_
       rotate_left
       ·intro w'
        go_simp
        with_reducible rfl
       rotate_left
       ·simp only [Act.put, List.setIfInBounds_toArray, List.set_cons_zero, List.set_cons_succ, i64_w, i32_w]
        rfl
       refine pure_ (i := 3) (N := some 56) (v := undef) (a' := ?_) (bm 15 15) rfl rfl (any_of HT_.out (by kernel_rfl)) (fun _ _ _ h => h) (Or.inr ⟨by rfl, rfl⟩) ?_ ?_
       rotate_left
       ·simp only [Act.put, List.setIfInBounds_toArray, List.set_cons_zero, List.set_cons_succ, i64_w, i32_w]
        rfl
       refine pure_ (i := 4) (N := some 57) (v := undef) (a' := ?_) (bm 15 31) rfl rfl (any_of HT_.out (by kernel_rfl)) (fun _ _ _ h => h) (Or.inr ⟨by rfl, rfl⟩) ?_ ?_
       rotate_left
       ·simp only [Act.put, List.setIfInBounds_toArray, List.set_cons_zero, List.set_cons_succ, i64_w, i32_w]
        rfl
       refine pure_ (i := 5) (N := some 58) (v := undef) (a' := ?_) (bm 15 63) rfl rfl (any_of HT_.out (by kernel_rfl)) (fun _ _ _ h => h) (Or.inr ⟨by rfl, rfl⟩) ?_ ?_
       rotate_left
       ·simp only [Act.put, List.setIfInBounds_toArray, List.set_cons_zero, List.set_cons_succ, i64_w, i32_w]
        rfl
       refine pure_ (i := 6) (N := some 59) (v := undef) (a' := ?_) (bm 15 127) rfl rfl (any_of HT_.out (by kernel_rfl)) (fun _ _ _ h => h) (Or.inr ⟨by rfl, rfl⟩) ?_ ?_
       rotate_left
       ·simp only [Act.put, List.setIfInBounds_toArray, List.set_cons_zero, List.set_cons_succ, i64_w, i32_w]
        rfl
       refine pure_ (i := 7) (N := some 60) (v := undef) (a' := ?_) (bm 15 255) rfl rfl (any_of HT_.out (by kernel_rfl)) (fun _ _ _ h => h) (Or.inr ⟨by rfl, rfl⟩) ?_ ?_
       rotate_left
       ·simp only [Act.put, List.setIfInBounds_toArray, List.set_cons_zero, List.set_cons_succ, i64_w, i32_w]
        rfl
       refine pure_ (i := 8) (N := some 61) (v := undef) (a' := ?_) (bm 15 511) rfl rfl (any_of HT_.out (by kernel_rfl)) (fun _ _ _ h => h) (Or.inr ⟨by rfl, rfl⟩) ?_ ?_
       rotate_left
       ·simp only [Act.put, List.setIfInBounds_toArray, List.set_cons_zero, List.set_cons_succ, i64_w, i32_w]
        rfl
       refine pure_ (i := 9) (N := some 62) (v := undef) (a' := ?_) (bm 15 1023) rfl rfl (any_of HT_.out (by kernel_rfl)) (fun _ _ _ h => h) (Or.inr ⟨by rfl, rfl⟩) ?_ ?_
       rotate_left
       ·simp only [Act.put, List.setIfInBounds_toArray, List.set_cons_zero, List.set_cons_succ, i64_w, i32_w]
        rfl
       refine pure_ (i := 10) (N := some 63) (v := undef) (a' := ?_) (bm 15 2047) rfl rfl (any_of HT_.out (by kernel_rfl)) (fun _ _ _ h => h) (Or.inr ⟨by rfl, rfl⟩) ?_ ?_
       rotate_left
       ·simp only [Act.put, List.setIfInBounds_toArray, List.set_cons_zero, List.set_cons_succ, i64_w, i32_w]
        rfl
       refine pure_ (i := 11) (N := some 64) (v := undef) (a' := ?_) (bm 15 4095) rfl rfl (any_of HT_.out (by kernel_rfl)) (fun _ _ _ h => h) (Or.inr ⟨by rfl, rfl⟩) ?_ ?_
       rotate_left
       ·simp only [Act.put, List.setIfInBounds_toArray, List.set_cons_zero, List.set_cons_succ, i64_w, i32_w]
        rfl
       refine pure_ (i := 12) (N := some 65) (v := undef) (a' := ?_) (bm 15 8191) rfl rfl (any_of HT_.out (by kernel_rfl)) (fun _ _ _ h => h) (Or.inr ⟨by rfl, rfl⟩) ?_ ?_
       rotate_left
       ·simp only [Act.put, List.setIfInBounds_toArray, List.set_cons_zero, List.set_cons_succ, i64_w, i32_w]
        rfl
       refine pure_ (i := 13) (N := some 66) (v := undef) (a' := ?_) (bm 15 16383) rfl rfl (any_of HT_.out (by kernel_rfl)) (fun _ _ _ h => h) (Or.inr ⟨by rfl, rfl⟩) ?_ ?_
       rotate_left
       ·simp only [Act.put, List.setIfInBounds_toArray, List.set_cons_zero, List.set_cons_succ, i64_w, i32_w]
        rfl
       refine pure_ (i := 14) (N := some 67) (v := ?_) (a' := ?_) (bm 15 32767) rfl rfl (any_of HT_.out (by kernel_rfl)) (fun _ _ _ h => h) (Or.inl ⟨by rfl, ?_⟩) ?_ ?_
       rotate_left
       ·intro w'
        go_simp
        with_reducible rfl
       rotate_left
       ·simp only [Act.put, List.setIfInBounds_toArray, List.set_cons_zero, List.set_cons_succ, i64_w, i32_w]
        rfl
       refine done_ (done_of HT_.out (by kernel_rfl)) ?_
       try go_wp2
       go_meet
       case rel => exact ⟨_, (true), (by first | rfl | (simp; done) | (simp [*]; done)), H', ⟨by have := HJ4.out; first | omega | exact Nat.le_refl _⟩, ⟨BK157.out⟩, ⟨BK158.out⟩, ⟨BK159.out⟩, ⟨BK160.out⟩, ⟨BK162.out⟩, ⟨BK174.out⟩, ⟨HB.out⟩⟩
      rw [if_neg c134] at H
      have c134b0 : (t173 == 0) = false := beq_eq_false_iff_ne.mpr c134
      have c134b1 : (t173 != 0) = true := bne_iff_ne.mpr c134
      (first | rw [c134b0] | (simp only [i64_w, i32_w]; rw [c134b0]) | skip)
      replace H := Option.bind_eq_some_iff.mp H
      obtain ⟨t175, A1370, H⟩ := H
      replace H : (side_Meet.j1 kj4 t173 (t175 != t173) a0_0 a0_1 a0_2 a1_0 a1_1 a1_2 a2_0 a2_1 a2_2 a2_3 a2_4 a2_5 a2_6 a2_7 a2_8 a2_0 a2_1 a2_2 a2_3 a2_4 a2_5 a2_6 a2_7 a2_8) = some (r1, r2, r3, r4, r5, r6, r7) := H
      have A137 := Aside0.mk A1370
      clear A1370
      have H' := Aside0.mk H
      clear H
      try go_wp2
      generalize hw_ : (((w127.setCell ⟨gb174, 0, none⟩ (.int .i64 a2_0)).setCell ⟨gb174, 1, none⟩ (.int .i64 a2_1)).setCell ⟨gb174, 2, none⟩ (.int .i64 a2_2)) = w138
      replace BK157 := Aside0.mk (bF hw_ (blk_far (blk_far (blk_far BK157.out NB157_174.out _) NB157_174.out _) NB157_174.out _))
      replace BK158 := Aside0.mk (bF hw_ (blk_far (blk_far (blk_far BK158.out NB158_174.out _) NB158_174.out _) NB158_174.out _))
      replace BK159 := Aside0.mk (bF hw_ (blk_far (blk_far (blk_far BK159.out NB159_174.out _) NB159_174.out _) NB159_174.out _))
      replace BK160 := Aside0.mk (bF hw_ (blk_far (blk_far (blk_far BK160.out NB160_174.out _) NB160_174.out _) NB160_174.out _))
      replace BK162 := Aside0.mk (bF hw_ (blk_far (blk_far (blk_far BK162.out NB162_174.out _) NB162_174.out _) NB162_174.out _))
      replace BK174 := Aside0.mk (bF hw_ (blk_put (cs' := #[.int .i64 a2_0, .int .i64 a2_1, .int .i64 a2_2]) (blk_put (blk_put BK174.out 0 _ rfl) 1 _ rfl) 2 _ rfl))
      replace HB := Aside0.mk (bH hw_ (below_set (below_set (below_set HB.out GE174.out) GE174.out) GE174.out))
      clear hw_
      replace BK157 := Aside0.mk (blk_drew BK157.out)
      replace BK158 := Aside0.mk (blk_drew BK158.out)
      replace BK159 := Aside0.mk (blk_drew BK159.out)
      replace BK160 := Aside0.mk (blk_drew BK160.out)
      replace BK162 := Aside0.mk (blk_drew BK162.out)
      replace BK174 := Aside0.mk (blk_drew BK174.out)
      replace HB := Aside0.mk (below_drew1 HB.out)
      refine start_ (n := 15) (S := fun w' => w'.cell? ⟨gb157, 0, none⟩ = some (.int .i64 a0_0) ∧ w'.cell? ⟨gb157, 1, none⟩ = some (.int .i64 a0_1) ∧ w'.cell? ⟨gb157, 2, none⟩ = some (.int .i64 a0_2) ∧ w'.cell? ⟨gb158, 0, none⟩ = some (.int .i64 a1_0) ∧ w'.cell? ⟨gb158, 1, none⟩ = some (.int .i64 a1_1) ∧ w'.cell? ⟨gb158, 2, none⟩ = some (.int .i64 a1_2) ∧ w'.cell? ⟨gb174, 0, none⟩ = some (.int .i64 a2_0) ∧ w'.cell? ⟨gb174, 1, none⟩ = some (.int .i64 a2_1) ∧ w'.cell? ⟨gb174, 2, none⟩ = some (.int .i64 a2_2) ∧ w'.cell? ⟨gb162, 0, none⟩ = some (.int .i64 a2_0) ∧ w'.cell? ⟨gb162, 1, none⟩ = some (.int .i64 a2_1) ∧ w'.cell? ⟨gb162, 2, none⟩ = some (.int .i64 a2_2) ∧ w'.cell? ⟨gb162, 3, none⟩ = some (.int .i64 a2_3) ∧ w'.cell? ⟨gb162, 4, none⟩ = some (.int .i64 a2_4) ∧ w'.cell? ⟨gb162, 5, none⟩ = some (.int .i64 a2_5) ∧ w'.cell? ⟨gb162, 6, none⟩ = some (.int .i64 a2_6) ∧ w'.cell? ⟨gb162, 7, none⟩ = some (.int .i64 a2_7) ∧ w'.cell? ⟨gb162, 8, none⟩ = some (.int .i64 a2_8)) (ds := []) #[false, false, false, false, false, false, false, false, false, false, false, false, false, false, false] (by kernel_rfl) rfl rfl ⟨(blk_cell BK157.out 0).trans rfl, (blk_cell BK157.out 1).trans rfl, (blk_cell BK157.out 2).trans rfl, (blk_cell BK158.out 0).trans rfl, (blk_cell BK158.out 1).trans rfl, (blk_cell BK158.out 2).trans rfl, (blk_cell BK174.out 0).trans rfl, (blk_cell BK174.out 1).trans rfl, (blk_cell BK174.out 2).trans rfl, (blk_cell BK162.out 0).trans rfl, (blk_cell BK162.out 1).trans rfl, (blk_cell BK162.out 2).trans rfl, (blk_cell BK162.out 3).trans rfl, (blk_cell BK162.out 4).trans rfl, (blk_cell BK162.out 5).trans rfl, (blk_cell BK162.out 6).trans rfl, (blk_cell BK162.out 7).trans rfl, (blk_cell BK162.out 8).trans rfl⟩ (fun hHeld => ?_); refine with_tabW side_Meet.tab14 side_Meet.bits14 (fun HT_ HW_ => ?_)
      generalize w138.drew = w139 at BK157 BK158 BK159 BK160 BK162 BK174 HB hHeld ⊢
      refine pure_ (i := 0) (N := some 53) (v := ?_) (a' := ?_) (bm 15 1) rfl rfl (any_of HT_.out (by kernel_rfl)) (fun _ _ _ h => h) (Or.inl ⟨by rfl, ?_⟩) ?_ ?_
      rotate_left
      ·intro w'
       go_simp
       with_reducible rfl
      rotate_left
      ·simp only [Act.put, List.setIfInBounds_toArray, List.set_cons_zero, List.set_cons_succ, i64_w, i32_w]
       rfl
      refine pure_ (i := 1) (N := some 54) (v := ?_) (a' := ?_) (bm 15 3) rfl rfl (any_of HT_.out (by kernel_rfl)) (fun _ _ _ h => h) (Or.inl ⟨by rfl, ?_⟩) ?_ ?_
      rotate_left
      ·intro w'
       go_simp
       with_reducible rfl
      rotate_left
      ·simp only [Act.put, List.setIfInBounds_toArray, List.set_cons_zero, List.set_cons_succ, i64_w, i32_w]
       rfl
      refine pure_ (i := 2) (N := some 55) (v := ?_) (a' := ?_) (bm 15 7) rfl rfl (any_of HT_.out (by kernel_rfl)) (fun _ _ _ h => h) (Or.inl ⟨by rfl, ?_⟩) ?_ ?_
      rotate_left
      ·intro w'
       go_simp
       with_reducible rfl
      rotate_left
      ·simp only [Act.put, List.setIfInBounds_toArray, List.set_cons_zero, List.set_cons_succ, i64_w, i32_w]
       rfl
      refine pure_ (i := 6) (N := some 59) (v := ?_) (a' := ?_) (bm 15 71) rfl rfl (any_of HT_.out (by kernel_rfl)) (fun _ _ _ h => h) (Or.inl ⟨by rfl, ?_⟩) ?_ ?_
      rotate_left
      ·intro w'
       go_simp
       with_reducible rfl
      rotate_left
      ·simp only [Act.put, List.setIfInBounds_toArray, List.set_cons_zero, List.set_cons_succ, i64_w, i32_w]
       rfl
      refine pure_ (i := 7) (N := some 60) (v := ?_) (a' := ?_) (bm 15 199) rfl rfl (any_of HT_.out (by kernel_rfl)) (fun _ _ _ h => h) (Or.inl ⟨by rfl, ?_⟩) ?_ ?_
      rotate_left
      ·intro w'
       go_simp
       with_reducible rfl
      rotate_left
      ·simp only [Act.put, List.setIfInBounds_toArray, List.set_cons_zero, List.set_cons_succ, i64_w, i32_w]
       rfl
      refine pure_ (i := 8) (N := some 61) (v := ?_) (a' := ?_) (bm 15 455) rfl rfl (any_of HT_.out (by kernel_rfl)) (fun _ _ _ h => h) (Or.inl ⟨by rfl, ?_⟩) ?_ ?_
      rotate_left
      ·intro w'
       go_simp
       with_reducible rfl
      rotate_left
      ·simp only [Act.put, List.setIfInBounds_toArray, List.set_cons_zero, List.set_cons_succ, i64_w, i32_w]
       rfl
      refine pure_ (i := 9) (N := some 62) (v := ?_) (a' := ?_) (bm 15 967) rfl rfl (any_of HT_.out (by kernel_rfl)) (fun _ _ _ h => h) (Or.inl ⟨by rfl, ?_⟩) ?_ ?_
      rotate_left
      ·intro w'
       go_simp
       with_reducible rfl
      rotate_left
      ·simp only [Act.put, List.setIfInBounds_toArray, List.set_cons_zero, List.set_cons_succ, i64_w, i32_w]
       rfl
      refine pure_ (i := 12) (N := some 65) (v := ?_) (a' := ?_) (bm 15 5063) rfl rfl (any_of HT_.out (by kernel_rfl)) (fun _ _ _ h => h) (Or.inl ⟨by rfl, ?_⟩) ?_ ?_
      rotate_left
      ·intro w'
       go_simp
       with_reducible rfl
      rotate_left
      ·simp only [Act.put, List.setIfInBounds_toArray, List.set_cons_zero, List.set_cons_succ, i64_w, i32_w]
       rfl
      refine take_ (i := 3) (N := some 56) (v := ?_) (a' := ?_) (bm 15 5071) rfl rfl (take_ofW HT_.out HW_.out (by kernel_rfl)) (fun _ _ _ h => h) (Or.inl ⟨by rfl, ?_⟩) hHeld ?_ ?_
      rotate_left
      ·rintro w' ⟨s0, s1, s2, s3, s4, s5, s6, s7, s8, s9, s10, s11, s12, s13, s14, s15, s16, s17⟩
       go_simp
       with_reducible rfl
      rotate_left
      ·simp only [Act.put, List.setIfInBounds_toArray, List.set_cons_zero, List.set_cons_succ, i64_w, i32_w]
       rfl
      refine take_ (i := 4) (N := some 57) (v := ?_) (a' := ?_) (bm 15 5087) rfl rfl (take_ofW HT_.out HW_.out (by kernel_rfl)) (fun _ _ _ h => h) (Or.inl ⟨by rfl, ?_⟩) hHeld ?_ ?_
      rotate_left
      ·rintro w' ⟨s0, s1, s2, s3, s4, s5, s6, s7, s8, s9, s10, s11, s12, s13, s14, s15, s16, s17⟩
       go_simp
       with_reducible rfl
      rotate_left
      ·simp only [Act.put, List.setIfInBounds_toArray, List.set_cons_zero, List.set_cons_succ, i64_w, i32_w]
       rfl
      refine take_ (i := 5) (N := some 58) (v := ?_) (a' := ?_) (bm 15 5119) rfl rfl (take_ofW HT_.out HW_.out (by kernel_rfl)) (fun _ _ _ h => h) (Or.inl ⟨by rfl, ?_⟩) hHeld ?_ ?_
      rotate_left
      ·rintro w' ⟨s0, s1, s2, s3, s4, s5, s6, s7, s8, s9, s10, s11, s12, s13, s14, s15, s16, s17⟩
       go_simp
       with_reducible rfl
      rotate_left
      ·simp only [Act.put, List.setIfInBounds_toArray, List.set_cons_zero, List.set_cons_succ, i64_w, i32_w]
       rfl
      refine take_ (i := 10) (N := some 63) (v := ?_) (a' := ?_) (bm 15 6143) rfl rfl (take_ofW HT_.out HW_.out (by kernel_rfl)) (fun _ _ _ h => h) (Or.inl ⟨by rfl, ?_⟩) hHeld ?_ ?_
      rotate_left
      ·rintro w' ⟨s0, s1, s2, s3, s4, s5, s6, s7, s8, s9, s10, s11, s12, s13, s14, s15, s16, s17⟩
       go_simp
       with_reducible rfl
      rotate_left
      ·simp only [Act.put, List.setIfInBounds_toArray, List.set_cons_zero, List.set_cons_succ, i64_w, i32_w]
       rfl
      refine one_ (i := 11) (N := some 64) (bm 15 8191) rfl rfl (one_of HT_.out (by kernel_rfl)) (by decide) (fun K hK => ?_)
      refine goes_ Try.func15 (by kernel_rfl) rfl #[.agg #[.int .i64 a0_0, .int .i64 a0_1, .int .i64 a0_2], .agg #[.int .i64 a1_0, .int .i64 a1_1, .int .i64 a1_2], .agg #[.int .i64 a2_0, .int .i64 a2_1, .int .i64 a2_2], .agg #[.int .i64 a2_3, .int .i64 a2_4, .int .i64 a2_5]] (by rfl) rfl rfl (by (try simp only [List.map_toArray, List.map_cons, List.map_nil]); first | done | rfl | (simp only [List.length_drop, List.length_take]; rfl)) ?_
      with_reducible refine (side_pass.calls kj4 a0_0 a0_1 a0_2 a1_0 a1_1 a1_2 a2_0 a2_1 a2_2 a2_3 a2_4 a2_5 t175 _ A137.out).mono ?_
      rintro e w140 ⟨rfl, hb⟩
      refine ⟨_, rfl, ?_⟩
      replace BK157 := cB hb BK157
      replace BK158 := cB hb BK158
      replace BK159 := cB hb BK159
      replace BK160 := cB hb BK160
      replace BK162 := cB hb BK162
      replace BK174 := cB hb BK174
      replace HB := Aside0.mk (below_step (HB.out) hb)
      (try clear hb)
      (try clear hb2)
      (try clear hk)
      (try clear hi)
      refine hK.out _ _ ⟨(blk_cell BK157.out 0).trans rfl, (blk_cell BK157.out 1).trans rfl, (blk_cell BK157.out 2).trans rfl, (blk_cell BK158.out 0).trans rfl, (blk_cell BK158.out 1).trans rfl, (blk_cell BK158.out 2).trans rfl, (blk_cell BK174.out 0).trans rfl, (blk_cell BK174.out 1).trans rfl, (blk_cell BK174.out 2).trans rfl, (blk_cell BK162.out 0).trans rfl, (blk_cell BK162.out 1).trans rfl, (blk_cell BK162.out 2).trans rfl, (blk_cell BK162.out 3).trans rfl, (blk_cell BK162.out 4).trans rfl, (blk_cell BK162.out 5).trans rfl, (blk_cell BK162.out 6).trans rfl, (blk_cell BK162.out 7).trans rfl, (blk_cell BK162.out 8).trans rfl⟩ (fun hHeld => ?_)
      clear hK K
      refine norm_ (a' := ?_) ?_ ?_
      rotate_left
      ·show Act.put _ (some 64) _ = _
       simp only [Act.put, List.setIfInBounds_toArray, List.set_cons_zero, List.set_cons_succ, i64_w, i32_w]
       rfl
      refine pure_ (i := 13) (N := some 66) (v := ?_) (a' := ?_) (bm 15 16383) rfl rfl (any_of HT_.out (by kernel_rfl)) (fun _ _ _ h => h) (Or.inl ⟨by rfl, ?_⟩) ?_ ?_
      rotate_left
      ·intro w'
       go_simp
       with_reducible rfl
      rotate_left
      ·simp only [Act.put, List.setIfInBounds_toArray, List.set_cons_zero, List.set_cons_succ, i64_w, i32_w]
       rfl
      refine pure_ (i := 14) (N := some 67) (v := ?_) (a' := ?_) (bm 15 32767) rfl rfl (any_of HT_.out (by kernel_rfl)) (fun _ _ _ h => h) (Or.inl ⟨by rfl, ?_⟩) ?_ ?_
      rotate_left
      ·intro w'
       go_simp
       with_reducible rfl
      rotate_left
      ·simp only [Act.put, List.setIfInBounds_toArray, List.set_cons_zero, List.set_cons_succ, i64_w, i32_w]
       rfl
      refine done_ (done_of HT_.out (by kernel_rfl)) ?_
      try go_wp2
      go_meet
      case rel => exact ⟨_, ((t175 != t173)), (by first | rfl | (simp; done) | (simp [*]; done)), H', ⟨by have := HJ4.out; first | omega | exact Nat.le_refl _⟩, ⟨BK157.out⟩, ⟨BK158.out⟩, ⟨BK159.out⟩, ⟨BK160.out⟩, ⟨BK162.out⟩, ⟨BK174.out⟩, ⟨HB.out⟩⟩
     clear HC126
     try clear c117
     try clear hcz120_0
     try clear hcz120_1
     try clear hcz120_2
     try clear hcz121_0
     try clear hcz121_1
     try clear hcz121_2
     try clear hcz122_0
     try clear hcz122_1
     try clear hcz122_2
     try clear hcz122_3
     try clear hcz122_4
     try clear hcz122_5
     try clear hcz122_6
     try clear hcz122_7
     try clear hcz122_8
     try clear hcz124_0
     try clear hcz124_1
     try clear hcz124_2
     try clear hcz124_3
     try clear hcz124_4
     try clear hcz124_5
     try clear hcz124_6
     try clear hcz124_7
     try clear hcz124_8
     try clear hcz133_0
     try clear hcz133_1
     try clear hcz133_2
     try clear hfz133_0
     try clear hfz133_1
     try clear hfz133_2
     obtain ⟨kq, x67_125, rfl, HA, HJ125, BK157, BK158, BK159, BK160, BK162, BK174, HB⟩ := hcut
     cases kq with
     | zero => exact absurd HA.out (by simp [side_Meet.j1])
     | succ kj125 =>
      have H := HA.out
      clear HA
      simp only [side_Meet.j1] at H
      by_cases c141 : x67_125 = true
      ·subst c141
       have H1 : (some (0, 0, false, 0, 0, false, 0)) = some (r1, r2, r3, r4, r5, r6, r7) := by rw [if_pos rfl] at H; exact H
       clear H
       have H := H1
       clear H1
       simp only [Option.some.injEq, Prod.mk.injEq] at H
       obtain ⟨rfl, rfl, rfl, rfl, rfl, rfl, rfl⟩ := H
       have hnb142 := NB160_157.out
       have hnc142 := NB157_160.out
       have hnb143 := NB160_158.out
       have hnc143 := NB158_160.out
       have hnb144 := NB160_159.out
       have hnc144 := NB159_160.out
       have hnb145 := NB160_162.out
       have hnc145 := NB162_160.out
       obtain ⟨hcz146_0, hcz146_1, hcz146_2, hcz146_3, hcz146_4⟩ := cells5 BK160.out
       have hfz146_0 := blk_frozen BK160.out 0
       have hfz146_1 := blk_frozen BK160.out 1
       have hfz146_2 := blk_frozen BK160.out 2
       have hfz146_3 := blk_frozen BK160.out 3
       have hfz146_4 := blk_frozen BK160.out 4
       go_wp2
       refine bodyPost_ret (results_ctt rfl _ _ gb160 33 #[.int .i64 0, .int .i64 0, .bool false, .int .i64 0, .int .i64 0] (0, 0) _ rfl ((blk_put (cs' := #[.int .i64 0, .int .i64 0, .bool false, .int .i64 0, .int .i64 0]) (blk_put (blk_put (blk_put (blk_put BK160.out 0 _ rfl) 1 _ rfl) 2 _ rfl) 3 _ rfl) 4 _ rfl)) Try.underlying33 rfl (by kernel_rfl)) rfl ?_
       exact ⟨by first | rfl | (simp [errW_none, errW_some] <;> rfl) | (simp [*, errW_none, errW_some] <;> rfl), (below_set (below_set (below_set (below_set (below_set HB.out GE160.out) GE160.out) GE160.out) GE160.out) GE160.out)⟩
      replace c141 := Bool.eq_false_iff.mpr c141
      subst c141
      have H1 : (side_Meet.j2 kj125 t173 a0_0 a0_1 a0_2 a1_0 a1_1 a1_2 a2_0 a2_1 a2_2 a2_3 a2_4 a2_5 a2_6 a2_7 a2_8 a2_0 a2_1 a2_2 a2_3 a2_4 a2_5 a2_6 a2_7 a2_8) = some (r1, r2, r3, r4, r5, r6, r7) := by rw [if_neg (show ¬ (false = true) by decide)] at H; exact H
      clear H
      have H := H1
      clear H1
      have H' := Aside0.mk H
      clear H
      go_wp2
      go_meet
      case rel => exact ⟨_, (0), (0), (false), (0), (0), H', ⟨by have := HJ4.out; have := HJ125.out; first | omega | exact Nat.le_refl _⟩, ⟨BK157.out⟩, ⟨BK158.out⟩, ⟨BK159.out⟩, ⟨BK160.out⟩, ⟨BK162.out⟩, ⟨HB.out⟩⟩
    clear HC125
    try clear c117
    try clear hcz120_0
    try clear hcz120_1
    try clear hcz120_2
    try clear hcz121_0
    try clear hcz121_1
    try clear hcz121_2
    try clear hcz122_0
    try clear hcz122_1
    try clear hcz122_2
    try clear hcz122_3
    try clear hcz122_4
    try clear hcz122_5
    try clear hcz122_6
    try clear hcz122_7
    try clear hcz122_8
    try clear hcz124_0
    try clear hcz124_1
    try clear hcz124_2
    try clear hcz124_3
    try clear hcz124_4
    try clear hcz124_5
    try clear hcz124_6
    try clear hcz124_7
    try clear hcz124_8
    obtain ⟨kq, x161000_124, x161001_124, x161002_124, x161003_124, x161004_124, HA, HJ124, BK157, BK158, BK159, BK160, BK162, HB⟩ := hcut
    cases kq with
    | zero => exact absurd HA.out (by simp [side_Meet.j2])
    | succ kj124 =>
     have H := HA.out
     clear HA
     simp only [side_Meet.j2] at H
     have HC147 := Aside0.mk H
     clear H
     try go_wp2
     rw [rounds_succ]
     go_upto_block 3 with (fail)
     go_cut [] (fun wc => ∃ (kq : Nat) (x161000_146 : Int) (x161001_146 : Int) (x161002_146 : Bool) (x161003_146 : Int) (x161004_146 : Int), Aside0 (side_Meet.j4 kq t173 a0_0 a0_1 a0_2 a1_0 a1_1 a1_2 a2_0 a2_1 a2_2 a2_3 a2_4 a2_5 a2_6 a2_7 a2_8 a2_0 a2_1 a2_2 a2_3 a2_4 a2_5 a2_6 a2_7 a2_8 = some (r1, r2, r3, r4, r5, r6, r7)) ∧ Aside0 (kq ≤ kj124) ∧ Aside0 (wc.heap[gb157]? = some (.cells #[.int .i64 a0_0, .int .i64 a0_1, .int .i64 a0_2] 23 (0, 0))) ∧ Aside0 (wc.heap[gb158]? = some (.cells #[.int .i64 a1_0, .int .i64 a1_1, .int .i64 a1_2] 23 (0, 0))) ∧ Aside0 (wc.heap[gb159]? = some (.cells #[.int .i64 a2_0, .int .i64 a2_1, .int .i64 a2_2, .int .i64 a2_3, .int .i64 a2_4, .int .i64 a2_5, .int .i64 a2_6, .int .i64 a2_7, .int .i64 a2_8] 25 (0, 0))) ∧ Aside0 (wc.heap[gb160]? = some (.cells #[.int .i64 x161000_146, .int .i64 x161001_146, .bool x161002_146, .int .i64 x161003_146, .int .i64 x161004_146] 33 (0, 0))) ∧ Aside0 (wc.heap[gb162]? = some (.cells #[.int .i64 a2_0, .int .i64 a2_1, .int .i64 a2_2, .int .i64 a2_3, .int .i64 a2_4, .int .i64 a2_5, .int .i64 a2_6, .int .i64 a2_7, .int .i64 a2_8] 43 (0, 0))) ∧ Aside0 (Below w.heap.size w wc))
     case first =>
      have H := HC147.out
      clear HC147
      have HC148 := Aside0.mk H
      clear H
      go_upto_region 14 with (first | ((with_reducible refine gate_dst (N := 15) rfl ?_); refine box_event ?hg (N := 15) ?hd (cs := #[.int .i64 0, .int .i64 0, .int .i64 0]) (t := 23) ?hr ?_; (case hd => rfl); (case hg => rfl); (case hr => first | (go_simp; done) | (go_simp; rfl)); intro gb176 hg w149 hbox hb; have BK176 := Aside0.mk (hbox); have GE176 := Aside0.mk (bG hg (HB.out)); have NB157_176 := cN hg BK157; have NB176_157 := cM hg BK157; have NB158_176 := cN hg BK158; have NB176_158 := cM hg BK158; have NB159_176 := cN hg BK159; have NB176_159 := cM hg BK159; have NB160_176 := cN hg BK160; have NB176_160 := cM hg BK160; have NB162_176 := cN hg BK162; have NB176_162 := cM hg BK162; replace BK157 := cB hb BK157; replace BK158 := cB hb BK158; replace BK159 := cB hb BK159; replace BK160 := cB hb BK160; replace BK162 := cB hb BK162; replace HB := Aside0.mk (below_step (HB.out) hb); clear hb hbox hg; have hnb150 := NB176_157.out; have hnc150 := NB157_176.out; have hnb151 := NB176_158.out; have hnc151 := NB158_176.out; have hnb152 := NB176_159.out; have hnc152 := NB159_176.out; have hnb153 := NB176_160.out; have hnc153 := NB160_176.out; have hnb154 := NB176_162.out; have hnc154 := NB162_176.out; obtain ⟨hcz155_0, hcz155_1, hcz155_2⟩ := cells3 BK176.out; have hfz155_0 := blk_frozen BK176.out 0; have hfz155_1 := blk_frozen BK176.out 1; have hfz155_2 := blk_frozen BK176.out 2))
      (try simp only [Act.put, List.setIfInBounds_toArray, List.set_cons_zero, List.set_cons_succ])
      go_cut [67] (fun v67 wc => ∃ (kq : Nat) (x67_147 : Bool), v67 = .bool x67_147 ∧ Aside0 (side_Meet.j3 kq t173 x67_147 a0_0 a0_1 a0_2 a1_0 a1_1 a1_2 a2_0 a2_1 a2_2 a2_3 a2_4 a2_5 a2_6 a2_7 a2_8 a2_0 a2_1 a2_2 a2_3 a2_4 a2_5 a2_6 a2_7 a2_8 = some (r1, r2, r3, r4, r5, r6, r7)) ∧ Aside0 (kq ≤ kj124) ∧ Aside0 (wc.heap[gb157]? = some (.cells #[.int .i64 a0_0, .int .i64 a0_1, .int .i64 a0_2] 23 (0, 0))) ∧ Aside0 (wc.heap[gb158]? = some (.cells #[.int .i64 a1_0, .int .i64 a1_1, .int .i64 a1_2] 23 (0, 0))) ∧ Aside0 (wc.heap[gb159]? = some (.cells #[.int .i64 a2_0, .int .i64 a2_1, .int .i64 a2_2, .int .i64 a2_3, .int .i64 a2_4, .int .i64 a2_5, .int .i64 a2_6, .int .i64 a2_7, .int .i64 a2_8] 25 (0, 0))) ∧ Aside0 (wc.heap[gb160]? = some (.cells #[.int .i64 x161000_124, .int .i64 x161001_124, .bool x161002_124, .int .i64 x161003_124, .int .i64 x161004_124] 33 (0, 0))) ∧ Aside0 (wc.heap[gb162]? = some (.cells #[.int .i64 a2_0, .int .i64 a2_1, .int .i64 a2_2, .int .i64 a2_3, .int .i64 a2_4, .int .i64 a2_5, .int .i64 a2_6, .int .i64 a2_7, .int .i64 a2_8] 43 (0, 0))) ∧ Aside0 (wc.heap[gb176]? = some (.cells #[.int .i64 a2_3, .int .i64 a2_4, .int .i64 a2_5] 23 (0, 0))) ∧ Aside0 (Below w.heap.size w wc))
      case first =>
       have H := HC148.out
       clear HC148
       by_cases c156 : t173 = 0
       ·rw [if_pos c156] at H
        have c156b0 : (t173 == 0) = true := beq_iff_eq.mpr c156
        have c156b1 : (t173 != 0) = false := bne_eq_false_iff_eq.mpr c156
        clear c156
        (first | rw [c156b0] | (simp only [i64_w, i32_w]; rw [c156b0]) | skip)
        have H' := Aside0.mk H
        clear H
        try go_wp2
        generalize hw_ : (((w149.setCell ⟨gb176, 0, none⟩ (.int .i64 a2_3)).setCell ⟨gb176, 1, none⟩ (.int .i64 a2_4)).setCell ⟨gb176, 2, none⟩ (.int .i64 a2_5)) = w157
        replace BK157 := Aside0.mk (bF hw_ (blk_far (blk_far (blk_far BK157.out NB157_176.out _) NB157_176.out _) NB157_176.out _))
        replace BK158 := Aside0.mk (bF hw_ (blk_far (blk_far (blk_far BK158.out NB158_176.out _) NB158_176.out _) NB158_176.out _))
        replace BK159 := Aside0.mk (bF hw_ (blk_far (blk_far (blk_far BK159.out NB159_176.out _) NB159_176.out _) NB159_176.out _))
        replace BK160 := Aside0.mk (bF hw_ (blk_far (blk_far (blk_far BK160.out NB160_176.out _) NB160_176.out _) NB160_176.out _))
        replace BK162 := Aside0.mk (bF hw_ (blk_far (blk_far (blk_far BK162.out NB162_176.out _) NB162_176.out _) NB162_176.out _))
        replace BK176 := Aside0.mk (bF hw_ (blk_put (cs' := #[.int .i64 a2_3, .int .i64 a2_4, .int .i64 a2_5]) (blk_put (blk_put BK176.out 0 _ rfl) 1 _ rfl) 2 _ rfl))
        replace HB := Aside0.mk (bH hw_ (below_set (below_set (below_set HB.out GE176.out) GE176.out) GE176.out))
        clear hw_
        replace BK157 := Aside0.mk (blk_drew BK157.out)
        replace BK158 := Aside0.mk (blk_drew BK158.out)
        replace BK159 := Aside0.mk (blk_drew BK159.out)
        replace BK160 := Aside0.mk (blk_drew BK160.out)
        replace BK162 := Aside0.mk (blk_drew BK162.out)
        replace BK176 := Aside0.mk (blk_drew BK176.out)
        replace HB := Aside0.mk (below_drew1 HB.out)
        refine start_ (n := 15) (S := fun w' => True) (ds := []) #[false, false, false, false, false, false, false, false, false, false, false, false, false, false, false] (by kernel_rfl) rfl rfl trivial (fun hHeld => ?_); refine with_tabW side_Meet.tab14 side_Meet.bits14 (fun HT_ HW_ => ?_)
        generalize w157.drew = w158 at BK157 BK158 BK159 BK160 BK162 BK176 HB hHeld ⊢
        refine pure_ (i := 0) (N := some 53) (v := ?_) (a' := ?_) (bm 15 1) rfl rfl (any_of HT_.out (by kernel_rfl)) (fun _ _ _ h => h) (Or.inl ⟨by rfl, ?_⟩) ?_ ?_
        rotate_left
        ·intro w'
         go_simp
         with_reducible rfl
        rotate_left
        ·simp only [Act.put, List.setIfInBounds_toArray, List.set_cons_zero, List.set_cons_succ, i64_w, i32_w]
         rfl
        refine pure_ (i := 1) (N := some 54) (v := ?_) (a' := ?_) (bm 15 3) rfl rfl (any_of HT_.out (by kernel_rfl)) (fun _ _ _ h => h) (Or.inl ⟨by rfl, ?_⟩) ?_ ?_
        rotate_left
        ·intro w'
         go_simp
         with_reducible rfl
        rotate_left
        ·simp only [Act.put, List.setIfInBounds_toArray, List.set_cons_zero, List.set_cons_succ, i64_w, i32_w]
         rfl
        refine pure_ (i := 2) (N := some 55) (v := ?_) (a' := ?_) (bm 15 7) rfl rfl (any_of HT_.out (by kernel_rfl)) (fun _ _ _ h => h) (Or.inl ⟨by rfl, ?_⟩) ?_ ?_
        rotate_left
        ·intro w'
         go_simp
         with_reducible rfl
        rotate_left
        ·simp only [Act.put, List.setIfInBounds_toArray, List.set_cons_zero, List.set_cons_succ, i64_w, i32_w]
         rfl
        refine pure_ (i := 3) (N := some 56) (v := undef) (a' := ?_) (bm 15 15) rfl rfl (any_of HT_.out (by kernel_rfl)) (fun _ _ _ h => h) (Or.inr ⟨by rfl, rfl⟩) ?_ ?_
        rotate_left
        ·simp only [Act.put, List.setIfInBounds_toArray, List.set_cons_zero, List.set_cons_succ, i64_w, i32_w]
         rfl
        refine pure_ (i := 4) (N := some 57) (v := undef) (a' := ?_) (bm 15 31) rfl rfl (any_of HT_.out (by kernel_rfl)) (fun _ _ _ h => h) (Or.inr ⟨by rfl, rfl⟩) ?_ ?_
        rotate_left
        ·simp only [Act.put, List.setIfInBounds_toArray, List.set_cons_zero, List.set_cons_succ, i64_w, i32_w]
         rfl
        refine pure_ (i := 5) (N := some 58) (v := undef) (a' := ?_) (bm 15 63) rfl rfl (any_of HT_.out (by kernel_rfl)) (fun _ _ _ h => h) (Or.inr ⟨by rfl, rfl⟩) ?_ ?_
        rotate_left
        ·simp only [Act.put, List.setIfInBounds_toArray, List.set_cons_zero, List.set_cons_succ, i64_w, i32_w]
         rfl
        refine pure_ (i := 6) (N := some 59) (v := undef) (a' := ?_) (bm 15 127) rfl rfl (any_of HT_.out (by kernel_rfl)) (fun _ _ _ h => h) (Or.inr ⟨by rfl, rfl⟩) ?_ ?_
        rotate_left
        ·simp only [Act.put, List.setIfInBounds_toArray, List.set_cons_zero, List.set_cons_succ, i64_w, i32_w]
         rfl
        refine pure_ (i := 7) (N := some 60) (v := undef) (a' := ?_) (bm 15 255) rfl rfl (any_of HT_.out (by kernel_rfl)) (fun _ _ _ h => h) (Or.inr ⟨by rfl, rfl⟩) ?_ ?_
        rotate_left
        ·simp only [Act.put, List.setIfInBounds_toArray, List.set_cons_zero, List.set_cons_succ, i64_w, i32_w]
         rfl
        refine pure_ (i := 8) (N := some 61) (v := undef) (a' := ?_) (bm 15 511) rfl rfl (any_of HT_.out (by kernel_rfl)) (fun _ _ _ h => h) (Or.inr ⟨by rfl, rfl⟩) ?_ ?_
        rotate_left
        ·simp only [Act.put, List.setIfInBounds_toArray, List.set_cons_zero, List.set_cons_succ, i64_w, i32_w]
         rfl
        refine pure_ (i := 9) (N := some 62) (v := undef) (a' := ?_) (bm 15 1023) rfl rfl (any_of HT_.out (by kernel_rfl)) (fun _ _ _ h => h) (Or.inr ⟨by rfl, rfl⟩) ?_ ?_
        rotate_left
        ·simp only [Act.put, List.setIfInBounds_toArray, List.set_cons_zero, List.set_cons_succ, i64_w, i32_w]
         rfl
        refine pure_ (i := 10) (N := some 63) (v := undef) (a' := ?_) (bm 15 2047) rfl rfl (any_of HT_.out (by kernel_rfl)) (fun _ _ _ h => h) (Or.inr ⟨by rfl, rfl⟩) ?_ ?_
        rotate_left
        ·simp only [Act.put, List.setIfInBounds_toArray, List.set_cons_zero, List.set_cons_succ, i64_w, i32_w]
         rfl
        refine pure_ (i := 11) (N := some 64) (v := undef) (a' := ?_) (bm 15 4095) rfl rfl (any_of HT_.out (by kernel_rfl)) (fun _ _ _ h => h) (Or.inr ⟨by rfl, rfl⟩) ?_ ?_
        rotate_left
        ·simp only [Act.put, List.setIfInBounds_toArray, List.set_cons_zero, List.set_cons_succ, i64_w, i32_w]
         rfl
        refine pure_ (i := 12) (N := some 65) (v := undef) (a' := ?_) (bm 15 8191) rfl rfl (any_of HT_.out (by kernel_rfl)) (fun _ _ _ h => h) (Or.inr ⟨by rfl, rfl⟩) ?_ ?_
        rotate_left
        ·simp only [Act.put, List.setIfInBounds_toArray, List.set_cons_zero, List.set_cons_succ, i64_w, i32_w]
         rfl
        refine pure_ (i := 13) (N := some 66) (v := undef) (a' := ?_) (bm 15 16383) rfl rfl (any_of HT_.out (by kernel_rfl)) (fun _ _ _ h => h) (Or.inr ⟨by rfl, rfl⟩) ?_ ?_
        rotate_left
        ·simp only [Act.put, List.setIfInBounds_toArray, List.set_cons_zero, List.set_cons_succ, i64_w, i32_w]
         rfl
        refine pure_ (i := 14) (N := some 67) (v := ?_) (a' := ?_) (bm 15 32767) rfl rfl (any_of HT_.out (by kernel_rfl)) (fun _ _ _ h => h) (Or.inl ⟨by rfl, ?_⟩) ?_ ?_
        rotate_left
        ·intro w'
         go_simp
         with_reducible rfl
        rotate_left
        ·simp only [Act.put, List.setIfInBounds_toArray, List.set_cons_zero, List.set_cons_succ, i64_w, i32_w]
         rfl
        refine done_ (done_of HT_.out (by kernel_rfl)) ?_
        try go_wp2
        go_meet
        case rel => exact ⟨_, (true), (by first | rfl | (simp; done) | (simp [*]; done)), H', ⟨by have := HJ4.out; have := HJ124.out; first | omega | exact Nat.le_refl _⟩, ⟨BK157.out⟩, ⟨BK158.out⟩, ⟨BK159.out⟩, ⟨BK160.out⟩, ⟨BK162.out⟩, ⟨BK176.out⟩, ⟨HB.out⟩⟩
       rw [if_neg c156] at H
       have c156b0 : (t173 == 0) = false := beq_eq_false_iff_ne.mpr c156
       have c156b1 : (t173 != 0) = true := bne_iff_ne.mpr c156
       (first | rw [c156b0] | (simp only [i64_w, i32_w]; rw [c156b0]) | skip)
       replace H := Option.bind_eq_some_iff.mp H
       obtain ⟨t177, A1590, H⟩ := H
       replace H : (side_Meet.j3 kj124 t173 (t177 != t173) a0_0 a0_1 a0_2 a1_0 a1_1 a1_2 a2_0 a2_1 a2_2 a2_3 a2_4 a2_5 a2_6 a2_7 a2_8 a2_0 a2_1 a2_2 a2_3 a2_4 a2_5 a2_6 a2_7 a2_8) = some (r1, r2, r3, r4, r5, r6, r7) := H
       have A159 := Aside0.mk A1590
       clear A1590
       have H' := Aside0.mk H
       clear H
       try go_wp2
       generalize hw_ : (((w149.setCell ⟨gb176, 0, none⟩ (.int .i64 a2_3)).setCell ⟨gb176, 1, none⟩ (.int .i64 a2_4)).setCell ⟨gb176, 2, none⟩ (.int .i64 a2_5)) = w160
       replace BK157 := Aside0.mk (bF hw_ (blk_far (blk_far (blk_far BK157.out NB157_176.out _) NB157_176.out _) NB157_176.out _))
       replace BK158 := Aside0.mk (bF hw_ (blk_far (blk_far (blk_far BK158.out NB158_176.out _) NB158_176.out _) NB158_176.out _))
       replace BK159 := Aside0.mk (bF hw_ (blk_far (blk_far (blk_far BK159.out NB159_176.out _) NB159_176.out _) NB159_176.out _))
       replace BK160 := Aside0.mk (bF hw_ (blk_far (blk_far (blk_far BK160.out NB160_176.out _) NB160_176.out _) NB160_176.out _))
       replace BK162 := Aside0.mk (bF hw_ (blk_far (blk_far (blk_far BK162.out NB162_176.out _) NB162_176.out _) NB162_176.out _))
       replace BK176 := Aside0.mk (bF hw_ (blk_put (cs' := #[.int .i64 a2_3, .int .i64 a2_4, .int .i64 a2_5]) (blk_put (blk_put BK176.out 0 _ rfl) 1 _ rfl) 2 _ rfl))
       replace HB := Aside0.mk (bH hw_ (below_set (below_set (below_set HB.out GE176.out) GE176.out) GE176.out))
       clear hw_
       replace BK157 := Aside0.mk (blk_drew BK157.out)
       replace BK158 := Aside0.mk (blk_drew BK158.out)
       replace BK159 := Aside0.mk (blk_drew BK159.out)
       replace BK160 := Aside0.mk (blk_drew BK160.out)
       replace BK162 := Aside0.mk (blk_drew BK162.out)
       replace BK176 := Aside0.mk (blk_drew BK176.out)
       replace HB := Aside0.mk (below_drew1 HB.out)
       refine start_ (n := 15) (S := fun w' => w'.cell? ⟨gb157, 0, none⟩ = some (.int .i64 a0_0) ∧ w'.cell? ⟨gb157, 1, none⟩ = some (.int .i64 a0_1) ∧ w'.cell? ⟨gb157, 2, none⟩ = some (.int .i64 a0_2) ∧ w'.cell? ⟨gb158, 0, none⟩ = some (.int .i64 a1_0) ∧ w'.cell? ⟨gb158, 1, none⟩ = some (.int .i64 a1_1) ∧ w'.cell? ⟨gb158, 2, none⟩ = some (.int .i64 a1_2) ∧ w'.cell? ⟨gb176, 0, none⟩ = some (.int .i64 a2_3) ∧ w'.cell? ⟨gb176, 1, none⟩ = some (.int .i64 a2_4) ∧ w'.cell? ⟨gb176, 2, none⟩ = some (.int .i64 a2_5) ∧ w'.cell? ⟨gb162, 0, none⟩ = some (.int .i64 a2_0) ∧ w'.cell? ⟨gb162, 1, none⟩ = some (.int .i64 a2_1) ∧ w'.cell? ⟨gb162, 2, none⟩ = some (.int .i64 a2_2) ∧ w'.cell? ⟨gb162, 3, none⟩ = some (.int .i64 a2_3) ∧ w'.cell? ⟨gb162, 4, none⟩ = some (.int .i64 a2_4) ∧ w'.cell? ⟨gb162, 5, none⟩ = some (.int .i64 a2_5) ∧ w'.cell? ⟨gb162, 6, none⟩ = some (.int .i64 a2_6) ∧ w'.cell? ⟨gb162, 7, none⟩ = some (.int .i64 a2_7) ∧ w'.cell? ⟨gb162, 8, none⟩ = some (.int .i64 a2_8)) (ds := []) #[false, false, false, false, false, false, false, false, false, false, false, false, false, false, false] (by kernel_rfl) rfl rfl ⟨(blk_cell BK157.out 0).trans rfl, (blk_cell BK157.out 1).trans rfl, (blk_cell BK157.out 2).trans rfl, (blk_cell BK158.out 0).trans rfl, (blk_cell BK158.out 1).trans rfl, (blk_cell BK158.out 2).trans rfl, (blk_cell BK176.out 0).trans rfl, (blk_cell BK176.out 1).trans rfl, (blk_cell BK176.out 2).trans rfl, (blk_cell BK162.out 0).trans rfl, (blk_cell BK162.out 1).trans rfl, (blk_cell BK162.out 2).trans rfl, (blk_cell BK162.out 3).trans rfl, (blk_cell BK162.out 4).trans rfl, (blk_cell BK162.out 5).trans rfl, (blk_cell BK162.out 6).trans rfl, (blk_cell BK162.out 7).trans rfl, (blk_cell BK162.out 8).trans rfl⟩ (fun hHeld => ?_); refine with_tabW side_Meet.tab14 side_Meet.bits14 (fun HT_ HW_ => ?_)
       generalize w160.drew = w161 at BK157 BK158 BK159 BK160 BK162 BK176 HB hHeld ⊢
       refine pure_ (i := 0) (N := some 53) (v := ?_) (a' := ?_) (bm 15 1) rfl rfl (any_of HT_.out (by kernel_rfl)) (fun _ _ _ h => h) (Or.inl ⟨by rfl, ?_⟩) ?_ ?_
       rotate_left
       ·intro w'
        go_simp
        with_reducible rfl
       rotate_left
       ·simp only [Act.put, List.setIfInBounds_toArray, List.set_cons_zero, List.set_cons_succ, i64_w, i32_w]
        rfl
       refine pure_ (i := 1) (N := some 54) (v := ?_) (a' := ?_) (bm 15 3) rfl rfl (any_of HT_.out (by kernel_rfl)) (fun _ _ _ h => h) (Or.inl ⟨by rfl, ?_⟩) ?_ ?_
       rotate_left
       ·intro w'
        go_simp
        with_reducible rfl
       rotate_left
       ·simp only [Act.put, List.setIfInBounds_toArray, List.set_cons_zero, List.set_cons_succ, i64_w, i32_w]
        rfl
       refine pure_ (i := 2) (N := some 55) (v := ?_) (a' := ?_) (bm 15 7) rfl rfl (any_of HT_.out (by kernel_rfl)) (fun _ _ _ h => h) (Or.inl ⟨by rfl, ?_⟩) ?_ ?_
       rotate_left
       ·intro w'
        go_simp
        with_reducible rfl
       rotate_left
       ·simp only [Act.put, List.setIfInBounds_toArray, List.set_cons_zero, List.set_cons_succ, i64_w, i32_w]
        rfl
       refine pure_ (i := 6) (N := some 59) (v := ?_) (a' := ?_) (bm 15 71) rfl rfl (any_of HT_.out (by kernel_rfl)) (fun _ _ _ h => h) (Or.inl ⟨by rfl, ?_⟩) ?_ ?_
       rotate_left
       ·intro w'
        go_simp
        with_reducible rfl
       rotate_left
       ·simp only [Act.put, List.setIfInBounds_toArray, List.set_cons_zero, List.set_cons_succ, i64_w, i32_w]
        rfl
       refine pure_ (i := 7) (N := some 60) (v := ?_) (a' := ?_) (bm 15 199) rfl rfl (any_of HT_.out (by kernel_rfl)) (fun _ _ _ h => h) (Or.inl ⟨by rfl, ?_⟩) ?_ ?_
       rotate_left
       ·intro w'
        go_simp
        with_reducible rfl
       rotate_left
       ·simp only [Act.put, List.setIfInBounds_toArray, List.set_cons_zero, List.set_cons_succ, i64_w, i32_w]
        rfl
       refine pure_ (i := 8) (N := some 61) (v := ?_) (a' := ?_) (bm 15 455) rfl rfl (any_of HT_.out (by kernel_rfl)) (fun _ _ _ h => h) (Or.inl ⟨by rfl, ?_⟩) ?_ ?_
       rotate_left
       ·intro w'
        go_simp
        with_reducible rfl
       rotate_left
       ·simp only [Act.put, List.setIfInBounds_toArray, List.set_cons_zero, List.set_cons_succ, i64_w, i32_w]
        rfl
       refine pure_ (i := 9) (N := some 62) (v := ?_) (a' := ?_) (bm 15 967) rfl rfl (any_of HT_.out (by kernel_rfl)) (fun _ _ _ h => h) (Or.inl ⟨by rfl, ?_⟩) ?_ ?_
       rotate_left
       ·intro w'
        go_simp
        with_reducible rfl
       rotate_left
       ·simp only [Act.put, List.setIfInBounds_toArray, List.set_cons_zero, List.set_cons_succ, i64_w, i32_w]
        rfl
       refine pure_ (i := 12) (N := some 65) (v := ?_) (a' := ?_) (bm 15 5063) rfl rfl (any_of HT_.out (by kernel_rfl)) (fun _ _ _ h => h) (Or.inl ⟨by rfl, ?_⟩) ?_ ?_
       rotate_left
       ·intro w'
        go_simp
        with_reducible rfl
       rotate_left
       ·simp only [Act.put, List.setIfInBounds_toArray, List.set_cons_zero, List.set_cons_succ, i64_w, i32_w]
        rfl
       refine take_ (i := 3) (N := some 56) (v := ?_) (a' := ?_) (bm 15 5071) rfl rfl (take_ofW HT_.out HW_.out (by kernel_rfl)) (fun _ _ _ h => h) (Or.inl ⟨by rfl, ?_⟩) hHeld ?_ ?_
       rotate_left
       ·rintro w' ⟨s0, s1, s2, s3, s4, s5, s6, s7, s8, s9, s10, s11, s12, s13, s14, s15, s16, s17⟩
        go_simp
        with_reducible rfl
       rotate_left
       ·simp only [Act.put, List.setIfInBounds_toArray, List.set_cons_zero, List.set_cons_succ, i64_w, i32_w]
        rfl
       refine take_ (i := 4) (N := some 57) (v := ?_) (a' := ?_) (bm 15 5087) rfl rfl (take_ofW HT_.out HW_.out (by kernel_rfl)) (fun _ _ _ h => h) (Or.inl ⟨by rfl, ?_⟩) hHeld ?_ ?_
       rotate_left
       ·rintro w' ⟨s0, s1, s2, s3, s4, s5, s6, s7, s8, s9, s10, s11, s12, s13, s14, s15, s16, s17⟩
        go_simp
        with_reducible rfl
       rotate_left
       ·simp only [Act.put, List.setIfInBounds_toArray, List.set_cons_zero, List.set_cons_succ, i64_w, i32_w]
        rfl
       refine take_ (i := 5) (N := some 58) (v := ?_) (a' := ?_) (bm 15 5119) rfl rfl (take_ofW HT_.out HW_.out (by kernel_rfl)) (fun _ _ _ h => h) (Or.inl ⟨by rfl, ?_⟩) hHeld ?_ ?_
       rotate_left
       ·rintro w' ⟨s0, s1, s2, s3, s4, s5, s6, s7, s8, s9, s10, s11, s12, s13, s14, s15, s16, s17⟩
        go_simp
        with_reducible rfl
       rotate_left
       ·simp only [Act.put, List.setIfInBounds_toArray, List.set_cons_zero, List.set_cons_succ, i64_w, i32_w]
        rfl
       refine take_ (i := 10) (N := some 63) (v := ?_) (a' := ?_) (bm 15 6143) rfl rfl (take_ofW HT_.out HW_.out (by kernel_rfl)) (fun _ _ _ h => h) (Or.inl ⟨by rfl, ?_⟩) hHeld ?_ ?_
       rotate_left
       ·rintro w' ⟨s0, s1, s2, s3, s4, s5, s6, s7, s8, s9, s10, s11, s12, s13, s14, s15, s16, s17⟩
        go_simp
        with_reducible rfl
       rotate_left
       ·simp only [Act.put, List.setIfInBounds_toArray, List.set_cons_zero, List.set_cons_succ, i64_w, i32_w]
        rfl
       refine one_ (i := 11) (N := some 64) (bm 15 8191) rfl rfl (one_of HT_.out (by kernel_rfl)) (by decide) (fun K hK => ?_)
       refine goes_ Try.func15 (by kernel_rfl) rfl #[.agg #[.int .i64 a0_0, .int .i64 a0_1, .int .i64 a0_2], .agg #[.int .i64 a1_0, .int .i64 a1_1, .int .i64 a1_2], .agg #[.int .i64 a2_3, .int .i64 a2_4, .int .i64 a2_5], .agg #[.int .i64 a2_6, .int .i64 a2_7, .int .i64 a2_8]] (by rfl) rfl rfl (by (try simp only [List.map_toArray, List.map_cons, List.map_nil]); first | done | rfl | (simp only [List.length_drop, List.length_take]; rfl)) ?_
       with_reducible refine (side_pass.calls kj124 a0_0 a0_1 a0_2 a1_0 a1_1 a1_2 a2_3 a2_4 a2_5 a2_6 a2_7 a2_8 t177 _ A159.out).mono ?_
       rintro e w162 ⟨rfl, hb⟩
       refine ⟨_, rfl, ?_⟩
       replace BK157 := cB hb BK157
       replace BK158 := cB hb BK158
       replace BK159 := cB hb BK159
       replace BK160 := cB hb BK160
       replace BK162 := cB hb BK162
       replace BK176 := cB hb BK176
       replace HB := Aside0.mk (below_step (HB.out) hb)
       (try clear hb)
       (try clear hb2)
       (try clear hk)
       (try clear hi)
       refine hK.out _ _ ⟨(blk_cell BK157.out 0).trans rfl, (blk_cell BK157.out 1).trans rfl, (blk_cell BK157.out 2).trans rfl, (blk_cell BK158.out 0).trans rfl, (blk_cell BK158.out 1).trans rfl, (blk_cell BK158.out 2).trans rfl, (blk_cell BK176.out 0).trans rfl, (blk_cell BK176.out 1).trans rfl, (blk_cell BK176.out 2).trans rfl, (blk_cell BK162.out 0).trans rfl, (blk_cell BK162.out 1).trans rfl, (blk_cell BK162.out 2).trans rfl, (blk_cell BK162.out 3).trans rfl, (blk_cell BK162.out 4).trans rfl, (blk_cell BK162.out 5).trans rfl, (blk_cell BK162.out 6).trans rfl, (blk_cell BK162.out 7).trans rfl, (blk_cell BK162.out 8).trans rfl⟩ (fun hHeld => ?_)
       clear hK K
       refine norm_ (a' := ?_) ?_ ?_
       rotate_left
       ·show Act.put _ (some 64) _ = _
        simp only [Act.put, List.setIfInBounds_toArray, List.set_cons_zero, List.set_cons_succ, i64_w, i32_w]
        rfl
       refine pure_ (i := 13) (N := some 66) (v := ?_) (a' := ?_) (bm 15 16383) rfl rfl (any_of HT_.out (by kernel_rfl)) (fun _ _ _ h => h) (Or.inl ⟨by rfl, ?_⟩) ?_ ?_
       rotate_left
       ·intro w'
        go_simp
        with_reducible rfl
       rotate_left
       ·simp only [Act.put, List.setIfInBounds_toArray, List.set_cons_zero, List.set_cons_succ, i64_w, i32_w]
        rfl
       refine pure_ (i := 14) (N := some 67) (v := ?_) (a' := ?_) (bm 15 32767) rfl rfl (any_of HT_.out (by kernel_rfl)) (fun _ _ _ h => h) (Or.inl ⟨by rfl, ?_⟩) ?_ ?_
       rotate_left
       ·intro w'
        go_simp
        with_reducible rfl
       rotate_left
       ·simp only [Act.put, List.setIfInBounds_toArray, List.set_cons_zero, List.set_cons_succ, i64_w, i32_w]
        rfl
       refine done_ (done_of HT_.out (by kernel_rfl)) ?_
       try go_wp2
       go_meet
       case rel => exact ⟨_, ((t177 != t173)), (by first | rfl | (simp; done) | (simp [*]; done)), H', ⟨by have := HJ4.out; have := HJ124.out; first | omega | exact Nat.le_refl _⟩, ⟨BK157.out⟩, ⟨BK158.out⟩, ⟨BK159.out⟩, ⟨BK160.out⟩, ⟨BK162.out⟩, ⟨BK176.out⟩, ⟨HB.out⟩⟩
      clear HC148
      try clear hcz155_0
      try clear hcz155_1
      try clear hcz155_2
      try clear hfz155_0
      try clear hfz155_1
      try clear hfz155_2
      obtain ⟨kq, x67_147, rfl, HA, HJ147, BK157, BK158, BK159, BK160, BK162, BK176, HB⟩ := hcut
      cases kq with
      | zero => exact absurd HA.out (by simp [side_Meet.j3])
      | succ kj147 =>
       have H := HA.out
       clear HA
       simp only [side_Meet.j3] at H
       by_cases c163 : x67_147 = true
       ·subst c163
        have H1 : (some (0, 0, false, 0, 0, false, 0)) = some (r1, r2, r3, r4, r5, r6, r7) := by rw [if_pos rfl] at H; exact H
        clear H
        have H := H1
        clear H1
        simp only [Option.some.injEq, Prod.mk.injEq] at H
        obtain ⟨rfl, rfl, rfl, rfl, rfl, rfl, rfl⟩ := H
        have hnb164 := NB160_157.out
        have hnc164 := NB157_160.out
        have hnb165 := NB160_158.out
        have hnc165 := NB158_160.out
        have hnb166 := NB160_159.out
        have hnc166 := NB159_160.out
        have hnb167 := NB160_162.out
        have hnc167 := NB162_160.out
        obtain ⟨hcz168_0, hcz168_1, hcz168_2, hcz168_3, hcz168_4⟩ := cells5 BK160.out
        have hfz168_0 := blk_frozen BK160.out 0
        have hfz168_1 := blk_frozen BK160.out 1
        have hfz168_2 := blk_frozen BK160.out 2
        have hfz168_3 := blk_frozen BK160.out 3
        have hfz168_4 := blk_frozen BK160.out 4
        go_wp2
        refine bodyPost_ret (results_ctt rfl _ _ gb160 33 #[.int .i64 0, .int .i64 0, .bool false, .int .i64 0, .int .i64 0] (0, 0) _ rfl ((blk_put (cs' := #[.int .i64 0, .int .i64 0, .bool false, .int .i64 0, .int .i64 0]) (blk_put (blk_put (blk_put (blk_put BK160.out 0 _ rfl) 1 _ rfl) 2 _ rfl) 3 _ rfl) 4 _ rfl)) Try.underlying33 rfl (by kernel_rfl)) rfl ?_
        exact ⟨by first | rfl | (simp [errW_none, errW_some] <;> rfl) | (simp [*, errW_none, errW_some] <;> rfl), (below_set (below_set (below_set (below_set (below_set HB.out GE160.out) GE160.out) GE160.out) GE160.out) GE160.out)⟩
       replace c163 := Bool.eq_false_iff.mpr c163
       subst c163
       have H1 : (side_Meet.j4 kj147 t173 a0_0 a0_1 a0_2 a1_0 a1_1 a1_2 a2_0 a2_1 a2_2 a2_3 a2_4 a2_5 a2_6 a2_7 a2_8 a2_0 a2_1 a2_2 a2_3 a2_4 a2_5 a2_6 a2_7 a2_8) = some (r1, r2, r3, r4, r5, r6, r7) := by rw [if_neg (show ¬ (false = true) by decide)] at H; exact H
       clear H
       have H := H1
       clear H1
       have H' := Aside0.mk H
       clear H
       go_wp2
       go_meet
       case rel => exact ⟨_, (x161000_124), (x161001_124), (x161002_124), (x161003_124), (x161004_124), H', ⟨by have := HJ4.out; have := HJ124.out; have := HJ147.out; first | omega | exact Nat.le_refl _⟩, ⟨BK157.out⟩, ⟨BK158.out⟩, ⟨BK159.out⟩, ⟨BK160.out⟩, ⟨BK162.out⟩, ⟨HB.out⟩⟩
     clear HC147
     obtain ⟨kq, x161000_146, x161001_146, x161002_146, x161003_146, x161004_146, HA, HJ146, BK157, BK158, BK159, BK160, BK162, HB⟩ := hcut
     cases kq with
     | zero => exact absurd HA.out (by simp [side_Meet.j4])
     | succ kj146 =>
      have H := HA.out
      clear HA
      simp only [side_Meet.j4] at H
      have HC169 := Aside0.mk H
      clear H
      try go_wp2
      rw [rounds_succ]
      go_upto_block 3 with (fail)
      go_cut [] (fun wc => ∃ (kq : Nat) (x161000_168 : Int) (x161001_168 : Int) (x161002_168 : Bool) (x161003_168 : Int) (x161004_168 : Int), Aside0 (side_Meet.j6 kq t173 a0_0 a0_1 a0_2 a1_0 a1_1 a1_2 a2_0 a2_1 a2_2 a2_3 a2_4 a2_5 a2_6 a2_7 a2_8 = some (r1, r2, r3, r4, r5, r6, r7)) ∧ Aside0 (kq ≤ kj146) ∧ Aside0 (wc.heap[gb157]? = some (.cells #[.int .i64 a0_0, .int .i64 a0_1, .int .i64 a0_2] 23 (0, 0))) ∧ Aside0 (wc.heap[gb158]? = some (.cells #[.int .i64 a1_0, .int .i64 a1_1, .int .i64 a1_2] 23 (0, 0))) ∧ Aside0 (wc.heap[gb159]? = some (.cells #[.int .i64 a2_0, .int .i64 a2_1, .int .i64 a2_2, .int .i64 a2_3, .int .i64 a2_4, .int .i64 a2_5, .int .i64 a2_6, .int .i64 a2_7, .int .i64 a2_8] 25 (0, 0))) ∧ Aside0 (wc.heap[gb160]? = some (.cells #[.int .i64 x161000_168, .int .i64 x161001_168, .bool x161002_168, .int .i64 x161003_168, .int .i64 x161004_168] 33 (0, 0))) ∧ Aside0 (wc.heap[gb162]? = some (.cells #[.int .i64 a2_0, .int .i64 a2_1, .int .i64 a2_2, .int .i64 a2_3, .int .i64 a2_4, .int .i64 a2_5, .int .i64 a2_6, .int .i64 a2_7, .int .i64 a2_8] 43 (0, 0))) ∧ Aside0 (Below w.heap.size w wc))
      case first =>
       have H := HC169.out
       clear HC169
       have HC170 := Aside0.mk H
       clear H
       go_upto_region 14 with (first | ((with_reducible refine gate_dst (N := 15) rfl ?_); refine box_event ?hg (N := 15) ?hd (cs := #[.int .i64 0, .int .i64 0, .int .i64 0]) (t := 23) ?hr ?_; (case hd => rfl); (case hg => rfl); (case hr => first | (go_simp; done) | (go_simp; rfl)); intro gb178 hg w171 hbox hb; have BK178 := Aside0.mk (hbox); have GE178 := Aside0.mk (bG hg (HB.out)); have NB157_178 := cN hg BK157; have NB178_157 := cM hg BK157; have NB158_178 := cN hg BK158; have NB178_158 := cM hg BK158; have NB159_178 := cN hg BK159; have NB178_159 := cM hg BK159; have NB160_178 := cN hg BK160; have NB178_160 := cM hg BK160; have NB162_178 := cN hg BK162; have NB178_162 := cM hg BK162; replace BK157 := cB hb BK157; replace BK158 := cB hb BK158; replace BK159 := cB hb BK159; replace BK160 := cB hb BK160; replace BK162 := cB hb BK162; replace HB := Aside0.mk (below_step (HB.out) hb); clear hb hbox hg; have hnb172 := NB178_157.out; have hnc172 := NB157_178.out; have hnb173 := NB178_158.out; have hnc173 := NB158_178.out; have hnb174 := NB178_159.out; have hnc174 := NB159_178.out; have hnb175 := NB178_160.out; have hnc175 := NB160_178.out; have hnb176 := NB178_162.out; have hnc176 := NB162_178.out; obtain ⟨hcz177_0, hcz177_1, hcz177_2⟩ := cells3 BK178.out; have hfz177_0 := blk_frozen BK178.out 0; have hfz177_1 := blk_frozen BK178.out 1; have hfz177_2 := blk_frozen BK178.out 2))
       (try simp only [Act.put, List.setIfInBounds_toArray, List.set_cons_zero, List.set_cons_succ])
       go_cut [67] (fun v67 wc => ∃ (kq : Nat) (x67_169 : Bool), v67 = .bool x67_169 ∧ Aside0 (side_Meet.j5 kq t173 x67_169 a0_0 a0_1 a0_2 a1_0 a1_1 a1_2 a2_0 a2_1 a2_2 a2_3 a2_4 a2_5 a2_6 a2_7 a2_8 = some (r1, r2, r3, r4, r5, r6, r7)) ∧ Aside0 (kq ≤ kj146) ∧ Aside0 (wc.heap[gb157]? = some (.cells #[.int .i64 a0_0, .int .i64 a0_1, .int .i64 a0_2] 23 (0, 0))) ∧ Aside0 (wc.heap[gb158]? = some (.cells #[.int .i64 a1_0, .int .i64 a1_1, .int .i64 a1_2] 23 (0, 0))) ∧ Aside0 (wc.heap[gb159]? = some (.cells #[.int .i64 a2_0, .int .i64 a2_1, .int .i64 a2_2, .int .i64 a2_3, .int .i64 a2_4, .int .i64 a2_5, .int .i64 a2_6, .int .i64 a2_7, .int .i64 a2_8] 25 (0, 0))) ∧ Aside0 (wc.heap[gb160]? = some (.cells #[.int .i64 x161000_146, .int .i64 x161001_146, .bool x161002_146, .int .i64 x161003_146, .int .i64 x161004_146] 33 (0, 0))) ∧ Aside0 (wc.heap[gb162]? = some (.cells #[.int .i64 a2_0, .int .i64 a2_1, .int .i64 a2_2, .int .i64 a2_3, .int .i64 a2_4, .int .i64 a2_5, .int .i64 a2_6, .int .i64 a2_7, .int .i64 a2_8] 43 (0, 0))) ∧ Aside0 (wc.heap[gb178]? = some (.cells #[.int .i64 a2_6, .int .i64 a2_7, .int .i64 a2_8] 23 (0, 0))) ∧ Aside0 (Below w.heap.size w wc))
       case first =>
        have H := HC170.out
        clear HC170
        by_cases c178 : t173 = 0
        ·rw [if_pos c178] at H
         have c178b0 : (t173 == 0) = true := beq_iff_eq.mpr c178
         have c178b1 : (t173 != 0) = false := bne_eq_false_iff_eq.mpr c178
         clear c178
         (first | rw [c178b0] | (simp only [i64_w, i32_w]; rw [c178b0]) | skip)
         have H' := Aside0.mk H
         clear H
         try go_wp2
         generalize hw_ : (((w171.setCell ⟨gb178, 0, none⟩ (.int .i64 a2_6)).setCell ⟨gb178, 1, none⟩ (.int .i64 a2_7)).setCell ⟨gb178, 2, none⟩ (.int .i64 a2_8)) = w179
         replace BK157 := Aside0.mk (bF hw_ (blk_far (blk_far (blk_far BK157.out NB157_178.out _) NB157_178.out _) NB157_178.out _))
         replace BK158 := Aside0.mk (bF hw_ (blk_far (blk_far (blk_far BK158.out NB158_178.out _) NB158_178.out _) NB158_178.out _))
         replace BK159 := Aside0.mk (bF hw_ (blk_far (blk_far (blk_far BK159.out NB159_178.out _) NB159_178.out _) NB159_178.out _))
         replace BK160 := Aside0.mk (bF hw_ (blk_far (blk_far (blk_far BK160.out NB160_178.out _) NB160_178.out _) NB160_178.out _))
         replace BK162 := Aside0.mk (bF hw_ (blk_far (blk_far (blk_far BK162.out NB162_178.out _) NB162_178.out _) NB162_178.out _))
         replace BK178 := Aside0.mk (bF hw_ (blk_put (cs' := #[.int .i64 a2_6, .int .i64 a2_7, .int .i64 a2_8]) (blk_put (blk_put BK178.out 0 _ rfl) 1 _ rfl) 2 _ rfl))
         replace HB := Aside0.mk (bH hw_ (below_set (below_set (below_set HB.out GE178.out) GE178.out) GE178.out))
         clear hw_
         replace BK157 := Aside0.mk (blk_drew BK157.out)
         replace BK158 := Aside0.mk (blk_drew BK158.out)
         replace BK159 := Aside0.mk (blk_drew BK159.out)
         replace BK160 := Aside0.mk (blk_drew BK160.out)
         replace BK162 := Aside0.mk (blk_drew BK162.out)
         replace BK178 := Aside0.mk (blk_drew BK178.out)
         replace HB := Aside0.mk (below_drew1 HB.out)
         refine start_ (n := 15) (S := fun w' => True) (ds := []) #[false, false, false, false, false, false, false, false, false, false, false, false, false, false, false] (by kernel_rfl) rfl rfl trivial (fun hHeld => ?_); refine with_tabW side_Meet.tab14 side_Meet.bits14 (fun HT_ HW_ => ?_)
         generalize w179.drew = w180 at BK157 BK158 BK159 BK160 BK162 BK178 HB hHeld ⊢
         refine pure_ (i := 0) (N := some 53) (v := ?_) (a' := ?_) (bm 15 1) rfl rfl (any_of HT_.out (by kernel_rfl)) (fun _ _ _ h => h) (Or.inl ⟨by rfl, ?_⟩) ?_ ?_
         rotate_left
         ·intro w'
          go_simp
          with_reducible rfl
         rotate_left
         ·simp only [Act.put, List.setIfInBounds_toArray, List.set_cons_zero, List.set_cons_succ, i64_w, i32_w]
          rfl
         refine pure_ (i := 1) (N := some 54) (v := ?_) (a' := ?_) (bm 15 3) rfl rfl (any_of HT_.out (by kernel_rfl)) (fun _ _ _ h => h) (Or.inl ⟨by rfl, ?_⟩) ?_ ?_
         rotate_left
         ·intro w'
          go_simp
          with_reducible rfl
         rotate_left
         ·simp only [Act.put, List.setIfInBounds_toArray, List.set_cons_zero, List.set_cons_succ, i64_w, i32_w]
          rfl
         refine pure_ (i := 2) (N := some 55) (v := ?_) (a' := ?_) (bm 15 7) rfl rfl (any_of HT_.out (by kernel_rfl)) (fun _ _ _ h => h) (Or.inl ⟨by rfl, ?_⟩) ?_ ?_
         rotate_left
         ·intro w'
          go_simp
          with_reducible rfl
         rotate_left
         ·simp only [Act.put, List.setIfInBounds_toArray, List.set_cons_zero, List.set_cons_succ, i64_w, i32_w]
          rfl
         refine pure_ (i := 3) (N := some 56) (v := undef) (a' := ?_) (bm 15 15) rfl rfl (any_of HT_.out (by kernel_rfl)) (fun _ _ _ h => h) (Or.inr ⟨by rfl, rfl⟩) ?_ ?_
         rotate_left
         ·simp only [Act.put, List.setIfInBounds_toArray, List.set_cons_zero, List.set_cons_succ, i64_w, i32_w]
          rfl
         refine pure_ (i := 4) (N := some 57) (v := undef) (a' := ?_) (bm 15 31) rfl rfl (any_of HT_.out (by kernel_rfl)) (fun _ _ _ h => h) (Or.inr ⟨by rfl, rfl⟩) ?_ ?_
         rotate_left
         ·simp only [Act.put, List.setIfInBounds_toArray, List.set_cons_zero, List.set_cons_succ, i64_w, i32_w]
          rfl
         refine pure_ (i := 5) (N := some 58) (v := undef) (a' := ?_) (bm 15 63) rfl rfl (any_of HT_.out (by kernel_rfl)) (fun _ _ _ h => h) (Or.inr ⟨by rfl, rfl⟩) ?_ ?_
         rotate_left
         ·simp only [Act.put, List.setIfInBounds_toArray, List.set_cons_zero, List.set_cons_succ, i64_w, i32_w]
          rfl
         refine pure_ (i := 6) (N := some 59) (v := undef) (a' := ?_) (bm 15 127) rfl rfl (any_of HT_.out (by kernel_rfl)) (fun _ _ _ h => h) (Or.inr ⟨by rfl, rfl⟩) ?_ ?_
         rotate_left
         ·simp only [Act.put, List.setIfInBounds_toArray, List.set_cons_zero, List.set_cons_succ, i64_w, i32_w]
          rfl
         refine pure_ (i := 7) (N := some 60) (v := undef) (a' := ?_) (bm 15 255) rfl rfl (any_of HT_.out (by kernel_rfl)) (fun _ _ _ h => h) (Or.inr ⟨by rfl, rfl⟩) ?_ ?_
         rotate_left
         ·simp only [Act.put, List.setIfInBounds_toArray, List.set_cons_zero, List.set_cons_succ, i64_w, i32_w]
          rfl
         refine pure_ (i := 8) (N := some 61) (v := undef) (a' := ?_) (bm 15 511) rfl rfl (any_of HT_.out (by kernel_rfl)) (fun _ _ _ h => h) (Or.inr ⟨by rfl, rfl⟩) ?_ ?_
         rotate_left
         ·simp only [Act.put, List.setIfInBounds_toArray, List.set_cons_zero, List.set_cons_succ, i64_w, i32_w]
          rfl
         refine pure_ (i := 9) (N := some 62) (v := undef) (a' := ?_) (bm 15 1023) rfl rfl (any_of HT_.out (by kernel_rfl)) (fun _ _ _ h => h) (Or.inr ⟨by rfl, rfl⟩) ?_ ?_
         rotate_left
         ·simp only [Act.put, List.setIfInBounds_toArray, List.set_cons_zero, List.set_cons_succ, i64_w, i32_w]
          rfl
         refine pure_ (i := 10) (N := some 63) (v := undef) (a' := ?_) (bm 15 2047) rfl rfl (any_of HT_.out (by kernel_rfl)) (fun _ _ _ h => h) (Or.inr ⟨by rfl, rfl⟩) ?_ ?_
         rotate_left
         ·simp only [Act.put, List.setIfInBounds_toArray, List.set_cons_zero, List.set_cons_succ, i64_w, i32_w]
          rfl
         refine pure_ (i := 11) (N := some 64) (v := undef) (a' := ?_) (bm 15 4095) rfl rfl (any_of HT_.out (by kernel_rfl)) (fun _ _ _ h => h) (Or.inr ⟨by rfl, rfl⟩) ?_ ?_
         rotate_left
         ·simp only [Act.put, List.setIfInBounds_toArray, List.set_cons_zero, List.set_cons_succ, i64_w, i32_w]
          rfl
         refine pure_ (i := 12) (N := some 65) (v := undef) (a' := ?_) (bm 15 8191) rfl rfl (any_of HT_.out (by kernel_rfl)) (fun _ _ _ h => h) (Or.inr ⟨by rfl, rfl⟩) ?_ ?_
         rotate_left
         ·simp only [Act.put, List.setIfInBounds_toArray, List.set_cons_zero, List.set_cons_succ, i64_w, i32_w]
          rfl
         refine pure_ (i := 13) (N := some 66) (v := undef) (a' := ?_) (bm 15 16383) rfl rfl (any_of HT_.out (by kernel_rfl)) (fun _ _ _ h => h) (Or.inr ⟨by rfl, rfl⟩) ?_ ?_
         rotate_left
         ·simp only [Act.put, List.setIfInBounds_toArray, List.set_cons_zero, List.set_cons_succ, i64_w, i32_w]
          rfl
         refine pure_ (i := 14) (N := some 67) (v := ?_) (a' := ?_) (bm 15 32767) rfl rfl (any_of HT_.out (by kernel_rfl)) (fun _ _ _ h => h) (Or.inl ⟨by rfl, ?_⟩) ?_ ?_
         rotate_left
         ·intro w'
          go_simp
          with_reducible rfl
         rotate_left
         ·simp only [Act.put, List.setIfInBounds_toArray, List.set_cons_zero, List.set_cons_succ, i64_w, i32_w]
          rfl
         refine done_ (done_of HT_.out (by kernel_rfl)) ?_
         try go_wp2
         go_meet
         case rel => exact ⟨_, (true), (by first | rfl | (simp; done) | (simp [*]; done)), H', ⟨by have := HJ4.out; have := HJ124.out; have := HJ146.out; first | omega | exact Nat.le_refl _⟩, ⟨BK157.out⟩, ⟨BK158.out⟩, ⟨BK159.out⟩, ⟨BK160.out⟩, ⟨BK162.out⟩, ⟨BK178.out⟩, ⟨HB.out⟩⟩
        rw [if_neg c178] at H
        have c178b0 : (t173 == 0) = false := beq_eq_false_iff_ne.mpr c178
        have c178b1 : (t173 != 0) = true := bne_iff_ne.mpr c178
        (first | rw [c178b0] | (simp only [i64_w, i32_w]; rw [c178b0]) | skip)
        replace H := Option.bind_eq_some_iff.mp H
        obtain ⟨t179, A1810, H⟩ := H
        replace H : (side_Meet.j5 kj146 t173 (t179 != t173) a0_0 a0_1 a0_2 a1_0 a1_1 a1_2 a2_0 a2_1 a2_2 a2_3 a2_4 a2_5 a2_6 a2_7 a2_8) = some (r1, r2, r3, r4, r5, r6, r7) := H
        have A181 := Aside0.mk A1810
        clear A1810
        have H' := Aside0.mk H
        clear H
        try go_wp2
        generalize hw_ : (((w171.setCell ⟨gb178, 0, none⟩ (.int .i64 a2_6)).setCell ⟨gb178, 1, none⟩ (.int .i64 a2_7)).setCell ⟨gb178, 2, none⟩ (.int .i64 a2_8)) = w182
        replace BK157 := Aside0.mk (bF hw_ (blk_far (blk_far (blk_far BK157.out NB157_178.out _) NB157_178.out _) NB157_178.out _))
        replace BK158 := Aside0.mk (bF hw_ (blk_far (blk_far (blk_far BK158.out NB158_178.out _) NB158_178.out _) NB158_178.out _))
        replace BK159 := Aside0.mk (bF hw_ (blk_far (blk_far (blk_far BK159.out NB159_178.out _) NB159_178.out _) NB159_178.out _))
        replace BK160 := Aside0.mk (bF hw_ (blk_far (blk_far (blk_far BK160.out NB160_178.out _) NB160_178.out _) NB160_178.out _))
        replace BK162 := Aside0.mk (bF hw_ (blk_far (blk_far (blk_far BK162.out NB162_178.out _) NB162_178.out _) NB162_178.out _))
        replace BK178 := Aside0.mk (bF hw_ (blk_put (cs' := #[.int .i64 a2_6, .int .i64 a2_7, .int .i64 a2_8]) (blk_put (blk_put BK178.out 0 _ rfl) 1 _ rfl) 2 _ rfl))
        replace HB := Aside0.mk (bH hw_ (below_set (below_set (below_set HB.out GE178.out) GE178.out) GE178.out))
        clear hw_
        replace BK157 := Aside0.mk (blk_drew BK157.out)
        replace BK158 := Aside0.mk (blk_drew BK158.out)
        replace BK159 := Aside0.mk (blk_drew BK159.out)
        replace BK160 := Aside0.mk (blk_drew BK160.out)
        replace BK162 := Aside0.mk (blk_drew BK162.out)
        replace BK178 := Aside0.mk (blk_drew BK178.out)
        replace HB := Aside0.mk (below_drew1 HB.out)
        refine start_ (n := 15) (S := fun w' => w'.cell? ⟨gb157, 0, none⟩ = some (.int .i64 a0_0) ∧ w'.cell? ⟨gb157, 1, none⟩ = some (.int .i64 a0_1) ∧ w'.cell? ⟨gb157, 2, none⟩ = some (.int .i64 a0_2) ∧ w'.cell? ⟨gb158, 0, none⟩ = some (.int .i64 a1_0) ∧ w'.cell? ⟨gb158, 1, none⟩ = some (.int .i64 a1_1) ∧ w'.cell? ⟨gb158, 2, none⟩ = some (.int .i64 a1_2) ∧ w'.cell? ⟨gb178, 0, none⟩ = some (.int .i64 a2_6) ∧ w'.cell? ⟨gb178, 1, none⟩ = some (.int .i64 a2_7) ∧ w'.cell? ⟨gb178, 2, none⟩ = some (.int .i64 a2_8) ∧ w'.cell? ⟨gb162, 0, none⟩ = some (.int .i64 a2_0) ∧ w'.cell? ⟨gb162, 1, none⟩ = some (.int .i64 a2_1) ∧ w'.cell? ⟨gb162, 2, none⟩ = some (.int .i64 a2_2) ∧ w'.cell? ⟨gb162, 3, none⟩ = some (.int .i64 a2_3) ∧ w'.cell? ⟨gb162, 4, none⟩ = some (.int .i64 a2_4) ∧ w'.cell? ⟨gb162, 5, none⟩ = some (.int .i64 a2_5) ∧ w'.cell? ⟨gb162, 6, none⟩ = some (.int .i64 a2_6) ∧ w'.cell? ⟨gb162, 7, none⟩ = some (.int .i64 a2_7) ∧ w'.cell? ⟨gb162, 8, none⟩ = some (.int .i64 a2_8)) (ds := []) #[false, false, false, false, false, false, false, false, false, false, false, false, false, false, false] (by kernel_rfl) rfl rfl ⟨(blk_cell BK157.out 0).trans rfl, (blk_cell BK157.out 1).trans rfl, (blk_cell BK157.out 2).trans rfl, (blk_cell BK158.out 0).trans rfl, (blk_cell BK158.out 1).trans rfl, (blk_cell BK158.out 2).trans rfl, (blk_cell BK178.out 0).trans rfl, (blk_cell BK178.out 1).trans rfl, (blk_cell BK178.out 2).trans rfl, (blk_cell BK162.out 0).trans rfl, (blk_cell BK162.out 1).trans rfl, (blk_cell BK162.out 2).trans rfl, (blk_cell BK162.out 3).trans rfl, (blk_cell BK162.out 4).trans rfl, (blk_cell BK162.out 5).trans rfl, (blk_cell BK162.out 6).trans rfl, (blk_cell BK162.out 7).trans rfl, (blk_cell BK162.out 8).trans rfl⟩ (fun hHeld => ?_); refine with_tabW side_Meet.tab14 side_Meet.bits14 (fun HT_ HW_ => ?_)
        generalize w182.drew = w183 at BK157 BK158 BK159 BK160 BK162 BK178 HB hHeld ⊢
        refine pure_ (i := 0) (N := some 53) (v := ?_) (a' := ?_) (bm 15 1) rfl rfl (any_of HT_.out (by kernel_rfl)) (fun _ _ _ h => h) (Or.inl ⟨by rfl, ?_⟩) ?_ ?_
        rotate_left
        ·intro w'
         go_simp
         with_reducible rfl
        rotate_left
        ·simp only [Act.put, List.setIfInBounds_toArray, List.set_cons_zero, List.set_cons_succ, i64_w, i32_w]
         rfl
        refine pure_ (i := 1) (N := some 54) (v := ?_) (a' := ?_) (bm 15 3) rfl rfl (any_of HT_.out (by kernel_rfl)) (fun _ _ _ h => h) (Or.inl ⟨by rfl, ?_⟩) ?_ ?_
        rotate_left
        ·intro w'
         go_simp
         with_reducible rfl
        rotate_left
        ·simp only [Act.put, List.setIfInBounds_toArray, List.set_cons_zero, List.set_cons_succ, i64_w, i32_w]
         rfl
        refine pure_ (i := 2) (N := some 55) (v := ?_) (a' := ?_) (bm 15 7) rfl rfl (any_of HT_.out (by kernel_rfl)) (fun _ _ _ h => h) (Or.inl ⟨by rfl, ?_⟩) ?_ ?_
        rotate_left
        ·intro w'
         go_simp
         with_reducible rfl
        rotate_left
        ·simp only [Act.put, List.setIfInBounds_toArray, List.set_cons_zero, List.set_cons_succ, i64_w, i32_w]
         rfl
        refine pure_ (i := 6) (N := some 59) (v := ?_) (a' := ?_) (bm 15 71) rfl rfl (any_of HT_.out (by kernel_rfl)) (fun _ _ _ h => h) (Or.inl ⟨by rfl, ?_⟩) ?_ ?_
        rotate_left
        ·intro w'
         go_simp
         with_reducible rfl
        rotate_left
        ·simp only [Act.put, List.setIfInBounds_toArray, List.set_cons_zero, List.set_cons_succ, i64_w, i32_w]
         rfl
        refine pure_ (i := 7) (N := some 60) (v := ?_) (a' := ?_) (bm 15 199) rfl rfl (any_of HT_.out (by kernel_rfl)) (fun _ _ _ h => h) (Or.inl ⟨by rfl, ?_⟩) ?_ ?_
        rotate_left
        ·intro w'
         go_simp
         with_reducible rfl
        rotate_left
        ·simp only [Act.put, List.setIfInBounds_toArray, List.set_cons_zero, List.set_cons_succ, i64_w, i32_w]
         rfl
        refine pure_ (i := 8) (N := some 61) (v := ?_) (a' := ?_) (bm 15 455) rfl rfl (any_of HT_.out (by kernel_rfl)) (fun _ _ _ h => h) (Or.inl ⟨by rfl, ?_⟩) ?_ ?_
        rotate_left
        ·intro w'
         go_simp
         with_reducible rfl
        rotate_left
        ·simp only [Act.put, List.setIfInBounds_toArray, List.set_cons_zero, List.set_cons_succ, i64_w, i32_w]
         rfl
        refine pure_ (i := 9) (N := some 62) (v := ?_) (a' := ?_) (bm 15 967) rfl rfl (any_of HT_.out (by kernel_rfl)) (fun _ _ _ h => h) (Or.inl ⟨by rfl, ?_⟩) ?_ ?_
        rotate_left
        ·intro w'
         go_simp
         with_reducible rfl
        rotate_left
        ·simp only [Act.put, List.setIfInBounds_toArray, List.set_cons_zero, List.set_cons_succ, i64_w, i32_w]
         rfl
        refine pure_ (i := 12) (N := some 65) (v := ?_) (a' := ?_) (bm 15 5063) rfl rfl (any_of HT_.out (by kernel_rfl)) (fun _ _ _ h => h) (Or.inl ⟨by rfl, ?_⟩) ?_ ?_
        rotate_left
        ·intro w'
         go_simp
         with_reducible rfl
        rotate_left
        ·simp only [Act.put, List.setIfInBounds_toArray, List.set_cons_zero, List.set_cons_succ, i64_w, i32_w]
         rfl
        refine take_ (i := 3) (N := some 56) (v := ?_) (a' := ?_) (bm 15 5071) rfl rfl (take_ofW HT_.out HW_.out (by kernel_rfl)) (fun _ _ _ h => h) (Or.inl ⟨by rfl, ?_⟩) hHeld ?_ ?_
        rotate_left
        ·rintro w' ⟨s0, s1, s2, s3, s4, s5, s6, s7, s8, s9, s10, s11, s12, s13, s14, s15, s16, s17⟩
         go_simp
         with_reducible rfl
        rotate_left
        ·simp only [Act.put, List.setIfInBounds_toArray, List.set_cons_zero, List.set_cons_succ, i64_w, i32_w]
         rfl
        refine take_ (i := 4) (N := some 57) (v := ?_) (a' := ?_) (bm 15 5087) rfl rfl (take_ofW HT_.out HW_.out (by kernel_rfl)) (fun _ _ _ h => h) (Or.inl ⟨by rfl, ?_⟩) hHeld ?_ ?_
        rotate_left
        ·rintro w' ⟨s0, s1, s2, s3, s4, s5, s6, s7, s8, s9, s10, s11, s12, s13, s14, s15, s16, s17⟩
         go_simp
         with_reducible rfl
        rotate_left
        ·simp only [Act.put, List.setIfInBounds_toArray, List.set_cons_zero, List.set_cons_succ, i64_w, i32_w]
         rfl
        refine take_ (i := 5) (N := some 58) (v := ?_) (a' := ?_) (bm 15 5119) rfl rfl (take_ofW HT_.out HW_.out (by kernel_rfl)) (fun _ _ _ h => h) (Or.inl ⟨by rfl, ?_⟩) hHeld ?_ ?_
        rotate_left
        ·rintro w' ⟨s0, s1, s2, s3, s4, s5, s6, s7, s8, s9, s10, s11, s12, s13, s14, s15, s16, s17⟩
         go_simp
         with_reducible rfl
        rotate_left
        ·simp only [Act.put, List.setIfInBounds_toArray, List.set_cons_zero, List.set_cons_succ, i64_w, i32_w]
         rfl
        refine take_ (i := 10) (N := some 63) (v := ?_) (a' := ?_) (bm 15 6143) rfl rfl (take_ofW HT_.out HW_.out (by kernel_rfl)) (fun _ _ _ h => h) (Or.inl ⟨by rfl, ?_⟩) hHeld ?_ ?_
        rotate_left
        ·rintro w' ⟨s0, s1, s2, s3, s4, s5, s6, s7, s8, s9, s10, s11, s12, s13, s14, s15, s16, s17⟩
         go_simp
         with_reducible rfl
        rotate_left
        ·simp only [Act.put, List.setIfInBounds_toArray, List.set_cons_zero, List.set_cons_succ, i64_w, i32_w]
         rfl
        refine one_ (i := 11) (N := some 64) (bm 15 8191) rfl rfl (one_of HT_.out (by kernel_rfl)) (by decide) (fun K hK => ?_)
        refine goes_ Try.func15 (by kernel_rfl) rfl #[.agg #[.int .i64 a0_0, .int .i64 a0_1, .int .i64 a0_2], .agg #[.int .i64 a1_0, .int .i64 a1_1, .int .i64 a1_2], .agg #[.int .i64 a2_6, .int .i64 a2_7, .int .i64 a2_8], .agg #[.int .i64 a2_0, .int .i64 a2_1, .int .i64 a2_2]] (by rfl) rfl rfl (by (try simp only [List.map_toArray, List.map_cons, List.map_nil]); first | done | rfl | (simp only [List.length_drop, List.length_take]; rfl)) ?_
        with_reducible refine (side_pass.calls kj146 a0_0 a0_1 a0_2 a1_0 a1_1 a1_2 a2_6 a2_7 a2_8 a2_0 a2_1 a2_2 t179 _ A181.out).mono ?_
        rintro e w184 ⟨rfl, hb⟩
        refine ⟨_, rfl, ?_⟩
        replace BK157 := cB hb BK157
        replace BK158 := cB hb BK158
        replace BK159 := cB hb BK159
        replace BK160 := cB hb BK160
        replace BK162 := cB hb BK162
        replace BK178 := cB hb BK178
        replace HB := Aside0.mk (below_step (HB.out) hb)
        (try clear hb)
        (try clear hb2)
        (try clear hk)
        (try clear hi)
        refine hK.out _ _ ⟨(blk_cell BK157.out 0).trans rfl, (blk_cell BK157.out 1).trans rfl, (blk_cell BK157.out 2).trans rfl, (blk_cell BK158.out 0).trans rfl, (blk_cell BK158.out 1).trans rfl, (blk_cell BK158.out 2).trans rfl, (blk_cell BK178.out 0).trans rfl, (blk_cell BK178.out 1).trans rfl, (blk_cell BK178.out 2).trans rfl, (blk_cell BK162.out 0).trans rfl, (blk_cell BK162.out 1).trans rfl, (blk_cell BK162.out 2).trans rfl, (blk_cell BK162.out 3).trans rfl, (blk_cell BK162.out 4).trans rfl, (blk_cell BK162.out 5).trans rfl, (blk_cell BK162.out 6).trans rfl, (blk_cell BK162.out 7).trans rfl, (blk_cell BK162.out 8).trans rfl⟩ (fun hHeld => ?_)
        clear hK K
        refine norm_ (a' := ?_) ?_ ?_
        rotate_left
        ·show Act.put _ (some 64) _ = _
         simp only [Act.put, List.setIfInBounds_toArray, List.set_cons_zero, List.set_cons_succ, i64_w, i32_w]
         rfl
        refine pure_ (i := 13) (N := some 66) (v := ?_) (a' := ?_) (bm 15 16383) rfl rfl (any_of HT_.out (by kernel_rfl)) (fun _ _ _ h => h) (Or.inl ⟨by rfl, ?_⟩) ?_ ?_
        rotate_left
        ·intro w'
         go_simp
         with_reducible rfl
        rotate_left
        ·simp only [Act.put, List.setIfInBounds_toArray, List.set_cons_zero, List.set_cons_succ, i64_w, i32_w]
         rfl
        refine pure_ (i := 14) (N := some 67) (v := ?_) (a' := ?_) (bm 15 32767) rfl rfl (any_of HT_.out (by kernel_rfl)) (fun _ _ _ h => h) (Or.inl ⟨by rfl, ?_⟩) ?_ ?_
        rotate_left
        ·intro w'
         go_simp
         with_reducible rfl
        rotate_left
        ·simp only [Act.put, List.setIfInBounds_toArray, List.set_cons_zero, List.set_cons_succ, i64_w, i32_w]
         rfl
        refine done_ (done_of HT_.out (by kernel_rfl)) ?_
        try go_wp2
        go_meet
        case rel => exact ⟨_, ((t179 != t173)), (by first | rfl | (simp; done) | (simp [*]; done)), H', ⟨by have := HJ4.out; have := HJ124.out; have := HJ146.out; first | omega | exact Nat.le_refl _⟩, ⟨BK157.out⟩, ⟨BK158.out⟩, ⟨BK159.out⟩, ⟨BK160.out⟩, ⟨BK162.out⟩, ⟨BK178.out⟩, ⟨HB.out⟩⟩
       clear HC170
       try clear hcz177_0
       try clear hcz177_1
       try clear hcz177_2
       try clear hfz177_0
       try clear hfz177_1
       try clear hfz177_2
       obtain ⟨kq, x67_169, rfl, HA, HJ169, BK157, BK158, BK159, BK160, BK162, BK178, HB⟩ := hcut
       cases kq with
       | zero => exact absurd HA.out (by simp [side_Meet.j5])
       | succ kj169 =>
        have H := HA.out
        clear HA
        simp only [side_Meet.j5] at H
        by_cases c185 : x67_169 = true
        ·subst c185
         have H1 : (some (0, 0, false, 0, 0, false, 0)) = some (r1, r2, r3, r4, r5, r6, r7) := by rw [if_pos rfl] at H; exact H
         clear H
         have H := H1
         clear H1
         simp only [Option.some.injEq, Prod.mk.injEq] at H
         obtain ⟨rfl, rfl, rfl, rfl, rfl, rfl, rfl⟩ := H
         have hnb186 := NB160_157.out
         have hnc186 := NB157_160.out
         have hnb187 := NB160_158.out
         have hnc187 := NB158_160.out
         have hnb188 := NB160_159.out
         have hnc188 := NB159_160.out
         have hnb189 := NB160_162.out
         have hnc189 := NB162_160.out
         obtain ⟨hcz190_0, hcz190_1, hcz190_2, hcz190_3, hcz190_4⟩ := cells5 BK160.out
         have hfz190_0 := blk_frozen BK160.out 0
         have hfz190_1 := blk_frozen BK160.out 1
         have hfz190_2 := blk_frozen BK160.out 2
         have hfz190_3 := blk_frozen BK160.out 3
         have hfz190_4 := blk_frozen BK160.out 4
         go_wp2
         refine bodyPost_ret (results_ctt rfl _ _ gb160 33 #[.int .i64 0, .int .i64 0, .bool false, .int .i64 0, .int .i64 0] (0, 0) _ rfl ((blk_put (cs' := #[.int .i64 0, .int .i64 0, .bool false, .int .i64 0, .int .i64 0]) (blk_put (blk_put (blk_put (blk_put BK160.out 0 _ rfl) 1 _ rfl) 2 _ rfl) 3 _ rfl) 4 _ rfl)) Try.underlying33 rfl (by kernel_rfl)) rfl ?_
         exact ⟨by first | rfl | (simp [errW_none, errW_some] <;> rfl) | (simp [*, errW_none, errW_some] <;> rfl), (below_set (below_set (below_set (below_set (below_set HB.out GE160.out) GE160.out) GE160.out) GE160.out) GE160.out)⟩
        replace c185 := Bool.eq_false_iff.mpr c185
        subst c185
        have H1 : (side_Meet.j6 kj169 t173 a0_0 a0_1 a0_2 a1_0 a1_1 a1_2 a2_0 a2_1 a2_2 a2_3 a2_4 a2_5 a2_6 a2_7 a2_8) = some (r1, r2, r3, r4, r5, r6, r7) := by rw [if_neg (show ¬ (false = true) by decide)] at H; exact H
        clear H
        have H := H1
        clear H1
        have H' := Aside0.mk H
        clear H
        go_wp2
        go_meet
        case rel => exact ⟨_, (x161000_146), (x161001_146), (x161002_146), (x161003_146), (x161004_146), H', ⟨by have := HJ4.out; have := HJ124.out; have := HJ146.out; have := HJ169.out; first | omega | exact Nat.le_refl _⟩, ⟨BK157.out⟩, ⟨BK158.out⟩, ⟨BK159.out⟩, ⟨BK160.out⟩, ⟨BK162.out⟩, ⟨HB.out⟩⟩
      clear HC169
      obtain ⟨kq, x161000_168, x161001_168, x161002_168, x161003_168, x161004_168, HA, HJ168, BK157, BK158, BK159, BK160, BK162, HB⟩ := hcut
      cases kq with
      | zero => exact absurd HA.out (by simp [side_Meet.j6])
      | succ kj168 =>
       have H := HA.out
       clear HA
       simp only [side_Meet.j6] at H
       have H' := Aside0.mk H
       clear H
       try go_wp2
       rw [rounds_succ]
       try go_wp2
       go_meet
       case rel => exact ⟨_, (x161000_168), (x161001_168), (x161002_168), (x161003_168), (x161004_168), H', ⟨by have := HJ4.out; have := HJ124.out; have := HJ146.out; have := HJ168.out; first | omega | exact Nat.le_refl _⟩, ⟨BK157.out⟩, ⟨BK158.out⟩, ⟨BK159.out⟩, ⟨BK160.out⟩, ⟨BK162.out⟩, ⟨HB.out⟩⟩
   clear HC119
   try clear c117
   try clear hcz120_0
   try clear hcz120_1
   try clear hcz120_2
   try clear hcz121_0
   try clear hcz121_1
   try clear hcz121_2
   try clear hcz122_0
   try clear hcz122_1
   try clear hcz122_2
   try clear hcz122_3
   try clear hcz122_4
   try clear hcz122_5
   try clear hcz122_6
   try clear hcz122_7
   try clear hcz122_8
   try clear hcz124_0
   try clear hcz124_1
   try clear hcz124_2
   try clear hcz124_3
   try clear hcz124_4
   try clear hcz124_5
   try clear hcz124_6
   try clear hcz124_7
   try clear hcz124_8
   obtain ⟨kq, x161000_118, x161001_118, x161002_118, x161003_118, x161004_118, HA, HJ118, BK157, BK158, BK159, BK160, BK162, HB⟩ := hcut
   cases kq with
   | zero => exact absurd HA.out (by simp [side_Meet.j7])
   | succ kj118 =>
    have H := HA.out
    clear HA
    simp only [side_Meet.j7] at H
    replace H := Option.bind_eq_some_iff.mp H
    obtain ⟨⟨t180, t181, t182⟩, A1910, H⟩ := H
    replace H : ((vec_Sub.f a2_0 a2_1 a2_2 a0_0 a0_1 a0_2).bind fun bt184 => ((vec_Dot.f t180 t181 t182 bt184.1 bt184.2.1 bt184.2.2).bind fun t187 => ((vec_Dot.f t180 t181 t182 a1_0 a1_1 a1_2).bind fun t188 => (if t188 = 0 then (some (0, 0, false, 0, 0, false, 0)) else (if t188 < 0 then (side_Meet.j8 kj118 t173 (wrap64 (-t187)) (wrap64 (-t188))) else (side_Meet.j8 kj118 t173 t187 t188)))))) = some (r1, r2, r3, r4, r5, r6, r7) := H
    have A191 := Aside0.mk A1910
    clear A1910
    replace H := Option.bind_eq_some_iff.mp H
    obtain ⟨⟨t184, t185, t186⟩, A1920, H⟩ := H
    replace H : ((vec_Dot.f t180 t181 t182 t184 t185 t186).bind fun t187 => ((vec_Dot.f t180 t181 t182 a1_0 a1_1 a1_2).bind fun t188 => (if t188 = 0 then (some (0, 0, false, 0, 0, false, 0)) else (if t188 < 0 then (side_Meet.j8 kj118 t173 (wrap64 (-t187)) (wrap64 (-t188))) else (side_Meet.j8 kj118 t173 t187 t188))))) = some (r1, r2, r3, r4, r5, r6, r7) := H
    have A192 := Aside0.mk A1920
    clear A1920
    replace H := Option.bind_eq_some_iff.mp H
    obtain ⟨t187, A1930, H⟩ := H
    replace H : ((vec_Dot.f t180 t181 t182 a1_0 a1_1 a1_2).bind fun t188 => (if t188 = 0 then (some (0, 0, false, 0, 0, false, 0)) else (if t188 < 0 then (side_Meet.j8 kj118 t173 (wrap64 (-t187)) (wrap64 (-t188))) else (side_Meet.j8 kj118 t173 t187 t188)))) = some (r1, r2, r3, r4, r5, r6, r7) := H
    have A193 := Aside0.mk A1930
    clear A1930
    replace H := Option.bind_eq_some_iff.mp H
    obtain ⟨t188, A1940, H⟩ := H
    replace H : (if t188 = 0 then (some (0, 0, false, 0, 0, false, 0)) else (if t188 < 0 then (side_Meet.j8 kj118 t173 (wrap64 (-t187)) (wrap64 (-t188))) else (side_Meet.j8 kj118 t173 t187 t188))) = some (r1, r2, r3, r4, r5, r6, r7) := H
    have A194 := Aside0.mk A1940
    clear A1940
    have HC195 := Aside0.mk H
    clear H
    obtain ⟨hcz196_0, hcz196_1, hcz196_2, hcz196_3, hcz196_4, hcz196_5, hcz196_6, hcz196_7, hcz196_8⟩ := cells9 BK159.out
    try go_wp2_with (first | ((with_reducible refine gate_callee (f := 11) rfl ?_); refine goesL_ (some 71) rfl rfl Try.func11 (by kernel_rfl) rfl #[.agg #[.int .i64 a2_0, .int .i64 a2_1, .int .i64 a2_2, .int .i64 a2_3, .int .i64 a2_4, .int .i64 a2_5, .int .i64 a2_6, .int .i64 a2_7, .int .i64 a2_8]] rfl (by (try simp only [List.map_toArray, List.map_cons, List.map_nil]); first | done | rfl | (simp only [List.length_drop, List.length_take]; rfl)) ?_; (with_reducible refine (side_Normal.calls a2_0 a2_1 a2_2 a2_3 a2_4 a2_5 a2_6 a2_7 a2_8 t180 t181 t182 _ A191.out).mono ?_); rintro e w197 ⟨rfl, hb⟩; refine ⟨_, rfl, ?_⟩; replace BK157 := cB hb BK157; replace BK158 := cB hb BK158; replace BK159 := cB hb BK159; replace BK160 := cB hb BK160; replace HB := Aside0.mk (below_step (HB.out) hb); (try clear hb); (try clear hb2); (try clear hk); (try clear hi)) | ((with_reducible refine gate_dst (N := 16) rfl ?_); refine box_event ?hg (N := 16) ?hd (cs := #[.int .i64 0, .int .i64 0, .int .i64 0]) (t := 23) ?hr ?_; (case hd => rfl); (case hg => rfl); (case hr => first | (go_simp; done) | (go_simp; rfl)); intro gb183 hg w198 hbox hb; have BK183 := Aside0.mk (hbox); have GE183 := Aside0.mk (bG hg (HB.out)); have NB157_183 := cN hg BK157; have NB183_157 := cM hg BK157; have NB158_183 := cN hg BK158; have NB183_158 := cM hg BK158; have NB159_183 := cN hg BK159; have NB183_159 := cM hg BK159; have NB160_183 := cN hg BK160; have NB183_160 := cM hg BK160; replace BK157 := cB hb BK157; replace BK158 := cB hb BK158; replace BK159 := cB hb BK159; replace BK160 := cB hb BK160; replace HB := Aside0.mk (below_step (HB.out) hb); clear hb hbox hg; have hnb199 := NB183_157.out; have hnc199 := NB157_183.out; have hnb200 := NB183_158.out; have hnc200 := NB158_183.out; have hnb201 := NB183_159.out; have hnc201 := NB159_183.out; have hnb202 := NB183_160.out; have hnc202 := NB160_183.out; obtain ⟨hcz203_0, hcz203_1, hcz203_2⟩ := cells3 BK183.out; have hfz203_0 := blk_frozen BK183.out 0; have hfz203_1 := blk_frozen BK183.out 1; have hfz203_2 := blk_frozen BK183.out 2))
    generalize hw_ : (((w198.setCell ⟨gb183, 0, none⟩ (.int .i64 t180)).setCell ⟨gb183, 1, none⟩ (.int .i64 t181)).setCell ⟨gb183, 2, none⟩ (.int .i64 t182)) = w204
    replace BK157 := Aside0.mk (bF hw_ (blk_far (blk_far (blk_far BK157.out NB157_183.out _) NB157_183.out _) NB157_183.out _))
    replace BK158 := Aside0.mk (bF hw_ (blk_far (blk_far (blk_far BK158.out NB158_183.out _) NB158_183.out _) NB158_183.out _))
    replace BK159 := Aside0.mk (bF hw_ (blk_far (blk_far (blk_far BK159.out NB159_183.out _) NB159_183.out _) NB159_183.out _))
    replace BK160 := Aside0.mk (bF hw_ (blk_far (blk_far (blk_far BK160.out NB160_183.out _) NB160_183.out _) NB160_183.out _))
    replace BK183 := Aside0.mk (bF hw_ (blk_put (cs' := #[.int .i64 t180, .int .i64 t181, .int .i64 t182]) (blk_put (blk_put BK183.out 0 _ rfl) 1 _ rfl) 2 _ rfl))
    replace HB := Aside0.mk (bH hw_ (below_set (below_set (below_set HB.out GE183.out) GE183.out) GE183.out))
    clear hw_
    replace BK157 := Aside0.mk (blk_drew BK157.out)
    replace BK158 := Aside0.mk (blk_drew BK158.out)
    replace BK159 := Aside0.mk (blk_drew BK159.out)
    replace BK160 := Aside0.mk (blk_drew BK160.out)
    replace BK183 := Aside0.mk (blk_drew BK183.out)
    replace HB := Aside0.mk (below_drew1 HB.out)
    refine start_ (n := 12) (S := fun w' => w'.cell? ⟨gb183, 0, none⟩ = some (.int .i64 t180) ∧ w'.cell? ⟨gb183, 1, none⟩ = some (.int .i64 t181) ∧ w'.cell? ⟨gb183, 2, none⟩ = some (.int .i64 t182) ∧ w'.cell? ⟨gb159, 0, none⟩ = some (.int .i64 a2_0) ∧ w'.cell? ⟨gb159, 1, none⟩ = some (.int .i64 a2_1) ∧ w'.cell? ⟨gb159, 2, none⟩ = some (.int .i64 a2_2) ∧ w'.cell? ⟨gb159, 3, none⟩ = some (.int .i64 a2_3) ∧ w'.cell? ⟨gb159, 4, none⟩ = some (.int .i64 a2_4) ∧ w'.cell? ⟨gb159, 5, none⟩ = some (.int .i64 a2_5) ∧ w'.cell? ⟨gb159, 6, none⟩ = some (.int .i64 a2_6) ∧ w'.cell? ⟨gb159, 7, none⟩ = some (.int .i64 a2_7) ∧ w'.cell? ⟨gb159, 8, none⟩ = some (.int .i64 a2_8) ∧ w'.cell? ⟨gb157, 0, none⟩ = some (.int .i64 a0_0) ∧ w'.cell? ⟨gb157, 1, none⟩ = some (.int .i64 a0_1) ∧ w'.cell? ⟨gb157, 2, none⟩ = some (.int .i64 a0_2) ∧ w'.cell? ⟨gb158, 0, none⟩ = some (.int .i64 a1_0) ∧ w'.cell? ⟨gb158, 1, none⟩ = some (.int .i64 a1_1) ∧ w'.cell? ⟨gb158, 2, none⟩ = some (.int .i64 a1_2)) (ds := []) #[false, false, false, false, false, false, false, false, false, false, false, false] (by kernel_rfl) rfl rfl ⟨(blk_cell BK183.out 0).trans rfl, (blk_cell BK183.out 1).trans rfl, (blk_cell BK183.out 2).trans rfl, (blk_cell BK159.out 0).trans rfl, (blk_cell BK159.out 1).trans rfl, (blk_cell BK159.out 2).trans rfl, (blk_cell BK159.out 3).trans rfl, (blk_cell BK159.out 4).trans rfl, (blk_cell BK159.out 5).trans rfl, (blk_cell BK159.out 6).trans rfl, (blk_cell BK159.out 7).trans rfl, (blk_cell BK159.out 8).trans rfl, (blk_cell BK157.out 0).trans rfl, (blk_cell BK157.out 1).trans rfl, (blk_cell BK157.out 2).trans rfl, (blk_cell BK158.out 0).trans rfl, (blk_cell BK158.out 1).trans rfl, (blk_cell BK158.out 2).trans rfl⟩ (fun hHeld => ?_); refine with_tabW side_Meet.tab18 side_Meet.bits18 (fun HT_ HW_ => ?_)
    generalize w204.drew = w205 at BK157 BK158 BK159 BK160 BK183 HB hHeld ⊢
    refine pure_ (i := 1) (N := some 73) (v := ?_) (a' := ?_) (bm 12 2) rfl rfl (any_of HT_.out (by kernel_rfl)) (fun _ _ _ h => h) (Or.inl ⟨by rfl, ?_⟩) ?_ ?_
    rotate_left
    ·intro w'
     go_simp
     with_reducible rfl
    rotate_left
    ·simp only [Act.put, List.setIfInBounds_toArray, List.set_cons_zero, List.set_cons_succ, i64_w, i32_w]
     rfl
    refine take_ (i := 0) (N := some 72) (v := ?_) (a' := ?_) (bm 12 3) rfl rfl (take_ofW HT_.out HW_.out (by kernel_rfl)) (fun _ _ _ h => h) (Or.inl ⟨by rfl, ?_⟩) hHeld ?_ ?_
    rotate_left
    ·rintro w' ⟨s0, s1, s2, s3, s4, s5, s6, s7, s8, s9, s10, s11, s12, s13, s14, s15, s16, s17⟩
     go_simp
     with_reducible rfl
    rotate_left
    ·simp only [Act.put, List.setIfInBounds_toArray, List.set_cons_zero, List.set_cons_succ, i64_w, i32_w]
     rfl
    refine take_ (i := 2) (N := some 74) (v := ?_) (a' := ?_) (bm 12 7) rfl rfl (take_ofW HT_.out HW_.out (by kernel_rfl)) (fun _ _ _ h => h) (Or.inl ⟨by rfl, ?_⟩) hHeld ?_ ?_
    rotate_left
    ·rintro w' ⟨s0, s1, s2, s3, s4, s5, s6, s7, s8, s9, s10, s11, s12, s13, s14, s15, s16, s17⟩
     go_simp
     with_reducible rfl
    rotate_left
    ·simp only [Act.put, List.setIfInBounds_toArray, List.set_cons_zero, List.set_cons_succ, i64_w, i32_w]
     rfl
    refine take_ (i := 3) (N := some 75) (v := ?_) (a' := ?_) (bm 12 15) rfl rfl (take_ofW HT_.out HW_.out (by kernel_rfl)) (fun _ _ _ h => h) (Or.inl ⟨by rfl, ?_⟩) hHeld ?_ ?_
    rotate_left
    ·rintro w' ⟨s0, s1, s2, s3, s4, s5, s6, s7, s8, s9, s10, s11, s12, s13, s14, s15, s16, s17⟩
     go_simp
     with_reducible rfl
    rotate_left
    ·simp only [Act.put, List.setIfInBounds_toArray, List.set_cons_zero, List.set_cons_succ, i64_w, i32_w]
     rfl
    refine take_ (i := 6) (N := some 78) (v := ?_) (a' := ?_) (bm 12 79) rfl rfl (take_ofW HT_.out HW_.out (by kernel_rfl)) (fun _ _ _ h => h) (Or.inl ⟨by rfl, ?_⟩) hHeld ?_ ?_
    rotate_left
    ·rintro w' ⟨s0, s1, s2, s3, s4, s5, s6, s7, s8, s9, s10, s11, s12, s13, s14, s15, s16, s17⟩
     go_simp
     with_reducible rfl
    rotate_left
    ·simp only [Act.put, List.setIfInBounds_toArray, List.set_cons_zero, List.set_cons_succ, i64_w, i32_w]
     rfl
    refine take_ (i := 7) (N := some 79) (v := ?_) (a' := ?_) (bm 12 207) rfl rfl (take_ofW HT_.out HW_.out (by kernel_rfl)) (fun _ _ _ h => h) (Or.inl ⟨by rfl, ?_⟩) hHeld ?_ ?_
    rotate_left
    ·rintro w' ⟨s0, s1, s2, s3, s4, s5, s6, s7, s8, s9, s10, s11, s12, s13, s14, s15, s16, s17⟩
     go_simp
     with_reducible rfl
    rotate_left
    ·simp only [Act.put, List.setIfInBounds_toArray, List.set_cons_zero, List.set_cons_succ, i64_w, i32_w]
     rfl
    refine join_ (σ := Nat) 1 (bm 12 2047) (fun s_ => [(76, .agg #[.int .i64 t184, .int .i64 t185, .int .i64 t186]), (77, .int .i64 t187), (80, .int .i64 t188), (17, .pointer (some ⟨s_, 0, none⟩)), (81, .agg #[.int .i64 t187, .int .i64 t188])]) (fun s_ w' => (w'.cell? ⟨gb183, 0, none⟩ = some (.int .i64 t180) ∧ w'.cell? ⟨gb183, 1, none⟩ = some (.int .i64 t181) ∧ w'.cell? ⟨gb183, 2, none⟩ = some (.int .i64 t182) ∧ w'.cell? ⟨gb159, 0, none⟩ = some (.int .i64 a2_0) ∧ w'.cell? ⟨gb159, 1, none⟩ = some (.int .i64 a2_1) ∧ w'.cell? ⟨gb159, 2, none⟩ = some (.int .i64 a2_2) ∧ w'.cell? ⟨gb159, 3, none⟩ = some (.int .i64 a2_3) ∧ w'.cell? ⟨gb159, 4, none⟩ = some (.int .i64 a2_4) ∧ w'.cell? ⟨gb159, 5, none⟩ = some (.int .i64 a2_5) ∧ w'.cell? ⟨gb159, 6, none⟩ = some (.int .i64 a2_6) ∧ w'.cell? ⟨gb159, 7, none⟩ = some (.int .i64 a2_7) ∧ w'.cell? ⟨gb159, 8, none⟩ = some (.int .i64 a2_8) ∧ w'.cell? ⟨gb157, 0, none⟩ = some (.int .i64 a0_0) ∧ w'.cell? ⟨gb157, 1, none⟩ = some (.int .i64 a0_1) ∧ w'.cell? ⟨gb157, 2, none⟩ = some (.int .i64 a0_2) ∧ w'.cell? ⟨gb158, 0, none⟩ = some (.int .i64 a1_0) ∧ w'.cell? ⟨gb158, 1, none⟩ = some (.int .i64 a1_1) ∧ w'.cell? ⟨gb158, 2, none⟩ = some (.int .i64 a1_2)) ∧ (w'.heap[gb157]? = some (.cells #[.int .i64 a0_0, .int .i64 a0_1, .int .i64 a0_2] 23 (0, 0))) ∧ (w'.heap[gb158]? = some (.cells #[.int .i64 a1_0, .int .i64 a1_1, .int .i64 a1_2] 23 (0, 0))) ∧ (w'.heap[gb159]? = some (.cells #[.int .i64 a2_0, .int .i64 a2_1, .int .i64 a2_2, .int .i64 a2_3, .int .i64 a2_4, .int .i64 a2_5, .int .i64 a2_6, .int .i64 a2_7, .int .i64 a2_8] 25 (0, 0))) ∧ (w'.heap[gb160]? = some (.cells #[.int .i64 x161000_118, .int .i64 x161001_118, .bool x161002_118, .int .i64 x161003_118, .int .i64 x161004_118] 33 (0, 0))) ∧ (w'.heap[gb183]? = some (.cells #[.int .i64 t180, .int .i64 t181, .int .i64 t182] 23 (0, 0))) ∧ (w'.heap[s_]? = some (.cells #[.int .i64 0, .int .i64 0] 27 (0, 0))) ∧ (w.heap.size ≤ s_) ∧ (gb157 ≠ s_) ∧ (s_ ≠ gb157) ∧ (gb158 ≠ s_) ∧ (s_ ≠ gb158) ∧ (gb159 ≠ s_) ∧ (s_ ≠ gb159) ∧ (gb160 ≠ s_) ∧ (s_ ≠ gb160) ∧ (gb183 ≠ s_) ∧ (s_ ≠ gb183) ∧ (Below w.heap.size w w')) ?_ ?_
    rotate_left
    ·intro hCont
     refine two_ (i := 4) (j := 10) (Ni := some 76) (Nj := some 17) (bm 12 223) (bm 12 1231) rfl rfl rfl rfl (two_of HT_.out (by kernel_rfl)) (by decide) (by decide) (fun K hK => ?_) (fun K hK => ?_)
     ·skip
      refine goes_ Try.func20 (by kernel_rfl) rfl #[.agg #[.int .i64 a2_0, .int .i64 a2_1, .int .i64 a2_2], .agg #[.int .i64 a0_0, .int .i64 a0_1, .int .i64 a0_2]] (by rfl) rfl rfl (by (try simp only [List.map_toArray, List.map_cons, List.map_nil]); first | done | rfl | (simp only [List.length_drop, List.length_take]; rfl)) ?_
      with_reducible refine (vec_Sub.calls a2_0 a2_1 a2_2 a0_0 a0_1 a0_2 t184 t185 t186 _ A192.out).mono ?_
      rintro e w206 ⟨rfl, hb⟩
      refine ⟨_, rfl, ?_⟩
      replace BK157 := cB hb BK157
      replace BK158 := cB hb BK158
      replace BK159 := cB hb BK159
      replace BK160 := cB hb BK160
      replace BK183 := cB hb BK183
      replace HB := Aside0.mk (below_step (HB.out) hb)
      (try clear hb)
      (try clear hb2)
      (try clear hk)
      (try clear hi)
      refine hK.out _ _ ⟨(blk_cell BK183.out 0).trans rfl, (blk_cell BK183.out 1).trans rfl, (blk_cell BK183.out 2).trans rfl, (blk_cell BK159.out 0).trans rfl, (blk_cell BK159.out 1).trans rfl, (blk_cell BK159.out 2).trans rfl, (blk_cell BK159.out 3).trans rfl, (blk_cell BK159.out 4).trans rfl, (blk_cell BK159.out 5).trans rfl, (blk_cell BK159.out 6).trans rfl, (blk_cell BK159.out 7).trans rfl, (blk_cell BK159.out 8).trans rfl, (blk_cell BK157.out 0).trans rfl, (blk_cell BK157.out 1).trans rfl, (blk_cell BK157.out 2).trans rfl, (blk_cell BK158.out 0).trans rfl, (blk_cell BK158.out 1).trans rfl, (blk_cell BK158.out 2).trans rfl⟩ (fun hHeld => ?_)
      clear hK K
      refine norm_ (a' := ?_) ?_ ?_
      rotate_left
      ·show Act.put _ (some 76) _ = _
       simp only [Act.put, List.setIfInBounds_toArray, List.set_cons_zero, List.set_cons_succ, i64_w, i32_w]
       rfl
      refine two_ (i := 5) (j := 10) (Ni := some 77) (Nj := some 17) (bm 12 255) (bm 12 1247) rfl rfl rfl rfl (two_of HT_.out (by kernel_rfl)) (by decide) (by decide) (fun K hK => ?_) (fun K hK => ?_)
      ·skip
       refine goes_ Try.func19 (by kernel_rfl) rfl #[.agg #[.int .i64 t180, .int .i64 t181, .int .i64 t182], .agg #[.int .i64 t184, .int .i64 t185, .int .i64 t186]] (by rfl) rfl rfl (by (try simp only [List.map_toArray, List.map_cons, List.map_nil]); first | done | rfl | (simp only [List.length_drop, List.length_take]; rfl)) ?_
       with_reducible refine (vec_Dot.calls t180 t181 t182 t184 t185 t186 t187 _ A193.out).mono ?_
       rintro e w207 ⟨rfl, hb⟩
       refine ⟨_, rfl, ?_⟩
       replace BK157 := cB hb BK157
       replace BK158 := cB hb BK158
       replace BK159 := cB hb BK159
       replace BK160 := cB hb BK160
       replace BK183 := cB hb BK183
       replace HB := Aside0.mk (below_step (HB.out) hb)
       (try clear hb)
       (try clear hb2)
       (try clear hk)
       (try clear hi)
       refine hK.out _ _ ⟨(blk_cell BK183.out 0).trans rfl, (blk_cell BK183.out 1).trans rfl, (blk_cell BK183.out 2).trans rfl, (blk_cell BK159.out 0).trans rfl, (blk_cell BK159.out 1).trans rfl, (blk_cell BK159.out 2).trans rfl, (blk_cell BK159.out 3).trans rfl, (blk_cell BK159.out 4).trans rfl, (blk_cell BK159.out 5).trans rfl, (blk_cell BK159.out 6).trans rfl, (blk_cell BK159.out 7).trans rfl, (blk_cell BK159.out 8).trans rfl, (blk_cell BK157.out 0).trans rfl, (blk_cell BK157.out 1).trans rfl, (blk_cell BK157.out 2).trans rfl, (blk_cell BK158.out 0).trans rfl, (blk_cell BK158.out 1).trans rfl, (blk_cell BK158.out 2).trans rfl⟩ (fun hHeld => ?_)
       clear hK K
       refine norm_ (a' := ?_) ?_ ?_
       rotate_left
       ·show Act.put _ (some 77) _ = _
        simp only [Act.put, List.setIfInBounds_toArray, List.set_cons_zero, List.set_cons_succ, i64_w, i32_w]
        rfl
       refine two_ (i := 8) (j := 10) (Ni := some 80) (Nj := some 17) (bm 12 511) (bm 12 1279) rfl rfl rfl rfl (two_of HT_.out (by kernel_rfl)) (by decide) (by decide) (fun K hK => ?_) (fun K hK => ?_)
       ·skip
        refine goes_ Try.func19 (by kernel_rfl) rfl #[.agg #[.int .i64 t180, .int .i64 t181, .int .i64 t182], .agg #[.int .i64 a1_0, .int .i64 a1_1, .int .i64 a1_2]] (by rfl) rfl rfl (by (try simp only [List.map_toArray, List.map_cons, List.map_nil]); first | done | rfl | (simp only [List.length_drop, List.length_take]; rfl)) ?_
        with_reducible refine (vec_Dot.calls t180 t181 t182 a1_0 a1_1 a1_2 t188 _ A194.out).mono ?_
        rintro e w208 ⟨rfl, hb⟩
        refine ⟨_, rfl, ?_⟩
        replace BK157 := cB hb BK157
        replace BK158 := cB hb BK158
        replace BK159 := cB hb BK159
        replace BK160 := cB hb BK160
        replace BK183 := cB hb BK183
        replace HB := Aside0.mk (below_step (HB.out) hb)
        (try clear hb)
        (try clear hb2)
        (try clear hk)
        (try clear hi)
        refine hK.out _ _ ⟨(blk_cell BK183.out 0).trans rfl, (blk_cell BK183.out 1).trans rfl, (blk_cell BK183.out 2).trans rfl, (blk_cell BK159.out 0).trans rfl, (blk_cell BK159.out 1).trans rfl, (blk_cell BK159.out 2).trans rfl, (blk_cell BK159.out 3).trans rfl, (blk_cell BK159.out 4).trans rfl, (blk_cell BK159.out 5).trans rfl, (blk_cell BK159.out 6).trans rfl, (blk_cell BK159.out 7).trans rfl, (blk_cell BK159.out 8).trans rfl, (blk_cell BK157.out 0).trans rfl, (blk_cell BK157.out 1).trans rfl, (blk_cell BK157.out 2).trans rfl, (blk_cell BK158.out 0).trans rfl, (blk_cell BK158.out 1).trans rfl, (blk_cell BK158.out 2).trans rfl⟩ (fun hHeld => ?_)
        clear hK K
        refine norm_ (a' := ?_) ?_ ?_
        rotate_left
        ·show Act.put _ (some 80) _ = _
         simp only [Act.put, List.setIfInBounds_toArray, List.set_cons_zero, List.set_cons_succ, i64_w, i32_w]
         rfl
        refine pure_ (i := 9) (N := some 81) (v := ?_) (a' := ?_) (bm 12 1023) rfl rfl (any_of HT_.out (by kernel_rfl)) (fun _ _ _ h => h) (Or.inl ⟨by rfl, ?_⟩) ?_ ?_
        rotate_left
        ·intro w'
         go_simp
         with_reducible rfl
        rotate_left
        ·simp only [Act.put, List.setIfInBounds_toArray, List.set_cons_zero, List.set_cons_succ, i64_w, i32_w]
         rfl
        refine one_ (i := 10) (N := some 17) (bm 12 2047) rfl rfl (one_of HT_.out (by kernel_rfl)) (by decide) (fun K hK => ?_)
        refine box_step ?hg (N := 17) ?hd (cs := #[.int .i64 0, .int .i64 0]) (t := 27) ?hr ?_; (case hd => rfl); (case hg => rfl); (case hr => first | (go_simp; done) | (go_simp; rfl))
        intro gb189 hg w209 hbox hb
        have BK189 := Aside0.mk (hbox)
        have GE189 := Aside0.mk (bG hg (HB.out))
        have NB157_189 := cN hg BK157
        have NB189_157 := cM hg BK157
        have NB158_189 := cN hg BK158
        have NB189_158 := cM hg BK158
        have NB159_189 := cN hg BK159
        have NB189_159 := cM hg BK159
        have NB160_189 := cN hg BK160
        have NB189_160 := cM hg BK160
        have NB183_189 := cN hg BK183
        have NB189_183 := cM hg BK183
        replace BK157 := cB hb BK157
        replace BK158 := cB hb BK158
        replace BK159 := cB hb BK159
        replace BK160 := cB hb BK160
        replace BK183 := cB hb BK183
        replace HB := Aside0.mk (below_step (HB.out) hb)
        clear hb hbox hg
        refine hK.out _ _ ⟨(blk_cell BK183.out 0).trans rfl, (blk_cell BK183.out 1).trans rfl, (blk_cell BK183.out 2).trans rfl, (blk_cell BK159.out 0).trans rfl, (blk_cell BK159.out 1).trans rfl, (blk_cell BK159.out 2).trans rfl, (blk_cell BK159.out 3).trans rfl, (blk_cell BK159.out 4).trans rfl, (blk_cell BK159.out 5).trans rfl, (blk_cell BK159.out 6).trans rfl, (blk_cell BK159.out 7).trans rfl, (blk_cell BK159.out 8).trans rfl, (blk_cell BK157.out 0).trans rfl, (blk_cell BK157.out 1).trans rfl, (blk_cell BK157.out 2).trans rfl, (blk_cell BK158.out 0).trans rfl, (blk_cell BK158.out 1).trans rfl, (blk_cell BK158.out 2).trans rfl⟩ (fun hHeld => ?_)
        clear hK K
        refine norm_ (a' := ?_) ?_ ?_
        rotate_left
        ·show Act.put _ (some 17) _ = _
         simp only [Act.put, List.setIfInBounds_toArray, List.set_cons_zero, List.set_cons_succ, i64_w, i32_w]
         rfl
        exact norm_ (by simp only [putAll, Act.put, List.setIfInBounds_toArray, List.set_cons_zero, List.set_cons_succ]) (hCont (gb189) _ ⟨hHeld, (BK157.out), (BK158.out), (BK159.out), (BK160.out), (BK183.out), (BK189.out), GE189.out, NB157_189.out, NB189_157.out, NB158_189.out, NB189_158.out, NB159_189.out, NB189_159.out, NB160_189.out, NB189_160.out, NB183_189.out, NB189_183.out, (HB.out)⟩)
       skip
       refine box_step ?hg (N := 17) ?hd (cs := #[.int .i64 0, .int .i64 0]) (t := 27) ?hr ?_; (case hd => rfl); (case hg => rfl); (case hr => first | (go_simp; done) | (go_simp; rfl))
       intro gb189 hg w208 hbox hb
       have BK189 := Aside0.mk (hbox)
       have GE189 := Aside0.mk (bG hg (HB.out))
       have NB157_189 := cN hg BK157
       have NB189_157 := cM hg BK157
       have NB158_189 := cN hg BK158
       have NB189_158 := cM hg BK158
       have NB159_189 := cN hg BK159
       have NB189_159 := cM hg BK159
       have NB160_189 := cN hg BK160
       have NB189_160 := cM hg BK160
       have NB183_189 := cN hg BK183
       have NB189_183 := cM hg BK183
       replace BK157 := cB hb BK157
       replace BK158 := cB hb BK158
       replace BK159 := cB hb BK159
       replace BK160 := cB hb BK160
       replace BK183 := cB hb BK183
       replace HB := Aside0.mk (below_step (HB.out) hb)
       clear hb hbox hg
       refine hK.out _ _ ⟨(blk_cell BK183.out 0).trans rfl, (blk_cell BK183.out 1).trans rfl, (blk_cell BK183.out 2).trans rfl, (blk_cell BK159.out 0).trans rfl, (blk_cell BK159.out 1).trans rfl, (blk_cell BK159.out 2).trans rfl, (blk_cell BK159.out 3).trans rfl, (blk_cell BK159.out 4).trans rfl, (blk_cell BK159.out 5).trans rfl, (blk_cell BK159.out 6).trans rfl, (blk_cell BK159.out 7).trans rfl, (blk_cell BK159.out 8).trans rfl, (blk_cell BK157.out 0).trans rfl, (blk_cell BK157.out 1).trans rfl, (blk_cell BK157.out 2).trans rfl, (blk_cell BK158.out 0).trans rfl, (blk_cell BK158.out 1).trans rfl, (blk_cell BK158.out 2).trans rfl⟩ (fun hHeld => ?_)
       clear hK K
       refine norm_ (a' := ?_) ?_ ?_
       rotate_left
       ·show Act.put _ (some 17) _ = _
        simp only [Act.put, List.setIfInBounds_toArray, List.set_cons_zero, List.set_cons_succ, i64_w, i32_w]
        rfl
       refine one_ (i := 8) (N := some 80) (bm 12 1535) rfl rfl (one_of HT_.out (by kernel_rfl)) (by decide) (fun K hK => ?_)
       refine goes_ Try.func19 (by kernel_rfl) rfl #[.agg #[.int .i64 t180, .int .i64 t181, .int .i64 t182], .agg #[.int .i64 a1_0, .int .i64 a1_1, .int .i64 a1_2]] (by rfl) rfl rfl (by (try simp only [List.map_toArray, List.map_cons, List.map_nil]); first | done | rfl | (simp only [List.length_drop, List.length_take]; rfl)) ?_
       with_reducible refine (vec_Dot.calls t180 t181 t182 a1_0 a1_1 a1_2 t188 _ A194.out).mono ?_
       rintro e w209 ⟨rfl, hb⟩
       refine ⟨_, rfl, ?_⟩
       replace BK157 := cB hb BK157
       replace BK158 := cB hb BK158
       replace BK159 := cB hb BK159
       replace BK160 := cB hb BK160
       replace BK183 := cB hb BK183
       replace BK189 := cB hb BK189
       replace HB := Aside0.mk (below_step (HB.out) hb)
       (try clear hb)
       (try clear hb2)
       (try clear hk)
       (try clear hi)
       refine hK.out _ _ ⟨(blk_cell BK183.out 0).trans rfl, (blk_cell BK183.out 1).trans rfl, (blk_cell BK183.out 2).trans rfl, (blk_cell BK159.out 0).trans rfl, (blk_cell BK159.out 1).trans rfl, (blk_cell BK159.out 2).trans rfl, (blk_cell BK159.out 3).trans rfl, (blk_cell BK159.out 4).trans rfl, (blk_cell BK159.out 5).trans rfl, (blk_cell BK159.out 6).trans rfl, (blk_cell BK159.out 7).trans rfl, (blk_cell BK159.out 8).trans rfl, (blk_cell BK157.out 0).trans rfl, (blk_cell BK157.out 1).trans rfl, (blk_cell BK157.out 2).trans rfl, (blk_cell BK158.out 0).trans rfl, (blk_cell BK158.out 1).trans rfl, (blk_cell BK158.out 2).trans rfl⟩ (fun hHeld => ?_)
       clear hK K
       refine norm_ (a' := ?_) ?_ ?_
       rotate_left
       ·show Act.put _ (some 80) _ = _
        simp only [Act.put, List.setIfInBounds_toArray, List.set_cons_zero, List.set_cons_succ, i64_w, i32_w]
        rfl
       refine pure_ (i := 9) (N := some 81) (v := ?_) (a' := ?_) (bm 12 2047) rfl rfl (any_of HT_.out (by kernel_rfl)) (fun _ _ _ h => h) (Or.inl ⟨by rfl, ?_⟩) ?_ ?_
       rotate_left
       ·intro w'
        go_simp
        with_reducible rfl
       rotate_left
       ·simp only [Act.put, List.setIfInBounds_toArray, List.set_cons_zero, List.set_cons_succ, i64_w, i32_w]
        rfl
       exact norm_ (by simp only [putAll, Act.put, List.setIfInBounds_toArray, List.set_cons_zero, List.set_cons_succ]) (hCont (gb189) _ ⟨hHeld, (BK157.out), (BK158.out), (BK159.out), (BK160.out), (BK183.out), (BK189.out), GE189.out, NB157_189.out, NB189_157.out, NB158_189.out, NB189_158.out, NB159_189.out, NB189_159.out, NB160_189.out, NB189_160.out, NB183_189.out, NB189_183.out, (HB.out)⟩)
      skip
      refine box_step ?hg (N := 17) ?hd (cs := #[.int .i64 0, .int .i64 0]) (t := 27) ?hr ?_; (case hd => rfl); (case hg => rfl); (case hr => first | (go_simp; done) | (go_simp; rfl))
      intro gb189 hg w207 hbox hb
      have BK189 := Aside0.mk (hbox)
      have GE189 := Aside0.mk (bG hg (HB.out))
      have NB157_189 := cN hg BK157
      have NB189_157 := cM hg BK157
      have NB158_189 := cN hg BK158
      have NB189_158 := cM hg BK158
      have NB159_189 := cN hg BK159
      have NB189_159 := cM hg BK159
      have NB160_189 := cN hg BK160
      have NB189_160 := cM hg BK160
      have NB183_189 := cN hg BK183
      have NB189_183 := cM hg BK183
      replace BK157 := cB hb BK157
      replace BK158 := cB hb BK158
      replace BK159 := cB hb BK159
      replace BK160 := cB hb BK160
      replace BK183 := cB hb BK183
      replace HB := Aside0.mk (below_step (HB.out) hb)
      clear hb hbox hg
      refine hK.out _ _ ⟨(blk_cell BK183.out 0).trans rfl, (blk_cell BK183.out 1).trans rfl, (blk_cell BK183.out 2).trans rfl, (blk_cell BK159.out 0).trans rfl, (blk_cell BK159.out 1).trans rfl, (blk_cell BK159.out 2).trans rfl, (blk_cell BK159.out 3).trans rfl, (blk_cell BK159.out 4).trans rfl, (blk_cell BK159.out 5).trans rfl, (blk_cell BK159.out 6).trans rfl, (blk_cell BK159.out 7).trans rfl, (blk_cell BK159.out 8).trans rfl, (blk_cell BK157.out 0).trans rfl, (blk_cell BK157.out 1).trans rfl, (blk_cell BK157.out 2).trans rfl, (blk_cell BK158.out 0).trans rfl, (blk_cell BK158.out 1).trans rfl, (blk_cell BK158.out 2).trans rfl⟩ (fun hHeld => ?_)
      clear hK K
      refine norm_ (a' := ?_) ?_ ?_
      rotate_left
      ·show Act.put _ (some 17) _ = _
       simp only [Act.put, List.setIfInBounds_toArray, List.set_cons_zero, List.set_cons_succ, i64_w, i32_w]
       rfl
      refine one_ (i := 5) (N := some 77) (bm 12 1279) rfl rfl (one_of HT_.out (by kernel_rfl)) (by decide) (fun K hK => ?_)
      refine goes_ Try.func19 (by kernel_rfl) rfl #[.agg #[.int .i64 t180, .int .i64 t181, .int .i64 t182], .agg #[.int .i64 t184, .int .i64 t185, .int .i64 t186]] (by rfl) rfl rfl (by (try simp only [List.map_toArray, List.map_cons, List.map_nil]); first | done | rfl | (simp only [List.length_drop, List.length_take]; rfl)) ?_
      with_reducible refine (vec_Dot.calls t180 t181 t182 t184 t185 t186 t187 _ A193.out).mono ?_
      rintro e w208 ⟨rfl, hb⟩
      refine ⟨_, rfl, ?_⟩
      replace BK157 := cB hb BK157
      replace BK158 := cB hb BK158
      replace BK159 := cB hb BK159
      replace BK160 := cB hb BK160
      replace BK183 := cB hb BK183
      replace BK189 := cB hb BK189
      replace HB := Aside0.mk (below_step (HB.out) hb)
      (try clear hb)
      (try clear hb2)
      (try clear hk)
      (try clear hi)
      refine hK.out _ _ ⟨(blk_cell BK183.out 0).trans rfl, (blk_cell BK183.out 1).trans rfl, (blk_cell BK183.out 2).trans rfl, (blk_cell BK159.out 0).trans rfl, (blk_cell BK159.out 1).trans rfl, (blk_cell BK159.out 2).trans rfl, (blk_cell BK159.out 3).trans rfl, (blk_cell BK159.out 4).trans rfl, (blk_cell BK159.out 5).trans rfl, (blk_cell BK159.out 6).trans rfl, (blk_cell BK159.out 7).trans rfl, (blk_cell BK159.out 8).trans rfl, (blk_cell BK157.out 0).trans rfl, (blk_cell BK157.out 1).trans rfl, (blk_cell BK157.out 2).trans rfl, (blk_cell BK158.out 0).trans rfl, (blk_cell BK158.out 1).trans rfl, (blk_cell BK158.out 2).trans rfl⟩ (fun hHeld => ?_)
      clear hK K
      refine norm_ (a' := ?_) ?_ ?_
      rotate_left
      ·show Act.put _ (some 77) _ = _
       simp only [Act.put, List.setIfInBounds_toArray, List.set_cons_zero, List.set_cons_succ, i64_w, i32_w]
       rfl
      refine one_ (i := 8) (N := some 80) (bm 12 1535) rfl rfl (one_of HT_.out (by kernel_rfl)) (by decide) (fun K hK => ?_)
      refine goes_ Try.func19 (by kernel_rfl) rfl #[.agg #[.int .i64 t180, .int .i64 t181, .int .i64 t182], .agg #[.int .i64 a1_0, .int .i64 a1_1, .int .i64 a1_2]] (by rfl) rfl rfl (by (try simp only [List.map_toArray, List.map_cons, List.map_nil]); first | done | rfl | (simp only [List.length_drop, List.length_take]; rfl)) ?_
      with_reducible refine (vec_Dot.calls t180 t181 t182 a1_0 a1_1 a1_2 t188 _ A194.out).mono ?_
      rintro e w209 ⟨rfl, hb⟩
      refine ⟨_, rfl, ?_⟩
      replace BK157 := cB hb BK157
      replace BK158 := cB hb BK158
      replace BK159 := cB hb BK159
      replace BK160 := cB hb BK160
      replace BK183 := cB hb BK183
      replace BK189 := cB hb BK189
      replace HB := Aside0.mk (below_step (HB.out) hb)
      (try clear hb)
      (try clear hb2)
      (try clear hk)
      (try clear hi)
      refine hK.out _ _ ⟨(blk_cell BK183.out 0).trans rfl, (blk_cell BK183.out 1).trans rfl, (blk_cell BK183.out 2).trans rfl, (blk_cell BK159.out 0).trans rfl, (blk_cell BK159.out 1).trans rfl, (blk_cell BK159.out 2).trans rfl, (blk_cell BK159.out 3).trans rfl, (blk_cell BK159.out 4).trans rfl, (blk_cell BK159.out 5).trans rfl, (blk_cell BK159.out 6).trans rfl, (blk_cell BK159.out 7).trans rfl, (blk_cell BK159.out 8).trans rfl, (blk_cell BK157.out 0).trans rfl, (blk_cell BK157.out 1).trans rfl, (blk_cell BK157.out 2).trans rfl, (blk_cell BK158.out 0).trans rfl, (blk_cell BK158.out 1).trans rfl, (blk_cell BK158.out 2).trans rfl⟩ (fun hHeld => ?_)
      clear hK K
      refine norm_ (a' := ?_) ?_ ?_
      rotate_left
      ·show Act.put _ (some 80) _ = _
       simp only [Act.put, List.setIfInBounds_toArray, List.set_cons_zero, List.set_cons_succ, i64_w, i32_w]
       rfl
      refine pure_ (i := 9) (N := some 81) (v := ?_) (a' := ?_) (bm 12 2047) rfl rfl (any_of HT_.out (by kernel_rfl)) (fun _ _ _ h => h) (Or.inl ⟨by rfl, ?_⟩) ?_ ?_
      rotate_left
      ·intro w'
       go_simp
       with_reducible rfl
      rotate_left
      ·simp only [Act.put, List.setIfInBounds_toArray, List.set_cons_zero, List.set_cons_succ, i64_w, i32_w]
       rfl
      exact norm_ (by simp only [putAll, Act.put, List.setIfInBounds_toArray, List.set_cons_zero, List.set_cons_succ]) (hCont (gb189) _ ⟨hHeld, (BK157.out), (BK158.out), (BK159.out), (BK160.out), (BK183.out), (BK189.out), GE189.out, NB157_189.out, NB189_157.out, NB158_189.out, NB189_158.out, NB159_189.out, NB189_159.out, NB160_189.out, NB189_160.out, NB183_189.out, NB189_183.out, (HB.out)⟩)
     skip
     refine box_step ?hg (N := 17) ?hd (cs := #[.int .i64 0, .int .i64 0]) (t := 27) ?hr ?_; (case hd => rfl); (case hg => rfl); (case hr => first | (go_simp; done) | (go_simp; rfl))
     intro gb189 hg w206 hbox hb
     have BK189 := Aside0.mk (hbox)
     have GE189 := Aside0.mk (bG hg (HB.out))
     have NB157_189 := cN hg BK157
     have NB189_157 := cM hg BK157
     have NB158_189 := cN hg BK158
     have NB189_158 := cM hg BK158
     have NB159_189 := cN hg BK159
     have NB189_159 := cM hg BK159
     have NB160_189 := cN hg BK160
     have NB189_160 := cM hg BK160
     have NB183_189 := cN hg BK183
     have NB189_183 := cM hg BK183
     replace BK157 := cB hb BK157
     replace BK158 := cB hb BK158
     replace BK159 := cB hb BK159
     replace BK160 := cB hb BK160
     replace BK183 := cB hb BK183
     replace HB := Aside0.mk (below_step (HB.out) hb)
     clear hb hbox hg
     refine hK.out _ _ ⟨(blk_cell BK183.out 0).trans rfl, (blk_cell BK183.out 1).trans rfl, (blk_cell BK183.out 2).trans rfl, (blk_cell BK159.out 0).trans rfl, (blk_cell BK159.out 1).trans rfl, (blk_cell BK159.out 2).trans rfl, (blk_cell BK159.out 3).trans rfl, (blk_cell BK159.out 4).trans rfl, (blk_cell BK159.out 5).trans rfl, (blk_cell BK159.out 6).trans rfl, (blk_cell BK159.out 7).trans rfl, (blk_cell BK159.out 8).trans rfl, (blk_cell BK157.out 0).trans rfl, (blk_cell BK157.out 1).trans rfl, (blk_cell BK157.out 2).trans rfl, (blk_cell BK158.out 0).trans rfl, (blk_cell BK158.out 1).trans rfl, (blk_cell BK158.out 2).trans rfl⟩ (fun hHeld => ?_)
     clear hK K
     refine norm_ (a' := ?_) ?_ ?_
     rotate_left
     ·show Act.put _ (some 17) _ = _
      simp only [Act.put, List.setIfInBounds_toArray, List.set_cons_zero, List.set_cons_succ, i64_w, i32_w]
      rfl
     refine one_ (i := 4) (N := some 76) (bm 12 1247) rfl rfl (one_of HT_.out (by kernel_rfl)) (by decide) (fun K hK => ?_)
     refine goes_ Try.func20 (by kernel_rfl) rfl #[.agg #[.int .i64 a2_0, .int .i64 a2_1, .int .i64 a2_2], .agg #[.int .i64 a0_0, .int .i64 a0_1, .int .i64 a0_2]] (by rfl) rfl rfl (by (try simp only [List.map_toArray, List.map_cons, List.map_nil]); first | done | rfl | (simp only [List.length_drop, List.length_take]; rfl)) ?_
     with_reducible refine (vec_Sub.calls a2_0 a2_1 a2_2 a0_0 a0_1 a0_2 t184 t185 t186 _ A192.out).mono ?_
     rintro e w207 ⟨rfl, hb⟩
     refine ⟨_, rfl, ?_⟩
     replace BK157 := cB hb BK157
     replace BK158 := cB hb BK158
     replace BK159 := cB hb BK159
     replace BK160 := cB hb BK160
     replace BK183 := cB hb BK183
     replace BK189 := cB hb BK189
     replace HB := Aside0.mk (below_step (HB.out) hb)
     (try clear hb)
     (try clear hb2)
     (try clear hk)
     (try clear hi)
     refine hK.out _ _ ⟨(blk_cell BK183.out 0).trans rfl, (blk_cell BK183.out 1).trans rfl, (blk_cell BK183.out 2).trans rfl, (blk_cell BK159.out 0).trans rfl, (blk_cell BK159.out 1).trans rfl, (blk_cell BK159.out 2).trans rfl, (blk_cell BK159.out 3).trans rfl, (blk_cell BK159.out 4).trans rfl, (blk_cell BK159.out 5).trans rfl, (blk_cell BK159.out 6).trans rfl, (blk_cell BK159.out 7).trans rfl, (blk_cell BK159.out 8).trans rfl, (blk_cell BK157.out 0).trans rfl, (blk_cell BK157.out 1).trans rfl, (blk_cell BK157.out 2).trans rfl, (blk_cell BK158.out 0).trans rfl, (blk_cell BK158.out 1).trans rfl, (blk_cell BK158.out 2).trans rfl⟩ (fun hHeld => ?_)
     clear hK K
     refine norm_ (a' := ?_) ?_ ?_
     rotate_left
     ·show Act.put _ (some 76) _ = _
      simp only [Act.put, List.setIfInBounds_toArray, List.set_cons_zero, List.set_cons_succ, i64_w, i32_w]
      rfl
     refine one_ (i := 5) (N := some 77) (bm 12 1279) rfl rfl (one_of HT_.out (by kernel_rfl)) (by decide) (fun K hK => ?_)
     refine goes_ Try.func19 (by kernel_rfl) rfl #[.agg #[.int .i64 t180, .int .i64 t181, .int .i64 t182], .agg #[.int .i64 t184, .int .i64 t185, .int .i64 t186]] (by rfl) rfl rfl (by (try simp only [List.map_toArray, List.map_cons, List.map_nil]); first | done | rfl | (simp only [List.length_drop, List.length_take]; rfl)) ?_
     with_reducible refine (vec_Dot.calls t180 t181 t182 t184 t185 t186 t187 _ A193.out).mono ?_
     rintro e w208 ⟨rfl, hb⟩
     refine ⟨_, rfl, ?_⟩
     replace BK157 := cB hb BK157
     replace BK158 := cB hb BK158
     replace BK159 := cB hb BK159
     replace BK160 := cB hb BK160
     replace BK183 := cB hb BK183
     replace BK189 := cB hb BK189
     replace HB := Aside0.mk (below_step (HB.out) hb)
     (try clear hb)
     (try clear hb2)
     (try clear hk)
     (try clear hi)
     refine hK.out _ _ ⟨(blk_cell BK183.out 0).trans rfl, (blk_cell BK183.out 1).trans rfl, (blk_cell BK183.out 2).trans rfl, (blk_cell BK159.out 0).trans rfl, (blk_cell BK159.out 1).trans rfl, (blk_cell BK159.out 2).trans rfl, (blk_cell BK159.out 3).trans rfl, (blk_cell BK159.out 4).trans rfl, (blk_cell BK159.out 5).trans rfl, (blk_cell BK159.out 6).trans rfl, (blk_cell BK159.out 7).trans rfl, (blk_cell BK159.out 8).trans rfl, (blk_cell BK157.out 0).trans rfl, (blk_cell BK157.out 1).trans rfl, (blk_cell BK157.out 2).trans rfl, (blk_cell BK158.out 0).trans rfl, (blk_cell BK158.out 1).trans rfl, (blk_cell BK158.out 2).trans rfl⟩ (fun hHeld => ?_)
     clear hK K
     refine norm_ (a' := ?_) ?_ ?_
     rotate_left
     ·show Act.put _ (some 77) _ = _
      simp only [Act.put, List.setIfInBounds_toArray, List.set_cons_zero, List.set_cons_succ, i64_w, i32_w]
      rfl
     refine one_ (i := 8) (N := some 80) (bm 12 1535) rfl rfl (one_of HT_.out (by kernel_rfl)) (by decide) (fun K hK => ?_)
     refine goes_ Try.func19 (by kernel_rfl) rfl #[.agg #[.int .i64 t180, .int .i64 t181, .int .i64 t182], .agg #[.int .i64 a1_0, .int .i64 a1_1, .int .i64 a1_2]] (by rfl) rfl rfl (by (try simp only [List.map_toArray, List.map_cons, List.map_nil]); first | done | rfl | (simp only [List.length_drop, List.length_take]; rfl)) ?_
     with_reducible refine (vec_Dot.calls t180 t181 t182 a1_0 a1_1 a1_2 t188 _ A194.out).mono ?_
     rintro e w209 ⟨rfl, hb⟩
     refine ⟨_, rfl, ?_⟩
     replace BK157 := cB hb BK157
     replace BK158 := cB hb BK158
     replace BK159 := cB hb BK159
     replace BK160 := cB hb BK160
     replace BK183 := cB hb BK183
     replace BK189 := cB hb BK189
     replace HB := Aside0.mk (below_step (HB.out) hb)
     (try clear hb)
     (try clear hb2)
     (try clear hk)
     (try clear hi)
     refine hK.out _ _ ⟨(blk_cell BK183.out 0).trans rfl, (blk_cell BK183.out 1).trans rfl, (blk_cell BK183.out 2).trans rfl, (blk_cell BK159.out 0).trans rfl, (blk_cell BK159.out 1).trans rfl, (blk_cell BK159.out 2).trans rfl, (blk_cell BK159.out 3).trans rfl, (blk_cell BK159.out 4).trans rfl, (blk_cell BK159.out 5).trans rfl, (blk_cell BK159.out 6).trans rfl, (blk_cell BK159.out 7).trans rfl, (blk_cell BK159.out 8).trans rfl, (blk_cell BK157.out 0).trans rfl, (blk_cell BK157.out 1).trans rfl, (blk_cell BK157.out 2).trans rfl, (blk_cell BK158.out 0).trans rfl, (blk_cell BK158.out 1).trans rfl, (blk_cell BK158.out 2).trans rfl⟩ (fun hHeld => ?_)
     clear hK K
     refine norm_ (a' := ?_) ?_ ?_
     rotate_left
     ·show Act.put _ (some 80) _ = _
      simp only [Act.put, List.setIfInBounds_toArray, List.set_cons_zero, List.set_cons_succ, i64_w, i32_w]
      rfl
     refine pure_ (i := 9) (N := some 81) (v := ?_) (a' := ?_) (bm 12 2047) rfl rfl (any_of HT_.out (by kernel_rfl)) (fun _ _ _ h => h) (Or.inl ⟨by rfl, ?_⟩) ?_ ?_
     rotate_left
     ·intro w'
      go_simp
      with_reducible rfl
     rotate_left
     ·simp only [Act.put, List.setIfInBounds_toArray, List.set_cons_zero, List.set_cons_succ, i64_w, i32_w]
      rfl
     exact norm_ (by simp only [putAll, Act.put, List.setIfInBounds_toArray, List.set_cons_zero, List.set_cons_succ]) (hCont (gb189) _ ⟨hHeld, (BK157.out), (BK158.out), (BK159.out), (BK160.out), (BK183.out), (BK189.out), GE189.out, NB157_189.out, NB189_157.out, NB158_189.out, NB189_158.out, NB159_189.out, NB189_159.out, NB160_189.out, NB189_160.out, NB183_189.out, NB189_183.out, (HB.out)⟩)
    rintro gb189 w210 ⟨hS_, h0_, h1_, h2_, h3_, h4_, h5_, h6_, h7_, h8_, h9_, h10_, h11_, h12_, h13_, h14_, h15_, h16_, h17_⟩
    have n0_ : Aside0 (w210.heap[gb157]? = some (.cells #[.int .i64 a0_0, .int .i64 a0_1, .int .i64 a0_2] 23 (0, 0))) := ⟨h0_⟩
    have n1_ : Aside0 (w210.heap[gb158]? = some (.cells #[.int .i64 a1_0, .int .i64 a1_1, .int .i64 a1_2] 23 (0, 0))) := ⟨h1_⟩
    have n2_ : Aside0 (w210.heap[gb159]? = some (.cells #[.int .i64 a2_0, .int .i64 a2_1, .int .i64 a2_2, .int .i64 a2_3, .int .i64 a2_4, .int .i64 a2_5, .int .i64 a2_6, .int .i64 a2_7, .int .i64 a2_8] 25 (0, 0))) := ⟨h2_⟩
    have n3_ : Aside0 (w210.heap[gb160]? = some (.cells #[.int .i64 x161000_118, .int .i64 x161001_118, .bool x161002_118, .int .i64 x161003_118, .int .i64 x161004_118] 33 (0, 0))) := ⟨h3_⟩
    have n4_ : Aside0 (w210.heap[gb183]? = some (.cells #[.int .i64 t180, .int .i64 t181, .int .i64 t182] 23 (0, 0))) := ⟨h4_⟩
    have n5_ : Aside0 (w210.heap[gb189]? = some (.cells #[.int .i64 0, .int .i64 0] 27 (0, 0))) := ⟨h5_⟩
    have GE189 : Aside0 (w.heap.size ≤ gb189) := ⟨h6_⟩
    have NB157_189 : Aside0 (gb157 ≠ gb189) := ⟨h7_⟩
    have NB189_157 : Aside0 (gb189 ≠ gb157) := ⟨h8_⟩
    have NB158_189 : Aside0 (gb158 ≠ gb189) := ⟨h9_⟩
    have NB189_158 : Aside0 (gb189 ≠ gb158) := ⟨h10_⟩
    have NB159_189 : Aside0 (gb159 ≠ gb189) := ⟨h11_⟩
    have NB189_159 : Aside0 (gb189 ≠ gb159) := ⟨h12_⟩
    have NB160_189 : Aside0 (gb160 ≠ gb189) := ⟨h13_⟩
    have NB189_160 : Aside0 (gb189 ≠ gb160) := ⟨h14_⟩
    have NB183_189 : Aside0 (gb183 ≠ gb189) := ⟨h15_⟩
    have NB189_183 : Aside0 (gb189 ≠ gb183) := ⟨h16_⟩
    have n17_ : Aside0 (Below w.heap.size w w210) := ⟨h17_⟩
    clear BK157
    clear BK158
    clear BK159
    clear BK160
    clear BK183
    clear HB
    clear h0_ h1_ h2_ h3_ h4_ h5_ h6_ h7_ h8_ h9_ h10_ h11_ h12_ h13_ h14_ h15_ h16_ h17_
    have BK157 := n0_
    have BK158 := n1_
    have BK159 := n2_
    have BK160 := n3_
    have BK183 := n4_
    have BK189 := n5_
    have HB := n17_
    clear n0_ n1_ n2_ n3_ n4_ n5_ n17_
    have hHeld : w210.cell? ⟨gb183, 0, none⟩ = some (.int .i64 t180) ∧ w210.cell? ⟨gb183, 1, none⟩ = some (.int .i64 t181) ∧ w210.cell? ⟨gb183, 2, none⟩ = some (.int .i64 t182) ∧ w210.cell? ⟨gb159, 0, none⟩ = some (.int .i64 a2_0) ∧ w210.cell? ⟨gb159, 1, none⟩ = some (.int .i64 a2_1) ∧ w210.cell? ⟨gb159, 2, none⟩ = some (.int .i64 a2_2) ∧ w210.cell? ⟨gb159, 3, none⟩ = some (.int .i64 a2_3) ∧ w210.cell? ⟨gb159, 4, none⟩ = some (.int .i64 a2_4) ∧ w210.cell? ⟨gb159, 5, none⟩ = some (.int .i64 a2_5) ∧ w210.cell? ⟨gb159, 6, none⟩ = some (.int .i64 a2_6) ∧ w210.cell? ⟨gb159, 7, none⟩ = some (.int .i64 a2_7) ∧ w210.cell? ⟨gb159, 8, none⟩ = some (.int .i64 a2_8) ∧ w210.cell? ⟨gb157, 0, none⟩ = some (.int .i64 a0_0) ∧ w210.cell? ⟨gb157, 1, none⟩ = some (.int .i64 a0_1) ∧ w210.cell? ⟨gb157, 2, none⟩ = some (.int .i64 a0_2) ∧ w210.cell? ⟨gb158, 0, none⟩ = some (.int .i64 a1_0) ∧ w210.cell? ⟨gb158, 1, none⟩ = some (.int .i64 a1_1) ∧ w210.cell? ⟨gb158, 2, none⟩ = some (.int .i64 a1_2) := hS_
    refine norm_ (a' := ?_) ?_ ?_
    rotate_left
    ·simp only [putAll, Act.put, List.setIfInBounds_toArray, List.set_cons_zero, List.set_cons_succ]
     rfl
    refine one_ (i := 11) (N := none) (bm 12 4095) rfl rfl (one_of HT_.out (by kernel_rfl)) (by decide) (fun K hK => ?_)
    have hs211 : w210.cell? ⟨gb189, 0, none⟩ = some (.int .i64 0) := (blk_cell BK189.out 0).trans rfl
    have hfs211 := blk_frozen BK189.out 0
    have hns211_0 := NB157_189.out
    have hns211_1 := NB158_189.out
    have hns211_2 := NB159_189.out
    have hns211_3 := NB160_189.out
    have hns211_4 := NB183_189.out
    have hms211_0 := NB189_157.out
    have hms211_1 := NB189_158.out
    have hms211_2 := NB189_159.out
    have hms211_3 := NB189_160.out
    have hms211_4 := NB189_183.out
    have hs212 : w210.cell? ⟨gb189, 1, none⟩ = some (.int .i64 0) := (blk_cell BK189.out 1).trans rfl
    have hfs212 := blk_frozen BK189.out 1
    have hns212_0 := NB157_189.out
    have hns212_1 := NB158_189.out
    have hns212_2 := NB159_189.out
    have hns212_3 := NB160_189.out
    have hns212_4 := NB183_189.out
    have hms212_0 := NB189_157.out
    have hms212_1 := NB189_158.out
    have hms212_2 := NB189_159.out
    have hms212_3 := NB189_160.out
    have hms212_4 := NB189_183.out
    refine skip_ (w1 := ?_) (by rfl) rfl ?_ ?_
    rotate_left
    ·go_simp
     rfl
    refine hK.out _ _ ⟨(cf NB183_189.out (cf NB183_189.out hHeld.1)), (cf NB183_189.out (cf NB183_189.out hHeld.2.1)), (cf NB183_189.out (cf NB183_189.out hHeld.2.2.1)), (cf NB159_189.out (cf NB159_189.out hHeld.2.2.2.1)), (cf NB159_189.out (cf NB159_189.out hHeld.2.2.2.2.1)), (cf NB159_189.out (cf NB159_189.out hHeld.2.2.2.2.2.1)), (cf NB159_189.out (cf NB159_189.out hHeld.2.2.2.2.2.2.1)), (cf NB159_189.out (cf NB159_189.out hHeld.2.2.2.2.2.2.2.1)), (cf NB159_189.out (cf NB159_189.out hHeld.2.2.2.2.2.2.2.2.1)), (cf NB159_189.out (cf NB159_189.out hHeld.2.2.2.2.2.2.2.2.2.1)), (cf NB159_189.out (cf NB159_189.out hHeld.2.2.2.2.2.2.2.2.2.2.1)), (cf NB159_189.out (cf NB159_189.out hHeld.2.2.2.2.2.2.2.2.2.2.2.1)), (cf NB157_189.out (cf NB157_189.out hHeld.2.2.2.2.2.2.2.2.2.2.2.2.1)), (cf NB157_189.out (cf NB157_189.out hHeld.2.2.2.2.2.2.2.2.2.2.2.2.2.1)), (cf NB157_189.out (cf NB157_189.out hHeld.2.2.2.2.2.2.2.2.2.2.2.2.2.2.1)), (cf NB158_189.out (cf NB158_189.out hHeld.2.2.2.2.2.2.2.2.2.2.2.2.2.2.2.1)), (cf NB158_189.out (cf NB158_189.out hHeld.2.2.2.2.2.2.2.2.2.2.2.2.2.2.2.2.1)), (cf NB158_189.out (cf NB158_189.out hHeld.2.2.2.2.2.2.2.2.2.2.2.2.2.2.2.2.2))⟩ (fun hHeld => ?_)
    clear hK K
    refine done_ (done_of HT_.out (by kernel_rfl)) ?_
    go_upto_block 4 with (fail)
    go_cut [] (fun wc => ∃ (kq : Nat) (x161000_194 : Int) (x161001_194 : Int) (x161002_194 : Bool) (x161003_194 : Int) (x161004_194 : Int) (x190000_194 : Int) (x190001_194 : Int), Aside0 (side_Meet.j8 kq t173 x190000_194 x190001_194 = some (r1, r2, r3, r4, r5, r6, r7)) ∧ Aside0 (kq ≤ kj118) ∧ Aside0 (wc.heap[gb160]? = some (.cells #[.int .i64 x161000_194, .int .i64 x161001_194, .bool x161002_194, .int .i64 x161003_194, .int .i64 x161004_194] 33 (0, 0))) ∧ Aside0 (wc.heap[gb189]? = some (.cells #[.int .i64 x190000_194, .int .i64 x190001_194] 27 (0, 0))) ∧ Aside0 (Below w.heap.size w wc))
    case first =>
     have H := HC195.out
     clear HC195
     by_cases c213 : t188 = 0
     ·rw [if_pos c213] at H
      have c213b0 : (t188 == 0) = true := beq_iff_eq.mpr c213
      have c213b1 : (t188 != 0) = false := bne_eq_false_iff_eq.mpr c213
      clear c213
      (first | rw [c213b0] | (simp only [i64_w, i32_w]; rw [c213b0]) | skip)
      simp only [Option.some.injEq, Prod.mk.injEq] at H
      obtain ⟨rfl, rfl, rfl, rfl, rfl, rfl, rfl⟩ := H
      have hnb214 := NB189_160.out
      have hnc214 := NB160_189.out
      obtain ⟨hcz215_0, hcz215_1⟩ := cells2 BK189.out
      obtain ⟨hcz216_0, hcz216_1, hcz216_2, hcz216_3, hcz216_4⟩ := cells5 BK160.out
      have hfz216_0 := blk_frozen BK160.out 0
      have hfz216_1 := blk_frozen BK160.out 1
      have hfz216_2 := blk_frozen BK160.out 2
      have hfz216_3 := blk_frozen BK160.out 3
      have hfz216_4 := blk_frozen BK160.out 4
      go_wp2
      refine bodyPost_ret (results_ctt rfl _ _ gb160 33 #[.int .i64 0, .int .i64 0, .bool false, .int .i64 0, .int .i64 0] (0, 0) _ rfl ((blk_put (cs' := #[.int .i64 0, .int .i64 0, .bool false, .int .i64 0, .int .i64 0]) (blk_put (blk_put (blk_put (blk_put (blk_far (blk_far BK160.out NB160_189.out _) NB160_189.out _) 0 _ rfl) 1 _ rfl) 2 _ rfl) 3 _ rfl) 4 _ rfl)) Try.underlying33 rfl (by kernel_rfl)) rfl ?_
      exact ⟨by first | rfl | (simp [errW_none, errW_some] <;> rfl) | (simp [*, errW_none, errW_some] <;> rfl), (below_set (below_set (below_set (below_set (below_set (below_set (below_set HB.out GE189.out) GE189.out) GE160.out) GE160.out) GE160.out) GE160.out) GE160.out)⟩
     rw [if_neg c213] at H
     have c213b0 : (t188 == 0) = false := beq_eq_false_iff_ne.mpr c213
     have c213b1 : (t188 != 0) = true := bne_iff_ne.mpr c213
     (first | rw [c213b0] | (simp only [i64_w, i32_w]; rw [c213b0]) | skip)
     by_cases c217 : t188 < 0
     ·rw [if_pos c217] at H
      have c217b0 : decide (t188 < 0) = true := decide_eq_true c217
      clear c217
      have H' := Aside0.mk H
      clear H
      have hnb218 := NB189_160.out
      have hnc218 := NB160_189.out
      obtain ⟨hcz219_0, hcz219_1⟩ := cells2 BK189.out
      have hfz219_0 := blk_frozen BK189.out 0
      have hfz219_1 := blk_frozen BK189.out 1
      go_wp2
      go_meet
      case rel => exact ⟨_, (x161000_118), (x161001_118), (x161002_118), (x161003_118), (x161004_118), (wrap64 (-t187)), (wrap64 (-t188)), H', ⟨by have := HJ4.out; have := HJ118.out; first | omega | exact Nat.le_refl _⟩, ⟨(blk_far (blk_far (blk_far (blk_far BK160.out NB160_189.out _) NB160_189.out _) NB160_189.out _) NB160_189.out _)⟩, ⟨(blk_put (cs' := #[.int .i64 (wrap64 (-t187)), .int .i64 (wrap64 (-t188))]) (blk_put (blk_put (blk_put BK189.out 0 _ rfl) 1 _ rfl) 0 _ rfl) 1 _ rfl)⟩, ⟨(below_set (below_set (below_set (below_set HB.out GE189.out) GE189.out) GE189.out) GE189.out)⟩⟩
     rw [if_neg c217] at H
     have c217b0 : decide (t188 < 0) = false := decide_eq_false c217
     clear c217
     have H' := Aside0.mk H
     clear H
     obtain ⟨hcz220_0, hcz220_1⟩ := cells2 BK189.out
     go_wp2
     go_meet
     case rel => exact ⟨_, (x161000_118), (x161001_118), (x161002_118), (x161003_118), (x161004_118), (t187), (t188), H', ⟨by have := HJ4.out; have := HJ118.out; first | omega | exact Nat.le_refl _⟩, ⟨(blk_far (blk_far BK160.out NB160_189.out _) NB160_189.out _)⟩, ⟨(blk_put (cs' := #[.int .i64 t187, .int .i64 t188]) (blk_put BK189.out 0 _ rfl) 1 _ rfl)⟩, ⟨(below_set (below_set HB.out GE189.out) GE189.out)⟩⟩
    clear HC195
    try clear hcz196_0
    try clear hcz196_1
    try clear hcz196_2
    try clear hcz196_3
    try clear hcz196_4
    try clear hcz196_5
    try clear hcz196_6
    try clear hcz196_7
    try clear hcz196_8
    try clear hcz203_0
    try clear hcz203_1
    try clear hcz203_2
    try clear hfz203_0
    try clear hfz203_1
    try clear hfz203_2
    obtain ⟨kq, x161000_194, x161001_194, x161002_194, x161003_194, x161004_194, x190000_194, x190001_194, HA, HJ194, BK160, BK189, HB⟩ := hcut
    cases kq with
    | zero => exact absurd HA.out (by simp [side_Meet.j8])
    | succ kj194 =>
     have H := HA.out
     clear HA
     simp only [side_Meet.j8] at H
     simp only [Option.some.injEq, Prod.mk.injEq] at H
     obtain ⟨rfl, rfl, rfl, rfl, rfl, rfl, rfl⟩ := H
     have hnb221 := NB189_160.out
     have hnc221 := NB160_189.out
     obtain ⟨hcz222_0, hcz222_1⟩ := cells2 BK189.out
     obtain ⟨hcz223_0, hcz223_1, hcz223_2, hcz223_3, hcz223_4⟩ := cells5 BK160.out
     have hfz223_0 := blk_frozen BK160.out 0
     have hfz223_1 := blk_frozen BK160.out 1
     have hfz223_2 := blk_frozen BK160.out 2
     have hfz223_3 := blk_frozen BK160.out 3
     have hfz223_4 := blk_frozen BK160.out 4
     go_wp2
     refine bodyPost_ret (results_ctt rfl _ _ gb160 33 #[.int .i64 x190000_194, .int .i64 x190001_194, .bool (decide (t173 < 0)), .int .i64 0, .int .i64 0] (0, 0) _ rfl ((blk_put (cs' := #[.int .i64 x190000_194, .int .i64 x190001_194, .bool (decide (t173 < 0)), .int .i64 0, .int .i64 0]) (blk_put (blk_put (blk_put (blk_put BK160.out 0 _ rfl) 1 _ rfl) 2 _ rfl) 3 _ rfl) 4 _ rfl)) Try.underlying33 rfl (by kernel_rfl)) rfl ?_
     exact ⟨by first | rfl | (simp [errW_none, errW_some] <;> rfl) | (simp [*, errW_none, errW_some] <;> rfl), (below_set (below_set (below_set (below_set (below_set HB.out GE160.out) GE160.out) GE160.out) GE160.out) GE160.out)⟩
  replace c117 := Bool.eq_false_iff.mpr c117
  subst c117
  have H1 : (some (0, 0, false, 0, 0, false, 21)) = some (r1, r2, r3, r4, r5, r6, r7) := by rw [if_neg (show ¬ (false = true) by decide)] at H; exact H
  clear H
  have H := H1
  clear H1
  simp only [Option.some.injEq, Prod.mk.injEq] at H
  obtain ⟨rfl, rfl, rfl, rfl, rfl, rfl, rfl⟩ := H
  have hnb224 := NB160_157.out
  have hnc224 := NB157_160.out
  have hnb225 := NB160_158.out
  have hnc225 := NB158_160.out
  have hnb226 := NB160_159.out
  have hnc226 := NB159_160.out
  have hnb227 := NB160_162.out
  have hnc227 := NB162_160.out
  obtain ⟨hcz228_0, hcz228_1, hcz228_2, hcz228_3, hcz228_4⟩ := cells5 BK160.out
  have hfz228_0 := blk_frozen BK160.out 0
  have hfz228_1 := blk_frozen BK160.out 1
  have hfz228_2 := blk_frozen BK160.out 2
  have hfz228_3 := blk_frozen BK160.out 3
  have hfz228_4 := blk_frozen BK160.out 4
  go_wp2
  refine bodyPost_ret (results_ctt rfl _ _ gb160 33 #[.int .i64 0, .int .i64 0, .bool false, .int .i64 0, .int .i64 0] (0, 0) _ rfl ((blk_put (cs' := #[.int .i64 0, .int .i64 0, .bool false, .int .i64 0, .int .i64 0]) (blk_put (blk_put (blk_put (blk_put BK160.out 0 _ rfl) 1 _ rfl) 2 _ rfl) 3 _ rfl) 4 _ rfl)) Try.underlying33 rfl (by kernel_rfl)) rfl ?_
  exact ⟨by first | rfl | (simp [errW_none, errW_some] <;> rfl) | (simp [*, errW_none, errW_some] <;> rfl), (below_set (below_set (below_set (below_set (below_set HB.out GE160.out) GE160.out) GE160.out) GE160.out) GE160.out)⟩

end Go.Proofs.Ytfmbophennepdaa.G
