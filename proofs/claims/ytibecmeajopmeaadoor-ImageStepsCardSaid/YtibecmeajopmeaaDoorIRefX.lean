-- Written by a program of this session (wip/gen), out of the translation; Lean checks it.
import Derived.Test.YtibecmeajopmeaaDoorGx0
import Derived.Test.YtibecmeajopmeaaDoorGx14
namespace Go.Proofs.YtibecmeajopmeaaDoor.G
open Go.RowKit Go.Proofs.YtibecmeajopmeaaDoorW.PrintWords Go.Proofs.YtibecmeajopmeaaDoorW.PrintLast Go.Proofs.YtibecmeajopmeaaDoorW.PrintMore
attribute [local go_sem] max2_int min2_int max_two min_two max_three min_three max_four min_four   -- for this text's walks alone
set_option linter.unusedVariables false
set_option linter.unusedSimpArgs false

/-! ### relievoref22_Text: function 23 -/
def relievoref22_Text.l0 : Nat → List (S33) → ByteArray → Int → Option (ByteArray)
  | 0, _, _, _ => none
  | k + 1, x2, x7, x8 => if x8 < (x2.length : Int) then (if 0 ≤ x8 then ((relievoref00_Show.f k ((rd_T33 x2 x8).f0)).bind fun t133 => (if t133.size + 1 ≤ 9223372036854775807 then ((relievoref00_Show.f k ((rd_T33 x2 x8).f1)).bind fun t135 => (if (t133 ++ (⟨#[32]⟩ : ByteArray)).size + t135.size ≤ 9223372036854775807 then (if ((t133 ++ (⟨#[32]⟩ : ByteArray)) ++ t135).size + 1 ≤ 9223372036854775807 then ((relievoref00_Show.f k ((rd_T33 x2 x8).f2)).bind fun t137 => (if (((t133 ++ (⟨#[32]⟩ : ByteArray)) ++ t135) ++ (⟨#[32]⟩ : ByteArray)).size + t137.size ≤ 9223372036854775807 then (if ((((t133 ++ (⟨#[32]⟩ : ByteArray)) ++ t135) ++ (⟨#[32]⟩ : ByteArray)) ++ t137).size + 1 ≤ 9223372036854775807 then (if x7.size + (((((t133 ++ (⟨#[32]⟩ : ByteArray)) ++ t135) ++ (⟨#[32]⟩ : ByteArray)) ++ t137) ++ (⟨#[10]⟩ : ByteArray)).size ≤ 9223372036854775807 then (relievoref22_Text.l0 k x2 (x7 ++ (((((t133 ++ (⟨#[32]⟩ : ByteArray)) ++ t135) ++ (⟨#[32]⟩ : ByteArray)) ++ t137) ++ (⟨#[10]⟩ : ByteArray))) (wrap64 (x8 + 1))) else (none)) else (none)) else (none))) else (none)) else (none))) else (none))) else (none)) else (some x7)
def relievoref22_Text.f (k : Nat) (a0 : Int) (a1 : Int) (l2 : List (S33)) : Option (ByteArray) := (relievoref00_Show.f k a0).bind fun t130 => (if 3 + t130.size ≤ 9223372036854775807 then (if ((⟨#[80, 51, 10]⟩ : ByteArray) ++ t130).size + 1 ≤ 9223372036854775807 then ((relievoref00_Show.f k a1).bind fun t131 => (if (((⟨#[80, 51, 10]⟩ : ByteArray) ++ t130) ++ (⟨#[32]⟩ : ByteArray)).size + t131.size ≤ 9223372036854775807 then (if ((((⟨#[80, 51, 10]⟩ : ByteArray) ++ t130) ++ (⟨#[32]⟩ : ByteArray)) ++ t131).size + 5 ≤ 9223372036854775807 then (relievoref22_Text.l0 k l2 (((((⟨#[80, 51, 10]⟩ : ByteArray) ++ t130) ++ (⟨#[32]⟩ : ByteArray)) ++ t131) ++ (⟨#[10, 50, 53, 53, 10]⟩ : ByteArray)) 0) else (none)) else (none))) else (none)) else (none))
theorem relievoref22_Text.mono_l : ∀ k, (∀ y0 y1 y2, LeO (relievoref22_Text.l0 k y0 y1 y2) (relievoref22_Text.l0 (k + 1) y0 y1 y2))
  | 0 => fun _ _ _ r h => by simp [relievoref22_Text.l0] at h
  | k + 1 => by
    have ih0 := relievoref22_Text.mono_l k
    · intro y0 y1 y2
      unfold relievoref22_Text.l0
      repeat' first
      | (with_reducible exact ih0 _ _ _)
      | (with_reducible exact relievoref00_Show.mono _ _)
      | (with_reducible exact LeO.refl _)
      | (with_reducible exact LeO.none _)
      | (with_reducible refine LeO.ite ?_ ?_)
      | (with_reducible refine LeO.bind ?_ (fun _ => ?_))
      | exact ih0 _ _ _
      | exact relievoref00_Show.mono _ _
      | exact LeO.none _
      | refine LeO.ite ?_ ?_
      | refine LeO.bind ?_ (fun _ => ?_)
theorem relievoref22_Text.mono : ∀ a0 a1 a2 k, LeO (relievoref22_Text.f k a0 a1 a2) (relievoref22_Text.f (k + 1) a0 a1 a2) := by
  intro a0 a1 a2 k
  have ih0 := relievoref22_Text.mono_l k
  unfold relievoref22_Text.f
  repeat' first
      | (with_reducible exact ih0 _ _ _)
      | (with_reducible exact relievoref00_Show.mono _ _)
      | (with_reducible exact LeO.refl _)
      | (with_reducible exact LeO.none _)
      | (with_reducible refine LeO.ite ?_ ?_)
      | (with_reducible refine LeO.bind ?_ (fun _ => ?_))
      | exact ih0 _ _ _
      | exact relievoref00_Show.mono _ _
      | exact LeO.none _
      | refine LeO.ite ?_ ?_
      | refine LeO.bind ?_ (fun _ => ?_)
def relievoref22_Text.T5 : Bool × List (List Nat × List Nat) := (true, [([], []), ([], []), ([], []), ([1, 2], [1, 2]), ([3], [3]), ([4], [4]), ([5], [5]), ([6], [6]), ([], []), ([], []), ([8, 9], [8, 9]), ([10], [10]), ([11], [11]), ([12, 6], [12]), ([7, 13], [7, 13]), ([14], [14]), ([], []), ([], []), ([16, 17], [16, 17]), ([18], [18]), ([19], [19]), ([20, 13], [20]), ([15, 21], [15, 21]), ([22], [22]), ([0, 23], [0, 23]), ([24, 21, 0, 1, 2, 3, 4, 5, 6, 7, 8, 9, 10, 11, 12, 13, 14, 15, 16, 17, 18, 19, 20, 21, 22, 23, 24], [0, 24])])
def relievoref22_Text.B5 : List Nat := [0, 0, 0, 6, 14, 30, 62, 126, 0, 0, 768, 1792, 3840, 8062, 16382, 32766, 0, 0, 196608, 458752, 983040, 2047870, 4194302, 8388606, 16777215, 33554431]
theorem relievoref22_Text.tab5 : rtab .any (opsOf Tryd.f23 5) = relievoref22_Text.T5 := by kernel_rfl
theorem relievoref22_Text.bits5 : waitsOk relievoref22_Text.T5.2 relievoref22_Text.B5 = true := by kernel_rfl
set_option maxHeartbeats 8000000 in
set_option maxRecDepth 100000 in
theorem relievoref22_Text.calls (k : Nat) (a0 : Int) (a1 : Int) (A2 : Option Addr) (c2 : Nat) (l2 : List (S33)) (r : ByteArray) (w : World) (hr2 : Kd.C k33 w A2 l2.length l2) (hc2 : l2.length ≤ c2) (h : relievoref22_Text.f k a0 a1 l2 = some r) :
    Calls Tryd.prog 23 #[.int .i64 a0, .int .i64 a1, .slice A2 l2.length c2] w fun e w' => e = .returned (.string r) ∧ Below w.heap.size w w' := by
 have HR2 := Aside0.mk hr2
 have HC2 := Aside0.mk hc2
 clear hr2 hc2
 have HB := Aside0.mk (Below.refl w.heap.size w)
 have H : ((relievoref00_Show.f k a0).bind fun t130 => (if 3 + t130.size ≤ 9223372036854775807 then (if ((⟨#[80, 51, 10]⟩ : ByteArray) ++ t130).size + 1 ≤ 9223372036854775807 then ((relievoref00_Show.f k a1).bind fun t131 => (if (((⟨#[80, 51, 10]⟩ : ByteArray) ++ t130) ++ (⟨#[32]⟩ : ByteArray)).size + t131.size ≤ 9223372036854775807 then (if ((((⟨#[80, 51, 10]⟩ : ByteArray) ++ t130) ++ (⟨#[32]⟩ : ByteArray)) ++ t131).size + 5 ≤ 9223372036854775807 then (relievoref22_Text.l0 k l2 (((((⟨#[80, 51, 10]⟩ : ByteArray) ++ t130) ++ (⟨#[32]⟩ : ByteArray)) ++ t131) ++ (⟨#[10, 50, 53, 53, 10]⟩ : ByteArray)) 0) else (none)) else (none))) else (none)) else (none))) = some r := h
 clear h
 replace H := Option.bind_eq_some_iff.mp H
 obtain ⟨t130, A40, H⟩ := H
 replace H : (if 3 + t130.size ≤ 9223372036854775807 then (if ((⟨#[80, 51, 10]⟩ : ByteArray) ++ t130).size + 1 ≤ 9223372036854775807 then ((relievoref00_Show.f k a1).bind fun t131 => (if (((⟨#[80, 51, 10]⟩ : ByteArray) ++ t130) ++ (⟨#[32]⟩ : ByteArray)).size + t131.size ≤ 9223372036854775807 then (if ((((⟨#[80, 51, 10]⟩ : ByteArray) ++ t130) ++ (⟨#[32]⟩ : ByteArray)) ++ t131).size + 5 ≤ 9223372036854775807 then (relievoref22_Text.l0 k l2 (((((⟨#[80, 51, 10]⟩ : ByteArray) ++ t130) ++ (⟨#[32]⟩ : ByteArray)) ++ t131) ++ (⟨#[10, 50, 53, 53, 10]⟩ : ByteArray)) 0) else (none)) else (none))) else (none)) else (none)) = some r := H
 have A4 := Aside0.mk A40
 clear A40
 by_cases c5 : 3 + t130.size ≤ 9223372036854775807
 ·rw [if_pos c5] at H
  have c5b0 := eq_true c5
  have c5b1 : decide (3 + t130.size ≤ 9223372036854775807) = true := decide_eq_true c5
  try have c5b2 : (9223372036854775807 < 3 + t130.size) = False := eq_false (Nat.not_lt.2 c5)
  by_cases c6 : ((⟨#[80, 51, 10]⟩ : ByteArray) ++ t130).size + 1 ≤ 9223372036854775807
  ·rw [if_pos c6] at H
   have c6b0 := eq_true c6
   have c6b1 : decide (((⟨#[80, 51, 10]⟩ : ByteArray) ++ t130).size + 1 ≤ 9223372036854775807) = true := decide_eq_true c6
   try have c6b2 : (9223372036854775807 < ((⟨#[80, 51, 10]⟩ : ByteArray) ++ t130).size + 1) = False := eq_false (Nat.not_lt.2 c6)
   have c6b3 : (9223372036854775807 < 3 + t130.size + 1) = False := eq_false (Nat.not_lt.2 (by have h := c6; simp only [ByteArray.size_append] at h; exact h))
   replace H := Option.bind_eq_some_iff.mp H
   obtain ⟨t131, A70, H⟩ := H
   replace H : (if (((⟨#[80, 51, 10]⟩ : ByteArray) ++ t130) ++ (⟨#[32]⟩ : ByteArray)).size + t131.size ≤ 9223372036854775807 then (if ((((⟨#[80, 51, 10]⟩ : ByteArray) ++ t130) ++ (⟨#[32]⟩ : ByteArray)) ++ t131).size + 5 ≤ 9223372036854775807 then (relievoref22_Text.l0 k l2 (((((⟨#[80, 51, 10]⟩ : ByteArray) ++ t130) ++ (⟨#[32]⟩ : ByteArray)) ++ t131) ++ (⟨#[10, 50, 53, 53, 10]⟩ : ByteArray)) 0) else (none)) else (none)) = some r := H
   have A7 := Aside0.mk A70
   clear A70
   by_cases c8 : (((⟨#[80, 51, 10]⟩ : ByteArray) ++ t130) ++ (⟨#[32]⟩ : ByteArray)).size + t131.size ≤ 9223372036854775807
   ·rw [if_pos c8] at H
    have c8b0 := eq_true c8
    have c8b1 : decide ((((⟨#[80, 51, 10]⟩ : ByteArray) ++ t130) ++ (⟨#[32]⟩ : ByteArray)).size + t131.size ≤ 9223372036854775807) = true := decide_eq_true c8
    try have c8b2 : (9223372036854775807 < (((⟨#[80, 51, 10]⟩ : ByteArray) ++ t130) ++ (⟨#[32]⟩ : ByteArray)).size + t131.size) = False := eq_false (Nat.not_lt.2 c8)
    have c8b3 : (9223372036854775807 < 3 + t130.size + 1 + t131.size) = False := eq_false (Nat.not_lt.2 (by have h := c8; simp only [ByteArray.size_append] at h; exact h))
    by_cases c9 : ((((⟨#[80, 51, 10]⟩ : ByteArray) ++ t130) ++ (⟨#[32]⟩ : ByteArray)) ++ t131).size + 5 ≤ 9223372036854775807
    ·rw [if_pos c9] at H
     have c9b0 := eq_true c9
     have c9b1 : decide (((((⟨#[80, 51, 10]⟩ : ByteArray) ++ t130) ++ (⟨#[32]⟩ : ByteArray)) ++ t131).size + 5 ≤ 9223372036854775807) = true := decide_eq_true c9
     try have c9b2 : (9223372036854775807 < ((((⟨#[80, 51, 10]⟩ : ByteArray) ++ t130) ++ (⟨#[32]⟩ : ByteArray)) ++ t131).size + 5) = False := eq_false (Nat.not_lt.2 c9)
     have c9b3 : (9223372036854775807 < 3 + t130.size + 1 + t131.size + 5) = False := eq_false (Nat.not_lt.2 (by have h := c9; simp only [ByteArray.size_append] at h; exact h))
     have H' := Aside0.mk H
     clear H
     go_enter Tryd.func23, Tryd.ntmps23
     go_wp2_with (first | ((with_reducible refine gate_callee (f := 26) rfl ?_); refine goesL_ (some 10) rfl rfl Tryd.func26 (by kernel_rfl) rfl #[.int .i64 a0] rfl (by (try simp only [List.map_toArray, List.map_cons, List.map_nil]); first | done | rfl | (simp only [List.length_drop, List.length_take]; rfl)) ?_; (with_reducible refine (relievoref00_Show.calls k a0 t130 _ A4.out).mono ?_); rintro e w10 ⟨rfl, hb⟩; refine ⟨_, rfl, ?_⟩; have n0_ := Aside0.mk (below_step (by repeat (first | (with_reducible first | exact HB.out | apply below_alloc | apply pw_below_drewN | apply below_drew1) | exact HB.out)) hb); clear HB; have HB := n0_; clear n0_; (try clear hb); (try clear hb2); (try clear hk); (try clear hi)) | ((with_reducible refine gate_callee (f := 26) rfl ?_); refine goesL_ (some 14) rfl rfl Tryd.func26 (by kernel_rfl) rfl #[.int .i64 a1] rfl (by (try simp only [List.map_toArray, List.map_cons, List.map_nil]); first | done | rfl | (simp only [List.length_drop, List.length_take]; rfl)) ?_; (with_reducible refine (relievoref00_Show.calls k a1 t131 _ A7.out).mono ?_); rintro e w11 ⟨rfl, hb⟩; refine ⟨_, rfl, ?_⟩; have n0_ := Aside0.mk (below_step (by repeat (first | (with_reducible first | exact HB.out | apply below_alloc | apply pw_below_drewN | apply below_drew1) | exact HB.out)) hb); clear HB; have HB := n0_; clear n0_; (try clear hb); (try clear hb2); (try clear hk); (try clear hi)))
     go_loopg [7, 8] k (fun kq v7 v8 w' => ∃ (x7_1 : ByteArray) (x8_1 : Int), v7 = .string x7_1 ∧ v8 = .int .i64 x8_1 ∧ Aside0 (relievoref22_Text.l0 kq l2 x7_1 x8_1 = some r) ∧ Aside0 (kq ≤ k) ∧ Aside0 (Below w.heap.size w w'))
     case atStart => exact ⟨(((((⟨#[80, 51, 10]⟩ : ByteArray) ++ t130) ++ (⟨#[32]⟩ : ByteArray)) ++ t131) ++ (⟨#[10, 50, 53, 53, 10]⟩ : ByteArray)), (0), (by first | rfl | (simp; done) | (simp [*]; done)), (by first | rfl | (simp; done) | (simp [*]; done)), H', ⟨Nat.le_refl _⟩, ⟨by repeat (first | (with_reducible first | exact HB.out | apply below_alloc | apply pw_below_drewN | apply below_drew1) | exact HB.out)⟩⟩
     case round =>
      clear H'
      try clear c5
      try clear c5b0
      try clear c5b1
      try clear c5b2
      try clear c6
      try clear c6b0
      try clear c6b1
      try clear c6b2
      try clear c8
      try clear c8b0
      try clear c8b1
      try clear c8b2
      try clear c9
      try clear c9b0
      try clear c9b1
      try clear c9b2
      obtain ⟨x7_1, x8_1, rfl, rfl, HA, HK1, HB⟩ := hrel
      cases gk with
      | zero => exact absurd HA.out (by simp [relievoref22_Text.l0])
      | succ k1 =>
       have H := HA.out
       clear HA
       simp only [relievoref22_Text.l0] at H
       by_cases c12 : x8_1 < (l2.length : Int)
       ·rw [if_pos c12] at H
        have c12b0 : decide (x8_1 < (l2.length : Int)) = true := decide_eq_true c12
        clear c12
        by_cases c13 : 0 ≤ x8_1
        ·rw [if_pos c13] at H
         have c13b0 : decide (0 ≤ x8_1) = true := decide_eq_true c13
         clear c13
         replace H := Option.bind_eq_some_iff.mp H
         obtain ⟨t133, A140, H⟩ := H
         replace H : (if t133.size + 1 ≤ 9223372036854775807 then ((relievoref00_Show.f k1 ((rd_T33 l2 x8_1).f1)).bind fun t135 => (if (t133 ++ (⟨#[32]⟩ : ByteArray)).size + t135.size ≤ 9223372036854775807 then (if ((t133 ++ (⟨#[32]⟩ : ByteArray)) ++ t135).size + 1 ≤ 9223372036854775807 then ((relievoref00_Show.f k1 ((rd_T33 l2 x8_1).f2)).bind fun t137 => (if (((t133 ++ (⟨#[32]⟩ : ByteArray)) ++ t135) ++ (⟨#[32]⟩ : ByteArray)).size + t137.size ≤ 9223372036854775807 then (if ((((t133 ++ (⟨#[32]⟩ : ByteArray)) ++ t135) ++ (⟨#[32]⟩ : ByteArray)) ++ t137).size + 1 ≤ 9223372036854775807 then (if x7_1.size + (((((t133 ++ (⟨#[32]⟩ : ByteArray)) ++ t135) ++ (⟨#[32]⟩ : ByteArray)) ++ t137) ++ (⟨#[10]⟩ : ByteArray)).size ≤ 9223372036854775807 then (relievoref22_Text.l0 k1 l2 (x7_1 ++ (((((t133 ++ (⟨#[32]⟩ : ByteArray)) ++ t135) ++ (⟨#[32]⟩ : ByteArray)) ++ t137) ++ (⟨#[10]⟩ : ByteArray))) (wrap64 (x8_1 + 1))) else (none)) else (none)) else (none))) else (none)) else (none))) else (none)) = some r := H
         have A14 := Aside0.mk A140
         clear A140
         by_cases c15 : t133.size + 1 ≤ 9223372036854775807
         ·rw [if_pos c15] at H
          have c15b0 := eq_true c15
          have c15b1 : decide (t133.size + 1 ≤ 9223372036854775807) = true := decide_eq_true c15
          try have c15b2 : (9223372036854775807 < t133.size + 1) = False := eq_false (Nat.not_lt.2 c15)
          replace H := Option.bind_eq_some_iff.mp H
          obtain ⟨t135, A160, H⟩ := H
          replace H : (if (t133 ++ (⟨#[32]⟩ : ByteArray)).size + t135.size ≤ 9223372036854775807 then (if ((t133 ++ (⟨#[32]⟩ : ByteArray)) ++ t135).size + 1 ≤ 9223372036854775807 then ((relievoref00_Show.f k1 ((rd_T33 l2 x8_1).f2)).bind fun t137 => (if (((t133 ++ (⟨#[32]⟩ : ByteArray)) ++ t135) ++ (⟨#[32]⟩ : ByteArray)).size + t137.size ≤ 9223372036854775807 then (if ((((t133 ++ (⟨#[32]⟩ : ByteArray)) ++ t135) ++ (⟨#[32]⟩ : ByteArray)) ++ t137).size + 1 ≤ 9223372036854775807 then (if x7_1.size + (((((t133 ++ (⟨#[32]⟩ : ByteArray)) ++ t135) ++ (⟨#[32]⟩ : ByteArray)) ++ t137) ++ (⟨#[10]⟩ : ByteArray)).size ≤ 9223372036854775807 then (relievoref22_Text.l0 k1 l2 (x7_1 ++ (((((t133 ++ (⟨#[32]⟩ : ByteArray)) ++ t135) ++ (⟨#[32]⟩ : ByteArray)) ++ t137) ++ (⟨#[10]⟩ : ByteArray))) (wrap64 (x8_1 + 1))) else (none)) else (none)) else (none))) else (none)) else (none)) = some r := H
          have A16 := Aside0.mk A160
          clear A160
          by_cases c17 : (t133 ++ (⟨#[32]⟩ : ByteArray)).size + t135.size ≤ 9223372036854775807
          ·rw [if_pos c17] at H
           have c17b0 := eq_true c17
           have c17b1 : decide ((t133 ++ (⟨#[32]⟩ : ByteArray)).size + t135.size ≤ 9223372036854775807) = true := decide_eq_true c17
           try have c17b2 : (9223372036854775807 < (t133 ++ (⟨#[32]⟩ : ByteArray)).size + t135.size) = False := eq_false (Nat.not_lt.2 c17)
           have c17b3 : (9223372036854775807 < t133.size + 1 + t135.size) = False := eq_false (Nat.not_lt.2 (by have h := c17; simp only [ByteArray.size_append] at h; exact h))
           by_cases c18 : ((t133 ++ (⟨#[32]⟩ : ByteArray)) ++ t135).size + 1 ≤ 9223372036854775807
           ·rw [if_pos c18] at H
            have c18b0 := eq_true c18
            have c18b1 : decide (((t133 ++ (⟨#[32]⟩ : ByteArray)) ++ t135).size + 1 ≤ 9223372036854775807) = true := decide_eq_true c18
            try have c18b2 : (9223372036854775807 < ((t133 ++ (⟨#[32]⟩ : ByteArray)) ++ t135).size + 1) = False := eq_false (Nat.not_lt.2 c18)
            have c18b3 : (9223372036854775807 < t133.size + 1 + t135.size + 1) = False := eq_false (Nat.not_lt.2 (by have h := c18; simp only [ByteArray.size_append] at h; exact h))
            replace H := Option.bind_eq_some_iff.mp H
            obtain ⟨t137, A190, H⟩ := H
            replace H : (if (((t133 ++ (⟨#[32]⟩ : ByteArray)) ++ t135) ++ (⟨#[32]⟩ : ByteArray)).size + t137.size ≤ 9223372036854775807 then (if ((((t133 ++ (⟨#[32]⟩ : ByteArray)) ++ t135) ++ (⟨#[32]⟩ : ByteArray)) ++ t137).size + 1 ≤ 9223372036854775807 then (if x7_1.size + (((((t133 ++ (⟨#[32]⟩ : ByteArray)) ++ t135) ++ (⟨#[32]⟩ : ByteArray)) ++ t137) ++ (⟨#[10]⟩ : ByteArray)).size ≤ 9223372036854775807 then (relievoref22_Text.l0 k1 l2 (x7_1 ++ (((((t133 ++ (⟨#[32]⟩ : ByteArray)) ++ t135) ++ (⟨#[32]⟩ : ByteArray)) ++ t137) ++ (⟨#[10]⟩ : ByteArray))) (wrap64 (x8_1 + 1))) else (none)) else (none)) else (none)) = some r := H
            have A19 := Aside0.mk A190
            clear A190
            by_cases c20 : (((t133 ++ (⟨#[32]⟩ : ByteArray)) ++ t135) ++ (⟨#[32]⟩ : ByteArray)).size + t137.size ≤ 9223372036854775807
            ·rw [if_pos c20] at H
             have c20b0 := eq_true c20
             have c20b1 : decide ((((t133 ++ (⟨#[32]⟩ : ByteArray)) ++ t135) ++ (⟨#[32]⟩ : ByteArray)).size + t137.size ≤ 9223372036854775807) = true := decide_eq_true c20
             try have c20b2 : (9223372036854775807 < (((t133 ++ (⟨#[32]⟩ : ByteArray)) ++ t135) ++ (⟨#[32]⟩ : ByteArray)).size + t137.size) = False := eq_false (Nat.not_lt.2 c20)
             have c20b3 : (9223372036854775807 < t133.size + 1 + t135.size + 1 + t137.size) = False := eq_false (Nat.not_lt.2 (by have h := c20; simp only [ByteArray.size_append] at h; exact h))
             by_cases c21 : ((((t133 ++ (⟨#[32]⟩ : ByteArray)) ++ t135) ++ (⟨#[32]⟩ : ByteArray)) ++ t137).size + 1 ≤ 9223372036854775807
             ·rw [if_pos c21] at H
              have c21b0 := eq_true c21
              have c21b1 : decide (((((t133 ++ (⟨#[32]⟩ : ByteArray)) ++ t135) ++ (⟨#[32]⟩ : ByteArray)) ++ t137).size + 1 ≤ 9223372036854775807) = true := decide_eq_true c21
              try have c21b2 : (9223372036854775807 < ((((t133 ++ (⟨#[32]⟩ : ByteArray)) ++ t135) ++ (⟨#[32]⟩ : ByteArray)) ++ t137).size + 1) = False := eq_false (Nat.not_lt.2 c21)
              have c21b3 : (9223372036854775807 < t133.size + 1 + t135.size + 1 + t137.size + 1) = False := eq_false (Nat.not_lt.2 (by have h := c21; simp only [ByteArray.size_append] at h; exact h))
              by_cases c22 : x7_1.size + (((((t133 ++ (⟨#[32]⟩ : ByteArray)) ++ t135) ++ (⟨#[32]⟩ : ByteArray)) ++ t137) ++ (⟨#[10]⟩ : ByteArray)).size ≤ 9223372036854775807
              ·rw [if_pos c22] at H
               have c22b0 := eq_true c22
               have c22b1 : decide (x7_1.size + (((((t133 ++ (⟨#[32]⟩ : ByteArray)) ++ t135) ++ (⟨#[32]⟩ : ByteArray)) ++ t137) ++ (⟨#[10]⟩ : ByteArray)).size ≤ 9223372036854775807) = true := decide_eq_true c22
               try have c22b2 : (9223372036854775807 < x7_1.size + (((((t133 ++ (⟨#[32]⟩ : ByteArray)) ++ t135) ++ (⟨#[32]⟩ : ByteArray)) ++ t137) ++ (⟨#[10]⟩ : ByteArray)).size) = False := eq_false (Nat.not_lt.2 c22)
               have c22b3 : (9223372036854775807 < x7_1.size + (t133.size + 1 + t135.size + 1 + t137.size + 1)) = False := eq_false (Nat.not_lt.2 (by have h := c22; simp only [ByteArray.size_append] at h; exact h))
               have H' := Aside0.mk H
               clear H
               try go_wp2
               have n0_ := Aside0.mk (below_drew1 HB.out)
               clear HB
               have HB := n0_
               clear n0_
               have p132 : 0 ≤ (x8_1 : Int) := of_decide_eq_true (by first | (with_reducible assumption) | assumption)
               have q132 : x8_1 < (l2.length : Int) := of_decide_eq_true (by first | (with_reducible assumption) | assumption)
               obtain ⟨ad132, e132, hx132_0, hx132_1, hx132_2⟩ := at_T33 HR2.out x8_1 p132 q132
               have hw132_2 := hx132_2
               have hw132_1 := hx132_1
               have hw132_0 := hx132_0
               cases e132
               replace hx132_0 := (HB.out.cell (World.block_lt_of_cell? w _ hx132_0)).trans hx132_0
               replace hx132_1 := (HB.out.cell (World.block_lt_of_cell? w _ hx132_1)).trans hx132_1
               replace hx132_2 := (HB.out.cell (World.block_lt_of_cell? w _ hx132_2)).trans hx132_2
               replace p132 := eq_true p132
               replace q132 := eq_true q132
               have p134 : 0 ≤ (x8_1 : Int) := of_decide_eq_true (by first | (with_reducible assumption) | assumption)
               have q134 : x8_1 < (l2.length : Int) := of_decide_eq_true (by first | (with_reducible assumption) | assumption)
               obtain ⟨ad134, e134, hx134_0, hx134_1, hx134_2⟩ := at_T33 HR2.out x8_1 p134 q134
               have hw134_2 := hx134_2
               have hw134_1 := hx134_1
               have hw134_0 := hx134_0
               obtain rfl : ad132 = ad134 := (by injection e134)
               replace hx134_0 := (HB.out.cell (World.block_lt_of_cell? w _ hx134_0)).trans hx134_0
               replace hx134_1 := (HB.out.cell (World.block_lt_of_cell? w _ hx134_1)).trans hx134_1
               replace hx134_2 := (HB.out.cell (World.block_lt_of_cell? w _ hx134_2)).trans hx134_2
               replace p134 := eq_true p134
               replace q134 := eq_true q134
               have p136 : 0 ≤ (x8_1 : Int) := of_decide_eq_true (by first | (with_reducible assumption) | assumption)
               have q136 : x8_1 < (l2.length : Int) := of_decide_eq_true (by first | (with_reducible assumption) | assumption)
               obtain ⟨ad136, e136, hx136_0, hx136_1, hx136_2⟩ := at_T33 HR2.out x8_1 p136 q136
               have hw136_2 := hx136_2
               have hw136_1 := hx136_1
               have hw136_0 := hx136_0
               obtain rfl : ad132 = ad136 := (by injection e136)
               replace hx136_0 := (HB.out.cell (World.block_lt_of_cell? w _ hx136_0)).trans hx136_0
               replace hx136_1 := (HB.out.cell (World.block_lt_of_cell? w _ hx136_1)).trans hx136_1
               replace hx136_2 := (HB.out.cell (World.block_lt_of_cell? w _ hx136_2)).trans hx136_2
               replace p136 := eq_true p136
               replace q136 := eq_true q136
               refine start_ (n := 26) (S := fun w' => w'.cell? (ad132.add ((x8_1).toNat * 3)) = some (.int .i64 ((rd_T33 l2 x8_1).f0)) ∧ w'.cell? ⟨(ad132.add ((x8_1).toNat * 3)).block, (ad132.add ((x8_1).toNat * 3)).off + 1, none⟩ = some (.int .i64 ((rd_T33 l2 x8_1).f1)) ∧ w'.cell? ⟨(ad132.add ((x8_1).toNat * 3)).block, (ad132.add ((x8_1).toNat * 3)).off + 2, none⟩ = some (.int .i64 ((rd_T33 l2 x8_1).f2)) ∧ w'.cell? (ad132.add ((x8_1).toNat * 3)) = some (.int .i64 ((rd_T33 l2 x8_1).f0)) ∧ w'.cell? ⟨(ad132.add ((x8_1).toNat * 3)).block, (ad132.add ((x8_1).toNat * 3)).off + 1, none⟩ = some (.int .i64 ((rd_T33 l2 x8_1).f1)) ∧ w'.cell? ⟨(ad132.add ((x8_1).toNat * 3)).block, (ad132.add ((x8_1).toNat * 3)).off + 2, none⟩ = some (.int .i64 ((rd_T33 l2 x8_1).f2)) ∧ w'.cell? (ad132.add ((x8_1).toNat * 3)) = some (.int .i64 ((rd_T33 l2 x8_1).f0)) ∧ w'.cell? ⟨(ad132.add ((x8_1).toNat * 3)).block, (ad132.add ((x8_1).toNat * 3)).off + 1, none⟩ = some (.int .i64 ((rd_T33 l2 x8_1).f1)) ∧ w'.cell? ⟨(ad132.add ((x8_1).toNat * 3)).block, (ad132.add ((x8_1).toNat * 3)).off + 2, none⟩ = some (.int .i64 ((rd_T33 l2 x8_1).f2))) (ds := []) #[false, false, false, false, false, false, false, false, false, false, false, false, false, false, false, false, false, false, false, false, false, false, false, false, false, false] (by kernel_rfl) rfl rfl ⟨((HB.out.cell (World.block_lt_of_cell? w _ hw132_0)).trans hw132_0), ((HB.out.cell (World.block_lt_of_cell? w _ hw132_1)).trans hw132_1), ((HB.out.cell (World.block_lt_of_cell? w _ hw132_2)).trans hw132_2), ((HB.out.cell (World.block_lt_of_cell? w _ hw134_0)).trans hw134_0), ((HB.out.cell (World.block_lt_of_cell? w _ hw134_1)).trans hw134_1), ((HB.out.cell (World.block_lt_of_cell? w _ hw134_2)).trans hw134_2), ((HB.out.cell (World.block_lt_of_cell? w _ hw136_0)).trans hw136_0), ((HB.out.cell (World.block_lt_of_cell? w _ hw136_1)).trans hw136_1), ((HB.out.cell (World.block_lt_of_cell? w _ hw136_2)).trans hw136_2)⟩ (fun hHeld => ?_); refine with_tabW relievoref22_Text.tab5 relievoref22_Text.bits5 (fun HT_ HW_ => ?_)
               generalize wr.drew = w23 at HB hx132_0 hx132_1 hx132_2 hx134_0 hx134_1 hx134_2 hx136_0 hx136_1 hx136_2 hHeld ⊢
               refine pure_ (i := 0) (N := some 23) (v := ?_) (a' := ?_) #[true, false, false, false, false, false, false, false, false, false, false, false, false, false, false, false, false, false, false, false, false, false, false, false, false, false] rfl rfl (any_of HT_.out (by kernel_rfl)) (fun _ _ _ h => h) (Or.inl ⟨by rfl, ?_⟩) ?_ ?_
               rotate_left
               ·intro w'
                go_simp
                with_reducible rfl
               rotate_left
               ·simp only [Act.put, List.setIfInBounds_toArray, List.set_cons_zero, List.set_cons_succ, i64_w, i32_w]
                rfl
               refine pure_ (i := 1) (N := some 24) (v := ?_) (a' := ?_) #[true, true, false, false, false, false, false, false, false, false, false, false, false, false, false, false, false, false, false, false, false, false, false, false, false, false] rfl rfl (any_of HT_.out (by kernel_rfl)) (fun _ _ _ h => h) (Or.inl ⟨by rfl, ?_⟩) ?_ ?_
               rotate_left
               ·intro w'
                go_simp
                with_reducible rfl
               rotate_left
               ·simp only [Act.put, List.setIfInBounds_toArray, List.set_cons_zero, List.set_cons_succ, i64_w, i32_w]
                rfl
               refine pure_ (i := 2) (N := some 25) (v := ?_) (a' := ?_) #[true, true, true, false, false, false, false, false, false, false, false, false, false, false, false, false, false, false, false, false, false, false, false, false, false, false] rfl rfl (any_of HT_.out (by kernel_rfl)) (fun _ _ _ h => h) (Or.inl ⟨by rfl, ?_⟩) ?_ ?_
               rotate_left
               ·intro w'
                go_simp
                with_reducible rfl
               rotate_left
               ·simp only [Act.put, List.setIfInBounds_toArray, List.set_cons_zero, List.set_cons_succ, i64_w, i32_w]
                rfl
               refine pure_ (i := 3) (N := some 26) (v := ?_) (a' := ?_) #[true, true, true, true, false, false, false, false, false, false, false, false, false, false, false, false, false, false, false, false, false, false, false, false, false, false] rfl rfl (any_of HT_.out (by kernel_rfl)) (fun _ _ _ h => h) (Or.inl ⟨by rfl, ?_⟩) ?_ ?_
               rotate_left
               ·intro w'
                go_simp
                with_reducible rfl
               rotate_left
               ·simp only [Act.put, List.setIfInBounds_toArray, List.set_cons_zero, List.set_cons_succ, i64_w, i32_w]
                rfl
               refine pure_ (i := 4) (N := some 27) (v := ?_) (a' := ?_) #[true, true, true, true, true, false, false, false, false, false, false, false, false, false, false, false, false, false, false, false, false, false, false, false, false, false] rfl rfl (any_of HT_.out (by kernel_rfl)) (fun _ _ _ h => h) (Or.inl ⟨by rfl, ?_⟩) ?_ ?_
               rotate_left
               ·intro w'
                go_simp
                with_reducible rfl
               rotate_left
               ·simp only [Act.put, List.setIfInBounds_toArray, List.set_cons_zero, List.set_cons_succ, i64_w, i32_w]
                rfl
               refine pure_ (i := 8) (N := some 31) (v := ?_) (a' := ?_) #[true, true, true, true, true, false, false, false, true, false, false, false, false, false, false, false, false, false, false, false, false, false, false, false, false, false] rfl rfl (any_of HT_.out (by kernel_rfl)) (fun _ _ _ h => h) (Or.inl ⟨by rfl, ?_⟩) ?_ ?_
               rotate_left
               ·intro w'
                go_simp
                with_reducible rfl
               rotate_left
               ·simp only [Act.put, List.setIfInBounds_toArray, List.set_cons_zero, List.set_cons_succ, i64_w, i32_w]
                rfl
               refine pure_ (i := 9) (N := some 32) (v := ?_) (a' := ?_) #[true, true, true, true, true, false, false, false, true, true, false, false, false, false, false, false, false, false, false, false, false, false, false, false, false, false] rfl rfl (any_of HT_.out (by kernel_rfl)) (fun _ _ _ h => h) (Or.inl ⟨by rfl, ?_⟩) ?_ ?_
               rotate_left
               ·intro w'
                go_simp
                with_reducible rfl
               rotate_left
               ·simp only [Act.put, List.setIfInBounds_toArray, List.set_cons_zero, List.set_cons_succ, i64_w, i32_w]
                rfl
               refine pure_ (i := 10) (N := some 33) (v := ?_) (a' := ?_) #[true, true, true, true, true, false, false, false, true, true, true, false, false, false, false, false, false, false, false, false, false, false, false, false, false, false] rfl rfl (any_of HT_.out (by kernel_rfl)) (fun _ _ _ h => h) (Or.inl ⟨by rfl, ?_⟩) ?_ ?_
               rotate_left
               ·intro w'
                go_simp
                with_reducible rfl
               rotate_left
               ·simp only [Act.put, List.setIfInBounds_toArray, List.set_cons_zero, List.set_cons_succ, i64_w, i32_w]
                rfl
               refine pure_ (i := 11) (N := some 34) (v := ?_) (a' := ?_) #[true, true, true, true, true, false, false, false, true, true, true, true, false, false, false, false, false, false, false, false, false, false, false, false, false, false] rfl rfl (any_of HT_.out (by kernel_rfl)) (fun _ _ _ h => h) (Or.inl ⟨by rfl, ?_⟩) ?_ ?_
               rotate_left
               ·intro w'
                go_simp
                with_reducible rfl
               rotate_left
               ·simp only [Act.put, List.setIfInBounds_toArray, List.set_cons_zero, List.set_cons_succ, i64_w, i32_w]
                rfl
               refine pure_ (i := 16) (N := some 39) (v := ?_) (a' := ?_) #[true, true, true, true, true, false, false, false, true, true, true, true, false, false, false, false, true, false, false, false, false, false, false, false, false, false] rfl rfl (any_of HT_.out (by kernel_rfl)) (fun _ _ _ h => h) (Or.inl ⟨by rfl, ?_⟩) ?_ ?_
               rotate_left
               ·intro w'
                go_simp
                with_reducible rfl
               rotate_left
               ·simp only [Act.put, List.setIfInBounds_toArray, List.set_cons_zero, List.set_cons_succ, i64_w, i32_w]
                rfl
               refine pure_ (i := 17) (N := some 40) (v := ?_) (a' := ?_) #[true, true, true, true, true, false, false, false, true, true, true, true, false, false, false, false, true, true, false, false, false, false, false, false, false, false] rfl rfl (any_of HT_.out (by kernel_rfl)) (fun _ _ _ h => h) (Or.inl ⟨by rfl, ?_⟩) ?_ ?_
               rotate_left
               ·intro w'
                go_simp
                with_reducible rfl
               rotate_left
               ·simp only [Act.put, List.setIfInBounds_toArray, List.set_cons_zero, List.set_cons_succ, i64_w, i32_w]
                rfl
               refine pure_ (i := 18) (N := some 41) (v := ?_) (a' := ?_) #[true, true, true, true, true, false, false, false, true, true, true, true, false, false, false, false, true, true, true, false, false, false, false, false, false, false] rfl rfl (any_of HT_.out (by kernel_rfl)) (fun _ _ _ h => h) (Or.inl ⟨by rfl, ?_⟩) ?_ ?_
               rotate_left
               ·intro w'
                go_simp
                with_reducible rfl
               rotate_left
               ·simp only [Act.put, List.setIfInBounds_toArray, List.set_cons_zero, List.set_cons_succ, i64_w, i32_w]
                rfl
               refine pure_ (i := 19) (N := some 42) (v := ?_) (a' := ?_) #[true, true, true, true, true, false, false, false, true, true, true, true, false, false, false, false, true, true, true, true, false, false, false, false, false, false] rfl rfl (any_of HT_.out (by kernel_rfl)) (fun _ _ _ h => h) (Or.inl ⟨by rfl, ?_⟩) ?_ ?_
               rotate_left
               ·intro w'
                go_simp
                with_reducible rfl
               rotate_left
               ·simp only [Act.put, List.setIfInBounds_toArray, List.set_cons_zero, List.set_cons_succ, i64_w, i32_w]
                rfl
               refine take_ (i := 5) (N := some 28) (v := ?_) (a' := ?_) #[true, true, true, true, true, true, false, false, true, true, true, true, false, false, false, false, true, true, true, true, false, false, false, false, false, false] rfl rfl (take_ofW HT_.out HW_.out (by kernel_rfl)) (fun _ _ _ h => h) (Or.inl ⟨by rfl, ?_⟩) hHeld ?_ ?_
               rotate_left
               ·rintro w' ⟨s0, s1, s2, s3, s4, s5, s6, s7, s8⟩
                go_simp
                with_reducible rfl
               rotate_left
               ·simp only [Act.put, List.setIfInBounds_toArray, List.set_cons_zero, List.set_cons_succ, i64_w, i32_w]
                rfl
               refine take_ (i := 12) (N := some 35) (v := ?_) (a' := ?_) #[true, true, true, true, true, true, false, false, true, true, true, true, true, false, false, false, true, true, true, true, false, false, false, false, false, false] rfl rfl (take_ofW HT_.out HW_.out (by kernel_rfl)) (fun _ _ _ h => h) (Or.inl ⟨by rfl, ?_⟩) hHeld ?_ ?_
               rotate_left
               ·rintro w' ⟨s0, s1, s2, s3, s4, s5, s6, s7, s8⟩
                go_simp
                with_reducible rfl
               rotate_left
               ·simp only [Act.put, List.setIfInBounds_toArray, List.set_cons_zero, List.set_cons_succ, i64_w, i32_w]
                rfl
               refine take_ (i := 20) (N := some 43) (v := ?_) (a' := ?_) #[true, true, true, true, true, true, false, false, true, true, true, true, true, false, false, false, true, true, true, true, true, false, false, false, false, false] rfl rfl (take_ofW HT_.out HW_.out (by kernel_rfl)) (fun _ _ _ h => h) (Or.inl ⟨by rfl, ?_⟩) hHeld ?_ ?_
               rotate_left
               ·rintro w' ⟨s0, s1, s2, s3, s4, s5, s6, s7, s8⟩
                go_simp
                with_reducible rfl
               rotate_left
               ·simp only [Act.put, List.setIfInBounds_toArray, List.set_cons_zero, List.set_cons_succ, i64_w, i32_w]
                rfl
               refine one_ (i := 6) (N := some 29) #[true, true, true, true, true, true, true, false, true, true, true, true, true, false, false, false, true, true, true, true, true, false, false, false, false, false] rfl rfl (one_of HT_.out (by kernel_rfl)) (by decide) (fun K hK => ?_)
               refine goes_ Tryd.func26 (by kernel_rfl) rfl #[.int .i64 ((rd_T33 l2 x8_1).f0)] (by rfl) rfl rfl (by (try simp only [List.map_toArray, List.map_cons, List.map_nil]); first | done | rfl | (simp only [List.length_drop, List.length_take]; rfl)) ?_
               with_reducible refine (relievoref00_Show.calls k1 ((rd_T33 l2 x8_1).f0) t133 _ A14.out).mono ?_
               rintro e w24 ⟨rfl, hb⟩
               refine ⟨_, rfl, ?_⟩
               have n0_ := Aside0.mk (below_step (by repeat (first | (with_reducible first | exact HB.out | apply below_alloc | apply pw_below_drewN | apply below_drew1) | exact HB.out)) hb)
               clear HB
               have HB := n0_
               clear n0_
               (try clear hb)
               (try clear hb2)
               (try clear hk)
               (try clear hi)
               refine hK.out _ _ ⟨((HB.out.cell (World.block_lt_of_cell? w _ hw132_0)).trans hw132_0), ((HB.out.cell (World.block_lt_of_cell? w _ hw132_1)).trans hw132_1), ((HB.out.cell (World.block_lt_of_cell? w _ hw132_2)).trans hw132_2), ((HB.out.cell (World.block_lt_of_cell? w _ hw134_0)).trans hw134_0), ((HB.out.cell (World.block_lt_of_cell? w _ hw134_1)).trans hw134_1), ((HB.out.cell (World.block_lt_of_cell? w _ hw134_2)).trans hw134_2), ((HB.out.cell (World.block_lt_of_cell? w _ hw136_0)).trans hw136_0), ((HB.out.cell (World.block_lt_of_cell? w _ hw136_1)).trans hw136_1), ((HB.out.cell (World.block_lt_of_cell? w _ hw136_2)).trans hw136_2)⟩ (fun hHeld => ?_)
               clear hK K
               refine norm_ (a' := ?_) ?_ ?_
               rotate_left
               ·show Act.put _ (some 29) _ = _
                simp only [Act.put, List.setIfInBounds_toArray, List.set_cons_zero, List.set_cons_succ, i64_w, i32_w]
                rfl
               refine pure_ (i := 7) (N := some 30) (v := ?_) (a' := ?_) #[true, true, true, true, true, true, true, true, true, true, true, true, true, false, false, false, true, true, true, true, true, false, false, false, false, false] rfl rfl (any_of HT_.out (by kernel_rfl)) (fun _ _ _ h => h) (Or.inl ⟨by rfl, ?_⟩) ?_ ?_
               rotate_left
               ·intro w'
                go_simp
                with_reducible rfl
               rotate_left
               ·simp only [Act.put, List.setIfInBounds_toArray, List.set_cons_zero, List.set_cons_succ, i64_w, i32_w]
                rfl
               refine one_ (i := 13) (N := some 36) #[true, true, true, true, true, true, true, true, true, true, true, true, true, true, false, false, true, true, true, true, true, false, false, false, false, false] rfl rfl (one_of HT_.out (by kernel_rfl)) (by decide) (fun K hK => ?_)
               refine goes_ Tryd.func26 (by kernel_rfl) rfl #[.int .i64 ((rd_T33 l2 x8_1).f1)] (by rfl) rfl rfl (by (try simp only [List.map_toArray, List.map_cons, List.map_nil]); first | done | rfl | (simp only [List.length_drop, List.length_take]; rfl)) ?_
               with_reducible refine (relievoref00_Show.calls k1 ((rd_T33 l2 x8_1).f1) t135 _ A16.out).mono ?_
               rintro e w25 ⟨rfl, hb⟩
               refine ⟨_, rfl, ?_⟩
               have n0_ := Aside0.mk (below_step (by repeat (first | (with_reducible first | exact HB.out | apply below_alloc | apply pw_below_drewN | apply below_drew1) | exact HB.out)) hb)
               clear HB
               have HB := n0_
               clear n0_
               (try clear hb)
               (try clear hb2)
               (try clear hk)
               (try clear hi)
               refine hK.out _ _ ⟨((HB.out.cell (World.block_lt_of_cell? w _ hw132_0)).trans hw132_0), ((HB.out.cell (World.block_lt_of_cell? w _ hw132_1)).trans hw132_1), ((HB.out.cell (World.block_lt_of_cell? w _ hw132_2)).trans hw132_2), ((HB.out.cell (World.block_lt_of_cell? w _ hw134_0)).trans hw134_0), ((HB.out.cell (World.block_lt_of_cell? w _ hw134_1)).trans hw134_1), ((HB.out.cell (World.block_lt_of_cell? w _ hw134_2)).trans hw134_2), ((HB.out.cell (World.block_lt_of_cell? w _ hw136_0)).trans hw136_0), ((HB.out.cell (World.block_lt_of_cell? w _ hw136_1)).trans hw136_1), ((HB.out.cell (World.block_lt_of_cell? w _ hw136_2)).trans hw136_2)⟩ (fun hHeld => ?_)
               clear hK K
               refine norm_ (a' := ?_) ?_ ?_
               rotate_left
               ·show Act.put _ (some 36) _ = _
                simp only [Act.put, List.setIfInBounds_toArray, List.set_cons_zero, List.set_cons_succ, i64_w, i32_w]
                rfl
               refine pure_ (i := 14) (N := some 37) (v := ?_) (a' := ?_) #[true, true, true, true, true, true, true, true, true, true, true, true, true, true, true, false, true, true, true, true, true, false, false, false, false, false] rfl rfl (any_of HT_.out (by kernel_rfl)) (fun _ _ _ h => h) (Or.inl ⟨by rfl, ?_⟩) ?_ ?_
               rotate_left
               ·intro w'
                go_simp
                with_reducible rfl
               rotate_left
               ·simp only [Act.put, List.setIfInBounds_toArray, List.set_cons_zero, List.set_cons_succ, i64_w, i32_w]
                rfl
               refine pure_ (i := 15) (N := some 38) (v := ?_) (a' := ?_) #[true, true, true, true, true, true, true, true, true, true, true, true, true, true, true, true, true, true, true, true, true, false, false, false, false, false] rfl rfl (any_of HT_.out (by kernel_rfl)) (fun _ _ _ h => h) (Or.inl ⟨by rfl, ?_⟩) ?_ ?_
               rotate_left
               ·intro w'
                go_simp
                with_reducible rfl
               rotate_left
               ·simp only [Act.put, List.setIfInBounds_toArray, List.set_cons_zero, List.set_cons_succ, i64_w, i32_w]
                rfl
               refine one_ (i := 21) (N := some 44) #[true, true, true, true, true, true, true, true, true, true, true, true, true, true, true, true, true, true, true, true, true, true, false, false, false, false] rfl rfl (one_of HT_.out (by kernel_rfl)) (by decide) (fun K hK => ?_)
               refine goes_ Tryd.func26 (by kernel_rfl) rfl #[.int .i64 ((rd_T33 l2 x8_1).f2)] (by rfl) rfl rfl (by (try simp only [List.map_toArray, List.map_cons, List.map_nil]); first | done | rfl | (simp only [List.length_drop, List.length_take]; rfl)) ?_
               with_reducible refine (relievoref00_Show.calls k1 ((rd_T33 l2 x8_1).f2) t137 _ A19.out).mono ?_
               rintro e w26 ⟨rfl, hb⟩
               refine ⟨_, rfl, ?_⟩
               have n0_ := Aside0.mk (below_step (by repeat (first | (with_reducible first | exact HB.out | apply below_alloc | apply pw_below_drewN | apply below_drew1) | exact HB.out)) hb)
               clear HB
               have HB := n0_
               clear n0_
               (try clear hb)
               (try clear hb2)
               (try clear hk)
               (try clear hi)
               refine hK.out _ _ ⟨((HB.out.cell (World.block_lt_of_cell? w _ hw132_0)).trans hw132_0), ((HB.out.cell (World.block_lt_of_cell? w _ hw132_1)).trans hw132_1), ((HB.out.cell (World.block_lt_of_cell? w _ hw132_2)).trans hw132_2), ((HB.out.cell (World.block_lt_of_cell? w _ hw134_0)).trans hw134_0), ((HB.out.cell (World.block_lt_of_cell? w _ hw134_1)).trans hw134_1), ((HB.out.cell (World.block_lt_of_cell? w _ hw134_2)).trans hw134_2), ((HB.out.cell (World.block_lt_of_cell? w _ hw136_0)).trans hw136_0), ((HB.out.cell (World.block_lt_of_cell? w _ hw136_1)).trans hw136_1), ((HB.out.cell (World.block_lt_of_cell? w _ hw136_2)).trans hw136_2)⟩ (fun hHeld => ?_)
               clear hK K
               refine norm_ (a' := ?_) ?_ ?_
               rotate_left
               ·show Act.put _ (some 44) _ = _
                simp only [Act.put, List.setIfInBounds_toArray, List.set_cons_zero, List.set_cons_succ, i64_w, i32_w]
                rfl
               refine pure_ (i := 22) (N := some 45) (v := ?_) (a' := ?_) #[true, true, true, true, true, true, true, true, true, true, true, true, true, true, true, true, true, true, true, true, true, true, true, false, false, false] rfl rfl (any_of HT_.out (by kernel_rfl)) (fun _ _ _ h => h) (Or.inl ⟨by rfl, ?_⟩) ?_ ?_
               rotate_left
               ·intro w'
                go_simp
                with_reducible rfl
               rotate_left
               ·simp only [Act.put, List.setIfInBounds_toArray, List.set_cons_zero, List.set_cons_succ, i64_w, i32_w]
                rfl
               refine pure_ (i := 23) (N := some 46) (v := ?_) (a' := ?_) #[true, true, true, true, true, true, true, true, true, true, true, true, true, true, true, true, true, true, true, true, true, true, true, true, false, false] rfl rfl (any_of HT_.out (by kernel_rfl)) (fun _ _ _ h => h) (Or.inl ⟨by rfl, ?_⟩) ?_ ?_
               rotate_left
               ·intro w'
                go_simp
                with_reducible rfl
               rotate_left
               ·simp only [Act.put, List.setIfInBounds_toArray, List.set_cons_zero, List.set_cons_succ, i64_w, i32_w]
                rfl
               refine pure_ (i := 24) (N := some 47) (v := ?_) (a' := ?_) #[true, true, true, true, true, true, true, true, true, true, true, true, true, true, true, true, true, true, true, true, true, true, true, true, true, false] rfl rfl (any_of HT_.out (by kernel_rfl)) (fun _ _ _ h => h) (Or.inl ⟨by rfl, ?_⟩) ?_ ?_
               rotate_left
               ·intro w'
                go_simp
                with_reducible rfl
               rotate_left
               ·simp only [Act.put, List.setIfInBounds_toArray, List.set_cons_zero, List.set_cons_succ, i64_w, i32_w]
                rfl
               refine pure_ (i := 25) (N := some 7) (v := ?_) (a' := ?_) #[true, true, true, true, true, true, true, true, true, true, true, true, true, true, true, true, true, true, true, true, true, true, true, true, true, true] rfl rfl (any_of HT_.out (by kernel_rfl)) (fun _ _ _ h => h) (Or.inl ⟨by rfl, ?_⟩) ?_ ?_
               rotate_left
               ·intro w'
                go_simp
                with_reducible rfl
               rotate_left
               ·simp only [Act.put, List.setIfInBounds_toArray, List.set_cons_zero, List.set_cons_succ, i64_w, i32_w]
                rfl
               refine done_ (done_of HT_.out (by kernel_rfl)) ?_
               try go_wp2
               go_roundg k1
               case measure => have := HK1.out; omega
               case rel => exact ⟨(x7_1 ++ (((((t133 ++ (⟨#[32]⟩ : ByteArray)) ++ t135) ++ (⟨#[32]⟩ : ByteArray)) ++ t137) ++ (⟨#[10]⟩ : ByteArray))), (wrap64 (x8_1 + 1)), (by first | rfl | (simp; done) | (simp [*]; done)), (by first | rfl | (simp; done) | (simp [*]; done)), H', ⟨by have := HK1.out; omega⟩, ⟨by repeat (first | (with_reducible first | exact HB.out | apply below_alloc | apply pw_below_drewN | apply below_drew1) | exact HB.out)⟩⟩
              rw [if_neg c22] at H
              exact absurd H (by simp)
             rw [if_neg c21] at H
             exact absurd H (by simp)
            rw [if_neg c20] at H
            exact absurd H (by simp)
           rw [if_neg c18] at H
           exact absurd H (by simp)
          rw [if_neg c17] at H
          exact absurd H (by simp)
         rw [if_neg c15] at H
         exact absurd H (by simp)
        rw [if_neg c13] at H
        exact absurd H (by simp)
       rw [if_neg c12] at H
       have c12b0 : decide (x8_1 < (l2.length : Int)) = false := decide_eq_false c12
       clear c12
       obtain rfl := Option.some.inj H
       go_wp2
       go_ret
       exact ⟨by first | rfl | (simp [errW_none, errW_some] <;> rfl) | (simp [*, errW_none, errW_some] <;> rfl), by repeat (first | (with_reducible first | exact HB.out | apply below_alloc | apply pw_below_drewN | apply below_drew1) | exact HB.out)⟩
    rw [if_neg c9] at H
    exact absurd H (by simp)
   rw [if_neg c8] at H
   exact absurd H (by simp)
  rw [if_neg c6] at H
  exact absurd H (by simp)
 rw [if_neg c5] at H
 exact absurd H (by simp)

end Go.Proofs.YtibecmeajopmeaaDoor.G
