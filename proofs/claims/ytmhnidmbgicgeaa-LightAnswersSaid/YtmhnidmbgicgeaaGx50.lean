-- Written by a program of this session (wip/gen), out of the translation; Lean checks it.
import Derived.Test.YtmhnidmbgicgeaaNumAll
import Derived.Test.YtmhnidmbgicgeaaNumAll
import Derived.Test.YtmhnidmbgicgeaaGx0
import Derived.Test.YtmhnidmbgicgeaaGx1
import Derived.Test.YtmhnidmbgicgeaaGx30
import Derived.Test.YtmhnidmbgicgeaaGx32
import Derived.Test.YtmhnidmbgicgeaaGx33
namespace Go.Proofs.Ytmhnidmbgicgeaa.G
open Go.RowKit Go.Proofs.YtmhnidmbgicgeaaW.PrintWords Go.Proofs.YtmhnidmbgicgeaaW.PrintLast Go.Proofs.YtmhnidmbgicgeaaW.PrintMore
attribute [local go_sem] max2_int min2_int max_two min_two max_three min_three max_four min_four   -- for this text's walks alone
set_option linter.unusedVariables false
set_option linter.unusedSimpArgs false

attribute [local go_sem high] eqA26
/-! ### relievoref19_Cos: function 21 -/
def relievoref19_Cos.j0 : Nat → Bool → Int → Int → Int → Int → Int → Int → Option (Int)
  | 0, _, _, _, _, _, _, _ => none
  | k + 1, x24, x322000, x322001, x322002, x323000, x323001, x323002 => if x24 = true then (some 0) else ((relievoref02_Dot.f x322000 x322001 x322002 x322000 x322001 x322002).bind fun t325 => ((relievoref02_Dot.f x323000 x323001 x323002 x323000 x323001 x323002).bind fun t326 => ((relievoref01_Mul.f t325 t326).bind fun bt327 => ((relievoref01_Sqrt.f bt327.1 bt327.2).bind fun bt329 => ((relievoref02_Dot.f x322000 x322001 x322002 x323000 x323001 x323002).bind fun t331 => ((relievoref19_Floor.f (wrap64 (256 * t331)) bt329.1).bind fun t332 => (some (mn (mx t332 (-256)) 256))))))))
def relievoref19_Cos.f (k : Nat) (a0_0 : Int) (a0_1 : Int) (a0_2 : Int) (a1_0 : Int) (a1_1 : Int) (a1_2 : Int) : Option (Int) := if (a0_0 == 0 && (a0_1 == 0 && (a0_2 == 0))) = true then (relievoref19_Cos.j0 k true a0_0 a0_1 a0_2 a1_0 a1_1 a1_2) else (if (a1_0 == 0 && (a1_1 == 0 && (a1_2 == 0))) = true then (relievoref19_Cos.j0 k true a0_0 a0_1 a0_2 a1_0 a1_1 a1_2) else ((relievoref00_Within.f a0_0 a0_1 a0_2 32768).bind fun t323 => (if t323 = true then ((relievoref00_Within.f a1_0 a1_1 a1_2 32768).bind fun t324 => (relievoref19_Cos.j0 k (!t324) a0_0 a0_1 a0_2 a1_0 a1_1 a1_2)) else (relievoref19_Cos.j0 k true a0_0 a0_1 a0_2 a1_0 a1_1 a1_2))))
theorem relievoref19_Cos.mono_l : ∀ k, (∀ y0 y1 y2 y3 y4 y5 y6, LeO (relievoref19_Cos.j0 k y0 y1 y2 y3 y4 y5 y6) (relievoref19_Cos.j0 (k + 1) y0 y1 y2 y3 y4 y5 y6))
  | 0 => fun _ _ _ _ _ _ _ r h => by simp [relievoref19_Cos.j0] at h
  | k + 1 => by
    have ih0 := relievoref19_Cos.mono_l k
    · intro y0 y1 y2 y3 y4 y5 y6
      unfold relievoref19_Cos.j0
      repeat' first
      | (with_reducible exact ih0 _ _ _ _ _ _ _)
      | (with_reducible exact LeO.refl _)
      | (with_reducible exact LeO.none _)
      | (with_reducible refine LeO.ite ?_ ?_)
      | (with_reducible refine LeO.bind ?_ (fun _ => ?_))
      | exact ih0 _ _ _ _ _ _ _
      | exact LeO.none _
      | refine LeO.ite ?_ ?_
      | refine LeO.bind ?_ (fun _ => ?_)
theorem relievoref19_Cos.mono : ∀ a0 a1 a2 a3 a4 a5 k, LeO (relievoref19_Cos.f k a0 a1 a2 a3 a4 a5) (relievoref19_Cos.f (k + 1) a0 a1 a2 a3 a4 a5) := by
  intro a0 a1 a2 a3 a4 a5 k
  have ih0 := relievoref19_Cos.mono_l k
  unfold relievoref19_Cos.f
  repeat' first
      | (with_reducible exact ih0 _ _ _ _ _ _ _)
      | (with_reducible exact LeO.refl _)
      | (with_reducible exact LeO.none _)
      | (with_reducible refine LeO.ite ?_ ?_)
      | (with_reducible refine LeO.bind ?_ (fun _ => ?_))
      | exact ih0 _ _ _ _ _ _ _
      | exact LeO.none _
      | refine LeO.ite ?_ ?_
      | refine LeO.bind ?_ (fun _ => ?_)
def relievoref19_Cos.T3 : Bool × List (List Nat × List Nat) := (true, [([], []), ([], []), ([0, 1], [0, 1]), ([], []), ([], []), ([3, 4, 2], [3, 4]), ([2, 5, 5], [2, 5]), ([6, 6], [6]), ([7], [7]), ([8], [8]), ([8], [8]), ([9, 7, 0, 1, 2, 3, 4, 5, 6, 7, 8, 9], [9]), ([10, 11, 0, 1, 2, 3, 4, 5, 6, 7, 8, 9, 10, 11], [10])])
def relievoref19_Cos.B3 : List Nat := [0, 0, 3, 0, 0, 31, 63, 127, 255, 511, 511, 1023, 4095]
theorem relievoref19_Cos.tab3 : rtab .any (opsOf Try.f21 3) = relievoref19_Cos.T3 := by kernel_rfl
theorem relievoref19_Cos.bits3 : waitsOk relievoref19_Cos.T3.2 relievoref19_Cos.B3 = true := by kernel_rfl
set_option maxHeartbeats 8000000 in
set_option maxRecDepth 100000 in
theorem relievoref19_Cos.calls (k : Nat) (a0_0 : Int) (a0_1 : Int) (a0_2 : Int) (a1_0 : Int) (a1_1 : Int) (a1_2 : Int) (r : Int) (w : World) (h : relievoref19_Cos.f k a0_0 a0_1 a0_2 a1_0 a1_1 a1_2 = some r) :
    Calls Try.prog 21 #[.agg #[.int .i64 a0_0, .int .i64 a0_1, .int .i64 a0_2], .agg #[.int .i64 a1_0, .int .i64 a1_1, .int .i64 a1_2]] w fun e w' => e = .returned (.int .i64 r) ∧ Below w.heap.size w w' := by
 have hu26 := Try.underlying26
 have HB := Aside0.mk (Below.refl w.heap.size w)
 have H : (if (a0_0 == 0 && (a0_1 == 0 && (a0_2 == 0))) = true then (relievoref19_Cos.j0 k true a0_0 a0_1 a0_2 a1_0 a1_1 a1_2) else (if (a1_0 == 0 && (a1_1 == 0 && (a1_2 == 0))) = true then (relievoref19_Cos.j0 k true a0_0 a0_1 a0_2 a1_0 a1_1 a1_2) else ((relievoref00_Within.f a0_0 a0_1 a0_2 32768).bind fun t323 => (if t323 = true then ((relievoref00_Within.f a1_0 a1_1 a1_2 32768).bind fun t324 => (relievoref19_Cos.j0 k (!t324) a0_0 a0_1 a0_2 a1_0 a1_1 a1_2)) else (relievoref19_Cos.j0 k true a0_0 a0_1 a0_2 a1_0 a1_1 a1_2))))) = some r := h
 clear h
 have HC3 := Aside0.mk H
 clear H
 go_enter Try.func21, Try.ntmps21
 go_upto_region 1 with (first | ((with_reducible refine gate_dst (N := 2) rfl ?_); refine box_event ?hg (N := 2) ?hd (cs := #[.int .i64 a0_0, .int .i64 a0_1, .int .i64 a0_2]) (t := 26) ?hr ?_; (case hd => rfl); (case hg => rfl); (case hr => first | (go_simp; done) | (go_simp; rfl)); intro gb321 hg w4 hbox hb; have BK321 := Aside0.mk (hbox); have GE321 := Aside0.mk (bG hg (by first | exact HB.out | (repeat (first | exact HB.out | apply pw_below_drewN | apply below_drew1 | apply below_alloc)))); replace HB := Aside0.mk (below_step (by first | exact HB.out | (repeat (first | exact HB.out | apply pw_below_drewN | apply below_drew1 | apply below_alloc))) hb); clear hb hbox hg) | ((with_reducible refine gate_dst (N := 3) rfl ?_); refine box_event ?hg (N := 3) ?hd (cs := #[.int .i64 a1_0, .int .i64 a1_1, .int .i64 a1_2]) (t := 26) ?hr ?_; (case hd => rfl); (case hg => rfl); (case hr => first | (go_simp; done) | (go_simp; rfl)); intro gb322 hg w5 hbox hb; have BK322 := Aside0.mk (hbox); have GE322 := Aside0.mk (bG hg (by first | exact HB.out | (repeat (first | exact HB.out | apply pw_below_drewN | apply below_drew1 | apply below_alloc)))); have NB321_322 := cN hg BK321; have NB322_321 := cM hg BK321; replace BK321 := cB hb BK321; replace HB := Aside0.mk (below_step (by first | exact HB.out | (repeat (first | exact HB.out | apply pw_below_drewN | apply below_drew1 | apply below_alloc))) hb); clear hb hbox hg))
 (try simp only [Act.put, List.setIfInBounds_toArray, List.set_cons_zero, List.set_cons_succ])
 go_cut [24] (fun v24 wc => ∃ (kq : Nat) (x24_2 : Bool), v24 = .bool x24_2 ∧ Aside0 (relievoref19_Cos.j0 kq x24_2 a0_0 a0_1 a0_2 a1_0 a1_1 a1_2 = some r) ∧ Aside0 (kq ≤ k) ∧ Aside0 (wc.heap[gb321]? = some (.cells #[.int .i64 a0_0, .int .i64 a0_1, .int .i64 a0_2] 26 (0, 0))) ∧ Aside0 (wc.heap[gb322]? = some (.cells #[.int .i64 a1_0, .int .i64 a1_1, .int .i64 a1_2] 26 (0, 0))) ∧ Aside0 (Below w.heap.size w wc))
 case first =>
  have H := HC3.out
  clear HC3
  by_cases c6 : (a0_0 == 0 && (a0_1 == 0 && (a0_2 == 0))) = true
  ·rw [if_pos c6] at H
   have c6b0 : (a0_0 == 0 && (a0_1 == 0 && (a0_2 == 0))) = true := c6
   (try (have c6b1 : decide (a0_0 = 0 && (a0_1 == 0 && (a0_2 == 0))) = true := by simpa using c6))
   (try (have c6b2 : (a0_0 == 0 && (a0_1 == 0 && (a0_2 == 0))) = true := by simpa using c6))
   clear c6
   (first | rw [c6b0] | (simp only [i64_w, i32_w]; rw [c6b0]) | skip)
   have H' := Aside0.mk H
   clear H
   obtain ⟨hcz7_0, hcz7_1, hcz7_2⟩ := cells3 BK321.out
   go_wp2
   go_meet
   case rel => exact ⟨_, (true), (by first | rfl | (simp; done) | (simp [*]; done)), H', ⟨by first | omega | exact Nat.le_refl _⟩, ⟨BK321.out⟩, ⟨BK322.out⟩, ⟨by first | exact HB.out | (repeat (first | exact HB.out | apply pw_below_drewN | apply below_drew1 | apply below_alloc))⟩⟩
  rw [if_neg c6] at H
  have c6b0 : (a0_0 == 0 && (a0_1 == 0 && (a0_2 == 0))) = false := by simpa using c6
  (try (have c6b1 : decide (a0_0 = 0 && (a0_1 == 0 && (a0_2 == 0))) = false := by simpa using c6))
  (try (have c6b2 : (a0_0 == 0 && (a0_1 == 0 && (a0_2 == 0))) = false := by simpa using c6))
  (try (have c6b3 : ¬ (a0_0 = 0 && (a0_1 == 0 && (a0_2 == 0))) := by simpa using c6))
  clear c6
  (first | rw [c6b0] | (simp only [i64_w, i32_w]; rw [c6b0]) | skip)
  by_cases c8 : (a1_0 == 0 && (a1_1 == 0 && (a1_2 == 0))) = true
  ·rw [if_pos c8] at H
   have c8b0 : (a1_0 == 0 && (a1_1 == 0 && (a1_2 == 0))) = true := c8
   (try (have c8b1 : decide (a1_0 = 0 && (a1_1 == 0 && (a1_2 == 0))) = true := by simpa using c8))
   (try (have c8b2 : (a1_0 == 0 && (a1_1 == 0 && (a1_2 == 0))) = true := by simpa using c8))
   clear c8
   have H' := Aside0.mk H
   clear H
   obtain ⟨hcz9_0, hcz9_1, hcz9_2⟩ := cells3 BK321.out
   obtain ⟨hcz10_0, hcz10_1, hcz10_2⟩ := cells3 BK322.out
   go_wp2
   go_meet
   case rel => exact ⟨_, (true), (by first | rfl | (simp; done) | (simp [*]; done)), H', ⟨by first | omega | exact Nat.le_refl _⟩, ⟨BK321.out⟩, ⟨BK322.out⟩, ⟨by first | exact HB.out | (repeat (first | exact HB.out | apply pw_below_drewN | apply below_drew1 | apply below_alloc))⟩⟩
  rw [if_neg c8] at H
  have c8b0 : (a1_0 == 0 && (a1_1 == 0 && (a1_2 == 0))) = false := by simpa using c8
  (try (have c8b1 : decide (a1_0 = 0 && (a1_1 == 0 && (a1_2 == 0))) = false := by simpa using c8))
  (try (have c8b2 : (a1_0 == 0 && (a1_1 == 0 && (a1_2 == 0))) = false := by simpa using c8))
  (try (have c8b3 : ¬ (a1_0 = 0 && (a1_1 == 0 && (a1_2 == 0))) := by simpa using c8))
  clear c8
  replace H := Option.bind_eq_some_iff.mp H
  obtain ⟨t323, A110, H⟩ := H
  replace H : (if t323 = true then ((relievoref00_Within.f a1_0 a1_1 a1_2 32768).bind fun t324 => (relievoref19_Cos.j0 k (!t324) a0_0 a0_1 a0_2 a1_0 a1_1 a1_2)) else (relievoref19_Cos.j0 k true a0_0 a0_1 a0_2 a1_0 a1_1 a1_2)) = some r := H
  have A11 := Aside0.mk A110
  clear A110
  by_cases c12 : t323 = true
  ·subst c12
   have H1 : ((relievoref00_Within.f a1_0 a1_1 a1_2 32768).bind fun t324 => (relievoref19_Cos.j0 k (!t324) a0_0 a0_1 a0_2 a1_0 a1_1 a1_2)) = some r := by rw [if_pos rfl] at H; exact H
   clear H
   have H := H1
   clear H1
   replace H := Option.bind_eq_some_iff.mp H
   obtain ⟨t324, A130, H⟩ := H
   replace H : (relievoref19_Cos.j0 k (!t324) a0_0 a0_1 a0_2 a1_0 a1_1 a1_2) = some r := H
   have A13 := Aside0.mk A130
   clear A130
   have H' := Aside0.mk H
   clear H
   obtain ⟨hcz14_0, hcz14_1, hcz14_2⟩ := cells3 BK321.out
   obtain ⟨hcz15_0, hcz15_1, hcz15_2⟩ := cells3 BK322.out
   go_wp2_with (first | (go_at_call 42; (with_reducible refine (relievoref00_Within.calls a0_0 a0_1 a0_2 32768 true _ A11.out).mono ?_); rintro e w16 ⟨rfl, hb⟩; replace BK321 := cB hb BK321; replace BK322 := cB hb BK322; replace HB := Aside0.mk (below_step (by first | exact HB.out | (repeat (first | exact HB.out | apply pw_below_drewN | apply below_drew1 | apply below_alloc))) hb); (try clear hb); (try clear hb2); (try clear hk); (try clear hi); obtain ⟨hcz17_0, hcz17_1, hcz17_2⟩ := cells3 BK322.out) | (go_at_call 42; (with_reducible refine (relievoref00_Within.calls a1_0 a1_1 a1_2 32768 t324 _ A13.out).mono ?_); rintro e w18 ⟨rfl, hb⟩; replace BK321 := cB hb BK321; replace BK322 := cB hb BK322; replace HB := Aside0.mk (below_step (by first | exact HB.out | (repeat (first | exact HB.out | apply pw_below_drewN | apply below_drew1 | apply below_alloc))) hb); (try clear hb); (try clear hb2); (try clear hk); (try clear hi)))
   go_meet
   case rel => exact ⟨_, (!t324), (by first | rfl | (simp; done) | (simp [*]; done)), H', ⟨by first | omega | exact Nat.le_refl _⟩, ⟨BK321.out⟩, ⟨BK322.out⟩, ⟨by first | exact HB.out | (repeat (first | exact HB.out | apply pw_below_drewN | apply below_drew1 | apply below_alloc))⟩⟩
  replace c12 := Bool.eq_false_iff.mpr c12
  subst c12
  have H1 : (relievoref19_Cos.j0 k true a0_0 a0_1 a0_2 a1_0 a1_1 a1_2) = some r := by rw [if_neg (show ¬ (false = true) by decide)] at H; exact H
  clear H
  have H := H1
  clear H1
  have H' := Aside0.mk H
  clear H
  obtain ⟨hcz19_0, hcz19_1, hcz19_2⟩ := cells3 BK321.out
  obtain ⟨hcz20_0, hcz20_1, hcz20_2⟩ := cells3 BK322.out
  go_wp2_with (first | (go_at_call 42; (with_reducible refine (relievoref00_Within.calls a0_0 a0_1 a0_2 32768 false _ A11.out).mono ?_); rintro e w21 ⟨rfl, hb⟩; replace BK321 := cB hb BK321; replace BK322 := cB hb BK322; replace HB := Aside0.mk (below_step (by first | exact HB.out | (repeat (first | exact HB.out | apply pw_below_drewN | apply below_drew1 | apply below_alloc))) hb); (try clear hb); (try clear hb2); (try clear hk); (try clear hi)))
  go_meet
  case rel => exact ⟨_, (true), (by first | rfl | (simp; done) | (simp [*]; done)), H', ⟨by first | omega | exact Nat.le_refl _⟩, ⟨BK321.out⟩, ⟨BK322.out⟩, ⟨by first | exact HB.out | (repeat (first | exact HB.out | apply pw_below_drewN | apply below_drew1 | apply below_alloc))⟩⟩
 clear HC3
 obtain ⟨kq, x24_2, rfl, HA, HJ2, BK321, BK322, HB⟩ := hcut
 cases kq with
 | zero => exact absurd HA.out (by simp [relievoref19_Cos.j0])
 | succ kj2 =>
  have H := HA.out
  clear HA
  simp only [relievoref19_Cos.j0] at H
  by_cases c22 : x24_2 = true
  ·subst c22
   have H1 : (some 0) = some r := by rw [if_pos rfl] at H; exact H
   clear H
   have H := H1
   clear H1
   obtain rfl := Option.some.inj H
   go_wp2
   go_ret
   exact ⟨by first | rfl | (simp [errW_none, errW_some] <;> rfl) | (simp [*, errW_none, errW_some] <;> rfl), by first | exact HB.out | (repeat (first | exact HB.out | apply pw_below_drewN | apply below_drew1 | apply below_alloc))⟩
  replace c22 := Bool.eq_false_iff.mpr c22
  subst c22
  have H1 : ((relievoref02_Dot.f a0_0 a0_1 a0_2 a0_0 a0_1 a0_2).bind fun t325 => ((relievoref02_Dot.f a1_0 a1_1 a1_2 a1_0 a1_1 a1_2).bind fun t326 => ((relievoref01_Mul.f t325 t326).bind fun bt327 => ((relievoref01_Sqrt.f bt327.1 bt327.2).bind fun bt329 => ((relievoref02_Dot.f a0_0 a0_1 a0_2 a1_0 a1_1 a1_2).bind fun t331 => ((relievoref19_Floor.f (wrap64 (256 * t331)) bt329.1).bind fun t332 => (some (mn (mx t332 (-256)) 256)))))))) = some r := by rw [if_neg (show ¬ (false = true) by decide)] at H; exact H
  clear H
  have H := H1
  clear H1
  replace H := Option.bind_eq_some_iff.mp H
  obtain ⟨t325, A230, H⟩ := H
  replace H : ((relievoref02_Dot.f a1_0 a1_1 a1_2 a1_0 a1_1 a1_2).bind fun t326 => ((relievoref01_Mul.f t325 t326).bind fun bt327 => ((relievoref01_Sqrt.f bt327.1 bt327.2).bind fun bt329 => ((relievoref02_Dot.f a0_0 a0_1 a0_2 a1_0 a1_1 a1_2).bind fun t331 => ((relievoref19_Floor.f (wrap64 (256 * t331)) bt329.1).bind fun t332 => (some (mn (mx t332 (-256)) 256))))))) = some r := H
  have A23 := Aside0.mk A230
  clear A230
  replace H := Option.bind_eq_some_iff.mp H
  obtain ⟨t326, A240, H⟩ := H
  replace H : ((relievoref01_Mul.f t325 t326).bind fun bt327 => ((relievoref01_Sqrt.f bt327.1 bt327.2).bind fun bt329 => ((relievoref02_Dot.f a0_0 a0_1 a0_2 a1_0 a1_1 a1_2).bind fun t331 => ((relievoref19_Floor.f (wrap64 (256 * t331)) bt329.1).bind fun t332 => (some (mn (mx t332 (-256)) 256)))))) = some r := H
  have A24 := Aside0.mk A240
  clear A240
  replace H := Option.bind_eq_some_iff.mp H
  obtain ⟨⟨t327, t328⟩, A250, H⟩ := H
  replace H : ((relievoref01_Sqrt.f t327 t328).bind fun bt329 => ((relievoref02_Dot.f a0_0 a0_1 a0_2 a1_0 a1_1 a1_2).bind fun t331 => ((relievoref19_Floor.f (wrap64 (256 * t331)) bt329.1).bind fun t332 => (some (mn (mx t332 (-256)) 256))))) = some r := H
  have A25 := Aside0.mk A250
  clear A250
  replace H := Option.bind_eq_some_iff.mp H
  obtain ⟨⟨t329, t330⟩, A260, H⟩ := H
  replace H : ((relievoref02_Dot.f a0_0 a0_1 a0_2 a1_0 a1_1 a1_2).bind fun t331 => ((relievoref19_Floor.f (wrap64 (256 * t331)) t329).bind fun t332 => (some (mn (mx t332 (-256)) 256)))) = some r := H
  have A26 := Aside0.mk A260
  clear A260
  replace H := Option.bind_eq_some_iff.mp H
  obtain ⟨t331, A270, H⟩ := H
  replace H : ((relievoref19_Floor.f (wrap64 (256 * t331)) t329).bind fun t332 => (some (mn (mx t332 (-256)) 256))) = some r := H
  have A27 := Aside0.mk A270
  clear A270
  replace H := Option.bind_eq_some_iff.mp H
  obtain ⟨t332, A280, H⟩ := H
  replace H : (some (mn (mx t332 (-256)) 256)) = some r := H
  have A28 := Aside0.mk A280
  clear A280
  obtain ⟨ji29, hji29⟩ : ∃ j_ : Int, (mx t332 (-256)) = j_ := ⟨_, rfl⟩
  replace H : (some (mn (ji29) 256)) = some r := by first | (rw [hji29] at H; exact H) | (simp only [hji29] at H ⊢; exact H)
  (try rw [hji29] at A23)
  (try rw [hji29] at A24)
  (try rw [hji29] at A25)
  (try rw [hji29] at A26)
  (try rw [hji29] at A27)
  (try rw [hji29] at A28)
  have hji29_ : (if t332 < (-256) then (-256) else t332) = ji29 := hji29
  obtain ⟨ji30, hji30⟩ : ∃ j_ : Int, (mn (ji29) 256) = j_ := ⟨_, rfl⟩
  replace H : (some ji30) = some r := by first | (rw [hji30] at H; exact H) | (simp only [hji30] at H ⊢; exact H)
  (try rw [hji30] at A23)
  (try rw [hji30] at A24)
  (try rw [hji30] at A25)
  (try rw [hji30] at A26)
  (try rw [hji30] at A27)
  (try rw [hji30] at A28)
  have hji30_ : (if 256 < (ji29) then 256 else (ji29)) = ji30 := hji30
  obtain rfl := Option.some.inj H
  try go_wp2
  replace BK321 := Aside0.mk (blk_drew BK321.out)
  replace BK322 := Aside0.mk (blk_drew BK322.out)
  replace HB := Aside0.mk (below_drew1 HB.out)
  refine start_ (n := 13) (S := fun w' => w'.cell? ⟨gb321, 0, none⟩ = some (.int .i64 a0_0) ∧ w'.cell? ⟨gb321, 1, none⟩ = some (.int .i64 a0_1) ∧ w'.cell? ⟨gb321, 2, none⟩ = some (.int .i64 a0_2) ∧ w'.cell? ⟨gb322, 0, none⟩ = some (.int .i64 a1_0) ∧ w'.cell? ⟨gb322, 1, none⟩ = some (.int .i64 a1_1) ∧ w'.cell? ⟨gb322, 2, none⟩ = some (.int .i64 a1_2)) (ds := []) #[false, false, false, false, false, false, false, false, false, false, false, false, false] (by kernel_rfl) rfl rfl ⟨(blk_cell BK321.out 0).trans rfl, (blk_cell BK321.out 1).trans rfl, (blk_cell BK321.out 2).trans rfl, (blk_cell BK322.out 0).trans rfl, (blk_cell BK322.out 1).trans rfl, (blk_cell BK322.out 2).trans rfl⟩ (fun hHeld => ?_); refine with_tabW relievoref19_Cos.tab3 relievoref19_Cos.bits3 (fun HT_ HW_ => ?_)
  generalize wc.drew = w31 at BK321 BK322 HB hHeld ⊢
  refine take_ (i := 0) (N := some 26) (v := ?_) (a' := ?_) (bm 13 1) rfl rfl (take_ofW HT_.out HW_.out (by kernel_rfl)) (fun _ _ _ h => h) (Or.inl ⟨by rfl, ?_⟩) hHeld ?_ ?_
  rotate_left
  ·rintro w' ⟨s0, s1, s2, s3, s4, s5⟩
   go_simp
   with_reducible rfl
  rotate_left
  ·simp only [Act.put, List.setIfInBounds_toArray, List.set_cons_zero, List.set_cons_succ, i64_w, i32_w]
   rfl
  refine take_ (i := 1) (N := some 27) (v := ?_) (a' := ?_) (bm 13 3) rfl rfl (take_ofW HT_.out HW_.out (by kernel_rfl)) (fun _ _ _ h => h) (Or.inl ⟨by rfl, ?_⟩) hHeld ?_ ?_
  rotate_left
  ·rintro w' ⟨s0, s1, s2, s3, s4, s5⟩
   go_simp
   with_reducible rfl
  rotate_left
  ·simp only [Act.put, List.setIfInBounds_toArray, List.set_cons_zero, List.set_cons_succ, i64_w, i32_w]
   rfl
  refine take_ (i := 3) (N := some 29) (v := ?_) (a' := ?_) (bm 13 11) rfl rfl (take_ofW HT_.out HW_.out (by kernel_rfl)) (fun _ _ _ h => h) (Or.inl ⟨by rfl, ?_⟩) hHeld ?_ ?_
  rotate_left
  ·rintro w' ⟨s0, s1, s2, s3, s4, s5⟩
   go_simp
   with_reducible rfl
  rotate_left
  ·simp only [Act.put, List.setIfInBounds_toArray, List.set_cons_zero, List.set_cons_succ, i64_w, i32_w]
   rfl
  refine take_ (i := 4) (N := some 30) (v := ?_) (a' := ?_) (bm 13 27) rfl rfl (take_ofW HT_.out HW_.out (by kernel_rfl)) (fun _ _ _ h => h) (Or.inl ⟨by rfl, ?_⟩) hHeld ?_ ?_
  rotate_left
  ·rintro w' ⟨s0, s1, s2, s3, s4, s5⟩
   go_simp
   with_reducible rfl
  rotate_left
  ·simp only [Act.put, List.setIfInBounds_toArray, List.set_cons_zero, List.set_cons_succ, i64_w, i32_w]
   rfl
  refine one_ (i := 2) (N := some 28) (bm 13 31) rfl rfl (one_of HT_.out (by kernel_rfl)) (by decide) (fun K hK => ?_)
  refine goes_ Try.func36 (by kernel_rfl) rfl #[.agg #[.int .i64 a0_0, .int .i64 a0_1, .int .i64 a0_2], .agg #[.int .i64 a0_0, .int .i64 a0_1, .int .i64 a0_2]] (by rfl) rfl rfl (by (try simp only [List.map_toArray, List.map_cons, List.map_nil]); first | done | rfl | (simp only [List.length_drop, List.length_take]; rfl)) ?_
  with_reducible refine (relievoref02_Dot.calls a0_0 a0_1 a0_2 a0_0 a0_1 a0_2 t325 _ A23.out).mono ?_
  rintro e w32 ⟨rfl, hb⟩
  refine ⟨_, rfl, ?_⟩
  replace BK321 := cB hb BK321
  replace BK322 := cB hb BK322
  replace HB := Aside0.mk (below_step (by first | exact HB.out | (repeat (first | exact HB.out | apply pw_below_drewN | apply below_drew1 | apply below_alloc))) hb)
  (try clear hb)
  (try clear hb2)
  (try clear hk)
  (try clear hi)
  refine hK.out _ _ ⟨(blk_cell BK321.out 0).trans rfl, (blk_cell BK321.out 1).trans rfl, (blk_cell BK321.out 2).trans rfl, (blk_cell BK322.out 0).trans rfl, (blk_cell BK322.out 1).trans rfl, (blk_cell BK322.out 2).trans rfl⟩ (fun hHeld => ?_)
  clear hK K
  refine norm_ (a' := ?_) ?_ ?_
  rotate_left
  ·show Act.put _ (some 28) _ = _
   simp only [Act.put, List.setIfInBounds_toArray, List.set_cons_zero, List.set_cons_succ, i64_w, i32_w]
   rfl
  refine one_ (i := 5) (N := some 31) (bm 13 63) rfl rfl (one_of HT_.out (by kernel_rfl)) (by decide) (fun K hK => ?_)
  refine goes_ Try.func36 (by kernel_rfl) rfl #[.agg #[.int .i64 a1_0, .int .i64 a1_1, .int .i64 a1_2], .agg #[.int .i64 a1_0, .int .i64 a1_1, .int .i64 a1_2]] (by rfl) rfl rfl (by (try simp only [List.map_toArray, List.map_cons, List.map_nil]); first | done | rfl | (simp only [List.length_drop, List.length_take]; rfl)) ?_
  with_reducible refine (relievoref02_Dot.calls a1_0 a1_1 a1_2 a1_0 a1_1 a1_2 t326 _ A24.out).mono ?_
  rintro e w33 ⟨rfl, hb⟩
  refine ⟨_, rfl, ?_⟩
  replace BK321 := cB hb BK321
  replace BK322 := cB hb BK322
  replace HB := Aside0.mk (below_step (by first | exact HB.out | (repeat (first | exact HB.out | apply pw_below_drewN | apply below_drew1 | apply below_alloc))) hb)
  (try clear hb)
  (try clear hb2)
  (try clear hk)
  (try clear hi)
  refine hK.out _ _ ⟨(blk_cell BK321.out 0).trans rfl, (blk_cell BK321.out 1).trans rfl, (blk_cell BK321.out 2).trans rfl, (blk_cell BK322.out 0).trans rfl, (blk_cell BK322.out 1).trans rfl, (blk_cell BK322.out 2).trans rfl⟩ (fun hHeld => ?_)
  clear hK K
  refine norm_ (a' := ?_) ?_ ?_
  rotate_left
  ·show Act.put _ (some 31) _ = _
   simp only [Act.put, List.setIfInBounds_toArray, List.set_cons_zero, List.set_cons_succ, i64_w, i32_w]
   rfl
  refine one_ (i := 6) (N := some 32) (bm 13 127) rfl rfl (one_of HT_.out (by kernel_rfl)) (by decide) (fun K hK => ?_)
  refine goes_ Try.func40 (by kernel_rfl) rfl #[.int .i64 t325, .int .i64 t326] (by rfl) rfl rfl (by (try simp only [List.map_toArray, List.map_cons, List.map_nil]); first | done | rfl | (simp only [List.length_drop, List.length_take]; rfl)) ?_
  with_reducible refine (relievoref01_Mul.calls t325 t326 t327 t328 _ A25.out).mono ?_
  rintro e w34 ⟨rfl, hb⟩
  refine ⟨_, rfl, ?_⟩
  replace BK321 := cB hb BK321
  replace BK322 := cB hb BK322
  replace HB := Aside0.mk (below_step (by first | exact HB.out | (repeat (first | exact HB.out | apply pw_below_drewN | apply below_drew1 | apply below_alloc))) hb)
  (try clear hb)
  (try clear hb2)
  (try clear hk)
  (try clear hi)
  refine hK.out _ _ ⟨(blk_cell BK321.out 0).trans rfl, (blk_cell BK321.out 1).trans rfl, (blk_cell BK321.out 2).trans rfl, (blk_cell BK322.out 0).trans rfl, (blk_cell BK322.out 1).trans rfl, (blk_cell BK322.out 2).trans rfl⟩ (fun hHeld => ?_)
  clear hK K
  refine norm_ (a' := ?_) ?_ ?_
  rotate_left
  ·show Act.put _ (some 32) _ = _
   simp only [Act.put, List.setIfInBounds_toArray, List.set_cons_zero, List.set_cons_succ, i64_w, i32_w]
   rfl
  refine one_ (i := 7) (N := some 33) (bm 13 255) rfl rfl (one_of HT_.out (by kernel_rfl)) (by decide) (fun K hK => ?_)
  refine goes_ Try.func39 (by kernel_rfl) rfl #[.agg #[.int .i64 t327, .int .u64 t328]] (by rfl) rfl rfl (by (try simp only [List.map_toArray, List.map_cons, List.map_nil]); first | done | rfl | (simp only [List.length_drop, List.length_take]; rfl)) ?_
  with_reducible refine (relievoref01_Sqrt.calls t327 t328 t329 t330 _ A26.out).mono ?_
  rintro e w35 ⟨rfl, hb⟩
  refine ⟨_, rfl, ?_⟩
  replace BK321 := cB hb BK321
  replace BK322 := cB hb BK322
  replace HB := Aside0.mk (below_step (by first | exact HB.out | (repeat (first | exact HB.out | apply pw_below_drewN | apply below_drew1 | apply below_alloc))) hb)
  (try clear hb)
  (try clear hb2)
  (try clear hk)
  (try clear hi)
  refine hK.out _ _ ⟨(blk_cell BK321.out 0).trans rfl, (blk_cell BK321.out 1).trans rfl, (blk_cell BK321.out 2).trans rfl, (blk_cell BK322.out 0).trans rfl, (blk_cell BK322.out 1).trans rfl, (blk_cell BK322.out 2).trans rfl⟩ (fun hHeld => ?_)
  clear hK K
  refine norm_ (a' := ?_) ?_ ?_
  rotate_left
  ·show Act.put _ (some 33) _ = _
   simp only [Act.put, List.setIfInBounds_toArray, List.set_cons_zero, List.set_cons_succ, i64_w, i32_w]
   rfl
  refine pure_ (i := 8) (N := some 25) (v := ?_) (a' := ?_) (bm 13 511) rfl rfl (any_of HT_.out (by kernel_rfl)) (fun _ _ _ h => h) (Or.inl ⟨by rfl, ?_⟩) ?_ ?_
  rotate_left
  ·intro w'
   go_simp
   with_reducible rfl
  rotate_left
  ·simp only [Act.put, List.setIfInBounds_toArray, List.set_cons_zero, List.set_cons_succ, i64_w, i32_w]
   rfl
  refine pure_ (i := 9) (N := some 34) (v := ?_) (a' := ?_) (bm 13 1023) rfl rfl (any_of HT_.out (by kernel_rfl)) (fun _ _ _ h => h) (Or.inl ⟨by rfl, ?_⟩) ?_ ?_
  rotate_left
  ·intro w'
   go_simp
   with_reducible rfl
  rotate_left
  ·simp only [Act.put, List.setIfInBounds_toArray, List.set_cons_zero, List.set_cons_succ, i64_w, i32_w]
   rfl
  refine pure_ (i := 10) (N := some 35) (v := ?_) (a' := ?_) (bm 13 2047) rfl rfl (any_of HT_.out (by kernel_rfl)) (fun _ _ _ h => h) (Or.inl ⟨by rfl, ?_⟩) ?_ ?_
  rotate_left
  ·intro w'
   go_simp
   with_reducible rfl
  rotate_left
  ·simp only [Act.put, List.setIfInBounds_toArray, List.set_cons_zero, List.set_cons_succ, i64_w, i32_w]
   rfl
  refine pure_ (i := 11) (N := some 5) (v := ?_) (a' := ?_) (bm 13 4095) rfl rfl (any_of HT_.out (by kernel_rfl)) (fun _ _ _ h => h) (Or.inl ⟨by rfl, ?_⟩) ?_ ?_
  rotate_left
  ·intro w'
   go_simp
   with_reducible rfl
  rotate_left
  ·simp only [Act.put, List.setIfInBounds_toArray, List.set_cons_zero, List.set_cons_succ, i64_w, i32_w]
   rfl
  refine pure_ (i := 12) (N := some 6) (v := ?_) (a' := ?_) (bm 13 8191) rfl rfl (any_of HT_.out (by kernel_rfl)) (fun _ _ _ h => h) (Or.inl ⟨by rfl, ?_⟩) ?_ ?_
  rotate_left
  ·intro w'
   go_simp
   with_reducible rfl
  rotate_left
  ·simp only [Act.put, List.setIfInBounds_toArray, List.set_cons_zero, List.set_cons_succ, i64_w, i32_w]
   rfl
  refine done_ (done_of HT_.out (by kernel_rfl)) ?_
  obtain ⟨hcz36_0, hcz36_1, hcz36_2⟩ := cells3 BK321.out
  obtain ⟨hcz37_0, hcz37_1, hcz37_2⟩ := cells3 BK322.out
  try go_wp2_with (first | ((with_reducible refine gate_callee (f := 36) rfl ?_); refine goesL_ (some 38) rfl rfl Try.func36 (by kernel_rfl) rfl #[.agg #[.int .i64 a0_0, .int .i64 a0_1, .int .i64 a0_2], .agg #[.int .i64 a1_0, .int .i64 a1_1, .int .i64 a1_2]] rfl (by (try simp only [List.map_toArray, List.map_cons, List.map_nil]); first | done | rfl | (simp only [List.length_drop, List.length_take]; rfl)) ?_; (with_reducible refine (relievoref02_Dot.calls a0_0 a0_1 a0_2 a1_0 a1_1 a1_2 t331 _ A27.out).mono ?_); rintro e w38 ⟨rfl, hb⟩; refine ⟨_, rfl, ?_⟩; replace BK321 := cB hb BK321; replace BK322 := cB hb BK322; replace HB := Aside0.mk (below_step (by first | exact HB.out | (repeat (first | exact HB.out | apply pw_below_drewN | apply below_drew1 | apply below_alloc))) hb); (try clear hb); (try clear hb2); (try clear hk); (try clear hi)) | ((with_reducible refine gate_callee (f := 38) rfl ?_); refine goesL_ (some 41) rfl rfl Try.func38 (by kernel_rfl) rfl #[.int .i64 (wrap64 (256 * t331)), .int .i64 t329] rfl (by (try simp only [List.map_toArray, List.map_cons, List.map_nil]); first | done | rfl | (simp only [List.length_drop, List.length_take]; rfl)) ?_; (with_reducible refine (relievoref19_Floor.calls (wrap64 (256 * t331)) t329 t332 _ A28.out).mono ?_); rintro e w' ⟨rfl, ⟨nd, rfl⟩⟩; refine ⟨_, rfl, ?_⟩))
  go_ret
  exact ⟨by first | rfl | (simp [errW_none, errW_some] <;> rfl) | (simp only [← hji29, ← hji30]; first | rfl | (simp [errW_none, errW_some] <;> rfl)) | (simp [*, errW_none, errW_some] <;> rfl), by first | exact HB.out | (repeat (first | exact HB.out | apply pw_below_drewN | apply below_drew1 | apply below_alloc))⟩

end Go.Proofs.Ytmhnidmbgicgeaa.G
