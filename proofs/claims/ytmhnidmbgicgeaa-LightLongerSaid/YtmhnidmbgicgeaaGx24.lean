-- Written by a program of this session (wip/gen), out of the translation; Lean checks it.
import Derived.Test.YtmhnidmbgicgeaaLitReflect
import Derived.Test.YtmhnidmbgicgeaaGx0
import Derived.Test.YtmhnidmbgicgeaaGx1
import Derived.Test.YtmhnidmbgicgeaaGx5
import Derived.Test.YtmhnidmbgicgeaaGx18
import Derived.Test.YtmhnidmbgicgeaaGx22
namespace Go.Proofs.Ytmhnidmbgicgeaa.G
open Go.RowKit Go.Proofs.YtmhnidmbgicgeaaW.PrintWords Go.Proofs.YtmhnidmbgicgeaaW.PrintLast Go.Proofs.YtmhnidmbgicgeaaW.PrintMore
attribute [local go_sem] max2_int min2_int max_two min_two max_three min_three max_four min_four   -- for this text's walks alone
set_option linter.unusedVariables false
set_option linter.unusedSimpArgs false

attribute [local go_sem high] eqA26
/-! ### relievolaw19_LightLonger: function 7 -/
def relievolaw19_LightLonger.j0 : Nat → Int → Bool → Int → Int → Int → Int → Int → Int → Option (Bool)
  | 0, _, _, _, _, _, _, _, _ => none
  | k + 1, x2, x27, x199000, x199001, x199002, x200000, x200001, x200002 => if x27 = true then (some true) else ((light_Reflect.f k x199000 x199001 x199002 x200000 x200001 x200002).bind fun bt206 => ((vec_Scale.f x200000 x200001 x200002 x2).bind fun bt210 => ((light_Reflect.f k x199000 x199001 x199002 bt210.1 bt210.2.1 bt210.2.2).bind fun bt213 => (if (bt206.1 == bt213.1 && (bt206.2.1 == bt213.2.1 && (bt206.2.2 == bt213.2.2))) = true then ((vec_Scale.f x200000 x200001 x200002 (-1)).bind fun bt216 => ((light_Reflect.f k x199000 x199001 x199002 bt216.1 bt216.2.1 bt216.2.2).bind fun bt219 => (some (bt206.1 == bt219.1 && (bt206.2.1 == bt219.2.1 && (bt206.2.2 == bt219.2.2)))))) else (some false)))))
def relievolaw19_LightLonger.f (k : Nat) (a0_0 : Int) (a0_1 : Int) (a0_2 : Int) (a1_0 : Int) (a1_1 : Int) (a1_2 : Int) (a2 : Int) : Option (Bool) := (relievolaw19_alive.f k).bind fun t200 => (if t200 = true then (if a2 < 1 then (relievolaw19_LightLonger.j0 k a2 true a0_0 a0_1 a0_2 a1_0 a1_1 a1_2) else (if a2 > 1023 then (relievolaw19_LightLonger.j0 k a2 true a0_0 a0_1 a0_2 a1_0 a1_1 a1_2) else ((vec_Within.f a1_0 a1_1 a1_2 1023).bind fun t201 => (if t201 = true then ((vec_Scale.f a1_0 a1_1 a1_2 a2).bind fun bt202 => ((vec_Within.f bt202.1 bt202.2.1 bt202.2.2 1023).bind fun t205 => (relievolaw19_LightLonger.j0 k a2 (!t205) a0_0 a0_1 a0_2 a1_0 a1_1 a1_2))) else (relievolaw19_LightLonger.j0 k a2 true a0_0 a0_1 a0_2 a1_0 a1_1 a1_2))))) else (some false))
def relievolaw19_LightLonger.T6 : Bool × List (List Nat × List Nat) := (true, [([], []), ([], []), ([], []), ([], []), ([2, 3], [2, 3]), ([1, 4, 4], [1, 4]), ([0, 5], [0, 5]), ([6, 5], [6]), ([7], [7]), ([7], [7]), ([7], [7]), ([10, 7, 7], [7, 10]), ([9, 11, 11, 7], [7, 9, 11]), ([8, 12, 7], [7, 8, 12]), ([7, 13], [7, 13]), ([14, 12, 0, 1, 2, 3, 4, 5, 6, 7, 8, 9, 10, 11, 12, 13, 14], [14])])
def relievolaw19_LightLonger.B6 : List Nat := [0, 0, 0, 0, 12, 30, 63, 127, 255, 255, 255, 1279, 3839, 8191, 16383, 32767]
theorem relievolaw19_LightLonger.tab6 : rtab .any (opsOf Try.f7 6) = relievolaw19_LightLonger.T6 := by kernel_rfl
theorem relievolaw19_LightLonger.bits6 : waitsOk relievolaw19_LightLonger.T6.2 relievolaw19_LightLonger.B6 = true := by kernel_rfl
set_option maxHeartbeats 8000000 in
set_option maxRecDepth 100000 in
theorem relievolaw19_LightLonger.calls (k : Nat) (a0_0 : Int) (a0_1 : Int) (a0_2 : Int) (a1_0 : Int) (a1_1 : Int) (a1_2 : Int) (a2 : Int) (r : Bool) (w : World) (h : relievolaw19_LightLonger.f k a0_0 a0_1 a0_2 a1_0 a1_1 a1_2 a2 = some r) :
    Calls Try.prog 7 #[.agg #[.int .i64 a0_0, .int .i64 a0_1, .int .i64 a0_2], .agg #[.int .i64 a1_0, .int .i64 a1_1, .int .i64 a1_2], .int .i64 a2] w fun e w' => e = .returned (.bool r) ∧ Below w.heap.size w w' := by
 have hu26 := Try.underlying26
 have HB := Aside0.mk (Below.refl w.heap.size w)
 have H : ((relievolaw19_alive.f k).bind fun t200 => (if t200 = true then (if a2 < 1 then (relievolaw19_LightLonger.j0 k a2 true a0_0 a0_1 a0_2 a1_0 a1_1 a1_2) else (if a2 > 1023 then (relievolaw19_LightLonger.j0 k a2 true a0_0 a0_1 a0_2 a1_0 a1_1 a1_2) else ((vec_Within.f a1_0 a1_1 a1_2 1023).bind fun t201 => (if t201 = true then ((vec_Scale.f a1_0 a1_1 a1_2 a2).bind fun bt202 => ((vec_Within.f bt202.1 bt202.2.1 bt202.2.2 1023).bind fun t205 => (relievolaw19_LightLonger.j0 k a2 (!t205) a0_0 a0_1 a0_2 a1_0 a1_1 a1_2))) else (relievolaw19_LightLonger.j0 k a2 true a0_0 a0_1 a0_2 a1_0 a1_1 a1_2))))) else (some false))) = some r := h
 clear h
 replace H := Option.bind_eq_some_iff.mp H
 obtain ⟨t200, A40, H⟩ := H
 replace H : (if t200 = true then (if a2 < 1 then (relievolaw19_LightLonger.j0 k a2 true a0_0 a0_1 a0_2 a1_0 a1_1 a1_2) else (if a2 > 1023 then (relievolaw19_LightLonger.j0 k a2 true a0_0 a0_1 a0_2 a1_0 a1_1 a1_2) else ((vec_Within.f a1_0 a1_1 a1_2 1023).bind fun t201 => (if t201 = true then ((vec_Scale.f a1_0 a1_1 a1_2 a2).bind fun bt202 => ((vec_Within.f bt202.1 bt202.2.1 bt202.2.2 1023).bind fun t205 => (relievolaw19_LightLonger.j0 k a2 (!t205) a0_0 a0_1 a0_2 a1_0 a1_1 a1_2))) else (relievolaw19_LightLonger.j0 k a2 true a0_0 a0_1 a0_2 a1_0 a1_1 a1_2))))) else (some false)) = some r := H
 have A4 := Aside0.mk A40
 clear A40
 by_cases c5 : t200 = true
 ·subst c5
  have H1 : (if a2 < 1 then (relievolaw19_LightLonger.j0 k a2 true a0_0 a0_1 a0_2 a1_0 a1_1 a1_2) else (if a2 > 1023 then (relievolaw19_LightLonger.j0 k a2 true a0_0 a0_1 a0_2 a1_0 a1_1 a1_2) else ((vec_Within.f a1_0 a1_1 a1_2 1023).bind fun t201 => (if t201 = true then ((vec_Scale.f a1_0 a1_1 a1_2 a2).bind fun bt202 => ((vec_Within.f bt202.1 bt202.2.1 bt202.2.2 1023).bind fun t205 => (relievolaw19_LightLonger.j0 k a2 (!t205) a0_0 a0_1 a0_2 a1_0 a1_1 a1_2))) else (relievolaw19_LightLonger.j0 k a2 true a0_0 a0_1 a0_2 a1_0 a1_1 a1_2))))) = some r := by rw [if_pos rfl] at H; exact H
  clear H
  have H := H1
  clear H1
  have HC6 := Aside0.mk H
  clear H
  go_enter Try.func7, Try.ntmps7
  go_upto_region 3 with (first | ((with_reducible refine gate_dst (N := 3) rfl ?_); refine box_event ?hg (N := 3) ?hd (cs := #[.int .i64 a0_0, .int .i64 a0_1, .int .i64 a0_2]) (t := 26) ?hr ?_; (case hd => rfl); (case hg => rfl); (case hr => first | (go_simp; done) | (go_simp; rfl)); intro gb198 hg w7 hbox hb; have BK198 := Aside0.mk (hbox); have GE198 := Aside0.mk (bG hg (HB.out)); replace HB := Aside0.mk (below_step (HB.out) hb); clear hb hbox hg) | ((with_reducible refine gate_dst (N := 4) rfl ?_); refine box_event ?hg (N := 4) ?hd (cs := #[.int .i64 a1_0, .int .i64 a1_1, .int .i64 a1_2]) (t := 26) ?hr ?_; (case hd => rfl); (case hg => rfl); (case hr => first | (go_simp; done) | (go_simp; rfl)); intro gb199 hg w8 hbox hb; have BK199 := Aside0.mk (hbox); have GE199 := Aside0.mk (bG hg (HB.out)); have NB198_199 := cN hg BK198; have NB199_198 := cM hg BK198; replace BK198 := cB hb BK198; replace HB := Aside0.mk (below_step (HB.out) hb); clear hb hbox hg) | ((with_reducible refine gate_callee (f := 11) rfl ?_); refine goesL_ (some 8) rfl rfl Try.func11 (by kernel_rfl) rfl #[] rfl (by (try simp only [List.map_toArray, List.map_cons, List.map_nil]); first | done | rfl | (simp only [List.length_drop, List.length_take]; rfl)) ?_; (with_reducible refine (relievolaw19_alive.calls k  true _ A4.out).mono ?_); rintro e w9 ⟨rfl, hb⟩; refine ⟨_, rfl, ?_⟩; replace BK198 := cB hb BK198; replace BK199 := cB hb BK199; replace HB := Aside0.mk (below_step (HB.out) hb); (try clear hb); (try clear hb2); (try clear hk); (try clear hi)))
  (try simp only [Act.put, List.setIfInBounds_toArray, List.set_cons_zero, List.set_cons_succ])
  go_cut [27] (fun v27 wc => ∃ (kq : Nat) (x27_5 : Bool), v27 = .bool x27_5 ∧ Aside0 (relievolaw19_LightLonger.j0 kq a2 x27_5 a0_0 a0_1 a0_2 a1_0 a1_1 a1_2 = some r) ∧ Aside0 (kq ≤ k) ∧ Aside0 (wc.heap[gb198]? = some (.cells #[.int .i64 a0_0, .int .i64 a0_1, .int .i64 a0_2] 26 (0, 0))) ∧ Aside0 (wc.heap[gb199]? = some (.cells #[.int .i64 a1_0, .int .i64 a1_1, .int .i64 a1_2] 26 (0, 0))) ∧ Aside0 (Below w.heap.size w wc))
  case first =>
   have H := HC6.out
   clear HC6
   by_cases c10 : a2 < 1
   ·rw [if_pos c10] at H
    have c10b0 : decide (a2 < 1) = true := decide_eq_true c10
    clear c10
    (first | rw [c10b0] | (simp only [i64_w, i32_w]; rw [c10b0]) | skip)
    have H' := Aside0.mk H
    clear H
    go_wp2
    go_meet
    case rel => exact ⟨_, (true), (by first | rfl | (simp; done) | (simp [*]; done)), H', ⟨by first | omega | exact Nat.le_refl _⟩, ⟨BK198.out⟩, ⟨BK199.out⟩, ⟨HB.out⟩⟩
   rw [if_neg c10] at H
   have c10b0 : decide (a2 < 1) = false := decide_eq_false c10
   clear c10
   (first | rw [c10b0] | (simp only [i64_w, i32_w]; rw [c10b0]) | skip)
   by_cases c11 : a2 > 1023
   ·rw [if_pos c11] at H
    have c11b0 : decide (1023 < a2) = true := decide_eq_true c11
    clear c11
    have H' := Aside0.mk H
    clear H
    go_wp2
    go_meet
    case rel => exact ⟨_, (true), (by first | rfl | (simp; done) | (simp [*]; done)), H', ⟨by first | omega | exact Nat.le_refl _⟩, ⟨BK198.out⟩, ⟨BK199.out⟩, ⟨HB.out⟩⟩
   rw [if_neg c11] at H
   have c11b0 : decide (1023 < a2) = false := decide_eq_false c11
   clear c11
   replace H := Option.bind_eq_some_iff.mp H
   obtain ⟨t201, A120, H⟩ := H
   replace H : (if t201 = true then ((vec_Scale.f a1_0 a1_1 a1_2 a2).bind fun bt202 => ((vec_Within.f bt202.1 bt202.2.1 bt202.2.2 1023).bind fun t205 => (relievolaw19_LightLonger.j0 k a2 (!t205) a0_0 a0_1 a0_2 a1_0 a1_1 a1_2))) else (relievolaw19_LightLonger.j0 k a2 true a0_0 a0_1 a0_2 a1_0 a1_1 a1_2)) = some r := H
   have A12 := Aside0.mk A120
   clear A120
   by_cases c13 : t201 = true
   ·subst c13
    have H1 : ((vec_Scale.f a1_0 a1_1 a1_2 a2).bind fun bt202 => ((vec_Within.f bt202.1 bt202.2.1 bt202.2.2 1023).bind fun t205 => (relievolaw19_LightLonger.j0 k a2 (!t205) a0_0 a0_1 a0_2 a1_0 a1_1 a1_2))) = some r := by rw [if_pos rfl] at H; exact H
    clear H
    have H := H1
    clear H1
    replace H := Option.bind_eq_some_iff.mp H
    obtain ⟨⟨t202, t203, t204⟩, A140, H⟩ := H
    replace H : ((vec_Within.f t202 t203 t204 1023).bind fun t205 => (relievolaw19_LightLonger.j0 k a2 (!t205) a0_0 a0_1 a0_2 a1_0 a1_1 a1_2)) = some r := H
    have A14 := Aside0.mk A140
    clear A140
    replace H := Option.bind_eq_some_iff.mp H
    obtain ⟨t205, A150, H⟩ := H
    replace H : (relievolaw19_LightLonger.j0 k a2 (!t205) a0_0 a0_1 a0_2 a1_0 a1_1 a1_2) = some r := H
    have A15 := Aside0.mk A150
    clear A150
    have H' := Aside0.mk H
    clear H
    obtain ⟨hcz16_0, hcz16_1, hcz16_2⟩ := cells3 BK199.out
    go_wp2_with (first | (go_at_call 13; (with_reducible refine (vec_Within.calls a1_0 a1_1 a1_2 1023 true _ A12.out).mono ?_); rintro e w17 ⟨rfl, hb⟩; replace BK198 := cB hb BK198; replace BK199 := cB hb BK199; replace HB := Aside0.mk (below_step (HB.out) hb); (try clear hb); (try clear hb2); (try clear hk); (try clear hi); obtain ⟨hcz18_0, hcz18_1, hcz18_2⟩ := cells3 BK199.out) | (go_at_call 18; (with_reducible refine (vec_Scale.calls a1_0 a1_1 a1_2 a2 t202 t203 t204 _ A14.out).mono ?_); rintro e w19 ⟨rfl, hb⟩; replace BK198 := cB hb BK198; replace BK199 := cB hb BK199; replace HB := Aside0.mk (below_step (HB.out) hb); (try clear hb); (try clear hb2); (try clear hk); (try clear hi)) | (go_at_call 13; (with_reducible refine (vec_Within.calls t202 t203 t204 1023 t205 _ A15.out).mono ?_); rintro e w20 ⟨rfl, hb⟩; replace BK198 := cB hb BK198; replace BK199 := cB hb BK199; replace HB := Aside0.mk (below_step (HB.out) hb); (try clear hb); (try clear hb2); (try clear hk); (try clear hi)))
    go_meet
    case rel => exact ⟨_, (!t205), (by first | rfl | (simp; done) | (simp [*]; done)), H', ⟨by first | omega | exact Nat.le_refl _⟩, ⟨BK198.out⟩, ⟨BK199.out⟩, ⟨HB.out⟩⟩
   replace c13 := Bool.eq_false_iff.mpr c13
   subst c13
   have H1 : (relievolaw19_LightLonger.j0 k a2 true a0_0 a0_1 a0_2 a1_0 a1_1 a1_2) = some r := by rw [if_neg (show ¬ (false = true) by decide)] at H; exact H
   clear H
   have H := H1
   clear H1
   have H' := Aside0.mk H
   clear H
   obtain ⟨hcz21_0, hcz21_1, hcz21_2⟩ := cells3 BK199.out
   go_wp2_with (first | (go_at_call 13; (with_reducible refine (vec_Within.calls a1_0 a1_1 a1_2 1023 false _ A12.out).mono ?_); rintro e w22 ⟨rfl, hb⟩; replace BK198 := cB hb BK198; replace BK199 := cB hb BK199; replace HB := Aside0.mk (below_step (HB.out) hb); (try clear hb); (try clear hb2); (try clear hk); (try clear hi)))
   go_meet
   case rel => exact ⟨_, (true), (by first | rfl | (simp; done) | (simp [*]; done)), H', ⟨by first | omega | exact Nat.le_refl _⟩, ⟨BK198.out⟩, ⟨BK199.out⟩, ⟨HB.out⟩⟩
  clear HC6
  try clear c5
  obtain ⟨kq, x27_5, rfl, HA, HJ5, BK198, BK199, HB⟩ := hcut
  cases kq with
  | zero => exact absurd HA.out (by simp [relievolaw19_LightLonger.j0])
  | succ kj5 =>
   have H := HA.out
   clear HA
   simp only [relievolaw19_LightLonger.j0] at H
   by_cases c23 : x27_5 = true
   ·subst c23
    have H1 : (some true) = some r := by rw [if_pos rfl] at H; exact H
    clear H
    have H := H1
    clear H1
    obtain rfl := Option.some.inj H
    go_wp2
    go_ret
    exact ⟨by first | rfl | (simp [errW_none, errW_some] <;> rfl) | (simp [*, errW_none, errW_some] <;> rfl), HB.out⟩
   replace c23 := Bool.eq_false_iff.mpr c23
   subst c23
   have H1 : ((light_Reflect.f kj5 a0_0 a0_1 a0_2 a1_0 a1_1 a1_2).bind fun bt206 => ((vec_Scale.f a1_0 a1_1 a1_2 a2).bind fun bt210 => ((light_Reflect.f kj5 a0_0 a0_1 a0_2 bt210.1 bt210.2.1 bt210.2.2).bind fun bt213 => (if (bt206.1 == bt213.1 && (bt206.2.1 == bt213.2.1 && (bt206.2.2 == bt213.2.2))) = true then ((vec_Scale.f a1_0 a1_1 a1_2 (-1)).bind fun bt216 => ((light_Reflect.f kj5 a0_0 a0_1 a0_2 bt216.1 bt216.2.1 bt216.2.2).bind fun bt219 => (some (bt206.1 == bt219.1 && (bt206.2.1 == bt219.2.1 && (bt206.2.2 == bt219.2.2)))))) else (some false))))) = some r := by rw [if_neg (show ¬ (false = true) by decide)] at H; exact H
   clear H
   have H := H1
   clear H1
   replace H := Option.bind_eq_some_iff.mp H
   obtain ⟨⟨t206, t207, t208⟩, A240, H⟩ := H
   replace H : ((vec_Scale.f a1_0 a1_1 a1_2 a2).bind fun bt210 => ((light_Reflect.f kj5 a0_0 a0_1 a0_2 bt210.1 bt210.2.1 bt210.2.2).bind fun bt213 => (if (t206 == bt213.1 && (t207 == bt213.2.1 && (t208 == bt213.2.2))) = true then ((vec_Scale.f a1_0 a1_1 a1_2 (-1)).bind fun bt216 => ((light_Reflect.f kj5 a0_0 a0_1 a0_2 bt216.1 bt216.2.1 bt216.2.2).bind fun bt219 => (some (t206 == bt219.1 && (t207 == bt219.2.1 && (t208 == bt219.2.2)))))) else (some false)))) = some r := H
   have A24 := Aside0.mk A240
   clear A240
   replace H := Option.bind_eq_some_iff.mp H
   obtain ⟨⟨t210, t211, t212⟩, A250, H⟩ := H
   replace H : ((light_Reflect.f kj5 a0_0 a0_1 a0_2 t210 t211 t212).bind fun bt213 => (if (t206 == bt213.1 && (t207 == bt213.2.1 && (t208 == bt213.2.2))) = true then ((vec_Scale.f a1_0 a1_1 a1_2 (-1)).bind fun bt216 => ((light_Reflect.f kj5 a0_0 a0_1 a0_2 bt216.1 bt216.2.1 bt216.2.2).bind fun bt219 => (some (t206 == bt219.1 && (t207 == bt219.2.1 && (t208 == bt219.2.2)))))) else (some false))) = some r := H
   have A25 := Aside0.mk A250
   clear A250
   replace H := Option.bind_eq_some_iff.mp H
   obtain ⟨⟨t213, t214, t215⟩, A260, H⟩ := H
   replace H : (if (t206 == t213 && (t207 == t214 && (t208 == t215))) = true then ((vec_Scale.f a1_0 a1_1 a1_2 (-1)).bind fun bt216 => ((light_Reflect.f kj5 a0_0 a0_1 a0_2 bt216.1 bt216.2.1 bt216.2.2).bind fun bt219 => (some (t206 == bt219.1 && (t207 == bt219.2.1 && (t208 == bt219.2.2)))))) else (some false)) = some r := H
   have A26 := Aside0.mk A260
   clear A260
   by_cases c27 : (t206 == t213 && (t207 == t214 && (t208 == t215))) = true
   ·rw [if_pos c27] at H
    have c27b0 : (t206 == t213 && (t207 == t214 && (t208 == t215))) = true := c27
    (try (have c27b1 : decide (t206 = t213 && (t207 == t214 && (t208 == t215))) = true := by simpa using c27))
    (try (have c27b2 : (t206 == t213 && (t207 == t214 && (t208 == t215))) = true := by simpa using c27))
    clear c27
    replace H := Option.bind_eq_some_iff.mp H
    obtain ⟨⟨t216, t217, t218⟩, A280, H⟩ := H
    replace H : ((light_Reflect.f kj5 a0_0 a0_1 a0_2 t216 t217 t218).bind fun bt219 => (some (t206 == bt219.1 && (t207 == bt219.2.1 && (t208 == bt219.2.2))))) = some r := H
    have A28 := Aside0.mk A280
    clear A280
    replace H := Option.bind_eq_some_iff.mp H
    obtain ⟨⟨t219, t220, t221⟩, A290, H⟩ := H
    replace H : (some (t206 == t219 && (t207 == t220 && (t208 == t221)))) = some r := H
    have A29 := Aside0.mk A290
    clear A290
    obtain rfl := Option.some.inj H
    obtain ⟨hcz30_0, hcz30_1, hcz30_2⟩ := cells3 BK198.out
    obtain ⟨hcz31_0, hcz31_1, hcz31_2⟩ := cells3 BK199.out
    try go_wp2_with (first | ((with_reducible refine gate_callee (f := 14) rfl ?_); refine goesL_ (some 30) rfl rfl Try.func14 (by kernel_rfl) rfl #[.agg #[.int .i64 a0_0, .int .i64 a0_1, .int .i64 a0_2], .agg #[.int .i64 a1_0, .int .i64 a1_1, .int .i64 a1_2]] rfl (by (try simp only [List.map_toArray, List.map_cons, List.map_nil]); first | done | rfl | (simp only [List.length_drop, List.length_take]; rfl)) ?_; (with_reducible refine (light_Reflect.calls kj5 a0_0 a0_1 a0_2 a1_0 a1_1 a1_2 t206 t207 t208 _ A24.out).mono ?_); rintro e w32 ⟨rfl, hb⟩; refine ⟨_, rfl, ?_⟩; replace BK198 := cB hb BK198; replace BK199 := cB hb BK199; replace HB := Aside0.mk (below_step (HB.out) hb); (try clear hb); (try clear hb2); (try clear hk); (try clear hi)) | ((with_reducible refine gate_dst (N := 7) rfl ?_); refine box_event ?hg (N := 7) ?hd (cs := #[.int .i64 0, .int .i64 0, .int .i64 0]) (t := 26) ?hr ?_; (case hd => rfl); (case hg => rfl); (case hr => first | (go_simp; done) | (go_simp; rfl)); intro gb209 hg w33 hbox hb; have BK209 := Aside0.mk (hbox); have GE209 := Aside0.mk (bG hg (HB.out)); have NB198_209 := cN hg BK198; have NB209_198 := cM hg BK198; have NB199_209 := cN hg BK199; have NB209_199 := cM hg BK199; replace BK198 := cB hb BK198; replace BK199 := cB hb BK199; replace HB := Aside0.mk (below_step (HB.out) hb); clear hb hbox hg; have hnb34 := NB209_198.out; have hnc34 := NB198_209.out; have hnb35 := NB209_199.out; have hnc35 := NB199_209.out; obtain ⟨hcz36_0, hcz36_1, hcz36_2⟩ := cells3 BK209.out; have hfz36_0 := blk_frozen BK209.out 0; have hfz36_1 := blk_frozen BK209.out 1; have hfz36_2 := blk_frozen BK209.out 2))
    generalize hw_ : (((w33.setCell ⟨gb209, 0, none⟩ (.int .i64 t206)).setCell ⟨gb209, 1, none⟩ (.int .i64 t207)).setCell ⟨gb209, 2, none⟩ (.int .i64 t208)) = w37
    replace BK198 := Aside0.mk (bF hw_ (blk_far (blk_far (blk_far BK198.out NB198_209.out _) NB198_209.out _) NB198_209.out _))
    replace BK199 := Aside0.mk (bF hw_ (blk_far (blk_far (blk_far BK199.out NB199_209.out _) NB199_209.out _) NB199_209.out _))
    replace BK209 := Aside0.mk (bF hw_ (blk_put (cs' := #[.int .i64 t206, .int .i64 t207, .int .i64 t208]) (blk_put (blk_put BK209.out 0 _ rfl) 1 _ rfl) 2 _ rfl))
    replace HB := Aside0.mk (bH hw_ (below_set (below_set (below_set HB.out GE209.out) GE209.out) GE209.out))
    clear hw_
    replace BK198 := Aside0.mk (blk_drew BK198.out)
    replace BK199 := Aside0.mk (blk_drew BK199.out)
    replace BK209 := Aside0.mk (blk_drew BK209.out)
    replace HB := Aside0.mk (below_drew1 HB.out)
    refine start_ (n := 16) (S := fun w' => w'.cell? ⟨gb209, 0, none⟩ = some (.int .i64 t206) ∧ w'.cell? ⟨gb209, 1, none⟩ = some (.int .i64 t207) ∧ w'.cell? ⟨gb209, 2, none⟩ = some (.int .i64 t208) ∧ w'.cell? ⟨gb198, 0, none⟩ = some (.int .i64 a0_0) ∧ w'.cell? ⟨gb198, 1, none⟩ = some (.int .i64 a0_1) ∧ w'.cell? ⟨gb198, 2, none⟩ = some (.int .i64 a0_2) ∧ w'.cell? ⟨gb199, 0, none⟩ = some (.int .i64 a1_0) ∧ w'.cell? ⟨gb199, 1, none⟩ = some (.int .i64 a1_1) ∧ w'.cell? ⟨gb199, 2, none⟩ = some (.int .i64 a1_2)) (ds := []) #[false, false, false, false, false, false, false, false, false, false, false, false, false, false, false, false] (by kernel_rfl) rfl rfl ⟨(blk_cell BK209.out 0).trans rfl, (blk_cell BK209.out 1).trans rfl, (blk_cell BK209.out 2).trans rfl, (blk_cell BK198.out 0).trans rfl, (blk_cell BK198.out 1).trans rfl, (blk_cell BK198.out 2).trans rfl, (blk_cell BK199.out 0).trans rfl, (blk_cell BK199.out 1).trans rfl, (blk_cell BK199.out 2).trans rfl⟩ (fun hHeld => ?_); refine with_tabW relievolaw19_LightLonger.tab6 relievolaw19_LightLonger.bits6 (fun HT_ HW_ => ?_)
    generalize w37.drew = w38 at BK198 BK199 BK209 HB hHeld ⊢
    refine pure_ (i := 3) (N := some 34) (v := ?_) (a' := ?_) #[false, false, false, true, false, false, false, false, false, false, false, false, false, false, false, false] rfl rfl (any_of HT_.out (by kernel_rfl)) (fun _ _ _ h => h) (Or.inl ⟨by rfl, ?_⟩) ?_ ?_
    rotate_left
    ·intro w'
     go_simp
     with_reducible rfl
    rotate_left
    ·simp only [Act.put, List.setIfInBounds_toArray, List.set_cons_zero, List.set_cons_succ, i64_w, i32_w]
     rfl
    refine take_ (i := 0) (N := some 31) (v := ?_) (a' := ?_) #[true, false, false, true, false, false, false, false, false, false, false, false, false, false, false, false] rfl rfl (take_ofW HT_.out HW_.out (by kernel_rfl)) (fun _ _ _ h => h) (Or.inl ⟨by rfl, ?_⟩) hHeld ?_ ?_
    rotate_left
    ·rintro w' ⟨s0, s1, s2, s3, s4, s5, s6, s7, s8⟩
     go_simp
     with_reducible rfl
    rotate_left
    ·simp only [Act.put, List.setIfInBounds_toArray, List.set_cons_zero, List.set_cons_succ, i64_w, i32_w]
     rfl
    refine take_ (i := 1) (N := some 32) (v := ?_) (a' := ?_) #[true, true, false, true, false, false, false, false, false, false, false, false, false, false, false, false] rfl rfl (take_ofW HT_.out HW_.out (by kernel_rfl)) (fun _ _ _ h => h) (Or.inl ⟨by rfl, ?_⟩) hHeld ?_ ?_
    rotate_left
    ·rintro w' ⟨s0, s1, s2, s3, s4, s5, s6, s7, s8⟩
     go_simp
     with_reducible rfl
    rotate_left
    ·simp only [Act.put, List.setIfInBounds_toArray, List.set_cons_zero, List.set_cons_succ, i64_w, i32_w]
     rfl
    refine take_ (i := 2) (N := some 33) (v := ?_) (a' := ?_) #[true, true, true, true, false, false, false, false, false, false, false, false, false, false, false, false] rfl rfl (take_ofW HT_.out HW_.out (by kernel_rfl)) (fun _ _ _ h => h) (Or.inl ⟨by rfl, ?_⟩) hHeld ?_ ?_
    rotate_left
    ·rintro w' ⟨s0, s1, s2, s3, s4, s5, s6, s7, s8⟩
     go_simp
     with_reducible rfl
    rotate_left
    ·simp only [Act.put, List.setIfInBounds_toArray, List.set_cons_zero, List.set_cons_succ, i64_w, i32_w]
     rfl
    refine one_ (i := 4) (N := some 35) #[true, true, true, true, true, false, false, false, false, false, false, false, false, false, false, false] rfl rfl (one_of HT_.out (by kernel_rfl)) (by decide) (fun K hK => ?_)
    refine goes_ Try.func18 (by kernel_rfl) rfl #[.agg #[.int .i64 a1_0, .int .i64 a1_1, .int .i64 a1_2], .int .i64 a2] (by rfl) rfl rfl (by (try simp only [List.map_toArray, List.map_cons, List.map_nil]); first | done | rfl | (simp only [List.length_drop, List.length_take]; rfl)) ?_
    with_reducible refine (vec_Scale.calls a1_0 a1_1 a1_2 a2 t210 t211 t212 _ A25.out).mono ?_
    rintro e w39 ⟨rfl, hb⟩
    refine ⟨_, rfl, ?_⟩
    replace BK198 := cB hb BK198
    replace BK199 := cB hb BK199
    replace BK209 := cB hb BK209
    replace HB := Aside0.mk (below_step (HB.out) hb)
    (try clear hb)
    (try clear hb2)
    (try clear hk)
    (try clear hi)
    refine hK.out _ _ ⟨(blk_cell BK209.out 0).trans rfl, (blk_cell BK209.out 1).trans rfl, (blk_cell BK209.out 2).trans rfl, (blk_cell BK198.out 0).trans rfl, (blk_cell BK198.out 1).trans rfl, (blk_cell BK198.out 2).trans rfl, (blk_cell BK199.out 0).trans rfl, (blk_cell BK199.out 1).trans rfl, (blk_cell BK199.out 2).trans rfl⟩ (fun hHeld => ?_)
    clear hK K
    refine norm_ (a' := ?_) ?_ ?_
    rotate_left
    ·show Act.put _ (some 35) _ = _
     simp only [Act.put, List.setIfInBounds_toArray, List.set_cons_zero, List.set_cons_succ, i64_w, i32_w]
     rfl
    refine one_ (i := 5) (N := some 36) #[true, true, true, true, true, true, false, false, false, false, false, false, false, false, false, false] rfl rfl (one_of HT_.out (by kernel_rfl)) (by decide) (fun K hK => ?_)
    refine goes_ Try.func14 (by kernel_rfl) rfl #[.agg #[.int .i64 a0_0, .int .i64 a0_1, .int .i64 a0_2], .agg #[.int .i64 t210, .int .i64 t211, .int .i64 t212]] (by rfl) rfl rfl (by (try simp only [List.map_toArray, List.map_cons, List.map_nil]); first | done | rfl | (simp only [List.length_drop, List.length_take]; rfl)) ?_
    with_reducible refine (light_Reflect.calls kj5 a0_0 a0_1 a0_2 t210 t211 t212 t213 t214 t215 _ A26.out).mono ?_
    rintro e w40 ⟨rfl, hb⟩
    refine ⟨_, rfl, ?_⟩
    replace BK198 := cB hb BK198
    replace BK199 := cB hb BK199
    replace BK209 := cB hb BK209
    replace HB := Aside0.mk (below_step (HB.out) hb)
    (try clear hb)
    (try clear hb2)
    (try clear hk)
    (try clear hi)
    refine hK.out _ _ ⟨(blk_cell BK209.out 0).trans rfl, (blk_cell BK209.out 1).trans rfl, (blk_cell BK209.out 2).trans rfl, (blk_cell BK198.out 0).trans rfl, (blk_cell BK198.out 1).trans rfl, (blk_cell BK198.out 2).trans rfl, (blk_cell BK199.out 0).trans rfl, (blk_cell BK199.out 1).trans rfl, (blk_cell BK199.out 2).trans rfl⟩ (fun hHeld => ?_)
    clear hK K
    refine norm_ (a' := ?_) ?_ ?_
    rotate_left
    ·show Act.put _ (some 36) _ = _
     simp only [Act.put, List.setIfInBounds_toArray, List.set_cons_zero, List.set_cons_succ, i64_w, i32_w]
     rfl
    refine pure_ (i := 6) (N := some 37) (v := ?_) (a' := ?_) #[true, true, true, true, true, true, true, false, false, false, false, false, false, false, false, false] rfl rfl (any_of HT_.out (by kernel_rfl)) (fun _ _ _ h => h) (Or.inl ⟨by rfl, ?_⟩) ?_ ?_
    rotate_left
    ·intro w'
     go_simp
     with_reducible rfl
    rotate_left
    ·simp only [Act.put, List.setIfInBounds_toArray, List.set_cons_zero, List.set_cons_succ, i64_w, i32_w]
     rfl
    refine pure_ (i := 7) (N := some 38) (v := ?_) (a' := ?_) #[true, true, true, true, true, true, true, true, false, false, false, false, false, false, false, false] rfl rfl (any_of HT_.out (by kernel_rfl)) (fun _ _ _ h => h) (Or.inl ⟨by rfl, ?_⟩) ?_ ?_
    rotate_left
    ·intro w'
     go_simp
     with_reducible rfl
    rotate_left
    ·simp only [Act.put, List.setIfInBounds_toArray, List.set_cons_zero, List.set_cons_succ, i64_w, i32_w]
     rfl
    refine take_ (i := 8) (N := some 39) (v := ?_) (a' := ?_) #[true, true, true, true, true, true, true, true, true, false, false, false, false, false, false, false] rfl rfl (take_ofW HT_.out HW_.out (by kernel_rfl)) (fun _ _ _ h => h) (Or.inl ⟨by rfl, ?_⟩) hHeld ?_ ?_
    rotate_left
    ·rintro w' ⟨s0, s1, s2, s3, s4, s5, s6, s7, s8⟩
     go_simp
     with_reducible rfl
    rotate_left
    ·simp only [Act.put, List.setIfInBounds_toArray, List.set_cons_zero, List.set_cons_succ, i64_w, i32_w]
     rfl
    refine take_ (i := 9) (N := some 40) (v := ?_) (a' := ?_) #[true, true, true, true, true, true, true, true, true, true, false, false, false, false, false, false] rfl rfl (take_ofW HT_.out HW_.out (by kernel_rfl)) (fun _ _ _ h => h) (Or.inl ⟨by rfl, ?_⟩) hHeld ?_ ?_
    rotate_left
    ·rintro w' ⟨s0, s1, s2, s3, s4, s5, s6, s7, s8⟩
     go_simp
     with_reducible rfl
    rotate_left
    ·simp only [Act.put, List.setIfInBounds_toArray, List.set_cons_zero, List.set_cons_succ, i64_w, i32_w]
     rfl
    refine take_ (i := 10) (N := some 41) (v := ?_) (a' := ?_) #[true, true, true, true, true, true, true, true, true, true, true, false, false, false, false, false] rfl rfl (take_ofW HT_.out HW_.out (by kernel_rfl)) (fun _ _ _ h => h) (Or.inl ⟨by rfl, ?_⟩) hHeld ?_ ?_
    rotate_left
    ·rintro w' ⟨s0, s1, s2, s3, s4, s5, s6, s7, s8⟩
     go_simp
     with_reducible rfl
    rotate_left
    ·simp only [Act.put, List.setIfInBounds_toArray, List.set_cons_zero, List.set_cons_succ, i64_w, i32_w]
     rfl
    refine one_ (i := 11) (N := some 42) #[true, true, true, true, true, true, true, true, true, true, true, true, false, false, false, false] rfl rfl (one_of HT_.out (by kernel_rfl)) (by decide) (fun K hK => ?_)
    refine goes_ Try.func18 (by kernel_rfl) rfl #[.agg #[.int .i64 a1_0, .int .i64 a1_1, .int .i64 a1_2], .int .i64 (-1)] (by rfl) rfl rfl (by (try simp only [List.map_toArray, List.map_cons, List.map_nil]); first | done | rfl | (simp only [List.length_drop, List.length_take]; rfl)) ?_
    with_reducible refine (vec_Scale.calls a1_0 a1_1 a1_2 (-1) t216 t217 t218 _ A28.out).mono ?_
    rintro e w41 ⟨rfl, hb⟩
    refine ⟨_, rfl, ?_⟩
    replace BK198 := cB hb BK198
    replace BK199 := cB hb BK199
    replace BK209 := cB hb BK209
    replace HB := Aside0.mk (below_step (HB.out) hb)
    (try clear hb)
    (try clear hb2)
    (try clear hk)
    (try clear hi)
    refine hK.out _ _ ⟨(blk_cell BK209.out 0).trans rfl, (blk_cell BK209.out 1).trans rfl, (blk_cell BK209.out 2).trans rfl, (blk_cell BK198.out 0).trans rfl, (blk_cell BK198.out 1).trans rfl, (blk_cell BK198.out 2).trans rfl, (blk_cell BK199.out 0).trans rfl, (blk_cell BK199.out 1).trans rfl, (blk_cell BK199.out 2).trans rfl⟩ (fun hHeld => ?_)
    clear hK K
    refine norm_ (a' := ?_) ?_ ?_
    rotate_left
    ·show Act.put _ (some 42) _ = _
     simp only [Act.put, List.setIfInBounds_toArray, List.set_cons_zero, List.set_cons_succ, i64_w, i32_w]
     rfl
    refine one_ (i := 12) (N := some 43) #[true, true, true, true, true, true, true, true, true, true, true, true, true, false, false, false] rfl rfl (one_of HT_.out (by kernel_rfl)) (by decide) (fun K hK => ?_)
    refine goes_ Try.func14 (by kernel_rfl) rfl #[.agg #[.int .i64 a0_0, .int .i64 a0_1, .int .i64 a0_2], .agg #[.int .i64 t216, .int .i64 t217, .int .i64 t218]] (by rfl) rfl rfl (by (try simp only [List.map_toArray, List.map_cons, List.map_nil]); first | done | rfl | (simp only [List.length_drop, List.length_take]; rfl)) ?_
    with_reducible refine (light_Reflect.calls kj5 a0_0 a0_1 a0_2 t216 t217 t218 t219 t220 t221 _ A29.out).mono ?_
    rintro e w42 ⟨rfl, hb⟩
    refine ⟨_, rfl, ?_⟩
    replace BK198 := cB hb BK198
    replace BK199 := cB hb BK199
    replace BK209 := cB hb BK209
    replace HB := Aside0.mk (below_step (HB.out) hb)
    (try clear hb)
    (try clear hb2)
    (try clear hk)
    (try clear hi)
    refine hK.out _ _ ⟨(blk_cell BK209.out 0).trans rfl, (blk_cell BK209.out 1).trans rfl, (blk_cell BK209.out 2).trans rfl, (blk_cell BK198.out 0).trans rfl, (blk_cell BK198.out 1).trans rfl, (blk_cell BK198.out 2).trans rfl, (blk_cell BK199.out 0).trans rfl, (blk_cell BK199.out 1).trans rfl, (blk_cell BK199.out 2).trans rfl⟩ (fun hHeld => ?_)
    clear hK K
    refine norm_ (a' := ?_) ?_ ?_
    rotate_left
    ·show Act.put _ (some 43) _ = _
     simp only [Act.put, List.setIfInBounds_toArray, List.set_cons_zero, List.set_cons_succ, i64_w, i32_w]
     rfl
    refine pure_ (i := 13) (N := some 44) (v := ?_) (a' := ?_) #[true, true, true, true, true, true, true, true, true, true, true, true, true, true, false, false] rfl rfl (any_of HT_.out (by kernel_rfl)) (fun _ _ _ h => h) (Or.inl ⟨by rfl, ?_⟩) ?_ ?_
    rotate_left
    ·intro w'
     go_simp
     with_reducible rfl
    rotate_left
    ·simp only [Act.put, List.setIfInBounds_toArray, List.set_cons_zero, List.set_cons_succ, i64_w, i32_w]
     rfl
    refine pure_ (i := 14) (N := some 45) (v := ?_) (a' := ?_) #[true, true, true, true, true, true, true, true, true, true, true, true, true, true, true, false] rfl rfl (any_of HT_.out (by kernel_rfl)) (fun _ _ _ h => h) (Or.inl ⟨by rfl, ?_⟩) ?_ ?_
    rotate_left
    ·intro w'
     go_simp
     with_reducible rfl
    rotate_left
    ·simp only [Act.put, List.setIfInBounds_toArray, List.set_cons_zero, List.set_cons_succ, i64_w, i32_w]
     rfl
    refine pure_ (i := 15) (N := some 6) (v := ?_) (a' := ?_) #[true, true, true, true, true, true, true, true, true, true, true, true, true, true, true, true] rfl rfl (any_of HT_.out (by kernel_rfl)) (fun _ _ _ h => h) (Or.inl ⟨by rfl, ?_⟩) ?_ ?_
    rotate_left
    ·intro w'
     go_simp
     with_reducible rfl
    rotate_left
    ·simp only [Act.put, List.setIfInBounds_toArray, List.set_cons_zero, List.set_cons_succ, i64_w, i32_w]
     rfl
    refine done_ (done_of HT_.out (by kernel_rfl)) ?_
    try go_wp2
    go_ret
    exact ⟨by first | rfl | (simp [errW_none, errW_some] <;> rfl) | (simp [*, errW_none, errW_some] <;> rfl), HB.out⟩
   rw [if_neg c27] at H
   have c27b0 : (t206 == t213 && (t207 == t214 && (t208 == t215))) = false := by simpa using c27
   (try (have c27b1 : decide (t206 = t213 && (t207 == t214 && (t208 == t215))) = false := by simpa using c27))
   (try (have c27b2 : (t206 == t213 && (t207 == t214 && (t208 == t215))) = false := by simpa using c27))
   (try (have c27b3 : ¬ (t206 = t213 && (t207 == t214 && (t208 == t215))) := by simpa using c27))
   clear c27
   obtain rfl := Option.some.inj H
   obtain ⟨hcz43_0, hcz43_1, hcz43_2⟩ := cells3 BK198.out
   obtain ⟨hcz44_0, hcz44_1, hcz44_2⟩ := cells3 BK199.out
   try go_wp2_with (first | ((with_reducible refine gate_callee (f := 14) rfl ?_); refine goesL_ (some 30) rfl rfl Try.func14 (by kernel_rfl) rfl #[.agg #[.int .i64 a0_0, .int .i64 a0_1, .int .i64 a0_2], .agg #[.int .i64 a1_0, .int .i64 a1_1, .int .i64 a1_2]] rfl (by (try simp only [List.map_toArray, List.map_cons, List.map_nil]); first | done | rfl | (simp only [List.length_drop, List.length_take]; rfl)) ?_; (with_reducible refine (light_Reflect.calls kj5 a0_0 a0_1 a0_2 a1_0 a1_1 a1_2 t206 t207 t208 _ A24.out).mono ?_); rintro e w45 ⟨rfl, hb⟩; refine ⟨_, rfl, ?_⟩; replace BK198 := cB hb BK198; replace BK199 := cB hb BK199; replace HB := Aside0.mk (below_step (HB.out) hb); (try clear hb); (try clear hb2); (try clear hk); (try clear hi)) | ((with_reducible refine gate_dst (N := 7) rfl ?_); refine box_event ?hg (N := 7) ?hd (cs := #[.int .i64 0, .int .i64 0, .int .i64 0]) (t := 26) ?hr ?_; (case hd => rfl); (case hg => rfl); (case hr => first | (go_simp; done) | (go_simp; rfl)); intro gb209 hg w46 hbox hb; have BK209 := Aside0.mk (hbox); have GE209 := Aside0.mk (bG hg (HB.out)); have NB198_209 := cN hg BK198; have NB209_198 := cM hg BK198; have NB199_209 := cN hg BK199; have NB209_199 := cM hg BK199; replace BK198 := cB hb BK198; replace BK199 := cB hb BK199; replace HB := Aside0.mk (below_step (HB.out) hb); clear hb hbox hg; have hnb47 := NB209_198.out; have hnc47 := NB198_209.out; have hnb48 := NB209_199.out; have hnc48 := NB199_209.out; obtain ⟨hcz49_0, hcz49_1, hcz49_2⟩ := cells3 BK209.out; have hfz49_0 := blk_frozen BK209.out 0; have hfz49_1 := blk_frozen BK209.out 1; have hfz49_2 := blk_frozen BK209.out 2))
   generalize hw_ : (((w46.setCell ⟨gb209, 0, none⟩ (.int .i64 t206)).setCell ⟨gb209, 1, none⟩ (.int .i64 t207)).setCell ⟨gb209, 2, none⟩ (.int .i64 t208)) = w50
   replace BK198 := Aside0.mk (bF hw_ (blk_far (blk_far (blk_far BK198.out NB198_209.out _) NB198_209.out _) NB198_209.out _))
   replace BK199 := Aside0.mk (bF hw_ (blk_far (blk_far (blk_far BK199.out NB199_209.out _) NB199_209.out _) NB199_209.out _))
   replace BK209 := Aside0.mk (bF hw_ (blk_put (cs' := #[.int .i64 t206, .int .i64 t207, .int .i64 t208]) (blk_put (blk_put BK209.out 0 _ rfl) 1 _ rfl) 2 _ rfl))
   replace HB := Aside0.mk (bH hw_ (below_set (below_set (below_set HB.out GE209.out) GE209.out) GE209.out))
   clear hw_
   replace BK198 := Aside0.mk (blk_drew BK198.out)
   replace BK199 := Aside0.mk (blk_drew BK199.out)
   replace BK209 := Aside0.mk (blk_drew BK209.out)
   replace HB := Aside0.mk (below_drew1 HB.out)
   refine start_ (n := 16) (S := fun w' => w'.cell? ⟨gb209, 0, none⟩ = some (.int .i64 t206) ∧ w'.cell? ⟨gb209, 1, none⟩ = some (.int .i64 t207) ∧ w'.cell? ⟨gb209, 2, none⟩ = some (.int .i64 t208) ∧ w'.cell? ⟨gb198, 0, none⟩ = some (.int .i64 a0_0) ∧ w'.cell? ⟨gb198, 1, none⟩ = some (.int .i64 a0_1) ∧ w'.cell? ⟨gb198, 2, none⟩ = some (.int .i64 a0_2) ∧ w'.cell? ⟨gb199, 0, none⟩ = some (.int .i64 a1_0) ∧ w'.cell? ⟨gb199, 1, none⟩ = some (.int .i64 a1_1) ∧ w'.cell? ⟨gb199, 2, none⟩ = some (.int .i64 a1_2)) (ds := []) #[false, false, false, false, false, false, false, false, false, false, false, false, false, false, false, false] (by kernel_rfl) rfl rfl ⟨(blk_cell BK209.out 0).trans rfl, (blk_cell BK209.out 1).trans rfl, (blk_cell BK209.out 2).trans rfl, (blk_cell BK198.out 0).trans rfl, (blk_cell BK198.out 1).trans rfl, (blk_cell BK198.out 2).trans rfl, (blk_cell BK199.out 0).trans rfl, (blk_cell BK199.out 1).trans rfl, (blk_cell BK199.out 2).trans rfl⟩ (fun hHeld => ?_); refine with_tabW relievolaw19_LightLonger.tab6 relievolaw19_LightLonger.bits6 (fun HT_ HW_ => ?_)
   generalize w50.drew = w51 at BK198 BK199 BK209 HB hHeld ⊢
   refine pure_ (i := 3) (N := some 34) (v := ?_) (a' := ?_) #[false, false, false, true, false, false, false, false, false, false, false, false, false, false, false, false] rfl rfl (any_of HT_.out (by kernel_rfl)) (fun _ _ _ h => h) (Or.inl ⟨by rfl, ?_⟩) ?_ ?_
   rotate_left
   ·intro w'
    go_simp
    with_reducible rfl
   rotate_left
   ·simp only [Act.put, List.setIfInBounds_toArray, List.set_cons_zero, List.set_cons_succ, i64_w, i32_w]
    rfl
   refine take_ (i := 0) (N := some 31) (v := ?_) (a' := ?_) #[true, false, false, true, false, false, false, false, false, false, false, false, false, false, false, false] rfl rfl (take_ofW HT_.out HW_.out (by kernel_rfl)) (fun _ _ _ h => h) (Or.inl ⟨by rfl, ?_⟩) hHeld ?_ ?_
   rotate_left
   ·rintro w' ⟨s0, s1, s2, s3, s4, s5, s6, s7, s8⟩
    go_simp
    with_reducible rfl
   rotate_left
   ·simp only [Act.put, List.setIfInBounds_toArray, List.set_cons_zero, List.set_cons_succ, i64_w, i32_w]
    rfl
   refine take_ (i := 1) (N := some 32) (v := ?_) (a' := ?_) #[true, true, false, true, false, false, false, false, false, false, false, false, false, false, false, false] rfl rfl (take_ofW HT_.out HW_.out (by kernel_rfl)) (fun _ _ _ h => h) (Or.inl ⟨by rfl, ?_⟩) hHeld ?_ ?_
   rotate_left
   ·rintro w' ⟨s0, s1, s2, s3, s4, s5, s6, s7, s8⟩
    go_simp
    with_reducible rfl
   rotate_left
   ·simp only [Act.put, List.setIfInBounds_toArray, List.set_cons_zero, List.set_cons_succ, i64_w, i32_w]
    rfl
   refine take_ (i := 2) (N := some 33) (v := ?_) (a' := ?_) #[true, true, true, true, false, false, false, false, false, false, false, false, false, false, false, false] rfl rfl (take_ofW HT_.out HW_.out (by kernel_rfl)) (fun _ _ _ h => h) (Or.inl ⟨by rfl, ?_⟩) hHeld ?_ ?_
   rotate_left
   ·rintro w' ⟨s0, s1, s2, s3, s4, s5, s6, s7, s8⟩
    go_simp
    with_reducible rfl
   rotate_left
   ·simp only [Act.put, List.setIfInBounds_toArray, List.set_cons_zero, List.set_cons_succ, i64_w, i32_w]
    rfl
   refine one_ (i := 4) (N := some 35) #[true, true, true, true, true, false, false, false, false, false, false, false, false, false, false, false] rfl rfl (one_of HT_.out (by kernel_rfl)) (by decide) (fun K hK => ?_)
   refine goes_ Try.func18 (by kernel_rfl) rfl #[.agg #[.int .i64 a1_0, .int .i64 a1_1, .int .i64 a1_2], .int .i64 a2] (by rfl) rfl rfl (by (try simp only [List.map_toArray, List.map_cons, List.map_nil]); first | done | rfl | (simp only [List.length_drop, List.length_take]; rfl)) ?_
   with_reducible refine (vec_Scale.calls a1_0 a1_1 a1_2 a2 t210 t211 t212 _ A25.out).mono ?_
   rintro e w52 ⟨rfl, hb⟩
   refine ⟨_, rfl, ?_⟩
   replace BK198 := cB hb BK198
   replace BK199 := cB hb BK199
   replace BK209 := cB hb BK209
   replace HB := Aside0.mk (below_step (HB.out) hb)
   (try clear hb)
   (try clear hb2)
   (try clear hk)
   (try clear hi)
   refine hK.out _ _ ⟨(blk_cell BK209.out 0).trans rfl, (blk_cell BK209.out 1).trans rfl, (blk_cell BK209.out 2).trans rfl, (blk_cell BK198.out 0).trans rfl, (blk_cell BK198.out 1).trans rfl, (blk_cell BK198.out 2).trans rfl, (blk_cell BK199.out 0).trans rfl, (blk_cell BK199.out 1).trans rfl, (blk_cell BK199.out 2).trans rfl⟩ (fun hHeld => ?_)
   clear hK K
   refine norm_ (a' := ?_) ?_ ?_
   rotate_left
   ·show Act.put _ (some 35) _ = _
    simp only [Act.put, List.setIfInBounds_toArray, List.set_cons_zero, List.set_cons_succ, i64_w, i32_w]
    rfl
   refine one_ (i := 5) (N := some 36) #[true, true, true, true, true, true, false, false, false, false, false, false, false, false, false, false] rfl rfl (one_of HT_.out (by kernel_rfl)) (by decide) (fun K hK => ?_)
   refine goes_ Try.func14 (by kernel_rfl) rfl #[.agg #[.int .i64 a0_0, .int .i64 a0_1, .int .i64 a0_2], .agg #[.int .i64 t210, .int .i64 t211, .int .i64 t212]] (by rfl) rfl rfl (by (try simp only [List.map_toArray, List.map_cons, List.map_nil]); first | done | rfl | (simp only [List.length_drop, List.length_take]; rfl)) ?_
   with_reducible refine (light_Reflect.calls kj5 a0_0 a0_1 a0_2 t210 t211 t212 t213 t214 t215 _ A26.out).mono ?_
   rintro e w53 ⟨rfl, hb⟩
   refine ⟨_, rfl, ?_⟩
   replace BK198 := cB hb BK198
   replace BK199 := cB hb BK199
   replace BK209 := cB hb BK209
   replace HB := Aside0.mk (below_step (HB.out) hb)
   (try clear hb)
   (try clear hb2)
   (try clear hk)
   (try clear hi)
   refine hK.out _ _ ⟨(blk_cell BK209.out 0).trans rfl, (blk_cell BK209.out 1).trans rfl, (blk_cell BK209.out 2).trans rfl, (blk_cell BK198.out 0).trans rfl, (blk_cell BK198.out 1).trans rfl, (blk_cell BK198.out 2).trans rfl, (blk_cell BK199.out 0).trans rfl, (blk_cell BK199.out 1).trans rfl, (blk_cell BK199.out 2).trans rfl⟩ (fun hHeld => ?_)
   clear hK K
   refine norm_ (a' := ?_) ?_ ?_
   rotate_left
   ·show Act.put _ (some 36) _ = _
    simp only [Act.put, List.setIfInBounds_toArray, List.set_cons_zero, List.set_cons_succ, i64_w, i32_w]
    rfl
   refine pure_ (i := 6) (N := some 37) (v := ?_) (a' := ?_) #[true, true, true, true, true, true, true, false, false, false, false, false, false, false, false, false] rfl rfl (any_of HT_.out (by kernel_rfl)) (fun _ _ _ h => h) (Or.inl ⟨by rfl, ?_⟩) ?_ ?_
   rotate_left
   ·intro w'
    go_simp
    with_reducible rfl
   rotate_left
   ·simp only [Act.put, List.setIfInBounds_toArray, List.set_cons_zero, List.set_cons_succ, i64_w, i32_w]
    rfl
   refine pure_ (i := 7) (N := some 38) (v := ?_) (a' := ?_) #[true, true, true, true, true, true, true, true, false, false, false, false, false, false, false, false] rfl rfl (any_of HT_.out (by kernel_rfl)) (fun _ _ _ h => h) (Or.inl ⟨by rfl, ?_⟩) ?_ ?_
   rotate_left
   ·intro w'
    go_simp
    with_reducible rfl
   rotate_left
   ·simp only [Act.put, List.setIfInBounds_toArray, List.set_cons_zero, List.set_cons_succ, i64_w, i32_w]
    rfl
   refine pure_ (i := 8) (N := some 39) (v := undef) (a' := ?_) #[true, true, true, true, true, true, true, true, true, false, false, false, false, false, false, false] rfl rfl (any_of HT_.out (by kernel_rfl)) (fun _ _ _ h => h) (Or.inr ⟨by rfl, rfl⟩) ?_ ?_
   rotate_left
   ·simp only [Act.put, List.setIfInBounds_toArray, List.set_cons_zero, List.set_cons_succ, i64_w, i32_w]
    rfl
   refine pure_ (i := 9) (N := some 40) (v := undef) (a' := ?_) #[true, true, true, true, true, true, true, true, true, true, false, false, false, false, false, false] rfl rfl (any_of HT_.out (by kernel_rfl)) (fun _ _ _ h => h) (Or.inr ⟨by rfl, rfl⟩) ?_ ?_
   rotate_left
   ·simp only [Act.put, List.setIfInBounds_toArray, List.set_cons_zero, List.set_cons_succ, i64_w, i32_w]
    rfl
   refine pure_ (i := 10) (N := some 41) (v := undef) (a' := ?_) #[true, true, true, true, true, true, true, true, true, true, true, false, false, false, false, false] rfl rfl (any_of HT_.out (by kernel_rfl)) (fun _ _ _ h => h) (Or.inr ⟨by rfl, rfl⟩) ?_ ?_
   rotate_left
   ·simp only [Act.put, List.setIfInBounds_toArray, List.set_cons_zero, List.set_cons_succ, i64_w, i32_w]
    rfl
   refine pure_ (i := 11) (N := some 42) (v := undef) (a' := ?_) #[true, true, true, true, true, true, true, true, true, true, true, true, false, false, false, false] rfl rfl (any_of HT_.out (by kernel_rfl)) (fun _ _ _ h => h) (Or.inr ⟨by rfl, rfl⟩) ?_ ?_
   rotate_left
   ·simp only [Act.put, List.setIfInBounds_toArray, List.set_cons_zero, List.set_cons_succ, i64_w, i32_w]
    rfl
   refine pure_ (i := 12) (N := some 43) (v := undef) (a' := ?_) #[true, true, true, true, true, true, true, true, true, true, true, true, true, false, false, false] rfl rfl (any_of HT_.out (by kernel_rfl)) (fun _ _ _ h => h) (Or.inr ⟨by rfl, rfl⟩) ?_ ?_
   rotate_left
   ·simp only [Act.put, List.setIfInBounds_toArray, List.set_cons_zero, List.set_cons_succ, i64_w, i32_w]
    rfl
   refine pure_ (i := 13) (N := some 44) (v := undef) (a' := ?_) #[true, true, true, true, true, true, true, true, true, true, true, true, true, true, false, false] rfl rfl (any_of HT_.out (by kernel_rfl)) (fun _ _ _ h => h) (Or.inr ⟨by rfl, rfl⟩) ?_ ?_
   rotate_left
   ·simp only [Act.put, List.setIfInBounds_toArray, List.set_cons_zero, List.set_cons_succ, i64_w, i32_w]
    rfl
   refine pure_ (i := 14) (N := some 45) (v := ?_) (a' := ?_) #[true, true, true, true, true, true, true, true, true, true, true, true, true, true, true, false] rfl rfl (any_of HT_.out (by kernel_rfl)) (fun _ _ _ h => h) (Or.inl ⟨by rfl, ?_⟩) ?_ ?_
   rotate_left
   ·intro w'
    go_simp
    with_reducible rfl
   rotate_left
   ·simp only [Act.put, List.setIfInBounds_toArray, List.set_cons_zero, List.set_cons_succ, i64_w, i32_w]
    rfl
   refine pure_ (i := 15) (N := some 6) (v := ?_) (a' := ?_) #[true, true, true, true, true, true, true, true, true, true, true, true, true, true, true, true] rfl rfl (any_of HT_.out (by kernel_rfl)) (fun _ _ _ h => h) (Or.inl ⟨by rfl, ?_⟩) ?_ ?_
   rotate_left
   ·intro w'
    go_simp
    with_reducible rfl
   rotate_left
   ·simp only [Act.put, List.setIfInBounds_toArray, List.set_cons_zero, List.set_cons_succ, i64_w, i32_w]
    rfl
   refine done_ (done_of HT_.out (by kernel_rfl)) ?_
   try go_wp2
   go_ret
   exact ⟨by first | rfl | (simp [errW_none, errW_some] <;> rfl) | (simp [*, errW_none, errW_some] <;> rfl), HB.out⟩
 replace c5 := Bool.eq_false_iff.mpr c5
 subst c5
 have H1 : (some false) = some r := by rw [if_neg (show ¬ (false = true) by decide)] at H; exact H
 clear H
 have H := H1
 clear H1
 obtain rfl := Option.some.inj H
 go_enter Try.func7, Try.ntmps7
 go_wp2_with (first | ((with_reducible refine gate_dst (N := 3) rfl ?_); refine box_event ?hg (N := 3) ?hd (cs := #[.int .i64 a0_0, .int .i64 a0_1, .int .i64 a0_2]) (t := 26) ?hr ?_; (case hd => rfl); (case hg => rfl); (case hr => first | (go_simp; done) | (go_simp; rfl)); intro gb198 hg w54 hbox hb; have BK198 := Aside0.mk (hbox); have GE198 := Aside0.mk (bG hg (HB.out)); replace HB := Aside0.mk (below_step (HB.out) hb); clear hb hbox hg) | ((with_reducible refine gate_dst (N := 4) rfl ?_); refine box_event ?hg (N := 4) ?hd (cs := #[.int .i64 a1_0, .int .i64 a1_1, .int .i64 a1_2]) (t := 26) ?hr ?_; (case hd => rfl); (case hg => rfl); (case hr => first | (go_simp; done) | (go_simp; rfl)); intro gb199 hg w55 hbox hb; have BK199 := Aside0.mk (hbox); have GE199 := Aside0.mk (bG hg (HB.out)); have NB198_199 := cN hg BK198; have NB199_198 := cM hg BK198; replace BK198 := cB hb BK198; replace HB := Aside0.mk (below_step (HB.out) hb); clear hb hbox hg) | ((with_reducible refine gate_callee (f := 11) rfl ?_); refine goesL_ (some 8) rfl rfl Try.func11 (by kernel_rfl) rfl #[] rfl (by (try simp only [List.map_toArray, List.map_cons, List.map_nil]); first | done | rfl | (simp only [List.length_drop, List.length_take]; rfl)) ?_; (with_reducible refine (relievolaw19_alive.calls k  false _ A4.out).mono ?_); rintro e w56 ⟨rfl, hb⟩; refine ⟨_, rfl, ?_⟩; replace BK198 := cB hb BK198; replace BK199 := cB hb BK199; replace HB := Aside0.mk (below_step (HB.out) hb); (try clear hb); (try clear hb2); (try clear hk); (try clear hi)))
 go_ret
 exact ⟨by first | rfl | (simp [errW_none, errW_some] <;> rfl) | (simp [*, errW_none, errW_some] <;> rfl), HB.out⟩

end Go.Proofs.Ytmhnidmbgicgeaa.G
