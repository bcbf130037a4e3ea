-- Written by a program of this session (wip/gen), out of the translation; Lean checks it.
import Derived.Test.YtmhnidmbgicgeaaLitReflect
import Derived.Test.YtmhnidmbgicgeaaGx0
import Derived.Test.YtmhnidmbgicgeaaGx1
import Derived.Test.YtmhnidmbgicgeaaGx5
import Derived.Test.YtmhnidmbgicgeaaGx18
import Derived.Test.YtmhnidmbgicgeaaGx22
import Derived.Test.YtmhnidmbgicgeaaGx25
namespace Go.Proofs.Ytmhnidmbgicgeaa.G
open Go.RowKit Go.Proofs.YtmhnidmbgicgeaaW.PrintWords Go.Proofs.YtmhnidmbgicgeaaW.PrintLast Go.Proofs.YtmhnidmbgicgeaaW.PrintMore
attribute [local go_sem] max2_int min2_int max_two min_two max_three min_three max_four min_four   -- for this text's walks alone
set_option linter.unusedVariables false
set_option linter.unusedSimpArgs false

attribute [local go_sem high] eqA26
/-! ### relievolaw19_LightStraight: function 8 -/
def relievolaw19_LightStraight.j0 : Nat → Int → Bool → Int → Int → Int → Option (Bool)
  | 0, _, _, _, _, _ => none
  | k + 1, x1, x24, x226000, x226001, x226002 => if x24 = true then (some true) else ((vec_Scale.f x226000 x226001 x226002 (wrap64 (-x1))).bind fun bt228 => ((vec_Cross.f x226000 x226001 x226002 1 2 3).bind fun bt232 => ((light_Reflect.f k bt228.1 bt228.2.1 bt228.2.2 x226000 x226001 x226002).bind fun bt236 => ((vec_Scale.f x226000 x226001 x226002 x1).bind fun bt239 => (if (bt236.1 == bt239.1 && (bt236.2.1 == bt239.2.1 && (bt236.2.2 == bt239.2.2))) = true then ((light_Reflect.f k bt232.1 bt232.2.1 bt232.2.2 x226000 x226001 x226002).bind fun bt242 => (some (bt242.1 == bt232.1 && (bt242.2.1 == bt232.2.1 && (bt242.2.2 == bt232.2.2))))) else (some false))))))
def relievolaw19_LightStraight.f (k : Nat) (a0_0 : Int) (a0_1 : Int) (a0_2 : Int) (a1 : Int) : Option (Bool) := (relievolaw19_alive.f k).bind fun t226 => (if t226 = true then (if a1 < 1 then (relievolaw19_LightStraight.j0 k a1 true a0_0 a0_1 a0_2) else (if a1 > 100 then (relievolaw19_LightStraight.j0 k a1 true a0_0 a0_1 a0_2) else ((vec_Within.f a0_0 a0_1 a0_2 300).bind fun t227 => (if t227 = true then (relievolaw19_LightStraight.j0 k a1 (a0_0 == 0 && (a0_1 == 0 && (a0_2 == 0))) a0_0 a0_1 a0_2) else (relievolaw19_LightStraight.j0 k a1 true a0_0 a0_1 a0_2))))) else (some false))
def relievolaw19_LightStraight.T7 : Bool × List (List Nat × List Nat) := (true, [([], []), ([], []), ([0, 1], [0, 1]), ([], []), ([], []), ([3, 4, 2], [3, 4]), ([2, 5], [2, 5]), ([6, 5], [6]), ([7], [7]), ([7], [7]), ([8, 9, 7, 7], [7, 8, 9]), ([7], [7]), ([10, 11, 7], [7, 10, 11]), ([7, 12], [7, 12]), ([13, 10, 0, 1, 2, 3, 4, 5, 6, 7, 8, 9, 10, 11, 12, 13], [13])])
def relievolaw19_LightStraight.B7 : List Nat := [0, 0, 3, 0, 0, 31, 63, 127, 255, 255, 1023, 255, 4095, 8191, 16383]
theorem relievolaw19_LightStraight.tab7 : rtab .any (opsOf Try.f8 7) = relievolaw19_LightStraight.T7 := by kernel_rfl
theorem relievolaw19_LightStraight.bits7 : waitsOk relievolaw19_LightStraight.T7.2 relievolaw19_LightStraight.B7 = true := by kernel_rfl
set_option maxHeartbeats 8000000 in
set_option maxRecDepth 100000 in
theorem relievolaw19_LightStraight.calls (k : Nat) (a0_0 : Int) (a0_1 : Int) (a0_2 : Int) (a1 : Int) (r : Bool) (w : World) (h : relievolaw19_LightStraight.f k a0_0 a0_1 a0_2 a1 = some r) :
    Calls Try.prog 8 #[.agg #[.int .i64 a0_0, .int .i64 a0_1, .int .i64 a0_2], .int .i64 a1] w fun e w' => e = .returned (.bool r) ∧ Below w.heap.size w w' := by
 have hu26 := Try.underlying26
 have HB := Aside0.mk (Below.refl w.heap.size w)
 have H : ((relievolaw19_alive.f k).bind fun t226 => (if t226 = true then (if a1 < 1 then (relievolaw19_LightStraight.j0 k a1 true a0_0 a0_1 a0_2) else (if a1 > 100 then (relievolaw19_LightStraight.j0 k a1 true a0_0 a0_1 a0_2) else ((vec_Within.f a0_0 a0_1 a0_2 300).bind fun t227 => (if t227 = true then (relievolaw19_LightStraight.j0 k a1 (a0_0 == 0 && (a0_1 == 0 && (a0_2 == 0))) a0_0 a0_1 a0_2) else (relievolaw19_LightStraight.j0 k a1 true a0_0 a0_1 a0_2))))) else (some false))) = some r := h
 clear h
 replace H := Option.bind_eq_some_iff.mp H
 obtain ⟨t226, A30, H⟩ := H
 replace H : (if t226 = true then (if a1 < 1 then (relievolaw19_LightStraight.j0 k a1 true a0_0 a0_1 a0_2) else (if a1 > 100 then (relievolaw19_LightStraight.j0 k a1 true a0_0 a0_1 a0_2) else ((vec_Within.f a0_0 a0_1 a0_2 300).bind fun t227 => (if t227 = true then (relievolaw19_LightStraight.j0 k a1 (a0_0 == 0 && (a0_1 == 0 && (a0_2 == 0))) a0_0 a0_1 a0_2) else (relievolaw19_LightStraight.j0 k a1 true a0_0 a0_1 a0_2))))) else (some false)) = some r := H
 have A3 := Aside0.mk A30
 clear A30
 by_cases c4 : t226 = true
 ·subst c4
  have H1 : (if a1 < 1 then (relievolaw19_LightStraight.j0 k a1 true a0_0 a0_1 a0_2) else (if a1 > 100 then (relievolaw19_LightStraight.j0 k a1 true a0_0 a0_1 a0_2) else ((vec_Within.f a0_0 a0_1 a0_2 300).bind fun t227 => (if t227 = true then (relievolaw19_LightStraight.j0 k a1 (a0_0 == 0 && (a0_1 == 0 && (a0_2 == 0))) a0_0 a0_1 a0_2) else (relievolaw19_LightStraight.j0 k a1 true a0_0 a0_1 a0_2))))) = some r := by rw [if_pos rfl] at H; exact H
  clear H
  have H := H1
  clear H1
  have HC5 := Aside0.mk H
  clear H
  go_enter Try.func8, Try.ntmps8
  go_upto_region 3 with (first | ((with_reducible refine gate_dst (N := 2) rfl ?_); refine box_event ?hg (N := 2) ?hd (cs := #[.int .i64 a0_0, .int .i64 a0_1, .int .i64 a0_2]) (t := 26) ?hr ?_; (case hd => rfl); (case hg => rfl); (case hr => first | (go_simp; done) | (go_simp; rfl)); intro gb225 hg w6 hbox hb; have BK225 := Aside0.mk (hbox); have GE225 := Aside0.mk (bG hg (HB.out)); replace HB := Aside0.mk (below_step (HB.out) hb); clear hb hbox hg) | ((with_reducible refine gate_callee (f := 11) rfl ?_); refine goesL_ (some 7) rfl rfl Try.func11 (by kernel_rfl) rfl #[] rfl (by (try simp only [List.map_toArray, List.map_cons, List.map_nil]); first | done | rfl | (simp only [List.length_drop, List.length_take]; rfl)) ?_; (with_reducible refine (relievolaw19_alive.calls k  true _ A3.out).mono ?_); rintro e w7 ⟨rfl, hb⟩; refine ⟨_, rfl, ?_⟩; replace BK225 := cB hb BK225; replace HB := Aside0.mk (below_step (HB.out) hb); (try clear hb); (try clear hb2); (try clear hk); (try clear hi)))
  (try simp only [Act.put, List.setIfInBounds_toArray, List.set_cons_zero, List.set_cons_succ])
  go_cut [24] (fun v24 wc => ∃ (kq : Nat) (x24_4 : Bool), v24 = .bool x24_4 ∧ Aside0 (relievolaw19_LightStraight.j0 kq a1 x24_4 a0_0 a0_1 a0_2 = some r) ∧ Aside0 (kq ≤ k) ∧ Aside0 (wc.heap[gb225]? = some (.cells #[.int .i64 a0_0, .int .i64 a0_1, .int .i64 a0_2] 26 (0, 0))) ∧ Aside0 (Below w.heap.size w wc))
  case first =>
   have H := HC5.out
   clear HC5
   by_cases c8 : a1 < 1
   ·rw [if_pos c8] at H
    have c8b0 : decide (a1 < 1) = true := decide_eq_true c8
    clear c8
    (first | rw [c8b0] | (simp only [i64_w, i32_w]; rw [c8b0]) | skip)
    have H' := Aside0.mk H
    clear H
    go_wp2
    go_meet
    case rel => exact ⟨_, (true), (by first | rfl | (simp; done) | (simp [*]; done)), H', ⟨by first | omega | exact Nat.le_refl _⟩, ⟨BK225.out⟩, ⟨HB.out⟩⟩
   rw [if_neg c8] at H
   have c8b0 : decide (a1 < 1) = false := decide_eq_false c8
   clear c8
   (first | rw [c8b0] | (simp only [i64_w, i32_w]; rw [c8b0]) | skip)
   by_cases c9 : a1 > 100
   ·rw [if_pos c9] at H
    have c9b0 : decide (100 < a1) = true := decide_eq_true c9
    clear c9
    have H' := Aside0.mk H
    clear H
    go_wp2
    go_meet
    case rel => exact ⟨_, (true), (by first | rfl | (simp; done) | (simp [*]; done)), H', ⟨by first | omega | exact Nat.le_refl _⟩, ⟨BK225.out⟩, ⟨HB.out⟩⟩
   rw [if_neg c9] at H
   have c9b0 : decide (100 < a1) = false := decide_eq_false c9
   clear c9
   replace H := Option.bind_eq_some_iff.mp H
   obtain ⟨t227, A100, H⟩ := H
   replace H : (if t227 = true then (relievolaw19_LightStraight.j0 k a1 (a0_0 == 0 && (a0_1 == 0 && (a0_2 == 0))) a0_0 a0_1 a0_2) else (relievolaw19_LightStraight.j0 k a1 true a0_0 a0_1 a0_2)) = some r := H
   have A10 := Aside0.mk A100
   clear A100
   by_cases c11 : t227 = true
   ·subst c11
    have H1 : (relievolaw19_LightStraight.j0 k a1 (a0_0 == 0 && (a0_1 == 0 && (a0_2 == 0))) a0_0 a0_1 a0_2) = some r := by rw [if_pos rfl] at H; exact H
    clear H
    have H := H1
    clear H1
    have H' := Aside0.mk H
    clear H
    obtain ⟨hcz12_0, hcz12_1, hcz12_2⟩ := cells3 BK225.out
    go_wp2_with (first | (go_at_call 13; (with_reducible refine (vec_Within.calls a0_0 a0_1 a0_2 300 true _ A10.out).mono ?_); rintro e w13 ⟨rfl, hb⟩; replace BK225 := cB hb BK225; replace HB := Aside0.mk (below_step (HB.out) hb); (try clear hb); (try clear hb2); (try clear hk); (try clear hi); obtain ⟨hcz14_0, hcz14_1, hcz14_2⟩ := cells3 BK225.out))
    go_meet
    case rel => exact ⟨_, ((a0_0 == 0 && (a0_1 == 0 && (a0_2 == 0)))), (by first | rfl | (simp; done) | (simp [*]; done)), H', ⟨by first | omega | exact Nat.le_refl _⟩, ⟨BK225.out⟩, ⟨HB.out⟩⟩
   replace c11 := Bool.eq_false_iff.mpr c11
   subst c11
   have H1 : (relievolaw19_LightStraight.j0 k a1 true a0_0 a0_1 a0_2) = some r := by rw [if_neg (show ¬ (false = true) by decide)] at H; exact H
   clear H
   have H := H1
   clear H1
   have H' := Aside0.mk H
   clear H
   obtain ⟨hcz15_0, hcz15_1, hcz15_2⟩ := cells3 BK225.out
   go_wp2_with (first | (go_at_call 13; (with_reducible refine (vec_Within.calls a0_0 a0_1 a0_2 300 false _ A10.out).mono ?_); rintro e w16 ⟨rfl, hb⟩; replace BK225 := cB hb BK225; replace HB := Aside0.mk (below_step (HB.out) hb); (try clear hb); (try clear hb2); (try clear hk); (try clear hi)))
   go_meet
   case rel => exact ⟨_, (true), (by first | rfl | (simp; done) | (simp [*]; done)), H', ⟨by first | omega | exact Nat.le_refl _⟩, ⟨BK225.out⟩, ⟨HB.out⟩⟩
  clear HC5
  try clear c4
  obtain ⟨kq, x24_4, rfl, HA, HJ4, BK225, HB⟩ := hcut
  cases kq with
  | zero => exact absurd HA.out (by simp [relievolaw19_LightStraight.j0])
  | succ kj4 =>
   have H := HA.out
   clear HA
   simp only [relievolaw19_LightStraight.j0] at H
   by_cases c17 : x24_4 = true
   ·subst c17
    have H1 : (some true) = some r := by rw [if_pos rfl] at H; exact H
    clear H
    have H := H1
    clear H1
    obtain rfl := Option.some.inj H
    go_wp2
    go_ret
    exact ⟨by first | rfl | (simp [errW_none, errW_some] <;> rfl) | (simp [*, errW_none, errW_some] <;> rfl), HB.out⟩
   replace c17 := Bool.eq_false_iff.mpr c17
   subst c17
   have H1 : ((vec_Scale.f a0_0 a0_1 a0_2 (wrap64 (-a1))).bind fun bt228 => ((vec_Cross.f a0_0 a0_1 a0_2 1 2 3).bind fun bt232 => ((light_Reflect.f kj4 bt228.1 bt228.2.1 bt228.2.2 a0_0 a0_1 a0_2).bind fun bt236 => ((vec_Scale.f a0_0 a0_1 a0_2 a1).bind fun bt239 => (if (bt236.1 == bt239.1 && (bt236.2.1 == bt239.2.1 && (bt236.2.2 == bt239.2.2))) = true then ((light_Reflect.f kj4 bt232.1 bt232.2.1 bt232.2.2 a0_0 a0_1 a0_2).bind fun bt242 => (some (bt242.1 == bt232.1 && (bt242.2.1 == bt232.2.1 && (bt242.2.2 == bt232.2.2))))) else (some false)))))) = some r := by rw [if_neg (show ¬ (false = true) by decide)] at H; exact H
   clear H
   have H := H1
   clear H1
   replace H := Option.bind_eq_some_iff.mp H
   obtain ⟨⟨t228, t229, t230⟩, A180, H⟩ := H
   replace H : ((vec_Cross.f a0_0 a0_1 a0_2 1 2 3).bind fun bt232 => ((light_Reflect.f kj4 t228 t229 t230 a0_0 a0_1 a0_2).bind fun bt236 => ((vec_Scale.f a0_0 a0_1 a0_2 a1).bind fun bt239 => (if (bt236.1 == bt239.1 && (bt236.2.1 == bt239.2.1 && (bt236.2.2 == bt239.2.2))) = true then ((light_Reflect.f kj4 bt232.1 bt232.2.1 bt232.2.2 a0_0 a0_1 a0_2).bind fun bt242 => (some (bt242.1 == bt232.1 && (bt242.2.1 == bt232.2.1 && (bt242.2.2 == bt232.2.2))))) else (some false))))) = some r := H
   have A18 := Aside0.mk A180
   clear A180
   replace H := Option.bind_eq_some_iff.mp H
   obtain ⟨⟨t232, t233, t234⟩, A190, H⟩ := H
   replace H : ((light_Reflect.f kj4 t228 t229 t230 a0_0 a0_1 a0_2).bind fun bt236 => ((vec_Scale.f a0_0 a0_1 a0_2 a1).bind fun bt239 => (if (bt236.1 == bt239.1 && (bt236.2.1 == bt239.2.1 && (bt236.2.2 == bt239.2.2))) = true then ((light_Reflect.f kj4 t232 t233 t234 a0_0 a0_1 a0_2).bind fun bt242 => (some (bt242.1 == t232 && (bt242.2.1 == t233 && (bt242.2.2 == t234))))) else (some false)))) = some r := H
   have A19 := Aside0.mk A190
   clear A190
   replace H := Option.bind_eq_some_iff.mp H
   obtain ⟨⟨t236, t237, t238⟩, A200, H⟩ := H
   replace H : ((vec_Scale.f a0_0 a0_1 a0_2 a1).bind fun bt239 => (if (t236 == bt239.1 && (t237 == bt239.2.1 && (t238 == bt239.2.2))) = true then ((light_Reflect.f kj4 t232 t233 t234 a0_0 a0_1 a0_2).bind fun bt242 => (some (bt242.1 == t232 && (bt242.2.1 == t233 && (bt242.2.2 == t234))))) else (some false))) = some r := H
   have A20 := Aside0.mk A200
   clear A200
   replace H := Option.bind_eq_some_iff.mp H
   obtain ⟨⟨t239, t240, t241⟩, A210, H⟩ := H
   replace H : (if (t236 == t239 && (t237 == t240 && (t238 == t241))) = true then ((light_Reflect.f kj4 t232 t233 t234 a0_0 a0_1 a0_2).bind fun bt242 => (some (bt242.1 == t232 && (bt242.2.1 == t233 && (bt242.2.2 == t234))))) else (some false)) = some r := H
   have A21 := Aside0.mk A210
   clear A210
   by_cases c22 : (t236 == t239 && (t237 == t240 && (t238 == t241))) = true
   ·rw [if_pos c22] at H
    have c22b0 : (t236 == t239 && (t237 == t240 && (t238 == t241))) = true := c22
    (try (have c22b1 : decide (t236 = t239 && (t237 == t240 && (t238 == t241))) = true := by simpa using c22))
    (try (have c22b2 : (t236 == t239 && (t237 == t240 && (t238 == t241))) = true := by simpa using c22))
    clear c22
    replace H := Option.bind_eq_some_iff.mp H
    obtain ⟨⟨t242, t243, t244⟩, A230, H⟩ := H
    replace H : (some (t242 == t232 && (t243 == t233 && (t244 == t234)))) = some r := H
    have A23 := Aside0.mk A230
    clear A230
    obtain rfl := Option.some.inj H
    obtain ⟨hcz24_0, hcz24_1, hcz24_2⟩ := cells3 BK225.out
    try go_wp2_with (first | ((with_reducible refine gate_callee (f := 18) rfl ?_); refine goesL_ (some 28) rfl rfl Try.func18 (by kernel_rfl) rfl #[.agg #[.int .i64 a0_0, .int .i64 a0_1, .int .i64 a0_2], .int .i64 (wrap64 (-a1))] rfl (by (try simp only [List.map_toArray, List.map_cons, List.map_nil]); first | done | rfl | (simp only [List.length_drop, List.length_take]; rfl)) ?_; (with_reducible refine (vec_Scale.calls a0_0 a0_1 a0_2 (wrap64 (-a1)) t228 t229 t230 _ A18.out).mono ?_); rintro e w25 ⟨rfl, hb⟩; refine ⟨_, rfl, ?_⟩; replace BK225 := cB hb BK225; replace HB := Aside0.mk (below_step (HB.out) hb); (try clear hb); (try clear hb2); (try clear hk); (try clear hi)) | ((with_reducible refine gate_dst (N := 5) rfl ?_); refine box_event ?hg (N := 5) ?hd (cs := #[.int .i64 0, .int .i64 0, .int .i64 0]) (t := 26) ?hr ?_; (case hd => rfl); (case hg => rfl); (case hr => first | (go_simp; done) | (go_simp; rfl)); intro gb231 hg w26 hbox hb; have BK231 := Aside0.mk (hbox); have GE231 := Aside0.mk (bG hg (HB.out)); have NB225_231 := cN hg BK225; have NB231_225 := cM hg BK225; replace BK225 := cB hb BK225; replace HB := Aside0.mk (below_step (HB.out) hb); clear hb hbox hg; have hnb27 := NB231_225.out; have hnc27 := NB225_231.out; obtain ⟨hcz28_0, hcz28_1, hcz28_2⟩ := cells3 BK231.out; have hfz28_0 := blk_frozen BK231.out 0; have hfz28_1 := blk_frozen BK231.out 1; have hfz28_2 := blk_frozen BK231.out 2; obtain ⟨hcz29_0, hcz29_1, hcz29_2⟩ := cells3 BK225.out) | ((with_reducible refine gate_callee (f := 19) rfl ?_); refine goesL_ (some 31) rfl rfl Try.func19 (by kernel_rfl) rfl #[.agg #[.int .i64 a0_0, .int .i64 a0_1, .int .i64 a0_2], .agg #[.int .i64 1, .int .i64 2, .int .i64 3]] rfl (by (try simp only [List.map_toArray, List.map_cons, List.map_nil]); first | done | rfl | (simp only [List.length_drop, List.length_take]; rfl)) ?_; (with_reducible refine (vec_Cross.calls a0_0 a0_1 a0_2 1 2 3 t232 t233 t234 _ A19.out).mono ?_); rintro e w30 ⟨rfl, hb⟩; refine ⟨_, rfl, ?_⟩; replace BK225 := Aside0.mk (bB hb ((blk_far (blk_far (blk_far BK225.out NB225_231.out _) NB225_231.out _) NB225_231.out _))); replace BK231 := Aside0.mk (bB hb ((blk_put (cs' := #[.int .i64 t228, .int .i64 t229, .int .i64 t230]) (blk_put (blk_put BK231.out 0 _ rfl) 1 _ rfl) 2 _ rfl))); replace HB := Aside0.mk (below_step ((below_set (below_set (below_set HB.out GE231.out) GE231.out) GE231.out)) hb); (try clear hb); (try clear hb2); (try clear hk); (try clear hi)) | ((with_reducible refine gate_dst (N := 6) rfl ?_); refine box_event ?hg (N := 6) ?hd (cs := #[.int .i64 0, .int .i64 0, .int .i64 0]) (t := 26) ?hr ?_; (case hd => rfl); (case hg => rfl); (case hr => first | (go_simp; done) | (go_simp; rfl)); intro gb235 hg w31 hbox hb; have BK235 := Aside0.mk (hbox); have GE235 := Aside0.mk (bG hg (HB.out)); have NB225_235 := cN hg BK225; have NB235_225 := cM hg BK225; have NB231_235 := cN hg BK231; have NB235_231 := cM hg BK231; replace BK225 := cB hb BK225; replace BK231 := cB hb BK231; replace HB := Aside0.mk (below_step (HB.out) hb); clear hb hbox hg; have hnb32 := NB235_225.out; have hnc32 := NB225_235.out; have hnb33 := NB235_231.out; have hnc33 := NB231_235.out; obtain ⟨hcz34_0, hcz34_1, hcz34_2⟩ := cells3 BK235.out; have hfz34_0 := blk_frozen BK235.out 0; have hfz34_1 := blk_frozen BK235.out 1; have hfz34_2 := blk_frozen BK235.out 2))
    generalize hw_ : (((w31.setCell ⟨gb235, 0, none⟩ (.int .i64 t232)).setCell ⟨gb235, 1, none⟩ (.int .i64 t233)).setCell ⟨gb235, 2, none⟩ (.int .i64 t234)) = w35
    replace BK225 := Aside0.mk (bF hw_ (blk_far (blk_far (blk_far BK225.out NB225_235.out _) NB225_235.out _) NB225_235.out _))
    replace BK231 := Aside0.mk (bF hw_ (blk_far (blk_far (blk_far BK231.out NB231_235.out _) NB231_235.out _) NB231_235.out _))
    replace BK235 := Aside0.mk (bF hw_ (blk_put (cs' := #[.int .i64 t232, .int .i64 t233, .int .i64 t234]) (blk_put (blk_put BK235.out 0 _ rfl) 1 _ rfl) 2 _ rfl))
    replace HB := Aside0.mk (bH hw_ (below_set (below_set (below_set HB.out GE235.out) GE235.out) GE235.out))
    clear hw_
    replace BK225 := Aside0.mk (blk_drew BK225.out)
    replace BK231 := Aside0.mk (blk_drew BK231.out)
    replace BK235 := Aside0.mk (blk_drew BK235.out)
    replace HB := Aside0.mk (below_drew1 HB.out)
    refine start_ (n := 15) (S := fun w' => w'.cell? ⟨gb231, 0, none⟩ = some (.int .i64 t228) ∧ w'.cell? ⟨gb231, 1, none⟩ = some (.int .i64 t229) ∧ w'.cell? ⟨gb231, 2, none⟩ = some (.int .i64 t230) ∧ w'.cell? ⟨gb225, 0, none⟩ = some (.int .i64 a0_0) ∧ w'.cell? ⟨gb225, 1, none⟩ = some (.int .i64 a0_1) ∧ w'.cell? ⟨gb225, 2, none⟩ = some (.int .i64 a0_2) ∧ w'.cell? ⟨gb235, 0, none⟩ = some (.int .i64 t232) ∧ w'.cell? ⟨gb235, 1, none⟩ = some (.int .i64 t233) ∧ w'.cell? ⟨gb235, 2, none⟩ = some (.int .i64 t234)) (ds := []) #[false, false, false, false, false, false, false, false, false, false, false, false, false, false, false] (by kernel_rfl) rfl rfl ⟨(blk_cell BK231.out 0).trans rfl, (blk_cell BK231.out 1).trans rfl, (blk_cell BK231.out 2).trans rfl, (blk_cell BK225.out 0).trans rfl, (blk_cell BK225.out 1).trans rfl, (blk_cell BK225.out 2).trans rfl, (blk_cell BK235.out 0).trans rfl, (blk_cell BK235.out 1).trans rfl, (blk_cell BK235.out 2).trans rfl⟩ (fun hHeld => ?_); refine with_tabW relievolaw19_LightStraight.tab7 relievolaw19_LightStraight.bits7 (fun HT_ HW_ => ?_)
    generalize w35.drew = w36 at BK225 BK231 BK235 HB hHeld ⊢
    refine pure_ (i := 4) (N := some 36) (v := ?_) (a' := ?_) #[false, false, false, false, true, false, false, false, false, false, false, false, false, false, false] rfl rfl (any_of HT_.out (by kernel_rfl)) (fun _ _ _ h => h) (Or.inl ⟨by rfl, ?_⟩) ?_ ?_
    rotate_left
    ·intro w'
     go_simp
     with_reducible rfl
    rotate_left
    ·simp only [Act.put, List.setIfInBounds_toArray, List.set_cons_zero, List.set_cons_succ, i64_w, i32_w]
     rfl
    refine take_ (i := 0) (N := some 32) (v := ?_) (a' := ?_) #[true, false, false, false, true, false, false, false, false, false, false, false, false, false, false] rfl rfl (take_ofW HT_.out HW_.out (by kernel_rfl)) (fun _ _ _ h => h) (Or.inl ⟨by rfl, ?_⟩) hHeld ?_ ?_
    rotate_left
    ·rintro w' ⟨s0, s1, s2, s3, s4, s5, s6, s7, s8⟩
     go_simp
     with_reducible rfl
    rotate_left
    ·simp only [Act.put, List.setIfInBounds_toArray, List.set_cons_zero, List.set_cons_succ, i64_w, i32_w]
     rfl
    refine take_ (i := 1) (N := some 33) (v := ?_) (a' := ?_) #[true, true, false, false, true, false, false, false, false, false, false, false, false, false, false] rfl rfl (take_ofW HT_.out HW_.out (by kernel_rfl)) (fun _ _ _ h => h) (Or.inl ⟨by rfl, ?_⟩) hHeld ?_ ?_
    rotate_left
    ·rintro w' ⟨s0, s1, s2, s3, s4, s5, s6, s7, s8⟩
     go_simp
     with_reducible rfl
    rotate_left
    ·simp only [Act.put, List.setIfInBounds_toArray, List.set_cons_zero, List.set_cons_succ, i64_w, i32_w]
     rfl
    refine take_ (i := 3) (N := some 35) (v := ?_) (a' := ?_) #[true, true, false, true, true, false, false, false, false, false, false, false, false, false, false] rfl rfl (take_ofW HT_.out HW_.out (by kernel_rfl)) (fun _ _ _ h => h) (Or.inl ⟨by rfl, ?_⟩) hHeld ?_ ?_
    rotate_left
    ·rintro w' ⟨s0, s1, s2, s3, s4, s5, s6, s7, s8⟩
     go_simp
     with_reducible rfl
    rotate_left
    ·simp only [Act.put, List.setIfInBounds_toArray, List.set_cons_zero, List.set_cons_succ, i64_w, i32_w]
     rfl
    refine one_ (i := 2) (N := some 34) #[true, true, true, true, true, false, false, false, false, false, false, false, false, false, false] rfl rfl (one_of HT_.out (by kernel_rfl)) (by decide) (fun K hK => ?_)
    refine goes_ Try.func14 (by kernel_rfl) rfl #[.agg #[.int .i64 t228, .int .i64 t229, .int .i64 t230], .agg #[.int .i64 a0_0, .int .i64 a0_1, .int .i64 a0_2]] (by rfl) rfl rfl (by (try simp only [List.map_toArray, List.map_cons, List.map_nil]); first | done | rfl | (simp only [List.length_drop, List.length_take]; rfl)) ?_
    with_reducible refine (light_Reflect.calls kj4 t228 t229 t230 a0_0 a0_1 a0_2 t236 t237 t238 _ A20.out).mono ?_
    rintro e w37 ⟨rfl, hb⟩
    refine ⟨_, rfl, ?_⟩
    replace BK225 := cB hb BK225
    replace BK231 := cB hb BK231
    replace BK235 := cB hb BK235
    replace HB := Aside0.mk (below_step (HB.out) hb)
    (try clear hb)
    (try clear hb2)
    (try clear hk)
    (try clear hi)
    refine hK.out _ _ ⟨(blk_cell BK231.out 0).trans rfl, (blk_cell BK231.out 1).trans rfl, (blk_cell BK231.out 2).trans rfl, (blk_cell BK225.out 0).trans rfl, (blk_cell BK225.out 1).trans rfl, (blk_cell BK225.out 2).trans rfl, (blk_cell BK235.out 0).trans rfl, (blk_cell BK235.out 1).trans rfl, (blk_cell BK235.out 2).trans rfl⟩ (fun hHeld => ?_)
    clear hK K
    refine norm_ (a' := ?_) ?_ ?_
    rotate_left
    ·show Act.put _ (some 34) _ = _
     simp only [Act.put, List.setIfInBounds_toArray, List.set_cons_zero, List.set_cons_succ, i64_w, i32_w]
     rfl
    refine one_ (i := 5) (N := some 37) #[true, true, true, true, true, true, false, false, false, false, false, false, false, false, false] rfl rfl (one_of HT_.out (by kernel_rfl)) (by decide) (fun K hK => ?_)
    refine goes_ Try.func18 (by kernel_rfl) rfl #[.agg #[.int .i64 a0_0, .int .i64 a0_1, .int .i64 a0_2], .int .i64 a1] (by rfl) rfl rfl (by (try simp only [List.map_toArray, List.map_cons, List.map_nil]); first | done | rfl | (simp only [List.length_drop, List.length_take]; rfl)) ?_
    with_reducible refine (vec_Scale.calls a0_0 a0_1 a0_2 a1 t239 t240 t241 _ A21.out).mono ?_
    rintro e w38 ⟨rfl, hb⟩
    refine ⟨_, rfl, ?_⟩
    replace BK225 := cB hb BK225
    replace BK231 := cB hb BK231
    replace BK235 := cB hb BK235
    replace HB := Aside0.mk (below_step (HB.out) hb)
    (try clear hb)
    (try clear hb2)
    (try clear hk)
    (try clear hi)
    refine hK.out _ _ ⟨(blk_cell BK231.out 0).trans rfl, (blk_cell BK231.out 1).trans rfl, (blk_cell BK231.out 2).trans rfl, (blk_cell BK225.out 0).trans rfl, (blk_cell BK225.out 1).trans rfl, (blk_cell BK225.out 2).trans rfl, (blk_cell BK235.out 0).trans rfl, (blk_cell BK235.out 1).trans rfl, (blk_cell BK235.out 2).trans rfl⟩ (fun hHeld => ?_)
    clear hK K
    refine norm_ (a' := ?_) ?_ ?_
    rotate_left
    ·show Act.put _ (some 37) _ = _
     simp only [Act.put, List.setIfInBounds_toArray, List.set_cons_zero, List.set_cons_succ, i64_w, i32_w]
     rfl
    refine pure_ (i := 6) (N := some 38) (v := ?_) (a' := ?_) #[true, true, true, true, true, true, true, false, false, false, false, false, false, false, false] rfl rfl (any_of HT_.out (by kernel_rfl)) (fun _ _ _ h => h) (Or.inl ⟨by rfl, ?_⟩) ?_ ?_
    rotate_left
    ·intro w'
     go_simp
     with_reducible rfl
    rotate_left
    ·simp only [Act.put, List.setIfInBounds_toArray, List.set_cons_zero, List.set_cons_succ, i64_w, i32_w]
     rfl
    refine pure_ (i := 7) (N := some 39) (v := ?_) (a' := ?_) #[true, true, true, true, true, true, true, true, false, false, false, false, false, false, false] rfl rfl (any_of HT_.out (by kernel_rfl)) (fun _ _ _ h => h) (Or.inl ⟨by rfl, ?_⟩) ?_ ?_
    rotate_left
    ·intro w'
     go_simp
     with_reducible rfl
    rotate_left
    ·simp only [Act.put, List.setIfInBounds_toArray, List.set_cons_zero, List.set_cons_succ, i64_w, i32_w]
     rfl
    refine take_ (i := 8) (N := some 40) (v := ?_) (a' := ?_) #[true, true, true, true, true, true, true, true, true, false, false, false, false, false, false] rfl rfl (take_ofW HT_.out HW_.out (by kernel_rfl)) (fun _ _ _ h => h) (Or.inl ⟨by rfl, ?_⟩) hHeld ?_ ?_
    rotate_left
    ·rintro w' ⟨s0, s1, s2, s3, s4, s5, s6, s7, s8⟩
     go_simp
     with_reducible rfl
    rotate_left
    ·simp only [Act.put, List.setIfInBounds_toArray, List.set_cons_zero, List.set_cons_succ, i64_w, i32_w]
     rfl
    refine take_ (i := 9) (N := some 41) (v := ?_) (a' := ?_) #[true, true, true, true, true, true, true, true, true, true, false, false, false, false, false] rfl rfl (take_ofW HT_.out HW_.out (by kernel_rfl)) (fun _ _ _ h => h) (Or.inl ⟨by rfl, ?_⟩) hHeld ?_ ?_
    rotate_left
    ·rintro w' ⟨s0, s1, s2, s3, s4, s5, s6, s7, s8⟩
     go_simp
     with_reducible rfl
    rotate_left
    ·simp only [Act.put, List.setIfInBounds_toArray, List.set_cons_zero, List.set_cons_succ, i64_w, i32_w]
     rfl
    refine take_ (i := 11) (N := some 43) (v := ?_) (a' := ?_) #[true, true, true, true, true, true, true, true, true, true, false, true, false, false, false] rfl rfl (take_ofW HT_.out HW_.out (by kernel_rfl)) (fun _ _ _ h => h) (Or.inl ⟨by rfl, ?_⟩) hHeld ?_ ?_
    rotate_left
    ·rintro w' ⟨s0, s1, s2, s3, s4, s5, s6, s7, s8⟩
     go_simp
     with_reducible rfl
    rotate_left
    ·simp only [Act.put, List.setIfInBounds_toArray, List.set_cons_zero, List.set_cons_succ, i64_w, i32_w]
     rfl
    refine one_ (i := 10) (N := some 42) #[true, true, true, true, true, true, true, true, true, true, true, true, false, false, false] rfl rfl (one_of HT_.out (by kernel_rfl)) (by decide) (fun K hK => ?_)
    refine goes_ Try.func14 (by kernel_rfl) rfl #[.agg #[.int .i64 t232, .int .i64 t233, .int .i64 t234], .agg #[.int .i64 a0_0, .int .i64 a0_1, .int .i64 a0_2]] (by rfl) rfl rfl (by (try simp only [List.map_toArray, List.map_cons, List.map_nil]); first | done | rfl | (simp only [List.length_drop, List.length_take]; rfl)) ?_
    with_reducible refine (light_Reflect.calls kj4 t232 t233 t234 a0_0 a0_1 a0_2 t242 t243 t244 _ A23.out).mono ?_
    rintro e w39 ⟨rfl, hb⟩
    refine ⟨_, rfl, ?_⟩
    replace BK225 := cB hb BK225
    replace BK231 := cB hb BK231
    replace BK235 := cB hb BK235
    replace HB := Aside0.mk (below_step (HB.out) hb)
    (try clear hb)
    (try clear hb2)
    (try clear hk)
    (try clear hi)
    refine hK.out _ _ ⟨(blk_cell BK231.out 0).trans rfl, (blk_cell BK231.out 1).trans rfl, (blk_cell BK231.out 2).trans rfl, (blk_cell BK225.out 0).trans rfl, (blk_cell BK225.out 1).trans rfl, (blk_cell BK225.out 2).trans rfl, (blk_cell BK235.out 0).trans rfl, (blk_cell BK235.out 1).trans rfl, (blk_cell BK235.out 2).trans rfl⟩ (fun hHeld => ?_)
    clear hK K
    refine norm_ (a' := ?_) ?_ ?_
    rotate_left
    ·show Act.put _ (some 42) _ = _
     simp only [Act.put, List.setIfInBounds_toArray, List.set_cons_zero, List.set_cons_succ, i64_w, i32_w]
     rfl
    refine pure_ (i := 12) (N := some 44) (v := ?_) (a' := ?_) #[true, true, true, true, true, true, true, true, true, true, true, true, true, false, false] rfl rfl (any_of HT_.out (by kernel_rfl)) (fun _ _ _ h => h) (Or.inl ⟨by rfl, ?_⟩) ?_ ?_
    rotate_left
    ·intro w'
     go_simp
     with_reducible rfl
    rotate_left
    ·simp only [Act.put, List.setIfInBounds_toArray, List.set_cons_zero, List.set_cons_succ, i64_w, i32_w]
     rfl
    refine pure_ (i := 13) (N := some 45) (v := ?_) (a' := ?_) #[true, true, true, true, true, true, true, true, true, true, true, true, true, true, false] rfl rfl (any_of HT_.out (by kernel_rfl)) (fun _ _ _ h => h) (Or.inl ⟨by rfl, ?_⟩) ?_ ?_
    rotate_left
    ·intro w'
     go_simp
     with_reducible rfl
    rotate_left
    ·simp only [Act.put, List.setIfInBounds_toArray, List.set_cons_zero, List.set_cons_succ, i64_w, i32_w]
     rfl
    refine pure_ (i := 14) (N := some 4) (v := ?_) (a' := ?_) #[true, true, true, true, true, true, true, true, true, true, true, true, true, true, true] rfl rfl (any_of HT_.out (by kernel_rfl)) (fun _ _ _ h => h) (Or.inl ⟨by rfl, ?_⟩) ?_ ?_
    rotate_left
    ·intro w'
     go_simp
     with_reducible rfl
    rotate_left
    ·simp only [Act.put, List.setIfInBounds_toArray, List.set_cons_zero, List.set_cons_succ, i64_w, i32_w]
     rfl
    refine done_ (done_of HT_.out (by kernel_rfl)) ?_
    try go_wp2
    go_ret
    exact ⟨by first | rfl | (simp [errW_none, errW_some] <;> rfl) | (simp [*, errW_none, errW_some] <;> rfl), HB.out⟩
   rw [if_neg c22] at H
   have c22b0 : (t236 == t239 && (t237 == t240 && (t238 == t241))) = false := by simpa using c22
   (try (have c22b1 : decide (t236 = t239 && (t237 == t240 && (t238 == t241))) = false := by simpa using c22))
   (try (have c22b2 : (t236 == t239 && (t237 == t240 && (t238 == t241))) = false := by simpa using c22))
   (try (have c22b3 : ¬ (t236 = t239 && (t237 == t240 && (t238 == t241))) := by simpa using c22))
   clear c22
   obtain rfl := Option.some.inj H
   obtain ⟨hcz40_0, hcz40_1, hcz40_2⟩ := cells3 BK225.out
   try go_wp2_with (first | ((with_reducible refine gate_callee (f := 18) rfl ?_); refine goesL_ (some 28) rfl rfl Try.func18 (by kernel_rfl) rfl #[.agg #[.int .i64 a0_0, .int .i64 a0_1, .int .i64 a0_2], .int .i64 (wrap64 (-a1))] rfl (by (try simp only [List.map_toArray, List.map_cons, List.map_nil]); first | done | rfl | (simp only [List.length_drop, List.length_take]; rfl)) ?_; (with_reducible refine (vec_Scale.calls a0_0 a0_1 a0_2 (wrap64 (-a1)) t228 t229 t230 _ A18.out).mono ?_); rintro e w41 ⟨rfl, hb⟩; refine ⟨_, rfl, ?_⟩; replace BK225 := cB hb BK225; replace HB := Aside0.mk (below_step (HB.out) hb); (try clear hb); (try clear hb2); (try clear hk); (try clear hi)) | ((with_reducible refine gate_dst (N := 5) rfl ?_); refine box_event ?hg (N := 5) ?hd (cs := #[.int .i64 0, .int .i64 0, .int .i64 0]) (t := 26) ?hr ?_; (case hd => rfl); (case hg => rfl); (case hr => first | (go_simp; done) | (go_simp; rfl)); intro gb231 hg w42 hbox hb; have BK231 := Aside0.mk (hbox); have GE231 := Aside0.mk (bG hg (HB.out)); have NB225_231 := cN hg BK225; have NB231_225 := cM hg BK225; replace BK225 := cB hb BK225; replace HB := Aside0.mk (below_step (HB.out) hb); clear hb hbox hg; have hnb43 := NB231_225.out; have hnc43 := NB225_231.out; obtain ⟨hcz44_0, hcz44_1, hcz44_2⟩ := cells3 BK231.out; have hfz44_0 := blk_frozen BK231.out 0; have hfz44_1 := blk_frozen BK231.out 1; have hfz44_2 := blk_frozen BK231.out 2; obtain ⟨hcz45_0, hcz45_1, hcz45_2⟩ := cells3 BK225.out) | ((with_reducible refine gate_callee (f := 19) rfl ?_); refine goesL_ (some 31) rfl rfl Try.func19 (by kernel_rfl) rfl #[.agg #[.int .i64 a0_0, .int .i64 a0_1, .int .i64 a0_2], .agg #[.int .i64 1, .int .i64 2, .int .i64 3]] rfl (by (try simp only [List.map_toArray, List.map_cons, List.map_nil]); first | done | rfl | (simp only [List.length_drop, List.length_take]; rfl)) ?_; (with_reducible refine (vec_Cross.calls a0_0 a0_1 a0_2 1 2 3 t232 t233 t234 _ A19.out).mono ?_); rintro e w46 ⟨rfl, hb⟩; refine ⟨_, rfl, ?_⟩; replace BK225 := Aside0.mk (bB hb ((blk_far (blk_far (blk_far BK225.out NB225_231.out _) NB225_231.out _) NB225_231.out _))); replace BK231 := Aside0.mk (bB hb ((blk_put (cs' := #[.int .i64 t228, .int .i64 t229, .int .i64 t230]) (blk_put (blk_put BK231.out 0 _ rfl) 1 _ rfl) 2 _ rfl))); replace HB := Aside0.mk (below_step ((below_set (below_set (below_set HB.out GE231.out) GE231.out) GE231.out)) hb); (try clear hb); (try clear hb2); (try clear hk); (try clear hi)) | ((with_reducible refine gate_dst (N := 6) rfl ?_); refine box_event ?hg (N := 6) ?hd (cs := #[.int .i64 0, .int .i64 0, .int .i64 0]) (t := 26) ?hr ?_; (case hd => rfl); (case hg => rfl); (case hr => first | (go_simp; done) | (go_simp; rfl)); intro gb235 hg w47 hbox hb; have BK235 := Aside0.mk (hbox); have GE235 := Aside0.mk (bG hg (HB.out)); have NB225_235 := cN hg BK225; have NB235_225 := cM hg BK225; have NB231_235 := cN hg BK231; have NB235_231 := cM hg BK231; replace BK225 := cB hb BK225; replace BK231 := cB hb BK231; replace HB := Aside0.mk (below_step (HB.out) hb); clear hb hbox hg; have hnb48 := NB235_225.out; have hnc48 := NB225_235.out; have hnb49 := NB235_231.out; have hnc49 := NB231_235.out; obtain ⟨hcz50_0, hcz50_1, hcz50_2⟩ := cells3 BK235.out; have hfz50_0 := blk_frozen BK235.out 0; have hfz50_1 := blk_frozen BK235.out 1; have hfz50_2 := blk_frozen BK235.out 2))
   generalize hw_ : (((w47.setCell ⟨gb235, 0, none⟩ (.int .i64 t232)).setCell ⟨gb235, 1, none⟩ (.int .i64 t233)).setCell ⟨gb235, 2, none⟩ (.int .i64 t234)) = w51
   replace BK225 := Aside0.mk (bF hw_ (blk_far (blk_far (blk_far BK225.out NB225_235.out _) NB225_235.out _) NB225_235.out _))
   replace BK231 := Aside0.mk (bF hw_ (blk_far (blk_far (blk_far BK231.out NB231_235.out _) NB231_235.out _) NB231_235.out _))
   replace BK235 := Aside0.mk (bF hw_ (blk_put (cs' := #[.int .i64 t232, .int .i64 t233, .int .i64 t234]) (blk_put (blk_put BK235.out 0 _ rfl) 1 _ rfl) 2 _ rfl))
   replace HB := Aside0.mk (bH hw_ (below_set (below_set (below_set HB.out GE235.out) GE235.out) GE235.out))
   clear hw_
   replace BK225 := Aside0.mk (blk_drew BK225.out)
   replace BK231 := Aside0.mk (blk_drew BK231.out)
   replace BK235 := Aside0.mk (blk_drew BK235.out)
   replace HB := Aside0.mk (below_drew1 HB.out)
   refine start_ (n := 15) (S := fun w' => w'.cell? ⟨gb231, 0, none⟩ = some (.int .i64 t228) ∧ w'.cell? ⟨gb231, 1, none⟩ = some (.int .i64 t229) ∧ w'.cell? ⟨gb231, 2, none⟩ = some (.int .i64 t230) ∧ w'.cell? ⟨gb225, 0, none⟩ = some (.int .i64 a0_0) ∧ w'.cell? ⟨gb225, 1, none⟩ = some (.int .i64 a0_1) ∧ w'.cell? ⟨gb225, 2, none⟩ = some (.int .i64 a0_2)) (ds := []) #[false, false, false, false, false, false, false, false, false, false, false, false, false, false, false] (by kernel_rfl) rfl rfl ⟨(blk_cell BK231.out 0).trans rfl, (blk_cell BK231.out 1).trans rfl, (blk_cell BK231.out 2).trans rfl, (blk_cell BK225.out 0).trans rfl, (blk_cell BK225.out 1).trans rfl, (blk_cell BK225.out 2).trans rfl⟩ (fun hHeld => ?_); refine with_tabW relievolaw19_LightStraight.tab7 relievolaw19_LightStraight.bits7 (fun HT_ HW_ => ?_)
   generalize w51.drew = w52 at BK225 BK231 BK235 HB hHeld ⊢
   refine pure_ (i := 4) (N := some 36) (v := ?_) (a' := ?_) #[false, false, false, false, true, false, false, false, false, false, false, false, false, false, false] rfl rfl (any_of HT_.out (by kernel_rfl)) (fun _ _ _ h => h) (Or.inl ⟨by rfl, ?_⟩) ?_ ?_
   rotate_left
   ·intro w'
    go_simp
    with_reducible rfl
   rotate_left
   ·simp only [Act.put, List.setIfInBounds_toArray, List.set_cons_zero, List.set_cons_succ, i64_w, i32_w]
    rfl
   refine take_ (i := 0) (N := some 32) (v := ?_) (a' := ?_) #[true, false, false, false, true, false, false, false, false, false, false, false, false, false, false] rfl rfl (take_ofW HT_.out HW_.out (by kernel_rfl)) (fun _ _ _ h => h) (Or.inl ⟨by rfl, ?_⟩) hHeld ?_ ?_
   rotate_left
   ·rintro w' ⟨s0, s1, s2, s3, s4, s5⟩
    go_simp
    with_reducible rfl
   rotate_left
   ·simp only [Act.put, List.setIfInBounds_toArray, List.set_cons_zero, List.set_cons_succ, i64_w, i32_w]
    rfl
   refine take_ (i := 1) (N := some 33) (v := ?_) (a' := ?_) #[true, true, false, false, true, false, false, false, false, false, false, false, false, false, false] rfl rfl (take_ofW HT_.out HW_.out (by kernel_rfl)) (fun _ _ _ h => h) (Or.inl ⟨by rfl, ?_⟩) hHeld ?_ ?_
   rotate_left
   ·rintro w' ⟨s0, s1, s2, s3, s4, s5⟩
    go_simp
    with_reducible rfl
   rotate_left
   ·simp only [Act.put, List.setIfInBounds_toArray, List.set_cons_zero, List.set_cons_succ, i64_w, i32_w]
    rfl
   refine take_ (i := 3) (N := some 35) (v := ?_) (a' := ?_) #[true, true, false, true, true, false, false, false, false, false, false, false, false, false, false] rfl rfl (take_ofW HT_.out HW_.out (by kernel_rfl)) (fun _ _ _ h => h) (Or.inl ⟨by rfl, ?_⟩) hHeld ?_ ?_
   rotate_left
   ·rintro w' ⟨s0, s1, s2, s3, s4, s5⟩
    go_simp
    with_reducible rfl
   rotate_left
   ·simp only [Act.put, List.setIfInBounds_toArray, List.set_cons_zero, List.set_cons_succ, i64_w, i32_w]
    rfl
   refine one_ (i := 2) (N := some 34) #[true, true, true, true, true, false, false, false, false, false, false, false, false, false, false] rfl rfl (one_of HT_.out (by kernel_rfl)) (by decide) (fun K hK => ?_)
   refine goes_ Try.func14 (by kernel_rfl) rfl #[.agg #[.int .i64 t228, .int .i64 t229, .int .i64 t230], .agg #[.int .i64 a0_0, .int .i64 a0_1, .int .i64 a0_2]] (by rfl) rfl rfl (by (try simp only [List.map_toArray, List.map_cons, List.map_nil]); first | done | rfl | (simp only [List.length_drop, List.length_take]; rfl)) ?_
   with_reducible refine (light_Reflect.calls kj4 t228 t229 t230 a0_0 a0_1 a0_2 t236 t237 t238 _ A20.out).mono ?_
   rintro e w53 ⟨rfl, hb⟩
   refine ⟨_, rfl, ?_⟩
   replace BK225 := cB hb BK225
   replace BK231 := cB hb BK231
   replace BK235 := cB hb BK235
   replace HB := Aside0.mk (below_step (HB.out) hb)
   (try clear hb)
   (try clear hb2)
   (try clear hk)
   (try clear hi)
   refine hK.out _ _ ⟨(blk_cell BK231.out 0).trans rfl, (blk_cell BK231.out 1).trans rfl, (blk_cell BK231.out 2).trans rfl, (blk_cell BK225.out 0).trans rfl, (blk_cell BK225.out 1).trans rfl, (blk_cell BK225.out 2).trans rfl⟩ (fun hHeld => ?_)
   clear hK K
   refine norm_ (a' := ?_) ?_ ?_
   rotate_left
   ·show Act.put _ (some 34) _ = _
    simp only [Act.put, List.setIfInBounds_toArray, List.set_cons_zero, List.set_cons_succ, i64_w, i32_w]
    rfl
   refine one_ (i := 5) (N := some 37) #[true, true, true, true, true, true, false, false, false, false, false, false, false, false, false] rfl rfl (one_of HT_.out (by kernel_rfl)) (by decide) (fun K hK => ?_)
   refine goes_ Try.func18 (by kernel_rfl) rfl #[.agg #[.int .i64 a0_0, .int .i64 a0_1, .int .i64 a0_2], .int .i64 a1] (by rfl) rfl rfl (by (try simp only [List.map_toArray, List.map_cons, List.map_nil]); first | done | rfl | (simp only [List.length_drop, List.length_take]; rfl)) ?_
   with_reducible refine (vec_Scale.calls a0_0 a0_1 a0_2 a1 t239 t240 t241 _ A21.out).mono ?_
   rintro e w54 ⟨rfl, hb⟩
   refine ⟨_, rfl, ?_⟩
   replace BK225 := cB hb BK225
   replace BK231 := cB hb BK231
   replace BK235 := cB hb BK235
   replace HB := Aside0.mk (below_step (HB.out) hb)
   (try clear hb)
   (try clear hb2)
   (try clear hk)
   (try clear hi)
   refine hK.out _ _ ⟨(blk_cell BK231.out 0).trans rfl, (blk_cell BK231.out 1).trans rfl, (blk_cell BK231.out 2).trans rfl, (blk_cell BK225.out 0).trans rfl, (blk_cell BK225.out 1).trans rfl, (blk_cell BK225.out 2).trans rfl⟩ (fun hHeld => ?_)
   clear hK K
   refine norm_ (a' := ?_) ?_ ?_
   rotate_left
   ·show Act.put _ (some 37) _ = _
    simp only [Act.put, List.setIfInBounds_toArray, List.set_cons_zero, List.set_cons_succ, i64_w, i32_w]
    rfl
   refine pure_ (i := 6) (N := some 38) (v := ?_) (a' := ?_) #[true, true, true, true, true, true, true, false, false, false, false, false, false, false, false] rfl rfl (any_of HT_.out (by kernel_rfl)) (fun _ _ _ h => h) (Or.inl ⟨by rfl, ?_⟩) ?_ ?_
   rotate_left
   ·intro w'
    go_simp
    with_reducible rfl
   rotate_left
   ·simp only [Act.put, List.setIfInBounds_toArray, List.set_cons_zero, List.set_cons_succ, i64_w, i32_w]
    rfl
   refine pure_ (i := 7) (N := some 39) (v := ?_) (a' := ?_) #[true, true, true, true, true, true, true, true, false, false, false, false, false, false, false] rfl rfl (any_of HT_.out (by kernel_rfl)) (fun _ _ _ h => h) (Or.inl ⟨by rfl, ?_⟩) ?_ ?_
   rotate_left
   ·intro w'
    go_simp
    with_reducible rfl
   rotate_left
   ·simp only [Act.put, List.setIfInBounds_toArray, List.set_cons_zero, List.set_cons_succ, i64_w, i32_w]
    rfl
   refine pure_ (i := 8) (N := some 40) (v := undef) (a' := ?_) #[true, true, true, true, true, true, true, true, true, false, false, false, false, false, false] rfl rfl (any_of HT_.out (by kernel_rfl)) (fun _ _ _ h => h) (Or.inr ⟨by rfl, rfl⟩) ?_ ?_
   rotate_left
   ·simp only [Act.put, List.setIfInBounds_toArray, List.set_cons_zero, List.set_cons_succ, i64_w, i32_w]
    rfl
   refine pure_ (i := 9) (N := some 41) (v := undef) (a' := ?_) #[true, true, true, true, true, true, true, true, true, true, false, false, false, false, false] rfl rfl (any_of HT_.out (by kernel_rfl)) (fun _ _ _ h => h) (Or.inr ⟨by rfl, rfl⟩) ?_ ?_
   rotate_left
   ·simp only [Act.put, List.setIfInBounds_toArray, List.set_cons_zero, List.set_cons_succ, i64_w, i32_w]
    rfl
   refine pure_ (i := 10) (N := some 42) (v := undef) (a' := ?_) #[true, true, true, true, true, true, true, true, true, true, true, false, false, false, false] rfl rfl (any_of HT_.out (by kernel_rfl)) (fun _ _ _ h => h) (Or.inr ⟨by rfl, rfl⟩) ?_ ?_
   rotate_left
   ·simp only [Act.put, List.setIfInBounds_toArray, List.set_cons_zero, List.set_cons_succ, i64_w, i32_w]
    rfl
   refine pure_ (i := 11) (N := some 43) (v := undef) (a' := ?_) #[true, true, true, true, true, true, true, true, true, true, true, true, false, false, false] rfl rfl (any_of HT_.out (by kernel_rfl)) (fun _ _ _ h => h) (Or.inr ⟨by rfl, rfl⟩) ?_ ?_
   rotate_left
   ·simp only [Act.put, List.setIfInBounds_toArray, List.set_cons_zero, List.set_cons_succ, i64_w, i32_w]
    rfl
   refine pure_ (i := 12) (N := some 44) (v := undef) (a' := ?_) #[true, true, true, true, true, true, true, true, true, true, true, true, true, false, false] rfl rfl (any_of HT_.out (by kernel_rfl)) (fun _ _ _ h => h) (Or.inr ⟨by rfl, rfl⟩) ?_ ?_
   rotate_left
   ·simp only [Act.put, List.setIfInBounds_toArray, List.set_cons_zero, List.set_cons_succ, i64_w, i32_w]
    rfl
   refine pure_ (i := 13) (N := some 45) (v := ?_) (a' := ?_) #[true, true, true, true, true, true, true, true, true, true, true, true, true, true, false] rfl rfl (any_of HT_.out (by kernel_rfl)) (fun _ _ _ h => h) (Or.inl ⟨by rfl, ?_⟩) ?_ ?_
   rotate_left
   ·intro w'
    go_simp
    with_reducible rfl
   rotate_left
   ·simp only [Act.put, List.setIfInBounds_toArray, List.set_cons_zero, List.set_cons_succ, i64_w, i32_w]
    rfl
   refine pure_ (i := 14) (N := some 4) (v := ?_) (a' := ?_) #[true, true, true, true, true, true, true, true, true, true, true, true, true, true, true] rfl rfl (any_of HT_.out (by kernel_rfl)) (fun _ _ _ h => h) (Or.inl ⟨by rfl, ?_⟩) ?_ ?_
   rotate_left
   ·intro w'
    go_simp
    with_reducible rfl
   rotate_left
   ·simp only [Act.put, List.setIfInBounds_toArray, List.set_cons_zero, List.set_cons_succ, i64_w, i32_w]
    rfl
   refine done_ (done_of HT_.out (by kernel_rfl)) ?_
   try go_wp2
   go_ret
   exact ⟨by first | rfl | (simp [errW_none, errW_some] <;> rfl) | (simp [*, errW_none, errW_some] <;> rfl), HB.out⟩
 replace c4 := Bool.eq_false_iff.mpr c4
 subst c4
 have H1 : (some false) = some r := by rw [if_neg (show ¬ (false = true) by decide)] at H; exact H
 clear H
 have H := H1
 clear H1
 obtain rfl := Option.some.inj H
 go_enter Try.func8, Try.ntmps8
 go_wp2_with (first | ((with_reducible refine gate_dst (N := 2) rfl ?_); refine box_event ?hg (N := 2) ?hd (cs := #[.int .i64 a0_0, .int .i64 a0_1, .int .i64 a0_2]) (t := 26) ?hr ?_; (case hd => rfl); (case hg => rfl); (case hr => first | (go_simp; done) | (go_simp; rfl)); intro gb225 hg w55 hbox hb; have BK225 := Aside0.mk (hbox); have GE225 := Aside0.mk (bG hg (HB.out)); replace HB := Aside0.mk (below_step (HB.out) hb); clear hb hbox hg) | ((with_reducible refine gate_callee (f := 11) rfl ?_); refine goesL_ (some 7) rfl rfl Try.func11 (by kernel_rfl) rfl #[] rfl (by (try simp only [List.map_toArray, List.map_cons, List.map_nil]); first | done | rfl | (simp only [List.length_drop, List.length_take]; rfl)) ?_; (with_reducible refine (relievolaw19_alive.calls k  false _ A3.out).mono ?_); rintro e w56 ⟨rfl, hb⟩; refine ⟨_, rfl, ?_⟩; replace BK225 := cB hb BK225; replace HB := Aside0.mk (below_step (HB.out) hb); (try clear hb); (try clear hb2); (try clear hk); (try clear hi)))
 go_ret
 exact ⟨by first | rfl | (simp [errW_none, errW_some] <;> rfl) | (simp [*, errW_none, errW_some] <;> rfl), HB.out⟩

end Go.Proofs.Ytmhnidmbgicgeaa.G
