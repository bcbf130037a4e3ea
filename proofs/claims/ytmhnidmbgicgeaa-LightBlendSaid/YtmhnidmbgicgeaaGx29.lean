-- Written by a program of this session (wip/gen), out of the translation; Lean checks it.
import Derived.Test.YtmhnidmbgicgeaaLitBlend
import Derived.Test.YtmhnidmbgicgeaaGx0
import Derived.Test.YtmhnidmbgicgeaaGx2
import Derived.Test.YtmhnidmbgicgeaaGx18
import Derived.Test.YtmhnidmbgicgeaaGx28
namespace Go.Proofs.Ytmhnidmbgicgeaa.G
open Go.RowKit Go.Proofs.YtmhnidmbgicgeaaW.PrintWords Go.Proofs.YtmhnidmbgicgeaaW.PrintLast Go.Proofs.YtmhnidmbgicgeaaW.PrintMore
attribute [local go_sem] max2_int min2_int max_two min_two max_three min_three max_four min_four   -- for this text's walks alone
set_option linter.unusedVariables false
set_option linter.unusedSimpArgs false

attribute [local go_sem high] eqA37
/-! ### relievolaw19_LightBlend: function 10 -/
mutual
def relievolaw19_LightBlend.j0 : Nat → Int → Int → Bool → Int → Int → Int → Int → Int → Int → Int → Int → Int → Int → Int → Int → Option (Bool)
  | 0, _, _, _, _, _, _, _, _, _, _, _, _, _, _, _ => none
  | k + 1, x3, x4, x52, x246000, x246001, x246002, x247000, x247001, x247002, x248000, x248001, x248002, x253000, x253001, x253002 => if x52 = true then (some false) else ((light_Blend.f x246000 x246001 x246002 x247000 x247001 x247002 x248000 x248001 x248002 0 0).bind fun bt253 => ((light_Blend.f x246000 x246001 x246002 x247000 x247001 x247002 x248000 x248001 x248002 256 0).bind fun bt257 => ((light_Blend.f x246000 x246001 x246002 x247000 x247001 x247002 x248000 x248001 x248002 0 256).bind fun bt261 => (if x3 < 0 then (relievolaw19_LightBlend.j1 k true x247000 x247001 x247002 x248000 x248001 x248002 x253000 x253001 x253002 bt253.1 bt253.2.1 bt253.2.2 bt257.1 bt257.2.1 bt257.2.2 bt261.1 bt261.2.1 bt261.2.2) else (if x4 < 0 then (relievolaw19_LightBlend.j1 k true x247000 x247001 x247002 x248000 x248001 x248002 x253000 x253001 x253002 bt253.1 bt253.2.1 bt253.2.2 bt257.1 bt257.2.1 bt257.2.2 bt261.1 bt261.2.1 bt261.2.2) else (if x3 > 256 then (relievolaw19_LightBlend.j1 k true x247000 x247001 x247002 x248000 x248001 x248002 x253000 x253001 x253002 bt253.1 bt253.2.1 bt253.2.2 bt257.1 bt257.2.1 bt257.2.2 bt261.1 bt261.2.1 bt261.2.2) else (if x4 > 256 then (relievolaw19_LightBlend.j1 k true x247000 x247001 x247002 x248000 x248001 x248002 x253000 x253001 x253002 bt253.1 bt253.2.1 bt253.2.2 bt257.1 bt257.2.1 bt257.2.2 bt261.1 bt261.2.1 bt261.2.2) else (relievolaw19_LightBlend.j1 k (decide ((wrap64 (x3 + x4)) > 256)) x247000 x247001 x247002 x248000 x248001 x248002 x253000 x253001 x253002 bt253.1 bt253.2.1 bt253.2.2 bt257.1 bt257.2.1 bt257.2.2 bt261.1 bt261.2.1 bt261.2.2))))))))
def relievolaw19_LightBlend.j1 : Nat → Bool → Int → Int → Int → Int → Int → Int → Int → Int → Int → Int → Int → Int → Int → Int → Int → Int → Int → Int → Option (Bool)
  | 0, _, _, _, _, _, _, _, _, _, _, _, _, _, _, _, _, _, _, _ => none
  | k + 1, x84, x247000, x247001, x247002, x248000, x248001, x248002, x253000, x253001, x253002, x257000, x257001, x257002, x261000, x261001, x261002, x265000, x265001, x265002 => if x84 = true then (some (x253000 == 0 && (x253001 == 0 && (x253002 == 0)))) else (if x253000 ≥ (mn (mn x257000 x261000) x265000) then (if x253000 ≤ (mx (mx x257000 x261000) x265000) then ((light_Blend.f x257000 x257001 x257002 x247000 x247001 x247002 x248000 x248001 x248002 0 0).bind fun bt265 => (if (x257000 == bt265.1 && (x257001 == bt265.2.1 && (x257002 == bt265.2.2))) = true then ((relievoref02_Round.f k x261000 1).bind fun t268 => (some (t268 == (mn (mx x247000 0) 255)))) else (some false))) else (some false)) else (some false))
end
def relievolaw19_LightBlend.f (k : Nat) (a0_0 : Int) (a0_1 : Int) (a0_2 : Int) (a1_0 : Int) (a1_1 : Int) (a1_2 : Int) (a2_0 : Int) (a2_1 : Int) (a2_2 : Int) (a3 : Int) (a4 : Int) : Option (Bool) := (relievolaw19_alive.f k).bind fun t248 => (if t248 = true then ((light_Blend.f a0_0 a0_1 a0_2 a1_0 a1_1 a1_2 a2_0 a2_1 a2_2 a3 a4).bind fun bt249 => (if bt249.1 < 0 then (relievolaw19_LightBlend.j0 k a3 a4 true a0_0 a0_1 a0_2 a1_0 a1_1 a1_2 a2_0 a2_1 a2_2 bt249.1 bt249.2.1 bt249.2.2) else (if bt249.1 > 255 then (relievolaw19_LightBlend.j0 k a3 a4 true a0_0 a0_1 a0_2 a1_0 a1_1 a1_2 a2_0 a2_1 a2_2 bt249.1 bt249.2.1 bt249.2.2) else (if bt249.2.1 < 0 then (relievolaw19_LightBlend.j0 k a3 a4 true a0_0 a0_1 a0_2 a1_0 a1_1 a1_2 a2_0 a2_1 a2_2 bt249.1 bt249.2.1 bt249.2.2) else (if bt249.2.1 > 255 then (relievolaw19_LightBlend.j0 k a3 a4 true a0_0 a0_1 a0_2 a1_0 a1_1 a1_2 a2_0 a2_1 a2_2 bt249.1 bt249.2.1 bt249.2.2) else (if bt249.2.2 < 0 then (relievolaw19_LightBlend.j0 k a3 a4 true a0_0 a0_1 a0_2 a1_0 a1_1 a1_2 a2_0 a2_1 a2_2 bt249.1 bt249.2.1 bt249.2.2) else (relievolaw19_LightBlend.j0 k a3 a4 (decide (bt249.2.2 > 255)) a0_0 a0_1 a0_2 a1_0 a1_1 a1_2 a2_0 a2_1 a2_2 bt249.1 bt249.2.1 bt249.2.2))))))) else (some false))
def relievolaw19_LightBlend.T13 : Bool × List (List Nat × List Nat) := (true, [([], []), ([0], [0]), ([], []), ([1, 2], [1, 2]), ([3], [3]), ([4], [4]), ([5, 4], [4, 5]), ([4], [4]), ([6, 7, 4], [4, 6, 7]), ([4, 8], [4, 8]), ([9, 4], [9]), ([10], [10]), ([10], [10]), ([10], [10]), ([10], [10]), ([12, 13, 14, 10, 10], [10, 12, 13, 14]), ([11, 15, 10], [10, 11, 15]), ([10, 16], [10, 16]), ([17, 15], [17]), ([18], [18]), ([19, 18], [18, 19]), ([20, 18, 18], [18, 20]), ([18], [18]), ([22, 18], [18, 22]), ([23, 18], [18, 23]), ([24, 18], [18, 24]), ([21, 25, 18], [18, 21, 25]), ([18, 26], [18, 26]), ([27, 21, 0, 1, 2, 3, 4, 5, 6, 7, 8, 9, 10, 11, 12, 13, 14, 15, 16, 17, 18, 19, 20, 21, 22, 23, 24, 25, 26, 27], [27])])
def relievolaw19_LightBlend.B13 : List Nat := [0, 1, 0, 7, 15, 31, 63, 31, 255, 511, 1023, 2047, 2047, 2047, 2047, 30719, 65535, 131071, 262143, 524287, 1048575, 2097151, 524287, 4718591, 13107199, 29884415, 67108863, 134217727, 268435455]
theorem relievolaw19_LightBlend.tab13 : rtab .any (opsOf Try.f10 13) = relievolaw19_LightBlend.T13 := by kernel_rfl
theorem relievolaw19_LightBlend.bits13 : waitsOk relievolaw19_LightBlend.T13.2 relievolaw19_LightBlend.B13 = true := by kernel_rfl
set_option maxHeartbeats 8000000 in
set_option maxRecDepth 100000 in
theorem relievolaw19_LightBlend.calls (k : Nat) (a0_0 : Int) (a0_1 : Int) (a0_2 : Int) (a1_0 : Int) (a1_1 : Int) (a1_2 : Int) (a2_0 : Int) (a2_1 : Int) (a2_2 : Int) (a3 : Int) (a4 : Int) (r : Bool) (w : World) (h : relievolaw19_LightBlend.f k a0_0 a0_1 a0_2 a1_0 a1_1 a1_2 a2_0 a2_1 a2_2 a3 a4 = some r) :
    Calls Try.prog 10 #[.agg #[.int .i64 a0_0, .int .i64 a0_1, .int .i64 a0_2], .agg #[.int .i64 a1_0, .int .i64 a1_1, .int .i64 a1_2], .agg #[.int .i64 a2_0, .int .i64 a2_1, .int .i64 a2_2], .int .i64 a3, .int .i64 a4] w fun e w' => e = .returned (.bool r) ∧ Below w.heap.size w w' := by
 have hu37 := Try.underlying37
 have HB := Aside0.mk (Below.refl w.heap.size w)
 have H : ((relievolaw19_alive.f k).bind fun t248 => (if t248 = true then ((light_Blend.f a0_0 a0_1 a0_2 a1_0 a1_1 a1_2 a2_0 a2_1 a2_2 a3 a4).bind fun bt249 => (if bt249.1 < 0 then (relievolaw19_LightBlend.j0 k a3 a4 true a0_0 a0_1 a0_2 a1_0 a1_1 a1_2 a2_0 a2_1 a2_2 bt249.1 bt249.2.1 bt249.2.2) else (if bt249.1 > 255 then (relievolaw19_LightBlend.j0 k a3 a4 true a0_0 a0_1 a0_2 a1_0 a1_1 a1_2 a2_0 a2_1 a2_2 bt249.1 bt249.2.1 bt249.2.2) else (if bt249.2.1 < 0 then (relievolaw19_LightBlend.j0 k a3 a4 true a0_0 a0_1 a0_2 a1_0 a1_1 a1_2 a2_0 a2_1 a2_2 bt249.1 bt249.2.1 bt249.2.2) else (if bt249.2.1 > 255 then (relievolaw19_LightBlend.j0 k a3 a4 true a0_0 a0_1 a0_2 a1_0 a1_1 a1_2 a2_0 a2_1 a2_2 bt249.1 bt249.2.1 bt249.2.2) else (if bt249.2.2 < 0 then (relievolaw19_LightBlend.j0 k a3 a4 true a0_0 a0_1 a0_2 a1_0 a1_1 a1_2 a2_0 a2_1 a2_2 bt249.1 bt249.2.1 bt249.2.2) else (relievolaw19_LightBlend.j0 k a3 a4 (decide (bt249.2.2 > 255)) a0_0 a0_1 a0_2 a1_0 a1_1 a1_2 a2_0 a2_1 a2_2 bt249.1 bt249.2.1 bt249.2.2))))))) else (some false))) = some r := h
 clear h
 replace H := Option.bind_eq_some_iff.mp H
 obtain ⟨t248, A60, H⟩ := H
 replace H : (if t248 = true then ((light_Blend.f a0_0 a0_1 a0_2 a1_0 a1_1 a1_2 a2_0 a2_1 a2_2 a3 a4).bind fun bt249 => (if bt249.1 < 0 then (relievolaw19_LightBlend.j0 k a3 a4 true a0_0 a0_1 a0_2 a1_0 a1_1 a1_2 a2_0 a2_1 a2_2 bt249.1 bt249.2.1 bt249.2.2) else (if bt249.1 > 255 then (relievolaw19_LightBlend.j0 k a3 a4 true a0_0 a0_1 a0_2 a1_0 a1_1 a1_2 a2_0 a2_1 a2_2 bt249.1 bt249.2.1 bt249.2.2) else (if bt249.2.1 < 0 then (relievolaw19_LightBlend.j0 k a3 a4 true a0_0 a0_1 a0_2 a1_0 a1_1 a1_2 a2_0 a2_1 a2_2 bt249.1 bt249.2.1 bt249.2.2) else (if bt249.2.1 > 255 then (relievolaw19_LightBlend.j0 k a3 a4 true a0_0 a0_1 a0_2 a1_0 a1_1 a1_2 a2_0 a2_1 a2_2 bt249.1 bt249.2.1 bt249.2.2) else (if bt249.2.2 < 0 then (relievolaw19_LightBlend.j0 k a3 a4 true a0_0 a0_1 a0_2 a1_0 a1_1 a1_2 a2_0 a2_1 a2_2 bt249.1 bt249.2.1 bt249.2.2) else (relievolaw19_LightBlend.j0 k a3 a4 (decide (bt249.2.2 > 255)) a0_0 a0_1 a0_2 a1_0 a1_1 a1_2 a2_0 a2_1 a2_2 bt249.1 bt249.2.1 bt249.2.2))))))) else (some false)) = some r := H
 have A6 := Aside0.mk A60
 clear A60
 by_cases c7 : t248 = true
 ·subst c7
  have H1 : ((light_Blend.f a0_0 a0_1 a0_2 a1_0 a1_1 a1_2 a2_0 a2_1 a2_2 a3 a4).bind fun bt249 => (if bt249.1 < 0 then (relievolaw19_LightBlend.j0 k a3 a4 true a0_0 a0_1 a0_2 a1_0 a1_1 a1_2 a2_0 a2_1 a2_2 bt249.1 bt249.2.1 bt249.2.2) else (if bt249.1 > 255 then (relievolaw19_LightBlend.j0 k a3 a4 true a0_0 a0_1 a0_2 a1_0 a1_1 a1_2 a2_0 a2_1 a2_2 bt249.1 bt249.2.1 bt249.2.2) else (if bt249.2.1 < 0 then (relievolaw19_LightBlend.j0 k a3 a4 true a0_0 a0_1 a0_2 a1_0 a1_1 a1_2 a2_0 a2_1 a2_2 bt249.1 bt249.2.1 bt249.2.2) else (if bt249.2.1 > 255 then (relievolaw19_LightBlend.j0 k a3 a4 true a0_0 a0_1 a0_2 a1_0 a1_1 a1_2 a2_0 a2_1 a2_2 bt249.1 bt249.2.1 bt249.2.2) else (if bt249.2.2 < 0 then (relievolaw19_LightBlend.j0 k a3 a4 true a0_0 a0_1 a0_2 a1_0 a1_1 a1_2 a2_0 a2_1 a2_2 bt249.1 bt249.2.1 bt249.2.2) else (relievolaw19_LightBlend.j0 k a3 a4 (decide (bt249.2.2 > 255)) a0_0 a0_1 a0_2 a1_0 a1_1 a1_2 a2_0 a2_1 a2_2 bt249.1 bt249.2.1 bt249.2.2))))))) = some r := by rw [if_pos rfl] at H; exact H
  clear H
  have H := H1
  clear H1
  replace H := Option.bind_eq_some_iff.mp H
  obtain ⟨⟨t249, t250, t251⟩, A80, H⟩ := H
  replace H : (if t249 < 0 then (relievolaw19_LightBlend.j0 k a3 a4 true a0_0 a0_1 a0_2 a1_0 a1_1 a1_2 a2_0 a2_1 a2_2 t249 t250 t251) else (if t249 > 255 then (relievolaw19_LightBlend.j0 k a3 a4 true a0_0 a0_1 a0_2 a1_0 a1_1 a1_2 a2_0 a2_1 a2_2 t249 t250 t251) else (if t250 < 0 then (relievolaw19_LightBlend.j0 k a3 a4 true a0_0 a0_1 a0_2 a1_0 a1_1 a1_2 a2_0 a2_1 a2_2 t249 t250 t251) else (if t250 > 255 then (relievolaw19_LightBlend.j0 k a3 a4 true a0_0 a0_1 a0_2 a1_0 a1_1 a1_2 a2_0 a2_1 a2_2 t249 t250 t251) else (if t251 < 0 then (relievolaw19_LightBlend.j0 k a3 a4 true a0_0 a0_1 a0_2 a1_0 a1_1 a1_2 a2_0 a2_1 a2_2 t249 t250 t251) else (relievolaw19_LightBlend.j0 k a3 a4 (decide (t251 > 255)) a0_0 a0_1 a0_2 a1_0 a1_1 a1_2 a2_0 a2_1 a2_2 t249 t250 t251)))))) = some r := H
  have A8 := Aside0.mk A80
  clear A80
  have HC9 := Aside0.mk H
  clear H
  go_enter Try.func10, Try.ntmps10
  go_upto_region 4 with (first | ((with_reducible refine gate_dst (N := 5) rfl ?_); (try (refine gate_guard (by rfl) ?_; dsimp only)); refine box_event ?hg (N := 5) ?hd (cs := #[.int .i64 a0_0, .int .i64 a0_1, .int .i64 a0_2]) (t := 37) ?hr ?_; (case hd => rfl); (case hg => rfl); (case hr => first | (go_simp; done) | (go_simp; rfl)); intro gb245 hg w10 hbox hb; have BK245 := Aside0.mk (hbox); have GE245 := Aside0.mk (bG hg (by first | exact HB.out | (repeat (first | exact HB.out | apply pw_below_drewN | apply below_drew1 | apply below_alloc)))); replace HB := Aside0.mk (below_step (by first | exact HB.out | (repeat (first | exact HB.out | apply pw_below_drewN | apply below_drew1 | apply below_alloc))) hb); clear hb hbox hg) | ((with_reducible refine gate_dst (N := 6) rfl ?_); (try (refine gate_guard (by rfl) ?_; dsimp only)); refine box_event ?hg (N := 6) ?hd (cs := #[.int .i64 a1_0, .int .i64 a1_1, .int .i64 a1_2]) (t := 37) ?hr ?_; (case hd => rfl); (case hg => rfl); (case hr => first | (go_simp; done) | (go_simp; rfl)); intro gb246 hg w11 hbox hb; have BK246 := Aside0.mk (hbox); have GE246 := Aside0.mk (bG hg (by first | exact HB.out | (repeat (first | exact HB.out | apply pw_below_drewN | apply below_drew1 | apply below_alloc)))); have NB245_246 := cN hg BK245; have NB246_245 := cM hg BK245; replace BK245 := cB hb BK245; replace HB := Aside0.mk (below_step (by first | exact HB.out | (repeat (first | exact HB.out | apply pw_below_drewN | apply below_drew1 | apply below_alloc))) hb); clear hb hbox hg) | ((with_reducible refine gate_dst (N := 7) rfl ?_); (try (refine gate_guard (by rfl) ?_; dsimp only)); refine box_event ?hg (N := 7) ?hd (cs := #[.int .i64 a2_0, .int .i64 a2_1, .int .i64 a2_2]) (t := 37) ?hr ?_; (case hd => rfl); (case hg => rfl); (case hr => first | (go_simp; done) | (go_simp; rfl)); intro gb247 hg w12 hbox hb; have BK247 := Aside0.mk (hbox); have GE247 := Aside0.mk (bG hg (by first | exact HB.out | (repeat (first | exact HB.out | apply pw_below_drewN | apply below_drew1 | apply below_alloc)))); have NB245_247 := cN hg BK245; have NB247_245 := cM hg BK245; have NB246_247 := cN hg BK246; have NB247_246 := cM hg BK246; replace BK245 := cB hb BK245; replace BK246 := cB hb BK246; replace HB := Aside0.mk (below_step (by first | exact HB.out | (repeat (first | exact HB.out | apply pw_below_drewN | apply below_drew1 | apply below_alloc))) hb); clear hb hbox hg) | ((with_reducible refine gate_callee (f := 11) rfl ?_); refine goesL_ (some 17) rfl rfl Try.func11 (by kernel_rfl) rfl #[] rfl (by (try simp only [List.map_toArray, List.map_cons, List.map_nil]); first | done | rfl | (simp only [List.length_drop, List.length_take]; rfl)) ?_; (with_reducible refine (relievolaw19_alive.calls k  true _ A6.out).mono ?_); rintro e w13 ⟨rfl, hb⟩; refine ⟨_, rfl, ?_⟩; replace BK245 := cB hb BK245; replace BK246 := cB hb BK246; replace BK247 := cB hb BK247; replace HB := Aside0.mk (below_step (by first | exact HB.out | (repeat (first | exact HB.out | apply pw_below_drewN | apply below_drew1 | apply below_alloc))) hb); (try clear hb); (try clear hb2); (try clear hk); (try clear hi); obtain ⟨hcz14_0, hcz14_1, hcz14_2⟩ := cells3 BK245.out; obtain ⟨hcz15_0, hcz15_1, hcz15_2⟩ := cells3 BK246.out; obtain ⟨hcz16_0, hcz16_1, hcz16_2⟩ := cells3 BK247.out) | ((with_reducible refine gate_callee (f := 24) rfl ?_); refine goesL_ (some 24) rfl rfl Try.func24 (by kernel_rfl) rfl #[.agg #[.int .i64 a0_0, .int .i64 a0_1, .int .i64 a0_2], .agg #[.int .i64 a1_0, .int .i64 a1_1, .int .i64 a1_2], .agg #[.int .i64 a2_0, .int .i64 a2_1, .int .i64 a2_2], .int .i64 a3, .int .i64 a4] rfl (by (try simp only [List.map_toArray, List.map_cons, List.map_nil]); first | done | rfl | (simp only [List.length_drop, List.length_take]; rfl)) ?_; (with_reducible refine (light_Blend.calls a0_0 a0_1 a0_2 a1_0 a1_1 a1_2 a2_0 a2_1 a2_2 a3 a4 t249 t250 t251 _ A8.out).mono ?_); rintro e w17 ⟨rfl, hb⟩; refine ⟨_, rfl, ?_⟩; replace BK245 := cB hb BK245; replace BK246 := cB hb BK246; replace BK247 := cB hb BK247; replace HB := Aside0.mk (below_step (by first | exact HB.out | (repeat (first | exact HB.out | apply pw_below_drewN | apply below_drew1 | apply below_alloc))) hb); (try clear hb); (try clear hb2); (try clear hk); (try clear hi)) | ((with_reducible refine gate_dst (N := 11) rfl ?_); (try (refine gate_guard (by rfl) ?_; dsimp only)); refine box_event ?hg (N := 11) ?hd (cs := #[.int .i64 0, .int .i64 0, .int .i64 0]) (t := 37) ?hr ?_; (case hd => rfl); (case hg => rfl); (case hr => first | (go_simp; done) | (go_simp; rfl)); intro gb252 hg w18 hbox hb; have BK252 := Aside0.mk (hbox); have GE252 := Aside0.mk (bG hg (by first | exact HB.out | (repeat (first | exact HB.out | apply pw_below_drewN | apply below_drew1 | apply below_alloc)))); have NB245_252 := cN hg BK245; have NB252_245 := cM hg BK245; have NB246_252 := cN hg BK246; have NB252_246 := cM hg BK246; have NB247_252 := cN hg BK247; have NB252_247 := cM hg BK247; replace BK245 := cB hb BK245; replace BK246 := cB hb BK246; replace BK247 := cB hb BK247; replace HB := Aside0.mk (below_step (by first | exact HB.out | (repeat (first | exact HB.out | apply pw_below_drewN | apply below_drew1 | apply below_alloc))) hb); clear hb hbox hg; have hnb19 := NB252_245.out; have hnc19 := NB245_252.out; have hnb20 := NB252_246.out; have hnc20 := NB246_252.out; have hnb21 := NB252_247.out; have hnc21 := NB247_252.out; obtain ⟨hcz22_0, hcz22_1, hcz22_2⟩ := cells3 BK252.out; have hfz22_0 := blk_frozen BK252.out 0; have hfz22_1 := blk_frozen BK252.out 1; have hfz22_2 := blk_frozen BK252.out 2))
  (try simp only [Act.put, List.setIfInBounds_toArray, List.set_cons_zero, List.set_cons_succ])
  go_cut [52] (fun v52 wc => ∃ (kq : Nat) (x52_8 : Bool), v52 = .bool x52_8 ∧ Aside0 (relievolaw19_LightBlend.j0 kq a3 a4 x52_8 a0_0 a0_1 a0_2 a1_0 a1_1 a1_2 a2_0 a2_1 a2_2 t249 t250 t251 = some r) ∧ Aside0 (kq ≤ k) ∧ Aside0 (wc.heap[gb245]? = some (.cells #[.int .i64 a0_0, .int .i64 a0_1, .int .i64 a0_2] 37 (0, 0))) ∧ Aside0 (wc.heap[gb246]? = some (.cells #[.int .i64 a1_0, .int .i64 a1_1, .int .i64 a1_2] 37 (0, 0))) ∧ Aside0 (wc.heap[gb247]? = some (.cells #[.int .i64 a2_0, .int .i64 a2_1, .int .i64 a2_2] 37 (0, 0))) ∧ Aside0 (wc.heap[gb252]? = some (.cells #[.int .i64 t249, .int .i64 t250, .int .i64 t251] 37 (0, 0))) ∧ Aside0 (Below w.heap.size w wc))
  case first =>
   have H := HC9.out
   clear HC9
   by_cases c23 : t249 < 0
   ·rw [if_pos c23] at H
    have c23b0 : decide (t249 < 0) = true := decide_eq_true c23
    clear c23
    (first | rw [c23b0] | (simp only [i64_w, i32_w]; rw [c23b0]) | skip)
    have H' := Aside0.mk H
    clear H
    obtain ⟨hcz24_0, hcz24_1, hcz24_2⟩ := cells3 BK252.out
    go_wp2
    go_meet
    case rel => exact ⟨_, (true), (by first | rfl | (simp; done) | (simp [*]; done)), H', ⟨by first | omega | exact Nat.le_refl _⟩, ⟨(blk_far (blk_far (blk_far BK245.out NB245_252.out _) NB245_252.out _) NB245_252.out _)⟩, ⟨(blk_far (blk_far (blk_far BK246.out NB246_252.out _) NB246_252.out _) NB246_252.out _)⟩, ⟨(blk_far (blk_far (blk_far BK247.out NB247_252.out _) NB247_252.out _) NB247_252.out _)⟩, ⟨(blk_put (cs' := #[.int .i64 t249, .int .i64 t250, .int .i64 t251]) (blk_put (blk_put BK252.out 0 _ rfl) 1 _ rfl) 2 _ rfl)⟩, ⟨by first | exact (below_set (below_set (below_set HB.out GE252.out) GE252.out) GE252.out) | (repeat (first | exact (below_set (below_set (below_set HB.out GE252.out) GE252.out) GE252.out) | apply pw_below_drewN | apply below_drew1 | apply below_alloc))⟩⟩
   rw [if_neg c23] at H
   have c23b0 : decide (t249 < 0) = false := decide_eq_false c23
   clear c23
   (first | rw [c23b0] | (simp only [i64_w, i32_w]; rw [c23b0]) | skip)
   by_cases c25 : t249 > 255
   ·rw [if_pos c25] at H
    have c25b0 : decide (255 < t249) = true := decide_eq_true c25
    clear c25
    have H' := Aside0.mk H
    clear H
    obtain ⟨hcz26_0, hcz26_1, hcz26_2⟩ := cells3 BK252.out
    go_wp2
    go_meet
    case rel => exact ⟨_, (true), (by first | rfl | (simp; done) | (simp [*]; done)), H', ⟨by first | omega | exact Nat.le_refl _⟩, ⟨(blk_far (blk_far (blk_far BK245.out NB245_252.out _) NB245_252.out _) NB245_252.out _)⟩, ⟨(blk_far (blk_far (blk_far BK246.out NB246_252.out _) NB246_252.out _) NB246_252.out _)⟩, ⟨(blk_far (blk_far (blk_far BK247.out NB247_252.out _) NB247_252.out _) NB247_252.out _)⟩, ⟨(blk_put (cs' := #[.int .i64 t249, .int .i64 t250, .int .i64 t251]) (blk_put (blk_put BK252.out 0 _ rfl) 1 _ rfl) 2 _ rfl)⟩, ⟨by first | exact (below_set (below_set (below_set HB.out GE252.out) GE252.out) GE252.out) | (repeat (first | exact (below_set (below_set (below_set HB.out GE252.out) GE252.out) GE252.out) | apply pw_below_drewN | apply below_drew1 | apply below_alloc))⟩⟩
   rw [if_neg c25] at H
   have c25b0 : decide (255 < t249) = false := decide_eq_false c25
   clear c25
   by_cases c27 : t250 < 0
   ·rw [if_pos c27] at H
    have c27b0 : decide (t250 < 0) = true := decide_eq_true c27
    clear c27
    have H' := Aside0.mk H
    clear H
    obtain ⟨hcz28_0, hcz28_1, hcz28_2⟩ := cells3 BK252.out
    go_wp2
    go_meet
    case rel => exact ⟨_, (true), (by first | rfl | (simp; done) | (simp [*]; done)), H', ⟨by first | omega | exact Nat.le_refl _⟩, ⟨(blk_far (blk_far (blk_far BK245.out NB245_252.out _) NB245_252.out _) NB245_252.out _)⟩, ⟨(blk_far (blk_far (blk_far BK246.out NB246_252.out _) NB246_252.out _) NB246_252.out _)⟩, ⟨(blk_far (blk_far (blk_far BK247.out NB247_252.out _) NB247_252.out _) NB247_252.out _)⟩, ⟨(blk_put (cs' := #[.int .i64 t249, .int .i64 t250, .int .i64 t251]) (blk_put (blk_put BK252.out 0 _ rfl) 1 _ rfl) 2 _ rfl)⟩, ⟨by first | exact (below_set (below_set (below_set HB.out GE252.out) GE252.out) GE252.out) | (repeat (first | exact (below_set (below_set (below_set HB.out GE252.out) GE252.out) GE252.out) | apply pw_below_drewN | apply below_drew1 | apply below_alloc))⟩⟩
   rw [if_neg c27] at H
   have c27b0 : decide (t250 < 0) = false := decide_eq_false c27
   clear c27
   by_cases c29 : t250 > 255
   ·rw [if_pos c29] at H
    have c29b0 : decide (255 < t250) = true := decide_eq_true c29
    clear c29
    have H' := Aside0.mk H
    clear H
    obtain ⟨hcz30_0, hcz30_1, hcz30_2⟩ := cells3 BK252.out
    go_wp2
    go_meet
    case rel => exact ⟨_, (true), (by first | rfl | (simp; done) | (simp [*]; done)), H', ⟨by first | omega | exact Nat.le_refl _⟩, ⟨(blk_far (blk_far (blk_far BK245.out NB245_252.out _) NB245_252.out _) NB245_252.out _)⟩, ⟨(blk_far (blk_far (blk_far BK246.out NB246_252.out _) NB246_252.out _) NB246_252.out _)⟩, ⟨(blk_far (blk_far (blk_far BK247.out NB247_252.out _) NB247_252.out _) NB247_252.out _)⟩, ⟨(blk_put (cs' := #[.int .i64 t249, .int .i64 t250, .int .i64 t251]) (blk_put (blk_put BK252.out 0 _ rfl) 1 _ rfl) 2 _ rfl)⟩, ⟨by first | exact (below_set (below_set (below_set HB.out GE252.out) GE252.out) GE252.out) | (repeat (first | exact (below_set (below_set (below_set HB.out GE252.out) GE252.out) GE252.out) | apply pw_below_drewN | apply below_drew1 | apply below_alloc))⟩⟩
   rw [if_neg c29] at H
   have c29b0 : decide (255 < t250) = false := decide_eq_false c29
   clear c29
   by_cases c31 : t251 < 0
   ·rw [if_pos c31] at H
    have c31b0 : decide (t251 < 0) = true := decide_eq_true c31
    clear c31
    have H' := Aside0.mk H
    clear H
    obtain ⟨hcz32_0, hcz32_1, hcz32_2⟩ := cells3 BK252.out
    go_wp2
    go_meet
    case rel => exact ⟨_, (true), (by first | rfl | (simp; done) | (simp [*]; done)), H', ⟨by first | omega | exact Nat.le_refl _⟩, ⟨(blk_far (blk_far (blk_far BK245.out NB245_252.out _) NB245_252.out _) NB245_252.out _)⟩, ⟨(blk_far (blk_far (blk_far BK246.out NB246_252.out _) NB246_252.out _) NB246_252.out _)⟩, ⟨(blk_far (blk_far (blk_far BK247.out NB247_252.out _) NB247_252.out _) NB247_252.out _)⟩, ⟨(blk_put (cs' := #[.int .i64 t249, .int .i64 t250, .int .i64 t251]) (blk_put (blk_put BK252.out 0 _ rfl) 1 _ rfl) 2 _ rfl)⟩, ⟨by first | exact (below_set (below_set (below_set HB.out GE252.out) GE252.out) GE252.out) | (repeat (first | exact (below_set (below_set (below_set HB.out GE252.out) GE252.out) GE252.out) | apply pw_below_drewN | apply below_drew1 | apply below_alloc))⟩⟩
   rw [if_neg c31] at H
   have c31b0 : decide (t251 < 0) = false := decide_eq_false c31
   clear c31
   have H' := Aside0.mk H
   clear H
   obtain ⟨hcz33_0, hcz33_1, hcz33_2⟩ := cells3 BK252.out
   go_wp2
   go_meet
   case rel => exact ⟨_, (decide (t251 > 255)), (by first | rfl | (simp; done) | (simp [*]; done)), H', ⟨by first | omega | exact Nat.le_refl _⟩, ⟨(blk_far (blk_far (blk_far BK245.out NB245_252.out _) NB245_252.out _) NB245_252.out _)⟩, ⟨(blk_far (blk_far (blk_far BK246.out NB246_252.out _) NB246_252.out _) NB246_252.out _)⟩, ⟨(blk_far (blk_far (blk_far BK247.out NB247_252.out _) NB247_252.out _) NB247_252.out _)⟩, ⟨(blk_put (cs' := #[.int .i64 t249, .int .i64 t250, .int .i64 t251]) (blk_put (blk_put BK252.out 0 _ rfl) 1 _ rfl) 2 _ rfl)⟩, ⟨by first | exact (below_set (below_set (below_set HB.out GE252.out) GE252.out) GE252.out) | (repeat (first | exact (below_set (below_set (below_set HB.out GE252.out) GE252.out) GE252.out) | apply pw_below_drewN | apply below_drew1 | apply below_alloc))⟩⟩
  clear HC9
  try clear c7
  try clear hcz14_0
  try clear hcz14_1
  try clear hcz14_2
  try clear hcz15_0
  try clear hcz15_1
  try clear hcz15_2
  try clear hcz16_0
  try clear hcz16_1
  try clear hcz16_2
  try clear hcz22_0
  try clear hcz22_1
  try clear hcz22_2
  try clear hfz22_0
  try clear hfz22_1
  try clear hfz22_2
  obtain ⟨kq, x52_8, rfl, HA, HJ8, BK245, BK246, BK247, BK252, HB⟩ := hcut
  cases kq with
  | zero => exact absurd HA.out (by simp [relievolaw19_LightBlend.j0])
  | succ kj8 =>
   have H := HA.out
   clear HA
   simp only [relievolaw19_LightBlend.j0] at H
   by_cases c34 : x52_8 = true
   ·subst c34
    have H1 : (some false) = some r := by rw [if_pos rfl] at H; exact H
    clear H
    have H := H1
    clear H1
    obtain rfl := Option.some.inj H
    go_wp2
    go_ret
    exact ⟨by first | rfl | (simp [errW_none, errW_some] <;> rfl) | (simp [*, errW_none, errW_some] <;> rfl), by first | exact HB.out | (repeat (first | exact HB.out | apply pw_below_drewN | apply below_drew1 | apply below_alloc))⟩
   replace c34 := Bool.eq_false_iff.mpr c34
   subst c34
   have H1 : ((light_Blend.f a0_0 a0_1 a0_2 a1_0 a1_1 a1_2 a2_0 a2_1 a2_2 0 0).bind fun bt253 => ((light_Blend.f a0_0 a0_1 a0_2 a1_0 a1_1 a1_2 a2_0 a2_1 a2_2 256 0).bind fun bt257 => ((light_Blend.f a0_0 a0_1 a0_2 a1_0 a1_1 a1_2 a2_0 a2_1 a2_2 0 256).bind fun bt261 => (if a3 < 0 then (relievolaw19_LightBlend.j1 kj8 true a1_0 a1_1 a1_2 a2_0 a2_1 a2_2 t249 t250 t251 bt253.1 bt253.2.1 bt253.2.2 bt257.1 bt257.2.1 bt257.2.2 bt261.1 bt261.2.1 bt261.2.2) else (if a4 < 0 then (relievolaw19_LightBlend.j1 kj8 true a1_0 a1_1 a1_2 a2_0 a2_1 a2_2 t249 t250 t251 bt253.1 bt253.2.1 bt253.2.2 bt257.1 bt257.2.1 bt257.2.2 bt261.1 bt261.2.1 bt261.2.2) else (if a3 > 256 then (relievolaw19_LightBlend.j1 kj8 true a1_0 a1_1 a1_2 a2_0 a2_1 a2_2 t249 t250 t251 bt253.1 bt253.2.1 bt253.2.2 bt257.1 bt257.2.1 bt257.2.2 bt261.1 bt261.2.1 bt261.2.2) else (if a4 > 256 then (relievolaw19_LightBlend.j1 kj8 true a1_0 a1_1 a1_2 a2_0 a2_1 a2_2 t249 t250 t251 bt253.1 bt253.2.1 bt253.2.2 bt257.1 bt257.2.1 bt257.2.2 bt261.1 bt261.2.1 bt261.2.2) else (relievolaw19_LightBlend.j1 kj8 (decide ((wrap64 (a3 + a4)) > 256)) a1_0 a1_1 a1_2 a2_0 a2_1 a2_2 t249 t250 t251 bt253.1 bt253.2.1 bt253.2.2 bt257.1 bt257.2.1 bt257.2.2 bt261.1 bt261.2.1 bt261.2.2)))))))) = some r := by rw [if_neg (show ¬ (false = true) by decide)] at H; exact H
   clear H
   have H := H1
   clear H1
   replace H := Option.bind_eq_some_iff.mp H
   obtain ⟨⟨t253, t254, t255⟩, A350, H⟩ := H
   replace H : ((light_Blend.f a0_0 a0_1 a0_2 a1_0 a1_1 a1_2 a2_0 a2_1 a2_2 256 0).bind fun bt257 => ((light_Blend.f a0_0 a0_1 a0_2 a1_0 a1_1 a1_2 a2_0 a2_1 a2_2 0 256).bind fun bt261 => (if a3 < 0 then (relievolaw19_LightBlend.j1 kj8 true a1_0 a1_1 a1_2 a2_0 a2_1 a2_2 t249 t250 t251 t253 t254 t255 bt257.1 bt257.2.1 bt257.2.2 bt261.1 bt261.2.1 bt261.2.2) else (if a4 < 0 then (relievolaw19_LightBlend.j1 kj8 true a1_0 a1_1 a1_2 a2_0 a2_1 a2_2 t249 t250 t251 t253 t254 t255 bt257.1 bt257.2.1 bt257.2.2 bt261.1 bt261.2.1 bt261.2.2) else (if a3 > 256 then (relievolaw19_LightBlend.j1 kj8 true a1_0 a1_1 a1_2 a2_0 a2_1 a2_2 t249 t250 t251 t253 t254 t255 bt257.1 bt257.2.1 bt257.2.2 bt261.1 bt261.2.1 bt261.2.2) else (if a4 > 256 then (relievolaw19_LightBlend.j1 kj8 true a1_0 a1_1 a1_2 a2_0 a2_1 a2_2 t249 t250 t251 t253 t254 t255 bt257.1 bt257.2.1 bt257.2.2 bt261.1 bt261.2.1 bt261.2.2) else (relievolaw19_LightBlend.j1 kj8 (decide ((wrap64 (a3 + a4)) > 256)) a1_0 a1_1 a1_2 a2_0 a2_1 a2_2 t249 t250 t251 t253 t254 t255 bt257.1 bt257.2.1 bt257.2.2 bt261.1 bt261.2.1 bt261.2.2))))))) = some r := H
   have A35 := Aside0.mk A350
   clear A350
   replace H := Option.bind_eq_some_iff.mp H
   obtain ⟨⟨t257, t258, t259⟩, A360, H⟩ := H
   replace H : ((light_Blend.f a0_0 a0_1 a0_2 a1_0 a1_1 a1_2 a2_0 a2_1 a2_2 0 256).bind fun bt261 => (if a3 < 0 then (relievolaw19_LightBlend.j1 kj8 true a1_0 a1_1 a1_2 a2_0 a2_1 a2_2 t249 t250 t251 t253 t254 t255 t257 t258 t259 bt261.1 bt261.2.1 bt261.2.2) else (if a4 < 0 then (relievolaw19_LightBlend.j1 kj8 true a1_0 a1_1 a1_2 a2_0 a2_1 a2_2 t249 t250 t251 t253 t254 t255 t257 t258 t259 bt261.1 bt261.2.1 bt261.2.2) else (if a3 > 256 then (relievolaw19_LightBlend.j1 kj8 true a1_0 a1_1 a1_2 a2_0 a2_1 a2_2 t249 t250 t251 t253 t254 t255 t257 t258 t259 bt261.1 bt261.2.1 bt261.2.2) else (if a4 > 256 then (relievolaw19_LightBlend.j1 kj8 true a1_0 a1_1 a1_2 a2_0 a2_1 a2_2 t249 t250 t251 t253 t254 t255 t257 t258 t259 bt261.1 bt261.2.1 bt261.2.2) else (relievolaw19_LightBlend.j1 kj8 (decide ((wrap64 (a3 + a4)) > 256)) a1_0 a1_1 a1_2 a2_0 a2_1 a2_2 t249 t250 t251 t253 t254 t255 t257 t258 t259 bt261.1 bt261.2.1 bt261.2.2)))))) = some r := H
   have A36 := Aside0.mk A360
   clear A360
   replace H := Option.bind_eq_some_iff.mp H
   obtain ⟨⟨t261, t262, t263⟩, A370, H⟩ := H
   replace H : (if a3 < 0 then (relievolaw19_LightBlend.j1 kj8 true a1_0 a1_1 a1_2 a2_0 a2_1 a2_2 t249 t250 t251 t253 t254 t255 t257 t258 t259 t261 t262 t263) else (if a4 < 0 then (relievolaw19_LightBlend.j1 kj8 true a1_0 a1_1 a1_2 a2_0 a2_1 a2_2 t249 t250 t251 t253 t254 t255 t257 t258 t259 t261 t262 t263) else (if a3 > 256 then (relievolaw19_LightBlend.j1 kj8 true a1_0 a1_1 a1_2 a2_0 a2_1 a2_2 t249 t250 t251 t253 t254 t255 t257 t258 t259 t261 t262 t263) else (if a4 > 256 then (relievolaw19_LightBlend.j1 kj8 true a1_0 a1_1 a1_2 a2_0 a2_1 a2_2 t249 t250 t251 t253 t254 t255 t257 t258 t259 t261 t262 t263) else (relievolaw19_LightBlend.j1 kj8 (decide ((wrap64 (a3 + a4)) > 256)) a1_0 a1_1 a1_2 a2_0 a2_1 a2_2 t249 t250 t251 t253 t254 t255 t257 t258 t259 t261 t262 t263))))) = some r := H
   have A37 := Aside0.mk A370
   clear A370
   have HC38 := Aside0.mk H
   clear H
   obtain ⟨hcz39_0, hcz39_1, hcz39_2⟩ := cells3 BK245.out
   obtain ⟨hcz40_0, hcz40_1, hcz40_2⟩ := cells3 BK246.out
   obtain ⟨hcz41_0, hcz41_1, hcz41_2⟩ := cells3 BK247.out
   go_upto_region 9 with (first | ((with_reducible refine gate_callee (f := 24) rfl ?_); refine goesL_ (some 56) rfl rfl Try.func24 (by kernel_rfl) rfl #[.agg #[.int .i64 a0_0, .int .i64 a0_1, .int .i64 a0_2], .agg #[.int .i64 a1_0, .int .i64 a1_1, .int .i64 a1_2], .agg #[.int .i64 a2_0, .int .i64 a2_1, .int .i64 a2_2], .int .i64 0, .int .i64 0] rfl (by (try simp only [List.map_toArray, List.map_cons, List.map_nil]); first | done | rfl | (simp only [List.length_drop, List.length_take]; rfl)) ?_; (with_reducible refine (light_Blend.calls a0_0 a0_1 a0_2 a1_0 a1_1 a1_2 a2_0 a2_1 a2_2 0 0 t253 t254 t255 _ A35.out).mono ?_); rintro e w42 ⟨rfl, hb⟩; refine ⟨_, rfl, ?_⟩; replace BK245 := cB hb BK245; replace BK246 := cB hb BK246; replace BK247 := cB hb BK247; replace BK252 := cB hb BK252; replace HB := Aside0.mk (below_step (by first | exact HB.out | (repeat (first | exact HB.out | apply pw_below_drewN | apply below_drew1 | apply below_alloc))) hb); (try clear hb); (try clear hb2); (try clear hk); (try clear hi)) | ((with_reducible refine gate_dst (N := 12) rfl ?_); (try (refine gate_guard (by rfl) ?_; dsimp only)); refine box_event ?hg (N := 12) ?hd (cs := #[.int .i64 0, .int .i64 0, .int .i64 0]) (t := 37) ?hr ?_; (case hd => rfl); (case hg => rfl); (case hr => first | (go_simp; done) | (go_simp; rfl)); intro gb256 hg w43 hbox hb; have BK256 := Aside0.mk (hbox); have GE256 := Aside0.mk (bG hg (by first | exact HB.out | (repeat (first | exact HB.out | apply pw_below_drewN | apply below_drew1 | apply below_alloc)))); have NB245_256 := cN hg BK245; have NB256_245 := cM hg BK245; have NB246_256 := cN hg BK246; have NB256_246 := cM hg BK246; have NB247_256 := cN hg BK247; have NB256_247 := cM hg BK247; have NB252_256 := cN hg BK252; have NB256_252 := cM hg BK252; replace BK245 := cB hb BK245; replace BK246 := cB hb BK246; replace BK247 := cB hb BK247; replace BK252 := cB hb BK252; replace HB := Aside0.mk (below_step (by first | exact HB.out | (repeat (first | exact HB.out | apply pw_below_drewN | apply below_drew1 | apply below_alloc))) hb); clear hb hbox hg; have hnb44 := NB256_245.out; have hnc44 := NB245_256.out; have hnb45 := NB256_246.out; have hnc45 := NB246_256.out; have hnb46 := NB256_247.out; have hnc46 := NB247_256.out; have hnb47 := NB256_252.out; have hnc47 := NB252_256.out; obtain ⟨hcz48_0, hcz48_1, hcz48_2⟩ := cells3 BK256.out; have hfz48_0 := blk_frozen BK256.out 0; have hfz48_1 := blk_frozen BK256.out 1; have hfz48_2 := blk_frozen BK256.out 2; obtain ⟨hcz49_0, hcz49_1, hcz49_2⟩ := cells3 BK245.out; obtain ⟨hcz50_0, hcz50_1, hcz50_2⟩ := cells3 BK246.out; obtain ⟨hcz51_0, hcz51_1, hcz51_2⟩ := cells3 BK247.out) | ((with_reducible refine gate_callee (f := 24) rfl ?_); refine goesL_ (some 60) rfl rfl Try.func24 (by kernel_rfl) rfl #[.agg #[.int .i64 a0_0, .int .i64 a0_1, .int .i64 a0_2], .agg #[.int .i64 a1_0, .int .i64 a1_1, .int .i64 a1_2], .agg #[.int .i64 a2_0, .int .i64 a2_1, .int .i64 a2_2], .int .i64 256, .int .i64 0] rfl (by (try simp only [List.map_toArray, List.map_cons, List.map_nil]); first | done | rfl | (simp only [List.length_drop, List.length_take]; rfl)) ?_; (with_reducible refine (light_Blend.calls a0_0 a0_1 a0_2 a1_0 a1_1 a1_2 a2_0 a2_1 a2_2 256 0 t257 t258 t259 _ A36.out).mono ?_); rintro e w52 ⟨rfl, hb⟩; refine ⟨_, rfl, ?_⟩; replace BK245 := Aside0.mk (bB hb ((blk_far (blk_far (blk_far BK245.out NB245_256.out _) NB245_256.out _) NB245_256.out _))); replace BK246 := Aside0.mk (bB hb ((blk_far (blk_far (blk_far BK246.out NB246_256.out _) NB246_256.out _) NB246_256.out _))); replace BK247 := Aside0.mk (bB hb ((blk_far (blk_far (blk_far BK247.out NB247_256.out _) NB247_256.out _) NB247_256.out _))); replace BK252 := Aside0.mk (bB hb ((blk_far (blk_far (blk_far BK252.out NB252_256.out _) NB252_256.out _) NB252_256.out _))); replace BK256 := Aside0.mk (bB hb ((blk_put (cs' := #[.int .i64 t253, .int .i64 t254, .int .i64 t255]) (blk_put (blk_put BK256.out 0 _ rfl) 1 _ rfl) 2 _ rfl))); replace HB := Aside0.mk (below_step (by first | exact (below_set (below_set (below_set HB.out GE256.out) GE256.out) GE256.out) | (repeat (first | exact (below_set (below_set (below_set HB.out GE256.out) GE256.out) GE256.out) | apply pw_below_drewN | apply below_drew1 | apply below_alloc))) hb); (try clear hb); (try clear hb2); (try clear hk); (try clear hi)) | ((with_reducible refine gate_dst (N := 13) rfl ?_); (try (refine gate_guard (by rfl) ?_; dsimp only)); refine box_event ?hg (N := 13) ?hd (cs := #[.int .i64 0, .int .i64 0, .int .i64 0]) (t := 37) ?hr ?_; (case hd => rfl); (case hg => rfl); (case hr => first | (go_simp; done) | (go_simp; rfl)); intro gb260 hg w53 hbox hb; have BK260 := Aside0.mk (hbox); have GE260 := Aside0.mk (bG hg (by first | exact HB.out | (repeat (first | exact HB.out | apply pw_below_drewN | apply below_drew1 | apply below_alloc)))); have NB245_260 := cN hg BK245; have NB260_245 := cM hg BK245; have NB246_260 := cN hg BK246; have NB260_246 := cM hg BK246; have NB247_260 := cN hg BK247; have NB260_247 := cM hg BK247; have NB252_260 := cN hg BK252; have NB260_252 := cM hg BK252; have NB256_260 := cN hg BK256; have NB260_256 := cM hg BK256; replace BK245 := cB hb BK245; replace BK246 := cB hb BK246; replace BK247 := cB hb BK247; replace BK252 := cB hb BK252; replace BK256 := cB hb BK256; replace HB := Aside0.mk (below_step (by first | exact HB.out | (repeat (first | exact HB.out | apply pw_below_drewN | apply below_drew1 | apply below_alloc))) hb); clear hb hbox hg; have hnb54 := NB260_245.out; have hnc54 := NB245_260.out; have hnb55 := NB260_246.out; have hnc55 := NB246_260.out; have hnb56 := NB260_247.out; have hnc56 := NB247_260.out; have hnb57 := NB260_252.out; have hnc57 := NB252_260.out; have hnb58 := NB260_256.out; have hnc58 := NB256_260.out; obtain ⟨hcz59_0, hcz59_1, hcz59_2⟩ := cells3 BK260.out; have hfz59_0 := blk_frozen BK260.out 0; have hfz59_1 := blk_frozen BK260.out 1; have hfz59_2 := blk_frozen BK260.out 2; obtain ⟨hcz60_0, hcz60_1, hcz60_2⟩ := cells3 BK245.out; obtain ⟨hcz61_0, hcz61_1, hcz61_2⟩ := cells3 BK246.out; obtain ⟨hcz62_0, hcz62_1, hcz62_2⟩ := cells3 BK247.out) | ((with_reducible refine gate_callee (f := 24) rfl ?_); refine goesL_ (some 64) rfl rfl Try.func24 (by kernel_rfl) rfl #[.agg #[.int .i64 a0_0, .int .i64 a0_1, .int .i64 a0_2], .agg #[.int .i64 a1_0, .int .i64 a1_1, .int .i64 a1_2], .agg #[.int .i64 a2_0, .int .i64 a2_1, .int .i64 a2_2], .int .i64 0, .int .i64 256] rfl (by (try simp only [List.map_toArray, List.map_cons, List.map_nil]); first | done | rfl | (simp only [List.length_drop, List.length_take]; rfl)) ?_; (with_reducible refine (light_Blend.calls a0_0 a0_1 a0_2 a1_0 a1_1 a1_2 a2_0 a2_1 a2_2 0 256 t261 t262 t263 _ A37.out).mono ?_); rintro e w63 ⟨rfl, hb⟩; refine ⟨_, rfl, ?_⟩; replace BK245 := Aside0.mk (bB hb ((blk_far (blk_far (blk_far BK245.out NB245_260.out _) NB245_260.out _) NB245_260.out _))); replace BK246 := Aside0.mk (bB hb ((blk_far (blk_far (blk_far BK246.out NB246_260.out _) NB246_260.out _) NB246_260.out _))); replace BK247 := Aside0.mk (bB hb ((blk_far (blk_far (blk_far BK247.out NB247_260.out _) NB247_260.out _) NB247_260.out _))); replace BK252 := Aside0.mk (bB hb ((blk_far (blk_far (blk_far BK252.out NB252_260.out _) NB252_260.out _) NB252_260.out _))); replace BK256 := Aside0.mk (bB hb ((blk_far (blk_far (blk_far BK256.out NB256_260.out _) NB256_260.out _) NB256_260.out _))); replace BK260 := Aside0.mk (bB hb ((blk_put (cs' := #[.int .i64 t257, .int .i64 t258, .int .i64 t259]) (blk_put (blk_put BK260.out 0 _ rfl) 1 _ rfl) 2 _ rfl))); replace HB := Aside0.mk (below_step (by first | exact (below_set (below_set (below_set HB.out GE260.out) GE260.out) GE260.out) | (repeat (first | exact (below_set (below_set (below_set HB.out GE260.out) GE260.out) GE260.out) | apply pw_below_drewN | apply below_drew1 | apply below_alloc))) hb); (try clear hb); (try clear hb2); (try clear hk); (try clear hi)) | ((with_reducible refine gate_dst (N := 14) rfl ?_); (try (refine gate_guard (by rfl) ?_; dsimp only)); refine box_event ?hg (N := 14) ?hd (cs := #[.int .i64 0, .int .i64 0, .int .i64 0]) (t := 37) ?hr ?_; (case hd => rfl); (case hg => rfl); (case hr => first | (go_simp; done) | (go_simp; rfl)); intro gb264 hg w64 hbox hb; have BK264 := Aside0.mk (hbox); have GE264 := Aside0.mk (bG hg (by first | exact HB.out | (repeat (first | exact HB.out | apply pw_below_drewN | apply below_drew1 | apply below_alloc)))); have NB245_264 := cN hg BK245; have NB264_245 := cM hg BK245; have NB246_264 := cN hg BK246; have NB264_246 := cM hg BK246; have NB247_264 := cN hg BK247; have NB264_247 := cM hg BK247; have NB252_264 := cN hg BK252; have NB264_252 := cM hg BK252; have NB256_264 := cN hg BK256; have NB264_256 := cM hg BK256; have NB260_264 := cN hg BK260; have NB264_260 := cM hg BK260; replace BK245 := cB hb BK245; replace BK246 := cB hb BK246; replace BK247 := cB hb BK247; replace BK252 := cB hb BK252; replace BK256 := cB hb BK256; replace BK260 := cB hb BK260; replace HB := Aside0.mk (below_step (by first | exact HB.out | (repeat (first | exact HB.out | apply pw_below_drewN | apply below_drew1 | apply below_alloc))) hb); clear hb hbox hg; have hnb65 := NB264_245.out; have hnc65 := NB245_264.out; have hnb66 := NB264_246.out; have hnc66 := NB246_264.out; have hnb67 := NB264_247.out; have hnc67 := NB247_264.out; have hnb68 := NB264_252.out; have hnc68 := NB252_264.out; have hnb69 := NB264_256.out; have hnc69 := NB256_264.out; have hnb70 := NB264_260.out; have hnc70 := NB260_264.out; obtain ⟨hcz71_0, hcz71_1, hcz71_2⟩ := cells3 BK264.out; have hfz71_0 := blk_frozen BK264.out 0; have hfz71_1 := blk_frozen BK264.out 1; have hfz71_2 := blk_frozen BK264.out 2))
   (try simp only [Act.put, List.setIfInBounds_toArray, List.set_cons_zero, List.set_cons_succ])
   go_cut [84] (fun v84 wc => ∃ (kq : Nat) (x84_37 : Bool), v84 = .bool x84_37 ∧ Aside0 (relievolaw19_LightBlend.j1 kq x84_37 a1_0 a1_1 a1_2 a2_0 a2_1 a2_2 t249 t250 t251 t253 t254 t255 t257 t258 t259 t261 t262 t263 = some r) ∧ Aside0 (kq ≤ kj8) ∧ Aside0 (wc.heap[gb246]? = some (.cells #[.int .i64 a1_0, .int .i64 a1_1, .int .i64 a1_2] 37 (0, 0))) ∧ Aside0 (wc.heap[gb247]? = some (.cells #[.int .i64 a2_0, .int .i64 a2_1, .int .i64 a2_2] 37 (0, 0))) ∧ Aside0 (wc.heap[gb252]? = some (.cells #[.int .i64 t249, .int .i64 t250, .int .i64 t251] 37 (0, 0))) ∧ Aside0 (wc.heap[gb256]? = some (.cells #[.int .i64 t253, .int .i64 t254, .int .i64 t255] 37 (0, 0))) ∧ Aside0 (wc.heap[gb260]? = some (.cells #[.int .i64 t257, .int .i64 t258, .int .i64 t259] 37 (0, 0))) ∧ Aside0 (wc.heap[gb264]? = some (.cells #[.int .i64 t261, .int .i64 t262, .int .i64 t263] 37 (0, 0))) ∧ Aside0 (Below w.heap.size w wc))
   case first =>
    have H := HC38.out
    clear HC38
    by_cases c72 : a3 < 0
    ·rw [if_pos c72] at H
     have c72b0 : decide (a3 < 0) = true := decide_eq_true c72
     clear c72
     (first | rw [c72b0] | (simp only [i64_w, i32_w]; rw [c72b0]) | skip)
     have H' := Aside0.mk H
     clear H
     go_wp2
     go_meet
     case rel => exact ⟨_, (true), (by first | rfl | (simp; done) | (simp [*]; done)), H', ⟨by have := HJ8.out; first | omega | exact Nat.le_refl _⟩, ⟨(blk_far (blk_far (blk_far BK246.out NB246_264.out _) NB246_264.out _) NB246_264.out _)⟩, ⟨(blk_far (blk_far (blk_far BK247.out NB247_264.out _) NB247_264.out _) NB247_264.out _)⟩, ⟨(blk_far (blk_far (blk_far BK252.out NB252_264.out _) NB252_264.out _) NB252_264.out _)⟩, ⟨(blk_far (blk_far (blk_far BK256.out NB256_264.out _) NB256_264.out _) NB256_264.out _)⟩, ⟨(blk_far (blk_far (blk_far BK260.out NB260_264.out _) NB260_264.out _) NB260_264.out _)⟩, ⟨(blk_put (cs' := #[.int .i64 t261, .int .i64 t262, .int .i64 t263]) (blk_put (blk_put BK264.out 0 _ rfl) 1 _ rfl) 2 _ rfl)⟩, ⟨by first | exact (below_set (below_set (below_set HB.out GE264.out) GE264.out) GE264.out) | (repeat (first | exact (below_set (below_set (below_set HB.out GE264.out) GE264.out) GE264.out) | apply pw_below_drewN | apply below_drew1 | apply below_alloc))⟩⟩
    rw [if_neg c72] at H
    have c72b0 : decide (a3 < 0) = false := decide_eq_false c72
    clear c72
    (first | rw [c72b0] | (simp only [i64_w, i32_w]; rw [c72b0]) | skip)
    by_cases c73 : a4 < 0
    ·rw [if_pos c73] at H
     have c73b0 : decide (a4 < 0) = true := decide_eq_true c73
     clear c73
     have H' := Aside0.mk H
     clear H
     go_wp2
     go_meet
     case rel => exact ⟨_, (true), (by first | rfl | (simp; done) | (simp [*]; done)), H', ⟨by have := HJ8.out; first | omega | exact Nat.le_refl _⟩, ⟨(blk_far (blk_far (blk_far BK246.out NB246_264.out _) NB246_264.out _) NB246_264.out _)⟩, ⟨(blk_far (blk_far (blk_far BK247.out NB247_264.out _) NB247_264.out _) NB247_264.out _)⟩, ⟨(blk_far (blk_far (blk_far BK252.out NB252_264.out _) NB252_264.out _) NB252_264.out _)⟩, ⟨(blk_far (blk_far (blk_far BK256.out NB256_264.out _) NB256_264.out _) NB256_264.out _)⟩, ⟨(blk_far (blk_far (blk_far BK260.out NB260_264.out _) NB260_264.out _) NB260_264.out _)⟩, ⟨(blk_put (cs' := #[.int .i64 t261, .int .i64 t262, .int .i64 t263]) (blk_put (blk_put BK264.out 0 _ rfl) 1 _ rfl) 2 _ rfl)⟩, ⟨by first | exact (below_set (below_set (below_set HB.out GE264.out) GE264.out) GE264.out) | (repeat (first | exact (below_set (below_set (below_set HB.out GE264.out) GE264.out) GE264.out) | apply pw_below_drewN | apply below_drew1 | apply below_alloc))⟩⟩
    rw [if_neg c73] at H
    have c73b0 : decide (a4 < 0) = false := decide_eq_false c73
    clear c73
    by_cases c74 : a3 > 256
    ·rw [if_pos c74] at H
     have c74b0 : decide (256 < a3) = true := decide_eq_true c74
     clear c74
     have H' := Aside0.mk H
     clear H
     go_wp2
     go_meet
     case rel => exact ⟨_, (true), (by first | rfl | (simp; done) | (simp [*]; done)), H', ⟨by have := HJ8.out; first | omega | exact Nat.le_refl _⟩, ⟨(blk_far (blk_far (blk_far BK246.out NB246_264.out _) NB246_264.out _) NB246_264.out _)⟩, ⟨(blk_far (blk_far (blk_far BK247.out NB247_264.out _) NB247_264.out _) NB247_264.out _)⟩, ⟨(blk_far (blk_far (blk_far BK252.out NB252_264.out _) NB252_264.out _) NB252_264.out _)⟩, ⟨(blk_far (blk_far (blk_far BK256.out NB256_264.out _) NB256_264.out _) NB256_264.out _)⟩, ⟨(blk_far (blk_far (blk_far BK260.out NB260_264.out _) NB260_264.out _) NB260_264.out _)⟩, ⟨(blk_put (cs' := #[.int .i64 t261, .int .i64 t262, .int .i64 t263]) (blk_put (blk_put BK264.out 0 _ rfl) 1 _ rfl) 2 _ rfl)⟩, ⟨by first | exact (below_set (below_set (below_set HB.out GE264.out) GE264.out) GE264.out) | (repeat (first | exact (below_set (below_set (below_set HB.out GE264.out) GE264.out) GE264.out) | apply pw_below_drewN | apply below_drew1 | apply below_alloc))⟩⟩
    rw [if_neg c74] at H
    have c74b0 : decide (256 < a3) = false := decide_eq_false c74
    clear c74
    by_cases c75 : a4 > 256
    ·rw [if_pos c75] at H
     have c75b0 : decide (256 < a4) = true := decide_eq_true c75
     clear c75
     have H' := Aside0.mk H
     clear H
     go_wp2
     go_meet
     case rel => exact ⟨_, (true), (by first | rfl | (simp; done) | (simp [*]; done)), H', ⟨by have := HJ8.out; first | omega | exact Nat.le_refl _⟩, ⟨(blk_far (blk_far (blk_far BK246.out NB246_264.out _) NB246_264.out _) NB246_264.out _)⟩, ⟨(blk_far (blk_far (blk_far BK247.out NB247_264.out _) NB247_264.out _) NB247_264.out _)⟩, ⟨(blk_far (blk_far (blk_far BK252.out NB252_264.out _) NB252_264.out _) NB252_264.out _)⟩, ⟨(blk_far (blk_far (blk_far BK256.out NB256_264.out _) NB256_264.out _) NB256_264.out _)⟩, ⟨(blk_far (blk_far (blk_far BK260.out NB260_264.out _) NB260_264.out _) NB260_264.out _)⟩, ⟨(blk_put (cs' := #[.int .i64 t261, .int .i64 t262, .int .i64 t263]) (blk_put (blk_put BK264.out 0 _ rfl) 1 _ rfl) 2 _ rfl)⟩, ⟨by first | exact (below_set (below_set (below_set HB.out GE264.out) GE264.out) GE264.out) | (repeat (first | exact (below_set (below_set (below_set HB.out GE264.out) GE264.out) GE264.out) | apply pw_below_drewN | apply below_drew1 | apply below_alloc))⟩⟩
    rw [if_neg c75] at H
    have c75b0 : decide (256 < a4) = false := decide_eq_false c75
    clear c75
    have H' := Aside0.mk H
    clear H
    go_wp2
    go_meet
    case rel => exact ⟨_, (decide ((wrap64 (a3 + a4)) > 256)), (by first | rfl | (simp; done) | (simp [*]; done)), H', ⟨by have := HJ8.out; first | omega | exact Nat.le_refl _⟩, ⟨(blk_far (blk_far (blk_far BK246.out NB246_264.out _) NB246_264.out _) NB246_264.out _)⟩, ⟨(blk_far (blk_far (blk_far BK247.out NB247_264.out _) NB247_264.out _) NB247_264.out _)⟩, ⟨(blk_far (blk_far (blk_far BK252.out NB252_264.out _) NB252_264.out _) NB252_264.out _)⟩, ⟨(blk_far (blk_far (blk_far BK256.out NB256_264.out _) NB256_264.out _) NB256_264.out _)⟩, ⟨(blk_far (blk_far (blk_far BK260.out NB260_264.out _) NB260_264.out _) NB260_264.out _)⟩, ⟨(blk_put (cs' := #[.int .i64 t261, .int .i64 t262, .int .i64 t263]) (blk_put (blk_put BK264.out 0 _ rfl) 1 _ rfl) 2 _ rfl)⟩, ⟨by first | exact (below_set (below_set (below_set HB.out GE264.out) GE264.out) GE264.out) | (repeat (first | exact (below_set (below_set (below_set HB.out GE264.out) GE264.out) GE264.out) | apply pw_below_drewN | apply below_drew1 | apply below_alloc))⟩⟩
   clear HC38
   try clear c34
   try clear hcz39_0
   try clear hcz39_1
   try clear hcz39_2
   try clear hcz40_0
   try clear hcz40_1
   try clear hcz40_2
   try clear hcz41_0
   try clear hcz41_1
   try clear hcz41_2
   try clear hcz48_0
   try clear hcz48_1
   try clear hcz48_2
   try clear hcz49_0
   try clear hcz49_1
   try clear hcz49_2
   try clear hcz50_0
   try clear hcz50_1
   try clear hcz50_2
   try clear hcz51_0
   try clear hcz51_1
   try clear hcz51_2
   try clear hcz59_0
   try clear hcz59_1
   try clear hcz59_2
   try clear hcz60_0
   try clear hcz60_1
   try clear hcz60_2
   try clear hcz61_0
   try clear hcz61_1
   try clear hcz61_2
   try clear hcz62_0
   try clear hcz62_1
   try clear hcz62_2
   try clear hcz71_0
   try clear hcz71_1
   try clear hcz71_2
   try clear hfz48_0
   try clear hfz48_1
   try clear hfz48_2
   try clear hfz59_0
   try clear hfz59_1
   try clear hfz59_2
   try clear hfz71_0
   try clear hfz71_1
   try clear hfz71_2
   obtain ⟨kq, x84_37, rfl, HA, HJ37, BK246, BK247, BK252, BK256, BK260, BK264, HB⟩ := hcut
   cases kq with
   | zero => exact absurd HA.out (by simp [relievolaw19_LightBlend.j1])
   | succ kj37 =>
    have H := HA.out
    clear HA
    simp only [relievolaw19_LightBlend.j1] at H
    by_cases c76 : x84_37 = true
    ·subst c76
     have H1 : (some (t249 == 0 && (t250 == 0 && (t251 == 0)))) = some r := by rw [if_pos rfl] at H; exact H
     clear H
     have H := H1
     clear H1
     obtain rfl := Option.some.inj H
     obtain ⟨hcz77_0, hcz77_1, hcz77_2⟩ := cells3 BK252.out
     go_wp2
     go_ret
     exact ⟨by first | rfl | (simp [errW_none, errW_some] <;> rfl) | (simp [*, errW_none, errW_some] <;> rfl), by first | exact HB.out | (repeat (first | exact HB.out | apply pw_below_drewN | apply below_drew1 | apply below_alloc))⟩
    replace c76 := Bool.eq_false_iff.mpr c76
    subst c76
    have H1 : (if t249 ≥ (mn (mn t253 t257) t261) then (if t249 ≤ (mx (mx t253 t257) t261) then ((light_Blend.f t253 t254 t255 a1_0 a1_1 a1_2 a2_0 a2_1 a2_2 0 0).bind fun bt265 => (if (t253 == bt265.1 && (t254 == bt265.2.1 && (t255 == bt265.2.2))) = true then ((relievoref02_Round.f kj37 t257 1).bind fun t268 => (some (t268 == (mn (mx a1_0 0) 255)))) else (some false))) else (some false)) else (some false)) = some r := by rw [if_neg (show ¬ (false = true) by decide)] at H; exact H
    clear H
    have H := H1
    clear H1
    obtain ⟨ji78, hji78⟩ : ∃ j_ : Int, (mn t253 t257) = j_ := ⟨_, rfl⟩
    replace H : (if t249 ≥ (mn (ji78) t261) then (if t249 ≤ (mx (mx t253 t257) t261) then ((light_Blend.f t253 t254 t255 a1_0 a1_1 a1_2 a2_0 a2_1 a2_2 0 0).bind fun bt265 => (if (t253 == bt265.1 && (t254 == bt265.2.1 && (t255 == bt265.2.2))) = true then ((relievoref02_Round.f kj37 t257 1).bind fun t268 => (some (t268 == (mn (mx a1_0 0) 255)))) else (some false))) else (some false)) else (some false)) = some r := by first | (rw [hji78] at H; exact H) | (simp only [hji78] at H ⊢; exact H)
    have hji78_ : (if t257 < t253 then t257 else t253) = ji78 := hji78
    obtain ⟨ji79, hji79⟩ : ∃ j_ : Int, (mn (ji78) t261) = j_ := ⟨_, rfl⟩
    replace H : (if t249 ≥ (ji79) then (if t249 ≤ (mx (mx t253 t257) t261) then ((light_Blend.f t253 t254 t255 a1_0 a1_1 a1_2 a2_0 a2_1 a2_2 0 0).bind fun bt265 => (if (t253 == bt265.1 && (t254 == bt265.2.1 && (t255 == bt265.2.2))) = true then ((relievoref02_Round.f kj37 t257 1).bind fun t268 => (some (t268 == (mn (mx a1_0 0) 255)))) else (some false))) else (some false)) else (some false)) = some r := by first | (rw [hji79] at H; exact H) | (simp only [hji79] at H ⊢; exact H)
    have hji79_ : (if t261 < (ji78) then t261 else (ji78)) = ji79 := hji79
    obtain ⟨ji80, hji80⟩ : ∃ j_ : Int, (mx t253 t257) = j_ := ⟨_, rfl⟩
    replace H : (if t249 ≥ (ji79) then (if t249 ≤ (mx (ji80) t261) then ((light_Blend.f t253 t254 t255 a1_0 a1_1 a1_2 a2_0 a2_1 a2_2 0 0).bind fun bt265 => (if (t253 == bt265.1 && (t254 == bt265.2.1 && (t255 == bt265.2.2))) = true then ((relievoref02_Round.f kj37 t257 1).bind fun t268 => (some (t268 == (mn (mx a1_0 0) 255)))) else (some false))) else (some false)) else (some false)) = some r := by first | (rw [hji80] at H; exact H) | (simp only [hji80] at H ⊢; exact H)
    have hji80_ : (if t253 < t257 then t257 else t253) = ji80 := hji80
    obtain ⟨ji81, hji81⟩ : ∃ j_ : Int, (mx (ji80) t261) = j_ := ⟨_, rfl⟩
    replace H : (if t249 ≥ (ji79) then (if t249 ≤ (ji81) then ((light_Blend.f t253 t254 t255 a1_0 a1_1 a1_2 a2_0 a2_1 a2_2 0 0).bind fun bt265 => (if (t253 == bt265.1 && (t254 == bt265.2.1 && (t255 == bt265.2.2))) = true then ((relievoref02_Round.f kj37 t257 1).bind fun t268 => (some (t268 == (mn (mx a1_0 0) 255)))) else (some false))) else (some false)) else (some false)) = some r := by first | (rw [hji81] at H; exact H) | (simp only [hji81] at H ⊢; exact H)
    have hji81_ : (if (ji80) < t261 then t261 else (ji80)) = ji81 := hji81
    by_cases c82 : t249 ≥ (ji79)
    ·rw [if_pos c82] at H
     have c82b0 : decide ((ji79) ≤ t249) = true := decide_eq_true c82
     clear c82
     by_cases c83 : t249 ≤ (ji81)
     ·rw [if_pos c83] at H
      have c83b0 : decide (t249 ≤ (ji81)) = true := decide_eq_true c83
      clear c83
      replace H := Option.bind_eq_some_iff.mp H
      obtain ⟨⟨t265, t266, t267⟩, A840, H⟩ := H
      replace H : (if (t253 == t265 && (t254 == t266 && (t255 == t267))) = true then ((relievoref02_Round.f kj37 t257 1).bind fun t268 => (some (t268 == (mn (mx a1_0 0) 255)))) else (some false)) = some r := H
      have A84 := Aside0.mk A840
      clear A840
      by_cases c85 : (t253 == t265 && (t254 == t266 && (t255 == t267))) = true
      ·rw [if_pos c85] at H
       have c85b0 : (t253 == t265 && (t254 == t266 && (t255 == t267))) = true := c85
       (try (have c85b1 : decide (t253 = t265 && (t254 == t266 && (t255 == t267))) = true := by simpa using c85))
       (try (have c85b2 : (t253 == t265 && (t254 == t266 && (t255 == t267))) = true := by simpa using c85))
       clear c85
       replace H := Option.bind_eq_some_iff.mp H
       obtain ⟨t268, A860, H⟩ := H
       replace H : (some (t268 == (mn (mx a1_0 0) 255))) = some r := H
       have A86 := Aside0.mk A860
       clear A860
       obtain ⟨ji87, hji87⟩ : ∃ j_ : Int, (mx a1_0 0) = j_ := ⟨_, rfl⟩
       replace H : (some (t268 == (mn (ji87) 255))) = some r := by first | (rw [hji87] at H; exact H) | (simp only [hji87] at H ⊢; exact H)
       (try rw [hji87] at A84)
       (try rw [hji87] at A86)
       have hji87_ : (if a1_0 < 0 then 0 else a1_0) = ji87 := hji87
       obtain ⟨ji88, hji88⟩ : ∃ j_ : Int, (mn (ji87) 255) = j_ := ⟨_, rfl⟩
       replace H : (some (t268 == (ji88))) = some r := by first | (rw [hji88] at H; exact H) | (simp only [hji88] at H ⊢; exact H)
       (try rw [hji88] at A84)
       (try rw [hji88] at A86)
       have hji88_ : (if 255 < (ji87) then 255 else (ji87)) = ji88 := hji88
       obtain rfl := Option.some.inj H
       obtain ⟨hcz89_0, hcz89_1, hcz89_2⟩ := cells3 BK256.out
       obtain ⟨hcz90_0, hcz90_1, hcz90_2⟩ := cells3 BK260.out
       obtain ⟨hcz91_0, hcz91_1, hcz91_2⟩ := cells3 BK264.out
       try go_wp2
       replace BK246 := Aside0.mk (blk_drew BK246.out)
       replace BK247 := Aside0.mk (blk_drew BK247.out)
       replace BK252 := Aside0.mk (blk_drew BK252.out)
       replace BK256 := Aside0.mk (blk_drew BK256.out)
       replace BK260 := Aside0.mk (blk_drew BK260.out)
       replace HB := Aside0.mk (below_drew1 HB.out)
       refine start_ (n := 29) (S := fun w' => w'.cell? ⟨gb252, 0, none⟩ = some (.int .i64 t249) ∧ w'.cell? ⟨gb252, 1, none⟩ = some (.int .i64 t250) ∧ w'.cell? ⟨gb252, 2, none⟩ = some (.int .i64 t251) ∧ w'.cell? ⟨gb256, 0, none⟩ = some (.int .i64 t253) ∧ w'.cell? ⟨gb256, 1, none⟩ = some (.int .i64 t254) ∧ w'.cell? ⟨gb256, 2, none⟩ = some (.int .i64 t255) ∧ w'.cell? ⟨gb246, 0, none⟩ = some (.int .i64 a1_0) ∧ w'.cell? ⟨gb246, 1, none⟩ = some (.int .i64 a1_1) ∧ w'.cell? ⟨gb246, 2, none⟩ = some (.int .i64 a1_2) ∧ w'.cell? ⟨gb247, 0, none⟩ = some (.int .i64 a2_0) ∧ w'.cell? ⟨gb247, 1, none⟩ = some (.int .i64 a2_1) ∧ w'.cell? ⟨gb247, 2, none⟩ = some (.int .i64 a2_2) ∧ w'.cell? ⟨gb260, 0, none⟩ = some (.int .i64 t257) ∧ w'.cell? ⟨gb260, 1, none⟩ = some (.int .i64 t258) ∧ w'.cell? ⟨gb260, 2, none⟩ = some (.int .i64 t259)) (ds := []) #[false, false, false, false, false, false, false, false, false, false, false, false, false, false, false, false, false, false, false, false, false, false, false, false, false, false, false, false, false] (by kernel_rfl) rfl rfl ⟨(blk_cell BK252.out 0).trans rfl, (blk_cell BK252.out 1).trans rfl, (blk_cell BK252.out 2).trans rfl, (blk_cell BK256.out 0).trans rfl, (blk_cell BK256.out 1).trans rfl, (blk_cell BK256.out 2).trans rfl, (blk_cell BK246.out 0).trans rfl, (blk_cell BK246.out 1).trans rfl, (blk_cell BK246.out 2).trans rfl, (blk_cell BK247.out 0).trans rfl, (blk_cell BK247.out 1).trans rfl, (blk_cell BK247.out 2).trans rfl, (blk_cell BK260.out 0).trans rfl, (blk_cell BK260.out 1).trans rfl, (blk_cell BK260.out 2).trans rfl⟩ (fun hHeld => ?_); refine with_tabW relievolaw19_LightBlend.tab13 relievolaw19_LightBlend.bits13 (fun HT_ HW_ => ?_)
       generalize wc.drew = w92 at BK246 BK247 BK252 BK256 BK260 HB hHeld ⊢
       refine pure_ (i := 0) (N := some 102) (v := ?_) (a' := ?_) #[true, false, false, false, false, false, false, false, false, false, false, false, false, false, false, false, false, false, false, false, false, false, false, false, false, false, false, false, false] rfl rfl (any_of HT_.out (by kernel_rfl)) (fun _ _ _ h => h) (Or.inl ⟨by rfl, ?_⟩) ?_ ?_
       rotate_left
       ·intro w'
        go_simp
        with_reducible rfl
       rotate_left
       ·simp only [Act.put, List.setIfInBounds_toArray, List.set_cons_zero, List.set_cons_succ, i64_w, i32_w]
        rfl
       refine pure_ (i := 2) (N := some 104) (v := ?_) (a' := ?_) #[true, false, true, false, false, false, false, false, false, false, false, false, false, false, false, false, false, false, false, false, false, false, false, false, false, false, false, false, false] rfl rfl (any_of HT_.out (by kernel_rfl)) (fun _ _ _ h => h) (Or.inl ⟨by rfl, ?_⟩) ?_ ?_
       rotate_left
       ·intro w'
        go_simp
        with_reducible rfl
       rotate_left
       ·simp only [Act.put, List.setIfInBounds_toArray, List.set_cons_zero, List.set_cons_succ, i64_w, i32_w]
        rfl
       refine take_ (i := 1) (N := some 103) (v := ?_) (a' := ?_) #[true, true, true, false, false, false, false, false, false, false, false, false, false, false, false, false, false, false, false, false, false, false, false, false, false, false, false, false, false] rfl rfl (take_ofW HT_.out HW_.out (by kernel_rfl)) (fun _ _ _ h => h) (Or.inl ⟨by rfl, ?_⟩) hHeld ?_ ?_
       rotate_left
       ·rintro w' ⟨s0, s1, s2, s3, s4, s5, s6, s7, s8, s9, s10, s11, s12, s13, s14⟩
        go_simp
        with_reducible rfl
       rotate_left
       ·simp only [Act.put, List.setIfInBounds_toArray, List.set_cons_zero, List.set_cons_succ, i64_w, i32_w]
        rfl
       refine pure_ (i := 3) (N := some 105) (v := ?_) (a' := ?_) #[true, true, true, true, false, false, false, false, false, false, false, false, false, false, false, false, false, false, false, false, false, false, false, false, false, false, false, false, false] rfl rfl (any_of HT_.out (by kernel_rfl)) (fun _ _ _ h => h) (Or.inl ⟨by rfl, ?_⟩) ?_ ?_
       rotate_left
       ·intro w'
        go_simp
        with_reducible rfl
       rotate_left
       ·simp only [Act.put, List.setIfInBounds_toArray, List.set_cons_zero, List.set_cons_succ, i64_w, i32_w]
        rfl
       refine pure_ (i := 4) (N := some 106) (v := ?_) (a' := ?_) #[true, true, true, true, true, false, false, false, false, false, false, false, false, false, false, false, false, false, false, false, false, false, false, false, false, false, false, false, false] rfl rfl (any_of HT_.out (by kernel_rfl)) (fun _ _ _ h => h) (Or.inl ⟨by rfl, ?_⟩) ?_ ?_
       rotate_left
       ·intro w'
        go_simp
        with_reducible rfl
       rotate_left
       ·simp only [Act.put, List.setIfInBounds_toArray, List.set_cons_zero, List.set_cons_succ, i64_w, i32_w]
        rfl
       refine pure_ (i := 5) (N := some 107) (v := ?_) (a' := ?_) #[true, true, true, true, true, true, false, false, false, false, false, false, false, false, false, false, false, false, false, false, false, false, false, false, false, false, false, false, false] rfl rfl (any_of HT_.out (by kernel_rfl)) (fun _ _ _ h => h) (Or.inl ⟨by rfl, ?_⟩) ?_ ?_
       rotate_left
       ·intro w'
        go_simp
        with_reducible rfl
       rotate_left
       ·simp only [Act.put, List.setIfInBounds_toArray, List.set_cons_zero, List.set_cons_succ, i64_w, i32_w]
        rfl
       refine pure_ (i := 7) (N := some 109) (v := ?_) (a' := ?_) #[true, true, true, true, true, true, false, true, false, false, false, false, false, false, false, false, false, false, false, false, false, false, false, false, false, false, false, false, false] rfl rfl (any_of HT_.out (by kernel_rfl)) (fun _ _ _ h => h) (Or.inl ⟨by rfl, ?_⟩) ?_ ?_
       rotate_left
       ·intro w'
        go_simp
        with_reducible rfl
       rotate_left
       ·simp only [Act.put, List.setIfInBounds_toArray, List.set_cons_zero, List.set_cons_succ, i64_w, i32_w]
        rfl
       refine take_ (i := 6) (N := some 108) (v := ?_) (a' := ?_) #[true, true, true, true, true, true, true, true, false, false, false, false, false, false, false, false, false, false, false, false, false, false, false, false, false, false, false, false, false] rfl rfl (take_ofW HT_.out HW_.out (by kernel_rfl)) (fun _ _ _ h => h) (Or.inl ⟨by rfl, ?_⟩) hHeld ?_ ?_
       rotate_left
       ·rintro w' ⟨s0, s1, s2, s3, s4, s5, s6, s7, s8, s9, s10, s11, s12, s13, s14⟩
        go_simp
        with_reducible rfl
       rotate_left
       ·simp only [Act.put, List.setIfInBounds_toArray, List.set_cons_zero, List.set_cons_succ, i64_w, i32_w]
        rfl
       refine pure_ (i := 8) (N := some 110) (v := ?_) (a' := ?_) #[true, true, true, true, true, true, true, true, true, false, false, false, false, false, false, false, false, false, false, false, false, false, false, false, false, false, false, false, false] rfl rfl (any_of HT_.out (by kernel_rfl)) (fun _ _ _ h => h) (Or.inl ⟨by rfl, ?_⟩) ?_ ?_
       rotate_left
       ·intro w'
        go_simp
        with_reducible rfl
       rotate_left
       ·simp only [Act.put, List.setIfInBounds_toArray, List.set_cons_zero, List.set_cons_succ, i64_w, i32_w]
        rfl
       refine pure_ (i := 9) (N := some 111) (v := ?_) (a' := ?_) #[true, true, true, true, true, true, true, true, true, true, false, false, false, false, false, false, false, false, false, false, false, false, false, false, false, false, false, false, false] rfl rfl (any_of HT_.out (by kernel_rfl)) (fun _ _ _ h => h) (Or.inl ⟨by rfl, ?_⟩) ?_ ?_
       rotate_left
       ·intro w'
        go_simp
        with_reducible rfl
       rotate_left
       ·simp only [Act.put, List.setIfInBounds_toArray, List.set_cons_zero, List.set_cons_succ, i64_w, i32_w]
        rfl
       refine pure_ (i := 10) (N := some 112) (v := ?_) (a' := ?_) #[true, true, true, true, true, true, true, true, true, true, true, false, false, false, false, false, false, false, false, false, false, false, false, false, false, false, false, false, false] rfl rfl (any_of HT_.out (by kernel_rfl)) (fun _ _ _ h => h) (Or.inl ⟨by rfl, ?_⟩) ?_ ?_
       rotate_left
       ·intro w'
        go_simp
        with_reducible rfl
       rotate_left
       ·simp only [Act.put, List.setIfInBounds_toArray, List.set_cons_zero, List.set_cons_succ, i64_w, i32_w]
        rfl
       refine take_ (i := 11) (N := some 113) (v := ?_) (a' := ?_) #[true, true, true, true, true, true, true, true, true, true, true, true, false, false, false, false, false, false, false, false, false, false, false, false, false, false, false, false, false] rfl rfl (take_ofW HT_.out HW_.out (by kernel_rfl)) (fun _ _ _ h => h) (Or.inl ⟨by rfl, ?_⟩) hHeld ?_ ?_
       rotate_left
       ·rintro w' ⟨s0, s1, s2, s3, s4, s5, s6, s7, s8, s9, s10, s11, s12, s13, s14⟩
        go_simp
        with_reducible rfl
       rotate_left
       ·simp only [Act.put, List.setIfInBounds_toArray, List.set_cons_zero, List.set_cons_succ, i64_w, i32_w]
        rfl
       refine take_ (i := 12) (N := some 114) (v := ?_) (a' := ?_) #[true, true, true, true, true, true, true, true, true, true, true, true, true, false, false, false, false, false, false, false, false, false, false, false, false, false, false, false, false] rfl rfl (take_ofW HT_.out HW_.out (by kernel_rfl)) (fun _ _ _ h => h) (Or.inl ⟨by rfl, ?_⟩) hHeld ?_ ?_
       rotate_left
       ·rintro w' ⟨s0, s1, s2, s3, s4, s5, s6, s7, s8, s9, s10, s11, s12, s13, s14⟩
        go_simp
        with_reducible rfl
       rotate_left
       ·simp only [Act.put, List.setIfInBounds_toArray, List.set_cons_zero, List.set_cons_succ, i64_w, i32_w]
        rfl
       refine take_ (i := 13) (N := some 115) (v := ?_) (a' := ?_) #[true, true, true, true, true, true, true, true, true, true, true, true, true, true, false, false, false, false, false, false, false, false, false, false, false, false, false, false, false] rfl rfl (take_ofW HT_.out HW_.out (by kernel_rfl)) (fun _ _ _ h => h) (Or.inl ⟨by rfl, ?_⟩) hHeld ?_ ?_
       rotate_left
       ·rintro w' ⟨s0, s1, s2, s3, s4, s5, s6, s7, s8, s9, s10, s11, s12, s13, s14⟩
        go_simp
        with_reducible rfl
       rotate_left
       ·simp only [Act.put, List.setIfInBounds_toArray, List.set_cons_zero, List.set_cons_succ, i64_w, i32_w]
        rfl
       refine take_ (i := 14) (N := some 116) (v := ?_) (a' := ?_) #[true, true, true, true, true, true, true, true, true, true, true, true, true, true, true, false, false, false, false, false, false, false, false, false, false, false, false, false, false] rfl rfl (take_ofW HT_.out HW_.out (by kernel_rfl)) (fun _ _ _ h => h) (Or.inl ⟨by rfl, ?_⟩) hHeld ?_ ?_
       rotate_left
       ·rintro w' ⟨s0, s1, s2, s3, s4, s5, s6, s7, s8, s9, s10, s11, s12, s13, s14⟩
        go_simp
        with_reducible rfl
       rotate_left
       ·simp only [Act.put, List.setIfInBounds_toArray, List.set_cons_zero, List.set_cons_succ, i64_w, i32_w]
        rfl
       refine one_ (i := 15) (N := some 117) #[true, true, true, true, true, true, true, true, true, true, true, true, true, true, true, true, false, false, false, false, false, false, false, false, false, false, false, false, false] rfl rfl (one_of HT_.out (by kernel_rfl)) (by decide) (fun K hK => ?_)
       refine goes_ Try.func24 (by kernel_rfl) rfl #[.agg #[.int .i64 t253, .int .i64 t254, .int .i64 t255], .agg #[.int .i64 a1_0, .int .i64 a1_1, .int .i64 a1_2], .agg #[.int .i64 a2_0, .int .i64 a2_1, .int .i64 a2_2], .int .i64 0, .int .i64 0] (by rfl) rfl rfl (by (try simp only [List.map_toArray, List.map_cons, List.map_nil]); first | done | rfl | (simp only [List.length_drop, List.length_take]; rfl)) ?_
       with_reducible refine (light_Blend.calls t253 t254 t255 a1_0 a1_1 a1_2 a2_0 a2_1 a2_2 0 0 t265 t266 t267 _ A84.out).mono ?_
       rintro e w93 ⟨rfl, hb⟩
       refine ⟨_, rfl, ?_⟩
       replace BK246 := cB hb BK246
       replace BK247 := cB hb BK247
       replace BK252 := cB hb BK252
       replace BK256 := cB hb BK256
       replace BK260 := cB hb BK260
       replace HB := Aside0.mk (below_step (by first | exact HB.out | (repeat (first | exact HB.out | apply pw_below_drewN | apply below_drew1 | apply below_alloc))) hb)
       (try clear hb)
       (try clear hb2)
       (try clear hk)
       (try clear hi)
       refine hK.out _ _ ⟨(blk_cell BK252.out 0).trans rfl, (blk_cell BK252.out 1).trans rfl, (blk_cell BK252.out 2).trans rfl, (blk_cell BK256.out 0).trans rfl, (blk_cell BK256.out 1).trans rfl, (blk_cell BK256.out 2).trans rfl, (blk_cell BK246.out 0).trans rfl, (blk_cell BK246.out 1).trans rfl, (blk_cell BK246.out 2).trans rfl, (blk_cell BK247.out 0).trans rfl, (blk_cell BK247.out 1).trans rfl, (blk_cell BK247.out 2).trans rfl, (blk_cell BK260.out 0).trans rfl, (blk_cell BK260.out 1).trans rfl, (blk_cell BK260.out 2).trans rfl⟩ (fun hHeld => ?_)
       clear hK K
       refine norm_ (a' := ?_) ?_ ?_
       rotate_left
       ·show Act.put _ (some 117) _ = _
        simp only [Act.put, List.setIfInBounds_toArray, List.set_cons_zero, List.set_cons_succ, i64_w, i32_w]
        rfl
       refine pure_ (i := 16) (N := some 118) (v := ?_) (a' := ?_) #[true, true, true, true, true, true, true, true, true, true, true, true, true, true, true, true, true, false, false, false, false, false, false, false, false, false, false, false, false] rfl rfl (any_of HT_.out (by kernel_rfl)) (fun _ _ _ h => h) (Or.inl ⟨by rfl, ?_⟩) ?_ ?_
       rotate_left
       ·intro w'
        go_simp
        with_reducible rfl
       rotate_left
       ·simp only [Act.put, List.setIfInBounds_toArray, List.set_cons_zero, List.set_cons_succ, i64_w, i32_w]
        rfl
       refine pure_ (i := 17) (N := some 119) (v := ?_) (a' := ?_) #[true, true, true, true, true, true, true, true, true, true, true, true, true, true, true, true, true, true, false, false, false, false, false, false, false, false, false, false, false] rfl rfl (any_of HT_.out (by kernel_rfl)) (fun _ _ _ h => h) (Or.inl ⟨by rfl, ?_⟩) ?_ ?_
       rotate_left
       ·intro w'
        go_simp
        with_reducible rfl
       rotate_left
       ·simp only [Act.put, List.setIfInBounds_toArray, List.set_cons_zero, List.set_cons_succ, i64_w, i32_w]
        rfl
       refine pure_ (i := 18) (N := some 120) (v := ?_) (a' := ?_) #[true, true, true, true, true, true, true, true, true, true, true, true, true, true, true, true, true, true, true, false, false, false, false, false, false, false, false, false, false] rfl rfl (any_of HT_.out (by kernel_rfl)) (fun _ _ _ h => h) (Or.inl ⟨by rfl, ?_⟩) ?_ ?_
       rotate_left
       ·intro w'
        go_simp
        with_reducible rfl
       rotate_left
       ·simp only [Act.put, List.setIfInBounds_toArray, List.set_cons_zero, List.set_cons_succ, i64_w, i32_w]
        rfl
       refine pure_ (i := 19) (N := some 121) (v := ?_) (a' := ?_) #[true, true, true, true, true, true, true, true, true, true, true, true, true, true, true, true, true, true, true, true, false, false, false, false, false, false, false, false, false] rfl rfl (any_of HT_.out (by kernel_rfl)) (fun _ _ _ h => h) (Or.inl ⟨by rfl, ?_⟩) ?_ ?_
       rotate_left
       ·intro w'
        go_simp
        with_reducible rfl
       rotate_left
       ·simp only [Act.put, List.setIfInBounds_toArray, List.set_cons_zero, List.set_cons_succ, i64_w, i32_w]
        rfl
       refine pure_ (i := 22) (N := some 124) (v := ?_) (a' := ?_) #[true, true, true, true, true, true, true, true, true, true, true, true, true, true, true, true, true, true, true, true, false, false, true, false, false, false, false, false, false] rfl rfl (any_of HT_.out (by kernel_rfl)) (fun _ _ _ h => h) (Or.inl ⟨by rfl, ?_⟩) ?_ ?_
       rotate_left
       ·intro w'
        go_simp
        with_reducible rfl
       rotate_left
       ·simp only [Act.put, List.setIfInBounds_toArray, List.set_cons_zero, List.set_cons_succ, i64_w, i32_w]
        rfl
       refine take_ (i := 20) (N := some 122) (v := ?_) (a' := ?_) #[true, true, true, true, true, true, true, true, true, true, true, true, true, true, true, true, true, true, true, true, true, false, true, false, false, false, false, false, false] rfl rfl (take_ofW HT_.out HW_.out (by kernel_rfl)) (fun _ _ _ h => h) (Or.inl ⟨by rfl, ?_⟩) hHeld ?_ ?_
       rotate_left
       ·rintro w' ⟨s0, s1, s2, s3, s4, s5, s6, s7, s8, s9, s10, s11, s12, s13, s14⟩
        go_simp
        with_reducible rfl
       rotate_left
       ·simp only [Act.put, List.setIfInBounds_toArray, List.set_cons_zero, List.set_cons_succ, i64_w, i32_w]
        rfl
       refine take_ (i := 23) (N := some 125) (v := ?_) (a' := ?_) #[true, true, true, true, true, true, true, true, true, true, true, true, true, true, true, true, true, true, true, true, true, false, true, true, false, false, false, false, false] rfl rfl (take_ofW HT_.out HW_.out (by kernel_rfl)) (fun _ _ _ h => h) (Or.inl ⟨by rfl, ?_⟩) hHeld ?_ ?_
       rotate_left
       ·rintro w' ⟨s0, s1, s2, s3, s4, s5, s6, s7, s8, s9, s10, s11, s12, s13, s14⟩
        go_simp
        with_reducible rfl
       rotate_left
       ·simp only [Act.put, List.setIfInBounds_toArray, List.set_cons_zero, List.set_cons_succ, i64_w, i32_w]
        rfl
       refine pure_ (i := 24) (N := some 126) (v := ?_) (a' := ?_) #[true, true, true, true, true, true, true, true, true, true, true, true, true, true, true, true, true, true, true, true, true, false, true, true, true, false, false, false, false] rfl rfl (any_of HT_.out (by kernel_rfl)) (fun _ _ _ h => h) (Or.inl ⟨by rfl, ?_⟩) ?_ ?_
       rotate_left
       ·intro w'
        go_simp
        with_reducible rfl
       rotate_left
       ·simp only [Act.put, List.setIfInBounds_toArray, List.set_cons_zero, List.set_cons_succ, i64_w, i32_w]
        rfl
       refine pure_ (i := 25) (N := some 127) (v := ?_) (a' := ?_) #[true, true, true, true, true, true, true, true, true, true, true, true, true, true, true, true, true, true, true, true, true, false, true, true, true, true, false, false, false] rfl rfl (any_of HT_.out (by kernel_rfl)) (fun _ _ _ h => h) (Or.inl ⟨by rfl, ?_⟩) ?_ ?_
       rotate_left
       ·intro w'
        go_simp
        with_reducible rfl
       rotate_left
       ·simp only [Act.put, List.setIfInBounds_toArray, List.set_cons_zero, List.set_cons_succ, i64_w, i32_w]
        rfl
       refine one_ (i := 21) (N := some 123) #[true, true, true, true, true, true, true, true, true, true, true, true, true, true, true, true, true, true, true, true, true, true, true, true, true, true, false, false, false] rfl rfl (one_of HT_.out (by kernel_rfl)) (by decide) (fun K hK => ?_)
       refine goes_ Try.func26 (by kernel_rfl) rfl #[.int .i64 t257, .int .i64 1] (by rfl) rfl rfl (by (try simp only [List.map_toArray, List.map_cons, List.map_nil]); first | done | rfl | (simp only [List.length_drop, List.length_take]; rfl)) ?_
       with_reducible refine (relievoref02_Round.calls kj37 t257 1 t268 _ A86.out).mono ?_
       rintro e w' ⟨rfl, ⟨nd, rfl⟩⟩
       refine ⟨_, rfl, ?_⟩
       refine hK.out _ _ ⟨(blk_cell BK252.out 0).trans rfl, (blk_cell BK252.out 1).trans rfl, (blk_cell BK252.out 2).trans rfl, (blk_cell BK256.out 0).trans rfl, (blk_cell BK256.out 1).trans rfl, (blk_cell BK256.out 2).trans rfl, (blk_cell BK246.out 0).trans rfl, (blk_cell BK246.out 1).trans rfl, (blk_cell BK246.out 2).trans rfl, (blk_cell BK247.out 0).trans rfl, (blk_cell BK247.out 1).trans rfl, (blk_cell BK247.out 2).trans rfl, (blk_cell BK260.out 0).trans rfl, (blk_cell BK260.out 1).trans rfl, (blk_cell BK260.out 2).trans rfl⟩ (fun hHeld => ?_)
       clear hK K
       refine norm_ (a' := ?_) ?_ ?_
       rotate_left
       ·show Act.put _ (some 123) _ = _
        simp only [Act.put, List.setIfInBounds_toArray, List.set_cons_zero, List.set_cons_succ, i64_w, i32_w]
        rfl
       refine pure_ (i := 26) (N := some 128) (v := ?_) (a' := ?_) #[true, true, true, true, true, true, true, true, true, true, true, true, true, true, true, true, true, true, true, true, true, true, true, true, true, true, true, false, false] rfl rfl (any_of HT_.out (by kernel_rfl)) (fun _ _ _ h => h) (Or.inl ⟨by rfl, ?_⟩) ?_ ?_
       rotate_left
       ·intro w'
        go_simp
        with_reducible rfl
       rotate_left
       ·simp only [Act.put, List.setIfInBounds_toArray, List.set_cons_zero, List.set_cons_succ, i64_w, i32_w]
        rfl
       refine pure_ (i := 27) (N := some 129) (v := ?_) (a' := ?_) #[true, true, true, true, true, true, true, true, true, true, true, true, true, true, true, true, true, true, true, true, true, true, true, true, true, true, true, true, false] rfl rfl (any_of HT_.out (by kernel_rfl)) (fun _ _ _ h => h) (Or.inl ⟨by rfl, ?_⟩) ?_ ?_
       rotate_left
       ·intro w'
        go_simp
        with_reducible rfl
       rotate_left
       ·simp only [Act.put, List.setIfInBounds_toArray, List.set_cons_zero, List.set_cons_succ, i64_w, i32_w]
        rfl
       refine pure_ (i := 28) (N := some 10) (v := ?_) (a' := ?_) #[true, true, true, true, true, true, true, true, true, true, true, true, true, true, true, true, true, true, true, true, true, true, true, true, true, true, true, true, true] rfl rfl (any_of HT_.out (by kernel_rfl)) (fun _ _ _ h => h) (Or.inl ⟨by rfl, ?_⟩) ?_ ?_
       rotate_left
       ·intro w'
        go_simp
        with_reducible rfl
       rotate_left
       ·simp only [Act.put, List.setIfInBounds_toArray, List.set_cons_zero, List.set_cons_succ, i64_w, i32_w]
        rfl
       refine done_ (done_of HT_.out (by kernel_rfl)) ?_
       try go_wp2
       go_ret
       exact ⟨by first | rfl | (simp [errW_none, errW_some] <;> rfl) | (simp only [← hji78, ← hji79, ← hji80, ← hji81, ← hji87, ← hji88]; first | rfl | (simp [errW_none, errW_some] <;> rfl)) | (simp [*, errW_none, errW_some] <;> rfl), by first | exact HB.out | (repeat (first | exact HB.out | apply pw_below_drewN | apply below_drew1 | apply below_alloc))⟩
      rw [if_neg c85] at H
      have c85b0 : (t253 == t265 && (t254 == t266 && (t255 == t267))) = false := by simpa using c85
      (try (have c85b1 : decide (t253 = t265 && (t254 == t266 && (t255 == t267))) = false := by simpa using c85))
      (try (have c85b2 : (t253 == t265 && (t254 == t266 && (t255 == t267))) = false := by simpa using c85))
      (try (have c85b3 : ¬ (t253 = t265 && (t254 == t266 && (t255 == t267))) := by simpa using c85))
      clear c85
      obtain rfl := Option.some.inj H
      obtain ⟨hcz94_0, hcz94_1, hcz94_2⟩ := cells3 BK256.out
      obtain ⟨hcz95_0, hcz95_1, hcz95_2⟩ := cells3 BK260.out
      obtain ⟨hcz96_0, hcz96_1, hcz96_2⟩ := cells3 BK264.out
      try go_wp2
      replace BK246 := Aside0.mk (blk_drew BK246.out)
      replace BK247 := Aside0.mk (blk_drew BK247.out)
      replace BK252 := Aside0.mk (blk_drew BK252.out)
      replace BK256 := Aside0.mk (blk_drew BK256.out)
      replace BK260 := Aside0.mk (blk_drew BK260.out)
      replace HB := Aside0.mk (below_drew1 HB.out)
      refine start_ (n := 29) (S := fun w' => w'.cell? ⟨gb252, 0, none⟩ = some (.int .i64 t249) ∧ w'.cell? ⟨gb252, 1, none⟩ = some (.int .i64 t250) ∧ w'.cell? ⟨gb252, 2, none⟩ = some (.int .i64 t251) ∧ w'.cell? ⟨gb256, 0, none⟩ = some (.int .i64 t253) ∧ w'.cell? ⟨gb256, 1, none⟩ = some (.int .i64 t254) ∧ w'.cell? ⟨gb256, 2, none⟩ = some (.int .i64 t255) ∧ w'.cell? ⟨gb246, 0, none⟩ = some (.int .i64 a1_0) ∧ w'.cell? ⟨gb246, 1, none⟩ = some (.int .i64 a1_1) ∧ w'.cell? ⟨gb246, 2, none⟩ = some (.int .i64 a1_2) ∧ w'.cell? ⟨gb247, 0, none⟩ = some (.int .i64 a2_0) ∧ w'.cell? ⟨gb247, 1, none⟩ = some (.int .i64 a2_1) ∧ w'.cell? ⟨gb247, 2, none⟩ = some (.int .i64 a2_2)) (ds := []) #[false, false, false, false, false, false, false, false, false, false, false, false, false, false, false, false, false, false, false, false, false, false, false, false, false, false, false, false, false] (by kernel_rfl) rfl rfl ⟨(blk_cell BK252.out 0).trans rfl, (blk_cell BK252.out 1).trans rfl, (blk_cell BK252.out 2).trans rfl, (blk_cell BK256.out 0).trans rfl, (blk_cell BK256.out 1).trans rfl, (blk_cell BK256.out 2).trans rfl, (blk_cell BK246.out 0).trans rfl, (blk_cell BK246.out 1).trans rfl, (blk_cell BK246.out 2).trans rfl, (blk_cell BK247.out 0).trans rfl, (blk_cell BK247.out 1).trans rfl, (blk_cell BK247.out 2).trans rfl⟩ (fun hHeld => ?_); refine with_tabW relievolaw19_LightBlend.tab13 relievolaw19_LightBlend.bits13 (fun HT_ HW_ => ?_)
      generalize wc.drew = w97 at BK246 BK247 BK252 BK256 BK260 HB hHeld ⊢
      refine pure_ (i := 0) (N := some 102) (v := ?_) (a' := ?_) #[true, false, false, false, false, false, false, false, false, false, false, false, false, false, false, false, false, false, false, false, false, false, false, false, false, false, false, false, false] rfl rfl (any_of HT_.out (by kernel_rfl)) (fun _ _ _ h => h) (Or.inl ⟨by rfl, ?_⟩) ?_ ?_
      rotate_left
      ·intro w'
       go_simp
       with_reducible rfl
      rotate_left
      ·simp only [Act.put, List.setIfInBounds_toArray, List.set_cons_zero, List.set_cons_succ, i64_w, i32_w]
       rfl
      refine pure_ (i := 2) (N := some 104) (v := ?_) (a' := ?_) #[true, false, true, false, false, false, false, false, false, false, false, false, false, false, false, false, false, false, false, false, false, false, false, false, false, false, false, false, false] rfl rfl (any_of HT_.out (by kernel_rfl)) (fun _ _ _ h => h) (Or.inl ⟨by rfl, ?_⟩) ?_ ?_
      rotate_left
      ·intro w'
       go_simp
       with_reducible rfl
      rotate_left
      ·simp only [Act.put, List.setIfInBounds_toArray, List.set_cons_zero, List.set_cons_succ, i64_w, i32_w]
       rfl
      refine take_ (i := 1) (N := some 103) (v := ?_) (a' := ?_) #[true, true, true, false, false, false, false, false, false, false, false, false, false, false, false, false, false, false, false, false, false, false, false, false, false, false, false, false, false] rfl rfl (take_ofW HT_.out HW_.out (by kernel_rfl)) (fun _ _ _ h => h) (Or.inl ⟨by rfl, ?_⟩) hHeld ?_ ?_
      rotate_left
      ·rintro w' ⟨s0, s1, s2, s3, s4, s5, s6, s7, s8, s9, s10, s11⟩
       go_simp
       with_reducible rfl
      rotate_left
      ·simp only [Act.put, List.setIfInBounds_toArray, List.set_cons_zero, List.set_cons_succ, i64_w, i32_w]
       rfl
      refine pure_ (i := 3) (N := some 105) (v := ?_) (a' := ?_) #[true, true, true, true, false, false, false, false, false, false, false, false, false, false, false, false, false, false, false, false, false, false, false, false, false, false, false, false, false] rfl rfl (any_of HT_.out (by kernel_rfl)) (fun _ _ _ h => h) (Or.inl ⟨by rfl, ?_⟩) ?_ ?_
      rotate_left
      ·intro w'
       go_simp
       with_reducible rfl
      rotate_left
      ·simp only [Act.put, List.setIfInBounds_toArray, List.set_cons_zero, List.set_cons_succ, i64_w, i32_w]
       rfl
      refine pure_ (i := 4) (N := some 106) (v := ?_) (a' := ?_) #[true, true, true, true, true, false, false, false, false, false, false, false, false, false, false, false, false, false, false, false, false, false, false, false, false, false, false, false, false] rfl rfl (any_of HT_.out (by kernel_rfl)) (fun _ _ _ h => h) (Or.inl ⟨by rfl, ?_⟩) ?_ ?_
      rotate_left
      ·intro w'
       go_simp
       with_reducible rfl
      rotate_left
      ·simp only [Act.put, List.setIfInBounds_toArray, List.set_cons_zero, List.set_cons_succ, i64_w, i32_w]
       rfl
      refine pure_ (i := 5) (N := some 107) (v := ?_) (a' := ?_) #[true, true, true, true, true, true, false, false, false, false, false, false, false, false, false, false, false, false, false, false, false, false, false, false, false, false, false, false, false] rfl rfl (any_of HT_.out (by kernel_rfl)) (fun _ _ _ h => h) (Or.inl ⟨by rfl, ?_⟩) ?_ ?_
      rotate_left
      ·intro w'
       go_simp
       with_reducible rfl
      rotate_left
      ·simp only [Act.put, List.setIfInBounds_toArray, List.set_cons_zero, List.set_cons_succ, i64_w, i32_w]
       rfl
      refine pure_ (i := 7) (N := some 109) (v := ?_) (a' := ?_) #[true, true, true, true, true, true, false, true, false, false, false, false, false, false, false, false, false, false, false, false, false, false, false, false, false, false, false, false, false] rfl rfl (any_of HT_.out (by kernel_rfl)) (fun _ _ _ h => h) (Or.inl ⟨by rfl, ?_⟩) ?_ ?_
      rotate_left
      ·intro w'
       go_simp
       with_reducible rfl
      rotate_left
      ·simp only [Act.put, List.setIfInBounds_toArray, List.set_cons_zero, List.set_cons_succ, i64_w, i32_w]
       rfl
      refine take_ (i := 6) (N := some 108) (v := ?_) (a' := ?_) #[true, true, true, true, true, true, true, true, false, false, false, false, false, false, false, false, false, false, false, false, false, false, false, false, false, false, false, false, false] rfl rfl (take_ofW HT_.out HW_.out (by kernel_rfl)) (fun _ _ _ h => h) (Or.inl ⟨by rfl, ?_⟩) hHeld ?_ ?_
      rotate_left
      ·rintro w' ⟨s0, s1, s2, s3, s4, s5, s6, s7, s8, s9, s10, s11⟩
       go_simp
       with_reducible rfl
      rotate_left
      ·simp only [Act.put, List.setIfInBounds_toArray, List.set_cons_zero, List.set_cons_succ, i64_w, i32_w]
       rfl
      refine pure_ (i := 8) (N := some 110) (v := ?_) (a' := ?_) #[true, true, true, true, true, true, true, true, true, false, false, false, false, false, false, false, false, false, false, false, false, false, false, false, false, false, false, false, false] rfl rfl (any_of HT_.out (by kernel_rfl)) (fun _ _ _ h => h) (Or.inl ⟨by rfl, ?_⟩) ?_ ?_
      rotate_left
      ·intro w'
       go_simp
       with_reducible rfl
      rotate_left
      ·simp only [Act.put, List.setIfInBounds_toArray, List.set_cons_zero, List.set_cons_succ, i64_w, i32_w]
       rfl
      refine pure_ (i := 9) (N := some 111) (v := ?_) (a' := ?_) #[true, true, true, true, true, true, true, true, true, true, false, false, false, false, false, false, false, false, false, false, false, false, false, false, false, false, false, false, false] rfl rfl (any_of HT_.out (by kernel_rfl)) (fun _ _ _ h => h) (Or.inl ⟨by rfl, ?_⟩) ?_ ?_
      rotate_left
      ·intro w'
       go_simp
       with_reducible rfl
      rotate_left
      ·simp only [Act.put, List.setIfInBounds_toArray, List.set_cons_zero, List.set_cons_succ, i64_w, i32_w]
       rfl
      refine pure_ (i := 10) (N := some 112) (v := ?_) (a' := ?_) #[true, true, true, true, true, true, true, true, true, true, true, false, false, false, false, false, false, false, false, false, false, false, false, false, false, false, false, false, false] rfl rfl (any_of HT_.out (by kernel_rfl)) (fun _ _ _ h => h) (Or.inl ⟨by rfl, ?_⟩) ?_ ?_
      rotate_left
      ·intro w'
       go_simp
       with_reducible rfl
      rotate_left
      ·simp only [Act.put, List.setIfInBounds_toArray, List.set_cons_zero, List.set_cons_succ, i64_w, i32_w]
       rfl
      refine take_ (i := 11) (N := some 113) (v := ?_) (a' := ?_) #[true, true, true, true, true, true, true, true, true, true, true, true, false, false, false, false, false, false, false, false, false, false, false, false, false, false, false, false, false] rfl rfl (take_ofW HT_.out HW_.out (by kernel_rfl)) (fun _ _ _ h => h) (Or.inl ⟨by rfl, ?_⟩) hHeld ?_ ?_
      rotate_left
      ·rintro w' ⟨s0, s1, s2, s3, s4, s5, s6, s7, s8, s9, s10, s11⟩
       go_simp
       with_reducible rfl
      rotate_left
      ·simp only [Act.put, List.setIfInBounds_toArray, List.set_cons_zero, List.set_cons_succ, i64_w, i32_w]
       rfl
      refine take_ (i := 12) (N := some 114) (v := ?_) (a' := ?_) #[true, true, true, true, true, true, true, true, true, true, true, true, true, false, false, false, false, false, false, false, false, false, false, false, false, false, false, false, false] rfl rfl (take_ofW HT_.out HW_.out (by kernel_rfl)) (fun _ _ _ h => h) (Or.inl ⟨by rfl, ?_⟩) hHeld ?_ ?_
      rotate_left
      ·rintro w' ⟨s0, s1, s2, s3, s4, s5, s6, s7, s8, s9, s10, s11⟩
       go_simp
       with_reducible rfl
      rotate_left
      ·simp only [Act.put, List.setIfInBounds_toArray, List.set_cons_zero, List.set_cons_succ, i64_w, i32_w]
       rfl
      refine take_ (i := 13) (N := some 115) (v := ?_) (a' := ?_) #[true, true, true, true, true, true, true, true, true, true, true, true, true, true, false, false, false, false, false, false, false, false, false, false, false, false, false, false, false] rfl rfl (take_ofW HT_.out HW_.out (by kernel_rfl)) (fun _ _ _ h => h) (Or.inl ⟨by rfl, ?_⟩) hHeld ?_ ?_
      rotate_left
      ·rintro w' ⟨s0, s1, s2, s3, s4, s5, s6, s7, s8, s9, s10, s11⟩
       go_simp
       with_reducible rfl
      rotate_left
      ·simp only [Act.put, List.setIfInBounds_toArray, List.set_cons_zero, List.set_cons_succ, i64_w, i32_w]
       rfl
      refine take_ (i := 14) (N := some 116) (v := ?_) (a' := ?_) #[true, true, true, true, true, true, true, true, true, true, true, true, true, true, true, false, false, false, false, false, false, false, false, false, false, false, false, false, false] rfl rfl (take_ofW HT_.out HW_.out (by kernel_rfl)) (fun _ _ _ h => h) (Or.inl ⟨by rfl, ?_⟩) hHeld ?_ ?_
      rotate_left
      ·rintro w' ⟨s0, s1, s2, s3, s4, s5, s6, s7, s8, s9, s10, s11⟩
       go_simp
       with_reducible rfl
      rotate_left
      ·simp only [Act.put, List.setIfInBounds_toArray, List.set_cons_zero, List.set_cons_succ, i64_w, i32_w]
       rfl
      refine one_ (i := 15) (N := some 117) #[true, true, true, true, true, true, true, true, true, true, true, true, true, true, true, true, false, false, false, false, false, false, false, false, false, false, false, false, false] rfl rfl (one_of HT_.out (by kernel_rfl)) (by decide) (fun K hK => ?_)
      refine goes_ Try.func24 (by kernel_rfl) rfl #[.agg #[.int .i64 t253, .int .i64 t254, .int .i64 t255], .agg #[.int .i64 a1_0, .int .i64 a1_1, .int .i64 a1_2], .agg #[.int .i64 a2_0, .int .i64 a2_1, .int .i64 a2_2], .int .i64 0, .int .i64 0] (by rfl) rfl rfl (by (try simp only [List.map_toArray, List.map_cons, List.map_nil]); first | done | rfl | (simp only [List.length_drop, List.length_take]; rfl)) ?_
      with_reducible refine (light_Blend.calls t253 t254 t255 a1_0 a1_1 a1_2 a2_0 a2_1 a2_2 0 0 t265 t266 t267 _ A84.out).mono ?_
      rintro e w98 ⟨rfl, hb⟩
      refine ⟨_, rfl, ?_⟩
      replace BK246 := cB hb BK246
      replace BK247 := cB hb BK247
      replace BK252 := cB hb BK252
      replace BK256 := cB hb BK256
      replace BK260 := cB hb BK260
      replace HB := Aside0.mk (below_step (by first | exact HB.out | (repeat (first | exact HB.out | apply pw_below_drewN | apply below_drew1 | apply below_alloc))) hb)
      (try clear hb)
      (try clear hb2)
      (try clear hk)
      (try clear hi)
      refine hK.out _ _ ⟨(blk_cell BK252.out 0).trans rfl, (blk_cell BK252.out 1).trans rfl, (blk_cell BK252.out 2).trans rfl, (blk_cell BK256.out 0).trans rfl, (blk_cell BK256.out 1).trans rfl, (blk_cell BK256.out 2).trans rfl, (blk_cell BK246.out 0).trans rfl, (blk_cell BK246.out 1).trans rfl, (blk_cell BK246.out 2).trans rfl, (blk_cell BK247.out 0).trans rfl, (blk_cell BK247.out 1).trans rfl, (blk_cell BK247.out 2).trans rfl⟩ (fun hHeld => ?_)
      clear hK K
      refine norm_ (a' := ?_) ?_ ?_
      rotate_left
      ·show Act.put _ (some 117) _ = _
       simp only [Act.put, List.setIfInBounds_toArray, List.set_cons_zero, List.set_cons_succ, i64_w, i32_w]
       rfl
      refine pure_ (i := 16) (N := some 118) (v := ?_) (a' := ?_) #[true, true, true, true, true, true, true, true, true, true, true, true, true, true, true, true, true, false, false, false, false, false, false, false, false, false, false, false, false] rfl rfl (any_of HT_.out (by kernel_rfl)) (fun _ _ _ h => h) (Or.inl ⟨by rfl, ?_⟩) ?_ ?_
      rotate_left
      ·intro w'
       go_simp
       with_reducible rfl
      rotate_left
      ·simp only [Act.put, List.setIfInBounds_toArray, List.set_cons_zero, List.set_cons_succ, i64_w, i32_w]
       rfl
      refine pure_ (i := 17) (N := some 119) (v := ?_) (a' := ?_) #[true, true, true, true, true, true, true, true, true, true, true, true, true, true, true, true, true, true, false, false, false, false, false, false, false, false, false, false, false] rfl rfl (any_of HT_.out (by kernel_rfl)) (fun _ _ _ h => h) (Or.inl ⟨by rfl, ?_⟩) ?_ ?_
      rotate_left
      ·intro w'
       go_simp
       with_reducible rfl
      rotate_left
      ·simp only [Act.put, List.setIfInBounds_toArray, List.set_cons_zero, List.set_cons_succ, i64_w, i32_w]
       rfl
      refine pure_ (i := 18) (N := some 120) (v := ?_) (a' := ?_) #[true, true, true, true, true, true, true, true, true, true, true, true, true, true, true, true, true, true, true, false, false, false, false, false, false, false, false, false, false] rfl rfl (any_of HT_.out (by kernel_rfl)) (fun _ _ _ h => h) (Or.inl ⟨by rfl, ?_⟩) ?_ ?_
      rotate_left
      ·intro w'
       go_simp
       with_reducible rfl
      rotate_left
      ·simp only [Act.put, List.setIfInBounds_toArray, List.set_cons_zero, List.set_cons_succ, i64_w, i32_w]
       rfl
      refine pure_ (i := 19) (N := some 121) (v := undef) (a' := ?_) #[true, true, true, true, true, true, true, true, true, true, true, true, true, true, true, true, true, true, true, true, false, false, false, false, false, false, false, false, false] rfl rfl (any_of HT_.out (by kernel_rfl)) (fun _ _ _ h => h) (Or.inr ⟨by rfl, rfl⟩) ?_ ?_
      rotate_left
      ·simp only [Act.put, List.setIfInBounds_toArray, List.set_cons_zero, List.set_cons_succ, i64_w, i32_w]
       rfl
      refine pure_ (i := 20) (N := some 122) (v := undef) (a' := ?_) #[true, true, true, true, true, true, true, true, true, true, true, true, true, true, true, true, true, true, true, true, true, false, false, false, false, false, false, false, false] rfl rfl (any_of HT_.out (by kernel_rfl)) (fun _ _ _ h => h) (Or.inr ⟨by rfl, rfl⟩) ?_ ?_
      rotate_left
      ·simp only [Act.put, List.setIfInBounds_toArray, List.set_cons_zero, List.set_cons_succ, i64_w, i32_w]
       rfl
      refine pure_ (i := 21) (N := some 123) (v := undef) (a' := ?_) #[true, true, true, true, true, true, true, true, true, true, true, true, true, true, true, true, true, true, true, true, true, true, false, false, false, false, false, false, false] rfl rfl (any_of HT_.out (by kernel_rfl)) (fun _ _ _ h => h) (Or.inr ⟨by rfl, rfl⟩) ?_ ?_
      rotate_left
      ·simp only [Act.put, List.setIfInBounds_toArray, List.set_cons_zero, List.set_cons_succ, i64_w, i32_w]
       rfl
      refine pure_ (i := 22) (N := some 124) (v := undef) (a' := ?_) #[true, true, true, true, true, true, true, true, true, true, true, true, true, true, true, true, true, true, true, true, true, true, true, false, false, false, false, false, false] rfl rfl (any_of HT_.out (by kernel_rfl)) (fun _ _ _ h => h) (Or.inr ⟨by rfl, rfl⟩) ?_ ?_
      rotate_left
      ·simp only [Act.put, List.setIfInBounds_toArray, List.set_cons_zero, List.set_cons_succ, i64_w, i32_w]
       rfl
      refine pure_ (i := 23) (N := some 125) (v := undef) (a' := ?_) #[true, true, true, true, true, true, true, true, true, true, true, true, true, true, true, true, true, true, true, true, true, true, true, true, false, false, false, false, false] rfl rfl (any_of HT_.out (by kernel_rfl)) (fun _ _ _ h => h) (Or.inr ⟨by rfl, rfl⟩) ?_ ?_
      rotate_left
      ·simp only [Act.put, List.setIfInBounds_toArray, List.set_cons_zero, List.set_cons_succ, i64_w, i32_w]
       rfl
      refine pure_ (i := 24) (N := some 126) (v := undef) (a' := ?_) #[true, true, true, true, true, true, true, true, true, true, true, true, true, true, true, true, true, true, true, true, true, true, true, true, true, false, false, false, false] rfl rfl (any_of HT_.out (by kernel_rfl)) (fun _ _ _ h => h) (Or.inr ⟨by rfl, rfl⟩) ?_ ?_
      rotate_left
      ·simp only [Act.put, List.setIfInBounds_toArray, List.set_cons_zero, List.set_cons_succ, i64_w, i32_w]
       rfl
      refine pure_ (i := 25) (N := some 127) (v := undef) (a' := ?_) #[true, true, true, true, true, true, true, true, true, true, true, true, true, true, true, true, true, true, true, true, true, true, true, true, true, true, false, false, false] rfl rfl (any_of HT_.out (by kernel_rfl)) (fun _ _ _ h => h) (Or.inr ⟨by rfl, rfl⟩) ?_ ?_
      rotate_left
      ·simp only [Act.put, List.setIfInBounds_toArray, List.set_cons_zero, List.set_cons_succ, i64_w, i32_w]
       rfl
      refine pure_ (i := 26) (N := some 128) (v := undef) (a' := ?_) #[true, true, true, true, true, true, true, true, true, true, true, true, true, true, true, true, true, true, true, true, true, true, true, true, true, true, true, false, false] rfl rfl (any_of HT_.out (by kernel_rfl)) (fun _ _ _ h => h) (Or.inr ⟨by rfl, rfl⟩) ?_ ?_
      rotate_left
      ·simp only [Act.put, List.setIfInBounds_toArray, List.set_cons_zero, List.set_cons_succ, i64_w, i32_w]
       rfl
      refine pure_ (i := 27) (N := some 129) (v := ?_) (a' := ?_) #[true, true, true, true, true, true, true, true, true, true, true, true, true, true, true, true, true, true, true, true, true, true, true, true, true, true, true, true, false] rfl rfl (any_of HT_.out (by kernel_rfl)) (fun _ _ _ h => h) (Or.inl ⟨by rfl, ?_⟩) ?_ ?_
      rotate_left
      ·intro w'
       go_simp
       with_reducible rfl
      rotate_left
      ·simp only [Act.put, List.setIfInBounds_toArray, List.set_cons_zero, List.set_cons_succ, i64_w, i32_w]
       rfl
      refine pure_ (i := 28) (N := some 10) (v := ?_) (a' := ?_) #[true, true, true, true, true, true, true, true, true, true, true, true, true, true, true, true, true, true, true, true, true, true, true, true, true, true, true, true, true] rfl rfl (any_of HT_.out (by kernel_rfl)) (fun _ _ _ h => h) (Or.inl ⟨by rfl, ?_⟩) ?_ ?_
      rotate_left
      ·intro w'
       go_simp
       with_reducible rfl
      rotate_left
      ·simp only [Act.put, List.setIfInBounds_toArray, List.set_cons_zero, List.set_cons_succ, i64_w, i32_w]
       rfl
      refine done_ (done_of HT_.out (by kernel_rfl)) ?_
      try go_wp2
      go_ret
      exact ⟨by first | rfl | (simp [errW_none, errW_some] <;> rfl) | (simp only [← hji78, ← hji79, ← hji80, ← hji81]; first | rfl | (simp [errW_none, errW_some] <;> rfl)) | (simp [*, errW_none, errW_some] <;> rfl), by first | exact HB.out | (repeat (first | exact HB.out | apply pw_below_drewN | apply below_drew1 | apply below_alloc))⟩
     rw [if_neg c83] at H
     have c83b0 : decide (t249 ≤ (ji81)) = false := decide_eq_false c83
     clear c83
     obtain rfl := Option.some.inj H
     obtain ⟨hcz99_0, hcz99_1, hcz99_2⟩ := cells3 BK256.out
     obtain ⟨hcz100_0, hcz100_1, hcz100_2⟩ := cells3 BK260.out
     obtain ⟨hcz101_0, hcz101_1, hcz101_2⟩ := cells3 BK264.out
     try go_wp2
     replace BK246 := Aside0.mk (blk_drew BK246.out)
     replace BK247 := Aside0.mk (blk_drew BK247.out)
     replace BK252 := Aside0.mk (blk_drew BK252.out)
     replace BK256 := Aside0.mk (blk_drew BK256.out)
     replace BK260 := Aside0.mk (blk_drew BK260.out)
     replace HB := Aside0.mk (below_drew1 HB.out)
     refine start_ (n := 29) (S := fun w' => w'.cell? ⟨gb252, 0, none⟩ = some (.int .i64 t249) ∧ w'.cell? ⟨gb252, 1, none⟩ = some (.int .i64 t250) ∧ w'.cell? ⟨gb252, 2, none⟩ = some (.int .i64 t251)) (ds := []) #[false, false, false, false, false, false, false, false, false, false, false, false, false, false, false, false, false, false, false, false, false, false, false, false, false, false, false, false, false] (by kernel_rfl) rfl rfl ⟨(blk_cell BK252.out 0).trans rfl, (blk_cell BK252.out 1).trans rfl, (blk_cell BK252.out 2).trans rfl⟩ (fun hHeld => ?_); refine with_tabW relievolaw19_LightBlend.tab13 relievolaw19_LightBlend.bits13 (fun HT_ HW_ => ?_)
     generalize wc.drew = w102 at BK246 BK247 BK252 BK256 BK260 HB hHeld ⊢
     refine pure_ (i := 0) (N := some 102) (v := ?_) (a' := ?_) #[true, false, false, false, false, false, false, false, false, false, false, false, false, false, false, false, false, false, false, false, false, false, false, false, false, false, false, false, false] rfl rfl (any_of HT_.out (by kernel_rfl)) (fun _ _ _ h => h) (Or.inl ⟨by rfl, ?_⟩) ?_ ?_
     rotate_left
     ·intro w'
      go_simp
      with_reducible rfl
     rotate_left
     ·simp only [Act.put, List.setIfInBounds_toArray, List.set_cons_zero, List.set_cons_succ, i64_w, i32_w]
      rfl
     refine pure_ (i := 2) (N := some 104) (v := ?_) (a' := ?_) #[true, false, true, false, false, false, false, false, false, false, false, false, false, false, false, false, false, false, false, false, false, false, false, false, false, false, false, false, false] rfl rfl (any_of HT_.out (by kernel_rfl)) (fun _ _ _ h => h) (Or.inl ⟨by rfl, ?_⟩) ?_ ?_
     rotate_left
     ·intro w'
      go_simp
      with_reducible rfl
     rotate_left
     ·simp only [Act.put, List.setIfInBounds_toArray, List.set_cons_zero, List.set_cons_succ, i64_w, i32_w]
      rfl
     refine take_ (i := 1) (N := some 103) (v := ?_) (a' := ?_) #[true, true, true, false, false, false, false, false, false, false, false, false, false, false, false, false, false, false, false, false, false, false, false, false, false, false, false, false, false] rfl rfl (take_ofW HT_.out HW_.out (by kernel_rfl)) (fun _ _ _ h => h) (Or.inl ⟨by rfl, ?_⟩) hHeld ?_ ?_
     rotate_left
     ·rintro w' ⟨s0, s1, s2⟩
      go_simp
      with_reducible rfl
     rotate_left
     ·simp only [Act.put, List.setIfInBounds_toArray, List.set_cons_zero, List.set_cons_succ, i64_w, i32_w]
      rfl
     refine pure_ (i := 3) (N := some 105) (v := ?_) (a' := ?_) #[true, true, true, true, false, false, false, false, false, false, false, false, false, false, false, false, false, false, false, false, false, false, false, false, false, false, false, false, false] rfl rfl (any_of HT_.out (by kernel_rfl)) (fun _ _ _ h => h) (Or.inl ⟨by rfl, ?_⟩) ?_ ?_
     rotate_left
     ·intro w'
      go_simp
      with_reducible rfl
     rotate_left
     ·simp only [Act.put, List.setIfInBounds_toArray, List.set_cons_zero, List.set_cons_succ, i64_w, i32_w]
      rfl
     refine pure_ (i := 4) (N := some 106) (v := ?_) (a' := ?_) #[true, true, true, true, true, false, false, false, false, false, false, false, false, false, false, false, false, false, false, false, false, false, false, false, false, false, false, false, false] rfl rfl (any_of HT_.out (by kernel_rfl)) (fun _ _ _ h => h) (Or.inl ⟨by rfl, ?_⟩) ?_ ?_
     rotate_left
     ·intro w'
      go_simp
      with_reducible rfl
     rotate_left
     ·simp only [Act.put, List.setIfInBounds_toArray, List.set_cons_zero, List.set_cons_succ, i64_w, i32_w]
      rfl
     refine pure_ (i := 5) (N := some 107) (v := ?_) (a' := ?_) #[true, true, true, true, true, true, false, false, false, false, false, false, false, false, false, false, false, false, false, false, false, false, false, false, false, false, false, false, false] rfl rfl (any_of HT_.out (by kernel_rfl)) (fun _ _ _ h => h) (Or.inl ⟨by rfl, ?_⟩) ?_ ?_
     rotate_left
     ·intro w'
      go_simp
      with_reducible rfl
     rotate_left
     ·simp only [Act.put, List.setIfInBounds_toArray, List.set_cons_zero, List.set_cons_succ, i64_w, i32_w]
      rfl
     refine pure_ (i := 7) (N := some 109) (v := ?_) (a' := ?_) #[true, true, true, true, true, true, false, true, false, false, false, false, false, false, false, false, false, false, false, false, false, false, false, false, false, false, false, false, false] rfl rfl (any_of HT_.out (by kernel_rfl)) (fun _ _ _ h => h) (Or.inl ⟨by rfl, ?_⟩) ?_ ?_
     rotate_left
     ·intro w'
      go_simp
      with_reducible rfl
     rotate_left
     ·simp only [Act.put, List.setIfInBounds_toArray, List.set_cons_zero, List.set_cons_succ, i64_w, i32_w]
      rfl
     refine take_ (i := 6) (N := some 108) (v := ?_) (a' := ?_) #[true, true, true, true, true, true, true, true, false, false, false, false, false, false, false, false, false, false, false, false, false, false, false, false, false, false, false, false, false] rfl rfl (take_ofW HT_.out HW_.out (by kernel_rfl)) (fun _ _ _ h => h) (Or.inl ⟨by rfl, ?_⟩) hHeld ?_ ?_
     rotate_left
     ·rintro w' ⟨s0, s1, s2⟩
      go_simp
      with_reducible rfl
     rotate_left
     ·simp only [Act.put, List.setIfInBounds_toArray, List.set_cons_zero, List.set_cons_succ, i64_w, i32_w]
      rfl
     refine pure_ (i := 8) (N := some 110) (v := ?_) (a' := ?_) #[true, true, true, true, true, true, true, true, true, false, false, false, false, false, false, false, false, false, false, false, false, false, false, false, false, false, false, false, false] rfl rfl (any_of HT_.out (by kernel_rfl)) (fun _ _ _ h => h) (Or.inl ⟨by rfl, ?_⟩) ?_ ?_
     rotate_left
     ·intro w'
      go_simp
      with_reducible rfl
     rotate_left
     ·simp only [Act.put, List.setIfInBounds_toArray, List.set_cons_zero, List.set_cons_succ, i64_w, i32_w]
      rfl
     refine pure_ (i := 9) (N := some 111) (v := ?_) (a' := ?_) #[true, true, true, true, true, true, true, true, true, true, false, false, false, false, false, false, false, false, false, false, false, false, false, false, false, false, false, false, false] rfl rfl (any_of HT_.out (by kernel_rfl)) (fun _ _ _ h => h) (Or.inl ⟨by rfl, ?_⟩) ?_ ?_
     rotate_left
     ·intro w'
      go_simp
      with_reducible rfl
     rotate_left
     ·simp only [Act.put, List.setIfInBounds_toArray, List.set_cons_zero, List.set_cons_succ, i64_w, i32_w]
      rfl
     refine pure_ (i := 10) (N := some 112) (v := ?_) (a' := ?_) #[true, true, true, true, true, true, true, true, true, true, true, false, false, false, false, false, false, false, false, false, false, false, false, false, false, false, false, false, false] rfl rfl (any_of HT_.out (by kernel_rfl)) (fun _ _ _ h => h) (Or.inl ⟨by rfl, ?_⟩) ?_ ?_
     rotate_left
     ·intro w'
      go_simp
      with_reducible rfl
     rotate_left
     ·simp only [Act.put, List.setIfInBounds_toArray, List.set_cons_zero, List.set_cons_succ, i64_w, i32_w]
      rfl
     refine pure_ (i := 11) (N := some 113) (v := undef) (a' := ?_) #[true, true, true, true, true, true, true, true, true, true, true, true, false, false, false, false, false, false, false, false, false, false, false, false, false, false, false, false, false] rfl rfl (any_of HT_.out (by kernel_rfl)) (fun _ _ _ h => h) (Or.inr ⟨by rfl, rfl⟩) ?_ ?_
     rotate_left
     ·simp only [Act.put, List.setIfInBounds_toArray, List.set_cons_zero, List.set_cons_succ, i64_w, i32_w]
      rfl
     refine pure_ (i := 12) (N := some 114) (v := undef) (a' := ?_) #[true, true, true, true, true, true, true, true, true, true, true, true, true, false, false, false, false, false, false, false, false, false, false, false, false, false, false, false, false] rfl rfl (any_of HT_.out (by kernel_rfl)) (fun _ _ _ h => h) (Or.inr ⟨by rfl, rfl⟩) ?_ ?_
     rotate_left
     ·simp only [Act.put, List.setIfInBounds_toArray, List.set_cons_zero, List.set_cons_succ, i64_w, i32_w]
      rfl
     refine pure_ (i := 13) (N := some 115) (v := undef) (a' := ?_) #[true, true, true, true, true, true, true, true, true, true, true, true, true, true, false, false, false, false, false, false, false, false, false, false, false, false, false, false, false] rfl rfl (any_of HT_.out (by kernel_rfl)) (fun _ _ _ h => h) (Or.inr ⟨by rfl, rfl⟩) ?_ ?_
     rotate_left
     ·simp only [Act.put, List.setIfInBounds_toArray, List.set_cons_zero, List.set_cons_succ, i64_w, i32_w]
      rfl
     refine pure_ (i := 14) (N := some 116) (v := undef) (a' := ?_) #[true, true, true, true, true, true, true, true, true, true, true, true, true, true, true, false, false, false, false, false, false, false, false, false, false, false, false, false, false] rfl rfl (any_of HT_.out (by kernel_rfl)) (fun _ _ _ h => h) (Or.inr ⟨by rfl, rfl⟩) ?_ ?_
     rotate_left
     ·simp only [Act.put, List.setIfInBounds_toArray, List.set_cons_zero, List.set_cons_succ, i64_w, i32_w]
      rfl
     refine pure_ (i := 15) (N := some 117) (v := undef) (a' := ?_) #[true, true, true, true, true, true, true, true, true, true, true, true, true, true, true, true, false, false, false, false, false, false, false, false, false, false, false, false, false] rfl rfl (any_of HT_.out (by kernel_rfl)) (fun _ _ _ h => h) (Or.inr ⟨by rfl, rfl⟩) ?_ ?_
     rotate_left
     ·simp only [Act.put, List.setIfInBounds_toArray, List.set_cons_zero, List.set_cons_succ, i64_w, i32_w]
      rfl
     refine pure_ (i := 16) (N := some 118) (v := undef) (a' := ?_) #[true, true, true, true, true, true, true, true, true, true, true, true, true, true, true, true, true, false, false, false, false, false, false, false, false, false, false, false, false] rfl rfl (any_of HT_.out (by kernel_rfl)) (fun _ _ _ h => h) (Or.inr ⟨by rfl, rfl⟩) ?_ ?_
     rotate_left
     ·simp only [Act.put, List.setIfInBounds_toArray, List.set_cons_zero, List.set_cons_succ, i64_w, i32_w]
      rfl
     refine pure_ (i := 17) (N := some 119) (v := ?_) (a' := ?_) #[true, true, true, true, true, true, true, true, true, true, true, true, true, true, true, true, true, true, false, false, false, false, false, false, false, false, false, false, false] rfl rfl (any_of HT_.out (by kernel_rfl)) (fun _ _ _ h => h) (Or.inl ⟨by rfl, ?_⟩) ?_ ?_
     rotate_left
     ·intro w'
      go_simp
      with_reducible rfl
     rotate_left
     ·simp only [Act.put, List.setIfInBounds_toArray, List.set_cons_zero, List.set_cons_succ, i64_w, i32_w]
      rfl
     refine pure_ (i := 18) (N := some 120) (v := ?_) (a' := ?_) #[true, true, true, true, true, true, true, true, true, true, true, true, true, true, true, true, true, true, true, false, false, false, false, false, false, false, false, false, false] rfl rfl (any_of HT_.out (by kernel_rfl)) (fun _ _ _ h => h) (Or.inl ⟨by rfl, ?_⟩) ?_ ?_
     rotate_left
     ·intro w'
      go_simp
      with_reducible rfl
     rotate_left
     ·simp only [Act.put, List.setIfInBounds_toArray, List.set_cons_zero, List.set_cons_succ, i64_w, i32_w]
      rfl
     refine pure_ (i := 19) (N := some 121) (v := undef) (a' := ?_) #[true, true, true, true, true, true, true, true, true, true, true, true, true, true, true, true, true, true, true, true, false, false, false, false, false, false, false, false, false] rfl rfl (any_of HT_.out (by kernel_rfl)) (fun _ _ _ h => h) (Or.inr ⟨by rfl, rfl⟩) ?_ ?_
     rotate_left
     ·simp only [Act.put, List.setIfInBounds_toArray, List.set_cons_zero, List.set_cons_succ, i64_w, i32_w]
      rfl
     refine pure_ (i := 20) (N := some 122) (v := undef) (a' := ?_) #[true, true, true, true, true, true, true, true, true, true, true, true, true, true, true, true, true, true, true, true, true, false, false, false, false, false, false, false, false] rfl rfl (any_of HT_.out (by kernel_rfl)) (fun _ _ _ h => h) (Or.inr ⟨by rfl, rfl⟩) ?_ ?_
     rotate_left
     ·simp only [Act.put, List.setIfInBounds_toArray, List.set_cons_zero, List.set_cons_succ, i64_w, i32_w]
      rfl
     refine pure_ (i := 21) (N := some 123) (v := undef) (a' := ?_) #[true, true, true, true, true, true, true, true, true, true, true, true, true, true, true, true, true, true, true, true, true, true, false, false, false, false, false, false, false] rfl rfl (any_of HT_.out (by kernel_rfl)) (fun _ _ _ h => h) (Or.inr ⟨by rfl, rfl⟩) ?_ ?_
     rotate_left
     ·simp only [Act.put, List.setIfInBounds_toArray, List.set_cons_zero, List.set_cons_succ, i64_w, i32_w]
      rfl
     refine pure_ (i := 22) (N := some 124) (v := undef) (a' := ?_) #[true, true, true, true, true, true, true, true, true, true, true, true, true, true, true, true, true, true, true, true, true, true, true, false, false, false, false, false, false] rfl rfl (any_of HT_.out (by kernel_rfl)) (fun _ _ _ h => h) (Or.inr ⟨by rfl, rfl⟩) ?_ ?_
     rotate_left
     ·simp only [Act.put, List.setIfInBounds_toArray, List.set_cons_zero, List.set_cons_succ, i64_w, i32_w]
      rfl
     refine pure_ (i := 23) (N := some 125) (v := undef) (a' := ?_) #[true, true, true, true, true, true, true, true, true, true, true, true, true, true, true, true, true, true, true, true, true, true, true, true, false, false, false, false, false] rfl rfl (any_of HT_.out (by kernel_rfl)) (fun _ _ _ h => h) (Or.inr ⟨by rfl, rfl⟩) ?_ ?_
     rotate_left
     ·simp only [Act.put, List.setIfInBounds_toArray, List.set_cons_zero, List.set_cons_succ, i64_w, i32_w]
      rfl
     refine pure_ (i := 24) (N := some 126) (v := undef) (a' := ?_) #[true, true, true, true, true, true, true, true, true, true, true, true, true, true, true, true, true, true, true, true, true, true, true, true, true, false, false, false, false] rfl rfl (any_of HT_.out (by kernel_rfl)) (fun _ _ _ h => h) (Or.inr ⟨by rfl, rfl⟩) ?_ ?_
     rotate_left
     ·simp only [Act.put, List.setIfInBounds_toArray, List.set_cons_zero, List.set_cons_succ, i64_w, i32_w]
      rfl
     refine pure_ (i := 25) (N := some 127) (v := undef) (a' := ?_) #[true, true, true, true, true, true, true, true, true, true, true, true, true, true, true, true, true, true, true, true, true, true, true, true, true, true, false, false, false] rfl rfl (any_of HT_.out (by kernel_rfl)) (fun _ _ _ h => h) (Or.inr ⟨by rfl, rfl⟩) ?_ ?_
     rotate_left
     ·simp only [Act.put, List.setIfInBounds_toArray, List.set_cons_zero, List.set_cons_succ, i64_w, i32_w]
      rfl
     refine pure_ (i := 26) (N := some 128) (v := undef) (a' := ?_) #[true, true, true, true, true, true, true, true, true, true, true, true, true, true, true, true, true, true, true, true, true, true, true, true, true, true, true, false, false] rfl rfl (any_of HT_.out (by kernel_rfl)) (fun _ _ _ h => h) (Or.inr ⟨by rfl, rfl⟩) ?_ ?_
     rotate_left
     ·simp only [Act.put, List.setIfInBounds_toArray, List.set_cons_zero, List.set_cons_succ, i64_w, i32_w]
      rfl
     refine pure_ (i := 27) (N := some 129) (v := ?_) (a' := ?_) #[true, true, true, true, true, true, true, true, true, true, true, true, true, true, true, true, true, true, true, true, true, true, true, true, true, true, true, true, false] rfl rfl (any_of HT_.out (by kernel_rfl)) (fun _ _ _ h => h) (Or.inl ⟨by rfl, ?_⟩) ?_ ?_
     rotate_left
     ·intro w'
      go_simp
      with_reducible rfl
     rotate_left
     ·simp only [Act.put, List.setIfInBounds_toArray, List.set_cons_zero, List.set_cons_succ, i64_w, i32_w]
      rfl
     refine pure_ (i := 28) (N := some 10) (v := ?_) (a' := ?_) #[true, true, true, true, true, true, true, true, true, true, true, true, true, true, true, true, true, true, true, true, true, true, true, true, true, true, true, true, true] rfl rfl (any_of HT_.out (by kernel_rfl)) (fun _ _ _ h => h) (Or.inl ⟨by rfl, ?_⟩) ?_ ?_
     rotate_left
     ·intro w'
      go_simp
      with_reducible rfl
     rotate_left
     ·simp only [Act.put, List.setIfInBounds_toArray, List.set_cons_zero, List.set_cons_succ, i64_w, i32_w]
      rfl
     refine done_ (done_of HT_.out (by kernel_rfl)) ?_
     try go_wp2
     go_ret
     exact ⟨by first | rfl | (simp [errW_none, errW_some] <;> rfl) | (simp only [← hji78, ← hji79, ← hji80, ← hji81]; first | rfl | (simp [errW_none, errW_some] <;> rfl)) | (simp [*, errW_none, errW_some] <;> rfl), by first | exact HB.out | (repeat (first | exact HB.out | apply pw_below_drewN | apply below_drew1 | apply below_alloc))⟩
    rw [if_neg c82] at H
    have c82b0 : decide ((ji79) ≤ t249) = false := decide_eq_false c82
    clear c82
    obtain rfl := Option.some.inj H
    obtain ⟨hcz103_0, hcz103_1, hcz103_2⟩ := cells3 BK256.out
    obtain ⟨hcz104_0, hcz104_1, hcz104_2⟩ := cells3 BK260.out
    obtain ⟨hcz105_0, hcz105_1, hcz105_2⟩ := cells3 BK264.out
    try go_wp2
    replace BK246 := Aside0.mk (blk_drew BK246.out)
    replace BK247 := Aside0.mk (blk_drew BK247.out)
    replace BK252 := Aside0.mk (blk_drew BK252.out)
    replace BK256 := Aside0.mk (blk_drew BK256.out)
    replace BK260 := Aside0.mk (blk_drew BK260.out)
    replace HB := Aside0.mk (below_drew1 HB.out)
    refine start_ (n := 29) (S := fun w' => w'.cell? ⟨gb252, 0, none⟩ = some (.int .i64 t249) ∧ w'.cell? ⟨gb252, 1, none⟩ = some (.int .i64 t250) ∧ w'.cell? ⟨gb252, 2, none⟩ = some (.int .i64 t251)) (ds := []) #[false, false, false, false, false, false, false, false, false, false, false, false, false, false, false, false, false, false, false, false, false, false, false, false, false, false, false, false, false] (by kernel_rfl) rfl rfl ⟨(blk_cell BK252.out 0).trans rfl, (blk_cell BK252.out 1).trans rfl, (blk_cell BK252.out 2).trans rfl⟩ (fun hHeld => ?_); refine with_tabW relievolaw19_LightBlend.tab13 relievolaw19_LightBlend.bits13 (fun HT_ HW_ => ?_)
    generalize wc.drew = w106 at BK246 BK247 BK252 BK256 BK260 HB hHeld ⊢
    refine pure_ (i := 0) (N := some 102) (v := ?_) (a' := ?_) #[true, false, false, false, false, false, false, false, false, false, false, false, false, false, false, false, false, false, false, false, false, false, false, false, false, false, false, false, false] rfl rfl (any_of HT_.out (by kernel_rfl)) (fun _ _ _ h => h) (Or.inl ⟨by rfl, ?_⟩) ?_ ?_
    rotate_left
    ·intro w'
     go_simp
     with_reducible rfl
    rotate_left
    ·simp only [Act.put, List.setIfInBounds_toArray, List.set_cons_zero, List.set_cons_succ, i64_w, i32_w]
     rfl
    refine pure_ (i := 2) (N := some 104) (v := ?_) (a' := ?_) #[true, false, true, false, false, false, false, false, false, false, false, false, false, false, false, false, false, false, false, false, false, false, false, false, false, false, false, false, false] rfl rfl (any_of HT_.out (by kernel_rfl)) (fun _ _ _ h => h) (Or.inl ⟨by rfl, ?_⟩) ?_ ?_
    rotate_left
    ·intro w'
     go_simp
     with_reducible rfl
    rotate_left
    ·simp only [Act.put, List.setIfInBounds_toArray, List.set_cons_zero, List.set_cons_succ, i64_w, i32_w]
     rfl
    refine take_ (i := 1) (N := some 103) (v := ?_) (a' := ?_) #[true, true, true, false, false, false, false, false, false, false, false, false, false, false, false, false, false, false, false, false, false, false, false, false, false, false, false, false, false] rfl rfl (take_ofW HT_.out HW_.out (by kernel_rfl)) (fun _ _ _ h => h) (Or.inl ⟨by rfl, ?_⟩) hHeld ?_ ?_
    rotate_left
    ·rintro w' ⟨s0, s1, s2⟩
     go_simp
     with_reducible rfl
    rotate_left
    ·simp only [Act.put, List.setIfInBounds_toArray, List.set_cons_zero, List.set_cons_succ, i64_w, i32_w]
     rfl
    refine pure_ (i := 3) (N := some 105) (v := ?_) (a' := ?_) #[true, true, true, true, false, false, false, false, false, false, false, false, false, false, false, false, false, false, false, false, false, false, false, false, false, false, false, false, false] rfl rfl (any_of HT_.out (by kernel_rfl)) (fun _ _ _ h => h) (Or.inl ⟨by rfl, ?_⟩) ?_ ?_
    rotate_left
    ·intro w'
     go_simp
     with_reducible rfl
    rotate_left
    ·simp only [Act.put, List.setIfInBounds_toArray, List.set_cons_zero, List.set_cons_succ, i64_w, i32_w]
     rfl
    refine pure_ (i := 4) (N := some 106) (v := ?_) (a' := ?_) #[true, true, true, true, true, false, false, false, false, false, false, false, false, false, false, false, false, false, false, false, false, false, false, false, false, false, false, false, false] rfl rfl (any_of HT_.out (by kernel_rfl)) (fun _ _ _ h => h) (Or.inl ⟨by rfl, ?_⟩) ?_ ?_
    rotate_left
    ·intro w'
     go_simp
     with_reducible rfl
    rotate_left
    ·simp only [Act.put, List.setIfInBounds_toArray, List.set_cons_zero, List.set_cons_succ, i64_w, i32_w]
     rfl
    refine pure_ (i := 5) (N := some 107) (v := undef) (a' := ?_) #[true, true, true, true, true, true, false, false, false, false, false, false, false, false, false, false, false, false, false, false, false, false, false, false, false, false, false, false, false] rfl rfl (any_of HT_.out (by kernel_rfl)) (fun _ _ _ h => h) (Or.inr ⟨by rfl, rfl⟩) ?_ ?_
    rotate_left
    ·simp only [Act.put, List.setIfInBounds_toArray, List.set_cons_zero, List.set_cons_succ, i64_w, i32_w]
     rfl
    refine pure_ (i := 6) (N := some 108) (v := undef) (a' := ?_) #[true, true, true, true, true, true, true, false, false, false, false, false, false, false, false, false, false, false, false, false, false, false, false, false, false, false, false, false, false] rfl rfl (any_of HT_.out (by kernel_rfl)) (fun _ _ _ h => h) (Or.inr ⟨by rfl, rfl⟩) ?_ ?_
    rotate_left
    ·simp only [Act.put, List.setIfInBounds_toArray, List.set_cons_zero, List.set_cons_succ, i64_w, i32_w]
     rfl
    refine pure_ (i := 7) (N := some 109) (v := undef) (a' := ?_) #[true, true, true, true, true, true, true, true, false, false, false, false, false, false, false, false, false, false, false, false, false, false, false, false, false, false, false, false, false] rfl rfl (any_of HT_.out (by kernel_rfl)) (fun _ _ _ h => h) (Or.inr ⟨by rfl, rfl⟩) ?_ ?_
    rotate_left
    ·simp only [Act.put, List.setIfInBounds_toArray, List.set_cons_zero, List.set_cons_succ, i64_w, i32_w]
     rfl
    refine pure_ (i := 8) (N := some 110) (v := undef) (a' := ?_) #[true, true, true, true, true, true, true, true, true, false, false, false, false, false, false, false, false, false, false, false, false, false, false, false, false, false, false, false, false] rfl rfl (any_of HT_.out (by kernel_rfl)) (fun _ _ _ h => h) (Or.inr ⟨by rfl, rfl⟩) ?_ ?_
    rotate_left
    ·simp only [Act.put, List.setIfInBounds_toArray, List.set_cons_zero, List.set_cons_succ, i64_w, i32_w]
     rfl
    refine pure_ (i := 9) (N := some 111) (v := ?_) (a' := ?_) #[true, true, true, true, true, true, true, true, true, true, false, false, false, false, false, false, false, false, false, false, false, false, false, false, false, false, false, false, false] rfl rfl (any_of HT_.out (by kernel_rfl)) (fun _ _ _ h => h) (Or.inl ⟨by rfl, ?_⟩) ?_ ?_
    rotate_left
    ·intro w'
     go_simp
     with_reducible rfl
    rotate_left
    ·simp only [Act.put, List.setIfInBounds_toArray, List.set_cons_zero, List.set_cons_succ, i64_w, i32_w]
     rfl
    refine pure_ (i := 10) (N := some 112) (v := ?_) (a' := ?_) #[true, true, true, true, true, true, true, true, true, true, true, false, false, false, false, false, false, false, false, false, false, false, false, false, false, false, false, false, false] rfl rfl (any_of HT_.out (by kernel_rfl)) (fun _ _ _ h => h) (Or.inl ⟨by rfl, ?_⟩) ?_ ?_
    rotate_left
    ·intro w'
     go_simp
     with_reducible rfl
    rotate_left
    ·simp only [Act.put, List.setIfInBounds_toArray, List.set_cons_zero, List.set_cons_succ, i64_w, i32_w]
     rfl
    refine pure_ (i := 11) (N := some 113) (v := undef) (a' := ?_) #[true, true, true, true, true, true, true, true, true, true, true, true, false, false, false, false, false, false, false, false, false, false, false, false, false, false, false, false, false] rfl rfl (any_of HT_.out (by kernel_rfl)) (fun _ _ _ h => h) (Or.inr ⟨by rfl, rfl⟩) ?_ ?_
    rotate_left
    ·simp only [Act.put, List.setIfInBounds_toArray, List.set_cons_zero, List.set_cons_succ, i64_w, i32_w]
     rfl
    refine pure_ (i := 12) (N := some 114) (v := undef) (a' := ?_) #[true, true, true, true, true, true, true, true, true, true, true, true, true, false, false, false, false, false, false, false, false, false, false, false, false, false, false, false, false] rfl rfl (any_of HT_.out (by kernel_rfl)) (fun _ _ _ h => h) (Or.inr ⟨by rfl, rfl⟩) ?_ ?_
    rotate_left
    ·simp only [Act.put, List.setIfInBounds_toArray, List.set_cons_zero, List.set_cons_succ, i64_w, i32_w]
     rfl
    refine pure_ (i := 13) (N := some 115) (v := undef) (a' := ?_) #[true, true, true, true, true, true, true, true, true, true, true, true, true, true, false, false, false, false, false, false, false, false, false, false, false, false, false, false, false] rfl rfl (any_of HT_.out (by kernel_rfl)) (fun _ _ _ h => h) (Or.inr ⟨by rfl, rfl⟩) ?_ ?_
    rotate_left
    ·simp only [Act.put, List.setIfInBounds_toArray, List.set_cons_zero, List.set_cons_succ, i64_w, i32_w]
     rfl
    refine pure_ (i := 14) (N := some 116) (v := undef) (a' := ?_) #[true, true, true, true, true, true, true, true, true, true, true, true, true, true, true, false, false, false, false, false, false, false, false, false, false, false, false, false, false] rfl rfl (any_of HT_.out (by kernel_rfl)) (fun _ _ _ h => h) (Or.inr ⟨by rfl, rfl⟩) ?_ ?_
    rotate_left
    ·simp only [Act.put, List.setIfInBounds_toArray, List.set_cons_zero, List.set_cons_succ, i64_w, i32_w]
     rfl
    refine pure_ (i := 15) (N := some 117) (v := undef) (a' := ?_) #[true, true, true, true, true, true, true, true, true, true, true, true, true, true, true, true, false, false, false, false, false, false, false, false, false, false, false, false, false] rfl rfl (any_of HT_.out (by kernel_rfl)) (fun _ _ _ h => h) (Or.inr ⟨by rfl, rfl⟩) ?_ ?_
    rotate_left
    ·simp only [Act.put, List.setIfInBounds_toArray, List.set_cons_zero, List.set_cons_succ, i64_w, i32_w]
     rfl
    refine pure_ (i := 16) (N := some 118) (v := undef) (a' := ?_) #[true, true, true, true, true, true, true, true, true, true, true, true, true, true, true, true, true, false, false, false, false, false, false, false, false, false, false, false, false] rfl rfl (any_of HT_.out (by kernel_rfl)) (fun _ _ _ h => h) (Or.inr ⟨by rfl, rfl⟩) ?_ ?_
    rotate_left
    ·simp only [Act.put, List.setIfInBounds_toArray, List.set_cons_zero, List.set_cons_succ, i64_w, i32_w]
     rfl
    refine pure_ (i := 17) (N := some 119) (v := ?_) (a' := ?_) #[true, true, true, true, true, true, true, true, true, true, true, true, true, true, true, true, true, true, false, false, false, false, false, false, false, false, false, false, false] rfl rfl (any_of HT_.out (by kernel_rfl)) (fun _ _ _ h => h) (Or.inl ⟨by rfl, ?_⟩) ?_ ?_
    rotate_left
    ·intro w'
     go_simp
     with_reducible rfl
    rotate_left
    ·simp only [Act.put, List.setIfInBounds_toArray, List.set_cons_zero, List.set_cons_succ, i64_w, i32_w]
     rfl
    refine pure_ (i := 18) (N := some 120) (v := ?_) (a' := ?_) #[true, true, true, true, true, true, true, true, true, true, true, true, true, true, true, true, true, true, true, false, false, false, false, false, false, false, false, false, false] rfl rfl (any_of HT_.out (by kernel_rfl)) (fun _ _ _ h => h) (Or.inl ⟨by rfl, ?_⟩) ?_ ?_
    rotate_left
    ·intro w'
     go_simp
     with_reducible rfl
    rotate_left
    ·simp only [Act.put, List.setIfInBounds_toArray, List.set_cons_zero, List.set_cons_succ, i64_w, i32_w]
     rfl
    refine pure_ (i := 19) (N := some 121) (v := undef) (a' := ?_) #[true, true, true, true, true, true, true, true, true, true, true, true, true, true, true, true, true, true, true, true, false, false, false, false, false, false, false, false, false] rfl rfl (any_of HT_.out (by kernel_rfl)) (fun _ _ _ h => h) (Or.inr ⟨by rfl, rfl⟩) ?_ ?_
    rotate_left
    ·simp only [Act.put, List.setIfInBounds_toArray, List.set_cons_zero, List.set_cons_succ, i64_w, i32_w]
     rfl
    refine pure_ (i := 20) (N := some 122) (v := undef) (a' := ?_) #[true, true, true, true, true, true, true, true, true, true, true, true, true, true, true, true, true, true, true, true, true, false, false, false, false, false, false, false, false] rfl rfl (any_of HT_.out (by kernel_rfl)) (fun _ _ _ h => h) (Or.inr ⟨by rfl, rfl⟩) ?_ ?_
    rotate_left
    ·simp only [Act.put, List.setIfInBounds_toArray, List.set_cons_zero, List.set_cons_succ, i64_w, i32_w]
     rfl
    refine pure_ (i := 21) (N := some 123) (v := undef) (a' := ?_) #[true, true, true, true, true, true, true, true, true, true, true, true, true, true, true, true, true, true, true, true, true, true, false, false, false, false, false, false, false] rfl rfl (any_of HT_.out (by kernel_rfl)) (fun _ _ _ h => h) (Or.inr ⟨by rfl, rfl⟩) ?_ ?_
    rotate_left
    ·simp only [Act.put, List.setIfInBounds_toArray, List.set_cons_zero, List.set_cons_succ, i64_w, i32_w]
     rfl
    refine pure_ (i := 22) (N := some 124) (v := undef) (a' := ?_) #[true, true, true, true, true, true, true, true, true, true, true, true, true, true, true, true, true, true, true, true, true, true, true, false, false, false, false, false, false] rfl rfl (any_of HT_.out (by kernel_rfl)) (fun _ _ _ h => h) (Or.inr ⟨by rfl, rfl⟩) ?_ ?_
    rotate_left
    ·simp only [Act.put, List.setIfInBounds_toArray, List.set_cons_zero, List.set_cons_succ, i64_w, i32_w]
     rfl
    refine pure_ (i := 23) (N := some 125) (v := undef) (a' := ?_) #[true, true, true, true, true, true, true, true, true, true, true, true, true, true, true, true, true, true, true, true, true, true, true, true, false, false, false, false, false] rfl rfl (any_of HT_.out (by kernel_rfl)) (fun _ _ _ h => h) (Or.inr ⟨by rfl, rfl⟩) ?_ ?_
    rotate_left
    ·simp only [Act.put, List.setIfInBounds_toArray, List.set_cons_zero, List.set_cons_succ, i64_w, i32_w]
     rfl
    refine pure_ (i := 24) (N := some 126) (v := undef) (a' := ?_) #[true, true, true, true, true, true, true, true, true, true, true, true, true, true, true, true, true, true, true, true, true, true, true, true, true, false, false, false, false] rfl rfl (any_of HT_.out (by kernel_rfl)) (fun _ _ _ h => h) (Or.inr ⟨by rfl, rfl⟩) ?_ ?_
    rotate_left
    ·simp only [Act.put, List.setIfInBounds_toArray, List.set_cons_zero, List.set_cons_succ, i64_w, i32_w]
     rfl
    refine pure_ (i := 25) (N := some 127) (v := undef) (a' := ?_) #[true, true, true, true, true, true, true, true, true, true, true, true, true, true, true, true, true, true, true, true, true, true, true, true, true, true, false, false, false] rfl rfl (any_of HT_.out (by kernel_rfl)) (fun _ _ _ h => h) (Or.inr ⟨by rfl, rfl⟩) ?_ ?_
    rotate_left
    ·simp only [Act.put, List.setIfInBounds_toArray, List.set_cons_zero, List.set_cons_succ, i64_w, i32_w]
     rfl
    refine pure_ (i := 26) (N := some 128) (v := undef) (a' := ?_) #[true, true, true, true, true, true, true, true, true, true, true, true, true, true, true, true, true, true, true, true, true, true, true, true, true, true, true, false, false] rfl rfl (any_of HT_.out (by kernel_rfl)) (fun _ _ _ h => h) (Or.inr ⟨by rfl, rfl⟩) ?_ ?_
    rotate_left
    ·simp only [Act.put, List.setIfInBounds_toArray, List.set_cons_zero, List.set_cons_succ, i64_w, i32_w]
     rfl
    refine pure_ (i := 27) (N := some 129) (v := ?_) (a' := ?_) #[true, true, true, true, true, true, true, true, true, true, true, true, true, true, true, true, true, true, true, true, true, true, true, true, true, true, true, true, false] rfl rfl (any_of HT_.out (by kernel_rfl)) (fun _ _ _ h => h) (Or.inl ⟨by rfl, ?_⟩) ?_ ?_
    rotate_left
    ·intro w'
     go_simp
     with_reducible rfl
    rotate_left
    ·simp only [Act.put, List.setIfInBounds_toArray, List.set_cons_zero, List.set_cons_succ, i64_w, i32_w]
     rfl
    refine pure_ (i := 28) (N := some 10) (v := ?_) (a' := ?_) #[true, true, true, true, true, true, true, true, true, true, true, true, true, true, true, true, true, true, true, true, true, true, true, true, true, true, true, true, true] rfl rfl (any_of HT_.out (by kernel_rfl)) (fun _ _ _ h => h) (Or.inl ⟨by rfl, ?_⟩) ?_ ?_
    rotate_left
    ·intro w'
     go_simp
     with_reducible rfl
    rotate_left
    ·simp only [Act.put, List.setIfInBounds_toArray, List.set_cons_zero, List.set_cons_succ, i64_w, i32_w]
     rfl
    refine done_ (done_of HT_.out (by kernel_rfl)) ?_
    try go_wp2
    go_ret
    exact ⟨by first | rfl | (simp [errW_none, errW_some] <;> rfl) | (simp only [← hji78, ← hji79, ← hji80, ← hji81]; first | rfl | (simp [errW_none, errW_some] <;> rfl)) | (simp [*, errW_none, errW_some] <;> rfl), by first | exact HB.out | (repeat (first | exact HB.out | apply pw_below_drewN | apply below_drew1 | apply below_alloc))⟩
 replace c7 := Bool.eq_false_iff.mpr c7
 subst c7
 have H1 : (some false) = some r := by rw [if_neg (show ¬ (false = true) by decide)] at H; exact H
 clear H
 have H := H1
 clear H1
 obtain rfl := Option.some.inj H
 go_enter Try.func10, Try.ntmps10
 go_wp2_with (first | ((with_reducible refine gate_dst (N := 5) rfl ?_); (try (refine gate_guard (by rfl) ?_; dsimp only)); refine box_event ?hg (N := 5) ?hd (cs := #[.int .i64 a0_0, .int .i64 a0_1, .int .i64 a0_2]) (t := 37) ?hr ?_; (case hd => rfl); (case hg => rfl); (case hr => first | (go_simp; done) | (go_simp; rfl)); intro gb245 hg w107 hbox hb; have BK245 := Aside0.mk (hbox); have GE245 := Aside0.mk (bG hg (by first | exact HB.out | (repeat (first | exact HB.out | apply pw_below_drewN | apply below_drew1 | apply below_alloc)))); replace HB := Aside0.mk (below_step (by first | exact HB.out | (repeat (first | exact HB.out | apply pw_below_drewN | apply below_drew1 | apply below_alloc))) hb); clear hb hbox hg) | ((with_reducible refine gate_dst (N := 6) rfl ?_); (try (refine gate_guard (by rfl) ?_; dsimp only)); refine box_event ?hg (N := 6) ?hd (cs := #[.int .i64 a1_0, .int .i64 a1_1, .int .i64 a1_2]) (t := 37) ?hr ?_; (case hd => rfl); (case hg => rfl); (case hr => first | (go_simp; done) | (go_simp; rfl)); intro gb246 hg w108 hbox hb; have BK246 := Aside0.mk (hbox); have GE246 := Aside0.mk (bG hg (by first | exact HB.out | (repeat (first | exact HB.out | apply pw_below_drewN | apply below_drew1 | apply below_alloc)))); have NB245_246 := cN hg BK245; have NB246_245 := cM hg BK245; replace BK245 := cB hb BK245; replace HB := Aside0.mk (below_step (by first | exact HB.out | (repeat (first | exact HB.out | apply pw_below_drewN | apply below_drew1 | apply below_alloc))) hb); clear hb hbox hg) | ((with_reducible refine gate_dst (N := 7) rfl ?_); (try (refine gate_guard (by rfl) ?_; dsimp only)); refine box_event ?hg (N := 7) ?hd (cs := #[.int .i64 a2_0, .int .i64 a2_1, .int .i64 a2_2]) (t := 37) ?hr ?_; (case hd => rfl); (case hg => rfl); (case hr => first | (go_simp; done) | (go_simp; rfl)); intro gb247 hg w109 hbox hb; have BK247 := Aside0.mk (hbox); have GE247 := Aside0.mk (bG hg (by first | exact HB.out | (repeat (first | exact HB.out | apply pw_below_drewN | apply below_drew1 | apply below_alloc)))); have NB245_247 := cN hg BK245; have NB247_245 := cM hg BK245; have NB246_247 := cN hg BK246; have NB247_246 := cM hg BK246; replace BK245 := cB hb BK245; replace BK246 := cB hb BK246; replace HB := Aside0.mk (below_step (by first | exact HB.out | (repeat (first | exact HB.out | apply pw_below_drewN | apply below_drew1 | apply below_alloc))) hb); clear hb hbox hg) | ((with_reducible refine gate_callee (f := 11) rfl ?_); refine goesL_ (some 17) rfl rfl Try.func11 (by kernel_rfl) rfl #[] rfl (by (try simp only [List.map_toArray, List.map_cons, List.map_nil]); first | done | rfl | (simp only [List.length_drop, List.length_take]; rfl)) ?_; (with_reducible refine (relievolaw19_alive.calls k  false _ A6.out).mono ?_); rintro e w110 ⟨rfl, hb⟩; refine ⟨_, rfl, ?_⟩; replace BK245 := cB hb BK245; replace BK246 := cB hb BK246; replace BK247 := cB hb BK247; replace HB := Aside0.mk (below_step (by first | exact HB.out | (repeat (first | exact HB.out | apply pw_below_drewN | apply below_drew1 | apply below_alloc))) hb); (try clear hb); (try clear hb2); (try clear hk); (try clear hi)))
 go_ret
 exact ⟨by first | rfl | (simp [errW_none, errW_some] <;> rfl) | (simp [*, errW_none, errW_some] <;> rfl), by first | exact HB.out | (repeat (first | exact HB.out | apply pw_below_drewN | apply below_drew1 | apply below_alloc))⟩

end Go.Proofs.Ytmhnidmbgicgeaa.G
