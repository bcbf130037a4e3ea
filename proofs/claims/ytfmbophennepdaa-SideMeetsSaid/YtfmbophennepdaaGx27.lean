-- Written by a program of this session (wip/gen), out of the translation; Lean checks it.
import Derived.Test.YtfmbophennepdaaGx0
import Derived.Test.YtfmbophennepdaaGx18
import Derived.Test.YtfmbophennepdaaGx19
import Derived.Test.YtfmbophennepdaaGxVec
import Derived.Test.YtfmbophennepdaaGx24
import Derived.Test.YtfmbophennepdaaGx26
namespace Go.Proofs.Ytfmbophennepdaa.G
open Go.RowKit Go.Proofs.YtfmbophennepdaaW.PrintWords Go.Proofs.YtfmbophennepdaaW.PrintLast Go.Proofs.YtfmbophennepdaaW.PrintMore
attribute [local go_sem high] idx43_0 idx43_1 idx43_2 wl0 wl1 wl2 wl3 wl4 wl5 tm0_3 tm1_3 tm2_3 tm3_3 tm4_3 tm5_3
attribute [local go_sem] max2_int min2_int max_two min_two max_three min_three max_four min_four   -- for this text's walks alone
set_option linter.unusedVariables false
set_option linter.unusedSimpArgs false

/-! ### relievoref03_Meet: function 8 -/
mutual
def relievoref03_Meet.j0 : Nat → Bool → Int → Int → Int → Int → Int → Int → Int → Int → Int → Int → Int → Int → Int → Int → Int → Option (Int × Int × Bool × Int × Int × Bool × Int)
  | 0, _, _, _, _, _, _, _, _, _, _, _, _, _, _, _, _ => none
  | k + 1, x34, x272000, x272001, x272002, x273000, x273001, x273002, x274000, x274001, x274002, x274003, x274004, x274005, x274006, x274007, x274008 => if x34 = true then (some (0, 0, false, 0, 0, false, 21)) else ((relievoref03_pass.f k x272000 x272001 x272002 x273000 x273001 x273002 x274000 x274001 x274002 x274003 x274004 x274005).bind fun t279 => (if t279 = 0 then (relievoref03_Meet.j1 k t279 true x272000 x272001 x272002 x273000 x273001 x273002 x274000 x274001 x274002 x274003 x274004 x274005 x274006 x274007 x274008) else ((relievoref03_pass.f k x272000 x272001 x272002 x273000 x273001 x273002 x274003 x274004 x274005 x274006 x274007 x274008).bind fun t280 => (if t280 = t279 then ((relievoref03_pass.f k x272000 x272001 x272002 x273000 x273001 x273002 x274006 x274007 x274008 x274000 x274001 x274002).bind fun t281 => (relievoref03_Meet.j1 k t279 (t281 != t279) x272000 x272001 x272002 x273000 x273001 x273002 x274000 x274001 x274002 x274003 x274004 x274005 x274006 x274007 x274008)) else (relievoref03_Meet.j1 k t279 true x272000 x272001 x272002 x273000 x273001 x273002 x274000 x274001 x274002 x274003 x274004 x274005 x274006 x274007 x274008)))))
def relievoref03_Meet.j1 : Nat → Int → Bool → Int → Int → Int → Int → Int → Int → Int → Int → Int → Int → Int → Int → Int → Int → Int → Option (Int × Int × Bool × Int × Int × Bool × Int)
  | 0, _, _, _, _, _, _, _, _, _, _, _, _, _, _, _, _, _ => none
  | k + 1, x9, x66, x272000, x272001, x272002, x273000, x273001, x273002, x274000, x274001, x274002, x274003, x274004, x274005, x274006, x274007, x274008 => if x66 = true then (some (0, 0, false, 0, 0, false, 0)) else ((relievoref03_Normal.f x274000 x274001 x274002 x274003 x274004 x274005 x274006 x274007 x274008).bind fun bt282 => ((relievoref02_Sub.f x274000 x274001 x274002 x272000 x272001 x272002).bind fun bt286 => ((relievoref02_Dot.f bt282.1 bt282.2.1 bt282.2.2 bt286.1 bt286.2.1 bt286.2.2).bind fun t289 => ((relievoref02_Dot.f bt282.1 bt282.2.1 bt282.2.2 x273000 x273001 x273002).bind fun t290 => (if t290 = 0 then (some (0, 0, false, 0, 0, false, 0)) else (if t290 < 0 then (some (wrap64 (-t289), wrap64 (-t290), decide (x9 < 0), 0, 0, true, 0)) else (some (t289, t290, decide (x9 < 0), 0, 0, true, 0))))))))
end
def relievoref03_Meet.f (k : Nat) (a0_0 : Int) (a0_1 : Int) (a0_2 : Int) (a1_0 : Int) (a1_1 : Int) (a1_2 : Int) (a2_0 : Int) (a2_1 : Int) (a2_2 : Int) (a2_3 : Int) (a2_4 : Int) (a2_5 : Int) (a2_6 : Int) (a2_7 : Int) (a2_8 : Int) : Option (Int × Int × Bool × Int × Int × Bool × Int) := (relievoref03_Line.f a0_0 a0_1 a0_2 a1_0 a1_1 a1_2).bind fun t275 => (if t275 = true then ((relievoref00_Within.f a2_0 a2_1 a2_2 65536).bind fun t276 => (if t276 = true then ((relievoref00_Within.f a2_3 a2_4 a2_5 65536).bind fun t277 => (if t277 = true then ((relievoref00_Within.f a2_6 a2_7 a2_8 65536).bind fun t278 => (relievoref03_Meet.j0 k (!t278) a0_0 a0_1 a0_2 a1_0 a1_1 a1_2 a2_0 a2_1 a2_2 a2_3 a2_4 a2_5 a2_6 a2_7 a2_8)) else (relievoref03_Meet.j0 k true a0_0 a0_1 a0_2 a1_0 a1_1 a1_2 a2_0 a2_1 a2_2 a2_3 a2_4 a2_5 a2_6 a2_7 a2_8))) else (relievoref03_Meet.j0 k true a0_0 a0_1 a0_2 a1_0 a1_1 a1_2 a2_0 a2_1 a2_2 a2_3 a2_4 a2_5 a2_6 a2_7 a2_8))) else (relievoref03_Meet.j0 k true a0_0 a0_1 a0_2 a1_0 a1_1 a1_2 a2_0 a2_1 a2_2 a2_3 a2_4 a2_5 a2_6 a2_7 a2_8))
theorem relievoref03_Meet.mono_l : ∀ k, (∀ y0 y1 y2 y3 y4 y5 y6 y7 y8 y9 y10 y11 y12 y13 y14 y15, LeO (relievoref03_Meet.j0 k y0 y1 y2 y3 y4 y5 y6 y7 y8 y9 y10 y11 y12 y13 y14 y15) (relievoref03_Meet.j0 (k + 1) y0 y1 y2 y3 y4 y5 y6 y7 y8 y9 y10 y11 y12 y13 y14 y15)) ∧ (∀ y0 y1 y2 y3 y4 y5 y6 y7 y8 y9 y10 y11 y12 y13 y14 y15 y16, LeO (relievoref03_Meet.j1 k y0 y1 y2 y3 y4 y5 y6 y7 y8 y9 y10 y11 y12 y13 y14 y15 y16) (relievoref03_Meet.j1 (k + 1) y0 y1 y2 y3 y4 y5 y6 y7 y8 y9 y10 y11 y12 y13 y14 y15 y16))
  | 0 => ⟨fun _ _ _ _ _ _ _ _ _ _ _ _ _ _ _ _ r h => by simp [relievoref03_Meet.j0] at h, fun _ _ _ _ _ _ _ _ _ _ _ _ _ _ _ _ _ r h => by simp [relievoref03_Meet.j1] at h⟩
  | k + 1 => by
    obtain ⟨ih0, ih1⟩ := relievoref03_Meet.mono_l k
    refine ⟨?_, ?_⟩
    · intro y0 y1 y2 y3 y4 y5 y6 y7 y8 y9 y10 y11 y12 y13 y14 y15
      unfold relievoref03_Meet.j0
      repeat' first
      | (with_reducible exact ih0 _ _ _ _ _ _ _ _ _ _ _ _ _ _ _ _)
      | (with_reducible exact ih1 _ _ _ _ _ _ _ _ _ _ _ _ _ _ _ _ _)
      | (with_reducible exact relievoref03_pass.mono _ _ _ _ _ _ _ _ _ _ _ _ _)
      | (with_reducible exact LeO.refl _)
      | (with_reducible exact LeO.none _)
      | (with_reducible refine LeO.ite ?_ ?_)
      | (with_reducible refine LeO.bind ?_ (fun _ => ?_))
      | exact ih0 _ _ _ _ _ _ _ _ _ _ _ _ _ _ _ _
      | exact ih1 _ _ _ _ _ _ _ _ _ _ _ _ _ _ _ _ _
      | exact relievoref03_pass.mono _ _ _ _ _ _ _ _ _ _ _ _ _
      | exact LeO.none _
      | refine LeO.ite ?_ ?_
      | refine LeO.bind ?_ (fun _ => ?_)
    · intro y0 y1 y2 y3 y4 y5 y6 y7 y8 y9 y10 y11 y12 y13 y14 y15 y16
      unfold relievoref03_Meet.j1
      repeat' first
      | (with_reducible exact ih0 _ _ _ _ _ _ _ _ _ _ _ _ _ _ _ _)
      | (with_reducible exact ih1 _ _ _ _ _ _ _ _ _ _ _ _ _ _ _ _ _)
      | (with_reducible exact relievoref03_pass.mono _ _ _ _ _ _ _ _ _ _ _ _ _)
      | (with_reducible exact LeO.refl _)
      | (with_reducible exact LeO.none _)
      | (with_reducible refine LeO.ite ?_ ?_)
      | (with_reducible refine LeO.bind ?_ (fun _ => ?_))
      | exact ih0 _ _ _ _ _ _ _ _ _ _ _ _ _ _ _ _
      | exact ih1 _ _ _ _ _ _ _ _ _ _ _ _ _ _ _ _ _
      | exact relievoref03_pass.mono _ _ _ _ _ _ _ _ _ _ _ _ _
      | exact LeO.none _
      | refine LeO.ite ?_ ?_
      | refine LeO.bind ?_ (fun _ => ?_)
theorem relievoref03_Meet.mono : ∀ a0 a1 a2 a3 a4 a5 a6 a7 a8 a9 a10 a11 a12 a13 a14 k, LeO (relievoref03_Meet.f k a0 a1 a2 a3 a4 a5 a6 a7 a8 a9 a10 a11 a12 a13 a14) (relievoref03_Meet.f (k + 1) a0 a1 a2 a3 a4 a5 a6 a7 a8 a9 a10 a11 a12 a13 a14) := by
  intro a0 a1 a2 a3 a4 a5 a6 a7 a8 a9 a10 a11 a12 a13 a14 k
  obtain ⟨ih0, ih1⟩ := relievoref03_Meet.mono_l k
  unfold relievoref03_Meet.f
  repeat' first
      | (with_reducible exact ih0 _ _ _ _ _ _ _ _ _ _ _ _ _ _ _ _)
      | (with_reducible exact ih1 _ _ _ _ _ _ _ _ _ _ _ _ _ _ _ _ _)
      | (with_reducible exact relievoref03_pass.mono _ _ _ _ _ _ _ _ _ _ _ _ _)
      | (with_reducible exact LeO.refl _)
      | (with_reducible exact LeO.none _)
      | (with_reducible refine LeO.ite ?_ ?_)
      | (with_reducible refine LeO.bind ?_ (fun _ => ?_))
      | exact ih0 _ _ _ _ _ _ _ _ _ _ _ _ _ _ _ _
      | exact ih1 _ _ _ _ _ _ _ _ _ _ _ _ _ _ _ _ _
      | exact relievoref03_pass.mono _ _ _ _ _ _ _ _ _ _ _ _ _
      | exact LeO.none _
      | refine LeO.ite ?_ ?_
      | refine LeO.bind ?_ (fun _ => ?_)
set_option maxHeartbeats 8000000 in
set_option maxRecDepth 100000 in
theorem relievoref03_Meet.calls (k : Nat) (a0_0 : Int) (a0_1 : Int) (a0_2 : Int) (a1_0 : Int) (a1_1 : Int) (a1_2 : Int) (a2_0 : Int) (a2_1 : Int) (a2_2 : Int) (a2_3 : Int) (a2_4 : Int) (a2_5 : Int) (a2_6 : Int) (a2_7 : Int) (a2_8 : Int) (r1 : Int) (r2 : Int) (r3 : Bool) (r4 : Int) (r5 : Int) (r6 : Bool) (r7 : Int) (w : World) (h : relievoref03_Meet.f k a0_0 a0_1 a0_2 a1_0 a1_1 a1_2 a2_0 a2_1 a2_2 a2_3 a2_4 a2_5 a2_6 a2_7 a2_8 = some (r1, r2, r3, r4, r5, r6, r7)) :
    Calls Try.prog 8 #[.agg #[.int .i64 a0_0, .int .i64 a0_1, .int .i64 a0_2], .agg #[.int .i64 a1_0, .int .i64 a1_1, .int .i64 a1_2], .agg #[.int .i64 a2_0, .int .i64 a2_1, .int .i64 a2_2, .int .i64 a2_3, .int .i64 a2_4, .int .i64 a2_5, .int .i64 a2_6, .int .i64 a2_7, .int .i64 a2_8]] w fun e w' => e = .returned (.tuple #[.agg #[.int .i64 r1, .int .i64 r2, .bool r3, .int .i64 r4, .int .i64 r5], .bool r6, .int .i64 r7]) ∧ Below w.heap.size w w' := by
 have hu23 := Try.underlying23
 have hu25 := Try.underlying25
 have hu33 := Try.underlying33
 have hu27 := Try.underlying27
 have HB := Aside0.mk (Below.refl w.heap.size w)
 have H : ((relievoref03_Line.f a0_0 a0_1 a0_2 a1_0 a1_1 a1_2).bind fun t275 => (if t275 = true then ((relievoref00_Within.f a2_0 a2_1 a2_2 65536).bind fun t276 => (if t276 = true then ((relievoref00_Within.f a2_3 a2_4 a2_5 65536).bind fun t277 => (if t277 = true then ((relievoref00_Within.f a2_6 a2_7 a2_8 65536).bind fun t278 => (relievoref03_Meet.j0 k (!t278) a0_0 a0_1 a0_2 a1_0 a1_1 a1_2 a2_0 a2_1 a2_2 a2_3 a2_4 a2_5 a2_6 a2_7 a2_8)) else (relievoref03_Meet.j0 k true a0_0 a0_1 a0_2 a1_0 a1_1 a1_2 a2_0 a2_1 a2_2 a2_3 a2_4 a2_5 a2_6 a2_7 a2_8))) else (relievoref03_Meet.j0 k true a0_0 a0_1 a0_2 a1_0 a1_1 a1_2 a2_0 a2_1 a2_2 a2_3 a2_4 a2_5 a2_6 a2_7 a2_8))) else (relievoref03_Meet.j0 k true a0_0 a0_1 a0_2 a1_0 a1_1 a1_2 a2_0 a2_1 a2_2 a2_3 a2_4 a2_5 a2_6 a2_7 a2_8))) = some (r1, r2, r3, r4, r5, r6, r7) := h
 clear h
 have HC4 := Aside0.mk H
 clear H
 go_enter Try.func8, Try.ntmps8
 go_upto_region 1 with (first | ((with_reducible refine gate_dst (N := 3) rfl ?_); refine box_event ?hg (N := 3) ?hd (cs := #[.int .i64 a0_0, .int .i64 a0_1, .int .i64 a0_2]) (t := 23) ?hr ?_; (case hd => rfl); (case hg => rfl); (case hr => first | (go_simp; done) | (go_simp; rfl)); intro gb271 hg w5 hbox hb; have BK271 := Aside0.mk (hbox); have GE271 := Aside0.mk (bG hg (HB.out)); replace HB := Aside0.mk (below_step (HB.out) hb); clear hb hbox hg) | ((with_reducible refine gate_dst (N := 4) rfl ?_); refine box_event ?hg (N := 4) ?hd (cs := #[.int .i64 a1_0, .int .i64 a1_1, .int .i64 a1_2]) (t := 23) ?hr ?_; (case hd => rfl); (case hg => rfl); (case hr => first | (go_simp; done) | (go_simp; rfl)); intro gb272 hg w6 hbox hb; have BK272 := Aside0.mk (hbox); have GE272 := Aside0.mk (bG hg (HB.out)); have NB271_272 := cN hg BK271; have NB272_271 := cM hg BK271; replace BK271 := cB hb BK271; replace HB := Aside0.mk (below_step (HB.out) hb); clear hb hbox hg) | ((with_reducible refine gate_dst (N := 5) rfl ?_); refine box_event ?hg (N := 5) ?hd (cs := #[.int .i64 a2_0, .int .i64 a2_1, .int .i64 a2_2, .int .i64 a2_3, .int .i64 a2_4, .int .i64 a2_5, .int .i64 a2_6, .int .i64 a2_7, .int .i64 a2_8]) (t := 25) ?hr ?_; (case hd => rfl); (case hg => rfl); (case hr => first | (go_simp; done) | (go_simp; rfl)); intro gb273 hg w7 hbox hb; have BK273 := Aside0.mk (hbox); have GE273 := Aside0.mk (bG hg (HB.out)); have NB271_273 := cN hg BK271; have NB273_271 := cM hg BK271; have NB272_273 := cN hg BK272; have NB273_272 := cM hg BK272; replace BK271 := cB hb BK271; replace BK272 := cB hb BK272; replace HB := Aside0.mk (below_step (HB.out) hb); clear hb hbox hg) | ((with_reducible refine gate_dst (N := 6) rfl ?_); refine box_event ?hg (N := 6) ?hd (cs := #[.int .i64 0, .int .i64 0, .bool false, .int .i64 0, .int .i64 0]) (t := 33) ?hr ?_; (case hd => rfl); (case hg => rfl); (case hr => first | (go_simp; done) | (go_simp; rfl)); intro gb274 hg w8 hbox hb; have BK274 := Aside0.mk (hbox); have GE274 := Aside0.mk (bG hg (HB.out)); have NB271_274 := cN hg BK271; have NB274_271 := cM hg BK271; have NB272_274 := cN hg BK272; have NB274_272 := cM hg BK272; have NB273_274 := cN hg BK273; have NB274_273 := cM hg BK273; replace BK271 := cB hb BK271; replace BK272 := cB hb BK272; replace BK273 := cB hb BK273; replace HB := Aside0.mk (below_step (HB.out) hb); clear hb hbox hg))
 (try simp only [Act.put, List.setIfInBounds_toArray, List.set_cons_zero, List.set_cons_succ])
 go_cut [34] (fun v34 wc => ∃ (kq : Nat) (x34_3 : Bool), v34 = .bool x34_3 ∧ Aside0 (relievoref03_Meet.j0 kq x34_3 a0_0 a0_1 a0_2 a1_0 a1_1 a1_2 a2_0 a2_1 a2_2 a2_3 a2_4 a2_5 a2_6 a2_7 a2_8 = some (r1, r2, r3, r4, r5, r6, r7)) ∧ Aside0 (kq ≤ k) ∧ Aside0 (wc.heap[gb271]? = some (.cells #[.int .i64 a0_0, .int .i64 a0_1, .int .i64 a0_2] 23 (0, 0))) ∧ Aside0 (wc.heap[gb272]? = some (.cells #[.int .i64 a1_0, .int .i64 a1_1, .int .i64 a1_2] 23 (0, 0))) ∧ Aside0 (wc.heap[gb273]? = some (.cells #[.int .i64 a2_0, .int .i64 a2_1, .int .i64 a2_2, .int .i64 a2_3, .int .i64 a2_4, .int .i64 a2_5, .int .i64 a2_6, .int .i64 a2_7, .int .i64 a2_8] 25 (0, 0))) ∧ Aside0 (wc.heap[gb274]? = some (.cells #[.int .i64 0, .int .i64 0, .bool false, .int .i64 0, .int .i64 0] 33 (0, 0))) ∧ Aside0 (Below w.heap.size w wc))
 case first =>
  have H := HC4.out
  clear HC4
  replace H := Option.bind_eq_some_iff.mp H
  obtain ⟨t275, A90, H⟩ := H
  replace H : (if t275 = true then ((relievoref00_Within.f a2_0 a2_1 a2_2 65536).bind fun t276 => (if t276 = true then ((relievoref00_Within.f a2_3 a2_4 a2_5 65536).bind fun t277 => (if t277 = true then ((relievoref00_Within.f a2_6 a2_7 a2_8 65536).bind fun t278 => (relievoref03_Meet.j0 k (!t278) a0_0 a0_1 a0_2 a1_0 a1_1 a1_2 a2_0 a2_1 a2_2 a2_3 a2_4 a2_5 a2_6 a2_7 a2_8)) else (relievoref03_Meet.j0 k true a0_0 a0_1 a0_2 a1_0 a1_1 a1_2 a2_0 a2_1 a2_2 a2_3 a2_4 a2_5 a2_6 a2_7 a2_8))) else (relievoref03_Meet.j0 k true a0_0 a0_1 a0_2 a1_0 a1_1 a1_2 a2_0 a2_1 a2_2 a2_3 a2_4 a2_5 a2_6 a2_7 a2_8))) else (relievoref03_Meet.j0 k true a0_0 a0_1 a0_2 a1_0 a1_1 a1_2 a2_0 a2_1 a2_2 a2_3 a2_4 a2_5 a2_6 a2_7 a2_8)) = some (r1, r2, r3, r4, r5, r6, r7) := H
  have A9 := Aside0.mk A90
  clear A90
  by_cases c10 : t275 = true
  ·subst c10
   have H1 : ((relievoref00_Within.f a2_0 a2_1 a2_2 65536).bind fun t276 => (if t276 = true then ((relievoref00_Within.f a2_3 a2_4 a2_5 65536).bind fun t277 => (if t277 = true then ((relievoref00_Within.f a2_6 a2_7 a2_8 65536).bind fun t278 => (relievoref03_Meet.j0 k (!t278) a0_0 a0_1 a0_2 a1_0 a1_1 a1_2 a2_0 a2_1 a2_2 a2_3 a2_4 a2_5 a2_6 a2_7 a2_8)) else (relievoref03_Meet.j0 k true a0_0 a0_1 a0_2 a1_0 a1_1 a1_2 a2_0 a2_1 a2_2 a2_3 a2_4 a2_5 a2_6 a2_7 a2_8))) else (relievoref03_Meet.j0 k true a0_0 a0_1 a0_2 a1_0 a1_1 a1_2 a2_0 a2_1 a2_2 a2_3 a2_4 a2_5 a2_6 a2_7 a2_8))) = some (r1, r2, r3, r4, r5, r6, r7) := by rw [if_pos rfl] at H; exact H
   clear H
   have H := H1
   clear H1
   replace H := Option.bind_eq_some_iff.mp H
   obtain ⟨t276, A110, H⟩ := H
   replace H : (if t276 = true then ((relievoref00_Within.f a2_3 a2_4 a2_5 65536).bind fun t277 => (if t277 = true then ((relievoref00_Within.f a2_6 a2_7 a2_8 65536).bind fun t278 => (relievoref03_Meet.j0 k (!t278) a0_0 a0_1 a0_2 a1_0 a1_1 a1_2 a2_0 a2_1 a2_2 a2_3 a2_4 a2_5 a2_6 a2_7 a2_8)) else (relievoref03_Meet.j0 k true a0_0 a0_1 a0_2 a1_0 a1_1 a1_2 a2_0 a2_1 a2_2 a2_3 a2_4 a2_5 a2_6 a2_7 a2_8))) else (relievoref03_Meet.j0 k true a0_0 a0_1 a0_2 a1_0 a1_1 a1_2 a2_0 a2_1 a2_2 a2_3 a2_4 a2_5 a2_6 a2_7 a2_8)) = some (r1, r2, r3, r4, r5, r6, r7) := H
   have A11 := Aside0.mk A110
   clear A110
   by_cases c12 : t276 = true
   ·subst c12
    have H1 : ((relievoref00_Within.f a2_3 a2_4 a2_5 65536).bind fun t277 => (if t277 = true then ((relievoref00_Within.f a2_6 a2_7 a2_8 65536).bind fun t278 => (relievoref03_Meet.j0 k (!t278) a0_0 a0_1 a0_2 a1_0 a1_1 a1_2 a2_0 a2_1 a2_2 a2_3 a2_4 a2_5 a2_6 a2_7 a2_8)) else (relievoref03_Meet.j0 k true a0_0 a0_1 a0_2 a1_0 a1_1 a1_2 a2_0 a2_1 a2_2 a2_3 a2_4 a2_5 a2_6 a2_7 a2_8))) = some (r1, r2, r3, r4, r5, r6, r7) := by rw [if_pos rfl] at H; exact H
    clear H
    have H := H1
    clear H1
    replace H := Option.bind_eq_some_iff.mp H
    obtain ⟨t277, A130, H⟩ := H
    replace H : (if t277 = true then ((relievoref00_Within.f a2_6 a2_7 a2_8 65536).bind fun t278 => (relievoref03_Meet.j0 k (!t278) a0_0 a0_1 a0_2 a1_0 a1_1 a1_2 a2_0 a2_1 a2_2 a2_3 a2_4 a2_5 a2_6 a2_7 a2_8)) else (relievoref03_Meet.j0 k true a0_0 a0_1 a0_2 a1_0 a1_1 a1_2 a2_0 a2_1 a2_2 a2_3 a2_4 a2_5 a2_6 a2_7 a2_8)) = some (r1, r2, r3, r4, r5, r6, r7) := H
    have A13 := Aside0.mk A130
    clear A130
    by_cases c14 : t277 = true
    ·subst c14
     have H1 : ((relievoref00_Within.f a2_6 a2_7 a2_8 65536).bind fun t278 => (relievoref03_Meet.j0 k (!t278) a0_0 a0_1 a0_2 a1_0 a1_1 a1_2 a2_0 a2_1 a2_2 a2_3 a2_4 a2_5 a2_6 a2_7 a2_8)) = some (r1, r2, r3, r4, r5, r6, r7) := by rw [if_pos rfl] at H; exact H
     clear H
     have H := H1
     clear H1
     replace H := Option.bind_eq_some_iff.mp H
     obtain ⟨t278, A150, H⟩ := H
     replace H : (relievoref03_Meet.j0 k (!t278) a0_0 a0_1 a0_2 a1_0 a1_1 a1_2 a2_0 a2_1 a2_2 a2_3 a2_4 a2_5 a2_6 a2_7 a2_8) = some (r1, r2, r3, r4, r5, r6, r7) := H
     have A15 := Aside0.mk A150
     clear A150
     have H' := Aside0.mk H
     clear H
     obtain ⟨hcz16_0, hcz16_1, hcz16_2⟩ := cells3 BK271.out
     obtain ⟨hcz17_0, hcz17_1, hcz17_2⟩ := cells3 BK272.out
     go_wp2_with (first | ((with_reducible refine gate_callee (f := 16) rfl ?_); refine goesL_ (some 15) rfl rfl Try.func16 (by kernel_rfl) rfl #[.agg #[.int .i64 a0_0, .int .i64 a0_1, .int .i64 a0_2], .agg #[.int .i64 a1_0, .int .i64 a1_1, .int .i64 a1_2]] rfl (by (try simp only [List.map_toArray, List.map_cons, List.map_nil]); first | done | rfl | (simp only [List.length_drop, List.length_take]; rfl)) ?_; (with_reducible refine (relievoref03_Line.calls a0_0 a0_1 a0_2 a1_0 a1_1 a1_2 true _ A9.out).mono ?_); rintro e w18 ⟨rfl, hb⟩; refine ⟨_, rfl, ?_⟩; replace BK271 := cB hb BK271; replace BK272 := cB hb BK272; replace BK273 := cB hb BK273; replace BK274 := cB hb BK274; replace HB := Aside0.mk (below_step (HB.out) hb); (try clear hb); (try clear hb2); (try clear hk); (try clear hi); obtain ⟨hcz19_0, hcz19_1, hcz19_2, hcz19_3, hcz19_4, hcz19_5, hcz19_6, hcz19_7, hcz19_8⟩ := cells9 BK273.out) | (go_at_call 17; (with_reducible refine (relievoref00_Within.calls a2_0 a2_1 a2_2 65536 true _ A11.out).mono ?_); rintro e w20 ⟨rfl, hb⟩; replace BK271 := cB hb BK271; replace BK272 := cB hb BK272; replace BK273 := cB hb BK273; replace BK274 := cB hb BK274; replace HB := Aside0.mk (below_step (HB.out) hb); (try clear hb); (try clear hb2); (try clear hk); (try clear hi); obtain ⟨hcz21_0, hcz21_1, hcz21_2, hcz21_3, hcz21_4, hcz21_5, hcz21_6, hcz21_7, hcz21_8⟩ := cells9 BK273.out) | (go_at_call 17; (with_reducible refine (relievoref00_Within.calls a2_3 a2_4 a2_5 65536 true _ A13.out).mono ?_); rintro e w22 ⟨rfl, hb⟩; replace BK271 := cB hb BK271; replace BK272 := cB hb BK272; replace BK273 := cB hb BK273; replace BK274 := cB hb BK274; replace HB := Aside0.mk (below_step (HB.out) hb); (try clear hb); (try clear hb2); (try clear hk); (try clear hi); obtain ⟨hcz23_0, hcz23_1, hcz23_2, hcz23_3, hcz23_4, hcz23_5, hcz23_6, hcz23_7, hcz23_8⟩ := cells9 BK273.out) | (go_at_call 17; (with_reducible refine (relievoref00_Within.calls a2_6 a2_7 a2_8 65536 t278 _ A15.out).mono ?_); rintro e w24 ⟨rfl, hb⟩; replace BK271 := cB hb BK271; replace BK272 := cB hb BK272; replace BK273 := cB hb BK273; replace BK274 := cB hb BK274; replace HB := Aside0.mk (below_step (HB.out) hb); (try clear hb); (try clear hb2); (try clear hk); (try clear hi)))
     go_meet
     case rel => exact ⟨_, (!t278), (by first | rfl | (simp; done) | (simp [*]; done)), H', ⟨by first | omega | exact Nat.le_refl _⟩, ⟨BK271.out⟩, ⟨BK272.out⟩, ⟨BK273.out⟩, ⟨BK274.out⟩, ⟨HB.out⟩⟩
    replace c14 := Bool.eq_false_iff.mpr c14
    subst c14
    have H1 : (relievoref03_Meet.j0 k true a0_0 a0_1 a0_2 a1_0 a1_1 a1_2 a2_0 a2_1 a2_2 a2_3 a2_4 a2_5 a2_6 a2_7 a2_8) = some (r1, r2, r3, r4, r5, r6, r7) := by rw [if_neg (show ¬ (false = true) by decide)] at H; exact H
    clear H
    have H := H1
    clear H1
    have H' := Aside0.mk H
    clear H
    obtain ⟨hcz25_0, hcz25_1, hcz25_2⟩ := cells3 BK271.out
    obtain ⟨hcz26_0, hcz26_1, hcz26_2⟩ := cells3 BK272.out
    go_wp2_with (first | ((with_reducible refine gate_callee (f := 16) rfl ?_); refine goesL_ (some 15) rfl rfl Try.func16 (by kernel_rfl) rfl #[.agg #[.int .i64 a0_0, .int .i64 a0_1, .int .i64 a0_2], .agg #[.int .i64 a1_0, .int .i64 a1_1, .int .i64 a1_2]] rfl (by (try simp only [List.map_toArray, List.map_cons, List.map_nil]); first | done | rfl | (simp only [List.length_drop, List.length_take]; rfl)) ?_; (with_reducible refine (relievoref03_Line.calls a0_0 a0_1 a0_2 a1_0 a1_1 a1_2 true _ A9.out).mono ?_); rintro e w27 ⟨rfl, hb⟩; refine ⟨_, rfl, ?_⟩; replace BK271 := cB hb BK271; replace BK272 := cB hb BK272; replace BK273 := cB hb BK273; replace BK274 := cB hb BK274; replace HB := Aside0.mk (below_step (HB.out) hb); (try clear hb); (try clear hb2); (try clear hk); (try clear hi); obtain ⟨hcz28_0, hcz28_1, hcz28_2, hcz28_3, hcz28_4, hcz28_5, hcz28_6, hcz28_7, hcz28_8⟩ := cells9 BK273.out) | (go_at_call 17; (with_reducible refine (relievoref00_Within.calls a2_0 a2_1 a2_2 65536 true _ A11.out).mono ?_); rintro e w29 ⟨rfl, hb⟩; replace BK271 := cB hb BK271; replace BK272 := cB hb BK272; replace BK273 := cB hb BK273; replace BK274 := cB hb BK274; replace HB := Aside0.mk (below_step (HB.out) hb); (try clear hb); (try clear hb2); (try clear hk); (try clear hi); obtain ⟨hcz30_0, hcz30_1, hcz30_2, hcz30_3, hcz30_4, hcz30_5, hcz30_6, hcz30_7, hcz30_8⟩ := cells9 BK273.out) | (go_at_call 17; (with_reducible refine (relievoref00_Within.calls a2_3 a2_4 a2_5 65536 false _ A13.out).mono ?_); rintro e w31 ⟨rfl, hb⟩; replace BK271 := cB hb BK271; replace BK272 := cB hb BK272; replace BK273 := cB hb BK273; replace BK274 := cB hb BK274; replace HB := Aside0.mk (below_step (HB.out) hb); (try clear hb); (try clear hb2); (try clear hk); (try clear hi)))
    go_meet
    case rel => exact ⟨_, (true), (by first | rfl | (simp; done) | (simp [*]; done)), H', ⟨by first | omega | exact Nat.le_refl _⟩, ⟨BK271.out⟩, ⟨BK272.out⟩, ⟨BK273.out⟩, ⟨BK274.out⟩, ⟨HB.out⟩⟩
   replace c12 := Bool.eq_false_iff.mpr c12
   subst c12
   have H1 : (relievoref03_Meet.j0 k true a0_0 a0_1 a0_2 a1_0 a1_1 a1_2 a2_0 a2_1 a2_2 a2_3 a2_4 a2_5 a2_6 a2_7 a2_8) = some (r1, r2, r3, r4, r5, r6, r7) := by rw [if_neg (show ¬ (false = true) by decide)] at H; exact H
   clear H
   have H := H1
   clear H1
   have H' := Aside0.mk H
   clear H
   obtain ⟨hcz32_0, hcz32_1, hcz32_2⟩ := cells3 BK271.out
   obtain ⟨hcz33_0, hcz33_1, hcz33_2⟩ := cells3 BK272.out
   go_wp2_with (first | ((with_reducible refine gate_callee (f := 16) rfl ?_); refine goesL_ (some 15) rfl rfl Try.func16 (by kernel_rfl) rfl #[.agg #[.int .i64 a0_0, .int .i64 a0_1, .int .i64 a0_2], .agg #[.int .i64 a1_0, .int .i64 a1_1, .int .i64 a1_2]] rfl (by (try simp only [List.map_toArray, List.map_cons, List.map_nil]); first | done | rfl | (simp only [List.length_drop, List.length_take]; rfl)) ?_; (with_reducible refine (relievoref03_Line.calls a0_0 a0_1 a0_2 a1_0 a1_1 a1_2 true _ A9.out).mono ?_); rintro e w34 ⟨rfl, hb⟩; refine ⟨_, rfl, ?_⟩; replace BK271 := cB hb BK271; replace BK272 := cB hb BK272; replace BK273 := cB hb BK273; replace BK274 := cB hb BK274; replace HB := Aside0.mk (below_step (HB.out) hb); (try clear hb); (try clear hb2); (try clear hk); (try clear hi); obtain ⟨hcz35_0, hcz35_1, hcz35_2, hcz35_3, hcz35_4, hcz35_5, hcz35_6, hcz35_7, hcz35_8⟩ := cells9 BK273.out) | (go_at_call 17; (with_reducible refine (relievoref00_Within.calls a2_0 a2_1 a2_2 65536 false _ A11.out).mono ?_); rintro e w36 ⟨rfl, hb⟩; replace BK271 := cB hb BK271; replace BK272 := cB hb BK272; replace BK273 := cB hb BK273; replace BK274 := cB hb BK274; replace HB := Aside0.mk (below_step (HB.out) hb); (try clear hb); (try clear hb2); (try clear hk); (try clear hi)))
   go_meet
   case rel => exact ⟨_, (true), (by first | rfl | (simp; done) | (simp [*]; done)), H', ⟨by first | omega | exact Nat.le_refl _⟩, ⟨BK271.out⟩, ⟨BK272.out⟩, ⟨BK273.out⟩, ⟨BK274.out⟩, ⟨HB.out⟩⟩
  replace c10 := Bool.eq_false_iff.mpr c10
  subst c10
  have H1 : (relievoref03_Meet.j0 k true a0_0 a0_1 a0_2 a1_0 a1_1 a1_2 a2_0 a2_1 a2_2 a2_3 a2_4 a2_5 a2_6 a2_7 a2_8) = some (r1, r2, r3, r4, r5, r6, r7) := by rw [if_neg (show ¬ (false = true) by decide)] at H; exact H
  clear H
  have H := H1
  clear H1
  have H' := Aside0.mk H
  clear H
  obtain ⟨hcz37_0, hcz37_1, hcz37_2⟩ := cells3 BK271.out
  obtain ⟨hcz38_0, hcz38_1, hcz38_2⟩ := cells3 BK272.out
  go_wp2_with (first | ((with_reducible refine gate_callee (f := 16) rfl ?_); refine goesL_ (some 15) rfl rfl Try.func16 (by kernel_rfl) rfl #[.agg #[.int .i64 a0_0, .int .i64 a0_1, .int .i64 a0_2], .agg #[.int .i64 a1_0, .int .i64 a1_1, .int .i64 a1_2]] rfl (by (try simp only [List.map_toArray, List.map_cons, List.map_nil]); first | done | rfl | (simp only [List.length_drop, List.length_take]; rfl)) ?_; (with_reducible refine (relievoref03_Line.calls a0_0 a0_1 a0_2 a1_0 a1_1 a1_2 false _ A9.out).mono ?_); rintro e w39 ⟨rfl, hb⟩; refine ⟨_, rfl, ?_⟩; replace BK271 := cB hb BK271; replace BK272 := cB hb BK272; replace BK273 := cB hb BK273; replace BK274 := cB hb BK274; replace HB := Aside0.mk (below_step (HB.out) hb); (try clear hb); (try clear hb2); (try clear hk); (try clear hi)))
  go_meet
  case rel => exact ⟨_, (true), (by first | rfl | (simp; done) | (simp [*]; done)), H', ⟨by first | omega | exact Nat.le_refl _⟩, ⟨BK271.out⟩, ⟨BK272.out⟩, ⟨BK273.out⟩, ⟨BK274.out⟩, ⟨HB.out⟩⟩
 clear HC4
 obtain ⟨kq, x34_3, rfl, HA, HJ3, BK271, BK272, BK273, BK274, HB⟩ := hcut
 cases kq with
 | zero => exact absurd HA.out (by simp [relievoref03_Meet.j0])
 | succ kj3 =>
  have H := HA.out
  clear HA
  simp only [relievoref03_Meet.j0] at H
  by_cases c40 : x34_3 = true
  ·subst c40
   have H1 : (some (0, 0, false, 0, 0, false, 21)) = some (r1, r2, r3, r4, r5, r6, r7) := by rw [if_pos rfl] at H; exact H
   clear H
   have H := H1
   clear H1
   simp only [Option.some.injEq, Prod.mk.injEq] at H
   obtain ⟨rfl, rfl, rfl, rfl, rfl, rfl, rfl⟩ := H
   have hnb41 := NB274_271.out
   have hnc41 := NB271_274.out
   have hnb42 := NB274_272.out
   have hnc42 := NB272_274.out
   have hnb43 := NB274_273.out
   have hnc43 := NB273_274.out
   obtain ⟨hcz44_0, hcz44_1, hcz44_2, hcz44_3, hcz44_4⟩ := cells5 BK274.out
   have hfz44_0 := blk_frozen BK274.out 0
   have hfz44_1 := blk_frozen BK274.out 1
   have hfz44_2 := blk_frozen BK274.out 2
   have hfz44_3 := blk_frozen BK274.out 3
   have hfz44_4 := blk_frozen BK274.out 4
   go_wp2
   refine bodyPost_ret (results_ctt rfl _ _ gb274 33 #[.int .i64 0, .int .i64 0, .bool false, .int .i64 0, .int .i64 0] (0, 0) _ rfl ((blk_put (cs' := #[.int .i64 0, .int .i64 0, .bool false, .int .i64 0, .int .i64 0]) (blk_put (blk_put (blk_put (blk_put BK274.out 0 _ rfl) 1 _ rfl) 2 _ rfl) 3 _ rfl) 4 _ rfl)) Try.underlying33 rfl (by kernel_rfl)) rfl ?_
   exact ⟨by first | rfl | (simp [errW_none, errW_some] <;> rfl) | (simp [*, errW_none, errW_some] <;> rfl), (below_set (below_set (below_set (below_set (below_set HB.out GE274.out) GE274.out) GE274.out) GE274.out) GE274.out)⟩
  replace c40 := Bool.eq_false_iff.mpr c40
  subst c40
  have H1 : ((relievoref03_pass.f kj3 a0_0 a0_1 a0_2 a1_0 a1_1 a1_2 a2_0 a2_1 a2_2 a2_3 a2_4 a2_5).bind fun t279 => (if t279 = 0 then (relievoref03_Meet.j1 kj3 t279 true a0_0 a0_1 a0_2 a1_0 a1_1 a1_2 a2_0 a2_1 a2_2 a2_3 a2_4 a2_5 a2_6 a2_7 a2_8) else ((relievoref03_pass.f kj3 a0_0 a0_1 a0_2 a1_0 a1_1 a1_2 a2_3 a2_4 a2_5 a2_6 a2_7 a2_8).bind fun t280 => (if t280 = t279 then ((relievoref03_pass.f kj3 a0_0 a0_1 a0_2 a1_0 a1_1 a1_2 a2_6 a2_7 a2_8 a2_0 a2_1 a2_2).bind fun t281 => (relievoref03_Meet.j1 kj3 t279 (t281 != t279) a0_0 a0_1 a0_2 a1_0 a1_1 a1_2 a2_0 a2_1 a2_2 a2_3 a2_4 a2_5 a2_6 a2_7 a2_8)) else (relievoref03_Meet.j1 kj3 t279 true a0_0 a0_1 a0_2 a1_0 a1_1 a1_2 a2_0 a2_1 a2_2 a2_3 a2_4 a2_5 a2_6 a2_7 a2_8))))) = some (r1, r2, r3, r4, r5, r6, r7) := by rw [if_neg (show ¬ (false = true) by decide)] at H; exact H
  clear H
  have H := H1
  clear H1
  replace H := Option.bind_eq_some_iff.mp H
  obtain ⟨t279, A450, H⟩ := H
  replace H : (if t279 = 0 then (relievoref03_Meet.j1 kj3 t279 true a0_0 a0_1 a0_2 a1_0 a1_1 a1_2 a2_0 a2_1 a2_2 a2_3 a2_4 a2_5 a2_6 a2_7 a2_8) else ((relievoref03_pass.f kj3 a0_0 a0_1 a0_2 a1_0 a1_1 a1_2 a2_3 a2_4 a2_5 a2_6 a2_7 a2_8).bind fun t280 => (if t280 = t279 then ((relievoref03_pass.f kj3 a0_0 a0_1 a0_2 a1_0 a1_1 a1_2 a2_6 a2_7 a2_8 a2_0 a2_1 a2_2).bind fun t281 => (relievoref03_Meet.j1 kj3 t279 (t281 != t279) a0_0 a0_1 a0_2 a1_0 a1_1 a1_2 a2_0 a2_1 a2_2 a2_3 a2_4 a2_5 a2_6 a2_7 a2_8)) else (relievoref03_Meet.j1 kj3 t279 true a0_0 a0_1 a0_2 a1_0 a1_1 a1_2 a2_0 a2_1 a2_2 a2_3 a2_4 a2_5 a2_6 a2_7 a2_8)))) = some (r1, r2, r3, r4, r5, r6, r7) := H
  have A45 := Aside0.mk A450
  clear A450
  have HC46 := Aside0.mk H
  clear H
  obtain ⟨hcz47_0, hcz47_1, hcz47_2⟩ := cells3 BK271.out
  obtain ⟨hcz48_0, hcz48_1, hcz48_2⟩ := cells3 BK272.out
  obtain ⟨hcz49_0, hcz49_1, hcz49_2, hcz49_3, hcz49_4, hcz49_5, hcz49_6, hcz49_7, hcz49_8⟩ := cells9 BK273.out
  go_upto_region 4 with (first | ((with_reducible refine gate_callee (f := 18) rfl ?_); refine goesL_ (some 42) rfl rfl Try.func18 (by kernel_rfl) rfl #[.agg #[.int .i64 a0_0, .int .i64 a0_1, .int .i64 a0_2], .agg #[.int .i64 a1_0, .int .i64 a1_1, .int .i64 a1_2], .agg #[.int .i64 a2_0, .int .i64 a2_1, .int .i64 a2_2], .agg #[.int .i64 a2_3, .int .i64 a2_4, .int .i64 a2_5]] rfl (by (try simp only [List.map_toArray, List.map_cons, List.map_nil]); first | done | rfl | (simp only [List.length_drop, List.length_take]; rfl)) ?_; (with_reducible refine (relievoref03_pass.calls kj3 a0_0 a0_1 a0_2 a1_0 a1_1 a1_2 a2_0 a2_1 a2_2 a2_3 a2_4 a2_5 t279 _ A45.out).mono ?_); rintro e w50 ⟨rfl, hb⟩; refine ⟨_, rfl, ?_⟩; replace BK271 := cB hb BK271; replace BK272 := cB hb BK272; replace BK273 := cB hb BK273; replace BK274 := cB hb BK274; replace HB := Aside0.mk (below_step (HB.out) hb); (try clear hb); (try clear hb2); (try clear hk); (try clear hi)))
  (try simp only [Act.put, List.setIfInBounds_toArray, List.set_cons_zero, List.set_cons_succ])
  go_cut [66] (fun v66 wc => ∃ (kq : Nat) (x66_45 : Bool), v66 = .bool x66_45 ∧ Aside0 (relievoref03_Meet.j1 kq t279 x66_45 a0_0 a0_1 a0_2 a1_0 a1_1 a1_2 a2_0 a2_1 a2_2 a2_3 a2_4 a2_5 a2_6 a2_7 a2_8 = some (r1, r2, r3, r4, r5, r6, r7)) ∧ Aside0 (kq ≤ kj3) ∧ Aside0 (wc.heap[gb271]? = some (.cells #[.int .i64 a0_0, .int .i64 a0_1, .int .i64 a0_2] 23 (0, 0))) ∧ Aside0 (wc.heap[gb272]? = some (.cells #[.int .i64 a1_0, .int .i64 a1_1, .int .i64 a1_2] 23 (0, 0))) ∧ Aside0 (wc.heap[gb273]? = some (.cells #[.int .i64 a2_0, .int .i64 a2_1, .int .i64 a2_2, .int .i64 a2_3, .int .i64 a2_4, .int .i64 a2_5, .int .i64 a2_6, .int .i64 a2_7, .int .i64 a2_8] 25 (0, 0))) ∧ Aside0 (wc.heap[gb274]? = some (.cells #[.int .i64 0, .int .i64 0, .bool false, .int .i64 0, .int .i64 0] 33 (0, 0))) ∧ Aside0 (Below w.heap.size w wc))
  case first =>
   have H := HC46.out
   clear HC46
   by_cases c51 : t279 = 0
   ·rw [if_pos c51] at H
    have c51b0 : (t279 == 0) = true := beq_iff_eq.mpr c51
    have c51b1 : (t279 != 0) = false := bne_eq_false_iff_eq.mpr c51
    clear c51
    (first | rw [c51b0] | (simp only [i64_w, i32_w]; rw [c51b0]) | skip)
    have H' := Aside0.mk H
    clear H
    go_wp2
    go_meet
    case rel => exact ⟨_, (true), (by first | rfl | (simp; done) | (simp [*]; done)), H', ⟨by have := HJ3.out; first | omega | exact Nat.le_refl _⟩, ⟨BK271.out⟩, ⟨BK272.out⟩, ⟨BK273.out⟩, ⟨BK274.out⟩, ⟨HB.out⟩⟩
   rw [if_neg c51] at H
   have c51b0 : (t279 == 0) = false := beq_eq_false_iff_ne.mpr c51
   have c51b1 : (t279 != 0) = true := bne_iff_ne.mpr c51
   (first | rw [c51b0] | (simp only [i64_w, i32_w]; rw [c51b0]) | skip)
   replace H := Option.bind_eq_some_iff.mp H
   obtain ⟨t280, A520, H⟩ := H
   replace H : (if t280 = t279 then ((relievoref03_pass.f kj3 a0_0 a0_1 a0_2 a1_0 a1_1 a1_2 a2_6 a2_7 a2_8 a2_0 a2_1 a2_2).bind fun t281 => (relievoref03_Meet.j1 kj3 t279 (t281 != t279) a0_0 a0_1 a0_2 a1_0 a1_1 a1_2 a2_0 a2_1 a2_2 a2_3 a2_4 a2_5 a2_6 a2_7 a2_8)) else (relievoref03_Meet.j1 kj3 t279 true a0_0 a0_1 a0_2 a1_0 a1_1 a1_2 a2_0 a2_1 a2_2 a2_3 a2_4 a2_5 a2_6 a2_7 a2_8)) = some (r1, r2, r3, r4, r5, r6, r7) := H
   have A52 := Aside0.mk A520
   clear A520
   by_cases c53 : t280 = t279
   ·rw [if_pos c53] at H
    have c53b0 : (t280 == t279) = true := beq_iff_eq.mpr c53
    have c53b1 : (t280 != t279) = false := bne_eq_false_iff_eq.mpr c53
    clear c53
    replace H := Option.bind_eq_some_iff.mp H
    obtain ⟨t281, A540, H⟩ := H
    replace H : (relievoref03_Meet.j1 kj3 t279 (t281 != t279) a0_0 a0_1 a0_2 a1_0 a1_1 a1_2 a2_0 a2_1 a2_2 a2_3 a2_4 a2_5 a2_6 a2_7 a2_8) = some (r1, r2, r3, r4, r5, r6, r7) := H
    have A54 := Aside0.mk A540
    clear A540
    have H' := Aside0.mk H
    clear H
    obtain ⟨hcz55_0, hcz55_1, hcz55_2⟩ := cells3 BK271.out
    obtain ⟨hcz56_0, hcz56_1, hcz56_2⟩ := cells3 BK272.out
    obtain ⟨hcz57_0, hcz57_1, hcz57_2, hcz57_3, hcz57_4, hcz57_5, hcz57_6, hcz57_7, hcz57_8⟩ := cells9 BK273.out
    go_wp2_with (first | (go_at_call 18; (with_reducible refine (relievoref03_pass.calls kj3 a0_0 a0_1 a0_2 a1_0 a1_1 a1_2 a2_3 a2_4 a2_5 a2_6 a2_7 a2_8 t280 _ A52.out).mono ?_); rintro e w58 ⟨rfl, hb⟩; replace BK271 := cB hb BK271; replace BK272 := cB hb BK272; replace BK273 := cB hb BK273; replace BK274 := cB hb BK274; replace HB := Aside0.mk (below_step (HB.out) hb); (try clear hb); (try clear hb2); (try clear hk); (try clear hi); obtain ⟨hcz59_0, hcz59_1, hcz59_2⟩ := cells3 BK271.out; obtain ⟨hcz60_0, hcz60_1, hcz60_2⟩ := cells3 BK272.out; obtain ⟨hcz61_0, hcz61_1, hcz61_2, hcz61_3, hcz61_4, hcz61_5, hcz61_6, hcz61_7, hcz61_8⟩ := cells9 BK273.out) | (go_at_call 18; (with_reducible refine (relievoref03_pass.calls kj3 a0_0 a0_1 a0_2 a1_0 a1_1 a1_2 a2_6 a2_7 a2_8 a2_0 a2_1 a2_2 t281 _ A54.out).mono ?_); rintro e w62 ⟨rfl, hb⟩; replace BK271 := cB hb BK271; replace BK272 := cB hb BK272; replace BK273 := cB hb BK273; replace BK274 := cB hb BK274; replace HB := Aside0.mk (below_step (HB.out) hb); (try clear hb); (try clear hb2); (try clear hk); (try clear hi)))
    go_meet
    case rel => exact ⟨_, ((t281 != t279)), (by first | rfl | (simp; done) | (simp [*]; done)), H', ⟨by have := HJ3.out; first | omega | exact Nat.le_refl _⟩, ⟨BK271.out⟩, ⟨BK272.out⟩, ⟨BK273.out⟩, ⟨BK274.out⟩, ⟨HB.out⟩⟩
   rw [if_neg c53] at H
   have c53b0 : (t280 == t279) = false := beq_eq_false_iff_ne.mpr c53
   have c53b1 : (t280 != t279) = true := bne_iff_ne.mpr c53
   have H' := Aside0.mk H
   clear H
   obtain ⟨hcz63_0, hcz63_1, hcz63_2⟩ := cells3 BK271.out
   obtain ⟨hcz64_0, hcz64_1, hcz64_2⟩ := cells3 BK272.out
   obtain ⟨hcz65_0, hcz65_1, hcz65_2, hcz65_3, hcz65_4, hcz65_5, hcz65_6, hcz65_7, hcz65_8⟩ := cells9 BK273.out
   go_wp2_with (first | (go_at_call 18; (with_reducible refine (relievoref03_pass.calls kj3 a0_0 a0_1 a0_2 a1_0 a1_1 a1_2 a2_3 a2_4 a2_5 a2_6 a2_7 a2_8 t280 _ A52.out).mono ?_); rintro e w66 ⟨rfl, hb⟩; replace BK271 := cB hb BK271; replace BK272 := cB hb BK272; replace BK273 := cB hb BK273; replace BK274 := cB hb BK274; replace HB := Aside0.mk (below_step (HB.out) hb); (try clear hb); (try clear hb2); (try clear hk); (try clear hi)))
   go_meet
   case rel => exact ⟨_, (true), (by first | rfl | (simp; done) | (simp [*]; done)), H', ⟨by have := HJ3.out; first | omega | exact Nat.le_refl _⟩, ⟨BK271.out⟩, ⟨BK272.out⟩, ⟨BK273.out⟩, ⟨BK274.out⟩, ⟨HB.out⟩⟩
  clear HC46
  try clear c40
  try clear hcz47_0
  try clear hcz47_1
  try clear hcz47_2
  try clear hcz48_0
  try clear hcz48_1
  try clear hcz48_2
  try clear hcz49_0
  try clear hcz49_1
  try clear hcz49_2
  try clear hcz49_3
  try clear hcz49_4
  try clear hcz49_5
  try clear hcz49_6
  try clear hcz49_7
  try clear hcz49_8
  obtain ⟨kq, x66_45, rfl, HA, HJ45, BK271, BK272, BK273, BK274, HB⟩ := hcut
  cases kq with
  | zero => exact absurd HA.out (by simp [relievoref03_Meet.j1])
  | succ kj45 =>
   have H := HA.out
   clear HA
   simp only [relievoref03_Meet.j1] at H
   by_cases c67 : x66_45 = true
   ·subst c67
    have H1 : (some (0, 0, false, 0, 0, false, 0)) = some (r1, r2, r3, r4, r5, r6, r7) := by rw [if_pos rfl] at H; exact H
    clear H
    have H := H1
    clear H1
    simp only [Option.some.injEq, Prod.mk.injEq] at H
    obtain ⟨rfl, rfl, rfl, rfl, rfl, rfl, rfl⟩ := H
    have hnb68 := NB274_271.out
    have hnc68 := NB271_274.out
    have hnb69 := NB274_272.out
    have hnc69 := NB272_274.out
    have hnb70 := NB274_273.out
    have hnc70 := NB273_274.out
    obtain ⟨hcz71_0, hcz71_1, hcz71_2, hcz71_3, hcz71_4⟩ := cells5 BK274.out
    have hfz71_0 := blk_frozen BK274.out 0
    have hfz71_1 := blk_frozen BK274.out 1
    have hfz71_2 := blk_frozen BK274.out 2
    have hfz71_3 := blk_frozen BK274.out 3
    have hfz71_4 := blk_frozen BK274.out 4
    go_wp2
    refine bodyPost_ret (results_ctt rfl _ _ gb274 33 #[.int .i64 0, .int .i64 0, .bool false, .int .i64 0, .int .i64 0] (0, 0) _ rfl ((blk_put (cs' := #[.int .i64 0, .int .i64 0, .bool false, .int .i64 0, .int .i64 0]) (blk_put (blk_put (blk_put (blk_put BK274.out 0 _ rfl) 1 _ rfl) 2 _ rfl) 3 _ rfl) 4 _ rfl)) Try.underlying33 rfl (by kernel_rfl)) rfl ?_
    exact ⟨by first | rfl | (simp [errW_none, errW_some] <;> rfl) | (simp [*, errW_none, errW_some] <;> rfl), (below_set (below_set (below_set (below_set (below_set HB.out GE274.out) GE274.out) GE274.out) GE274.out) GE274.out)⟩
   replace c67 := Bool.eq_false_iff.mpr c67
   subst c67
   have H1 : ((relievoref03_Normal.f a2_0 a2_1 a2_2 a2_3 a2_4 a2_5 a2_6 a2_7 a2_8).bind fun bt282 => ((relievoref02_Sub.f a2_0 a2_1 a2_2 a0_0 a0_1 a0_2).bind fun bt286 => ((relievoref02_Dot.f bt282.1 bt282.2.1 bt282.2.2 bt286.1 bt286.2.1 bt286.2.2).bind fun t289 => ((relievoref02_Dot.f bt282.1 bt282.2.1 bt282.2.2 a1_0 a1_1 a1_2).bind fun t290 => (if t290 = 0 then (some (0, 0, false, 0, 0, false, 0)) else (if t290 < 0 then (some (wrap64 (-t289), wrap64 (-t290), decide (t279 < 0), 0, 0, true, 0)) else (some (t289, t290, decide (t279 < 0), 0, 0, true, 0)))))))) = some (r1, r2, r3, r4, r5, r6, r7) := by rw [if_neg (show ¬ (false = true) by decide)] at H; exact H
   clear H
   have H := H1
   clear H1
   replace H := Option.bind_eq_some_iff.mp H
   obtain ⟨⟨t282, t283, t284⟩, A720, H⟩ := H
   replace H : ((relievoref02_Sub.f a2_0 a2_1 a2_2 a0_0 a0_1 a0_2).bind fun bt286 => ((relievoref02_Dot.f t282 t283 t284 bt286.1 bt286.2.1 bt286.2.2).bind fun t289 => ((relievoref02_Dot.f t282 t283 t284 a1_0 a1_1 a1_2).bind fun t290 => (if t290 = 0 then (some (0, 0, false, 0, 0, false, 0)) else (if t290 < 0 then (some (wrap64 (-t289), wrap64 (-t290), decide (t279 < 0), 0, 0, true, 0)) else (some (t289, t290, decide (t279 < 0), 0, 0, true, 0))))))) = some (r1, r2, r3, r4, r5, r6, r7) := H
   have A72 := Aside0.mk A720
   clear A720
   replace H := Option.bind_eq_some_iff.mp H
   obtain ⟨⟨t286, t287, t288⟩, A730, H⟩ := H
   replace H : ((relievoref02_Dot.f t282 t283 t284 t286 t287 t288).bind fun t289 => ((relievoref02_Dot.f t282 t283 t284 a1_0 a1_1 a1_2).bind fun t290 => (if t290 = 0 then (some (0, 0, false, 0, 0, false, 0)) else (if t290 < 0 then (some (wrap64 (-t289), wrap64 (-t290), decide (t279 < 0), 0, 0, true, 0)) else (some (t289, t290, decide (t279 < 0), 0, 0, true, 0)))))) = some (r1, r2, r3, r4, r5, r6, r7) := H
   have A73 := Aside0.mk A730
   clear A730
   replace H := Option.bind_eq_some_iff.mp H
   obtain ⟨t289, A740, H⟩ := H
   replace H : ((relievoref02_Dot.f t282 t283 t284 a1_0 a1_1 a1_2).bind fun t290 => (if t290 = 0 then (some (0, 0, false, 0, 0, false, 0)) else (if t290 < 0 then (some (wrap64 (-t289), wrap64 (-t290), decide (t279 < 0), 0, 0, true, 0)) else (some (t289, t290, decide (t279 < 0), 0, 0, true, 0))))) = some (r1, r2, r3, r4, r5, r6, r7) := H
   have A74 := Aside0.mk A740
   clear A740
   replace H := Option.bind_eq_some_iff.mp H
   obtain ⟨t290, A750, H⟩ := H
   replace H : (if t290 = 0 then (some (0, 0, false, 0, 0, false, 0)) else (if t290 < 0 then (some (wrap64 (-t289), wrap64 (-t290), decide (t279 < 0), 0, 0, true, 0)) else (some (t289, t290, decide (t279 < 0), 0, 0, true, 0)))) = some (r1, r2, r3, r4, r5, r6, r7) := H
   have A75 := Aside0.mk A750
   clear A750
   have HCX_ := Aside0.mk H
   clear H
   have hnb77 := NB273_274.out
   have hnc77 := NB274_273.out
   obtain ⟨hcz78_0, hcz78_1, hcz78_2, hcz78_3, hcz78_4, hcz78_5, hcz78_6, hcz78_7, hcz78_8⟩ := cells9 BK273.out
   try go_wp2_with (first | ((with_reducible refine gate_callee (f := 12) rfl ?_); refine goesL_ (some 69) rfl rfl Try.func12 (by kernel_rfl) rfl #[.agg #[.int .i64 a2_0, .int .i64 a2_1, .int .i64 a2_2, .int .i64 a2_3, .int .i64 a2_4, .int .i64 a2_5, .int .i64 a2_6, .int .i64 a2_7, .int .i64 a2_8]] rfl (by (try simp only [List.map_toArray, List.map_cons, List.map_nil]); first | done | rfl | (simp only [List.length_drop, List.length_take]; rfl)) ?_; (with_reducible refine (relievoref03_Normal.calls a2_0 a2_1 a2_2 a2_3 a2_4 a2_5 a2_6 a2_7 a2_8 t282 t283 t284 _ A72.out).mono ?_); rintro e w79 ⟨rfl, hb⟩; refine ⟨_, rfl, ?_⟩; replace BK271 := cB hb BK271; replace BK272 := cB hb BK272; replace BK273 := cB hb BK273; replace BK274 := cB hb BK274; replace HB := Aside0.mk (below_step (HB.out) hb); (try clear hb); (try clear hb2); (try clear hk); (try clear hi)) | ((with_reducible refine gate_dst (N := 10) rfl ?_); refine box_event ?hg (N := 10) ?hd (cs := #[.int .i64 0, .int .i64 0, .int .i64 0]) (t := 23) ?hr ?_; (case hd => rfl); (case hg => rfl); (case hr => first | (go_simp; done) | (go_simp; rfl)); intro gb285 hg w80 hbox hb; have BK285 := Aside0.mk (hbox); have GE285 := Aside0.mk (bG hg (HB.out)); have NB271_285 := cN hg BK271; have NB285_271 := cM hg BK271; have NB272_285 := cN hg BK272; have NB285_272 := cM hg BK272; have NB273_285 := cN hg BK273; have NB285_273 := cM hg BK273; have NB274_285 := cN hg BK274; have NB285_274 := cM hg BK274; replace BK271 := cB hb BK271; replace BK272 := cB hb BK272; replace BK273 := cB hb BK273; replace BK274 := cB hb BK274; replace HB := Aside0.mk (below_step (HB.out) hb); clear hb hbox hg; have hnb81 := NB285_271.out; have hnc81 := NB271_285.out; have hnb82 := NB285_272.out; have hnc82 := NB272_285.out; have hnb83 := NB285_273.out; have hnc83 := NB273_285.out; have hnb84 := NB285_274.out; have hnc84 := NB274_285.out; obtain ⟨hcz85_0, hcz85_1, hcz85_2⟩ := cells3 BK285.out; have hfz85_0 := blk_frozen BK285.out 0; have hfz85_1 := blk_frozen BK285.out 1; have hfz85_2 := blk_frozen BK285.out 2))
   generalize hw_ : (((w80.setCell ⟨gb285, 0, none⟩ (.int .i64 t282)).setCell ⟨gb285, 1, none⟩ (.int .i64 t283)).setCell ⟨gb285, 2, none⟩ (.int .i64 t284)) = w86
   replace BK271 := Aside0.mk (bF hw_ (blk_far (blk_far (blk_far BK271.out NB271_285.out _) NB271_285.out _) NB271_285.out _))
   replace BK272 := Aside0.mk (bF hw_ (blk_far (blk_far (blk_far BK272.out NB272_285.out _) NB272_285.out _) NB272_285.out _))
   replace BK273 := Aside0.mk (bF hw_ (blk_far (blk_far (blk_far BK273.out NB273_285.out _) NB273_285.out _) NB273_285.out _))
   replace BK274 := Aside0.mk (bF hw_ (blk_far (blk_far (blk_far BK274.out NB274_285.out _) NB274_285.out _) NB274_285.out _))
   replace BK285 := Aside0.mk (bF hw_ (blk_put (cs' := #[.int .i64 t282, .int .i64 t283, .int .i64 t284]) (blk_put (blk_put BK285.out 0 _ rfl) 1 _ rfl) 2 _ rfl))
   replace HB := Aside0.mk (bH hw_ (below_set (below_set (below_set HB.out GE285.out) GE285.out) GE285.out))
   clear hw_
   replace BK271 := Aside0.mk (blk_drew BK271.out)
   replace BK272 := Aside0.mk (blk_drew BK272.out)
   replace BK273 := Aside0.mk (blk_drew BK273.out)
   replace BK274 := Aside0.mk (blk_drew BK274.out)
   replace BK285 := Aside0.mk (blk_drew BK285.out)
   replace HB := Aside0.mk (below_drew1 HB.out)
   refine start_ (n := 7) (S := fun w' => w'.cell? ⟨gb285, 0, none⟩ = some (.int .i64 t282) ∧ w'.cell? ⟨gb285, 1, none⟩ = some (.int .i64 t283) ∧ w'.cell? ⟨gb285, 2, none⟩ = some (.int .i64 t284) ∧ w'.cell? ⟨gb273, 0, none⟩ = some (.int .i64 a2_0) ∧ w'.cell? ⟨gb273, 1, none⟩ = some (.int .i64 a2_1) ∧ w'.cell? ⟨gb273, 2, none⟩ = some (.int .i64 a2_2) ∧ w'.cell? ⟨gb273, 3, none⟩ = some (.int .i64 a2_3) ∧ w'.cell? ⟨gb273, 4, none⟩ = some (.int .i64 a2_4) ∧ w'.cell? ⟨gb273, 5, none⟩ = some (.int .i64 a2_5) ∧ w'.cell? ⟨gb273, 6, none⟩ = some (.int .i64 a2_6) ∧ w'.cell? ⟨gb273, 7, none⟩ = some (.int .i64 a2_7) ∧ w'.cell? ⟨gb273, 8, none⟩ = some (.int .i64 a2_8) ∧ w'.cell? ⟨gb271, 0, none⟩ = some (.int .i64 a0_0) ∧ w'.cell? ⟨gb271, 1, none⟩ = some (.int .i64 a0_1) ∧ w'.cell? ⟨gb271, 2, none⟩ = some (.int .i64 a0_2)) (ds := []) #[false, false, false, false, false, false, false] (by kernel_rfl) rfl rfl ⟨(blk_cell BK285.out 0).trans rfl, (blk_cell BK285.out 1).trans rfl, (blk_cell BK285.out 2).trans rfl, (blk_cell BK273.out 0).trans rfl, (blk_cell BK273.out 1).trans rfl, (blk_cell BK273.out 2).trans rfl, (blk_cell BK273.out 3).trans rfl, (blk_cell BK273.out 4).trans rfl, (blk_cell BK273.out 5).trans rfl, (blk_cell BK273.out 6).trans rfl, (blk_cell BK273.out 7).trans rfl, (blk_cell BK273.out 8).trans rfl, (blk_cell BK271.out 0).trans rfl, (blk_cell BK271.out 1).trans rfl, (blk_cell BK271.out 2).trans rfl⟩ (fun hHeld => ?_)
   generalize w86.drew = w87 at BK271 BK272 BK273 BK274 BK285 HB hHeld ⊢
   refine pure_ (i := 1) (N := some 71) (v := ?_) (a' := ?_) (bm 7 2) rfl rfl (by kernel_rfl) (fun _ _ _ h => h) (Or.inl ⟨by rfl, ?_⟩) ?_ ?_
   rotate_left
   ·intro w'
    go_simp
    with_reducible rfl
   rotate_left
   ·simp only [Act.put, List.setIfInBounds_toArray, List.set_cons_zero, List.set_cons_succ, i64_w, i32_w]
    rfl
   refine take_ (i := 0) (N := some 70) (v := ?_) (a' := ?_) (bm 7 3) rfl rfl (by kernel_rfl) (fun _ _ _ h => h) (Or.inl ⟨by rfl, ?_⟩) hHeld ?_ ?_
   rotate_left
   ·rintro w' ⟨s0, s1, s2, s3, s4, s5, s6, s7, s8, s9, s10, s11, s12, s13, s14⟩
    go_simp
    with_reducible rfl
   rotate_left
   ·simp only [Act.put, List.setIfInBounds_toArray, List.set_cons_zero, List.set_cons_succ, i64_w, i32_w]
    rfl
   refine take_ (i := 2) (N := some 72) (v := ?_) (a' := ?_) (bm 7 7) rfl rfl (by kernel_rfl) (fun _ _ _ h => h) (Or.inl ⟨by rfl, ?_⟩) hHeld ?_ ?_
   rotate_left
   ·rintro w' ⟨s0, s1, s2, s3, s4, s5, s6, s7, s8, s9, s10, s11, s12, s13, s14⟩
    go_simp
    with_reducible rfl
   rotate_left
   ·simp only [Act.put, List.setIfInBounds_toArray, List.set_cons_zero, List.set_cons_succ, i64_w, i32_w]
    rfl
   refine take_ (i := 3) (N := some 73) (v := ?_) (a' := ?_) (bm 7 15) rfl rfl (by kernel_rfl) (fun _ _ _ h => h) (Or.inl ⟨by rfl, ?_⟩) hHeld ?_ ?_
   rotate_left
   ·rintro w' ⟨s0, s1, s2, s3, s4, s5, s6, s7, s8, s9, s10, s11, s12, s13, s14⟩
    go_simp
    with_reducible rfl
   rotate_left
   ·simp only [Act.put, List.setIfInBounds_toArray, List.set_cons_zero, List.set_cons_succ, i64_w, i32_w]
    rfl
   refine one_ (i := 4) (N := some 74) (bm 7 31) rfl rfl (by kernel_rfl) (by decide) (fun K hK => ?_)
   refine goes_ Try.func22 (by kernel_rfl) rfl #[.agg #[.int .i64 a2_0, .int .i64 a2_1, .int .i64 a2_2], .agg #[.int .i64 a0_0, .int .i64 a0_1, .int .i64 a0_2]] (by rfl) rfl rfl (by (try simp only [List.map_toArray, List.map_cons, List.map_nil]); first | done | rfl | (simp only [List.length_drop, List.length_take]; rfl)) ?_
   with_reducible refine (relievoref02_Sub.calls a2_0 a2_1 a2_2 a0_0 a0_1 a0_2 t286 t287 t288 _ A73.out).mono ?_
   rintro e w88 ⟨rfl, hb⟩
   refine ⟨_, rfl, ?_⟩
   replace BK271 := cB hb BK271
   replace BK272 := cB hb BK272
   replace BK273 := cB hb BK273
   replace BK274 := cB hb BK274
   replace BK285 := cB hb BK285
   replace HB := Aside0.mk (below_step (HB.out) hb)
   (try clear hb)
   (try clear hb2)
   (try clear hk)
   (try clear hi)
   refine hK.out _ _ ⟨(blk_cell BK285.out 0).trans rfl, (blk_cell BK285.out 1).trans rfl, (blk_cell BK285.out 2).trans rfl, (blk_cell BK273.out 0).trans rfl, (blk_cell BK273.out 1).trans rfl, (blk_cell BK273.out 2).trans rfl, (blk_cell BK273.out 3).trans rfl, (blk_cell BK273.out 4).trans rfl, (blk_cell BK273.out 5).trans rfl, (blk_cell BK273.out 6).trans rfl, (blk_cell BK273.out 7).trans rfl, (blk_cell BK273.out 8).trans rfl, (blk_cell BK271.out 0).trans rfl, (blk_cell BK271.out 1).trans rfl, (blk_cell BK271.out 2).trans rfl⟩ (fun hHeld => ?_)
   clear hK K
   refine norm_ (a' := ?_) ?_ ?_
   rotate_left
   ·show Act.put _ (some 74) _ = _
    simp only [Act.put, List.setIfInBounds_toArray, List.set_cons_zero, List.set_cons_succ, i64_w, i32_w]
    rfl
   refine one_ (i := 5) (N := some 75) (bm 7 63) rfl rfl (by kernel_rfl) (by decide) (fun K hK => ?_)
   refine goes_ Try.func21 (by kernel_rfl) rfl #[.agg #[.int .i64 t282, .int .i64 t283, .int .i64 t284], .agg #[.int .i64 t286, .int .i64 t287, .int .i64 t288]] (by rfl) rfl rfl (by (try simp only [List.map_toArray, List.map_cons, List.map_nil]); first | done | rfl | (simp only [List.length_drop, List.length_take]; rfl)) ?_
   with_reducible refine (relievoref02_Dot.calls t282 t283 t284 t286 t287 t288 t289 _ A74.out).mono ?_
   rintro e w89 ⟨rfl, hb⟩
   refine ⟨_, rfl, ?_⟩
   replace BK271 := cB hb BK271
   replace BK272 := cB hb BK272
   replace BK273 := cB hb BK273
   replace BK274 := cB hb BK274
   replace BK285 := cB hb BK285
   replace HB := Aside0.mk (below_step (HB.out) hb)
   (try clear hb)
   (try clear hb2)
   (try clear hk)
   (try clear hi)
   refine hK.out _ _ ⟨(blk_cell BK285.out 0).trans rfl, (blk_cell BK285.out 1).trans rfl, (blk_cell BK285.out 2).trans rfl, (blk_cell BK273.out 0).trans rfl, (blk_cell BK273.out 1).trans rfl, (blk_cell BK273.out 2).trans rfl, (blk_cell BK273.out 3).trans rfl, (blk_cell BK273.out 4).trans rfl, (blk_cell BK273.out 5).trans rfl, (blk_cell BK273.out 6).trans rfl, (blk_cell BK273.out 7).trans rfl, (blk_cell BK273.out 8).trans rfl, (blk_cell BK271.out 0).trans rfl, (blk_cell BK271.out 1).trans rfl, (blk_cell BK271.out 2).trans rfl⟩ (fun hHeld => ?_)
   clear hK K
   refine norm_ (a' := ?_) ?_ ?_
   rotate_left
   ·show Act.put _ (some 75) _ = _
    simp only [Act.put, List.setIfInBounds_toArray, List.set_cons_zero, List.set_cons_succ, i64_w, i32_w]
    rfl
   refine pure_ (i := 6) (N := some 11) (v := ?_) (a' := ?_) (bm 7 127) rfl rfl (by kernel_rfl) (fun _ _ _ h => h) (Or.inl ⟨by rfl, ?_⟩) ?_ ?_
   rotate_left
   ·intro w'
    go_simp
    with_reducible rfl
   rotate_left
   ·simp only [Act.put, List.setIfInBounds_toArray, List.set_cons_zero, List.set_cons_succ, i64_w, i32_w]
    rfl
   refine done_ (by kernel_rfl) ?_
   have H := HCX_.out
   clear HCX_
   by_cases c76 : t290 = 0
   ·rw [if_pos c76] at H
    have c76b0 : (t290 == 0) = true := beq_iff_eq.mpr c76
    have c76b1 : (t290 != 0) = false := bne_eq_false_iff_eq.mpr c76
    clear c76
    simp only [Option.some.injEq, Prod.mk.injEq] at H
    obtain ⟨rfl, rfl, rfl, rfl, rfl, rfl, rfl⟩ := H
    obtain ⟨hcz90_0, hcz90_1, hcz90_2⟩ := cells3 BK285.out
    have hfz90_0 := blk_frozen BK285.out 0
    have hfz90_1 := blk_frozen BK285.out 1
    have hfz90_2 := blk_frozen BK285.out 2
    have hnb91 := NB272_274.out
    have hnc91 := NB274_272.out
    obtain ⟨hcz92_0, hcz92_1, hcz92_2⟩ := cells3 BK272.out
    try go_wp2_with (first | ((with_reducible refine gate_callee (f := 21) rfl ?_); refine goesL_ (some 78) rfl rfl Try.func21 (by kernel_rfl) rfl #[.agg #[.int .i64 t282, .int .i64 t283, .int .i64 t284], .agg #[.int .i64 a1_0, .int .i64 a1_1, .int .i64 a1_2]] rfl (by (try simp only [List.map_toArray, List.map_cons, List.map_nil]); first | done | rfl | (simp only [List.length_drop, List.length_take]; rfl)) ?_; (with_reducible refine (relievoref02_Dot.calls t282 t283 t284 a1_0 a1_1 a1_2 t290 _ A75.out).mono ?_); rintro e w93 ⟨rfl, hb⟩; refine ⟨_, rfl, ?_⟩; replace BK272 := cB hb BK272; replace BK274 := cB hb BK274; replace BK285 := cB hb BK285; replace HB := Aside0.mk (below_step (HB.out) hb); (try clear hb); (try clear hb2); (try clear hk); (try clear hi); obtain ⟨hcz94_0, hcz94_1, hcz94_2, hcz94_3, hcz94_4⟩ := cells5 BK274.out; have hfz94_0 := blk_frozen BK274.out 0; have hfz94_1 := blk_frozen BK274.out 1; have hfz94_2 := blk_frozen BK274.out 2; have hfz94_3 := blk_frozen BK274.out 3; have hfz94_4 := blk_frozen BK274.out 4))
    refine bodyPost_ret (results_ctt rfl _ _ gb274 33 #[.int .i64 0, .int .i64 0, .bool false, .int .i64 0, .int .i64 0] (0, 0) _ rfl ((blk_put (cs' := #[.int .i64 0, .int .i64 0, .bool false, .int .i64 0, .int .i64 0]) (blk_put (blk_put (blk_put (blk_put BK274.out 0 _ rfl) 1 _ rfl) 2 _ rfl) 3 _ rfl) 4 _ rfl)) Try.underlying33 rfl (by kernel_rfl)) rfl ?_
    exact ⟨by first | rfl | (simp [errW_none, errW_some] <;> rfl) | (simp [*, errW_none, errW_some] <;> rfl), (below_set (below_set (below_set (below_set (below_set HB.out GE274.out) GE274.out) GE274.out) GE274.out) GE274.out)⟩
   rw [if_neg c76] at H
   have c76b0 : (t290 == 0) = false := beq_eq_false_iff_ne.mpr c76
   have c76b1 : (t290 != 0) = true := bne_iff_ne.mpr c76
   by_cases c95 : t290 < 0
   ·rw [if_pos c95] at H
    have c95b0 : decide (t290 < 0) = true := decide_eq_true c95
    clear c95
    simp only [Option.some.injEq, Prod.mk.injEq] at H
    obtain ⟨rfl, rfl, rfl, rfl, rfl, rfl, rfl⟩ := H
    obtain ⟨hcz109_0, hcz109_1, hcz109_2⟩ := cells3 BK285.out
    have hfz109_0 := blk_frozen BK285.out 0
    have hfz109_1 := blk_frozen BK285.out 1
    have hfz109_2 := blk_frozen BK285.out 2
    have hnb110 := NB272_274.out
    have hnc110 := NB274_272.out
    obtain ⟨hcz111_0, hcz111_1, hcz111_2⟩ := cells3 BK272.out
    try go_wp2_with (first | ((with_reducible refine gate_callee (f := 21) rfl ?_); refine goesL_ (some 78) rfl rfl Try.func21 (by kernel_rfl) rfl #[.agg #[.int .i64 t282, .int .i64 t283, .int .i64 t284], .agg #[.int .i64 a1_0, .int .i64 a1_1, .int .i64 a1_2]] rfl (by (try simp only [List.map_toArray, List.map_cons, List.map_nil]); first | done | rfl | (simp only [List.length_drop, List.length_take]; rfl)) ?_; (with_reducible refine (relievoref02_Dot.calls t282 t283 t284 a1_0 a1_1 a1_2 t290 _ A75.out).mono ?_); rintro e w112 ⟨rfl, hb⟩; refine ⟨_, rfl, ?_⟩; replace BK272 := cB hb BK272; replace BK274 := cB hb BK274; replace BK285 := cB hb BK285; replace HB := Aside0.mk (below_step (HB.out) hb); (try clear hb); (try clear hb2); (try clear hk); (try clear hi); obtain ⟨hcz113_0, hcz113_1, hcz113_2, hcz113_3, hcz113_4⟩ := cells5 BK274.out; have hfz113_0 := blk_frozen BK274.out 0; have hfz113_1 := blk_frozen BK274.out 1; have hfz113_2 := blk_frozen BK274.out 2; have hfz113_3 := blk_frozen BK274.out 3; have hfz113_4 := blk_frozen BK274.out 4))
    refine bodyPost_ret (results_ctt rfl _ _ gb274 33 #[.int .i64 (wrap64 (-t289)), .int .i64 (wrap64 (-t290)), .bool (decide (t279 < 0)), .int .i64 0, .int .i64 0] (0, 0) _ rfl ((blk_put (cs' := #[.int .i64 (wrap64 (-t289)), .int .i64 (wrap64 (-t290)), .bool (decide (t279 < 0)), .int .i64 0, .int .i64 0]) (blk_put (blk_put (blk_put (blk_put BK274.out 0 _ rfl) 1 _ rfl) 2 _ rfl) 3 _ rfl) 4 _ rfl)) Try.underlying33 rfl (by kernel_rfl)) rfl ?_
    exact ⟨by first | rfl | (simp [errW_none, errW_some] <;> rfl) | (simp [*, errW_none, errW_some] <;> rfl), (below_set (below_set (below_set (below_set (below_set HB.out GE274.out) GE274.out) GE274.out) GE274.out) GE274.out)⟩
   rw [if_neg c95] at H
   have c95b0 : decide (t290 < 0) = false := decide_eq_false c95
   clear c95
   simp only [Option.some.injEq, Prod.mk.injEq] at H
   obtain ⟨rfl, rfl, rfl, rfl, rfl, rfl, rfl⟩ := H
   obtain ⟨hcz127_0, hcz127_1, hcz127_2⟩ := cells3 BK285.out
   have hfz127_0 := blk_frozen BK285.out 0
   have hfz127_1 := blk_frozen BK285.out 1
   have hfz127_2 := blk_frozen BK285.out 2
   have hnb128 := NB272_274.out
   have hnc128 := NB274_272.out
   obtain ⟨hcz129_0, hcz129_1, hcz129_2⟩ := cells3 BK272.out
   try go_wp2_with (first | ((with_reducible refine gate_callee (f := 21) rfl ?_); refine goesL_ (some 78) rfl rfl Try.func21 (by kernel_rfl) rfl #[.agg #[.int .i64 t282, .int .i64 t283, .int .i64 t284], .agg #[.int .i64 a1_0, .int .i64 a1_1, .int .i64 a1_2]] rfl (by (try simp only [List.map_toArray, List.map_cons, List.map_nil]); first | done | rfl | (simp only [List.length_drop, List.length_take]; rfl)) ?_; (with_reducible refine (relievoref02_Dot.calls t282 t283 t284 a1_0 a1_1 a1_2 t290 _ A75.out).mono ?_); rintro e w130 ⟨rfl, hb⟩; refine ⟨_, rfl, ?_⟩; replace BK272 := cB hb BK272; replace BK274 := cB hb BK274; replace BK285 := cB hb BK285; replace HB := Aside0.mk (below_step (HB.out) hb); (try clear hb); (try clear hb2); (try clear hk); (try clear hi); obtain ⟨hcz131_0, hcz131_1, hcz131_2, hcz131_3, hcz131_4⟩ := cells5 BK274.out; have hfz131_0 := blk_frozen BK274.out 0; have hfz131_1 := blk_frozen BK274.out 1; have hfz131_2 := blk_frozen BK274.out 2; have hfz131_3 := blk_frozen BK274.out 3; have hfz131_4 := blk_frozen BK274.out 4))
   refine bodyPost_ret (results_ctt rfl _ _ gb274 33 #[.int .i64 t289, .int .i64 t290, .bool (decide (t279 < 0)), .int .i64 0, .int .i64 0] (0, 0) _ rfl ((blk_put (cs' := #[.int .i64 t289, .int .i64 t290, .bool (decide (t279 < 0)), .int .i64 0, .int .i64 0]) (blk_put (blk_put (blk_put (blk_put BK274.out 0 _ rfl) 1 _ rfl) 2 _ rfl) 3 _ rfl) 4 _ rfl)) Try.underlying33 rfl (by kernel_rfl)) rfl ?_
   exact ⟨by first | rfl | (simp [errW_none, errW_some] <;> rfl) | (simp [*, errW_none, errW_some] <;> rfl), (below_set (below_set (below_set (below_set (below_set HB.out GE274.out) GE274.out) GE274.out) GE274.out) GE274.out)⟩

end Go.Proofs.Ytfmbophennepdaa.G
