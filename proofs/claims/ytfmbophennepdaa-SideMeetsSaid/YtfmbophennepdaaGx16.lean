-- Written by a program of this session (wip/gen), out of the translation; Lean checks it.
import Derived.Test.YtfmbophennepdaaGx0
import Derived.Test.YtfmbophennepdaaGx2
import Derived.Test.YtfmbophennepdaaGx15
namespace Go.Proofs.Ytfmbophennepdaa.G
open Go.RowKit Go.Proofs.YtfmbophennepdaaW.PrintWords Go.Proofs.YtfmbophennepdaaW.PrintLast Go.Proofs.YtfmbophennepdaaW.PrintMore
attribute [local go_sem high] idx43_0 idx43_1 idx43_2 wl0 wl1 wl2 wl3 wl4 wl5 tm0_3 tm1_3 tm2_3 tm3_3 tm4_3 tm5_3
attribute [local go_sem] max2_int min2_int max_two min_two max_three min_three max_four min_four   -- for this text's walks alone
set_option linter.unusedVariables false
set_option linter.unusedSimpArgs false

attribute [local go_sem high] eqA27
/-! ### relievolaw03_alive: function 4 -/
def relievolaw03_alive.f (k : Nat)  : Option (Bool) := (side_Meet.f k 1 1 (-5) 0 0 1 0 0 0 9 0 0 0 9 0).bind fun bt190 => ((side_Meet.f k 0 0 0 0 0 0 0 0 0 0 0 0 0 0 0).bind fun bt198 => (if bt190.2.2.2.2.2.1 = true then (if bt190.2.2.2.2.2.2 = 0 then (if (bt190.1 == 405 && (bt190.2.1 == 81)) = true then (if bt190.2.2.1 = true then (some false) else (some (bt198.2.2.2.2.2.2 == 21))) else (some false)) else (some false)) else (some false)))
theorem relievolaw03_alive.mono : ∀ k, LeO (relievolaw03_alive.f k ) (relievolaw03_alive.f (k + 1) ) := by
  intro  k
  unfold relievolaw03_alive.f
  repeat' first
      | (with_reducible exact side_Meet.mono _ _ _ _ _ _ _ _ _ _ _ _ _ _ _ _)
      | (with_reducible exact LeO.refl _)
      | (with_reducible exact LeO.none _)
      | (with_reducible refine LeO.ite ?_ ?_)
      | (with_reducible refine LeO.bind ?_ (fun _ => ?_))
      | exact side_Meet.mono _ _ _ _ _ _ _ _ _ _ _ _ _ _ _ _
      | exact LeO.none _
      | refine LeO.ite ?_ ?_
      | refine LeO.bind ?_ (fun _ => ?_)
set_option maxHeartbeats 8000000 in
set_option maxRecDepth 100000 in
theorem relievolaw03_alive.calls (k : Nat)  (r : Bool) (hrt : r = true) (w : World) (h : relievolaw03_alive.f k  = some r) :
    Calls Try.prog 4 #[] w fun e w' => e = .returned (.bool r) ∧ Below w.heap.size w w' := by
 have hu23 := Try.underlying23
 have hu25 := Try.underlying25
 have hu33 := Try.underlying33
 have hu27 := Try.underlying27
 have HB := Aside0.mk (Below.refl w.heap.size w)
 have H : ((side_Meet.f k 1 1 (-5) 0 0 1 0 0 0 9 0 0 0 9 0).bind fun bt190 => ((side_Meet.f k 0 0 0 0 0 0 0 0 0 0 0 0 0 0 0).bind fun bt198 => (if bt190.2.2.2.2.2.1 = true then (if bt190.2.2.2.2.2.2 = 0 then (if (bt190.1 == 405 && (bt190.2.1 == 81)) = true then (if bt190.2.2.1 = true then (some false) else (some (bt198.2.2.2.2.2.2 == 21))) else (some false)) else (some false)) else (some false)))) = some r := h
 clear h
 replace H := Option.bind_eq_some_iff.mp H
 obtain ⟨⟨t190, t191, t192, t193, t194, t195, t196⟩, A10, H⟩ := H
 replace H : ((side_Meet.f k 0 0 0 0 0 0 0 0 0 0 0 0 0 0 0).bind fun bt198 => (if t195 = true then (if t196 = 0 then (if (t190 == 405 && (t191 == 81)) = true then (if t192 = true then (some false) else (some (bt198.2.2.2.2.2.2 == 21))) else (some false)) else (some false)) else (some false))) = some r := H
 have A1 := Aside0.mk A10
 clear A10
 replace H := Option.bind_eq_some_iff.mp H
 obtain ⟨⟨t198, t199, t200, t201, t202, t203, t204⟩, A20, H⟩ := H
 replace H : (if t195 = true then (if t196 = 0 then (if (t190 == 405 && (t191 == 81)) = true then (if t192 = true then (some false) else (some (t204 == 21))) else (some false)) else (some false)) else (some false)) = some r := H
 have A2 := Aside0.mk A20
 clear A20
 by_cases c3 : t195 = true
 ·subst c3
  have H1 : (if t196 = 0 then (if (t190 == 405 && (t191 == 81)) = true then (if t192 = true then (some false) else (some (t204 == 21))) else (some false)) else (some false)) = some r := by rw [if_pos rfl] at H; exact H
  clear H
  have H := H1
  clear H1
  by_cases c4 : t196 = 0
  ·rw [if_pos c4] at H
   have c4b0 : (t196 == 0) = true := beq_iff_eq.mpr c4
   have c4b1 : (t196 != 0) = false := bne_eq_false_iff_eq.mpr c4
   clear c4
   by_cases c5 : (t190 == 405 && (t191 == 81)) = true
   ·rw [if_pos c5] at H
    have c5b0 : (t190 == 405 && (t191 == 81)) = true := c5
    (try (have c5b1 : decide (t190 = 405 && (t191 == 81)) = true := by simpa using c5))
    (try (have c5b2 : (t190 == 405 && (t191 == 81)) = true := by simpa using c5))
    clear c5
    by_cases c6 : t192 = true
    ·subst c6
     have H1 : (some false) = some r := by rw [if_pos rfl] at H; exact H
     clear H
     have H := H1
     clear H1
     exact absurd (Option.some.inj H) (by rw [hrt]; decide)
    replace c6 := Bool.eq_false_iff.mpr c6
    subst c6
    have H1 : (some (t204 == 21)) = some r := by rw [if_neg (show ¬ (false = true) by decide)] at H; exact H
    clear H
    have H := H1
    clear H1
    clear hrt
    obtain rfl := Option.some.inj H
    go_enter Try.func4, Try.ntmps4
    go_wp2_with (first | ((with_reducible refine gate_callee (f := 7) rfl ?_); refine goesL_ (some 13) rfl rfl Try.func7 (by kernel_rfl) rfl #[.agg #[.int .i64 1, .int .i64 1, .int .i64 (-5)], .agg #[.int .i64 0, .int .i64 0, .int .i64 1], .agg #[.int .i64 0, .int .i64 0, .int .i64 0, .int .i64 9, .int .i64 0, .int .i64 0, .int .i64 0, .int .i64 9, .int .i64 0]] rfl (by (try simp only [List.map_toArray, List.map_cons, List.map_nil]); first | done | rfl | (simp only [List.length_drop, List.length_take]; rfl)) ?_; (with_reducible refine (side_Meet.calls k 1 1 (-5) 0 0 1 0 0 0 9 0 0 0 9 0 t190 t191 false t193 t194 true t196 _ A1.out).mono ?_); rintro e w15 ⟨rfl, hb⟩; refine ⟨_, rfl, ?_⟩; replace HB := Aside0.mk (below_step (HB.out) hb); (try clear hb); (try clear hb2); (try clear hk); (try clear hi)) | ((with_reducible refine gate_dst (N := 1) rfl ?_); refine box_event ?hg (N := 1) ?hd (cs := #[.int .i64 0, .int .i64 0, .bool false, .int .i64 0, .int .i64 0]) (t := 33) ?hr ?_; (case hd => rfl); (case hg => rfl); (case hr => first | (go_simp; done) | (go_simp; rfl)); intro gb197 hg w16 hbox hb; have BK197 := Aside0.mk (hbox); have GE197 := Aside0.mk (bG hg (HB.out)); replace HB := Aside0.mk (below_step (HB.out) hb); clear hb hbox hg; obtain ⟨hcz17_0, hcz17_1, hcz17_2, hcz17_3, hcz17_4⟩ := cells5 BK197.out; have hfz17_0 := blk_frozen BK197.out 0; have hfz17_1 := blk_frozen BK197.out 1; have hfz17_2 := blk_frozen BK197.out 2; have hfz17_3 := blk_frozen BK197.out 3; have hfz17_4 := blk_frozen BK197.out 4) | ((with_reducible refine gate_callee (f := 7) rfl ?_); refine goesL_ (some 21) rfl rfl Try.func7 (by kernel_rfl) rfl #[.agg #[.int .i64 0, .int .i64 0, .int .i64 0], .agg #[.int .i64 0, .int .i64 0, .int .i64 0], .agg #[.int .i64 0, .int .i64 0, .int .i64 0, .int .i64 0, .int .i64 0, .int .i64 0, .int .i64 0, .int .i64 0, .int .i64 0]] rfl (by (try simp only [List.map_toArray, List.map_cons, List.map_nil]); first | done | rfl | (simp only [List.length_drop, List.length_take]; rfl)) ?_; (with_reducible refine (side_Meet.calls k 0 0 0 0 0 0 0 0 0 0 0 0 0 0 0 t198 t199 t200 t201 t202 t203 t204 _ A2.out).mono ?_); rintro e w18 ⟨rfl, hb⟩; refine ⟨_, rfl, ?_⟩; replace BK197 := Aside0.mk (bB hb ((blk_put (cs' := #[.int .i64 t190, .int .i64 t191, .bool false, .int .i64 t193, .int .i64 t194]) (blk_put (blk_put (blk_put (blk_put BK197.out 0 _ rfl) 1 _ rfl) 2 _ rfl) 3 _ rfl) 4 _ rfl))); replace HB := Aside0.mk (below_step ((below_set (below_set (below_set (below_set (below_set HB.out GE197.out) GE197.out) GE197.out) GE197.out) GE197.out)) hb); (try clear hb); (try clear hb2); (try clear hk); (try clear hi)) | ((with_reducible refine gate_dst (N := 4) rfl ?_); refine box_event ?hg (N := 4) ?hd (cs := #[.int .i64 0, .int .i64 0, .bool false, .int .i64 0, .int .i64 0]) (t := 33) ?hr ?_; (case hd => rfl); (case hg => rfl); (case hr => first | (go_simp; done) | (go_simp; rfl)); intro gb205 hg w19 hbox hb; have BK205 := Aside0.mk (hbox); have GE205 := Aside0.mk (bG hg (HB.out)); have NB197_205 := cN hg BK197; have NB205_197 := cM hg BK197; replace BK197 := cB hb BK197; replace HB := Aside0.mk (below_step (HB.out) hb); clear hb hbox hg; have hnb20 := NB205_197.out; have hnc20 := NB197_205.out; obtain ⟨hcz21_0, hcz21_1, hcz21_2, hcz21_3, hcz21_4⟩ := cells5 BK205.out; have hfz21_0 := blk_frozen BK205.out 0; have hfz21_1 := blk_frozen BK205.out 1; have hfz21_2 := blk_frozen BK205.out 2; have hfz21_3 := blk_frozen BK205.out 3; have hfz21_4 := blk_frozen BK205.out 4; obtain ⟨hcz22_0, hcz22_1, hcz22_2, hcz22_3, hcz22_4⟩ := cells5 BK197.out; have hfz22_0 := blk_frozen BK197.out 0; have hfz22_1 := blk_frozen BK197.out 1; have hfz22_2 := blk_frozen BK197.out 2; have hfz22_3 := blk_frozen BK197.out 3; have hfz22_4 := blk_frozen BK197.out 4))
    go_ret
    exact ⟨by first | rfl | (simp [errW_none, errW_some] <;> rfl) | (simp [*, errW_none, errW_some] <;> rfl), (below_set (below_set (below_set (below_set (below_set HB.out GE205.out) GE205.out) GE205.out) GE205.out) GE205.out)⟩
   rw [if_neg c5] at H
   have c5b0 : (t190 == 405 && (t191 == 81)) = false := by simpa using c5
   (try (have c5b1 : decide (t190 = 405 && (t191 == 81)) = false := by simpa using c5))
   (try (have c5b2 : (t190 == 405 && (t191 == 81)) = false := by simpa using c5))
   (try (have c5b3 : ¬ (t190 = 405 && (t191 == 81)) := by simpa using c5))
   clear c5
   exact absurd (Option.some.inj H) (by rw [hrt]; decide)
  rw [if_neg c4] at H
  have c4b0 : (t196 == 0) = false := beq_eq_false_iff_ne.mpr c4
  have c4b1 : (t196 != 0) = true := bne_iff_ne.mpr c4
  exact absurd (Option.some.inj H) (by rw [hrt]; decide)
 replace c3 := Bool.eq_false_iff.mpr c3
 subst c3
 have H1 : (some false) = some r := by rw [if_neg (show ¬ (false = true) by decide)] at H; exact H
 clear H
 have H := H1
 clear H1
 exact absurd (Option.some.inj H) (by rw [hrt]; decide)

end Go.Proofs.Ytfmbophennepdaa.G
