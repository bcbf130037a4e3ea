-- Written by a program of this session (wip/gen), out of the translation; Lean checks it.
import Derived.Test.YtihklolcnfbbjaaGx0
import Derived.Test.YtihklolcnfbbjaaGx2
import Derived.Test.YtihklolcnfbbjaaGx53
namespace Go.Proofs.Ytihklolcnfbbjaa.G
open Go.RowKit Go.Proofs.YtihklolcnfbbjaaW.PrintWords Go.Proofs.YtihklolcnfbbjaaW.PrintLast Go.Proofs.YtihklolcnfbbjaaW.PrintMore
attribute [local go_sem high] idx35_0 idx35_1 idx35_2 idx35_3 idx41_0 idx41_1 idx41_2 idx84_0 idx84_1 idx84_2 idx88_0 idx88_1 idx88_2 wl0 wl1 wl2 wl3 wl4 wl5 tm0_3 tm1_3 tm2_3 tm3_3 tm4_3 tm5_3
attribute [local go_sem] max2_int min2_int max_two min_two max_three min_three max_four min_four   -- for this text's walks alone
set_option linter.unusedVariables false
set_option linter.unusedSimpArgs false

attribute [local go_sem high] eqA28
/-! ### relievolaw04_alive: function 31 -/
def relievolaw04_alive.f (k : Nat)  : Option (Bool) := (slab_Range.f k 0 0 0 2 0 0 3 0 0 5 1 1).bind fun bt627 => (if bt627.2.2.2.2.1 = true then (if bt627.2.2.2.2.2 = 0 then (if (bt627.1 == 3 && (bt627.2.1 == 2)) = true then (some (bt627.2.2.1 == 5 && (bt627.2.2.2.1 == 2))) else (some false)) else (some false)) else (some false))
theorem relievolaw04_alive.mono : ∀ k, LeO (relievolaw04_alive.f k ) (relievolaw04_alive.f (k + 1) ) := by
  intro  k
  unfold relievolaw04_alive.f
  repeat' first
      | (with_reducible exact slab_Range.mono _ _ _ _ _ _ _ _ _ _ _ _ _)
      | (with_reducible exact LeO.refl _)
      | (with_reducible exact LeO.none _)
      | (with_reducible refine LeO.ite ?_ ?_)
      | (with_reducible refine LeO.bind ?_ (fun _ => ?_))
      | exact slab_Range.mono _ _ _ _ _ _ _ _ _ _ _ _ _
      | exact LeO.none _
      | refine LeO.ite ?_ ?_
      | refine LeO.bind ?_ (fun _ => ?_)
set_option maxHeartbeats 8000000 in
set_option maxRecDepth 100000 in
theorem relievolaw04_alive.calls (k : Nat)  (r : Bool) (w : World) (h : relievolaw04_alive.f k  = some r) :
    Calls Try.prog 31 #[] w fun e w' => e = .returned (.bool r) ∧ Below w.heap.size w w' := by
 have hu23 := Try.underlying23
 have hu56 := Try.underlying56
 have hu28 := Try.underlying28
 have HB := Aside0.mk (Below.refl w.heap.size w)
 have H : ((slab_Range.f k 0 0 0 2 0 0 3 0 0 5 1 1).bind fun bt627 => (if bt627.2.2.2.2.1 = true then (if bt627.2.2.2.2.2 = 0 then (if (bt627.1 == 3 && (bt627.2.1 == 2)) = true then (some (bt627.2.2.1 == 5 && (bt627.2.2.2.1 == 2))) else (some false)) else (some false)) else (some false))) = some r := h
 clear h
 replace H := Option.bind_eq_some_iff.mp H
 obtain ⟨⟨t627, t628, t629, t630, t631, t632⟩, A10, H⟩ := H
 replace H : (if t631 = true then (if t632 = 0 then (if (t627 == 3 && (t628 == 2)) = true then (some (t629 == 5 && (t630 == 2))) else (some false)) else (some false)) else (some false)) = some r := H
 have A1 := Aside0.mk A10
 clear A10
 by_cases c2 : t631 = true
 ·subst c2
  have H1 : (if t632 = 0 then (if (t627 == 3 && (t628 == 2)) = true then (some (t629 == 5 && (t630 == 2))) else (some false)) else (some false)) = some r := by rw [if_pos rfl] at H; exact H
  clear H
  have H := H1
  clear H1
  by_cases c3 : t632 = 0
  ·rw [if_pos c3] at H
   have c3b0 : (t632 == 0) = true := beq_iff_eq.mpr c3
   have c3b1 : (t632 != 0) = false := bne_eq_false_iff_eq.mpr c3
   clear c3
   by_cases c4 : (t627 == 3 && (t628 == 2)) = true
   ·rw [if_pos c4] at H
    have c4b0 : (t627 == 3 && (t628 == 2)) = true := c4
    (try (have c4b1 : decide (t627 = 3 && (t628 == 2)) = true := by simpa using c4))
    (try (have c4b2 : (t627 == 3 && (t628 == 2)) = true := by simpa using c4))
    clear c4
    obtain rfl := Option.some.inj H
    go_enter Try.func31, Try.ntmps31
    go_wp2_with (first | ((with_reducible refine gate_callee (f := 32) rfl ?_); refine goesL_ (some 11) rfl rfl Try.func32 (by kernel_rfl) rfl #[.agg #[.int .i64 0, .int .i64 0, .int .i64 0], .agg #[.int .i64 2, .int .i64 0, .int .i64 0], .agg #[.int .i64 3, .int .i64 0, .int .i64 0, .int .i64 5, .int .i64 1, .int .i64 1]] rfl (by (try simp only [List.map_toArray, List.map_cons, List.map_nil]); first | done | rfl | (simp only [List.length_drop, List.length_take]; rfl)) ?_; (with_reducible refine (slab_Range.calls k 0 0 0 2 0 0 3 0 0 5 1 1 t627 t628 t629 t630 true t632 _ A1.out).mono ?_); rintro e w5 ⟨rfl, hb⟩; refine ⟨_, rfl, ?_⟩; replace HB := Aside0.mk (below_step (HB.out) hb); (try clear hb); (try clear hb2); (try clear hk); (try clear hi)) | ((with_reducible refine gate_dst (N := 1) rfl ?_); refine box_event ?hg (N := 1) ?hd (cs := #[.int .i64 0, .int .i64 0]) (t := 28) ?hr ?_; (case hd => rfl); (case hg => rfl); (case hr => first | (go_simp; done) | (go_simp; rfl)); intro gb633 hg w6 hbox hb; have BK633 := Aside0.mk (hbox); have GE633 := Aside0.mk (bG hg (HB.out)); replace HB := Aside0.mk (below_step (HB.out) hb); clear hb hbox hg) | ((with_reducible refine gate_dst (N := 2) rfl ?_); refine box_event ?hg (N := 2) ?hd (cs := #[.int .i64 0, .int .i64 0]) (t := 28) ?hr ?_; (case hd => rfl); (case hg => rfl); (case hr => first | (go_simp; done) | (go_simp; rfl)); intro gb634 hg w7 hbox hb; have BK634 := Aside0.mk (hbox); have GE634 := Aside0.mk (bG hg (HB.out)); have NB633_634 := cN hg BK633; have NB634_633 := cM hg BK633; replace BK633 := cB hb BK633; replace HB := Aside0.mk (below_step (HB.out) hb); clear hb hbox hg; have hnb8 := NB633_634.out; have hnc8 := NB634_633.out; obtain ⟨hcz9_0, hcz9_1⟩ := cells2 BK633.out; have hfz9_0 := blk_frozen BK633.out 0; have hfz9_1 := blk_frozen BK633.out 1; obtain ⟨hcz10_0, hcz10_1⟩ := cells2 BK634.out; have hfz10_0 := blk_frozen BK634.out 0; have hfz10_1 := blk_frozen BK634.out 1))
    go_ret
    exact ⟨by first | rfl | (simp [errW_none, errW_some] <;> rfl) | (simp [*, errW_none, errW_some] <;> rfl), (below_set (below_set (below_set (below_set HB.out GE633.out) GE633.out) GE634.out) GE634.out)⟩
   rw [if_neg c4] at H
   have c4b0 : (t627 == 3 && (t628 == 2)) = false := by simpa using c4
   (try (have c4b1 : decide (t627 = 3 && (t628 == 2)) = false := by simpa using c4))
   (try (have c4b2 : (t627 == 3 && (t628 == 2)) = false := by simpa using c4))
   (try (have c4b3 : ¬ (t627 = 3 && (t628 == 2)) := by simpa using c4))
   clear c4
   obtain rfl := Option.some.inj H
   go_enter Try.func31, Try.ntmps31
   go_wp2_with (first | ((with_reducible refine gate_callee (f := 32) rfl ?_); refine goesL_ (some 11) rfl rfl Try.func32 (by kernel_rfl) rfl #[.agg #[.int .i64 0, .int .i64 0, .int .i64 0], .agg #[.int .i64 2, .int .i64 0, .int .i64 0], .agg #[.int .i64 3, .int .i64 0, .int .i64 0, .int .i64 5, .int .i64 1, .int .i64 1]] rfl (by (try simp only [List.map_toArray, List.map_cons, List.map_nil]); first | done | rfl | (simp only [List.length_drop, List.length_take]; rfl)) ?_; (with_reducible refine (slab_Range.calls k 0 0 0 2 0 0 3 0 0 5 1 1 t627 t628 t629 t630 true t632 _ A1.out).mono ?_); rintro e w11 ⟨rfl, hb⟩; refine ⟨_, rfl, ?_⟩; replace HB := Aside0.mk (below_step (HB.out) hb); (try clear hb); (try clear hb2); (try clear hk); (try clear hi)) | ((with_reducible refine gate_dst (N := 1) rfl ?_); refine box_event ?hg (N := 1) ?hd (cs := #[.int .i64 0, .int .i64 0]) (t := 28) ?hr ?_; (case hd => rfl); (case hg => rfl); (case hr => first | (go_simp; done) | (go_simp; rfl)); intro gb633 hg w12 hbox hb; have BK633 := Aside0.mk (hbox); have GE633 := Aside0.mk (bG hg (HB.out)); replace HB := Aside0.mk (below_step (HB.out) hb); clear hb hbox hg) | ((with_reducible refine gate_dst (N := 2) rfl ?_); refine box_event ?hg (N := 2) ?hd (cs := #[.int .i64 0, .int .i64 0]) (t := 28) ?hr ?_; (case hd => rfl); (case hg => rfl); (case hr => first | (go_simp; done) | (go_simp; rfl)); intro gb634 hg w13 hbox hb; have BK634 := Aside0.mk (hbox); have GE634 := Aside0.mk (bG hg (HB.out)); have NB633_634 := cN hg BK633; have NB634_633 := cM hg BK633; replace BK633 := cB hb BK633; replace HB := Aside0.mk (below_step (HB.out) hb); clear hb hbox hg; have hnb14 := NB633_634.out; have hnc14 := NB634_633.out; obtain ⟨hcz15_0, hcz15_1⟩ := cells2 BK633.out; have hfz15_0 := blk_frozen BK633.out 0; have hfz15_1 := blk_frozen BK633.out 1; obtain ⟨hcz16_0, hcz16_1⟩ := cells2 BK634.out; have hfz16_0 := blk_frozen BK634.out 0; have hfz16_1 := blk_frozen BK634.out 1))
   go_ret
   exact ⟨by first | rfl | (simp [errW_none, errW_some] <;> rfl) | (simp [*, errW_none, errW_some] <;> rfl), (below_set (below_set (below_set (below_set HB.out GE633.out) GE633.out) GE634.out) GE634.out)⟩
  rw [if_neg c3] at H
  have c3b0 : (t632 == 0) = false := beq_eq_false_iff_ne.mpr c3
  have c3b1 : (t632 != 0) = true := bne_iff_ne.mpr c3
  obtain rfl := Option.some.inj H
  go_enter Try.func31, Try.ntmps31
  go_wp2_with (first | ((with_reducible refine gate_callee (f := 32) rfl ?_); refine goesL_ (some 11) rfl rfl Try.func32 (by kernel_rfl) rfl #[.agg #[.int .i64 0, .int .i64 0, .int .i64 0], .agg #[.int .i64 2, .int .i64 0, .int .i64 0], .agg #[.int .i64 3, .int .i64 0, .int .i64 0, .int .i64 5, .int .i64 1, .int .i64 1]] rfl (by (try simp only [List.map_toArray, List.map_cons, List.map_nil]); first | done | rfl | (simp only [List.length_drop, List.length_take]; rfl)) ?_; (with_reducible refine (slab_Range.calls k 0 0 0 2 0 0 3 0 0 5 1 1 t627 t628 t629 t630 true t632 _ A1.out).mono ?_); rintro e w17 ⟨rfl, hb⟩; refine ⟨_, rfl, ?_⟩; replace HB := Aside0.mk (below_step (HB.out) hb); (try clear hb); (try clear hb2); (try clear hk); (try clear hi)) | ((with_reducible refine gate_dst (N := 1) rfl ?_); refine box_event ?hg (N := 1) ?hd (cs := #[.int .i64 0, .int .i64 0]) (t := 28) ?hr ?_; (case hd => rfl); (case hg => rfl); (case hr => first | (go_simp; done) | (go_simp; rfl)); intro gb633 hg w18 hbox hb; have BK633 := Aside0.mk (hbox); have GE633 := Aside0.mk (bG hg (HB.out)); replace HB := Aside0.mk (below_step (HB.out) hb); clear hb hbox hg) | ((with_reducible refine gate_dst (N := 2) rfl ?_); refine box_event ?hg (N := 2) ?hd (cs := #[.int .i64 0, .int .i64 0]) (t := 28) ?hr ?_; (case hd => rfl); (case hg => rfl); (case hr => first | (go_simp; done) | (go_simp; rfl)); intro gb634 hg w19 hbox hb; have BK634 := Aside0.mk (hbox); have GE634 := Aside0.mk (bG hg (HB.out)); have NB633_634 := cN hg BK633; have NB634_633 := cM hg BK633; replace BK633 := cB hb BK633; replace HB := Aside0.mk (below_step (HB.out) hb); clear hb hbox hg; have hnb20 := NB633_634.out; have hnc20 := NB634_633.out; obtain ⟨hcz21_0, hcz21_1⟩ := cells2 BK633.out; have hfz21_0 := blk_frozen BK633.out 0; have hfz21_1 := blk_frozen BK633.out 1; obtain ⟨hcz22_0, hcz22_1⟩ := cells2 BK634.out; have hfz22_0 := blk_frozen BK634.out 0; have hfz22_1 := blk_frozen BK634.out 1))
  go_ret
  exact ⟨by first | rfl | (simp [errW_none, errW_some] <;> rfl) | (simp [*, errW_none, errW_some] <;> rfl), (below_set (below_set (below_set (below_set HB.out GE633.out) GE633.out) GE634.out) GE634.out)⟩
 replace c2 := Bool.eq_false_iff.mpr c2
 subst c2
 have H1 : (some false) = some r := by rw [if_neg (show ¬ (false = true) by decide)] at H; exact H
 clear H
 have H := H1
 clear H1
 obtain rfl := Option.some.inj H
 go_enter Try.func31, Try.ntmps31
 go_wp2_with (first | ((with_reducible refine gate_callee (f := 32) rfl ?_); refine goesL_ (some 11) rfl rfl Try.func32 (by kernel_rfl) rfl #[.agg #[.int .i64 0, .int .i64 0, .int .i64 0], .agg #[.int .i64 2, .int .i64 0, .int .i64 0], .agg #[.int .i64 3, .int .i64 0, .int .i64 0, .int .i64 5, .int .i64 1, .int .i64 1]] rfl (by (try simp only [List.map_toArray, List.map_cons, List.map_nil]); first | done | rfl | (simp only [List.length_drop, List.length_take]; rfl)) ?_; (with_reducible refine (slab_Range.calls k 0 0 0 2 0 0 3 0 0 5 1 1 t627 t628 t629 t630 false t632 _ A1.out).mono ?_); rintro e w23 ⟨rfl, hb⟩; refine ⟨_, rfl, ?_⟩; replace HB := Aside0.mk (below_step (HB.out) hb); (try clear hb); (try clear hb2); (try clear hk); (try clear hi)) | ((with_reducible refine gate_dst (N := 1) rfl ?_); refine box_event ?hg (N := 1) ?hd (cs := #[.int .i64 0, .int .i64 0]) (t := 28) ?hr ?_; (case hd => rfl); (case hg => rfl); (case hr => first | (go_simp; done) | (go_simp; rfl)); intro gb633 hg w24 hbox hb; have BK633 := Aside0.mk (hbox); have GE633 := Aside0.mk (bG hg (HB.out)); replace HB := Aside0.mk (below_step (HB.out) hb); clear hb hbox hg) | ((with_reducible refine gate_dst (N := 2) rfl ?_); refine box_event ?hg (N := 2) ?hd (cs := #[.int .i64 0, .int .i64 0]) (t := 28) ?hr ?_; (case hd => rfl); (case hg => rfl); (case hr => first | (go_simp; done) | (go_simp; rfl)); intro gb634 hg w25 hbox hb; have BK634 := Aside0.mk (hbox); have GE634 := Aside0.mk (bG hg (HB.out)); have NB633_634 := cN hg BK633; have NB634_633 := cM hg BK633; replace BK633 := cB hb BK633; replace HB := Aside0.mk (below_step (HB.out) hb); clear hb hbox hg; have hnb26 := NB633_634.out; have hnc26 := NB634_633.out; obtain ⟨hcz27_0, hcz27_1⟩ := cells2 BK633.out; have hfz27_0 := blk_frozen BK633.out 0; have hfz27_1 := blk_frozen BK633.out 1; obtain ⟨hcz28_0, hcz28_1⟩ := cells2 BK634.out; have hfz28_0 := blk_frozen BK634.out 0; have hfz28_1 := blk_frozen BK634.out 1))
 go_ret
 exact ⟨by first | rfl | (simp [errW_none, errW_some] <;> rfl) | (simp [*, errW_none, errW_some] <;> rfl), (below_set (below_set (below_set (below_set HB.out GE633.out) GE633.out) GE634.out) GE634.out)⟩

end Go.Proofs.Ytihklolcnfbbjaa.G
