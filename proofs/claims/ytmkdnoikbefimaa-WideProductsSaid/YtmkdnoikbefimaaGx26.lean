-- Written by a program of this session (wip/gen), out of the translation; Lean checks it.
import Derived.Test.YtmkdnoikbefimaaTurned
import Derived.Test.YtmkdnoikbefimaaGx0
namespace Go.Proofs.Ytmkdnoikbefimaa.G
open Go.RowKit Go.Proofs.YtmkdnoikbefimaaW.PrintWords Go.Proofs.YtmkdnoikbefimaaW.PrintLast Go.Proofs.YtmkdnoikbefimaaW.PrintMore
attribute [local go_sem] max2_int min2_int max_two min_two max_three min_three max_four min_four   -- for this text's walks alone
set_option linter.unusedVariables false
set_option linter.unusedSimpArgs false

/-! ### wide_Neg: function 16 -/
def wide_Neg.f (a0_0 : Int) (a0_1 : Int) : Option (Int × Int × Bool) := if a0_0 = (-9223372036854775808) then (if a0_1 = 0 then (some (0, 0, false)) else ((wide_turned.f a0_0 a0_1).bind fun bt198 => (some (bt198.1, bt198.2, true)))) else ((wide_turned.f a0_0 a0_1).bind fun bt200 => (some (bt200.1, bt200.2, true)))
set_option maxHeartbeats 8000000 in
set_option maxRecDepth 100000 in
theorem wide_Neg.calls (a0_0 : Int) (a0_1 : Int) (r1 : Int) (r2 : Int) (r3 : Bool) (w : World) (h : wide_Neg.f a0_0 a0_1 = some (r1, r2, r3)) :
    Calls Try.prog 16 #[.agg #[.int .i64 a0_0, .int .u64 a0_1]] w fun e w' => e = .returned (.tuple #[.agg #[.int .i64 r1, .int .u64 r2], .bool r3]) ∧ Below w.heap.size w w' := by
 have hu30 := Try.underlying30
 have HB := Aside0.mk (Below.refl w.heap.size w)
 have H : (if a0_0 = (-9223372036854775808) then (if a0_1 = 0 then (some (0, 0, false)) else ((wide_turned.f a0_0 a0_1).bind fun bt198 => (some (bt198.1, bt198.2, true)))) else ((wide_turned.f a0_0 a0_1).bind fun bt200 => (some (bt200.1, bt200.2, true)))) = some (r1, r2, r3) := h
 clear h
 by_cases c2 : a0_0 = (-9223372036854775808)
 ·rw [if_pos c2] at H
  have c2b0 : (a0_0 == (-9223372036854775808)) = true := beq_iff_eq.mpr c2
  have c2b1 : (a0_0 != (-9223372036854775808)) = false := bne_eq_false_iff_eq.mpr c2
  clear c2
  by_cases c3 : a0_1 = 0
  ·rw [if_pos c3] at H
   have c3b0 : (a0_1 == 0) = true := beq_iff_eq.mpr c3
   have c3b1 : (a0_1 != 0) = false := bne_eq_false_iff_eq.mpr c3
   clear c3
   simp only [Option.some.injEq, Prod.mk.injEq] at H
   obtain ⟨rfl, rfl, rfl⟩ := H
   go_enter Try.func16, Try.ntmps16
   go_wp2_with (first | ((with_reducible refine gate_dst (N := 1) rfl ?_); refine box_event ?hg (N := 1) ?hd (cs := #[.int .i64 a0_0, .int .u64 a0_1]) (t := 30) ?hr ?_; (case hd => rfl); (case hg => rfl); (case hr => first | (go_simp; done) | (go_simp; rfl)); intro gb196 hg w4 hbox hb; have BK196 := Aside0.mk (hbox); have GE196 := Aside0.mk (bG hg (HB.out)); replace HB := Aside0.mk (below_step (HB.out) hb); clear hb hbox hg) | ((with_reducible refine gate_dst (N := 2) rfl ?_); refine box_event ?hg (N := 2) ?hd (cs := #[.int .i64 0, .int .u64 0]) (t := 30) ?hr ?_; (case hd => rfl); (case hg => rfl); (case hr => first | (go_simp; done) | (go_simp; rfl)); intro gb197 hg w5 hbox hb; have BK197 := Aside0.mk (hbox); have GE197 := Aside0.mk (bG hg (HB.out)); have NB196_197 := cN hg BK196; have NB197_196 := cM hg BK196; replace BK196 := cB hb BK196; replace HB := Aside0.mk (below_step (HB.out) hb); clear hb hbox hg; have hnb6 := NB196_197.out; have hnc6 := NB197_196.out; obtain ⟨hcz7_0, hcz7_1⟩ := cells2 BK196.out; obtain ⟨hcz8_0, hcz8_1⟩ := cells2 BK197.out; have hfz8_0 := blk_frozen BK197.out 0; have hfz8_1 := blk_frozen BK197.out 1))
   refine bodyPost_ret (results_ct rfl _ _ gb197 30 #[.int .i64 0, .int .u64 0] (0, 0) _ rfl ((blk_put (cs' := #[.int .i64 0, .int .u64 0]) (blk_put BK197.out 0 _ rfl) 1 _ rfl)) Try.underlying30 rfl (by kernel_rfl)) rfl ?_
   exact ⟨by first | rfl | (simp [errW_none, errW_some] <;> rfl) | (simp [*, errW_none, errW_some] <;> rfl), (below_set (below_set HB.out GE197.out) GE197.out)⟩
  rw [if_neg c3] at H
  have c3b0 : (a0_1 == 0) = false := beq_eq_false_iff_ne.mpr c3
  have c3b1 : (a0_1 != 0) = true := bne_iff_ne.mpr c3
  replace H := Option.bind_eq_some_iff.mp H
  obtain ⟨⟨t198, t199⟩, A90, H⟩ := H
  replace H : (some (t198, t199, true)) = some (r1, r2, r3) := H
  have A9 := Aside0.mk A90
  clear A90
  simp only [Option.some.injEq, Prod.mk.injEq] at H
  obtain ⟨rfl, rfl, rfl⟩ := H
  go_enter Try.func16, Try.ntmps16
  go_wp2_with (first | ((with_reducible refine gate_dst (N := 1) rfl ?_); refine box_event ?hg (N := 1) ?hd (cs := #[.int .i64 a0_0, .int .u64 a0_1]) (t := 30) ?hr ?_; (case hd => rfl); (case hg => rfl); (case hr => first | (go_simp; done) | (go_simp; rfl)); intro gb196 hg w10 hbox hb; have BK196 := Aside0.mk (hbox); have GE196 := Aside0.mk (bG hg (HB.out)); replace HB := Aside0.mk (below_step (HB.out) hb); clear hb hbox hg) | ((with_reducible refine gate_dst (N := 2) rfl ?_); refine box_event ?hg (N := 2) ?hd (cs := #[.int .i64 0, .int .u64 0]) (t := 30) ?hr ?_; (case hd => rfl); (case hg => rfl); (case hr => first | (go_simp; done) | (go_simp; rfl)); intro gb197 hg w11 hbox hb; have BK197 := Aside0.mk (hbox); have GE197 := Aside0.mk (bG hg (HB.out)); have NB196_197 := cN hg BK196; have NB197_196 := cM hg BK196; replace BK196 := cB hb BK196; replace HB := Aside0.mk (below_step (HB.out) hb); clear hb hbox hg; have hnb12 := NB196_197.out; have hnc12 := NB197_196.out; obtain ⟨hcz13_0, hcz13_1⟩ := cells2 BK196.out) | ((with_reducible refine gate_callee (f := 37) rfl ?_); refine goesL_ (some 14) rfl rfl Try.func37 (by kernel_rfl) rfl #[.agg #[.int .i64 a0_0, .int .u64 a0_1]] rfl (by (try simp only [List.map_toArray, List.map_cons, List.map_nil]); first | done | rfl | (simp only [List.length_drop, List.length_take]; rfl)) ?_; (with_reducible refine (wide_turned.calls a0_0 a0_1 t198 t199 _ A9.out).mono ?_); rintro e w14 ⟨rfl, hb⟩; refine ⟨_, rfl, ?_⟩; replace BK196 := cB hb BK196; replace BK197 := cB hb BK197; replace HB := Aside0.mk (below_step (HB.out) hb); (try clear hb); (try clear hb2); (try clear hk); (try clear hi); obtain ⟨hcz15_0, hcz15_1⟩ := cells2 BK197.out; have hfz15_0 := blk_frozen BK197.out 0; have hfz15_1 := blk_frozen BK197.out 1))
  refine bodyPost_ret (results_ct rfl _ _ gb197 30 #[.int .i64 t198, .int .u64 t199] (0, 0) _ rfl ((blk_put (cs' := #[.int .i64 t198, .int .u64 t199]) (blk_put BK197.out 0 _ rfl) 1 _ rfl)) Try.underlying30 rfl (by kernel_rfl)) rfl ?_
  exact ⟨by first | rfl | (simp [errW_none, errW_some] <;> rfl) | (simp [*, errW_none, errW_some] <;> rfl), (below_set (below_set HB.out GE197.out) GE197.out)⟩
 rw [if_neg c2] at H
 have c2b0 : (a0_0 == (-9223372036854775808)) = false := beq_eq_false_iff_ne.mpr c2
 have c2b1 : (a0_0 != (-9223372036854775808)) = true := bne_iff_ne.mpr c2
 replace H := Option.bind_eq_some_iff.mp H
 obtain ⟨⟨t200, t201⟩, A160, H⟩ := H
 replace H : (some (t200, t201, true)) = some (r1, r2, r3) := H
 have A16 := Aside0.mk A160
 clear A160
 simp only [Option.some.injEq, Prod.mk.injEq] at H
 obtain ⟨rfl, rfl, rfl⟩ := H
 go_enter Try.func16, Try.ntmps16
 go_wp2_with (first | ((with_reducible refine gate_dst (N := 1) rfl ?_); refine box_event ?hg (N := 1) ?hd (cs := #[.int .i64 a0_0, .int .u64 a0_1]) (t := 30) ?hr ?_; (case hd => rfl); (case hg => rfl); (case hr => first | (go_simp; done) | (go_simp; rfl)); intro gb196 hg w17 hbox hb; have BK196 := Aside0.mk (hbox); have GE196 := Aside0.mk (bG hg (HB.out)); replace HB := Aside0.mk (below_step (HB.out) hb); clear hb hbox hg) | ((with_reducible refine gate_dst (N := 2) rfl ?_); refine box_event ?hg (N := 2) ?hd (cs := #[.int .i64 0, .int .u64 0]) (t := 30) ?hr ?_; (case hd => rfl); (case hg => rfl); (case hr => first | (go_simp; done) | (go_simp; rfl)); intro gb197 hg w18 hbox hb; have BK197 := Aside0.mk (hbox); have GE197 := Aside0.mk (bG hg (HB.out)); have NB196_197 := cN hg BK196; have NB197_196 := cM hg BK196; replace BK196 := cB hb BK196; replace HB := Aside0.mk (below_step (HB.out) hb); clear hb hbox hg; have hnb19 := NB196_197.out; have hnc19 := NB197_196.out; obtain ⟨hcz20_0, hcz20_1⟩ := cells2 BK196.out) | ((with_reducible refine gate_callee (f := 37) rfl ?_); refine goesL_ (some 14) rfl rfl Try.func37 (by kernel_rfl) rfl #[.agg #[.int .i64 a0_0, .int .u64 a0_1]] rfl (by (try simp only [List.map_toArray, List.map_cons, List.map_nil]); first | done | rfl | (simp only [List.length_drop, List.length_take]; rfl)) ?_; (with_reducible refine (wide_turned.calls a0_0 a0_1 t200 t201 _ A16.out).mono ?_); rintro e w21 ⟨rfl, hb⟩; refine ⟨_, rfl, ?_⟩; replace BK196 := cB hb BK196; replace BK197 := cB hb BK197; replace HB := Aside0.mk (below_step (HB.out) hb); (try clear hb); (try clear hb2); (try clear hk); (try clear hi); obtain ⟨hcz22_0, hcz22_1⟩ := cells2 BK197.out; have hfz22_0 := blk_frozen BK197.out 0; have hfz22_1 := blk_frozen BK197.out 1))
 refine bodyPost_ret (results_ct rfl _ _ gb197 30 #[.int .i64 t200, .int .u64 t201] (0, 0) _ rfl ((blk_put (cs' := #[.int .i64 t200, .int .u64 t201]) (blk_put BK197.out 0 _ rfl) 1 _ rfl)) Try.underlying30 rfl (by kernel_rfl)) rfl ?_
 exact ⟨by first | rfl | (simp [errW_none, errW_some] <;> rfl) | (simp [*, errW_none, errW_some] <;> rfl), (below_set (below_set HB.out GE197.out) GE197.out)⟩

end Go.Proofs.Ytmkdnoikbefimaa.G
