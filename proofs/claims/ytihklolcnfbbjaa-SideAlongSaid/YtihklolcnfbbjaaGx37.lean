-- Written by a program of this session (wip/gen), out of the translation; Lean checks it.
import Derived.Test.YtihklolcnfbbjaaGx0
namespace Go.Proofs.Ytihklolcnfbbjaa.G
open Go.RowKit Go.Proofs.YtihklolcnfbbjaaW.PrintWords Go.Proofs.YtihklolcnfbbjaaW.PrintLast Go.Proofs.YtihklolcnfbbjaaW.PrintMore
attribute [local go_sem high] idx35_0 idx35_1 idx35_2 idx35_3 idx41_0 idx41_1 idx41_2 idx84_0 idx84_1 idx84_2 idx88_0 idx88_1 idx88_2 wl0 wl1 wl2 wl3 wl4 wl5 tm0_3 tm1_3 tm2_3 tm3_3 tm4_3 tm5_3
attribute [local go_sem] max2_int min2_int max_two min_two max_three min_three max_four min_four   -- for this text's walks alone
set_option linter.unusedVariables false
set_option linter.unusedSimpArgs false

/-! ### relievoref02_Scale: function 29 -/
def relievoref02_Scale.f (a0_0 : Int) (a0_1 : Int) (a0_2 : Int) (a1 : Int) : Option (Int × Int × Int) := some (wrap64 (a0_0 * a1), wrap64 (a0_1 * a1), wrap64 (a0_2 * a1))
set_option maxHeartbeats 8000000 in
set_option maxRecDepth 100000 in
theorem relievoref02_Scale.calls (a0_0 : Int) (a0_1 : Int) (a0_2 : Int) (a1 : Int) (r1 : Int) (r2 : Int) (r3 : Int) (w : World) (h : relievoref02_Scale.f a0_0 a0_1 a0_2 a1 = some (r1, r2, r3)) :
    Calls Try.prog 29 #[.agg #[.int .i64 a0_0, .int .i64 a0_1, .int .i64 a0_2], .int .i64 a1] w fun e w' => e = .returned (.agg #[.int .i64 r1, .int .i64 r2, .int .i64 r3]) ∧ Below w.heap.size w w' := by
 have hu23 := Try.underlying23
 have HB := Aside0.mk (Below.refl w.heap.size w)
 have H : (some (wrap64 (a0_0 * a1), wrap64 (a0_1 * a1), wrap64 (a0_2 * a1))) = some (r1, r2, r3) := h
 clear h
 simp only [Option.some.injEq, Prod.mk.injEq] at H
 obtain ⟨rfl, rfl, rfl⟩ := H
 go_enter Try.func29, Try.ntmps29
 go_wp2_with (first | ((with_reducible refine gate_dst (N := 2) rfl ?_); refine box_event ?hg (N := 2) ?hd (cs := #[.int .i64 a0_0, .int .i64 a0_1, .int .i64 a0_2]) (t := 23) ?hr ?_; (case hd => rfl); (case hg => rfl); (case hr => first | (go_simp; done) | (go_simp; rfl)); intro gb427 hg w3 hbox hb; have BK427 := Aside0.mk (hbox); have GE427 := Aside0.mk (bG hg (HB.out)); replace HB := Aside0.mk (below_step (HB.out) hb); clear hb hbox hg) | ((with_reducible refine gate_dst (N := 4) rfl ?_); refine box_event ?hg (N := 4) ?hd (cs := #[.int .i64 0, .int .i64 0, .int .i64 0]) (t := 23) ?hr ?_; (case hd => rfl); (case hg => rfl); (case hr => first | (go_simp; done) | (go_simp; rfl)); intro gb428 hg w4 hbox hb; have BK428 := Aside0.mk (hbox); have GE428 := Aside0.mk (bG hg (HB.out)); have NB427_428 := cN hg BK427; have NB428_427 := cM hg BK427; replace BK427 := cB hb BK427; replace HB := Aside0.mk (below_step (HB.out) hb); clear hb hbox hg; have hnb5 := NB427_428.out; have hnc5 := NB428_427.out; obtain ⟨hcz6_0, hcz6_1, hcz6_2⟩ := cells3 BK427.out; obtain ⟨hcz7_0, hcz7_1, hcz7_2⟩ := cells3 BK428.out; have hfz7_0 := blk_frozen BK428.out 0; have hfz7_1 := blk_frozen BK428.out 1; have hfz7_2 := blk_frozen BK428.out 2))
 refine bodyPost_ret (results_cell_row rfl _ _ gb428 23 #[.int .i64 (wrap64 (a0_0 * a1)), .int .i64 (wrap64 (a0_1 * a1)), .int .i64 (wrap64 (a0_2 * a1))] (0, 0) _ rfl ((blk_put (cs' := #[.int .i64 (wrap64 (a0_0 * a1)), .int .i64 (wrap64 (a0_1 * a1)), .int .i64 (wrap64 (a0_2 * a1))]) (blk_put (blk_put BK428.out 0 _ rfl) 1 _ rfl) 2 _ rfl)) Try.underlying23 rfl (by kernel_rfl)) rfl ?_
 exact ⟨by first | rfl | (simp [errW_none, errW_some] <;> rfl) | (simp [*, errW_none, errW_some] <;> rfl), (below_set (below_set (below_set HB.out GE428.out) GE428.out) GE428.out)⟩

end Go.Proofs.Ytihklolcnfbbjaa.G
