-- Written by a program of this session (wip/gen), out of the translation; Lean checks it.
import Derived.Test.YtfmbophennepdaaGx0
namespace Go.Proofs.Ytfmbophennepdaa.G
open Go.RowKit Go.Proofs.YtfmbophennepdaaW.PrintWords Go.Proofs.YtfmbophennepdaaW.PrintLast Go.Proofs.YtfmbophennepdaaW.PrintMore
attribute [local go_sem high] idx43_0 idx43_1 idx43_2 wl0 wl1 wl2 wl3 wl4 wl5 tm0_3 tm1_3 tm2_3 tm3_3 tm4_3 tm5_3
attribute [local go_sem] max2_int min2_int max_two min_two max_three min_three max_four min_four   -- for this text's walks alone
set_option linter.unusedVariables false
set_option linter.unusedSimpArgs false

/-! ### vec_Cross: function 25 -/
def vec_Cross.f (a0_0 : Int) (a0_1 : Int) (a0_2 : Int) (a1_0 : Int) (a1_1 : Int) (a1_2 : Int) : Option (Int × Int × Int) := some (wrap64 ((wrap64 (a0_1 * a1_2)) - (wrap64 (a0_2 * a1_1))), wrap64 ((wrap64 (a0_2 * a1_0)) - (wrap64 (a0_0 * a1_2))), wrap64 ((wrap64 (a0_0 * a1_1)) - (wrap64 (a0_1 * a1_0))))
set_option maxHeartbeats 8000000 in
set_option maxRecDepth 100000 in
theorem vec_Cross.calls (a0_0 : Int) (a0_1 : Int) (a0_2 : Int) (a1_0 : Int) (a1_1 : Int) (a1_2 : Int) (r1 : Int) (r2 : Int) (r3 : Int) (w : World) (h : vec_Cross.f a0_0 a0_1 a0_2 a1_0 a1_1 a1_2 = some (r1, r2, r3)) :
    Calls Try.prog 25 #[.agg #[.int .i64 a0_0, .int .i64 a0_1, .int .i64 a0_2], .agg #[.int .i64 a1_0, .int .i64 a1_1, .int .i64 a1_2]] w fun e w' => e = .returned (.agg #[.int .i64 r1, .int .i64 r2, .int .i64 r3]) ∧ Below w.heap.size w w' := by
 have hu23 := Try.underlying23
 have HB := Aside0.mk (Below.refl w.heap.size w)
 have H : (some (wrap64 ((wrap64 (a0_1 * a1_2)) - (wrap64 (a0_2 * a1_1))), wrap64 ((wrap64 (a0_2 * a1_0)) - (wrap64 (a0_0 * a1_2))), wrap64 ((wrap64 (a0_0 * a1_1)) - (wrap64 (a0_1 * a1_0))))) = some (r1, r2, r3) := h
 clear h
 simp only [Option.some.injEq, Prod.mk.injEq] at H
 obtain ⟨rfl, rfl, rfl⟩ := H
 go_enter Try.func25, Try.ntmps25
 go_wp2_with (first | ((with_reducible refine gate_dst (N := 2) rfl ?_); refine box_event ?hg (N := 2) ?hd (cs := #[.int .i64 a0_0, .int .i64 a0_1, .int .i64 a0_2]) (t := 23) ?hr ?_; (case hd => rfl); (case hg => rfl); (case hr => first | (go_simp; done) | (go_simp; rfl)); intro gb104 hg w3 hbox hb; have BK104 := Aside0.mk (hbox); have GE104 := Aside0.mk (bG hg (HB.out)); replace HB := Aside0.mk (below_step (HB.out) hb); clear hb hbox hg) | ((with_reducible refine gate_dst (N := 3) rfl ?_); refine box_event ?hg (N := 3) ?hd (cs := #[.int .i64 a1_0, .int .i64 a1_1, .int .i64 a1_2]) (t := 23) ?hr ?_; (case hd => rfl); (case hg => rfl); (case hr => first | (go_simp; done) | (go_simp; rfl)); intro gb105 hg w4 hbox hb; have BK105 := Aside0.mk (hbox); have GE105 := Aside0.mk (bG hg (HB.out)); have NB104_105 := cN hg BK104; have NB105_104 := cM hg BK104; replace BK104 := cB hb BK104; replace HB := Aside0.mk (below_step (HB.out) hb); clear hb hbox hg) | ((with_reducible refine gate_dst (N := 4) rfl ?_); refine box_event ?hg (N := 4) ?hd (cs := #[.int .i64 0, .int .i64 0, .int .i64 0]) (t := 23) ?hr ?_; (case hd => rfl); (case hg => rfl); (case hr => first | (go_simp; done) | (go_simp; rfl)); intro gb106 hg w5 hbox hb; have BK106 := Aside0.mk (hbox); have GE106 := Aside0.mk (bG hg (HB.out)); have NB104_106 := cN hg BK104; have NB106_104 := cM hg BK104; have NB105_106 := cN hg BK105; have NB106_105 := cM hg BK105; replace BK104 := cB hb BK104; replace BK105 := cB hb BK105; replace HB := Aside0.mk (below_step (HB.out) hb); clear hb hbox hg; have hnb6 := NB104_106.out; have hnc6 := NB106_104.out; obtain ⟨hcz7_0, hcz7_1, hcz7_2⟩ := cells3 BK104.out; have hnb8 := NB105_106.out; have hnc8 := NB106_105.out; obtain ⟨hcz9_0, hcz9_1, hcz9_2⟩ := cells3 BK105.out; obtain ⟨hcz10_0, hcz10_1, hcz10_2⟩ := cells3 BK106.out; have hfz10_0 := blk_frozen BK106.out 0; have hfz10_1 := blk_frozen BK106.out 1; have hfz10_2 := blk_frozen BK106.out 2))
 refine bodyPost_ret (results_cell_row rfl _ _ gb106 23 #[.int .i64 (wrap64 ((wrap64 (a0_1 * a1_2)) - (wrap64 (a0_2 * a1_1)))), .int .i64 (wrap64 ((wrap64 (a0_2 * a1_0)) - (wrap64 (a0_0 * a1_2)))), .int .i64 (wrap64 ((wrap64 (a0_0 * a1_1)) - (wrap64 (a0_1 * a1_0))))] (0, 0) _ rfl ((blk_put (cs' := #[.int .i64 (wrap64 ((wrap64 (a0_1 * a1_2)) - (wrap64 (a0_2 * a1_1)))), .int .i64 (wrap64 ((wrap64 (a0_2 * a1_0)) - (wrap64 (a0_0 * a1_2)))), .int .i64 (wrap64 ((wrap64 (a0_0 * a1_1)) - (wrap64 (a0_1 * a1_0))))]) (blk_put (blk_put BK106.out 0 _ rfl) 1 _ rfl) 2 _ rfl)) Try.underlying23 rfl (by kernel_rfl)) rfl ?_
 exact ⟨by first | rfl | (simp [errW_none, errW_some] <;> rfl) | (simp [*, errW_none, errW_some] <;> rfl), (below_set (below_set (below_set HB.out GE106.out) GE106.out) GE106.out)⟩

end Go.Proofs.Ytfmbophennepdaa.G
