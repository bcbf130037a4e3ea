/- What the sums of package wide answer: the words of math/bits under them. -/
import Derived.Test.YtmkdnoikbefimaaGx0
import Derived.Laws.Externs
import Derived.Laws.BitsLemmas
namespace Go.Proofs.Ytmkdnoikbefimaa.G
open Go.RowKit Go.Proofs.YtmkdnoikbefimaaW.PrintWords Go.Proofs.YtmkdnoikbefimaaW.PrintLast Go.Proofs.YtmkdnoikbefimaaW.PrintMore
set_option linter.unusedVariables false
set_option linter.unusedSimpArgs false

theorem add64_run (x y c : Int) (hx : 0 ≤ x) (hy : 0 ≤ y) (hc0 : 0 ≤ c) (hc : c ≤ 1) (w : World) :
    (callFunc 49 #[.int .u64 x, .int .u64 y, .int .u64 c]).run Try.prog w = .ok (.value (.tuple #[.int .u64 ((x + y + c) % 18446744073709551616), .int .u64 ((x + y + c) / 18446744073709551616)])) w := by
  rw [run_callFunc_extern Try.func49 (by kernel_rfl) (by kernel_rfl) (by kernel_rfl) (e := add64Entry) (by kernel_rfl), run_add64 x y c hx hy hc0 hc]
  rfl
/-- The lowest 128 bits of a sum. -/
def wide_sum.f (a0_0 a0_1 a1_0 a1_1 : Int) : Option (Int × Int) :=
  if (0 ≤ a0_1 ∧ a0_1 < 18446744073709551616) ∧ (0 ≤ a1_1 ∧ a1_1 < 18446744073709551616) then some (wrap64 ((a0_0 % 18446744073709551616 + a1_0 % 18446744073709551616 + (a0_1 + a1_1) / 18446744073709551616) % 18446744073709551616), (a0_1 + a1_1) % 18446744073709551616) else none
set_option maxHeartbeats 600000 in
set_option maxRecDepth 100000 in
theorem wide_sum.calls (a0_0 : Int) (a0_1 : Int) (a1_0 : Int) (a1_1 : Int) (r1 : Int) (r2 : Int) (w : World) (h : wide_sum.f a0_0 a0_1 a1_0 a1_1 = some (r1, r2)) :
    Calls Try.prog 38 #[.agg #[.int .i64 a0_0, .int .u64 a0_1], .agg #[.int .i64 a1_0, .int .u64 a1_1]] w fun e w' => e = .returned (.agg #[.int .i64 r1, .int .u64 r2]) ∧ Below w.heap.size w w' := by
 have hu30 := Try.underlying30
 have hr : (0 ≤ a0_1 ∧ a0_1 < 18446744073709551616) ∧ (0 ≤ a1_1 ∧ a1_1 < 18446744073709551616) := by
  unfold wide_sum.f at h
  split at h
  · assumption
  · simp at h
 unfold wide_sum.f at h
 rw [if_pos hr] at h
 simp only [Option.some.injEq, Prod.mk.injEq] at h
 obtain ⟨rfl, rfl⟩ := h
 have C0 := fun w => add64_run a0_1 a1_1 0 hr.1.1 hr.2.1 (by decide) (by decide) w
 have hc0 : 0 ≤ (a0_1 + a1_1) / 18446744073709551616 := by omega
 have hc1 : (a0_1 + a1_1) / 18446744073709551616 ≤ 1 := by omega
 have C1 := fun w => add64_run (a0_0 % 18446744073709551616) (a1_0 % 18446744073709551616) ((a0_1 + a1_1) / 18446744073709551616) (by omega) (by omega) hc0 hc1 w
 have u0 : IntKind.u64.wrap a0_0 = a0_0 % 18446744073709551616 := rfl
 have u1 : IntKind.u64.wrap a1_0 = a1_0 % 18446744073709551616 := rfl
 rw [Int.add_zero] at C0
 clear hr hc0 hc1
 generalize a0_0 % 18446744073709551616 = x at *
 generalize a1_0 % 18446744073709551616 = y at *
 generalize (a0_1 + a1_1) / 18446744073709551616 = c at *
 generalize (a0_1 + a1_1) % 18446744073709551616 = lo at *
 generalize (x + y + c) % 18446744073709551616 = hi at *
 generalize (x + y + c) / 18446744073709551616 = o at *
 have HB := Aside0.mk (Below.refl w.heap.size w)
 go_enter Try.func38, Try.ntmps38
 go_wp2_with (first
  | ((with_reducible refine gate_dst (N := 2) rfl ?_); refine box_event ?hg (N := 2) ?hd (cs := #[.int .i64 a0_0, .int .u64 a0_1]) (t := 30) ?hr ?_; (case hd => rfl); (case hg => rfl); (case hr => first | (go_simp; done) | (go_simp; rfl)); intro g2 hg w3 hbox hb; have BK2 := Aside0.mk (hbox); have GE2 := Aside0.mk (bG hg (HB.out)); replace HB := Aside0.mk (below_step (HB.out) hb); clear hb hbox hg)
  | ((with_reducible refine gate_dst (N := 3) rfl ?_); refine box_event ?hg (N := 3) ?hd (cs := #[.int .i64 a1_0, .int .u64 a1_1]) (t := 30) ?hr ?_; (case hd => rfl); (case hg => rfl); (case hr => first | (go_simp; done) | (go_simp; rfl)); intro g3 hg w4 hbox hb; have BK3 := Aside0.mk (hbox); have GE3 := Aside0.mk (bG hg (HB.out)); replace HB := Aside0.mk (below_step (HB.out) hb); replace BK2 := cB hb BK2; clear hb hbox hg)
  | ((with_reducible refine gate_dst (N := 4) rfl ?_); refine box_event ?hg (N := 4) ?hd (cs := #[.int .i64 0, .int .u64 0]) (t := 30) ?hr ?_; (case hd => rfl); (case hg => rfl); (case hr => first | (go_simp; done) | (go_simp; rfl)); intro g4 hg w5 hbox hb; have BK4 := Aside0.mk (hbox); have GE4 := Aside0.mk (bG hg (HB.out)); replace HB := Aside0.mk (below_step (HB.out) hb); replace BK2 := cB hb BK2; replace BK3 := cB hb BK3; clear hb hbox hg; obtain ⟨k0, k1⟩ := cells2 BK2.out; obtain ⟨l0, l1⟩ := cells2 BK3.out; obtain ⟨q0, q1⟩ := cells2 BK4.out; have z0 := blk_frozen BK4.out 0; have z1 := blk_frozen BK4.out 1))
 refine bodyPost_ret (results_cell_row rfl _ _ g4 30 #[.int .i64 (wrap64 hi), .int .u64 lo] (0, 0) _ rfl (blk_put (cs' := #[.int .i64 (wrap64 hi), .int .u64 lo]) (blk_put BK4.out 0 _ rfl) 1 _ rfl) Try.underlying30 rfl (by kernel_rfl)) rfl ?_
 exact ⟨rfl, below_set (below_set HB.out GE4.out) GE4.out⟩
end Go.Proofs.Ytmkdnoikbefimaa.G
