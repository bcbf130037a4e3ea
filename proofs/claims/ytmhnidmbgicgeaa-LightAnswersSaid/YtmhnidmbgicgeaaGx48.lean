-- Written by a program of this session (wip/gen), out of the translation; Lean checks it.
import Derived.Test.YtmhnidmbgicgeaaGx0
import Derived.Test.YtmhnidmbgicgeaaGx47
namespace Go.Proofs.Ytmhnidmbgicgeaa.G
open Go.RowKit Go.Proofs.YtmhnidmbgicgeaaW.PrintWords Go.Proofs.YtmhnidmbgicgeaaW.PrintLast Go.Proofs.YtmhnidmbgicgeaaW.PrintMore
attribute [local go_sem] max2_int min2_int max_two min_two max_three min_three max_four min_four   -- for this text's walks alone
set_option linter.unusedVariables false
set_option linter.unusedSimpArgs false

/-! ### relievoref02_Cut: function 41 -/
def relievoref02_Cut.l0 : Nat → Int → Int → Int → Int → Option (Int × Int × Int)
  | 0, _, _, _, _ => none
  | k + 1, x1, x288000, x288001, x288002 => (relievoref02_Within.f x288000 x288001 x288002 x1).bind fun t289 => (if t289 = true then (some (x288000, x288001, x288002)) else (relievoref02_Cut.l0 k x1 (wrap64 (Int.tdiv x288000 2)) (wrap64 (Int.tdiv x288001 2)) (wrap64 (Int.tdiv x288002 2))))
def relievoref02_Cut.f (k : Nat) (a0_0 : Int) (a0_1 : Int) (a0_2 : Int) (a1 : Int) : Option (Int × Int × Int) := if a1 < 1 then (some (0, 0, 0)) else (relievoref02_Cut.l0 k a1 a0_0 a0_1 a0_2)
theorem relievoref02_Cut.mono_l : ∀ k, (∀ y0 y1 y2 y3, LeO (relievoref02_Cut.l0 k y0 y1 y2 y3) (relievoref02_Cut.l0 (k + 1) y0 y1 y2 y3))
  | 0 => fun _ _ _ _ r h => by simp [relievoref02_Cut.l0] at h
  | k + 1 => by
    have ih0 := relievoref02_Cut.mono_l k
    · intro y0 y1 y2 y3
      unfold relievoref02_Cut.l0
      repeat' first
      | (with_reducible exact ih0 _ _ _ _)
      | (with_reducible exact LeO.refl _)
      | (with_reducible exact LeO.none _)
      | (with_reducible refine LeO.ite ?_ ?_)
      | (with_reducible refine LeO.bind ?_ (fun _ => ?_))
      | exact ih0 _ _ _ _
      | exact LeO.none _
      | refine LeO.ite ?_ ?_
      | refine LeO.bind ?_ (fun _ => ?_)
theorem relievoref02_Cut.mono : ∀ a0 a1 a2 a3 k, LeO (relievoref02_Cut.f k a0 a1 a2 a3) (relievoref02_Cut.f (k + 1) a0 a1 a2 a3) := by
  intro a0 a1 a2 a3 k
  have ih0 := relievoref02_Cut.mono_l k
  unfold relievoref02_Cut.f
  repeat' first
      | (with_reducible exact ih0 _ _ _ _)
      | (with_reducible exact LeO.refl _)
      | (with_reducible exact LeO.none _)
      | (with_reducible refine LeO.ite ?_ ?_)
      | (with_reducible refine LeO.bind ?_ (fun _ => ?_))
      | exact ih0 _ _ _ _
      | exact LeO.none _
      | refine LeO.ite ?_ ?_
      | refine LeO.bind ?_ (fun _ => ?_)
set_option maxHeartbeats 8000000 in
set_option maxRecDepth 100000 in
theorem relievoref02_Cut.calls (k : Nat) (a0_0 : Int) (a0_1 : Int) (a0_2 : Int) (a1 : Int) (r1 : Int) (r2 : Int) (r3 : Int) (w : World) (h : relievoref02_Cut.f k a0_0 a0_1 a0_2 a1 = some (r1, r2, r3)) :
    Calls Try.prog 41 #[.agg #[.int .i64 a0_0, .int .i64 a0_1, .int .i64 a0_2], .int .i64 a1] w fun e w' => e = .returned (.agg #[.int .i64 r1, .int .i64 r2, .int .i64 r3]) ∧ Below w.heap.size w w' := by
 have hu26 := Try.underlying26
 have HB := Aside0.mk (Below.refl w.heap.size w)
 have H : (if a1 < 1 then (some (0, 0, 0)) else (relievoref02_Cut.l0 k a1 a0_0 a0_1 a0_2)) = some (r1, r2, r3) := h
 clear h
 by_cases c3 : a1 < 1
 ·rw [if_pos c3] at H
  have c3b0 : decide (a1 < 1) = true := decide_eq_true c3
  clear c3
  simp only [Option.some.injEq, Prod.mk.injEq] at H
  obtain ⟨rfl, rfl, rfl⟩ := H
  go_enter Try.func41, Try.ntmps41
  go_wp2_with (first | ((with_reducible refine gate_dst (N := 2) rfl ?_); refine box_event ?hg (N := 2) ?hd (cs := #[.int .i64 a0_0, .int .i64 a0_1, .int .i64 a0_2]) (t := 26) ?hr ?_; (case hd => rfl); (case hg => rfl); (case hr => first | (go_simp; done) | (go_simp; rfl)); intro gb287 hg w4 hbox hb; have BK287 := Aside0.mk (hbox); have GE287 := Aside0.mk (bG hg (HB.out)); replace HB := Aside0.mk (below_step (HB.out) hb); clear hb hbox hg) | ((with_reducible refine gate_dst (N := 4) rfl ?_); refine box_event ?hg (N := 4) ?hd (cs := #[.int .i64 0, .int .i64 0, .int .i64 0]) (t := 26) ?hr ?_; (case hd => rfl); (case hg => rfl); (case hr => first | (go_simp; done) | (go_simp; rfl)); intro gb288 hg w5 hbox hb; have BK288 := Aside0.mk (hbox); have GE288 := Aside0.mk (bG hg (HB.out)); have NB287_288 := cN hg BK287; have NB288_287 := cM hg BK287; replace BK287 := cB hb BK287; replace HB := Aside0.mk (below_step (HB.out) hb); clear hb hbox hg; have hnb6 := NB288_287.out; have hnc6 := NB287_288.out; obtain ⟨hcz7_0, hcz7_1, hcz7_2⟩ := cells3 BK288.out; have hfz7_0 := blk_frozen BK288.out 0; have hfz7_1 := blk_frozen BK288.out 1; have hfz7_2 := blk_frozen BK288.out 2))
  refine bodyPost_ret (results_cell_row rfl _ _ gb288 26 #[.int .i64 0, .int .i64 0, .int .i64 0] (0, 0) _ rfl ((blk_put (cs' := #[.int .i64 0, .int .i64 0, .int .i64 0]) (blk_put (blk_put BK288.out 0 _ rfl) 1 _ rfl) 2 _ rfl)) Try.underlying26 rfl (by kernel_rfl)) rfl ?_
  exact ⟨by first | rfl | (simp [errW_none, errW_some] <;> rfl) | (simp [*, errW_none, errW_some] <;> rfl), (below_set (below_set (below_set HB.out GE288.out) GE288.out) GE288.out)⟩
 rw [if_neg c3] at H
 have c3b0 : decide (a1 < 1) = false := decide_eq_false c3
 clear c3
 have H' := Aside0.mk H
 clear H
 go_enter Try.func41, Try.ntmps41
 go_wp2_with (first | ((with_reducible refine gate_dst (N := 2) rfl ?_); refine box_event ?hg (N := 2) ?hd (cs := #[.int .i64 a0_0, .int .i64 a0_1, .int .i64 a0_2]) (t := 26) ?hr ?_; (case hd => rfl); (case hg => rfl); (case hr => first | (go_simp; done) | (go_simp; rfl)); intro gb287 hg w8 hbox hb; have BK287 := Aside0.mk (hbox); have GE287 := Aside0.mk (bG hg (HB.out)); replace HB := Aside0.mk (below_step (HB.out) hb); clear hb hbox hg) | ((with_reducible refine gate_dst (N := 4) rfl ?_); refine box_event ?hg (N := 4) ?hd (cs := #[.int .i64 0, .int .i64 0, .int .i64 0]) (t := 26) ?hr ?_; (case hd => rfl); (case hg => rfl); (case hr => first | (go_simp; done) | (go_simp; rfl)); intro gb288 hg w9 hbox hb; have BK288 := Aside0.mk (hbox); have GE288 := Aside0.mk (bG hg (HB.out)); have NB287_288 := cN hg BK287; have NB288_287 := cM hg BK287; replace BK287 := cB hb BK287; replace HB := Aside0.mk (below_step (HB.out) hb); clear hb hbox hg))
 go_loopg [] k (fun kq w' => ∃ (x288000_1 : Int) (x288001_1 : Int) (x288002_1 : Int), Aside0 (relievoref02_Cut.l0 kq a1 x288000_1 x288001_1 x288002_1 = some (r1, r2, r3)) ∧ Aside0 (kq ≤ k) ∧ Aside0 (w'.heap[gb287]? = some (.cells #[.int .i64 x288000_1, .int .i64 x288001_1, .int .i64 x288002_1] 26 (0, 0))) ∧ Aside0 (w'.heap[gb288]? = some (.cells #[.int .i64 0, .int .i64 0, .int .i64 0] 26 (0, 0))) ∧ Aside0 (Below w.heap.size w w'))
 case atStart => exact ⟨(a0_0), (a0_1), (a0_2), H', ⟨Nat.le_refl _⟩, ⟨BK287.out⟩, ⟨BK288.out⟩, ⟨HB.out⟩⟩
 case round =>
  clear H'
  try clear c3
  try clear c3b0
  obtain ⟨x288000_1, x288001_1, x288002_1, HA, HK1, BK287, BK288, HB⟩ := hrel
  cases gk with
  | zero => exact absurd HA.out (by simp [relievoref02_Cut.l0])
  | succ k1 =>
   have H := HA.out
   clear HA
   simp only [relievoref02_Cut.l0] at H
   replace H := Option.bind_eq_some_iff.mp H
   obtain ⟨t289, A100, H⟩ := H
   replace H : (if t289 = true then (some (x288000_1, x288001_1, x288002_1)) else (relievoref02_Cut.l0 k1 a1 (wrap64 (Int.tdiv x288000_1 2)) (wrap64 (Int.tdiv x288001_1 2)) (wrap64 (Int.tdiv x288002_1 2)))) = some (r1, r2, r3) := H
   have A10 := Aside0.mk A100
   clear A100
   by_cases c11 : t289 = true
   ·subst c11
    have H1 : (some (x288000_1, x288001_1, x288002_1)) = some (r1, r2, r3) := by rw [if_pos rfl] at H; exact H
    clear H
    have H := H1
    clear H1
    simp only [Option.some.injEq, Prod.mk.injEq] at H
    obtain ⟨rfl, rfl, rfl⟩ := H
    have hnb12 := NB287_288.out
    have hnc12 := NB288_287.out
    obtain ⟨hcz13_0, hcz13_1, hcz13_2⟩ := cells3 BK287.out
    go_wp2_with (first | ((with_reducible refine gate_callee (f := 55) rfl ?_); refine goesL_ (some 10) rfl rfl Try.func55 (by kernel_rfl) rfl #[.agg #[.int .i64 x288000_1, .int .i64 x288001_1, .int .i64 x288002_1], .int .i64 a1] rfl (by (try simp only [List.map_toArray, List.map_cons, List.map_nil]); first | done | rfl | (simp only [List.length_drop, List.length_take]; rfl)) ?_; (with_reducible refine (relievoref02_Within.calls x288000_1 x288001_1 x288002_1 a1 true _ A10.out).mono ?_); rintro e w14 ⟨rfl, hb⟩; refine ⟨_, rfl, ?_⟩; replace BK287 := cB hb BK287; replace BK288 := cB hb BK288; replace HB := Aside0.mk (below_step (HB.out) hb); (try clear hb); (try clear hb2); (try clear hk); (try clear hi); obtain ⟨hcz15_0, hcz15_1, hcz15_2⟩ := cells3 BK287.out; obtain ⟨hcz16_0, hcz16_1, hcz16_2⟩ := cells3 BK288.out; have hfz16_0 := blk_frozen BK288.out 0; have hfz16_1 := blk_frozen BK288.out 1; have hfz16_2 := blk_frozen BK288.out 2))
    refine bodyPost_ret (results_cell_row rfl _ _ gb288 26 #[.int .i64 x288000_1, .int .i64 x288001_1, .int .i64 x288002_1] (0, 0) _ rfl ((blk_put (cs' := #[.int .i64 x288000_1, .int .i64 x288001_1, .int .i64 x288002_1]) (blk_put (blk_put BK288.out 0 _ rfl) 1 _ rfl) 2 _ rfl)) Try.underlying26 rfl (by kernel_rfl)) rfl ?_
    exact ⟨by first | rfl | (simp [errW_none, errW_some] <;> rfl) | (simp [*, errW_none, errW_some] <;> rfl), (below_set (below_set (below_set HB.out GE288.out) GE288.out) GE288.out)⟩
   replace c11 := Bool.eq_false_iff.mpr c11
   subst c11
   have H1 : (relievoref02_Cut.l0 k1 a1 (wrap64 (Int.tdiv x288000_1 2)) (wrap64 (Int.tdiv x288001_1 2)) (wrap64 (Int.tdiv x288002_1 2))) = some (r1, r2, r3) := by rw [if_neg (show ¬ (false = true) by decide)] at H; exact H
   clear H
   have H := H1
   clear H1
   have H' := Aside0.mk H
   clear H
   have hnb17 := NB287_288.out
   have hnc17 := NB288_287.out
   obtain ⟨hcz18_0, hcz18_1, hcz18_2⟩ := cells3 BK287.out
   have hfz18_0 := blk_frozen BK287.out 0
   have hfz18_1 := blk_frozen BK287.out 1
   have hfz18_2 := blk_frozen BK287.out 2
   go_wp2_with (first | ((with_reducible refine gate_callee (f := 55) rfl ?_); refine goesL_ (some 10) rfl rfl Try.func55 (by kernel_rfl) rfl #[.agg #[.int .i64 x288000_1, .int .i64 x288001_1, .int .i64 x288002_1], .int .i64 a1] rfl (by (try simp only [List.map_toArray, List.map_cons, List.map_nil]); first | done | rfl | (simp only [List.length_drop, List.length_take]; rfl)) ?_; (with_reducible refine (relievoref02_Within.calls x288000_1 x288001_1 x288002_1 a1 false _ A10.out).mono ?_); rintro e w19 ⟨rfl, hb⟩; refine ⟨_, rfl, ?_⟩; replace BK287 := cB hb BK287; replace BK288 := cB hb BK288; replace HB := Aside0.mk (below_step (HB.out) hb); (try clear hb); (try clear hb2); (try clear hk); (try clear hi); obtain ⟨hcz20_0, hcz20_1, hcz20_2⟩ := cells3 BK287.out; have hfz20_0 := blk_frozen BK287.out 0; have hfz20_1 := blk_frozen BK287.out 1; have hfz20_2 := blk_frozen BK287.out 2))
   go_roundg k1
   case measure => have := HK1.out; omega
   case rel => exact ⟨(wrap64 (Int.tdiv x288000_1 2)), (wrap64 (Int.tdiv x288001_1 2)), (wrap64 (Int.tdiv x288002_1 2)), H', ⟨by have := HK1.out; omega⟩, ⟨(blk_put (cs' := #[.int .i64 (wrap64 (Int.tdiv x288000_1 2)), .int .i64 (wrap64 (Int.tdiv x288001_1 2)), .int .i64 (wrap64 (Int.tdiv x288002_1 2))]) (blk_put (blk_put BK287.out 0 _ rfl) 1 _ rfl) 2 _ rfl)⟩, ⟨(blk_far (blk_far (blk_far BK288.out NB288_287.out _) NB288_287.out _) NB288_287.out _)⟩, ⟨(below_set (below_set (below_set HB.out GE287.out) GE287.out) GE287.out)⟩⟩

end Go.Proofs.Ytmhnidmbgicgeaa.G
