-- Written by a program of this session (wip/gen), out of the translation; Lean checks it.
import Derived.Test.YtfmbophennepdaaGxWords
import Derived.Test.YtfmbophennepdaaGx0
import Derived.Test.YtfmbophennepdaaGx32
import Derived.Test.YtfmbophennepdaaGx35
namespace Go.Proofs.Ytfmbophennepdaa.G
open Go.RowKit Go.Proofs.YtfmbophennepdaaW.PrintWords Go.Proofs.YtfmbophennepdaaW.PrintLast Go.Proofs.YtfmbophennepdaaW.PrintMore
attribute [local go_sem high] idx43_0 idx43_1 idx43_2 wl0 wl1 wl2 wl3 wl4 wl5 tm0_3 tm1_3 tm2_3 tm3_3 tm4_3 tm5_3
attribute [local go_sem] max2_int min2_int max_two min_two max_three min_three max_four min_four   -- for this text's walks alone
set_option linter.unusedVariables false
set_option linter.unusedSimpArgs false

/-! ### wide_Div: function 30 -/
def wide_Div.f (k : Nat) (a0_0 : Int) (a0_1 : Int) (a1 : Int) : Option (Int × Int × Int × Bool) := if a1 < 1 then (some (0, 0, 0, false)) else ((wide_size.f a0_0 a0_1).bind fun bt298 => ((bits_Div64.f k 0 bt298.1 (IntKind.u64.wrap (a1))).bind fun bt300 => ((bits_Div64.f k bt300.2 bt298.2 (IntKind.u64.wrap (a1))).bind fun bt302 => (if a0_0 < 0 then ((wide_turned.f (wrap64 (bt300.1)) bt302.1).bind fun bt305 => (if (wrap64 (bt302.2)) > 0 then ((wide_Of.f (-1)).bind fun bt307 => ((wide_sum.f bt305.1 bt305.2 bt307.1 bt307.2).bind fun bt309 => (some (bt309.1, bt309.2, wrap64 (a1 - (wrap64 (bt302.2))), true)))) else (some (bt305.1, bt305.2, wrap64 (bt302.2), true)))) else (some (wrap64 (bt300.1), bt302.1, wrap64 (bt302.2), true))))))
theorem wide_Div.mono : ∀ a0 a1 a2 k, LeO (wide_Div.f k a0 a1 a2) (wide_Div.f (k + 1) a0 a1 a2) := by
  intro a0 a1 a2 k
  unfold wide_Div.f
  repeat' first
      | (with_reducible exact bits_Div64.mono _ _ _ _)
      | (with_reducible exact LeO.refl _)
      | (with_reducible exact LeO.none _)
      | (with_reducible refine LeO.ite ?_ ?_)
      | (with_reducible refine LeO.bind ?_ (fun _ => ?_))
      | exact bits_Div64.mono _ _ _ _
      | exact LeO.none _
      | refine LeO.ite ?_ ?_
      | refine LeO.bind ?_ (fun _ => ?_)
def wide_Div.T10 : Bool × List (List Nat × List Nat) := (true, [([], []), ([], []), ([0, 1, 1], [0, 1]), ([], []), ([], []), ([3, 4], [3, 4]), ([2, 2, 0, 1, 2], [2]), ([5, 6, 0, 1, 2, 3, 4, 5, 6], [4, 5])])
def wide_Div.B10 : List Nat := [0, 0, 3, 0, 0, 24, 7, 127]
theorem wide_Div.tab10 : rtab .any (opsOf Try.f30 10) = wide_Div.T10 := by kernel_rfl
theorem wide_Div.bits10 : waitsOk wide_Div.T10.2 wide_Div.B10 = true := by kernel_rfl
set_option maxHeartbeats 8000000 in
set_option maxRecDepth 100000 in
theorem wide_Div.calls (k : Nat) (a0_0 : Int) (a0_1 : Int) (a1 : Int) (r1 : Int) (r2 : Int) (r3 : Int) (r4 : Bool) (w : World) (h : wide_Div.f k a0_0 a0_1 a1 = some (r1, r2, r3, r4)) :
    Calls Try.prog 30 #[.agg #[.int .i64 a0_0, .int .u64 a0_1], .int .i64 a1] w fun e w' => e = .returned (.tuple #[.agg #[.int .i64 r1, .int .u64 r2], .int .i64 r3, .bool r4]) ∧ Below w.heap.size w w' := by
 have hu53 := Try.underlying53
 have HB := Aside0.mk (Below.refl w.heap.size w)
 have H : (if a1 < 1 then (some (0, 0, 0, false)) else ((wide_size.f a0_0 a0_1).bind fun bt298 => ((bits_Div64.f k 0 bt298.1 (IntKind.u64.wrap (a1))).bind fun bt300 => ((bits_Div64.f k bt300.2 bt298.2 (IntKind.u64.wrap (a1))).bind fun bt302 => (if a0_0 < 0 then ((wide_turned.f (wrap64 (bt300.1)) bt302.1).bind fun bt305 => (if (wrap64 (bt302.2)) > 0 then ((wide_Of.f (-1)).bind fun bt307 => ((wide_sum.f bt305.1 bt305.2 bt307.1 bt307.2).bind fun bt309 => (some (bt309.1, bt309.2, wrap64 (a1 - (wrap64 (bt302.2))), true)))) else (some (bt305.1, bt305.2, wrap64 (bt302.2), true)))) else (some (wrap64 (bt300.1), bt302.1, wrap64 (bt302.2), true))))))) = some (r1, r2, r3, r4) := h
 clear h
 by_cases c3 : a1 < 1
 ·rw [if_pos c3] at H
  have c3b0 : decide (a1 < 1) = true := decide_eq_true c3
  clear c3
  simp only [Option.some.injEq, Prod.mk.injEq] at H
  obtain ⟨rfl, rfl, rfl, rfl⟩ := H
  go_enter Try.func30, Try.ntmps30
  go_wp2_with (first | ((with_reducible refine gate_dst (N := 2) rfl ?_); refine box_event ?hg (N := 2) ?hd (cs := #[.int .i64 a0_0, .int .u64 a0_1]) (t := 53) ?hr ?_; (case hd => rfl); (case hg => rfl); (case hr => first | (go_simp; done) | (go_simp; rfl)); intro gb296 hg w4 hbox hb; have BK296 := Aside0.mk (hbox); have GE296 := Aside0.mk (bG hg (HB.out)); replace HB := Aside0.mk (below_step (HB.out) hb); clear hb hbox hg) | ((with_reducible refine gate_dst (N := 4) rfl ?_); refine box_event ?hg (N := 4) ?hd (cs := #[.int .i64 0, .int .u64 0]) (t := 53) ?hr ?_; (case hd => rfl); (case hg => rfl); (case hr => first | (go_simp; done) | (go_simp; rfl)); intro gb297 hg w5 hbox hb; have BK297 := Aside0.mk (hbox); have GE297 := Aside0.mk (bG hg (HB.out)); have NB296_297 := cN hg BK296; have NB297_296 := cM hg BK296; replace BK296 := cB hb BK296; replace HB := Aside0.mk (below_step (HB.out) hb); clear hb hbox hg; have hnb6 := NB297_296.out; have hnc6 := NB296_297.out; obtain ⟨hcz7_0, hcz7_1⟩ := cells2 BK297.out; have hfz7_0 := blk_frozen BK297.out 0; have hfz7_1 := blk_frozen BK297.out 1))
  refine bodyPost_ret (results_ctt rfl _ _ gb297 53 #[.int .i64 0, .int .u64 0] (0, 0) _ rfl ((blk_put (cs' := #[.int .i64 0, .int .u64 0]) (blk_put BK297.out 0 _ rfl) 1 _ rfl)) Try.underlying53 rfl (by kernel_rfl)) rfl ?_
  exact ⟨by first | rfl | (simp [errW_none, errW_some] <;> rfl) | (simp [*, errW_none, errW_some] <;> rfl), (below_set (below_set HB.out GE297.out) GE297.out)⟩
 rw [if_neg c3] at H
 have c3b0 : decide (a1 < 1) = false := decide_eq_false c3
 clear c3
 replace H := Option.bind_eq_some_iff.mp H
 obtain ⟨⟨t298, t299⟩, A80, H⟩ := H
 replace H : ((bits_Div64.f k 0 t298 (IntKind.u64.wrap (a1))).bind fun bt300 => ((bits_Div64.f k bt300.2 t299 (IntKind.u64.wrap (a1))).bind fun bt302 => (if a0_0 < 0 then ((wide_turned.f (wrap64 (bt300.1)) bt302.1).bind fun bt305 => (if (wrap64 (bt302.2)) > 0 then ((wide_Of.f (-1)).bind fun bt307 => ((wide_sum.f bt305.1 bt305.2 bt307.1 bt307.2).bind fun bt309 => (some (bt309.1, bt309.2, wrap64 (a1 - (wrap64 (bt302.2))), true)))) else (some (bt305.1, bt305.2, wrap64 (bt302.2), true)))) else (some (wrap64 (bt300.1), bt302.1, wrap64 (bt302.2), true))))) = some (r1, r2, r3, r4) := H
 have A8 := Aside0.mk A80
 clear A80
 replace H := Option.bind_eq_some_iff.mp H
 obtain ⟨⟨t300, t301⟩, A90, H⟩ := H
 replace H : ((bits_Div64.f k t301 t299 (IntKind.u64.wrap (a1))).bind fun bt302 => (if a0_0 < 0 then ((wide_turned.f (wrap64 (t300)) bt302.1).bind fun bt305 => (if (wrap64 (bt302.2)) > 0 then ((wide_Of.f (-1)).bind fun bt307 => ((wide_sum.f bt305.1 bt305.2 bt307.1 bt307.2).bind fun bt309 => (some (bt309.1, bt309.2, wrap64 (a1 - (wrap64 (bt302.2))), true)))) else (some (bt305.1, bt305.2, wrap64 (bt302.2), true)))) else (some (wrap64 (t300), bt302.1, wrap64 (bt302.2), true)))) = some (r1, r2, r3, r4) := H
 have A9 := Aside0.mk A90
 clear A90
 replace H := Option.bind_eq_some_iff.mp H
 obtain ⟨⟨t302, t303⟩, A100, H⟩ := H
 replace H : (if a0_0 < 0 then ((wide_turned.f (wrap64 (t300)) t302).bind fun bt305 => (if (wrap64 (t303)) > 0 then ((wide_Of.f (-1)).bind fun bt307 => ((wide_sum.f bt305.1 bt305.2 bt307.1 bt307.2).bind fun bt309 => (some (bt309.1, bt309.2, wrap64 (a1 - (wrap64 (t303))), true)))) else (some (bt305.1, bt305.2, wrap64 (t303), true)))) else (some (wrap64 (t300), t302, wrap64 (t303), true))) = some (r1, r2, r3, r4) := H
 have A10 := Aside0.mk A100
 clear A100
 by_cases c11 : a0_0 < 0
 ·rw [if_pos c11] at H
  have c11b0 : decide (a0_0 < 0) = true := decide_eq_true c11
  clear c11
  replace H := Option.bind_eq_some_iff.mp H
  obtain ⟨⟨t305, t306⟩, A120, H⟩ := H
  replace H : (if (wrap64 (t303)) > 0 then ((wide_Of.f (-1)).bind fun bt307 => ((wide_sum.f t305 t306 bt307.1 bt307.2).bind fun bt309 => (some (bt309.1, bt309.2, wrap64 (a1 - (wrap64 (t303))), true)))) else (some (t305, t306, wrap64 (t303), true))) = some (r1, r2, r3, r4) := H
  have A12 := Aside0.mk A120
  clear A120
  by_cases c13 : (wrap64 (t303)) > 0
  ·rw [if_pos c13] at H
   have c13b0 : decide (0 < (wrap64 (t303))) = true := decide_eq_true c13
   clear c13
   replace H := Option.bind_eq_some_iff.mp H
   obtain ⟨⟨t307, t308⟩, A140, H⟩ := H
   replace H : ((wide_sum.f t305 t306 t307 t308).bind fun bt309 => (some (bt309.1, bt309.2, wrap64 (a1 - (wrap64 (t303))), true))) = some (r1, r2, r3, r4) := H
   have A14 := Aside0.mk A140
   clear A140
   replace H := Option.bind_eq_some_iff.mp H
   obtain ⟨⟨t309, t310⟩, A150, H⟩ := H
   replace H : (some (t309, t310, wrap64 (a1 - (wrap64 (t303))), true)) = some (r1, r2, r3, r4) := H
   have A15 := Aside0.mk A150
   clear A150
   simp only [Option.some.injEq, Prod.mk.injEq] at H
   obtain ⟨rfl, rfl, rfl, rfl⟩ := H
   go_enter Try.func30, Try.ntmps30
   try go_wp2_with (first | ((with_reducible refine gate_dst (N := 2) rfl ?_); refine box_event ?hg (N := 2) ?hd (cs := #[.int .i64 a0_0, .int .u64 a0_1]) (t := 53) ?hr ?_; (case hd => rfl); (case hg => rfl); (case hr => first | (go_simp; done) | (go_simp; rfl)); intro gb296 hg w16 hbox hb; have BK296 := Aside0.mk (hbox); have GE296 := Aside0.mk (bG hg (HB.out)); replace HB := Aside0.mk (below_step (HB.out) hb); clear hb hbox hg) | ((with_reducible refine gate_dst (N := 4) rfl ?_); refine box_event ?hg (N := 4) ?hd (cs := #[.int .i64 0, .int .u64 0]) (t := 53) ?hr ?_; (case hd => rfl); (case hg => rfl); (case hr => first | (go_simp; done) | (go_simp; rfl)); intro gb297 hg w17 hbox hb; have BK297 := Aside0.mk (hbox); have GE297 := Aside0.mk (bG hg (HB.out)); have NB296_297 := cN hg BK296; have NB297_296 := cM hg BK296; replace BK296 := cB hb BK296; replace HB := Aside0.mk (below_step (HB.out) hb); clear hb hbox hg; have hnb18 := NB296_297.out; have hnc18 := NB297_296.out; obtain ⟨hcz19_0, hcz19_1⟩ := cells2 BK296.out) | ((with_reducible refine gate_callee (f := 37) rfl ?_); refine goesL_ (some 19) rfl rfl Try.func37 (by kernel_rfl) rfl #[.agg #[.int .i64 a0_0, .int .u64 a0_1]] rfl (by (try simp only [List.map_toArray, List.map_cons, List.map_nil]); first | done | rfl | (simp only [List.length_drop, List.length_take]; rfl)) ?_; (with_reducible refine (wide_size.calls a0_0 a0_1 t298 t299 _ A8.out).mono ?_); rintro e w20 ⟨rfl, hb⟩; refine ⟨_, rfl, ?_⟩; replace BK296 := cB hb BK296; replace BK297 := cB hb BK297; replace HB := Aside0.mk (below_step (HB.out) hb); (try clear hb); (try clear hb2); (try clear hk); (try clear hi)) | ((with_reducible refine gate_callee (f := 38) rfl ?_); refine goesL_ (some 26) rfl rfl Try.func38 (by kernel_rfl) rfl #[.int .u64 0, .int .u64 t298, .int .u64 (IntKind.u64.wrap (a1))] rfl (by (try simp only [List.map_toArray, List.map_cons, List.map_nil]); first | done | rfl | (simp only [List.length_drop, List.length_take]; rfl)) ?_; (with_reducible refine (bits_Div64.calls k 0 t298 (IntKind.u64.wrap (a1)) t300 t301 _ A9.out).mono ?_); rintro e w21 ⟨rfl, hb⟩; refine ⟨_, rfl, ?_⟩; replace BK296 := cB hb BK296; replace BK297 := cB hb BK297; replace HB := Aside0.mk (below_step (HB.out) hb); (try clear hb); (try clear hb2); (try clear hk); (try clear hi)) | ((with_reducible refine gate_callee (f := 38) rfl ?_); refine goesL_ (some 34) rfl rfl Try.func38 (by kernel_rfl) rfl #[.int .u64 t301, .int .u64 t299, .int .u64 (IntKind.u64.wrap (a1))] rfl (by (try simp only [List.map_toArray, List.map_cons, List.map_nil]); first | done | rfl | (simp only [List.length_drop, List.length_take]; rfl)) ?_; (with_reducible refine (bits_Div64.calls k t301 t299 (IntKind.u64.wrap (a1)) t302 t303 _ A10.out).mono ?_); rintro e w22 ⟨rfl, hb⟩; refine ⟨_, rfl, ?_⟩; replace BK296 := cB hb BK296; replace BK297 := cB hb BK297; replace HB := Aside0.mk (below_step (HB.out) hb); (try clear hb); (try clear hb2); (try clear hk); (try clear hi)) | ((with_reducible refine gate_dst (N := 12) rfl ?_); refine box_event ?hg (N := 12) ?hd (cs := #[.int .i64 0, .int .u64 0]) (t := 53) ?hr ?_; (case hd => rfl); (case hg => rfl); (case hr => first | (go_simp; done) | (go_simp; rfl)); intro gb304 hg w23 hbox hb; have BK304 := Aside0.mk (hbox); have GE304 := Aside0.mk (bG hg (HB.out)); have NB296_304 := cN hg BK296; have NB304_296 := cM hg BK296; have NB297_304 := cN hg BK297; have NB304_297 := cM hg BK297; replace BK296 := cB hb BK296; replace BK297 := cB hb BK297; replace HB := Aside0.mk (below_step (HB.out) hb); clear hb hbox hg; have hnb24 := NB304_296.out; have hnc24 := NB296_304.out; have hnb25 := NB304_297.out; have hnc25 := NB297_304.out; obtain ⟨hcz26_0, hcz26_1⟩ := cells2 BK304.out; have hfz26_0 := blk_frozen BK304.out 0; have hfz26_1 := blk_frozen BK304.out 1) | ((with_reducible refine gate_store (t := 53) (p := 12) rfl ?_); refine store_event (t := 53) (p := 12) (v := ?vo_w27) (w1 := ((w23.setCell ⟨gb304, 0, none⟩ (.int .i64 (wrap64 (t300)))).setCell ⟨gb304, 1, none⟩ (.int .u64 t302))) ?hg ?ho ?hn ?hr ?_; (case ho => rfl); (case hg => rfl); (case hn => rfl); (case hr => first | (go_simp; done) | (go_simp; rfl)); intro w27 hw; have n0_ : Aside0 (w27.heap[gb296]? = some (.cells #[.int .i64 a0_0, .int .u64 a0_1] 53 (0, 0))) := ⟨(by rw [hw]; exact ((blk_far (blk_far BK296.out NB296_304.out _) NB296_304.out _)))⟩; have n1_ : Aside0 (w27.heap[gb297]? = some (.cells #[.int .i64 0, .int .u64 0] 53 (0, 0))) := ⟨(by rw [hw]; exact ((blk_far (blk_far BK297.out NB297_304.out _) NB297_304.out _)))⟩; have n2_ : Aside0 (w27.heap[gb304]? = some (.cells #[.int .i64 (wrap64 (t300)), .int .u64 t302] 53 (0, 0))) := ⟨(by rw [hw]; exact ((blk_put (cs' := #[.int .i64 (wrap64 (t300)), .int .u64 t302]) (blk_put BK304.out 0 _ rfl) 1 _ rfl)))⟩; have n3_ : Aside0 (Below w.heap.size w w27) := ⟨(by rw [hw]; exact ((below_set (below_set HB.out GE304.out) GE304.out)))⟩; clear hw; clear BK296; clear BK297; clear BK304; clear HB; have BK296 := n0_; have BK297 := n1_; have BK304 := n2_; have HB := n3_; clear n0_ n1_ n2_ n3_; obtain ⟨hcz28_0, hcz28_1⟩ := cells2 BK296.out; obtain ⟨hcz29_0, hcz29_1⟩ := cells2 BK304.out; have hfz29_0 := blk_frozen BK304.out 0; have hfz29_1 := blk_frozen BK304.out 1) | ((with_reducible refine gate_callee (f := 39) rfl ?_); refine goesL_ (some 47) rfl rfl Try.func39 (by kernel_rfl) rfl #[.agg #[.int .i64 (wrap64 (t300)), .int .u64 t302]] rfl (by (try simp only [List.map_toArray, List.map_cons, List.map_nil]); first | done | rfl | (simp only [List.length_drop, List.length_take]; rfl)) ?_; (with_reducible refine (wide_turned.calls (wrap64 (t300)) t302 t305 t306 _ A12.out).mono ?_); rintro e w30 ⟨rfl, hb⟩; refine ⟨_, rfl, ?_⟩; replace BK297 := cB hb BK297; replace BK304 := cB hb BK304; replace HB := Aside0.mk (below_step (HB.out) hb); (try clear hb); (try clear hb2); (try clear hk); (try clear hi); obtain ⟨hcz31_0, hcz31_1⟩ := cells2 BK304.out; have hfz31_0 := blk_frozen BK304.out 0; have hfz31_1 := blk_frozen BK304.out 1) | ((with_reducible refine gate_store (t := 53) (p := 12) rfl ?_); refine store_event (t := 53) (p := 12) (v := ?vo_w32) (w1 := ((w30.setCell ⟨gb304, 0, none⟩ (.int .i64 t305)).setCell ⟨gb304, 1, none⟩ (.int .u64 t306))) ?hg ?ho ?hn ?hr ?_; (case ho => rfl); (case hg => rfl); (case hn => rfl); (case hr => first | (go_simp; done) | (go_simp; rfl)); intro w32 hw; have n0_ : Aside0 (w32.heap[gb297]? = some (.cells #[.int .i64 0, .int .u64 0] 53 (0, 0))) := ⟨(by rw [hw]; exact ((blk_far (blk_far BK297.out NB297_304.out _) NB297_304.out _)))⟩; have n1_ : Aside0 (w32.heap[gb304]? = some (.cells #[.int .i64 t305, .int .u64 t306] 53 (0, 0))) := ⟨(by rw [hw]; exact ((blk_put (cs' := #[.int .i64 t305, .int .u64 t306]) (blk_put BK304.out 0 _ rfl) 1 _ rfl)))⟩; have n2_ : Aside0 (Below w.heap.size w w32) := ⟨(by rw [hw]; exact ((below_set (below_set HB.out GE304.out) GE304.out)))⟩; clear hw; clear BK297; clear BK304; clear HB; have BK297 := n0_; have BK304 := n1_; have HB := n2_; clear n0_ n1_ n2_))
   replace BK297 := Aside0.mk (blk_drew BK297.out)
   replace BK304 := Aside0.mk (blk_drew BK304.out)
   replace HB := Aside0.mk (below_drew1 HB.out)
   refine start_ (n := 8) (S := fun w' => w'.cell? ⟨gb304, 0, none⟩ = some (.int .i64 t305) ∧ w'.cell? ⟨gb304, 1, none⟩ = some (.int .u64 t306)) (ds := [6]) #[false, false, false, false, false, false, false, false] (by kernel_rfl) rfl rfl ⟨(blk_cell BK304.out 0).trans rfl, (blk_cell BK304.out 1).trans rfl⟩ (fun hHeld => ?_); refine with_tabW wide_Div.tab10 wide_Div.bits10 (fun HT_ HW_ => ?_)
   generalize w32.drew = w33 at BK297 BK304 HB hHeld ⊢
   refine pure_ (i := 3) (N := some 53) (v := ?_) (a' := ?_) (bm 8 8) rfl rfl (any_of HT_.out (by kernel_rfl)) (fun _ _ _ h => h) (Or.inl ⟨by rfl, ?_⟩) ?_ ?_
   rotate_left
   ·intro w'
    go_simp
    with_reducible rfl
   rotate_left
   ·simp only [Act.put, List.setIfInBounds_toArray, List.set_cons_zero, List.set_cons_succ, i64_w, i32_w]
    rfl
   refine pure_ (i := 4) (N := some 54) (v := ?_) (a' := ?_) (bm 8 24) rfl rfl (any_of HT_.out (by kernel_rfl)) (fun _ _ _ h => h) (Or.inl ⟨by rfl, ?_⟩) ?_ ?_
   rotate_left
   ·intro w'
    go_simp
    with_reducible rfl
   rotate_left
   ·simp only [Act.put, List.setIfInBounds_toArray, List.set_cons_zero, List.set_cons_succ, i64_w, i32_w]
    rfl
   refine pure_ (i := 5) (N := some 55) (v := ?_) (a' := ?_) (bm 8 56) rfl rfl (any_of HT_.out (by kernel_rfl)) (fun _ _ _ h => h) (Or.inl ⟨by rfl, ?_⟩) ?_ ?_
   rotate_left
   ·intro w'
    go_simp
    with_reducible rfl
   rotate_left
   ·simp only [Act.put, List.setIfInBounds_toArray, List.set_cons_zero, List.set_cons_succ, i64_w, i32_w]
    rfl
   refine take_ (i := 0) (N := some 50) (v := ?_) (a' := ?_) (bm 8 57) rfl rfl (take_ofW HT_.out HW_.out (by kernel_rfl)) (fun _ _ _ h => h) (Or.inl ⟨by rfl, ?_⟩) hHeld ?_ ?_
   rotate_left
   ·rintro w' ⟨s0, s1⟩
    go_simp
    with_reducible rfl
   rotate_left
   ·simp only [Act.put, List.setIfInBounds_toArray, List.set_cons_zero, List.set_cons_succ, i64_w, i32_w]
    rfl
   refine one_ (i := 1) (N := some 51) (bm 8 59) rfl rfl (one_of HT_.out (by kernel_rfl)) (by decide) (fun K hK => ?_)
   refine goes_ Try.func41 (by kernel_rfl) rfl #[.int .i64 (-1)] (by rfl) rfl rfl (by (try simp only [List.map_toArray, List.map_cons, List.map_nil]); first | done | rfl | (simp only [List.length_drop, List.length_take]; rfl)) ?_
   with_reducible refine (wide_Of.calls (-1) t307 t308 _ A14.out).mono ?_
   rintro e w34 ⟨rfl, hb⟩
   refine ⟨_, rfl, ?_⟩
   replace BK297 := cB hb BK297
   replace BK304 := cB hb BK304
   replace HB := Aside0.mk (below_step (HB.out) hb)
   (try clear hb)
   (try clear hb2)
   (try clear hk)
   (try clear hi)
   refine hK.out _ _ ⟨(blk_cell BK304.out 0).trans rfl, (blk_cell BK304.out 1).trans rfl⟩ (fun hHeld => ?_)
   clear hK K
   refine norm_ (a' := ?_) ?_ ?_
   rotate_left
   ·show Act.put _ (some 51) _ = _
    simp only [Act.put, List.setIfInBounds_toArray, List.set_cons_zero, List.set_cons_succ, i64_w, i32_w]
    rfl
   refine one_ (i := 2) (N := some 52) (bm 8 63) rfl rfl (one_of HT_.out (by kernel_rfl)) (by decide) (fun K hK => ?_)
   refine goes_ Try.func40 (by kernel_rfl) rfl #[.agg #[.int .i64 t305, .int .u64 t306], .agg #[.int .i64 t307, .int .u64 t308]] (by rfl) rfl rfl (by (try simp only [List.map_toArray, List.map_cons, List.map_nil]); first | done | rfl | (simp only [List.length_drop, List.length_take]; rfl)) ?_
   with_reducible refine (wide_sum.calls t305 t306 t307 t308 t309 t310 _ A15.out).mono ?_
   rintro e w35 ⟨rfl, hb⟩
   refine ⟨_, rfl, ?_⟩
   replace BK297 := cB hb BK297
   replace BK304 := cB hb BK304
   replace HB := Aside0.mk (below_step (HB.out) hb)
   (try clear hb)
   (try clear hb2)
   (try clear hk)
   (try clear hi)
   refine hK.out _ _ ⟨(blk_cell BK304.out 0).trans rfl, (blk_cell BK304.out 1).trans rfl⟩ (fun hHeld => ?_)
   clear hK K
   refine norm_ (a' := ?_) ?_ ?_
   rotate_left
   ·show Act.put _ (some 52) _ = _
    simp only [Act.put, List.setIfInBounds_toArray, List.set_cons_zero, List.set_cons_succ, i64_w, i32_w]
    rfl
   refine last_ (i := 6) (N := none) (bm 8 127) rfl rfl (one_of HT_.out (by kernel_rfl)) (by decide) (fun K hK => ?_)
   have hs36 : w35.cell? ⟨gb304, 0, none⟩ = some (.int .i64 t305) := (blk_cell BK304.out 0).trans rfl
   have hfs36 := blk_frozen BK304.out 0
   have hns36_0 := NB297_304.out
   have hms36_0 := NB304_297.out
   have hs37 : w35.cell? ⟨gb304, 1, none⟩ = some (.int .u64 t306) := (blk_cell BK304.out 1).trans rfl
   have hfs37 := blk_frozen BK304.out 1
   have hns37_0 := NB297_304.out
   have hms37_0 := NB304_297.out
   refine skip_ (w1 := ?_) (by rfl) rfl ?_ ?_
   rotate_left
   ·go_simp
    rfl
   refine hK.out _ _ ?_
   clear hK K
   refine pure_ (i := 7) (N := some 13) (v := ?_) (a' := ?_) (bm 8 255) rfl rfl (any_of HT_.out (by kernel_rfl)) (fun _ _ _ h => h) (Or.inl ⟨by rfl, ?_⟩) ?_ ?_
   rotate_left
   ·intro w'
    go_simp
    with_reducible rfl
   rotate_left
   ·simp only [Act.put, List.setIfInBounds_toArray, List.set_cons_zero, List.set_cons_succ, i64_w, i32_w]
    rfl
   refine done_ (done_of HT_.out (by kernel_rfl)) ?_
   obtain ⟨hcz38_0, hcz38_1⟩ := cells2 BK304.out
   have hfz38_0 := blk_frozen BK304.out 0
   have hfz38_1 := blk_frozen BK304.out 1
   obtain ⟨hcz39_0, hcz39_1⟩ := cells2 BK297.out
   have hfz39_0 := blk_frozen BK297.out 0
   have hfz39_1 := blk_frozen BK297.out 1
   try go_wp2
   refine bodyPost_ret (results_ctt rfl _ _ gb297 53 #[.int .i64 t309, .int .u64 t310] (0, 0) _ rfl ((blk_put (cs' := #[.int .i64 t309, .int .u64 t310]) (blk_put (blk_far (blk_far BK297.out NB297_304.out _) NB297_304.out _) 0 _ rfl) 1 _ rfl)) Try.underlying53 rfl (by kernel_rfl)) rfl ?_
   exact ⟨by first | rfl | (simp [errW_none, errW_some] <;> rfl) | (simp [*, errW_none, errW_some] <;> rfl), (below_set (below_set (below_set (below_set HB.out GE304.out) GE304.out) GE297.out) GE297.out)⟩
  rw [if_neg c13] at H
  have c13b0 : decide (0 < (wrap64 (t303))) = false := decide_eq_false c13
  clear c13
  simp only [Option.some.injEq, Prod.mk.injEq] at H
  obtain ⟨rfl, rfl, rfl, rfl⟩ := H
  go_enter Try.func30, Try.ntmps30
  go_wp2_with (first | ((with_reducible refine gate_dst (N := 2) rfl ?_); refine box_event ?hg (N := 2) ?hd (cs := #[.int .i64 a0_0, .int .u64 a0_1]) (t := 53) ?hr ?_; (case hd => rfl); (case hg => rfl); (case hr => first | (go_simp; done) | (go_simp; rfl)); intro gb296 hg w40 hbox hb; have BK296 := Aside0.mk (hbox); have GE296 := Aside0.mk (bG hg (HB.out)); replace HB := Aside0.mk (below_step (HB.out) hb); clear hb hbox hg) | ((with_reducible refine gate_dst (N := 4) rfl ?_); refine box_event ?hg (N := 4) ?hd (cs := #[.int .i64 0, .int .u64 0]) (t := 53) ?hr ?_; (case hd => rfl); (case hg => rfl); (case hr => first | (go_simp; done) | (go_simp; rfl)); intro gb297 hg w41 hbox hb; have BK297 := Aside0.mk (hbox); have GE297 := Aside0.mk (bG hg (HB.out)); have NB296_297 := cN hg BK296; have NB297_296 := cM hg BK296; replace BK296 := cB hb BK296; replace HB := Aside0.mk (below_step (HB.out) hb); clear hb hbox hg; have hnb42 := NB296_297.out; have hnc42 := NB297_296.out; obtain ⟨hcz43_0, hcz43_1⟩ := cells2 BK296.out) | ((with_reducible refine gate_callee (f := 37) rfl ?_); refine goesL_ (some 19) rfl rfl Try.func37 (by kernel_rfl) rfl #[.agg #[.int .i64 a0_0, .int .u64 a0_1]] rfl (by (try simp only [List.map_toArray, List.map_cons, List.map_nil]); first | done | rfl | (simp only [List.length_drop, List.length_take]; rfl)) ?_; (with_reducible refine (wide_size.calls a0_0 a0_1 t298 t299 _ A8.out).mono ?_); rintro e w44 ⟨rfl, hb⟩; refine ⟨_, rfl, ?_⟩; replace BK296 := cB hb BK296; replace BK297 := cB hb BK297; replace HB := Aside0.mk (below_step (HB.out) hb); (try clear hb); (try clear hb2); (try clear hk); (try clear hi)) | ((with_reducible refine gate_callee (f := 38) rfl ?_); refine goesL_ (some 26) rfl rfl Try.func38 (by kernel_rfl) rfl #[.int .u64 0, .int .u64 t298, .int .u64 (IntKind.u64.wrap (a1))] rfl (by (try simp only [List.map_toArray, List.map_cons, List.map_nil]); first | done | rfl | (simp only [List.length_drop, List.length_take]; rfl)) ?_; (with_reducible refine (bits_Div64.calls k 0 t298 (IntKind.u64.wrap (a1)) t300 t301 _ A9.out).mono ?_); rintro e w45 ⟨rfl, hb⟩; refine ⟨_, rfl, ?_⟩; replace BK296 := cB hb BK296; replace BK297 := cB hb BK297; replace HB := Aside0.mk (below_step (HB.out) hb); (try clear hb); (try clear hb2); (try clear hk); (try clear hi)) | ((with_reducible refine gate_callee (f := 38) rfl ?_); refine goesL_ (some 34) rfl rfl Try.func38 (by kernel_rfl) rfl #[.int .u64 t301, .int .u64 t299, .int .u64 (IntKind.u64.wrap (a1))] rfl (by (try simp only [List.map_toArray, List.map_cons, List.map_nil]); first | done | rfl | (simp only [List.length_drop, List.length_take]; rfl)) ?_; (with_reducible refine (bits_Div64.calls k t301 t299 (IntKind.u64.wrap (a1)) t302 t303 _ A10.out).mono ?_); rintro e w46 ⟨rfl, hb⟩; refine ⟨_, rfl, ?_⟩; replace BK296 := cB hb BK296; replace BK297 := cB hb BK297; replace HB := Aside0.mk (below_step (HB.out) hb); (try clear hb); (try clear hb2); (try clear hk); (try clear hi)) | ((with_reducible refine gate_dst (N := 12) rfl ?_); refine box_event ?hg (N := 12) ?hd (cs := #[.int .i64 0, .int .u64 0]) (t := 53) ?hr ?_; (case hd => rfl); (case hg => rfl); (case hr => first | (go_simp; done) | (go_simp; rfl)); intro gb304 hg w47 hbox hb; have BK304 := Aside0.mk (hbox); have GE304 := Aside0.mk (bG hg (HB.out)); have NB296_304 := cN hg BK296; have NB304_296 := cM hg BK296; have NB297_304 := cN hg BK297; have NB304_297 := cM hg BK297; replace BK296 := cB hb BK296; replace BK297 := cB hb BK297; replace HB := Aside0.mk (below_step (HB.out) hb); clear hb hbox hg; have hnb48 := NB304_296.out; have hnc48 := NB296_304.out; have hnb49 := NB304_297.out; have hnc49 := NB297_304.out; obtain ⟨hcz50_0, hcz50_1⟩ := cells2 BK304.out; have hfz50_0 := blk_frozen BK304.out 0; have hfz50_1 := blk_frozen BK304.out 1) | ((with_reducible refine gate_store (t := 53) (p := 12) rfl ?_); refine store_event (t := 53) (p := 12) (v := ?vo_w51) (w1 := ((w47.setCell ⟨gb304, 0, none⟩ (.int .i64 (wrap64 (t300)))).setCell ⟨gb304, 1, none⟩ (.int .u64 t302))) ?hg ?ho ?hn ?hr ?_; (case ho => rfl); (case hg => rfl); (case hn => rfl); (case hr => first | (go_simp; done) | (go_simp; rfl)); intro w51 hw; have n0_ : Aside0 (w51.heap[gb296]? = some (.cells #[.int .i64 a0_0, .int .u64 a0_1] 53 (0, 0))) := ⟨(by rw [hw]; exact ((blk_far (blk_far BK296.out NB296_304.out _) NB296_304.out _)))⟩; have n1_ : Aside0 (w51.heap[gb297]? = some (.cells #[.int .i64 0, .int .u64 0] 53 (0, 0))) := ⟨(by rw [hw]; exact ((blk_far (blk_far BK297.out NB297_304.out _) NB297_304.out _)))⟩; have n2_ : Aside0 (w51.heap[gb304]? = some (.cells #[.int .i64 (wrap64 (t300)), .int .u64 t302] 53 (0, 0))) := ⟨(by rw [hw]; exact ((blk_put (cs' := #[.int .i64 (wrap64 (t300)), .int .u64 t302]) (blk_put BK304.out 0 _ rfl) 1 _ rfl)))⟩; have n3_ : Aside0 (Below w.heap.size w w51) := ⟨(by rw [hw]; exact ((below_set (below_set HB.out GE304.out) GE304.out)))⟩; clear hw; clear BK296; clear BK297; clear BK304; clear HB; have BK296 := n0_; have BK297 := n1_; have BK304 := n2_; have HB := n3_; clear n0_ n1_ n2_ n3_; obtain ⟨hcz52_0, hcz52_1⟩ := cells2 BK296.out; obtain ⟨hcz53_0, hcz53_1⟩ := cells2 BK304.out; have hfz53_0 := blk_frozen BK304.out 0; have hfz53_1 := blk_frozen BK304.out 1) | ((with_reducible refine gate_callee (f := 39) rfl ?_); refine goesL_ (some 47) rfl rfl Try.func39 (by kernel_rfl) rfl #[.agg #[.int .i64 (wrap64 (t300)), .int .u64 t302]] rfl (by (try simp only [List.map_toArray, List.map_cons, List.map_nil]); first | done | rfl | (simp only [List.length_drop, List.length_take]; rfl)) ?_; (with_reducible refine (wide_turned.calls (wrap64 (t300)) t302 t305 t306 _ A12.out).mono ?_); rintro e w54 ⟨rfl, hb⟩; refine ⟨_, rfl, ?_⟩; replace BK297 := cB hb BK297; replace BK304 := cB hb BK304; replace HB := Aside0.mk (below_step (HB.out) hb); (try clear hb); (try clear hb2); (try clear hk); (try clear hi); obtain ⟨hcz55_0, hcz55_1⟩ := cells2 BK304.out; have hfz55_0 := blk_frozen BK304.out 0; have hfz55_1 := blk_frozen BK304.out 1; obtain ⟨hcz56_0, hcz56_1⟩ := cells2 BK297.out; have hfz56_0 := blk_frozen BK297.out 0; have hfz56_1 := blk_frozen BK297.out 1))
  refine bodyPost_ret (results_ctt rfl _ _ gb297 53 #[.int .i64 t305, .int .u64 t306] (0, 0) _ rfl ((blk_put (cs' := #[.int .i64 t305, .int .u64 t306]) (blk_put (blk_far (blk_far BK297.out NB297_304.out _) NB297_304.out _) 0 _ rfl) 1 _ rfl)) Try.underlying53 rfl (by kernel_rfl)) rfl ?_
  exact ⟨by first | rfl | (simp [errW_none, errW_some] <;> rfl) | (simp [*, errW_none, errW_some] <;> rfl), (below_set (below_set (below_set (below_set HB.out GE304.out) GE304.out) GE297.out) GE297.out)⟩
 rw [if_neg c11] at H
 have c11b0 : decide (a0_0 < 0) = false := decide_eq_false c11
 clear c11
 simp only [Option.some.injEq, Prod.mk.injEq] at H
 obtain ⟨rfl, rfl, rfl, rfl⟩ := H
 go_enter Try.func30, Try.ntmps30
 go_wp2_with (first | ((with_reducible refine gate_dst (N := 2) rfl ?_); refine box_event ?hg (N := 2) ?hd (cs := #[.int .i64 a0_0, .int .u64 a0_1]) (t := 53) ?hr ?_; (case hd => rfl); (case hg => rfl); (case hr => first | (go_simp; done) | (go_simp; rfl)); intro gb296 hg w57 hbox hb; have BK296 := Aside0.mk (hbox); have GE296 := Aside0.mk (bG hg (HB.out)); replace HB := Aside0.mk (below_step (HB.out) hb); clear hb hbox hg) | ((with_reducible refine gate_dst (N := 4) rfl ?_); refine box_event ?hg (N := 4) ?hd (cs := #[.int .i64 0, .int .u64 0]) (t := 53) ?hr ?_; (case hd => rfl); (case hg => rfl); (case hr => first | (go_simp; done) | (go_simp; rfl)); intro gb297 hg w58 hbox hb; have BK297 := Aside0.mk (hbox); have GE297 := Aside0.mk (bG hg (HB.out)); have NB296_297 := cN hg BK296; have NB297_296 := cM hg BK296; replace BK296 := cB hb BK296; replace HB := Aside0.mk (below_step (HB.out) hb); clear hb hbox hg; have hnb59 := NB296_297.out; have hnc59 := NB297_296.out; obtain ⟨hcz60_0, hcz60_1⟩ := cells2 BK296.out) | ((with_reducible refine gate_callee (f := 37) rfl ?_); refine goesL_ (some 19) rfl rfl Try.func37 (by kernel_rfl) rfl #[.agg #[.int .i64 a0_0, .int .u64 a0_1]] rfl (by (try simp only [List.map_toArray, List.map_cons, List.map_nil]); first | done | rfl | (simp only [List.length_drop, List.length_take]; rfl)) ?_; (with_reducible refine (wide_size.calls a0_0 a0_1 t298 t299 _ A8.out).mono ?_); rintro e w61 ⟨rfl, hb⟩; refine ⟨_, rfl, ?_⟩; replace BK296 := cB hb BK296; replace BK297 := cB hb BK297; replace HB := Aside0.mk (below_step (HB.out) hb); (try clear hb); (try clear hb2); (try clear hk); (try clear hi)) | ((with_reducible refine gate_callee (f := 38) rfl ?_); refine goesL_ (some 26) rfl rfl Try.func38 (by kernel_rfl) rfl #[.int .u64 0, .int .u64 t298, .int .u64 (IntKind.u64.wrap (a1))] rfl (by (try simp only [List.map_toArray, List.map_cons, List.map_nil]); first | done | rfl | (simp only [List.length_drop, List.length_take]; rfl)) ?_; (with_reducible refine (bits_Div64.calls k 0 t298 (IntKind.u64.wrap (a1)) t300 t301 _ A9.out).mono ?_); rintro e w62 ⟨rfl, hb⟩; refine ⟨_, rfl, ?_⟩; replace BK296 := cB hb BK296; replace BK297 := cB hb BK297; replace HB := Aside0.mk (below_step (HB.out) hb); (try clear hb); (try clear hb2); (try clear hk); (try clear hi)) | ((with_reducible refine gate_callee (f := 38) rfl ?_); refine goesL_ (some 34) rfl rfl Try.func38 (by kernel_rfl) rfl #[.int .u64 t301, .int .u64 t299, .int .u64 (IntKind.u64.wrap (a1))] rfl (by (try simp only [List.map_toArray, List.map_cons, List.map_nil]); first | done | rfl | (simp only [List.length_drop, List.length_take]; rfl)) ?_; (with_reducible refine (bits_Div64.calls k t301 t299 (IntKind.u64.wrap (a1)) t302 t303 _ A10.out).mono ?_); rintro e w63 ⟨rfl, hb⟩; refine ⟨_, rfl, ?_⟩; replace BK296 := cB hb BK296; replace BK297 := cB hb BK297; replace HB := Aside0.mk (below_step (HB.out) hb); (try clear hb); (try clear hb2); (try clear hk); (try clear hi)) | ((with_reducible refine gate_dst (N := 12) rfl ?_); refine box_event ?hg (N := 12) ?hd (cs := #[.int .i64 0, .int .u64 0]) (t := 53) ?hr ?_; (case hd => rfl); (case hg => rfl); (case hr => first | (go_simp; done) | (go_simp; rfl)); intro gb304 hg w64 hbox hb; have BK304 := Aside0.mk (hbox); have GE304 := Aside0.mk (bG hg (HB.out)); have NB296_304 := cN hg BK296; have NB304_296 := cM hg BK296; have NB297_304 := cN hg BK297; have NB304_297 := cM hg BK297; replace BK296 := cB hb BK296; replace BK297 := cB hb BK297; replace HB := Aside0.mk (below_step (HB.out) hb); clear hb hbox hg; have hnb65 := NB304_296.out; have hnc65 := NB296_304.out; have hnb66 := NB304_297.out; have hnc66 := NB297_304.out; obtain ⟨hcz67_0, hcz67_1⟩ := cells2 BK304.out; have hfz67_0 := blk_frozen BK304.out 0; have hfz67_1 := blk_frozen BK304.out 1; obtain ⟨hcz68_0, hcz68_1⟩ := cells2 BK296.out; obtain ⟨hcz69_0, hcz69_1⟩ := cells2 BK297.out; have hfz69_0 := blk_frozen BK297.out 0; have hfz69_1 := blk_frozen BK297.out 1))
 refine bodyPost_ret (results_ctt rfl _ _ gb297 53 #[.int .i64 (wrap64 (t300)), .int .u64 t302] (0, 0) _ rfl ((blk_put (cs' := #[.int .i64 (wrap64 (t300)), .int .u64 t302]) (blk_put (blk_far (blk_far BK297.out NB297_304.out _) NB297_304.out _) 0 _ rfl) 1 _ rfl)) Try.underlying53 rfl (by kernel_rfl)) rfl ?_
 exact ⟨by first | rfl | (simp [errW_none, errW_some] <;> rfl) | (simp [*, errW_none, errW_some] <;> rfl), (below_set (below_set (below_set (below_set HB.out GE304.out) GE304.out) GE297.out) GE297.out)⟩

end Go.Proofs.Ytfmbophennepdaa.G
