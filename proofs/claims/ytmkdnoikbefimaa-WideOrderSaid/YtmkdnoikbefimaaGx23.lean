-- Written by a program of this session (wip/gen), out of the translation; Lean checks it.
import Derived.Test.YtmkdnoikbefimaaGx0
import Derived.Test.YtmkdnoikbefimaaGx12
import Derived.Test.YtmkdnoikbefimaaGx22
namespace Go.Proofs.Ytmkdnoikbefimaa.G
open Go.RowKit Go.Proofs.YtmkdnoikbefimaaW.PrintWords Go.Proofs.YtmkdnoikbefimaaW.PrintLast Go.Proofs.YtmkdnoikbefimaaW.PrintMore
attribute [local go_sem] max2_int min2_int max_two min_two max_three min_three max_four min_four   -- for this text's walks alone
set_option linter.unusedVariables false
set_option linter.unusedSimpArgs false

/-! ### relievolaw01_WideOrder: function 3 -/
mutual
def relievolaw01_WideOrder.j0 : Nat → Int → Int → Bool → Int → Bool → Int → Bool → Bool → Int → Int → Int → Int → Option (Bool)
  | 0, _, _, _, _, _, _, _, _, _, _, _, _ => none
  | k + 1, x3, x9, x10, x13, x14, x15, x16, x52, x161000, x161001, x162000, x162001 => if x52 = true then (some false) else (if x10 = true then (if x14 = true then (if x16 = true then (if x9 ≤ 0 then (if x13 ≤ 0 then (if x15 > 0 then (relievolaw01_WideOrder.j1 k x3 x9 x10 true x161000 x161001 x162000 x162001) else (if x9 ≥ 0 then (if x13 ≥ 0 then (relievolaw01_WideOrder.j1 k x3 x9 x10 (decide (x15 < 0)) x161000 x161001 x162000 x162001) else (relievolaw01_WideOrder.j1 k x3 x9 x10 false x161000 x161001 x162000 x162001)) else (relievolaw01_WideOrder.j1 k x3 x9 x10 false x161000 x161001 x162000 x162001))) else (if x9 ≥ 0 then (if x13 ≥ 0 then (relievolaw01_WideOrder.j1 k x3 x9 x10 (decide (x15 < 0)) x161000 x161001 x162000 x162001) else (relievolaw01_WideOrder.j1 k x3 x9 x10 false x161000 x161001 x162000 x162001)) else (relievolaw01_WideOrder.j1 k x3 x9 x10 false x161000 x161001 x162000 x162001))) else (if x9 ≥ 0 then (if x13 ≥ 0 then (relievolaw01_WideOrder.j1 k x3 x9 x10 (decide (x15 < 0)) x161000 x161001 x162000 x162001) else (relievolaw01_WideOrder.j1 k x3 x9 x10 false x161000 x161001 x162000 x162001)) else (relievolaw01_WideOrder.j1 k x3 x9 x10 false x161000 x161001 x162000 x162001))) else (relievolaw01_WideOrder.j1 k x3 x9 x10 true x161000 x161001 x162000 x162001)) else (relievolaw01_WideOrder.j1 k x3 x9 x10 false x161000 x161001 x162000 x162001)) else (relievolaw01_WideOrder.j1 k x3 x9 x10 false x161000 x161001 x162000 x162001))
def relievolaw01_WideOrder.j1 : Nat → Int → Int → Bool → Bool → Int → Int → Int → Int → Option (Bool)
  | 0, _, _, _, _, _, _, _, _ => none
  | k + 1, x3, x9, x10, x84, x161000, x161001, x162000, x162001 => if x84 = true then (some false) else (if x10 = true then (if x3 < 1 then (some true) else (if x3 > 1048576 then (some true) else (if x161001 < 1 then (some true) else (if x161001 > 1099511627776 then (some true) else (if x161000 > 1099511627776 then (some true) else (if x161000 < (-1099511627776) then (some true) else ((wide_Order.f k (wrap64 (x161000 * x3)) (wrap64 (x161001 * x3)) x162000 x162001).bind fun bt172 => (if bt172.2 = true then (some (bt172.1 == x9)) else (some false))))))))) else (some true))
end
def relievolaw01_WideOrder.f (k : Nat) (a0_0 : Int) (a0_1 : Int) (a1_0 : Int) (a1_1 : Int) (a2_0 : Int) (a2_1 : Int) (a3 : Int) : Option (Bool) := (relievolaw01_alive.f k).bind fun t163 => (if t163 = true then ((wide_Order.f k a0_0 a0_1 a1_0 a1_1).bind fun bt164 => ((wide_Order.f k a1_0 a1_1 a0_0 a0_1).bind fun bt166 => ((wide_Order.f k a1_0 a1_1 a2_0 a2_1).bind fun bt168 => ((wide_Order.f k a0_0 a0_1 a2_0 a2_1).bind fun bt170 => (if (bt164.2 != bt166.2) = true then (relievolaw01_WideOrder.j0 k a3 bt164.1 bt164.2 bt168.1 bt168.2 bt170.1 bt170.2 true a0_0 a0_1 a1_0 a1_1) else (relievolaw01_WideOrder.j0 k a3 bt164.1 bt164.2 bt168.1 bt168.2 bt170.1 bt170.2 (bt164.1 != (wrap64 (-bt166.1))) a0_0 a0_1 a1_0 a1_1)))))) else (some false))
set_option maxHeartbeats 8000000 in
set_option maxRecDepth 100000 in
theorem relievolaw01_WideOrder.calls (k : Nat) (a0_0 : Int) (a0_1 : Int) (a1_0 : Int) (a1_1 : Int) (a2_0 : Int) (a2_1 : Int) (a3 : Int) (r : Bool) (w : World) (h : relievolaw01_WideOrder.f k a0_0 a0_1 a1_0 a1_1 a2_0 a2_1 a3 = some r) :
    Calls Try.prog 3 #[.agg #[.int .i64 a0_0, .int .i64 a0_1], .agg #[.int .i64 a1_0, .int .i64 a1_1], .agg #[.int .i64 a2_0, .int .i64 a2_1], .int .i64 a3] w fun e w' => e = .returned (.bool r) ∧ Below w.heap.size w w' := by
 have hu23 := Try.underlying23
 have HB := Aside0.mk (Below.refl w.heap.size w)
 have H : ((relievolaw01_alive.f k).bind fun t163 => (if t163 = true then ((wide_Order.f k a0_0 a0_1 a1_0 a1_1).bind fun bt164 => ((wide_Order.f k a1_0 a1_1 a0_0 a0_1).bind fun bt166 => ((wide_Order.f k a1_0 a1_1 a2_0 a2_1).bind fun bt168 => ((wide_Order.f k a0_0 a0_1 a2_0 a2_1).bind fun bt170 => (if (bt164.2 != bt166.2) = true then (relievolaw01_WideOrder.j0 k a3 bt164.1 bt164.2 bt168.1 bt168.2 bt170.1 bt170.2 true a0_0 a0_1 a1_0 a1_1) else (relievolaw01_WideOrder.j0 k a3 bt164.1 bt164.2 bt168.1 bt168.2 bt170.1 bt170.2 (bt164.1 != (wrap64 (-bt166.1))) a0_0 a0_1 a1_0 a1_1)))))) else (some false))) = some r := h
 clear h
 replace H := Option.bind_eq_some_iff.mp H
 obtain ⟨t163, A50, H⟩ := H
 replace H : (if t163 = true then ((wide_Order.f k a0_0 a0_1 a1_0 a1_1).bind fun bt164 => ((wide_Order.f k a1_0 a1_1 a0_0 a0_1).bind fun bt166 => ((wide_Order.f k a1_0 a1_1 a2_0 a2_1).bind fun bt168 => ((wide_Order.f k a0_0 a0_1 a2_0 a2_1).bind fun bt170 => (if (bt164.2 != bt166.2) = true then (relievolaw01_WideOrder.j0 k a3 bt164.1 bt164.2 bt168.1 bt168.2 bt170.1 bt170.2 true a0_0 a0_1 a1_0 a1_1) else (relievolaw01_WideOrder.j0 k a3 bt164.1 bt164.2 bt168.1 bt168.2 bt170.1 bt170.2 (bt164.1 != (wrap64 (-bt166.1))) a0_0 a0_1 a1_0 a1_1)))))) else (some false)) = some r := H
 have A5 := Aside0.mk A50
 clear A50
 by_cases c6 : t163 = true
 ·subst c6
  have H1 : ((wide_Order.f k a0_0 a0_1 a1_0 a1_1).bind fun bt164 => ((wide_Order.f k a1_0 a1_1 a0_0 a0_1).bind fun bt166 => ((wide_Order.f k a1_0 a1_1 a2_0 a2_1).bind fun bt168 => ((wide_Order.f k a0_0 a0_1 a2_0 a2_1).bind fun bt170 => (if (bt164.2 != bt166.2) = true then (relievolaw01_WideOrder.j0 k a3 bt164.1 bt164.2 bt168.1 bt168.2 bt170.1 bt170.2 true a0_0 a0_1 a1_0 a1_1) else (relievolaw01_WideOrder.j0 k a3 bt164.1 bt164.2 bt168.1 bt168.2 bt170.1 bt170.2 (bt164.1 != (wrap64 (-bt166.1))) a0_0 a0_1 a1_0 a1_1)))))) = some r := by rw [if_pos rfl] at H; exact H
  clear H
  have H := H1
  clear H1
  replace H := Option.bind_eq_some_iff.mp H
  obtain ⟨⟨t164, t165⟩, A70, H⟩ := H
  replace H : ((wide_Order.f k a1_0 a1_1 a0_0 a0_1).bind fun bt166 => ((wide_Order.f k a1_0 a1_1 a2_0 a2_1).bind fun bt168 => ((wide_Order.f k a0_0 a0_1 a2_0 a2_1).bind fun bt170 => (if (t165 != bt166.2) = true then (relievolaw01_WideOrder.j0 k a3 t164 t165 bt168.1 bt168.2 bt170.1 bt170.2 true a0_0 a0_1 a1_0 a1_1) else (relievolaw01_WideOrder.j0 k a3 t164 t165 bt168.1 bt168.2 bt170.1 bt170.2 (t164 != (wrap64 (-bt166.1))) a0_0 a0_1 a1_0 a1_1))))) = some r := H
  have A7 := Aside0.mk A70
  clear A70
  replace H := Option.bind_eq_some_iff.mp H
  obtain ⟨⟨t166, t167⟩, A80, H⟩ := H
  replace H : ((wide_Order.f k a1_0 a1_1 a2_0 a2_1).bind fun bt168 => ((wide_Order.f k a0_0 a0_1 a2_0 a2_1).bind fun bt170 => (if (t165 != t167) = true then (relievolaw01_WideOrder.j0 k a3 t164 t165 bt168.1 bt168.2 bt170.1 bt170.2 true a0_0 a0_1 a1_0 a1_1) else (relievolaw01_WideOrder.j0 k a3 t164 t165 bt168.1 bt168.2 bt170.1 bt170.2 (t164 != (wrap64 (-t166))) a0_0 a0_1 a1_0 a1_1)))) = some r := H
  have A8 := Aside0.mk A80
  clear A80
  replace H := Option.bind_eq_some_iff.mp H
  obtain ⟨⟨t168, t169⟩, A90, H⟩ := H
  replace H : ((wide_Order.f k a0_0 a0_1 a2_0 a2_1).bind fun bt170 => (if (t165 != t167) = true then (relievolaw01_WideOrder.j0 k a3 t164 t165 t168 t169 bt170.1 bt170.2 true a0_0 a0_1 a1_0 a1_1) else (relievolaw01_WideOrder.j0 k a3 t164 t165 t168 t169 bt170.1 bt170.2 (t164 != (wrap64 (-t166))) a0_0 a0_1 a1_0 a1_1))) = some r := H
  have A9 := Aside0.mk A90
  clear A90
  replace H := Option.bind_eq_some_iff.mp H
  obtain ⟨⟨t170, t171⟩, A100, H⟩ := H
  replace H : (if (t165 != t167) = true then (relievolaw01_WideOrder.j0 k a3 t164 t165 t168 t169 t170 t171 true a0_0 a0_1 a1_0 a1_1) else (relievolaw01_WideOrder.j0 k a3 t164 t165 t168 t169 t170 t171 (t164 != (wrap64 (-t166))) a0_0 a0_1 a1_0 a1_1)) = some r := H
  have A10 := Aside0.mk A100
  clear A100
  have HC11 := Aside0.mk H
  clear H
  go_enter Try.func3, Try.ntmps3
  go_upto_region 7 with (first | ((with_reducible refine gate_dst (N := 4) rfl ?_); refine box_event ?hg (N := 4) ?hd (cs := #[.int .i64 a0_0, .int .i64 a0_1]) (t := 23) ?hr ?_; (case hd => rfl); (case hg => rfl); (case hr => first | (go_simp; done) | (go_simp; rfl)); intro gb160 hg w12 hbox hb; have BK160 := Aside0.mk (hbox); have GE160 := Aside0.mk (bG hg (HB.out)); replace HB := Aside0.mk (below_step (HB.out) hb); clear hb hbox hg) | ((with_reducible refine gate_dst (N := 5) rfl ?_); refine box_event ?hg (N := 5) ?hd (cs := #[.int .i64 a1_0, .int .i64 a1_1]) (t := 23) ?hr ?_; (case hd => rfl); (case hg => rfl); (case hr => first | (go_simp; done) | (go_simp; rfl)); intro gb161 hg w13 hbox hb; have BK161 := Aside0.mk (hbox); have GE161 := Aside0.mk (bG hg (HB.out)); have NB160_161 := cN hg BK160; have NB161_160 := cM hg BK160; replace BK160 := cB hb BK160; replace HB := Aside0.mk (below_step (HB.out) hb); clear hb hbox hg) | ((with_reducible refine gate_dst (N := 6) rfl ?_); refine box_event ?hg (N := 6) ?hd (cs := #[.int .i64 a2_0, .int .i64 a2_1]) (t := 23) ?hr ?_; (case hd => rfl); (case hg => rfl); (case hr => first | (go_simp; done) | (go_simp; rfl)); intro gb162 hg w14 hbox hb; have BK162 := Aside0.mk (hbox); have GE162 := Aside0.mk (bG hg (HB.out)); have NB160_162 := cN hg BK160; have NB162_160 := cM hg BK160; have NB161_162 := cN hg BK161; have NB162_161 := cM hg BK161; replace BK160 := cB hb BK160; replace BK161 := cB hb BK161; replace HB := Aside0.mk (below_step (HB.out) hb); clear hb hbox hg) | ((with_reducible refine gate_callee (f := 11) rfl ?_); refine goesL_ (some 18) rfl rfl Try.func11 (by kernel_rfl) rfl #[] rfl (by (try simp only [List.map_toArray, List.map_cons, List.map_nil]); first | done | rfl | (simp only [List.length_drop, List.length_take]; rfl)) ?_; (with_reducible refine (relievolaw01_alive.calls k  true _ A5.out).mono ?_); rintro e w15 ⟨rfl, hb⟩; refine ⟨_, rfl, ?_⟩; replace BK160 := cB hb BK160; replace BK161 := cB hb BK161; replace BK162 := cB hb BK162; replace HB := Aside0.mk (below_step (HB.out) hb); (try clear hb); (try clear hb2); (try clear hk); (try clear hi); obtain ⟨hcz16_0, hcz16_1⟩ := cells2 BK160.out; obtain ⟨hcz17_0, hcz17_1⟩ := cells2 BK161.out) | ((with_reducible refine gate_callee (f := 12) rfl ?_); refine goesL_ (some 23) rfl rfl Try.func12 (by kernel_rfl) rfl #[.agg #[.int .i64 a0_0, .int .i64 a0_1], .agg #[.int .i64 a1_0, .int .i64 a1_1]] rfl (by (try simp only [List.map_toArray, List.map_cons, List.map_nil]); first | done | rfl | (simp only [List.length_drop, List.length_take]; rfl)) ?_; (with_reducible refine (wide_Order.calls k a0_0 a0_1 a1_0 a1_1 t164 t165 _ A7.out).mono ?_); rintro e w18 ⟨rfl, hb⟩; refine ⟨_, rfl, ?_⟩; replace BK160 := cB hb BK160; replace BK161 := cB hb BK161; replace BK162 := cB hb BK162; replace HB := Aside0.mk (below_step (HB.out) hb); (try clear hb); (try clear hb2); (try clear hk); (try clear hi); obtain ⟨hcz19_0, hcz19_1⟩ := cells2 BK161.out; obtain ⟨hcz20_0, hcz20_1⟩ := cells2 BK160.out) | ((with_reducible refine gate_callee (f := 12) rfl ?_); refine goesL_ (some 29) rfl rfl Try.func12 (by kernel_rfl) rfl #[.agg #[.int .i64 a1_0, .int .i64 a1_1], .agg #[.int .i64 a0_0, .int .i64 a0_1]] rfl (by (try simp only [List.map_toArray, List.map_cons, List.map_nil]); first | done | rfl | (simp only [List.length_drop, List.length_take]; rfl)) ?_; (with_reducible refine (wide_Order.calls k a1_0 a1_1 a0_0 a0_1 t166 t167 _ A8.out).mono ?_); rintro e w21 ⟨rfl, hb⟩; refine ⟨_, rfl, ?_⟩; replace BK160 := cB hb BK160; replace BK161 := cB hb BK161; replace BK162 := cB hb BK162; replace HB := Aside0.mk (below_step (HB.out) hb); (try clear hb); (try clear hb2); (try clear hk); (try clear hi); obtain ⟨hcz22_0, hcz22_1⟩ := cells2 BK161.out; obtain ⟨hcz23_0, hcz23_1⟩ := cells2 BK162.out) | ((with_reducible refine gate_callee (f := 12) rfl ?_); refine goesL_ (some 35) rfl rfl Try.func12 (by kernel_rfl) rfl #[.agg #[.int .i64 a1_0, .int .i64 a1_1], .agg #[.int .i64 a2_0, .int .i64 a2_1]] rfl (by (try simp only [List.map_toArray, List.map_cons, List.map_nil]); first | done | rfl | (simp only [List.length_drop, List.length_take]; rfl)) ?_; (with_reducible refine (wide_Order.calls k a1_0 a1_1 a2_0 a2_1 t168 t169 _ A9.out).mono ?_); rintro e w24 ⟨rfl, hb⟩; refine ⟨_, rfl, ?_⟩; replace BK160 := cB hb BK160; replace BK161 := cB hb BK161; replace BK162 := cB hb BK162; replace HB := Aside0.mk (below_step (HB.out) hb); (try clear hb); (try clear hb2); (try clear hk); (try clear hi); obtain ⟨hcz25_0, hcz25_1⟩ := cells2 BK160.out; obtain ⟨hcz26_0, hcz26_1⟩ := cells2 BK162.out) | ((with_reducible refine gate_callee (f := 12) rfl ?_); refine goesL_ (some 41) rfl rfl Try.func12 (by kernel_rfl) rfl #[.agg #[.int .i64 a0_0, .int .i64 a0_1], .agg #[.int .i64 a2_0, .int .i64 a2_1]] rfl (by (try simp only [List.map_toArray, List.map_cons, List.map_nil]); first | done | rfl | (simp only [List.length_drop, List.length_take]; rfl)) ?_; (with_reducible refine (wide_Order.calls k a0_0 a0_1 a2_0 a2_1 t170 t171 _ A10.out).mono ?_); rintro e w27 ⟨rfl, hb⟩; refine ⟨_, rfl, ?_⟩; replace BK160 := cB hb BK160; replace BK161 := cB hb BK161; replace BK162 := cB hb BK162; replace HB := Aside0.mk (below_step (HB.out) hb); (try clear hb); (try clear hb2); (try clear hk); (try clear hi)))
  (try simp only [Act.put, List.setIfInBounds_toArray, List.set_cons_zero, List.set_cons_succ])
  go_cut [52] (fun v52 wc => ∃ (kq : Nat) (x52_10 : Bool), v52 = .bool x52_10 ∧ Aside0 (relievolaw01_WideOrder.j0 kq a3 t164 t165 t168 t169 t170 t171 x52_10 a0_0 a0_1 a1_0 a1_1 = some r) ∧ Aside0 (kq ≤ k) ∧ Aside0 (wc.heap[gb160]? = some (.cells #[.int .i64 a0_0, .int .i64 a0_1] 23 (0, 0))) ∧ Aside0 (wc.heap[gb161]? = some (.cells #[.int .i64 a1_0, .int .i64 a1_1] 23 (0, 0))) ∧ Aside0 (Below w.heap.size w wc))
  case first =>
   have H := HC11.out
   clear HC11
   by_cases c28 : (t165 != t167) = true
   ·rw [if_pos c28] at H
    have c28b0 : (t165 != t167) = true := c28
    (try (have c28b1 : decide (t165 = t167) = false := by simpa using c28))
    (try (have c28b2 : (t165 == t167) = false := by simpa using c28))
    (try (have c28b3 : ¬ (t165 = t167) := by simpa using c28))
    clear c28
    (first | rw [c28b0] | (simp only [i64_w, i32_w]; rw [c28b0]) | skip)
    have H' := Aside0.mk H
    clear H
    go_wp2
    go_meet
    case rel => exact ⟨_, (true), (by first | rfl | (simp; done) | (simp [*]; done)), H', ⟨by first | omega | exact Nat.le_refl _⟩, ⟨BK160.out⟩, ⟨BK161.out⟩, ⟨HB.out⟩⟩
   rw [if_neg c28] at H
   have c28b0 : (t165 != t167) = false := by simpa using c28
   (try (have c28b1 : decide (t165 = t167) = true := by simpa using c28))
   (try (have c28b2 : (t165 == t167) = true := by simpa using c28))
   clear c28
   (first | rw [c28b0] | (simp only [i64_w, i32_w]; rw [c28b0]) | skip)
   have H' := Aside0.mk H
   clear H
   go_wp2
   go_meet
   case rel => exact ⟨_, ((t164 != (wrap64 (-t166)))), (by first | rfl | (simp; done) | (simp [*]; done)), H', ⟨by first | omega | exact Nat.le_refl _⟩, ⟨BK160.out⟩, ⟨BK161.out⟩, ⟨HB.out⟩⟩
  clear HC11
  try clear c6
  try clear hcz16_0
  try clear hcz16_1
  try clear hcz17_0
  try clear hcz17_1
  try clear hcz19_0
  try clear hcz19_1
  try clear hcz20_0
  try clear hcz20_1
  try clear hcz22_0
  try clear hcz22_1
  try clear hcz23_0
  try clear hcz23_1
  try clear hcz25_0
  try clear hcz25_1
  try clear hcz26_0
  try clear hcz26_1
  obtain ⟨kq, x52_10, rfl, HA, HJ10, BK160, BK161, HB⟩ := hcut
  cases kq with
  | zero => exact absurd HA.out (by simp [relievolaw01_WideOrder.j0])
  | succ kj10 =>
   have H := HA.out
   clear HA
   simp only [relievolaw01_WideOrder.j0] at H
   by_cases c29 : x52_10 = true
   ·subst c29
    have H1 : (some false) = some r := by rw [if_pos rfl] at H; exact H
    clear H
    have H := H1
    clear H1
    obtain rfl := Option.some.inj H
    go_wp2
    go_ret
    exact ⟨by first | rfl | (simp [errW_none, errW_some] <;> rfl) | (simp [*, errW_none, errW_some] <;> rfl), HB.out⟩
   replace c29 := Bool.eq_false_iff.mpr c29
   subst c29
   have H1 : (if t165 = true then (if t169 = true then (if t171 = true then (if t164 ≤ 0 then (if t168 ≤ 0 then (if t170 > 0 then (relievolaw01_WideOrder.j1 kj10 a3 t164 t165 true a0_0 a0_1 a1_0 a1_1) else (if t164 ≥ 0 then (if t168 ≥ 0 then (relievolaw01_WideOrder.j1 kj10 a3 t164 t165 (decide (t170 < 0)) a0_0 a0_1 a1_0 a1_1) else (relievolaw01_WideOrder.j1 kj10 a3 t164 t165 false a0_0 a0_1 a1_0 a1_1)) else (relievolaw01_WideOrder.j1 kj10 a3 t164 t165 false a0_0 a0_1 a1_0 a1_1))) else (if t164 ≥ 0 then (if t168 ≥ 0 then (relievolaw01_WideOrder.j1 kj10 a3 t164 t165 (decide (t170 < 0)) a0_0 a0_1 a1_0 a1_1) else (relievolaw01_WideOrder.j1 kj10 a3 t164 t165 false a0_0 a0_1 a1_0 a1_1)) else (relievolaw01_WideOrder.j1 kj10 a3 t164 t165 false a0_0 a0_1 a1_0 a1_1))) else (if t164 ≥ 0 then (if t168 ≥ 0 then (relievolaw01_WideOrder.j1 kj10 a3 t164 t165 (decide (t170 < 0)) a0_0 a0_1 a1_0 a1_1) else (relievolaw01_WideOrder.j1 kj10 a3 t164 t165 false a0_0 a0_1 a1_0 a1_1)) else (relievolaw01_WideOrder.j1 kj10 a3 t164 t165 false a0_0 a0_1 a1_0 a1_1))) else (relievolaw01_WideOrder.j1 kj10 a3 t164 t165 true a0_0 a0_1 a1_0 a1_1)) else (relievolaw01_WideOrder.j1 kj10 a3 t164 t165 false a0_0 a0_1 a1_0 a1_1)) else (relievolaw01_WideOrder.j1 kj10 a3 t164 t165 false a0_0 a0_1 a1_0 a1_1)) = some r := by rw [if_neg (show ¬ (false = true) by decide)] at H; exact H
   clear H
   have H := H1
   clear H1
   have HC30 := Aside0.mk H
   clear H
   go_upto_region 9 with (fail)
   go_cut [84] (fun v84 wc => ∃ (kq : Nat) (x84_29 : Bool), v84 = .bool x84_29 ∧ Aside0 (relievolaw01_WideOrder.j1 kq a3 t164 t165 x84_29 a0_0 a0_1 a1_0 a1_1 = some r) ∧ Aside0 (kq ≤ kj10) ∧ Aside0 (wc.heap[gb160]? = some (.cells #[.int .i64 a0_0, .int .i64 a0_1] 23 (0, 0))) ∧ Aside0 (wc.heap[gb161]? = some (.cells #[.int .i64 a1_0, .int .i64 a1_1] 23 (0, 0))) ∧ Aside0 (Below w.heap.size w wc))
   case first =>
    have H := HC30.out
    clear HC30
    by_cases c31 : t165 = true
    ·subst c31
     have H1 : (if t169 = true then (if t171 = true then (if t164 ≤ 0 then (if t168 ≤ 0 then (if t170 > 0 then (relievolaw01_WideOrder.j1 kj10 a3 t164 true true a0_0 a0_1 a1_0 a1_1) else (if t164 ≥ 0 then (if t168 ≥ 0 then (relievolaw01_WideOrder.j1 kj10 a3 t164 true (decide (t170 < 0)) a0_0 a0_1 a1_0 a1_1) else (relievolaw01_WideOrder.j1 kj10 a3 t164 true false a0_0 a0_1 a1_0 a1_1)) else (relievolaw01_WideOrder.j1 kj10 a3 t164 true false a0_0 a0_1 a1_0 a1_1))) else (if t164 ≥ 0 then (if t168 ≥ 0 then (relievolaw01_WideOrder.j1 kj10 a3 t164 true (decide (t170 < 0)) a0_0 a0_1 a1_0 a1_1) else (relievolaw01_WideOrder.j1 kj10 a3 t164 true false a0_0 a0_1 a1_0 a1_1)) else (relievolaw01_WideOrder.j1 kj10 a3 t164 true false a0_0 a0_1 a1_0 a1_1))) else (if t164 ≥ 0 then (if t168 ≥ 0 then (relievolaw01_WideOrder.j1 kj10 a3 t164 true (decide (t170 < 0)) a0_0 a0_1 a1_0 a1_1) else (relievolaw01_WideOrder.j1 kj10 a3 t164 true false a0_0 a0_1 a1_0 a1_1)) else (relievolaw01_WideOrder.j1 kj10 a3 t164 true false a0_0 a0_1 a1_0 a1_1))) else (relievolaw01_WideOrder.j1 kj10 a3 t164 true true a0_0 a0_1 a1_0 a1_1)) else (relievolaw01_WideOrder.j1 kj10 a3 t164 true false a0_0 a0_1 a1_0 a1_1)) = some r := by rw [if_pos rfl] at H; exact H
     clear H
     have H := H1
     clear H1
     by_cases c32 : t169 = true
     ·subst c32
      have H1 : (if t171 = true then (if t164 ≤ 0 then (if t168 ≤ 0 then (if t170 > 0 then (relievolaw01_WideOrder.j1 kj10 a3 t164 true true a0_0 a0_1 a1_0 a1_1) else (if t164 ≥ 0 then (if t168 ≥ 0 then (relievolaw01_WideOrder.j1 kj10 a3 t164 true (decide (t170 < 0)) a0_0 a0_1 a1_0 a1_1) else (relievolaw01_WideOrder.j1 kj10 a3 t164 true false a0_0 a0_1 a1_0 a1_1)) else (relievolaw01_WideOrder.j1 kj10 a3 t164 true false a0_0 a0_1 a1_0 a1_1))) else (if t164 ≥ 0 then (if t168 ≥ 0 then (relievolaw01_WideOrder.j1 kj10 a3 t164 true (decide (t170 < 0)) a0_0 a0_1 a1_0 a1_1) else (relievolaw01_WideOrder.j1 kj10 a3 t164 true false a0_0 a0_1 a1_0 a1_1)) else (relievolaw01_WideOrder.j1 kj10 a3 t164 true false a0_0 a0_1 a1_0 a1_1))) else (if t164 ≥ 0 then (if t168 ≥ 0 then (relievolaw01_WideOrder.j1 kj10 a3 t164 true (decide (t170 < 0)) a0_0 a0_1 a1_0 a1_1) else (relievolaw01_WideOrder.j1 kj10 a3 t164 true false a0_0 a0_1 a1_0 a1_1)) else (relievolaw01_WideOrder.j1 kj10 a3 t164 true false a0_0 a0_1 a1_0 a1_1))) else (relievolaw01_WideOrder.j1 kj10 a3 t164 true true a0_0 a0_1 a1_0 a1_1)) = some r := by rw [if_pos rfl] at H; exact H
      clear H
      have H := H1
      clear H1
      by_cases c33 : t171 = true
      ·subst c33
       have H1 : (if t164 ≤ 0 then (if t168 ≤ 0 then (if t170 > 0 then (relievolaw01_WideOrder.j1 kj10 a3 t164 true true a0_0 a0_1 a1_0 a1_1) else (if t164 ≥ 0 then (if t168 ≥ 0 then (relievolaw01_WideOrder.j1 kj10 a3 t164 true (decide (t170 < 0)) a0_0 a0_1 a1_0 a1_1) else (relievolaw01_WideOrder.j1 kj10 a3 t164 true false a0_0 a0_1 a1_0 a1_1)) else (relievolaw01_WideOrder.j1 kj10 a3 t164 true false a0_0 a0_1 a1_0 a1_1))) else (if t164 ≥ 0 then (if t168 ≥ 0 then (relievolaw01_WideOrder.j1 kj10 a3 t164 true (decide (t170 < 0)) a0_0 a0_1 a1_0 a1_1) else (relievolaw01_WideOrder.j1 kj10 a3 t164 true false a0_0 a0_1 a1_0 a1_1)) else (relievolaw01_WideOrder.j1 kj10 a3 t164 true false a0_0 a0_1 a1_0 a1_1))) else (if t164 ≥ 0 then (if t168 ≥ 0 then (relievolaw01_WideOrder.j1 kj10 a3 t164 true (decide (t170 < 0)) a0_0 a0_1 a1_0 a1_1) else (relievolaw01_WideOrder.j1 kj10 a3 t164 true false a0_0 a0_1 a1_0 a1_1)) else (relievolaw01_WideOrder.j1 kj10 a3 t164 true false a0_0 a0_1 a1_0 a1_1))) = some r := by rw [if_pos rfl] at H; exact H
       clear H
       have H := H1
       clear H1
       by_cases c34 : t164 ≤ 0
       ·rw [if_pos c34] at H
        have c34b0 : decide (t164 ≤ 0) = true := decide_eq_true c34
        clear c34
        (first | rw [c34b0] | (simp only [i64_w, i32_w]; rw [c34b0]) | skip)
        by_cases c35 : t168 ≤ 0
        ·rw [if_pos c35] at H
         have c35b0 : decide (t168 ≤ 0) = true := decide_eq_true c35
         clear c35
         by_cases c36 : t170 > 0
         ·rw [if_pos c36] at H
          have c36b0 : decide (0 < t170) = true := decide_eq_true c36
          clear c36
          have H' := Aside0.mk H
          clear H
          go_wp2
          go_meet
          case rel => exact ⟨_, (true), (by first | rfl | (simp; done) | (simp [*]; done)), H', ⟨by have := HJ10.out; first | omega | exact Nat.le_refl _⟩, ⟨BK160.out⟩, ⟨BK161.out⟩, ⟨HB.out⟩⟩
         rw [if_neg c36] at H
         have c36b0 : decide (0 < t170) = false := decide_eq_false c36
         clear c36
         by_cases c37 : t164 ≥ 0
         ·rw [if_pos c37] at H
          have c37b0 : decide (0 ≤ t164) = true := decide_eq_true c37
          clear c37
          by_cases c38 : t168 ≥ 0
          ·rw [if_pos c38] at H
           have c38b0 : decide (0 ≤ t168) = true := decide_eq_true c38
           clear c38
           have H' := Aside0.mk H
           clear H
           go_wp2
           go_meet
           case rel => exact ⟨_, (decide (t170 < 0)), (by first | rfl | (simp; done) | (simp [*]; done)), H', ⟨by have := HJ10.out; first | omega | exact Nat.le_refl _⟩, ⟨BK160.out⟩, ⟨BK161.out⟩, ⟨HB.out⟩⟩
          rw [if_neg c38] at H
          have c38b0 : decide (0 ≤ t168) = false := decide_eq_false c38
          clear c38
          have H' := Aside0.mk H
          clear H
          go_wp2
          go_meet
          case rel => exact ⟨_, (false), (by first | rfl | (simp; done) | (simp [*]; done)), H', ⟨by have := HJ10.out; first | omega | exact Nat.le_refl _⟩, ⟨BK160.out⟩, ⟨BK161.out⟩, ⟨HB.out⟩⟩
         rw [if_neg c37] at H
         have c37b0 : decide (0 ≤ t164) = false := decide_eq_false c37
         clear c37
         have H' := Aside0.mk H
         clear H
         go_wp2
         go_meet
         case rel => exact ⟨_, (false), (by first | rfl | (simp; done) | (simp [*]; done)), H', ⟨by have := HJ10.out; first | omega | exact Nat.le_refl _⟩, ⟨BK160.out⟩, ⟨BK161.out⟩, ⟨HB.out⟩⟩
        rw [if_neg c35] at H
        have c35b0 : decide (t168 ≤ 0) = false := decide_eq_false c35
        clear c35
        by_cases c39 : t164 ≥ 0
        ·rw [if_pos c39] at H
         have c39b0 : decide (0 ≤ t164) = true := decide_eq_true c39
         clear c39
         by_cases c40 : t168 ≥ 0
         ·rw [if_pos c40] at H
          have c40b0 : decide (0 ≤ t168) = true := decide_eq_true c40
          clear c40
          have H' := Aside0.mk H
          clear H
          go_wp2
          go_meet
          case rel => exact ⟨_, (decide (t170 < 0)), (by first | rfl | (simp; done) | (simp [*]; done)), H', ⟨by have := HJ10.out; first | omega | exact Nat.le_refl _⟩, ⟨BK160.out⟩, ⟨BK161.out⟩, ⟨HB.out⟩⟩
         rw [if_neg c40] at H
         have c40b0 : decide (0 ≤ t168) = false := decide_eq_false c40
         clear c40
         have H' := Aside0.mk H
         clear H
         go_wp2
         go_meet
         case rel => exact ⟨_, (false), (by first | rfl | (simp; done) | (simp [*]; done)), H', ⟨by have := HJ10.out; first | omega | exact Nat.le_refl _⟩, ⟨BK160.out⟩, ⟨BK161.out⟩, ⟨HB.out⟩⟩
        rw [if_neg c39] at H
        have c39b0 : decide (0 ≤ t164) = false := decide_eq_false c39
        clear c39
        have H' := Aside0.mk H
        clear H
        go_wp2
        go_meet
        case rel => exact ⟨_, (false), (by first | rfl | (simp; done) | (simp [*]; done)), H', ⟨by have := HJ10.out; first | omega | exact Nat.le_refl _⟩, ⟨BK160.out⟩, ⟨BK161.out⟩, ⟨HB.out⟩⟩
       rw [if_neg c34] at H
       have c34b0 : decide (t164 ≤ 0) = false := decide_eq_false c34
       clear c34
       (first | rw [c34b0] | (simp only [i64_w, i32_w]; rw [c34b0]) | skip)
       by_cases c41 : t164 ≥ 0
       ·rw [if_pos c41] at H
        have c41b0 : decide (0 ≤ t164) = true := decide_eq_true c41
        clear c41
        by_cases c42 : t168 ≥ 0
        ·rw [if_pos c42] at H
         have c42b0 : decide (0 ≤ t168) = true := decide_eq_true c42
         clear c42
         have H' := Aside0.mk H
         clear H
         go_wp2
         go_meet
         case rel => exact ⟨_, (decide (t170 < 0)), (by first | rfl | (simp; done) | (simp [*]; done)), H', ⟨by have := HJ10.out; first | omega | exact Nat.le_refl _⟩, ⟨BK160.out⟩, ⟨BK161.out⟩, ⟨HB.out⟩⟩
        rw [if_neg c42] at H
        have c42b0 : decide (0 ≤ t168) = false := decide_eq_false c42
        clear c42
        have H' := Aside0.mk H
        clear H
        go_wp2
        go_meet
        case rel => exact ⟨_, (false), (by first | rfl | (simp; done) | (simp [*]; done)), H', ⟨by have := HJ10.out; first | omega | exact Nat.le_refl _⟩, ⟨BK160.out⟩, ⟨BK161.out⟩, ⟨HB.out⟩⟩
       rw [if_neg c41] at H
       have c41b0 : decide (0 ≤ t164) = false := decide_eq_false c41
       clear c41
       have H' := Aside0.mk H
       clear H
       go_wp2
       go_meet
       case rel => exact ⟨_, (false), (by first | rfl | (simp; done) | (simp [*]; done)), H', ⟨by have := HJ10.out; first | omega | exact Nat.le_refl _⟩, ⟨BK160.out⟩, ⟨BK161.out⟩, ⟨HB.out⟩⟩
      replace c33 := Bool.eq_false_iff.mpr c33
      subst c33
      have H1 : (relievolaw01_WideOrder.j1 kj10 a3 t164 true true a0_0 a0_1 a1_0 a1_1) = some r := by rw [if_neg (show ¬ (false = true) by decide)] at H; exact H
      clear H
      have H := H1
      clear H1
      have H' := Aside0.mk H
      clear H
      go_wp2
      go_meet
      case rel => exact ⟨_, (true), (by first | rfl | (simp; done) | (simp [*]; done)), H', ⟨by have := HJ10.out; first | omega | exact Nat.le_refl _⟩, ⟨BK160.out⟩, ⟨BK161.out⟩, ⟨HB.out⟩⟩
     replace c32 := Bool.eq_false_iff.mpr c32
     subst c32
     have H1 : (relievolaw01_WideOrder.j1 kj10 a3 t164 true false a0_0 a0_1 a1_0 a1_1) = some r := by rw [if_neg (show ¬ (false = true) by decide)] at H; exact H
     clear H
     have H := H1
     clear H1
     have H' := Aside0.mk H
     clear H
     go_wp2
     go_meet
     case rel => exact ⟨_, (false), (by first | rfl | (simp; done) | (simp [*]; done)), H', ⟨by have := HJ10.out; first | omega | exact Nat.le_refl _⟩, ⟨BK160.out⟩, ⟨BK161.out⟩, ⟨HB.out⟩⟩
    replace c31 := Bool.eq_false_iff.mpr c31
    subst c31
    have H1 : (relievolaw01_WideOrder.j1 kj10 a3 t164 false false a0_0 a0_1 a1_0 a1_1) = some r := by rw [if_neg (show ¬ (false = true) by decide)] at H; exact H
    clear H
    have H := H1
    clear H1
    have H' := Aside0.mk H
    clear H
    go_wp2
    go_meet
    case rel => exact ⟨_, (false), (by first | rfl | (simp; done) | (simp [*]; done)), H', ⟨by have := HJ10.out; first | omega | exact Nat.le_refl _⟩, ⟨BK160.out⟩, ⟨BK161.out⟩, ⟨HB.out⟩⟩
   clear HC30
   try clear c29
   obtain ⟨kq, x84_29, rfl, HA, HJ29, BK160, BK161, HB⟩ := hcut
   cases kq with
   | zero => exact absurd HA.out (by simp [relievolaw01_WideOrder.j1])
   | succ kj29 =>
    have H := HA.out
    clear HA
    simp only [relievolaw01_WideOrder.j1] at H
    by_cases c43 : x84_29 = true
    ·subst c43
     have H1 : (some false) = some r := by rw [if_pos rfl] at H; exact H
     clear H
     have H := H1
     clear H1
     obtain rfl := Option.some.inj H
     go_wp2
     go_ret
     exact ⟨by first | rfl | (simp [errW_none, errW_some] <;> rfl) | (simp [*, errW_none, errW_some] <;> rfl), HB.out⟩
    replace c43 := Bool.eq_false_iff.mpr c43
    subst c43
    have H1 : (if t165 = true then (if a3 < 1 then (some true) else (if a3 > 1048576 then (some true) else (if a0_1 < 1 then (some true) else (if a0_1 > 1099511627776 then (some true) else (if a0_0 > 1099511627776 then (some true) else (if a0_0 < (-1099511627776) then (some true) else ((wide_Order.f kj29 (wrap64 (a0_0 * a3)) (wrap64 (a0_1 * a3)) a1_0 a1_1).bind fun bt172 => (if bt172.2 = true then (some (bt172.1 == t164)) else (some false))))))))) else (some true)) = some r := by rw [if_neg (show ¬ (false = true) by decide)] at H; exact H
    clear H
    have H := H1
    clear H1
    by_cases c44 : t165 = true
    ·subst c44
     have H1 : (if a3 < 1 then (some true) else (if a3 > 1048576 then (some true) else (if a0_1 < 1 then (some true) else (if a0_1 > 1099511627776 then (some true) else (if a0_0 > 1099511627776 then (some true) else (if a0_0 < (-1099511627776) then (some true) else ((wide_Order.f kj29 (wrap64 (a0_0 * a3)) (wrap64 (a0_1 * a3)) a1_0 a1_1).bind fun bt172 => (if bt172.2 = true then (some (bt172.1 == t164)) else (some false))))))))) = some r := by rw [if_pos rfl] at H; exact H
     clear H
     have H := H1
     clear H1
     by_cases c45 : a3 < 1
     ·rw [if_pos c45] at H
      have c45b0 : decide (a3 < 1) = true := decide_eq_true c45
      clear c45
      obtain rfl := Option.some.inj H
      go_wp2
      go_ret
      exact ⟨by first | rfl | (simp [errW_none, errW_some] <;> rfl) | (simp [*, errW_none, errW_some] <;> rfl), HB.out⟩
     rw [if_neg c45] at H
     have c45b0 : decide (a3 < 1) = false := decide_eq_false c45
     clear c45
     by_cases c46 : a3 > 1048576
     ·rw [if_pos c46] at H
      have c46b0 : decide (1048576 < a3) = true := decide_eq_true c46
      clear c46
      obtain rfl := Option.some.inj H
      go_wp2
      go_ret
      exact ⟨by first | rfl | (simp [errW_none, errW_some] <;> rfl) | (simp [*, errW_none, errW_some] <;> rfl), HB.out⟩
     rw [if_neg c46] at H
     have c46b0 : decide (1048576 < a3) = false := decide_eq_false c46
     clear c46
     by_cases c47 : a0_1 < 1
     ·rw [if_pos c47] at H
      have c47b0 : decide (a0_1 < 1) = true := decide_eq_true c47
      clear c47
      obtain rfl := Option.some.inj H
      obtain ⟨hcz48_0, hcz48_1⟩ := cells2 BK160.out
      go_wp2
      go_ret
      exact ⟨by first | rfl | (simp [errW_none, errW_some] <;> rfl) | (simp [*, errW_none, errW_some] <;> rfl), HB.out⟩
     rw [if_neg c47] at H
     have c47b0 : decide (a0_1 < 1) = false := decide_eq_false c47
     clear c47
     by_cases c49 : a0_1 > 1099511627776
     ·rw [if_pos c49] at H
      have c49b0 : decide (1099511627776 < a0_1) = true := decide_eq_true c49
      clear c49
      obtain rfl := Option.some.inj H
      obtain ⟨hcz50_0, hcz50_1⟩ := cells2 BK160.out
      go_wp2
      go_ret
      exact ⟨by first | rfl | (simp [errW_none, errW_some] <;> rfl) | (simp [*, errW_none, errW_some] <;> rfl), HB.out⟩
     rw [if_neg c49] at H
     have c49b0 : decide (1099511627776 < a0_1) = false := decide_eq_false c49
     clear c49
     by_cases c51 : a0_0 > 1099511627776
     ·rw [if_pos c51] at H
      have c51b0 : decide (1099511627776 < a0_0) = true := decide_eq_true c51
      clear c51
      obtain rfl := Option.some.inj H
      obtain ⟨hcz52_0, hcz52_1⟩ := cells2 BK160.out
      go_wp2
      go_ret
      exact ⟨by first | rfl | (simp [errW_none, errW_some] <;> rfl) | (simp [*, errW_none, errW_some] <;> rfl), HB.out⟩
     rw [if_neg c51] at H
     have c51b0 : decide (1099511627776 < a0_0) = false := decide_eq_false c51
     clear c51
     by_cases c53 : a0_0 < (-1099511627776)
     ·rw [if_pos c53] at H
      have c53b0 : decide (a0_0 < (-1099511627776)) = true := decide_eq_true c53
      clear c53
      obtain rfl := Option.some.inj H
      obtain ⟨hcz54_0, hcz54_1⟩ := cells2 BK160.out
      go_wp2
      go_ret
      exact ⟨by first | rfl | (simp [errW_none, errW_some] <;> rfl) | (simp [*, errW_none, errW_some] <;> rfl), HB.out⟩
     rw [if_neg c53] at H
     have c53b0 : decide (a0_0 < (-1099511627776)) = false := decide_eq_false c53
     clear c53
     replace H := Option.bind_eq_some_iff.mp H
     obtain ⟨⟨t172, t173⟩, A550, H⟩ := H
     replace H : (if t173 = true then (some (t172 == t164)) else (some false)) = some r := H
     have A55 := Aside0.mk A550
     clear A550
     by_cases c56 : t173 = true
     ·subst c56
      have H1 : (some (t172 == t164)) = some r := by rw [if_pos rfl] at H; exact H
      clear H
      have H := H1
      clear H1
      obtain rfl := Option.some.inj H
      obtain ⟨hcz57_0, hcz57_1⟩ := cells2 BK160.out
      obtain ⟨hcz58_0, hcz58_1⟩ := cells2 BK161.out
      go_wp2_with (first | ((with_reducible refine gate_callee (f := 12) rfl ?_); refine goesL_ (some 126) rfl rfl Try.func12 (by kernel_rfl) rfl #[.agg #[.int .i64 (wrap64 (a0_0 * a3)), .int .i64 (wrap64 (a0_1 * a3))], .agg #[.int .i64 a1_0, .int .i64 a1_1]] rfl (by (try simp only [List.map_toArray, List.map_cons, List.map_nil]); first | done | rfl | (simp only [List.length_drop, List.length_take]; rfl)) ?_; (with_reducible refine (wide_Order.calls kj29 (wrap64 (a0_0 * a3)) (wrap64 (a0_1 * a3)) a1_0 a1_1 t172 true _ A55.out).mono ?_); rintro e w59 ⟨rfl, hb⟩; refine ⟨_, rfl, ?_⟩; replace BK160 := cB hb BK160; replace BK161 := cB hb BK161; replace HB := Aside0.mk (below_step (HB.out) hb); (try clear hb); (try clear hb2); (try clear hk); (try clear hi)))
      go_ret
      exact ⟨by first | rfl | (simp [errW_none, errW_some] <;> rfl) | (simp [*, errW_none, errW_some] <;> rfl), HB.out⟩
     replace c56 := Bool.eq_false_iff.mpr c56
     subst c56
     have H1 : (some false) = some r := by rw [if_neg (show ¬ (false = true) by decide)] at H; exact H
     clear H
     have H := H1
     clear H1
     obtain rfl := Option.some.inj H
     obtain ⟨hcz60_0, hcz60_1⟩ := cells2 BK160.out
     obtain ⟨hcz61_0, hcz61_1⟩ := cells2 BK161.out
     go_wp2_with (first | ((with_reducible refine gate_callee (f := 12) rfl ?_); refine goesL_ (some 126) rfl rfl Try.func12 (by kernel_rfl) rfl #[.agg #[.int .i64 (wrap64 (a0_0 * a3)), .int .i64 (wrap64 (a0_1 * a3))], .agg #[.int .i64 a1_0, .int .i64 a1_1]] rfl (by (try simp only [List.map_toArray, List.map_cons, List.map_nil]); first | done | rfl | (simp only [List.length_drop, List.length_take]; rfl)) ?_; (with_reducible refine (wide_Order.calls kj29 (wrap64 (a0_0 * a3)) (wrap64 (a0_1 * a3)) a1_0 a1_1 t172 false _ A55.out).mono ?_); rintro e w62 ⟨rfl, hb⟩; refine ⟨_, rfl, ?_⟩; replace BK160 := cB hb BK160; replace BK161 := cB hb BK161; replace HB := Aside0.mk (below_step (HB.out) hb); (try clear hb); (try clear hb2); (try clear hk); (try clear hi)))
     go_ret
     exact ⟨by first | rfl | (simp [errW_none, errW_some] <;> rfl) | (simp [*, errW_none, errW_some] <;> rfl), HB.out⟩
    replace c44 := Bool.eq_false_iff.mpr c44
    subst c44
    have H1 : (some true) = some r := by rw [if_neg (show ¬ (false = true) by decide)] at H; exact H
    clear H
    have H := H1
    clear H1
    obtain rfl := Option.some.inj H
    go_wp2
    go_ret
    exact ⟨by first | rfl | (simp [errW_none, errW_some] <;> rfl) | (simp [*, errW_none, errW_some] <;> rfl), HB.out⟩
 replace c6 := Bool.eq_false_iff.mpr c6
 subst c6
 have H1 : (some false) = some r := by rw [if_neg (show ¬ (false = true) by decide)] at H; exact H
 clear H
 have H := H1
 clear H1
 obtain rfl := Option.some.inj H
 go_enter Try.func3, Try.ntmps3
 go_wp2_with (first | ((with_reducible refine gate_dst (N := 4) rfl ?_); refine box_event ?hg (N := 4) ?hd (cs := #[.int .i64 a0_0, .int .i64 a0_1]) (t := 23) ?hr ?_; (case hd => rfl); (case hg => rfl); (case hr => first | (go_simp; done) | (go_simp; rfl)); intro gb160 hg w63 hbox hb; have BK160 := Aside0.mk (hbox); have GE160 := Aside0.mk (bG hg (HB.out)); replace HB := Aside0.mk (below_step (HB.out) hb); clear hb hbox hg) | ((with_reducible refine gate_dst (N := 5) rfl ?_); refine box_event ?hg (N := 5) ?hd (cs := #[.int .i64 a1_0, .int .i64 a1_1]) (t := 23) ?hr ?_; (case hd => rfl); (case hg => rfl); (case hr => first | (go_simp; done) | (go_simp; rfl)); intro gb161 hg w64 hbox hb; have BK161 := Aside0.mk (hbox); have GE161 := Aside0.mk (bG hg (HB.out)); have NB160_161 := cN hg BK160; have NB161_160 := cM hg BK160; replace BK160 := cB hb BK160; replace HB := Aside0.mk (below_step (HB.out) hb); clear hb hbox hg) | ((with_reducible refine gate_dst (N := 6) rfl ?_); refine box_event ?hg (N := 6) ?hd (cs := #[.int .i64 a2_0, .int .i64 a2_1]) (t := 23) ?hr ?_; (case hd => rfl); (case hg => rfl); (case hr => first | (go_simp; done) | (go_simp; rfl)); intro gb162 hg w65 hbox hb; have BK162 := Aside0.mk (hbox); have GE162 := Aside0.mk (bG hg (HB.out)); have NB160_162 := cN hg BK160; have NB162_160 := cM hg BK160; have NB161_162 := cN hg BK161; have NB162_161 := cM hg BK161; replace BK160 := cB hb BK160; replace BK161 := cB hb BK161; replace HB := Aside0.mk (below_step (HB.out) hb); clear hb hbox hg) | ((with_reducible refine gate_callee (f := 11) rfl ?_); refine goesL_ (some 18) rfl rfl Try.func11 (by kernel_rfl) rfl #[] rfl (by (try simp only [List.map_toArray, List.map_cons, List.map_nil]); first | done | rfl | (simp only [List.length_drop, List.length_take]; rfl)) ?_; (with_reducible refine (relievolaw01_alive.calls k  false _ A5.out).mono ?_); rintro e w66 ⟨rfl, hb⟩; refine ⟨_, rfl, ?_⟩; replace BK160 := cB hb BK160; replace BK161 := cB hb BK161; replace BK162 := cB hb BK162; replace HB := Aside0.mk (below_step (HB.out) hb); (try clear hb); (try clear hb2); (try clear hk); (try clear hi)))
 go_ret
 exact ⟨by first | rfl | (simp [errW_none, errW_some] <;> rfl) | (simp [*, errW_none, errW_some] <;> rfl), HB.out⟩

end Go.Proofs.Ytmkdnoikbefimaa.G
