/- What Compare and Order of the document answer. -/
import Derived.Test.YtihklolcnfbbjaaNumD
import Derived.Test.YtihklolcnfbbjaaGx55
namespace Go.Proofs.Ytihklolcnfbbjaa.G
open Go.RowKit Go.Proofs.NumMath Go.Proofs.YtihklolcnfbbjaaW.PrintWords Go.Proofs.YtihklolcnfbbjaaW.PrintLast Go.Proofs.YtihklolcnfbbjaaW.PrintMore
set_option linter.unusedVariables false
set_option linter.unusedSimpArgs false

def cmpN (a b : Bool) (c : Int) : Int := if a = b then (if a = true then -c else c) else (if a = true then -1 else 1)
set_option maxHeartbeats 600000 in
set_option maxRecDepth 100000 in
theorem compare.calls (a b : Bool) (A B : List Int) (hA : Dig A) (hB : Dig B) (w : World) :
    Calls Try.prog 79 #[.agg (numA a A), .agg (numA b B)] w fun e w' => e = .returned (.int .i64 (cmpN a b (cmpD A B 18))) ∧ Below w.heap.size w w' := by
 have hu77 := Try.underlying77
 have hu79 := Try.underlying79
 have CD := fun w => cmpDigits.calls A B hA.1 hB.1 w
 have EW : Aside0 (wrap64 (-cmpD A B 18) = -cmpD A B 18) := ⟨by have := cmpD_or A B 18; unfold wrap64; omega⟩
 obtain ⟨c, hc⟩ : ∃ c, Aside0 (cmpD A B 18 = c) := ⟨_, ⟨rfl⟩⟩
 rw [hc.out] at CD EW
 have HB := Aside0.mk (Below.refl w.heap.size w)
 go_enter Try.func79, Try.ntmps79
 cases a
 · cases b
   · go_wp2_with (first
      | ((with_reducible refine gate_dst (N := 2) rfl ?_); refine box_event ?hg (N := 2) ?hd (cs := numA false A) (t := 79) ?hr ?_; (case hd => rfl); (case hg => rfl); (case hr => first | (go_simp; done) | (go_simp; rfl)); intro g2 hg w3 hbox hb; have BK2 := Aside0.mk (hbox); have GE2 := Aside0.mk (bG hg (HB.out)); replace HB := Aside0.mk (below_step (HB.out) hb); clear hb hbox hg)
      | ((with_reducible refine gate_dst (N := 3) rfl ?_); refine box_event ?hg (N := 3) ?hd (cs := numA false B) (t := 79) ?hr ?_; (case hd => rfl); (case hg => rfl); (case hr => first | (go_simp; done) | (go_simp; rfl)); intro g3 hg w4 hbox hb; have BK3 := Aside0.mk (hbox); have GE3 := Aside0.mk (bG hg (HB.out)); replace HB := Aside0.mk (below_step (HB.out) hb); replace BK2 := cB hb BK2; clear hb hbox hg; have c2 := (blk_cell BK2.out 0).trans (numA_get0 false A); have c3 := (blk_cell BK3.out 0).trans (numA_get0 false B))
      | ((with_reducible refine gate_dst (N := 14) rfl ?_); refine ev_mid ?hw 77 (.tmp 13) rfl g2 1 ?hx _ (ar A) rfl _ (num_range BK2.out) hu77 rfl (ar_info hA.1) ?_; (case hx => first | (go_simp; done) | rfl); (case hw => first | rfl | (go_simp; done)))
      | ((with_reducible refine gate_dst (N := 16) rfl ?_); refine ev_mid ?hw 77 (.tmp 15) rfl g3 1 ?hx _ (ar B) rfl _ (num_range BK3.out) hu77 rfl (ar_info hB.1) ?_; (case hx => first | (go_simp; done) | rfl); (case hw => first | rfl | (go_simp; done)))
      | (go_at_call 64; (with_reducible refine (CD _).mono ?_); rintro e w6 ⟨rfl, hb⟩; replace BK2 := cB hb BK2; replace HB := Aside0.mk (below_step (HB.out) hb); clear hb; have c2 := (blk_cell BK2.out 0).trans (numA_get0 false A)))
     go_ret
     exact ⟨by rw [hc.out]; first | rfl | (simp [cmpN]; done) | (simp [cmpN, ew]; done), HB.out⟩
   · go_wp2_with (first
      | ((with_reducible refine gate_dst (N := 2) rfl ?_); refine box_event ?hg (N := 2) ?hd (cs := numA false A) (t := 79) ?hr ?_; (case hd => rfl); (case hg => rfl); (case hr => first | (go_simp; done) | (go_simp; rfl)); intro g2 hg w3 hbox hb; have BK2 := Aside0.mk (hbox); have GE2 := Aside0.mk (bG hg (HB.out)); replace HB := Aside0.mk (below_step (HB.out) hb); clear hb hbox hg)
      | ((with_reducible refine gate_dst (N := 3) rfl ?_); refine box_event ?hg (N := 3) ?hd (cs := numA true B) (t := 79) ?hr ?_; (case hd => rfl); (case hg => rfl); (case hr => first | (go_simp; done) | (go_simp; rfl)); intro g3 hg w4 hbox hb; have BK3 := Aside0.mk (hbox); have GE3 := Aside0.mk (bG hg (HB.out)); replace HB := Aside0.mk (below_step (HB.out) hb); replace BK2 := cB hb BK2; clear hb hbox hg; have c2 := (blk_cell BK2.out 0).trans (numA_get0 false A); have c3 := (blk_cell BK3.out 0).trans (numA_get0 true B))
      | ((with_reducible refine gate_dst (N := 14) rfl ?_); refine ev_mid ?hw 77 (.tmp 13) rfl g2 1 ?hx _ (ar A) rfl _ (num_range BK2.out) hu77 rfl (ar_info hA.1) ?_; (case hx => first | (go_simp; done) | rfl); (case hw => first | rfl | (go_simp; done)))
      | ((with_reducible refine gate_dst (N := 16) rfl ?_); refine ev_mid ?hw 77 (.tmp 15) rfl g3 1 ?hx _ (ar B) rfl _ (num_range BK3.out) hu77 rfl (ar_info hB.1) ?_; (case hx => first | (go_simp; done) | rfl); (case hw => first | rfl | (go_simp; done)))
      | (go_at_call 64; (with_reducible refine (CD _).mono ?_); rintro e w6 ⟨rfl, hb⟩; replace BK2 := cB hb BK2; replace HB := Aside0.mk (below_step (HB.out) hb); clear hb; have c2 := (blk_cell BK2.out 0).trans (numA_get0 false A)))
     go_ret
     exact ⟨rfl, HB.out⟩
 · cases b
   · go_wp2_with (first
      | ((with_reducible refine gate_dst (N := 2) rfl ?_); refine box_event ?hg (N := 2) ?hd (cs := numA true A) (t := 79) ?hr ?_; (case hd => rfl); (case hg => rfl); (case hr => first | (go_simp; done) | (go_simp; rfl)); intro g2 hg w3 hbox hb; have BK2 := Aside0.mk (hbox); have GE2 := Aside0.mk (bG hg (HB.out)); replace HB := Aside0.mk (below_step (HB.out) hb); clear hb hbox hg)
      | ((with_reducible refine gate_dst (N := 3) rfl ?_); refine box_event ?hg (N := 3) ?hd (cs := numA false B) (t := 79) ?hr ?_; (case hd => rfl); (case hg => rfl); (case hr => first | (go_simp; done) | (go_simp; rfl)); intro g3 hg w4 hbox hb; have BK3 := Aside0.mk (hbox); have GE3 := Aside0.mk (bG hg (HB.out)); replace HB := Aside0.mk (below_step (HB.out) hb); replace BK2 := cB hb BK2; clear hb hbox hg; have c2 := (blk_cell BK2.out 0).trans (numA_get0 true A); have c3 := (blk_cell BK3.out 0).trans (numA_get0 false B))
      | ((with_reducible refine gate_dst (N := 14) rfl ?_); refine ev_mid ?hw 77 (.tmp 13) rfl g2 1 ?hx _ (ar A) rfl _ (num_range BK2.out) hu77 rfl (ar_info hA.1) ?_; (case hx => first | (go_simp; done) | rfl); (case hw => first | rfl | (go_simp; done)))
      | ((with_reducible refine gate_dst (N := 16) rfl ?_); refine ev_mid ?hw 77 (.tmp 15) rfl g3 1 ?hx _ (ar B) rfl _ (num_range BK3.out) hu77 rfl (ar_info hB.1) ?_; (case hx => first | (go_simp; done) | rfl); (case hw => first | rfl | (go_simp; done)))
      | (go_at_call 64; (with_reducible refine (CD _).mono ?_); rintro e w6 ⟨rfl, hb⟩; replace BK2 := cB hb BK2; replace HB := Aside0.mk (below_step (HB.out) hb); clear hb; have c2 := (blk_cell BK2.out 0).trans (numA_get0 true A)))
     go_ret
     exact ⟨rfl, HB.out⟩
   · have ew := EW.out
     go_wp2_with (first
      | ((with_reducible refine gate_dst (N := 2) rfl ?_); refine box_event ?hg (N := 2) ?hd (cs := numA true A) (t := 79) ?hr ?_; (case hd => rfl); (case hg => rfl); (case hr => first | (go_simp; done) | (go_simp; rfl)); intro g2 hg w3 hbox hb; have BK2 := Aside0.mk (hbox); have GE2 := Aside0.mk (bG hg (HB.out)); replace HB := Aside0.mk (below_step (HB.out) hb); clear hb hbox hg)
      | ((with_reducible refine gate_dst (N := 3) rfl ?_); refine box_event ?hg (N := 3) ?hd (cs := numA true B) (t := 79) ?hr ?_; (case hd => rfl); (case hg => rfl); (case hr => first | (go_simp; done) | (go_simp; rfl)); intro g3 hg w4 hbox hb; have BK3 := Aside0.mk (hbox); have GE3 := Aside0.mk (bG hg (HB.out)); replace HB := Aside0.mk (below_step (HB.out) hb); replace BK2 := cB hb BK2; clear hb hbox hg; have c2 := (blk_cell BK2.out 0).trans (numA_get0 true A); have c3 := (blk_cell BK3.out 0).trans (numA_get0 true B))
      | ((with_reducible refine gate_dst (N := 14) rfl ?_); refine ev_mid ?hw 77 (.tmp 13) rfl g2 1 ?hx _ (ar A) rfl _ (num_range BK2.out) hu77 rfl (ar_info hA.1) ?_; (case hx => first | (go_simp; done) | rfl); (case hw => first | rfl | (go_simp; done)))
      | ((with_reducible refine gate_dst (N := 16) rfl ?_); refine ev_mid ?hw 77 (.tmp 15) rfl g3 1 ?hx _ (ar B) rfl _ (num_range BK3.out) hu77 rfl (ar_info hB.1) ?_; (case hx => first | (go_simp; done) | rfl); (case hw => first | rfl | (go_simp; done)))
      | (go_at_call 64; (with_reducible refine (CD _).mono ?_); rintro e w6 ⟨rfl, hb⟩; replace BK2 := cB hb BK2; replace HB := Aside0.mk (below_step (HB.out) hb); clear hb; have c2 := (blk_cell BK2.out 0).trans (numA_get0 true A)))
     go_ret
     exact ⟨by rw [hc.out]; first | rfl | (simp [cmpN]; done) | (simp [cmpN, ew]; done), HB.out⟩

def relievoref01_Order.T3 : Bool × List (List Nat × List Nat) := (true, [([], []), ([0], [0]), ([1], [1]), ([], []), ([3], [3]), ([4, 2], [4]), ([2, 5, 5], [2, 5]), ([], []), ([7], [7]), ([8, 6], [8]), ([], []), ([10], [10]), ([11, 9], [11]), ([9, 12, 12], [9, 12]), ([6, 13, 13], [6, 13]), ([14, 14, 0, 1, 2, 3, 4, 5, 6, 7, 8, 9, 10, 11, 12, 13, 14], [14]), ([15, 0, 1, 2, 3, 4, 5, 6, 7, 8, 9, 10, 11, 12, 13, 14, 15], [])])
def relievoref01_Order.B3 : List Nat := [0, 1, 3, 0, 8, 31, 63, 0, 128, 511, 0, 1024, 4095, 8191, 16383, 32767, 65535]
theorem relievoref01_Order.tab3 : rtab .any (opsOf Try.f68 3) = relievoref01_Order.T3 := by kernel_rfl
theorem relievoref01_Order.bits3 : waitsOk relievoref01_Order.T3.2 relievoref01_Order.B3 = true := by kernel_rfl
/-- The answer of Order: which of two fractions is below. -/
def relievoref01_Order.f (a0_0 a0_1 a1_0 a1_1 : Int) : Option (Int × Bool) :=
  if ((-9223372036854775808 ≤ a0_0 ∧ a0_0 ≤ 9223372036854775807) ∧ (-9223372036854775808 ≤ a0_1 ∧ a0_1 ≤ 9223372036854775807)) ∧ ((-9223372036854775808 ≤ a1_0 ∧ a1_0 ≤ 9223372036854775807) ∧ (-9223372036854775808 ≤ a1_1 ∧ a1_1 ≤ 9223372036854775807)) then
    (relievoref01_right.f a0_0 a0_1).bind fun s => (relievoref01_right.f a1_0 a1_1).bind fun t => some (if s = true ∧ t = true then (sgn (a0_0 * a1_1 - a1_0 * a0_1), true) else (0, false)) else none
theorem cmp_mul {x y u v : Int} (hx : x = if x < 0 then -u else u) (hy : y = if y < 0 then -v else v) (u0 : 0 ≤ u) (v0 : 0 ≤ v) : cmpN (decide (x < 0)) (decide (y < 0)) (sgn (u - v)) = sgn (x - y) := by
  unfold cmpN sgn
  by_cases a : x < 0 <;> by_cases b : y < 0 <;> simp only [a, b, decide_true, decide_false, if_true, if_false, Bool.false_eq_true, Bool.true_eq_false] at hx hy ⊢ <;> (repeat' split) <;> omega
set_option maxHeartbeats 4000000 in
set_option maxRecDepth 100000 in
theorem relievoref01_Order.calls (a0_0 : Int) (a0_1 : Int) (a1_0 : Int) (a1_1 : Int) (r1 : Int) (r2 : Bool) (w : World) (h : relievoref01_Order.f a0_0 a0_1 a1_0 a1_1 = some (r1, r2)) :
    Calls Try.prog 68 #[.agg #[.int .i64 a0_0, .int .i64 a0_1], .agg #[.int .i64 a1_0, .int .i64 a1_1]] w fun e w' => e = .returned (.tuple #[.int .i64 r1, .bool r2]) ∧ Below w.heap.size w w' := by
 have hu28 := Try.underlying28
 have hr : ((-9223372036854775808 ≤ a0_0 ∧ a0_0 ≤ 9223372036854775807) ∧ (-9223372036854775808 ≤ a0_1 ∧ a0_1 ≤ 9223372036854775807)) ∧ ((-9223372036854775808 ≤ a1_0 ∧ a1_0 ≤ 9223372036854775807) ∧ (-9223372036854775808 ≤ a1_1 ∧ a1_1 ≤ 9223372036854775807)) := by
  unfold relievoref01_Order.f at h
  split at h
  · assumption
  · simp at h
 unfold relievoref01_Order.f at h
 rw [if_pos hr] at h
 obtain ⟨⟨h00, h01⟩, h10, h11⟩ := hr
 replace h := Option.bind_eq_some_iff.mp h
 obtain ⟨s, hs, h⟩ := h
 replace h := Option.bind_eq_some_iff.mp h
 obtain ⟨t, ht, h⟩ := h
 have RS := fun w => relievoref01_right.calls a0_0 a0_1 s w hs
 have RT := fun w => relievoref01_right.calls a1_0 a1_1 t w ht
 clear hs ht
 have HB := Aside0.mk (Below.refl w.heap.size w)
 cases s
 ·simp only [Bool.false_eq_true, false_and, if_false, Option.some.injEq, Prod.mk.injEq] at h
  obtain ⟨rfl, rfl⟩ := h
  clear h00 h01 h10 h11 RT
  go_enter Try.func68, Try.ntmps68
  go_wp2_with (first
     | ((with_reducible refine gate_dst (N := 2) rfl ?_); refine box_event ?hg (N := 2) ?hd (cs := #[.int .i64 a0_0, .int .i64 a0_1]) (t := 28) ?hr ?_; (case hd => rfl); (case hg => rfl); (case hr => first | (go_simp; done) | (go_simp; rfl)); intro g2 hg w3 hbox hb; have BK2 := Aside0.mk (hbox); have GE2 := Aside0.mk (bG hg (HB.out)); replace HB := Aside0.mk (below_step (HB.out) hb); clear hb hbox hg)
     | ((with_reducible refine gate_dst (N := 3) rfl ?_); refine box_event ?hg (N := 3) ?hd (cs := #[.int .i64 a1_0, .int .i64 a1_1]) (t := 28) ?hr ?_; (case hd => rfl); (case hg => rfl); (case hr => first | (go_simp; done) | (go_simp; rfl)); intro g3 hg w4 hbox hb; have BK3 := Aside0.mk (hbox); have GE3 := Aside0.mk (bG hg (HB.out)); replace HB := Aside0.mk (below_step (HB.out) hb); replace BK2 := cB hb BK2; clear hb hbox hg; obtain ⟨k0, k1⟩ := cells2 BK2.out; obtain ⟨l0, l1⟩ := cells2 BK3.out)
     | ((with_reducible refine gate_callee (f := 78) rfl ?_); refine goesL_ (some 7) rfl rfl Try.func78 (by kernel_rfl) rfl #[.agg #[.int .i64 a0_0, .int .i64 a0_1]] rfl (by (try simp only [List.map_toArray, List.map_cons, List.map_nil]); first | done | rfl | (simp only [List.length_drop, List.length_take]; rfl)) ?_; (with_reducible refine (RS _).mono ?_); rintro e w5 ⟨rfl, hb⟩; refine ⟨_, rfl, ?_⟩; replace BK2 := cB hb BK2; replace BK3 := cB hb BK3; replace HB := Aside0.mk (below_step (HB.out) hb); clear hb; obtain ⟨l0, l1⟩ := cells2 BK3.out)
     | (go_at_call 78; (with_reducible refine (RT _).mono ?_); rintro e w6 ⟨rfl, hb⟩; replace BK2 := cB hb BK2; replace BK3 := cB hb BK3; replace HB := Aside0.mk (below_step (HB.out) hb); clear hb))
  go_ret2
  exact ⟨rfl, HB.out⟩
 cases t
 ·simp only [Bool.false_eq_true, and_false, if_false, Option.some.injEq, Prod.mk.injEq] at h
  obtain ⟨rfl, rfl⟩ := h
  clear h00 h01 h10 h11
  go_enter Try.func68, Try.ntmps68
  go_wp2_with (first
     | ((with_reducible refine gate_dst (N := 2) rfl ?_); refine box_event ?hg (N := 2) ?hd (cs := #[.int .i64 a0_0, .int .i64 a0_1]) (t := 28) ?hr ?_; (case hd => rfl); (case hg => rfl); (case hr => first | (go_simp; done) | (go_simp; rfl)); intro g2 hg w3 hbox hb; have BK2 := Aside0.mk (hbox); have GE2 := Aside0.mk (bG hg (HB.out)); replace HB := Aside0.mk (below_step (HB.out) hb); clear hb hbox hg)
     | ((with_reducible refine gate_dst (N := 3) rfl ?_); refine box_event ?hg (N := 3) ?hd (cs := #[.int .i64 a1_0, .int .i64 a1_1]) (t := 28) ?hr ?_; (case hd => rfl); (case hg => rfl); (case hr => first | (go_simp; done) | (go_simp; rfl)); intro g3 hg w4 hbox hb; have BK3 := Aside0.mk (hbox); have GE3 := Aside0.mk (bG hg (HB.out)); replace HB := Aside0.mk (below_step (HB.out) hb); replace BK2 := cB hb BK2; clear hb hbox hg; obtain ⟨k0, k1⟩ := cells2 BK2.out; obtain ⟨l0, l1⟩ := cells2 BK3.out)
     | ((with_reducible refine gate_callee (f := 78) rfl ?_); refine goesL_ (some 7) rfl rfl Try.func78 (by kernel_rfl) rfl #[.agg #[.int .i64 a0_0, .int .i64 a0_1]] rfl (by (try simp only [List.map_toArray, List.map_cons, List.map_nil]); first | done | rfl | (simp only [List.length_drop, List.length_take]; rfl)) ?_; (with_reducible refine (RS _).mono ?_); rintro e w5 ⟨rfl, hb⟩; refine ⟨_, rfl, ?_⟩; replace BK2 := cB hb BK2; replace BK3 := cB hb BK3; replace HB := Aside0.mk (below_step (HB.out) hb); clear hb; obtain ⟨l0, l1⟩ := cells2 BK3.out)
     | (go_at_call 78; (with_reducible refine (RT _).mono ?_); rintro e w6 ⟨rfl, hb⟩; replace BK2 := cB hb BK2; replace BK3 := cB hb BK3; replace HB := Aside0.mk (below_step (HB.out) hb); clear hb))
  go_ret2
  exact ⟨rfl, HB.out⟩
 ·simp only [and_self, if_true, Option.some.injEq, Prod.mk.injEq] at h
  obtain ⟨rfl, rfl⟩ := h
  obtain ⟨dx, vx, x0, x1, sxe, xe⟩ := mul_parts h00 h11
  obtain ⟨dy, vy, y0, y1, sye, ye⟩ := mul_parts h10 h01
  have AR := Aside0.mk (cmp_mul xe ye x0 y0)
  have F0 := fun w => fromInt.calls a0_0 h00 w
  have F1 := fun w => fromInt.calls a1_1 h11 w
  have F2 := fun w => fromInt.calls a1_0 h10 w
  have F3 := fun w => fromInt.calls a0_1 h01 w
  have TX := fun w => times.calls (decide (a0_0 < 0)) (decide (a1_1 < 0)) (dfill (fromI a0_0) 4) (dfill (fromI a1_1) 4) (dfill_dig _ 4 (by decide)) (dfill_dig _ 4 (by decide)) w
  have TY := fun w => times.calls (decide (a1_0 < 0)) (decide (a0_1 < 0)) (dfill (fromI a1_0) 4) (dfill (fromI a0_1) 4) (dfill_dig _ 4 (by decide)) (dfill_dig _ 4 (by decide)) w
  rw [sxe] at TX
  rw [sye] at TY
  have CM := fun w => compare.calls (decide (a0_0 * a1_1 < 0)) (decide (a1_0 * a0_1 < 0)) (outr (dfill (fromI a0_0) 4) (dfill (fromI a1_1) 4) 9) (outr (dfill (fromI a1_0) 4) (dfill (fromI a0_1) 4) 9) dx dy w
  rw [cmpD_eq dx dy, vx, vy, AR.out] at CM
  clear dx vx x0 x1 sxe xe dy vy y0 y1 sye ye AR h00 h01 h10 h11
  generalize sgn (a0_0 * a1_1 - a1_0 * a0_1) = c at *
  generalize decide (a0_0 * a1_1 < 0) = sx at *
  generalize decide (a1_0 * a0_1 < 0) = sy at *
  generalize outr (dfill (fromI a0_0) 4) (dfill (fromI a1_1) 4) 9 = X at *
  generalize outr (dfill (fromI a1_0) 4) (dfill (fromI a0_1) 4) 9 = Y at *
  generalize decide (a0_0 < 0) = p0 at *
  generalize decide (a1_1 < 0) = p1 at *
  generalize decide (a1_0 < 0) = p2 at *
  generalize decide (a0_1 < 0) = p3 at *
  generalize dfill (fromI a0_0) 4 = P0 at *
  generalize dfill (fromI a1_1) 4 = P1 at *
  generalize dfill (fromI a1_0) 4 = P2 at *
  generalize dfill (fromI a0_1) 4 = P3 at *
  have AR : Aside0 (c = c) := ⟨rfl⟩
  go_enter Try.func68, Try.ntmps68
  go_wp2_with (first
     | ((with_reducible refine gate_dst (N := 2) rfl ?_); refine box_event ?hg (N := 2) ?hd (cs := #[.int .i64 a0_0, .int .i64 a0_1]) (t := 28) ?hr ?_; (case hd => rfl); (case hg => rfl); (case hr => first | (go_simp; done) | (go_simp; rfl)); intro g2 hg w3 hbox hb; have BK2 := Aside0.mk (hbox); have GE2 := Aside0.mk (bG hg (HB.out)); replace HB := Aside0.mk (below_step (HB.out) hb); clear hb hbox hg)
     | ((with_reducible refine gate_dst (N := 3) rfl ?_); refine box_event ?hg (N := 3) ?hd (cs := #[.int .i64 a1_0, .int .i64 a1_1]) (t := 28) ?hr ?_; (case hd => rfl); (case hg => rfl); (case hr => first | (go_simp; done) | (go_simp; rfl)); intro g3 hg w4 hbox hb; have BK3 := Aside0.mk (hbox); have GE3 := Aside0.mk (bG hg (HB.out)); replace HB := Aside0.mk (below_step (HB.out) hb); replace BK2 := cB hb BK2; clear hb hbox hg; obtain ⟨k0, k1⟩ := cells2 BK2.out; obtain ⟨l0, l1⟩ := cells2 BK3.out)
     | ((with_reducible refine gate_callee (f := 78) rfl ?_); refine goesL_ (some 7) rfl rfl Try.func78 (by kernel_rfl) rfl #[.agg #[.int .i64 a0_0, .int .i64 a0_1]] rfl (by (try simp only [List.map_toArray, List.map_cons, List.map_nil]); first | done | rfl | (simp only [List.length_drop, List.length_take]; rfl)) ?_; (with_reducible refine (RS _).mono ?_); rintro e w5 ⟨rfl, hb⟩; refine ⟨_, rfl, ?_⟩; replace BK2 := cB hb BK2; replace BK3 := cB hb BK3; replace HB := Aside0.mk (below_step (HB.out) hb); clear hb; obtain ⟨l0, l1⟩ := cells2 BK3.out)
     | (go_at_call 78; (with_reducible refine (RT _).mono ?_); rintro e w6 ⟨rfl, hb⟩; replace BK2 := cB hb BK2; replace BK3 := cB hb BK3; replace HB := Aside0.mk (below_step (HB.out) hb); clear hb))
  try go_wp2
  replace BK2 := Aside0.mk (blk_drew BK2.out)
  replace BK3 := Aside0.mk (blk_drew BK3.out)
  replace HB := Aside0.mk (below_drew1 HB.out)
  refine start_ (n := 17) (S := fun w' => w'.cell? ⟨g2, 0, none⟩ = some (.int .i64 a0_0) ∧ w'.cell? ⟨g2, 1, none⟩ = some (.int .i64 a0_1) ∧ w'.cell? ⟨g3, 0, none⟩ = some (.int .i64 a1_0) ∧ w'.cell? ⟨g3, 1, none⟩ = some (.int .i64 a1_1)) (ds := []) #[false, false, false, false, false, false, false, false, false, false, false, false, false, false, false, false, false] (by kernel_rfl) rfl rfl ⟨(blk_cell BK2.out 0).trans rfl, (blk_cell BK2.out 1).trans rfl, (blk_cell BK3.out 0).trans rfl, (blk_cell BK3.out 1).trans rfl⟩ (fun hHeld => ?_); refine with_tabW relievoref01_Order.tab3 relievoref01_Order.bits3 (fun HT_ HW_ => ?_)
  generalize w6.drew = w7 at BK2 BK3 HB hHeld ⊢
  refine pure_ (i := 0) (N := some 14) (v := ?_) (a' := ?_) #[true, false, false, false, false, false, false, false, false, false, false, false, false, false, false, false, false] rfl rfl (any_of HT_.out (by kernel_rfl)) (fun _ _ _ h => h) (Or.inl ⟨by rfl, ?_⟩) ?_ ?_
  rotate_left
  ·intro w'
   go_simp
   with_reducible rfl
  rotate_left
  ·simp only [Act.put, List.setIfInBounds_toArray, List.set_cons_zero, List.set_cons_succ, i64_w, i32_w]
   rfl
  refine pure_ (i := 3) (N := some 17) (v := ?_) (a' := ?_) #[true, false, false, true, false, false, false, false, false, false, false, false, false, false, false, false, false] rfl rfl (any_of HT_.out (by kernel_rfl)) (fun _ _ _ h => h) (Or.inl ⟨by rfl, ?_⟩) ?_ ?_
  rotate_left
  ·intro w'
   go_simp
   with_reducible rfl
  rotate_left
  ·simp only [Act.put, List.setIfInBounds_toArray, List.set_cons_zero, List.set_cons_succ, i64_w, i32_w]
   rfl
  refine pure_ (i := 7) (N := some 21) (v := ?_) (a' := ?_) #[true, false, false, true, false, false, false, true, false, false, false, false, false, false, false, false, false] rfl rfl (any_of HT_.out (by kernel_rfl)) (fun _ _ _ h => h) (Or.inl ⟨by rfl, ?_⟩) ?_ ?_
  rotate_left
  ·intro w'
   go_simp
   with_reducible rfl
  rotate_left
  ·simp only [Act.put, List.setIfInBounds_toArray, List.set_cons_zero, List.set_cons_succ, i64_w, i32_w]
   rfl
  refine pure_ (i := 10) (N := some 24) (v := ?_) (a' := ?_) #[true, false, false, true, false, false, false, true, false, false, true, false, false, false, false, false, false] rfl rfl (any_of HT_.out (by kernel_rfl)) (fun _ _ _ h => h) (Or.inl ⟨by rfl, ?_⟩) ?_ ?_
  rotate_left
  ·intro w'
   go_simp
   with_reducible rfl
  rotate_left
  ·simp only [Act.put, List.setIfInBounds_toArray, List.set_cons_zero, List.set_cons_succ, i64_w, i32_w]
   rfl
  refine take_ (i := 1) (N := some 15) (v := ?_) (a' := ?_) #[true, true, false, true, false, false, false, true, false, false, true, false, false, false, false, false, false] rfl rfl (take_ofW HT_.out HW_.out (by kernel_rfl)) (fun _ _ _ h => h) (Or.inl ⟨by rfl, ?_⟩) hHeld ?_ ?_
  rotate_left
  ·rintro w' ⟨s0, s1, s2, s3⟩
   go_simp
   with_reducible rfl
  rotate_left
  ·simp only [Act.put, List.setIfInBounds_toArray, List.set_cons_zero, List.set_cons_succ, i64_w, i32_w]
   rfl
  refine take_ (i := 4) (N := some 18) (v := ?_) (a' := ?_) #[true, true, false, true, true, false, false, true, false, false, true, false, false, false, false, false, false] rfl rfl (take_ofW HT_.out HW_.out (by kernel_rfl)) (fun _ _ _ h => h) (Or.inl ⟨by rfl, ?_⟩) hHeld ?_ ?_
  rotate_left
  ·rintro w' ⟨s0, s1, s2, s3⟩
   go_simp
   with_reducible rfl
  rotate_left
  ·simp only [Act.put, List.setIfInBounds_toArray, List.set_cons_zero, List.set_cons_succ, i64_w, i32_w]
   rfl
  refine take_ (i := 8) (N := some 22) (v := ?_) (a' := ?_) #[true, true, false, true, true, false, false, true, true, false, true, false, false, false, false, false, false] rfl rfl (take_ofW HT_.out HW_.out (by kernel_rfl)) (fun _ _ _ h => h) (Or.inl ⟨by rfl, ?_⟩) hHeld ?_ ?_
  rotate_left
  ·rintro w' ⟨s0, s1, s2, s3⟩
   go_simp
   with_reducible rfl
  rotate_left
  ·simp only [Act.put, List.setIfInBounds_toArray, List.set_cons_zero, List.set_cons_succ, i64_w, i32_w]
   rfl
  refine take_ (i := 11) (N := some 25) (v := ?_) (a' := ?_) #[true, true, false, true, true, false, false, true, true, false, true, true, false, false, false, false, false] rfl rfl (take_ofW HT_.out HW_.out (by kernel_rfl)) (fun _ _ _ h => h) (Or.inl ⟨by rfl, ?_⟩) hHeld ?_ ?_
  rotate_left
  ·rintro w' ⟨s0, s1, s2, s3⟩
   go_simp
   with_reducible rfl
  rotate_left
  ·simp only [Act.put, List.setIfInBounds_toArray, List.set_cons_zero, List.set_cons_succ, i64_w, i32_w]
   rfl
  refine one_ (i := 2) (N := some 16) #[true, true, true, true, true, false, false, true, true, false, true, true, false, false, false, false, false] rfl rfl (one_of HT_.out (by kernel_rfl)) (by decide) (fun K hK => ?_)
  refine goes_ Try.func50 (by kernel_rfl) rfl #[.int .i64 a0_0] (by rfl) rfl rfl (by (try simp only [List.map_toArray, List.map_cons, List.map_nil]); first | done | rfl | (simp only [List.length_drop, List.length_take]; rfl)) ?_
  with_reducible refine (F0 _).mono ?_
  rintro e w8 ⟨rfl, hb⟩
  refine ⟨_, rfl, ?_⟩
  replace BK2 := cB hb BK2
  replace BK3 := cB hb BK3
  replace HB := Aside0.mk (below_step (HB.out) hb)
  clear hb
  refine hK.out _ _ ⟨(blk_cell BK2.out 0).trans rfl, (blk_cell BK2.out 1).trans rfl, (blk_cell BK3.out 0).trans rfl, (blk_cell BK3.out 1).trans rfl⟩ (fun hHeld => ?_)
  clear hK K
  refine norm_ (a' := ?_) ?_ ?_
  rotate_left
  ·show Act.put _ (some 16) _ = _
   simp only [Act.put, List.setIfInBounds_toArray, List.set_cons_zero, List.set_cons_succ, i64_w, i32_w]
   rfl
  refine one_ (i := 5) (N := some 19) #[true, true, true, true, true, true, false, true, true, false, true, true, false, false, false, false, false] rfl rfl (one_of HT_.out (by kernel_rfl)) (by decide) (fun K hK => ?_)
  refine goes_ Try.func50 (by kernel_rfl) rfl #[.int .i64 a1_1] (by rfl) rfl rfl (by (try simp only [List.map_toArray, List.map_cons, List.map_nil]); first | done | rfl | (simp only [List.length_drop, List.length_take]; rfl)) ?_
  with_reducible refine (F1 _).mono ?_
  rintro e w9 ⟨rfl, hb⟩
  refine ⟨_, rfl, ?_⟩
  replace BK2 := cB hb BK2
  replace BK3 := cB hb BK3
  replace HB := Aside0.mk (below_step (HB.out) hb)
  clear hb
  refine hK.out _ _ ⟨(blk_cell BK2.out 0).trans rfl, (blk_cell BK2.out 1).trans rfl, (blk_cell BK3.out 0).trans rfl, (blk_cell BK3.out 1).trans rfl⟩ (fun hHeld => ?_)
  clear hK K
  refine norm_ (a' := ?_) ?_ ?_
  rotate_left
  ·show Act.put _ (some 19) _ = _
   simp only [Act.put, List.setIfInBounds_toArray, List.set_cons_zero, List.set_cons_succ, i64_w, i32_w]
   rfl
  refine one_ (i := 6) (N := some 20) #[true, true, true, true, true, true, true, true, true, false, true, true, false, false, false, false, false] rfl rfl (one_of HT_.out (by kernel_rfl)) (by decide) (fun K hK => ?_)
  refine goes_ Try.func49 (by kernel_rfl) rfl #[.agg (numA p0 P0), .agg (numA p1 P1)] (by rfl) rfl rfl (by (try simp only [List.map_toArray, List.map_cons, List.map_nil]); first | done | rfl | (simp only [List.length_drop, List.length_take]; rfl)) ?_
  with_reducible refine (TX _).mono ?_
  rintro e w10 ⟨rfl, hb⟩
  refine ⟨_, rfl, ?_⟩
  replace BK2 := cB hb BK2
  replace BK3 := cB hb BK3
  replace HB := Aside0.mk (below_step (HB.out) hb)
  clear hb
  refine hK.out _ _ ⟨(blk_cell BK2.out 0).trans rfl, (blk_cell BK2.out 1).trans rfl, (blk_cell BK3.out 0).trans rfl, (blk_cell BK3.out 1).trans rfl⟩ (fun hHeld => ?_)
  clear hK K
  refine norm_ (a' := ?_) ?_ ?_
  rotate_left
  ·show Act.put _ (some 20) _ = _
   simp only [Act.put, List.setIfInBounds_toArray, List.set_cons_zero, List.set_cons_succ, i64_w, i32_w]
   rfl
  refine one_ (i := 9) (N := some 23) #[true, true, true, true, true, true, true, true, true, true, true, true, false, false, false, false, false] rfl rfl (one_of HT_.out (by kernel_rfl)) (by decide) (fun K hK => ?_)
  refine goes_ Try.func50 (by kernel_rfl) rfl #[.int .i64 a1_0] (by rfl) rfl rfl (by (try simp only [List.map_toArray, List.map_cons, List.map_nil]); first | done | rfl | (simp only [List.length_drop, List.length_take]; rfl)) ?_
  with_reducible refine (F2 _).mono ?_
  rintro e w11 ⟨rfl, hb⟩
  refine ⟨_, rfl, ?_⟩
  replace BK2 := cB hb BK2
  replace BK3 := cB hb BK3
  replace HB := Aside0.mk (below_step (HB.out) hb)
  clear hb
  refine hK.out _ _ ⟨(blk_cell BK2.out 0).trans rfl, (blk_cell BK2.out 1).trans rfl, (blk_cell BK3.out 0).trans rfl, (blk_cell BK3.out 1).trans rfl⟩ (fun hHeld => ?_)
  clear hK K
  refine norm_ (a' := ?_) ?_ ?_
  rotate_left
  ·show Act.put _ (some 23) _ = _
   simp only [Act.put, List.setIfInBounds_toArray, List.set_cons_zero, List.set_cons_succ, i64_w, i32_w]
   rfl
  refine one_ (i := 12) (N := some 26) #[true, true, true, true, true, true, true, true, true, true, true, true, true, false, false, false, false] rfl rfl (one_of HT_.out (by kernel_rfl)) (by decide) (fun K hK => ?_)
  refine goes_ Try.func50 (by kernel_rfl) rfl #[.int .i64 a0_1] (by rfl) rfl rfl (by (try simp only [List.map_toArray, List.map_cons, List.map_nil]); first | done | rfl | (simp only [List.length_drop, List.length_take]; rfl)) ?_
  with_reducible refine (F3 _).mono ?_
  rintro e w12 ⟨rfl, hb⟩
  refine ⟨_, rfl, ?_⟩
  replace BK2 := cB hb BK2
  replace BK3 := cB hb BK3
  replace HB := Aside0.mk (below_step (HB.out) hb)
  clear hb
  refine hK.out _ _ ⟨(blk_cell BK2.out 0).trans rfl, (blk_cell BK2.out 1).trans rfl, (blk_cell BK3.out 0).trans rfl, (blk_cell BK3.out 1).trans rfl⟩ (fun hHeld => ?_)
  clear hK K
  refine norm_ (a' := ?_) ?_ ?_
  rotate_left
  ·show Act.put _ (some 26) _ = _
   simp only [Act.put, List.setIfInBounds_toArray, List.set_cons_zero, List.set_cons_succ, i64_w, i32_w]
   rfl
  refine one_ (i := 13) (N := some 27) #[true, true, true, true, true, true, true, true, true, true, true, true, true, true, false, false, false] rfl rfl (one_of HT_.out (by kernel_rfl)) (by decide) (fun K hK => ?_)
  refine goes_ Try.func49 (by kernel_rfl) rfl #[.agg (numA p2 P2), .agg (numA p3 P3)] (by rfl) rfl rfl (by (try simp only [List.map_toArray, List.map_cons, List.map_nil]); first | done | rfl | (simp only [List.length_drop, List.length_take]; rfl)) ?_
  with_reducible refine (TY _).mono ?_
  rintro e w13 ⟨rfl, hb⟩
  refine ⟨_, rfl, ?_⟩
  replace BK2 := cB hb BK2
  replace BK3 := cB hb BK3
  replace HB := Aside0.mk (below_step (HB.out) hb)
  clear hb
  refine hK.out _ _ ⟨(blk_cell BK2.out 0).trans rfl, (blk_cell BK2.out 1).trans rfl, (blk_cell BK3.out 0).trans rfl, (blk_cell BK3.out 1).trans rfl⟩ (fun hHeld => ?_)
  clear hK K
  refine norm_ (a' := ?_) ?_ ?_
  rotate_left
  ·show Act.put _ (some 27) _ = _
   simp only [Act.put, List.setIfInBounds_toArray, List.set_cons_zero, List.set_cons_succ, i64_w, i32_w]
   rfl
  refine one_ (i := 14) (N := some 28) #[true, true, true, true, true, true, true, true, true, true, true, true, true, true, true, false, false] rfl rfl (one_of HT_.out (by kernel_rfl)) (by decide) (fun K hK => ?_)
  refine goes_ Try.func79 (by kernel_rfl) rfl #[.agg (numA sx X), .agg (numA sy Y)] (by rfl) rfl rfl (by (try simp only [List.map_toArray, List.map_cons, List.map_nil]); first | done | rfl | (simp only [List.length_drop, List.length_take]; rfl)) ?_
  with_reducible refine (CM _).mono ?_
  rintro e w14 ⟨rfl, hb⟩
  refine ⟨_, rfl, ?_⟩
  replace BK2 := cB hb BK2
  replace BK3 := cB hb BK3
  replace HB := Aside0.mk (below_step (HB.out) hb)
  clear hb
  refine hK.out _ _ ⟨(blk_cell BK2.out 0).trans rfl, (blk_cell BK2.out 1).trans rfl, (blk_cell BK3.out 0).trans rfl, (blk_cell BK3.out 1).trans rfl⟩ (fun hHeld => ?_)
  clear hK K
  refine norm_ (a' := ?_) ?_ ?_
  rotate_left
  ·show Act.put _ (some 28) _ = _
   simp only [Act.put, List.setIfInBounds_toArray, List.set_cons_zero, List.set_cons_succ, i64_w, i32_w]
   rfl
  refine pure_ (i := 15) (N := some 4) (v := ?_) (a' := ?_) #[true, true, true, true, true, true, true, true, true, true, true, true, true, true, true, true, false] rfl rfl (any_of HT_.out (by kernel_rfl)) (fun _ _ _ h => h) (Or.inl ⟨by rfl, ?_⟩) ?_ ?_
  rotate_left
  ·intro w'
   go_simp
   with_reducible rfl
  rotate_left
  ·simp only [Act.put, List.setIfInBounds_toArray, List.set_cons_zero, List.set_cons_succ, i64_w, i32_w]
   rfl
  refine pure_ (i := 16) (N := some 5) (v := ?_) (a' := ?_) #[true, true, true, true, true, true, true, true, true, true, true, true, true, true, true, true, true] rfl rfl (any_of HT_.out (by kernel_rfl)) (fun _ _ _ h => h) (Or.inl ⟨by rfl, ?_⟩) ?_ ?_
  rotate_left
  ·intro w'
   go_simp
   with_reducible rfl
  rotate_left
  ·simp only [Act.put, List.setIfInBounds_toArray, List.set_cons_zero, List.set_cons_succ, i64_w, i32_w]
   rfl
  refine done_ (done_of HT_.out (by kernel_rfl)) ?_
  try go_wp2
  go_ret2
  exact ⟨by first | rfl | (rw [AR.out]; rfl), HB.out⟩
end Go.Proofs.Ytihklolcnfbbjaa.G
