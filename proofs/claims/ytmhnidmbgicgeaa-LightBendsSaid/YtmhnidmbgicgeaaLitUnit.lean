/- What light.unit answers, and the function in light.Refract. -/
import Derived.Test.YtmhnidmbgicgeaaLitReflect
import Derived.Test.YtmhnidmbgicgeaaGx14
namespace Go.Proofs.Ytmhnidmbgicgeaa.G
open Go.RowKit Go.Proofs.YtmhnidmbgicgeaaW.PrintWords Go.Proofs.YtmhnidmbgicgeaaW.PrintLast Go.Proofs.YtmhnidmbgicgeaaW.PrintMore
attribute [local go_sem] max2_int min2_int max_two min_two max_three min_three max_four min_four
set_option linter.unusedVariables false
set_option linter.unusedSimpArgs false
def refract1.T1 : Bool × List (List Nat × List Nat) := (true, [([], []), ([], []), ([0, 1], [0, 1]), ([2], [2]), ([], []), ([], []), ([4, 5], [4, 5]), ([6, 3], [6]), ([3, 7], [3, 7]), ([8, 7, 0, 1, 2, 3, 4, 5, 6, 7, 8], [8])])
def refract1.B1 : List Nat := [0, 0, 3, 7, 0, 0, 48, 127, 255, 511]
theorem refract1.tab1 : rtab .any (opsOf Try.f34 1) = refract1.T1 := by kernel_rfl
theorem refract1.bits1 : waitsOk refract1.T1.2 refract1.B1 = true := by kernel_rfl

theorem unit1.calls (n o s : Int) (gs : Nat) (r : Int) (w : World) (h5 : w.heap[gs]? = some (.cells #[.int .i64 s] 3 (0, 0)))
    (h : light_floor.f (wrap64 (4096 * n)) s = some r) :
    Calls Try.prog 46 (#[.int .i64 n, .int .i64 o] ++ #[.pointer (some ⟨gs, 0, none⟩)]) w fun e w' => e = .returned (.int .i64 r) ∧ Below w.heap.size w w' := by
 show Calls Try.prog 46 #[.int .i64 n, .int .i64 o, .pointer (some ⟨gs, 0, none⟩)] w _
 have k5 := (blk_cell h5 0).trans (rfl : _ = some (Value.int .i64 s))
 have FL := fun w => floor_below _ _ r w h
 have HB := Aside0.mk (Below.refl w.heap.size w)
 clear h h5
 go_enter Try.func46, Try.ntmps46
 go_wp2_with (first | (go_at_call 31; (with_reducible refine (FL _).mono ?_); rintro e' w1 ⟨rfl, hb⟩; replace HB := Aside0.mk (below_step (HB.out) hb); clear hb))
 go_ret
 exact ⟨rfl, HB.out⟩
def light_unit.f (k : Nat) (a0_0 a0_1 a0_2 : Int) : Option (Int × Int × Int) :=
  (vec_Dot.f a0_0 a0_1 a0_2 a0_0 a0_1 a0_2).bind fun q => (light_root.f k q 1).bind fun s => (light_floor.f (wrap64 (4096 * a0_0)) s).bind fun x => (light_floor.f (wrap64 (4096 * a0_1)) s).bind fun y => (light_floor.f (wrap64 (4096 * a0_2)) s).bind fun z => some (x, y, z)
theorem light_unit.mono : ∀ a0_0 a0_1 a0_2 k, LeO (light_unit.f k a0_0 a0_1 a0_2) (light_unit.f (k + 1) a0_0 a0_1 a0_2) := by
  intro a0_0 a0_1 a0_2 k
  unfold light_unit.f
  repeat' first
      | (with_reducible exact light_root.mono _ _ _)
      | (with_reducible exact LeO.refl _)
      | (with_reducible exact LeO.none _)
      | (with_reducible refine LeO.ite ?_ ?_)
      | (with_reducible refine LeO.bind ?_ (fun _ => ?_))
set_option maxHeartbeats 4000000 in
set_option maxRecDepth 100000 in
theorem light_unit.calls (k : Nat) (a0_0 a0_1 a0_2 : Int) (r1 r2 r3 : Int) (w : World) (h : light_unit.f k a0_0 a0_1 a0_2 = some (r1, r2, r3)) :
    Calls Try.prog 32 #[.agg #[.int .i64 a0_0, .int .i64 a0_1, .int .i64 a0_2]] w fun e w' => e = .returned (.agg #[.int .i64 r1, .int .i64 r2, .int .i64 r3]) ∧ Below w.heap.size w w' := by
 have hu26 := Try.underlying26
 have hu3 := Try.underlying3
 have hmf : ∀ (fn : Fn) (first cap : Array Value) (w : World), (Instr.makeFunc fn first cap).run Try.prog w = .ok (.func fn first cap) w := fun _ _ _ _ => rfl
 unfold light_unit.f at h
 replace h := Option.bind_eq_some_iff.mp h
 obtain ⟨q, hq, h⟩ := h
 replace h := Option.bind_eq_some_iff.mp h
 obtain ⟨s, hs, h⟩ := h
 replace h := Option.bind_eq_some_iff.mp h
 obtain ⟨x, hx, h⟩ := h
 replace h := Option.bind_eq_some_iff.mp h
 obtain ⟨y, hy, h⟩ := h
 replace h := Option.bind_eq_some_iff.mp h
 obtain ⟨z, hz, h⟩ := h
 simp only [Option.some.injEq, Prod.mk.injEq] at h
 obtain ⟨rfl, rfl, rfl⟩ := h
 have CQ := fun w => vec_Dot.calls a0_0 a0_1 a0_2 a0_0 a0_1 a0_2 q w hq
 have CR := fun w => light_root.calls k q 1 s w hs
 clear hq hs
 have HB := Aside0.mk (Below.refl w.heap.size w)
 go_enter Try.func32, Try.ntmps32
 go_wp2_with (first
  | ((with_reducible refine gate_dst (N := 1) rfl ?_); refine box_event ?hg (N := 1) ?hd (cs := #[.int .i64 a0_0, .int .i64 a0_1, .int .i64 a0_2]) (t := 26) ?hr ?_; (case hd => rfl); (case hg => rfl); (case hr => first | (go_simp; done) | (go_simp; rfl)); intro g1 hg w4 hbox hb; have BK1 := Aside0.mk (hbox); have GE1 := Aside0.mk (bG hg (HB.out)); replace HB := Aside0.mk (below_step (HB.out) hb); clear hb hbox hg)
  | ((with_reducible refine gate_dst (N := 2) rfl ?_); refine box_event ?hg (N := 2) ?hd (cs := #[.int .i64 0, .int .i64 0, .int .i64 0]) (t := 26) ?hr ?_; (case hd => rfl); (case hg => rfl); (case hr => first | (go_simp; done) | (go_simp; rfl)); intro g2 hg w5 hbox hb; have BK2 := Aside0.mk (hbox); have GE2 := Aside0.mk (bG hg (HB.out)); have N12 := cN hg BK1; have N21 := cM hg BK1; replace HB := Aside0.mk (below_step (HB.out) hb); replace BK1 := cB hb BK1; clear hb hbox hg; obtain ⟨k0, k1, k2⟩ := cells3 BK1.out)
  | (go_at_call 16; (with_reducible refine (CQ _).mono ?_); rintro e w6 ⟨rfl, hb⟩; replace BK1 := cB hb BK1; replace BK2 := cB hb BK2; replace HB := Aside0.mk (below_step (HB.out) hb); clear hb)
  | (go_at_call 33; (with_reducible refine (CR _).mono ?_); rintro e w7 ⟨rfl, hb⟩; replace BK1 := cB hb BK1; replace BK2 := cB hb BK2; replace HB := Aside0.mk (below_step (HB.out) hb); clear hb)
  | ((with_reducible refine gate_dst (N := 3) rfl ?_); refine box_event ?hg (N := 3) ?hd (cs := #[.int .i64 0]) (t := 3) ?hr ?_; (case hd => rfl); (case hg => rfl); (case hr => first | (go_simp; done) | (go_simp; rfl)); intro g3 hg w8 hbox hb; have BK3 := Aside0.mk (hbox); have GE3 := Aside0.mk (bG hg (HB.out)); have N13 := cN hg BK1; have N31 := cM hg BK1; have N23 := cN hg BK2; have N32 := cM hg BK2; replace HB := Aside0.mk (below_step (HB.out) hb); replace BK1 := cB hb BK1; replace BK2 := cB hb BK2; clear hb hbox hg; obtain ⟨k0, k1, k2⟩ := cells3 BK1.out; have s0 := (blk_cell BK3.out 0).trans (rfl : _ = some (Value.int .i64 0)); have sf0 := blk_frozen BK3.out 0; have hn0 := N13.out; have hn1 := N31.out)
  | (go_at_call 29; replace BK1 := Aside0.mk (blk_far BK1.out (p := ⟨g3, 0, none⟩) N13.out (.int .i64 s)); replace BK2 := Aside0.mk (blk_far BK2.out (p := ⟨g3, 0, none⟩) N23.out (.int .i64 s)); replace BK3 := Aside0.mk (blk_put (cs' := #[.int .i64 s]) BK3.out 0 (.int .i64 s) rfl); replace HB := Aside0.mk (below_set (j := 0) (v := .int .i64 s) HB.out GE3.out); (with_reducible refine (light_parts.calls 46 Try.f46 #[.pointer (some ⟨g3, 0, none⟩)] a0_0 a0_1 a0_2 a0_0 a0_1 a0_2 x y z _ Try.func46 (by kernel_rfl) rfl (fun w'' hb => unit1.calls a0_0 a0_0 s g3 x w'' (blk_below BK3.out hb) hx) (fun w'' hb => unit1.calls a0_1 a0_1 s g3 y w'' (blk_below BK3.out hb) hy) (fun w'' hb => unit1.calls a0_2 a0_2 s g3 z w'' (blk_below BK3.out hb) hz)).mono ?_); rintro e' w9 ⟨rfl, hb⟩; replace BK2 := cB hb BK2; replace HB := Aside0.mk (below_step (HB.out) hb); clear hb; have m0 := (blk_cell BK2.out 0).trans (rfl : _ = some (Value.int .i64 0)); have mf0 := blk_frozen BK2.out 0; have m1 := (blk_cell BK2.out 1).trans (rfl : _ = some (Value.int .i64 0)); have mf1 := blk_frozen BK2.out 1; have m2 := (blk_cell BK2.out 2).trans (rfl : _ = some (Value.int .i64 0)); have mf2 := blk_frozen BK2.out 2))
 refine bodyPost_ret (results_cell_row rfl _ _ g2 26 #[.int .i64 x, .int .i64 y, .int .i64 z] (0, 0) _ rfl (blk_put (cs' := #[.int .i64 x, .int .i64 y, .int .i64 z]) (blk_put (blk_put BK2.out 0 _ rfl) 1 _ rfl) 2 _ rfl) Try.underlying26 rfl (by kernel_rfl)) rfl ?_
 exact ⟨rfl, below_set (below_set (below_set HB.out GE2.out) GE2.out) GE2.out⟩
set_option maxHeartbeats 4000000 in
set_option maxRecDepth 100000 in
theorem refract1.calls (u m eta f : Int) (g2 g3 : Nat) (x1 x2 : Int) (w : World) (h5 : w.heap[g2]? = some (.cells #[.int .i64 eta] 3 (0, 0))) (h6 : w.heap[g3]? = some (.cells #[.int .i64 f] 3 (0, 0)))
    (ha : light_floor.f (wrap64 (eta * u)) 256 = some x1) (hb : light_floor.f (wrap64 (f * m)) 4096 = some x2) :
    Calls Try.prog 34 (#[.int .i64 u, .int .i64 m] ++ #[.pointer (some ⟨g2, 0, none⟩), .pointer (some ⟨g3, 0, none⟩)]) w fun e w' => e = .returned (.int .i64 (wrap64 (x1 + x2))) ∧ Below w.heap.size w w' := by
 show Calls Try.prog 34 #[.int .i64 u, .int .i64 m, .pointer (some ⟨g2, 0, none⟩), .pointer (some ⟨g3, 0, none⟩)] w _
 have FA := fun w => floor_below _ _ x1 w ha
 have FB := fun w => floor_below _ _ x2 w hb
 have BK2 := Aside0.mk h5
 have BK3 := Aside0.mk h6
 have HB := Aside0.mk (Below.refl w.heap.size w)
 clear ha hb h5 h6
 go_enter Try.func34, Try.ntmps34
 go_wp2
 replace BK2 := Aside0.mk (blk_drew BK2.out)
 replace BK3 := Aside0.mk (blk_drew BK3.out)
 replace HB := Aside0.mk (below_drew1 HB.out)
 refine start_ (n := 10) (S := fun w' => w'.cell? ⟨g2, 0, none⟩ = some (.int .i64 eta) ∧ w'.cell? ⟨g3, 0, none⟩ = some (.int .i64 f)) (ds := []) #[false, false, false, false, false, false, false, false, false, false] (by kernel_rfl) rfl rfl ⟨(blk_cell BK2.out 0).trans rfl, (blk_cell BK3.out 0).trans rfl⟩ (fun hHeld => ?_); refine with_tabW refract1.tab1 refract1.bits1 (fun HT_ HW_ => ?_)
 generalize w.drew = w5 at BK2 BK3 HB hHeld ⊢
 refine pure_ (i := 1) (N := some 8) (v := ?_) (a' := ?_) #[false, true, false, false, false, false, false, false, false, false] rfl rfl (any_of HT_.out (by kernel_rfl)) (fun _ _ _ h => h) (Or.inl ⟨by rfl, ?_⟩) ?_ ?_
 rotate_left
 ·intro w'
  go_simp
  with_reducible rfl
 rotate_left
 ·simp only [Act.put, List.setIfInBounds_toArray, List.set_cons_zero, List.set_cons_succ, i64_w, i32_w]
  rfl
 refine pure_ (i := 5) (N := some 12) (v := ?_) (a' := ?_) #[false, true, false, false, false, true, false, false, false, false] rfl rfl (any_of HT_.out (by kernel_rfl)) (fun _ _ _ h => h) (Or.inl ⟨by rfl, ?_⟩) ?_ ?_
 rotate_left
 ·intro w'
  go_simp
  with_reducible rfl
 rotate_left
 ·simp only [Act.put, List.setIfInBounds_toArray, List.set_cons_zero, List.set_cons_succ, i64_w, i32_w]
  rfl
 refine take_ (i := 0) (N := some 7) (v := ?_) (a' := ?_) #[true, true, false, false, false, true, false, false, false, false] rfl rfl (take_ofW HT_.out HW_.out (by kernel_rfl)) (fun _ _ _ h => h) (Or.inl ⟨by rfl, ?_⟩) hHeld ?_ ?_
 rotate_left
 ·rintro w' ⟨s0, s1⟩
  go_simp
  with_reducible rfl
 rotate_left
 ·simp only [Act.put, List.setIfInBounds_toArray, List.set_cons_zero, List.set_cons_succ, i64_w, i32_w]
  rfl
 refine take_ (i := 4) (N := some 11) (v := ?_) (a' := ?_) #[true, true, false, false, true, true, false, false, false, false] rfl rfl (take_ofW HT_.out HW_.out (by kernel_rfl)) (fun _ _ _ h => h) (Or.inl ⟨by rfl, ?_⟩) hHeld ?_ ?_
 rotate_left
 ·rintro w' ⟨s0, s1⟩
  go_simp
  with_reducible rfl
 rotate_left
 ·simp only [Act.put, List.setIfInBounds_toArray, List.set_cons_zero, List.set_cons_succ, i64_w, i32_w]
  rfl
 refine pure_ (i := 2) (N := some 9) (v := ?_) (a' := ?_) #[true, true, true, false, true, true, false, false, false, false] rfl rfl (any_of HT_.out (by kernel_rfl)) (fun _ _ _ h => h) (Or.inl ⟨by rfl, ?_⟩) ?_ ?_
 rotate_left
 ·intro w'
  go_simp
  with_reducible rfl
 rotate_left
 ·simp only [Act.put, List.setIfInBounds_toArray, List.set_cons_zero, List.set_cons_succ, i64_w, i32_w]
  rfl
 refine pure_ (i := 6) (N := some 13) (v := ?_) (a' := ?_) #[true, true, true, false, true, true, true, false, false, false] rfl rfl (any_of HT_.out (by kernel_rfl)) (fun _ _ _ h => h) (Or.inl ⟨by rfl, ?_⟩) ?_ ?_
 rotate_left
 ·intro w'
  go_simp
  with_reducible rfl
 rotate_left
 ·simp only [Act.put, List.setIfInBounds_toArray, List.set_cons_zero, List.set_cons_succ, i64_w, i32_w]
  rfl
 refine one_ (i := 3) (N := some 10) #[true, true, true, true, true, true, true, false, false, false] rfl rfl (one_of HT_.out (by kernel_rfl)) (by decide) (fun K hK => ?_)
 refine goes_ Try.func31 (by kernel_rfl) rfl #[.int .i64 (wrap64 (eta * u)), .int .i64 256] (by rfl) rfl rfl (by (try simp only [List.map_toArray, List.map_cons, List.map_nil]); first | done | rfl | (simp only [List.length_drop, List.length_take]; rfl)) ?_
 with_reducible refine (FA _).mono ?_
 rintro e w5_1 ⟨rfl, hb⟩
 refine ⟨_, rfl, ?_⟩
 replace BK2 := cB hb BK2
 replace BK3 := cB hb BK3
 replace HB := Aside0.mk (below_step (HB.out) hb)
 clear hb
 refine hK.out _ _ ⟨(blk_cell BK2.out 0).trans rfl, (blk_cell BK3.out 0).trans rfl⟩ (fun hHeld => ?_)
 clear hK K
 refine norm_ (a' := ?_) ?_ ?_
 rotate_left
 ·show Act.put _ (some 10) _ = _
  simp only [Act.put, List.setIfInBounds_toArray, List.set_cons_zero, List.set_cons_succ, i64_w, i32_w]
  rfl
 refine one_ (i := 7) (N := some 14) #[true, true, true, true, true, true, true, true, false, false] rfl rfl (one_of HT_.out (by kernel_rfl)) (by decide) (fun K hK => ?_)
 refine goes_ Try.func31 (by kernel_rfl) rfl #[.int .i64 (wrap64 (f * m)), .int .i64 4096] (by rfl) rfl rfl (by (try simp only [List.map_toArray, List.map_cons, List.map_nil]); first | done | rfl | (simp only [List.length_drop, List.length_take]; rfl)) ?_
 with_reducible refine (FB _).mono ?_
 rintro e w5_2 ⟨rfl, hb⟩
 refine ⟨_, rfl, ?_⟩
 replace BK2 := cB hb BK2
 replace BK3 := cB hb BK3
 replace HB := Aside0.mk (below_step (HB.out) hb)
 clear hb
 refine hK.out _ _ ⟨(blk_cell BK2.out 0).trans rfl, (blk_cell BK3.out 0).trans rfl⟩ (fun hHeld => ?_)
 clear hK K
 refine norm_ (a' := ?_) ?_ ?_
 rotate_left
 ·show Act.put _ (some 14) _ = _
  simp only [Act.put, List.setIfInBounds_toArray, List.set_cons_zero, List.set_cons_succ, i64_w, i32_w]
  rfl
 refine pure_ (i := 8) (N := some 15) (v := ?_) (a' := ?_) #[true, true, true, true, true, true, true, true, true, false] rfl rfl (any_of HT_.out (by kernel_rfl)) (fun _ _ _ h => h) (Or.inl ⟨by rfl, ?_⟩) ?_ ?_
 rotate_left
 ·intro w'
  go_simp
  with_reducible rfl
 rotate_left
 ·simp only [Act.put, List.setIfInBounds_toArray, List.set_cons_zero, List.set_cons_succ, i64_w, i32_w]
  rfl
 refine pure_ (i := 9) (N := some 6) (v := ?_) (a' := ?_) #[true, true, true, true, true, true, true, true, true, true] rfl rfl (any_of HT_.out (by kernel_rfl)) (fun _ _ _ h => h) (Or.inl ⟨by rfl, ?_⟩) ?_ ?_
 rotate_left
 ·intro w'
  go_simp
  with_reducible rfl
 rotate_left
 ·simp only [Act.put, List.setIfInBounds_toArray, List.set_cons_zero, List.set_cons_succ, i64_w, i32_w]
  rfl
 refine done_ (done_of HT_.out (by kernel_rfl)) ?_
 try go_wp2
 go_ret
 exact ⟨rfl, HB.out⟩
end Go.Proofs.Ytmhnidmbgicgeaa.G
