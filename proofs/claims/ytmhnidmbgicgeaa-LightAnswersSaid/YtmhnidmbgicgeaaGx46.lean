-- Written by a program of this session (wip/gen), out of the translation; Lean checks it.
import Derived.Test.YtmhnidmbgicgeaaNumAll
import Derived.Test.YtmhnidmbgicgeaaNumAll
import Derived.Test.YtmhnidmbgicgeaaGx0
import Derived.Test.YtmhnidmbgicgeaaGx32
import Derived.Test.YtmhnidmbgicgeaaGx33
namespace Go.Proofs.Ytmhnidmbgicgeaa.G
open Go.RowKit Go.Proofs.YtmhnidmbgicgeaaW.PrintWords Go.Proofs.YtmhnidmbgicgeaaW.PrintLast Go.Proofs.YtmhnidmbgicgeaaW.PrintMore
attribute [local go_sem] max2_int min2_int max_two min_two max_three min_three max_four min_four   -- for this text's walks alone
set_option linter.unusedVariables false
set_option linter.unusedSimpArgs false

/-! ### relievoref19_unit: function 37 -/
def relievoref19_unit.f (a0_0 : Int) (a0_1 : Int) (a0_2 : Int) : Option (Int × Int × Int) := (relievoref02_Dot.f a0_0 a0_1 a0_2 a0_0 a0_1 a0_2).bind fun t278 => ((relievoref01_Mul.f t278 1).bind fun bt279 => ((relievoref01_Sqrt.f bt279.1 bt279.2).bind fun bt281 => ((relievoref19_Floor.f (wrap64 (4096 * a0_0)) bt281.1).bind fun t283 => ((relievoref19_Floor.f (wrap64 (4096 * a0_1)) bt281.1).bind fun t284 => ((relievoref19_Floor.f (wrap64 (4096 * a0_2)) bt281.1).bind fun t285 => (some (t283, t284, t285)))))))
def relievoref19_unit.T2 : Bool × List (List Nat × List Nat) := (true, [([], []), ([0], [0]), ([1], [1]), ([], []), ([2, 3], [2, 3]), ([], []), ([5], [5]), ([6], [6]), ([], []), ([7, 8, 4], [7, 8]), ([], []), ([10], [10]), ([11], [11]), ([], []), ([12, 13, 9], [12, 13]), ([4, 9, 14], [4, 9, 14]), ([15, 14, 0, 1, 2, 3, 4, 5, 6, 7, 8, 9, 10, 11, 12, 13, 14, 15], [15])])
def relievoref19_unit.B2 : List Nat := [0, 1, 3, 0, 15, 0, 32, 96, 0, 511, 0, 1024, 3072, 0, 16383, 32767, 65535]
theorem relievoref19_unit.tab2 : rtab .any (opsOf Try.f37 2) = relievoref19_unit.T2 := by kernel_rfl
theorem relievoref19_unit.bits2 : waitsOk relievoref19_unit.T2.2 relievoref19_unit.B2 = true := by kernel_rfl
set_option maxHeartbeats 8000000 in
set_option maxRecDepth 100000 in
theorem relievoref19_unit.calls (a0_0 : Int) (a0_1 : Int) (a0_2 : Int) (r1 : Int) (r2 : Int) (r3 : Int) (w : World) (h : relievoref19_unit.f a0_0 a0_1 a0_2 = some (r1, r2, r3)) :
    Calls Try.prog 37 #[.agg #[.int .i64 a0_0, .int .i64 a0_1, .int .i64 a0_2]] w fun e w' => e = .returned (.agg #[.int .i64 r1, .int .i64 r2, .int .i64 r3]) ∧ Below w.heap.size w w' := by
 have hu26 := Try.underlying26
 have HB := Aside0.mk (Below.refl w.heap.size w)
 have H : ((relievoref02_Dot.f a0_0 a0_1 a0_2 a0_0 a0_1 a0_2).bind fun t278 => ((relievoref01_Mul.f t278 1).bind fun bt279 => ((relievoref01_Sqrt.f bt279.1 bt279.2).bind fun bt281 => ((relievoref19_Floor.f (wrap64 (4096 * a0_0)) bt281.1).bind fun t283 => ((relievoref19_Floor.f (wrap64 (4096 * a0_1)) bt281.1).bind fun t284 => ((relievoref19_Floor.f (wrap64 (4096 * a0_2)) bt281.1).bind fun t285 => (some (t283, t284, t285)))))))) = some (r1, r2, r3) := h
 clear h
 replace H := Option.bind_eq_some_iff.mp H
 obtain ⟨t278, A20, H⟩ := H
 replace H : ((relievoref01_Mul.f t278 1).bind fun bt279 => ((relievoref01_Sqrt.f bt279.1 bt279.2).bind fun bt281 => ((relievoref19_Floor.f (wrap64 (4096 * a0_0)) bt281.1).bind fun t283 => ((relievoref19_Floor.f (wrap64 (4096 * a0_1)) bt281.1).bind fun t284 => ((relievoref19_Floor.f (wrap64 (4096 * a0_2)) bt281.1).bind fun t285 => (some (t283, t284, t285))))))) = some (r1, r2, r3) := H
 have A2 := Aside0.mk A20
 clear A20
 replace H := Option.bind_eq_some_iff.mp H
 obtain ⟨⟨t279, t280⟩, A30, H⟩ := H
 replace H : ((relievoref01_Sqrt.f t279 t280).bind fun bt281 => ((relievoref19_Floor.f (wrap64 (4096 * a0_0)) bt281.1).bind fun t283 => ((relievoref19_Floor.f (wrap64 (4096 * a0_1)) bt281.1).bind fun t284 => ((relievoref19_Floor.f (wrap64 (4096 * a0_2)) bt281.1).bind fun t285 => (some (t283, t284, t285)))))) = some (r1, r2, r3) := H
 have A3 := Aside0.mk A30
 clear A30
 replace H := Option.bind_eq_some_iff.mp H
 obtain ⟨⟨t281, t282⟩, A40, H⟩ := H
 replace H : ((relievoref19_Floor.f (wrap64 (4096 * a0_0)) t281).bind fun t283 => ((relievoref19_Floor.f (wrap64 (4096 * a0_1)) t281).bind fun t284 => ((relievoref19_Floor.f (wrap64 (4096 * a0_2)) t281).bind fun t285 => (some (t283, t284, t285))))) = some (r1, r2, r3) := H
 have A4 := Aside0.mk A40
 clear A40
 replace H := Option.bind_eq_some_iff.mp H
 obtain ⟨t283, A50, H⟩ := H
 replace H : ((relievoref19_Floor.f (wrap64 (4096 * a0_1)) t281).bind fun t284 => ((relievoref19_Floor.f (wrap64 (4096 * a0_2)) t281).bind fun t285 => (some (t283, t284, t285)))) = some (r1, r2, r3) := H
 have A5 := Aside0.mk A50
 clear A50
 replace H := Option.bind_eq_some_iff.mp H
 obtain ⟨t284, A60, H⟩ := H
 replace H : ((relievoref19_Floor.f (wrap64 (4096 * a0_2)) t281).bind fun t285 => (some (t283, t284, t285))) = some (r1, r2, r3) := H
 have A6 := Aside0.mk A60
 clear A60
 replace H := Option.bind_eq_some_iff.mp H
 obtain ⟨t285, A70, H⟩ := H
 replace H : (some (t283, t284, t285)) = some (r1, r2, r3) := H
 have A7 := Aside0.mk A70
 clear A70
 simp only [Option.some.injEq, Prod.mk.injEq] at H
 obtain ⟨rfl, rfl, rfl⟩ := H
 go_enter Try.func37, Try.ntmps37
 try go_wp2_with (first | ((with_reducible refine gate_dst (N := 1) rfl ?_); refine box_event ?hg (N := 1) ?hd (cs := #[.int .i64 a0_0, .int .i64 a0_1, .int .i64 a0_2]) (t := 26) ?hr ?_; (case hd => rfl); (case hg => rfl); (case hr => first | (go_simp; done) | (go_simp; rfl)); intro gb276 hg w8 hbox hb; have BK276 := Aside0.mk (hbox); have GE276 := Aside0.mk (bG hg (by first | exact HB.out | (repeat (first | exact HB.out | apply pw_below_drewN | apply below_drew1 | apply below_alloc)))); replace HB := Aside0.mk (below_step (by first | exact HB.out | (repeat (first | exact HB.out | apply pw_below_drewN | apply below_drew1 | apply below_alloc))) hb); clear hb hbox hg) | ((with_reducible refine gate_dst (N := 2) rfl ?_); refine box_event ?hg (N := 2) ?hd (cs := #[.int .i64 0, .int .i64 0, .int .i64 0]) (t := 26) ?hr ?_; (case hd => rfl); (case hg => rfl); (case hr => first | (go_simp; done) | (go_simp; rfl)); intro gb277 hg w9 hbox hb; have BK277 := Aside0.mk (hbox); have GE277 := Aside0.mk (bG hg (by first | exact HB.out | (repeat (first | exact HB.out | apply pw_below_drewN | apply below_drew1 | apply below_alloc)))); have NB276_277 := cN hg BK276; have NB277_276 := cM hg BK276; replace BK276 := cB hb BK276; replace HB := Aside0.mk (below_step (by first | exact HB.out | (repeat (first | exact HB.out | apply pw_below_drewN | apply below_drew1 | apply below_alloc))) hb); clear hb hbox hg; have hnb10 := NB276_277.out; have hnc10 := NB277_276.out; obtain ⟨hcz11_0, hcz11_1, hcz11_2⟩ := cells3 BK276.out) | ((with_reducible refine gate_callee (f := 36) rfl ?_); refine goesL_ (some 8) rfl rfl Try.func36 (by kernel_rfl) rfl #[.agg #[.int .i64 a0_0, .int .i64 a0_1, .int .i64 a0_2], .agg #[.int .i64 a0_0, .int .i64 a0_1, .int .i64 a0_2]] rfl (by (try simp only [List.map_toArray, List.map_cons, List.map_nil]); first | done | rfl | (simp only [List.length_drop, List.length_take]; rfl)) ?_; (with_reducible refine (relievoref02_Dot.calls a0_0 a0_1 a0_2 a0_0 a0_1 a0_2 t278 _ A2.out).mono ?_); rintro e w12 ⟨rfl, hb⟩; refine ⟨_, rfl, ?_⟩; replace BK276 := cB hb BK276; replace BK277 := cB hb BK277; replace HB := Aside0.mk (below_step (by first | exact HB.out | (repeat (first | exact HB.out | apply pw_below_drewN | apply below_drew1 | apply below_alloc))) hb); (try clear hb); (try clear hb2); (try clear hk); (try clear hi)) | ((with_reducible refine gate_callee (f := 40) rfl ?_); refine goesL_ (some 9) rfl rfl Try.func40 (by kernel_rfl) rfl #[.int .i64 t278, .int .i64 1] rfl (by (try simp only [List.map_toArray, List.map_cons, List.map_nil]); first | done | rfl | (simp only [List.length_drop, List.length_take]; rfl)) ?_; (with_reducible refine (relievoref01_Mul.calls t278 1 t279 t280 _ A3.out).mono ?_); rintro e w13 ⟨rfl, hb⟩; refine ⟨_, rfl, ?_⟩; replace BK276 := cB hb BK276; replace BK277 := cB hb BK277; replace HB := Aside0.mk (below_step (by first | exact HB.out | (repeat (first | exact HB.out | apply pw_below_drewN | apply below_drew1 | apply below_alloc))) hb); (try clear hb); (try clear hb2); (try clear hk); (try clear hi)) | ((with_reducible refine gate_callee (f := 39) rfl ?_); refine goesL_ (some 10) rfl rfl Try.func39 (by kernel_rfl) rfl #[.agg #[.int .i64 t279, .int .u64 t280]] rfl (by (try simp only [List.map_toArray, List.map_cons, List.map_nil]); first | done | rfl | (simp only [List.length_drop, List.length_take]; rfl)) ?_; (with_reducible refine (relievoref01_Sqrt.calls t279 t280 t281 t282 _ A4.out).mono ?_); rintro e w14 ⟨rfl, hb⟩; refine ⟨_, rfl, ?_⟩; replace BK276 := cB hb BK276; replace BK277 := cB hb BK277; replace HB := Aside0.mk (below_step (by first | exact HB.out | (repeat (first | exact HB.out | apply pw_below_drewN | apply below_drew1 | apply below_alloc))) hb); (try clear hb); (try clear hb2); (try clear hk); (try clear hi)))
 replace BK276 := Aside0.mk (blk_drew BK276.out)
 replace BK277 := Aside0.mk (blk_drew BK277.out)
 replace HB := Aside0.mk (below_drew1 HB.out)
 refine start_ (n := 17) (S := fun w' => w'.cell? ⟨gb276, 0, none⟩ = some (.int .i64 a0_0) ∧ w'.cell? ⟨gb276, 1, none⟩ = some (.int .i64 a0_1) ∧ w'.cell? ⟨gb276, 2, none⟩ = some (.int .i64 a0_2)) (ds := []) #[false, false, false, false, false, false, false, false, false, false, false, false, false, false, false, false, false] (by kernel_rfl) rfl rfl ⟨(blk_cell BK276.out 0).trans rfl, (blk_cell BK276.out 1).trans rfl, (blk_cell BK276.out 2).trans rfl⟩ (fun hHeld => ?_); refine with_tabW relievoref19_unit.tab2 relievoref19_unit.bits2 (fun HT_ HW_ => ?_)
 generalize w14.drew = w15 at BK276 BK277 HB hHeld ⊢
 refine pure_ (i := 0) (N := some 13) (v := ?_) (a' := ?_) (bm 17 1) rfl rfl (any_of HT_.out (by kernel_rfl)) (fun _ _ _ h => h) (Or.inl ⟨by rfl, ?_⟩) ?_ ?_
 rotate_left
 ·intro w'
  go_simp
  with_reducible rfl
 rotate_left
 ·simp only [Act.put, List.setIfInBounds_toArray, List.set_cons_zero, List.set_cons_succ, i64_w, i32_w]
  rfl
 refine pure_ (i := 3) (N := some 16) (v := ?_) (a' := ?_) (bm 17 9) rfl rfl (any_of HT_.out (by kernel_rfl)) (fun _ _ _ h => h) (Or.inl ⟨by rfl, ?_⟩) ?_ ?_
 rotate_left
 ·intro w'
  go_simp
  with_reducible rfl
 rotate_left
 ·simp only [Act.put, List.setIfInBounds_toArray, List.set_cons_zero, List.set_cons_succ, i64_w, i32_w]
  rfl
 refine pure_ (i := 5) (N := some 18) (v := ?_) (a' := ?_) (bm 17 41) rfl rfl (any_of HT_.out (by kernel_rfl)) (fun _ _ _ h => h) (Or.inl ⟨by rfl, ?_⟩) ?_ ?_
 rotate_left
 ·intro w'
  go_simp
  with_reducible rfl
 rotate_left
 ·simp only [Act.put, List.setIfInBounds_toArray, List.set_cons_zero, List.set_cons_succ, i64_w, i32_w]
  rfl
 refine pure_ (i := 8) (N := some 21) (v := ?_) (a' := ?_) (bm 17 297) rfl rfl (any_of HT_.out (by kernel_rfl)) (fun _ _ _ h => h) (Or.inl ⟨by rfl, ?_⟩) ?_ ?_
 rotate_left
 ·intro w'
  go_simp
  with_reducible rfl
 rotate_left
 ·simp only [Act.put, List.setIfInBounds_toArray, List.set_cons_zero, List.set_cons_succ, i64_w, i32_w]
  rfl
 refine pure_ (i := 10) (N := some 23) (v := ?_) (a' := ?_) (bm 17 1321) rfl rfl (any_of HT_.out (by kernel_rfl)) (fun _ _ _ h => h) (Or.inl ⟨by rfl, ?_⟩) ?_ ?_
 rotate_left
 ·intro w'
  go_simp
  with_reducible rfl
 rotate_left
 ·simp only [Act.put, List.setIfInBounds_toArray, List.set_cons_zero, List.set_cons_succ, i64_w, i32_w]
  rfl
 refine pure_ (i := 13) (N := some 26) (v := ?_) (a' := ?_) (bm 17 9513) rfl rfl (any_of HT_.out (by kernel_rfl)) (fun _ _ _ h => h) (Or.inl ⟨by rfl, ?_⟩) ?_ ?_
 rotate_left
 ·intro w'
  go_simp
  with_reducible rfl
 rotate_left
 ·simp only [Act.put, List.setIfInBounds_toArray, List.set_cons_zero, List.set_cons_succ, i64_w, i32_w]
  rfl
 refine take_ (i := 1) (N := some 14) (v := ?_) (a' := ?_) (bm 17 9515) rfl rfl (take_ofW HT_.out HW_.out (by kernel_rfl)) (fun _ _ _ h => h) (Or.inl ⟨by rfl, ?_⟩) hHeld ?_ ?_
 rotate_left
 ·rintro w' ⟨s0, s1, s2⟩
  go_simp
  with_reducible rfl
 rotate_left
 ·simp only [Act.put, List.setIfInBounds_toArray, List.set_cons_zero, List.set_cons_succ, i64_w, i32_w]
  rfl
 refine pure_ (i := 2) (N := some 15) (v := ?_) (a' := ?_) (bm 17 9519) rfl rfl (any_of HT_.out (by kernel_rfl)) (fun _ _ _ h => h) (Or.inl ⟨by rfl, ?_⟩) ?_ ?_
 rotate_left
 ·intro w'
  go_simp
  with_reducible rfl
 rotate_left
 ·simp only [Act.put, List.setIfInBounds_toArray, List.set_cons_zero, List.set_cons_succ, i64_w, i32_w]
  rfl
 refine take_ (i := 6) (N := some 19) (v := ?_) (a' := ?_) (bm 17 9583) rfl rfl (take_ofW HT_.out HW_.out (by kernel_rfl)) (fun _ _ _ h => h) (Or.inl ⟨by rfl, ?_⟩) hHeld ?_ ?_
 rotate_left
 ·rintro w' ⟨s0, s1, s2⟩
  go_simp
  with_reducible rfl
 rotate_left
 ·simp only [Act.put, List.setIfInBounds_toArray, List.set_cons_zero, List.set_cons_succ, i64_w, i32_w]
  rfl
 refine pure_ (i := 7) (N := some 20) (v := ?_) (a' := ?_) (bm 17 9711) rfl rfl (any_of HT_.out (by kernel_rfl)) (fun _ _ _ h => h) (Or.inl ⟨by rfl, ?_⟩) ?_ ?_
 rotate_left
 ·intro w'
  go_simp
  with_reducible rfl
 rotate_left
 ·simp only [Act.put, List.setIfInBounds_toArray, List.set_cons_zero, List.set_cons_succ, i64_w, i32_w]
  rfl
 refine take_ (i := 11) (N := some 24) (v := ?_) (a' := ?_) (bm 17 11759) rfl rfl (take_ofW HT_.out HW_.out (by kernel_rfl)) (fun _ _ _ h => h) (Or.inl ⟨by rfl, ?_⟩) hHeld ?_ ?_
 rotate_left
 ·rintro w' ⟨s0, s1, s2⟩
  go_simp
  with_reducible rfl
 rotate_left
 ·simp only [Act.put, List.setIfInBounds_toArray, List.set_cons_zero, List.set_cons_succ, i64_w, i32_w]
  rfl
 refine pure_ (i := 12) (N := some 25) (v := ?_) (a' := ?_) (bm 17 15855) rfl rfl (any_of HT_.out (by kernel_rfl)) (fun _ _ _ h => h) (Or.inl ⟨by rfl, ?_⟩) ?_ ?_
 rotate_left
 ·intro w'
  go_simp
  with_reducible rfl
 rotate_left
 ·simp only [Act.put, List.setIfInBounds_toArray, List.set_cons_zero, List.set_cons_succ, i64_w, i32_w]
  rfl
 refine one_ (i := 4) (N := some 17) (bm 17 15871) rfl rfl (one_of HT_.out (by kernel_rfl)) (by decide) (fun K hK => ?_)
 refine goes_ Try.func38 (by kernel_rfl) rfl #[.int .i64 (wrap64 (4096 * a0_0)), .int .i64 t281] (by rfl) rfl rfl (by (try simp only [List.map_toArray, List.map_cons, List.map_nil]); first | done | rfl | (simp only [List.length_drop, List.length_take]; rfl)) ?_
 with_reducible refine (relievoref19_Floor.calls (wrap64 (4096 * a0_0)) t281 t283 _ A5.out).mono ?_
 rintro e w' ⟨rfl, ⟨nd, rfl⟩⟩
 refine ⟨_, rfl, ?_⟩
 refine hK.out _ _ ⟨(blk_cell BK276.out 0).trans rfl, (blk_cell BK276.out 1).trans rfl, (blk_cell BK276.out 2).trans rfl⟩ (fun hHeld => ?_)
 clear hK K
 refine norm_ (a' := ?_) ?_ ?_
 rotate_left
 ·show Act.put _ (some 17) _ = _
  simp only [Act.put, List.setIfInBounds_toArray, List.set_cons_zero, List.set_cons_succ, i64_w, i32_w]
  rfl
 refine one_ (i := 9) (N := some 22) (bm 17 16383) rfl rfl (one_of HT_.out (by kernel_rfl)) (by decide) (fun K hK => ?_)
 refine goes_ Try.func38 (by kernel_rfl) rfl #[.int .i64 (wrap64 (4096 * a0_1)), .int .i64 t281] (by rfl) rfl rfl (by (try simp only [List.map_toArray, List.map_cons, List.map_nil]); first | done | rfl | (simp only [List.length_drop, List.length_take]; rfl)) ?_
 with_reducible refine (relievoref19_Floor.calls (wrap64 (4096 * a0_1)) t281 t284 _ A6.out).mono ?_
 rintro e w' ⟨rfl, ⟨nd, rfl⟩⟩
 refine ⟨_, rfl, ?_⟩
 refine hK.out _ _ ⟨(blk_cell BK276.out 0).trans rfl, (blk_cell BK276.out 1).trans rfl, (blk_cell BK276.out 2).trans rfl⟩ (fun hHeld => ?_)
 clear hK K
 refine norm_ (a' := ?_) ?_ ?_
 rotate_left
 ·show Act.put _ (some 22) _ = _
  simp only [Act.put, List.setIfInBounds_toArray, List.set_cons_zero, List.set_cons_succ, i64_w, i32_w]
  rfl
 refine one_ (i := 14) (N := some 27) (bm 17 32767) rfl rfl (one_of HT_.out (by kernel_rfl)) (by decide) (fun K hK => ?_)
 refine goes_ Try.func38 (by kernel_rfl) rfl #[.int .i64 (wrap64 (4096 * a0_2)), .int .i64 t281] (by rfl) rfl rfl (by (try simp only [List.map_toArray, List.map_cons, List.map_nil]); first | done | rfl | (simp only [List.length_drop, List.length_take]; rfl)) ?_
 with_reducible refine (relievoref19_Floor.calls (wrap64 (4096 * a0_2)) t281 t285 _ A7.out).mono ?_
 rintro e w' ⟨rfl, ⟨nd, rfl⟩⟩
 refine ⟨_, rfl, ?_⟩
 refine hK.out _ _ ⟨(blk_cell BK276.out 0).trans rfl, (blk_cell BK276.out 1).trans rfl, (blk_cell BK276.out 2).trans rfl⟩ (fun hHeld => ?_)
 clear hK K
 refine norm_ (a' := ?_) ?_ ?_
 rotate_left
 ·show Act.put _ (some 27) _ = _
  simp only [Act.put, List.setIfInBounds_toArray, List.set_cons_zero, List.set_cons_succ, i64_w, i32_w]
  rfl
 refine pure_ (i := 15) (N := some 28) (v := ?_) (a' := ?_) (bm 17 65535) rfl rfl (any_of HT_.out (by kernel_rfl)) (fun _ _ _ h => h) (Or.inl ⟨by rfl, ?_⟩) ?_ ?_
 rotate_left
 ·intro w'
  go_simp
  with_reducible rfl
 rotate_left
 ·simp only [Act.put, List.setIfInBounds_toArray, List.set_cons_zero, List.set_cons_succ, i64_w, i32_w]
  rfl
 refine one_ (i := 16) (N := none) (bm 17 131071) rfl rfl (one_of HT_.out (by kernel_rfl)) (by decide) (fun K hK => ?_)
 have hs16 : w15.cell? ⟨gb277, 0, none⟩ = some (.int .i64 0) := (blk_cell BK277.out 0).trans rfl
 have hfs16 := blk_frozen BK277.out 0
 have hns16_0 := NB276_277.out
 have hms16_0 := NB277_276.out
 have hs17 : w15.cell? ⟨gb277, 1, none⟩ = some (.int .i64 0) := (blk_cell BK277.out 1).trans rfl
 have hfs17 := blk_frozen BK277.out 1
 have hns17_0 := NB276_277.out
 have hms17_0 := NB277_276.out
 have hs18 : w15.cell? ⟨gb277, 2, none⟩ = some (.int .i64 0) := (blk_cell BK277.out 2).trans rfl
 have hfs18 := blk_frozen BK277.out 2
 have hns18_0 := NB276_277.out
 have hms18_0 := NB277_276.out
 refine skip_ (w1 := ?_) (by rfl) rfl ?_ ?_
 rotate_left
 ·go_simp
  rfl
 refine hK.out _ _ ⟨(cf NB276_277.out (cf NB276_277.out (cf NB276_277.out hHeld.1))), (cf NB276_277.out (cf NB276_277.out (cf NB276_277.out hHeld.2.1))), (cf NB276_277.out (cf NB276_277.out (cf NB276_277.out hHeld.2.2)))⟩ (fun hHeld => ?_)
 clear hK K
 refine done_ (done_of HT_.out (by kernel_rfl)) ?_
 try go_wp2
 refine bodyPost_ret (results_cell_row rfl _ _ gb277 26 #[.int .i64 t283, .int .i64 t284, .int .i64 t285] (0, 0) _ rfl ((blk_put (cs' := #[.int .i64 t283, .int .i64 t284, .int .i64 t285]) (blk_put (blk_put BK277.out 0 _ rfl) 1 _ rfl) 2 _ rfl)) Try.underlying26 rfl (by kernel_rfl)) rfl ?_
 exact ⟨by first | rfl | (simp [errW_none, errW_some] <;> rfl) | (simp [*, errW_none, errW_some] <;> rfl), by first | exact (below_set (below_set (below_set HB.out GE277.out) GE277.out) GE277.out) | exact (below_set (below_set (below_set (pw_below_drewN HB.out _) GE277.out) GE277.out) GE277.out) | (repeat (first | exact (below_set (below_set (below_set HB.out GE277.out) GE277.out) GE277.out) | apply pw_below_drewN | apply below_drew1 | apply below_alloc))⟩

end Go.Proofs.Ytmhnidmbgicgeaa.G
