-- Written by a program of this session (wip/gen), out of the translation; Lean checks it.
import Derived.Test.YtmhnidmbgicgeaaGx0
import Derived.Test.YtmhnidmbgicgeaaGx31
import Derived.Test.YtmhnidmbgicgeaaGx32
import Derived.Test.YtmhnidmbgicgeaaGx33
import Derived.Test.YtmhnidmbgicgeaaGx48
namespace Go.Proofs.Ytmhnidmbgicgeaa.G
open Go.RowKit Go.Proofs.YtmhnidmbgicgeaaW.PrintWords Go.Proofs.YtmhnidmbgicgeaaW.PrintLast Go.Proofs.YtmhnidmbgicgeaaW.PrintMore
attribute [local go_sem] max2_int min2_int max_two min_two max_three min_three max_four min_four   -- for this text's walks alone
set_option linter.unusedVariables false
set_option linter.unusedSimpArgs false

/-! ### relievoref19_Reflect: function 23 -/
def relievoref19_Reflect.f (k : Nat) (a0_0 : Int) (a0_1 : Int) (a0_2 : Int) (a1_0 : Int) (a1_1 : Int) (a1_2 : Int) : Option (Int × Int × Int) := (relievoref19_fine.f a0_0 a0_1 a0_2 a1_0 a1_1 a1_2).bind fun t336 => (if t336 = true then ((relievoref02_Dot.f a1_0 a1_1 a1_2 a1_0 a1_1 a1_2).bind fun t337 => ((relievoref02_Dot.f a0_0 a0_1 a0_2 a1_0 a1_1 a1_2).bind fun t338 => ((relievoref19_Floor.f (wrap64 ((wrap64 (a0_0 * t337)) - (wrap64 ((wrap64 (2 * a1_0)) * t338)))) t337).bind fun t339 => ((relievoref19_Floor.f (wrap64 ((wrap64 (a0_1 * t337)) - (wrap64 ((wrap64 (2 * a1_1)) * t338)))) t337).bind fun t340 => ((relievoref19_Floor.f (wrap64 ((wrap64 (a0_2 * t337)) - (wrap64 ((wrap64 (2 * a1_2)) * t338)))) t337).bind fun t341 => ((relievoref02_Cut.f k t339 t340 t341 32768).bind fun bt342 => (some (bt342.1, bt342.2.1, bt342.2.2)))))))) else (some (0, 0, 0)))
theorem relievoref19_Reflect.mono : ∀ a0 a1 a2 a3 a4 a5 k, LeO (relievoref19_Reflect.f k a0 a1 a2 a3 a4 a5) (relievoref19_Reflect.f (k + 1) a0 a1 a2 a3 a4 a5) := by
  intro a0 a1 a2 a3 a4 a5 k
  unfold relievoref19_Reflect.f
  repeat' first
      | (with_reducible exact relievoref02_Cut.mono _ _ _ _ _)
      | (with_reducible exact LeO.refl _)
      | (with_reducible exact LeO.none _)
      | (with_reducible refine LeO.ite ?_ ?_)
      | (with_reducible refine LeO.bind ?_ (fun _ => ?_))
      | exact relievoref02_Cut.mono _ _ _ _ _
      | exact LeO.none _
      | refine LeO.ite ?_ ?_
      | refine LeO.bind ?_ (fun _ => ?_)
def relievoref19_Reflect.T5 : Bool × List (List Nat × List Nat) := (true, [([], []), ([0], [0]), ([], []), ([1, 2], [1, 2]), ([], []), ([4], [4]), ([5], [5]), ([], []), ([6, 7], [6, 7]), ([3, 8], [3, 8]), ([], []), ([9, 10], [9, 10]), ([], []), ([12], [12]), ([], []), ([13, 14], [13, 14]), ([], []), ([16], [16]), ([17], [17]), ([], []), ([18, 19], [18, 19]), ([15, 20], [15, 20]), ([], []), ([21, 22, 11], [21, 22]), ([], []), ([24], [24]), ([], []), ([25, 26], [25, 26]), ([], []), ([28], [28]), ([29], [29]), ([], []), ([30, 31], [30, 31]), ([27, 32], [27, 32]), ([], []), ([33, 34, 23], [33, 34]), ([11, 23, 35], [11, 23, 35]), ([36, 35], [36]), ([37, 37, 0, 1, 2, 3, 4, 5, 6, 7, 8, 9, 10, 11, 12, 13, 14, 15, 16, 17, 18, 19, 20, 21, 22, 23, 24, 25, 26, 27, 28, 29, 30, 31, 32, 33, 34, 35, 36, 37], [37])])
def relievoref19_Reflect.B5 : List Nat := [0, 1, 0, 7, 0, 16, 48, 0, 240, 511, 0, 2047, 0, 4096, 0, 28672, 0, 65536, 196608, 0, 983040, 2093056, 0, 8388607, 0, 16777216, 0, 117440512, 0, 268435456, 805306368, 0, 4026531840, 8573157376, 0, 34359738367, 68719476735, 137438953471, 274877906943]
theorem relievoref19_Reflect.tab5 : rtab .any (opsOf Try.f23 5) = relievoref19_Reflect.T5 := by kernel_rfl
theorem relievoref19_Reflect.bits5 : waitsOk relievoref19_Reflect.T5.2 relievoref19_Reflect.B5 = true := by kernel_rfl
set_option maxHeartbeats 8000000 in
set_option maxRecDepth 100000 in
theorem relievoref19_Reflect.calls (k : Nat) (a0_0 : Int) (a0_1 : Int) (a0_2 : Int) (a1_0 : Int) (a1_1 : Int) (a1_2 : Int) (r1 : Int) (r2 : Int) (r3 : Int) (w : World) (h : relievoref19_Reflect.f k a0_0 a0_1 a0_2 a1_0 a1_1 a1_2 = some (r1, r2, r3)) :
    Calls Try.prog 23 #[.agg #[.int .i64 a0_0, .int .i64 a0_1, .int .i64 a0_2], .agg #[.int .i64 a1_0, .int .i64 a1_1, .int .i64 a1_2]] w fun e w' => e = .returned (.agg #[.int .i64 r1, .int .i64 r2, .int .i64 r3]) ∧ Below w.heap.size w w' := by
 have hu26 := Try.underlying26
 have HB := Aside0.mk (Below.refl w.heap.size w)
 have H : ((relievoref19_fine.f a0_0 a0_1 a0_2 a1_0 a1_1 a1_2).bind fun t336 => (if t336 = true then ((relievoref02_Dot.f a1_0 a1_1 a1_2 a1_0 a1_1 a1_2).bind fun t337 => ((relievoref02_Dot.f a0_0 a0_1 a0_2 a1_0 a1_1 a1_2).bind fun t338 => ((relievoref19_Floor.f (wrap64 ((wrap64 (a0_0 * t337)) - (wrap64 ((wrap64 (2 * a1_0)) * t338)))) t337).bind fun t339 => ((relievoref19_Floor.f (wrap64 ((wrap64 (a0_1 * t337)) - (wrap64 ((wrap64 (2 * a1_1)) * t338)))) t337).bind fun t340 => ((relievoref19_Floor.f (wrap64 ((wrap64 (a0_2 * t337)) - (wrap64 ((wrap64 (2 * a1_2)) * t338)))) t337).bind fun t341 => ((relievoref02_Cut.f k t339 t340 t341 32768).bind fun bt342 => (some (bt342.1, bt342.2.1, bt342.2.2)))))))) else (some (0, 0, 0)))) = some (r1, r2, r3) := h
 clear h
 replace H := Option.bind_eq_some_iff.mp H
 obtain ⟨t336, A30, H⟩ := H
 replace H : (if t336 = true then ((relievoref02_Dot.f a1_0 a1_1 a1_2 a1_0 a1_1 a1_2).bind fun t337 => ((relievoref02_Dot.f a0_0 a0_1 a0_2 a1_0 a1_1 a1_2).bind fun t338 => ((relievoref19_Floor.f (wrap64 ((wrap64 (a0_0 * t337)) - (wrap64 ((wrap64 (2 * a1_0)) * t338)))) t337).bind fun t339 => ((relievoref19_Floor.f (wrap64 ((wrap64 (a0_1 * t337)) - (wrap64 ((wrap64 (2 * a1_1)) * t338)))) t337).bind fun t340 => ((relievoref19_Floor.f (wrap64 ((wrap64 (a0_2 * t337)) - (wrap64 ((wrap64 (2 * a1_2)) * t338)))) t337).bind fun t341 => ((relievoref02_Cut.f k t339 t340 t341 32768).bind fun bt342 => (some (bt342.1, bt342.2.1, bt342.2.2)))))))) else (some (0, 0, 0))) = some (r1, r2, r3) := H
 have A3 := Aside0.mk A30
 clear A30
 by_cases c4 : t336 = true
 ·subst c4
  have H1 : ((relievoref02_Dot.f a1_0 a1_1 a1_2 a1_0 a1_1 a1_2).bind fun t337 => ((relievoref02_Dot.f a0_0 a0_1 a0_2 a1_0 a1_1 a1_2).bind fun t338 => ((relievoref19_Floor.f (wrap64 ((wrap64 (a0_0 * t337)) - (wrap64 ((wrap64 (2 * a1_0)) * t338)))) t337).bind fun t339 => ((relievoref19_Floor.f (wrap64 ((wrap64 (a0_1 * t337)) - (wrap64 ((wrap64 (2 * a1_1)) * t338)))) t337).bind fun t340 => ((relievoref19_Floor.f (wrap64 ((wrap64 (a0_2 * t337)) - (wrap64 ((wrap64 (2 * a1_2)) * t338)))) t337).bind fun t341 => ((relievoref02_Cut.f k t339 t340 t341 32768).bind fun bt342 => (some (bt342.1, bt342.2.1, bt342.2.2)))))))) = some (r1, r2, r3) := by rw [if_pos rfl] at H; exact H
  clear H
  have H := H1
  clear H1
  replace H := Option.bind_eq_some_iff.mp H
  obtain ⟨t337, A50, H⟩ := H
  replace H : ((relievoref02_Dot.f a0_0 a0_1 a0_2 a1_0 a1_1 a1_2).bind fun t338 => ((relievoref19_Floor.f (wrap64 ((wrap64 (a0_0 * t337)) - (wrap64 ((wrap64 (2 * a1_0)) * t338)))) t337).bind fun t339 => ((relievoref19_Floor.f (wrap64 ((wrap64 (a0_1 * t337)) - (wrap64 ((wrap64 (2 * a1_1)) * t338)))) t337).bind fun t340 => ((relievoref19_Floor.f (wrap64 ((wrap64 (a0_2 * t337)) - (wrap64 ((wrap64 (2 * a1_2)) * t338)))) t337).bind fun t341 => ((relievoref02_Cut.f k t339 t340 t341 32768).bind fun bt342 => (some (bt342.1, bt342.2.1, bt342.2.2))))))) = some (r1, r2, r3) := H
  have A5 := Aside0.mk A50
  clear A50
  replace H := Option.bind_eq_some_iff.mp H
  obtain ⟨t338, A60, H⟩ := H
  replace H : ((relievoref19_Floor.f (wrap64 ((wrap64 (a0_0 * t337)) - (wrap64 ((wrap64 (2 * a1_0)) * t338)))) t337).bind fun t339 => ((relievoref19_Floor.f (wrap64 ((wrap64 (a0_1 * t337)) - (wrap64 ((wrap64 (2 * a1_1)) * t338)))) t337).bind fun t340 => ((relievoref19_Floor.f (wrap64 ((wrap64 (a0_2 * t337)) - (wrap64 ((wrap64 (2 * a1_2)) * t338)))) t337).bind fun t341 => ((relievoref02_Cut.f k t339 t340 t341 32768).bind fun bt342 => (some (bt342.1, bt342.2.1, bt342.2.2)))))) = some (r1, r2, r3) := H
  have A6 := Aside0.mk A60
  clear A60
  replace H := Option.bind_eq_some_iff.mp H
  obtain ⟨t339, A70, H⟩ := H
  replace H : ((relievoref19_Floor.f (wrap64 ((wrap64 (a0_1 * t337)) - (wrap64 ((wrap64 (2 * a1_1)) * t338)))) t337).bind fun t340 => ((relievoref19_Floor.f (wrap64 ((wrap64 (a0_2 * t337)) - (wrap64 ((wrap64 (2 * a1_2)) * t338)))) t337).bind fun t341 => ((relievoref02_Cut.f k t339 t340 t341 32768).bind fun bt342 => (some (bt342.1, bt342.2.1, bt342.2.2))))) = some (r1, r2, r3) := H
  have A7 := Aside0.mk A70
  clear A70
  replace H := Option.bind_eq_some_iff.mp H
  obtain ⟨t340, A80, H⟩ := H
  replace H : ((relievoref19_Floor.f (wrap64 ((wrap64 (a0_2 * t337)) - (wrap64 ((wrap64 (2 * a1_2)) * t338)))) t337).bind fun t341 => ((relievoref02_Cut.f k t339 t340 t341 32768).bind fun bt342 => (some (bt342.1, bt342.2.1, bt342.2.2)))) = some (r1, r2, r3) := H
  have A8 := Aside0.mk A80
  clear A80
  replace H := Option.bind_eq_some_iff.mp H
  obtain ⟨t341, A90, H⟩ := H
  replace H : ((relievoref02_Cut.f k t339 t340 t341 32768).bind fun bt342 => (some (bt342.1, bt342.2.1, bt342.2.2))) = some (r1, r2, r3) := H
  have A9 := Aside0.mk A90
  clear A90
  replace H := Option.bind_eq_some_iff.mp H
  obtain ⟨⟨t342, t343, t344⟩, A100, H⟩ := H
  replace H : (some (t342, t343, t344)) = some (r1, r2, r3) := H
  have A10 := Aside0.mk A100
  clear A100
  simp only [Option.some.injEq, Prod.mk.injEq] at H
  obtain ⟨rfl, rfl, rfl⟩ := H
  go_enter Try.func23, Try.ntmps23
  try go_wp2_with (first | ((with_reducible refine gate_dst (N := 2) rfl ?_); refine box_event ?hg (N := 2) ?hd (cs := #[.int .i64 a0_0, .int .i64 a0_1, .int .i64 a0_2]) (t := 26) ?hr ?_; (case hd => rfl); (case hg => rfl); (case hr => first | (go_simp; done) | (go_simp; rfl)); intro gb333 hg w11 hbox hb; have BK333 := Aside0.mk (hbox); have GE333 := Aside0.mk (bG hg (by first | exact HB.out | (repeat (first | exact HB.out | apply pw_below_drewN | apply below_drew1 | apply below_alloc)))); replace HB := Aside0.mk (below_step (by first | exact HB.out | (repeat (first | exact HB.out | apply pw_below_drewN | apply below_drew1 | apply below_alloc))) hb); clear hb hbox hg) | ((with_reducible refine gate_dst (N := 3) rfl ?_); refine box_event ?hg (N := 3) ?hd (cs := #[.int .i64 a1_0, .int .i64 a1_1, .int .i64 a1_2]) (t := 26) ?hr ?_; (case hd => rfl); (case hg => rfl); (case hr => first | (go_simp; done) | (go_simp; rfl)); intro gb334 hg w12 hbox hb; have BK334 := Aside0.mk (hbox); have GE334 := Aside0.mk (bG hg (by first | exact HB.out | (repeat (first | exact HB.out | apply pw_below_drewN | apply below_drew1 | apply below_alloc)))); have NB333_334 := cN hg BK333; have NB334_333 := cM hg BK333; replace BK333 := cB hb BK333; replace HB := Aside0.mk (below_step (by first | exact HB.out | (repeat (first | exact HB.out | apply pw_below_drewN | apply below_drew1 | apply below_alloc))) hb); clear hb hbox hg) | ((with_reducible refine gate_dst (N := 4) rfl ?_); refine box_event ?hg (N := 4) ?hd (cs := #[.int .i64 0, .int .i64 0, .int .i64 0]) (t := 26) ?hr ?_; (case hd => rfl); (case hg => rfl); (case hr => first | (go_simp; done) | (go_simp; rfl)); intro gb335 hg w13 hbox hb; have BK335 := Aside0.mk (hbox); have GE335 := Aside0.mk (bG hg (by first | exact HB.out | (repeat (first | exact HB.out | apply pw_below_drewN | apply below_drew1 | apply below_alloc)))); have NB333_335 := cN hg BK333; have NB335_333 := cM hg BK333; have NB334_335 := cN hg BK334; have NB335_334 := cM hg BK334; replace BK333 := cB hb BK333; replace BK334 := cB hb BK334; replace HB := Aside0.mk (below_step (by first | exact HB.out | (repeat (first | exact HB.out | apply pw_below_drewN | apply below_drew1 | apply below_alloc))) hb); clear hb hbox hg; have hnb14 := NB333_335.out; have hnc14 := NB335_333.out; obtain ⟨hcz15_0, hcz15_1, hcz15_2⟩ := cells3 BK333.out; have hnb16 := NB334_335.out; have hnc16 := NB335_334.out; obtain ⟨hcz17_0, hcz17_1, hcz17_2⟩ := cells3 BK334.out) | ((with_reducible refine gate_callee (f := 35) rfl ?_); refine goesL_ (some 9) rfl rfl Try.func35 (by kernel_rfl) rfl #[.agg #[.int .i64 a0_0, .int .i64 a0_1, .int .i64 a0_2], .agg #[.int .i64 a1_0, .int .i64 a1_1, .int .i64 a1_2]] rfl (by (try simp only [List.map_toArray, List.map_cons, List.map_nil]); first | done | rfl | (simp only [List.length_drop, List.length_take]; rfl)) ?_; (with_reducible refine (relievoref19_fine.calls a0_0 a0_1 a0_2 a1_0 a1_1 a1_2 true _ A3.out).mono ?_); rintro e w18 ⟨rfl, hb⟩; refine ⟨_, rfl, ?_⟩; replace BK333 := cB hb BK333; replace BK334 := cB hb BK334; replace BK335 := cB hb BK335; replace HB := Aside0.mk (below_step (by first | exact HB.out | (repeat (first | exact HB.out | apply pw_below_drewN | apply below_drew1 | apply below_alloc))) hb); (try clear hb); (try clear hb2); (try clear hk); (try clear hi); obtain ⟨hcz19_0, hcz19_1, hcz19_2⟩ := cells3 BK334.out) | ((with_reducible refine gate_callee (f := 36) rfl ?_); refine goesL_ (some 14) rfl rfl Try.func36 (by kernel_rfl) rfl #[.agg #[.int .i64 a1_0, .int .i64 a1_1, .int .i64 a1_2], .agg #[.int .i64 a1_0, .int .i64 a1_1, .int .i64 a1_2]] rfl (by (try simp only [List.map_toArray, List.map_cons, List.map_nil]); first | done | rfl | (simp only [List.length_drop, List.length_take]; rfl)) ?_; (with_reducible refine (relievoref02_Dot.calls a1_0 a1_1 a1_2 a1_0 a1_1 a1_2 t337 _ A5.out).mono ?_); rintro e w20 ⟨rfl, hb⟩; refine ⟨_, rfl, ?_⟩; replace BK333 := cB hb BK333; replace BK334 := cB hb BK334; replace BK335 := cB hb BK335; replace HB := Aside0.mk (below_step (by first | exact HB.out | (repeat (first | exact HB.out | apply pw_below_drewN | apply below_drew1 | apply below_alloc))) hb); (try clear hb); (try clear hb2); (try clear hk); (try clear hi); obtain ⟨hcz21_0, hcz21_1, hcz21_2⟩ := cells3 BK333.out; obtain ⟨hcz22_0, hcz22_1, hcz22_2⟩ := cells3 BK334.out) | ((with_reducible refine gate_callee (f := 36) rfl ?_); refine goesL_ (some 17) rfl rfl Try.func36 (by kernel_rfl) rfl #[.agg #[.int .i64 a0_0, .int .i64 a0_1, .int .i64 a0_2], .agg #[.int .i64 a1_0, .int .i64 a1_1, .int .i64 a1_2]] rfl (by (try simp only [List.map_toArray, List.map_cons, List.map_nil]); first | done | rfl | (simp only [List.length_drop, List.length_take]; rfl)) ?_; (with_reducible refine (relievoref02_Dot.calls a0_0 a0_1 a0_2 a1_0 a1_1 a1_2 t338 _ A6.out).mono ?_); rintro e w23 ⟨rfl, hb⟩; refine ⟨_, rfl, ?_⟩; replace BK333 := cB hb BK333; replace BK334 := cB hb BK334; replace BK335 := cB hb BK335; replace HB := Aside0.mk (below_step (by first | exact HB.out | (repeat (first | exact HB.out | apply pw_below_drewN | apply below_drew1 | apply below_alloc))) hb); (try clear hb); (try clear hb2); (try clear hk); (try clear hi)))
  replace BK333 := Aside0.mk (blk_drew BK333.out)
  replace BK334 := Aside0.mk (blk_drew BK334.out)
  replace BK335 := Aside0.mk (blk_drew BK335.out)
  replace HB := Aside0.mk (below_drew1 HB.out)
  refine start_ (n := 39) (S := fun w' => w'.cell? ⟨gb333, 0, none⟩ = some (.int .i64 a0_0) ∧ w'.cell? ⟨gb333, 1, none⟩ = some (.int .i64 a0_1) ∧ w'.cell? ⟨gb333, 2, none⟩ = some (.int .i64 a0_2) ∧ w'.cell? ⟨gb334, 0, none⟩ = some (.int .i64 a1_0) ∧ w'.cell? ⟨gb334, 1, none⟩ = some (.int .i64 a1_1) ∧ w'.cell? ⟨gb334, 2, none⟩ = some (.int .i64 a1_2)) (ds := []) #[false, false, false, false, false, false, false, false, false, false, false, false, false, false, false, false, false, false, false, false, false, false, false, false, false, false, false, false, false, false, false, false, false, false, false, false, false, false, false] (by kernel_rfl) rfl rfl ⟨(blk_cell BK333.out 0).trans rfl, (blk_cell BK333.out 1).trans rfl, (blk_cell BK333.out 2).trans rfl, (blk_cell BK334.out 0).trans rfl, (blk_cell BK334.out 1).trans rfl, (blk_cell BK334.out 2).trans rfl⟩ (fun hHeld => ?_); refine with_tabW relievoref19_Reflect.tab5 relievoref19_Reflect.bits5 (fun HT_ HW_ => ?_)
  generalize w23.drew = w24 at BK333 BK334 BK335 HB hHeld ⊢
  refine pure_ (i := 0) (N := some 18) (v := ?_) (a' := ?_) (bm 39 1) rfl rfl (any_of HT_.out (by kernel_rfl)) (fun _ _ _ h => h) (Or.inl ⟨by rfl, ?_⟩) ?_ ?_
  rotate_left
  ·intro w'
   go_simp
   with_reducible rfl
  rotate_left
  ·simp only [Act.put, List.setIfInBounds_toArray, List.set_cons_zero, List.set_cons_succ, i64_w, i32_w]
   rfl
  refine pure_ (i := 2) (N := some 20) (v := ?_) (a' := ?_) (bm 39 5) rfl rfl (any_of HT_.out (by kernel_rfl)) (fun _ _ _ h => h) (Or.inl ⟨by rfl, ?_⟩) ?_ ?_
  rotate_left
  ·intro w'
   go_simp
   with_reducible rfl
  rotate_left
  ·simp only [Act.put, List.setIfInBounds_toArray, List.set_cons_zero, List.set_cons_succ, i64_w, i32_w]
   rfl
  refine pure_ (i := 4) (N := some 22) (v := ?_) (a' := ?_) (bm 39 21) rfl rfl (any_of HT_.out (by kernel_rfl)) (fun _ _ _ h => h) (Or.inl ⟨by rfl, ?_⟩) ?_ ?_
  rotate_left
  ·intro w'
   go_simp
   with_reducible rfl
  rotate_left
  ·simp only [Act.put, List.setIfInBounds_toArray, List.set_cons_zero, List.set_cons_succ, i64_w, i32_w]
   rfl
  refine pure_ (i := 7) (N := some 25) (v := ?_) (a' := ?_) (bm 39 149) rfl rfl (any_of HT_.out (by kernel_rfl)) (fun _ _ _ h => h) (Or.inl ⟨by rfl, ?_⟩) ?_ ?_
  rotate_left
  ·intro w'
   go_simp
   with_reducible rfl
  rotate_left
  ·simp only [Act.put, List.setIfInBounds_toArray, List.set_cons_zero, List.set_cons_succ, i64_w, i32_w]
   rfl
  refine pure_ (i := 10) (N := some 28) (v := ?_) (a' := ?_) (bm 39 1173) rfl rfl (any_of HT_.out (by kernel_rfl)) (fun _ _ _ h => h) (Or.inl ⟨by rfl, ?_⟩) ?_ ?_
  rotate_left
  ·intro w'
   go_simp
   with_reducible rfl
  rotate_left
  ·simp only [Act.put, List.setIfInBounds_toArray, List.set_cons_zero, List.set_cons_succ, i64_w, i32_w]
   rfl
  refine pure_ (i := 12) (N := some 30) (v := ?_) (a' := ?_) (bm 39 5269) rfl rfl (any_of HT_.out (by kernel_rfl)) (fun _ _ _ h => h) (Or.inl ⟨by rfl, ?_⟩) ?_ ?_
  rotate_left
  ·intro w'
   go_simp
   with_reducible rfl
  rotate_left
  ·simp only [Act.put, List.setIfInBounds_toArray, List.set_cons_zero, List.set_cons_succ, i64_w, i32_w]
   rfl
  refine pure_ (i := 14) (N := some 32) (v := ?_) (a' := ?_) (bm 39 21653) rfl rfl (any_of HT_.out (by kernel_rfl)) (fun _ _ _ h => h) (Or.inl ⟨by rfl, ?_⟩) ?_ ?_
  rotate_left
  ·intro w'
   go_simp
   with_reducible rfl
  rotate_left
  ·simp only [Act.put, List.setIfInBounds_toArray, List.set_cons_zero, List.set_cons_succ, i64_w, i32_w]
   rfl
  refine pure_ (i := 16) (N := some 34) (v := ?_) (a' := ?_) (bm 39 87189) rfl rfl (any_of HT_.out (by kernel_rfl)) (fun _ _ _ h => h) (Or.inl ⟨by rfl, ?_⟩) ?_ ?_
  rotate_left
  ·intro w'
   go_simp
   with_reducible rfl
  rotate_left
  ·simp only [Act.put, List.setIfInBounds_toArray, List.set_cons_zero, List.set_cons_succ, i64_w, i32_w]
   rfl
  refine pure_ (i := 19) (N := some 37) (v := ?_) (a' := ?_) (bm 39 611477) rfl rfl (any_of HT_.out (by kernel_rfl)) (fun _ _ _ h => h) (Or.inl ⟨by rfl, ?_⟩) ?_ ?_
  rotate_left
  ·intro w'
   go_simp
   with_reducible rfl
  rotate_left
  ·simp only [Act.put, List.setIfInBounds_toArray, List.set_cons_zero, List.set_cons_succ, i64_w, i32_w]
   rfl
  refine pure_ (i := 22) (N := some 40) (v := ?_) (a' := ?_) (bm 39 4805781) rfl rfl (any_of HT_.out (by kernel_rfl)) (fun _ _ _ h => h) (Or.inl ⟨by rfl, ?_⟩) ?_ ?_
  rotate_left
  ·intro w'
   go_simp
   with_reducible rfl
  rotate_left
  ·simp only [Act.put, List.setIfInBounds_toArray, List.set_cons_zero, List.set_cons_succ, i64_w, i32_w]
   rfl
  refine pure_ (i := 24) (N := some 42) (v := ?_) (a' := ?_) (bm 39 21582997) rfl rfl (any_of HT_.out (by kernel_rfl)) (fun _ _ _ h => h) (Or.inl ⟨by rfl, ?_⟩) ?_ ?_
  rotate_left
  ·intro w'
   go_simp
   with_reducible rfl
  rotate_left
  ·simp only [Act.put, List.setIfInBounds_toArray, List.set_cons_zero, List.set_cons_succ, i64_w, i32_w]
   rfl
  refine pure_ (i := 26) (N := some 44) (v := ?_) (a' := ?_) (bm 39 88691861) rfl rfl (any_of HT_.out (by kernel_rfl)) (fun _ _ _ h => h) (Or.inl ⟨by rfl, ?_⟩) ?_ ?_
  rotate_left
  ·intro w'
   go_simp
   with_reducible rfl
  rotate_left
  ·simp only [Act.put, List.setIfInBounds_toArray, List.set_cons_zero, List.set_cons_succ, i64_w, i32_w]
   rfl
  refine pure_ (i := 28) (N := some 46) (v := ?_) (a' := ?_) (bm 39 357127317) rfl rfl (any_of HT_.out (by kernel_rfl)) (fun _ _ _ h => h) (Or.inl ⟨by rfl, ?_⟩) ?_ ?_
  rotate_left
  ·intro w'
   go_simp
   with_reducible rfl
  rotate_left
  ·simp only [Act.put, List.setIfInBounds_toArray, List.set_cons_zero, List.set_cons_succ, i64_w, i32_w]
   rfl
  refine pure_ (i := 31) (N := some 49) (v := ?_) (a' := ?_) (bm 39 2504610965) rfl rfl (any_of HT_.out (by kernel_rfl)) (fun _ _ _ h => h) (Or.inl ⟨by rfl, ?_⟩) ?_ ?_
  rotate_left
  ·intro w'
   go_simp
   with_reducible rfl
  rotate_left
  ·simp only [Act.put, List.setIfInBounds_toArray, List.set_cons_zero, List.set_cons_succ, i64_w, i32_w]
   rfl
  refine pure_ (i := 34) (N := some 52) (v := ?_) (a' := ?_) (bm 39 19684480149) rfl rfl (any_of HT_.out (by kernel_rfl)) (fun _ _ _ h => h) (Or.inl ⟨by rfl, ?_⟩) ?_ ?_
  rotate_left
  ·intro w'
   go_simp
   with_reducible rfl
  rotate_left
  ·simp only [Act.put, List.setIfInBounds_toArray, List.set_cons_zero, List.set_cons_succ, i64_w, i32_w]
   rfl
  refine take_ (i := 1) (N := some 19) (v := ?_) (a' := ?_) (bm 39 19684480151) rfl rfl (take_ofW HT_.out HW_.out (by kernel_rfl)) (fun _ _ _ h => h) (Or.inl ⟨by rfl, ?_⟩) hHeld ?_ ?_
  rotate_left
  ·rintro w' ⟨s0, s1, s2, s3, s4, s5⟩
   go_simp
   with_reducible rfl
  rotate_left
  ·simp only [Act.put, List.setIfInBounds_toArray, List.set_cons_zero, List.set_cons_succ, i64_w, i32_w]
   rfl
  refine pure_ (i := 3) (N := some 21) (v := ?_) (a' := ?_) (bm 39 19684480159) rfl rfl (any_of HT_.out (by kernel_rfl)) (fun _ _ _ h => h) (Or.inl ⟨by rfl, ?_⟩) ?_ ?_
  rotate_left
  ·intro w'
   go_simp
   with_reducible rfl
  rotate_left
  ·simp only [Act.put, List.setIfInBounds_toArray, List.set_cons_zero, List.set_cons_succ, i64_w, i32_w]
   rfl
  refine take_ (i := 5) (N := some 23) (v := ?_) (a' := ?_) (bm 39 19684480191) rfl rfl (take_ofW HT_.out HW_.out (by kernel_rfl)) (fun _ _ _ h => h) (Or.inl ⟨by rfl, ?_⟩) hHeld ?_ ?_
  rotate_left
  ·rintro w' ⟨s0, s1, s2, s3, s4, s5⟩
   go_simp
   with_reducible rfl
  rotate_left
  ·simp only [Act.put, List.setIfInBounds_toArray, List.set_cons_zero, List.set_cons_succ, i64_w, i32_w]
   rfl
  refine pure_ (i := 6) (N := some 24) (v := ?_) (a' := ?_) (bm 39 19684480255) rfl rfl (any_of HT_.out (by kernel_rfl)) (fun _ _ _ h => h) (Or.inl ⟨by rfl, ?_⟩) ?_ ?_
  rotate_left
  ·intro w'
   go_simp
   with_reducible rfl
  rotate_left
  ·simp only [Act.put, List.setIfInBounds_toArray, List.set_cons_zero, List.set_cons_succ, i64_w, i32_w]
   rfl
  refine pure_ (i := 8) (N := some 26) (v := ?_) (a' := ?_) (bm 39 19684480511) rfl rfl (any_of HT_.out (by kernel_rfl)) (fun _ _ _ h => h) (Or.inl ⟨by rfl, ?_⟩) ?_ ?_
  rotate_left
  ·intro w'
   go_simp
   with_reducible rfl
  rotate_left
  ·simp only [Act.put, List.setIfInBounds_toArray, List.set_cons_zero, List.set_cons_succ, i64_w, i32_w]
   rfl
  refine pure_ (i := 9) (N := some 27) (v := ?_) (a' := ?_) (bm 39 19684481023) rfl rfl (any_of HT_.out (by kernel_rfl)) (fun _ _ _ h => h) (Or.inl ⟨by rfl, ?_⟩) ?_ ?_
  rotate_left
  ·intro w'
   go_simp
   with_reducible rfl
  rotate_left
  ·simp only [Act.put, List.setIfInBounds_toArray, List.set_cons_zero, List.set_cons_succ, i64_w, i32_w]
   rfl
  refine take_ (i := 13) (N := some 31) (v := ?_) (a' := ?_) (bm 39 19684489215) rfl rfl (take_ofW HT_.out HW_.out (by kernel_rfl)) (fun _ _ _ h => h) (Or.inl ⟨by rfl, ?_⟩) hHeld ?_ ?_
  rotate_left
  ·rintro w' ⟨s0, s1, s2, s3, s4, s5⟩
   go_simp
   with_reducible rfl
  rotate_left
  ·simp only [Act.put, List.setIfInBounds_toArray, List.set_cons_zero, List.set_cons_succ, i64_w, i32_w]
   rfl
  refine pure_ (i := 15) (N := some 33) (v := ?_) (a' := ?_) (bm 39 19684521983) rfl rfl (any_of HT_.out (by kernel_rfl)) (fun _ _ _ h => h) (Or.inl ⟨by rfl, ?_⟩) ?_ ?_
  rotate_left
  ·intro w'
   go_simp
   with_reducible rfl
  rotate_left
  ·simp only [Act.put, List.setIfInBounds_toArray, List.set_cons_zero, List.set_cons_succ, i64_w, i32_w]
   rfl
  refine take_ (i := 17) (N := some 35) (v := ?_) (a' := ?_) (bm 39 19684653055) rfl rfl (take_ofW HT_.out HW_.out (by kernel_rfl)) (fun _ _ _ h => h) (Or.inl ⟨by rfl, ?_⟩) hHeld ?_ ?_
  rotate_left
  ·rintro w' ⟨s0, s1, s2, s3, s4, s5⟩
   go_simp
   with_reducible rfl
  rotate_left
  ·simp only [Act.put, List.setIfInBounds_toArray, List.set_cons_zero, List.set_cons_succ, i64_w, i32_w]
   rfl
  refine pure_ (i := 18) (N := some 36) (v := ?_) (a' := ?_) (bm 39 19684915199) rfl rfl (any_of HT_.out (by kernel_rfl)) (fun _ _ _ h => h) (Or.inl ⟨by rfl, ?_⟩) ?_ ?_
  rotate_left
  ·intro w'
   go_simp
   with_reducible rfl
  rotate_left
  ·simp only [Act.put, List.setIfInBounds_toArray, List.set_cons_zero, List.set_cons_succ, i64_w, i32_w]
   rfl
  refine pure_ (i := 20) (N := some 38) (v := ?_) (a' := ?_) (bm 39 19685963775) rfl rfl (any_of HT_.out (by kernel_rfl)) (fun _ _ _ h => h) (Or.inl ⟨by rfl, ?_⟩) ?_ ?_
  rotate_left
  ·intro w'
   go_simp
   with_reducible rfl
  rotate_left
  ·simp only [Act.put, List.setIfInBounds_toArray, List.set_cons_zero, List.set_cons_succ, i64_w, i32_w]
   rfl
  refine pure_ (i := 21) (N := some 39) (v := ?_) (a' := ?_) (bm 39 19688060927) rfl rfl (any_of HT_.out (by kernel_rfl)) (fun _ _ _ h => h) (Or.inl ⟨by rfl, ?_⟩) ?_ ?_
  rotate_left
  ·intro w'
   go_simp
   with_reducible rfl
  rotate_left
  ·simp only [Act.put, List.setIfInBounds_toArray, List.set_cons_zero, List.set_cons_succ, i64_w, i32_w]
   rfl
  refine take_ (i := 25) (N := some 43) (v := ?_) (a' := ?_) (bm 39 19721615359) rfl rfl (take_ofW HT_.out HW_.out (by kernel_rfl)) (fun _ _ _ h => h) (Or.inl ⟨by rfl, ?_⟩) hHeld ?_ ?_
  rotate_left
  ·rintro w' ⟨s0, s1, s2, s3, s4, s5⟩
   go_simp
   with_reducible rfl
  rotate_left
  ·simp only [Act.put, List.setIfInBounds_toArray, List.set_cons_zero, List.set_cons_succ, i64_w, i32_w]
   rfl
  refine pure_ (i := 27) (N := some 45) (v := ?_) (a' := ?_) (bm 39 19855833087) rfl rfl (any_of HT_.out (by kernel_rfl)) (fun _ _ _ h => h) (Or.inl ⟨by rfl, ?_⟩) ?_ ?_
  rotate_left
  ·intro w'
   go_simp
   with_reducible rfl
  rotate_left
  ·simp only [Act.put, List.setIfInBounds_toArray, List.set_cons_zero, List.set_cons_succ, i64_w, i32_w]
   rfl
  refine take_ (i := 29) (N := some 47) (v := ?_) (a' := ?_) (bm 39 20392703999) rfl rfl (take_ofW HT_.out HW_.out (by kernel_rfl)) (fun _ _ _ h => h) (Or.inl ⟨by rfl, ?_⟩) hHeld ?_ ?_
  rotate_left
  ·rintro w' ⟨s0, s1, s2, s3, s4, s5⟩
   go_simp
   with_reducible rfl
  rotate_left
  ·simp only [Act.put, List.setIfInBounds_toArray, List.set_cons_zero, List.set_cons_succ, i64_w, i32_w]
   rfl
  refine pure_ (i := 30) (N := some 48) (v := ?_) (a' := ?_) (bm 39 21466445823) rfl rfl (any_of HT_.out (by kernel_rfl)) (fun _ _ _ h => h) (Or.inl ⟨by rfl, ?_⟩) ?_ ?_
  rotate_left
  ·intro w'
   go_simp
   with_reducible rfl
  rotate_left
  ·simp only [Act.put, List.setIfInBounds_toArray, List.set_cons_zero, List.set_cons_succ, i64_w, i32_w]
   rfl
  refine pure_ (i := 32) (N := some 50) (v := ?_) (a' := ?_) (bm 39 25761413119) rfl rfl (any_of HT_.out (by kernel_rfl)) (fun _ _ _ h => h) (Or.inl ⟨by rfl, ?_⟩) ?_ ?_
  rotate_left
  ·intro w'
   go_simp
   with_reducible rfl
  rotate_left
  ·simp only [Act.put, List.setIfInBounds_toArray, List.set_cons_zero, List.set_cons_succ, i64_w, i32_w]
   rfl
  refine pure_ (i := 33) (N := some 51) (v := ?_) (a' := ?_) (bm 39 34351347711) rfl rfl (any_of HT_.out (by kernel_rfl)) (fun _ _ _ h => h) (Or.inl ⟨by rfl, ?_⟩) ?_ ?_
  rotate_left
  ·intro w'
   go_simp
   with_reducible rfl
  rotate_left
  ·simp only [Act.put, List.setIfInBounds_toArray, List.set_cons_zero, List.set_cons_succ, i64_w, i32_w]
   rfl
  refine one_ (i := 11) (N := some 29) (bm 39 34351349759) rfl rfl (one_of HT_.out (by kernel_rfl)) (by decide) (fun K hK => ?_)
  refine goes_ Try.func38 (by kernel_rfl) rfl #[.int .i64 (wrap64 ((wrap64 (a0_0 * t337)) - (wrap64 ((wrap64 (2 * a1_0)) * t338)))), .int .i64 t337] (by rfl) rfl rfl (by (try simp only [List.map_toArray, List.map_cons, List.map_nil]); first | done | rfl | (simp only [List.length_drop, List.length_take]; rfl)) ?_
  with_reducible refine (relievoref19_Floor.calls (wrap64 ((wrap64 (a0_0 * t337)) - (wrap64 ((wrap64 (2 * a1_0)) * t338)))) t337 t339 _ A7.out).mono ?_
  rintro e w' ⟨rfl, ⟨nd, rfl⟩⟩
  refine ⟨_, rfl, ?_⟩
  refine hK.out _ _ ⟨(blk_cell BK333.out 0).trans rfl, (blk_cell BK333.out 1).trans rfl, (blk_cell BK333.out 2).trans rfl, (blk_cell BK334.out 0).trans rfl, (blk_cell BK334.out 1).trans rfl, (blk_cell BK334.out 2).trans rfl⟩ (fun hHeld => ?_)
  clear hK K
  refine norm_ (a' := ?_) ?_ ?_
  rotate_left
  ·show Act.put _ (some 29) _ = _
   simp only [Act.put, List.setIfInBounds_toArray, List.set_cons_zero, List.set_cons_succ, i64_w, i32_w]
   rfl
  refine one_ (i := 23) (N := some 41) (bm 39 34359738367) rfl rfl (one_of HT_.out (by kernel_rfl)) (by decide) (fun K hK => ?_)
  refine goes_ Try.func38 (by kernel_rfl) rfl #[.int .i64 (wrap64 ((wrap64 (a0_1 * t337)) - (wrap64 ((wrap64 (2 * a1_1)) * t338)))), .int .i64 t337] (by rfl) rfl rfl (by (try simp only [List.map_toArray, List.map_cons, List.map_nil]); first | done | rfl | (simp only [List.length_drop, List.length_take]; rfl)) ?_
  with_reducible refine (relievoref19_Floor.calls (wrap64 ((wrap64 (a0_1 * t337)) - (wrap64 ((wrap64 (2 * a1_1)) * t338)))) t337 t340 _ A8.out).mono ?_
  rintro e w' ⟨rfl, ⟨nd, rfl⟩⟩
  refine ⟨_, rfl, ?_⟩
  refine hK.out _ _ ⟨(blk_cell BK333.out 0).trans rfl, (blk_cell BK333.out 1).trans rfl, (blk_cell BK333.out 2).trans rfl, (blk_cell BK334.out 0).trans rfl, (blk_cell BK334.out 1).trans rfl, (blk_cell BK334.out 2).trans rfl⟩ (fun hHeld => ?_)
  clear hK K
  refine norm_ (a' := ?_) ?_ ?_
  rotate_left
  ·show Act.put _ (some 41) _ = _
   simp only [Act.put, List.setIfInBounds_toArray, List.set_cons_zero, List.set_cons_succ, i64_w, i32_w]
   rfl
  refine one_ (i := 35) (N := some 53) (bm 39 68719476735) rfl rfl (one_of HT_.out (by kernel_rfl)) (by decide) (fun K hK => ?_)
  refine goes_ Try.func38 (by kernel_rfl) rfl #[.int .i64 (wrap64 ((wrap64 (a0_2 * t337)) - (wrap64 ((wrap64 (2 * a1_2)) * t338)))), .int .i64 t337] (by rfl) rfl rfl (by (try simp only [List.map_toArray, List.map_cons, List.map_nil]); first | done | rfl | (simp only [List.length_drop, List.length_take]; rfl)) ?_
  with_reducible refine (relievoref19_Floor.calls (wrap64 ((wrap64 (a0_2 * t337)) - (wrap64 ((wrap64 (2 * a1_2)) * t338)))) t337 t341 _ A9.out).mono ?_
  rintro e w' ⟨rfl, ⟨nd, rfl⟩⟩
  refine ⟨_, rfl, ?_⟩
  refine hK.out _ _ ⟨(blk_cell BK333.out 0).trans rfl, (blk_cell BK333.out 1).trans rfl, (blk_cell BK333.out 2).trans rfl, (blk_cell BK334.out 0).trans rfl, (blk_cell BK334.out 1).trans rfl, (blk_cell BK334.out 2).trans rfl⟩ (fun hHeld => ?_)
  clear hK K
  refine norm_ (a' := ?_) ?_ ?_
  rotate_left
  ·show Act.put _ (some 53) _ = _
   simp only [Act.put, List.setIfInBounds_toArray, List.set_cons_zero, List.set_cons_succ, i64_w, i32_w]
   rfl
  refine pure_ (i := 36) (N := some 54) (v := ?_) (a' := ?_) (bm 39 137438953471) rfl rfl (any_of HT_.out (by kernel_rfl)) (fun _ _ _ h => h) (Or.inl ⟨by rfl, ?_⟩) ?_ ?_
  rotate_left
  ·intro w'
   go_simp
   with_reducible rfl
  rotate_left
  ·simp only [Act.put, List.setIfInBounds_toArray, List.set_cons_zero, List.set_cons_succ, i64_w, i32_w]
   rfl
  refine one_ (i := 37) (N := some 55) (bm 39 274877906943) rfl rfl (one_of HT_.out (by kernel_rfl)) (by decide) (fun K hK => ?_)
  refine goes_ Try.func41 (by kernel_rfl) rfl #[.agg #[.int .i64 t339, .int .i64 t340, .int .i64 t341], .int .i64 32768] (by rfl) rfl rfl (by (try simp only [List.map_toArray, List.map_cons, List.map_nil]); first | done | rfl | (simp only [List.length_drop, List.length_take]; rfl)) ?_
  with_reducible refine (relievoref02_Cut.calls k t339 t340 t341 32768 t342 t343 t344 _ A10.out).mono ?_
  rintro e w25 ⟨rfl, hb⟩
  refine ⟨_, rfl, ?_⟩
  replace BK333 := cB hb BK333
  replace BK334 := cB hb BK334
  replace BK335 := cB hb BK335
  replace HB := Aside0.mk (below_step (by first | exact HB.out | (repeat (first | exact HB.out | apply pw_below_drewN | apply below_drew1 | apply below_alloc))) hb)
  (try clear hb)
  (try clear hb2)
  (try clear hk)
  (try clear hi)
  refine hK.out _ _ ⟨(blk_cell BK333.out 0).trans rfl, (blk_cell BK333.out 1).trans rfl, (blk_cell BK333.out 2).trans rfl, (blk_cell BK334.out 0).trans rfl, (blk_cell BK334.out 1).trans rfl, (blk_cell BK334.out 2).trans rfl⟩ (fun hHeld => ?_)
  clear hK K
  refine norm_ (a' := ?_) ?_ ?_
  rotate_left
  ·show Act.put _ (some 55) _ = _
   simp only [Act.put, List.setIfInBounds_toArray, List.set_cons_zero, List.set_cons_succ, i64_w, i32_w]
   rfl
  refine one_ (i := 38) (N := none) (bm 39 549755813887) rfl rfl (one_of HT_.out (by kernel_rfl)) (by decide) (fun K hK => ?_)
  have hs26 : w25.cell? ⟨gb335, 0, none⟩ = some (.int .i64 0) := (blk_cell BK335.out 0).trans rfl
  have hfs26 := blk_frozen BK335.out 0
  have hns26_0 := NB333_335.out
  have hns26_1 := NB334_335.out
  have hms26_0 := NB335_333.out
  have hms26_1 := NB335_334.out
  have hs27 : w25.cell? ⟨gb335, 1, none⟩ = some (.int .i64 0) := (blk_cell BK335.out 1).trans rfl
  have hfs27 := blk_frozen BK335.out 1
  have hns27_0 := NB333_335.out
  have hns27_1 := NB334_335.out
  have hms27_0 := NB335_333.out
  have hms27_1 := NB335_334.out
  have hs28 : w25.cell? ⟨gb335, 2, none⟩ = some (.int .i64 0) := (blk_cell BK335.out 2).trans rfl
  have hfs28 := blk_frozen BK335.out 2
  have hns28_0 := NB333_335.out
  have hns28_1 := NB334_335.out
  have hms28_0 := NB335_333.out
  have hms28_1 := NB335_334.out
  refine skip_ (w1 := ?_) (by rfl) rfl ?_ ?_
  rotate_left
  ·go_simp
   rfl
  refine hK.out _ _ ⟨(cf NB333_335.out (cf NB333_335.out (cf NB333_335.out hHeld.1))), (cf NB333_335.out (cf NB333_335.out (cf NB333_335.out hHeld.2.1))), (cf NB333_335.out (cf NB333_335.out (cf NB333_335.out hHeld.2.2.1))), (cf NB334_335.out (cf NB334_335.out (cf NB334_335.out hHeld.2.2.2.1))), (cf NB334_335.out (cf NB334_335.out (cf NB334_335.out hHeld.2.2.2.2.1))), (cf NB334_335.out (cf NB334_335.out (cf NB334_335.out hHeld.2.2.2.2.2)))⟩ (fun hHeld => ?_)
  clear hK K
  refine done_ (done_of HT_.out (by kernel_rfl)) ?_
  try go_wp2
  refine bodyPost_ret (results_cell_row rfl _ _ gb335 26 #[.int .i64 t342, .int .i64 t343, .int .i64 t344] (0, 0) _ rfl ((blk_put (cs' := #[.int .i64 t342, .int .i64 t343, .int .i64 t344]) (blk_put (blk_put BK335.out 0 _ rfl) 1 _ rfl) 2 _ rfl)) Try.underlying26 rfl (by kernel_rfl)) rfl ?_
  exact ⟨by first | rfl | (simp [errW_none, errW_some] <;> rfl) | (simp [*, errW_none, errW_some] <;> rfl), by first | exact (below_set (below_set (below_set HB.out GE335.out) GE335.out) GE335.out) | (repeat (first | exact (below_set (below_set (below_set HB.out GE335.out) GE335.out) GE335.out) | apply pw_below_drewN | apply below_drew1 | apply below_alloc))⟩
 replace c4 := Bool.eq_false_iff.mpr c4
 subst c4
 have H1 : (some (0, 0, 0)) = some (r1, r2, r3) := by rw [if_neg (show ¬ (false = true) by decide)] at H; exact H
 clear H
 have H := H1
 clear H1
 simp only [Option.some.injEq, Prod.mk.injEq] at H
 obtain ⟨rfl, rfl, rfl⟩ := H
 go_enter Try.func23, Try.ntmps23
 go_wp2_with (first | ((with_reducible refine gate_dst (N := 2) rfl ?_); refine box_event ?hg (N := 2) ?hd (cs := #[.int .i64 a0_0, .int .i64 a0_1, .int .i64 a0_2]) (t := 26) ?hr ?_; (case hd => rfl); (case hg => rfl); (case hr => first | (go_simp; done) | (go_simp; rfl)); intro gb333 hg w29 hbox hb; have BK333 := Aside0.mk (hbox); have GE333 := Aside0.mk (bG hg (by first | exact HB.out | (repeat (first | exact HB.out | apply pw_below_drewN | apply below_drew1 | apply below_alloc)))); replace HB := Aside0.mk (below_step (by first | exact HB.out | (repeat (first | exact HB.out | apply pw_below_drewN | apply below_drew1 | apply below_alloc))) hb); clear hb hbox hg) | ((with_reducible refine gate_dst (N := 3) rfl ?_); refine box_event ?hg (N := 3) ?hd (cs := #[.int .i64 a1_0, .int .i64 a1_1, .int .i64 a1_2]) (t := 26) ?hr ?_; (case hd => rfl); (case hg => rfl); (case hr => first | (go_simp; done) | (go_simp; rfl)); intro gb334 hg w30 hbox hb; have BK334 := Aside0.mk (hbox); have GE334 := Aside0.mk (bG hg (by first | exact HB.out | (repeat (first | exact HB.out | apply pw_below_drewN | apply below_drew1 | apply below_alloc)))); have NB333_334 := cN hg BK333; have NB334_333 := cM hg BK333; replace BK333 := cB hb BK333; replace HB := Aside0.mk (below_step (by first | exact HB.out | (repeat (first | exact HB.out | apply pw_below_drewN | apply below_drew1 | apply below_alloc))) hb); clear hb hbox hg) | ((with_reducible refine gate_dst (N := 4) rfl ?_); refine box_event ?hg (N := 4) ?hd (cs := #[.int .i64 0, .int .i64 0, .int .i64 0]) (t := 26) ?hr ?_; (case hd => rfl); (case hg => rfl); (case hr => first | (go_simp; done) | (go_simp; rfl)); intro gb335 hg w31 hbox hb; have BK335 := Aside0.mk (hbox); have GE335 := Aside0.mk (bG hg (by first | exact HB.out | (repeat (first | exact HB.out | apply pw_below_drewN | apply below_drew1 | apply below_alloc)))); have NB333_335 := cN hg BK333; have NB335_333 := cM hg BK333; have NB334_335 := cN hg BK334; have NB335_334 := cM hg BK334; replace BK333 := cB hb BK333; replace BK334 := cB hb BK334; replace HB := Aside0.mk (below_step (by first | exact HB.out | (repeat (first | exact HB.out | apply pw_below_drewN | apply below_drew1 | apply below_alloc))) hb); clear hb hbox hg; have hnb32 := NB333_335.out; have hnc32 := NB335_333.out; obtain ⟨hcz33_0, hcz33_1, hcz33_2⟩ := cells3 BK333.out; have hnb34 := NB334_335.out; have hnc34 := NB335_334.out; obtain ⟨hcz35_0, hcz35_1, hcz35_2⟩ := cells3 BK334.out) | ((with_reducible refine gate_callee (f := 35) rfl ?_); refine goesL_ (some 9) rfl rfl Try.func35 (by kernel_rfl) rfl #[.agg #[.int .i64 a0_0, .int .i64 a0_1, .int .i64 a0_2], .agg #[.int .i64 a1_0, .int .i64 a1_1, .int .i64 a1_2]] rfl (by (try simp only [List.map_toArray, List.map_cons, List.map_nil]); first | done | rfl | (simp only [List.length_drop, List.length_take]; rfl)) ?_; (with_reducible refine (relievoref19_fine.calls a0_0 a0_1 a0_2 a1_0 a1_1 a1_2 false _ A3.out).mono ?_); rintro e w36 ⟨rfl, hb⟩; refine ⟨_, rfl, ?_⟩; replace BK333 := cB hb BK333; replace BK334 := cB hb BK334; replace BK335 := cB hb BK335; replace HB := Aside0.mk (below_step (by first | exact HB.out | (repeat (first | exact HB.out | apply pw_below_drewN | apply below_drew1 | apply below_alloc))) hb); (try clear hb); (try clear hb2); (try clear hk); (try clear hi); obtain ⟨hcz37_0, hcz37_1, hcz37_2⟩ := cells3 BK335.out; have hfz37_0 := blk_frozen BK335.out 0; have hfz37_1 := blk_frozen BK335.out 1; have hfz37_2 := blk_frozen BK335.out 2))
 refine bodyPost_ret (results_cell_row rfl _ _ gb335 26 #[.int .i64 0, .int .i64 0, .int .i64 0] (0, 0) _ rfl ((blk_put (cs' := #[.int .i64 0, .int .i64 0, .int .i64 0]) (blk_put (blk_put BK335.out 0 _ rfl) 1 _ rfl) 2 _ rfl)) Try.underlying26 rfl (by kernel_rfl)) rfl ?_
 exact ⟨by first | rfl | (simp [errW_none, errW_some] <;> rfl) | (simp [*, errW_none, errW_some] <;> rfl), by first | exact (below_set (below_set (below_set HB.out GE335.out) GE335.out) GE335.out) | (repeat (first | exact (below_set (below_set (below_set HB.out GE335.out) GE335.out) GE335.out) | apply pw_below_drewN | apply below_drew1 | apply below_alloc))⟩

end Go.Proofs.Ytmhnidmbgicgeaa.G
