/- What light.Blend answers. -/
import Derived.Test.YtmhnidmbgicgeaaLitAll
namespace Go.Proofs.Ytmhnidmbgicgeaa.G
open Go.RowKit Go.Proofs.YtmhnidmbgicgeaaW.PrintWords Go.Proofs.YtmhnidmbgicgeaaW.PrintLast Go.Proofs.YtmhnidmbgicgeaaW.PrintMore
attribute [local go_sem] max2_int min2_int max_two min_two max_three min_three max_four min_four
set_option linter.unusedVariables false
set_option linter.unusedSimpArgs false
def blend1.T2 : Bool × List (List Nat × List Nat) := (true, [([], []), ([], []), ([0, 1], [0, 1]), ([], []), ([3], [3]), ([], []), ([4, 5], [4, 5]), ([2, 6], [2, 6]), ([], []), ([], []), ([8, 9, 2], [8, 9]), ([], []), ([10, 11], [10, 11]), ([7, 12], [7, 12]), ([], []), ([], []), ([14, 15, 10], [14, 15]), ([], []), ([16, 17], [16, 17]), ([13, 18], [13, 18]), ([19], [19]), ([20, 16, 0, 1, 2, 3, 4, 5, 6, 7, 8, 9, 10, 11, 12, 13, 14, 15, 16, 17, 18, 19, 20], [20])])
def blend1.B2 : List Nat := [0, 0, 3, 0, 8, 0, 56, 127, 0, 0, 775, 0, 3847, 8191, 0, 0, 50951, 0, 247559, 524287, 1048575, 2097151]
theorem blend1.tab2 : rtab .any (opsOf Try.f43 2) = blend1.T2 := by kernel_rfl
theorem blend1.bits2 : waitsOk blend1.T2.2 blend1.B2 = true := by kernel_rfl
def light_Blend.T4 : Bool × List (List Nat × List Nat) := (true, [([], []), ([], []), ([1], [1]), ([], []), ([3], [3]), ([], []), ([5], [5]), ([0, 2, 4, 6], [0, 2, 4, 6]), ([], []), ([], []), ([9], [9]), ([], []), ([11], [11]), ([], []), ([13], [13]), ([8, 10, 12, 14, 7], [8, 10, 12, 14]), ([], []), ([], []), ([17], [17]), ([], []), ([19], [19]), ([], []), ([21], [21]), ([16, 18, 20, 22, 15], [16, 18, 20, 22]), ([7, 15, 23], [7, 15, 23]), ([24, 23, 0, 1, 2, 3, 4, 5, 6, 7, 8, 9, 10, 11, 12, 13, 14, 15, 16, 17, 18, 19, 20, 21, 22, 23, 24], [24])])
def light_Blend.B4 : List Nat := [0, 0, 2, 0, 8, 0, 32, 127, 0, 0, 512, 0, 2048, 0, 8192, 32767, 0, 0, 131072, 0, 524288, 0, 2097152, 8388607, 16777215, 33554431]
theorem light_Blend.tab4 : rtab .any (opsOf Try.f24 4) = light_Blend.T4 := by kernel_rfl
theorem light_Blend.bits4 : waitsOk light_Blend.T4.2 light_Blend.B4 = true := by kernel_rfl

def cutB (n : Int) : Int := mn (mx n 0) 255
def partB (x y z k l : Int) : Int := wrap64 (wrap64 (wrap64 (cutB x * wrap64 (wrap64 (256 - k) - l)) + wrap64 (cutB y * k)) + wrap64 (cutB z * l)) / 256
theorem cut_calls (n : Int) (w : World) : Calls Try.prog 44 (#[.int .i64 n] ++ #[]) w fun e w' => e = .returned (.int .i64 (cutB n)) ∧ Below w.heap.size w w' := by
 show Calls Try.prog 44 #[.int .i64 n] w _
 have HB := Aside0.mk (Below.refl w.heap.size w)
 unfold cutB
 go_enter Try.func44, Try.ntmps44
 go_wp2
 all_goals
  go_ret
  refine ⟨?_, HB.out⟩
  first
  | rfl
  | (simp only [mn, mx]; (repeat' split) <;> first | rfl | (exfalso; omega) | (congr 1; congr 1; omega))
set_option maxHeartbeats 4000000 in
set_option maxRecDepth 100000 in
theorem blend1.calls (x y z k l : Int) (g3 g4 : Nat) (w : World) (h3 : w.heap[g3]? = some (.cells #[.int .i64 k] 3 (0, 0))) (h4 : w.heap[g4]? = some (.cells #[.int .i64 l] 3 (0, 0))) :
    Calls Try.prog 43 (#[.int .i64 x, .int .i64 y, .int .i64 z] ++ #[.pointer (some ⟨g3, 0, none⟩), .pointer (some ⟨g4, 0, none⟩)]) w fun e w' => e = .returned (.int .i64 (partB x y z k l)) ∧ Below w.heap.size w w' := by
 show Calls Try.prog 43 #[.int .i64 x, .int .i64 y, .int .i64 z, .pointer (some ⟨g3, 0, none⟩), .pointer (some ⟨g4, 0, none⟩)] w _
 have BK3 := Aside0.mk h3
 have BK4 := Aside0.mk h4
 have HB := Aside0.mk (Below.refl w.heap.size w)
 clear h3 h4
 go_enter Try.func43, Try.ntmps43
 go_wp2
 replace BK3 := Aside0.mk (blk_drew BK3.out)
 replace BK4 := Aside0.mk (blk_drew BK4.out)
 replace HB := Aside0.mk (below_drew1 HB.out)
 refine start_ (n := 22) (S := fun w' => w'.cell? ⟨g3, 0, none⟩ = some (.int .i64 k) ∧ w'.cell? ⟨g4, 0, none⟩ = some (.int .i64 l)) (ds := []) #[false, false, false, false, false, false, false, false, false, false, false, false, false, false, false, false, false, false, false, false, false, false] (by kernel_rfl) rfl rfl ⟨(blk_cell BK3.out 0).trans rfl, (blk_cell BK4.out 0).trans rfl⟩ (fun hHeld => ?_); refine with_tabW blend1.tab2 blend1.bits2 (fun HT_ HW_ => ?_)
 generalize w.drew = w5 at BK3 BK4 HB hHeld ⊢
 refine pure_ (i := 0) (N := some 10) (v := ?_) (a' := ?_) (bm 22 1) rfl rfl (any_of HT_.out (by kernel_rfl)) (fun _ _ _ h => h) (Or.inl ⟨by rfl, ?_⟩) ?_ ?_
 rotate_left
 ·intro w'
  go_simp
  with_reducible rfl
 rotate_left
 ·simp only [Act.put, List.setIfInBounds_toArray, List.set_cons_zero, List.set_cons_succ, i64_w, i32_w]
  rfl
 refine pure_ (i := 1) (N := some 11) (v := ?_) (a' := ?_) (bm 22 3) rfl rfl (any_of HT_.out (by kernel_rfl)) (fun _ _ _ h => h) (Or.inl ⟨by rfl, ?_⟩) ?_ ?_
 rotate_left
 ·intro w'
  go_simp
  with_reducible rfl
 rotate_left
 ·simp only [Act.put, List.setIfInBounds_toArray, List.set_cons_zero, List.set_cons_succ, i64_w, i32_w]
  rfl
 refine pure_ (i := 8) (N := some 18) (v := ?_) (a' := ?_) (bm 22 259) rfl rfl (any_of HT_.out (by kernel_rfl)) (fun _ _ _ h => h) (Or.inl ⟨by rfl, ?_⟩) ?_ ?_
 rotate_left
 ·intro w'
  go_simp
  with_reducible rfl
 rotate_left
 ·simp only [Act.put, List.setIfInBounds_toArray, List.set_cons_zero, List.set_cons_succ, i64_w, i32_w]
  rfl
 refine pure_ (i := 9) (N := some 19) (v := ?_) (a' := ?_) (bm 22 771) rfl rfl (any_of HT_.out (by kernel_rfl)) (fun _ _ _ h => h) (Or.inl ⟨by rfl, ?_⟩) ?_ ?_
 rotate_left
 ·intro w'
  go_simp
  with_reducible rfl
 rotate_left
 ·simp only [Act.put, List.setIfInBounds_toArray, List.set_cons_zero, List.set_cons_succ, i64_w, i32_w]
  rfl
 refine pure_ (i := 14) (N := some 24) (v := ?_) (a' := ?_) (bm 22 17155) rfl rfl (any_of HT_.out (by kernel_rfl)) (fun _ _ _ h => h) (Or.inl ⟨by rfl, ?_⟩) ?_ ?_
 rotate_left
 ·intro w'
  go_simp
  with_reducible rfl
 rotate_left
 ·simp only [Act.put, List.setIfInBounds_toArray, List.set_cons_zero, List.set_cons_succ, i64_w, i32_w]
  rfl
 refine pure_ (i := 15) (N := some 25) (v := ?_) (a' := ?_) (bm 22 49923) rfl rfl (any_of HT_.out (by kernel_rfl)) (fun _ _ _ h => h) (Or.inl ⟨by rfl, ?_⟩) ?_ ?_
 rotate_left
 ·intro w'
  go_simp
  with_reducible rfl
 rotate_left
 ·simp only [Act.put, List.setIfInBounds_toArray, List.set_cons_zero, List.set_cons_succ, i64_w, i32_w]
  rfl
 refine take_ (i := 3) (N := some 13) (v := ?_) (a' := ?_) (bm 22 49931) rfl rfl (take_ofW HT_.out HW_.out (by kernel_rfl)) (fun _ _ _ h => h) (Or.inl ⟨by rfl, ?_⟩) hHeld ?_ ?_
 rotate_left
 ·rintro w' ⟨s0, s1⟩
  go_simp
  with_reducible rfl
 rotate_left
 ·simp only [Act.put, List.setIfInBounds_toArray, List.set_cons_zero, List.set_cons_succ, i64_w, i32_w]
  rfl
 refine take_ (i := 5) (N := some 15) (v := ?_) (a' := ?_) (bm 22 49963) rfl rfl (take_ofW HT_.out HW_.out (by kernel_rfl)) (fun _ _ _ h => h) (Or.inl ⟨by rfl, ?_⟩) hHeld ?_ ?_
 rotate_left
 ·rintro w' ⟨s0, s1⟩
  go_simp
  with_reducible rfl
 rotate_left
 ·simp only [Act.put, List.setIfInBounds_toArray, List.set_cons_zero, List.set_cons_succ, i64_w, i32_w]
  rfl
 refine take_ (i := 11) (N := some 21) (v := ?_) (a' := ?_) (bm 22 52011) rfl rfl (take_ofW HT_.out HW_.out (by kernel_rfl)) (fun _ _ _ h => h) (Or.inl ⟨by rfl, ?_⟩) hHeld ?_ ?_
 rotate_left
 ·rintro w' ⟨s0, s1⟩
  go_simp
  with_reducible rfl
 rotate_left
 ·simp only [Act.put, List.setIfInBounds_toArray, List.set_cons_zero, List.set_cons_succ, i64_w, i32_w]
  rfl
 refine take_ (i := 17) (N := some 27) (v := ?_) (a' := ?_) (bm 22 183083) rfl rfl (take_ofW HT_.out HW_.out (by kernel_rfl)) (fun _ _ _ h => h) (Or.inl ⟨by rfl, ?_⟩) hHeld ?_ ?_
 rotate_left
 ·rintro w' ⟨s0, s1⟩
  go_simp
  with_reducible rfl
 rotate_left
 ·simp only [Act.put, List.setIfInBounds_toArray, List.set_cons_zero, List.set_cons_succ, i64_w, i32_w]
  rfl
 refine pure_ (i := 4) (N := some 14) (v := ?_) (a' := ?_) (bm 22 183099) rfl rfl (any_of HT_.out (by kernel_rfl)) (fun _ _ _ h => h) (Or.inl ⟨by rfl, ?_⟩) ?_ ?_
 rotate_left
 ·intro w'
  go_simp
  with_reducible rfl
 rotate_left
 ·simp only [Act.put, List.setIfInBounds_toArray, List.set_cons_zero, List.set_cons_succ, i64_w, i32_w]
  rfl
 refine pure_ (i := 6) (N := some 16) (v := ?_) (a' := ?_) (bm 22 183163) rfl rfl (any_of HT_.out (by kernel_rfl)) (fun _ _ _ h => h) (Or.inl ⟨by rfl, ?_⟩) ?_ ?_
 rotate_left
 ·intro w'
  go_simp
  with_reducible rfl
 rotate_left
 ·simp only [Act.put, List.setIfInBounds_toArray, List.set_cons_zero, List.set_cons_succ, i64_w, i32_w]
  rfl
 refine one_ (i := 2) (N := some 12) (bm 22 183167) rfl rfl (one_of HT_.out (by kernel_rfl)) (by decide) (fun K hK => ?_)
 refine goesV_ Try.func44 (by kernel_rfl) rfl #[] #[.int .i64 x] (by rfl) rfl rfl rfl (by (try simp only [List.map_toArray, List.map_cons, List.map_nil]); first | done | rfl | (simp only [List.length_drop, List.length_take]; rfl)) ?_
 with_reducible refine (cut_calls x _).mono ?_
 rintro e w5_1 ⟨rfl, hb⟩
 refine ⟨_, rfl, ?_⟩
 replace BK3 := cB hb BK3
 replace BK4 := cB hb BK4
 replace HB := Aside0.mk (below_step (HB.out) hb)
 clear hb
 refine hK.out _ _ ⟨(blk_cell BK3.out 0).trans rfl, (blk_cell BK4.out 0).trans rfl⟩ (fun hHeld => ?_)
 clear hK K
 refine norm_ (a' := ?_) ?_ ?_
 rotate_left
 ·show Act.put _ (some 12) _ = _
  simp only [Act.put, List.setIfInBounds_toArray, List.set_cons_zero, List.set_cons_succ, i64_w, i32_w]
  rfl
 refine pure_ (i := 7) (N := some 17) (v := ?_) (a' := ?_) (bm 22 183295) rfl rfl (any_of HT_.out (by kernel_rfl)) (fun _ _ _ h => h) (Or.inl ⟨by rfl, ?_⟩) ?_ ?_
 rotate_left
 ·intro w'
  go_simp
  with_reducible rfl
 rotate_left
 ·simp only [Act.put, List.setIfInBounds_toArray, List.set_cons_zero, List.set_cons_succ, i64_w, i32_w]
  rfl
 refine one_ (i := 10) (N := some 20) (bm 22 184319) rfl rfl (one_of HT_.out (by kernel_rfl)) (by decide) (fun K hK => ?_)
 refine goesV_ Try.func44 (by kernel_rfl) rfl #[] #[.int .i64 y] (by rfl) rfl rfl rfl (by (try simp only [List.map_toArray, List.map_cons, List.map_nil]); first | done | rfl | (simp only [List.length_drop, List.length_take]; rfl)) ?_
 with_reducible refine (cut_calls y _).mono ?_
 rintro e w5_2 ⟨rfl, hb⟩
 refine ⟨_, rfl, ?_⟩
 replace BK3 := cB hb BK3
 replace BK4 := cB hb BK4
 replace HB := Aside0.mk (below_step (HB.out) hb)
 clear hb
 refine hK.out _ _ ⟨(blk_cell BK3.out 0).trans rfl, (blk_cell BK4.out 0).trans rfl⟩ (fun hHeld => ?_)
 clear hK K
 refine norm_ (a' := ?_) ?_ ?_
 rotate_left
 ·show Act.put _ (some 20) _ = _
  simp only [Act.put, List.setIfInBounds_toArray, List.set_cons_zero, List.set_cons_succ, i64_w, i32_w]
  rfl
 refine pure_ (i := 12) (N := some 22) (v := ?_) (a' := ?_) (bm 22 188415) rfl rfl (any_of HT_.out (by kernel_rfl)) (fun _ _ _ h => h) (Or.inl ⟨by rfl, ?_⟩) ?_ ?_
 rotate_left
 ·intro w'
  go_simp
  with_reducible rfl
 rotate_left
 ·simp only [Act.put, List.setIfInBounds_toArray, List.set_cons_zero, List.set_cons_succ, i64_w, i32_w]
  rfl
 refine pure_ (i := 13) (N := some 23) (v := ?_) (a' := ?_) (bm 22 196607) rfl rfl (any_of HT_.out (by kernel_rfl)) (fun _ _ _ h => h) (Or.inl ⟨by rfl, ?_⟩) ?_ ?_
 rotate_left
 ·intro w'
  go_simp
  with_reducible rfl
 rotate_left
 ·simp only [Act.put, List.setIfInBounds_toArray, List.set_cons_zero, List.set_cons_succ, i64_w, i32_w]
  rfl
 refine one_ (i := 16) (N := some 26) (bm 22 262143) rfl rfl (one_of HT_.out (by kernel_rfl)) (by decide) (fun K hK => ?_)
 refine goesV_ Try.func44 (by kernel_rfl) rfl #[] #[.int .i64 z] (by rfl) rfl rfl rfl (by (try simp only [List.map_toArray, List.map_cons, List.map_nil]); first | done | rfl | (simp only [List.length_drop, List.length_take]; rfl)) ?_
 with_reducible refine (cut_calls z _).mono ?_
 rintro e w5_3 ⟨rfl, hb⟩
 refine ⟨_, rfl, ?_⟩
 replace BK3 := cB hb BK3
 replace BK4 := cB hb BK4
 replace HB := Aside0.mk (below_step (HB.out) hb)
 clear hb
 refine hK.out _ _ ⟨(blk_cell BK3.out 0).trans rfl, (blk_cell BK4.out 0).trans rfl⟩ (fun hHeld => ?_)
 clear hK K
 refine norm_ (a' := ?_) ?_ ?_
 rotate_left
 ·show Act.put _ (some 26) _ = _
  simp only [Act.put, List.setIfInBounds_toArray, List.set_cons_zero, List.set_cons_succ, i64_w, i32_w]
  rfl
 refine pure_ (i := 18) (N := some 28) (v := ?_) (a' := ?_) (bm 22 524287) rfl rfl (any_of HT_.out (by kernel_rfl)) (fun _ _ _ h => h) (Or.inl ⟨by rfl, ?_⟩) ?_ ?_
 rotate_left
 ·intro w'
  go_simp
  with_reducible rfl
 rotate_left
 ·simp only [Act.put, List.setIfInBounds_toArray, List.set_cons_zero, List.set_cons_succ, i64_w, i32_w]
  rfl
 refine pure_ (i := 19) (N := some 29) (v := ?_) (a' := ?_) (bm 22 1048575) rfl rfl (any_of HT_.out (by kernel_rfl)) (fun _ _ _ h => h) (Or.inl ⟨by rfl, ?_⟩) ?_ ?_
 rotate_left
 ·intro w'
  go_simp
  with_reducible rfl
 rotate_left
 ·simp only [Act.put, List.setIfInBounds_toArray, List.set_cons_zero, List.set_cons_succ, i64_w, i32_w]
  rfl
 refine pure_ (i := 20) (N := some 30) (v := ?_) (a' := ?_) (bm 22 2097151) rfl rfl (any_of HT_.out (by kernel_rfl)) (fun _ _ _ h => h) (Or.inl ⟨by rfl, ?_⟩) ?_ ?_
 rotate_left
 ·intro w'
  go_simp
  first | done | with_reducible rfl | rfl
 rotate_left
 ·simp only [Act.put, List.setIfInBounds_toArray, List.set_cons_zero, List.set_cons_succ, i64_w, i32_w]
  rfl
 refine pure_ (i := 21) (N := some 8) (v := ?_) (a' := ?_) (bm 22 4194303) rfl rfl (any_of HT_.out (by kernel_rfl)) (fun _ _ _ h => h) (Or.inl ⟨by rfl, ?_⟩) ?_ ?_
 rotate_left
 ·intro w'
  go_simp
  with_reducible rfl
 rotate_left
 ·simp only [Act.put, List.setIfInBounds_toArray, List.set_cons_zero, List.set_cons_succ, i64_w, i32_w]
  rfl
 refine done_ (done_of HT_.out (by kernel_rfl)) ?_
 try go_wp2
 go_ret
 exact ⟨rfl, HB.out⟩
def light_Blend.f (a0_0 a0_1 a0_2 a1_0 a1_1 a1_2 a2_0 a2_1 a2_2 a3 a4 : Int) : Option (Int × Int × Int) :=
  if mn a3 a4 < 0 then some (0, 0, 0) else if mx a3 a4 > 256 then some (0, 0, 0) else if wrap64 (a3 + a4) > 256 then some (0, 0, 0) else
    some (partB a0_0 a1_0 a2_0 a3 a4, partB a0_1 a1_1 a2_1 a3 a4, partB a0_2 a1_2 a2_2 a3 a4)
set_option maxHeartbeats 4000000 in
set_option maxRecDepth 100000 in
theorem light_Blend.calls (a0_0 a0_1 a0_2 a1_0 a1_1 a1_2 a2_0 a2_1 a2_2 a3 a4 : Int) (r1 r2 r3 : Int) (w : World) (h : light_Blend.f a0_0 a0_1 a0_2 a1_0 a1_1 a1_2 a2_0 a2_1 a2_2 a3 a4 = some (r1, r2, r3)) :
    Calls Try.prog 24 #[.agg #[.int .i64 a0_0, .int .i64 a0_1, .int .i64 a0_2], .agg #[.int .i64 a1_0, .int .i64 a1_1, .int .i64 a1_2], .agg #[.int .i64 a2_0, .int .i64 a2_1, .int .i64 a2_2], .int .i64 a3, .int .i64 a4] w fun e w' => e = .returned (.agg #[.int .i64 r1, .int .i64 r2, .int .i64 r3]) ∧ Below w.heap.size w w' := by
 have hu37 := Try.underlying37
 have hu3 := Try.underlying3
 have hmf : ∀ (fn : Fn) (first cap : Array Value) (w : World), (Instr.makeFunc fn first cap).run Try.prog w = .ok (.func fn first cap) w := fun _ _ _ _ => rfl
 unfold light_Blend.f at h
 have HB := Aside0.mk (Below.refl w.heap.size w)
 obtain ⟨lo, e1⟩ : ∃ lo, (if a4 < a3 then a4 else a3) = lo := ⟨_, rfl⟩
 obtain ⟨hi, e2⟩ : ∃ hi, (if a3 < a4 then a4 else a3) = hi := ⟨_, rfl⟩
 rw [show mn a3 a4 = lo from e1, show mx a3 a4 = hi from e2] at h
 by_cases b0 : lo < 0
 · rw [if_pos b0] at h
   obtain ⟨rfl, rfl, rfl⟩ : r1 = 0 ∧ r2 = 0 ∧ r3 = 0 := by simpa [eq_comm] using h
   clear h
   go_enter Try.func24, Try.ntmps24
   go_wp2_with (first
  | ((with_reducible refine gate_dst (N := 5) rfl ?_); refine box_event ?hg (N := 5) ?hd (cs := #[.int .i64 a0_0, .int .i64 a0_1, .int .i64 a0_2]) (t := 37) ?hr ?_; (case hd => rfl); (case hg => rfl); (case hr => first | (go_simp; done) | (go_simp; rfl)); intro g5 hg w10 hbox hb; have BK5 := Aside0.mk (hbox); have GE5 := Aside0.mk (bG hg (HB.out)); replace HB := Aside0.mk (below_step (HB.out) hb); clear hb hbox hg)
  | ((with_reducible refine gate_dst (N := 6) rfl ?_); refine box_event ?hg (N := 6) ?hd (cs := #[.int .i64 a1_0, .int .i64 a1_1, .int .i64 a1_2]) (t := 37) ?hr ?_; (case hd => rfl); (case hg => rfl); (case hr => first | (go_simp; done) | (go_simp; rfl)); intro g6 hg w11 hbox hb; have BK6 := Aside0.mk (hbox); have GE6 := Aside0.mk (bG hg (HB.out)); have N56 := cN hg BK5; have N65 := cM hg BK5; replace HB := Aside0.mk (below_step (HB.out) hb); replace BK5 := cB hb BK5; clear hb hbox hg)
  | ((with_reducible refine gate_dst (N := 7) rfl ?_); refine box_event ?hg (N := 7) ?hd (cs := #[.int .i64 a2_0, .int .i64 a2_1, .int .i64 a2_2]) (t := 37) ?hr ?_; (case hd => rfl); (case hg => rfl); (case hr => first | (go_simp; done) | (go_simp; rfl)); intro g7 hg w12 hbox hb; have BK7 := Aside0.mk (hbox); have GE7 := Aside0.mk (bG hg (HB.out)); have N57 := cN hg BK5; have N75 := cM hg BK5; have N67 := cN hg BK6; have N76 := cM hg BK6; replace HB := Aside0.mk (below_step (HB.out) hb); replace BK5 := cB hb BK5; replace BK6 := cB hb BK6; clear hb hbox hg)
  | ((with_reducible refine gate_dst (N := 8) rfl ?_); refine box_event ?hg (N := 8) ?hd (cs := #[.int .i64 a3]) (t := 3) ?hr ?_; (case hd => rfl); (case hg => rfl); (case hr => first | (go_simp; done) | (go_simp; rfl)); intro g8 hg w13 hbox hb; have BK8 := Aside0.mk (hbox); have GE8 := Aside0.mk (bG hg (HB.out)); have N58 := cN hg BK5; have N85 := cM hg BK5; have N68 := cN hg BK6; have N86 := cM hg BK6; have N78 := cN hg BK7; have N87 := cM hg BK7; replace HB := Aside0.mk (below_step (HB.out) hb); replace BK5 := cB hb BK5; replace BK6 := cB hb BK6; replace BK7 := cB hb BK7; clear hb hbox hg)
  | ((with_reducible refine gate_dst (N := 9) rfl ?_); refine box_event ?hg (N := 9) ?hd (cs := #[.int .i64 a4]) (t := 3) ?hr ?_; (case hd => rfl); (case hg => rfl); (case hr => first | (go_simp; done) | (go_simp; rfl)); intro g9 hg w14 hbox hb; have BK9 := Aside0.mk (hbox); have GE9 := Aside0.mk (bG hg (HB.out)); have N59 := cN hg BK5; have N95 := cM hg BK5; have N69 := cN hg BK6; have N96 := cM hg BK6; have N79 := cN hg BK7; have N97 := cM hg BK7; have N89 := cN hg BK8; have N98 := cM hg BK8; replace HB := Aside0.mk (below_step (HB.out) hb); replace BK5 := cB hb BK5; replace BK6 := cB hb BK6; replace BK7 := cB hb BK7; replace BK8 := cB hb BK8; clear hb hbox hg)
  | ((with_reducible refine gate_dst (N := 10) rfl ?_); refine box_event ?hg (N := 10) ?hd (cs := #[.int .i64 0, .int .i64 0, .int .i64 0]) (t := 37) ?hr ?_; (case hd => rfl); (case hg => rfl); (case hr => first | (go_simp; done) | (go_simp; rfl)); intro g10 hg w20 hbox hb; have BK10 := Aside0.mk (hbox); have GE10 := Aside0.mk (bG hg (HB.out)); have N510 := cN hg BK5; have N105 := cM hg BK5; have N610 := cN hg BK6; have N106 := cM hg BK6; have N710 := cN hg BK7; have N107 := cM hg BK7; have N810 := cN hg BK8; have N108 := cM hg BK8; have N910 := cN hg BK9; have N109 := cM hg BK9; replace HB := Aside0.mk (below_step (HB.out) hb); replace BK5 := cB hb BK5; replace BK6 := cB hb BK6; replace BK7 := cB hb BK7; replace BK8 := cB hb BK8; replace BK9 := cB hb BK9; clear hb hbox hg; have k8 := (blk_cell BK8.out 0).trans (rfl : _ = some (Value.int .i64 a3)); have k9 := (blk_cell BK9.out 0).trans (rfl : _ = some (Value.int .i64 a4)); have zz0 := (blk_cell BK10.out 0).trans (rfl : _ = some (Value.int .i64 0)); have zf0 := blk_frozen BK10.out 0; have zz1 := (blk_cell BK10.out 1).trans (rfl : _ = some (Value.int .i64 0)); have zf1 := blk_frozen BK10.out 1; have zz2 := (blk_cell BK10.out 2).trans (rfl : _ = some (Value.int .i64 0)); have zf2 := blk_frozen BK10.out 2))
   refine bodyPost_ret (results_cell_row rfl _ _ g10 37 #[.int .i64 0, .int .i64 0, .int .i64 0] (0, 0) _ rfl (blk_put (cs' := #[.int .i64 0, .int .i64 0, .int .i64 0]) (blk_put (blk_put BK10.out 0 _ rfl) 1 _ rfl) 2 _ rfl) Try.underlying37 rfl (by kernel_rfl)) rfl ?_
   exact ⟨rfl, below_set (below_set (below_set HB.out GE10.out) GE10.out) GE10.out⟩

 rw [if_neg b0] at h
 by_cases b1 : hi > 256
 · rw [if_pos b1] at h
   obtain ⟨rfl, rfl, rfl⟩ : r1 = 0 ∧ r2 = 0 ∧ r3 = 0 := by simpa [eq_comm] using h
   clear h
   go_enter Try.func24, Try.ntmps24
   go_wp2_with (first
  | ((with_reducible refine gate_dst (N := 5) rfl ?_); refine box_event ?hg (N := 5) ?hd (cs := #[.int .i64 a0_0, .int .i64 a0_1, .int .i64 a0_2]) (t := 37) ?hr ?_; (case hd => rfl); (case hg => rfl); (case hr => first | (go_simp; done) | (go_simp; rfl)); intro g5 hg w10 hbox hb; have BK5 := Aside0.mk (hbox); have GE5 := Aside0.mk (bG hg (HB.out)); replace HB := Aside0.mk (below_step (HB.out) hb); clear hb hbox hg)
  | ((with_reducible refine gate_dst (N := 6) rfl ?_); refine box_event ?hg (N := 6) ?hd (cs := #[.int .i64 a1_0, .int .i64 a1_1, .int .i64 a1_2]) (t := 37) ?hr ?_; (case hd => rfl); (case hg => rfl); (case hr => first | (go_simp; done) | (go_simp; rfl)); intro g6 hg w11 hbox hb; have BK6 := Aside0.mk (hbox); have GE6 := Aside0.mk (bG hg (HB.out)); have N56 := cN hg BK5; have N65 := cM hg BK5; replace HB := Aside0.mk (below_step (HB.out) hb); replace BK5 := cB hb BK5; clear hb hbox hg)
  | ((with_reducible refine gate_dst (N := 7) rfl ?_); refine box_event ?hg (N := 7) ?hd (cs := #[.int .i64 a2_0, .int .i64 a2_1, .int .i64 a2_2]) (t := 37) ?hr ?_; (case hd => rfl); (case hg => rfl); (case hr => first | (go_simp; done) | (go_simp; rfl)); intro g7 hg w12 hbox hb; have BK7 := Aside0.mk (hbox); have GE7 := Aside0.mk (bG hg (HB.out)); have N57 := cN hg BK5; have N75 := cM hg BK5; have N67 := cN hg BK6; have N76 := cM hg BK6; replace HB := Aside0.mk (below_step (HB.out) hb); replace BK5 := cB hb BK5; replace BK6 := cB hb BK6; clear hb hbox hg)
  | ((with_reducible refine gate_dst (N := 8) rfl ?_); refine box_event ?hg (N := 8) ?hd (cs := #[.int .i64 a3]) (t := 3) ?hr ?_; (case hd => rfl); (case hg => rfl); (case hr => first | (go_simp; done) | (go_simp; rfl)); intro g8 hg w13 hbox hb; have BK8 := Aside0.mk (hbox); have GE8 := Aside0.mk (bG hg (HB.out)); have N58 := cN hg BK5; have N85 := cM hg BK5; have N68 := cN hg BK6; have N86 := cM hg BK6; have N78 := cN hg BK7; have N87 := cM hg BK7; replace HB := Aside0.mk (below_step (HB.out) hb); replace BK5 := cB hb BK5; replace BK6 := cB hb BK6; replace BK7 := cB hb BK7; clear hb hbox hg)
  | ((with_reducible refine gate_dst (N := 9) rfl ?_); refine box_event ?hg (N := 9) ?hd (cs := #[.int .i64 a4]) (t := 3) ?hr ?_; (case hd => rfl); (case hg => rfl); (case hr => first | (go_simp; done) | (go_simp; rfl)); intro g9 hg w14 hbox hb; have BK9 := Aside0.mk (hbox); have GE9 := Aside0.mk (bG hg (HB.out)); have N59 := cN hg BK5; have N95 := cM hg BK5; have N69 := cN hg BK6; have N96 := cM hg BK6; have N79 := cN hg BK7; have N97 := cM hg BK7; have N89 := cN hg BK8; have N98 := cM hg BK8; replace HB := Aside0.mk (below_step (HB.out) hb); replace BK5 := cB hb BK5; replace BK6 := cB hb BK6; replace BK7 := cB hb BK7; replace BK8 := cB hb BK8; clear hb hbox hg)
  | ((with_reducible refine gate_dst (N := 10) rfl ?_); refine box_event ?hg (N := 10) ?hd (cs := #[.int .i64 0, .int .i64 0, .int .i64 0]) (t := 37) ?hr ?_; (case hd => rfl); (case hg => rfl); (case hr => first | (go_simp; done) | (go_simp; rfl)); intro g10 hg w20 hbox hb; have BK10 := Aside0.mk (hbox); have GE10 := Aside0.mk (bG hg (HB.out)); have N510 := cN hg BK5; have N105 := cM hg BK5; have N610 := cN hg BK6; have N106 := cM hg BK6; have N710 := cN hg BK7; have N107 := cM hg BK7; have N810 := cN hg BK8; have N108 := cM hg BK8; have N910 := cN hg BK9; have N109 := cM hg BK9; replace HB := Aside0.mk (below_step (HB.out) hb); replace BK5 := cB hb BK5; replace BK6 := cB hb BK6; replace BK7 := cB hb BK7; replace BK8 := cB hb BK8; replace BK9 := cB hb BK9; clear hb hbox hg; have k8 := (blk_cell BK8.out 0).trans (rfl : _ = some (Value.int .i64 a3)); have k9 := (blk_cell BK9.out 0).trans (rfl : _ = some (Value.int .i64 a4)); have zz0 := (blk_cell BK10.out 0).trans (rfl : _ = some (Value.int .i64 0)); have zf0 := blk_frozen BK10.out 0; have zz1 := (blk_cell BK10.out 1).trans (rfl : _ = some (Value.int .i64 0)); have zf1 := blk_frozen BK10.out 1; have zz2 := (blk_cell BK10.out 2).trans (rfl : _ = some (Value.int .i64 0)); have zf2 := blk_frozen BK10.out 2))
   refine bodyPost_ret (results_cell_row rfl _ _ g10 37 #[.int .i64 0, .int .i64 0, .int .i64 0] (0, 0) _ rfl (blk_put (cs' := #[.int .i64 0, .int .i64 0, .int .i64 0]) (blk_put (blk_put BK10.out 0 _ rfl) 1 _ rfl) 2 _ rfl) Try.underlying37 rfl (by kernel_rfl)) rfl ?_
   exact ⟨rfl, below_set (below_set (below_set HB.out GE10.out) GE10.out) GE10.out⟩

 rw [if_neg b1] at h
 have bd : 0 ≤ a3 ∧ a3 ≤ 256 ∧ 0 ≤ a4 ∧ a4 ≤ 256 := by
  split at e1 <;> split at e2 <;> omega
 have ew : wrap64 (a3 + a4) = a3 + a4 := by unfold wrap64; omega
 rw [ew] at h
 by_cases b2 : a3 + a4 > 256
 · rw [if_pos b2] at h
   obtain ⟨rfl, rfl, rfl⟩ : r1 = 0 ∧ r2 = 0 ∧ r3 = 0 := by simpa [eq_comm] using h
   clear h
   go_enter Try.func24, Try.ntmps24
   go_wp2_with (first
  | ((with_reducible refine gate_dst (N := 5) rfl ?_); refine box_event ?hg (N := 5) ?hd (cs := #[.int .i64 a0_0, .int .i64 a0_1, .int .i64 a0_2]) (t := 37) ?hr ?_; (case hd => rfl); (case hg => rfl); (case hr => first | (go_simp; done) | (go_simp; rfl)); intro g5 hg w10 hbox hb; have BK5 := Aside0.mk (hbox); have GE5 := Aside0.mk (bG hg (HB.out)); replace HB := Aside0.mk (below_step (HB.out) hb); clear hb hbox hg)
  | ((with_reducible refine gate_dst (N := 6) rfl ?_); refine box_event ?hg (N := 6) ?hd (cs := #[.int .i64 a1_0, .int .i64 a1_1, .int .i64 a1_2]) (t := 37) ?hr ?_; (case hd => rfl); (case hg => rfl); (case hr => first | (go_simp; done) | (go_simp; rfl)); intro g6 hg w11 hbox hb; have BK6 := Aside0.mk (hbox); have GE6 := Aside0.mk (bG hg (HB.out)); have N56 := cN hg BK5; have N65 := cM hg BK5; replace HB := Aside0.mk (below_step (HB.out) hb); replace BK5 := cB hb BK5; clear hb hbox hg)
  | ((with_reducible refine gate_dst (N := 7) rfl ?_); refine box_event ?hg (N := 7) ?hd (cs := #[.int .i64 a2_0, .int .i64 a2_1, .int .i64 a2_2]) (t := 37) ?hr ?_; (case hd => rfl); (case hg => rfl); (case hr => first | (go_simp; done) | (go_simp; rfl)); intro g7 hg w12 hbox hb; have BK7 := Aside0.mk (hbox); have GE7 := Aside0.mk (bG hg (HB.out)); have N57 := cN hg BK5; have N75 := cM hg BK5; have N67 := cN hg BK6; have N76 := cM hg BK6; replace HB := Aside0.mk (below_step (HB.out) hb); replace BK5 := cB hb BK5; replace BK6 := cB hb BK6; clear hb hbox hg)
  | ((with_reducible refine gate_dst (N := 8) rfl ?_); refine box_event ?hg (N := 8) ?hd (cs := #[.int .i64 a3]) (t := 3) ?hr ?_; (case hd => rfl); (case hg => rfl); (case hr => first | (go_simp; done) | (go_simp; rfl)); intro g8 hg w13 hbox hb; have BK8 := Aside0.mk (hbox); have GE8 := Aside0.mk (bG hg (HB.out)); have N58 := cN hg BK5; have N85 := cM hg BK5; have N68 := cN hg BK6; have N86 := cM hg BK6; have N78 := cN hg BK7; have N87 := cM hg BK7; replace HB := Aside0.mk (below_step (HB.out) hb); replace BK5 := cB hb BK5; replace BK6 := cB hb BK6; replace BK7 := cB hb BK7; clear hb hbox hg)
  | ((with_reducible refine gate_dst (N := 9) rfl ?_); refine box_event ?hg (N := 9) ?hd (cs := #[.int .i64 a4]) (t := 3) ?hr ?_; (case hd => rfl); (case hg => rfl); (case hr => first | (go_simp; done) | (go_simp; rfl)); intro g9 hg w14 hbox hb; have BK9 := Aside0.mk (hbox); have GE9 := Aside0.mk (bG hg (HB.out)); have N59 := cN hg BK5; have N95 := cM hg BK5; have N69 := cN hg BK6; have N96 := cM hg BK6; have N79 := cN hg BK7; have N97 := cM hg BK7; have N89 := cN hg BK8; have N98 := cM hg BK8; replace HB := Aside0.mk (below_step (HB.out) hb); replace BK5 := cB hb BK5; replace BK6 := cB hb BK6; replace BK7 := cB hb BK7; replace BK8 := cB hb BK8; clear hb hbox hg)
  | ((with_reducible refine gate_dst (N := 10) rfl ?_); refine box_event ?hg (N := 10) ?hd (cs := #[.int .i64 0, .int .i64 0, .int .i64 0]) (t := 37) ?hr ?_; (case hd => rfl); (case hg => rfl); (case hr => first | (go_simp; done) | (go_simp; rfl)); intro g10 hg w20 hbox hb; have BK10 := Aside0.mk (hbox); have GE10 := Aside0.mk (bG hg (HB.out)); have N510 := cN hg BK5; have N105 := cM hg BK5; have N610 := cN hg BK6; have N106 := cM hg BK6; have N710 := cN hg BK7; have N107 := cM hg BK7; have N810 := cN hg BK8; have N108 := cM hg BK8; have N910 := cN hg BK9; have N109 := cM hg BK9; replace HB := Aside0.mk (below_step (HB.out) hb); replace BK5 := cB hb BK5; replace BK6 := cB hb BK6; replace BK7 := cB hb BK7; replace BK8 := cB hb BK8; replace BK9 := cB hb BK9; clear hb hbox hg; have k8 := (blk_cell BK8.out 0).trans (rfl : _ = some (Value.int .i64 a3)); have k9 := (blk_cell BK9.out 0).trans (rfl : _ = some (Value.int .i64 a4)); have zz0 := (blk_cell BK10.out 0).trans (rfl : _ = some (Value.int .i64 0)); have zf0 := blk_frozen BK10.out 0; have zz1 := (blk_cell BK10.out 1).trans (rfl : _ = some (Value.int .i64 0)); have zf1 := blk_frozen BK10.out 1; have zz2 := (blk_cell BK10.out 2).trans (rfl : _ = some (Value.int .i64 0)); have zf2 := blk_frozen BK10.out 2))
   refine bodyPost_ret (results_cell_row rfl _ _ g10 37 #[.int .i64 0, .int .i64 0, .int .i64 0] (0, 0) _ rfl (blk_put (cs' := #[.int .i64 0, .int .i64 0, .int .i64 0]) (blk_put (blk_put BK10.out 0 _ rfl) 1 _ rfl) 2 _ rfl) Try.underlying37 rfl (by kernel_rfl)) rfl ?_
   exact ⟨rfl, below_set (below_set (below_set HB.out GE10.out) GE10.out) GE10.out⟩

 rw [if_neg b2] at h
 simp only [Option.some.injEq, Prod.mk.injEq] at h
 obtain ⟨rfl, rfl, rfl⟩ := h
 go_enter Try.func24, Try.ntmps24
 go_wp2_with (first
  | ((with_reducible refine gate_dst (N := 5) rfl ?_); refine box_event ?hg (N := 5) ?hd (cs := #[.int .i64 a0_0, .int .i64 a0_1, .int .i64 a0_2]) (t := 37) ?hr ?_; (case hd => rfl); (case hg => rfl); (case hr => first | (go_simp; done) | (go_simp; rfl)); intro g5 hg w10 hbox hb; have BK5 := Aside0.mk (hbox); have GE5 := Aside0.mk (bG hg (HB.out)); replace HB := Aside0.mk (below_step (HB.out) hb); clear hb hbox hg)
  | ((with_reducible refine gate_dst (N := 6) rfl ?_); refine box_event ?hg (N := 6) ?hd (cs := #[.int .i64 a1_0, .int .i64 a1_1, .int .i64 a1_2]) (t := 37) ?hr ?_; (case hd => rfl); (case hg => rfl); (case hr => first | (go_simp; done) | (go_simp; rfl)); intro g6 hg w11 hbox hb; have BK6 := Aside0.mk (hbox); have GE6 := Aside0.mk (bG hg (HB.out)); have N56 := cN hg BK5; have N65 := cM hg BK5; replace HB := Aside0.mk (below_step (HB.out) hb); replace BK5 := cB hb BK5; clear hb hbox hg)
  | ((with_reducible refine gate_dst (N := 7) rfl ?_); refine box_event ?hg (N := 7) ?hd (cs := #[.int .i64 a2_0, .int .i64 a2_1, .int .i64 a2_2]) (t := 37) ?hr ?_; (case hd => rfl); (case hg => rfl); (case hr => first | (go_simp; done) | (go_simp; rfl)); intro g7 hg w12 hbox hb; have BK7 := Aside0.mk (hbox); have GE7 := Aside0.mk (bG hg (HB.out)); have N57 := cN hg BK5; have N75 := cM hg BK5; have N67 := cN hg BK6; have N76 := cM hg BK6; replace HB := Aside0.mk (below_step (HB.out) hb); replace BK5 := cB hb BK5; replace BK6 := cB hb BK6; clear hb hbox hg)
  | ((with_reducible refine gate_dst (N := 8) rfl ?_); refine box_event ?hg (N := 8) ?hd (cs := #[.int .i64 a3]) (t := 3) ?hr ?_; (case hd => rfl); (case hg => rfl); (case hr => first | (go_simp; done) | (go_simp; rfl)); intro g8 hg w13 hbox hb; have BK8 := Aside0.mk (hbox); have GE8 := Aside0.mk (bG hg (HB.out)); have N58 := cN hg BK5; have N85 := cM hg BK5; have N68 := cN hg BK6; have N86 := cM hg BK6; have N78 := cN hg BK7; have N87 := cM hg BK7; replace HB := Aside0.mk (below_step (HB.out) hb); replace BK5 := cB hb BK5; replace BK6 := cB hb BK6; replace BK7 := cB hb BK7; clear hb hbox hg)
  | ((with_reducible refine gate_dst (N := 9) rfl ?_); refine box_event ?hg (N := 9) ?hd (cs := #[.int .i64 a4]) (t := 3) ?hr ?_; (case hd => rfl); (case hg => rfl); (case hr => first | (go_simp; done) | (go_simp; rfl)); intro g9 hg w14 hbox hb; have BK9 := Aside0.mk (hbox); have GE9 := Aside0.mk (bG hg (HB.out)); have N59 := cN hg BK5; have N95 := cM hg BK5; have N69 := cN hg BK6; have N96 := cM hg BK6; have N79 := cN hg BK7; have N97 := cM hg BK7; have N89 := cN hg BK8; have N98 := cM hg BK8; replace HB := Aside0.mk (below_step (HB.out) hb); replace BK5 := cB hb BK5; replace BK6 := cB hb BK6; replace BK7 := cB hb BK7; replace BK8 := cB hb BK8; clear hb hbox hg)
  | ((with_reducible refine gate_dst (N := 10) rfl ?_); refine box_event ?hg (N := 10) ?hd (cs := #[.int .i64 0, .int .i64 0, .int .i64 0]) (t := 37) ?hr ?_; (case hd => rfl); (case hg => rfl); (case hr => first | (go_simp; done) | (go_simp; rfl)); intro g10 hg w20 hbox hb; have BK10 := Aside0.mk (hbox); have GE10 := Aside0.mk (bG hg (HB.out)); have N510 := cN hg BK5; have N105 := cM hg BK5; have N610 := cN hg BK6; have N106 := cM hg BK6; have N710 := cN hg BK7; have N107 := cM hg BK7; have N810 := cN hg BK8; have N108 := cM hg BK8; have N910 := cN hg BK9; have N109 := cM hg BK9; replace HB := Aside0.mk (below_step (HB.out) hb); replace BK5 := cB hb BK5; replace BK6 := cB hb BK6; replace BK7 := cB hb BK7; replace BK8 := cB hb BK8; replace BK9 := cB hb BK9; clear hb hbox hg; have k8 := (blk_cell BK8.out 0).trans (rfl : _ = some (Value.int .i64 a3)); have k9 := (blk_cell BK9.out 0).trans (rfl : _ = some (Value.int .i64 a4)); have zz0 := (blk_cell BK10.out 0).trans (rfl : _ = some (Value.int .i64 0)); have zf0 := blk_frozen BK10.out 0; have zz1 := (blk_cell BK10.out 1).trans (rfl : _ = some (Value.int .i64 0)); have zf1 := blk_frozen BK10.out 1; have zz2 := (blk_cell BK10.out 2).trans (rfl : _ = some (Value.int .i64 0)); have zf2 := blk_frozen BK10.out 2))
 clear k8 k9 zz0 zf0 zz1 zf1 zz2 zf2
 replace BK5 := Aside0.mk (blk_drew BK5.out)
 replace BK6 := Aside0.mk (blk_drew BK6.out)
 replace BK7 := Aside0.mk (blk_drew BK7.out)
 replace BK8 := Aside0.mk (blk_drew BK8.out)
 replace BK9 := Aside0.mk (blk_drew BK9.out)
 replace BK10 := Aside0.mk (blk_drew BK10.out)
 replace HB := Aside0.mk (below_drew1 HB.out)
 refine start_ (n := 26) (S := fun w' => w'.cell? ⟨g5, 0, none⟩ = some (.int .i64 a0_0) ∧ w'.cell? ⟨g5, 1, none⟩ = some (.int .i64 a0_1) ∧ w'.cell? ⟨g5, 2, none⟩ = some (.int .i64 a0_2) ∧ w'.cell? ⟨g6, 0, none⟩ = some (.int .i64 a1_0) ∧ w'.cell? ⟨g6, 1, none⟩ = some (.int .i64 a1_1) ∧ w'.cell? ⟨g6, 2, none⟩ = some (.int .i64 a1_2) ∧ w'.cell? ⟨g7, 0, none⟩ = some (.int .i64 a2_0) ∧ w'.cell? ⟨g7, 1, none⟩ = some (.int .i64 a2_1) ∧ w'.cell? ⟨g7, 2, none⟩ = some (.int .i64 a2_2)) (ds := [25]) #[false, false, false, false, false, false, false, false, false, false, false, false, false, false, false, false, false, false, false, false, false, false, false, false, false, false] (by kernel_rfl) rfl rfl ⟨(blk_cell BK5.out 0).trans rfl, (blk_cell BK5.out 1).trans rfl, (blk_cell BK5.out 2).trans rfl, (blk_cell BK6.out 0).trans rfl, (blk_cell BK6.out 1).trans rfl, (blk_cell BK6.out 2).trans rfl, (blk_cell BK7.out 0).trans rfl, (blk_cell BK7.out 1).trans rfl, (blk_cell BK7.out 2).trans rfl⟩ (fun hHeld => ?_); refine with_tabW light_Blend.tab4 light_Blend.bits4 (fun HT_ HW_ => ?_)
 generalize w20.drew = w21 at BK5 BK6 BK7 BK8 BK9 BK10 HB hHeld ⊢
 refine pure_ (i := 0) (N := some 30) (v := ?_) (a' := ?_) (bm 26 1) rfl rfl (any_of HT_.out (by kernel_rfl)) (fun _ _ _ h => h) (Or.inl ⟨by rfl, ?_⟩) ?_ ?_
 rotate_left
 ·intro w'
  go_simp
  with_reducible rfl
 rotate_left
 ·simp only [Act.put, List.setIfInBounds_toArray, List.set_cons_zero, List.set_cons_succ, i64_w, i32_w]
  rfl
 refine pure_ (i := 8) (N := some 38) (v := ?_) (a' := ?_) (bm 26 257) rfl rfl (any_of HT_.out (by kernel_rfl)) (fun _ _ _ h => h) (Or.inl ⟨by rfl, ?_⟩) ?_ ?_
 rotate_left
 ·intro w'
  go_simp
  with_reducible rfl
 rotate_left
 ·simp only [Act.put, List.setIfInBounds_toArray, List.set_cons_zero, List.set_cons_succ, i64_w, i32_w]
  rfl
 refine pure_ (i := 16) (N := some 46) (v := ?_) (a' := ?_) (bm 26 65793) rfl rfl (any_of HT_.out (by kernel_rfl)) (fun _ _ _ h => h) (Or.inl ⟨by rfl, ?_⟩) ?_ ?_
 rotate_left
 ·intro w'
  go_simp
  with_reducible rfl
 rotate_left
 ·simp only [Act.put, List.setIfInBounds_toArray, List.set_cons_zero, List.set_cons_succ, i64_w, i32_w]
  rfl
 refine pure_ (i := 1) (N := some 31) (v := ?_) (a' := ?_) (bm 26 65795) rfl rfl (any_of HT_.out (by kernel_rfl)) (fun _ _ _ h => h) (Or.inl ⟨by rfl, ?_⟩) ?_ ?_
 rotate_left
 ·intro w'
  go_simp
  with_reducible rfl
 rotate_left
 ·simp only [Act.put, List.setIfInBounds_toArray, List.set_cons_zero, List.set_cons_succ, i64_w, i32_w]
  rfl
 refine pure_ (i := 3) (N := some 33) (v := ?_) (a' := ?_) (bm 26 65803) rfl rfl (any_of HT_.out (by kernel_rfl)) (fun _ _ _ h => h) (Or.inl ⟨by rfl, ?_⟩) ?_ ?_
 rotate_left
 ·intro w'
  go_simp
  with_reducible rfl
 rotate_left
 ·simp only [Act.put, List.setIfInBounds_toArray, List.set_cons_zero, List.set_cons_succ, i64_w, i32_w]
  rfl
 refine pure_ (i := 5) (N := some 35) (v := ?_) (a' := ?_) (bm 26 65835) rfl rfl (any_of HT_.out (by kernel_rfl)) (fun _ _ _ h => h) (Or.inl ⟨by rfl, ?_⟩) ?_ ?_
 rotate_left
 ·intro w'
  go_simp
  with_reducible rfl
 rotate_left
 ·simp only [Act.put, List.setIfInBounds_toArray, List.set_cons_zero, List.set_cons_succ, i64_w, i32_w]
  rfl
 refine pure_ (i := 9) (N := some 39) (v := ?_) (a' := ?_) (bm 26 66347) rfl rfl (any_of HT_.out (by kernel_rfl)) (fun _ _ _ h => h) (Or.inl ⟨by rfl, ?_⟩) ?_ ?_
 rotate_left
 ·intro w'
  go_simp
  with_reducible rfl
 rotate_left
 ·simp only [Act.put, List.setIfInBounds_toArray, List.set_cons_zero, List.set_cons_succ, i64_w, i32_w]
  rfl
 refine pure_ (i := 11) (N := some 41) (v := ?_) (a' := ?_) (bm 26 68395) rfl rfl (any_of HT_.out (by kernel_rfl)) (fun _ _ _ h => h) (Or.inl ⟨by rfl, ?_⟩) ?_ ?_
 rotate_left
 ·intro w'
  go_simp
  with_reducible rfl
 rotate_left
 ·simp only [Act.put, List.setIfInBounds_toArray, List.set_cons_zero, List.set_cons_succ, i64_w, i32_w]
  rfl
 refine pure_ (i := 13) (N := some 43) (v := ?_) (a' := ?_) (bm 26 76587) rfl rfl (any_of HT_.out (by kernel_rfl)) (fun _ _ _ h => h) (Or.inl ⟨by rfl, ?_⟩) ?_ ?_
 rotate_left
 ·intro w'
  go_simp
  with_reducible rfl
 rotate_left
 ·simp only [Act.put, List.setIfInBounds_toArray, List.set_cons_zero, List.set_cons_succ, i64_w, i32_w]
  rfl
 refine pure_ (i := 17) (N := some 47) (v := ?_) (a' := ?_) (bm 26 207659) rfl rfl (any_of HT_.out (by kernel_rfl)) (fun _ _ _ h => h) (Or.inl ⟨by rfl, ?_⟩) ?_ ?_
 rotate_left
 ·intro w'
  go_simp
  with_reducible rfl
 rotate_left
 ·simp only [Act.put, List.setIfInBounds_toArray, List.set_cons_zero, List.set_cons_succ, i64_w, i32_w]
  rfl
 refine pure_ (i := 19) (N := some 49) (v := ?_) (a' := ?_) (bm 26 731947) rfl rfl (any_of HT_.out (by kernel_rfl)) (fun _ _ _ h => h) (Or.inl ⟨by rfl, ?_⟩) ?_ ?_
 rotate_left
 ·intro w'
  go_simp
  with_reducible rfl
 rotate_left
 ·simp only [Act.put, List.setIfInBounds_toArray, List.set_cons_zero, List.set_cons_succ, i64_w, i32_w]
  rfl
 refine pure_ (i := 21) (N := some 51) (v := ?_) (a' := ?_) (bm 26 2829099) rfl rfl (any_of HT_.out (by kernel_rfl)) (fun _ _ _ h => h) (Or.inl ⟨by rfl, ?_⟩) ?_ ?_
 rotate_left
 ·intro w'
  go_simp
  with_reducible rfl
 rotate_left
 ·simp only [Act.put, List.setIfInBounds_toArray, List.set_cons_zero, List.set_cons_succ, i64_w, i32_w]
  rfl
 refine take_ (i := 2) (N := some 32) (v := ?_) (a' := ?_) (bm 26 2829103) rfl rfl (take_ofW HT_.out HW_.out (by kernel_rfl)) (fun _ _ _ h => h) (Or.inl ⟨by rfl, ?_⟩) hHeld ?_ ?_
 rotate_left
 ·rintro w' ⟨s0, s1, s2, s3, s4, s5, s6, s7, s8⟩
  go_simp
  with_reducible rfl
 rotate_left
 ·simp only [Act.put, List.setIfInBounds_toArray, List.set_cons_zero, List.set_cons_succ, i64_w, i32_w]
  rfl
 refine take_ (i := 4) (N := some 34) (v := ?_) (a' := ?_) (bm 26 2829119) rfl rfl (take_ofW HT_.out HW_.out (by kernel_rfl)) (fun _ _ _ h => h) (Or.inl ⟨by rfl, ?_⟩) hHeld ?_ ?_
 rotate_left
 ·rintro w' ⟨s0, s1, s2, s3, s4, s5, s6, s7, s8⟩
  go_simp
  with_reducible rfl
 rotate_left
 ·simp only [Act.put, List.setIfInBounds_toArray, List.set_cons_zero, List.set_cons_succ, i64_w, i32_w]
  rfl
 refine take_ (i := 6) (N := some 36) (v := ?_) (a' := ?_) (bm 26 2829183) rfl rfl (take_ofW HT_.out HW_.out (by kernel_rfl)) (fun _ _ _ h => h) (Or.inl ⟨by rfl, ?_⟩) hHeld ?_ ?_
 rotate_left
 ·rintro w' ⟨s0, s1, s2, s3, s4, s5, s6, s7, s8⟩
  go_simp
  with_reducible rfl
 rotate_left
 ·simp only [Act.put, List.setIfInBounds_toArray, List.set_cons_zero, List.set_cons_succ, i64_w, i32_w]
  rfl
 refine take_ (i := 10) (N := some 40) (v := ?_) (a' := ?_) (bm 26 2830207) rfl rfl (take_ofW HT_.out HW_.out (by kernel_rfl)) (fun _ _ _ h => h) (Or.inl ⟨by rfl, ?_⟩) hHeld ?_ ?_
 rotate_left
 ·rintro w' ⟨s0, s1, s2, s3, s4, s5, s6, s7, s8⟩
  go_simp
  with_reducible rfl
 rotate_left
 ·simp only [Act.put, List.setIfInBounds_toArray, List.set_cons_zero, List.set_cons_succ, i64_w, i32_w]
  rfl
 refine take_ (i := 12) (N := some 42) (v := ?_) (a' := ?_) (bm 26 2834303) rfl rfl (take_ofW HT_.out HW_.out (by kernel_rfl)) (fun _ _ _ h => h) (Or.inl ⟨by rfl, ?_⟩) hHeld ?_ ?_
 rotate_left
 ·rintro w' ⟨s0, s1, s2, s3, s4, s5, s6, s7, s8⟩
  go_simp
  with_reducible rfl
 rotate_left
 ·simp only [Act.put, List.setIfInBounds_toArray, List.set_cons_zero, List.set_cons_succ, i64_w, i32_w]
  rfl
 refine take_ (i := 14) (N := some 44) (v := ?_) (a' := ?_) (bm 26 2850687) rfl rfl (take_ofW HT_.out HW_.out (by kernel_rfl)) (fun _ _ _ h => h) (Or.inl ⟨by rfl, ?_⟩) hHeld ?_ ?_
 rotate_left
 ·rintro w' ⟨s0, s1, s2, s3, s4, s5, s6, s7, s8⟩
  go_simp
  with_reducible rfl
 rotate_left
 ·simp only [Act.put, List.setIfInBounds_toArray, List.set_cons_zero, List.set_cons_succ, i64_w, i32_w]
  rfl
 refine take_ (i := 18) (N := some 48) (v := ?_) (a' := ?_) (bm 26 3112831) rfl rfl (take_ofW HT_.out HW_.out (by kernel_rfl)) (fun _ _ _ h => h) (Or.inl ⟨by rfl, ?_⟩) hHeld ?_ ?_
 rotate_left
 ·rintro w' ⟨s0, s1, s2, s3, s4, s5, s6, s7, s8⟩
  go_simp
  with_reducible rfl
 rotate_left
 ·simp only [Act.put, List.setIfInBounds_toArray, List.set_cons_zero, List.set_cons_succ, i64_w, i32_w]
  rfl
 refine take_ (i := 20) (N := some 50) (v := ?_) (a' := ?_) (bm 26 4161407) rfl rfl (take_ofW HT_.out HW_.out (by kernel_rfl)) (fun _ _ _ h => h) (Or.inl ⟨by rfl, ?_⟩) hHeld ?_ ?_
 rotate_left
 ·rintro w' ⟨s0, s1, s2, s3, s4, s5, s6, s7, s8⟩
  go_simp
  with_reducible rfl
 rotate_left
 ·simp only [Act.put, List.setIfInBounds_toArray, List.set_cons_zero, List.set_cons_succ, i64_w, i32_w]
  rfl
 refine take_ (i := 22) (N := some 52) (v := ?_) (a' := ?_) (bm 26 8355711) rfl rfl (take_ofW HT_.out HW_.out (by kernel_rfl)) (fun _ _ _ h => h) (Or.inl ⟨by rfl, ?_⟩) hHeld ?_ ?_
 rotate_left
 ·rintro w' ⟨s0, s1, s2, s3, s4, s5, s6, s7, s8⟩
  go_simp
  with_reducible rfl
 rotate_left
 ·simp only [Act.put, List.setIfInBounds_toArray, List.set_cons_zero, List.set_cons_succ, i64_w, i32_w]
  rfl
 refine one_ (i := 7) (N := some 37) (bm 26 8355839) rfl rfl (one_of HT_.out (by kernel_rfl)) (by decide) (fun K hK => ?_)
 refine goesV_ Try.func43 (by kernel_rfl) rfl #[.pointer (some ⟨g8, 0, none⟩), .pointer (some ⟨g9, 0, none⟩)] #[.int .i64 a0_0, .int .i64 a1_0, .int .i64 a2_0] (by rfl) rfl rfl rfl (by (try simp only [List.map_toArray, List.map_cons, List.map_nil]); first | done | rfl | (simp only [List.length_drop, List.length_take]; rfl)) ?_
 with_reducible refine (blend1.calls a0_0 a1_0 a2_0 a3 a4 g8 g9 _ BK8.out BK9.out).mono ?_
 rintro e w21_1 ⟨rfl, hb⟩
 refine ⟨_, rfl, ?_⟩
 replace BK5 := cB hb BK5
 replace BK6 := cB hb BK6
 replace BK7 := cB hb BK7
 replace BK8 := cB hb BK8
 replace BK9 := cB hb BK9
 replace BK10 := cB hb BK10
 replace HB := Aside0.mk (below_step (HB.out) hb)
 clear hb
 refine hK.out _ _ ⟨(blk_cell BK5.out 0).trans rfl, (blk_cell BK5.out 1).trans rfl, (blk_cell BK5.out 2).trans rfl, (blk_cell BK6.out 0).trans rfl, (blk_cell BK6.out 1).trans rfl, (blk_cell BK6.out 2).trans rfl, (blk_cell BK7.out 0).trans rfl, (blk_cell BK7.out 1).trans rfl, (blk_cell BK7.out 2).trans rfl⟩ (fun hHeld => ?_)
 clear hK K
 refine norm_ (a' := ?_) ?_ ?_
 rotate_left
 ·show Act.put _ (some 37) _ = _
  simp only [Act.put, List.setIfInBounds_toArray, List.set_cons_zero, List.set_cons_succ, i64_w, i32_w]
  rfl
 refine one_ (i := 15) (N := some 45) (bm 26 8388607) rfl rfl (one_of HT_.out (by kernel_rfl)) (by decide) (fun K hK => ?_)
 refine goesV_ Try.func43 (by kernel_rfl) rfl #[.pointer (some ⟨g8, 0, none⟩), .pointer (some ⟨g9, 0, none⟩)] #[.int .i64 a0_1, .int .i64 a1_1, .int .i64 a2_1] (by rfl) rfl rfl rfl (by (try simp only [List.map_toArray, List.map_cons, List.map_nil]); first | done | rfl | (simp only [List.length_drop, List.length_take]; rfl)) ?_
 with_reducible refine (blend1.calls a0_1 a1_1 a2_1 a3 a4 g8 g9 _ BK8.out BK9.out).mono ?_
 rintro e w21_2 ⟨rfl, hb⟩
 refine ⟨_, rfl, ?_⟩
 replace BK5 := cB hb BK5
 replace BK6 := cB hb BK6
 replace BK7 := cB hb BK7
 replace BK8 := cB hb BK8
 replace BK9 := cB hb BK9
 replace BK10 := cB hb BK10
 replace HB := Aside0.mk (below_step (HB.out) hb)
 clear hb
 refine hK.out _ _ ⟨(blk_cell BK5.out 0).trans rfl, (blk_cell BK5.out 1).trans rfl, (blk_cell BK5.out 2).trans rfl, (blk_cell BK6.out 0).trans rfl, (blk_cell BK6.out 1).trans rfl, (blk_cell BK6.out 2).trans rfl, (blk_cell BK7.out 0).trans rfl, (blk_cell BK7.out 1).trans rfl, (blk_cell BK7.out 2).trans rfl⟩ (fun hHeld => ?_)
 clear hK K
 refine norm_ (a' := ?_) ?_ ?_
 rotate_left
 ·show Act.put _ (some 45) _ = _
  simp only [Act.put, List.setIfInBounds_toArray, List.set_cons_zero, List.set_cons_succ, i64_w, i32_w]
  rfl
 refine one_ (i := 23) (N := some 53) (bm 26 16777215) rfl rfl (one_of HT_.out (by kernel_rfl)) (by decide) (fun K hK => ?_)
 refine goesV_ Try.func43 (by kernel_rfl) rfl #[.pointer (some ⟨g8, 0, none⟩), .pointer (some ⟨g9, 0, none⟩)] #[.int .i64 a0_2, .int .i64 a1_2, .int .i64 a2_2] (by rfl) rfl rfl rfl (by (try simp only [List.map_toArray, List.map_cons, List.map_nil]); first | done | rfl | (simp only [List.length_drop, List.length_take]; rfl)) ?_
 with_reducible refine (blend1.calls a0_2 a1_2 a2_2 a3 a4 g8 g9 _ BK8.out BK9.out).mono ?_
 rintro e w21_3 ⟨rfl, hb⟩
 refine ⟨_, rfl, ?_⟩
 replace BK5 := cB hb BK5
 replace BK6 := cB hb BK6
 replace BK7 := cB hb BK7
 replace BK8 := cB hb BK8
 replace BK9 := cB hb BK9
 replace BK10 := cB hb BK10
 replace HB := Aside0.mk (below_step (HB.out) hb)
 clear hb
 refine hK.out _ _ ⟨(blk_cell BK5.out 0).trans rfl, (blk_cell BK5.out 1).trans rfl, (blk_cell BK5.out 2).trans rfl, (blk_cell BK6.out 0).trans rfl, (blk_cell BK6.out 1).trans rfl, (blk_cell BK6.out 2).trans rfl, (blk_cell BK7.out 0).trans rfl, (blk_cell BK7.out 1).trans rfl, (blk_cell BK7.out 2).trans rfl⟩ (fun hHeld => ?_)
 clear hK K
 refine norm_ (a' := ?_) ?_ ?_
 rotate_left
 ·show Act.put _ (some 53) _ = _
  simp only [Act.put, List.setIfInBounds_toArray, List.set_cons_zero, List.set_cons_succ, i64_w, i32_w]
  rfl
 refine pure_ (i := 24) (N := some 54) (v := ?_) (a' := ?_) (bm 26 33554431) rfl rfl (any_of HT_.out (by kernel_rfl)) (fun _ _ _ h => h) (Or.inl ⟨by rfl, ?_⟩) ?_ ?_
 rotate_left
 ·intro w'
  first | (go_simp; with_reducible rfl) | (go_simp; rfl)
 rotate_left
 ·simp only [Act.put, List.setIfInBounds_toArray, List.set_cons_zero, List.set_cons_succ, i64_w, i32_w]
  rfl
 refine last_ (i := 25) (N := none) (bm 26 67108863) rfl rfl (one_of HT_.out (by kernel_rfl)) (by decide) (fun K hK => ?_)
 have hs0 := (blk_cell BK10.out 0).trans (rfl : _ = some (Value.int .i64 0))
 have hf0 := blk_frozen BK10.out 0
 have hs1 := (blk_cell BK10.out 1).trans (rfl : _ = some (Value.int .i64 0))
 have hf1 := blk_frozen BK10.out 1
 have hs2 := (blk_cell BK10.out 2).trans (rfl : _ = some (Value.int .i64 0))
 have hf2 := blk_frozen BK10.out 2
 refine skip_ (w1 := ?_) (by rfl) rfl ?_ ?_
 rotate_left
 ·go_simp
  rfl
 refine hK.out _ _ ?_
 clear hK K
 refine done_ (done_of HT_.out (by kernel_rfl)) ?_
 try go_wp2
 refine bodyPost_ret (results_cell_row rfl _ _ g10 37 #[.int .i64 (partB a0_0 a1_0 a2_0 a3 a4), .int .i64 (partB a0_1 a1_1 a2_1 a3 a4), .int .i64 (partB a0_2 a1_2 a2_2 a3 a4)] (0, 0) _ rfl (blk_put (cs' := #[.int .i64 (partB a0_0 a1_0 a2_0 a3 a4), .int .i64 (partB a0_1 a1_1 a2_1 a3 a4), .int .i64 (partB a0_2 a1_2 a2_2 a3 a4)]) (blk_put (blk_put BK10.out 0 _ rfl) 1 _ rfl) 2 _ rfl) Try.underlying37 rfl (by kernel_rfl)) rfl ?_
 exact ⟨rfl, below_set (below_set (below_set HB.out GE10.out) GE10.out) GE10.out⟩
end Go.Proofs.Ytmhnidmbgicgeaa.G
