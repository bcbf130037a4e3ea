/- The closures of package light, put together. -/
import Derived.Test.YtmhnidmbgicgeaaGx0
import Derived.Test.YtmhnidmbgicgeaaGx4
import Derived.Test.YtmhnidmbgicgeaaGx6
import Derived.Test.YtmhnidmbgicgeaaGx7
import Derived.Test.YtmhnidmbgicgeaaGx10
import Derived.Test.YtmhnidmbgicgeaaGx14
namespace Go.Proofs.Ytmhnidmbgicgeaa.G
open Go.RowKit Go.Proofs.YtmhnidmbgicgeaaW.PrintWords Go.Proofs.YtmhnidmbgicgeaaW.PrintLast Go.Proofs.YtmhnidmbgicgeaaW.PrintMore
set_option linter.unusedVariables false
set_option linter.unusedSimpArgs false
section
variable {P : Program} {ops : Array Oper} {Q : Exit → Act → World → Prop}
theorem goesV_ {oi : Oper} {N : Option Tmp} {a : Act} {w : World} {K : Act → World → Prop} {f : FuncId} {fn : Func} {x : Operand} {xs : Array Operand} {ts : Array TypeId} (hf : P.funcs[f]? = some fn) (hname : (fn.name == "runtime.NumGoroutine") = false) (hb : fn.body.isSome = true) (cap args : Array Value)
    (hw : Region.wanted oi (yielded ops a.tmps) = true) (hN : oi.dst = N) (hop : oi.op = .call { callee := .value x, args := xs, argTypes := ts }) (hx : a.eval x = .func (.func f) #[] cap) (hargs : xs.map a.eval = args)
    (h : Calls P f (args ++ cap) w fun e w' => ∃ v, e = .returned v ∧ K (a.put N v) w') : if Region.wanted oi (yielded ops a.tmps) = true then Oper.wp P oi a w K Q else K (a.put N undef) w := by
  refine call_ f (args ++ cap) hw hN ?_ h
  have he := enters_ hf hname hb (args ++ cap) w
  unfold execOp
  simp [hop, resolve, Deferred.ofValue, invoke, hx, hargs, he]
end
end Go.Proofs.Ytmhnidmbgicgeaa.G

namespace Go.Proofs.Ytmhnidmbgicgeaa.G
open Go.RowKit Go.Proofs.YtmhnidmbgicgeaaW.PrintWords Go.Proofs.YtmhnidmbgicgeaaW.PrintLast Go.Proofs.YtmhnidmbgicgeaaW.PrintMore
attribute [local go_sem] max2_int min2_int max_two min_two max_three min_three max_four min_four
set_option linter.unusedVariables false
set_option linter.unusedSimpArgs false
def light_parts.T1 : Bool × List (List Nat × List Nat) := (true, [([], []), ([], []), ([1], [1]), ([], []), ([3], [3]), ([0, 2, 4], [0, 2, 4]), ([], []), ([], []), ([7], [7]), ([], []), ([9], [9]), ([6, 8, 10, 5], [6, 8, 10]), ([], []), ([], []), ([13], [13]), ([], []), ([15], [15]), ([12, 14, 16, 11], [12, 14, 16]), ([5, 11, 17], [5, 11, 17]), ([18, 17, 0, 1, 2, 3, 4, 5, 6, 7, 8, 9, 10, 11, 12, 13, 14, 15, 16, 17, 18], [18])])
def light_parts.B1 : List Nat := [0, 0, 2, 0, 8, 31, 0, 0, 128, 0, 512, 2047, 0, 0, 8192, 0, 32768, 131071, 262143, 524287]
theorem light_parts.tab1 : rtab .any (opsOf Try.f29 1) = light_parts.T1 := by kernel_rfl
theorem light_parts.bits1 : waitsOk light_parts.T1.2 light_parts.B1 = true := by kernel_rfl
set_option maxHeartbeats 4000000 in
set_option maxRecDepth 100000 in
theorem light_parts.calls (f : FuncId) (fn : Func) (cap : Array Value) (a0 a1 a2 b0 b1 b2 r0 r1 r2 : Int) (w : World) (hf : Try.prog.funcs[f]? = some fn) (hname : (fn.name == "runtime.NumGoroutine") = false) (hbody : fn.body.isSome = true)
    (H0 : ∀ w', Below w.heap.size w w' → Calls Try.prog f (#[.int .i64 a0, .int .i64 b0] ++ cap) w' fun e w'' => e = .returned (.int .i64 r0) ∧ Below w'.heap.size w' w'')
    (H1 : ∀ w', Below w.heap.size w w' → Calls Try.prog f (#[.int .i64 a1, .int .i64 b1] ++ cap) w' fun e w'' => e = .returned (.int .i64 r1) ∧ Below w'.heap.size w' w'')
    (H2 : ∀ w', Below w.heap.size w w' → Calls Try.prog f (#[.int .i64 a2, .int .i64 b2] ++ cap) w' fun e w'' => e = .returned (.int .i64 r2) ∧ Below w'.heap.size w' w'') :
    Calls Try.prog 29 #[.agg #[.int .i64 a0, .int .i64 a1, .int .i64 a2], .agg #[.int .i64 b0, .int .i64 b1, .int .i64 b2], .func (.func f) #[] cap] w fun e w' => e = .returned (.agg #[.int .i64 r0, .int .i64 r1, .int .i64 r2]) ∧ Below w.heap.size w w' := by
 have hu26 := Try.underlying26
 have HB := Aside0.mk (Below.refl w.heap.size w)
 go_enter Try.func29, Try.ntmps29
 go_wp2_with (first
  | ((with_reducible refine gate_dst (N := 3) rfl ?_); refine box_event ?hg (N := 3) ?hd (cs := #[.int .i64 a0, .int .i64 a1, .int .i64 a2]) (t := 26) ?hr ?_; (case hd => rfl); (case hg => rfl); (case hr => first | (go_simp; done) | (go_simp; rfl)); intro g3 hg w4 hbox hb; have BK3 := Aside0.mk (hbox); have GE3 := Aside0.mk (bG hg (HB.out)); replace HB := Aside0.mk (below_step (HB.out) hb); clear hb hbox hg)
  | ((with_reducible refine gate_dst (N := 4) rfl ?_); refine box_event ?hg (N := 4) ?hd (cs := #[.int .i64 b0, .int .i64 b1, .int .i64 b2]) (t := 26) ?hr ?_; (case hd => rfl); (case hg => rfl); (case hr => first | (go_simp; done) | (go_simp; rfl)); intro g4 hg w5 hbox hb; have BK4 := Aside0.mk (hbox); have GE4 := Aside0.mk (bG hg (HB.out)); have N34 := cN hg BK3; have N43 := cM hg BK3; replace HB := Aside0.mk (below_step (HB.out) hb); replace BK3 := cB hb BK3; clear hb hbox hg)
  | ((with_reducible refine gate_dst (N := 6) rfl ?_); refine box_event ?hg (N := 6) ?hd (cs := #[.int .i64 0, .int .i64 0, .int .i64 0]) (t := 26) ?hr ?_; (case hd => rfl); (case hg => rfl); (case hr => first | (go_simp; done) | (go_simp; rfl)); intro g6 hg w6 hbox hb; have BK6 := Aside0.mk (hbox); have GE6 := Aside0.mk (bG hg (HB.out)); have N36 := cN hg BK3; have N63 := cM hg BK3; have N46 := cN hg BK4; have N64 := cM hg BK4; replace HB := Aside0.mk (below_step (HB.out) hb); replace BK3 := cB hb BK3; replace BK4 := cB hb BK4; clear hb hbox hg))
 replace BK3 := Aside0.mk (blk_drew BK3.out)
 replace BK4 := Aside0.mk (blk_drew BK4.out)
 replace BK6 := Aside0.mk (blk_drew BK6.out)
 replace HB := Aside0.mk (below_drew1 HB.out)
 refine start_ (n := 20) (S := fun w' => w'.cell? ⟨g3, 0, none⟩ = some (.int .i64 a0) ∧ w'.cell? ⟨g3, 1, none⟩ = some (.int .i64 a1) ∧ w'.cell? ⟨g3, 2, none⟩ = some (.int .i64 a2) ∧ w'.cell? ⟨g4, 0, none⟩ = some (.int .i64 b0) ∧ w'.cell? ⟨g4, 1, none⟩ = some (.int .i64 b1) ∧ w'.cell? ⟨g4, 2, none⟩ = some (.int .i64 b2)) (ds := [19]) #[false, false, false, false, false, false, false, false, false, false, false, false, false, false, false, false, false, false, false, false] (by kernel_rfl) rfl rfl ⟨(blk_cell BK3.out 0).trans rfl, (blk_cell BK3.out 1).trans rfl, (blk_cell BK3.out 2).trans rfl, (blk_cell BK4.out 0).trans rfl, (blk_cell BK4.out 1).trans rfl, (blk_cell BK4.out 2).trans rfl⟩ (fun hHeld => ?_); refine with_tabW light_parts.tab1 light_parts.bits1 (fun HT_ HW_ => ?_)
 generalize w6.drew = w7 at BK3 BK4 BK6 HB hHeld ⊢
 refine pure_ (i := 0) (N := some 7) (v := ?_) (a' := ?_) (bm 20 1) rfl rfl (any_of HT_.out (by kernel_rfl)) (fun _ _ _ h => h) (Or.inl ⟨by rfl, ?_⟩) ?_ ?_
 rotate_left
 ·intro w'
  go_simp
  with_reducible rfl
 rotate_left
 ·simp only [Act.put, List.setIfInBounds_toArray, List.set_cons_zero, List.set_cons_succ, i64_w, i32_w]
  rfl
 refine pure_ (i := 1) (N := some 8) (v := ?_) (a' := ?_) (bm 20 3) rfl rfl (any_of HT_.out (by kernel_rfl)) (fun _ _ _ h => h) (Or.inl ⟨by rfl, ?_⟩) ?_ ?_
 rotate_left
 ·intro w'
  go_simp
  with_reducible rfl
 rotate_left
 ·simp only [Act.put, List.setIfInBounds_toArray, List.set_cons_zero, List.set_cons_succ, i64_w, i32_w]
  rfl
 refine pure_ (i := 3) (N := some 10) (v := ?_) (a' := ?_) (bm 20 11) rfl rfl (any_of HT_.out (by kernel_rfl)) (fun _ _ _ h => h) (Or.inl ⟨by rfl, ?_⟩) ?_ ?_
 rotate_left
 ·intro w'
  go_simp
  with_reducible rfl
 rotate_left
 ·simp only [Act.put, List.setIfInBounds_toArray, List.set_cons_zero, List.set_cons_succ, i64_w, i32_w]
  rfl
 refine pure_ (i := 6) (N := some 13) (v := ?_) (a' := ?_) (bm 20 75) rfl rfl (any_of HT_.out (by kernel_rfl)) (fun _ _ _ h => h) (Or.inl ⟨by rfl, ?_⟩) ?_ ?_
 rotate_left
 ·intro w'
  go_simp
  with_reducible rfl
 rotate_left
 ·simp only [Act.put, List.setIfInBounds_toArray, List.set_cons_zero, List.set_cons_succ, i64_w, i32_w]
  rfl
 refine pure_ (i := 7) (N := some 14) (v := ?_) (a' := ?_) (bm 20 203) rfl rfl (any_of HT_.out (by kernel_rfl)) (fun _ _ _ h => h) (Or.inl ⟨by rfl, ?_⟩) ?_ ?_
 rotate_left
 ·intro w'
  go_simp
  with_reducible rfl
 rotate_left
 ·simp only [Act.put, List.setIfInBounds_toArray, List.set_cons_zero, List.set_cons_succ, i64_w, i32_w]
  rfl
 refine pure_ (i := 9) (N := some 16) (v := ?_) (a' := ?_) (bm 20 715) rfl rfl (any_of HT_.out (by kernel_rfl)) (fun _ _ _ h => h) (Or.inl ⟨by rfl, ?_⟩) ?_ ?_
 rotate_left
 ·intro w'
  go_simp
  with_reducible rfl
 rotate_left
 ·simp only [Act.put, List.setIfInBounds_toArray, List.set_cons_zero, List.set_cons_succ, i64_w, i32_w]
  rfl
 refine pure_ (i := 12) (N := some 19) (v := ?_) (a' := ?_) (bm 20 4811) rfl rfl (any_of HT_.out (by kernel_rfl)) (fun _ _ _ h => h) (Or.inl ⟨by rfl, ?_⟩) ?_ ?_
 rotate_left
 ·intro w'
  go_simp
  with_reducible rfl
 rotate_left
 ·simp only [Act.put, List.setIfInBounds_toArray, List.set_cons_zero, List.set_cons_succ, i64_w, i32_w]
  rfl
 refine pure_ (i := 13) (N := some 20) (v := ?_) (a' := ?_) (bm 20 13003) rfl rfl (any_of HT_.out (by kernel_rfl)) (fun _ _ _ h => h) (Or.inl ⟨by rfl, ?_⟩) ?_ ?_
 rotate_left
 ·intro w'
  go_simp
  with_reducible rfl
 rotate_left
 ·simp only [Act.put, List.setIfInBounds_toArray, List.set_cons_zero, List.set_cons_succ, i64_w, i32_w]
  rfl
 refine pure_ (i := 15) (N := some 22) (v := ?_) (a' := ?_) (bm 20 45771) rfl rfl (any_of HT_.out (by kernel_rfl)) (fun _ _ _ h => h) (Or.inl ⟨by rfl, ?_⟩) ?_ ?_
 rotate_left
 ·intro w'
  go_simp
  with_reducible rfl
 rotate_left
 ·simp only [Act.put, List.setIfInBounds_toArray, List.set_cons_zero, List.set_cons_succ, i64_w, i32_w]
  rfl
 refine take_ (i := 2) (N := some 9) (v := ?_) (a' := ?_) (bm 20 45775) rfl rfl (take_ofW HT_.out HW_.out (by kernel_rfl)) (fun _ _ _ h => h) (Or.inl ⟨by rfl, ?_⟩) hHeld ?_ ?_
 rotate_left
 ·rintro w' ⟨s0, s1, s2, s3, s4, s5⟩
  go_simp
  with_reducible rfl
 rotate_left
 ·simp only [Act.put, List.setIfInBounds_toArray, List.set_cons_zero, List.set_cons_succ, i64_w, i32_w]
  rfl
 refine take_ (i := 4) (N := some 11) (v := ?_) (a' := ?_) (bm 20 45791) rfl rfl (take_ofW HT_.out HW_.out (by kernel_rfl)) (fun _ _ _ h => h) (Or.inl ⟨by rfl, ?_⟩) hHeld ?_ ?_
 rotate_left
 ·rintro w' ⟨s0, s1, s2, s3, s4, s5⟩
  go_simp
  with_reducible rfl
 rotate_left
 ·simp only [Act.put, List.setIfInBounds_toArray, List.set_cons_zero, List.set_cons_succ, i64_w, i32_w]
  rfl
 refine take_ (i := 8) (N := some 15) (v := ?_) (a' := ?_) (bm 20 46047) rfl rfl (take_ofW HT_.out HW_.out (by kernel_rfl)) (fun _ _ _ h => h) (Or.inl ⟨by rfl, ?_⟩) hHeld ?_ ?_
 rotate_left
 ·rintro w' ⟨s0, s1, s2, s3, s4, s5⟩
  go_simp
  with_reducible rfl
 rotate_left
 ·simp only [Act.put, List.setIfInBounds_toArray, List.set_cons_zero, List.set_cons_succ, i64_w, i32_w]
  rfl
 refine take_ (i := 10) (N := some 17) (v := ?_) (a' := ?_) (bm 20 47071) rfl rfl (take_ofW HT_.out HW_.out (by kernel_rfl)) (fun _ _ _ h => h) (Or.inl ⟨by rfl, ?_⟩) hHeld ?_ ?_
 rotate_left
 ·rintro w' ⟨s0, s1, s2, s3, s4, s5⟩
  go_simp
  with_reducible rfl
 rotate_left
 ·simp only [Act.put, List.setIfInBounds_toArray, List.set_cons_zero, List.set_cons_succ, i64_w, i32_w]
  rfl
 refine take_ (i := 14) (N := some 21) (v := ?_) (a' := ?_) (bm 20 63455) rfl rfl (take_ofW HT_.out HW_.out (by kernel_rfl)) (fun _ _ _ h => h) (Or.inl ⟨by rfl, ?_⟩) hHeld ?_ ?_
 rotate_left
 ·rintro w' ⟨s0, s1, s2, s3, s4, s5⟩
  go_simp
  with_reducible rfl
 rotate_left
 ·simp only [Act.put, List.setIfInBounds_toArray, List.set_cons_zero, List.set_cons_succ, i64_w, i32_w]
  rfl
 refine take_ (i := 16) (N := some 23) (v := ?_) (a' := ?_) (bm 20 128991) rfl rfl (take_ofW HT_.out HW_.out (by kernel_rfl)) (fun _ _ _ h => h) (Or.inl ⟨by rfl, ?_⟩) hHeld ?_ ?_
 rotate_left
 ·rintro w' ⟨s0, s1, s2, s3, s4, s5⟩
  go_simp
  with_reducible rfl
 rotate_left
 ·simp only [Act.put, List.setIfInBounds_toArray, List.set_cons_zero, List.set_cons_succ, i64_w, i32_w]
  rfl
 refine one_ (i := 5) (N := some 12) (bm 20 129023) rfl rfl (one_of HT_.out (by kernel_rfl)) (by decide) (fun K hK => ?_)
 refine goesV_ hf hname hbody cap #[.int .i64 a0, .int .i64 b0] (by rfl) rfl rfl rfl (by (try simp only [List.map_toArray, List.map_cons, List.map_nil]); first | done | rfl | (simp only [List.length_drop, List.length_take]; rfl)) ?_
 with_reducible refine (H0 _ HB.out).mono ?_
 rintro e w7_1 ⟨rfl, hb⟩
 refine ⟨_, rfl, ?_⟩
 replace BK3 := cB hb BK3
 replace BK4 := cB hb BK4
 replace BK6 := cB hb BK6
 replace HB := Aside0.mk (below_step (HB.out) hb)
 clear hb
 refine hK.out _ _ ⟨(blk_cell BK3.out 0).trans rfl, (blk_cell BK3.out 1).trans rfl, (blk_cell BK3.out 2).trans rfl, (blk_cell BK4.out 0).trans rfl, (blk_cell BK4.out 1).trans rfl, (blk_cell BK4.out 2).trans rfl⟩ (fun hHeld => ?_)
 clear hK K
 refine norm_ (a' := ?_) ?_ ?_
 rotate_left
 ·show Act.put _ (some 12) _ = _
  simp only [Act.put, List.setIfInBounds_toArray, List.set_cons_zero, List.set_cons_succ, i64_w, i32_w]
  rfl
 refine one_ (i := 11) (N := some 18) (bm 20 131071) rfl rfl (one_of HT_.out (by kernel_rfl)) (by decide) (fun K hK => ?_)
 refine goesV_ hf hname hbody cap #[.int .i64 a1, .int .i64 b1] (by rfl) rfl rfl rfl (by (try simp only [List.map_toArray, List.map_cons, List.map_nil]); first | done | rfl | (simp only [List.length_drop, List.length_take]; rfl)) ?_
 with_reducible refine (H1 _ HB.out).mono ?_
 rintro e w7_2 ⟨rfl, hb⟩
 refine ⟨_, rfl, ?_⟩
 replace BK3 := cB hb BK3
 replace BK4 := cB hb BK4
 replace BK6 := cB hb BK6
 replace HB := Aside0.mk (below_step (HB.out) hb)
 clear hb
 refine hK.out _ _ ⟨(blk_cell BK3.out 0).trans rfl, (blk_cell BK3.out 1).trans rfl, (blk_cell BK3.out 2).trans rfl, (blk_cell BK4.out 0).trans rfl, (blk_cell BK4.out 1).trans rfl, (blk_cell BK4.out 2).trans rfl⟩ (fun hHeld => ?_)
 clear hK K
 refine norm_ (a' := ?_) ?_ ?_
 rotate_left
 ·show Act.put _ (some 18) _ = _
  simp only [Act.put, List.setIfInBounds_toArray, List.set_cons_zero, List.set_cons_succ, i64_w, i32_w]
  rfl
 refine one_ (i := 17) (N := some 24) (bm 20 262143) rfl rfl (one_of HT_.out (by kernel_rfl)) (by decide) (fun K hK => ?_)
 refine goesV_ hf hname hbody cap #[.int .i64 a2, .int .i64 b2] (by rfl) rfl rfl rfl (by (try simp only [List.map_toArray, List.map_cons, List.map_nil]); first | done | rfl | (simp only [List.length_drop, List.length_take]; rfl)) ?_
 with_reducible refine (H2 _ HB.out).mono ?_
 rintro e w7_3 ⟨rfl, hb⟩
 refine ⟨_, rfl, ?_⟩
 replace BK3 := cB hb BK3
 replace BK4 := cB hb BK4
 replace BK6 := cB hb BK6
 replace HB := Aside0.mk (below_step (HB.out) hb)
 clear hb
 refine hK.out _ _ ⟨(blk_cell BK3.out 0).trans rfl, (blk_cell BK3.out 1).trans rfl, (blk_cell BK3.out 2).trans rfl, (blk_cell BK4.out 0).trans rfl, (blk_cell BK4.out 1).trans rfl, (blk_cell BK4.out 2).trans rfl⟩ (fun hHeld => ?_)
 clear hK K
 refine norm_ (a' := ?_) ?_ ?_
 rotate_left
 ·show Act.put _ (some 24) _ = _
  simp only [Act.put, List.setIfInBounds_toArray, List.set_cons_zero, List.set_cons_succ, i64_w, i32_w]
  rfl
 refine pure_ (i := 18) (N := some 25) (v := ?_) (a' := ?_) (bm 20 524287) rfl rfl (any_of HT_.out (by kernel_rfl)) (fun _ _ _ h => h) (Or.inl ⟨by rfl, ?_⟩) ?_ ?_
 rotate_left
 ·intro w'
  first | (go_simp; with_reducible rfl) | (go_simp; rfl)
 rotate_left
 ·simp only [Act.put, List.setIfInBounds_toArray, List.set_cons_zero, List.set_cons_succ, i64_w, i32_w]
  rfl
 refine last_ (i := 19) (N := none) (bm 20 1048575) rfl rfl (one_of HT_.out (by kernel_rfl)) (by decide) (fun K hK => ?_)
 have hs0 := (blk_cell BK6.out 0).trans (rfl : _ = some (Value.int .i64 0))
 have hf0 := blk_frozen BK6.out 0
 have hs1 := (blk_cell BK6.out 1).trans (rfl : _ = some (Value.int .i64 0))
 have hf1 := blk_frozen BK6.out 1
 have hs2 := (blk_cell BK6.out 2).trans (rfl : _ = some (Value.int .i64 0))
 have hf2 := blk_frozen BK6.out 2
 refine skip_ (w1 := ?_) (by rfl) rfl ?_ ?_
 rotate_left
 ·go_simp
  rfl
 refine hK.out _ _ ?_
 clear hK K
 refine done_ (done_of HT_.out (by kernel_rfl)) ?_
 try go_wp2
 refine bodyPost_ret (results_cell_row rfl _ _ g6 26 #[.int .i64 r0, .int .i64 r1, .int .i64 r2] (0, 0) _ rfl (blk_put (cs' := #[.int .i64 r0, .int .i64 r1, .int .i64 r2]) (blk_put (blk_put BK6.out 0 _ rfl) 1 _ rfl) 2 _ rfl) Try.underlying26 rfl (by kernel_rfl)) rfl ?_
 exact ⟨rfl, below_set (below_set (below_set HB.out GE6.out) GE6.out) GE6.out⟩
end Go.Proofs.Ytmhnidmbgicgeaa.G

namespace Go.Proofs.Ytmhnidmbgicgeaa.G
open Go.RowKit Go.Proofs.YtmhnidmbgicgeaaW.PrintWords Go.Proofs.YtmhnidmbgicgeaaW.PrintLast Go.Proofs.YtmhnidmbgicgeaaW.PrintMore
attribute [local go_sem] max2_int min2_int max_two min_two max_three min_three max_four min_four
set_option linter.unusedVariables false
set_option linter.unusedSimpArgs false
def light_Reflect.T3 : Bool × List (List Nat × List Nat) := (true, [([], []), ([], []), ([0, 1], [0, 1]), ([], []), ([], []), ([3, 4, 2], [3, 4]), ([], []), ([], []), ([6, 2, 5, 0, 1, 2, 6, 7], [2, 6]), ([7, 5, 8, 0, 1, 2, 3, 4, 5, 6, 7, 8], [5, 7])])
def light_Reflect.B3 : List Nat := [0, 0, 3, 0, 0, 31, 0, 0, 255, 511]
theorem light_Reflect.tab3 : rtab .any (opsOf Try.f14 3) = light_Reflect.T3 := by kernel_rfl
theorem light_Reflect.bits3 : waitsOk light_Reflect.T3.2 light_Reflect.B3 = true := by kernel_rfl

theorem floor_below (n d r : Int) (w : World) (h : light_floor.f n d = some r) : Calls Try.prog 31 #[.int .i64 n, .int .i64 d] w fun e w' => e = .returned (.int .i64 r) ∧ Below w.heap.size w w' :=
  (light_floor.calls n d r w h).mono fun e w' hh => ⟨hh.1, by obtain ⟨n, hn⟩ := hh.2.out; rw [hn]; exact pw_below_drewN (Below.refl _ _) n⟩
theorem reflect1.calls (d n q e : Int) (gq ge : Nat) (r : Int) (w : World) (h5 : w.heap[gq]? = some (.cells #[.int .i64 q] 3 (0, 0))) (h6 : w.heap[ge]? = some (.cells #[.int .i64 e] 3 (0, 0)))
    (h : light_floor.f (wrap64 (wrap64 (d * q) - wrap64 (wrap64 (2 * n) * e))) q = some r) :
    Calls Try.prog 30 (#[.int .i64 d, .int .i64 n] ++ #[.pointer (some ⟨gq, 0, none⟩), .pointer (some ⟨ge, 0, none⟩)]) w fun e w' => e = .returned (.int .i64 r) ∧ Below w.heap.size w w' := by
 show Calls Try.prog 30 #[.int .i64 d, .int .i64 n, .pointer (some ⟨gq, 0, none⟩), .pointer (some ⟨ge, 0, none⟩)] w _
 have k5 := (blk_cell h5 0).trans (rfl : _ = some (Value.int .i64 q))
 have k6 := (blk_cell h6 0).trans (rfl : _ = some (Value.int .i64 e))
 have FL := fun w => floor_below _ _ r w h
 have HB := Aside0.mk (Below.refl w.heap.size w)
 clear h h5 h6
 go_enter Try.func30, Try.ntmps30
 go_wp2_with (first | (go_at_call 31; (with_reducible refine (FL _).mono ?_); rintro e' w1 ⟨rfl, hb⟩; replace HB := Aside0.mk (below_step (HB.out) hb); clear hb))
 go_ret
 exact ⟨rfl, HB.out⟩
def light_Reflect.f (k : Nat) (a0_0 a0_1 a0_2 a1_0 a1_1 a1_2 : Int) : Option (Int × Int × Int) :=
  (light_fine.f a0_0 a0_1 a0_2 a1_0 a1_1 a1_2).bind fun t => if t = true then (vec_Dot.f a1_0 a1_1 a1_2 a1_0 a1_1 a1_2).bind fun q => (vec_Dot.f a0_0 a0_1 a0_2 a1_0 a1_1 a1_2).bind fun e => (light_floor.f (wrap64 (wrap64 (a0_0 * q) - wrap64 (wrap64 (2 * a1_0) * e))) q).bind fun x => (light_floor.f (wrap64 (wrap64 (a0_1 * q) - wrap64 (wrap64 (2 * a1_1) * e))) q).bind fun y => (light_floor.f (wrap64 (wrap64 (a0_2 * q) - wrap64 (wrap64 (2 * a1_2) * e))) q).bind fun z => vec_Cut.f k x y z 32768 else some (0, 0, 0)
theorem light_Reflect.mono : ∀ a0_0 a0_1 a0_2 a1_0 a1_1 a1_2 k, LeO (light_Reflect.f k a0_0 a0_1 a0_2 a1_0 a1_1 a1_2) (light_Reflect.f (k + 1) a0_0 a0_1 a0_2 a1_0 a1_1 a1_2) := by
  intro a0_0 a0_1 a0_2 a1_0 a1_1 a1_2 k
  unfold light_Reflect.f
  repeat' first
      | (with_reducible exact vec_Cut.mono _ _ _ _ _)
      | (with_reducible exact LeO.refl _)
      | (with_reducible exact LeO.none _)
      | (with_reducible refine LeO.ite ?_ ?_)
      | (with_reducible refine LeO.bind ?_ (fun _ => ?_))
set_option maxHeartbeats 4000000 in
set_option maxRecDepth 100000 in
theorem light_Reflect.calls (k : Nat) (a0_0 a0_1 a0_2 a1_0 a1_1 a1_2 : Int) (r1 r2 r3 : Int) (w : World) (h : light_Reflect.f k a0_0 a0_1 a0_2 a1_0 a1_1 a1_2 = some (r1, r2, r3)) :
    Calls Try.prog 14 #[.agg #[.int .i64 a0_0, .int .i64 a0_1, .int .i64 a0_2], .agg #[.int .i64 a1_0, .int .i64 a1_1, .int .i64 a1_2]] w fun e w' => e = .returned (.agg #[.int .i64 r1, .int .i64 r2, .int .i64 r3]) ∧ Below w.heap.size w w' := by
 have hu26 := Try.underlying26
 have hu3 := Try.underlying3
 have hmf : ∀ (fn : Fn) (first cap : Array Value) (w : World), (Instr.makeFunc fn first cap).run Try.prog w = .ok (.func fn first cap) w := fun _ _ _ _ => rfl
 unfold light_Reflect.f at h
 replace h := Option.bind_eq_some_iff.mp h
 obtain ⟨t, ht, h⟩ := h
 have CF := fun w => light_fine.calls a0_0 a0_1 a0_2 a1_0 a1_1 a1_2 t w ht
 have HB := Aside0.mk (Below.refl w.heap.size w)
 clear ht
 cases t
 · rw [if_neg (by decide)] at h
   obtain ⟨rfl, rfl, rfl⟩ : r1 = 0 ∧ r2 = 0 ∧ r3 = 0 := by simpa [eq_comm] using h
   clear h
   go_enter Try.func14, Try.ntmps14
   go_wp2_with (first
  | ((with_reducible refine gate_dst (N := 2) rfl ?_); refine box_event ?hg (N := 2) ?hd (cs := #[.int .i64 a0_0, .int .i64 a0_1, .int .i64 a0_2]) (t := 26) ?hr ?_; (case hd => rfl); (case hg => rfl); (case hr => first | (go_simp; done) | (go_simp; rfl)); intro g2 hg w4 hbox hb; have BK2 := Aside0.mk (hbox); have GE2 := Aside0.mk (bG hg (HB.out)); replace HB := Aside0.mk (below_step (HB.out) hb); clear hb hbox hg)
  | ((with_reducible refine gate_dst (N := 3) rfl ?_); refine box_event ?hg (N := 3) ?hd (cs := #[.int .i64 a1_0, .int .i64 a1_1, .int .i64 a1_2]) (t := 26) ?hr ?_; (case hd => rfl); (case hg => rfl); (case hr => first | (go_simp; done) | (go_simp; rfl)); intro g3 hg w5 hbox hb; have BK3 := Aside0.mk (hbox); have GE3 := Aside0.mk (bG hg (HB.out)); have N23 := cN hg BK2; have N32 := cM hg BK2; replace HB := Aside0.mk (below_step (HB.out) hb); replace BK2 := cB hb BK2; clear hb hbox hg)
  | ((with_reducible refine gate_dst (N := 4) rfl ?_); refine box_event ?hg (N := 4) ?hd (cs := #[.int .i64 0, .int .i64 0, .int .i64 0]) (t := 26) ?hr ?_; (case hd => rfl); (case hg => rfl); (case hr => first | (go_simp; done) | (go_simp; rfl)); intro g4 hg w6 hbox hb; have BK4 := Aside0.mk (hbox); have GE4 := Aside0.mk (bG hg (HB.out)); have N24 := cN hg BK2; have N42 := cM hg BK2; have N34 := cN hg BK3; have N43 := cM hg BK3; replace HB := Aside0.mk (below_step (HB.out) hb); replace BK2 := cB hb BK2; replace BK3 := cB hb BK3; clear hb hbox hg; obtain ⟨k0, k1, k2⟩ := cells3 BK2.out; obtain ⟨l0, l1, l2⟩ := cells3 BK3.out)
  | (go_at_call 27; (with_reducible refine (CF _).mono ?_); rintro e w8 ⟨rfl, hb⟩; replace BK2 := cB hb BK2; replace BK3 := cB hb BK3; replace BK4 := cB hb BK4; replace HB := Aside0.mk (below_step (HB.out) hb); clear hb; have m0 := (blk_cell BK4.out 0).trans (rfl : _ = some (Value.int .i64 0)); have mf0 := blk_frozen BK4.out 0; have m1 := (blk_cell BK4.out 1).trans (rfl : _ = some (Value.int .i64 0)); have mf1 := blk_frozen BK4.out 1; have m2 := (blk_cell BK4.out 2).trans (rfl : _ = some (Value.int .i64 0)); have mf2 := blk_frozen BK4.out 2))
   refine bodyPost_ret (results_cell_row rfl _ _ g4 26 #[.int .i64 0, .int .i64 0, .int .i64 0] (0, 0) _ rfl (blk_put (cs' := #[.int .i64 0, .int .i64 0, .int .i64 0]) (blk_put (blk_put BK4.out 0 _ rfl) 1 _ rfl) 2 _ rfl) Try.underlying26 rfl (by kernel_rfl)) rfl ?_
   exact ⟨rfl, below_set (below_set (below_set HB.out GE4.out) GE4.out) GE4.out⟩
 · rw [if_pos rfl] at h
   replace h := Option.bind_eq_some_iff.mp h
   obtain ⟨q, hq, h⟩ := h
   replace h := Option.bind_eq_some_iff.mp h
   obtain ⟨e, he, h⟩ := h
   replace h := Option.bind_eq_some_iff.mp h
   obtain ⟨x, hx, h⟩ := h
   replace h := Option.bind_eq_some_iff.mp h
   obtain ⟨y, hy, h⟩ := h
   replace h := Option.bind_eq_some_iff.mp h
   obtain ⟨z, hz, h⟩ := h
   have CQ := fun w => vec_Dot.calls a1_0 a1_1 a1_2 a1_0 a1_1 a1_2 q w hq
   have CE := fun w => vec_Dot.calls a0_0 a0_1 a0_2 a1_0 a1_1 a1_2 e w he
   have CC := fun w => vec_Cut.calls k x y z 32768 r1 r2 r3 w h
   clear hq he h
   go_enter Try.func14, Try.ntmps14
   go_wp2_with (first
  | ((with_reducible refine gate_dst (N := 2) rfl ?_); refine box_event ?hg (N := 2) ?hd (cs := #[.int .i64 a0_0, .int .i64 a0_1, .int .i64 a0_2]) (t := 26) ?hr ?_; (case hd => rfl); (case hg => rfl); (case hr => first | (go_simp; done) | (go_simp; rfl)); intro g2 hg w4 hbox hb; have BK2 := Aside0.mk (hbox); have GE2 := Aside0.mk (bG hg (HB.out)); replace HB := Aside0.mk (below_step (HB.out) hb); clear hb hbox hg)
  | ((with_reducible refine gate_dst (N := 3) rfl ?_); refine box_event ?hg (N := 3) ?hd (cs := #[.int .i64 a1_0, .int .i64 a1_1, .int .i64 a1_2]) (t := 26) ?hr ?_; (case hd => rfl); (case hg => rfl); (case hr => first | (go_simp; done) | (go_simp; rfl)); intro g3 hg w5 hbox hb; have BK3 := Aside0.mk (hbox); have GE3 := Aside0.mk (bG hg (HB.out)); have N23 := cN hg BK2; have N32 := cM hg BK2; replace HB := Aside0.mk (below_step (HB.out) hb); replace BK2 := cB hb BK2; clear hb hbox hg)
  | ((with_reducible refine gate_dst (N := 4) rfl ?_); refine box_event ?hg (N := 4) ?hd (cs := #[.int .i64 0, .int .i64 0, .int .i64 0]) (t := 26) ?hr ?_; (case hd => rfl); (case hg => rfl); (case hr => first | (go_simp; done) | (go_simp; rfl)); intro g4 hg w6 hbox hb; have BK4 := Aside0.mk (hbox); have GE4 := Aside0.mk (bG hg (HB.out)); have N24 := cN hg BK2; have N42 := cM hg BK2; have N34 := cN hg BK3; have N43 := cM hg BK3; replace HB := Aside0.mk (below_step (HB.out) hb); replace BK2 := cB hb BK2; replace BK3 := cB hb BK3; clear hb hbox hg; obtain ⟨k0, k1, k2⟩ := cells3 BK2.out; obtain ⟨l0, l1, l2⟩ := cells3 BK3.out)
  | (go_at_call 27; (with_reducible refine (CF _).mono ?_); rintro e w8 ⟨rfl, hb⟩; replace BK2 := cB hb BK2; replace BK3 := cB hb BK3; replace BK4 := cB hb BK4; replace HB := Aside0.mk (below_step (HB.out) hb); clear hb; have m0 := (blk_cell BK4.out 0).trans (rfl : _ = some (Value.int .i64 0)); have mf0 := blk_frozen BK4.out 0; have m1 := (blk_cell BK4.out 1).trans (rfl : _ = some (Value.int .i64 0)); have mf1 := blk_frozen BK4.out 1; have m2 := (blk_cell BK4.out 2).trans (rfl : _ = some (Value.int .i64 0)); have mf2 := blk_frozen BK4.out 2))
   replace BK2 := Aside0.mk (blk_drew BK2.out)
   replace BK3 := Aside0.mk (blk_drew BK3.out)
   replace BK4 := Aside0.mk (blk_drew BK4.out)
   replace HB := Aside0.mk (below_drew1 HB.out)
   refine start_ (n := 10) (S := fun w' => w'.cell? ⟨g2, 0, none⟩ = some (.int .i64 a0_0) ∧ w'.cell? ⟨g2, 1, none⟩ = some (.int .i64 a0_1) ∧ w'.cell? ⟨g2, 2, none⟩ = some (.int .i64 a0_2) ∧ w'.cell? ⟨g3, 0, none⟩ = some (.int .i64 a1_0) ∧ w'.cell? ⟨g3, 1, none⟩ = some (.int .i64 a1_1) ∧ w'.cell? ⟨g3, 2, none⟩ = some (.int .i64 a1_2)) (ds := []) #[false, false, false, false, false, false, false, false, false, false] (by kernel_rfl) rfl rfl ⟨(blk_cell BK2.out 0).trans rfl, (blk_cell BK2.out 1).trans rfl, (blk_cell BK2.out 2).trans rfl, (blk_cell BK3.out 0).trans rfl, (blk_cell BK3.out 1).trans rfl, (blk_cell BK3.out 2).trans rfl⟩ (fun hHeld => ?_); refine with_tabW light_Reflect.tab3 light_Reflect.bits3 (fun HT_ HW_ => ?_)
   generalize w8.drew = w9 at BK2 BK3 BK4 HB hHeld ⊢
   refine take_ (i := 0) (N := some 12) (v := ?_) (a' := ?_) (bm 10 1) rfl rfl (take_ofW HT_.out HW_.out (by kernel_rfl)) (fun _ _ _ h => h) (Or.inl ⟨by rfl, ?_⟩) hHeld ?_ ?_
   rotate_left
   ·rintro w' ⟨s0, s1, s2, s3, s4, s5⟩
    go_simp
    with_reducible rfl
   rotate_left
   ·simp only [Act.put, List.setIfInBounds_toArray, List.set_cons_zero, List.set_cons_succ, i64_w, i32_w]
    rfl
   refine take_ (i := 1) (N := some 13) (v := ?_) (a' := ?_) (bm 10 3) rfl rfl (take_ofW HT_.out HW_.out (by kernel_rfl)) (fun _ _ _ h => h) (Or.inl ⟨by rfl, ?_⟩) hHeld ?_ ?_
   rotate_left
   ·rintro w' ⟨s0, s1, s2, s3, s4, s5⟩
    go_simp
    with_reducible rfl
   rotate_left
   ·simp only [Act.put, List.setIfInBounds_toArray, List.set_cons_zero, List.set_cons_succ, i64_w, i32_w]
    rfl
   refine take_ (i := 3) (N := some 15) (v := ?_) (a' := ?_) (bm 10 11) rfl rfl (take_ofW HT_.out HW_.out (by kernel_rfl)) (fun _ _ _ h => h) (Or.inl ⟨by rfl, ?_⟩) hHeld ?_ ?_
   rotate_left
   ·rintro w' ⟨s0, s1, s2, s3, s4, s5⟩
    go_simp
    with_reducible rfl
   rotate_left
   ·simp only [Act.put, List.setIfInBounds_toArray, List.set_cons_zero, List.set_cons_succ, i64_w, i32_w]
    rfl
   refine take_ (i := 4) (N := some 16) (v := ?_) (a' := ?_) (bm 10 27) rfl rfl (take_ofW HT_.out HW_.out (by kernel_rfl)) (fun _ _ _ h => h) (Or.inl ⟨by rfl, ?_⟩) hHeld ?_ ?_
   rotate_left
   ·rintro w' ⟨s0, s1, s2, s3, s4, s5⟩
    go_simp
    with_reducible rfl
   rotate_left
   ·simp only [Act.put, List.setIfInBounds_toArray, List.set_cons_zero, List.set_cons_succ, i64_w, i32_w]
    rfl
   refine join_ (σ := Nat × Nat) 2 (bm 10 255) (fun s_ => [(14, .int .i64 q), (17, .int .i64 e), (5, .pointer (some ⟨s_.1, 0, none⟩)), (6, .pointer (some ⟨s_.2, 0, none⟩))]) (fun s_ w' => (w'.cell? ⟨g2, 0, none⟩ = some (.int .i64 a0_0) ∧ w'.cell? ⟨g2, 1, none⟩ = some (.int .i64 a0_1) ∧ w'.cell? ⟨g2, 2, none⟩ = some (.int .i64 a0_2) ∧ w'.cell? ⟨g3, 0, none⟩ = some (.int .i64 a1_0) ∧ w'.cell? ⟨g3, 1, none⟩ = some (.int .i64 a1_1) ∧ w'.cell? ⟨g3, 2, none⟩ = some (.int .i64 a1_2)) ∧ (w'.heap[g2]? = some (.cells #[.int .i64 a0_0, .int .i64 a0_1, .int .i64 a0_2] 26 (0, 0))) ∧ (w'.heap[g3]? = some (.cells #[.int .i64 a1_0, .int .i64 a1_1, .int .i64 a1_2] 26 (0, 0))) ∧ (w'.heap[g4]? = some (.cells #[.int .i64 0, .int .i64 0, .int .i64 0] 26 (0, 0))) ∧ (w'.heap[s_.1]? = some (.cells #[.int .i64 0] 3 (0, 0))) ∧ (w'.heap[s_.2]? = some (.cells #[.int .i64 0] 3 (0, 0))) ∧ (w.heap.size ≤ s_.1) ∧ (w.heap.size ≤ s_.2) ∧ (g2 ≠ s_.1) ∧ (s_.1 ≠ g2) ∧ (g3 ≠ s_.1) ∧ (s_.1 ≠ g3) ∧ (g4 ≠ s_.1) ∧ (s_.1 ≠ g4) ∧ (g2 ≠ s_.2) ∧ (s_.2 ≠ g2) ∧ (g3 ≠ s_.2) ∧ (s_.2 ≠ g3) ∧ (g4 ≠ s_.2) ∧ (s_.2 ≠ g4) ∧ (s_.1 ≠ s_.2) ∧ (s_.2 ≠ s_.1) ∧ (Below w.heap.size w w')) ?_ ?_
   rotate_left
   ·intro hCont
    refine three_ (i := 2) (j := 6) (k := 7) (Ni := some 14) (Nj := some 5) (Nk := some 6) (bm 10 31) (bm 10 91) (bm 10 155) rfl rfl rfl rfl rfl rfl (three_of HT_.out (by kernel_rfl)) (by decide) (by decide) (by decide) (fun K hK => ?_) (fun K hK => ?_) (fun K hK => ?_)
    ·skip
     refine goes_ Try.func16 (by kernel_rfl) rfl #[.agg #[.int .i64 a1_0, .int .i64 a1_1, .int .i64 a1_2], .agg #[.int .i64 a1_0, .int .i64 a1_1, .int .i64 a1_2]] (by rfl) rfl rfl (by (try simp only [List.map_toArray, List.map_cons, List.map_nil]); first | done | rfl | (simp only [List.length_drop, List.length_take]; rfl)) ?_
     with_reducible refine (CQ _).mono ?_
     rintro e w9_1 ⟨rfl, hb⟩
     refine ⟨_, rfl, ?_⟩
     replace BK2 := cB hb BK2
     replace BK3 := cB hb BK3
     replace BK4 := cB hb BK4
     replace HB := Aside0.mk (below_step (HB.out) hb)
     clear hb
     refine hK.out _ _ ⟨(blk_cell BK2.out 0).trans rfl, (blk_cell BK2.out 1).trans rfl, (blk_cell BK2.out 2).trans rfl, (blk_cell BK3.out 0).trans rfl, (blk_cell BK3.out 1).trans rfl, (blk_cell BK3.out 2).trans rfl⟩ (fun hHeld => ?_)
     clear hK K
     refine norm_ (a' := ?_) ?_ ?_
     rotate_left
     ·show Act.put _ (some 14) _ = _
      simp only [Act.put, List.setIfInBounds_toArray, List.set_cons_zero, List.set_cons_succ, i64_w, i32_w]
      rfl
     refine three_ (i := 5) (j := 6) (k := 7) (Ni := some 17) (Nj := some 5) (Nk := some 6) (bm 10 63) (bm 10 95) (bm 10 159) rfl rfl rfl rfl rfl rfl (three_of HT_.out (by kernel_rfl)) (by decide) (by decide) (by decide) (fun K hK => ?_) (fun K hK => ?_) (fun K hK => ?_)
     ·skip
      refine goes_ Try.func16 (by kernel_rfl) rfl #[.agg #[.int .i64 a0_0, .int .i64 a0_1, .int .i64 a0_2], .agg #[.int .i64 a1_0, .int .i64 a1_1, .int .i64 a1_2]] (by rfl) rfl rfl (by (try simp only [List.map_toArray, List.map_cons, List.map_nil]); first | done | rfl | (simp only [List.length_drop, List.length_take]; rfl)) ?_
      with_reducible refine (CE _).mono ?_
      rintro e w9_2 ⟨rfl, hb⟩
      refine ⟨_, rfl, ?_⟩
      replace BK2 := cB hb BK2
      replace BK3 := cB hb BK3
      replace BK4 := cB hb BK4
      replace HB := Aside0.mk (below_step (HB.out) hb)
      clear hb
      refine hK.out _ _ ⟨(blk_cell BK2.out 0).trans rfl, (blk_cell BK2.out 1).trans rfl, (blk_cell BK2.out 2).trans rfl, (blk_cell BK3.out 0).trans rfl, (blk_cell BK3.out 1).trans rfl, (blk_cell BK3.out 2).trans rfl⟩ (fun hHeld => ?_)
      clear hK K
      refine norm_ (a' := ?_) ?_ ?_
      rotate_left
      ·show Act.put _ (some 17) _ = _
       simp only [Act.put, List.setIfInBounds_toArray, List.set_cons_zero, List.set_cons_succ, i64_w, i32_w]
       rfl
      refine two_ (i := 6) (j := 7) (Ni := some 5) (Nj := some 6) (bm 10 127) (bm 10 191) rfl rfl rfl rfl (two_of HT_.out (by kernel_rfl)) (by decide) (by decide) (fun K hK => ?_) (fun K hK => ?_)
      ·skip
       refine box_step ?hg (N := 5) ?hd (cs := #[.int .i64 0]) (t := 3) ?hr ?_; (case hd => rfl); (case hg => rfl); (case hr => first | (go_simp; done) | (go_simp; rfl))
       intro g5 hg w9_3 hbox hb
       have BK5 := Aside0.mk (hbox)
       have GE5 := Aside0.mk (bG hg (HB.out))
       have N25 := cN hg BK2
       have N52 := cM hg BK2
       have N35 := cN hg BK3
       have N53 := cM hg BK3
       have N45 := cN hg BK4
       have N54 := cM hg BK4
       clear hbox hg
       replace BK2 := cB hb BK2
       replace BK3 := cB hb BK3
       replace BK4 := cB hb BK4
       replace HB := Aside0.mk (below_step (HB.out) hb)
       clear hb
       refine hK.out _ _ ⟨(blk_cell BK2.out 0).trans rfl, (blk_cell BK2.out 1).trans rfl, (blk_cell BK2.out 2).trans rfl, (blk_cell BK3.out 0).trans rfl, (blk_cell BK3.out 1).trans rfl, (blk_cell BK3.out 2).trans rfl⟩ (fun hHeld => ?_)
       clear hK K
       refine norm_ (a' := ?_) ?_ ?_
       rotate_left
       ·show Act.put _ (some 5) _ = _
        simp only [Act.put, List.setIfInBounds_toArray, List.set_cons_zero, List.set_cons_succ, i64_w, i32_w]
        rfl
       refine one_ (i := 7) (N := some 6) (bm 10 255) rfl rfl (one_of HT_.out (by kernel_rfl)) (by decide) (fun K hK => ?_)
       refine box_step ?hg (N := 6) ?hd (cs := #[.int .i64 0]) (t := 3) ?hr ?_; (case hd => rfl); (case hg => rfl); (case hr => first | (go_simp; done) | (go_simp; rfl))
       intro g6 hg w9_4 hbox hb
       have BK6 := Aside0.mk (hbox)
       have GE6 := Aside0.mk (bG hg (HB.out))
       have N26 := cN hg BK2
       have N62 := cM hg BK2
       have N36 := cN hg BK3
       have N63 := cM hg BK3
       have N46 := cN hg BK4
       have N64 := cM hg BK4
       have N56 := cN hg BK5
       have N65 := cM hg BK5
       clear hbox hg
       replace BK2 := cB hb BK2
       replace BK3 := cB hb BK3
       replace BK4 := cB hb BK4
       replace BK5 := cB hb BK5
       replace HB := Aside0.mk (below_step (HB.out) hb)
       clear hb
       refine hK.out _ _ ⟨(blk_cell BK2.out 0).trans rfl, (blk_cell BK2.out 1).trans rfl, (blk_cell BK2.out 2).trans rfl, (blk_cell BK3.out 0).trans rfl, (blk_cell BK3.out 1).trans rfl, (blk_cell BK3.out 2).trans rfl⟩ (fun hHeld => ?_)
       clear hK K
       refine norm_ (a' := ?_) ?_ ?_
       rotate_left
       ·show Act.put _ (some 6) _ = _
        simp only [Act.put, List.setIfInBounds_toArray, List.set_cons_zero, List.set_cons_succ, i64_w, i32_w]
        rfl
       exact norm_ (by simp only [putAll, Act.put, List.setIfInBounds_toArray, List.set_cons_zero, List.set_cons_succ]) (hCont (g5, g6) _ ⟨hHeld, BK2.out, BK3.out, BK4.out, BK5.out, BK6.out, GE5.out, GE6.out, N25.out, N52.out, N35.out, N53.out, N45.out, N54.out, N26.out, N62.out, N36.out, N63.out, N46.out, N64.out, N56.out, N65.out, HB.out⟩)
      ·skip
       refine box_step ?hg (N := 6) ?hd (cs := #[.int .i64 0]) (t := 3) ?hr ?_; (case hd => rfl); (case hg => rfl); (case hr => first | (go_simp; done) | (go_simp; rfl))
       intro g6 hg w9_5 hbox hb
       have BK6 := Aside0.mk (hbox)
       have GE6 := Aside0.mk (bG hg (HB.out))
       have N26 := cN hg BK2
       have N62 := cM hg BK2
       have N36 := cN hg BK3
       have N63 := cM hg BK3
       have N46 := cN hg BK4
       have N64 := cM hg BK4
       clear hbox hg
       replace BK2 := cB hb BK2
       replace BK3 := cB hb BK3
       replace BK4 := cB hb BK4
       replace HB := Aside0.mk (below_step (HB.out) hb)
       clear hb
       refine hK.out _ _ ⟨(blk_cell BK2.out 0).trans rfl, (blk_cell BK2.out 1).trans rfl, (blk_cell BK2.out 2).trans rfl, (blk_cell BK3.out 0).trans rfl, (blk_cell BK3.out 1).trans rfl, (blk_cell BK3.out 2).trans rfl⟩ (fun hHeld => ?_)
       clear hK K
       refine norm_ (a' := ?_) ?_ ?_
       rotate_left
       ·show Act.put _ (some 6) _ = _
        simp only [Act.put, List.setIfInBounds_toArray, List.set_cons_zero, List.set_cons_succ, i64_w, i32_w]
        rfl
       refine one_ (i := 6) (N := some 5) (bm 10 255) rfl rfl (one_of HT_.out (by kernel_rfl)) (by decide) (fun K hK => ?_)
       refine box_step ?hg (N := 5) ?hd (cs := #[.int .i64 0]) (t := 3) ?hr ?_; (case hd => rfl); (case hg => rfl); (case hr => first | (go_simp; done) | (go_simp; rfl))
       intro g5 hg w9_6 hbox hb
       have BK5 := Aside0.mk (hbox)
       have GE5 := Aside0.mk (bG hg (HB.out))
       have N25 := cN hg BK2
       have N52 := cM hg BK2
       have N35 := cN hg BK3
       have N53 := cM hg BK3
       have N45 := cN hg BK4
       have N54 := cM hg BK4
       have N65 := cN hg BK6
       have N56 := cM hg BK6
       clear hbox hg
       replace BK2 := cB hb BK2
       replace BK3 := cB hb BK3
       replace BK4 := cB hb BK4
       replace BK6 := cB hb BK6
       replace HB := Aside0.mk (below_step (HB.out) hb)
       clear hb
       refine hK.out _ _ ⟨(blk_cell BK2.out 0).trans rfl, (blk_cell BK2.out 1).trans rfl, (blk_cell BK2.out 2).trans rfl, (blk_cell BK3.out 0).trans rfl, (blk_cell BK3.out 1).trans rfl, (blk_cell BK3.out 2).trans rfl⟩ (fun hHeld => ?_)
       clear hK K
       refine norm_ (a' := ?_) ?_ ?_
       rotate_left
       ·show Act.put _ (some 5) _ = _
        simp only [Act.put, List.setIfInBounds_toArray, List.set_cons_zero, List.set_cons_succ, i64_w, i32_w]
        rfl
       exact norm_ (by simp only [putAll, Act.put, List.setIfInBounds_toArray, List.set_cons_zero, List.set_cons_succ]) (hCont (g5, g6) _ ⟨hHeld, BK2.out, BK3.out, BK4.out, BK5.out, BK6.out, GE5.out, GE6.out, N25.out, N52.out, N35.out, N53.out, N45.out, N54.out, N26.out, N62.out, N36.out, N63.out, N46.out, N64.out, N56.out, N65.out, HB.out⟩)
     ·skip
      refine box_step ?hg (N := 5) ?hd (cs := #[.int .i64 0]) (t := 3) ?hr ?_; (case hd => rfl); (case hg => rfl); (case hr => first | (go_simp; done) | (go_simp; rfl))
      intro g5 hg w9_7 hbox hb
      have BK5 := Aside0.mk (hbox)
      have GE5 := Aside0.mk (bG hg (HB.out))
      have N25 := cN hg BK2
      have N52 := cM hg BK2
      have N35 := cN hg BK3
      have N53 := cM hg BK3
      have N45 := cN hg BK4
      have N54 := cM hg BK4
      clear hbox hg
      replace BK2 := cB hb BK2
      replace BK3 := cB hb BK3
      replace BK4 := cB hb BK4
      replace HB := Aside0.mk (below_step (HB.out) hb)
      clear hb
      refine hK.out _ _ ⟨(blk_cell BK2.out 0).trans rfl, (blk_cell BK2.out 1).trans rfl, (blk_cell BK2.out 2).trans rfl, (blk_cell BK3.out 0).trans rfl, (blk_cell BK3.out 1).trans rfl, (blk_cell BK3.out 2).trans rfl⟩ (fun hHeld => ?_)
      clear hK K
      refine norm_ (a' := ?_) ?_ ?_
      rotate_left
      ·show Act.put _ (some 5) _ = _
       simp only [Act.put, List.setIfInBounds_toArray, List.set_cons_zero, List.set_cons_succ, i64_w, i32_w]
       rfl
      refine two_ (i := 5) (j := 7) (Ni := some 17) (Nj := some 6) (bm 10 127) (bm 10 223) rfl rfl rfl rfl (two_of HT_.out (by kernel_rfl)) (by decide) (by decide) (fun K hK => ?_) (fun K hK => ?_)
      ·skip
       refine goes_ Try.func16 (by kernel_rfl) rfl #[.agg #[.int .i64 a0_0, .int .i64 a0_1, .int .i64 a0_2], .agg #[.int .i64 a1_0, .int .i64 a1_1, .int .i64 a1_2]] (by rfl) rfl rfl (by (try simp only [List.map_toArray, List.map_cons, List.map_nil]); first | done | rfl | (simp only [List.length_drop, List.length_take]; rfl)) ?_
       with_reducible refine (CE _).mono ?_
       rintro e w9_8 ⟨rfl, hb⟩
       refine ⟨_, rfl, ?_⟩
       replace BK2 := cB hb BK2
       replace BK3 := cB hb BK3
       replace BK4 := cB hb BK4
       replace BK5 := cB hb BK5
       replace HB := Aside0.mk (below_step (HB.out) hb)
       clear hb
       refine hK.out _ _ ⟨(blk_cell BK2.out 0).trans rfl, (blk_cell BK2.out 1).trans rfl, (blk_cell BK2.out 2).trans rfl, (blk_cell BK3.out 0).trans rfl, (blk_cell BK3.out 1).trans rfl, (blk_cell BK3.out 2).trans rfl⟩ (fun hHeld => ?_)
       clear hK K
       refine norm_ (a' := ?_) ?_ ?_
       rotate_left
       ·show Act.put _ (some 17) _ = _
        simp only [Act.put, List.setIfInBounds_toArray, List.set_cons_zero, List.set_cons_succ, i64_w, i32_w]
        rfl
       refine one_ (i := 7) (N := some 6) (bm 10 255) rfl rfl (one_of HT_.out (by kernel_rfl)) (by decide) (fun K hK => ?_)
       refine box_step ?hg (N := 6) ?hd (cs := #[.int .i64 0]) (t := 3) ?hr ?_; (case hd => rfl); (case hg => rfl); (case hr => first | (go_simp; done) | (go_simp; rfl))
       intro g6 hg w9_9 hbox hb
       have BK6 := Aside0.mk (hbox)
       have GE6 := Aside0.mk (bG hg (HB.out))
       have N26 := cN hg BK2
       have N62 := cM hg BK2
       have N36 := cN hg BK3
       have N63 := cM hg BK3
       have N46 := cN hg BK4
       have N64 := cM hg BK4
       have N56 := cN hg BK5
       have N65 := cM hg BK5
       clear hbox hg
       replace BK2 := cB hb BK2
       replace BK3 := cB hb BK3
       replace BK4 := cB hb BK4
       replace BK5 := cB hb BK5
       replace HB := Aside0.mk (below_step (HB.out) hb)
       clear hb
       refine hK.out _ _ ⟨(blk_cell BK2.out 0).trans rfl, (blk_cell BK2.out 1).trans rfl, (blk_cell BK2.out 2).trans rfl, (blk_cell BK3.out 0).trans rfl, (blk_cell BK3.out 1).trans rfl, (blk_cell BK3.out 2).trans rfl⟩ (fun hHeld => ?_)
       clear hK K
       refine norm_ (a' := ?_) ?_ ?_
       rotate_left
       ·show Act.put _ (some 6) _ = _
        simp only [Act.put, List.setIfInBounds_toArray, List.set_cons_zero, List.set_cons_succ, i64_w, i32_w]
        rfl
       exact norm_ (by simp only [putAll, Act.put, List.setIfInBounds_toArray, List.set_cons_zero, List.set_cons_succ]) (hCont (g5, g6) _ ⟨hHeld, BK2.out, BK3.out, BK4.out, BK5.out, BK6.out, GE5.out, GE6.out, N25.out, N52.out, N35.out, N53.out, N45.out, N54.out, N26.out, N62.out, N36.out, N63.out, N46.out, N64.out, N56.out, N65.out, HB.out⟩)
      ·skip
       refine box_step ?hg (N := 6) ?hd (cs := #[.int .i64 0]) (t := 3) ?hr ?_; (case hd => rfl); (case hg => rfl); (case hr => first | (go_simp; done) | (go_simp; rfl))
       intro g6 hg w9_10 hbox hb
       have BK6 := Aside0.mk (hbox)
       have GE6 := Aside0.mk (bG hg (HB.out))
       have N26 := cN hg BK2
       have N62 := cM hg BK2
       have N36 := cN hg BK3
       have N63 := cM hg BK3
       have N46 := cN hg BK4
       have N64 := cM hg BK4
       have N56 := cN hg BK5
       have N65 := cM hg BK5
       clear hbox hg
       replace BK2 := cB hb BK2
       replace BK3 := cB hb BK3
       replace BK4 := cB hb BK4
       replace BK5 := cB hb BK5
       replace HB := Aside0.mk (below_step (HB.out) hb)
       clear hb
       refine hK.out _ _ ⟨(blk_cell BK2.out 0).trans rfl, (blk_cell BK2.out 1).trans rfl, (blk_cell BK2.out 2).trans rfl, (blk_cell BK3.out 0).trans rfl, (blk_cell BK3.out 1).trans rfl, (blk_cell BK3.out 2).trans rfl⟩ (fun hHeld => ?_)
       clear hK K
       refine norm_ (a' := ?_) ?_ ?_
       rotate_left
       ·show Act.put _ (some 6) _ = _
        simp only [Act.put, List.setIfInBounds_toArray, List.set_cons_zero, List.set_cons_succ, i64_w, i32_w]
        rfl
       refine one_ (i := 5) (N := some 17) (bm 10 255) rfl rfl (one_of HT_.out (by kernel_rfl)) (by decide) (fun K hK => ?_)
       refine goes_ Try.func16 (by kernel_rfl) rfl #[.agg #[.int .i64 a0_0, .int .i64 a0_1, .int .i64 a0_2], .agg #[.int .i64 a1_0, .int .i64 a1_1, .int .i64 a1_2]] (by rfl) rfl rfl (by (try simp only [List.map_toArray, List.map_cons, List.map_nil]); first | done | rfl | (simp only [List.length_drop, List.length_take]; rfl)) ?_
       with_reducible refine (CE _).mono ?_
       rintro e w9_11 ⟨rfl, hb⟩
       refine ⟨_, rfl, ?_⟩
       replace BK2 := cB hb BK2
       replace BK3 := cB hb BK3
       replace BK4 := cB hb BK4
       replace BK5 := cB hb BK5
       replace BK6 := cB hb BK6
       replace HB := Aside0.mk (below_step (HB.out) hb)
       clear hb
       refine hK.out _ _ ⟨(blk_cell BK2.out 0).trans rfl, (blk_cell BK2.out 1).trans rfl, (blk_cell BK2.out 2).trans rfl, (blk_cell BK3.out 0).trans rfl, (blk_cell BK3.out 1).trans rfl, (blk_cell BK3.out 2).trans rfl⟩ (fun hHeld => ?_)
       clear hK K
       refine norm_ (a' := ?_) ?_ ?_
       rotate_left
       ·show Act.put _ (some 17) _ = _
        simp only [Act.put, List.setIfInBounds_toArray, List.set_cons_zero, List.set_cons_succ, i64_w, i32_w]
        rfl
       exact norm_ (by simp only [putAll, Act.put, List.setIfInBounds_toArray, List.set_cons_zero, List.set_cons_succ]) (hCont (g5, g6) _ ⟨hHeld, BK2.out, BK3.out, BK4.out, BK5.out, BK6.out, GE5.out, GE6.out, N25.out, N52.out, N35.out, N53.out, N45.out, N54.out, N26.out, N62.out, N36.out, N63.out, N46.out, N64.out, N56.out, N65.out, HB.out⟩)
     ·skip
      refine box_step ?hg (N := 6) ?hd (cs := #[.int .i64 0]) (t := 3) ?hr ?_; (case hd => rfl); (case hg => rfl); (case hr => first | (go_simp; done) | (go_simp; rfl))
      intro g6 hg w9_12 hbox hb
      have BK6 := Aside0.mk (hbox)
      have GE6 := Aside0.mk (bG hg (HB.out))
      have N26 := cN hg BK2
      have N62 := cM hg BK2
      have N36 := cN hg BK3
      have N63 := cM hg BK3
      have N46 := cN hg BK4
      have N64 := cM hg BK4
      clear hbox hg
      replace BK2 := cB hb BK2
      replace BK3 := cB hb BK3
      replace BK4 := cB hb BK4
      replace HB := Aside0.mk (below_step (HB.out) hb)
      clear hb
      refine hK.out _ _ ⟨(blk_cell BK2.out 0).trans rfl, (blk_cell BK2.out 1).trans rfl, (blk_cell BK2.out 2).trans rfl, (blk_cell BK3.out 0).trans rfl, (blk_cell BK3.out 1).trans rfl, (blk_cell BK3.out 2).trans rfl⟩ (fun hHeld => ?_)
      clear hK K
      refine norm_ (a' := ?_) ?_ ?_
      rotate_left
      ·show Act.put _ (some 6) _ = _
       simp only [Act.put, List.setIfInBounds_toArray, List.set_cons_zero, List.set_cons_succ, i64_w, i32_w]
       rfl
      refine two_ (i := 5) (j := 6) (Ni := some 17) (Nj := some 5) (bm 10 191) (bm 10 223) rfl rfl rfl rfl (two_of HT_.out (by kernel_rfl)) (by decide) (by decide) (fun K hK => ?_) (fun K hK => ?_)
      ·skip
       refine goes_ Try.func16 (by kernel_rfl) rfl #[.agg #[.int .i64 a0_0, .int .i64 a0_1, .int .i64 a0_2], .agg #[.int .i64 a1_0, .int .i64 a1_1, .int .i64 a1_2]] (by rfl) rfl rfl (by (try simp only [List.map_toArray, List.map_cons, List.map_nil]); first | done | rfl | (simp only [List.length_drop, List.length_take]; rfl)) ?_
       with_reducible refine (CE _).mono ?_
       rintro e w9_13 ⟨rfl, hb⟩
       refine ⟨_, rfl, ?_⟩
       replace BK2 := cB hb BK2
       replace BK3 := cB hb BK3
       replace BK4 := cB hb BK4
       replace BK6 := cB hb BK6
       replace HB := Aside0.mk (below_step (HB.out) hb)
       clear hb
       refine hK.out _ _ ⟨(blk_cell BK2.out 0).trans rfl, (blk_cell BK2.out 1).trans rfl, (blk_cell BK2.out 2).trans rfl, (blk_cell BK3.out 0).trans rfl, (blk_cell BK3.out 1).trans rfl, (blk_cell BK3.out 2).trans rfl⟩ (fun hHeld => ?_)
       clear hK K
       refine norm_ (a' := ?_) ?_ ?_
       rotate_left
       ·show Act.put _ (some 17) _ = _
        simp only [Act.put, List.setIfInBounds_toArray, List.set_cons_zero, List.set_cons_succ, i64_w, i32_w]
        rfl
       refine one_ (i := 6) (N := some 5) (bm 10 255) rfl rfl (one_of HT_.out (by kernel_rfl)) (by decide) (fun K hK => ?_)
       refine box_step ?hg (N := 5) ?hd (cs := #[.int .i64 0]) (t := 3) ?hr ?_; (case hd => rfl); (case hg => rfl); (case hr => first | (go_simp; done) | (go_simp; rfl))
       intro g5 hg w9_14 hbox hb
       have BK5 := Aside0.mk (hbox)
       have GE5 := Aside0.mk (bG hg (HB.out))
       have N25 := cN hg BK2
       have N52 := cM hg BK2
       have N35 := cN hg BK3
       have N53 := cM hg BK3
       have N45 := cN hg BK4
       have N54 := cM hg BK4
       have N65 := cN hg BK6
       have N56 := cM hg BK6
       clear hbox hg
       replace BK2 := cB hb BK2
       replace BK3 := cB hb BK3
       replace BK4 := cB hb BK4
       replace BK6 := cB hb BK6
       replace HB := Aside0.mk (below_step (HB.out) hb)
       clear hb
       refine hK.out _ _ ⟨(blk_cell BK2.out 0).trans rfl, (blk_cell BK2.out 1).trans rfl, (blk_cell BK2.out 2).trans rfl, (blk_cell BK3.out 0).trans rfl, (blk_cell BK3.out 1).trans rfl, (blk_cell BK3.out 2).trans rfl⟩ (fun hHeld => ?_)
       clear hK K
       refine norm_ (a' := ?_) ?_ ?_
       rotate_left
       ·show Act.put _ (some 5) _ = _
        simp only [Act.put, List.setIfInBounds_toArray, List.set_cons_zero, List.set_cons_succ, i64_w, i32_w]
        rfl
       exact norm_ (by simp only [putAll, Act.put, List.setIfInBounds_toArray, List.set_cons_zero, List.set_cons_succ]) (hCont (g5, g6) _ ⟨hHeld, BK2.out, BK3.out, BK4.out, BK5.out, BK6.out, GE5.out, GE6.out, N25.out, N52.out, N35.out, N53.out, N45.out, N54.out, N26.out, N62.out, N36.out, N63.out, N46.out, N64.out, N56.out, N65.out, HB.out⟩)
      ·skip
       refine box_step ?hg (N := 5) ?hd (cs := #[.int .i64 0]) (t := 3) ?hr ?_; (case hd => rfl); (case hg => rfl); (case hr => first | (go_simp; done) | (go_simp; rfl))
       intro g5 hg w9_15 hbox hb
       have BK5 := Aside0.mk (hbox)
       have GE5 := Aside0.mk (bG hg (HB.out))
       have N25 := cN hg BK2
       have N52 := cM hg BK2
       have N35 := cN hg BK3
       have N53 := cM hg BK3
       have N45 := cN hg BK4
       have N54 := cM hg BK4
       have N65 := cN hg BK6
       have N56 := cM hg BK6
       clear hbox hg
       replace BK2 := cB hb BK2
       replace BK3 := cB hb BK3
       replace BK4 := cB hb BK4
       replace BK6 := cB hb BK6
       replace HB := Aside0.mk (below_step (HB.out) hb)
       clear hb
       refine hK.out _ _ ⟨(blk_cell BK2.out 0).trans rfl, (blk_cell BK2.out 1).trans rfl, (blk_cell BK2.out 2).trans rfl, (blk_cell BK3.out 0).trans rfl, (blk_cell BK3.out 1).trans rfl, (blk_cell BK3.out 2).trans rfl⟩ (fun hHeld => ?_)
       clear hK K
       refine norm_ (a' := ?_) ?_ ?_
       rotate_left
       ·show Act.put _ (some 5) _ = _
        simp only [Act.put, List.setIfInBounds_toArray, List.set_cons_zero, List.set_cons_succ, i64_w, i32_w]
        rfl
       refine one_ (i := 5) (N := some 17) (bm 10 255) rfl rfl (one_of HT_.out (by kernel_rfl)) (by decide) (fun K hK => ?_)
       refine goes_ Try.func16 (by kernel_rfl) rfl #[.agg #[.int .i64 a0_0, .int .i64 a0_1, .int .i64 a0_2], .agg #[.int .i64 a1_0, .int .i64 a1_1, .int .i64 a1_2]] (by rfl) rfl rfl (by (try simp only [List.map_toArray, List.map_cons, List.map_nil]); first | done | rfl | (simp only [List.length_drop, List.length_take]; rfl)) ?_
       with_reducible refine (CE _).mono ?_
       rintro e w9_16 ⟨rfl, hb⟩
       refine ⟨_, rfl, ?_⟩
       replace BK2 := cB hb BK2
       replace BK3 := cB hb BK3
       replace BK4 := cB hb BK4
       replace BK6 := cB hb BK6
       replace BK5 := cB hb BK5
       replace HB := Aside0.mk (below_step (HB.out) hb)
       clear hb
       refine hK.out _ _ ⟨(blk_cell BK2.out 0).trans rfl, (blk_cell BK2.out 1).trans rfl, (blk_cell BK2.out 2).trans rfl, (blk_cell BK3.out 0).trans rfl, (blk_cell BK3.out 1).trans rfl, (blk_cell BK3.out 2).trans rfl⟩ (fun hHeld => ?_)
       clear hK K
       refine norm_ (a' := ?_) ?_ ?_
       rotate_left
       ·show Act.put _ (some 17) _ = _
        simp only [Act.put, List.setIfInBounds_toArray, List.set_cons_zero, List.set_cons_succ, i64_w, i32_w]
        rfl
       exact norm_ (by simp only [putAll, Act.put, List.setIfInBounds_toArray, List.set_cons_zero, List.set_cons_succ]) (hCont (g5, g6) _ ⟨hHeld, BK2.out, BK3.out, BK4.out, BK5.out, BK6.out, GE5.out, GE6.out, N25.out, N52.out, N35.out, N53.out, N45.out, N54.out, N26.out, N62.out, N36.out, N63.out, N46.out, N64.out, N56.out, N65.out, HB.out⟩)
    ·skip
     refine box_step ?hg (N := 5) ?hd (cs := #[.int .i64 0]) (t := 3) ?hr ?_; (case hd => rfl); (case hg => rfl); (case hr => first | (go_simp; done) | (go_simp; rfl))
     intro g5 hg w9_17 hbox hb
     have BK5 := Aside0.mk (hbox)
     have GE5 := Aside0.mk (bG hg (HB.out))
     have N25 := cN hg BK2
     have N52 := cM hg BK2
     have N35 := cN hg BK3
     have N53 := cM hg BK3
     have N45 := cN hg BK4
     have N54 := cM hg BK4
     clear hbox hg
     replace BK2 := cB hb BK2
     replace BK3 := cB hb BK3
     replace BK4 := cB hb BK4
     replace HB := Aside0.mk (below_step (HB.out) hb)
     clear hb
     refine hK.out _ _ ⟨(blk_cell BK2.out 0).trans rfl, (blk_cell BK2.out 1).trans rfl, (blk_cell BK2.out 2).trans rfl, (blk_cell BK3.out 0).trans rfl, (blk_cell BK3.out 1).trans rfl, (blk_cell BK3.out 2).trans rfl⟩ (fun hHeld => ?_)
     clear hK K
     refine norm_ (a' := ?_) ?_ ?_
     rotate_left
     ·show Act.put _ (some 5) _ = _
      simp only [Act.put, List.setIfInBounds_toArray, List.set_cons_zero, List.set_cons_succ, i64_w, i32_w]
      rfl
     refine two_ (i := 2) (j := 7) (Ni := some 14) (Nj := some 6) (bm 10 95) (bm 10 219) rfl rfl rfl rfl (two_of HT_.out (by kernel_rfl)) (by decide) (by decide) (fun K hK => ?_) (fun K hK => ?_)
     ·skip
      refine goes_ Try.func16 (by kernel_rfl) rfl #[.agg #[.int .i64 a1_0, .int .i64 a1_1, .int .i64 a1_2], .agg #[.int .i64 a1_0, .int .i64 a1_1, .int .i64 a1_2]] (by rfl) rfl rfl (by (try simp only [List.map_toArray, List.map_cons, List.map_nil]); first | done | rfl | (simp only [List.length_drop, List.length_take]; rfl)) ?_
      with_reducible refine (CQ _).mono ?_
      rintro e w9_18 ⟨rfl, hb⟩
      refine ⟨_, rfl, ?_⟩
      replace BK2 := cB hb BK2
      replace BK3 := cB hb BK3
      replace BK4 := cB hb BK4
      replace BK5 := cB hb BK5
      replace HB := Aside0.mk (below_step (HB.out) hb)
      clear hb
      refine hK.out _ _ ⟨(blk_cell BK2.out 0).trans rfl, (blk_cell BK2.out 1).trans rfl, (blk_cell BK2.out 2).trans rfl, (blk_cell BK3.out 0).trans rfl, (blk_cell BK3.out 1).trans rfl, (blk_cell BK3.out 2).trans rfl⟩ (fun hHeld => ?_)
      clear hK K
      refine norm_ (a' := ?_) ?_ ?_
      rotate_left
      ·show Act.put _ (some 14) _ = _
       simp only [Act.put, List.setIfInBounds_toArray, List.set_cons_zero, List.set_cons_succ, i64_w, i32_w]
       rfl
      refine two_ (i := 5) (j := 7) (Ni := some 17) (Nj := some 6) (bm 10 127) (bm 10 223) rfl rfl rfl rfl (two_of HT_.out (by kernel_rfl)) (by decide) (by decide) (fun K hK => ?_) (fun K hK => ?_)
      ·skip
       refine goes_ Try.func16 (by kernel_rfl) rfl #[.agg #[.int .i64 a0_0, .int .i64 a0_1, .int .i64 a0_2], .agg #[.int .i64 a1_0, .int .i64 a1_1, .int .i64 a1_2]] (by rfl) rfl rfl (by (try simp only [List.map_toArray, List.map_cons, List.map_nil]); first | done | rfl | (simp only [List.length_drop, List.length_take]; rfl)) ?_
       with_reducible refine (CE _).mono ?_
       rintro e w9_19 ⟨rfl, hb⟩
       refine ⟨_, rfl, ?_⟩
       replace BK2 := cB hb BK2
       replace BK3 := cB hb BK3
       replace BK4 := cB hb BK4
       replace BK5 := cB hb BK5
       replace HB := Aside0.mk (below_step (HB.out) hb)
       clear hb
       refine hK.out _ _ ⟨(blk_cell BK2.out 0).trans rfl, (blk_cell BK2.out 1).trans rfl, (blk_cell BK2.out 2).trans rfl, (blk_cell BK3.out 0).trans rfl, (blk_cell BK3.out 1).trans rfl, (blk_cell BK3.out 2).trans rfl⟩ (fun hHeld => ?_)
       clear hK K
       refine norm_ (a' := ?_) ?_ ?_
       rotate_left
       ·show Act.put _ (some 17) _ = _
        simp only [Act.put, List.setIfInBounds_toArray, List.set_cons_zero, List.set_cons_succ, i64_w, i32_w]
        rfl
       refine one_ (i := 7) (N := some 6) (bm 10 255) rfl rfl (one_of HT_.out (by kernel_rfl)) (by decide) (fun K hK => ?_)
       refine box_step ?hg (N := 6) ?hd (cs := #[.int .i64 0]) (t := 3) ?hr ?_; (case hd => rfl); (case hg => rfl); (case hr => first | (go_simp; done) | (go_simp; rfl))
       intro g6 hg w9_20 hbox hb
       have BK6 := Aside0.mk (hbox)
       have GE6 := Aside0.mk (bG hg (HB.out))
       have N26 := cN hg BK2
       have N62 := cM hg BK2
       have N36 := cN hg BK3
       have N63 := cM hg BK3
       have N46 := cN hg BK4
       have N64 := cM hg BK4
       have N56 := cN hg BK5
       have N65 := cM hg BK5
       clear hbox hg
       replace BK2 := cB hb BK2
       replace BK3 := cB hb BK3
       replace BK4 := cB hb BK4
       replace BK5 := cB hb BK5
       replace HB := Aside0.mk (below_step (HB.out) hb)
       clear hb
       refine hK.out _ _ ⟨(blk_cell BK2.out 0).trans rfl, (blk_cell BK2.out 1).trans rfl, (blk_cell BK2.out 2).trans rfl, (blk_cell BK3.out 0).trans rfl, (blk_cell BK3.out 1).trans rfl, (blk_cell BK3.out 2).trans rfl⟩ (fun hHeld => ?_)
       clear hK K
       refine norm_ (a' := ?_) ?_ ?_
       rotate_left
       ·show Act.put _ (some 6) _ = _
        simp only [Act.put, List.setIfInBounds_toArray, List.set_cons_zero, List.set_cons_succ, i64_w, i32_w]
        rfl
       exact norm_ (by simp only [putAll, Act.put, List.setIfInBounds_toArray, List.set_cons_zero, List.set_cons_succ]) (hCont (g5, g6) _ ⟨hHeld, BK2.out, BK3.out, BK4.out, BK5.out, BK6.out, GE5.out, GE6.out, N25.out, N52.out, N35.out, N53.out, N45.out, N54.out, N26.out, N62.out, N36.out, N63.out, N46.out, N64.out, N56.out, N65.out, HB.out⟩)
      ·skip
       refine box_step ?hg (N := 6) ?hd (cs := #[.int .i64 0]) (t := 3) ?hr ?_; (case hd => rfl); (case hg => rfl); (case hr => first | (go_simp; done) | (go_simp; rfl))
       intro g6 hg w9_21 hbox hb
       have BK6 := Aside0.mk (hbox)
       have GE6 := Aside0.mk (bG hg (HB.out))
       have N26 := cN hg BK2
       have N62 := cM hg BK2
       have N36 := cN hg BK3
       have N63 := cM hg BK3
       have N46 := cN hg BK4
       have N64 := cM hg BK4
       have N56 := cN hg BK5
       have N65 := cM hg BK5
       clear hbox hg
       replace BK2 := cB hb BK2
       replace BK3 := cB hb BK3
       replace BK4 := cB hb BK4
       replace BK5 := cB hb BK5
       replace HB := Aside0.mk (below_step (HB.out) hb)
       clear hb
       refine hK.out _ _ ⟨(blk_cell BK2.out 0).trans rfl, (blk_cell BK2.out 1).trans rfl, (blk_cell BK2.out 2).trans rfl, (blk_cell BK3.out 0).trans rfl, (blk_cell BK3.out 1).trans rfl, (blk_cell BK3.out 2).trans rfl⟩ (fun hHeld => ?_)
       clear hK K
       refine norm_ (a' := ?_) ?_ ?_
       rotate_left
       ·show Act.put _ (some 6) _ = _
        simp only [Act.put, List.setIfInBounds_toArray, List.set_cons_zero, List.set_cons_succ, i64_w, i32_w]
        rfl
       refine one_ (i := 5) (N := some 17) (bm 10 255) rfl rfl (one_of HT_.out (by kernel_rfl)) (by decide) (fun K hK => ?_)
       refine goes_ Try.func16 (by kernel_rfl) rfl #[.agg #[.int .i64 a0_0, .int .i64 a0_1, .int .i64 a0_2], .agg #[.int .i64 a1_0, .int .i64 a1_1, .int .i64 a1_2]] (by rfl) rfl rfl (by (try simp only [List.map_toArray, List.map_cons, List.map_nil]); first | done | rfl | (simp only [List.length_drop, List.length_take]; rfl)) ?_
       with_reducible refine (CE _).mono ?_
       rintro e w9_22 ⟨rfl, hb⟩
       refine ⟨_, rfl, ?_⟩
       replace BK2 := cB hb BK2
       replace BK3 := cB hb BK3
       replace BK4 := cB hb BK4
       replace BK5 := cB hb BK5
       replace BK6 := cB hb BK6
       replace HB := Aside0.mk (below_step (HB.out) hb)
       clear hb
       refine hK.out _ _ ⟨(blk_cell BK2.out 0).trans rfl, (blk_cell BK2.out 1).trans rfl, (blk_cell BK2.out 2).trans rfl, (blk_cell BK3.out 0).trans rfl, (blk_cell BK3.out 1).trans rfl, (blk_cell BK3.out 2).trans rfl⟩ (fun hHeld => ?_)
       clear hK K
       refine norm_ (a' := ?_) ?_ ?_
       rotate_left
       ·show Act.put _ (some 17) _ = _
        simp only [Act.put, List.setIfInBounds_toArray, List.set_cons_zero, List.set_cons_succ, i64_w, i32_w]
        rfl
       exact norm_ (by simp only [putAll, Act.put, List.setIfInBounds_toArray, List.set_cons_zero, List.set_cons_succ]) (hCont (g5, g6) _ ⟨hHeld, BK2.out, BK3.out, BK4.out, BK5.out, BK6.out, GE5.out, GE6.out, N25.out, N52.out, N35.out, N53.out, N45.out, N54.out, N26.out, N62.out, N36.out, N63.out, N46.out, N64.out, N56.out, N65.out, HB.out⟩)
     ·skip
      refine box_step ?hg (N := 6) ?hd (cs := #[.int .i64 0]) (t := 3) ?hr ?_; (case hd => rfl); (case hg => rfl); (case hr => first | (go_simp; done) | (go_simp; rfl))
      intro g6 hg w9_23 hbox hb
      have BK6 := Aside0.mk (hbox)
      have GE6 := Aside0.mk (bG hg (HB.out))
      have N26 := cN hg BK2
      have N62 := cM hg BK2
      have N36 := cN hg BK3
      have N63 := cM hg BK3
      have N46 := cN hg BK4
      have N64 := cM hg BK4
      have N56 := cN hg BK5
      have N65 := cM hg BK5
      clear hbox hg
      replace BK2 := cB hb BK2
      replace BK3 := cB hb BK3
      replace BK4 := cB hb BK4
      replace BK5 := cB hb BK5
      replace HB := Aside0.mk (below_step (HB.out) hb)
      clear hb
      refine hK.out _ _ ⟨(blk_cell BK2.out 0).trans rfl, (blk_cell BK2.out 1).trans rfl, (blk_cell BK2.out 2).trans rfl, (blk_cell BK3.out 0).trans rfl, (blk_cell BK3.out 1).trans rfl, (blk_cell BK3.out 2).trans rfl⟩ (fun hHeld => ?_)
      clear hK K
      refine norm_ (a' := ?_) ?_ ?_
      rotate_left
      ·show Act.put _ (some 6) _ = _
       simp only [Act.put, List.setIfInBounds_toArray, List.set_cons_zero, List.set_cons_succ, i64_w, i32_w]
       rfl
      refine one_ (i := 2) (N := some 14) (bm 10 223) rfl rfl (one_of HT_.out (by kernel_rfl)) (by decide) (fun K hK => ?_)
      refine goes_ Try.func16 (by kernel_rfl) rfl #[.agg #[.int .i64 a1_0, .int .i64 a1_1, .int .i64 a1_2], .agg #[.int .i64 a1_0, .int .i64 a1_1, .int .i64 a1_2]] (by rfl) rfl rfl (by (try simp only [List.map_toArray, List.map_cons, List.map_nil]); first | done | rfl | (simp only [List.length_drop, List.length_take]; rfl)) ?_
      with_reducible refine (CQ _).mono ?_
      rintro e w9_24 ⟨rfl, hb⟩
      refine ⟨_, rfl, ?_⟩
      replace BK2 := cB hb BK2
      replace BK3 := cB hb BK3
      replace BK4 := cB hb BK4
      replace BK5 := cB hb BK5
      replace BK6 := cB hb BK6
      replace HB := Aside0.mk (below_step (HB.out) hb)
      clear hb
      refine hK.out _ _ ⟨(blk_cell BK2.out 0).trans rfl, (blk_cell BK2.out 1).trans rfl, (blk_cell BK2.out 2).trans rfl, (blk_cell BK3.out 0).trans rfl, (blk_cell BK3.out 1).trans rfl, (blk_cell BK3.out 2).trans rfl⟩ (fun hHeld => ?_)
      clear hK K
      refine norm_ (a' := ?_) ?_ ?_
      rotate_left
      ·show Act.put _ (some 14) _ = _
       simp only [Act.put, List.setIfInBounds_toArray, List.set_cons_zero, List.set_cons_succ, i64_w, i32_w]
       rfl
      refine one_ (i := 5) (N := some 17) (bm 10 255) rfl rfl (one_of HT_.out (by kernel_rfl)) (by decide) (fun K hK => ?_)
      refine goes_ Try.func16 (by kernel_rfl) rfl #[.agg #[.int .i64 a0_0, .int .i64 a0_1, .int .i64 a0_2], .agg #[.int .i64 a1_0, .int .i64 a1_1, .int .i64 a1_2]] (by rfl) rfl rfl (by (try simp only [List.map_toArray, List.map_cons, List.map_nil]); first | done | rfl | (simp only [List.length_drop, List.length_take]; rfl)) ?_
      with_reducible refine (CE _).mono ?_
      rintro e w9_25 ⟨rfl, hb⟩
      refine ⟨_, rfl, ?_⟩
      replace BK2 := cB hb BK2
      replace BK3 := cB hb BK3
      replace BK4 := cB hb BK4
      replace BK5 := cB hb BK5
      replace BK6 := cB hb BK6
      replace HB := Aside0.mk (below_step (HB.out) hb)
      clear hb
      refine hK.out _ _ ⟨(blk_cell BK2.out 0).trans rfl, (blk_cell BK2.out 1).trans rfl, (blk_cell BK2.out 2).trans rfl, (blk_cell BK3.out 0).trans rfl, (blk_cell BK3.out 1).trans rfl, (blk_cell BK3.out 2).trans rfl⟩ (fun hHeld => ?_)
      clear hK K
      refine norm_ (a' := ?_) ?_ ?_
      rotate_left
      ·show Act.put _ (some 17) _ = _
       simp only [Act.put, List.setIfInBounds_toArray, List.set_cons_zero, List.set_cons_succ, i64_w, i32_w]
       rfl
      exact norm_ (by simp only [putAll, Act.put, List.setIfInBounds_toArray, List.set_cons_zero, List.set_cons_succ]) (hCont (g5, g6) _ ⟨hHeld, BK2.out, BK3.out, BK4.out, BK5.out, BK6.out, GE5.out, GE6.out, N25.out, N52.out, N35.out, N53.out, N45.out, N54.out, N26.out, N62.out, N36.out, N63.out, N46.out, N64.out, N56.out, N65.out, HB.out⟩)
    ·skip
     refine box_step ?hg (N := 6) ?hd (cs := #[.int .i64 0]) (t := 3) ?hr ?_; (case hd => rfl); (case hg => rfl); (case hr => first | (go_simp; done) | (go_simp; rfl))
     intro g6 hg w9_26 hbox hb
     have BK6 := Aside0.mk (hbox)
     have GE6 := Aside0.mk (bG hg (HB.out))
     have N26 := cN hg BK2
     have N62 := cM hg BK2
     have N36 := cN hg BK3
     have N63 := cM hg BK3
     have N46 := cN hg BK4
     have N64 := cM hg BK4
     clear hbox hg
     replace BK2 := cB hb BK2
     replace BK3 := cB hb BK3
     replace BK4 := cB hb BK4
     replace HB := Aside0.mk (below_step (HB.out) hb)
     clear hb
     refine hK.out _ _ ⟨(blk_cell BK2.out 0).trans rfl, (blk_cell BK2.out 1).trans rfl, (blk_cell BK2.out 2).trans rfl, (blk_cell BK3.out 0).trans rfl, (blk_cell BK3.out 1).trans rfl, (blk_cell BK3.out 2).trans rfl⟩ (fun hHeld => ?_)
     clear hK K
     refine norm_ (a' := ?_) ?_ ?_
     rotate_left
     ·show Act.put _ (some 6) _ = _
      simp only [Act.put, List.setIfInBounds_toArray, List.set_cons_zero, List.set_cons_succ, i64_w, i32_w]
      rfl
     refine two_ (i := 2) (j := 6) (Ni := some 14) (Nj := some 5) (bm 10 159) (bm 10 219) rfl rfl rfl rfl (two_of HT_.out (by kernel_rfl)) (by decide) (by decide) (fun K hK => ?_) (fun K hK => ?_)
     ·skip
      refine goes_ Try.func16 (by kernel_rfl) rfl #[.agg #[.int .i64 a1_0, .int .i64 a1_1, .int .i64 a1_2], .agg #[.int .i64 a1_0, .int .i64 a1_1, .int .i64 a1_2]] (by rfl) rfl rfl (by (try simp only [List.map_toArray, List.map_cons, List.map_nil]); first | done | rfl | (simp only [List.length_drop, List.length_take]; rfl)) ?_
      with_reducible refine (CQ _).mono ?_
      rintro e w9_27 ⟨rfl, hb⟩
      refine ⟨_, rfl, ?_⟩
      replace BK2 := cB hb BK2
      replace BK3 := cB hb BK3
      replace BK4 := cB hb BK4
      replace BK6 := cB hb BK6
      replace HB := Aside0.mk (below_step (HB.out) hb)
      clear hb
      refine hK.out _ _ ⟨(blk_cell BK2.out 0).trans rfl, (blk_cell BK2.out 1).trans rfl, (blk_cell BK2.out 2).trans rfl, (blk_cell BK3.out 0).trans rfl, (blk_cell BK3.out 1).trans rfl, (blk_cell BK3.out 2).trans rfl⟩ (fun hHeld => ?_)
      clear hK K
      refine norm_ (a' := ?_) ?_ ?_
      rotate_left
      ·show Act.put _ (some 14) _ = _
       simp only [Act.put, List.setIfInBounds_toArray, List.set_cons_zero, List.set_cons_succ, i64_w, i32_w]
       rfl
      refine two_ (i := 5) (j := 6) (Ni := some 17) (Nj := some 5) (bm 10 191) (bm 10 223) rfl rfl rfl rfl (two_of HT_.out (by kernel_rfl)) (by decide) (by decide) (fun K hK => ?_) (fun K hK => ?_)
      ·skip
       refine goes_ Try.func16 (by kernel_rfl) rfl #[.agg #[.int .i64 a0_0, .int .i64 a0_1, .int .i64 a0_2], .agg #[.int .i64 a1_0, .int .i64 a1_1, .int .i64 a1_2]] (by rfl) rfl rfl (by (try simp only [List.map_toArray, List.map_cons, List.map_nil]); first | done | rfl | (simp only [List.length_drop, List.length_take]; rfl)) ?_
       with_reducible refine (CE _).mono ?_
       rintro e w9_28 ⟨rfl, hb⟩
       refine ⟨_, rfl, ?_⟩
       replace BK2 := cB hb BK2
       replace BK3 := cB hb BK3
       replace BK4 := cB hb BK4
       replace BK6 := cB hb BK6
       replace HB := Aside0.mk (below_step (HB.out) hb)
       clear hb
       refine hK.out _ _ ⟨(blk_cell BK2.out 0).trans rfl, (blk_cell BK2.out 1).trans rfl, (blk_cell BK2.out 2).trans rfl, (blk_cell BK3.out 0).trans rfl, (blk_cell BK3.out 1).trans rfl, (blk_cell BK3.out 2).trans rfl⟩ (fun hHeld => ?_)
       clear hK K
       refine norm_ (a' := ?_) ?_ ?_
       rotate_left
       ·show Act.put _ (some 17) _ = _
        simp only [Act.put, List.setIfInBounds_toArray, List.set_cons_zero, List.set_cons_succ, i64_w, i32_w]
        rfl
       refine one_ (i := 6) (N := some 5) (bm 10 255) rfl rfl (one_of HT_.out (by kernel_rfl)) (by decide) (fun K hK => ?_)
       refine box_step ?hg (N := 5) ?hd (cs := #[.int .i64 0]) (t := 3) ?hr ?_; (case hd => rfl); (case hg => rfl); (case hr => first | (go_simp; done) | (go_simp; rfl))
       intro g5 hg w9_29 hbox hb
       have BK5 := Aside0.mk (hbox)
       have GE5 := Aside0.mk (bG hg (HB.out))
       have N25 := cN hg BK2
       have N52 := cM hg BK2
       have N35 := cN hg BK3
       have N53 := cM hg BK3
       have N45 := cN hg BK4
       have N54 := cM hg BK4
       have N65 := cN hg BK6
       have N56 := cM hg BK6
       clear hbox hg
       replace BK2 := cB hb BK2
       replace BK3 := cB hb BK3
       replace BK4 := cB hb BK4
       replace BK6 := cB hb BK6
       replace HB := Aside0.mk (below_step (HB.out) hb)
       clear hb
       refine hK.out _ _ ⟨(blk_cell BK2.out 0).trans rfl, (blk_cell BK2.out 1).trans rfl, (blk_cell BK2.out 2).trans rfl, (blk_cell BK3.out 0).trans rfl, (blk_cell BK3.out 1).trans rfl, (blk_cell BK3.out 2).trans rfl⟩ (fun hHeld => ?_)
       clear hK K
       refine norm_ (a' := ?_) ?_ ?_
       rotate_left
       ·show Act.put _ (some 5) _ = _
        simp only [Act.put, List.setIfInBounds_toArray, List.set_cons_zero, List.set_cons_succ, i64_w, i32_w]
        rfl
       exact norm_ (by simp only [putAll, Act.put, List.setIfInBounds_toArray, List.set_cons_zero, List.set_cons_succ]) (hCont (g5, g6) _ ⟨hHeld, BK2.out, BK3.out, BK4.out, BK5.out, BK6.out, GE5.out, GE6.out, N25.out, N52.out, N35.out, N53.out, N45.out, N54.out, N26.out, N62.out, N36.out, N63.out, N46.out, N64.out, N56.out, N65.out, HB.out⟩)
      ·skip
       refine box_step ?hg (N := 5) ?hd (cs := #[.int .i64 0]) (t := 3) ?hr ?_; (case hd => rfl); (case hg => rfl); (case hr => first | (go_simp; done) | (go_simp; rfl))
       intro g5 hg w9_30 hbox hb
       have BK5 := Aside0.mk (hbox)
       have GE5 := Aside0.mk (bG hg (HB.out))
       have N25 := cN hg BK2
       have N52 := cM hg BK2
       have N35 := cN hg BK3
       have N53 := cM hg BK3
       have N45 := cN hg BK4
       have N54 := cM hg BK4
       have N65 := cN hg BK6
       have N56 := cM hg BK6
       clear hbox hg
       replace BK2 := cB hb BK2
       replace BK3 := cB hb BK3
       replace BK4 := cB hb BK4
       replace BK6 := cB hb BK6
       replace HB := Aside0.mk (below_step (HB.out) hb)
       clear hb
       refine hK.out _ _ ⟨(blk_cell BK2.out 0).trans rfl, (blk_cell BK2.out 1).trans rfl, (blk_cell BK2.out 2).trans rfl, (blk_cell BK3.out 0).trans rfl, (blk_cell BK3.out 1).trans rfl, (blk_cell BK3.out 2).trans rfl⟩ (fun hHeld => ?_)
       clear hK K
       refine norm_ (a' := ?_) ?_ ?_
       rotate_left
       ·show Act.put _ (some 5) _ = _
        simp only [Act.put, List.setIfInBounds_toArray, List.set_cons_zero, List.set_cons_succ, i64_w, i32_w]
        rfl
       refine one_ (i := 5) (N := some 17) (bm 10 255) rfl rfl (one_of HT_.out (by kernel_rfl)) (by decide) (fun K hK => ?_)
       refine goes_ Try.func16 (by kernel_rfl) rfl #[.agg #[.int .i64 a0_0, .int .i64 a0_1, .int .i64 a0_2], .agg #[.int .i64 a1_0, .int .i64 a1_1, .int .i64 a1_2]] (by rfl) rfl rfl (by (try simp only [List.map_toArray, List.map_cons, List.map_nil]); first | done | rfl | (simp only [List.length_drop, List.length_take]; rfl)) ?_
       with_reducible refine (CE _).mono ?_
       rintro e w9_31 ⟨rfl, hb⟩
       refine ⟨_, rfl, ?_⟩
       replace BK2 := cB hb BK2
       replace BK3 := cB hb BK3
       replace BK4 := cB hb BK4
       replace BK6 := cB hb BK6
       replace BK5 := cB hb BK5
       replace HB := Aside0.mk (below_step (HB.out) hb)
       clear hb
       refine hK.out _ _ ⟨(blk_cell BK2.out 0).trans rfl, (blk_cell BK2.out 1).trans rfl, (blk_cell BK2.out 2).trans rfl, (blk_cell BK3.out 0).trans rfl, (blk_cell BK3.out 1).trans rfl, (blk_cell BK3.out 2).trans rfl⟩ (fun hHeld => ?_)
       clear hK K
       refine norm_ (a' := ?_) ?_ ?_
       rotate_left
       ·show Act.put _ (some 17) _ = _
        simp only [Act.put, List.setIfInBounds_toArray, List.set_cons_zero, List.set_cons_succ, i64_w, i32_w]
        rfl
       exact norm_ (by simp only [putAll, Act.put, List.setIfInBounds_toArray, List.set_cons_zero, List.set_cons_succ]) (hCont (g5, g6) _ ⟨hHeld, BK2.out, BK3.out, BK4.out, BK5.out, BK6.out, GE5.out, GE6.out, N25.out, N52.out, N35.out, N53.out, N45.out, N54.out, N26.out, N62.out, N36.out, N63.out, N46.out, N64.out, N56.out, N65.out, HB.out⟩)
     ·skip
      refine box_step ?hg (N := 5) ?hd (cs := #[.int .i64 0]) (t := 3) ?hr ?_; (case hd => rfl); (case hg => rfl); (case hr => first | (go_simp; done) | (go_simp; rfl))
      intro g5 hg w9_32 hbox hb
      have BK5 := Aside0.mk (hbox)
      have GE5 := Aside0.mk (bG hg (HB.out))
      have N25 := cN hg BK2
      have N52 := cM hg BK2
      have N35 := cN hg BK3
      have N53 := cM hg BK3
      have N45 := cN hg BK4
      have N54 := cM hg BK4
      have N65 := cN hg BK6
      have N56 := cM hg BK6
      clear hbox hg
      replace BK2 := cB hb BK2
      replace BK3 := cB hb BK3
      replace BK4 := cB hb BK4
      replace BK6 := cB hb BK6
      replace HB := Aside0.mk (below_step (HB.out) hb)
      clear hb
      refine hK.out _ _ ⟨(blk_cell BK2.out 0).trans rfl, (blk_cell BK2.out 1).trans rfl, (blk_cell BK2.out 2).trans rfl, (blk_cell BK3.out 0).trans rfl, (blk_cell BK3.out 1).trans rfl, (blk_cell BK3.out 2).trans rfl⟩ (fun hHeld => ?_)
      clear hK K
      refine norm_ (a' := ?_) ?_ ?_
      rotate_left
      ·show Act.put _ (some 5) _ = _
       simp only [Act.put, List.setIfInBounds_toArray, List.set_cons_zero, List.set_cons_succ, i64_w, i32_w]
       rfl
      refine one_ (i := 2) (N := some 14) (bm 10 223) rfl rfl (one_of HT_.out (by kernel_rfl)) (by decide) (fun K hK => ?_)
      refine goes_ Try.func16 (by kernel_rfl) rfl #[.agg #[.int .i64 a1_0, .int .i64 a1_1, .int .i64 a1_2], .agg #[.int .i64 a1_0, .int .i64 a1_1, .int .i64 a1_2]] (by rfl) rfl rfl (by (try simp only [List.map_toArray, List.map_cons, List.map_nil]); first | done | rfl | (simp only [List.length_drop, List.length_take]; rfl)) ?_
      with_reducible refine (CQ _).mono ?_
      rintro e w9_33 ⟨rfl, hb⟩
      refine ⟨_, rfl, ?_⟩
      replace BK2 := cB hb BK2
      replace BK3 := cB hb BK3
      replace BK4 := cB hb BK4
      replace BK6 := cB hb BK6
      replace BK5 := cB hb BK5
      replace HB := Aside0.mk (below_step (HB.out) hb)
      clear hb
      refine hK.out _ _ ⟨(blk_cell BK2.out 0).trans rfl, (blk_cell BK2.out 1).trans rfl, (blk_cell BK2.out 2).trans rfl, (blk_cell BK3.out 0).trans rfl, (blk_cell BK3.out 1).trans rfl, (blk_cell BK3.out 2).trans rfl⟩ (fun hHeld => ?_)
      clear hK K
      refine norm_ (a' := ?_) ?_ ?_
      rotate_left
      ·show Act.put _ (some 14) _ = _
       simp only [Act.put, List.setIfInBounds_toArray, List.set_cons_zero, List.set_cons_succ, i64_w, i32_w]
       rfl
      refine one_ (i := 5) (N := some 17) (bm 10 255) rfl rfl (one_of HT_.out (by kernel_rfl)) (by decide) (fun K hK => ?_)
      refine goes_ Try.func16 (by kernel_rfl) rfl #[.agg #[.int .i64 a0_0, .int .i64 a0_1, .int .i64 a0_2], .agg #[.int .i64 a1_0, .int .i64 a1_1, .int .i64 a1_2]] (by rfl) rfl rfl (by (try simp only [List.map_toArray, List.map_cons, List.map_nil]); first | done | rfl | (simp only [List.length_drop, List.length_take]; rfl)) ?_
      with_reducible refine (CE _).mono ?_
      rintro e w9_34 ⟨rfl, hb⟩
      refine ⟨_, rfl, ?_⟩
      replace BK2 := cB hb BK2
      replace BK3 := cB hb BK3
      replace BK4 := cB hb BK4
      replace BK6 := cB hb BK6
      replace BK5 := cB hb BK5
      replace HB := Aside0.mk (below_step (HB.out) hb)
      clear hb
      refine hK.out _ _ ⟨(blk_cell BK2.out 0).trans rfl, (blk_cell BK2.out 1).trans rfl, (blk_cell BK2.out 2).trans rfl, (blk_cell BK3.out 0).trans rfl, (blk_cell BK3.out 1).trans rfl, (blk_cell BK3.out 2).trans rfl⟩ (fun hHeld => ?_)
      clear hK K
      refine norm_ (a' := ?_) ?_ ?_
      rotate_left
      ·show Act.put _ (some 17) _ = _
       simp only [Act.put, List.setIfInBounds_toArray, List.set_cons_zero, List.set_cons_succ, i64_w, i32_w]
       rfl
      exact norm_ (by simp only [putAll, Act.put, List.setIfInBounds_toArray, List.set_cons_zero, List.set_cons_succ]) (hCont (g5, g6) _ ⟨hHeld, BK2.out, BK3.out, BK4.out, BK5.out, BK6.out, GE5.out, GE6.out, N25.out, N52.out, N35.out, N53.out, N45.out, N54.out, N26.out, N62.out, N36.out, N63.out, N46.out, N64.out, N56.out, N65.out, HB.out⟩)
   rintro ⟨g5, g6⟩ w10 ⟨h0_, h1_, h2_, h3_, h4_, h5_, h6_, h7_, h8_, h9_, h10_, h11_, h12_, h13_, h14_, h15_, h16_, h17_, h18_, h19_, h20_, h21_, h22_⟩
   clear HB hHeld BK2 BK3 BK4
   have BK2 := Aside0.mk h1_
   have BK3 := Aside0.mk h2_
   have BK4 := Aside0.mk h3_
   have BK5 := Aside0.mk h4_
   have BK6 := Aside0.mk h5_
   have GE5 := Aside0.mk h6_
   have GE6 := Aside0.mk h7_
   have N25 := Aside0.mk h8_
   have N52 := Aside0.mk h9_
   have N35 := Aside0.mk h10_
   have N53 := Aside0.mk h11_
   have N45 := Aside0.mk h12_
   have N54 := Aside0.mk h13_
   have N26 := Aside0.mk h14_
   have N62 := Aside0.mk h15_
   have N36 := Aside0.mk h16_
   have N63 := Aside0.mk h17_
   have N46 := Aside0.mk h18_
   have N64 := Aside0.mk h19_
   have N56 := Aside0.mk h20_
   have N65 := Aside0.mk h21_
   have HB := Aside0.mk h22_
   have hHeld : w10.cell? ⟨g2, 0, none⟩ = some (.int .i64 a0_0) ∧ w10.cell? ⟨g2, 1, none⟩ = some (.int .i64 a0_1) ∧ w10.cell? ⟨g2, 2, none⟩ = some (.int .i64 a0_2) ∧ w10.cell? ⟨g3, 0, none⟩ = some (.int .i64 a1_0) ∧ w10.cell? ⟨g3, 1, none⟩ = some (.int .i64 a1_1) ∧ w10.cell? ⟨g3, 2, none⟩ = some (.int .i64 a1_2) := h0_
   clear h0_ h1_ h2_ h3_ h4_ h5_ h6_ h7_ h8_ h9_ h10_ h11_ h12_ h13_ h14_ h15_ h16_ h17_ h18_ h19_ h20_ h21_ h22_
   refine norm_ (a' := ?_) ?_ ?_
   rotate_left
   ·simp only [putAll, Act.put, List.setIfInBounds_toArray, List.set_cons_zero, List.set_cons_succ]
    rfl
   refine one_ (i := 8) (N := none) (bm 10 511) rfl rfl (one_of HT_.out (by kernel_rfl)) (by decide) (fun K hK => ?_)
   have hs0 := (blk_cell BK5.out 0).trans (rfl : _ = some (Value.int .i64 0))
   have hf0 := blk_frozen BK5.out 0
   have hn0 := N65.out
   have hn1 := N56.out
   refine skip_ (w1 := ?_) (by rfl) rfl ?_ ?_
   rotate_left
   ·go_simp
    rfl
   refine hK.out _ _ ⟨cf N25.out (hHeld.1), cf N25.out (hHeld.2.1), cf N25.out (hHeld.2.2.1), cf N35.out (hHeld.2.2.2.1), cf N35.out (hHeld.2.2.2.2.1), cf N35.out (hHeld.2.2.2.2.2)⟩ (fun hHeld => ?_)
   clear hK K hs0 hf0
   refine one_ (i := 9) (N := none) (bm 10 1023) rfl rfl (one_of HT_.out (by kernel_rfl)) (by decide) (fun K hK => ?_)
   have hs0 := (blk_cell (blk_far BK6.out (p := ⟨g5, 0, none⟩) N65.out (.int .i64 q)) 0).trans (rfl : _ = some (Value.int .i64 0))
   have hf0 := blk_frozen (blk_far BK6.out (p := ⟨g5, 0, none⟩) N65.out (.int .i64 q)) 0
   refine skip_ (w1 := ?_) (by rfl) rfl ?_ ?_
   rotate_left
   ·go_simp
    rfl
   refine hK.out _ _ ⟨cf N26.out (hHeld.1), cf N26.out (hHeld.2.1), cf N26.out (hHeld.2.2.1), cf N36.out (hHeld.2.2.2.1), cf N36.out (hHeld.2.2.2.2.1), cf N36.out (hHeld.2.2.2.2.2)⟩ (fun hHeld => ?_)
   clear hK K hs0 hf0
   refine done_ (done_of HT_.out (by kernel_rfl)) ?_
   replace BK2 := Aside0.mk (blk_far (blk_far BK2.out (p := ⟨g5, 0, none⟩) N25.out (.int .i64 q)) (p := ⟨g6, 0, none⟩) N26.out (.int .i64 e))
   replace BK3 := Aside0.mk (blk_far (blk_far BK3.out (p := ⟨g5, 0, none⟩) N35.out (.int .i64 q)) (p := ⟨g6, 0, none⟩) N36.out (.int .i64 e))
   replace BK4 := Aside0.mk (blk_far (blk_far BK4.out (p := ⟨g5, 0, none⟩) N45.out (.int .i64 q)) (p := ⟨g6, 0, none⟩) N46.out (.int .i64 e))
   replace BK5 := Aside0.mk (blk_far (blk_put (cs' := #[.int .i64 q]) BK5.out 0 (.int .i64 q) rfl) (p := ⟨g6, 0, none⟩) N56.out (.int .i64 e))
   replace BK6 := Aside0.mk (blk_put (cs' := #[.int .i64 e]) (blk_far BK6.out (p := ⟨g5, 0, none⟩) N65.out (.int .i64 q)) 0 (.int .i64 e) rfl)
   replace HB := Aside0.mk (below_set (j := 0) (v := .int .i64 e) (below_set (j := 0) (v := .int .i64 q) HB.out GE5.out) GE6.out)
   clear hHeld HT_ HW_
   generalize (w10.setCell ⟨g5, 0, none⟩ (.int .i64 q)).setCell ⟨g6, 0, none⟩ (.int .i64 e) = w11 at BK2 BK3 BK4 BK5 BK6 HB ⊢
   obtain ⟨k0, k1, k2⟩ := cells3 BK2.out
   obtain ⟨l0, l1, l2⟩ := cells3 BK3.out
   have PC := fun (w' : World) (h5 : w'.heap[g5]? = some (.cells #[.int .i64 q] 3 (0, 0))) (h6 : w'.heap[g6]? = some (.cells #[.int .i64 e] 3 (0, 0))) => light_parts.calls 30 Try.f30 #[.pointer (some ⟨g5, 0, none⟩), .pointer (some ⟨g6, 0, none⟩)] a0_0 a0_1 a0_2 a1_0 a1_1 a1_2 x y z w' Try.func30 (by kernel_rfl) rfl (fun w'' hb => reflect1.calls a0_0 a1_0 q e g5 g6 x w'' (blk_below h5 hb) (blk_below h6 hb) hx) (fun w'' hb => reflect1.calls a0_1 a1_1 q e g5 g6 y w'' (blk_below h5 hb) (blk_below h6 hb) hy) (fun w'' hb => reflect1.calls a0_2 a1_2 q e g5 g6 z w'' (blk_below h5 hb) (blk_below h6 hb) hz)
   go_wp2_with (first
     | (go_at_call 29; (with_reducible refine (PC _ BK5.out BK6.out).mono ?_); rintro e' w12 ⟨rfl, hb⟩; replace BK4 := cB hb BK4; replace HB := Aside0.mk (below_step (HB.out) hb); clear hb)
     | (go_at_call 28; (with_reducible refine (CC _).mono ?_); rintro e' w13 ⟨rfl, hb⟩; replace BK4 := cB hb BK4; replace HB := Aside0.mk (below_step (HB.out) hb); clear hb; have m0 := (blk_cell BK4.out 0).trans (rfl : _ = some (Value.int .i64 0)); have mf0 := blk_frozen BK4.out 0; have m1 := (blk_cell BK4.out 1).trans (rfl : _ = some (Value.int .i64 0)); have mf1 := blk_frozen BK4.out 1; have m2 := (blk_cell BK4.out 2).trans (rfl : _ = some (Value.int .i64 0)); have mf2 := blk_frozen BK4.out 2))
   refine bodyPost_ret (results_cell_row rfl _ _ g4 26 #[.int .i64 r1, .int .i64 r2, .int .i64 r3] (0, 0) _ rfl (blk_put (cs' := #[.int .i64 r1, .int .i64 r2, .int .i64 r3]) (blk_put (blk_put BK4.out 0 _ rfl) 1 _ rfl) 2 _ rfl) Try.underlying26 rfl (by kernel_rfl)) rfl ?_
   exact ⟨rfl, below_set (below_set (below_set HB.out GE4.out) GE4.out) GE4.out⟩
end Go.Proofs.Ytmhnidmbgicgeaa.G

namespace Go.Proofs.Ytmhnidmbgicgeaa.G
open Go.RowKit Go.Proofs.YtmhnidmbgicgeaaW.PrintWords Go.Proofs.YtmhnidmbgicgeaaW.PrintLast Go.Proofs.YtmhnidmbgicgeaaW.PrintMore
attribute [local go_sem] max2_int min2_int max_two min_two max_three min_three max_four min_four
set_option linter.unusedVariables false
set_option linter.unusedSimpArgs false
def refract1.T1 : Bool × List (List Nat × List Nat) := (true, [([], []), ([], []), ([0, 1], [0, 1]), ([2], [2]), ([], []), ([], []), ([4, 5], [4, 5]), ([6, 3], [6]), ([3, 7], [3, 7]), ([8, 7, 0, 1, 2, 3, 4, 5, 6, 7, 8], [8])])
def refract1.B1 : List Nat := [0, 0, 3, 7, 0, 0, 48, 127, 255, 511]
theorem refract1.tab1 : rtab .any (opsOf Try.f34 1) = refract1.T1 := by kernel_rfl
theorem refract1.bits1 : waitsOk refract1.T1.2 refract1.B1 = true := by kernel_rfl

theorem unit1.calls (n o s : Int) (gs : Nat) (r : Int) (w : World) (h5 : w.heap[gs]? = some (.cells #[.int .i64 s] 3 (0, 0)))
    (h : light_floor.f (wrap64 (4096 * n)) s = some r) :
    Calls Try.prog 46 (#[.int .i64 n, .int .i64 o] ++ #[.pointer (some ⟨gs, 0, none⟩)]) w fun e w' => e = .returned (.int .i64 r) ∧ Below w.heap.size w w' := by
 show Calls Try.prog 46 #[.int .i64 n, .int .i64 o, .pointer (some ⟨gs, 0, none⟩)] w _
 have k5 := (blk_cell h5 0).trans (rfl : _ = some (Value.int .i64 s))
 have FL := fun w => floor_below _ _ r w h
 have HB := Aside0.mk (Below.refl w.heap.size w)
 clear h h5
 go_enter Try.func46, Try.ntmps46
 go_wp2_with (first | (go_at_call 31; (with_reducible refine (FL _).mono ?_); rintro e' w1 ⟨rfl, hb⟩; replace HB := Aside0.mk (below_step (HB.out) hb); clear hb))
 go_ret
 exact ⟨rfl, HB.out⟩
def light_unit.f (k : Nat) (a0_0 a0_1 a0_2 : Int) : Option (Int × Int × Int) :=
  (vec_Dot.f a0_0 a0_1 a0_2 a0_0 a0_1 a0_2).bind fun q => (light_root.f k q 1).bind fun s => (light_floor.f (wrap64 (4096 * a0_0)) s).bind fun x => (light_floor.f (wrap64 (4096 * a0_1)) s).bind fun y => (light_floor.f (wrap64 (4096 * a0_2)) s).bind fun z => some (x, y, z)
theorem light_unit.mono : ∀ a0_0 a0_1 a0_2 k, LeO (light_unit.f k a0_0 a0_1 a0_2) (light_unit.f (k + 1) a0_0 a0_1 a0_2) := by
  intro a0_0 a0_1 a0_2 k
  unfold light_unit.f
  repeat' first
      | (with_reducible exact light_root.mono _ _ _)
      | (with_reducible exact LeO.refl _)
      | (with_reducible exact LeO.none _)
      | (with_reducible refine LeO.ite ?_ ?_)
      | (with_reducible refine LeO.bind ?_ (fun _ => ?_))
set_option maxHeartbeats 4000000 in
set_option maxRecDepth 100000 in
theorem light_unit.calls (k : Nat) (a0_0 a0_1 a0_2 : Int) (r1 r2 r3 : Int) (w : World) (h : light_unit.f k a0_0 a0_1 a0_2 = some (r1, r2, r3)) :
    Calls Try.prog 32 #[.agg #[.int .i64 a0_0, .int .i64 a0_1, .int .i64 a0_2]] w fun e w' => e = .returned (.agg #[.int .i64 r1, .int .i64 r2, .int .i64 r3]) ∧ Below w.heap.size w w' := by
 have hu26 := Try.underlying26
 have hu3 := Try.underlying3
 have hmf : ∀ (fn : Fn) (first cap : Array Value) (w : World), (Instr.makeFunc fn first cap).run Try.prog w = .ok (.func fn first cap) w := fun _ _ _ _ => rfl
 unfold light_unit.f at h
 replace h := Option.bind_eq_some_iff.mp h
 obtain ⟨q, hq, h⟩ := h
 replace h := Option.bind_eq_some_iff.mp h
 obtain ⟨s, hs, h⟩ := h
 replace h := Option.bind_eq_some_iff.mp h
 obtain ⟨x, hx, h⟩ := h
 replace h := Option.bind_eq_some_iff.mp h
 obtain ⟨y, hy, h⟩ := h
 replace h := Option.bind_eq_some_iff.mp h
 obtain ⟨z, hz, h⟩ := h
 simp only [Option.some.injEq, Prod.mk.injEq] at h
 obtain ⟨rfl, rfl, rfl⟩ := h
 have CQ := fun w => vec_Dot.calls a0_0 a0_1 a0_2 a0_0 a0_1 a0_2 q w hq
 have CR := fun w => light_root.calls k q 1 s w hs
 clear hq hs
 have HB := Aside0.mk (Below.refl w.heap.size w)
 go_enter Try.func32, Try.ntmps32
 go_wp2_with (first
  | ((with_reducible refine gate_dst (N := 1) rfl ?_); refine box_event ?hg (N := 1) ?hd (cs := #[.int .i64 a0_0, .int .i64 a0_1, .int .i64 a0_2]) (t := 26) ?hr ?_; (case hd => rfl); (case hg => rfl); (case hr => first | (go_simp; done) | (go_simp; rfl)); intro g1 hg w4 hbox hb; have BK1 := Aside0.mk (hbox); have GE1 := Aside0.mk (bG hg (HB.out)); replace HB := Aside0.mk (below_step (HB.out) hb); clear hb hbox hg)
  | ((with_reducible refine gate_dst (N := 2) rfl ?_); refine box_event ?hg (N := 2) ?hd (cs := #[.int .i64 0, .int .i64 0, .int .i64 0]) (t := 26) ?hr ?_; (case hd => rfl); (case hg => rfl); (case hr => first | (go_simp; done) | (go_simp; rfl)); intro g2 hg w5 hbox hb; have BK2 := Aside0.mk (hbox); have GE2 := Aside0.mk (bG hg (HB.out)); have N12 := cN hg BK1; have N21 := cM hg BK1; replace HB := Aside0.mk (below_step (HB.out) hb); replace BK1 := cB hb BK1; clear hb hbox hg; obtain ⟨k0, k1, k2⟩ := cells3 BK1.out)
  | (go_at_call 16; (with_reducible refine (CQ _).mono ?_); rintro e w6 ⟨rfl, hb⟩; replace BK1 := cB hb BK1; replace BK2 := cB hb BK2; replace HB := Aside0.mk (below_step (HB.out) hb); clear hb)
  | (go_at_call 33; (with_reducible refine (CR _).mono ?_); rintro e w7 ⟨rfl, hb⟩; replace BK1 := cB hb BK1; replace BK2 := cB hb BK2; replace HB := Aside0.mk (below_step (HB.out) hb); clear hb)
  | ((with_reducible refine gate_dst (N := 3) rfl ?_); refine box_event ?hg (N := 3) ?hd (cs := #[.int .i64 0]) (t := 3) ?hr ?_; (case hd => rfl); (case hg => rfl); (case hr => first | (go_simp; done) | (go_simp; rfl)); intro g3 hg w8 hbox hb; have BK3 := Aside0.mk (hbox); have GE3 := Aside0.mk (bG hg (HB.out)); have N13 := cN hg BK1; have N31 := cM hg BK1; have N23 := cN hg BK2; have N32 := cM hg BK2; replace HB := Aside0.mk (below_step (HB.out) hb); replace BK1 := cB hb BK1; replace BK2 := cB hb BK2; clear hb hbox hg; obtain ⟨k0, k1, k2⟩ := cells3 BK1.out; have s0 := (blk_cell BK3.out 0).trans (rfl : _ = some (Value.int .i64 0)); have sf0 := blk_frozen BK3.out 0; have hn0 := N13.out; have hn1 := N31.out)
  | (go_at_call 29; replace BK1 := Aside0.mk (blk_far BK1.out (p := ⟨g3, 0, none⟩) N13.out (.int .i64 s)); replace BK2 := Aside0.mk (blk_far BK2.out (p := ⟨g3, 0, none⟩) N23.out (.int .i64 s)); replace BK3 := Aside0.mk (blk_put (cs' := #[.int .i64 s]) BK3.out 0 (.int .i64 s) rfl); replace HB := Aside0.mk (below_set (j := 0) (v := .int .i64 s) HB.out GE3.out); (with_reducible refine (light_parts.calls 46 Try.f46 #[.pointer (some ⟨g3, 0, none⟩)] a0_0 a0_1 a0_2 a0_0 a0_1 a0_2 x y z _ Try.func46 (by kernel_rfl) rfl (fun w'' hb => unit1.calls a0_0 a0_0 s g3 x w'' (blk_below BK3.out hb) hx) (fun w'' hb => unit1.calls a0_1 a0_1 s g3 y w'' (blk_below BK3.out hb) hy) (fun w'' hb => unit1.calls a0_2 a0_2 s g3 z w'' (blk_below BK3.out hb) hz)).mono ?_); rintro e' w9 ⟨rfl, hb⟩; replace BK2 := cB hb BK2; replace HB := Aside0.mk (below_step (HB.out) hb); clear hb; have m0 := (blk_cell BK2.out 0).trans (rfl : _ = some (Value.int .i64 0)); have mf0 := blk_frozen BK2.out 0; have m1 := (blk_cell BK2.out 1).trans (rfl : _ = some (Value.int .i64 0)); have mf1 := blk_frozen BK2.out 1; have m2 := (blk_cell BK2.out 2).trans (rfl : _ = some (Value.int .i64 0)); have mf2 := blk_frozen BK2.out 2))
 refine bodyPost_ret (results_cell_row rfl _ _ g2 26 #[.int .i64 x, .int .i64 y, .int .i64 z] (0, 0) _ rfl (blk_put (cs' := #[.int .i64 x, .int .i64 y, .int .i64 z]) (blk_put (blk_put BK2.out 0 _ rfl) 1 _ rfl) 2 _ rfl) Try.underlying26 rfl (by kernel_rfl)) rfl ?_
 exact ⟨rfl, below_set (below_set (below_set HB.out GE2.out) GE2.out) GE2.out⟩
set_option maxHeartbeats 4000000 in
set_option maxRecDepth 100000 in
theorem refract1.calls (u m eta f : Int) (g2 g3 : Nat) (x1 x2 : Int) (w : World) (h5 : w.heap[g2]? = some (.cells #[.int .i64 eta] 3 (0, 0))) (h6 : w.heap[g3]? = some (.cells #[.int .i64 f] 3 (0, 0)))
    (ha : light_floor.f (wrap64 (eta * u)) 256 = some x1) (hb : light_floor.f (wrap64 (f * m)) 4096 = some x2) :
    Calls Try.prog 34 (#[.int .i64 u, .int .i64 m] ++ #[.pointer (some ⟨g2, 0, none⟩), .pointer (some ⟨g3, 0, none⟩)]) w fun e w' => e = .returned (.int .i64 (wrap64 (x1 + x2))) ∧ Below w.heap.size w w' := by
 show Calls Try.prog 34 #[.int .i64 u, .int .i64 m, .pointer (some ⟨g2, 0, none⟩), .pointer (some ⟨g3, 0, none⟩)] w _
 have FA := fun w => floor_below _ _ x1 w ha
 have FB := fun w => floor_below _ _ x2 w hb
 have BK2 := Aside0.mk h5
 have BK3 := Aside0.mk h6
 have HB := Aside0.mk (Below.refl w.heap.size w)
 clear ha hb h5 h6
 go_enter Try.func34, Try.ntmps34
 go_wp2
 replace BK2 := Aside0.mk (blk_drew BK2.out)
 replace BK3 := Aside0.mk (blk_drew BK3.out)
 replace HB := Aside0.mk (below_drew1 HB.out)
 refine start_ (n := 10) (S := fun w' => w'.cell? ⟨g2, 0, none⟩ = some (.int .i64 eta) ∧ w'.cell? ⟨g3, 0, none⟩ = some (.int .i64 f)) (ds := []) #[false, false, false, false, false, false, false, false, false, false] (by kernel_rfl) rfl rfl ⟨(blk_cell BK2.out 0).trans rfl, (blk_cell BK3.out 0).trans rfl⟩ (fun hHeld => ?_); refine with_tabW refract1.tab1 refract1.bits1 (fun HT_ HW_ => ?_)
 generalize w.drew = w5 at BK2 BK3 HB hHeld ⊢
 refine pure_ (i := 1) (N := some 8) (v := ?_) (a' := ?_) (bm 10 2) rfl rfl (any_of HT_.out (by kernel_rfl)) (fun _ _ _ h => h) (Or.inl ⟨by rfl, ?_⟩) ?_ ?_
 rotate_left
 ·intro w'
  go_simp
  with_reducible rfl
 rotate_left
 ·simp only [Act.put, List.setIfInBounds_toArray, List.set_cons_zero, List.set_cons_succ, i64_w, i32_w]
  rfl
 refine pure_ (i := 5) (N := some 12) (v := ?_) (a' := ?_) (bm 10 34) rfl rfl (any_of HT_.out (by kernel_rfl)) (fun _ _ _ h => h) (Or.inl ⟨by rfl, ?_⟩) ?_ ?_
 rotate_left
 ·intro w'
  go_simp
  with_reducible rfl
 rotate_left
 ·simp only [Act.put, List.setIfInBounds_toArray, List.set_cons_zero, List.set_cons_succ, i64_w, i32_w]
  rfl
 refine take_ (i := 0) (N := some 7) (v := ?_) (a' := ?_) (bm 10 35) rfl rfl (take_ofW HT_.out HW_.out (by kernel_rfl)) (fun _ _ _ h => h) (Or.inl ⟨by rfl, ?_⟩) hHeld ?_ ?_
 rotate_left
 ·rintro w' ⟨s0, s1⟩
  go_simp
  with_reducible rfl
 rotate_left
 ·simp only [Act.put, List.setIfInBounds_toArray, List.set_cons_zero, List.set_cons_succ, i64_w, i32_w]
  rfl
 refine take_ (i := 4) (N := some 11) (v := ?_) (a' := ?_) (bm 10 51) rfl rfl (take_ofW HT_.out HW_.out (by kernel_rfl)) (fun _ _ _ h => h) (Or.inl ⟨by rfl, ?_⟩) hHeld ?_ ?_
 rotate_left
 ·rintro w' ⟨s0, s1⟩
  go_simp
  with_reducible rfl
 rotate_left
 ·simp only [Act.put, List.setIfInBounds_toArray, List.set_cons_zero, List.set_cons_succ, i64_w, i32_w]
  rfl
 refine pure_ (i := 2) (N := some 9) (v := ?_) (a' := ?_) (bm 10 55) rfl rfl (any_of HT_.out (by kernel_rfl)) (fun _ _ _ h => h) (Or.inl ⟨by rfl, ?_⟩) ?_ ?_
 rotate_left
 ·intro w'
  go_simp
  with_reducible rfl
 rotate_left
 ·simp only [Act.put, List.setIfInBounds_toArray, List.set_cons_zero, List.set_cons_succ, i64_w, i32_w]
  rfl
 refine pure_ (i := 6) (N := some 13) (v := ?_) (a' := ?_) (bm 10 119) rfl rfl (any_of HT_.out (by kernel_rfl)) (fun _ _ _ h => h) (Or.inl ⟨by rfl, ?_⟩) ?_ ?_
 rotate_left
 ·intro w'
  go_simp
  with_reducible rfl
 rotate_left
 ·simp only [Act.put, List.setIfInBounds_toArray, List.set_cons_zero, List.set_cons_succ, i64_w, i32_w]
  rfl
 refine one_ (i := 3) (N := some 10) (bm 10 127) rfl rfl (one_of HT_.out (by kernel_rfl)) (by decide) (fun K hK => ?_)
 refine goes_ Try.func31 (by kernel_rfl) rfl #[.int .i64 (wrap64 (eta * u)), .int .i64 256] (by rfl) rfl rfl (by (try simp only [List.map_toArray, List.map_cons, List.map_nil]); first | done | rfl | (simp only [List.length_drop, List.length_take]; rfl)) ?_
 with_reducible refine (FA _).mono ?_
 rintro e w5_1 ⟨rfl, hb⟩
 refine ⟨_, rfl, ?_⟩
 replace BK2 := cB hb BK2
 replace BK3 := cB hb BK3
 replace HB := Aside0.mk (below_step (HB.out) hb)
 clear hb
 refine hK.out _ _ ⟨(blk_cell BK2.out 0).trans rfl, (blk_cell BK3.out 0).trans rfl⟩ (fun hHeld => ?_)
 clear hK K
 refine norm_ (a' := ?_) ?_ ?_
 rotate_left
 ·show Act.put _ (some 10) _ = _
  simp only [Act.put, List.setIfInBounds_toArray, List.set_cons_zero, List.set_cons_succ, i64_w, i32_w]
  rfl
 refine one_ (i := 7) (N := some 14) (bm 10 255) rfl rfl (one_of HT_.out (by kernel_rfl)) (by decide) (fun K hK => ?_)
 refine goes_ Try.func31 (by kernel_rfl) rfl #[.int .i64 (wrap64 (f * m)), .int .i64 4096] (by rfl) rfl rfl (by (try simp only [List.map_toArray, List.map_cons, List.map_nil]); first | done | rfl | (simp only [List.length_drop, List.length_take]; rfl)) ?_
 with_reducible refine (FB _).mono ?_
 rintro e w5_2 ⟨rfl, hb⟩
 refine ⟨_, rfl, ?_⟩
 replace BK2 := cB hb BK2
 replace BK3 := cB hb BK3
 replace HB := Aside0.mk (below_step (HB.out) hb)
 clear hb
 refine hK.out _ _ ⟨(blk_cell BK2.out 0).trans rfl, (blk_cell BK3.out 0).trans rfl⟩ (fun hHeld => ?_)
 clear hK K
 refine norm_ (a' := ?_) ?_ ?_
 rotate_left
 ·show Act.put _ (some 14) _ = _
  simp only [Act.put, List.setIfInBounds_toArray, List.set_cons_zero, List.set_cons_succ, i64_w, i32_w]
  rfl
 refine pure_ (i := 8) (N := some 15) (v := ?_) (a' := ?_) (bm 10 511) rfl rfl (any_of HT_.out (by kernel_rfl)) (fun _ _ _ h => h) (Or.inl ⟨by rfl, ?_⟩) ?_ ?_
 rotate_left
 ·intro w'
  go_simp
  with_reducible rfl
 rotate_left
 ·simp only [Act.put, List.setIfInBounds_toArray, List.set_cons_zero, List.set_cons_succ, i64_w, i32_w]
  rfl
 refine pure_ (i := 9) (N := some 6) (v := ?_) (a' := ?_) (bm 10 1023) rfl rfl (any_of HT_.out (by kernel_rfl)) (fun _ _ _ h => h) (Or.inl ⟨by rfl, ?_⟩) ?_ ?_
 rotate_left
 ·intro w'
  go_simp
  with_reducible rfl
 rotate_left
 ·simp only [Act.put, List.setIfInBounds_toArray, List.set_cons_zero, List.set_cons_succ, i64_w, i32_w]
  rfl
 refine done_ (done_of HT_.out (by kernel_rfl)) ?_
 try go_wp2
 go_ret
 exact ⟨rfl, HB.out⟩
end Go.Proofs.Ytmhnidmbgicgeaa.G
