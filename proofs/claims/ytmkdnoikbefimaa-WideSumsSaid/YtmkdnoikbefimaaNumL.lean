/- What WideSums comes to, out of the contracts of what it calls. -/
import Derived.Test.YtmkdnoikbefimaaNumMore
import Derived.Test.YtmkdnoikbefimaaGx2
namespace Go.Proofs.Ytmkdnoikbefimaa.G
open Go.RowKit Go.Proofs.NumMath Go.Proofs.YtmkdnoikbefimaaW.PrintWords Go.Proofs.YtmkdnoikbefimaaW.PrintLast Go.Proofs.YtmkdnoikbefimaaW.PrintMore
attribute [local go_sem] max2_int min2_int max_two min_two max_three min_three max_four min_four
set_option linter.unusedVariables false
set_option linter.unusedSimpArgs false
attribute [local go_sem high] eqA30
def relievolaw01_WideSums.T5 : Bool × List (List Nat × List Nat) := (true, [([], []), ([0], [0]), ([], []), ([2, 1], [2]), ([1, 3, 3], [1, 3]), ([4, 4], [4]), ([5], [5]), ([6], [6]), ([6], [6]), ([], []), ([9, 7, 5, 0, 1, 2, 3, 4, 5, 6, 7, 9], [7, 9]), ([8, 10, 0, 1, 2, 3, 4, 5, 6, 7, 8, 9, 10], [8])])
def relievolaw01_WideSums.B5 : List Nat := [0, 1, 0, 7, 15, 31, 63, 127, 127, 0, 767, 2047]
theorem relievolaw01_WideSums.tab5 : rtab .any (opsOf Try.f8 5) = relievolaw01_WideSums.T5 := by kernel_rfl
theorem relievolaw01_WideSums.bits5 : waitsOk relievolaw01_WideSums.T5.2 relievolaw01_WideSums.B5 = true := by kernel_rfl
def relievolaw01_WideSums.T10 : Bool × List (List Nat × List Nat) := (true, [([], []), ([0], [0]), ([], []), ([1, 2], [1, 2]), ([3, 1], [3]), ([4], [4]), ([4], [4]), ([5, 6, 4], [4, 5, 6]), ([4, 7], [4, 7]), ([8, 4], [8]), ([9], [9]), ([9], [9]), ([10, 11, 9], [9, 10, 11]), ([9, 12], [9, 12]), ([13, 9], [13]), ([14], [14]), ([14], [14]), ([15, 16, 14], [14, 15, 16]), ([14, 17], [14, 17]), ([18, 14], [18]), ([19], [19]), ([19], [19]), ([20, 21, 19], [19, 20, 21]), ([19, 22], [19, 22]), ([23, 19], [23]), ([24], [24]), ([24], [24]), ([25, 26, 24], [24, 25, 26]), ([24, 27], [24, 27]), ([28, 24], [28]), ([29], [29]), ([29], [29]), ([30, 31, 29], [29, 30, 31]), ([29, 32], [29, 32]), ([33, 29], [33]), ([34], [34]), ([34], [34]), ([35, 36, 34, 34], [34, 35, 36]), ([34], [34]), ([38, 37, 34], [34, 38]), ([34], [34]), ([40, 39, 34], [34, 40]), ([39, 41, 41, 34], [34, 39, 41]), ([37, 42, 34], [34, 37, 42]), ([34, 43], [34, 43]), ([44, 42, 0, 1, 2, 3, 4, 5, 6, 7, 8, 9, 10, 11, 12, 13, 14, 15, 16, 17, 18, 19, 20, 21, 22, 23, 24, 25, 26, 27, 28, 29, 30, 31, 32, 33, 34, 35, 36, 37, 38, 39, 40, 41, 42, 43, 44], [44])])
def relievolaw01_WideSums.B10 : List Nat := [0, 1, 0, 7, 15, 31, 31, 127, 255, 511, 1023, 1023, 4095, 8191, 16383, 32767, 32767, 131071, 262143, 524287, 1048575, 1048575, 4194303, 8388607, 16777215, 33554431, 33554431, 134217727, 268435455, 536870911, 1073741823, 1073741823, 4294967295, 8589934591, 17179869183, 34359738367, 34359738367, 137438953471, 34359738367, 549755813887, 34359738367, 2199023255551, 4398046511103, 8796093022207, 17592186044415, 35184372088831]
theorem relievolaw01_WideSums.tab10 : rtab .any (opsOf Try.f8 10) = relievolaw01_WideSums.T10 := by kernel_rfl
theorem relievolaw01_WideSums.bits10 : waitsOk relievolaw01_WideSums.T10.2 relievolaw01_WideSums.B10 = true := by kernel_rfl
set_option maxHeartbeats 4000000 in
set_option maxRecDepth 100000 in
theorem sums_walk (a0 a1 b0 b1 n o1 o2 x1 x2 p1 p2 i1 c : Int) (o3 x3 p3 i2 sn sa sb sp sm : Bool) (Dn Da Db Dp Dm : List Int) (w : World)
    (AL : (∀ w, Calls Try.prog 11 #[] w fun e w' => e = .returned (.bool true) ∧ Below w.heap.size w w'))
    (FN : (∀ w, Calls Try.prog 26 #[.int .i64 n] w fun e w' => e = .returned (.agg (numA sn Dn)) ∧ Below w.heap.size w w'))
    (TN : (∀ w, Calls Try.prog 25 #[.agg (numA sn Dn)] w fun e w' => e = .returned (.tuple #[.agg #[.int .i64 o1, .int .u64 o2], .bool o3]) ∧ Below w.heap.size w w'))
    (AD : (∀ w, Calls Try.prog 17 #[.agg #[.int .i64 a0, .int .u64 a1], .agg #[.int .i64 b0, .int .u64 b1]] w fun e w' => e = .returned (.tuple #[.agg #[.int .i64 x1, .int .u64 x2], .bool x3]) ∧ Below w.heap.size w w'))
    (FA : (∀ w, Calls Try.prog 28 #[.agg #[.int .i64 a0, .int .u64 a1]] w fun e w' => e = .returned (.agg (numA sa Da)) ∧ Below w.heap.size w w'))
    (FB : (∀ w, Calls Try.prog 28 #[.agg #[.int .i64 b0, .int .u64 b1]] w fun e w' => e = .returned (.agg (numA sb Db)) ∧ Below w.heap.size w w'))
    (PL : (∀ w, Calls Try.prog 27 #[.agg (numA sa Da), .agg (numA sb Db)] w fun e w' => e = .returned (.agg (numA sp Dp)) ∧ Below w.heap.size w w'))
    (TP : (∀ w, Calls Try.prog 25 #[.agg (numA sp Dp)] w fun e w' => e = .returned (.tuple #[.agg #[.int .i64 x1, .int .u64 x2], .bool x3]) ∧ Below w.heap.size w w'))
    (NG : (∀ w, Calls Try.prog 16 #[.agg #[.int .i64 a0, .int .u64 a1]] w fun e w' => e = .returned (.tuple #[.agg #[.int .i64 p1, .int .u64 p2], .bool p3]) ∧ Below w.heap.size w w'))
    (MN : (∀ w, Calls Try.prog 29 #[.agg (numA sa Da)] w fun e w' => e = .returned (.agg (numA sm Dm)) ∧ Below w.heap.size w w'))
    (TM : (∀ w, Calls Try.prog 25 #[.agg (numA sm Dm)] w fun e w' => e = .returned (.tuple #[.agg #[.int .i64 p1, .int .u64 p2], .bool p3]) ∧ Below w.heap.size w w'))
    (IN : (∀ w, Calls Try.prog 19 #[.agg #[.int .i64 a0, .int .u64 a1]] w fun e w' => e = .returned (.tuple #[.int .i64 i1, .bool i2]) ∧ Below w.heap.size w w'))
    (IR : (∀ w, Calls Try.prog 30 #[.agg #[.int .i64 a0, .int .u64 a1]] w fun e w' => e = .returned (.tuple #[.int .i64 i1, .bool i2]) ∧ Below w.heap.size w w'))
    (OF : (∀ w, Calls Try.prog 15 #[.int .i64 n] w fun e w' => e = .returned (.agg #[.int .i64 o1, .int .u64 o2]) ∧ Below w.heap.size w w'))
    (CM : (∀ w, Calls Try.prog 14 #[.agg #[.int .i64 a0, .int .u64 a1], .agg #[.int .i64 b0, .int .u64 b1]] w fun e w' => e = .returned (.int .i64 c) ∧ Below w.heap.size w w'))
    (CR : (∀ w, Calls Try.prog 31 #[.agg (numA sa Da), .agg (numA sb Db)] w fun e w' => e = .returned (.int .i64 c) ∧ Below w.heap.size w w')) :
    Calls Try.prog 8 #[.agg #[.int .i64 a0, .int .u64 a1], .agg #[.int .i64 b0, .int .u64 b1], .int .i64 n] w fun e w' => e = .returned (.bool true) ∧ Below w.heap.size w w' := by
 have hu30 := Try.underlying30
 have HB := Aside0.mk (Below.refl w.heap.size w)
 go_enter Try.func8, Try.ntmps8
 go_wp2_with (first
   | ((with_reducible refine gate_dst (N := 3) rfl ?_); refine box_event ?hg (N := 3) ?hd (cs := #[.int .i64 a0, .int .u64 a1]) (t := 30) ?hr ?_; (case hd => rfl); (case hg => rfl); (case hr => first | (go_simp; done) | (go_simp; rfl)); intro g3 hg w3 hbox hb; have BK3 := Aside0.mk (hbox); have GE3 := Aside0.mk (bG hg (HB.out)); replace HB := Aside0.mk (below_step (HB.out) hb); clear hb hbox hg)
   | ((with_reducible refine gate_dst (N := 4) rfl ?_); refine box_event ?hg (N := 4) ?hd (cs := #[.int .i64 b0, .int .u64 b1]) (t := 30) ?hr ?_; (case hd => rfl); (case hg => rfl); (case hr => first | (go_simp; done) | (go_simp; rfl)); intro g4 hg w4 hbox hb; have BK4 := Aside0.mk (hbox); have GE4 := Aside0.mk (bG hg (HB.out)); have N34 := cN hg BK3; have N43 := cM hg BK3; replace HB := Aside0.mk (below_step (HB.out) hb); replace BK3 := cB hb BK3; clear hb hbox hg)
   | (go_at_call 11; (with_reducible refine (AL _).mono ?_); rintro e w5 ⟨rfl, hb⟩; replace BK3 := cB hb BK3; replace BK4 := cB hb BK4; replace HB := Aside0.mk (below_step (HB.out) hb); clear hb; obtain ⟨k0, k1⟩ := cells2 BK3.out; obtain ⟨l0, l1⟩ := cells2 BK4.out)
   | (go_at_call 26; (with_reducible refine (FN _).mono ?_); rintro e w6 ⟨rfl, hb⟩; replace BK3 := cB hb BK3; replace BK4 := cB hb BK4; replace HB := Aside0.mk (below_step (HB.out) hb); clear hb; obtain ⟨k0, k1⟩ := cells2 BK3.out; obtain ⟨l0, l1⟩ := cells2 BK4.out)
   | (go_at_call 25; (with_reducible refine (TN _).mono ?_); rintro e w7 ⟨rfl, hb⟩; replace BK3 := cB hb BK3; replace BK4 := cB hb BK4; replace HB := Aside0.mk (below_step (HB.out) hb); clear hb; obtain ⟨k0, k1⟩ := cells2 BK3.out; obtain ⟨l0, l1⟩ := cells2 BK4.out)
   | ((with_reducible refine gate_dst (N := 7) rfl ?_); refine box_event ?hg (N := 7) ?hd (cs := #[.int .i64 0, .int .u64 0]) (t := 30) ?hr ?_; (case hd => rfl); (case hg => rfl); (case hr => first | (go_simp; done) | (go_simp; rfl)); intro g7 hg w8 hbox hb; have BK7 := Aside0.mk (hbox); have GE7 := Aside0.mk (bG hg (HB.out)); have N37 := cN hg BK3; have N73 := cM hg BK3; have N47 := cN hg BK4; have N74 := cM hg BK4; replace HB := Aside0.mk (below_step (HB.out) hb); replace BK3 := cB hb BK3; replace BK4 := cB hb BK4; clear hb hbox hg; have zz0 := (blk_cell BK7.out 0).trans (rfl : _ = some (Value.int .i64 0)); have zf0 := blk_frozen BK7.out 0; have zz1 := (blk_cell BK7.out 1).trans (rfl : _ = some (Value.int .u64 0)); have zf1 := blk_frozen BK7.out 1; have hn0 := N37.out; have hm0 := N73.out; have hn1 := N47.out; have hm1 := N74.out; obtain ⟨k0, k1⟩ := cells2 BK3.out; obtain ⟨l0, l1⟩ := cells2 BK4.out)
   | (go_at_call 17; replace BK3 := Aside0.mk (blk_far (blk_far BK3.out (p := ⟨g7, 0, none⟩) N37.out (.int .i64 o1)) (p := ⟨g7, 1, none⟩) N37.out (.int .u64 o2)); replace BK4 := Aside0.mk (blk_far (blk_far BK4.out (p := ⟨g7, 0, none⟩) N47.out (.int .i64 o1)) (p := ⟨g7, 1, none⟩) N47.out (.int .u64 o2)); replace BK7 := Aside0.mk (blk_put (cs' := #[.int .i64 o1, .int .u64 o2]) (blk_put BK7.out 0 (.int .i64 o1) rfl) 1 (.int .u64 o2) rfl); replace HB := Aside0.mk (below_set (j := 1) (v := .int .u64 o2) (below_set (j := 0) (v := .int .i64 o1) HB.out GE7.out) GE7.out); (with_reducible refine (AD _).mono ?_); rintro e w9 ⟨rfl, hb⟩; replace BK3 := cB hb BK3; replace BK4 := cB hb BK4; replace BK7 := cB hb BK7; replace HB := Aside0.mk (below_step (HB.out) hb); clear hb; obtain ⟨k0, k1⟩ := cells2 BK3.out; obtain ⟨l0, l1⟩ := cells2 BK4.out)
   | ((with_reducible refine gate_dst (N := 9) rfl ?_); refine box_event ?hg (N := 9) ?hd (cs := #[.int .i64 0, .int .u64 0]) (t := 30) ?hr ?_; (case hd => rfl); (case hg => rfl); (case hr => first | (go_simp; done) | (go_simp; rfl)); intro g9 hg w10 hbox hb; have BK9 := Aside0.mk (hbox); have GE9 := Aside0.mk (bG hg (HB.out)); have N39 := cN hg BK3; have N93 := cM hg BK3; have N49 := cN hg BK4; have N94 := cM hg BK4; have N79 := cN hg BK7; have N97 := cM hg BK7; replace HB := Aside0.mk (below_step (HB.out) hb); replace BK3 := cB hb BK3; replace BK4 := cB hb BK4; replace BK7 := cB hb BK7; clear hb hbox hg; have zz0 := (blk_cell BK9.out 0).trans (rfl : _ = some (Value.int .i64 0)); have zf0 := blk_frozen BK9.out 0; have zz1 := (blk_cell BK9.out 1).trans (rfl : _ = some (Value.int .u64 0)); have zf1 := blk_frozen BK9.out 1; have hn0 := N39.out; have hm0 := N93.out; have hn1 := N49.out; have hm1 := N94.out; have hn2 := N79.out; have hm2 := N97.out; obtain ⟨k0, k1⟩ := cells2 BK3.out; obtain ⟨l0, l1⟩ := cells2 BK4.out))
 clear k0 k1 l0 l1 zz0 zz1 zf0 zf1 hn0 hn1 hn2 hm0 hm1 hm2
 replace BK3 := Aside0.mk (blk_far (blk_far BK3.out (p := ⟨g9, 0, none⟩) N39.out (.int .i64 x1)) (p := ⟨g9, 1, none⟩) N39.out (.int .u64 x2))
 replace BK4 := Aside0.mk (blk_far (blk_far BK4.out (p := ⟨g9, 0, none⟩) N49.out (.int .i64 x1)) (p := ⟨g9, 1, none⟩) N49.out (.int .u64 x2))
 replace BK7 := Aside0.mk (blk_far (blk_far BK7.out (p := ⟨g9, 0, none⟩) N79.out (.int .i64 x1)) (p := ⟨g9, 1, none⟩) N79.out (.int .u64 x2))
 replace BK9 := Aside0.mk (blk_put (cs' := #[.int .i64 x1, .int .u64 x2]) (blk_put BK9.out 0 (.int .i64 x1) rfl) 1 (.int .u64 x2) rfl)
 replace HB := Aside0.mk (below_set (j := 1) (v := .int .u64 x2) (below_set (j := 0) (v := .int .i64 x1) HB.out GE9.out) GE9.out)
 generalize ((w10.setCell ⟨g9, 0, none⟩ (.int .i64 x1)).setCell ⟨g9, 1, none⟩ (.int .u64 x2)) = w11 at BK3 BK4 BK7 BK9 HB ⊢
 replace BK3 := Aside0.mk (blk_drew BK3.out)
 replace BK4 := Aside0.mk (blk_drew BK4.out)
 replace BK7 := Aside0.mk (blk_drew BK7.out)
 replace BK9 := Aside0.mk (blk_drew BK9.out)
 replace HB := Aside0.mk (below_drew1 HB.out)
 refine start_ (n := 12) (S := fun w' => w'.cell? ⟨g3, 0, none⟩ = some (.int .i64 a0) ∧ w'.cell? ⟨g3, 1, none⟩ = some (.int .u64 a1) ∧ w'.cell? ⟨g4, 0, none⟩ = some (.int .i64 b0) ∧ w'.cell? ⟨g4, 1, none⟩ = some (.int .u64 b1)) (ds := [10]) #[false, false, false, false, false, false, false, false, false, false, false, false] (by kernel_rfl) rfl rfl ⟨(blk_cell BK3.out 0).trans rfl, (blk_cell BK3.out 1).trans rfl, (blk_cell BK4.out 0).trans rfl, (blk_cell BK4.out 1).trans rfl⟩ (fun hHeld => ?_); refine with_tabW relievolaw01_WideSums.tab5 relievolaw01_WideSums.bits5 (fun HT_ HW_ => ?_)
 generalize w11.drew = w12 at BK3 BK4 BK7 BK9 HB hHeld ⊢
 refine take_ (i := 0) (N := some 36) (v := ?_) (a' := ?_) #[true, false, false, false, false, false, false, false, false, false, false, false] rfl rfl (take_ofW HT_.out HW_.out (by kernel_rfl)) (fun _ _ _ h => h) (Or.inl ⟨by rfl, ?_⟩) hHeld ?_ ?_
 rotate_left
 ·rintro w' ⟨s0, s1, s2, s3⟩
  go_simp
  with_reducible rfl
 rotate_left
 ·simp only [Act.put, List.setIfInBounds_toArray, List.set_cons_zero, List.set_cons_succ, i64_w, i32_w]
  rfl
 refine take_ (i := 2) (N := some 38) (v := ?_) (a' := ?_) #[true, false, true, false, false, false, false, false, false, false, false, false] rfl rfl (take_ofW HT_.out HW_.out (by kernel_rfl)) (fun _ _ _ h => h) (Or.inl ⟨by rfl, ?_⟩) hHeld ?_ ?_
 rotate_left
 ·rintro w' ⟨s0, s1, s2, s3⟩
  go_simp
  with_reducible rfl
 rotate_left
 ·simp only [Act.put, List.setIfInBounds_toArray, List.set_cons_zero, List.set_cons_succ, i64_w, i32_w]
  rfl
 refine join_ (σ := Nat) 2 #[true, true, true, true, true, true, true, true, true, true, false, false] (fun s_ => [(37, .agg (numA sa Da)), (39, .agg (numA sb Db)), (40, .agg (numA sp Dp)), (41, .tuple #[.agg #[.int .i64 x1, .int .u64 x2], .bool x3]), (35, .tuple #[.agg #[.int .i64 x1, .int .u64 x2], .bool x3]), (42, .agg #[.int .i64 x1, .int .u64 x2]), (43, .bool x3), (11, .pointer (some ⟨s_, 0, none⟩))]) (fun s_ w' => (w'.cell? ⟨g3, 0, none⟩ = some (.int .i64 a0) ∧ w'.cell? ⟨g3, 1, none⟩ = some (.int .u64 a1) ∧ w'.cell? ⟨g4, 0, none⟩ = some (.int .i64 b0) ∧ w'.cell? ⟨g4, 1, none⟩ = some (.int .u64 b1)) ∧ (w'.heap[g3]? = some (.cells #[.int .i64 a0, .int .u64 a1] 30 (0, 0))) ∧ (w'.heap[g4]? = some (.cells #[.int .i64 b0, .int .u64 b1] 30 (0, 0))) ∧ (w'.heap[g7]? = some (.cells #[.int .i64 o1, .int .u64 o2] 30 (0, 0))) ∧ (w'.heap[g9]? = some (.cells #[.int .i64 x1, .int .u64 x2] 30 (0, 0))) ∧ (w'.heap[s_]? = some (.cells #[.int .i64 0, .int .u64 0] 30 (0, 0))) ∧ (w.heap.size ≤ s_) ∧ (g3 ≠ s_) ∧ (s_ ≠ g3) ∧ (g4 ≠ s_) ∧ (s_ ≠ g4) ∧ (g7 ≠ s_) ∧ (s_ ≠ g7) ∧ (g9 ≠ s_) ∧ (s_ ≠ g9) ∧ (Below w.heap.size w w')) ?_ ?_
 rotate_left
 ·intro hCont
  refine two_ (i := 1) (j := 9) (Ni := some 37) (Nj := some 11) #[true, true, true, false, false, false, false, false, false, false, false, false] #[true, false, true, false, false, false, false, false, false, true, false, false] rfl rfl rfl rfl (two_of HT_.out (by kernel_rfl)) (by decide) (by decide) (fun K hK => ?_) (fun K hK => ?_)
  ·skip
   refine goes_ Try.func28 (by kernel_rfl) rfl #[.agg #[.int .i64 a0, .int .u64 a1]] (by rfl) rfl rfl (by (try simp only [List.map_toArray, List.map_cons, List.map_nil]); first | done | rfl | (simp only [List.length_drop, List.length_take]; rfl)) ?_
   with_reducible refine (FA _).mono ?_
   rintro e w12_1 ⟨rfl, hb⟩
   refine ⟨_, rfl, ?_⟩
   replace BK3 := cB hb BK3
   replace BK4 := cB hb BK4
   replace BK7 := cB hb BK7
   replace BK9 := cB hb BK9
   replace HB := Aside0.mk (below_step (HB.out) hb)
   clear hb
   refine hK.out _ _ ⟨(blk_cell BK3.out 0).trans rfl, (blk_cell BK3.out 1).trans rfl, (blk_cell BK4.out 0).trans rfl, (blk_cell BK4.out 1).trans rfl⟩ (fun hHeld => ?_)
   clear hK K
   refine norm_ (a' := ?_) ?_ ?_
   rotate_left
   ·show Act.put _ (some 37) _ = _
    simp only [Act.put, List.setIfInBounds_toArray, List.set_cons_zero, List.set_cons_succ, i64_w, i32_w]
    rfl
   refine two_ (i := 3) (j := 9) (Ni := some 39) (Nj := some 11) #[true, true, true, true, false, false, false, false, false, false, false, false] #[true, true, true, false, false, false, false, false, false, true, false, false] rfl rfl rfl rfl (two_of HT_.out (by kernel_rfl)) (by decide) (by decide) (fun K hK => ?_) (fun K hK => ?_)
   ·skip
    refine goes_ Try.func28 (by kernel_rfl) rfl #[.agg #[.int .i64 b0, .int .u64 b1]] (by rfl) rfl rfl (by (try simp only [List.map_toArray, List.map_cons, List.map_nil]); first | done | rfl | (simp only [List.length_drop, List.length_take]; rfl)) ?_
    with_reducible refine (FB _).mono ?_
    rintro e w12_2 ⟨rfl, hb⟩
    refine ⟨_, rfl, ?_⟩
    replace BK3 := cB hb BK3
    replace BK4 := cB hb BK4
    replace BK7 := cB hb BK7
    replace BK9 := cB hb BK9
    replace HB := Aside0.mk (below_step (HB.out) hb)
    clear hb
    refine hK.out _ _ ⟨(blk_cell BK3.out 0).trans rfl, (blk_cell BK3.out 1).trans rfl, (blk_cell BK4.out 0).trans rfl, (blk_cell BK4.out 1).trans rfl⟩ (fun hHeld => ?_)
    clear hK K
    refine norm_ (a' := ?_) ?_ ?_
    rotate_left
    ·show Act.put _ (some 39) _ = _
     simp only [Act.put, List.setIfInBounds_toArray, List.set_cons_zero, List.set_cons_succ, i64_w, i32_w]
     rfl
    refine two_ (i := 4) (j := 9) (Ni := some 40) (Nj := some 11) #[true, true, true, true, true, false, false, false, false, false, false, false] #[true, true, true, true, false, false, false, false, false, true, false, false] rfl rfl rfl rfl (two_of HT_.out (by kernel_rfl)) (by decide) (by decide) (fun K hK => ?_) (fun K hK => ?_)
    ·skip
     refine goes_ Try.func27 (by kernel_rfl) rfl #[.agg (numA sa Da), .agg (numA sb Db)] (by rfl) rfl rfl (by (try simp only [List.map_toArray, List.map_cons, List.map_nil]); first | done | rfl | (simp only [List.length_drop, List.length_take]; rfl)) ?_
     with_reducible refine (PL _).mono ?_
     rintro e w12_3 ⟨rfl, hb⟩
     refine ⟨_, rfl, ?_⟩
     replace BK3 := cB hb BK3
     replace BK4 := cB hb BK4
     replace BK7 := cB hb BK7
     replace BK9 := cB hb BK9
     replace HB := Aside0.mk (below_step (HB.out) hb)
     clear hb
     refine hK.out _ _ ⟨(blk_cell BK3.out 0).trans rfl, (blk_cell BK3.out 1).trans rfl, (blk_cell BK4.out 0).trans rfl, (blk_cell BK4.out 1).trans rfl⟩ (fun hHeld => ?_)
     clear hK K
     refine norm_ (a' := ?_) ?_ ?_
     rotate_left
     ·show Act.put _ (some 40) _ = _
      simp only [Act.put, List.setIfInBounds_toArray, List.set_cons_zero, List.set_cons_succ, i64_w, i32_w]
      rfl
     refine two_ (i := 5) (j := 9) (Ni := some 41) (Nj := some 11) #[true, true, true, true, true, true, false, false, false, false, false, false] #[true, true, true, true, true, false, false, false, false, true, false, false] rfl rfl rfl rfl (two_of HT_.out (by kernel_rfl)) (by decide) (by decide) (fun K hK => ?_) (fun K hK => ?_)
     ·skip
      refine goes_ Try.func25 (by kernel_rfl) rfl #[.agg (numA sp Dp)] (by rfl) rfl rfl (by (try simp only [List.map_toArray, List.map_cons, List.map_nil]); first | done | rfl | (simp only [List.length_drop, List.length_take]; rfl)) ?_
      with_reducible refine (TP _).mono ?_
      rintro e w12_4 ⟨rfl, hb⟩
      refine ⟨_, rfl, ?_⟩
      replace BK3 := cB hb BK3
      replace BK4 := cB hb BK4
      replace BK7 := cB hb BK7
      replace BK9 := cB hb BK9
      replace HB := Aside0.mk (below_step (HB.out) hb)
      clear hb
      refine hK.out _ _ ⟨(blk_cell BK3.out 0).trans rfl, (blk_cell BK3.out 1).trans rfl, (blk_cell BK4.out 0).trans rfl, (blk_cell BK4.out 1).trans rfl⟩ (fun hHeld => ?_)
      clear hK K
      refine norm_ (a' := ?_) ?_ ?_
      rotate_left
      ·show Act.put _ (some 41) _ = _
       simp only [Act.put, List.setIfInBounds_toArray, List.set_cons_zero, List.set_cons_succ, i64_w, i32_w]
       rfl
      refine pure_ (i := 6) (N := some 35) (v := ?_) (a' := ?_) #[true, true, true, true, true, true, true, false, false, false, false, false] rfl rfl (any_of HT_.out (by kernel_rfl)) (fun _ _ _ h => h) (Or.inl ⟨by rfl, ?_⟩) ?_ ?_
      rotate_left
      ·intro w'
       go_simp
       with_reducible rfl
      rotate_left
      ·simp only [Act.put, List.setIfInBounds_toArray, List.set_cons_zero, List.set_cons_succ, i64_w, i32_w]
       rfl
      refine pure_ (i := 7) (N := some 42) (v := ?_) (a' := ?_) #[true, true, true, true, true, true, true, true, false, false, false, false] rfl rfl (any_of HT_.out (by kernel_rfl)) (fun _ _ _ h => h) (Or.inl ⟨by rfl, ?_⟩) ?_ ?_
      rotate_left
      ·intro w'
       go_simp
       with_reducible rfl
      rotate_left
      ·simp only [Act.put, List.setIfInBounds_toArray, List.set_cons_zero, List.set_cons_succ, i64_w, i32_w]
       rfl
      refine pure_ (i := 8) (N := some 43) (v := ?_) (a' := ?_) #[true, true, true, true, true, true, true, true, true, false, false, false] rfl rfl (any_of HT_.out (by kernel_rfl)) (fun _ _ _ h => h) (Or.inl ⟨by rfl, ?_⟩) ?_ ?_
      rotate_left
      ·intro w'
       go_simp
       with_reducible rfl
      rotate_left
      ·simp only [Act.put, List.setIfInBounds_toArray, List.set_cons_zero, List.set_cons_succ, i64_w, i32_w]
       rfl
      refine one_ (i := 9) (N := some 11) #[true, true, true, true, true, true, true, true, true, true, false, false] rfl rfl (one_of HT_.out (by kernel_rfl)) (by decide) (fun K hK => ?_)
      refine box_step ?hg (N := 11) ?hd (cs := #[.int .i64 0, .int .u64 0]) (t := 30) ?hr ?_; (case hd => rfl); (case hg => rfl); (case hr => first | (go_simp; done) | (go_simp; rfl))
      intro g11 hg w12_5 hbox hb
      have BK11 := Aside0.mk (hbox)
      have GE11 := Aside0.mk (bG hg (HB.out))
      have N311 := cN hg BK3
      have N113 := cM hg BK3
      have N411 := cN hg BK4
      have N114 := cM hg BK4
      have N711 := cN hg BK7
      have N117 := cM hg BK7
      have N911 := cN hg BK9
      have N119 := cM hg BK9
      clear hbox hg
      replace BK3 := cB hb BK3
      replace BK4 := cB hb BK4
      replace BK7 := cB hb BK7
      replace BK9 := cB hb BK9
      replace HB := Aside0.mk (below_step (HB.out) hb)
      clear hb
      refine hK.out _ _ ⟨(blk_cell BK3.out 0).trans rfl, (blk_cell BK3.out 1).trans rfl, (blk_cell BK4.out 0).trans rfl, (blk_cell BK4.out 1).trans rfl⟩ (fun hHeld => ?_)
      clear hK K
      refine norm_ (a' := ?_) ?_ ?_
      rotate_left
      ·show Act.put _ (some 11) _ = _
       simp only [Act.put, List.setIfInBounds_toArray, List.set_cons_zero, List.set_cons_succ, i64_w, i32_w]
       rfl
      exact norm_ (by simp only [putAll, Act.put, List.setIfInBounds_toArray, List.set_cons_zero, List.set_cons_succ]) (hCont (g11) _ ⟨hHeld, BK3.out, BK4.out, BK7.out, BK9.out, BK11.out, GE11.out, N311.out, N113.out, N411.out, N114.out, N711.out, N117.out, N911.out, N119.out, HB.out⟩)
     ·skip
      refine box_step ?hg (N := 11) ?hd (cs := #[.int .i64 0, .int .u64 0]) (t := 30) ?hr ?_; (case hd => rfl); (case hg => rfl); (case hr => first | (go_simp; done) | (go_simp; rfl))
      intro g11 hg w12_6 hbox hb
      have BK11 := Aside0.mk (hbox)
      have GE11 := Aside0.mk (bG hg (HB.out))
      have N311 := cN hg BK3
      have N113 := cM hg BK3
      have N411 := cN hg BK4
      have N114 := cM hg BK4
      have N711 := cN hg BK7
      have N117 := cM hg BK7
      have N911 := cN hg BK9
      have N119 := cM hg BK9
      clear hbox hg
      replace BK3 := cB hb BK3
      replace BK4 := cB hb BK4
      replace BK7 := cB hb BK7
      replace BK9 := cB hb BK9
      replace HB := Aside0.mk (below_step (HB.out) hb)
      clear hb
      refine hK.out _ _ ⟨(blk_cell BK3.out 0).trans rfl, (blk_cell BK3.out 1).trans rfl, (blk_cell BK4.out 0).trans rfl, (blk_cell BK4.out 1).trans rfl⟩ (fun hHeld => ?_)
      clear hK K
      refine norm_ (a' := ?_) ?_ ?_
      rotate_left
      ·show Act.put _ (some 11) _ = _
       simp only [Act.put, List.setIfInBounds_toArray, List.set_cons_zero, List.set_cons_succ, i64_w, i32_w]
       rfl
      refine one_ (i := 5) (N := some 41) #[true, true, true, true, true, true, false, false, false, true, false, false] rfl rfl (one_of HT_.out (by kernel_rfl)) (by decide) (fun K hK => ?_)
      refine goes_ Try.func25 (by kernel_rfl) rfl #[.agg (numA sp Dp)] (by rfl) rfl rfl (by (try simp only [List.map_toArray, List.map_cons, List.map_nil]); first | done | rfl | (simp only [List.length_drop, List.length_take]; rfl)) ?_
      with_reducible refine (TP _).mono ?_
      rintro e w12_7 ⟨rfl, hb⟩
      refine ⟨_, rfl, ?_⟩
      replace BK3 := cB hb BK3
      replace BK4 := cB hb BK4
      replace BK7 := cB hb BK7
      replace BK9 := cB hb BK9
      replace BK11 := cB hb BK11
      replace HB := Aside0.mk (below_step (HB.out) hb)
      clear hb
      refine hK.out _ _ ⟨(blk_cell BK3.out 0).trans rfl, (blk_cell BK3.out 1).trans rfl, (blk_cell BK4.out 0).trans rfl, (blk_cell BK4.out 1).trans rfl⟩ (fun hHeld => ?_)
      clear hK K
      refine norm_ (a' := ?_) ?_ ?_
      rotate_left
      ·show Act.put _ (some 41) _ = _
       simp only [Act.put, List.setIfInBounds_toArray, List.set_cons_zero, List.set_cons_succ, i64_w, i32_w]
       rfl
      refine pure_ (i := 6) (N := some 35) (v := ?_) (a' := ?_) #[true, true, true, true, true, true, true, false, false, true, false, false] rfl rfl (any_of HT_.out (by kernel_rfl)) (fun _ _ _ h => h) (Or.inl ⟨by rfl, ?_⟩) ?_ ?_
      rotate_left
      ·intro w'
       go_simp
       with_reducible rfl
      rotate_left
      ·simp only [Act.put, List.setIfInBounds_toArray, List.set_cons_zero, List.set_cons_succ, i64_w, i32_w]
       rfl
      refine pure_ (i := 7) (N := some 42) (v := ?_) (a' := ?_) #[true, true, true, true, true, true, true, true, false, true, false, false] rfl rfl (any_of HT_.out (by kernel_rfl)) (fun _ _ _ h => h) (Or.inl ⟨by rfl, ?_⟩) ?_ ?_
      rotate_left
      ·intro w'
       go_simp
       with_reducible rfl
      rotate_left
      ·simp only [Act.put, List.setIfInBounds_toArray, List.set_cons_zero, List.set_cons_succ, i64_w, i32_w]
       rfl
      refine pure_ (i := 8) (N := some 43) (v := ?_) (a' := ?_) #[true, true, true, true, true, true, true, true, true, true, false, false] rfl rfl (any_of HT_.out (by kernel_rfl)) (fun _ _ _ h => h) (Or.inl ⟨by rfl, ?_⟩) ?_ ?_
      rotate_left
      ·intro w'
       go_simp
       with_reducible rfl
      rotate_left
      ·simp only [Act.put, List.setIfInBounds_toArray, List.set_cons_zero, List.set_cons_succ, i64_w, i32_w]
       rfl
      exact norm_ (by simp only [putAll, Act.put, List.setIfInBounds_toArray, List.set_cons_zero, List.set_cons_succ]) (hCont (g11) _ ⟨hHeld, BK3.out, BK4.out, BK7.out, BK9.out, BK11.out, GE11.out, N311.out, N113.out, N411.out, N114.out, N711.out, N117.out, N911.out, N119.out, HB.out⟩)
    ·skip
     refine box_step ?hg (N := 11) ?hd (cs := #[.int .i64 0, .int .u64 0]) (t := 30) ?hr ?_; (case hd => rfl); (case hg => rfl); (case hr => first | (go_simp; done) | (go_simp; rfl))
     intro g11 hg w12_8 hbox hb
     have BK11 := Aside0.mk (hbox)
     have GE11 := Aside0.mk (bG hg (HB.out))
     have N311 := cN hg BK3
     have N113 := cM hg BK3
     have N411 := cN hg BK4
     have N114 := cM hg BK4
     have N711 := cN hg BK7
     have N117 := cM hg BK7
     have N911 := cN hg BK9
     have N119 := cM hg BK9
     clear hbox hg
     replace BK3 := cB hb BK3
     replace BK4 := cB hb BK4
     replace BK7 := cB hb BK7
     replace BK9 := cB hb BK9
     replace HB := Aside0.mk (below_step (HB.out) hb)
     clear hb
     refine hK.out _ _ ⟨(blk_cell BK3.out 0).trans rfl, (blk_cell BK3.out 1).trans rfl, (blk_cell BK4.out 0).trans rfl, (blk_cell BK4.out 1).trans rfl⟩ (fun hHeld => ?_)
     clear hK K
     refine norm_ (a' := ?_) ?_ ?_
     rotate_left
     ·show Act.put _ (some 11) _ = _
      simp only [Act.put, List.setIfInBounds_toArray, List.set_cons_zero, List.set_cons_succ, i64_w, i32_w]
      rfl
     refine one_ (i := 4) (N := some 40) #[true, true, true, true, true, false, false, false, false, true, false, false] rfl rfl (one_of HT_.out (by kernel_rfl)) (by decide) (fun K hK => ?_)
     refine goes_ Try.func27 (by kernel_rfl) rfl #[.agg (numA sa Da), .agg (numA sb Db)] (by rfl) rfl rfl (by (try simp only [List.map_toArray, List.map_cons, List.map_nil]); first | done | rfl | (simp only [List.length_drop, List.length_take]; rfl)) ?_
     with_reducible refine (PL _).mono ?_
     rintro e w12_9 ⟨rfl, hb⟩
     refine ⟨_, rfl, ?_⟩
     replace BK3 := cB hb BK3
     replace BK4 := cB hb BK4
     replace BK7 := cB hb BK7
     replace BK9 := cB hb BK9
     replace BK11 := cB hb BK11
     replace HB := Aside0.mk (below_step (HB.out) hb)
     clear hb
     refine hK.out _ _ ⟨(blk_cell BK3.out 0).trans rfl, (blk_cell BK3.out 1).trans rfl, (blk_cell BK4.out 0).trans rfl, (blk_cell BK4.out 1).trans rfl⟩ (fun hHeld => ?_)
     clear hK K
     refine norm_ (a' := ?_) ?_ ?_
     rotate_left
     ·show Act.put _ (some 40) _ = _
      simp only [Act.put, List.setIfInBounds_toArray, List.set_cons_zero, List.set_cons_succ, i64_w, i32_w]
      rfl
     refine one_ (i := 5) (N := some 41) #[true, true, true, true, true, true, false, false, false, true, false, false] rfl rfl (one_of HT_.out (by kernel_rfl)) (by decide) (fun K hK => ?_)
     refine goes_ Try.func25 (by kernel_rfl) rfl #[.agg (numA sp Dp)] (by rfl) rfl rfl (by (try simp only [List.map_toArray, List.map_cons, List.map_nil]); first | done | rfl | (simp only [List.length_drop, List.length_take]; rfl)) ?_
     with_reducible refine (TP _).mono ?_
     rintro e w12_10 ⟨rfl, hb⟩
     refine ⟨_, rfl, ?_⟩
     replace BK3 := cB hb BK3
     replace BK4 := cB hb BK4
     replace BK7 := cB hb BK7
     replace BK9 := cB hb BK9
     replace BK11 := cB hb BK11
     replace HB := Aside0.mk (below_step (HB.out) hb)
     clear hb
     refine hK.out _ _ ⟨(blk_cell BK3.out 0).trans rfl, (blk_cell BK3.out 1).trans rfl, (blk_cell BK4.out 0).trans rfl, (blk_cell BK4.out 1).trans rfl⟩ (fun hHeld => ?_)
     clear hK K
     refine norm_ (a' := ?_) ?_ ?_
     rotate_left
     ·show Act.put _ (some 41) _ = _
      simp only [Act.put, List.setIfInBounds_toArray, List.set_cons_zero, List.set_cons_succ, i64_w, i32_w]
      rfl
     refine pure_ (i := 6) (N := some 35) (v := ?_) (a' := ?_) #[true, true, true, true, true, true, true, false, false, true, false, false] rfl rfl (any_of HT_.out (by kernel_rfl)) (fun _ _ _ h => h) (Or.inl ⟨by rfl, ?_⟩) ?_ ?_
     rotate_left
     ·intro w'
      go_simp
      with_reducible rfl
     rotate_left
     ·simp only [Act.put, List.setIfInBounds_toArray, List.set_cons_zero, List.set_cons_succ, i64_w, i32_w]
      rfl
     refine pure_ (i := 7) (N := some 42) (v := ?_) (a' := ?_) #[true, true, true, true, true, true, true, true, false, true, false, false] rfl rfl (any_of HT_.out (by kernel_rfl)) (fun _ _ _ h => h) (Or.inl ⟨by rfl, ?_⟩) ?_ ?_
     rotate_left
     ·intro w'
      go_simp
      with_reducible rfl
     rotate_left
     ·simp only [Act.put, List.setIfInBounds_toArray, List.set_cons_zero, List.set_cons_succ, i64_w, i32_w]
      rfl
     refine pure_ (i := 8) (N := some 43) (v := ?_) (a' := ?_) #[true, true, true, true, true, true, true, true, true, true, false, false] rfl rfl (any_of HT_.out (by kernel_rfl)) (fun _ _ _ h => h) (Or.inl ⟨by rfl, ?_⟩) ?_ ?_
     rotate_left
     ·intro w'
      go_simp
      with_reducible rfl
     rotate_left
     ·simp only [Act.put, List.setIfInBounds_toArray, List.set_cons_zero, List.set_cons_succ, i64_w, i32_w]
      rfl
     exact norm_ (by simp only [putAll, Act.put, List.setIfInBounds_toArray, List.set_cons_zero, List.set_cons_succ]) (hCont (g11) _ ⟨hHeld, BK3.out, BK4.out, BK7.out, BK9.out, BK11.out, GE11.out, N311.out, N113.out, N411.out, N114.out, N711.out, N117.out, N911.out, N119.out, HB.out⟩)
   ·skip
    refine box_step ?hg (N := 11) ?hd (cs := #[.int .i64 0, .int .u64 0]) (t := 30) ?hr ?_; (case hd => rfl); (case hg => rfl); (case hr => first | (go_simp; done) | (go_simp; rfl))
    intro g11 hg w12_11 hbox hb
    have BK11 := Aside0.mk (hbox)
    have GE11 := Aside0.mk (bG hg (HB.out))
    have N311 := cN hg BK3
    have N113 := cM hg BK3
    have N411 := cN hg BK4
    have N114 := cM hg BK4
    have N711 := cN hg BK7
    have N117 := cM hg BK7
    have N911 := cN hg BK9
    have N119 := cM hg BK9
    clear hbox hg
    replace BK3 := cB hb BK3
    replace BK4 := cB hb BK4
    replace BK7 := cB hb BK7
    replace BK9 := cB hb BK9
    replace HB := Aside0.mk (below_step (HB.out) hb)
    clear hb
    refine hK.out _ _ ⟨(blk_cell BK3.out 0).trans rfl, (blk_cell BK3.out 1).trans rfl, (blk_cell BK4.out 0).trans rfl, (blk_cell BK4.out 1).trans rfl⟩ (fun hHeld => ?_)
    clear hK K
    refine norm_ (a' := ?_) ?_ ?_
    rotate_left
    ·show Act.put _ (some 11) _ = _
     simp only [Act.put, List.setIfInBounds_toArray, List.set_cons_zero, List.set_cons_succ, i64_w, i32_w]
     rfl
    refine one_ (i := 3) (N := some 39) #[true, true, true, true, false, false, false, false, false, true, false, false] rfl rfl (one_of HT_.out (by kernel_rfl)) (by decide) (fun K hK => ?_)
    refine goes_ Try.func28 (by kernel_rfl) rfl #[.agg #[.int .i64 b0, .int .u64 b1]] (by rfl) rfl rfl (by (try simp only [List.map_toArray, List.map_cons, List.map_nil]); first | done | rfl | (simp only [List.length_drop, List.length_take]; rfl)) ?_
    with_reducible refine (FB _).mono ?_
    rintro e w12_12 ⟨rfl, hb⟩
    refine ⟨_, rfl, ?_⟩
    replace BK3 := cB hb BK3
    replace BK4 := cB hb BK4
    replace BK7 := cB hb BK7
    replace BK9 := cB hb BK9
    replace BK11 := cB hb BK11
    replace HB := Aside0.mk (below_step (HB.out) hb)
    clear hb
    refine hK.out _ _ ⟨(blk_cell BK3.out 0).trans rfl, (blk_cell BK3.out 1).trans rfl, (blk_cell BK4.out 0).trans rfl, (blk_cell BK4.out 1).trans rfl⟩ (fun hHeld => ?_)
    clear hK K
    refine norm_ (a' := ?_) ?_ ?_
    rotate_left
    ·show Act.put _ (some 39) _ = _
     simp only [Act.put, List.setIfInBounds_toArray, List.set_cons_zero, List.set_cons_succ, i64_w, i32_w]
     rfl
    refine one_ (i := 4) (N := some 40) #[true, true, true, true, true, false, false, false, false, true, false, false] rfl rfl (one_of HT_.out (by kernel_rfl)) (by decide) (fun K hK => ?_)
    refine goes_ Try.func27 (by kernel_rfl) rfl #[.agg (numA sa Da), .agg (numA sb Db)] (by rfl) rfl rfl (by (try simp only [List.map_toArray, List.map_cons, List.map_nil]); first | done | rfl | (simp only [List.length_drop, List.length_take]; rfl)) ?_
    with_reducible refine (PL _).mono ?_
    rintro e w12_13 ⟨rfl, hb⟩
    refine ⟨_, rfl, ?_⟩
    replace BK3 := cB hb BK3
    replace BK4 := cB hb BK4
    replace BK7 := cB hb BK7
    replace BK9 := cB hb BK9
    replace BK11 := cB hb BK11
    replace HB := Aside0.mk (below_step (HB.out) hb)
    clear hb
    refine hK.out _ _ ⟨(blk_cell BK3.out 0).trans rfl, (blk_cell BK3.out 1).trans rfl, (blk_cell BK4.out 0).trans rfl, (blk_cell BK4.out 1).trans rfl⟩ (fun hHeld => ?_)
    clear hK K
    refine norm_ (a' := ?_) ?_ ?_
    rotate_left
    ·show Act.put _ (some 40) _ = _
     simp only [Act.put, List.setIfInBounds_toArray, List.set_cons_zero, List.set_cons_succ, i64_w, i32_w]
     rfl
    refine one_ (i := 5) (N := some 41) #[true, true, true, true, true, true, false, false, false, true, false, false] rfl rfl (one_of HT_.out (by kernel_rfl)) (by decide) (fun K hK => ?_)
    refine goes_ Try.func25 (by kernel_rfl) rfl #[.agg (numA sp Dp)] (by rfl) rfl rfl (by (try simp only [List.map_toArray, List.map_cons, List.map_nil]); first | done | rfl | (simp only [List.length_drop, List.length_take]; rfl)) ?_
    with_reducible refine (TP _).mono ?_
    rintro e w12_14 ⟨rfl, hb⟩
    refine ⟨_, rfl, ?_⟩
    replace BK3 := cB hb BK3
    replace BK4 := cB hb BK4
    replace BK7 := cB hb BK7
    replace BK9 := cB hb BK9
    replace BK11 := cB hb BK11
    replace HB := Aside0.mk (below_step (HB.out) hb)
    clear hb
    refine hK.out _ _ ⟨(blk_cell BK3.out 0).trans rfl, (blk_cell BK3.out 1).trans rfl, (blk_cell BK4.out 0).trans rfl, (blk_cell BK4.out 1).trans rfl⟩ (fun hHeld => ?_)
    clear hK K
    refine norm_ (a' := ?_) ?_ ?_
    rotate_left
    ·show Act.put _ (some 41) _ = _
     simp only [Act.put, List.setIfInBounds_toArray, List.set_cons_zero, List.set_cons_succ, i64_w, i32_w]
     rfl
    refine pure_ (i := 6) (N := some 35) (v := ?_) (a' := ?_) #[true, true, true, true, true, true, true, false, false, true, false, false] rfl rfl (any_of HT_.out (by kernel_rfl)) (fun _ _ _ h => h) (Or.inl ⟨by rfl, ?_⟩) ?_ ?_
    rotate_left
    ·intro w'
     go_simp
     with_reducible rfl
    rotate_left
    ·simp only [Act.put, List.setIfInBounds_toArray, List.set_cons_zero, List.set_cons_succ, i64_w, i32_w]
     rfl
    refine pure_ (i := 7) (N := some 42) (v := ?_) (a' := ?_) #[true, true, true, true, true, true, true, true, false, true, false, false] rfl rfl (any_of HT_.out (by kernel_rfl)) (fun _ _ _ h => h) (Or.inl ⟨by rfl, ?_⟩) ?_ ?_
    rotate_left
    ·intro w'
     go_simp
     with_reducible rfl
    rotate_left
    ·simp only [Act.put, List.setIfInBounds_toArray, List.set_cons_zero, List.set_cons_succ, i64_w, i32_w]
     rfl
    refine pure_ (i := 8) (N := some 43) (v := ?_) (a' := ?_) #[true, true, true, true, true, true, true, true, true, true, false, false] rfl rfl (any_of HT_.out (by kernel_rfl)) (fun _ _ _ h => h) (Or.inl ⟨by rfl, ?_⟩) ?_ ?_
    rotate_left
    ·intro w'
     go_simp
     with_reducible rfl
    rotate_left
    ·simp only [Act.put, List.setIfInBounds_toArray, List.set_cons_zero, List.set_cons_succ, i64_w, i32_w]
     rfl
    exact norm_ (by simp only [putAll, Act.put, List.setIfInBounds_toArray, List.set_cons_zero, List.set_cons_succ]) (hCont (g11) _ ⟨hHeld, BK3.out, BK4.out, BK7.out, BK9.out, BK11.out, GE11.out, N311.out, N113.out, N411.out, N114.out, N711.out, N117.out, N911.out, N119.out, HB.out⟩)
  ·skip
   refine box_step ?hg (N := 11) ?hd (cs := #[.int .i64 0, .int .u64 0]) (t := 30) ?hr ?_; (case hd => rfl); (case hg => rfl); (case hr => first | (go_simp; done) | (go_simp; rfl))
   intro g11 hg w12_15 hbox hb
   have BK11 := Aside0.mk (hbox)
   have GE11 := Aside0.mk (bG hg (HB.out))
   have N311 := cN hg BK3
   have N113 := cM hg BK3
   have N411 := cN hg BK4
   have N114 := cM hg BK4
   have N711 := cN hg BK7
   have N117 := cM hg BK7
   have N911 := cN hg BK9
   have N119 := cM hg BK9
   clear hbox hg
   replace BK3 := cB hb BK3
   replace BK4 := cB hb BK4
   replace BK7 := cB hb BK7
   replace BK9 := cB hb BK9
   replace HB := Aside0.mk (below_step (HB.out) hb)
   clear hb
   refine hK.out _ _ ⟨(blk_cell BK3.out 0).trans rfl, (blk_cell BK3.out 1).trans rfl, (blk_cell BK4.out 0).trans rfl, (blk_cell BK4.out 1).trans rfl⟩ (fun hHeld => ?_)
   clear hK K
   refine norm_ (a' := ?_) ?_ ?_
   rotate_left
   ·show Act.put _ (some 11) _ = _
    simp only [Act.put, List.setIfInBounds_toArray, List.set_cons_zero, List.set_cons_succ, i64_w, i32_w]
    rfl
   refine one_ (i := 1) (N := some 37) #[true, true, true, false, false, false, false, false, false, true, false, false] rfl rfl (one_of HT_.out (by kernel_rfl)) (by decide) (fun K hK => ?_)
   refine goes_ Try.func28 (by kernel_rfl) rfl #[.agg #[.int .i64 a0, .int .u64 a1]] (by rfl) rfl rfl (by (try simp only [List.map_toArray, List.map_cons, List.map_nil]); first | done | rfl | (simp only [List.length_drop, List.length_take]; rfl)) ?_
   with_reducible refine (FA _).mono ?_
   rintro e w12_16 ⟨rfl, hb⟩
   refine ⟨_, rfl, ?_⟩
   replace BK3 := cB hb BK3
   replace BK4 := cB hb BK4
   replace BK7 := cB hb BK7
   replace BK9 := cB hb BK9
   replace BK11 := cB hb BK11
   replace HB := Aside0.mk (below_step (HB.out) hb)
   clear hb
   refine hK.out _ _ ⟨(blk_cell BK3.out 0).trans rfl, (blk_cell BK3.out 1).trans rfl, (blk_cell BK4.out 0).trans rfl, (blk_cell BK4.out 1).trans rfl⟩ (fun hHeld => ?_)
   clear hK K
   refine norm_ (a' := ?_) ?_ ?_
   rotate_left
   ·show Act.put _ (some 37) _ = _
    simp only [Act.put, List.setIfInBounds_toArray, List.set_cons_zero, List.set_cons_succ, i64_w, i32_w]
    rfl
   refine one_ (i := 3) (N := some 39) #[true, true, true, true, false, false, false, false, false, true, false, false] rfl rfl (one_of HT_.out (by kernel_rfl)) (by decide) (fun K hK => ?_)
   refine goes_ Try.func28 (by kernel_rfl) rfl #[.agg #[.int .i64 b0, .int .u64 b1]] (by rfl) rfl rfl (by (try simp only [List.map_toArray, List.map_cons, List.map_nil]); first | done | rfl | (simp only [List.length_drop, List.length_take]; rfl)) ?_
   with_reducible refine (FB _).mono ?_
   rintro e w12_17 ⟨rfl, hb⟩
   refine ⟨_, rfl, ?_⟩
   replace BK3 := cB hb BK3
   replace BK4 := cB hb BK4
   replace BK7 := cB hb BK7
   replace BK9 := cB hb BK9
   replace BK11 := cB hb BK11
   replace HB := Aside0.mk (below_step (HB.out) hb)
   clear hb
   refine hK.out _ _ ⟨(blk_cell BK3.out 0).trans rfl, (blk_cell BK3.out 1).trans rfl, (blk_cell BK4.out 0).trans rfl, (blk_cell BK4.out 1).trans rfl⟩ (fun hHeld => ?_)
   clear hK K
   refine norm_ (a' := ?_) ?_ ?_
   rotate_left
   ·show Act.put _ (some 39) _ = _
    simp only [Act.put, List.setIfInBounds_toArray, List.set_cons_zero, List.set_cons_succ, i64_w, i32_w]
    rfl
   refine one_ (i := 4) (N := some 40) #[true, true, true, true, true, false, false, false, false, true, false, false] rfl rfl (one_of HT_.out (by kernel_rfl)) (by decide) (fun K hK => ?_)
   refine goes_ Try.func27 (by kernel_rfl) rfl #[.agg (numA sa Da), .agg (numA sb Db)] (by rfl) rfl rfl (by (try simp only [List.map_toArray, List.map_cons, List.map_nil]); first | done | rfl | (simp only [List.length_drop, List.length_take]; rfl)) ?_
   with_reducible refine (PL _).mono ?_
   rintro e w12_18 ⟨rfl, hb⟩
   refine ⟨_, rfl, ?_⟩
   replace BK3 := cB hb BK3
   replace BK4 := cB hb BK4
   replace BK7 := cB hb BK7
   replace BK9 := cB hb BK9
   replace BK11 := cB hb BK11
   replace HB := Aside0.mk (below_step (HB.out) hb)
   clear hb
   refine hK.out _ _ ⟨(blk_cell BK3.out 0).trans rfl, (blk_cell BK3.out 1).trans rfl, (blk_cell BK4.out 0).trans rfl, (blk_cell BK4.out 1).trans rfl⟩ (fun hHeld => ?_)
   clear hK K
   refine norm_ (a' := ?_) ?_ ?_
   rotate_left
   ·show Act.put _ (some 40) _ = _
    simp only [Act.put, List.setIfInBounds_toArray, List.set_cons_zero, List.set_cons_succ, i64_w, i32_w]
    rfl
   refine one_ (i := 5) (N := some 41) #[true, true, true, true, true, true, false, false, false, true, false, false] rfl rfl (one_of HT_.out (by kernel_rfl)) (by decide) (fun K hK => ?_)
   refine goes_ Try.func25 (by kernel_rfl) rfl #[.agg (numA sp Dp)] (by rfl) rfl rfl (by (try simp only [List.map_toArray, List.map_cons, List.map_nil]); first | done | rfl | (simp only [List.length_drop, List.length_take]; rfl)) ?_
   with_reducible refine (TP _).mono ?_
   rintro e w12_19 ⟨rfl, hb⟩
   refine ⟨_, rfl, ?_⟩
   replace BK3 := cB hb BK3
   replace BK4 := cB hb BK4
   replace BK7 := cB hb BK7
   replace BK9 := cB hb BK9
   replace BK11 := cB hb BK11
   replace HB := Aside0.mk (below_step (HB.out) hb)
   clear hb
   refine hK.out _ _ ⟨(blk_cell BK3.out 0).trans rfl, (blk_cell BK3.out 1).trans rfl, (blk_cell BK4.out 0).trans rfl, (blk_cell BK4.out 1).trans rfl⟩ (fun hHeld => ?_)
   clear hK K
   refine norm_ (a' := ?_) ?_ ?_
   rotate_left
   ·show Act.put _ (some 41) _ = _
    simp only [Act.put, List.setIfInBounds_toArray, List.set_cons_zero, List.set_cons_succ, i64_w, i32_w]
    rfl
   refine pure_ (i := 6) (N := some 35) (v := ?_) (a' := ?_) #[true, true, true, true, true, true, true, false, false, true, false, false] rfl rfl (any_of HT_.out (by kernel_rfl)) (fun _ _ _ h => h) (Or.inl ⟨by rfl, ?_⟩) ?_ ?_
   rotate_left
   ·intro w'
    go_simp
    with_reducible rfl
   rotate_left
   ·simp only [Act.put, List.setIfInBounds_toArray, List.set_cons_zero, List.set_cons_succ, i64_w, i32_w]
    rfl
   refine pure_ (i := 7) (N := some 42) (v := ?_) (a' := ?_) #[true, true, true, true, true, true, true, true, false, true, false, false] rfl rfl (any_of HT_.out (by kernel_rfl)) (fun _ _ _ h => h) (Or.inl ⟨by rfl, ?_⟩) ?_ ?_
   rotate_left
   ·intro w'
    go_simp
    with_reducible rfl
   rotate_left
   ·simp only [Act.put, List.setIfInBounds_toArray, List.set_cons_zero, List.set_cons_succ, i64_w, i32_w]
    rfl
   refine pure_ (i := 8) (N := some 43) (v := ?_) (a' := ?_) #[true, true, true, true, true, true, true, true, true, true, false, false] rfl rfl (any_of HT_.out (by kernel_rfl)) (fun _ _ _ h => h) (Or.inl ⟨by rfl, ?_⟩) ?_ ?_
   rotate_left
   ·intro w'
    go_simp
    with_reducible rfl
   rotate_left
   ·simp only [Act.put, List.setIfInBounds_toArray, List.set_cons_zero, List.set_cons_succ, i64_w, i32_w]
    rfl
   exact norm_ (by simp only [putAll, Act.put, List.setIfInBounds_toArray, List.set_cons_zero, List.set_cons_succ]) (hCont (g11) _ ⟨hHeld, BK3.out, BK4.out, BK7.out, BK9.out, BK11.out, GE11.out, N311.out, N113.out, N411.out, N114.out, N711.out, N117.out, N911.out, N119.out, HB.out⟩)
 rintro g11 w13 ⟨h0_, h1_, h2_, h3_, h4_, h5_, h6_, h7_, h8_, h9_, h10_, h11_, h12_, h13_, h14_, h15_⟩
 clear HB hHeld BK3 BK4 BK7 BK9
 have BK3 := Aside0.mk h1_
 have BK4 := Aside0.mk h2_
 have BK7 := Aside0.mk h3_
 have BK9 := Aside0.mk h4_
 have BK11 := Aside0.mk h5_
 have GE11 := Aside0.mk h6_
 have N311 := Aside0.mk h7_
 have N113 := Aside0.mk h8_
 have N411 := Aside0.mk h9_
 have N114 := Aside0.mk h10_
 have N711 := Aside0.mk h11_
 have N117 := Aside0.mk h12_
 have N911 := Aside0.mk h13_
 have N119 := Aside0.mk h14_
 have HB := Aside0.mk h15_
 have hHeld : w13.cell? ⟨g3, 0, none⟩ = some (.int .i64 a0) ∧ w13.cell? ⟨g3, 1, none⟩ = some (.int .u64 a1) ∧ w13.cell? ⟨g4, 0, none⟩ = some (.int .i64 b0) ∧ w13.cell? ⟨g4, 1, none⟩ = some (.int .u64 b1) := h0_
 clear h0_ h1_ h2_ h3_ h4_ h5_ h6_ h7_ h8_ h9_ h10_ h11_ h12_ h13_ h14_ h15_
 refine norm_ (a' := ?_) ?_ ?_
 rotate_left
 ·simp only [putAll, Act.put, List.setIfInBounds_toArray, List.set_cons_zero, List.set_cons_succ]
  rfl
 refine last_ (i := 10) (N := none) #[true, true, true, true, true, true, true, true, true, true, true, false] rfl rfl (one_of HT_.out (by kernel_rfl)) (by decide) (fun K hK => ?_)
 have hs0 := (blk_cell BK11.out 0).trans (rfl : _ = some (Value.int .i64 0))
 have hf0 := blk_frozen BK11.out 0
 have hs1 := (blk_cell BK11.out 1).trans (rfl : _ = some (Value.int .u64 0))
 have hf1 := blk_frozen BK11.out 1
 refine skip_ (w1 := ?_) (by rfl) rfl ?_ ?_
 rotate_left
 ·go_simp
  rfl
 refine hK.out _ _ ?_
 clear hK K hs0 hf0 hs1 hf1
 refine pure_ (i := 11) (N := some 12) (v := ?_) (a' := ?_) #[true, true, true, true, true, true, true, true, true, true, true, true] rfl rfl (any_of HT_.out (by kernel_rfl)) (fun _ _ _ h => h) (Or.inl ⟨by rfl, ?_⟩) ?_ ?_
 rotate_left
 ·intro w'
  go_simp
  with_reducible rfl
 rotate_left
 ·simp only [Act.put, List.setIfInBounds_toArray, List.set_cons_zero, List.set_cons_succ, i64_w, i32_w]
  rfl
 refine done_ (done_of HT_.out (by kernel_rfl)) ?_
 clear HT_ HW_ hHeld
 replace BK3 := Aside0.mk (blk_far (blk_far BK3.out (p := ⟨g11, 0, none⟩) N311.out (.int .i64 x1)) (p := ⟨g11, 1, none⟩) N311.out (.int .u64 x2))
 replace BK4 := Aside0.mk (blk_far (blk_far BK4.out (p := ⟨g11, 0, none⟩) N411.out (.int .i64 x1)) (p := ⟨g11, 1, none⟩) N411.out (.int .u64 x2))
 replace BK7 := Aside0.mk (blk_far (blk_far BK7.out (p := ⟨g11, 0, none⟩) N711.out (.int .i64 x1)) (p := ⟨g11, 1, none⟩) N711.out (.int .u64 x2))
 replace BK9 := Aside0.mk (blk_far (blk_far BK9.out (p := ⟨g11, 0, none⟩) N911.out (.int .i64 x1)) (p := ⟨g11, 1, none⟩) N911.out (.int .u64 x2))
 replace BK11 := Aside0.mk (blk_put (cs' := #[.int .i64 x1, .int .u64 x2]) (blk_put BK11.out 0 (.int .i64 x1) rfl) 1 (.int .u64 x2) rfl)
 replace HB := Aside0.mk (below_set (j := 1) (v := .int .u64 x2) (below_set (j := 0) (v := .int .i64 x1) HB.out GE11.out) GE11.out)
 generalize ((w13.setCell ⟨g11, 0, none⟩ (.int .i64 x1)).setCell ⟨g11, 1, none⟩ (.int .u64 x2)) = w14 at BK3 BK4 BK7 BK9 BK11 HB ⊢
 obtain ⟨k0, k1⟩ := cells2 BK3.out
 obtain ⟨l0, l1⟩ := cells2 BK4.out
 go_wp2_with (first
   | (go_at_call 16; (with_reducible refine (NG _).mono ?_); rintro e w15 ⟨rfl, hb⟩; replace BK3 := cB hb BK3; replace BK4 := cB hb BK4; replace BK7 := cB hb BK7; replace BK9 := cB hb BK9; replace BK11 := cB hb BK11; replace HB := Aside0.mk (below_step (HB.out) hb); clear hb; obtain ⟨k0, k1⟩ := cells2 BK3.out; obtain ⟨l0, l1⟩ := cells2 BK4.out)
   | ((with_reducible refine gate_dst (N := 13) rfl ?_); refine box_event ?hg (N := 13) ?hd (cs := #[.int .i64 0, .int .u64 0]) (t := 30) ?hr ?_; (case hd => rfl); (case hg => rfl); (case hr => first | (go_simp; done) | (go_simp; rfl)); intro g13 hg w16 hbox hb; have BK13 := Aside0.mk (hbox); have GE13 := Aside0.mk (bG hg (HB.out)); have N313 := cN hg BK3; have N133 := cM hg BK3; have N413 := cN hg BK4; have N134 := cM hg BK4; have N713 := cN hg BK7; have N137 := cM hg BK7; have N913 := cN hg BK9; have N139 := cM hg BK9; have N1113 := cN hg BK11; have N1311 := cM hg BK11; replace HB := Aside0.mk (below_step (HB.out) hb); replace BK3 := cB hb BK3; replace BK4 := cB hb BK4; replace BK7 := cB hb BK7; replace BK9 := cB hb BK9; replace BK11 := cB hb BK11; clear hb hbox hg; have zz0 := (blk_cell BK13.out 0).trans (rfl : _ = some (Value.int .i64 0)); have zf0 := blk_frozen BK13.out 0; have zz1 := (blk_cell BK13.out 1).trans (rfl : _ = some (Value.int .u64 0)); have zf1 := blk_frozen BK13.out 1; have hn0 := N313.out; have hm0 := N133.out; have hn1 := N413.out; have hm1 := N134.out; have hn2 := N713.out; have hm2 := N137.out; have hn3 := N913.out; have hm3 := N139.out; have hn4 := N1113.out; have hm4 := N1311.out; obtain ⟨k0, k1⟩ := cells2 BK3.out; obtain ⟨l0, l1⟩ := cells2 BK4.out)
   | (go_at_call 28; replace BK3 := Aside0.mk (blk_far (blk_far BK3.out (p := ⟨g13, 0, none⟩) N313.out (.int .i64 p1)) (p := ⟨g13, 1, none⟩) N313.out (.int .u64 p2)); replace BK4 := Aside0.mk (blk_far (blk_far BK4.out (p := ⟨g13, 0, none⟩) N413.out (.int .i64 p1)) (p := ⟨g13, 1, none⟩) N413.out (.int .u64 p2)); replace BK7 := Aside0.mk (blk_far (blk_far BK7.out (p := ⟨g13, 0, none⟩) N713.out (.int .i64 p1)) (p := ⟨g13, 1, none⟩) N713.out (.int .u64 p2)); replace BK9 := Aside0.mk (blk_far (blk_far BK9.out (p := ⟨g13, 0, none⟩) N913.out (.int .i64 p1)) (p := ⟨g13, 1, none⟩) N913.out (.int .u64 p2)); replace BK11 := Aside0.mk (blk_far (blk_far BK11.out (p := ⟨g13, 0, none⟩) N1113.out (.int .i64 p1)) (p := ⟨g13, 1, none⟩) N1113.out (.int .u64 p2)); replace BK13 := Aside0.mk (blk_put (cs' := #[.int .i64 p1, .int .u64 p2]) (blk_put BK13.out 0 (.int .i64 p1) rfl) 1 (.int .u64 p2) rfl); replace HB := Aside0.mk (below_set (j := 1) (v := .int .u64 p2) (below_set (j := 0) (v := .int .i64 p1) HB.out GE13.out) GE13.out); (with_reducible refine (FA _).mono ?_); rintro e w17 ⟨rfl, hb⟩; replace BK3 := cB hb BK3; replace BK4 := cB hb BK4; replace BK7 := cB hb BK7; replace BK9 := cB hb BK9; replace BK11 := cB hb BK11; replace BK13 := cB hb BK13; replace HB := Aside0.mk (below_step (HB.out) hb); clear hb; obtain ⟨k0, k1⟩ := cells2 BK3.out; obtain ⟨l0, l1⟩ := cells2 BK4.out)
   | (go_at_call 29; (with_reducible refine (MN _).mono ?_); rintro e w18 ⟨rfl, hb⟩; replace BK3 := cB hb BK3; replace BK4 := cB hb BK4; replace BK7 := cB hb BK7; replace BK9 := cB hb BK9; replace BK11 := cB hb BK11; replace BK13 := cB hb BK13; replace HB := Aside0.mk (below_step (HB.out) hb); clear hb; obtain ⟨k0, k1⟩ := cells2 BK3.out; obtain ⟨l0, l1⟩ := cells2 BK4.out)
   | (go_at_call 25; (with_reducible refine (TM _).mono ?_); rintro e w19 ⟨rfl, hb⟩; replace BK3 := cB hb BK3; replace BK4 := cB hb BK4; replace BK7 := cB hb BK7; replace BK9 := cB hb BK9; replace BK11 := cB hb BK11; replace BK13 := cB hb BK13; replace HB := Aside0.mk (below_step (HB.out) hb); clear hb; obtain ⟨k0, k1⟩ := cells2 BK3.out; obtain ⟨l0, l1⟩ := cells2 BK4.out)
   | ((with_reducible refine gate_dst (N := 15) rfl ?_); refine box_event ?hg (N := 15) ?hd (cs := #[.int .i64 0, .int .u64 0]) (t := 30) ?hr ?_; (case hd => rfl); (case hg => rfl); (case hr => first | (go_simp; done) | (go_simp; rfl)); intro g15 hg w20 hbox hb; have BK15 := Aside0.mk (hbox); have GE15 := Aside0.mk (bG hg (HB.out)); have N315 := cN hg BK3; have N153 := cM hg BK3; have N415 := cN hg BK4; have N154 := cM hg BK4; have N715 := cN hg BK7; have N157 := cM hg BK7; have N915 := cN hg BK9; have N159 := cM hg BK9; have N1115 := cN hg BK11; have N1511 := cM hg BK11; have N1315 := cN hg BK13; have N1513 := cM hg BK13; replace HB := Aside0.mk (below_step (HB.out) hb); replace BK3 := cB hb BK3; replace BK4 := cB hb BK4; replace BK7 := cB hb BK7; replace BK9 := cB hb BK9; replace BK11 := cB hb BK11; replace BK13 := cB hb BK13; clear hb hbox hg; have zz0 := (blk_cell BK15.out 0).trans (rfl : _ = some (Value.int .i64 0)); have zf0 := blk_frozen BK15.out 0; have zz1 := (blk_cell BK15.out 1).trans (rfl : _ = some (Value.int .u64 0)); have zf1 := blk_frozen BK15.out 1; have hn0 := N315.out; have hm0 := N153.out; have hn1 := N415.out; have hm1 := N154.out; have hn2 := N715.out; have hm2 := N157.out; have hn3 := N915.out; have hm3 := N159.out; have hn4 := N1115.out; have hm4 := N1511.out; have hn5 := N1315.out; have hm5 := N1513.out; obtain ⟨k0, k1⟩ := cells2 BK3.out; obtain ⟨l0, l1⟩ := cells2 BK4.out)
   | (go_at_call 19; replace BK3 := Aside0.mk (blk_far (blk_far BK3.out (p := ⟨g15, 0, none⟩) N315.out (.int .i64 p1)) (p := ⟨g15, 1, none⟩) N315.out (.int .u64 p2)); replace BK4 := Aside0.mk (blk_far (blk_far BK4.out (p := ⟨g15, 0, none⟩) N415.out (.int .i64 p1)) (p := ⟨g15, 1, none⟩) N415.out (.int .u64 p2)); replace BK7 := Aside0.mk (blk_far (blk_far BK7.out (p := ⟨g15, 0, none⟩) N715.out (.int .i64 p1)) (p := ⟨g15, 1, none⟩) N715.out (.int .u64 p2)); replace BK9 := Aside0.mk (blk_far (blk_far BK9.out (p := ⟨g15, 0, none⟩) N915.out (.int .i64 p1)) (p := ⟨g15, 1, none⟩) N915.out (.int .u64 p2)); replace BK11 := Aside0.mk (blk_far (blk_far BK11.out (p := ⟨g15, 0, none⟩) N1115.out (.int .i64 p1)) (p := ⟨g15, 1, none⟩) N1115.out (.int .u64 p2)); replace BK13 := Aside0.mk (blk_far (blk_far BK13.out (p := ⟨g15, 0, none⟩) N1315.out (.int .i64 p1)) (p := ⟨g15, 1, none⟩) N1315.out (.int .u64 p2)); replace BK15 := Aside0.mk (blk_put (cs' := #[.int .i64 p1, .int .u64 p2]) (blk_put BK15.out 0 (.int .i64 p1) rfl) 1 (.int .u64 p2) rfl); replace HB := Aside0.mk (below_set (j := 1) (v := .int .u64 p2) (below_set (j := 0) (v := .int .i64 p1) HB.out GE15.out) GE15.out); (with_reducible refine (IN _).mono ?_); rintro e w21 ⟨rfl, hb⟩; replace BK3 := cB hb BK3; replace BK4 := cB hb BK4; replace BK7 := cB hb BK7; replace BK9 := cB hb BK9; replace BK11 := cB hb BK11; replace BK13 := cB hb BK13; replace BK15 := cB hb BK15; replace HB := Aside0.mk (below_step (HB.out) hb); clear hb; obtain ⟨k0, k1⟩ := cells2 BK3.out; obtain ⟨l0, l1⟩ := cells2 BK4.out)
   | (go_at_call 30; (with_reducible refine (IR _).mono ?_); rintro e w22 ⟨rfl, hb⟩; replace BK3 := cB hb BK3; replace BK4 := cB hb BK4; replace BK7 := cB hb BK7; replace BK9 := cB hb BK9; replace BK11 := cB hb BK11; replace BK13 := cB hb BK13; replace BK15 := cB hb BK15; replace HB := Aside0.mk (below_step (HB.out) hb); clear hb; obtain ⟨k0, k1⟩ := cells2 BK3.out; obtain ⟨l0, l1⟩ := cells2 BK4.out))
 clear k0 k1 l0 l1
 replace BK3 := Aside0.mk (blk_drew BK3.out)
 replace BK4 := Aside0.mk (blk_drew BK4.out)
 replace BK7 := Aside0.mk (blk_drew BK7.out)
 replace BK9 := Aside0.mk (blk_drew BK9.out)
 replace BK11 := Aside0.mk (blk_drew BK11.out)
 replace BK13 := Aside0.mk (blk_drew BK13.out)
 replace BK15 := Aside0.mk (blk_drew BK15.out)
 replace HB := Aside0.mk (below_drew1 HB.out)
 refine start_ (n := 46) (S := fun w' => w'.cell? ⟨g3, 0, none⟩ = some (.int .i64 a0) ∧ w'.cell? ⟨g3, 1, none⟩ = some (.int .u64 a1) ∧ w'.cell? ⟨g4, 0, none⟩ = some (.int .i64 b0) ∧ w'.cell? ⟨g4, 1, none⟩ = some (.int .u64 b1) ∧ w'.cell? ⟨g7, 0, none⟩ = some (.int .i64 o1) ∧ w'.cell? ⟨g7, 1, none⟩ = some (.int .u64 o2) ∧ w'.cell? ⟨g9, 0, none⟩ = some (.int .i64 x1) ∧ w'.cell? ⟨g9, 1, none⟩ = some (.int .u64 x2) ∧ w'.cell? ⟨g11, 0, none⟩ = some (.int .i64 x1) ∧ w'.cell? ⟨g11, 1, none⟩ = some (.int .u64 x2) ∧ w'.cell? ⟨g13, 0, none⟩ = some (.int .i64 p1) ∧ w'.cell? ⟨g13, 1, none⟩ = some (.int .u64 p2) ∧ w'.cell? ⟨g15, 0, none⟩ = some (.int .i64 p1) ∧ w'.cell? ⟨g15, 1, none⟩ = some (.int .u64 p2)) (ds := []) #[false, false, false, false, false, false, false, false, false, false, false, false, false, false, false, false, false, false, false, false, false, false, false, false, false, false, false, false, false, false, false, false, false, false, false, false, false, false, false, false, false, false, false, false, false, false] (by kernel_rfl) rfl rfl ⟨(blk_cell BK3.out 0).trans rfl, (blk_cell BK3.out 1).trans rfl, (blk_cell BK4.out 0).trans rfl, (blk_cell BK4.out 1).trans rfl, (blk_cell BK7.out 0).trans rfl, (blk_cell BK7.out 1).trans rfl, (blk_cell BK9.out 0).trans rfl, (blk_cell BK9.out 1).trans rfl, (blk_cell BK11.out 0).trans rfl, (blk_cell BK11.out 1).trans rfl, (blk_cell BK13.out 0).trans rfl, (blk_cell BK13.out 1).trans rfl, (blk_cell BK15.out 0).trans rfl, (blk_cell BK15.out 1).trans rfl⟩ (fun hHeld => ?_); refine with_tabW relievolaw01_WideSums.tab10 relievolaw01_WideSums.bits10 (fun HT_ HW_ => ?_)
 generalize w22.drew = w23 at BK3 BK4 BK7 BK9 BK11 BK13 BK15 HB hHeld ⊢
 refine pure_ (i := 0) (N := some 66) (v := ?_) (a' := ?_) #[true, false, false, false, false, false, false, false, false, false, false, false, false, false, false, false, false, false, false, false, false, false, false, false, false, false, false, false, false, false, false, false, false, false, false, false, false, false, false, false, false, false, false, false, false, false] rfl rfl (any_of HT_.out (by kernel_rfl)) (fun _ _ _ h => h) (Or.inl ⟨by rfl, ?_⟩) ?_ ?_
 rotate_left
 ·intro w'
  go_simp
  with_reducible rfl
 rotate_left
 ·simp only [Act.put, List.setIfInBounds_toArray, List.set_cons_zero, List.set_cons_succ, i64_w, i32_w]
  rfl
 refine take_ (i := 2) (N := some 68) (v := ?_) (a' := ?_) #[true, false, true, false, false, false, false, false, false, false, false, false, false, false, false, false, false, false, false, false, false, false, false, false, false, false, false, false, false, false, false, false, false, false, false, false, false, false, false, false, false, false, false, false, false, false] rfl rfl (take_ofW HT_.out HW_.out (by kernel_rfl)) (fun _ _ _ h => h) (Or.inl ⟨by rfl, ?_⟩) hHeld ?_ ?_
 rotate_left
 ·rintro w' ⟨s0, s1, s2, s3, s4, s5, s6, s7, s8, s9, s10, s11, s12, s13⟩
  go_simp
  with_reducible rfl
 rotate_left
 ·simp only [Act.put, List.setIfInBounds_toArray, List.set_cons_zero, List.set_cons_succ, i64_w, i32_w]
  rfl
 refine one_ (i := 1) (N := some 67) #[true, true, true, false, false, false, false, false, false, false, false, false, false, false, false, false, false, false, false, false, false, false, false, false, false, false, false, false, false, false, false, false, false, false, false, false, false, false, false, false, false, false, false, false, false, false] rfl rfl (one_of HT_.out (by kernel_rfl)) (by decide) (fun K hK => ?_)
 refine goes_ Try.func15 (by kernel_rfl) rfl #[.int .i64 n] (by rfl) rfl rfl (by (try simp only [List.map_toArray, List.map_cons, List.map_nil]); first | done | rfl | (simp only [List.length_drop, List.length_take]; rfl)) ?_
 with_reducible refine (OF _).mono ?_
 rintro e w23_1 ⟨rfl, hb⟩
 refine ⟨_, rfl, ?_⟩
 replace BK3 := cB hb BK3
 replace BK4 := cB hb BK4
 replace BK7 := cB hb BK7
 replace BK9 := cB hb BK9
 replace BK11 := cB hb BK11
 replace BK13 := cB hb BK13
 replace BK15 := cB hb BK15
 replace HB := Aside0.mk (below_step (HB.out) hb)
 clear hb
 refine hK.out _ _ ⟨(blk_cell BK3.out 0).trans rfl, (blk_cell BK3.out 1).trans rfl, (blk_cell BK4.out 0).trans rfl, (blk_cell BK4.out 1).trans rfl, (blk_cell BK7.out 0).trans rfl, (blk_cell BK7.out 1).trans rfl, (blk_cell BK9.out 0).trans rfl, (blk_cell BK9.out 1).trans rfl, (blk_cell BK11.out 0).trans rfl, (blk_cell BK11.out 1).trans rfl, (blk_cell BK13.out 0).trans rfl, (blk_cell BK13.out 1).trans rfl, (blk_cell BK15.out 0).trans rfl, (blk_cell BK15.out 1).trans rfl⟩ (fun hHeld => ?_)
 clear hK K
 refine norm_ (a' := ?_) ?_ ?_
 rotate_left
 ·show Act.put _ (some 67) _ = _
  simp only [Act.put, List.setIfInBounds_toArray, List.set_cons_zero, List.set_cons_succ, i64_w, i32_w]
  rfl
 refine pure_ (i := 3) (N := some 69) (v := .bool true) (a' := ?_) #[true, true, true, true, false, false, false, false, false, false, false, false, false, false, false, false, false, false, false, false, false, false, false, false, false, false, false, false, false, false, false, false, false, false, false, false, false, false, false, false, false, false, false, false, false, false] rfl rfl (any_of HT_.out (by kernel_rfl)) (fun _ _ _ h => h) (Or.inl ⟨by rfl, fun w' => by first | (go_simp; done) | (go_simp; rfl) | (go_simp; simp)⟩) ?_ ?_
 rotate_left
 ·simp only [Act.put, List.setIfInBounds_toArray, List.set_cons_zero, List.set_cons_succ, i64_w, i32_w]
  rfl
 refine pure_ (i := 4) (N := some 70) (v := ?_) (a' := ?_) #[true, true, true, true, true, false, false, false, false, false, false, false, false, false, false, false, false, false, false, false, false, false, false, false, false, false, false, false, false, false, false, false, false, false, false, false, false, false, false, false, false, false, false, false, false, false] rfl rfl (any_of HT_.out (by kernel_rfl)) (fun _ _ _ h => h) (Or.inl ⟨by rfl, ?_⟩) ?_ ?_
 rotate_left
 ·intro w'
  go_simp
  with_reducible rfl
 rotate_left
 ·simp only [Act.put, List.setIfInBounds_toArray, List.set_cons_zero, List.set_cons_succ, i64_w, i32_w]
  rfl
 refine take_ (i := 5) (N := some 71) (v := ?_) (a' := ?_) #[true, true, true, true, true, true, false, false, false, false, false, false, false, false, false, false, false, false, false, false, false, false, false, false, false, false, false, false, false, false, false, false, false, false, false, false, false, false, false, false, false, false, false, false, false, false] rfl rfl (take_ofW HT_.out HW_.out (by kernel_rfl)) (fun _ _ _ h => h) (Or.inl ⟨by rfl, ?_⟩) hHeld ?_ ?_
 rotate_left
 ·rintro w' ⟨s0, s1, s2, s3, s4, s5, s6, s7, s8, s9, s10, s11, s12, s13⟩
  go_simp
  with_reducible rfl
 rotate_left
 ·simp only [Act.put, List.setIfInBounds_toArray, List.set_cons_zero, List.set_cons_succ, i64_w, i32_w]
  rfl
 refine take_ (i := 6) (N := some 72) (v := ?_) (a' := ?_) #[true, true, true, true, true, true, true, false, false, false, false, false, false, false, false, false, false, false, false, false, false, false, false, false, false, false, false, false, false, false, false, false, false, false, false, false, false, false, false, false, false, false, false, false, false, false] rfl rfl (take_ofW HT_.out HW_.out (by kernel_rfl)) (fun _ _ _ h => h) (Or.inl ⟨by rfl, ?_⟩) hHeld ?_ ?_
 rotate_left
 ·rintro w' ⟨s0, s1, s2, s3, s4, s5, s6, s7, s8, s9, s10, s11, s12, s13⟩
  go_simp
  with_reducible rfl
 rotate_left
 ·simp only [Act.put, List.setIfInBounds_toArray, List.set_cons_zero, List.set_cons_succ, i64_w, i32_w]
  rfl
 refine pure_ (i := 7) (N := some 73) (v := .bool true) (a' := ?_) #[true, true, true, true, true, true, true, true, false, false, false, false, false, false, false, false, false, false, false, false, false, false, false, false, false, false, false, false, false, false, false, false, false, false, false, false, false, false, false, false, false, false, false, false, false, false] rfl rfl (any_of HT_.out (by kernel_rfl)) (fun _ _ _ h => h) (Or.inl ⟨by rfl, fun w' => by first | (go_simp; done) | (go_simp; rfl) | (go_simp; simp)⟩) ?_ ?_
 rotate_left
 ·simp only [Act.put, List.setIfInBounds_toArray, List.set_cons_zero, List.set_cons_succ, i64_w, i32_w]
  rfl
 refine pure_ (i := 8) (N := some 74) (v := ?_) (a' := ?_) #[true, true, true, true, true, true, true, true, true, false, false, false, false, false, false, false, false, false, false, false, false, false, false, false, false, false, false, false, false, false, false, false, false, false, false, false, false, false, false, false, false, false, false, false, false, false] rfl rfl (any_of HT_.out (by kernel_rfl)) (fun _ _ _ h => h) (Or.inl ⟨by rfl, ?_⟩) ?_ ?_
 rotate_left
 ·intro w'
  go_simp
  with_reducible rfl
 rotate_left
 ·simp only [Act.put, List.setIfInBounds_toArray, List.set_cons_zero, List.set_cons_succ, i64_w, i32_w]
  rfl
 refine pure_ (i := 9) (N := some 75) (v := ?_) (a' := ?_) #[true, true, true, true, true, true, true, true, true, true, false, false, false, false, false, false, false, false, false, false, false, false, false, false, false, false, false, false, false, false, false, false, false, false, false, false, false, false, false, false, false, false, false, false, false, false] rfl rfl (any_of HT_.out (by kernel_rfl)) (fun _ _ _ h => h) (Or.inl ⟨by rfl, ?_⟩) ?_ ?_
 rotate_left
 ·intro w'
  go_simp
  with_reducible rfl
 rotate_left
 ·simp only [Act.put, List.setIfInBounds_toArray, List.set_cons_zero, List.set_cons_succ, i64_w, i32_w]
  rfl
 refine pure_ (i := 10) (N := some 76) (v := ?_) (a' := ?_) #[true, true, true, true, true, true, true, true, true, true, true, false, false, false, false, false, false, false, false, false, false, false, false, false, false, false, false, false, false, false, false, false, false, false, false, false, false, false, false, false, false, false, false, false, false, false] rfl rfl (any_of HT_.out (by kernel_rfl)) (fun _ _ _ h => h) (Or.inl ⟨by rfl, ?_⟩) ?_ ?_
 rotate_left
 ·intro w'
  go_simp
  with_reducible rfl
 rotate_left
 ·simp only [Act.put, List.setIfInBounds_toArray, List.set_cons_zero, List.set_cons_succ, i64_w, i32_w]
  rfl
 refine pure_ (i := 11) (N := some 77) (v := ?_) (a' := ?_) #[true, true, true, true, true, true, true, true, true, true, true, true, false, false, false, false, false, false, false, false, false, false, false, false, false, false, false, false, false, false, false, false, false, false, false, false, false, false, false, false, false, false, false, false, false, false] rfl rfl (any_of HT_.out (by kernel_rfl)) (fun _ _ _ h => h) (Or.inl ⟨by rfl, ?_⟩) ?_ ?_
 rotate_left
 ·intro w'
  go_simp
  with_reducible rfl
 rotate_left
 ·simp only [Act.put, List.setIfInBounds_toArray, List.set_cons_zero, List.set_cons_succ, i64_w, i32_w]
  rfl
 refine pure_ (i := 12) (N := some 78) (v := .bool true) (a' := ?_) #[true, true, true, true, true, true, true, true, true, true, true, true, true, false, false, false, false, false, false, false, false, false, false, false, false, false, false, false, false, false, false, false, false, false, false, false, false, false, false, false, false, false, false, false, false, false] rfl rfl (any_of HT_.out (by kernel_rfl)) (fun _ _ _ h => h) (Or.inl ⟨by rfl, fun w' => by first | (go_simp; done) | (go_simp; rfl) | (go_simp; simp)⟩) ?_ ?_
 rotate_left
 ·simp only [Act.put, List.setIfInBounds_toArray, List.set_cons_zero, List.set_cons_succ, i64_w, i32_w]
  rfl
 refine pure_ (i := 13) (N := some 79) (v := ?_) (a' := ?_) #[true, true, true, true, true, true, true, true, true, true, true, true, true, true, false, false, false, false, false, false, false, false, false, false, false, false, false, false, false, false, false, false, false, false, false, false, false, false, false, false, false, false, false, false, false, false] rfl rfl (any_of HT_.out (by kernel_rfl)) (fun _ _ _ h => h) (Or.inl ⟨by rfl, ?_⟩) ?_ ?_
 rotate_left
 ·intro w'
  go_simp
  with_reducible rfl
 rotate_left
 ·simp only [Act.put, List.setIfInBounds_toArray, List.set_cons_zero, List.set_cons_succ, i64_w, i32_w]
  rfl
 refine pure_ (i := 14) (N := some 80) (v := ?_) (a' := ?_) #[true, true, true, true, true, true, true, true, true, true, true, true, true, true, true, false, false, false, false, false, false, false, false, false, false, false, false, false, false, false, false, false, false, false, false, false, false, false, false, false, false, false, false, false, false, false] rfl rfl (any_of HT_.out (by kernel_rfl)) (fun _ _ _ h => h) (Or.inl ⟨by rfl, ?_⟩) ?_ ?_
 rotate_left
 ·intro w'
  go_simp
  with_reducible rfl
 rotate_left
 ·simp only [Act.put, List.setIfInBounds_toArray, List.set_cons_zero, List.set_cons_succ, i64_w, i32_w]
  rfl
 refine take_ (i := 15) (N := some 81) (v := ?_) (a' := ?_) #[true, true, true, true, true, true, true, true, true, true, true, true, true, true, true, true, false, false, false, false, false, false, false, false, false, false, false, false, false, false, false, false, false, false, false, false, false, false, false, false, false, false, false, false, false, false] rfl rfl (take_ofW HT_.out HW_.out (by kernel_rfl)) (fun _ _ _ h => h) (Or.inl ⟨by rfl, ?_⟩) hHeld ?_ ?_
 rotate_left
 ·rintro w' ⟨s0, s1, s2, s3, s4, s5, s6, s7, s8, s9, s10, s11, s12, s13⟩
  go_simp
  with_reducible rfl
 rotate_left
 ·simp only [Act.put, List.setIfInBounds_toArray, List.set_cons_zero, List.set_cons_succ, i64_w, i32_w]
  rfl
 refine take_ (i := 16) (N := some 82) (v := ?_) (a' := ?_) #[true, true, true, true, true, true, true, true, true, true, true, true, true, true, true, true, true, false, false, false, false, false, false, false, false, false, false, false, false, false, false, false, false, false, false, false, false, false, false, false, false, false, false, false, false, false] rfl rfl (take_ofW HT_.out HW_.out (by kernel_rfl)) (fun _ _ _ h => h) (Or.inl ⟨by rfl, ?_⟩) hHeld ?_ ?_
 rotate_left
 ·rintro w' ⟨s0, s1, s2, s3, s4, s5, s6, s7, s8, s9, s10, s11, s12, s13⟩
  go_simp
  with_reducible rfl
 rotate_left
 ·simp only [Act.put, List.setIfInBounds_toArray, List.set_cons_zero, List.set_cons_succ, i64_w, i32_w]
  rfl
 refine pure_ (i := 17) (N := some 83) (v := .bool true) (a' := ?_) #[true, true, true, true, true, true, true, true, true, true, true, true, true, true, true, true, true, true, false, false, false, false, false, false, false, false, false, false, false, false, false, false, false, false, false, false, false, false, false, false, false, false, false, false, false, false] rfl rfl (any_of HT_.out (by kernel_rfl)) (fun _ _ _ h => h) (Or.inl ⟨by rfl, fun w' => by first | (go_simp; done) | (go_simp; rfl) | (go_simp; simp)⟩) ?_ ?_
 rotate_left
 ·simp only [Act.put, List.setIfInBounds_toArray, List.set_cons_zero, List.set_cons_succ, i64_w, i32_w]
  rfl
 refine pure_ (i := 18) (N := some 84) (v := ?_) (a' := ?_) #[true, true, true, true, true, true, true, true, true, true, true, true, true, true, true, true, true, true, true, false, false, false, false, false, false, false, false, false, false, false, false, false, false, false, false, false, false, false, false, false, false, false, false, false, false, false] rfl rfl (any_of HT_.out (by kernel_rfl)) (fun _ _ _ h => h) (Or.inl ⟨by rfl, ?_⟩) ?_ ?_
 rotate_left
 ·intro w'
  go_simp
  with_reducible rfl
 rotate_left
 ·simp only [Act.put, List.setIfInBounds_toArray, List.set_cons_zero, List.set_cons_succ, i64_w, i32_w]
  rfl
 refine pure_ (i := 19) (N := some 85) (v := ?_) (a' := ?_) #[true, true, true, true, true, true, true, true, true, true, true, true, true, true, true, true, true, true, true, true, false, false, false, false, false, false, false, false, false, false, false, false, false, false, false, false, false, false, false, false, false, false, false, false, false, false] rfl rfl (any_of HT_.out (by kernel_rfl)) (fun _ _ _ h => h) (Or.inl ⟨by rfl, ?_⟩) ?_ ?_
 rotate_left
 ·intro w'
  go_simp
  with_reducible rfl
 rotate_left
 ·simp only [Act.put, List.setIfInBounds_toArray, List.set_cons_zero, List.set_cons_succ, i64_w, i32_w]
  rfl
 refine pure_ (i := 20) (N := some 86) (v := ?_) (a' := ?_) #[true, true, true, true, true, true, true, true, true, true, true, true, true, true, true, true, true, true, true, true, true, false, false, false, false, false, false, false, false, false, false, false, false, false, false, false, false, false, false, false, false, false, false, false, false, false] rfl rfl (any_of HT_.out (by kernel_rfl)) (fun _ _ _ h => h) (Or.inl ⟨by rfl, ?_⟩) ?_ ?_
 rotate_left
 ·intro w'
  go_simp
  with_reducible rfl
 rotate_left
 ·simp only [Act.put, List.setIfInBounds_toArray, List.set_cons_zero, List.set_cons_succ, i64_w, i32_w]
  rfl
 refine pure_ (i := 21) (N := some 87) (v := ?_) (a' := ?_) #[true, true, true, true, true, true, true, true, true, true, true, true, true, true, true, true, true, true, true, true, true, true, false, false, false, false, false, false, false, false, false, false, false, false, false, false, false, false, false, false, false, false, false, false, false, false] rfl rfl (any_of HT_.out (by kernel_rfl)) (fun _ _ _ h => h) (Or.inl ⟨by rfl, ?_⟩) ?_ ?_
 rotate_left
 ·intro w'
  go_simp
  with_reducible rfl
 rotate_left
 ·simp only [Act.put, List.setIfInBounds_toArray, List.set_cons_zero, List.set_cons_succ, i64_w, i32_w]
  rfl
 refine pure_ (i := 22) (N := some 88) (v := .bool true) (a' := ?_) #[true, true, true, true, true, true, true, true, true, true, true, true, true, true, true, true, true, true, true, true, true, true, true, false, false, false, false, false, false, false, false, false, false, false, false, false, false, false, false, false, false, false, false, false, false, false] rfl rfl (any_of HT_.out (by kernel_rfl)) (fun _ _ _ h => h) (Or.inl ⟨by rfl, fun w' => by first | (go_simp; done) | (go_simp; rfl) | (go_simp; simp)⟩) ?_ ?_
 rotate_left
 ·simp only [Act.put, List.setIfInBounds_toArray, List.set_cons_zero, List.set_cons_succ, i64_w, i32_w]
  rfl
 refine pure_ (i := 23) (N := some 89) (v := ?_) (a' := ?_) #[true, true, true, true, true, true, true, true, true, true, true, true, true, true, true, true, true, true, true, true, true, true, true, true, false, false, false, false, false, false, false, false, false, false, false, false, false, false, false, false, false, false, false, false, false, false] rfl rfl (any_of HT_.out (by kernel_rfl)) (fun _ _ _ h => h) (Or.inl ⟨by rfl, ?_⟩) ?_ ?_
 rotate_left
 ·intro w'
  go_simp
  with_reducible rfl
 rotate_left
 ·simp only [Act.put, List.setIfInBounds_toArray, List.set_cons_zero, List.set_cons_succ, i64_w, i32_w]
  rfl
 refine pure_ (i := 24) (N := some 90) (v := ?_) (a' := ?_) #[true, true, true, true, true, true, true, true, true, true, true, true, true, true, true, true, true, true, true, true, true, true, true, true, true, false, false, false, false, false, false, false, false, false, false, false, false, false, false, false, false, false, false, false, false, false] rfl rfl (any_of HT_.out (by kernel_rfl)) (fun _ _ _ h => h) (Or.inl ⟨by rfl, ?_⟩) ?_ ?_
 rotate_left
 ·intro w'
  go_simp
  with_reducible rfl
 rotate_left
 ·simp only [Act.put, List.setIfInBounds_toArray, List.set_cons_zero, List.set_cons_succ, i64_w, i32_w]
  rfl
 refine pure_ (i := 25) (N := some 91) (v := ?_) (a' := ?_) #[true, true, true, true, true, true, true, true, true, true, true, true, true, true, true, true, true, true, true, true, true, true, true, true, true, true, false, false, false, false, false, false, false, false, false, false, false, false, false, false, false, false, false, false, false, false] rfl rfl (any_of HT_.out (by kernel_rfl)) (fun _ _ _ h => h) (Or.inl ⟨by rfl, ?_⟩) ?_ ?_
 rotate_left
 ·intro w'
  go_simp
  with_reducible rfl
 rotate_left
 ·simp only [Act.put, List.setIfInBounds_toArray, List.set_cons_zero, List.set_cons_succ, i64_w, i32_w]
  rfl
 refine pure_ (i := 26) (N := some 92) (v := ?_) (a' := ?_) #[true, true, true, true, true, true, true, true, true, true, true, true, true, true, true, true, true, true, true, true, true, true, true, true, true, true, true, false, false, false, false, false, false, false, false, false, false, false, false, false, false, false, false, false, false, false] rfl rfl (any_of HT_.out (by kernel_rfl)) (fun _ _ _ h => h) (Or.inl ⟨by rfl, ?_⟩) ?_ ?_
 rotate_left
 ·intro w'
  go_simp
  with_reducible rfl
 rotate_left
 ·simp only [Act.put, List.setIfInBounds_toArray, List.set_cons_zero, List.set_cons_succ, i64_w, i32_w]
  rfl
 refine pure_ (i := 27) (N := some 93) (v := .bool true) (a' := ?_) #[true, true, true, true, true, true, true, true, true, true, true, true, true, true, true, true, true, true, true, true, true, true, true, true, true, true, true, true, false, false, false, false, false, false, false, false, false, false, false, false, false, false, false, false, false, false] rfl rfl (any_of HT_.out (by kernel_rfl)) (fun _ _ _ h => h) (Or.inl ⟨by rfl, fun w' => by first | (go_simp; done) | (go_simp; rfl) | (go_simp; simp)⟩) ?_ ?_
 rotate_left
 ·simp only [Act.put, List.setIfInBounds_toArray, List.set_cons_zero, List.set_cons_succ, i64_w, i32_w]
  rfl
 refine pure_ (i := 28) (N := some 94) (v := ?_) (a' := ?_) #[true, true, true, true, true, true, true, true, true, true, true, true, true, true, true, true, true, true, true, true, true, true, true, true, true, true, true, true, true, false, false, false, false, false, false, false, false, false, false, false, false, false, false, false, false, false] rfl rfl (any_of HT_.out (by kernel_rfl)) (fun _ _ _ h => h) (Or.inl ⟨by rfl, ?_⟩) ?_ ?_
 rotate_left
 ·intro w'
  go_simp
  with_reducible rfl
 rotate_left
 ·simp only [Act.put, List.setIfInBounds_toArray, List.set_cons_zero, List.set_cons_succ, i64_w, i32_w]
  rfl
 refine pure_ (i := 29) (N := some 95) (v := ?_) (a' := ?_) #[true, true, true, true, true, true, true, true, true, true, true, true, true, true, true, true, true, true, true, true, true, true, true, true, true, true, true, true, true, true, false, false, false, false, false, false, false, false, false, false, false, false, false, false, false, false] rfl rfl (any_of HT_.out (by kernel_rfl)) (fun _ _ _ h => h) (Or.inl ⟨by rfl, ?_⟩) ?_ ?_
 rotate_left
 ·intro w'
  go_simp
  with_reducible rfl
 rotate_left
 ·simp only [Act.put, List.setIfInBounds_toArray, List.set_cons_zero, List.set_cons_succ, i64_w, i32_w]
  rfl
 refine pure_ (i := 30) (N := some 96) (v := ?_) (a' := ?_) #[true, true, true, true, true, true, true, true, true, true, true, true, true, true, true, true, true, true, true, true, true, true, true, true, true, true, true, true, true, true, true, false, false, false, false, false, false, false, false, false, false, false, false, false, false, false] rfl rfl (any_of HT_.out (by kernel_rfl)) (fun _ _ _ h => h) (Or.inl ⟨by rfl, ?_⟩) ?_ ?_
 rotate_left
 ·intro w'
  go_simp
  with_reducible rfl
 rotate_left
 ·simp only [Act.put, List.setIfInBounds_toArray, List.set_cons_zero, List.set_cons_succ, i64_w, i32_w]
  rfl
 refine pure_ (i := 31) (N := some 97) (v := ?_) (a' := ?_) #[true, true, true, true, true, true, true, true, true, true, true, true, true, true, true, true, true, true, true, true, true, true, true, true, true, true, true, true, true, true, true, true, false, false, false, false, false, false, false, false, false, false, false, false, false, false] rfl rfl (any_of HT_.out (by kernel_rfl)) (fun _ _ _ h => h) (Or.inl ⟨by rfl, ?_⟩) ?_ ?_
 rotate_left
 ·intro w'
  go_simp
  with_reducible rfl
 rotate_left
 ·simp only [Act.put, List.setIfInBounds_toArray, List.set_cons_zero, List.set_cons_succ, i64_w, i32_w]
  rfl
 refine pure_ (i := 32) (N := some 98) (v := .bool true) (a' := ?_) #[true, true, true, true, true, true, true, true, true, true, true, true, true, true, true, true, true, true, true, true, true, true, true, true, true, true, true, true, true, true, true, true, true, false, false, false, false, false, false, false, false, false, false, false, false, false] rfl rfl (any_of HT_.out (by kernel_rfl)) (fun _ _ _ h => h) (Or.inl ⟨by rfl, fun w' => by first | (go_simp; done) | (go_simp; rfl) | (go_simp; simp)⟩) ?_ ?_
 rotate_left
 ·simp only [Act.put, List.setIfInBounds_toArray, List.set_cons_zero, List.set_cons_succ, i64_w, i32_w]
  rfl
 refine pure_ (i := 33) (N := some 99) (v := ?_) (a' := ?_) #[true, true, true, true, true, true, true, true, true, true, true, true, true, true, true, true, true, true, true, true, true, true, true, true, true, true, true, true, true, true, true, true, true, true, false, false, false, false, false, false, false, false, false, false, false, false] rfl rfl (any_of HT_.out (by kernel_rfl)) (fun _ _ _ h => h) (Or.inl ⟨by rfl, ?_⟩) ?_ ?_
 rotate_left
 ·intro w'
  go_simp
  with_reducible rfl
 rotate_left
 ·simp only [Act.put, List.setIfInBounds_toArray, List.set_cons_zero, List.set_cons_succ, i64_w, i32_w]
  rfl
 refine pure_ (i := 34) (N := some 100) (v := ?_) (a' := ?_) #[true, true, true, true, true, true, true, true, true, true, true, true, true, true, true, true, true, true, true, true, true, true, true, true, true, true, true, true, true, true, true, true, true, true, true, false, false, false, false, false, false, false, false, false, false, false] rfl rfl (any_of HT_.out (by kernel_rfl)) (fun _ _ _ h => h) (Or.inl ⟨by rfl, ?_⟩) ?_ ?_
 rotate_left
 ·intro w'
  go_simp
  with_reducible rfl
 rotate_left
 ·simp only [Act.put, List.setIfInBounds_toArray, List.set_cons_zero, List.set_cons_succ, i64_w, i32_w]
  rfl
 refine take_ (i := 35) (N := some 101) (v := ?_) (a' := ?_) #[true, true, true, true, true, true, true, true, true, true, true, true, true, true, true, true, true, true, true, true, true, true, true, true, true, true, true, true, true, true, true, true, true, true, true, true, false, false, false, false, false, false, false, false, false, false] rfl rfl (take_ofW HT_.out HW_.out (by kernel_rfl)) (fun _ _ _ h => h) (Or.inl ⟨by rfl, ?_⟩) hHeld ?_ ?_
 rotate_left
 ·rintro w' ⟨s0, s1, s2, s3, s4, s5, s6, s7, s8, s9, s10, s11, s12, s13⟩
  go_simp
  with_reducible rfl
 rotate_left
 ·simp only [Act.put, List.setIfInBounds_toArray, List.set_cons_zero, List.set_cons_succ, i64_w, i32_w]
  rfl
 refine take_ (i := 36) (N := some 102) (v := ?_) (a' := ?_) #[true, true, true, true, true, true, true, true, true, true, true, true, true, true, true, true, true, true, true, true, true, true, true, true, true, true, true, true, true, true, true, true, true, true, true, true, true, false, false, false, false, false, false, false, false, false] rfl rfl (take_ofW HT_.out HW_.out (by kernel_rfl)) (fun _ _ _ h => h) (Or.inl ⟨by rfl, ?_⟩) hHeld ?_ ?_
 rotate_left
 ·rintro w' ⟨s0, s1, s2, s3, s4, s5, s6, s7, s8, s9, s10, s11, s12, s13⟩
  go_simp
  with_reducible rfl
 rotate_left
 ·simp only [Act.put, List.setIfInBounds_toArray, List.set_cons_zero, List.set_cons_succ, i64_w, i32_w]
  rfl
 refine take_ (i := 38) (N := some 104) (v := ?_) (a' := ?_) #[true, true, true, true, true, true, true, true, true, true, true, true, true, true, true, true, true, true, true, true, true, true, true, true, true, true, true, true, true, true, true, true, true, true, true, true, true, false, true, false, false, false, false, false, false, false] rfl rfl (take_ofW HT_.out HW_.out (by kernel_rfl)) (fun _ _ _ h => h) (Or.inl ⟨by rfl, ?_⟩) hHeld ?_ ?_
 rotate_left
 ·rintro w' ⟨s0, s1, s2, s3, s4, s5, s6, s7, s8, s9, s10, s11, s12, s13⟩
  go_simp
  with_reducible rfl
 rotate_left
 ·simp only [Act.put, List.setIfInBounds_toArray, List.set_cons_zero, List.set_cons_succ, i64_w, i32_w]
  rfl
 refine take_ (i := 40) (N := some 106) (v := ?_) (a' := ?_) #[true, true, true, true, true, true, true, true, true, true, true, true, true, true, true, true, true, true, true, true, true, true, true, true, true, true, true, true, true, true, true, true, true, true, true, true, true, false, true, false, true, false, false, false, false, false] rfl rfl (take_ofW HT_.out HW_.out (by kernel_rfl)) (fun _ _ _ h => h) (Or.inl ⟨by rfl, ?_⟩) hHeld ?_ ?_
 rotate_left
 ·rintro w' ⟨s0, s1, s2, s3, s4, s5, s6, s7, s8, s9, s10, s11, s12, s13⟩
  go_simp
  with_reducible rfl
 rotate_left
 ·simp only [Act.put, List.setIfInBounds_toArray, List.set_cons_zero, List.set_cons_succ, i64_w, i32_w]
  rfl
 refine one_ (i := 37) (N := some 103) #[true, true, true, true, true, true, true, true, true, true, true, true, true, true, true, true, true, true, true, true, true, true, true, true, true, true, true, true, true, true, true, true, true, true, true, true, true, true, true, false, true, false, false, false, false, false] rfl rfl (one_of HT_.out (by kernel_rfl)) (by decide) (fun K hK => ?_)
 refine goes_ Try.func14 (by kernel_rfl) rfl #[.agg #[.int .i64 a0, .int .u64 a1], .agg #[.int .i64 b0, .int .u64 b1]] (by rfl) rfl rfl (by (try simp only [List.map_toArray, List.map_cons, List.map_nil]); first | done | rfl | (simp only [List.length_drop, List.length_take]; rfl)) ?_
 with_reducible refine (CM _).mono ?_
 rintro e w23_2 ⟨rfl, hb⟩
 refine ⟨_, rfl, ?_⟩
 replace BK3 := cB hb BK3
 replace BK4 := cB hb BK4
 replace BK7 := cB hb BK7
 replace BK9 := cB hb BK9
 replace BK11 := cB hb BK11
 replace BK13 := cB hb BK13
 replace BK15 := cB hb BK15
 replace HB := Aside0.mk (below_step (HB.out) hb)
 clear hb
 refine hK.out _ _ ⟨(blk_cell BK3.out 0).trans rfl, (blk_cell BK3.out 1).trans rfl, (blk_cell BK4.out 0).trans rfl, (blk_cell BK4.out 1).trans rfl, (blk_cell BK7.out 0).trans rfl, (blk_cell BK7.out 1).trans rfl, (blk_cell BK9.out 0).trans rfl, (blk_cell BK9.out 1).trans rfl, (blk_cell BK11.out 0).trans rfl, (blk_cell BK11.out 1).trans rfl, (blk_cell BK13.out 0).trans rfl, (blk_cell BK13.out 1).trans rfl, (blk_cell BK15.out 0).trans rfl, (blk_cell BK15.out 1).trans rfl⟩ (fun hHeld => ?_)
 clear hK K
 refine norm_ (a' := ?_) ?_ ?_
 rotate_left
 ·show Act.put _ (some 103) _ = _
  simp only [Act.put, List.setIfInBounds_toArray, List.set_cons_zero, List.set_cons_succ, i64_w, i32_w]
  rfl
 refine one_ (i := 39) (N := some 105) #[true, true, true, true, true, true, true, true, true, true, true, true, true, true, true, true, true, true, true, true, true, true, true, true, true, true, true, true, true, true, true, true, true, true, true, true, true, true, true, true, true, false, false, false, false, false] rfl rfl (one_of HT_.out (by kernel_rfl)) (by decide) (fun K hK => ?_)
 refine goes_ Try.func28 (by kernel_rfl) rfl #[.agg #[.int .i64 a0, .int .u64 a1]] (by rfl) rfl rfl (by (try simp only [List.map_toArray, List.map_cons, List.map_nil]); first | done | rfl | (simp only [List.length_drop, List.length_take]; rfl)) ?_
 with_reducible refine (FA _).mono ?_
 rintro e w23_3 ⟨rfl, hb⟩
 refine ⟨_, rfl, ?_⟩
 replace BK3 := cB hb BK3
 replace BK4 := cB hb BK4
 replace BK7 := cB hb BK7
 replace BK9 := cB hb BK9
 replace BK11 := cB hb BK11
 replace BK13 := cB hb BK13
 replace BK15 := cB hb BK15
 replace HB := Aside0.mk (below_step (HB.out) hb)
 clear hb
 refine hK.out _ _ ⟨(blk_cell BK3.out 0).trans rfl, (blk_cell BK3.out 1).trans rfl, (blk_cell BK4.out 0).trans rfl, (blk_cell BK4.out 1).trans rfl, (blk_cell BK7.out 0).trans rfl, (blk_cell BK7.out 1).trans rfl, (blk_cell BK9.out 0).trans rfl, (blk_cell BK9.out 1).trans rfl, (blk_cell BK11.out 0).trans rfl, (blk_cell BK11.out 1).trans rfl, (blk_cell BK13.out 0).trans rfl, (blk_cell BK13.out 1).trans rfl, (blk_cell BK15.out 0).trans rfl, (blk_cell BK15.out 1).trans rfl⟩ (fun hHeld => ?_)
 clear hK K
 refine norm_ (a' := ?_) ?_ ?_
 rotate_left
 ·show Act.put _ (some 105) _ = _
  simp only [Act.put, List.setIfInBounds_toArray, List.set_cons_zero, List.set_cons_succ, i64_w, i32_w]
  rfl
 refine one_ (i := 41) (N := some 107) #[true, true, true, true, true, true, true, true, true, true, true, true, true, true, true, true, true, true, true, true, true, true, true, true, true, true, true, true, true, true, true, true, true, true, true, true, true, true, true, true, true, true, false, false, false, false] rfl rfl (one_of HT_.out (by kernel_rfl)) (by decide) (fun K hK => ?_)
 refine goes_ Try.func28 (by kernel_rfl) rfl #[.agg #[.int .i64 b0, .int .u64 b1]] (by rfl) rfl rfl (by (try simp only [List.map_toArray, List.map_cons, List.map_nil]); first | done | rfl | (simp only [List.length_drop, List.length_take]; rfl)) ?_
 with_reducible refine (FB _).mono ?_
 rintro e w23_4 ⟨rfl, hb⟩
 refine ⟨_, rfl, ?_⟩
 replace BK3 := cB hb BK3
 replace BK4 := cB hb BK4
 replace BK7 := cB hb BK7
 replace BK9 := cB hb BK9
 replace BK11 := cB hb BK11
 replace BK13 := cB hb BK13
 replace BK15 := cB hb BK15
 replace HB := Aside0.mk (below_step (HB.out) hb)
 clear hb
 refine hK.out _ _ ⟨(blk_cell BK3.out 0).trans rfl, (blk_cell BK3.out 1).trans rfl, (blk_cell BK4.out 0).trans rfl, (blk_cell BK4.out 1).trans rfl, (blk_cell BK7.out 0).trans rfl, (blk_cell BK7.out 1).trans rfl, (blk_cell BK9.out 0).trans rfl, (blk_cell BK9.out 1).trans rfl, (blk_cell BK11.out 0).trans rfl, (blk_cell BK11.out 1).trans rfl, (blk_cell BK13.out 0).trans rfl, (blk_cell BK13.out 1).trans rfl, (blk_cell BK15.out 0).trans rfl, (blk_cell BK15.out 1).trans rfl⟩ (fun hHeld => ?_)
 clear hK K
 refine norm_ (a' := ?_) ?_ ?_
 rotate_left
 ·show Act.put _ (some 107) _ = _
  simp only [Act.put, List.setIfInBounds_toArray, List.set_cons_zero, List.set_cons_succ, i64_w, i32_w]
  rfl
 refine one_ (i := 42) (N := some 108) #[true, true, true, true, true, true, true, true, true, true, true, true, true, true, true, true, true, true, true, true, true, true, true, true, true, true, true, true, true, true, true, true, true, true, true, true, true, true, true, true, true, true, true, false, false, false] rfl rfl (one_of HT_.out (by kernel_rfl)) (by decide) (fun K hK => ?_)
 refine goes_ Try.func31 (by kernel_rfl) rfl #[.agg (numA sa Da), .agg (numA sb Db)] (by rfl) rfl rfl (by (try simp only [List.map_toArray, List.map_cons, List.map_nil]); first | done | rfl | (simp only [List.length_drop, List.length_take]; rfl)) ?_
 with_reducible refine (CR _).mono ?_
 rintro e w23_5 ⟨rfl, hb⟩
 refine ⟨_, rfl, ?_⟩
 replace BK3 := cB hb BK3
 replace BK4 := cB hb BK4
 replace BK7 := cB hb BK7
 replace BK9 := cB hb BK9
 replace BK11 := cB hb BK11
 replace BK13 := cB hb BK13
 replace BK15 := cB hb BK15
 replace HB := Aside0.mk (below_step (HB.out) hb)
 clear hb
 refine hK.out _ _ ⟨(blk_cell BK3.out 0).trans rfl, (blk_cell BK3.out 1).trans rfl, (blk_cell BK4.out 0).trans rfl, (blk_cell BK4.out 1).trans rfl, (blk_cell BK7.out 0).trans rfl, (blk_cell BK7.out 1).trans rfl, (blk_cell BK9.out 0).trans rfl, (blk_cell BK9.out 1).trans rfl, (blk_cell BK11.out 0).trans rfl, (blk_cell BK11.out 1).trans rfl, (blk_cell BK13.out 0).trans rfl, (blk_cell BK13.out 1).trans rfl, (blk_cell BK15.out 0).trans rfl, (blk_cell BK15.out 1).trans rfl⟩ (fun hHeld => ?_)
 clear hK K
 refine norm_ (a' := ?_) ?_ ?_
 rotate_left
 ·show Act.put _ (some 108) _ = _
  simp only [Act.put, List.setIfInBounds_toArray, List.set_cons_zero, List.set_cons_succ, i64_w, i32_w]
  rfl
 refine pure_ (i := 43) (N := some 109) (v := .bool true) (a' := ?_) #[true, true, true, true, true, true, true, true, true, true, true, true, true, true, true, true, true, true, true, true, true, true, true, true, true, true, true, true, true, true, true, true, true, true, true, true, true, true, true, true, true, true, true, true, false, false] rfl rfl (any_of HT_.out (by kernel_rfl)) (fun _ _ _ h => h) (Or.inl ⟨by rfl, fun w' => by first | (go_simp; done) | (go_simp; rfl) | (go_simp; simp)⟩) ?_ ?_
 rotate_left
 ·simp only [Act.put, List.setIfInBounds_toArray, List.set_cons_zero, List.set_cons_succ, i64_w, i32_w]
  rfl
 refine pure_ (i := 44) (N := some 110) (v := ?_) (a' := ?_) #[true, true, true, true, true, true, true, true, true, true, true, true, true, true, true, true, true, true, true, true, true, true, true, true, true, true, true, true, true, true, true, true, true, true, true, true, true, true, true, true, true, true, true, true, true, false] rfl rfl (any_of HT_.out (by kernel_rfl)) (fun _ _ _ h => h) (Or.inl ⟨by rfl, ?_⟩) ?_ ?_
 rotate_left
 ·intro w'
  go_simp
  with_reducible rfl
 rotate_left
 ·simp only [Act.put, List.setIfInBounds_toArray, List.set_cons_zero, List.set_cons_succ, i64_w, i32_w]
  rfl
 refine pure_ (i := 45) (N := some 6) (v := ?_) (a' := ?_) #[true, true, true, true, true, true, true, true, true, true, true, true, true, true, true, true, true, true, true, true, true, true, true, true, true, true, true, true, true, true, true, true, true, true, true, true, true, true, true, true, true, true, true, true, true, true] rfl rfl (any_of HT_.out (by kernel_rfl)) (fun _ _ _ h => h) (Or.inl ⟨by rfl, ?_⟩) ?_ ?_
 rotate_left
 ·intro w'
  go_simp
  with_reducible rfl
 rotate_left
 ·simp only [Act.put, List.setIfInBounds_toArray, List.set_cons_zero, List.set_cons_succ, i64_w, i32_w]
  rfl
 refine done_ (done_of HT_.out (by kernel_rfl)) ?_
 try go_wp2
 go_ret
 exact ⟨rfl, HB.out⟩
end Go.Proofs.Ytmkdnoikbefimaa.G
