/- More number contracts of the document, put together. -/
import Derived.Test.YtmkdnoikbefimaaNumAll
namespace Go.Proofs.Ytmkdnoikbefimaa.G
open Go.RowKit Go.Proofs.NumMath Go.Proofs.YtmkdnoikbefimaaW.PrintWords Go.Proofs.YtmkdnoikbefimaaW.PrintLast Go.Proofs.YtmkdnoikbefimaaW.PrintMore
attribute [local go_sem] max2_int min2_int max_two min_two max_three min_three max_four min_four
set_option linter.unusedVariables false
set_option linter.unusedSimpArgs false
section
variable {P : Program}
theorem exec_mid {o : Oper} {a : Act} {w : World} {ty : TypeId} {x : Operand} (ho : o.op = .load ty x) {b k : Nat} (hx : a.eval x = .pointer (some ⟨b, k, none⟩)) {cs : List Value} {cells : Array Value} (hcs : cs.toArray = cells) {d : TypeDesc} (hc : w.rangeAt b k cs)
    (hu : P.underlying ty = some d) (hd : d.isRow = true) (hi : (P.info? ty).map (·.size) = some cells.size) : (execOp a.eval o).run P w = .ok (.value (.agg cells)) w := by
  subst hcs
  have h := run_loadAt_mid (P := P) w b k ty cs d hc hu hd (by rw [hi]; simp)
  unfold execOp
  simp [ho, hx, h]
end
def relievoref01_Minus.T1 : Bool × List (List Nat × List Nat) := (true, [([], []), ([0], [0]), ([1], [1]), ([2], [2]), ([3], [3]), ([4, 3], [3, 4]), ([5, 3, 3], [3, 5]), ([6, 3], [3, 6]), ([3, 7], [3, 7]), ([], []), ([9], [9]), ([8, 10], [8, 10]), ([11, 6, 0, 1, 2, 3, 4, 5, 6, 7, 8, 9, 10, 11], [11])])
def relievoref01_Minus.B1 : List Nat := [0, 1, 3, 7, 15, 31, 63, 127, 255, 0, 512, 2047, 4095]
theorem relievoref01_Minus.tab1 : rtab .any (opsOf Try.f29 1) = relievoref01_Minus.T1 := by kernel_rfl
theorem relievoref01_Minus.bits1 : waitsOk relievoref01_Minus.T1.2 relievoref01_Minus.B1 = true := by kernel_rfl
set_option maxHeartbeats 2000000 in
set_option maxRecDepth 100000 in
theorem minus.calls (a : Bool) (D : List Int) (hD : D.length = 18) (w : World) :
    Calls Try.prog 29 #[.agg (numA a D)] w fun e w' => e = .returned (.agg (numA (!a && !(D == Z18)) D)) ∧ Below w.heap.size w w' := by
 have hu44 := Try.underlying44
 have hu46 := Try.underlying46
 have ZR := fun w => zero.calls D hD w
 obtain ⟨z, hz⟩ : ∃ z, Aside0 ((D == Z18) = z) := ⟨_, ⟨rfl⟩⟩
 rw [hz.out] at ZR
 have HB := Aside0.mk (Below.refl w.heap.size w)
 cases a
 ·skip
  go_enter Try.func29, Try.ntmps29
  go_wp2_with (first
    | ((with_reducible refine gate_dst (N := 1) rfl ?_); refine box_event ?hg (N := 1) ?hd (cs := numA false D) (t := 46) ?hr ?_; (case hd => rfl); (case hg => rfl); (case hr => first | (go_simp; done) | (go_simp; rfl)); intro g1 hg w3 hbox hb; have BK1 := Aside0.mk (hbox); have GE1 := Aside0.mk (bG hg (HB.out)); replace HB := Aside0.mk (below_step (HB.out) hb); clear hb hbox hg)
    | ((with_reducible refine gate_dst (N := 2) rfl ?_); refine box_event ?hg (N := 2) ?hd (cs := numA false Z18) (t := 46) ?hr ?_; (case hd => rfl); (case hg => rfl); (case hr => first | (go_simp; done) | (go_simp; rfl)); intro g2 hg w4 hbox hb; have BK2 := Aside0.mk (hbox); have GE2 := Aside0.mk (bG hg (HB.out)); have N12 := cN hg BK1; have N21 := cM hg BK1; replace HB := Aside0.mk (below_step (HB.out) hb); replace BK1 := cB hb BK1; clear hb hbox hg))
  replace BK1 := Aside0.mk (blk_drew BK1.out)
  replace BK2 := Aside0.mk (blk_drew BK2.out)
  replace HB := Aside0.mk (below_drew1 HB.out)
  refine start_ (n := 13) (S := fun w' => w'.heap[g1]? = some (.cells (numA false D) 46 (0, 0))) (ds := [12]) #[false, false, false, false, false, false, false, false, false, false, false, false, false] (by kernel_rfl) rfl rfl (BK1.out) (fun hHeld => ?_); refine with_tabW relievoref01_Minus.tab1 relievoref01_Minus.bits1 (fun HT_ HW_ => ?_)
  generalize w4.drew = w5 at BK1 BK2 HB hHeld ⊢
  refine pure_ (i := 0) (N := some 3) (v := ?_) (a' := ?_) #[true, false, false, false, false, false, false, false, false, false, false, false, false] rfl rfl (any_of HT_.out (by kernel_rfl)) (fun _ _ _ h => h) (Or.inl ⟨by rfl, ?_⟩) ?_ ?_
  rotate_left
  ·intro w'
   go_simp
   with_reducible rfl
  rotate_left
  ·simp only [Act.put, List.setIfInBounds_toArray, List.set_cons_zero, List.set_cons_succ, i64_w, i32_w]
   rfl
  refine take_ (i := 1) (N := some 4) (v := .bool false) (a' := ?_) #[true, true, false, false, false, false, false, false, false, false, false, false, false] rfl rfl (take_ofW HT_.out HW_.out (by kernel_rfl)) (fun _ _ _ h => h) (Or.inl ⟨by rfl, fun w' s0 => by
    have c0 := (blk_cell s0 0).trans (numA_get0 false D)
    go_simp⟩) hHeld ?_ ?_
  rotate_left
  ·simp only [Act.put, List.setIfInBounds_toArray, List.set_cons_zero, List.set_cons_succ, i64_w, i32_w]
   rfl
  refine pure_ (i := 2) (N := some 5) (v := ?_) (a' := ?_) #[true, true, true, false, false, false, false, false, false, false, false, false, false] rfl rfl (any_of HT_.out (by kernel_rfl)) (fun _ _ _ h => h) (Or.inl ⟨by rfl, ?_⟩) ?_ ?_
  rotate_left
  ·intro w'
   go_simp
   with_reducible rfl
  rotate_left
  ·simp only [Act.put, List.setIfInBounds_toArray, List.set_cons_zero, List.set_cons_succ, i64_w, i32_w]
   rfl
  refine pure_ (i := 3) (N := some 6) (v := ?_) (a' := ?_) #[true, true, true, true, false, false, false, false, false, false, false, false, false] rfl rfl (any_of HT_.out (by kernel_rfl)) (fun _ _ _ h => h) (Or.inl ⟨by rfl, ?_⟩) ?_ ?_
  rotate_left
  ·intro w'
   go_simp
   with_reducible rfl
  rotate_left
  ·simp only [Act.put, List.setIfInBounds_toArray, List.set_cons_zero, List.set_cons_succ, i64_w, i32_w]
   rfl
  refine pure_ (i := 4) (N := some 7) (v := ?_) (a' := ?_) #[true, true, true, true, true, false, false, false, false, false, false, false, false] rfl rfl (any_of HT_.out (by kernel_rfl)) (fun _ _ _ h => h) (Or.inl ⟨by rfl, ?_⟩) ?_ ?_
  rotate_left
  ·intro w'
   go_simp
   with_reducible rfl
  rotate_left
  ·simp only [Act.put, List.setIfInBounds_toArray, List.set_cons_zero, List.set_cons_succ, i64_w, i32_w]
   rfl
  refine take_ (i := 5) (N := some 8) (v := .agg (ar D)) (a' := ?_) #[true, true, true, true, true, true, false, false, false, false, false, false, false] rfl rfl (take_ofW HT_.out HW_.out (by kernel_rfl)) (fun _ _ _ h => h) (Or.inl ⟨by rfl, fun w' s0 => exec_mid rfl rfl rfl (num_range s0) hu44 rfl (ar_info hD)⟩) hHeld ?_ ?_
  rotate_left
  ·simp only [Act.put, List.setIfInBounds_toArray, List.set_cons_zero, List.set_cons_succ, i64_w, i32_w]
   rfl
  refine pure_ (i := 9) (N := some 12) (v := ?_) (a' := ?_) #[true, true, true, true, true, true, false, false, false, true, false, false, false] rfl rfl (any_of HT_.out (by kernel_rfl)) (fun _ _ _ h => h) (Or.inl ⟨by rfl, ?_⟩) ?_ ?_
  rotate_left
  ·intro w'
   go_simp
   with_reducible rfl
  rotate_left
  ·simp only [Act.put, List.setIfInBounds_toArray, List.set_cons_zero, List.set_cons_succ, i64_w, i32_w]
   rfl
  refine take_ (i := 10) (N := some 13) (v := .agg (ar D)) (a' := ?_) #[true, true, true, true, true, true, false, false, false, true, true, false, false] rfl rfl (take_ofW HT_.out HW_.out (by kernel_rfl)) (fun _ _ _ h => h) (Or.inl ⟨by rfl, fun w' s0 => exec_mid rfl rfl rfl (num_range s0) hu44 rfl (ar_info hD)⟩) hHeld ?_ ?_
  rotate_left
  ·simp only [Act.put, List.setIfInBounds_toArray, List.set_cons_zero, List.set_cons_succ, i64_w, i32_w]
   rfl
  refine one_ (i := 6) (N := some 9) #[true, true, true, true, true, true, true, false, false, true, true, false, false] rfl rfl (one_of HT_.out (by kernel_rfl)) (by decide) (fun K hK => ?_)
  refine goes_ Try.func41 (by kernel_rfl) rfl #[.agg (ar D)] (by rfl) rfl rfl (by (try simp only [List.map_toArray, List.map_cons, List.map_nil]); first | done | rfl | (simp only [List.length_drop, List.length_take]; rfl)) ?_
  with_reducible refine (ZR _).mono ?_
  rintro e w5_1 ⟨rfl, hb⟩
  refine ⟨_, rfl, ?_⟩
  replace BK1 := cB hb BK1
  replace BK2 := cB hb BK2
  replace HB := Aside0.mk (below_step (HB.out) hb)
  clear hb
  refine hK.out _ _ (BK1.out) (fun hHeld => ?_)
  clear hK K
  refine norm_ (a' := ?_) ?_ ?_
  rotate_left
  ·show Act.put _ (some 9) _ = _
   simp only [Act.put, List.setIfInBounds_toArray, List.set_cons_zero, List.set_cons_succ, i64_w, i32_w]
   rfl
  refine pure_ (i := 7) (N := some 10) (v := ?_) (a' := ?_) #[true, true, true, true, true, true, true, true, false, true, true, false, false] rfl rfl (any_of HT_.out (by kernel_rfl)) (fun _ _ _ h => h) (Or.inl ⟨by rfl, ?_⟩) ?_ ?_
  rotate_left
  ·intro w'
   go_simp
   with_reducible rfl
  rotate_left
  ·simp only [Act.put, List.setIfInBounds_toArray, List.set_cons_zero, List.set_cons_succ, i64_w, i32_w]
   rfl
  refine pure_ (i := 8) (N := some 11) (v := ?_) (a' := ?_) #[true, true, true, true, true, true, true, true, true, true, true, false, false] rfl rfl (any_of HT_.out (by kernel_rfl)) (fun _ _ _ h => h) (Or.inl ⟨by rfl, ?_⟩) ?_ ?_
  rotate_left
  ·intro w'
   go_simp
   with_reducible rfl
  rotate_left
  ·simp only [Act.put, List.setIfInBounds_toArray, List.set_cons_zero, List.set_cons_succ, i64_w, i32_w]
   rfl
  refine pure_ (i := 11) (N := some 14) (v := .agg (numA (!z) D)) (a' := ?_) #[true, true, true, true, true, true, true, true, true, true, true, true, false] rfl rfl (any_of HT_.out (by kernel_rfl)) (fun _ _ _ h => h) (Or.inl ⟨by rfl, fun w' => exec_build rfl [(0, .bool (!z)), (1, .agg (ar D))] (by simp only [List.map_toArray, List.map_cons, List.map_nil]; rfl) (built_num (!z) hD)⟩) ?_ ?_
  rotate_left
  ·simp only [Act.put, List.setIfInBounds_toArray, List.set_cons_zero, List.set_cons_succ, i64_w, i32_w]
   rfl
  refine last_ (i := 12) (N := none) #[true, true, true, true, true, true, true, true, true, true, true, true, true] rfl rfl (one_of HT_.out (by kernel_rfl)) (by decide) (fun K hK => ?_)
  rw [if_pos (by rfl)]
  refine wp_store_row 46 (.tmp 2) (.tmp 14) rfl g2 (numA (!z) D) rfl rfl 46 (numA false Z18) BK2.out (num_info hD) ((numA_size rfl).trans (numA_size hD).symm) (numA_one _ _) ?_
  replace HB := Aside0.mk (Go.below_setRow HB.out GE2.out (numA (!z) D))
  replace BK2 := Aside0.mk (setRow_heap w5_1 g2 (numA false Z18) (numA (!z) D) 46 (0, 0) BK2.out)
  refine hK.out _ _ ?_
  clear hK K
  refine done_ (done_of HT_.out (by kernel_rfl)) ?_
  clear HT_ HW_
  try go_wp2
  refine bodyPost_ret (results_cell_row rfl _ _ g2 46 (numA (!z) D) (0, 0) _ rfl BK2.out Try.underlying46 rfl (by exact num_info hD)) rfl ?_
  exact ⟨by rw [← hz.out]; rfl, HB.out⟩
 ·clear ZR
  go_enter Try.func29, Try.ntmps29
  go_wp2_with (first
    | ((with_reducible refine gate_dst (N := 1) rfl ?_); refine box_event ?hg (N := 1) ?hd (cs := numA true D) (t := 46) ?hr ?_; (case hd => rfl); (case hg => rfl); (case hr => first | (go_simp; done) | (go_simp; rfl)); intro g1 hg w3 hbox hb; have BK1 := Aside0.mk (hbox); have GE1 := Aside0.mk (bG hg (HB.out)); replace HB := Aside0.mk (below_step (HB.out) hb); clear hb hbox hg)
    | ((with_reducible refine gate_dst (N := 2) rfl ?_); refine box_event ?hg (N := 2) ?hd (cs := numA false Z18) (t := 46) ?hr ?_; (case hd => rfl); (case hg => rfl); (case hr => first | (go_simp; done) | (go_simp; rfl)); intro g2 hg w4 hbox hb; have BK2 := Aside0.mk (hbox); have GE2 := Aside0.mk (bG hg (HB.out)); have N12 := cN hg BK1; have N21 := cM hg BK1; replace HB := Aside0.mk (below_step (HB.out) hb); replace BK1 := cB hb BK1; clear hb hbox hg))
  replace BK1 := Aside0.mk (blk_drew BK1.out)
  replace BK2 := Aside0.mk (blk_drew BK2.out)
  replace HB := Aside0.mk (below_drew1 HB.out)
  refine start_ (n := 13) (S := fun w' => w'.heap[g1]? = some (.cells (numA true D) 46 (0, 0))) (ds := [12]) #[false, false, false, false, false, false, false, false, false, false, false, false, false] (by kernel_rfl) rfl rfl (BK1.out) (fun hHeld => ?_); refine with_tabW relievoref01_Minus.tab1 relievoref01_Minus.bits1 (fun HT_ HW_ => ?_)
  generalize w4.drew = w5 at BK1 BK2 HB hHeld ⊢
  refine pure_ (i := 0) (N := some 3) (v := ?_) (a' := ?_) #[true, false, false, false, false, false, false, false, false, false, false, false, false] rfl rfl (any_of HT_.out (by kernel_rfl)) (fun _ _ _ h => h) (Or.inl ⟨by rfl, ?_⟩) ?_ ?_
  rotate_left
  ·intro w'
   go_simp
   with_reducible rfl
  rotate_left
  ·simp only [Act.put, List.setIfInBounds_toArray, List.set_cons_zero, List.set_cons_succ, i64_w, i32_w]
   rfl
  refine take_ (i := 1) (N := some 4) (v := .bool true) (a' := ?_) #[true, true, false, false, false, false, false, false, false, false, false, false, false] rfl rfl (take_ofW HT_.out HW_.out (by kernel_rfl)) (fun _ _ _ h => h) (Or.inl ⟨by rfl, fun w' s0 => by
    have c0 := (blk_cell s0 0).trans (numA_get0 true D)
    go_simp⟩) hHeld ?_ ?_
  rotate_left
  ·simp only [Act.put, List.setIfInBounds_toArray, List.set_cons_zero, List.set_cons_succ, i64_w, i32_w]
   rfl
  refine pure_ (i := 2) (N := some 5) (v := ?_) (a' := ?_) #[true, true, true, false, false, false, false, false, false, false, false, false, false] rfl rfl (any_of HT_.out (by kernel_rfl)) (fun _ _ _ h => h) (Or.inl ⟨by rfl, ?_⟩) ?_ ?_
  rotate_left
  ·intro w'
   go_simp
   with_reducible rfl
  rotate_left
  ·simp only [Act.put, List.setIfInBounds_toArray, List.set_cons_zero, List.set_cons_succ, i64_w, i32_w]
   rfl
  refine pure_ (i := 3) (N := some 6) (v := ?_) (a' := ?_) #[true, true, true, true, false, false, false, false, false, false, false, false, false] rfl rfl (any_of HT_.out (by kernel_rfl)) (fun _ _ _ h => h) (Or.inl ⟨by rfl, ?_⟩) ?_ ?_
  rotate_left
  ·intro w'
   go_simp
   with_reducible rfl
  rotate_left
  ·simp only [Act.put, List.setIfInBounds_toArray, List.set_cons_zero, List.set_cons_succ, i64_w, i32_w]
   rfl
  refine pure_ (i := 4) (N := some 7) (v := undef) (a' := ?_) #[true, true, true, true, true, false, false, false, false, false, false, false, false] rfl rfl (any_of HT_.out (by kernel_rfl)) (fun _ _ _ h => h) (Or.inr ⟨by rfl, rfl⟩) ?_ ?_
  rotate_left
  ·simp only [Act.put, List.setIfInBounds_toArray, List.set_cons_zero, List.set_cons_succ, i64_w, i32_w]
   rfl
  refine pure_ (i := 5) (N := some 8) (v := undef) (a' := ?_) #[true, true, true, true, true, true, false, false, false, false, false, false, false] rfl rfl (any_of HT_.out (by kernel_rfl)) (fun _ _ _ h => h) (Or.inr ⟨by rfl, rfl⟩) ?_ ?_
  rotate_left
  ·simp only [Act.put, List.setIfInBounds_toArray, List.set_cons_zero, List.set_cons_succ, i64_w, i32_w]
   rfl
  refine pure_ (i := 6) (N := some 9) (v := undef) (a' := ?_) #[true, true, true, true, true, true, true, false, false, false, false, false, false] rfl rfl (any_of HT_.out (by kernel_rfl)) (fun _ _ _ h => h) (Or.inr ⟨by rfl, rfl⟩) ?_ ?_
  rotate_left
  ·simp only [Act.put, List.setIfInBounds_toArray, List.set_cons_zero, List.set_cons_succ, i64_w, i32_w]
   rfl
  refine pure_ (i := 7) (N := some 10) (v := undef) (a' := ?_) #[true, true, true, true, true, true, true, true, false, false, false, false, false] rfl rfl (any_of HT_.out (by kernel_rfl)) (fun _ _ _ h => h) (Or.inr ⟨by rfl, rfl⟩) ?_ ?_
  rotate_left
  ·simp only [Act.put, List.setIfInBounds_toArray, List.set_cons_zero, List.set_cons_succ, i64_w, i32_w]
   rfl
  refine pure_ (i := 8) (N := some 11) (v := ?_) (a' := ?_) #[true, true, true, true, true, true, true, true, true, false, false, false, false] rfl rfl (any_of HT_.out (by kernel_rfl)) (fun _ _ _ h => h) (Or.inl ⟨by rfl, ?_⟩) ?_ ?_
  rotate_left
  ·intro w'
   go_simp
   with_reducible rfl
  rotate_left
  ·simp only [Act.put, List.setIfInBounds_toArray, List.set_cons_zero, List.set_cons_succ, i64_w, i32_w]
   rfl
  refine pure_ (i := 9) (N := some 12) (v := ?_) (a' := ?_) #[true, true, true, true, true, true, true, true, true, true, false, false, false] rfl rfl (any_of HT_.out (by kernel_rfl)) (fun _ _ _ h => h) (Or.inl ⟨by rfl, ?_⟩) ?_ ?_
  rotate_left
  ·intro w'
   go_simp
   with_reducible rfl
  rotate_left
  ·simp only [Act.put, List.setIfInBounds_toArray, List.set_cons_zero, List.set_cons_succ, i64_w, i32_w]
   rfl
  refine take_ (i := 10) (N := some 13) (v := .agg (ar D)) (a' := ?_) #[true, true, true, true, true, true, true, true, true, true, true, false, false] rfl rfl (take_ofW HT_.out HW_.out (by kernel_rfl)) (fun _ _ _ h => h) (Or.inl ⟨by rfl, fun w' s0 => exec_mid rfl rfl rfl (num_range s0) hu44 rfl (ar_info hD)⟩) hHeld ?_ ?_
  rotate_left
  ·simp only [Act.put, List.setIfInBounds_toArray, List.set_cons_zero, List.set_cons_succ, i64_w, i32_w]
   rfl
  refine pure_ (i := 11) (N := some 14) (v := .agg (numA false D)) (a' := ?_) #[true, true, true, true, true, true, true, true, true, true, true, true, false] rfl rfl (any_of HT_.out (by kernel_rfl)) (fun _ _ _ h => h) (Or.inl ⟨by rfl, fun w' => exec_build rfl [(0, .bool false), (1, .agg (ar D))] (by simp only [List.map_toArray, List.map_cons, List.map_nil]; rfl) (built_num false hD)⟩) ?_ ?_
  rotate_left
  ·simp only [Act.put, List.setIfInBounds_toArray, List.set_cons_zero, List.set_cons_succ, i64_w, i32_w]
   rfl
  refine last_ (i := 12) (N := none) #[true, true, true, true, true, true, true, true, true, true, true, true, true] rfl rfl (one_of HT_.out (by kernel_rfl)) (by decide) (fun K hK => ?_)
  rw [if_pos (by rfl)]
  refine wp_store_row 46 (.tmp 2) (.tmp 14) rfl g2 (numA false D) rfl rfl 46 (numA false Z18) BK2.out (num_info hD) ((numA_size rfl).trans (numA_size hD).symm) (numA_one _ _) ?_
  replace HB := Aside0.mk (Go.below_setRow HB.out GE2.out (numA false D))
  replace BK2 := Aside0.mk (setRow_heap w5 g2 (numA false Z18) (numA false D) 46 (0, 0) BK2.out)
  refine hK.out _ _ ?_
  clear hK K
  refine done_ (done_of HT_.out (by kernel_rfl)) ?_
  clear HT_ HW_
  try go_wp2
  refine bodyPost_ret (results_cell_row rfl _ _ g2 46 (numA false D) (0, 0) _ rfl BK2.out Try.underlying46 rfl (by exact num_info hD)) rfl ?_
  exact ⟨rfl, HB.out⟩
end Go.Proofs.Ytmkdnoikbefimaa.G

namespace Go.Proofs.NumMath
/-- The sum: n digits of it, and what is carried. -/
def addL (A B : List Int) : Nat → List Int × Int
  | 0 => (Z18, 0)
  | n + 1 => ((addL A B n).1.set n ((A.getD n 0 + B.getD n 0 + (addL A B n).2) % 65536), (A.getD n 0 + B.getD n 0 + (addL A B n).2) / 65536)
/-- The difference: n digits of it, and what is borrowed. -/
def subL (A B : List Int) : Nat → List Int × Int
  | 0 => (Z18, 0)
  | n + 1 => ((subL A B n).1.set n (if A.getD n 0 - B.getD n 0 - (subL A B n).2 < 0 then A.getD n 0 - B.getD n 0 - (subL A B n).2 + 65536 else A.getD n 0 - B.getD n 0 - (subL A B n).2), if A.getD n 0 - B.getD n 0 - (subL A B n).2 < 0 then 1 else 0)
theorem addL_dig {A B : List Int} (hA : Dig A) (hB : Dig B) : ∀ n, Dig (addL A B n).1 ∧ 0 ≤ (addL A B n).2 ∧ (addL A B n).2 ≤ 1
  | 0 => ⟨dig_zero, by simp [addL]⟩
  | n + 1 => by
    obtain ⟨h1, h2, h3⟩ := addL_dig hA hB n
    have p := hA.2 n
    have q := hB.2 n
    unfold addL
    dsimp only
    exact ⟨dig_set h1 _ _ (by omega), by omega, by omega⟩
theorem subL_dig {A B : List Int} (hA : Dig A) (hB : Dig B) : ∀ n, Dig (subL A B n).1 ∧ 0 ≤ (subL A B n).2 ∧ (subL A B n).2 ≤ 1
  | 0 => ⟨dig_zero, by simp [subL]⟩
  | n + 1 => by
    obtain ⟨h1, h2, h3⟩ := subL_dig hA hB n
    have p := hA.2 n
    have q := hB.2 n
    unfold subL
    dsimp only
    refine ⟨dig_set h1 _ _ ?_, ?_, ?_⟩ <;> split <;> omega
theorem addL_val {A B : List Int} (hA : Dig A) (hB : Dig B) : ∀ n, n ≤ 18 → val (addL A B n).1 18 + (addL A B n).2 * 65536 ^ n = val A n + val B n ∧ ∀ j, n ≤ j → (addL A B n).1.getD j 0 = 0
  | 0, _ => ⟨by rw [show (addL A B 0).1 = Z18 from rfl, val_zero]; rfl, fun j _ => by
      by_cases h : j < 18
      · exact (by decide : ∀ n, n < 18 → Z18.getD n 0 = 0) j h
      · have : Z18[j]? = none := by simp [Z18]; omega
        simp [addL, List.getD, this]⟩
  | n + 1, h => by
    obtain ⟨ih, iz⟩ := addL_val hA hB n (by omega)
    have hd := (addL_dig hA hB n).1.1
    have z := iz n (Nat.le_refl _)
    refine ⟨?_, fun j hj => by rw [addL]; dsimp only; rw [getD_set_ne _ (by omega)]; exact iz j (by omega)⟩
    rw [addL, val_set _ _ (by omega) _ (by omega), z]
    dsimp only
    rw [show val A (n + 1) = val A n + A.getD n 0 * 65536 ^ n from rfl, show val B (n + 1) = val B n + B.getD n 0 * 65536 ^ n from rfl, Int.pow_succ]
    generalize A.getD n 0 = a at *
    generalize B.getD n 0 = b at *
    generalize (addL A B n).2 = c at *
    generalize val (addL A B n).1 18 = v at *
    have e := Int.emod_add_mul_ediv (a + b + c) 65536
    generalize (a + b + c) % 65536 = r at *
    generalize (a + b + c) / 65536 = q at *
    generalize (65536 : Int) ^ n = P at *
    generalize val A n = x at *
    generalize val B n = y at *
    have e' : r = a + b + c - 65536 * q := by omega
    subst e'
    grind
theorem subL_val {A B : List Int} (hA : Dig A) (hB : Dig B) : ∀ n, n ≤ 18 → val (subL A B n).1 18 - (subL A B n).2 * 65536 ^ n = val A n - val B n ∧ ∀ j, n ≤ j → (subL A B n).1.getD j 0 = 0
  | 0, _ => ⟨by rw [show (subL A B 0).1 = Z18 from rfl, val_zero]; rfl, fun j _ => by
      by_cases h : j < 18
      · exact (by decide : ∀ n, n < 18 → Z18.getD n 0 = 0) j h
      · have : Z18[j]? = none := by simp [Z18]; omega
        simp [subL, List.getD, this]⟩
  | n + 1, h => by
    obtain ⟨ih, iz⟩ := subL_val hA hB n (by omega)
    have hd := (subL_dig hA hB n).1.1
    have z := iz n (Nat.le_refl _)
    refine ⟨?_, fun j hj => by rw [subL]; dsimp only; rw [getD_set_ne _ (by omega)]; exact iz j (by omega)⟩
    rw [subL, val_set _ _ (by omega) _ (by omega), z]
    dsimp only
    rw [show val A (n + 1) = val A n + A.getD n 0 * 65536 ^ n from rfl, show val B (n + 1) = val B n + B.getD n 0 * 65536 ^ n from rfl, Int.pow_succ]
    generalize A.getD n 0 = a at *
    generalize B.getD n 0 = b at *
    generalize (subL A B n).2 = c at *
    generalize val (subL A B n).1 18 = v at *
    generalize (65536 : Int) ^ n = P at *
    generalize val A n = x at *
    generalize val B n = y at *
    by_cases s : a - b - c < 0
    · rw [if_pos s, if_pos s]
      grind
    · rw [if_neg s, if_neg s]
      grind
theorem add_sum {A B : List Int} (hA : Dig A) (hB : Dig B) (h : val A 18 + val B 18 < 65536 ^ 18) : val (addL A B 18).1 18 = val A 18 + val B 18 := by
  have e := (addL_val hA hB 18 (Nat.le_refl _)).1
  obtain ⟨d, c0, c1⟩ := addL_dig hA hB 18
  have v0 := (val_range d.2 18).1
  by_cases z : (addL A B 18).2 = 0
  · rw [z, Int.zero_mul, Int.add_zero] at e
    exact e
  · have o : (addL A B 18).2 = 1 := by omega
    rw [o, Int.one_mul] at e
    omega
theorem sub_diff {A B : List Int} (hA : Dig A) (hB : Dig B) (h : val B 18 ≤ val A 18) : val (subL A B 18).1 18 = val A 18 - val B 18 := by
  have e := (subL_val hA hB 18 (Nat.le_refl _)).1
  obtain ⟨d, c0, c1⟩ := subL_dig hA hB 18
  have v0 := (val_range d.2 18).2
  by_cases z : (subL A B 18).2 = 0
  · rw [z, Int.zero_mul, Int.sub_zero] at e
    exact e
  · have o : (subL A B 18).2 = 1 := by omega
    rw [o, Int.one_mul] at e
    omega
end Go.Proofs.NumMath

namespace Go.Proofs.Ytmkdnoikbefimaa.G
open Go.RowKit Go.Proofs.NumMath Go.Proofs.YtmkdnoikbefimaaW.PrintWords Go.Proofs.YtmkdnoikbefimaaW.PrintLast Go.Proofs.YtmkdnoikbefimaaW.PrintMore
set_option linter.unusedVariables false
set_option linter.unusedSimpArgs false

theorem add_facts {x y c : Int} (p : 0 ≤ x ∧ x ≤ 65535) (q : 0 ≤ y ∧ y ≤ 65535) (h : 0 ≤ c ∧ c ≤ 1) :
    wrap64 (x + y) = x + y ∧ wrap64 (x + y + c) = x + y + c ∧ Int.tmod (x + y + c) 65536 = (x + y + c) % 65536 ∧ Int.tdiv (x + y + c) 65536 = (x + y + c) / 65536 ∧
      wrap64 ((x + y + c) % 65536) = (x + y + c) % 65536 ∧ wrap64 ((x + y + c) / 65536) = (x + y + c) / 65536 := by
  refine ⟨by unfold wrap64; omega, by unfold wrap64; omega, Int.tmod_eq_emod_of_nonneg (by omega), Int.tdiv_eq_ediv_of_nonneg (by omega), by unfold wrap64; omega, by unfold wrap64; omega⟩
set_option maxHeartbeats 1000000 in
set_option maxRecDepth 100000 in
theorem plus_same.calls (a : Bool) (A B : List Int) (hA : Dig A) (hB : Dig B) (w : World) :
    Calls Try.prog 27 #[.agg (numA a A), .agg (numA a B)] w fun e w' => e = .returned (.agg (numA (a && !((addL A B 18).1 == Z18)) (addL A B 18).1)) ∧ Below w.heap.size w w' := by
 have hu44 := Try.underlying44
 have hu46 := Try.underlying46
 have HB := Aside0.mk (Below.refl w.heap.size w)
 go_enter Try.func27, Try.ntmps27
 cases a
 · skip
   go_wp2_with (first
    | ((with_reducible refine gate_dst (N := 2) rfl ?_); refine box_event ?hg (N := 2) ?hd (cs := numA false A) (t := 46) ?hr ?_; (case hd => rfl); (case hg => rfl); (case hr => first | (go_simp; done) | (go_simp; rfl)); intro g2 hg w3 hbox hb; have BK2 := Aside0.mk (hbox); have GE2 := Aside0.mk (bG hg (HB.out)); replace HB := Aside0.mk (below_step (HB.out) hb); clear hb hbox hg)
    | ((with_reducible refine gate_dst (N := 3) rfl ?_); refine box_event ?hg (N := 3) ?hd (cs := numA false B) (t := 46) ?hr ?_; (case hd => rfl); (case hg => rfl); (case hr => first | (go_simp; done) | (go_simp; rfl)); intro g3 hg w4 hbox hb; have BK3 := Aside0.mk (hbox); have GE3 := Aside0.mk (bG hg (HB.out)); have N23 := cN hg BK2; have N32 := cM hg BK2; replace HB := Aside0.mk (below_step (HB.out) hb); replace BK2 := cB hb BK2; clear hb hbox hg)
    | ((with_reducible refine gate_dst (N := 4) rfl ?_); refine box_event ?hg (N := 4) ?hd (cs := numA false Z18) (t := 46) ?hr ?_; (case hd => rfl); (case hg => rfl); (case hr => first | (go_simp; done) | (go_simp; rfl)); intro g4 hg w6 hbox hb; have BK4 := Aside0.mk (hbox); have GE4 := Aside0.mk (bG hg (HB.out)); have N24 := cN hg BK2; have N34 := cN hg BK3; have N42 := cM hg BK2; have N43 := cM hg BK3; replace HB := Aside0.mk (below_step (HB.out) hb); replace BK2 := cB hb BK2; replace BK3 := cB hb BK3; clear hb hbox hg)
    | ((with_reducible refine gate_dst (N := 5) rfl ?_); refine box_event ?hg (N := 5) ?hd (cs := numA false Z18) (t := 46) ?hr ?_; (case hd => rfl); (case hg => rfl); (case hr => first | (go_simp; done) | (go_simp; rfl)); intro g5 hg w8 hbox hb; have BK5 := Aside0.mk (hbox); have GE5 := Aside0.mk (bG hg (HB.out)); have N25 := cN hg BK2; have N35 := cN hg BK3; have N45 := cN hg BK4; replace HB := Aside0.mk (below_step (HB.out) hb); replace BK2 := cB hb BK2; replace BK3 := cB hb BK3; replace BK4 := cB hb BK4; clear hb hbox hg)
    | ((with_reducible refine gate_store2 (t := 46) (x := .tmp 5) (y := .tmp 12) rfl ?_); refine ev_row rfl 46 (.tmp 5) (.tmp 12) rfl rfl g5 (numA false Z18) ?hx ?hy 46 (numA false Z18) BK5.out (num_info rfl) rfl (numA_one _ _) HB.out GE5.out ?_; (case hx => first | (go_simp; done) | rfl); (case hy => first | (go_simp; done) | rfl | (go_simp; rfl)); intro w5 hbox hb hk; replace BK5 := Aside0.mk hbox; replace HB := Aside0.mk hb; replace BK2 := Aside0.mk ((hk _ N25.out).trans BK2.out); replace BK3 := Aside0.mk ((hk _ N35.out).trans BK3.out); replace BK4 := Aside0.mk ((hk _ N45.out).trans BK4.out); clear hbox hb hk; have c2 := (blk_cell BK2.out 0).trans (numA_get0 false A); have c3 := (blk_cell BK3.out 0).trans (numA_get0 false B)))
   go_loopg [6, 7, 8] 18 (fun kq v6 v7 v8 w' => ∃ (i : Nat), v7 = .int .i64 i ∧ v6 = .int .i64 (addL A B i).2 ∧ Aside0 (i + kq = 18) ∧ Aside0 (w'.heap[g5]? = some (.cells (numA false (addL A B i).1) 46 (0, 0))) ∧ Aside0 (w'.heap[g2]? = some (.cells (numA false A) 46 (0, 0))) ∧ Aside0 (w'.heap[g3]? = some (.cells (numA false B) 46 (0, 0))) ∧ Aside0 (w'.heap[g4]? = some (.cells (numA false Z18) 46 (0, 0))) ∧ Aside0 (Below w.heap.size w w'))
   case atStart => exact ⟨0, rfl, rfl, ⟨rfl⟩, BK5, BK2, BK3, BK4, HB⟩
   case round =>
    clear BK2 BK3 BK4 BK5 HB c2 c3
    obtain ⟨i, rfl, rfl, HI, CK5, CK2, CK3, CK4, HC⟩ := hrel
    have hi := HI.out
    cases gk with
    | zero =>
     have ei : i = 18 := by omega
     subst ei
     have hO := (addL_dig hA hB 18).1
     obtain ⟨O, EO⟩ : ∃ O, Aside0 ((addL A B 18).1 = O) := ⟨_, ⟨rfl⟩⟩
     rw [EO.out] at hO CK5
     have hl : O.length = 18 := hO.1
     have d1 : decide (((18 : Nat) : Int) < 18) = false := rfl
     have ca := (blk_cell CK2.out 0).trans (numA_get0 false A)
     clear hO hA hB
     have c5 := (blk_cell CK5.out 0).trans (numA_get0 false O)
     have f5 := blk_frozen CK5.out 0
     go_wp2_with (first
      | ((with_reducible refine gate_dst (N := 49) rfl ?_); refine wpList_load_row rfl 46 (.tmp 5) rfl g5 ?hx 46 (numA (false) O) (0, 0) _ (blk_put CK5.out 0 _ (numA_neg false (false) O)) hu46 rfl (num_info hl) ?_; (case hx => first | (go_simp; done) | rfl))
      | ((with_reducible refine gate_store2 (t := 46) (x := .tmp 4) (y := .tmp 49) rfl ?_); refine ev_row rfl 46 (.tmp 4) (.tmp 49) rfl rfl g4 (numA (false) O) ?hx ?hy 46 (numA false Z18) (blk_far CK4.out (by exact N45.out) _) (num_info hl) ((numA_size rfl).trans (numA_size hl).symm) (numA_one _ _) (below_set HC.out GE5.out) GE4.out ?_; (case hx => first | (go_simp; done) | rfl); (case hy => first | (go_simp; done) | rfl); intro w7 hbox hb hk; replace CK4 := Aside0.mk hbox; replace HC := Aside0.mk hb; clear hbox hb hk))
     (try simp only [Exit.inBlock, Exit.then])
     refine bodyPost_ret (results_cell_row rfl _ _ g4 46 (numA (false) O) (0, 0) _ rfl CK4.out Try.underlying46 rfl (by exact num_info hl)) rfl ?_
     refine ⟨?_, HC.out⟩
     first | (rw [EO.out]; done) | (simp only [EO.out]; rfl)
    | succ gj =>
     have d1 : decide ((i : Int) < 18) = true := decide_eq_true (by omega)
     have i0 : (0 : Int) ≤ i := by omega
     have i1 : (i : Int) < 18 := by omega
     have mer : i + 1 + gj = 18 := by omega
     obtain ⟨hO, hc0, hc1⟩ := addL_dig hA hB i
     have AE := Aside0.mk (show addL A B (i + 1) = ((addL A B i).1.set i ((A.getD i 0 + B.getD i 0 + (addL A B i).2) % 65536), (A.getD i 0 + B.getD i 0 + (addL A B i).2) / 65536) from rfl)
     have co := (blk_cell CK5.out (1 + i)).trans (numA_get (b := false) (by rw [hO.1]; omega))
     have fo := blk_frozen CK5.out (1 + i)
     have ca := (blk_cell CK2.out (1 + i)).trans (numA_get (b := false) (by rw [hA.1]; omega : i < A.length))
     have cb := (blk_cell CK3.out (1 + i)).trans (numA_get (b := false) (by rw [hB.1]; omega : i < B.length))
     have p := hA.2 i
     have q := hB.2 i
     obtain ⟨c, EC⟩ : ∃ c, (addL A B i).2 = c := ⟨_, rfl⟩
     rw [EC] at hc0 hc1 AE ⊢
     clear EC
     generalize A.getD i 0 = x at ca p AE
     generalize B.getD i 0 = y at cb q AE
     obtain ⟨O, EO⟩ : ∃ O, (addL A B i).1 = O := ⟨_, rfl⟩
     rw [EO] at co CK5 AE hO
     clear EO hO hA hB
     obtain ⟨e1, e2, e3, e4, e5, e6⟩ := add_facts p q ⟨hc0, hc1⟩
     clear p q hc0 hc1
     go_wp2
     go_quiet (fail)
     go_wp2
     go_roundg gj
     case measure => exact Nat.lt_succ_self _
     case rel =>
      refine ⟨i + 1, by simp, ?_, ⟨mer⟩, ⟨?_⟩, ⟨?_⟩, ⟨?_⟩, ⟨?_⟩, ⟨?_⟩⟩
      · exact congrArg (Value.int .i64) (e6.trans (congrArg Prod.snd AE.out).symm)
      · refine blk_put (w := wr.drewN nq) CK5.out (1 + i) _ ?_
        rw [AE.out]
        exact numA_set _ _ _ _
      · exact blk_far (w := wr.drewN nq) CK2.out (by exact N25.out) _
      · exact blk_far (w := wr.drewN nq) CK3.out (by exact N35.out) _
      · exact blk_far (w := wr.drewN nq) CK4.out (by exact N45.out) _
      · refine below_set ?_ GE5.out
        repeat (first | exact HC.out | apply pw_below_drewN | apply below_drew1)
 · skip
   go_wp2_with (first
    | ((with_reducible refine gate_dst (N := 2) rfl ?_); refine box_event ?hg (N := 2) ?hd (cs := numA true A) (t := 46) ?hr ?_; (case hd => rfl); (case hg => rfl); (case hr => first | (go_simp; done) | (go_simp; rfl)); intro g2 hg w3 hbox hb; have BK2 := Aside0.mk (hbox); have GE2 := Aside0.mk (bG hg (HB.out)); replace HB := Aside0.mk (below_step (HB.out) hb); clear hb hbox hg)
    | ((with_reducible refine gate_dst (N := 3) rfl ?_); refine box_event ?hg (N := 3) ?hd (cs := numA true B) (t := 46) ?hr ?_; (case hd => rfl); (case hg => rfl); (case hr => first | (go_simp; done) | (go_simp; rfl)); intro g3 hg w4 hbox hb; have BK3 := Aside0.mk (hbox); have GE3 := Aside0.mk (bG hg (HB.out)); have N23 := cN hg BK2; have N32 := cM hg BK2; replace HB := Aside0.mk (below_step (HB.out) hb); replace BK2 := cB hb BK2; clear hb hbox hg)
    | ((with_reducible refine gate_dst (N := 4) rfl ?_); refine box_event ?hg (N := 4) ?hd (cs := numA false Z18) (t := 46) ?hr ?_; (case hd => rfl); (case hg => rfl); (case hr => first | (go_simp; done) | (go_simp; rfl)); intro g4 hg w6 hbox hb; have BK4 := Aside0.mk (hbox); have GE4 := Aside0.mk (bG hg (HB.out)); have N24 := cN hg BK2; have N34 := cN hg BK3; have N42 := cM hg BK2; have N43 := cM hg BK3; replace HB := Aside0.mk (below_step (HB.out) hb); replace BK2 := cB hb BK2; replace BK3 := cB hb BK3; clear hb hbox hg)
    | ((with_reducible refine gate_dst (N := 5) rfl ?_); refine box_event ?hg (N := 5) ?hd (cs := numA false Z18) (t := 46) ?hr ?_; (case hd => rfl); (case hg => rfl); (case hr => first | (go_simp; done) | (go_simp; rfl)); intro g5 hg w8 hbox hb; have BK5 := Aside0.mk (hbox); have GE5 := Aside0.mk (bG hg (HB.out)); have N25 := cN hg BK2; have N35 := cN hg BK3; have N45 := cN hg BK4; replace HB := Aside0.mk (below_step (HB.out) hb); replace BK2 := cB hb BK2; replace BK3 := cB hb BK3; replace BK4 := cB hb BK4; clear hb hbox hg)
    | ((with_reducible refine gate_store2 (t := 46) (x := .tmp 5) (y := .tmp 12) rfl ?_); refine ev_row rfl 46 (.tmp 5) (.tmp 12) rfl rfl g5 (numA false Z18) ?hx ?hy 46 (numA false Z18) BK5.out (num_info rfl) rfl (numA_one _ _) HB.out GE5.out ?_; (case hx => first | (go_simp; done) | rfl); (case hy => first | (go_simp; done) | rfl | (go_simp; rfl)); intro w5 hbox hb hk; replace BK5 := Aside0.mk hbox; replace HB := Aside0.mk hb; replace BK2 := Aside0.mk ((hk _ N25.out).trans BK2.out); replace BK3 := Aside0.mk ((hk _ N35.out).trans BK3.out); replace BK4 := Aside0.mk ((hk _ N45.out).trans BK4.out); clear hbox hb hk; have c2 := (blk_cell BK2.out 0).trans (numA_get0 true A); have c3 := (blk_cell BK3.out 0).trans (numA_get0 true B)))
   go_loopg [6, 7, 8] 18 (fun kq v6 v7 v8 w' => ∃ (i : Nat), v7 = .int .i64 i ∧ v6 = .int .i64 (addL A B i).2 ∧ Aside0 (i + kq = 18) ∧ Aside0 (w'.heap[g5]? = some (.cells (numA false (addL A B i).1) 46 (0, 0))) ∧ Aside0 (w'.heap[g2]? = some (.cells (numA true A) 46 (0, 0))) ∧ Aside0 (w'.heap[g3]? = some (.cells (numA true B) 46 (0, 0))) ∧ Aside0 (w'.heap[g4]? = some (.cells (numA false Z18) 46 (0, 0))) ∧ Aside0 (Below w.heap.size w w'))
   case atStart => exact ⟨0, rfl, rfl, ⟨rfl⟩, BK5, BK2, BK3, BK4, HB⟩
   case round =>
    clear BK2 BK3 BK4 BK5 HB c2 c3
    obtain ⟨i, rfl, rfl, HI, CK5, CK2, CK3, CK4, HC⟩ := hrel
    have hi := HI.out
    cases gk with
    | zero =>
     have ei : i = 18 := by omega
     subst ei
     have hO := (addL_dig hA hB 18).1
     obtain ⟨O, EO⟩ : ∃ O, Aside0 ((addL A B 18).1 = O) := ⟨_, ⟨rfl⟩⟩
     rw [EO.out] at hO CK5
     have hl : O.length = 18 := hO.1
     have d1 : decide (((18 : Nat) : Int) < 18) = false := rfl
     have ca := (blk_cell CK2.out 0).trans (numA_get0 true A)
     clear hO hA hB
     have c5 := (blk_cell CK5.out 0).trans (numA_get0 false O)
     have f5 := blk_frozen CK5.out 0
     go_wp2_with (first
      | ((with_reducible refine gate_dst (N := 44) rfl ?_); refine ev_mid ?hw 44 (.tmp 43) rfl g5 1 ?hx _ (ar O) rfl _ (num_range CK5.out) hu44 rfl (ar_info hl) ?_; (case hx => first | (go_simp; done) | rfl); (case hw => first | rfl | (go_simp; done)))
      | (go_at_call 41; (with_reducible refine (zero.calls O hl _).mono ?_); rintro e w' ⟨rfl, hb⟩; replace CK5 := cB hb CK5; replace CK4 := cB hb CK4; replace HC := Aside0.mk (below_step (HC.out) hb); clear hb; have c5 := (blk_cell CK5.out 0).trans (numA_get0 false O); have f5 := blk_frozen CK5.out 0)
      | ((with_reducible refine gate_dst (N := 49) rfl ?_); refine wpList_load_row rfl 46 (.tmp 5) rfl g5 ?hx 46 (numA (!(O == Z18)) O) (0, 0) _ (blk_put CK5.out 0 _ (numA_neg false (!(O == Z18)) O)) hu46 rfl (num_info hl) ?_; (case hx => first | (go_simp; done) | rfl))
      | ((with_reducible refine gate_store2 (t := 46) (x := .tmp 4) (y := .tmp 49) rfl ?_); refine ev_row rfl 46 (.tmp 4) (.tmp 49) rfl rfl g4 (numA (!(O == Z18)) O) ?hx ?hy 46 (numA false Z18) (blk_far CK4.out (by exact N45.out) _) (num_info hl) ((numA_size rfl).trans (numA_size hl).symm) (numA_one _ _) (below_set HC.out GE5.out) GE4.out ?_; (case hx => first | (go_simp; done) | rfl); (case hy => first | (go_simp; done) | rfl); intro w7 hbox hb hk; replace CK4 := Aside0.mk hbox; replace HC := Aside0.mk hb; clear hbox hb hk))
     (try simp only [Exit.inBlock, Exit.then])
     refine bodyPost_ret (results_cell_row rfl _ _ g4 46 (numA (!(O == Z18)) O) (0, 0) _ rfl CK4.out Try.underlying46 rfl (by exact num_info hl)) rfl ?_
     refine ⟨?_, HC.out⟩
     first | (rw [EO.out]; done) | (simp only [EO.out]; rfl)
    | succ gj =>
     have d1 : decide ((i : Int) < 18) = true := decide_eq_true (by omega)
     have i0 : (0 : Int) ≤ i := by omega
     have i1 : (i : Int) < 18 := by omega
     have mer : i + 1 + gj = 18 := by omega
     obtain ⟨hO, hc0, hc1⟩ := addL_dig hA hB i
     have AE := Aside0.mk (show addL A B (i + 1) = ((addL A B i).1.set i ((A.getD i 0 + B.getD i 0 + (addL A B i).2) % 65536), (A.getD i 0 + B.getD i 0 + (addL A B i).2) / 65536) from rfl)
     have co := (blk_cell CK5.out (1 + i)).trans (numA_get (b := false) (by rw [hO.1]; omega))
     have fo := blk_frozen CK5.out (1 + i)
     have ca := (blk_cell CK2.out (1 + i)).trans (numA_get (b := true) (by rw [hA.1]; omega : i < A.length))
     have cb := (blk_cell CK3.out (1 + i)).trans (numA_get (b := true) (by rw [hB.1]; omega : i < B.length))
     have p := hA.2 i
     have q := hB.2 i
     obtain ⟨c, EC⟩ : ∃ c, (addL A B i).2 = c := ⟨_, rfl⟩
     rw [EC] at hc0 hc1 AE ⊢
     clear EC
     generalize A.getD i 0 = x at ca p AE
     generalize B.getD i 0 = y at cb q AE
     obtain ⟨O, EO⟩ : ∃ O, (addL A B i).1 = O := ⟨_, rfl⟩
     rw [EO] at co CK5 AE hO
     clear EO hO hA hB
     obtain ⟨e1, e2, e3, e4, e5, e6⟩ := add_facts p q ⟨hc0, hc1⟩
     clear p q hc0 hc1
     go_wp2
     go_quiet (fail)
     go_wp2
     go_roundg gj
     case measure => exact Nat.lt_succ_self _
     case rel =>
      refine ⟨i + 1, by simp, ?_, ⟨mer⟩, ⟨?_⟩, ⟨?_⟩, ⟨?_⟩, ⟨?_⟩, ⟨?_⟩⟩
      · exact congrArg (Value.int .i64) (e6.trans (congrArg Prod.snd AE.out).symm)
      · refine blk_put (w := wr.drewN nq) CK5.out (1 + i) _ ?_
        rw [AE.out]
        exact numA_set _ _ _ _
      · exact blk_far (w := wr.drewN nq) CK2.out (by exact N25.out) _
      · exact blk_far (w := wr.drewN nq) CK3.out (by exact N35.out) _
      · exact blk_far (w := wr.drewN nq) CK4.out (by exact N45.out) _
      · refine below_set ?_ GE5.out
        repeat (first | exact HC.out | apply pw_below_drewN | apply below_drew1)
set_option maxHeartbeats 2000000 in
set_option maxRecDepth 100000 in
theorem plus_diff.calls (a : Bool) (A B : List Int) (hA : Dig A) (hB : Dig B) (w : World) :
    Calls Try.prog 27 #[.agg (numA a A), .agg (numA (!a) B)] w fun e w' => e = .returned (.agg (if cmpD A B 18 < 0 then numA (!a && !((subL B A 18).1 == Z18)) (subL B A 18).1 else numA (a && !((subL A B 18).1 == Z18)) (subL A B 18).1)) ∧ Below w.heap.size w w' := by
 have hu44 := Try.underlying44
 have hu46 := Try.underlying46
 have hlA : A.length = 18 := hA.1
 have hlB : B.length = 18 := hB.1
 have HB := Aside0.mk (Below.refl w.heap.size w)
 have CD := fun w => cmpDigits.calls A B hlA hlB w
 by_cases hc : cmpD A B 18 < 0
 · simp only [if_pos hc]
   have HC : decide (cmpD A B 18 < 0) = true := decide_eq_true hc
   generalize cmpD A B 18 = c at CD HC
   clear hc
   go_enter Try.func27, Try.ntmps27
   cases a
   · skip
     go_wp2_with (first
      | ((with_reducible refine gate_dst (N := 2) rfl ?_); refine box_event ?hg (N := 2) ?hd (cs := numA false A) (t := 46) ?hr ?_; (case hd => rfl); (case hg => rfl); (case hr => first | (go_simp; done) | (go_simp; rfl)); intro g2 hg w3 hbox hb; have BK2 := Aside0.mk (hbox); have GE2 := Aside0.mk (bG hg (HB.out)); replace HB := Aside0.mk (below_step (HB.out) hb); clear hb hbox hg)
      | ((with_reducible refine gate_dst (N := 3) rfl ?_); refine box_event ?hg (N := 3) ?hd (cs := numA true B) (t := 46) ?hr ?_; (case hd => rfl); (case hg => rfl); (case hr => first | (go_simp; done) | (go_simp; rfl)); intro g3 hg w4 hbox hb; have BK3 := Aside0.mk (hbox); have GE3 := Aside0.mk (bG hg (HB.out)); have N23 := cN hg BK2; have N32 := cM hg BK2; replace HB := Aside0.mk (below_step (HB.out) hb); replace BK2 := cB hb BK2; clear hb hbox hg)
      | ((with_reducible refine gate_dst (N := 4) rfl ?_); refine box_event ?hg (N := 4) ?hd (cs := numA false Z18) (t := 46) ?hr ?_; (case hd => rfl); (case hg => rfl); (case hr => first | (go_simp; done) | (go_simp; rfl)); intro g4 hg w6 hbox hb; have BK4 := Aside0.mk (hbox); have GE4 := Aside0.mk (bG hg (HB.out)); have N24 := cN hg BK2; have N34 := cN hg BK3; have N42 := cM hg BK2; have N43 := cM hg BK3; replace HB := Aside0.mk (below_step (HB.out) hb); replace BK2 := cB hb BK2; replace BK3 := cB hb BK3; clear hb hbox hg)
      | ((with_reducible refine gate_dst (N := 5) rfl ?_); refine box_event ?hg (N := 5) ?hd (cs := numA false Z18) (t := 46) ?hr ?_; (case hd => rfl); (case hg => rfl); (case hr => first | (go_simp; done) | (go_simp; rfl)); intro g5 hg w8 hbox hb; have BK5 := Aside0.mk (hbox); have GE5 := Aside0.mk (bG hg (HB.out)); have N25 := cN hg BK2; have N35 := cN hg BK3; have N45 := cN hg BK4; replace HB := Aside0.mk (below_step (HB.out) hb); replace BK2 := cB hb BK2; replace BK3 := cB hb BK3; replace BK4 := cB hb BK4; clear hb hbox hg)
      | ((with_reducible refine gate_store2 (t := 46) (x := .tmp 5) (y := .tmp 12) rfl ?_); refine ev_row rfl 46 (.tmp 5) (.tmp 12) rfl rfl g5 (numA false Z18) ?hx ?hy 46 (numA false Z18) BK5.out (num_info rfl) rfl (numA_one _ _) HB.out GE5.out ?_; (case hx => first | (go_simp; done) | rfl); (case hy => first | (go_simp; done) | rfl | (go_simp; rfl)); intro w5 hbox hb hk; replace BK5 := Aside0.mk hbox; replace HB := Aside0.mk hb; replace BK2 := Aside0.mk ((hk _ N25.out).trans BK2.out); replace BK3 := Aside0.mk ((hk _ N35.out).trans BK3.out); replace BK4 := Aside0.mk ((hk _ N45.out).trans BK4.out); clear hbox hb hk; have c2 := (blk_cell BK2.out 0).trans (numA_get0 false A); have c3 := (blk_cell BK3.out 0).trans (numA_get0 true B))
      | ((with_reducible refine gate_dst (N := 51) rfl ?_); refine ev_mid ?hw 44 (.tmp 50) rfl g2 1 ?hx _ (ar A) rfl _ (num_range BK2.out) hu44 rfl (ar_info hlA) ?_; (case hx => first | (go_simp; done) | rfl); (case hw => first | rfl | (go_simp; done)))
      | ((with_reducible refine gate_dst (N := 53) rfl ?_); refine ev_mid ?hw 44 (.tmp 52) rfl g3 1 ?hx _ (ar B) rfl _ (num_range BK3.out) hu44 rfl (ar_info hlB) ?_; (case hx => first | (go_simp; done) | rfl); (case hw => first | rfl | (go_simp; done)))
      | (go_at_call 44; (with_reducible refine (CD _).mono ?_); rintro e w9 ⟨rfl, hb⟩; replace BK2 := cB hb BK2; replace BK3 := cB hb BK3; replace BK4 := cB hb BK4; replace BK5 := cB hb BK5; replace HB := Aside0.mk (below_step (HB.out) hb); clear hb)
      | ((with_reducible refine gate_dst (N := 56) rfl ?_); refine wpList_load_row rfl 46 (.tmp 3) rfl g3 ?hx 46 (numA true B) (0, 0) _ BK3.out hu46 rfl (num_info hlB) ?_; (case hx => first | (go_simp; done) | rfl))
      | ((with_reducible refine gate_dst (N := 57) rfl ?_); refine wpList_load_row rfl 46 (.tmp 2) rfl g2 ?hx 46 (numA false A) (0, 0) _ BK2.out hu46 rfl (num_info hlA) ?_; (case hx => first | (go_simp; done) | rfl))
      | ((with_reducible refine gate_store2 (t := 46) (x := .tmp 2) (y := .tmp 56) rfl ?_); refine ev_row rfl 46 (.tmp 2) (.tmp 56) rfl rfl g2 (numA true B) ?hx ?hy 46 (numA false A) BK2.out (num_info hlB) ((numA_size hlA).trans (numA_size hlB).symm) (numA_one _ _) HB.out GE2.out ?_; (case hx => first | (go_simp; done) | rfl); (case hy => first | (go_simp; done) | rfl); intro w10 hbox hb hk; replace BK2 := Aside0.mk hbox; replace HB := Aside0.mk hb; replace BK3 := Aside0.mk ((hk _ (N32.out)).trans BK3.out); replace BK4 := Aside0.mk ((hk _ (N42.out)).trans BK4.out); replace BK5 := Aside0.mk ((hk _ (fun h => N25.out h.symm)).trans BK5.out); clear hbox hb hk)
      | ((with_reducible refine gate_store2 (t := 46) (x := .tmp 3) (y := .tmp 57) rfl ?_); refine ev_row rfl 46 (.tmp 3) (.tmp 57) rfl rfl g3 (numA false A) ?hx ?hy 46 (numA true B) BK3.out (num_info hlA) ((numA_size hlB).trans (numA_size hlA).symm) (numA_one _ _) HB.out GE3.out ?_; (case hx => first | (go_simp; done) | rfl); (case hy => first | (go_simp; done) | rfl); intro w10 hbox hb hk; replace BK3 := Aside0.mk hbox; replace HB := Aside0.mk hb; replace BK2 := Aside0.mk ((hk _ (N23.out)).trans BK2.out); replace BK4 := Aside0.mk ((hk _ (N43.out)).trans BK4.out); replace BK5 := Aside0.mk ((hk _ (fun h => N35.out h.symm)).trans BK5.out); clear hbox hb hk))
     go_loopg [9, 10, 11] 18 (fun kq v9 v10 v11 w' => ∃ (i : Nat), v10 = .int .i64 i ∧ v9 = .int .i64 (subL B A i).2 ∧ Aside0 (i + kq = 18) ∧ Aside0 (w'.heap[g5]? = some (.cells (numA false (subL B A i).1) 46 (0, 0))) ∧ Aside0 (w'.heap[g2]? = some (.cells (numA true B) 46 (0, 0))) ∧ Aside0 (w'.heap[g3]? = some (.cells (numA false A) 46 (0, 0))) ∧ Aside0 (w'.heap[g4]? = some (.cells (numA false Z18) 46 (0, 0))) ∧ Aside0 (Below w.heap.size w w'))
     case atStart => exact ⟨0, rfl, rfl, ⟨rfl⟩, BK5, BK2, BK3, BK4, HB⟩
     case round =>
      clear BK2 BK3 BK4 BK5 HB c2 c3 CD HC
      obtain ⟨i, rfl, rfl, HI, CK5, CK2, CK3, CK4, HC⟩ := hrel
      have hi := HI.out
      cases gk with
      | zero =>
       have ei : i = 18 := by omega
       subst ei
       have hO := (subL_dig hB hA 18).1
       obtain ⟨O, EO⟩ : ∃ O, Aside0 ((subL B A 18).1 = O) := ⟨_, ⟨rfl⟩⟩
       rw [EO.out] at hO CK5
       have hl : O.length = 18 := hO.1
       have d1 : decide (((18 : Nat) : Int) < 18) = false := rfl
       have ca := (blk_cell CK2.out 0).trans (numA_get0 true B)
       clear hO hA hB
       have c5 := (blk_cell CK5.out 0).trans (numA_get0 false O)
       have f5 := blk_frozen CK5.out 0
       go_wp2_with (first
        | ((with_reducible refine gate_dst (N := 85) rfl ?_); refine ev_mid ?hw 44 (.tmp 84) rfl g5 1 ?hx _ (ar O) rfl _ (num_range CK5.out) hu44 rfl (ar_info hl) ?_; (case hx => first | (go_simp; done) | rfl); (case hw => first | rfl | (go_simp; done)))
        | (go_at_call 41; (with_reducible refine (zero.calls O hl _).mono ?_); rintro e w' ⟨rfl, hb⟩; replace CK5 := cB hb CK5; replace CK4 := cB hb CK4; replace HC := Aside0.mk (below_step (HC.out) hb); clear hb; have c5 := (blk_cell CK5.out 0).trans (numA_get0 false O); have f5 := blk_frozen CK5.out 0)
        | ((with_reducible refine gate_dst (N := 90) rfl ?_); refine wpList_load_row rfl 46 (.tmp 5) rfl g5 ?hx 46 (numA (!(O == Z18)) O) (0, 0) _ (blk_put CK5.out 0 _ (numA_neg false (!(O == Z18)) O)) hu46 rfl (num_info hl) ?_; (case hx => first | (go_simp; done) | rfl))
        | ((with_reducible refine gate_store2 (t := 46) (x := .tmp 4) (y := .tmp 90) rfl ?_); refine ev_row rfl 46 (.tmp 4) (.tmp 90) rfl rfl g4 (numA (!(O == Z18)) O) ?hx ?hy 46 (numA false Z18) (blk_far CK4.out (by exact N45.out) _) (num_info hl) ((numA_size rfl).trans (numA_size hl).symm) (numA_one _ _) (below_set HC.out GE5.out) GE4.out ?_; (case hx => first | (go_simp; done) | rfl); (case hy => first | (go_simp; done) | rfl); intro w7 hbox hb hk; replace CK4 := Aside0.mk hbox; replace HC := Aside0.mk hb; clear hbox hb hk))
       (try simp only [Exit.inBlock, Exit.then])
       refine bodyPost_ret (results_cell_row rfl _ _ g4 46 (numA (!(O == Z18)) O) (0, 0) _ rfl CK4.out Try.underlying46 rfl (by exact num_info hl)) rfl ?_
       refine ⟨?_, HC.out⟩
       first | (rw [EO.out]; done) | (simp only [EO.out]; rfl)
      | succ gj =>
       have d1 : decide ((i : Int) < 18) = true := decide_eq_true (by omega)
       have i0 : (0 : Int) ≤ i := by omega
       have i1 : (i : Int) < 18 := by omega
       have mer : i + 1 + gj = 18 := by omega
       obtain ⟨hO, hc0, hc1⟩ := subL_dig hB hA i
       have AE := Aside0.mk (show subL B A (i + 1) = ((subL B A i).1.set i (if B.getD i 0 - A.getD i 0 - (subL B A i).2 < 0 then B.getD i 0 - A.getD i 0 - (subL B A i).2 + 65536 else B.getD i 0 - A.getD i 0 - (subL B A i).2), if B.getD i 0 - A.getD i 0 - (subL B A i).2 < 0 then 1 else 0) from rfl)
       have co := (blk_cell CK5.out (1 + i)).trans (numA_get (b := false) (by rw [hO.1]; omega))
       have fo := blk_frozen CK5.out (1 + i)
       have ca := (blk_cell CK2.out (1 + i)).trans (numA_get (b := true) (by rw [hB.1]; omega : i < B.length))
       have cb := (blk_cell CK3.out (1 + i)).trans (numA_get (b := false) (by rw [hA.1]; omega : i < A.length))
       have p := hB.2 i
       have q := hA.2 i
       obtain ⟨c, EC⟩ : ∃ c, (subL B A i).2 = c := ⟨_, rfl⟩
       rw [EC] at hc0 hc1 AE ⊢
       clear EC
       generalize B.getD i 0 = x at ca p AE
       generalize A.getD i 0 = y at cb q AE
       obtain ⟨O, EO⟩ : ∃ O, (subL B A i).1 = O := ⟨_, rfl⟩
       rw [EO] at co CK5 AE hO
       clear EO hO hA hB
       have e1 : wrap64 (x - y) = x - y := by unfold wrap64; omega
       have e2 : wrap64 (x - y - c) = x - y - c := by unfold wrap64; omega
       by_cases s0 : x - y - c < 0
       · have e3 : wrap64 (x - y - c + 65536) = x - y - c + 65536 := by unfold wrap64; omega
         have d2 : decide (x - y - c < 0) = true := decide_eq_true s0
         have AE' := Aside0.mk (AE.out.trans (by rw [if_pos s0, if_pos s0]))
         clear p q hc0 hc1 AE
         go_wp2
         go_quiet (fail)
         go_wp2
         go_roundg gj
         case measure => exact Nat.lt_succ_self _
         case rel =>
          refine ⟨i + 1, by simp, ?_, ⟨mer⟩, ⟨?_⟩, ⟨?_⟩, ⟨?_⟩, ⟨?_⟩, ⟨?_⟩⟩
          · exact congrArg (Value.int .i64) (congrArg Prod.snd AE'.out).symm
          · refine blk_put (w := wr.drewN nq) CK5.out (1 + i) _ ?_
            rw [AE'.out]
            exact numA_set _ _ _ _
          · exact blk_far (w := wr.drewN nq) CK2.out (by exact N25.out) _
          · exact blk_far (w := wr.drewN nq) CK3.out (by exact N35.out) _
          · exact blk_far (w := wr.drewN nq) CK4.out (by exact N45.out) _
          · refine below_set ?_ GE5.out
            repeat (first | exact HC.out | apply pw_below_drewN | apply below_drew1)
       · have d2 : decide (x - y - c < 0) = false := decide_eq_false s0
         have AE' := Aside0.mk (AE.out.trans (by rw [if_neg s0, if_neg s0]))
         clear p q hc0 hc1 AE
         go_wp2
         go_quiet (fail)
         go_wp2
         go_roundg gj
         case measure => exact Nat.lt_succ_self _
         case rel =>
          refine ⟨i + 1, by simp, ?_, ⟨mer⟩, ⟨?_⟩, ⟨?_⟩, ⟨?_⟩, ⟨?_⟩, ⟨?_⟩⟩
          · exact congrArg (Value.int .i64) (congrArg Prod.snd AE'.out).symm
          · refine blk_put (w := wr.drewN nq) CK5.out (1 + i) _ ?_
            rw [AE'.out]
            exact numA_set _ _ _ _
          · exact blk_far (w := wr.drewN nq) CK2.out (by exact N25.out) _
          · exact blk_far (w := wr.drewN nq) CK3.out (by exact N35.out) _
          · exact blk_far (w := wr.drewN nq) CK4.out (by exact N45.out) _
          · refine below_set ?_ GE5.out
            repeat (first | exact HC.out | apply pw_below_drewN | apply below_drew1)
   · skip
     go_wp2_with (first
      | ((with_reducible refine gate_dst (N := 2) rfl ?_); refine box_event ?hg (N := 2) ?hd (cs := numA true A) (t := 46) ?hr ?_; (case hd => rfl); (case hg => rfl); (case hr => first | (go_simp; done) | (go_simp; rfl)); intro g2 hg w3 hbox hb; have BK2 := Aside0.mk (hbox); have GE2 := Aside0.mk (bG hg (HB.out)); replace HB := Aside0.mk (below_step (HB.out) hb); clear hb hbox hg)
      | ((with_reducible refine gate_dst (N := 3) rfl ?_); refine box_event ?hg (N := 3) ?hd (cs := numA false B) (t := 46) ?hr ?_; (case hd => rfl); (case hg => rfl); (case hr => first | (go_simp; done) | (go_simp; rfl)); intro g3 hg w4 hbox hb; have BK3 := Aside0.mk (hbox); have GE3 := Aside0.mk (bG hg (HB.out)); have N23 := cN hg BK2; have N32 := cM hg BK2; replace HB := Aside0.mk (below_step (HB.out) hb); replace BK2 := cB hb BK2; clear hb hbox hg)
      | ((with_reducible refine gate_dst (N := 4) rfl ?_); refine box_event ?hg (N := 4) ?hd (cs := numA false Z18) (t := 46) ?hr ?_; (case hd => rfl); (case hg => rfl); (case hr => first | (go_simp; done) | (go_simp; rfl)); intro g4 hg w6 hbox hb; have BK4 := Aside0.mk (hbox); have GE4 := Aside0.mk (bG hg (HB.out)); have N24 := cN hg BK2; have N34 := cN hg BK3; have N42 := cM hg BK2; have N43 := cM hg BK3; replace HB := Aside0.mk (below_step (HB.out) hb); replace BK2 := cB hb BK2; replace BK3 := cB hb BK3; clear hb hbox hg)
      | ((with_reducible refine gate_dst (N := 5) rfl ?_); refine box_event ?hg (N := 5) ?hd (cs := numA false Z18) (t := 46) ?hr ?_; (case hd => rfl); (case hg => rfl); (case hr => first | (go_simp; done) | (go_simp; rfl)); intro g5 hg w8 hbox hb; have BK5 := Aside0.mk (hbox); have GE5 := Aside0.mk (bG hg (HB.out)); have N25 := cN hg BK2; have N35 := cN hg BK3; have N45 := cN hg BK4; replace HB := Aside0.mk (below_step (HB.out) hb); replace BK2 := cB hb BK2; replace BK3 := cB hb BK3; replace BK4 := cB hb BK4; clear hb hbox hg)
      | ((with_reducible refine gate_store2 (t := 46) (x := .tmp 5) (y := .tmp 12) rfl ?_); refine ev_row rfl 46 (.tmp 5) (.tmp 12) rfl rfl g5 (numA false Z18) ?hx ?hy 46 (numA false Z18) BK5.out (num_info rfl) rfl (numA_one _ _) HB.out GE5.out ?_; (case hx => first | (go_simp; done) | rfl); (case hy => first | (go_simp; done) | rfl | (go_simp; rfl)); intro w5 hbox hb hk; replace BK5 := Aside0.mk hbox; replace HB := Aside0.mk hb; replace BK2 := Aside0.mk ((hk _ N25.out).trans BK2.out); replace BK3 := Aside0.mk ((hk _ N35.out).trans BK3.out); replace BK4 := Aside0.mk ((hk _ N45.out).trans BK4.out); clear hbox hb hk; have c2 := (blk_cell BK2.out 0).trans (numA_get0 true A); have c3 := (blk_cell BK3.out 0).trans (numA_get0 false B))
      | ((with_reducible refine gate_dst (N := 51) rfl ?_); refine ev_mid ?hw 44 (.tmp 50) rfl g2 1 ?hx _ (ar A) rfl _ (num_range BK2.out) hu44 rfl (ar_info hlA) ?_; (case hx => first | (go_simp; done) | rfl); (case hw => first | rfl | (go_simp; done)))
      | ((with_reducible refine gate_dst (N := 53) rfl ?_); refine ev_mid ?hw 44 (.tmp 52) rfl g3 1 ?hx _ (ar B) rfl _ (num_range BK3.out) hu44 rfl (ar_info hlB) ?_; (case hx => first | (go_simp; done) | rfl); (case hw => first | rfl | (go_simp; done)))
      | (go_at_call 44; (with_reducible refine (CD _).mono ?_); rintro e w9 ⟨rfl, hb⟩; replace BK2 := cB hb BK2; replace BK3 := cB hb BK3; replace BK4 := cB hb BK4; replace BK5 := cB hb BK5; replace HB := Aside0.mk (below_step (HB.out) hb); clear hb)
      | ((with_reducible refine gate_dst (N := 56) rfl ?_); refine wpList_load_row rfl 46 (.tmp 3) rfl g3 ?hx 46 (numA false B) (0, 0) _ BK3.out hu46 rfl (num_info hlB) ?_; (case hx => first | (go_simp; done) | rfl))
      | ((with_reducible refine gate_dst (N := 57) rfl ?_); refine wpList_load_row rfl 46 (.tmp 2) rfl g2 ?hx 46 (numA true A) (0, 0) _ BK2.out hu46 rfl (num_info hlA) ?_; (case hx => first | (go_simp; done) | rfl))
      | ((with_reducible refine gate_store2 (t := 46) (x := .tmp 2) (y := .tmp 56) rfl ?_); refine ev_row rfl 46 (.tmp 2) (.tmp 56) rfl rfl g2 (numA false B) ?hx ?hy 46 (numA true A) BK2.out (num_info hlB) ((numA_size hlA).trans (numA_size hlB).symm) (numA_one _ _) HB.out GE2.out ?_; (case hx => first | (go_simp; done) | rfl); (case hy => first | (go_simp; done) | rfl); intro w10 hbox hb hk; replace BK2 := Aside0.mk hbox; replace HB := Aside0.mk hb; replace BK3 := Aside0.mk ((hk _ (N32.out)).trans BK3.out); replace BK4 := Aside0.mk ((hk _ (N42.out)).trans BK4.out); replace BK5 := Aside0.mk ((hk _ (fun h => N25.out h.symm)).trans BK5.out); clear hbox hb hk)
      | ((with_reducible refine gate_store2 (t := 46) (x := .tmp 3) (y := .tmp 57) rfl ?_); refine ev_row rfl 46 (.tmp 3) (.tmp 57) rfl rfl g3 (numA true A) ?hx ?hy 46 (numA false B) BK3.out (num_info hlA) ((numA_size hlB).trans (numA_size hlA).symm) (numA_one _ _) HB.out GE3.out ?_; (case hx => first | (go_simp; done) | rfl); (case hy => first | (go_simp; done) | rfl); intro w10 hbox hb hk; replace BK3 := Aside0.mk hbox; replace HB := Aside0.mk hb; replace BK2 := Aside0.mk ((hk _ (N23.out)).trans BK2.out); replace BK4 := Aside0.mk ((hk _ (N43.out)).trans BK4.out); replace BK5 := Aside0.mk ((hk _ (fun h => N35.out h.symm)).trans BK5.out); clear hbox hb hk))
     go_loopg [9, 10, 11] 18 (fun kq v9 v10 v11 w' => ∃ (i : Nat), v10 = .int .i64 i ∧ v9 = .int .i64 (subL B A i).2 ∧ Aside0 (i + kq = 18) ∧ Aside0 (w'.heap[g5]? = some (.cells (numA false (subL B A i).1) 46 (0, 0))) ∧ Aside0 (w'.heap[g2]? = some (.cells (numA false B) 46 (0, 0))) ∧ Aside0 (w'.heap[g3]? = some (.cells (numA true A) 46 (0, 0))) ∧ Aside0 (w'.heap[g4]? = some (.cells (numA false Z18) 46 (0, 0))) ∧ Aside0 (Below w.heap.size w w'))
     case atStart => exact ⟨0, rfl, rfl, ⟨rfl⟩, BK5, BK2, BK3, BK4, HB⟩
     case round =>
      clear BK2 BK3 BK4 BK5 HB c2 c3 CD HC
      obtain ⟨i, rfl, rfl, HI, CK5, CK2, CK3, CK4, HC⟩ := hrel
      have hi := HI.out
      cases gk with
      | zero =>
       have ei : i = 18 := by omega
       subst ei
       have hO := (subL_dig hB hA 18).1
       obtain ⟨O, EO⟩ : ∃ O, Aside0 ((subL B A 18).1 = O) := ⟨_, ⟨rfl⟩⟩
       rw [EO.out] at hO CK5
       have hl : O.length = 18 := hO.1
       have d1 : decide (((18 : Nat) : Int) < 18) = false := rfl
       have ca := (blk_cell CK2.out 0).trans (numA_get0 false B)
       clear hO hA hB
       have c5 := (blk_cell CK5.out 0).trans (numA_get0 false O)
       have f5 := blk_frozen CK5.out 0
       go_wp2_with (first
        | ((with_reducible refine gate_dst (N := 90) rfl ?_); refine wpList_load_row rfl 46 (.tmp 5) rfl g5 ?hx 46 (numA (false) O) (0, 0) _ (blk_put CK5.out 0 _ (numA_neg false (false) O)) hu46 rfl (num_info hl) ?_; (case hx => first | (go_simp; done) | rfl))
        | ((with_reducible refine gate_store2 (t := 46) (x := .tmp 4) (y := .tmp 90) rfl ?_); refine ev_row rfl 46 (.tmp 4) (.tmp 90) rfl rfl g4 (numA (false) O) ?hx ?hy 46 (numA false Z18) (blk_far CK4.out (by exact N45.out) _) (num_info hl) ((numA_size rfl).trans (numA_size hl).symm) (numA_one _ _) (below_set HC.out GE5.out) GE4.out ?_; (case hx => first | (go_simp; done) | rfl); (case hy => first | (go_simp; done) | rfl); intro w7 hbox hb hk; replace CK4 := Aside0.mk hbox; replace HC := Aside0.mk hb; clear hbox hb hk))
       (try simp only [Exit.inBlock, Exit.then])
       refine bodyPost_ret (results_cell_row rfl _ _ g4 46 (numA (false) O) (0, 0) _ rfl CK4.out Try.underlying46 rfl (by exact num_info hl)) rfl ?_
       refine ⟨?_, HC.out⟩
       first | (rw [EO.out]; done) | (simp only [EO.out]; rfl)
      | succ gj =>
       have d1 : decide ((i : Int) < 18) = true := decide_eq_true (by omega)
       have i0 : (0 : Int) ≤ i := by omega
       have i1 : (i : Int) < 18 := by omega
       have mer : i + 1 + gj = 18 := by omega
       obtain ⟨hO, hc0, hc1⟩ := subL_dig hB hA i
       have AE := Aside0.mk (show subL B A (i + 1) = ((subL B A i).1.set i (if B.getD i 0 - A.getD i 0 - (subL B A i).2 < 0 then B.getD i 0 - A.getD i 0 - (subL B A i).2 + 65536 else B.getD i 0 - A.getD i 0 - (subL B A i).2), if B.getD i 0 - A.getD i 0 - (subL B A i).2 < 0 then 1 else 0) from rfl)
       have co := (blk_cell CK5.out (1 + i)).trans (numA_get (b := false) (by rw [hO.1]; omega))
       have fo := blk_frozen CK5.out (1 + i)
       have ca := (blk_cell CK2.out (1 + i)).trans (numA_get (b := false) (by rw [hB.1]; omega : i < B.length))
       have cb := (blk_cell CK3.out (1 + i)).trans (numA_get (b := true) (by rw [hA.1]; omega : i < A.length))
       have p := hB.2 i
       have q := hA.2 i
       obtain ⟨c, EC⟩ : ∃ c, (subL B A i).2 = c := ⟨_, rfl⟩
       rw [EC] at hc0 hc1 AE ⊢
       clear EC
       generalize B.getD i 0 = x at ca p AE
       generalize A.getD i 0 = y at cb q AE
       obtain ⟨O, EO⟩ : ∃ O, (subL B A i).1 = O := ⟨_, rfl⟩
       rw [EO] at co CK5 AE hO
       clear EO hO hA hB
       have e1 : wrap64 (x - y) = x - y := by unfold wrap64; omega
       have e2 : wrap64 (x - y - c) = x - y - c := by unfold wrap64; omega
       by_cases s0 : x - y - c < 0
       · have e3 : wrap64 (x - y - c + 65536) = x - y - c + 65536 := by unfold wrap64; omega
         have d2 : decide (x - y - c < 0) = true := decide_eq_true s0
         have AE' := Aside0.mk (AE.out.trans (by rw [if_pos s0, if_pos s0]))
         clear p q hc0 hc1 AE
         go_wp2
         go_quiet (fail)
         go_wp2
         go_roundg gj
         case measure => exact Nat.lt_succ_self _
         case rel =>
          refine ⟨i + 1, by simp, ?_, ⟨mer⟩, ⟨?_⟩, ⟨?_⟩, ⟨?_⟩, ⟨?_⟩, ⟨?_⟩⟩
          · exact congrArg (Value.int .i64) (congrArg Prod.snd AE'.out).symm
          · refine blk_put (w := wr.drewN nq) CK5.out (1 + i) _ ?_
            rw [AE'.out]
            exact numA_set _ _ _ _
          · exact blk_far (w := wr.drewN nq) CK2.out (by exact N25.out) _
          · exact blk_far (w := wr.drewN nq) CK3.out (by exact N35.out) _
          · exact blk_far (w := wr.drewN nq) CK4.out (by exact N45.out) _
          · refine below_set ?_ GE5.out
            repeat (first | exact HC.out | apply pw_below_drewN | apply below_drew1)
       · have d2 : decide (x - y - c < 0) = false := decide_eq_false s0
         have AE' := Aside0.mk (AE.out.trans (by rw [if_neg s0, if_neg s0]))
         clear p q hc0 hc1 AE
         go_wp2
         go_quiet (fail)
         go_wp2
         go_roundg gj
         case measure => exact Nat.lt_succ_self _
         case rel =>
          refine ⟨i + 1, by simp, ?_, ⟨mer⟩, ⟨?_⟩, ⟨?_⟩, ⟨?_⟩, ⟨?_⟩, ⟨?_⟩⟩
          · exact congrArg (Value.int .i64) (congrArg Prod.snd AE'.out).symm
          · refine blk_put (w := wr.drewN nq) CK5.out (1 + i) _ ?_
            rw [AE'.out]
            exact numA_set _ _ _ _
          · exact blk_far (w := wr.drewN nq) CK2.out (by exact N25.out) _
          · exact blk_far (w := wr.drewN nq) CK3.out (by exact N35.out) _
          · exact blk_far (w := wr.drewN nq) CK4.out (by exact N45.out) _
          · refine below_set ?_ GE5.out
            repeat (first | exact HC.out | apply pw_below_drewN | apply below_drew1)
 · simp only [if_neg hc]
   have HC : decide (cmpD A B 18 < 0) = false := decide_eq_false hc
   generalize cmpD A B 18 = c at CD HC
   clear hc
   go_enter Try.func27, Try.ntmps27
   cases a
   · skip
     go_wp2_with (first
      | ((with_reducible refine gate_dst (N := 2) rfl ?_); refine box_event ?hg (N := 2) ?hd (cs := numA false A) (t := 46) ?hr ?_; (case hd => rfl); (case hg => rfl); (case hr => first | (go_simp; done) | (go_simp; rfl)); intro g2 hg w3 hbox hb; have BK2 := Aside0.mk (hbox); have GE2 := Aside0.mk (bG hg (HB.out)); replace HB := Aside0.mk (below_step (HB.out) hb); clear hb hbox hg)
      | ((with_reducible refine gate_dst (N := 3) rfl ?_); refine box_event ?hg (N := 3) ?hd (cs := numA true B) (t := 46) ?hr ?_; (case hd => rfl); (case hg => rfl); (case hr => first | (go_simp; done) | (go_simp; rfl)); intro g3 hg w4 hbox hb; have BK3 := Aside0.mk (hbox); have GE3 := Aside0.mk (bG hg (HB.out)); have N23 := cN hg BK2; have N32 := cM hg BK2; replace HB := Aside0.mk (below_step (HB.out) hb); replace BK2 := cB hb BK2; clear hb hbox hg)
      | ((with_reducible refine gate_dst (N := 4) rfl ?_); refine box_event ?hg (N := 4) ?hd (cs := numA false Z18) (t := 46) ?hr ?_; (case hd => rfl); (case hg => rfl); (case hr => first | (go_simp; done) | (go_simp; rfl)); intro g4 hg w6 hbox hb; have BK4 := Aside0.mk (hbox); have GE4 := Aside0.mk (bG hg (HB.out)); have N24 := cN hg BK2; have N34 := cN hg BK3; have N42 := cM hg BK2; have N43 := cM hg BK3; replace HB := Aside0.mk (below_step (HB.out) hb); replace BK2 := cB hb BK2; replace BK3 := cB hb BK3; clear hb hbox hg)
      | ((with_reducible refine gate_dst (N := 5) rfl ?_); refine box_event ?hg (N := 5) ?hd (cs := numA false Z18) (t := 46) ?hr ?_; (case hd => rfl); (case hg => rfl); (case hr => first | (go_simp; done) | (go_simp; rfl)); intro g5 hg w8 hbox hb; have BK5 := Aside0.mk (hbox); have GE5 := Aside0.mk (bG hg (HB.out)); have N25 := cN hg BK2; have N35 := cN hg BK3; have N45 := cN hg BK4; replace HB := Aside0.mk (below_step (HB.out) hb); replace BK2 := cB hb BK2; replace BK3 := cB hb BK3; replace BK4 := cB hb BK4; clear hb hbox hg)
      | ((with_reducible refine gate_store2 (t := 46) (x := .tmp 5) (y := .tmp 12) rfl ?_); refine ev_row rfl 46 (.tmp 5) (.tmp 12) rfl rfl g5 (numA false Z18) ?hx ?hy 46 (numA false Z18) BK5.out (num_info rfl) rfl (numA_one _ _) HB.out GE5.out ?_; (case hx => first | (go_simp; done) | rfl); (case hy => first | (go_simp; done) | rfl | (go_simp; rfl)); intro w5 hbox hb hk; replace BK5 := Aside0.mk hbox; replace HB := Aside0.mk hb; replace BK2 := Aside0.mk ((hk _ N25.out).trans BK2.out); replace BK3 := Aside0.mk ((hk _ N35.out).trans BK3.out); replace BK4 := Aside0.mk ((hk _ N45.out).trans BK4.out); clear hbox hb hk; have c2 := (blk_cell BK2.out 0).trans (numA_get0 false A); have c3 := (blk_cell BK3.out 0).trans (numA_get0 true B))
      | ((with_reducible refine gate_dst (N := 51) rfl ?_); refine ev_mid ?hw 44 (.tmp 50) rfl g2 1 ?hx _ (ar A) rfl _ (num_range BK2.out) hu44 rfl (ar_info hlA) ?_; (case hx => first | (go_simp; done) | rfl); (case hw => first | rfl | (go_simp; done)))
      | ((with_reducible refine gate_dst (N := 53) rfl ?_); refine ev_mid ?hw 44 (.tmp 52) rfl g3 1 ?hx _ (ar B) rfl _ (num_range BK3.out) hu44 rfl (ar_info hlB) ?_; (case hx => first | (go_simp; done) | rfl); (case hw => first | rfl | (go_simp; done)))
      | (go_at_call 44; (with_reducible refine (CD _).mono ?_); rintro e w9 ⟨rfl, hb⟩; replace BK2 := cB hb BK2; replace BK3 := cB hb BK3; replace BK4 := cB hb BK4; replace BK5 := cB hb BK5; replace HB := Aside0.mk (below_step (HB.out) hb); clear hb))
     go_loopg [9, 10, 11] 18 (fun kq v9 v10 v11 w' => ∃ (i : Nat), v10 = .int .i64 i ∧ v9 = .int .i64 (subL A B i).2 ∧ Aside0 (i + kq = 18) ∧ Aside0 (w'.heap[g5]? = some (.cells (numA false (subL A B i).1) 46 (0, 0))) ∧ Aside0 (w'.heap[g2]? = some (.cells (numA false A) 46 (0, 0))) ∧ Aside0 (w'.heap[g3]? = some (.cells (numA true B) 46 (0, 0))) ∧ Aside0 (w'.heap[g4]? = some (.cells (numA false Z18) 46 (0, 0))) ∧ Aside0 (Below w.heap.size w w'))
     case atStart => exact ⟨0, rfl, rfl, ⟨rfl⟩, BK5, BK2, BK3, BK4, HB⟩
     case round =>
      clear BK2 BK3 BK4 BK5 HB c2 c3 CD HC
      obtain ⟨i, rfl, rfl, HI, CK5, CK2, CK3, CK4, HC⟩ := hrel
      have hi := HI.out
      cases gk with
      | zero =>
       have ei : i = 18 := by omega
       subst ei
       have hO := (subL_dig hA hB 18).1
       obtain ⟨O, EO⟩ : ∃ O, Aside0 ((subL A B 18).1 = O) := ⟨_, ⟨rfl⟩⟩
       rw [EO.out] at hO CK5
       have hl : O.length = 18 := hO.1
       have d1 : decide (((18 : Nat) : Int) < 18) = false := rfl
       have ca := (blk_cell CK2.out 0).trans (numA_get0 false A)
       clear hO hA hB
       have c5 := (blk_cell CK5.out 0).trans (numA_get0 false O)
       have f5 := blk_frozen CK5.out 0
       go_wp2_with (first
        | ((with_reducible refine gate_dst (N := 90) rfl ?_); refine wpList_load_row rfl 46 (.tmp 5) rfl g5 ?hx 46 (numA (false) O) (0, 0) _ (blk_put CK5.out 0 _ (numA_neg false (false) O)) hu46 rfl (num_info hl) ?_; (case hx => first | (go_simp; done) | rfl))
        | ((with_reducible refine gate_store2 (t := 46) (x := .tmp 4) (y := .tmp 90) rfl ?_); refine ev_row rfl 46 (.tmp 4) (.tmp 90) rfl rfl g4 (numA (false) O) ?hx ?hy 46 (numA false Z18) (blk_far CK4.out (by exact N45.out) _) (num_info hl) ((numA_size rfl).trans (numA_size hl).symm) (numA_one _ _) (below_set HC.out GE5.out) GE4.out ?_; (case hx => first | (go_simp; done) | rfl); (case hy => first | (go_simp; done) | rfl); intro w7 hbox hb hk; replace CK4 := Aside0.mk hbox; replace HC := Aside0.mk hb; clear hbox hb hk))
       (try simp only [Exit.inBlock, Exit.then])
       refine bodyPost_ret (results_cell_row rfl _ _ g4 46 (numA (false) O) (0, 0) _ rfl CK4.out Try.underlying46 rfl (by exact num_info hl)) rfl ?_
       refine ⟨?_, HC.out⟩
       first | (rw [EO.out]; done) | (simp only [EO.out]; rfl)
      | succ gj =>
       have d1 : decide ((i : Int) < 18) = true := decide_eq_true (by omega)
       have i0 : (0 : Int) ≤ i := by omega
       have i1 : (i : Int) < 18 := by omega
       have mer : i + 1 + gj = 18 := by omega
       obtain ⟨hO, hc0, hc1⟩ := subL_dig hA hB i
       have AE := Aside0.mk (show subL A B (i + 1) = ((subL A B i).1.set i (if A.getD i 0 - B.getD i 0 - (subL A B i).2 < 0 then A.getD i 0 - B.getD i 0 - (subL A B i).2 + 65536 else A.getD i 0 - B.getD i 0 - (subL A B i).2), if A.getD i 0 - B.getD i 0 - (subL A B i).2 < 0 then 1 else 0) from rfl)
       have co := (blk_cell CK5.out (1 + i)).trans (numA_get (b := false) (by rw [hO.1]; omega))
       have fo := blk_frozen CK5.out (1 + i)
       have ca := (blk_cell CK2.out (1 + i)).trans (numA_get (b := false) (by rw [hA.1]; omega : i < A.length))
       have cb := (blk_cell CK3.out (1 + i)).trans (numA_get (b := true) (by rw [hB.1]; omega : i < B.length))
       have p := hA.2 i
       have q := hB.2 i
       obtain ⟨c, EC⟩ : ∃ c, (subL A B i).2 = c := ⟨_, rfl⟩
       rw [EC] at hc0 hc1 AE ⊢
       clear EC
       generalize A.getD i 0 = x at ca p AE
       generalize B.getD i 0 = y at cb q AE
       obtain ⟨O, EO⟩ : ∃ O, (subL A B i).1 = O := ⟨_, rfl⟩
       rw [EO] at co CK5 AE hO
       clear EO hO hA hB
       have e1 : wrap64 (x - y) = x - y := by unfold wrap64; omega
       have e2 : wrap64 (x - y - c) = x - y - c := by unfold wrap64; omega
       by_cases s0 : x - y - c < 0
       · have e3 : wrap64 (x - y - c + 65536) = x - y - c + 65536 := by unfold wrap64; omega
         have d2 : decide (x - y - c < 0) = true := decide_eq_true s0
         have AE' := Aside0.mk (AE.out.trans (by rw [if_pos s0, if_pos s0]))
         clear p q hc0 hc1 AE
         go_wp2
         go_quiet (fail)
         go_wp2
         go_roundg gj
         case measure => exact Nat.lt_succ_self _
         case rel =>
          refine ⟨i + 1, by simp, ?_, ⟨mer⟩, ⟨?_⟩, ⟨?_⟩, ⟨?_⟩, ⟨?_⟩, ⟨?_⟩⟩
          · exact congrArg (Value.int .i64) (congrArg Prod.snd AE'.out).symm
          · refine blk_put (w := wr.drewN nq) CK5.out (1 + i) _ ?_
            rw [AE'.out]
            exact numA_set _ _ _ _
          · exact blk_far (w := wr.drewN nq) CK2.out (by exact N25.out) _
          · exact blk_far (w := wr.drewN nq) CK3.out (by exact N35.out) _
          · exact blk_far (w := wr.drewN nq) CK4.out (by exact N45.out) _
          · refine below_set ?_ GE5.out
            repeat (first | exact HC.out | apply pw_below_drewN | apply below_drew1)
       · have d2 : decide (x - y - c < 0) = false := decide_eq_false s0
         have AE' := Aside0.mk (AE.out.trans (by rw [if_neg s0, if_neg s0]))
         clear p q hc0 hc1 AE
         go_wp2
         go_quiet (fail)
         go_wp2
         go_roundg gj
         case measure => exact Nat.lt_succ_self _
         case rel =>
          refine ⟨i + 1, by simp, ?_, ⟨mer⟩, ⟨?_⟩, ⟨?_⟩, ⟨?_⟩, ⟨?_⟩, ⟨?_⟩⟩
          · exact congrArg (Value.int .i64) (congrArg Prod.snd AE'.out).symm
          · refine blk_put (w := wr.drewN nq) CK5.out (1 + i) _ ?_
            rw [AE'.out]
            exact numA_set _ _ _ _
          · exact blk_far (w := wr.drewN nq) CK2.out (by exact N25.out) _
          · exact blk_far (w := wr.drewN nq) CK3.out (by exact N35.out) _
          · exact blk_far (w := wr.drewN nq) CK4.out (by exact N45.out) _
          · refine below_set ?_ GE5.out
            repeat (first | exact HC.out | apply pw_below_drewN | apply below_drew1)
   · skip
     go_wp2_with (first
      | ((with_reducible refine gate_dst (N := 2) rfl ?_); refine box_event ?hg (N := 2) ?hd (cs := numA true A) (t := 46) ?hr ?_; (case hd => rfl); (case hg => rfl); (case hr => first | (go_simp; done) | (go_simp; rfl)); intro g2 hg w3 hbox hb; have BK2 := Aside0.mk (hbox); have GE2 := Aside0.mk (bG hg (HB.out)); replace HB := Aside0.mk (below_step (HB.out) hb); clear hb hbox hg)
      | ((with_reducible refine gate_dst (N := 3) rfl ?_); refine box_event ?hg (N := 3) ?hd (cs := numA false B) (t := 46) ?hr ?_; (case hd => rfl); (case hg => rfl); (case hr => first | (go_simp; done) | (go_simp; rfl)); intro g3 hg w4 hbox hb; have BK3 := Aside0.mk (hbox); have GE3 := Aside0.mk (bG hg (HB.out)); have N23 := cN hg BK2; have N32 := cM hg BK2; replace HB := Aside0.mk (below_step (HB.out) hb); replace BK2 := cB hb BK2; clear hb hbox hg)
      | ((with_reducible refine gate_dst (N := 4) rfl ?_); refine box_event ?hg (N := 4) ?hd (cs := numA false Z18) (t := 46) ?hr ?_; (case hd => rfl); (case hg => rfl); (case hr => first | (go_simp; done) | (go_simp; rfl)); intro g4 hg w6 hbox hb; have BK4 := Aside0.mk (hbox); have GE4 := Aside0.mk (bG hg (HB.out)); have N24 := cN hg BK2; have N34 := cN hg BK3; have N42 := cM hg BK2; have N43 := cM hg BK3; replace HB := Aside0.mk (below_step (HB.out) hb); replace BK2 := cB hb BK2; replace BK3 := cB hb BK3; clear hb hbox hg)
      | ((with_reducible refine gate_dst (N := 5) rfl ?_); refine box_event ?hg (N := 5) ?hd (cs := numA false Z18) (t := 46) ?hr ?_; (case hd => rfl); (case hg => rfl); (case hr => first | (go_simp; done) | (go_simp; rfl)); intro g5 hg w8 hbox hb; have BK5 := Aside0.mk (hbox); have GE5 := Aside0.mk (bG hg (HB.out)); have N25 := cN hg BK2; have N35 := cN hg BK3; have N45 := cN hg BK4; replace HB := Aside0.mk (below_step (HB.out) hb); replace BK2 := cB hb BK2; replace BK3 := cB hb BK3; replace BK4 := cB hb BK4; clear hb hbox hg)
      | ((with_reducible refine gate_store2 (t := 46) (x := .tmp 5) (y := .tmp 12) rfl ?_); refine ev_row rfl 46 (.tmp 5) (.tmp 12) rfl rfl g5 (numA false Z18) ?hx ?hy 46 (numA false Z18) BK5.out (num_info rfl) rfl (numA_one _ _) HB.out GE5.out ?_; (case hx => first | (go_simp; done) | rfl); (case hy => first | (go_simp; done) | rfl | (go_simp; rfl)); intro w5 hbox hb hk; replace BK5 := Aside0.mk hbox; replace HB := Aside0.mk hb; replace BK2 := Aside0.mk ((hk _ N25.out).trans BK2.out); replace BK3 := Aside0.mk ((hk _ N35.out).trans BK3.out); replace BK4 := Aside0.mk ((hk _ N45.out).trans BK4.out); clear hbox hb hk; have c2 := (blk_cell BK2.out 0).trans (numA_get0 true A); have c3 := (blk_cell BK3.out 0).trans (numA_get0 false B))
      | ((with_reducible refine gate_dst (N := 51) rfl ?_); refine ev_mid ?hw 44 (.tmp 50) rfl g2 1 ?hx _ (ar A) rfl _ (num_range BK2.out) hu44 rfl (ar_info hlA) ?_; (case hx => first | (go_simp; done) | rfl); (case hw => first | rfl | (go_simp; done)))
      | ((with_reducible refine gate_dst (N := 53) rfl ?_); refine ev_mid ?hw 44 (.tmp 52) rfl g3 1 ?hx _ (ar B) rfl _ (num_range BK3.out) hu44 rfl (ar_info hlB) ?_; (case hx => first | (go_simp; done) | rfl); (case hw => first | rfl | (go_simp; done)))
      | (go_at_call 44; (with_reducible refine (CD _).mono ?_); rintro e w9 ⟨rfl, hb⟩; replace BK2 := cB hb BK2; replace BK3 := cB hb BK3; replace BK4 := cB hb BK4; replace BK5 := cB hb BK5; replace HB := Aside0.mk (below_step (HB.out) hb); clear hb))
     go_loopg [9, 10, 11] 18 (fun kq v9 v10 v11 w' => ∃ (i : Nat), v10 = .int .i64 i ∧ v9 = .int .i64 (subL A B i).2 ∧ Aside0 (i + kq = 18) ∧ Aside0 (w'.heap[g5]? = some (.cells (numA false (subL A B i).1) 46 (0, 0))) ∧ Aside0 (w'.heap[g2]? = some (.cells (numA true A) 46 (0, 0))) ∧ Aside0 (w'.heap[g3]? = some (.cells (numA false B) 46 (0, 0))) ∧ Aside0 (w'.heap[g4]? = some (.cells (numA false Z18) 46 (0, 0))) ∧ Aside0 (Below w.heap.size w w'))
     case atStart => exact ⟨0, rfl, rfl, ⟨rfl⟩, BK5, BK2, BK3, BK4, HB⟩
     case round =>
      clear BK2 BK3 BK4 BK5 HB c2 c3 CD HC
      obtain ⟨i, rfl, rfl, HI, CK5, CK2, CK3, CK4, HC⟩ := hrel
      have hi := HI.out
      cases gk with
      | zero =>
       have ei : i = 18 := by omega
       subst ei
       have hO := (subL_dig hA hB 18).1
       obtain ⟨O, EO⟩ : ∃ O, Aside0 ((subL A B 18).1 = O) := ⟨_, ⟨rfl⟩⟩
       rw [EO.out] at hO CK5
       have hl : O.length = 18 := hO.1
       have d1 : decide (((18 : Nat) : Int) < 18) = false := rfl
       have ca := (blk_cell CK2.out 0).trans (numA_get0 true A)
       clear hO hA hB
       have c5 := (blk_cell CK5.out 0).trans (numA_get0 false O)
       have f5 := blk_frozen CK5.out 0
       go_wp2_with (first
        | ((with_reducible refine gate_dst (N := 85) rfl ?_); refine ev_mid ?hw 44 (.tmp 84) rfl g5 1 ?hx _ (ar O) rfl _ (num_range CK5.out) hu44 rfl (ar_info hl) ?_; (case hx => first | (go_simp; done) | rfl); (case hw => first | rfl | (go_simp; done)))
        | (go_at_call 41; (with_reducible refine (zero.calls O hl _).mono ?_); rintro e w' ⟨rfl, hb⟩; replace CK5 := cB hb CK5; replace CK4 := cB hb CK4; replace HC := Aside0.mk (below_step (HC.out) hb); clear hb; have c5 := (blk_cell CK5.out 0).trans (numA_get0 false O); have f5 := blk_frozen CK5.out 0)
        | ((with_reducible refine gate_dst (N := 90) rfl ?_); refine wpList_load_row rfl 46 (.tmp 5) rfl g5 ?hx 46 (numA (!(O == Z18)) O) (0, 0) _ (blk_put CK5.out 0 _ (numA_neg false (!(O == Z18)) O)) hu46 rfl (num_info hl) ?_; (case hx => first | (go_simp; done) | rfl))
        | ((with_reducible refine gate_store2 (t := 46) (x := .tmp 4) (y := .tmp 90) rfl ?_); refine ev_row rfl 46 (.tmp 4) (.tmp 90) rfl rfl g4 (numA (!(O == Z18)) O) ?hx ?hy 46 (numA false Z18) (blk_far CK4.out (by exact N45.out) _) (num_info hl) ((numA_size rfl).trans (numA_size hl).symm) (numA_one _ _) (below_set HC.out GE5.out) GE4.out ?_; (case hx => first | (go_simp; done) | rfl); (case hy => first | (go_simp; done) | rfl); intro w7 hbox hb hk; replace CK4 := Aside0.mk hbox; replace HC := Aside0.mk hb; clear hbox hb hk))
       (try simp only [Exit.inBlock, Exit.then])
       refine bodyPost_ret (results_cell_row rfl _ _ g4 46 (numA (!(O == Z18)) O) (0, 0) _ rfl CK4.out Try.underlying46 rfl (by exact num_info hl)) rfl ?_
       refine ⟨?_, HC.out⟩
       first | (rw [EO.out]; done) | (simp only [EO.out]; rfl)
      | succ gj =>
       have d1 : decide ((i : Int) < 18) = true := decide_eq_true (by omega)
       have i0 : (0 : Int) ≤ i := by omega
       have i1 : (i : Int) < 18 := by omega
       have mer : i + 1 + gj = 18 := by omega
       obtain ⟨hO, hc0, hc1⟩ := subL_dig hA hB i
       have AE := Aside0.mk (show subL A B (i + 1) = ((subL A B i).1.set i (if A.getD i 0 - B.getD i 0 - (subL A B i).2 < 0 then A.getD i 0 - B.getD i 0 - (subL A B i).2 + 65536 else A.getD i 0 - B.getD i 0 - (subL A B i).2), if A.getD i 0 - B.getD i 0 - (subL A B i).2 < 0 then 1 else 0) from rfl)
       have co := (blk_cell CK5.out (1 + i)).trans (numA_get (b := false) (by rw [hO.1]; omega))
       have fo := blk_frozen CK5.out (1 + i)
       have ca := (blk_cell CK2.out (1 + i)).trans (numA_get (b := true) (by rw [hA.1]; omega : i < A.length))
       have cb := (blk_cell CK3.out (1 + i)).trans (numA_get (b := false) (by rw [hB.1]; omega : i < B.length))
       have p := hA.2 i
       have q := hB.2 i
       obtain ⟨c, EC⟩ : ∃ c, (subL A B i).2 = c := ⟨_, rfl⟩
       rw [EC] at hc0 hc1 AE ⊢
       clear EC
       generalize A.getD i 0 = x at ca p AE
       generalize B.getD i 0 = y at cb q AE
       obtain ⟨O, EO⟩ : ∃ O, (subL A B i).1 = O := ⟨_, rfl⟩
       rw [EO] at co CK5 AE hO
       clear EO hO hA hB
       have e1 : wrap64 (x - y) = x - y := by unfold wrap64; omega
       have e2 : wrap64 (x - y - c) = x - y - c := by unfold wrap64; omega
       by_cases s0 : x - y - c < 0
       · have e3 : wrap64 (x - y - c + 65536) = x - y - c + 65536 := by unfold wrap64; omega
         have d2 : decide (x - y - c < 0) = true := decide_eq_true s0
         have AE' := Aside0.mk (AE.out.trans (by rw [if_pos s0, if_pos s0]))
         clear p q hc0 hc1 AE
         go_wp2
         go_quiet (fail)
         go_wp2
         go_roundg gj
         case measure => exact Nat.lt_succ_self _
         case rel =>
          refine ⟨i + 1, by simp, ?_, ⟨mer⟩, ⟨?_⟩, ⟨?_⟩, ⟨?_⟩, ⟨?_⟩, ⟨?_⟩⟩
          · exact congrArg (Value.int .i64) (congrArg Prod.snd AE'.out).symm
          · refine blk_put (w := wr.drewN nq) CK5.out (1 + i) _ ?_
            rw [AE'.out]
            exact numA_set _ _ _ _
          · exact blk_far (w := wr.drewN nq) CK2.out (by exact N25.out) _
          · exact blk_far (w := wr.drewN nq) CK3.out (by exact N35.out) _
          · exact blk_far (w := wr.drewN nq) CK4.out (by exact N45.out) _
          · refine below_set ?_ GE5.out
            repeat (first | exact HC.out | apply pw_below_drewN | apply below_drew1)
       · have d2 : decide (x - y - c < 0) = false := decide_eq_false s0
         have AE' := Aside0.mk (AE.out.trans (by rw [if_neg s0, if_neg s0]))
         clear p q hc0 hc1 AE
         go_wp2
         go_quiet (fail)
         go_wp2
         go_roundg gj
         case measure => exact Nat.lt_succ_self _
         case rel =>
          refine ⟨i + 1, by simp, ?_, ⟨mer⟩, ⟨?_⟩, ⟨?_⟩, ⟨?_⟩, ⟨?_⟩, ⟨?_⟩⟩
          · exact congrArg (Value.int .i64) (congrArg Prod.snd AE'.out).symm
          · refine blk_put (w := wr.drewN nq) CK5.out (1 + i) _ ?_
            rw [AE'.out]
            exact numA_set _ _ _ _
          · exact blk_far (w := wr.drewN nq) CK2.out (by exact N25.out) _
          · exact blk_far (w := wr.drewN nq) CK3.out (by exact N35.out) _
          · exact blk_far (w := wr.drewN nq) CK4.out (by exact N45.out) _
          · refine below_set ?_ GE5.out
            repeat (first | exact HC.out | apply pw_below_drewN | apply below_drew1)
end Go.Proofs.Ytmkdnoikbefimaa.G

namespace Go.Proofs.Ytmkdnoikbefimaa.G
open Go.RowKit Go.Proofs.NumMath Go.Proofs.YtmkdnoikbefimaaW.PrintWords Go.Proofs.YtmkdnoikbefimaaW.PrintLast Go.Proofs.YtmkdnoikbefimaaW.PrintMore
set_option linter.unusedVariables false
set_option linter.unusedSimpArgs false
def absI (v : Int) : Int := if v < 0 then -v else v
/-- A row of digits and a sign stand for a number. -/
structure NumV (s : Bool) (D : List Int) (v : Int) : Prop where
  dig : Dig D
  sign : s = decide (v < 0)
  val : val D 18 = absI v
theorem NumV.len {s : Bool} {D : List Int} {v : Int} (h : NumV s D v) : D.length = 18 := h.dig.1
theorem mag_val {a0 a1 : Int} (h0 : -9223372036854775808 ≤ a0 ∧ a0 ≤ 9223372036854775807) (h1 : 0 ≤ a1 ∧ a1 < 18446744073709551616) :
    (magW a0 a1).2 + 18446744073709551616 * (magW a0 a1).1 = absI (a0 * 18446744073709551616 + a1) ∧ (0 ≤ (magW a0 a1).2 ∧ (magW a0 a1).2 < 18446744073709551616) ∧ (0 ≤ (magW a0 a1).1 ∧ (magW a0 a1).1 < 18446744073709551616) := by
  unfold magW absI
  by_cases n : a0 < 0
  · rw [if_pos n, if_pos (show a0 * 18446744073709551616 + a1 < 0 by omega)]
    by_cases z : a1 = 0
    · rw [if_pos z]
      dsimp only
      omega
    · rw [if_neg z]
      dsimp only
      omega
  · rw [if_neg n, if_neg (show ¬ a0 * 18446744073709551616 + a1 < 0 by omega)]
    dsimp only
    omega
theorem fromV (a0 a1 : Int) (h0 : -9223372036854775808 ≤ a0 ∧ a0 ≤ 9223372036854775807) (h1 : 0 ≤ a1 ∧ a1 < 18446744073709551616) :
    ∃ s D, NumV s D (a0 * 18446744073709551616 + a1) ∧ ∀ w, Calls Try.prog 28 #[.agg #[.int .i64 a0, .int .u64 a1]] w fun e w' => e = .returned (.agg (numA s D)) ∧ Below w.heap.size w w' := by
  obtain ⟨m, l, u⟩ := mag_val h0 h1
  refine ⟨_, _, ⟨frL_dig _ _ 4, ?_, ?_⟩, fun w => from.calls a0 a1 h0 h1 w⟩
  · rw [decide_eq_decide]
    omega
  · rw [from_val _ _ l u]
    exact m
theorem fromIntV (n : Int) (h : -9223372036854775808 ≤ n ∧ n ≤ 9223372036854775807) :
    ∃ s D, NumV s D n ∧ ∀ w, Calls Try.prog 26 #[.int .i64 n] w fun e w' => e = .returned (.agg (numA s D)) ∧ Below w.heap.size w w' := by
  refine ⟨_, _, ⟨dfill_dig _ 4 (by decide), rfl, ?_⟩, fun w => fromInt.calls n h w⟩
  have := fromI_range h
  rw [dfill_val18 _ this.1 (by omega)]
  rfl
theorem cmpV {s t : Bool} {A B : List Int} {x y : Int} (hA : NumV s A x) (hB : NumV t B y) (w : World) :
    Calls Try.prog 31 #[.agg (numA s A), .agg (numA t B)] w fun e w' => e = .returned (.int .i64 (sgn (x - y))) ∧ Below w.heap.size w w' := by
  have h := compare.calls s t A B hA.dig hB.dig w
  have e : cmpN s t (cmpD A B 18) = sgn (x - y) := by
    rw [cmpD_eq hA.dig hB.dig, hA.val, hB.val, hA.sign, hB.sign]
    unfold cmpN sgn absI
    by_cases a : x < 0 <;> by_cases b : y < 0 <;> simp only [a, b, decide_true, decide_false, if_true, if_false, Bool.false_eq_true, Bool.true_eq_false] <;> (repeat' split) <;> omega
  rw [e] at h
  exact h
theorem minusV {s : Bool} {D : List Int} {v : Int} (h : NumV s D v) :
    ∃ t, NumV t D (-v) ∧ ∀ w, Calls Try.prog 29 #[.agg (numA s D)] w fun e w' => e = .returned (.agg (numA t D)) ∧ Below w.heap.size w w' := by
  refine ⟨_, ⟨h.dig, ?_, ?_⟩, fun w => minus.calls s D h.len w⟩
  · rw [zero_iff h.dig, h.val, h.sign]
    unfold absI
    by_cases a : v < 0
    · rw [decide_eq_true a, decide_eq_false (show ¬ -v < 0 by omega)]
      rfl
    · rw [decide_eq_false a, if_neg a]
      by_cases b : v = 0
      · rw [decide_eq_true b, decide_eq_false (show ¬ -v < 0 by omega)]
        rfl
      · rw [decide_eq_false b, decide_eq_true (show -v < 0 by omega)]
        rfl
  · rw [h.val]
    unfold absI
    split <;> split <;> omega
theorem plusV {s t : Bool} {A B : List Int} {x y : Int} (hA : NumV s A x) (hB : NumV t B y) (bx : absI x ≤ 340282366920938463463374607431768211456) (bY : absI y ≤ 340282366920938463463374607431768211456) :
    ∃ u D, NumV u D (x + y) ∧ ∀ w, Calls Try.prog 27 #[.agg (numA s A), .agg (numA t B)] w fun e w' => e = .returned (.agg (numA u D)) ∧ Below w.heap.size w w' := by
  have va := hA.val
  have vb := hB.val
  by_cases e : s = t
  · subst e
    have hs := hA.sign
    have ht := hB.sign
    have big : val A 18 + val B 18 < 65536 ^ 18 := by
      rw [va, vb, show (65536 : Int) ^ 18 = 497323236409786642155382248146820840100456150797347717440463976893159497012533375533056 by decide]
      omega
    have sum := add_sum hA.dig hB.dig big
    refine ⟨_, _, ⟨(addL_dig hA.dig hB.dig 18).1, ?_, ?_⟩, fun w => plus_same.calls s A B hA.dig hB.dig w⟩
    · rw [zero_iff (addL_dig hA.dig hB.dig 18).1, sum, va, vb, hs]
      rw [hs, decide_eq_decide] at ht
      unfold absI
      by_cases a : x < 0
      · rw [decide_eq_true a, if_pos a, if_pos (ht.mp a), decide_eq_false (show ¬ -x + -y = 0 by have := ht.mp a; omega), decide_eq_true (show x + y < 0 by have := ht.mp a; omega)]
        rfl
      · have b : ¬ y < 0 := fun b => a (ht.mpr b)
        rw [decide_eq_false a, decide_eq_false (show ¬ x + y < 0 by omega)]
        rfl
    · rw [sum, va, vb]
      rw [hs, decide_eq_decide] at ht
      unfold absI
      by_cases a : x < 0
      · have := ht.mp a
        rw [if_pos a, if_pos this, if_pos (by omega)]
        omega
      · have b : ¬ y < 0 := fun b => a (ht.mpr b)
        rw [if_neg a, if_neg b, if_neg (by omega)]
  · have e' : t = !s := by cases s <;> cases t <;> simp_all
    subst e'
    have hs := hA.sign
    have ht := hB.sign
    have op : (x < 0 ∧ ¬ y < 0) ∨ (¬ x < 0 ∧ y < 0) := by
      by_cases a : x < 0
      · rw [decide_eq_true a] at hs
        rw [hs] at ht
        exact Or.inl ⟨a, by simpa using ht.symm⟩
      · rw [decide_eq_false a] at hs
        rw [hs] at ht
        exact Or.inr ⟨a, by simpa using ht.symm⟩
    have P := fun w => plus_diff.calls s A B hA.dig hB.dig w
    have c : (cmpD A B 18 < 0) ↔ val A 18 < val B 18 := by
      rw [cmpD_eq hA.dig hB.dig]
      unfold sgn
      split
      · omega
      · split <;> omega
    by_cases l : cmpD A B 18 < 0
    · have l' := c.mp l
      have d := sub_diff hB.dig hA.dig (by omega)
      refine ⟨_, _, ⟨(subL_dig hB.dig hA.dig 18).1, ?_, ?_⟩, fun w => by have := P w; rw [if_pos l] at this; exact this⟩
      · rw [zero_iff (subL_dig hB.dig hA.dig 18).1, d, decide_eq_false (show ¬ val B 18 - val A 18 = 0 by omega), Bool.not_false, Bool.and_true, hs]
        rw [va, vb] at l'
        unfold absI at l'
        rcases op with ⟨p, q⟩ | ⟨p, q⟩
        · rw [decide_eq_true p, decide_eq_false (by rw [if_pos p, if_neg q] at l'; omega)]
          rfl
        · rw [decide_eq_false p, decide_eq_true (by rw [if_neg p, if_pos q] at l'; omega)]
          rfl
      · rw [d, va, vb]
        rw [va, vb] at l'
        unfold absI at *
        rcases op with ⟨p, q⟩ | ⟨p, q⟩
        · rw [if_pos p, if_neg q] at l' ⊢
          rw [if_neg (by omega)]
          omega
        · rw [if_neg p, if_pos q] at l' ⊢
          rw [if_pos (by omega)]
          omega
    · have l' : ¬ val A 18 < val B 18 := fun h => l (c.mpr h)
      have d := sub_diff hA.dig hB.dig (by omega)
      refine ⟨_, _, ⟨(subL_dig hA.dig hB.dig 18).1, ?_, ?_⟩, fun w => by have := P w; rw [if_neg l] at this; exact this⟩
      · rw [zero_iff (subL_dig hA.dig hB.dig 18).1, d, va, vb, hs]
        rw [va, vb] at l'
        unfold absI at *
        rcases op with ⟨p, q⟩ | ⟨p, q⟩
        · rw [if_pos p, if_neg q] at l' ⊢
          rw [decide_eq_true p]
          by_cases z : -x - y = 0
          · rw [decide_eq_true z, decide_eq_false (show ¬ x + y < 0 by omega)]
            rfl
          · rw [decide_eq_false z, decide_eq_true (show x + y < 0 by omega)]
            rfl
        · rw [if_neg p, if_pos q] at l'
          rw [decide_eq_false p, decide_eq_false (show ¬ x + y < 0 by omega)]
          rfl
      · rw [d, va, vb]
        rw [va, vb] at l'
        unfold absI at *
        rcases op with ⟨p, q⟩ | ⟨p, q⟩
        · rw [if_pos p, if_neg q] at l' ⊢
          split <;> omega
        · rw [if_neg p, if_pos q] at l' ⊢
          rw [if_neg (by omega)]
          omega
def wideV (v : Int) : Int × Int × Bool := if -170141183460469231731687303715884105728 ≤ v ∧ v ≤ 170141183460469231731687303715884105727 then (v / 18446744073709551616, v % 18446744073709551616, true) else (0, 0, false)
theorem toW_num {O : List Int} {s : Int} (d : Dig O) (hv : val O 18 = absI s) :
    toW (decide (s < 0)) (cmpD O M7 18) (hh O 0 4) (hh O 4 4) = wideV s := by
  have lo := hh_range d 0 4
  have hi := hh_range d 4 4
  rw [show (65536 : Int) ^ 4 = 18446744073709551616 by decide] at lo hi
  have ce : cmpD O M7 18 = sgn (absI s - 170141183460469231731687303715884105728) := by rw [cmpD_eq d M7_dig, M7_val, hv]
  unfold wideV
  by_cases b : -170141183460469231731687303715884105728 ≤ s ∧ s ≤ 170141183460469231731687303715884105727
  · rw [if_pos b]
    have e := split128 d (by rw [hv]; unfold absI; split <;> omega)
    rw [hv] at e
    generalize cmpD O M7 18 = c at *
    generalize hh O 0 4 = x at *
    generalize hh O 4 4 = y at *
    unfold absI at e ce
    by_cases n : s < 0
    · rw [if_pos n] at e ce
      have c1 : c ≠ 1 := by rw [ce]; unfold sgn; split <;> (try split) <;> omega
      rw [decide_eq_true n]
      by_cases z : x = 0
      · rw [toW_neg0 x y c1 z]
        refine Prod.ext ?_ (Prod.ext ?_ rfl)
        · show wrap64 _ = _
          unfold wrap64
          omega
        · show 0 = s % 18446744073709551616
          omega
      · rw [toW_neg1 x y c1 z]
        refine Prod.ext ?_ (Prod.ext ?_ rfl)
        · show wrap64 _ = _
          unfold wrap64
          omega
        · show 18446744073709551616 - x = s % 18446744073709551616
          omega
    · rw [if_neg n] at e ce
      have c1 : c = -1 := by rw [ce]; unfold sgn; rw [if_pos (by omega)]
      rw [decide_eq_false n, toW_pos x y c1]
      refine Prod.ext ?_ (Prod.ext ?_ rfl)
      · show wrap64 _ = _
        unfold wrap64
        omega
      · show x = s % 18446744073709551616
        omega
  · rw [if_neg b]
    apply toW_bad
    rw [ce]
    unfold sgn absI
    by_cases n : s < 0
    · left
      rw [if_pos n, if_neg (by omega), if_pos (by omega)]
    · rw [if_neg n]
      by_cases z : s = 170141183460469231731687303715884105728
      · right
        rw [if_neg (by omega), if_neg (by omega)]
        exact ⟨rfl, decide_eq_false n⟩
      · left
        rw [if_neg (by omega), if_pos (by omega)]
theorem toV {s : Bool} {D : List Int} {v : Int} (h : NumV s D v) (w : World) :
    Calls Try.prog 25 #[.agg (numA s D)] w fun e w' => e = .returned (.tuple #[.agg #[.int .i64 (wideV v).1, .int .u64 (wideV v).2.1], .bool (wideV v).2.2]) ∧ Below w.heap.size w w' := by
  have c := to.calls s D h.dig w
  rw [h.sign, toW_num h.dig h.val, ← h.sign] at c
  exact c
end Go.Proofs.Ytmkdnoikbefimaa.G

namespace Go.Proofs.Ytmkdnoikbefimaa.G
open Go.RowKit Go.Proofs.NumMath Go.Proofs.YtmkdnoikbefimaaW.PrintWords Go.Proofs.YtmkdnoikbefimaaW.PrintLast Go.Proofs.YtmkdnoikbefimaaW.PrintMore
attribute [local go_sem] max2_int min2_int max_two min_two max_three min_three max_four min_four
set_option linter.unusedVariables false
set_option linter.unusedSimpArgs false
def relievoref01_Int.T2 : Bool × List (List Nat × List Nat) := (true, [([], []), ([], []), ([0, 1, 1], [0, 1]), ([2], [2]), ([3, 2], [3]), ([4], [4]), ([4, 4], [4]), ([5, 6, 6, 4], [4, 5, 6]), ([7, 4], [4, 7]), ([4, 8], [4, 8])])
def relievoref01_Int.B2 : List Nat := [0, 0, 3, 7, 15, 31, 31, 127, 255, 511]
theorem relievoref01_Int.tab2 : rtab .any (opsOf Try.f30 2) = relievoref01_Int.T2 := by kernel_rfl
theorem relievoref01_Int.bits2 : waitsOk relievoref01_Int.T2.2 relievoref01_Int.B2 = true := by kernel_rfl
set_option maxHeartbeats 2000000 in
set_option maxRecDepth 100000 in
theorem intR.calls (a0 a1 : Int) (h0 : -9223372036854775808 ≤ a0 ∧ a0 ≤ 9223372036854775807) (h1 : 0 ≤ a1 ∧ a1 < 18446744073709551616) (r1 : Int) (r2 : Bool)
    (hr : (r1, r2) = if -9223372036854775808 ≤ a0 * 18446744073709551616 + a1 ∧ a0 * 18446744073709551616 + a1 ≤ 9223372036854775807 then (a0 * 18446744073709551616 + a1, true) else (0, false)) (w : World) :
    Calls Try.prog 30 #[.agg #[.int .i64 a0, .int .u64 a1]] w fun e w' => e = .returned (.tuple #[.int .i64 r1, .bool r2]) ∧ Below w.heap.size w w' := by
 have hu44 := Try.underlying44
 have hu46 := Try.underlying46
 obtain ⟨s, D, nv, FR⟩ := fromV a0 a1 h0 h1
 obtain ⟨s1, D1, nv1, F1⟩ := fromIntV (-9223372036854775808) (by decide)
 obtain ⟨s2, D2, nv2, F2⟩ := fromIntV 9223372036854775807 (by decide)
 have hD := nv.len
 have C1 := fun w => cmpV nv nv1 w
 have C2 := fun w => cmpV nv nv2 w
 have HB := Aside0.mk (Below.refl w.heap.size w)
 by_cases a : a0 * 18446744073709551616 + a1 < -9223372036854775808
 · rw [if_neg (by omega)] at hr
   obtain ⟨rfl, rfl⟩ := Prod.mk.inj hr
   have e : sgn (a0 * 18446744073709551616 + a1 - -9223372036854775808) = -1 := by unfold sgn; rw [if_pos (by omega)]
   rw [e] at C1
   clear C2 F2 nv2 nv nv1 hr a h0 h1 e
   go_enter Try.func30, Try.ntmps30
   go_wp2_with (first
     | ((with_reducible refine gate_dst (N := 1) rfl ?_); refine box_event ?hg (N := 1) ?hd (cs := #[.int .i64 a0, .int .u64 a1]) (t := 30) ?hr ?_; (case hd => rfl); (case hg => rfl); (case hr => first | (go_simp; done) | (go_simp; rfl)); intro g1 hg w3 hbox hb; have BK1 := Aside0.mk (hbox); have GE1 := Aside0.mk (bG hg (HB.out)); replace HB := Aside0.mk (below_step (HB.out) hb); clear hb hbox hg; obtain ⟨k0, k1⟩ := cells2 BK1.out)
     | (go_at_call 28; (with_reducible refine (FR _).mono ?_); rintro e w5 ⟨rfl, hb⟩; replace BK1 := cB hb BK1; replace HB := Aside0.mk (below_step (HB.out) hb); clear hb)
     | ((with_reducible refine gate_dst (N := 4) rfl ?_); refine box_event ?hg (N := 4) ?hd (cs := numA false Z18) (t := 46) ?hr ?_; (case hd => rfl); (case hg => rfl); (case hr => first | (go_simp; done) | (go_simp; rfl)); intro g4 hg w6 hbox hb; have BK4 := Aside0.mk (hbox); have GE4 := Aside0.mk (bG hg (HB.out)); have N14 := cN hg BK1; have N41 := cM hg BK1; replace HB := Aside0.mk (below_step (HB.out) hb); replace BK1 := cB hb BK1; clear hb hbox hg)
     | ((with_reducible refine gate_store2 (t := 46) (x := .tmp 4) (y := .tmp 6) rfl ?_); refine ev_row rfl 46 (.tmp 4) (.tmp 6) rfl rfl g4 (numA s D) ?hx ?hy 46 (numA false Z18) BK4.out (num_info hD) ((numA_size rfl).trans (numA_size hD).symm) (numA_one _ _) HB.out GE4.out ?_; (case hx => first | (go_simp; done) | rfl); (case hy => first | (go_simp; done) | rfl | (go_simp; rfl)); intro w9 hbox hb hk; replace BK4 := Aside0.mk hbox; replace HB := Aside0.mk hb; replace BK1 := Aside0.mk ((hk _ N14.out).trans BK1.out); clear hbox hb hk))
   clear k0 k1
   replace BK1 := Aside0.mk (blk_drew BK1.out)
   replace BK4 := Aside0.mk (blk_drew BK4.out)
   replace HB := Aside0.mk (below_drew1 HB.out)
   refine start_ (n := 10) (S := fun w' => w'.heap[g4]? = some (.cells (numA s D) 46 (0, 0))) (ds := []) #[false, false, false, false, false, false, false, false, false, false] (by kernel_rfl) rfl rfl (BK4.out) (fun hHeld => ?_); refine with_tabW relievoref01_Int.tab2 relievoref01_Int.bits2 (fun HT_ HW_ => ?_)
   generalize w9.drew = w10 at BK1 BK4 HB hHeld ⊢
   refine take_ (i := 0) (N := some 7) (v := .agg (numA s D)) (a' := ?_) #[true, false, false, false, false, false, false, false, false, false] rfl rfl (take_ofW HT_.out HW_.out (by kernel_rfl)) (fun _ _ _ h => h) (Or.inl ⟨by rfl, fun w' s0 => exec_load rfl rfl s0 hu46 rfl (num_info hD)⟩) hHeld ?_ ?_
   rotate_left
   ·simp only [Act.put, List.setIfInBounds_toArray, List.set_cons_zero, List.set_cons_succ, i64_w, i32_w]
    rfl
   refine one_ (i := 1) (N := some 8) #[true, true, false, false, false, false, false, false, false, false] rfl rfl (one_of HT_.out (by kernel_rfl)) (by decide) (fun K hK => ?_)
   refine goes_ Try.func26 (by kernel_rfl) rfl #[.int .i64 (-9223372036854775808)] (by rfl) rfl rfl (by (try simp only [List.map_toArray, List.map_cons, List.map_nil]); first | done | rfl | (simp only [List.length_drop, List.length_take]; rfl)) ?_
   with_reducible refine (F1 _).mono ?_
   rintro e w10_1 ⟨rfl, hb⟩
   refine ⟨_, rfl, ?_⟩
   replace BK1 := cB hb BK1
   replace BK4 := cB hb BK4
   replace HB := Aside0.mk (below_step (HB.out) hb)
   clear hb
   refine hK.out _ _ (BK4.out) (fun hHeld => ?_)
   clear hK K
   refine norm_ (a' := ?_) ?_ ?_
   rotate_left
   ·show Act.put _ (some 8) _ = _
    simp only [Act.put, List.setIfInBounds_toArray, List.set_cons_zero, List.set_cons_succ, i64_w, i32_w]
    rfl
   refine one_ (i := 2) (N := some 9) #[true, true, true, false, false, false, false, false, false, false] rfl rfl (one_of HT_.out (by kernel_rfl)) (by decide) (fun K hK => ?_)
   refine goes_ Try.func31 (by kernel_rfl) rfl #[.agg (numA s D), .agg (numA s1 D1)] (by rfl) rfl rfl (by (try simp only [List.map_toArray, List.map_cons, List.map_nil]); first | done | rfl | (simp only [List.length_drop, List.length_take]; rfl)) ?_
   with_reducible refine (C1 _).mono ?_
   rintro e w10_2 ⟨rfl, hb⟩
   refine ⟨_, rfl, ?_⟩
   replace BK1 := cB hb BK1
   replace BK4 := cB hb BK4
   replace HB := Aside0.mk (below_step (HB.out) hb)
   clear hb
   refine hK.out _ _ (BK4.out) (fun hHeld => ?_)
   clear hK K
   refine norm_ (a' := ?_) ?_ ?_
   rotate_left
   ·show Act.put _ (some 9) _ = _
    simp only [Act.put, List.setIfInBounds_toArray, List.set_cons_zero, List.set_cons_succ, i64_w, i32_w]
    rfl
   refine pure_ (i := 3) (N := some 10) (v := ?_) (a' := ?_) #[true, true, true, true, false, false, false, false, false, false] rfl rfl (any_of HT_.out (by kernel_rfl)) (fun _ _ _ h => h) (Or.inl ⟨by rfl, ?_⟩) ?_ ?_
   rotate_left
   ·intro w'
    go_simp
    with_reducible rfl
   rotate_left
   ·simp only [Act.put, List.setIfInBounds_toArray, List.set_cons_zero, List.set_cons_succ, i64_w, i32_w]
    rfl
   refine pure_ (i := 4) (N := some 11) (v := ?_) (a' := ?_) #[true, true, true, true, true, false, false, false, false, false] rfl rfl (any_of HT_.out (by kernel_rfl)) (fun _ _ _ h => h) (Or.inl ⟨by rfl, ?_⟩) ?_ ?_
   rotate_left
   ·intro w'
    go_simp
    with_reducible rfl
   rotate_left
   ·simp only [Act.put, List.setIfInBounds_toArray, List.set_cons_zero, List.set_cons_succ, i64_w, i32_w]
    rfl
   refine pure_ (i := 5) (N := some 12) (v := undef) (a' := ?_) #[true, true, true, true, true, true, false, false, false, false] rfl rfl (any_of HT_.out (by kernel_rfl)) (fun _ _ _ h => h) (Or.inr ⟨by rfl, rfl⟩) ?_ ?_
   rotate_left
   ·simp only [Act.put, List.setIfInBounds_toArray, List.set_cons_zero, List.set_cons_succ, i64_w, i32_w]
    rfl
   refine pure_ (i := 6) (N := some 13) (v := undef) (a' := ?_) #[true, true, true, true, true, true, true, false, false, false] rfl rfl (any_of HT_.out (by kernel_rfl)) (fun _ _ _ h => h) (Or.inr ⟨by rfl, rfl⟩) ?_ ?_
   rotate_left
   ·simp only [Act.put, List.setIfInBounds_toArray, List.set_cons_zero, List.set_cons_succ, i64_w, i32_w]
    rfl
   refine pure_ (i := 7) (N := some 14) (v := undef) (a' := ?_) #[true, true, true, true, true, true, true, true, false, false] rfl rfl (any_of HT_.out (by kernel_rfl)) (fun _ _ _ h => h) (Or.inr ⟨by rfl, rfl⟩) ?_ ?_
   rotate_left
   ·simp only [Act.put, List.setIfInBounds_toArray, List.set_cons_zero, List.set_cons_succ, i64_w, i32_w]
    rfl
   refine pure_ (i := 8) (N := some 15) (v := undef) (a' := ?_) #[true, true, true, true, true, true, true, true, true, false] rfl rfl (any_of HT_.out (by kernel_rfl)) (fun _ _ _ h => h) (Or.inr ⟨by rfl, rfl⟩) ?_ ?_
   rotate_left
   ·simp only [Act.put, List.setIfInBounds_toArray, List.set_cons_zero, List.set_cons_succ, i64_w, i32_w]
    rfl
   refine pure_ (i := 9) (N := some 16) (v := ?_) (a' := ?_) #[true, true, true, true, true, true, true, true, true, true] rfl rfl (any_of HT_.out (by kernel_rfl)) (fun _ _ _ h => h) (Or.inl ⟨by rfl, ?_⟩) ?_ ?_
   rotate_left
   ·intro w'
    go_simp
    with_reducible rfl
   rotate_left
   ·simp only [Act.put, List.setIfInBounds_toArray, List.set_cons_zero, List.set_cons_succ, i64_w, i32_w]
    rfl
   refine done_ (done_of HT_.out (by kernel_rfl)) ?_
   clear HT_ HW_
   obtain ⟨k0, k1⟩ := cells2 BK1.out
   go_wp2
   go_ret2
   exact ⟨rfl, HB.out⟩
 obtain ⟨c, hc, c0⟩ : ∃ c, sgn (a0 * 18446744073709551616 + a1 - -9223372036854775808) = c ∧ ¬ c < 0 := ⟨_, rfl, by unfold sgn; split <;> (try split) <;> omega⟩
 rw [hc] at C1
 have d0 : decide (c < 0) = false := decide_eq_false c0
 by_cases b : a0 * 18446744073709551616 + a1 > 9223372036854775807
 · rw [if_neg (by omega)] at hr
   obtain ⟨rfl, rfl⟩ := Prod.mk.inj hr
   have e : sgn (a0 * 18446744073709551616 + a1 - 9223372036854775807) = 1 := by unfold sgn; rw [if_neg (by omega), if_pos (by omega)]
   rw [e] at C2
   clear nv2 nv nv1 hr a b h0 h1 e hc
   go_enter Try.func30, Try.ntmps30
   go_wp2_with (first
     | ((with_reducible refine gate_dst (N := 1) rfl ?_); refine box_event ?hg (N := 1) ?hd (cs := #[.int .i64 a0, .int .u64 a1]) (t := 30) ?hr ?_; (case hd => rfl); (case hg => rfl); (case hr => first | (go_simp; done) | (go_simp; rfl)); intro g1 hg w3 hbox hb; have BK1 := Aside0.mk (hbox); have GE1 := Aside0.mk (bG hg (HB.out)); replace HB := Aside0.mk (below_step (HB.out) hb); clear hb hbox hg; obtain ⟨k0, k1⟩ := cells2 BK1.out)
     | (go_at_call 28; (with_reducible refine (FR _).mono ?_); rintro e w5 ⟨rfl, hb⟩; replace BK1 := cB hb BK1; replace HB := Aside0.mk (below_step (HB.out) hb); clear hb)
     | ((with_reducible refine gate_dst (N := 4) rfl ?_); refine box_event ?hg (N := 4) ?hd (cs := numA false Z18) (t := 46) ?hr ?_; (case hd => rfl); (case hg => rfl); (case hr => first | (go_simp; done) | (go_simp; rfl)); intro g4 hg w6 hbox hb; have BK4 := Aside0.mk (hbox); have GE4 := Aside0.mk (bG hg (HB.out)); have N14 := cN hg BK1; have N41 := cM hg BK1; replace HB := Aside0.mk (below_step (HB.out) hb); replace BK1 := cB hb BK1; clear hb hbox hg)
     | ((with_reducible refine gate_store2 (t := 46) (x := .tmp 4) (y := .tmp 6) rfl ?_); refine ev_row rfl 46 (.tmp 4) (.tmp 6) rfl rfl g4 (numA s D) ?hx ?hy 46 (numA false Z18) BK4.out (num_info hD) ((numA_size rfl).trans (numA_size hD).symm) (numA_one _ _) HB.out GE4.out ?_; (case hx => first | (go_simp; done) | rfl); (case hy => first | (go_simp; done) | rfl | (go_simp; rfl)); intro w9 hbox hb hk; replace BK4 := Aside0.mk hbox; replace HB := Aside0.mk hb; replace BK1 := Aside0.mk ((hk _ N14.out).trans BK1.out); clear hbox hb hk))
   clear k0 k1
   replace BK1 := Aside0.mk (blk_drew BK1.out)
   replace BK4 := Aside0.mk (blk_drew BK4.out)
   replace HB := Aside0.mk (below_drew1 HB.out)
   refine start_ (n := 10) (S := fun w' => w'.heap[g4]? = some (.cells (numA s D) 46 (0, 0))) (ds := []) #[false, false, false, false, false, false, false, false, false, false] (by kernel_rfl) rfl rfl (BK4.out) (fun hHeld => ?_); refine with_tabW relievoref01_Int.tab2 relievoref01_Int.bits2 (fun HT_ HW_ => ?_)
   generalize w9.drew = w10 at BK1 BK4 HB hHeld ⊢
   refine take_ (i := 0) (N := some 7) (v := .agg (numA s D)) (a' := ?_) #[true, false, false, false, false, false, false, false, false, false] rfl rfl (take_ofW HT_.out HW_.out (by kernel_rfl)) (fun _ _ _ h => h) (Or.inl ⟨by rfl, fun w' s0 => exec_load rfl rfl s0 hu46 rfl (num_info hD)⟩) hHeld ?_ ?_
   rotate_left
   ·simp only [Act.put, List.setIfInBounds_toArray, List.set_cons_zero, List.set_cons_succ, i64_w, i32_w]
    rfl
   refine one_ (i := 1) (N := some 8) #[true, true, false, false, false, false, false, false, false, false] rfl rfl (one_of HT_.out (by kernel_rfl)) (by decide) (fun K hK => ?_)
   refine goes_ Try.func26 (by kernel_rfl) rfl #[.int .i64 (-9223372036854775808)] (by rfl) rfl rfl (by (try simp only [List.map_toArray, List.map_cons, List.map_nil]); first | done | rfl | (simp only [List.length_drop, List.length_take]; rfl)) ?_
   with_reducible refine (F1 _).mono ?_
   rintro e w10_1 ⟨rfl, hb⟩
   refine ⟨_, rfl, ?_⟩
   replace BK1 := cB hb BK1
   replace BK4 := cB hb BK4
   replace HB := Aside0.mk (below_step (HB.out) hb)
   clear hb
   refine hK.out _ _ (BK4.out) (fun hHeld => ?_)
   clear hK K
   refine norm_ (a' := ?_) ?_ ?_
   rotate_left
   ·show Act.put _ (some 8) _ = _
    simp only [Act.put, List.setIfInBounds_toArray, List.set_cons_zero, List.set_cons_succ, i64_w, i32_w]
    rfl
   refine one_ (i := 2) (N := some 9) #[true, true, true, false, false, false, false, false, false, false] rfl rfl (one_of HT_.out (by kernel_rfl)) (by decide) (fun K hK => ?_)
   refine goes_ Try.func31 (by kernel_rfl) rfl #[.agg (numA s D), .agg (numA s1 D1)] (by rfl) rfl rfl (by (try simp only [List.map_toArray, List.map_cons, List.map_nil]); first | done | rfl | (simp only [List.length_drop, List.length_take]; rfl)) ?_
   with_reducible refine (C1 _).mono ?_
   rintro e w10_2 ⟨rfl, hb⟩
   refine ⟨_, rfl, ?_⟩
   replace BK1 := cB hb BK1
   replace BK4 := cB hb BK4
   replace HB := Aside0.mk (below_step (HB.out) hb)
   clear hb
   refine hK.out _ _ (BK4.out) (fun hHeld => ?_)
   clear hK K
   refine norm_ (a' := ?_) ?_ ?_
   rotate_left
   ·show Act.put _ (some 9) _ = _
    simp only [Act.put, List.setIfInBounds_toArray, List.set_cons_zero, List.set_cons_succ, i64_w, i32_w]
    rfl
   refine pure_ (i := 3) (N := some 10) (v := ?_) (a' := ?_) #[true, true, true, true, false, false, false, false, false, false] rfl rfl (any_of HT_.out (by kernel_rfl)) (fun _ _ _ h => h) (Or.inl ⟨by rfl, ?_⟩) ?_ ?_
   rotate_left
   ·intro w'
    go_simp
    with_reducible rfl
   rotate_left
   ·simp only [Act.put, List.setIfInBounds_toArray, List.set_cons_zero, List.set_cons_succ, i64_w, i32_w]
    rfl
   refine pure_ (i := 4) (N := some 11) (v := ?_) (a' := ?_) #[true, true, true, true, true, false, false, false, false, false] rfl rfl (any_of HT_.out (by kernel_rfl)) (fun _ _ _ h => h) (Or.inl ⟨by rfl, ?_⟩) ?_ ?_
   rotate_left
   ·intro w'
    go_simp
    with_reducible rfl
   rotate_left
   ·simp only [Act.put, List.setIfInBounds_toArray, List.set_cons_zero, List.set_cons_succ, i64_w, i32_w]
    rfl
   refine take_ (i := 5) (N := some 12) (v := .agg (numA s D)) (a' := ?_) #[true, true, true, true, true, true, false, false, false, false] rfl rfl (take_ofW HT_.out HW_.out (by kernel_rfl)) (fun _ _ _ h => h) (Or.inl ⟨by rfl, fun w' s0 => exec_load rfl rfl s0 hu46 rfl (num_info hD)⟩) hHeld ?_ ?_
   rotate_left
   ·simp only [Act.put, List.setIfInBounds_toArray, List.set_cons_zero, List.set_cons_succ, i64_w, i32_w]
    rfl
   refine one_ (i := 6) (N := some 13) #[true, true, true, true, true, true, true, false, false, false] rfl rfl (one_of HT_.out (by kernel_rfl)) (by decide) (fun K hK => ?_)
   refine goes_ Try.func26 (by kernel_rfl) rfl #[.int .i64 9223372036854775807] (by rfl) rfl rfl (by (try simp only [List.map_toArray, List.map_cons, List.map_nil]); first | done | rfl | (simp only [List.length_drop, List.length_take]; rfl)) ?_
   with_reducible refine (F2 _).mono ?_
   rintro e w10_3 ⟨rfl, hb⟩
   refine ⟨_, rfl, ?_⟩
   replace BK1 := cB hb BK1
   replace BK4 := cB hb BK4
   replace HB := Aside0.mk (below_step (HB.out) hb)
   clear hb
   refine hK.out _ _ (BK4.out) (fun hHeld => ?_)
   clear hK K
   refine norm_ (a' := ?_) ?_ ?_
   rotate_left
   ·show Act.put _ (some 13) _ = _
    simp only [Act.put, List.setIfInBounds_toArray, List.set_cons_zero, List.set_cons_succ, i64_w, i32_w]
    rfl
   refine one_ (i := 7) (N := some 14) #[true, true, true, true, true, true, true, true, false, false] rfl rfl (one_of HT_.out (by kernel_rfl)) (by decide) (fun K hK => ?_)
   refine goes_ Try.func31 (by kernel_rfl) rfl #[.agg (numA s D), .agg (numA s2 D2)] (by rfl) rfl rfl (by (try simp only [List.map_toArray, List.map_cons, List.map_nil]); first | done | rfl | (simp only [List.length_drop, List.length_take]; rfl)) ?_
   with_reducible refine (C2 _).mono ?_
   rintro e w10_4 ⟨rfl, hb⟩
   refine ⟨_, rfl, ?_⟩
   replace BK1 := cB hb BK1
   replace BK4 := cB hb BK4
   replace HB := Aside0.mk (below_step (HB.out) hb)
   clear hb
   refine hK.out _ _ (BK4.out) (fun hHeld => ?_)
   clear hK K
   refine norm_ (a' := ?_) ?_ ?_
   rotate_left
   ·show Act.put _ (some 14) _ = _
    simp only [Act.put, List.setIfInBounds_toArray, List.set_cons_zero, List.set_cons_succ, i64_w, i32_w]
    rfl
   refine pure_ (i := 8) (N := some 15) (v := ?_) (a' := ?_) #[true, true, true, true, true, true, true, true, true, false] rfl rfl (any_of HT_.out (by kernel_rfl)) (fun _ _ _ h => h) (Or.inl ⟨by rfl, ?_⟩) ?_ ?_
   rotate_left
   ·intro w'
    go_simp
    with_reducible rfl
   rotate_left
   ·simp only [Act.put, List.setIfInBounds_toArray, List.set_cons_zero, List.set_cons_succ, i64_w, i32_w]
    rfl
   refine pure_ (i := 9) (N := some 16) (v := ?_) (a' := ?_) #[true, true, true, true, true, true, true, true, true, true] rfl rfl (any_of HT_.out (by kernel_rfl)) (fun _ _ _ h => h) (Or.inl ⟨by rfl, ?_⟩) ?_ ?_
   rotate_left
   ·intro w'
    go_simp
    with_reducible rfl
   rotate_left
   ·simp only [Act.put, List.setIfInBounds_toArray, List.set_cons_zero, List.set_cons_succ, i64_w, i32_w]
    rfl
   refine done_ (done_of HT_.out (by kernel_rfl)) ?_
   clear HT_ HW_
   obtain ⟨k0, k1⟩ := cells2 BK1.out
   go_wp2
   go_ret2
   exact ⟨rfl, HB.out⟩
 · rw [if_pos (by omega)] at hr
   obtain ⟨rfl, rfl⟩ := Prod.mk.inj hr
   obtain ⟨d, hd, e0⟩ : ∃ d, sgn (a0 * 18446744073709551616 + a1 - 9223372036854775807) = d ∧ ¬ d > 0 := ⟨_, rfl, by unfold sgn; split <;> (try split) <;> omega⟩
   rw [hd] at C2
   have d1 : decide (d > 0) = false := decide_eq_false e0
   have d2 : decide (0 < d) = false := decide_eq_false e0
   have ew : wrap64 a1 = a0 * 18446744073709551616 + a1 := by unfold wrap64; omega
   obtain ⟨A, hA⟩ : ∃ A, a0 * 18446744073709551616 + a1 = A := ⟨_, rfl⟩
   rw [hA] at ew ⊢
   clear nv2 nv nv1 hr a b h0 h1 hc hd hA
   go_enter Try.func30, Try.ntmps30
   go_wp2_with (first
     | ((with_reducible refine gate_dst (N := 1) rfl ?_); refine box_event ?hg (N := 1) ?hd (cs := #[.int .i64 a0, .int .u64 a1]) (t := 30) ?hr ?_; (case hd => rfl); (case hg => rfl); (case hr => first | (go_simp; done) | (go_simp; rfl)); intro g1 hg w3 hbox hb; have BK1 := Aside0.mk (hbox); have GE1 := Aside0.mk (bG hg (HB.out)); replace HB := Aside0.mk (below_step (HB.out) hb); clear hb hbox hg; obtain ⟨k0, k1⟩ := cells2 BK1.out)
     | (go_at_call 28; (with_reducible refine (FR _).mono ?_); rintro e w5 ⟨rfl, hb⟩; replace BK1 := cB hb BK1; replace HB := Aside0.mk (below_step (HB.out) hb); clear hb)
     | ((with_reducible refine gate_dst (N := 4) rfl ?_); refine box_event ?hg (N := 4) ?hd (cs := numA false Z18) (t := 46) ?hr ?_; (case hd => rfl); (case hg => rfl); (case hr => first | (go_simp; done) | (go_simp; rfl)); intro g4 hg w6 hbox hb; have BK4 := Aside0.mk (hbox); have GE4 := Aside0.mk (bG hg (HB.out)); have N14 := cN hg BK1; have N41 := cM hg BK1; replace HB := Aside0.mk (below_step (HB.out) hb); replace BK1 := cB hb BK1; clear hb hbox hg)
     | ((with_reducible refine gate_store2 (t := 46) (x := .tmp 4) (y := .tmp 6) rfl ?_); refine ev_row rfl 46 (.tmp 4) (.tmp 6) rfl rfl g4 (numA s D) ?hx ?hy 46 (numA false Z18) BK4.out (num_info hD) ((numA_size rfl).trans (numA_size hD).symm) (numA_one _ _) HB.out GE4.out ?_; (case hx => first | (go_simp; done) | rfl); (case hy => first | (go_simp; done) | rfl | (go_simp; rfl)); intro w9 hbox hb hk; replace BK4 := Aside0.mk hbox; replace HB := Aside0.mk hb; replace BK1 := Aside0.mk ((hk _ N14.out).trans BK1.out); clear hbox hb hk))
   clear k0 k1
   replace BK1 := Aside0.mk (blk_drew BK1.out)
   replace BK4 := Aside0.mk (blk_drew BK4.out)
   replace HB := Aside0.mk (below_drew1 HB.out)
   refine start_ (n := 10) (S := fun w' => w'.heap[g4]? = some (.cells (numA s D) 46 (0, 0))) (ds := []) #[false, false, false, false, false, false, false, false, false, false] (by kernel_rfl) rfl rfl (BK4.out) (fun hHeld => ?_); refine with_tabW relievoref01_Int.tab2 relievoref01_Int.bits2 (fun HT_ HW_ => ?_)
   generalize w9.drew = w10 at BK1 BK4 HB hHeld ⊢
   refine take_ (i := 0) (N := some 7) (v := .agg (numA s D)) (a' := ?_) #[true, false, false, false, false, false, false, false, false, false] rfl rfl (take_ofW HT_.out HW_.out (by kernel_rfl)) (fun _ _ _ h => h) (Or.inl ⟨by rfl, fun w' s0 => exec_load rfl rfl s0 hu46 rfl (num_info hD)⟩) hHeld ?_ ?_
   rotate_left
   ·simp only [Act.put, List.setIfInBounds_toArray, List.set_cons_zero, List.set_cons_succ, i64_w, i32_w]
    rfl
   refine one_ (i := 1) (N := some 8) #[true, true, false, false, false, false, false, false, false, false] rfl rfl (one_of HT_.out (by kernel_rfl)) (by decide) (fun K hK => ?_)
   refine goes_ Try.func26 (by kernel_rfl) rfl #[.int .i64 (-9223372036854775808)] (by rfl) rfl rfl (by (try simp only [List.map_toArray, List.map_cons, List.map_nil]); first | done | rfl | (simp only [List.length_drop, List.length_take]; rfl)) ?_
   with_reducible refine (F1 _).mono ?_
   rintro e w10_1 ⟨rfl, hb⟩
   refine ⟨_, rfl, ?_⟩
   replace BK1 := cB hb BK1
   replace BK4 := cB hb BK4
   replace HB := Aside0.mk (below_step (HB.out) hb)
   clear hb
   refine hK.out _ _ (BK4.out) (fun hHeld => ?_)
   clear hK K
   refine norm_ (a' := ?_) ?_ ?_
   rotate_left
   ·show Act.put _ (some 8) _ = _
    simp only [Act.put, List.setIfInBounds_toArray, List.set_cons_zero, List.set_cons_succ, i64_w, i32_w]
    rfl
   refine one_ (i := 2) (N := some 9) #[true, true, true, false, false, false, false, false, false, false] rfl rfl (one_of HT_.out (by kernel_rfl)) (by decide) (fun K hK => ?_)
   refine goes_ Try.func31 (by kernel_rfl) rfl #[.agg (numA s D), .agg (numA s1 D1)] (by rfl) rfl rfl (by (try simp only [List.map_toArray, List.map_cons, List.map_nil]); first | done | rfl | (simp only [List.length_drop, List.length_take]; rfl)) ?_
   with_reducible refine (C1 _).mono ?_
   rintro e w10_2 ⟨rfl, hb⟩
   refine ⟨_, rfl, ?_⟩
   replace BK1 := cB hb BK1
   replace BK4 := cB hb BK4
   replace HB := Aside0.mk (below_step (HB.out) hb)
   clear hb
   refine hK.out _ _ (BK4.out) (fun hHeld => ?_)
   clear hK K
   refine norm_ (a' := ?_) ?_ ?_
   rotate_left
   ·show Act.put _ (some 9) _ = _
    simp only [Act.put, List.setIfInBounds_toArray, List.set_cons_zero, List.set_cons_succ, i64_w, i32_w]
    rfl
   refine pure_ (i := 3) (N := some 10) (v := ?_) (a' := ?_) #[true, true, true, true, false, false, false, false, false, false] rfl rfl (any_of HT_.out (by kernel_rfl)) (fun _ _ _ h => h) (Or.inl ⟨by rfl, ?_⟩) ?_ ?_
   rotate_left
   ·intro w'
    go_simp
    with_reducible rfl
   rotate_left
   ·simp only [Act.put, List.setIfInBounds_toArray, List.set_cons_zero, List.set_cons_succ, i64_w, i32_w]
    rfl
   refine pure_ (i := 4) (N := some 11) (v := ?_) (a' := ?_) #[true, true, true, true, true, false, false, false, false, false] rfl rfl (any_of HT_.out (by kernel_rfl)) (fun _ _ _ h => h) (Or.inl ⟨by rfl, ?_⟩) ?_ ?_
   rotate_left
   ·intro w'
    go_simp
    with_reducible rfl
   rotate_left
   ·simp only [Act.put, List.setIfInBounds_toArray, List.set_cons_zero, List.set_cons_succ, i64_w, i32_w]
    rfl
   refine take_ (i := 5) (N := some 12) (v := .agg (numA s D)) (a' := ?_) #[true, true, true, true, true, true, false, false, false, false] rfl rfl (take_ofW HT_.out HW_.out (by kernel_rfl)) (fun _ _ _ h => h) (Or.inl ⟨by rfl, fun w' s0 => exec_load rfl rfl s0 hu46 rfl (num_info hD)⟩) hHeld ?_ ?_
   rotate_left
   ·simp only [Act.put, List.setIfInBounds_toArray, List.set_cons_zero, List.set_cons_succ, i64_w, i32_w]
    rfl
   refine one_ (i := 6) (N := some 13) #[true, true, true, true, true, true, true, false, false, false] rfl rfl (one_of HT_.out (by kernel_rfl)) (by decide) (fun K hK => ?_)
   refine goes_ Try.func26 (by kernel_rfl) rfl #[.int .i64 9223372036854775807] (by rfl) rfl rfl (by (try simp only [List.map_toArray, List.map_cons, List.map_nil]); first | done | rfl | (simp only [List.length_drop, List.length_take]; rfl)) ?_
   with_reducible refine (F2 _).mono ?_
   rintro e w10_3 ⟨rfl, hb⟩
   refine ⟨_, rfl, ?_⟩
   replace BK1 := cB hb BK1
   replace BK4 := cB hb BK4
   replace HB := Aside0.mk (below_step (HB.out) hb)
   clear hb
   refine hK.out _ _ (BK4.out) (fun hHeld => ?_)
   clear hK K
   refine norm_ (a' := ?_) ?_ ?_
   rotate_left
   ·show Act.put _ (some 13) _ = _
    simp only [Act.put, List.setIfInBounds_toArray, List.set_cons_zero, List.set_cons_succ, i64_w, i32_w]
    rfl
   refine one_ (i := 7) (N := some 14) #[true, true, true, true, true, true, true, true, false, false] rfl rfl (one_of HT_.out (by kernel_rfl)) (by decide) (fun K hK => ?_)
   refine goes_ Try.func31 (by kernel_rfl) rfl #[.agg (numA s D), .agg (numA s2 D2)] (by rfl) rfl rfl (by (try simp only [List.map_toArray, List.map_cons, List.map_nil]); first | done | rfl | (simp only [List.length_drop, List.length_take]; rfl)) ?_
   with_reducible refine (C2 _).mono ?_
   rintro e w10_4 ⟨rfl, hb⟩
   refine ⟨_, rfl, ?_⟩
   replace BK1 := cB hb BK1
   replace BK4 := cB hb BK4
   replace HB := Aside0.mk (below_step (HB.out) hb)
   clear hb
   refine hK.out _ _ (BK4.out) (fun hHeld => ?_)
   clear hK K
   refine norm_ (a' := ?_) ?_ ?_
   rotate_left
   ·show Act.put _ (some 14) _ = _
    simp only [Act.put, List.setIfInBounds_toArray, List.set_cons_zero, List.set_cons_succ, i64_w, i32_w]
    rfl
   refine pure_ (i := 8) (N := some 15) (v := ?_) (a' := ?_) #[true, true, true, true, true, true, true, true, true, false] rfl rfl (any_of HT_.out (by kernel_rfl)) (fun _ _ _ h => h) (Or.inl ⟨by rfl, ?_⟩) ?_ ?_
   rotate_left
   ·intro w'
    go_simp
    with_reducible rfl
   rotate_left
   ·simp only [Act.put, List.setIfInBounds_toArray, List.set_cons_zero, List.set_cons_succ, i64_w, i32_w]
    rfl
   refine pure_ (i := 9) (N := some 16) (v := ?_) (a' := ?_) #[true, true, true, true, true, true, true, true, true, true] rfl rfl (any_of HT_.out (by kernel_rfl)) (fun _ _ _ h => h) (Or.inl ⟨by rfl, ?_⟩) ?_ ?_
   rotate_left
   ·intro w'
    go_simp
    with_reducible rfl
   rotate_left
   ·simp only [Act.put, List.setIfInBounds_toArray, List.set_cons_zero, List.set_cons_succ, i64_w, i32_w]
    rfl
   refine done_ (done_of HT_.out (by kernel_rfl)) ?_
   clear HT_ HW_
   obtain ⟨k0, k1⟩ := cells2 BK1.out
   go_wp2
   go_ret2
   exact ⟨by rw [← ew]; rfl, HB.out⟩
end Go.Proofs.Ytmkdnoikbefimaa.G
