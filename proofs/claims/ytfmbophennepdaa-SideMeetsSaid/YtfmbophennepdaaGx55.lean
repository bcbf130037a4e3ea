-- Written by a program of this session (wip/gen), out of the translation; Lean checks it.
import Derived.Test.YtfmbophennepdaaNumMore
import Derived.Test.YtfmbophennepdaaNumAll
import Derived.Test.YtfmbophennepdaaGx0
namespace Go.Proofs.Ytfmbophennepdaa.G
open Go.RowKit Go.Proofs.YtfmbophennepdaaW.PrintWords Go.Proofs.YtfmbophennepdaaW.PrintLast Go.Proofs.YtfmbophennepdaaW.PrintMore
attribute [local go_sem high] idx43_0 idx43_1 idx43_2 wl0 wl1 wl2 wl3 wl4 wl5 tm0_3 tm1_3 tm2_3 tm3_3 tm4_3 tm5_3
attribute [local go_sem] max2_int min2_int max_two min_two max_three min_three max_four min_four   -- for this text's walks alone
set_option linter.unusedVariables false
set_option linter.unusedSimpArgs false

/-! ### relievoref03_floor: function 24 -/
def relievoref03_floor.f (a0 : Int) (a1 : Int) (a2_0 : Int) (a2_1 : Int) : Option (Int × Bool) := (relievoref01_Mul.f a1 a2_0).bind fun bt339 => ((relievoref01_Div.f bt339.1 bt339.2 a2_1).bind fun bt341 => ((relievoref01_Int.f bt341.1 bt341.2.1).bind fun bt346 => (if bt341.2.2.2 = true then (if bt346.2 = true then (if bt346.1 < (-2199023255552) then (some (0, false)) else (if bt346.1 > 2199023255552 then (some (0, false)) else (if (wrap64 (bt346.1 + a0)) < (-1099511627776) then (some (0, false)) else (if (wrap64 (bt346.1 + a0)) > 1099511627776 then (some (0, false)) else (some (wrap64 (bt346.1 + a0), true)))))) else (some (0, false))) else (some (0, false)))))
def relievoref03_floor.T1 : Bool × List (List Nat × List Nat) := (true, [([], []), ([], []), ([1], [1]), ([0, 2], [0, 2]), ([], []), ([4], [4]), ([3, 5, 3], [3, 5]), ([6], [6]), ([7], [7]), ([7], [7]), ([7], [7]), ([], []), ([11, 8, 6, 0, 1, 2, 3, 4, 5, 6, 7, 8, 11], [8, 11]), ([9, 12, 0, 1, 2, 3, 4, 5, 6, 7, 8, 9, 11, 12], [9]), ([10, 13, 0, 1, 2, 3, 4, 5, 6, 7, 8, 9, 10, 11, 12, 13], [10])])
def relievoref03_floor.B1 : List Nat := [0, 0, 2, 7, 0, 16, 63, 127, 255, 255, 255, 0, 2559, 7167, 16383]
theorem relievoref03_floor.tab1 : rtab .any (opsOf Try.f24 1) = relievoref03_floor.T1 := by kernel_rfl
theorem relievoref03_floor.bits1 : waitsOk relievoref03_floor.T1.2 relievoref03_floor.B1 = true := by kernel_rfl
set_option maxHeartbeats 8000000 in
set_option maxRecDepth 100000 in
theorem relievoref03_floor.calls (a0 : Int) (a1 : Int) (a2_0 : Int) (a2_1 : Int) (r1 : Int) (r2 : Bool) (w : World) (h : relievoref03_floor.f a0 a1 a2_0 a2_1 = some (r1, r2)) :
    Calls Try.prog 24 #[.int .i64 a0, .int .i64 a1, .agg #[.int .i64 a2_0, .int .i64 a2_1]] w fun e w' => e = .returned (.tuple #[.int .i64 r1, .bool r2]) ∧ Below w.heap.size w w' := by
 have hu27 := Try.underlying27
 have hu53 := Try.underlying53
 have HB := Aside0.mk (Below.refl w.heap.size w)
 have H : ((relievoref01_Mul.f a1 a2_0).bind fun bt339 => ((relievoref01_Div.f bt339.1 bt339.2 a2_1).bind fun bt341 => ((relievoref01_Int.f bt341.1 bt341.2.1).bind fun bt346 => (if bt341.2.2.2 = true then (if bt346.2 = true then (if bt346.1 < (-2199023255552) then (some (0, false)) else (if bt346.1 > 2199023255552 then (some (0, false)) else (if (wrap64 (bt346.1 + a0)) < (-1099511627776) then (some (0, false)) else (if (wrap64 (bt346.1 + a0)) > 1099511627776 then (some (0, false)) else (some (wrap64 (bt346.1 + a0), true)))))) else (some (0, false))) else (some (0, false)))))) = some (r1, r2) := h
 clear h
 replace H := Option.bind_eq_some_iff.mp H
 obtain ⟨⟨t339, t340⟩, A40, H⟩ := H
 replace H : ((relievoref01_Div.f t339 t340 a2_1).bind fun bt341 => ((relievoref01_Int.f bt341.1 bt341.2.1).bind fun bt346 => (if bt341.2.2.2 = true then (if bt346.2 = true then (if bt346.1 < (-2199023255552) then (some (0, false)) else (if bt346.1 > 2199023255552 then (some (0, false)) else (if (wrap64 (bt346.1 + a0)) < (-1099511627776) then (some (0, false)) else (if (wrap64 (bt346.1 + a0)) > 1099511627776 then (some (0, false)) else (some (wrap64 (bt346.1 + a0), true)))))) else (some (0, false))) else (some (0, false))))) = some (r1, r2) := H
 have A4 := Aside0.mk A40
 clear A40
 replace H := Option.bind_eq_some_iff.mp H
 obtain ⟨⟨t341, t342, t343, t344⟩, A50, H⟩ := H
 replace H : ((relievoref01_Int.f t341 t342).bind fun bt346 => (if t344 = true then (if bt346.2 = true then (if bt346.1 < (-2199023255552) then (some (0, false)) else (if bt346.1 > 2199023255552 then (some (0, false)) else (if (wrap64 (bt346.1 + a0)) < (-1099511627776) then (some (0, false)) else (if (wrap64 (bt346.1 + a0)) > 1099511627776 then (some (0, false)) else (some (wrap64 (bt346.1 + a0), true)))))) else (some (0, false))) else (some (0, false)))) = some (r1, r2) := H
 have A5 := Aside0.mk A50
 clear A50
 replace H := Option.bind_eq_some_iff.mp H
 obtain ⟨⟨t346, t347⟩, A60, H⟩ := H
 replace H : (if t344 = true then (if t347 = true then (if t346 < (-2199023255552) then (some (0, false)) else (if t346 > 2199023255552 then (some (0, false)) else (if (wrap64 (t346 + a0)) < (-1099511627776) then (some (0, false)) else (if (wrap64 (t346 + a0)) > 1099511627776 then (some (0, false)) else (some (wrap64 (t346 + a0), true)))))) else (some (0, false))) else (some (0, false))) = some (r1, r2) := H
 have A6 := Aside0.mk A60
 clear A60
 by_cases c7 : t344 = true
 ·subst c7
  have H1 : (if t347 = true then (if t346 < (-2199023255552) then (some (0, false)) else (if t346 > 2199023255552 then (some (0, false)) else (if (wrap64 (t346 + a0)) < (-1099511627776) then (some (0, false)) else (if (wrap64 (t346 + a0)) > 1099511627776 then (some (0, false)) else (some (wrap64 (t346 + a0), true)))))) else (some (0, false))) = some (r1, r2) := by rw [if_pos rfl] at H; exact H
  clear H
  have H := H1
  clear H1
  have HCX_ := Aside0.mk H
  clear H
  go_enter Try.func24, Try.ntmps24
  try go_wp2_with (first | ((with_reducible refine gate_dst (N := 5) rfl ?_); refine box_event ?hg (N := 5) ?hd (cs := #[.int .i64 a2_0, .int .i64 a2_1]) (t := 27) ?hr ?_; (case hd => rfl); (case hg => rfl); (case hr => first | (go_simp; done) | (go_simp; rfl)); intro gb338 hg w10 hbox hb; have BK338 := Aside0.mk (hbox); have GE338 := Aside0.mk (bG hg (HB.out)); replace HB := Aside0.mk (below_step (HB.out) hb); clear hb hbox hg))
  replace BK338 := Aside0.mk (blk_drew BK338.out)
  replace HB := Aside0.mk (below_drew1 HB.out)
  refine start_ (n := 15) (S := fun w' => w'.cell? ⟨gb338, 0, none⟩ = some (.int .i64 a2_0) ∧ w'.cell? ⟨gb338, 1, none⟩ = some (.int .i64 a2_1)) (ds := []) #[false, false, false, false, false, false, false, false, false, false, false, false, false, false, false] (by kernel_rfl) rfl rfl ⟨(blk_cell BK338.out 0).trans rfl, (blk_cell BK338.out 1).trans rfl⟩ (fun hHeld => ?_); refine with_tabW relievoref03_floor.tab1 relievoref03_floor.bits1 (fun HT_ HW_ => ?_)
  generalize w10.drew = w11 at BK338 HB hHeld ⊢
  refine pure_ (i := 0) (N := some 14) (v := ?_) (a' := ?_) (bm 15 1) rfl rfl (any_of HT_.out (by kernel_rfl)) (fun _ _ _ h => h) (Or.inl ⟨by rfl, ?_⟩) ?_ ?_
  rotate_left
  ·intro w'
   go_simp
   with_reducible rfl
  rotate_left
  ·simp only [Act.put, List.setIfInBounds_toArray, List.set_cons_zero, List.set_cons_succ, i64_w, i32_w]
   rfl
  refine pure_ (i := 1) (N := some 15) (v := ?_) (a' := ?_) (bm 15 3) rfl rfl (any_of HT_.out (by kernel_rfl)) (fun _ _ _ h => h) (Or.inl ⟨by rfl, ?_⟩) ?_ ?_
  rotate_left
  ·intro w'
   go_simp
   with_reducible rfl
  rotate_left
  ·simp only [Act.put, List.setIfInBounds_toArray, List.set_cons_zero, List.set_cons_succ, i64_w, i32_w]
   rfl
  refine pure_ (i := 4) (N := some 18) (v := ?_) (a' := ?_) (bm 15 19) rfl rfl (any_of HT_.out (by kernel_rfl)) (fun _ _ _ h => h) (Or.inl ⟨by rfl, ?_⟩) ?_ ?_
  rotate_left
  ·intro w'
   go_simp
   with_reducible rfl
  rotate_left
  ·simp only [Act.put, List.setIfInBounds_toArray, List.set_cons_zero, List.set_cons_succ, i64_w, i32_w]
   rfl
  refine take_ (i := 2) (N := some 16) (v := ?_) (a' := ?_) (bm 15 23) rfl rfl (take_ofW HT_.out HW_.out (by kernel_rfl)) (fun _ _ _ h => h) (Or.inl ⟨by rfl, ?_⟩) hHeld ?_ ?_
  rotate_left
  ·rintro w' ⟨s0, s1⟩
   go_simp
   with_reducible rfl
  rotate_left
  ·simp only [Act.put, List.setIfInBounds_toArray, List.set_cons_zero, List.set_cons_succ, i64_w, i32_w]
   rfl
  refine take_ (i := 5) (N := some 19) (v := ?_) (a' := ?_) (bm 15 55) rfl rfl (take_ofW HT_.out HW_.out (by kernel_rfl)) (fun _ _ _ h => h) (Or.inl ⟨by rfl, ?_⟩) hHeld ?_ ?_
  rotate_left
  ·rintro w' ⟨s0, s1⟩
   go_simp
   with_reducible rfl
  rotate_left
  ·simp only [Act.put, List.setIfInBounds_toArray, List.set_cons_zero, List.set_cons_succ, i64_w, i32_w]
   rfl
  refine join_ (σ := Nat) 3 (bm 15 4095) (fun s_ => [(17, .agg #[.int .i64 t339, .int .u64 t340]), (20, .tuple #[.agg #[.int .i64 t341, .int .u64 t342], .int .i64 t343, .bool true]), (8, .pointer (some ⟨s_, 0, none⟩)), (13, .tuple #[.agg #[.int .i64 t341, .int .u64 t342], .int .i64 t343, .bool true]), (21, .agg #[.int .i64 t341, .int .u64 t342]), (22, .int .i64 t343), (23, .bool true)]) (fun s_ w' => (w'.cell? ⟨gb338, 0, none⟩ = some (.int .i64 a2_0) ∧ w'.cell? ⟨gb338, 1, none⟩ = some (.int .i64 a2_1)) ∧ (w'.heap[gb338]? = some (.cells #[.int .i64 a2_0, .int .i64 a2_1] 27 (0, 0))) ∧ (w'.heap[s_]? = some (.cells #[.int .i64 0, .int .u64 0] 53 (0, 0))) ∧ (w.heap.size ≤ s_) ∧ (gb338 ≠ s_) ∧ (s_ ≠ gb338) ∧ (Below w.heap.size w w')) ?_ ?_
  rotate_left
  ·intro hCont
   refine two_ (i := 3) (j := 11) (Ni := some 17) (Nj := some 8) (bm 15 63) (bm 15 2103) rfl rfl rfl rfl (two_of HT_.out (by kernel_rfl)) (by decide) (by decide) (fun K hK => ?_) (fun K hK => ?_)
   ·skip
    refine goes_ Try.func34 (by kernel_rfl) rfl #[.int .i64 a1, .int .i64 a2_0] (by rfl) rfl rfl (by (try simp only [List.map_toArray, List.map_cons, List.map_nil]); first | done | rfl | (simp only [List.length_drop, List.length_take]; rfl)) ?_
    with_reducible refine (relievoref01_Mul.calls a1 a2_0 t339 t340 _ A4.out).mono ?_
    rintro e w12 ⟨rfl, hb⟩
    refine ⟨_, rfl, ?_⟩
    replace BK338 := cB hb BK338
    replace HB := Aside0.mk (below_step (HB.out) hb)
    (try clear hb)
    (try clear hb2)
    (try clear hk)
    (try clear hi)
    refine hK.out _ _ ⟨(blk_cell BK338.out 0).trans rfl, (blk_cell BK338.out 1).trans rfl⟩ (fun hHeld => ?_)
    clear hK K
    refine norm_ (a' := ?_) ?_ ?_
    rotate_left
    ·show Act.put _ (some 17) _ = _
     simp only [Act.put, List.setIfInBounds_toArray, List.set_cons_zero, List.set_cons_succ, i64_w, i32_w]
     rfl
    refine two_ (i := 6) (j := 11) (Ni := some 20) (Nj := some 8) (bm 15 127) (bm 15 2111) rfl rfl rfl rfl (two_of HT_.out (by kernel_rfl)) (by decide) (by decide) (fun K hK => ?_) (fun K hK => ?_)
    ·skip
     refine goes_ Try.func33 (by kernel_rfl) rfl #[.agg #[.int .i64 t339, .int .u64 t340], .int .i64 a2_1] (by rfl) rfl rfl (by (try simp only [List.map_toArray, List.map_cons, List.map_nil]); first | done | rfl | (simp only [List.length_drop, List.length_take]; rfl)) ?_
     with_reducible refine (relievoref01_Div.calls t339 t340 a2_1 t341 t342 t343 true _ A5.out).mono ?_
     rintro e w13 ⟨rfl, hb⟩
     refine ⟨_, rfl, ?_⟩
     replace BK338 := cB hb BK338
     replace HB := Aside0.mk (below_step (HB.out) hb)
     (try clear hb)
     (try clear hb2)
     (try clear hk)
     (try clear hi)
     refine hK.out _ _ ⟨(blk_cell BK338.out 0).trans rfl, (blk_cell BK338.out 1).trans rfl⟩ (fun hHeld => ?_)
     clear hK K
     refine norm_ (a' := ?_) ?_ ?_
     rotate_left
     ·show Act.put _ (some 20) _ = _
      simp only [Act.put, List.setIfInBounds_toArray, List.set_cons_zero, List.set_cons_succ, i64_w, i32_w]
      rfl
     refine pure_ (i := 7) (N := some 13) (v := ?_) (a' := ?_) (bm 15 255) rfl rfl (any_of HT_.out (by kernel_rfl)) (fun _ _ _ h => h) (Or.inl ⟨by rfl, ?_⟩) ?_ ?_
     rotate_left
     ·intro w'
      go_simp
      with_reducible rfl
     rotate_left
     ·simp only [Act.put, List.setIfInBounds_toArray, List.set_cons_zero, List.set_cons_succ, i64_w, i32_w]
      rfl
     refine pure_ (i := 8) (N := some 21) (v := ?_) (a' := ?_) (bm 15 511) rfl rfl (any_of HT_.out (by kernel_rfl)) (fun _ _ _ h => h) (Or.inl ⟨by rfl, ?_⟩) ?_ ?_
     rotate_left
     ·intro w'
      go_simp
      with_reducible rfl
     rotate_left
     ·simp only [Act.put, List.setIfInBounds_toArray, List.set_cons_zero, List.set_cons_succ, i64_w, i32_w]
      rfl
     refine pure_ (i := 9) (N := some 22) (v := ?_) (a' := ?_) (bm 15 1023) rfl rfl (any_of HT_.out (by kernel_rfl)) (fun _ _ _ h => h) (Or.inl ⟨by rfl, ?_⟩) ?_ ?_
     rotate_left
     ·intro w'
      go_simp
      with_reducible rfl
     rotate_left
     ·simp only [Act.put, List.setIfInBounds_toArray, List.set_cons_zero, List.set_cons_succ, i64_w, i32_w]
      rfl
     refine pure_ (i := 10) (N := some 23) (v := ?_) (a' := ?_) (bm 15 2047) rfl rfl (any_of HT_.out (by kernel_rfl)) (fun _ _ _ h => h) (Or.inl ⟨by rfl, ?_⟩) ?_ ?_
     rotate_left
     ·intro w'
      go_simp
      with_reducible rfl
     rotate_left
     ·simp only [Act.put, List.setIfInBounds_toArray, List.set_cons_zero, List.set_cons_succ, i64_w, i32_w]
      rfl
     refine one_ (i := 11) (N := some 8) (bm 15 4095) rfl rfl (one_of HT_.out (by kernel_rfl)) (by decide) (fun K hK => ?_)
     refine box_step ?hg (N := 8) ?hd (cs := #[.int .i64 0, .int .u64 0]) (t := 53) ?hr ?_; (case hd => rfl); (case hg => rfl); (case hr => first | (go_simp; done) | (go_simp; rfl))
     intro gb345 hg w14 hbox hb
     have BK345 := Aside0.mk (hbox)
     have GE345 := Aside0.mk (bG hg (HB.out))
     have NB338_345 := cN hg BK338
     have NB345_338 := cM hg BK338
     replace BK338 := cB hb BK338
     replace HB := Aside0.mk (below_step (HB.out) hb)
     clear hb hbox hg
     refine hK.out _ _ ⟨(blk_cell BK338.out 0).trans rfl, (blk_cell BK338.out 1).trans rfl⟩ (fun hHeld => ?_)
     clear hK K
     refine norm_ (a' := ?_) ?_ ?_
     rotate_left
     ·show Act.put _ (some 8) _ = _
      simp only [Act.put, List.setIfInBounds_toArray, List.set_cons_zero, List.set_cons_succ, i64_w, i32_w]
      rfl
     exact norm_ (by simp only [putAll, Act.put, List.setIfInBounds_toArray, List.set_cons_zero, List.set_cons_succ]) (hCont (gb345) _ ⟨hHeld, (BK338.out), (BK345.out), GE345.out, NB338_345.out, NB345_338.out, (HB.out)⟩)
    skip
    refine box_step ?hg (N := 8) ?hd (cs := #[.int .i64 0, .int .u64 0]) (t := 53) ?hr ?_; (case hd => rfl); (case hg => rfl); (case hr => first | (go_simp; done) | (go_simp; rfl))
    intro gb345 hg w13 hbox hb
    have BK345 := Aside0.mk (hbox)
    have GE345 := Aside0.mk (bG hg (HB.out))
    have NB338_345 := cN hg BK338
    have NB345_338 := cM hg BK338
    replace BK338 := cB hb BK338
    replace HB := Aside0.mk (below_step (HB.out) hb)
    clear hb hbox hg
    refine hK.out _ _ ⟨(blk_cell BK338.out 0).trans rfl, (blk_cell BK338.out 1).trans rfl⟩ (fun hHeld => ?_)
    clear hK K
    refine norm_ (a' := ?_) ?_ ?_
    rotate_left
    ·show Act.put _ (some 8) _ = _
     simp only [Act.put, List.setIfInBounds_toArray, List.set_cons_zero, List.set_cons_succ, i64_w, i32_w]
     rfl
    refine one_ (i := 6) (N := some 20) (bm 15 2175) rfl rfl (one_of HT_.out (by kernel_rfl)) (by decide) (fun K hK => ?_)
    refine goes_ Try.func33 (by kernel_rfl) rfl #[.agg #[.int .i64 t339, .int .u64 t340], .int .i64 a2_1] (by rfl) rfl rfl (by (try simp only [List.map_toArray, List.map_cons, List.map_nil]); first | done | rfl | (simp only [List.length_drop, List.length_take]; rfl)) ?_
    with_reducible refine (relievoref01_Div.calls t339 t340 a2_1 t341 t342 t343 true _ A5.out).mono ?_
    rintro e w14 ⟨rfl, hb⟩
    refine ⟨_, rfl, ?_⟩
    replace BK338 := cB hb BK338
    replace BK345 := cB hb BK345
    replace HB := Aside0.mk (below_step (HB.out) hb)
    (try clear hb)
    (try clear hb2)
    (try clear hk)
    (try clear hi)
    refine hK.out _ _ ⟨(blk_cell BK338.out 0).trans rfl, (blk_cell BK338.out 1).trans rfl⟩ (fun hHeld => ?_)
    clear hK K
    refine norm_ (a' := ?_) ?_ ?_
    rotate_left
    ·show Act.put _ (some 20) _ = _
     simp only [Act.put, List.setIfInBounds_toArray, List.set_cons_zero, List.set_cons_succ, i64_w, i32_w]
     rfl
    refine pure_ (i := 7) (N := some 13) (v := ?_) (a' := ?_) (bm 15 2303) rfl rfl (any_of HT_.out (by kernel_rfl)) (fun _ _ _ h => h) (Or.inl ⟨by rfl, ?_⟩) ?_ ?_
    rotate_left
    ·intro w'
     go_simp
     with_reducible rfl
    rotate_left
    ·simp only [Act.put, List.setIfInBounds_toArray, List.set_cons_zero, List.set_cons_succ, i64_w, i32_w]
     rfl
    refine pure_ (i := 8) (N := some 21) (v := ?_) (a' := ?_) (bm 15 2559) rfl rfl (any_of HT_.out (by kernel_rfl)) (fun _ _ _ h => h) (Or.inl ⟨by rfl, ?_⟩) ?_ ?_
    rotate_left
    ·intro w'
     go_simp
     with_reducible rfl
    rotate_left
    ·simp only [Act.put, List.setIfInBounds_toArray, List.set_cons_zero, List.set_cons_succ, i64_w, i32_w]
     rfl
    refine pure_ (i := 9) (N := some 22) (v := ?_) (a' := ?_) (bm 15 3071) rfl rfl (any_of HT_.out (by kernel_rfl)) (fun _ _ _ h => h) (Or.inl ⟨by rfl, ?_⟩) ?_ ?_
    rotate_left
    ·intro w'
     go_simp
     with_reducible rfl
    rotate_left
    ·simp only [Act.put, List.setIfInBounds_toArray, List.set_cons_zero, List.set_cons_succ, i64_w, i32_w]
     rfl
    refine pure_ (i := 10) (N := some 23) (v := ?_) (a' := ?_) (bm 15 4095) rfl rfl (any_of HT_.out (by kernel_rfl)) (fun _ _ _ h => h) (Or.inl ⟨by rfl, ?_⟩) ?_ ?_
    rotate_left
    ·intro w'
     go_simp
     with_reducible rfl
    rotate_left
    ·simp only [Act.put, List.setIfInBounds_toArray, List.set_cons_zero, List.set_cons_succ, i64_w, i32_w]
     rfl
    exact norm_ (by simp only [putAll, Act.put, List.setIfInBounds_toArray, List.set_cons_zero, List.set_cons_succ]) (hCont (gb345) _ ⟨hHeld, (BK338.out), (BK345.out), GE345.out, NB338_345.out, NB345_338.out, (HB.out)⟩)
   skip
   refine box_step ?hg (N := 8) ?hd (cs := #[.int .i64 0, .int .u64 0]) (t := 53) ?hr ?_; (case hd => rfl); (case hg => rfl); (case hr => first | (go_simp; done) | (go_simp; rfl))
   intro gb345 hg w12 hbox hb
   have BK345 := Aside0.mk (hbox)
   have GE345 := Aside0.mk (bG hg (HB.out))
   have NB338_345 := cN hg BK338
   have NB345_338 := cM hg BK338
   replace BK338 := cB hb BK338
   replace HB := Aside0.mk (below_step (HB.out) hb)
   clear hb hbox hg
   refine hK.out _ _ ⟨(blk_cell BK338.out 0).trans rfl, (blk_cell BK338.out 1).trans rfl⟩ (fun hHeld => ?_)
   clear hK K
   refine norm_ (a' := ?_) ?_ ?_
   rotate_left
   ·show Act.put _ (some 8) _ = _
    simp only [Act.put, List.setIfInBounds_toArray, List.set_cons_zero, List.set_cons_succ, i64_w, i32_w]
    rfl
   refine one_ (i := 3) (N := some 17) (bm 15 2111) rfl rfl (one_of HT_.out (by kernel_rfl)) (by decide) (fun K hK => ?_)
   refine goes_ Try.func34 (by kernel_rfl) rfl #[.int .i64 a1, .int .i64 a2_0] (by rfl) rfl rfl (by (try simp only [List.map_toArray, List.map_cons, List.map_nil]); first | done | rfl | (simp only [List.length_drop, List.length_take]; rfl)) ?_
   with_reducible refine (relievoref01_Mul.calls a1 a2_0 t339 t340 _ A4.out).mono ?_
   rintro e w13 ⟨rfl, hb⟩
   refine ⟨_, rfl, ?_⟩
   replace BK338 := cB hb BK338
   replace BK345 := cB hb BK345
   replace HB := Aside0.mk (below_step (HB.out) hb)
   (try clear hb)
   (try clear hb2)
   (try clear hk)
   (try clear hi)
   refine hK.out _ _ ⟨(blk_cell BK338.out 0).trans rfl, (blk_cell BK338.out 1).trans rfl⟩ (fun hHeld => ?_)
   clear hK K
   refine norm_ (a' := ?_) ?_ ?_
   rotate_left
   ·show Act.put _ (some 17) _ = _
    simp only [Act.put, List.setIfInBounds_toArray, List.set_cons_zero, List.set_cons_succ, i64_w, i32_w]
    rfl
   refine one_ (i := 6) (N := some 20) (bm 15 2175) rfl rfl (one_of HT_.out (by kernel_rfl)) (by decide) (fun K hK => ?_)
   refine goes_ Try.func33 (by kernel_rfl) rfl #[.agg #[.int .i64 t339, .int .u64 t340], .int .i64 a2_1] (by rfl) rfl rfl (by (try simp only [List.map_toArray, List.map_cons, List.map_nil]); first | done | rfl | (simp only [List.length_drop, List.length_take]; rfl)) ?_
   with_reducible refine (relievoref01_Div.calls t339 t340 a2_1 t341 t342 t343 true _ A5.out).mono ?_
   rintro e w14 ⟨rfl, hb⟩
   refine ⟨_, rfl, ?_⟩
   replace BK338 := cB hb BK338
   replace BK345 := cB hb BK345
   replace HB := Aside0.mk (below_step (HB.out) hb)
   (try clear hb)
   (try clear hb2)
   (try clear hk)
   (try clear hi)
   refine hK.out _ _ ⟨(blk_cell BK338.out 0).trans rfl, (blk_cell BK338.out 1).trans rfl⟩ (fun hHeld => ?_)
   clear hK K
   refine norm_ (a' := ?_) ?_ ?_
   rotate_left
   ·show Act.put _ (some 20) _ = _
    simp only [Act.put, List.setIfInBounds_toArray, List.set_cons_zero, List.set_cons_succ, i64_w, i32_w]
    rfl
   refine pure_ (i := 7) (N := some 13) (v := ?_) (a' := ?_) (bm 15 2303) rfl rfl (any_of HT_.out (by kernel_rfl)) (fun _ _ _ h => h) (Or.inl ⟨by rfl, ?_⟩) ?_ ?_
   rotate_left
   ·intro w'
    go_simp
    with_reducible rfl
   rotate_left
   ·simp only [Act.put, List.setIfInBounds_toArray, List.set_cons_zero, List.set_cons_succ, i64_w, i32_w]
    rfl
   refine pure_ (i := 8) (N := some 21) (v := ?_) (a' := ?_) (bm 15 2559) rfl rfl (any_of HT_.out (by kernel_rfl)) (fun _ _ _ h => h) (Or.inl ⟨by rfl, ?_⟩) ?_ ?_
   rotate_left
   ·intro w'
    go_simp
    with_reducible rfl
   rotate_left
   ·simp only [Act.put, List.setIfInBounds_toArray, List.set_cons_zero, List.set_cons_succ, i64_w, i32_w]
    rfl
   refine pure_ (i := 9) (N := some 22) (v := ?_) (a' := ?_) (bm 15 3071) rfl rfl (any_of HT_.out (by kernel_rfl)) (fun _ _ _ h => h) (Or.inl ⟨by rfl, ?_⟩) ?_ ?_
   rotate_left
   ·intro w'
    go_simp
    with_reducible rfl
   rotate_left
   ·simp only [Act.put, List.setIfInBounds_toArray, List.set_cons_zero, List.set_cons_succ, i64_w, i32_w]
    rfl
   refine pure_ (i := 10) (N := some 23) (v := ?_) (a' := ?_) (bm 15 4095) rfl rfl (any_of HT_.out (by kernel_rfl)) (fun _ _ _ h => h) (Or.inl ⟨by rfl, ?_⟩) ?_ ?_
   rotate_left
   ·intro w'
    go_simp
    with_reducible rfl
   rotate_left
   ·simp only [Act.put, List.setIfInBounds_toArray, List.set_cons_zero, List.set_cons_succ, i64_w, i32_w]
    rfl
   exact norm_ (by simp only [putAll, Act.put, List.setIfInBounds_toArray, List.set_cons_zero, List.set_cons_succ]) (hCont (gb345) _ ⟨hHeld, (BK338.out), (BK345.out), GE345.out, NB338_345.out, NB345_338.out, (HB.out)⟩)
  rintro gb345 w15 ⟨hS_, h0_, h1_, h2_, h3_, h4_, h5_⟩
  have n0_ : Aside0 (w15.heap[gb338]? = some (.cells #[.int .i64 a2_0, .int .i64 a2_1] 27 (0, 0))) := ⟨h0_⟩
  have n1_ : Aside0 (w15.heap[gb345]? = some (.cells #[.int .i64 0, .int .u64 0] 53 (0, 0))) := ⟨h1_⟩
  have GE345 : Aside0 (w.heap.size ≤ gb345) := ⟨h2_⟩
  have NB338_345 : Aside0 (gb338 ≠ gb345) := ⟨h3_⟩
  have NB345_338 : Aside0 (gb345 ≠ gb338) := ⟨h4_⟩
  have n5_ : Aside0 (Below w.heap.size w w15) := ⟨h5_⟩
  clear BK338
  clear HB
  clear h0_ h1_ h2_ h3_ h4_ h5_
  have BK338 := n0_
  have BK345 := n1_
  have HB := n5_
  clear n0_ n1_ n5_
  have hHeld : w15.cell? ⟨gb338, 0, none⟩ = some (.int .i64 a2_0) ∧ w15.cell? ⟨gb338, 1, none⟩ = some (.int .i64 a2_1) := hS_
  refine norm_ (a' := ?_) ?_ ?_
  rotate_left
  ·simp only [putAll, Act.put, List.setIfInBounds_toArray, List.set_cons_zero, List.set_cons_succ]
   rfl
  refine one_ (i := 12) (N := none) (bm 15 8191) rfl rfl (one_of HT_.out (by kernel_rfl)) (by decide) (fun K hK => ?_)
  have hs16 : w15.cell? ⟨gb345, 0, none⟩ = some (.int .i64 0) := (blk_cell BK345.out 0).trans rfl
  have hfs16 := blk_frozen BK345.out 0
  have hns16_0 := NB338_345.out
  have hms16_0 := NB345_338.out
  have hs17 : w15.cell? ⟨gb345, 1, none⟩ = some (.int .u64 0) := (blk_cell BK345.out 1).trans rfl
  have hfs17 := blk_frozen BK345.out 1
  have hns17_0 := NB338_345.out
  have hms17_0 := NB345_338.out
  refine skip_ (w1 := ?_) (by rfl) rfl ?_ ?_
  rotate_left
  ·go_simp
   rfl
  refine hK.out _ _ ⟨(cf NB338_345.out (cf NB338_345.out hHeld.1)), (cf NB338_345.out (cf NB338_345.out hHeld.2))⟩ (fun hHeld => ?_)
  clear hK K
  refine pure_ (i := 13) (N := some 9) (v := ?_) (a' := ?_) (bm 15 16383) rfl rfl (any_of HT_.out (by kernel_rfl)) (fun _ _ _ h => h) (Or.inl ⟨by rfl, ?_⟩) ?_ ?_
  rotate_left
  ·intro w'
   go_simp
   with_reducible rfl
  rotate_left
  ·simp only [Act.put, List.setIfInBounds_toArray, List.set_cons_zero, List.set_cons_succ, i64_w, i32_w]
   rfl
  refine pure_ (i := 14) (N := some 10) (v := ?_) (a' := ?_) (bm 15 32767) rfl rfl (any_of HT_.out (by kernel_rfl)) (fun _ _ _ h => h) (Or.inl ⟨by rfl, ?_⟩) ?_ ?_
  rotate_left
  ·intro w'
   go_simp
   with_reducible rfl
  rotate_left
  ·simp only [Act.put, List.setIfInBounds_toArray, List.set_cons_zero, List.set_cons_succ, i64_w, i32_w]
   rfl
  refine done_ (done_of HT_.out (by kernel_rfl)) ?_
  have H := HCX_.out
  clear HCX_
  by_cases c8 : t347 = true
  ·subst c8
   have H1 : (if t346 < (-2199023255552) then (some (0, false)) else (if t346 > 2199023255552 then (some (0, false)) else (if (wrap64 (t346 + a0)) < (-1099511627776) then (some (0, false)) else (if (wrap64 (t346 + a0)) > 1099511627776 then (some (0, false)) else (some (wrap64 (t346 + a0), true)))))) = some (r1, r2) := by rw [if_pos rfl] at H; exact H
   clear H
   have H := H1
   clear H1
   by_cases c9 : t346 < (-2199023255552)
   ·rw [if_pos c9] at H
    have c9b0 : decide (t346 < (-2199023255552)) = true := decide_eq_true c9
    clear c9
    simp only [Option.some.injEq, Prod.mk.injEq] at H
    obtain ⟨rfl, rfl⟩ := H
    obtain ⟨hcz18_0, hcz18_1⟩ := cells2 BK345.out
    have hfz18_0 := blk_frozen BK345.out 0
    have hfz18_1 := blk_frozen BK345.out 1
    try go_wp2_with (first | ((with_reducible refine gate_callee (f := 35) rfl ?_); refine goesL_ (some 26) rfl rfl Try.func35 (by kernel_rfl) rfl #[.agg #[.int .i64 t341, .int .u64 t342]] rfl (by (try simp only [List.map_toArray, List.map_cons, List.map_nil]); first | done | rfl | (simp only [List.length_drop, List.length_take]; rfl)) ?_; (with_reducible refine (relievoref01_Int.calls t341 t342 t346 true _ A6.out).mono ?_); rintro e w19 ⟨rfl, hb⟩; refine ⟨_, rfl, ?_⟩; replace BK345 := Aside0.mk (bB hb ((blk_put (cs' := #[.int .i64 t341, .int .u64 t342]) (blk_put BK345.out 0 _ rfl) 1 _ rfl))); replace HB := Aside0.mk (below_step ((below_set (below_set HB.out GE345.out) GE345.out)) hb); (try clear hb); (try clear hb2); (try clear hk); (try clear hi)))
    go_ret2
    exact ⟨by first | rfl | (simp [errW_none, errW_some] <;> rfl) | (simp [*, errW_none, errW_some] <;> rfl), HB.out⟩
   rw [if_neg c9] at H
   have c9b0 : decide (t346 < (-2199023255552)) = false := decide_eq_false c9
   clear c9
   by_cases c20 : t346 > 2199023255552
   ·rw [if_pos c20] at H
    have c20b0 : decide (2199023255552 < t346) = true := decide_eq_true c20
    clear c20
    simp only [Option.some.injEq, Prod.mk.injEq] at H
    obtain ⟨rfl, rfl⟩ := H
    obtain ⟨hcz29_0, hcz29_1⟩ := cells2 BK345.out
    have hfz29_0 := blk_frozen BK345.out 0
    have hfz29_1 := blk_frozen BK345.out 1
    try go_wp2_with (first | ((with_reducible refine gate_callee (f := 35) rfl ?_); refine goesL_ (some 26) rfl rfl Try.func35 (by kernel_rfl) rfl #[.agg #[.int .i64 t341, .int .u64 t342]] rfl (by (try simp only [List.map_toArray, List.map_cons, List.map_nil]); first | done | rfl | (simp only [List.length_drop, List.length_take]; rfl)) ?_; (with_reducible refine (relievoref01_Int.calls t341 t342 t346 true _ A6.out).mono ?_); rintro e w30 ⟨rfl, hb⟩; refine ⟨_, rfl, ?_⟩; replace BK345 := Aside0.mk (bB hb ((blk_put (cs' := #[.int .i64 t341, .int .u64 t342]) (blk_put BK345.out 0 _ rfl) 1 _ rfl))); replace HB := Aside0.mk (below_step ((below_set (below_set HB.out GE345.out) GE345.out)) hb); (try clear hb); (try clear hb2); (try clear hk); (try clear hi)))
    go_ret2
    exact ⟨by first | rfl | (simp [errW_none, errW_some] <;> rfl) | (simp [*, errW_none, errW_some] <;> rfl), HB.out⟩
   rw [if_neg c20] at H
   have c20b0 : decide (2199023255552 < t346) = false := decide_eq_false c20
   clear c20
   by_cases c31 : (wrap64 (t346 + a0)) < (-1099511627776)
   ·rw [if_pos c31] at H
    have c31b0 : decide ((wrap64 (t346 + a0)) < (-1099511627776)) = true := decide_eq_true c31
    clear c31
    simp only [Option.some.injEq, Prod.mk.injEq] at H
    obtain ⟨rfl, rfl⟩ := H
    obtain ⟨hcz40_0, hcz40_1⟩ := cells2 BK345.out
    have hfz40_0 := blk_frozen BK345.out 0
    have hfz40_1 := blk_frozen BK345.out 1
    try go_wp2_with (first | ((with_reducible refine gate_callee (f := 35) rfl ?_); refine goesL_ (some 26) rfl rfl Try.func35 (by kernel_rfl) rfl #[.agg #[.int .i64 t341, .int .u64 t342]] rfl (by (try simp only [List.map_toArray, List.map_cons, List.map_nil]); first | done | rfl | (simp only [List.length_drop, List.length_take]; rfl)) ?_; (with_reducible refine (relievoref01_Int.calls t341 t342 t346 true _ A6.out).mono ?_); rintro e w41 ⟨rfl, hb⟩; refine ⟨_, rfl, ?_⟩; replace BK345 := Aside0.mk (bB hb ((blk_put (cs' := #[.int .i64 t341, .int .u64 t342]) (blk_put BK345.out 0 _ rfl) 1 _ rfl))); replace HB := Aside0.mk (below_step ((below_set (below_set HB.out GE345.out) GE345.out)) hb); (try clear hb); (try clear hb2); (try clear hk); (try clear hi)))
    go_ret2
    exact ⟨by first | rfl | (simp [errW_none, errW_some] <;> rfl) | (simp [*, errW_none, errW_some] <;> rfl), HB.out⟩
   rw [if_neg c31] at H
   have c31b0 : decide ((wrap64 (t346 + a0)) < (-1099511627776)) = false := decide_eq_false c31
   clear c31
   by_cases c42 : (wrap64 (t346 + a0)) > 1099511627776
   ·rw [if_pos c42] at H
    have c42b0 : decide (1099511627776 < (wrap64 (t346 + a0))) = true := decide_eq_true c42
    clear c42
    simp only [Option.some.injEq, Prod.mk.injEq] at H
    obtain ⟨rfl, rfl⟩ := H
    obtain ⟨hcz51_0, hcz51_1⟩ := cells2 BK345.out
    have hfz51_0 := blk_frozen BK345.out 0
    have hfz51_1 := blk_frozen BK345.out 1
    try go_wp2_with (first | ((with_reducible refine gate_callee (f := 35) rfl ?_); refine goesL_ (some 26) rfl rfl Try.func35 (by kernel_rfl) rfl #[.agg #[.int .i64 t341, .int .u64 t342]] rfl (by (try simp only [List.map_toArray, List.map_cons, List.map_nil]); first | done | rfl | (simp only [List.length_drop, List.length_take]; rfl)) ?_; (with_reducible refine (relievoref01_Int.calls t341 t342 t346 true _ A6.out).mono ?_); rintro e w52 ⟨rfl, hb⟩; refine ⟨_, rfl, ?_⟩; replace BK345 := Aside0.mk (bB hb ((blk_put (cs' := #[.int .i64 t341, .int .u64 t342]) (blk_put BK345.out 0 _ rfl) 1 _ rfl))); replace HB := Aside0.mk (below_step ((below_set (below_set HB.out GE345.out) GE345.out)) hb); (try clear hb); (try clear hb2); (try clear hk); (try clear hi)))
    go_ret2
    exact ⟨by first | rfl | (simp [errW_none, errW_some] <;> rfl) | (simp [*, errW_none, errW_some] <;> rfl), HB.out⟩
   rw [if_neg c42] at H
   have c42b0 : decide (1099511627776 < (wrap64 (t346 + a0))) = false := decide_eq_false c42
   clear c42
   simp only [Option.some.injEq, Prod.mk.injEq] at H
   obtain ⟨rfl, rfl⟩ := H
   obtain ⟨hcz61_0, hcz61_1⟩ := cells2 BK345.out
   have hfz61_0 := blk_frozen BK345.out 0
   have hfz61_1 := blk_frozen BK345.out 1
   try go_wp2_with (first | ((with_reducible refine gate_callee (f := 35) rfl ?_); refine goesL_ (some 26) rfl rfl Try.func35 (by kernel_rfl) rfl #[.agg #[.int .i64 t341, .int .u64 t342]] rfl (by (try simp only [List.map_toArray, List.map_cons, List.map_nil]); first | done | rfl | (simp only [List.length_drop, List.length_take]; rfl)) ?_; (with_reducible refine (relievoref01_Int.calls t341 t342 t346 true _ A6.out).mono ?_); rintro e w62 ⟨rfl, hb⟩; refine ⟨_, rfl, ?_⟩; replace BK345 := Aside0.mk (bB hb ((blk_put (cs' := #[.int .i64 t341, .int .u64 t342]) (blk_put BK345.out 0 _ rfl) 1 _ rfl))); replace HB := Aside0.mk (below_step ((below_set (below_set HB.out GE345.out) GE345.out)) hb); (try clear hb); (try clear hb2); (try clear hk); (try clear hi)))
   go_ret2
   exact ⟨by first | rfl | (simp [errW_none, errW_some] <;> rfl) | (simp [*, errW_none, errW_some] <;> rfl), HB.out⟩
  replace c8 := Bool.eq_false_iff.mpr c8
  subst c8
  have H1 : (some (0, false)) = some (r1, r2) := by rw [if_neg (show ¬ (false = true) by decide)] at H; exact H
  clear H
  have H := H1
  clear H1
  simp only [Option.some.injEq, Prod.mk.injEq] at H
  obtain ⟨rfl, rfl⟩ := H
  obtain ⟨hcz71_0, hcz71_1⟩ := cells2 BK345.out
  have hfz71_0 := blk_frozen BK345.out 0
  have hfz71_1 := blk_frozen BK345.out 1
  try go_wp2_with (first | ((with_reducible refine gate_callee (f := 35) rfl ?_); refine goesL_ (some 26) rfl rfl Try.func35 (by kernel_rfl) rfl #[.agg #[.int .i64 t341, .int .u64 t342]] rfl (by (try simp only [List.map_toArray, List.map_cons, List.map_nil]); first | done | rfl | (simp only [List.length_drop, List.length_take]; rfl)) ?_; (with_reducible refine (relievoref01_Int.calls t341 t342 t346 false _ A6.out).mono ?_); rintro e w72 ⟨rfl, hb⟩; refine ⟨_, rfl, ?_⟩; replace BK345 := Aside0.mk (bB hb ((blk_put (cs' := #[.int .i64 t341, .int .u64 t342]) (blk_put BK345.out 0 _ rfl) 1 _ rfl))); replace HB := Aside0.mk (below_step ((below_set (below_set HB.out GE345.out) GE345.out)) hb); (try clear hb); (try clear hb2); (try clear hk); (try clear hi)))
  go_ret2
  exact ⟨by first | rfl | (simp [errW_none, errW_some] <;> rfl) | (simp [*, errW_none, errW_some] <;> rfl), HB.out⟩
 replace c7 := Bool.eq_false_iff.mpr c7
 subst c7
 have H1 : (some (0, false)) = some (r1, r2) := by rw [if_neg (show ¬ (false = true) by decide)] at H; exact H
 clear H
 have H := H1
 clear H1
 simp only [Option.some.injEq, Prod.mk.injEq] at H
 obtain ⟨rfl, rfl⟩ := H
 go_enter Try.func24, Try.ntmps24
 try go_wp2_with (first | ((with_reducible refine gate_dst (N := 5) rfl ?_); refine box_event ?hg (N := 5) ?hd (cs := #[.int .i64 a2_0, .int .i64 a2_1]) (t := 27) ?hr ?_; (case hd => rfl); (case hg => rfl); (case hr => first | (go_simp; done) | (go_simp; rfl)); intro gb338 hg w73 hbox hb; have BK338 := Aside0.mk (hbox); have GE338 := Aside0.mk (bG hg (HB.out)); replace HB := Aside0.mk (below_step (HB.out) hb); clear hb hbox hg))
 replace BK338 := Aside0.mk (blk_drew BK338.out)
 replace HB := Aside0.mk (below_drew1 HB.out)
 refine start_ (n := 15) (S := fun w' => w'.cell? ⟨gb338, 0, none⟩ = some (.int .i64 a2_0) ∧ w'.cell? ⟨gb338, 1, none⟩ = some (.int .i64 a2_1)) (ds := []) #[false, false, false, false, false, false, false, false, false, false, false, false, false, false, false] (by kernel_rfl) rfl rfl ⟨(blk_cell BK338.out 0).trans rfl, (blk_cell BK338.out 1).trans rfl⟩ (fun hHeld => ?_); refine with_tabW relievoref03_floor.tab1 relievoref03_floor.bits1 (fun HT_ HW_ => ?_)
 generalize w73.drew = w74 at BK338 HB hHeld ⊢
 refine pure_ (i := 0) (N := some 14) (v := ?_) (a' := ?_) (bm 15 1) rfl rfl (any_of HT_.out (by kernel_rfl)) (fun _ _ _ h => h) (Or.inl ⟨by rfl, ?_⟩) ?_ ?_
 rotate_left
 ·intro w'
  go_simp
  with_reducible rfl
 rotate_left
 ·simp only [Act.put, List.setIfInBounds_toArray, List.set_cons_zero, List.set_cons_succ, i64_w, i32_w]
  rfl
 refine pure_ (i := 1) (N := some 15) (v := ?_) (a' := ?_) (bm 15 3) rfl rfl (any_of HT_.out (by kernel_rfl)) (fun _ _ _ h => h) (Or.inl ⟨by rfl, ?_⟩) ?_ ?_
 rotate_left
 ·intro w'
  go_simp
  with_reducible rfl
 rotate_left
 ·simp only [Act.put, List.setIfInBounds_toArray, List.set_cons_zero, List.set_cons_succ, i64_w, i32_w]
  rfl
 refine pure_ (i := 4) (N := some 18) (v := ?_) (a' := ?_) (bm 15 19) rfl rfl (any_of HT_.out (by kernel_rfl)) (fun _ _ _ h => h) (Or.inl ⟨by rfl, ?_⟩) ?_ ?_
 rotate_left
 ·intro w'
  go_simp
  with_reducible rfl
 rotate_left
 ·simp only [Act.put, List.setIfInBounds_toArray, List.set_cons_zero, List.set_cons_succ, i64_w, i32_w]
  rfl
 refine take_ (i := 2) (N := some 16) (v := ?_) (a' := ?_) (bm 15 23) rfl rfl (take_ofW HT_.out HW_.out (by kernel_rfl)) (fun _ _ _ h => h) (Or.inl ⟨by rfl, ?_⟩) hHeld ?_ ?_
 rotate_left
 ·rintro w' ⟨s0, s1⟩
  go_simp
  with_reducible rfl
 rotate_left
 ·simp only [Act.put, List.setIfInBounds_toArray, List.set_cons_zero, List.set_cons_succ, i64_w, i32_w]
  rfl
 refine take_ (i := 5) (N := some 19) (v := ?_) (a' := ?_) (bm 15 55) rfl rfl (take_ofW HT_.out HW_.out (by kernel_rfl)) (fun _ _ _ h => h) (Or.inl ⟨by rfl, ?_⟩) hHeld ?_ ?_
 rotate_left
 ·rintro w' ⟨s0, s1⟩
  go_simp
  with_reducible rfl
 rotate_left
 ·simp only [Act.put, List.setIfInBounds_toArray, List.set_cons_zero, List.set_cons_succ, i64_w, i32_w]
  rfl
 refine join_ (σ := Nat) 3 (bm 15 4095) (fun s_ => [(17, .agg #[.int .i64 t339, .int .u64 t340]), (20, .tuple #[.agg #[.int .i64 t341, .int .u64 t342], .int .i64 t343, .bool false]), (8, .pointer (some ⟨s_, 0, none⟩)), (13, .tuple #[.agg #[.int .i64 t341, .int .u64 t342], .int .i64 t343, .bool false]), (21, .agg #[.int .i64 t341, .int .u64 t342]), (22, .int .i64 t343), (23, .bool false)]) (fun s_ w' => (w'.cell? ⟨gb338, 0, none⟩ = some (.int .i64 a2_0) ∧ w'.cell? ⟨gb338, 1, none⟩ = some (.int .i64 a2_1)) ∧ (w'.heap[gb338]? = some (.cells #[.int .i64 a2_0, .int .i64 a2_1] 27 (0, 0))) ∧ (w'.heap[s_]? = some (.cells #[.int .i64 0, .int .u64 0] 53 (0, 0))) ∧ (w.heap.size ≤ s_) ∧ (gb338 ≠ s_) ∧ (s_ ≠ gb338) ∧ (Below w.heap.size w w')) ?_ ?_
 rotate_left
 ·intro hCont
  refine two_ (i := 3) (j := 11) (Ni := some 17) (Nj := some 8) (bm 15 63) (bm 15 2103) rfl rfl rfl rfl (two_of HT_.out (by kernel_rfl)) (by decide) (by decide) (fun K hK => ?_) (fun K hK => ?_)
  ·skip
   refine goes_ Try.func34 (by kernel_rfl) rfl #[.int .i64 a1, .int .i64 a2_0] (by rfl) rfl rfl (by (try simp only [List.map_toArray, List.map_cons, List.map_nil]); first | done | rfl | (simp only [List.length_drop, List.length_take]; rfl)) ?_
   with_reducible refine (relievoref01_Mul.calls a1 a2_0 t339 t340 _ A4.out).mono ?_
   rintro e w75 ⟨rfl, hb⟩
   refine ⟨_, rfl, ?_⟩
   replace BK338 := cB hb BK338
   replace HB := Aside0.mk (below_step (HB.out) hb)
   (try clear hb)
   (try clear hb2)
   (try clear hk)
   (try clear hi)
   refine hK.out _ _ ⟨(blk_cell BK338.out 0).trans rfl, (blk_cell BK338.out 1).trans rfl⟩ (fun hHeld => ?_)
   clear hK K
   refine norm_ (a' := ?_) ?_ ?_
   rotate_left
   ·show Act.put _ (some 17) _ = _
    simp only [Act.put, List.setIfInBounds_toArray, List.set_cons_zero, List.set_cons_succ, i64_w, i32_w]
    rfl
   refine two_ (i := 6) (j := 11) (Ni := some 20) (Nj := some 8) (bm 15 127) (bm 15 2111) rfl rfl rfl rfl (two_of HT_.out (by kernel_rfl)) (by decide) (by decide) (fun K hK => ?_) (fun K hK => ?_)
   ·skip
    refine goes_ Try.func33 (by kernel_rfl) rfl #[.agg #[.int .i64 t339, .int .u64 t340], .int .i64 a2_1] (by rfl) rfl rfl (by (try simp only [List.map_toArray, List.map_cons, List.map_nil]); first | done | rfl | (simp only [List.length_drop, List.length_take]; rfl)) ?_
    with_reducible refine (relievoref01_Div.calls t339 t340 a2_1 t341 t342 t343 false _ A5.out).mono ?_
    rintro e w76 ⟨rfl, hb⟩
    refine ⟨_, rfl, ?_⟩
    replace BK338 := cB hb BK338
    replace HB := Aside0.mk (below_step (HB.out) hb)
    (try clear hb)
    (try clear hb2)
    (try clear hk)
    (try clear hi)
    refine hK.out _ _ ⟨(blk_cell BK338.out 0).trans rfl, (blk_cell BK338.out 1).trans rfl⟩ (fun hHeld => ?_)
    clear hK K
    refine norm_ (a' := ?_) ?_ ?_
    rotate_left
    ·show Act.put _ (some 20) _ = _
     simp only [Act.put, List.setIfInBounds_toArray, List.set_cons_zero, List.set_cons_succ, i64_w, i32_w]
     rfl
    refine pure_ (i := 7) (N := some 13) (v := ?_) (a' := ?_) (bm 15 255) rfl rfl (any_of HT_.out (by kernel_rfl)) (fun _ _ _ h => h) (Or.inl ⟨by rfl, ?_⟩) ?_ ?_
    rotate_left
    ·intro w'
     go_simp
     with_reducible rfl
    rotate_left
    ·simp only [Act.put, List.setIfInBounds_toArray, List.set_cons_zero, List.set_cons_succ, i64_w, i32_w]
     rfl
    refine pure_ (i := 8) (N := some 21) (v := ?_) (a' := ?_) (bm 15 511) rfl rfl (any_of HT_.out (by kernel_rfl)) (fun _ _ _ h => h) (Or.inl ⟨by rfl, ?_⟩) ?_ ?_
    rotate_left
    ·intro w'
     go_simp
     with_reducible rfl
    rotate_left
    ·simp only [Act.put, List.setIfInBounds_toArray, List.set_cons_zero, List.set_cons_succ, i64_w, i32_w]
     rfl
    refine pure_ (i := 9) (N := some 22) (v := ?_) (a' := ?_) (bm 15 1023) rfl rfl (any_of HT_.out (by kernel_rfl)) (fun _ _ _ h => h) (Or.inl ⟨by rfl, ?_⟩) ?_ ?_
    rotate_left
    ·intro w'
     go_simp
     with_reducible rfl
    rotate_left
    ·simp only [Act.put, List.setIfInBounds_toArray, List.set_cons_zero, List.set_cons_succ, i64_w, i32_w]
     rfl
    refine pure_ (i := 10) (N := some 23) (v := ?_) (a' := ?_) (bm 15 2047) rfl rfl (any_of HT_.out (by kernel_rfl)) (fun _ _ _ h => h) (Or.inl ⟨by rfl, ?_⟩) ?_ ?_
    rotate_left
    ·intro w'
     go_simp
     with_reducible rfl
    rotate_left
    ·simp only [Act.put, List.setIfInBounds_toArray, List.set_cons_zero, List.set_cons_succ, i64_w, i32_w]
     rfl
    refine one_ (i := 11) (N := some 8) (bm 15 4095) rfl rfl (one_of HT_.out (by kernel_rfl)) (by decide) (fun K hK => ?_)
    refine box_step ?hg (N := 8) ?hd (cs := #[.int .i64 0, .int .u64 0]) (t := 53) ?hr ?_; (case hd => rfl); (case hg => rfl); (case hr => first | (go_simp; done) | (go_simp; rfl))
    intro gb345 hg w77 hbox hb
    have BK345 := Aside0.mk (hbox)
    have GE345 := Aside0.mk (bG hg (HB.out))
    have NB338_345 := cN hg BK338
    have NB345_338 := cM hg BK338
    replace BK338 := cB hb BK338
    replace HB := Aside0.mk (below_step (HB.out) hb)
    clear hb hbox hg
    refine hK.out _ _ ⟨(blk_cell BK338.out 0).trans rfl, (blk_cell BK338.out 1).trans rfl⟩ (fun hHeld => ?_)
    clear hK K
    refine norm_ (a' := ?_) ?_ ?_
    rotate_left
    ·show Act.put _ (some 8) _ = _
     simp only [Act.put, List.setIfInBounds_toArray, List.set_cons_zero, List.set_cons_succ, i64_w, i32_w]
     rfl
    exact norm_ (by simp only [putAll, Act.put, List.setIfInBounds_toArray, List.set_cons_zero, List.set_cons_succ]) (hCont (gb345) _ ⟨hHeld, (BK338.out), (BK345.out), GE345.out, NB338_345.out, NB345_338.out, (HB.out)⟩)
   skip
   refine box_step ?hg (N := 8) ?hd (cs := #[.int .i64 0, .int .u64 0]) (t := 53) ?hr ?_; (case hd => rfl); (case hg => rfl); (case hr => first | (go_simp; done) | (go_simp; rfl))
   intro gb345 hg w76 hbox hb
   have BK345 := Aside0.mk (hbox)
   have GE345 := Aside0.mk (bG hg (HB.out))
   have NB338_345 := cN hg BK338
   have NB345_338 := cM hg BK338
   replace BK338 := cB hb BK338
   replace HB := Aside0.mk (below_step (HB.out) hb)
   clear hb hbox hg
   refine hK.out _ _ ⟨(blk_cell BK338.out 0).trans rfl, (blk_cell BK338.out 1).trans rfl⟩ (fun hHeld => ?_)
   clear hK K
   refine norm_ (a' := ?_) ?_ ?_
   rotate_left
   ·show Act.put _ (some 8) _ = _
    simp only [Act.put, List.setIfInBounds_toArray, List.set_cons_zero, List.set_cons_succ, i64_w, i32_w]
    rfl
   refine one_ (i := 6) (N := some 20) (bm 15 2175) rfl rfl (one_of HT_.out (by kernel_rfl)) (by decide) (fun K hK => ?_)
   refine goes_ Try.func33 (by kernel_rfl) rfl #[.agg #[.int .i64 t339, .int .u64 t340], .int .i64 a2_1] (by rfl) rfl rfl (by (try simp only [List.map_toArray, List.map_cons, List.map_nil]); first | done | rfl | (simp only [List.length_drop, List.length_take]; rfl)) ?_
   with_reducible refine (relievoref01_Div.calls t339 t340 a2_1 t341 t342 t343 false _ A5.out).mono ?_
   rintro e w77 ⟨rfl, hb⟩
   refine ⟨_, rfl, ?_⟩
   replace BK338 := cB hb BK338
   replace BK345 := cB hb BK345
   replace HB := Aside0.mk (below_step (HB.out) hb)
   (try clear hb)
   (try clear hb2)
   (try clear hk)
   (try clear hi)
   refine hK.out _ _ ⟨(blk_cell BK338.out 0).trans rfl, (blk_cell BK338.out 1).trans rfl⟩ (fun hHeld => ?_)
   clear hK K
   refine norm_ (a' := ?_) ?_ ?_
   rotate_left
   ·show Act.put _ (some 20) _ = _
    simp only [Act.put, List.setIfInBounds_toArray, List.set_cons_zero, List.set_cons_succ, i64_w, i32_w]
    rfl
   refine pure_ (i := 7) (N := some 13) (v := ?_) (a' := ?_) (bm 15 2303) rfl rfl (any_of HT_.out (by kernel_rfl)) (fun _ _ _ h => h) (Or.inl ⟨by rfl, ?_⟩) ?_ ?_
   rotate_left
   ·intro w'
    go_simp
    with_reducible rfl
   rotate_left
   ·simp only [Act.put, List.setIfInBounds_toArray, List.set_cons_zero, List.set_cons_succ, i64_w, i32_w]
    rfl
   refine pure_ (i := 8) (N := some 21) (v := ?_) (a' := ?_) (bm 15 2559) rfl rfl (any_of HT_.out (by kernel_rfl)) (fun _ _ _ h => h) (Or.inl ⟨by rfl, ?_⟩) ?_ ?_
   rotate_left
   ·intro w'
    go_simp
    with_reducible rfl
   rotate_left
   ·simp only [Act.put, List.setIfInBounds_toArray, List.set_cons_zero, List.set_cons_succ, i64_w, i32_w]
    rfl
   refine pure_ (i := 9) (N := some 22) (v := ?_) (a' := ?_) (bm 15 3071) rfl rfl (any_of HT_.out (by kernel_rfl)) (fun _ _ _ h => h) (Or.inl ⟨by rfl, ?_⟩) ?_ ?_
   rotate_left
   ·intro w'
    go_simp
    with_reducible rfl
   rotate_left
   ·simp only [Act.put, List.setIfInBounds_toArray, List.set_cons_zero, List.set_cons_succ, i64_w, i32_w]
    rfl
   refine pure_ (i := 10) (N := some 23) (v := ?_) (a' := ?_) (bm 15 4095) rfl rfl (any_of HT_.out (by kernel_rfl)) (fun _ _ _ h => h) (Or.inl ⟨by rfl, ?_⟩) ?_ ?_
   rotate_left
   ·intro w'
    go_simp
    with_reducible rfl
   rotate_left
   ·simp only [Act.put, List.setIfInBounds_toArray, List.set_cons_zero, List.set_cons_succ, i64_w, i32_w]
    rfl
   exact norm_ (by simp only [putAll, Act.put, List.setIfInBounds_toArray, List.set_cons_zero, List.set_cons_succ]) (hCont (gb345) _ ⟨hHeld, (BK338.out), (BK345.out), GE345.out, NB338_345.out, NB345_338.out, (HB.out)⟩)
  skip
  refine box_step ?hg (N := 8) ?hd (cs := #[.int .i64 0, .int .u64 0]) (t := 53) ?hr ?_; (case hd => rfl); (case hg => rfl); (case hr => first | (go_simp; done) | (go_simp; rfl))
  intro gb345 hg w75 hbox hb
  have BK345 := Aside0.mk (hbox)
  have GE345 := Aside0.mk (bG hg (HB.out))
  have NB338_345 := cN hg BK338
  have NB345_338 := cM hg BK338
  replace BK338 := cB hb BK338
  replace HB := Aside0.mk (below_step (HB.out) hb)
  clear hb hbox hg
  refine hK.out _ _ ⟨(blk_cell BK338.out 0).trans rfl, (blk_cell BK338.out 1).trans rfl⟩ (fun hHeld => ?_)
  clear hK K
  refine norm_ (a' := ?_) ?_ ?_
  rotate_left
  ·show Act.put _ (some 8) _ = _
   simp only [Act.put, List.setIfInBounds_toArray, List.set_cons_zero, List.set_cons_succ, i64_w, i32_w]
   rfl
  refine one_ (i := 3) (N := some 17) (bm 15 2111) rfl rfl (one_of HT_.out (by kernel_rfl)) (by decide) (fun K hK => ?_)
  refine goes_ Try.func34 (by kernel_rfl) rfl #[.int .i64 a1, .int .i64 a2_0] (by rfl) rfl rfl (by (try simp only [List.map_toArray, List.map_cons, List.map_nil]); first | done | rfl | (simp only [List.length_drop, List.length_take]; rfl)) ?_
  with_reducible refine (relievoref01_Mul.calls a1 a2_0 t339 t340 _ A4.out).mono ?_
  rintro e w76 ⟨rfl, hb⟩
  refine ⟨_, rfl, ?_⟩
  replace BK338 := cB hb BK338
  replace BK345 := cB hb BK345
  replace HB := Aside0.mk (below_step (HB.out) hb)
  (try clear hb)
  (try clear hb2)
  (try clear hk)
  (try clear hi)
  refine hK.out _ _ ⟨(blk_cell BK338.out 0).trans rfl, (blk_cell BK338.out 1).trans rfl⟩ (fun hHeld => ?_)
  clear hK K
  refine norm_ (a' := ?_) ?_ ?_
  rotate_left
  ·show Act.put _ (some 17) _ = _
   simp only [Act.put, List.setIfInBounds_toArray, List.set_cons_zero, List.set_cons_succ, i64_w, i32_w]
   rfl
  refine one_ (i := 6) (N := some 20) (bm 15 2175) rfl rfl (one_of HT_.out (by kernel_rfl)) (by decide) (fun K hK => ?_)
  refine goes_ Try.func33 (by kernel_rfl) rfl #[.agg #[.int .i64 t339, .int .u64 t340], .int .i64 a2_1] (by rfl) rfl rfl (by (try simp only [List.map_toArray, List.map_cons, List.map_nil]); first | done | rfl | (simp only [List.length_drop, List.length_take]; rfl)) ?_
  with_reducible refine (relievoref01_Div.calls t339 t340 a2_1 t341 t342 t343 false _ A5.out).mono ?_
  rintro e w77 ⟨rfl, hb⟩
  refine ⟨_, rfl, ?_⟩
  replace BK338 := cB hb BK338
  replace BK345 := cB hb BK345
  replace HB := Aside0.mk (below_step (HB.out) hb)
  (try clear hb)
  (try clear hb2)
  (try clear hk)
  (try clear hi)
  refine hK.out _ _ ⟨(blk_cell BK338.out 0).trans rfl, (blk_cell BK338.out 1).trans rfl⟩ (fun hHeld => ?_)
  clear hK K
  refine norm_ (a' := ?_) ?_ ?_
  rotate_left
  ·show Act.put _ (some 20) _ = _
   simp only [Act.put, List.setIfInBounds_toArray, List.set_cons_zero, List.set_cons_succ, i64_w, i32_w]
   rfl
  refine pure_ (i := 7) (N := some 13) (v := ?_) (a' := ?_) (bm 15 2303) rfl rfl (any_of HT_.out (by kernel_rfl)) (fun _ _ _ h => h) (Or.inl ⟨by rfl, ?_⟩) ?_ ?_
  rotate_left
  ·intro w'
   go_simp
   with_reducible rfl
  rotate_left
  ·simp only [Act.put, List.setIfInBounds_toArray, List.set_cons_zero, List.set_cons_succ, i64_w, i32_w]
   rfl
  refine pure_ (i := 8) (N := some 21) (v := ?_) (a' := ?_) (bm 15 2559) rfl rfl (any_of HT_.out (by kernel_rfl)) (fun _ _ _ h => h) (Or.inl ⟨by rfl, ?_⟩) ?_ ?_
  rotate_left
  ·intro w'
   go_simp
   with_reducible rfl
  rotate_left
  ·simp only [Act.put, List.setIfInBounds_toArray, List.set_cons_zero, List.set_cons_succ, i64_w, i32_w]
   rfl
  refine pure_ (i := 9) (N := some 22) (v := ?_) (a' := ?_) (bm 15 3071) rfl rfl (any_of HT_.out (by kernel_rfl)) (fun _ _ _ h => h) (Or.inl ⟨by rfl, ?_⟩) ?_ ?_
  rotate_left
  ·intro w'
   go_simp
   with_reducible rfl
  rotate_left
  ·simp only [Act.put, List.setIfInBounds_toArray, List.set_cons_zero, List.set_cons_succ, i64_w, i32_w]
   rfl
  refine pure_ (i := 10) (N := some 23) (v := ?_) (a' := ?_) (bm 15 4095) rfl rfl (any_of HT_.out (by kernel_rfl)) (fun _ _ _ h => h) (Or.inl ⟨by rfl, ?_⟩) ?_ ?_
  rotate_left
  ·intro w'
   go_simp
   with_reducible rfl
  rotate_left
  ·simp only [Act.put, List.setIfInBounds_toArray, List.set_cons_zero, List.set_cons_succ, i64_w, i32_w]
   rfl
  exact norm_ (by simp only [putAll, Act.put, List.setIfInBounds_toArray, List.set_cons_zero, List.set_cons_succ]) (hCont (gb345) _ ⟨hHeld, (BK338.out), (BK345.out), GE345.out, NB338_345.out, NB345_338.out, (HB.out)⟩)
 rintro gb345 w78 ⟨hS_, h0_, h1_, h2_, h3_, h4_, h5_⟩
 have n0_ : Aside0 (w78.heap[gb338]? = some (.cells #[.int .i64 a2_0, .int .i64 a2_1] 27 (0, 0))) := ⟨h0_⟩
 have n1_ : Aside0 (w78.heap[gb345]? = some (.cells #[.int .i64 0, .int .u64 0] 53 (0, 0))) := ⟨h1_⟩
 have GE345 : Aside0 (w.heap.size ≤ gb345) := ⟨h2_⟩
 have NB338_345 : Aside0 (gb338 ≠ gb345) := ⟨h3_⟩
 have NB345_338 : Aside0 (gb345 ≠ gb338) := ⟨h4_⟩
 have n5_ : Aside0 (Below w.heap.size w w78) := ⟨h5_⟩
 clear BK338
 clear HB
 clear h0_ h1_ h2_ h3_ h4_ h5_
 have BK338 := n0_
 have BK345 := n1_
 have HB := n5_
 clear n0_ n1_ n5_
 have hHeld : w78.cell? ⟨gb338, 0, none⟩ = some (.int .i64 a2_0) ∧ w78.cell? ⟨gb338, 1, none⟩ = some (.int .i64 a2_1) := hS_
 refine norm_ (a' := ?_) ?_ ?_
 rotate_left
 ·simp only [putAll, Act.put, List.setIfInBounds_toArray, List.set_cons_zero, List.set_cons_succ]
  rfl
 refine one_ (i := 12) (N := none) (bm 15 8191) rfl rfl (one_of HT_.out (by kernel_rfl)) (by decide) (fun K hK => ?_)
 have hs79 : w78.cell? ⟨gb345, 0, none⟩ = some (.int .i64 0) := (blk_cell BK345.out 0).trans rfl
 have hfs79 := blk_frozen BK345.out 0
 have hns79_0 := NB338_345.out
 have hms79_0 := NB345_338.out
 have hs80 : w78.cell? ⟨gb345, 1, none⟩ = some (.int .u64 0) := (blk_cell BK345.out 1).trans rfl
 have hfs80 := blk_frozen BK345.out 1
 have hns80_0 := NB338_345.out
 have hms80_0 := NB345_338.out
 refine skip_ (w1 := ?_) (by rfl) rfl ?_ ?_
 rotate_left
 ·go_simp
  rfl
 refine hK.out _ _ ⟨(cf NB338_345.out (cf NB338_345.out hHeld.1)), (cf NB338_345.out (cf NB338_345.out hHeld.2))⟩ (fun hHeld => ?_)
 clear hK K
 refine pure_ (i := 13) (N := some 9) (v := ?_) (a' := ?_) (bm 15 16383) rfl rfl (any_of HT_.out (by kernel_rfl)) (fun _ _ _ h => h) (Or.inl ⟨by rfl, ?_⟩) ?_ ?_
 rotate_left
 ·intro w'
  go_simp
  with_reducible rfl
 rotate_left
 ·simp only [Act.put, List.setIfInBounds_toArray, List.set_cons_zero, List.set_cons_succ, i64_w, i32_w]
  rfl
 refine pure_ (i := 14) (N := some 10) (v := ?_) (a' := ?_) (bm 15 32767) rfl rfl (any_of HT_.out (by kernel_rfl)) (fun _ _ _ h => h) (Or.inl ⟨by rfl, ?_⟩) ?_ ?_
 rotate_left
 ·intro w'
  go_simp
  with_reducible rfl
 rotate_left
 ·simp only [Act.put, List.setIfInBounds_toArray, List.set_cons_zero, List.set_cons_succ, i64_w, i32_w]
  rfl
 refine done_ (done_of HT_.out (by kernel_rfl)) ?_
 obtain ⟨hcz81_0, hcz81_1⟩ := cells2 BK345.out
 have hfz81_0 := blk_frozen BK345.out 0
 have hfz81_1 := blk_frozen BK345.out 1
 try go_wp2_with (first | ((with_reducible refine gate_callee (f := 35) rfl ?_); refine goesL_ (some 26) rfl rfl Try.func35 (by kernel_rfl) rfl #[.agg #[.int .i64 t341, .int .u64 t342]] rfl (by (try simp only [List.map_toArray, List.map_cons, List.map_nil]); first | done | rfl | (simp only [List.length_drop, List.length_take]; rfl)) ?_; (with_reducible refine (relievoref01_Int.calls t341 t342 t346 t347 _ A6.out).mono ?_); rintro e w82 ⟨rfl, hb⟩; refine ⟨_, rfl, ?_⟩; replace BK345 := Aside0.mk (bB hb ((blk_put (cs' := #[.int .i64 t341, .int .u64 t342]) (blk_put BK345.out 0 _ rfl) 1 _ rfl))); replace HB := Aside0.mk (below_step ((below_set (below_set HB.out GE345.out) GE345.out)) hb); (try clear hb); (try clear hb2); (try clear hk); (try clear hi)))
 go_ret2
 exact ⟨by first | rfl | (simp [errW_none, errW_some] <;> rfl) | (simp [*, errW_none, errW_some] <;> rfl), HB.out⟩

end Go.Proofs.Ytfmbophennepdaa.G
