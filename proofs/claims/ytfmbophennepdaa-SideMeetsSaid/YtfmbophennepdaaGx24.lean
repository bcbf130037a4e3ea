-- Written by a program of this session (wip/gen), out of the translation; Lean checks it.
import Derived.Test.YtfmbophennepdaaGx0
import Derived.Test.YtfmbophennepdaaGxVec
namespace Go.Proofs.Ytfmbophennepdaa.G
open Go.RowKit Go.Proofs.YtfmbophennepdaaW.PrintWords Go.Proofs.YtfmbophennepdaaW.PrintLast Go.Proofs.YtfmbophennepdaaW.PrintMore
attribute [local go_sem high] idx43_0 idx43_1 idx43_2 wl0 wl1 wl2 wl3 wl4 wl5 tm0_3 tm1_3 tm2_3 tm3_3 tm4_3 tm5_3
attribute [local go_sem] max2_int min2_int max_two min_two max_three min_three max_four min_four   -- for this text's walks alone
set_option linter.unusedVariables false
set_option linter.unusedSimpArgs false

/-! ### relievoref03_pass: function 18 -/
def relievoref03_pass.j0 : Nat → Int → Int → Int → Int → Option (Int)
  | 0, _, _, _, _ => none
  | k + 1, x9, x249000, x249001, x249002 => if x9 = 0 then ((relievoref03_sign.f x249001).bind fun t250 => (if t250 = 0 then ((relievoref03_sign.f x249002).bind fun t251 => (some t251)) else (some t250))) else (some x9)
def relievoref03_pass.f (k : Nat) (a0_0 : Int) (a0_1 : Int) (a0_2 : Int) (a1_0 : Int) (a1_1 : Int) (a1_2 : Int) (a2_0 : Int) (a2_1 : Int) (a2_2 : Int) (a3_0 : Int) (a3_1 : Int) (a3_2 : Int) : Option (Int) := (relievoref02_Sub.f a2_0 a2_1 a2_2 a0_0 a0_1 a0_2).bind fun bt231 => ((relievoref02_Sub.f a3_0 a3_1 a3_2 a0_0 a0_1 a0_2).bind fun bt234 => ((relievoref02_Cross.f bt231.1 bt231.2.1 bt231.2.2 bt234.1 bt234.2.1 bt234.2.2).bind fun bt237 => ((relievoref02_Dot.f a1_0 a1_1 a1_2 bt237.1 bt237.2.1 bt237.2.2).bind fun t240 => ((relievoref03_sign.f t240).bind fun t241 => ((relievoref02_Sub.f a2_0 a2_1 a2_2 a3_0 a3_1 a3_2).bind fun bt242 => ((relievoref02_Cross.f bt242.1 bt242.2.1 bt242.2.2 a1_0 a1_1 a1_2).bind fun bt245 => (if t241 = 0 then ((relievoref03_sign.f bt245.1).bind fun t249 => (relievoref03_pass.j0 k t249 bt245.1 bt245.2.1 bt245.2.2)) else (relievoref03_pass.j0 k t241 bt245.1 bt245.2.1 bt245.2.2))))))))
theorem relievoref03_pass.mono_l : ∀ k, (∀ y0 y1 y2 y3, LeO (relievoref03_pass.j0 k y0 y1 y2 y3) (relievoref03_pass.j0 (k + 1) y0 y1 y2 y3))
  | 0 => fun _ _ _ _ r h => by simp [relievoref03_pass.j0] at h
  | k + 1 => by
    have ih0 := relievoref03_pass.mono_l k
    · intro y0 y1 y2 y3
      unfold relievoref03_pass.j0
      repeat' first
      | (with_reducible exact ih0 _ _ _ _)
      | (with_reducible exact LeO.refl _)
      | (with_reducible exact LeO.none _)
      | (with_reducible refine LeO.ite ?_ ?_)
      | (with_reducible refine LeO.bind ?_ (fun _ => ?_))
      | exact ih0 _ _ _ _
      | exact LeO.none _
      | refine LeO.ite ?_ ?_
      | refine LeO.bind ?_ (fun _ => ?_)
theorem relievoref03_pass.mono : ∀ a0 a1 a2 a3 a4 a5 a6 a7 a8 a9 a10 a11 k, LeO (relievoref03_pass.f k a0 a1 a2 a3 a4 a5 a6 a7 a8 a9 a10 a11) (relievoref03_pass.f (k + 1) a0 a1 a2 a3 a4 a5 a6 a7 a8 a9 a10 a11) := by
  intro a0 a1 a2 a3 a4 a5 a6 a7 a8 a9 a10 a11 k
  have ih0 := relievoref03_pass.mono_l k
  unfold relievoref03_pass.f
  repeat' first
      | (with_reducible exact ih0 _ _ _ _)
      | (with_reducible exact LeO.refl _)
      | (with_reducible exact LeO.none _)
      | (with_reducible refine LeO.ite ?_ ?_)
      | (with_reducible refine LeO.bind ?_ (fun _ => ?_))
      | exact ih0 _ _ _ _
      | exact LeO.none _
      | refine LeO.ite ?_ ?_
      | refine LeO.bind ?_ (fun _ => ?_)
def relievoref03_pass.T1 : Bool × List (List Nat × List Nat) := (true, [([], []), ([], []), ([], []), ([1, 2], [1, 2]), ([], []), ([], []), ([4, 5, 3], [4, 5]), ([3, 6, 6], [3, 6]), ([0, 7, 7], [0, 7]), ([8, 8], [8]), ([9, 9, 0, 1, 2, 3, 4, 5, 6, 7, 8, 9], [9])])
def relievoref03_pass.B1 : List Nat := [0, 0, 0, 6, 0, 0, 62, 126, 255, 511, 1023]
theorem relievoref03_pass.tab1 : rtab .any (opsOf Try.f18 1) = relievoref03_pass.T1 := by kernel_rfl
theorem relievoref03_pass.bits1 : waitsOk relievoref03_pass.T1.2 relievoref03_pass.B1 = true := by kernel_rfl
set_option maxHeartbeats 8000000 in
set_option maxRecDepth 100000 in
theorem relievoref03_pass.calls (k : Nat) (a0_0 : Int) (a0_1 : Int) (a0_2 : Int) (a1_0 : Int) (a1_1 : Int) (a1_2 : Int) (a2_0 : Int) (a2_1 : Int) (a2_2 : Int) (a3_0 : Int) (a3_1 : Int) (a3_2 : Int) (r : Int) (w : World) (h : relievoref03_pass.f k a0_0 a0_1 a0_2 a1_0 a1_1 a1_2 a2_0 a2_1 a2_2 a3_0 a3_1 a3_2 = some r) :
    Calls Try.prog 18 #[.agg #[.int .i64 a0_0, .int .i64 a0_1, .int .i64 a0_2], .agg #[.int .i64 a1_0, .int .i64 a1_1, .int .i64 a1_2], .agg #[.int .i64 a2_0, .int .i64 a2_1, .int .i64 a2_2], .agg #[.int .i64 a3_0, .int .i64 a3_1, .int .i64 a3_2]] w fun e w' => e = .returned (.int .i64 r) ∧ Below w.heap.size w w' := by
 have hu23 := Try.underlying23
 have HB := Aside0.mk (Below.refl w.heap.size w)
 have H : ((relievoref02_Sub.f a2_0 a2_1 a2_2 a0_0 a0_1 a0_2).bind fun bt231 => ((relievoref02_Sub.f a3_0 a3_1 a3_2 a0_0 a0_1 a0_2).bind fun bt234 => ((relievoref02_Cross.f bt231.1 bt231.2.1 bt231.2.2 bt234.1 bt234.2.1 bt234.2.2).bind fun bt237 => ((relievoref02_Dot.f a1_0 a1_1 a1_2 bt237.1 bt237.2.1 bt237.2.2).bind fun t240 => ((relievoref03_sign.f t240).bind fun t241 => ((relievoref02_Sub.f a2_0 a2_1 a2_2 a3_0 a3_1 a3_2).bind fun bt242 => ((relievoref02_Cross.f bt242.1 bt242.2.1 bt242.2.2 a1_0 a1_1 a1_2).bind fun bt245 => (if t241 = 0 then ((relievoref03_sign.f bt245.1).bind fun t249 => (relievoref03_pass.j0 k t249 bt245.1 bt245.2.1 bt245.2.2)) else (relievoref03_pass.j0 k t241 bt245.1 bt245.2.1 bt245.2.2))))))))) = some r := h
 clear h
 replace H := Option.bind_eq_some_iff.mp H
 obtain ⟨⟨t231, t232, t233⟩, A50, H⟩ := H
 replace H : ((relievoref02_Sub.f a3_0 a3_1 a3_2 a0_0 a0_1 a0_2).bind fun bt234 => ((relievoref02_Cross.f t231 t232 t233 bt234.1 bt234.2.1 bt234.2.2).bind fun bt237 => ((relievoref02_Dot.f a1_0 a1_1 a1_2 bt237.1 bt237.2.1 bt237.2.2).bind fun t240 => ((relievoref03_sign.f t240).bind fun t241 => ((relievoref02_Sub.f a2_0 a2_1 a2_2 a3_0 a3_1 a3_2).bind fun bt242 => ((relievoref02_Cross.f bt242.1 bt242.2.1 bt242.2.2 a1_0 a1_1 a1_2).bind fun bt245 => (if t241 = 0 then ((relievoref03_sign.f bt245.1).bind fun t249 => (relievoref03_pass.j0 k t249 bt245.1 bt245.2.1 bt245.2.2)) else (relievoref03_pass.j0 k t241 bt245.1 bt245.2.1 bt245.2.2)))))))) = some r := H
 have A5 := Aside0.mk A50
 clear A50
 replace H := Option.bind_eq_some_iff.mp H
 obtain ⟨⟨t234, t235, t236⟩, A60, H⟩ := H
 replace H : ((relievoref02_Cross.f t231 t232 t233 t234 t235 t236).bind fun bt237 => ((relievoref02_Dot.f a1_0 a1_1 a1_2 bt237.1 bt237.2.1 bt237.2.2).bind fun t240 => ((relievoref03_sign.f t240).bind fun t241 => ((relievoref02_Sub.f a2_0 a2_1 a2_2 a3_0 a3_1 a3_2).bind fun bt242 => ((relievoref02_Cross.f bt242.1 bt242.2.1 bt242.2.2 a1_0 a1_1 a1_2).bind fun bt245 => (if t241 = 0 then ((relievoref03_sign.f bt245.1).bind fun t249 => (relievoref03_pass.j0 k t249 bt245.1 bt245.2.1 bt245.2.2)) else (relievoref03_pass.j0 k t241 bt245.1 bt245.2.1 bt245.2.2))))))) = some r := H
 have A6 := Aside0.mk A60
 clear A60
 replace H := Option.bind_eq_some_iff.mp H
 obtain ⟨⟨t237, t238, t239⟩, A70, H⟩ := H
 replace H : ((relievoref02_Dot.f a1_0 a1_1 a1_2 t237 t238 t239).bind fun t240 => ((relievoref03_sign.f t240).bind fun t241 => ((relievoref02_Sub.f a2_0 a2_1 a2_2 a3_0 a3_1 a3_2).bind fun bt242 => ((relievoref02_Cross.f bt242.1 bt242.2.1 bt242.2.2 a1_0 a1_1 a1_2).bind fun bt245 => (if t241 = 0 then ((relievoref03_sign.f bt245.1).bind fun t249 => (relievoref03_pass.j0 k t249 bt245.1 bt245.2.1 bt245.2.2)) else (relievoref03_pass.j0 k t241 bt245.1 bt245.2.1 bt245.2.2)))))) = some r := H
 have A7 := Aside0.mk A70
 clear A70
 replace H := Option.bind_eq_some_iff.mp H
 obtain ⟨t240, A80, H⟩ := H
 replace H : ((relievoref03_sign.f t240).bind fun t241 => ((relievoref02_Sub.f a2_0 a2_1 a2_2 a3_0 a3_1 a3_2).bind fun bt242 => ((relievoref02_Cross.f bt242.1 bt242.2.1 bt242.2.2 a1_0 a1_1 a1_2).bind fun bt245 => (if t241 = 0 then ((relievoref03_sign.f bt245.1).bind fun t249 => (relievoref03_pass.j0 k t249 bt245.1 bt245.2.1 bt245.2.2)) else (relievoref03_pass.j0 k t241 bt245.1 bt245.2.1 bt245.2.2))))) = some r := H
 have A8 := Aside0.mk A80
 clear A80
 replace H := Option.bind_eq_some_iff.mp H
 obtain ⟨t241, A90, H⟩ := H
 replace H : ((relievoref02_Sub.f a2_0 a2_1 a2_2 a3_0 a3_1 a3_2).bind fun bt242 => ((relievoref02_Cross.f bt242.1 bt242.2.1 bt242.2.2 a1_0 a1_1 a1_2).bind fun bt245 => (if t241 = 0 then ((relievoref03_sign.f bt245.1).bind fun t249 => (relievoref03_pass.j0 k t249 bt245.1 bt245.2.1 bt245.2.2)) else (relievoref03_pass.j0 k t241 bt245.1 bt245.2.1 bt245.2.2)))) = some r := H
 have A9 := Aside0.mk A90
 clear A90
 replace H := Option.bind_eq_some_iff.mp H
 obtain ⟨⟨t242, t243, t244⟩, A100, H⟩ := H
 replace H : ((relievoref02_Cross.f t242 t243 t244 a1_0 a1_1 a1_2).bind fun bt245 => (if t241 = 0 then ((relievoref03_sign.f bt245.1).bind fun t249 => (relievoref03_pass.j0 k t249 bt245.1 bt245.2.1 bt245.2.2)) else (relievoref03_pass.j0 k t241 bt245.1 bt245.2.1 bt245.2.2))) = some r := H
 have A10 := Aside0.mk A100
 clear A100
 replace H := Option.bind_eq_some_iff.mp H
 obtain ⟨⟨t245, t246, t247⟩, A110, H⟩ := H
 replace H : (if t241 = 0 then ((relievoref03_sign.f t245).bind fun t249 => (relievoref03_pass.j0 k t249 t245 t246 t247)) else (relievoref03_pass.j0 k t241 t245 t246 t247)) = some r := H
 have A11 := Aside0.mk A110
 clear A110
 have HC12 := Aside0.mk H
 clear H
 go_enter Try.func18, Try.ntmps18
 try go_wp2_with (first | ((with_reducible refine gate_dst (N := 4) rfl ?_); refine box_event ?hg (N := 4) ?hd (cs := #[.int .i64 a0_0, .int .i64 a0_1, .int .i64 a0_2]) (t := 23) ?hr ?_; (case hd => rfl); (case hg => rfl); (case hr => first | (go_simp; done) | (go_simp; rfl)); intro gb227 hg w13 hbox hb; have BK227 := Aside0.mk (hbox); have GE227 := Aside0.mk (bG hg (by first | exact HB.out | (repeat (first | exact HB.out | apply pw_below_drewN | apply below_drew1 | apply below_alloc)))); replace HB := Aside0.mk (below_step (by first | exact HB.out | (repeat (first | exact HB.out | apply pw_below_drewN | apply below_drew1 | apply below_alloc))) hb); clear hb hbox hg) | ((with_reducible refine gate_dst (N := 5) rfl ?_); refine box_event ?hg (N := 5) ?hd (cs := #[.int .i64 a1_0, .int .i64 a1_1, .int .i64 a1_2]) (t := 23) ?hr ?_; (case hd => rfl); (case hg => rfl); (case hr => first | (go_simp; done) | (go_simp; rfl)); intro gb228 hg w14 hbox hb; have BK228 := Aside0.mk (hbox); have GE228 := Aside0.mk (bG hg (by first | exact HB.out | (repeat (first | exact HB.out | apply pw_below_drewN | apply below_drew1 | apply below_alloc)))); have NB227_228 := cN hg BK227; have NB228_227 := cM hg BK227; replace BK227 := cB hb BK227; replace HB := Aside0.mk (below_step (by first | exact HB.out | (repeat (first | exact HB.out | apply pw_below_drewN | apply below_drew1 | apply below_alloc))) hb); clear hb hbox hg) | ((with_reducible refine gate_dst (N := 6) rfl ?_); refine box_event ?hg (N := 6) ?hd (cs := #[.int .i64 a2_0, .int .i64 a2_1, .int .i64 a2_2]) (t := 23) ?hr ?_; (case hd => rfl); (case hg => rfl); (case hr => first | (go_simp; done) | (go_simp; rfl)); intro gb229 hg w15 hbox hb; have BK229 := Aside0.mk (hbox); have GE229 := Aside0.mk (bG hg (by first | exact HB.out | (repeat (first | exact HB.out | apply pw_below_drewN | apply below_drew1 | apply below_alloc)))); have NB227_229 := cN hg BK227; have NB229_227 := cM hg BK227; have NB228_229 := cN hg BK228; have NB229_228 := cM hg BK228; replace BK227 := cB hb BK227; replace BK228 := cB hb BK228; replace HB := Aside0.mk (below_step (by first | exact HB.out | (repeat (first | exact HB.out | apply pw_below_drewN | apply below_drew1 | apply below_alloc))) hb); clear hb hbox hg) | ((with_reducible refine gate_dst (N := 7) rfl ?_); refine box_event ?hg (N := 7) ?hd (cs := #[.int .i64 a3_0, .int .i64 a3_1, .int .i64 a3_2]) (t := 23) ?hr ?_; (case hd => rfl); (case hg => rfl); (case hr => first | (go_simp; done) | (go_simp; rfl)); intro gb230 hg w16 hbox hb; have BK230 := Aside0.mk (hbox); have GE230 := Aside0.mk (bG hg (by first | exact HB.out | (repeat (first | exact HB.out | apply pw_below_drewN | apply below_drew1 | apply below_alloc)))); have NB227_230 := cN hg BK227; have NB230_227 := cM hg BK227; have NB228_230 := cN hg BK228; have NB230_228 := cM hg BK228; have NB229_230 := cN hg BK229; have NB230_229 := cM hg BK229; replace BK227 := cB hb BK227; replace BK228 := cB hb BK228; replace BK229 := cB hb BK229; replace HB := Aside0.mk (below_step (by first | exact HB.out | (repeat (first | exact HB.out | apply pw_below_drewN | apply below_drew1 | apply below_alloc))) hb); clear hb hbox hg))
 replace BK227 := Aside0.mk (blk_drew BK227.out)
 replace BK228 := Aside0.mk (blk_drew BK228.out)
 replace BK229 := Aside0.mk (blk_drew BK229.out)
 replace BK230 := Aside0.mk (blk_drew BK230.out)
 replace HB := Aside0.mk (below_drew1 HB.out)
 refine start_ (n := 11) (S := fun w' => w'.cell? ⟨gb228, 0, none⟩ = some (.int .i64 a1_0) ∧ w'.cell? ⟨gb228, 1, none⟩ = some (.int .i64 a1_1) ∧ w'.cell? ⟨gb228, 2, none⟩ = some (.int .i64 a1_2) ∧ w'.cell? ⟨gb229, 0, none⟩ = some (.int .i64 a2_0) ∧ w'.cell? ⟨gb229, 1, none⟩ = some (.int .i64 a2_1) ∧ w'.cell? ⟨gb229, 2, none⟩ = some (.int .i64 a2_2) ∧ w'.cell? ⟨gb227, 0, none⟩ = some (.int .i64 a0_0) ∧ w'.cell? ⟨gb227, 1, none⟩ = some (.int .i64 a0_1) ∧ w'.cell? ⟨gb227, 2, none⟩ = some (.int .i64 a0_2) ∧ w'.cell? ⟨gb230, 0, none⟩ = some (.int .i64 a3_0) ∧ w'.cell? ⟨gb230, 1, none⟩ = some (.int .i64 a3_1) ∧ w'.cell? ⟨gb230, 2, none⟩ = some (.int .i64 a3_2)) (ds := []) #[false, false, false, false, false, false, false, false, false, false, false] (by kernel_rfl) rfl rfl ⟨(blk_cell BK228.out 0).trans rfl, (blk_cell BK228.out 1).trans rfl, (blk_cell BK228.out 2).trans rfl, (blk_cell BK229.out 0).trans rfl, (blk_cell BK229.out 1).trans rfl, (blk_cell BK229.out 2).trans rfl, (blk_cell BK227.out 0).trans rfl, (blk_cell BK227.out 1).trans rfl, (blk_cell BK227.out 2).trans rfl, (blk_cell BK230.out 0).trans rfl, (blk_cell BK230.out 1).trans rfl, (blk_cell BK230.out 2).trans rfl⟩ (fun hHeld => ?_); refine with_tabW relievoref03_pass.tab1 relievoref03_pass.bits1 (fun HT_ HW_ => ?_)
 generalize w16.drew = w17 at BK227 BK228 BK229 BK230 HB hHeld ⊢
 refine take_ (i := 0) (N := some 11) (v := ?_) (a' := ?_) (bm 11 1) rfl rfl (take_ofW HT_.out HW_.out (by kernel_rfl)) (fun _ _ _ h => h) (Or.inl ⟨by rfl, ?_⟩) hHeld ?_ ?_
 rotate_left
 ·rintro w' ⟨s0, s1, s2, s3, s4, s5, s6, s7, s8, s9, s10, s11⟩
  go_simp
  with_reducible rfl
 rotate_left
 ·simp only [Act.put, List.setIfInBounds_toArray, List.set_cons_zero, List.set_cons_succ, i64_w, i32_w]
  rfl
 refine take_ (i := 1) (N := some 12) (v := ?_) (a' := ?_) (bm 11 3) rfl rfl (take_ofW HT_.out HW_.out (by kernel_rfl)) (fun _ _ _ h => h) (Or.inl ⟨by rfl, ?_⟩) hHeld ?_ ?_
 rotate_left
 ·rintro w' ⟨s0, s1, s2, s3, s4, s5, s6, s7, s8, s9, s10, s11⟩
  go_simp
  with_reducible rfl
 rotate_left
 ·simp only [Act.put, List.setIfInBounds_toArray, List.set_cons_zero, List.set_cons_succ, i64_w, i32_w]
  rfl
 refine take_ (i := 2) (N := some 13) (v := ?_) (a' := ?_) (bm 11 7) rfl rfl (take_ofW HT_.out HW_.out (by kernel_rfl)) (fun _ _ _ h => h) (Or.inl ⟨by rfl, ?_⟩) hHeld ?_ ?_
 rotate_left
 ·rintro w' ⟨s0, s1, s2, s3, s4, s5, s6, s7, s8, s9, s10, s11⟩
  go_simp
  with_reducible rfl
 rotate_left
 ·simp only [Act.put, List.setIfInBounds_toArray, List.set_cons_zero, List.set_cons_succ, i64_w, i32_w]
  rfl
 refine take_ (i := 4) (N := some 15) (v := ?_) (a' := ?_) (bm 11 23) rfl rfl (take_ofW HT_.out HW_.out (by kernel_rfl)) (fun _ _ _ h => h) (Or.inl ⟨by rfl, ?_⟩) hHeld ?_ ?_
 rotate_left
 ·rintro w' ⟨s0, s1, s2, s3, s4, s5, s6, s7, s8, s9, s10, s11⟩
  go_simp
  with_reducible rfl
 rotate_left
 ·simp only [Act.put, List.setIfInBounds_toArray, List.set_cons_zero, List.set_cons_succ, i64_w, i32_w]
  rfl
 refine take_ (i := 5) (N := some 16) (v := ?_) (a' := ?_) (bm 11 55) rfl rfl (take_ofW HT_.out HW_.out (by kernel_rfl)) (fun _ _ _ h => h) (Or.inl ⟨by rfl, ?_⟩) hHeld ?_ ?_
 rotate_left
 ·rintro w' ⟨s0, s1, s2, s3, s4, s5, s6, s7, s8, s9, s10, s11⟩
  go_simp
  with_reducible rfl
 rotate_left
 ·simp only [Act.put, List.setIfInBounds_toArray, List.set_cons_zero, List.set_cons_succ, i64_w, i32_w]
  rfl
 refine one_ (i := 3) (N := some 14) (bm 11 63) rfl rfl (one_of HT_.out (by kernel_rfl)) (by decide) (fun K hK => ?_)
 refine goes_ Try.func22 (by kernel_rfl) rfl #[.agg #[.int .i64 a2_0, .int .i64 a2_1, .int .i64 a2_2], .agg #[.int .i64 a0_0, .int .i64 a0_1, .int .i64 a0_2]] (by rfl) rfl rfl (by (try simp only [List.map_toArray, List.map_cons, List.map_nil]); first | done | rfl | (simp only [List.length_drop, List.length_take]; rfl)) ?_
 with_reducible refine (relievoref02_Sub.calls a2_0 a2_1 a2_2 a0_0 a0_1 a0_2 t231 t232 t233 _ A5.out).mono ?_
 rintro e w18 ⟨rfl, hb⟩
 refine ⟨_, rfl, ?_⟩
 replace BK227 := cB hb BK227
 replace BK228 := cB hb BK228
 replace BK229 := cB hb BK229
 replace BK230 := cB hb BK230
 replace HB := Aside0.mk (below_step (by first | exact HB.out | (repeat (first | exact HB.out | apply pw_below_drewN | apply below_drew1 | apply below_alloc))) hb)
 (try clear hb)
 (try clear hb2)
 (try clear hk)
 (try clear hi)
 refine hK.out _ _ ⟨(blk_cell BK228.out 0).trans rfl, (blk_cell BK228.out 1).trans rfl, (blk_cell BK228.out 2).trans rfl, (blk_cell BK229.out 0).trans rfl, (blk_cell BK229.out 1).trans rfl, (blk_cell BK229.out 2).trans rfl, (blk_cell BK227.out 0).trans rfl, (blk_cell BK227.out 1).trans rfl, (blk_cell BK227.out 2).trans rfl, (blk_cell BK230.out 0).trans rfl, (blk_cell BK230.out 1).trans rfl, (blk_cell BK230.out 2).trans rfl⟩ (fun hHeld => ?_)
 clear hK K
 refine norm_ (a' := ?_) ?_ ?_
 rotate_left
 ·show Act.put _ (some 14) _ = _
  simp only [Act.put, List.setIfInBounds_toArray, List.set_cons_zero, List.set_cons_succ, i64_w, i32_w]
  rfl
 refine one_ (i := 6) (N := some 17) (bm 11 127) rfl rfl (one_of HT_.out (by kernel_rfl)) (by decide) (fun K hK => ?_)
 refine goes_ Try.func22 (by kernel_rfl) rfl #[.agg #[.int .i64 a3_0, .int .i64 a3_1, .int .i64 a3_2], .agg #[.int .i64 a0_0, .int .i64 a0_1, .int .i64 a0_2]] (by rfl) rfl rfl (by (try simp only [List.map_toArray, List.map_cons, List.map_nil]); first | done | rfl | (simp only [List.length_drop, List.length_take]; rfl)) ?_
 with_reducible refine (relievoref02_Sub.calls a3_0 a3_1 a3_2 a0_0 a0_1 a0_2 t234 t235 t236 _ A6.out).mono ?_
 rintro e w19 ⟨rfl, hb⟩
 refine ⟨_, rfl, ?_⟩
 replace BK227 := cB hb BK227
 replace BK228 := cB hb BK228
 replace BK229 := cB hb BK229
 replace BK230 := cB hb BK230
 replace HB := Aside0.mk (below_step (by first | exact HB.out | (repeat (first | exact HB.out | apply pw_below_drewN | apply below_drew1 | apply below_alloc))) hb)
 (try clear hb)
 (try clear hb2)
 (try clear hk)
 (try clear hi)
 refine hK.out _ _ ⟨(blk_cell BK228.out 0).trans rfl, (blk_cell BK228.out 1).trans rfl, (blk_cell BK228.out 2).trans rfl, (blk_cell BK229.out 0).trans rfl, (blk_cell BK229.out 1).trans rfl, (blk_cell BK229.out 2).trans rfl, (blk_cell BK227.out 0).trans rfl, (blk_cell BK227.out 1).trans rfl, (blk_cell BK227.out 2).trans rfl, (blk_cell BK230.out 0).trans rfl, (blk_cell BK230.out 1).trans rfl, (blk_cell BK230.out 2).trans rfl⟩ (fun hHeld => ?_)
 clear hK K
 refine norm_ (a' := ?_) ?_ ?_
 rotate_left
 ·show Act.put _ (some 17) _ = _
  simp only [Act.put, List.setIfInBounds_toArray, List.set_cons_zero, List.set_cons_succ, i64_w, i32_w]
  rfl
 refine one_ (i := 7) (N := some 18) (bm 11 255) rfl rfl (one_of HT_.out (by kernel_rfl)) (by decide) (fun K hK => ?_)
 refine goes_ Try.func26 (by kernel_rfl) rfl #[.agg #[.int .i64 t231, .int .i64 t232, .int .i64 t233], .agg #[.int .i64 t234, .int .i64 t235, .int .i64 t236]] (by rfl) rfl rfl (by (try simp only [List.map_toArray, List.map_cons, List.map_nil]); first | done | rfl | (simp only [List.length_drop, List.length_take]; rfl)) ?_
 with_reducible refine (relievoref02_Cross.calls t231 t232 t233 t234 t235 t236 t237 t238 t239 _ A7.out).mono ?_
 rintro e w20 ⟨rfl, hb⟩
 refine ⟨_, rfl, ?_⟩
 replace BK227 := cB hb BK227
 replace BK228 := cB hb BK228
 replace BK229 := cB hb BK229
 replace BK230 := cB hb BK230
 replace HB := Aside0.mk (below_step (by first | exact HB.out | (repeat (first | exact HB.out | apply pw_below_drewN | apply below_drew1 | apply below_alloc))) hb)
 (try clear hb)
 (try clear hb2)
 (try clear hk)
 (try clear hi)
 refine hK.out _ _ ⟨(blk_cell BK228.out 0).trans rfl, (blk_cell BK228.out 1).trans rfl, (blk_cell BK228.out 2).trans rfl, (blk_cell BK229.out 0).trans rfl, (blk_cell BK229.out 1).trans rfl, (blk_cell BK229.out 2).trans rfl, (blk_cell BK227.out 0).trans rfl, (blk_cell BK227.out 1).trans rfl, (blk_cell BK227.out 2).trans rfl, (blk_cell BK230.out 0).trans rfl, (blk_cell BK230.out 1).trans rfl, (blk_cell BK230.out 2).trans rfl⟩ (fun hHeld => ?_)
 clear hK K
 refine norm_ (a' := ?_) ?_ ?_
 rotate_left
 ·show Act.put _ (some 18) _ = _
  simp only [Act.put, List.setIfInBounds_toArray, List.set_cons_zero, List.set_cons_succ, i64_w, i32_w]
  rfl
 refine one_ (i := 8) (N := some 19) (bm 11 511) rfl rfl (one_of HT_.out (by kernel_rfl)) (by decide) (fun K hK => ?_)
 refine goes_ Try.func21 (by kernel_rfl) rfl #[.agg #[.int .i64 a1_0, .int .i64 a1_1, .int .i64 a1_2], .agg #[.int .i64 t237, .int .i64 t238, .int .i64 t239]] (by rfl) rfl rfl (by (try simp only [List.map_toArray, List.map_cons, List.map_nil]); first | done | rfl | (simp only [List.length_drop, List.length_take]; rfl)) ?_
 with_reducible refine (relievoref02_Dot.calls a1_0 a1_1 a1_2 t237 t238 t239 t240 _ A8.out).mono ?_
 rintro e w21 ⟨rfl, hb⟩
 refine ⟨_, rfl, ?_⟩
 replace BK227 := cB hb BK227
 replace BK228 := cB hb BK228
 replace BK229 := cB hb BK229
 replace BK230 := cB hb BK230
 replace HB := Aside0.mk (below_step (by first | exact HB.out | (repeat (first | exact HB.out | apply pw_below_drewN | apply below_drew1 | apply below_alloc))) hb)
 (try clear hb)
 (try clear hb2)
 (try clear hk)
 (try clear hi)
 refine hK.out _ _ ⟨(blk_cell BK228.out 0).trans rfl, (blk_cell BK228.out 1).trans rfl, (blk_cell BK228.out 2).trans rfl, (blk_cell BK229.out 0).trans rfl, (blk_cell BK229.out 1).trans rfl, (blk_cell BK229.out 2).trans rfl, (blk_cell BK227.out 0).trans rfl, (blk_cell BK227.out 1).trans rfl, (blk_cell BK227.out 2).trans rfl, (blk_cell BK230.out 0).trans rfl, (blk_cell BK230.out 1).trans rfl, (blk_cell BK230.out 2).trans rfl⟩ (fun hHeld => ?_)
 clear hK K
 refine norm_ (a' := ?_) ?_ ?_
 rotate_left
 ·show Act.put _ (some 19) _ = _
  simp only [Act.put, List.setIfInBounds_toArray, List.set_cons_zero, List.set_cons_succ, i64_w, i32_w]
  rfl
 refine one_ (i := 9) (N := some 20) (bm 11 1023) rfl rfl (one_of HT_.out (by kernel_rfl)) (by decide) (fun K hK => ?_)
 refine goes_ Try.func29 (by kernel_rfl) rfl #[.int .i64 t240] (by rfl) rfl rfl (by (try simp only [List.map_toArray, List.map_cons, List.map_nil]); first | done | rfl | (simp only [List.length_drop, List.length_take]; rfl)) ?_
 with_reducible refine (relievoref03_sign.calls t240 t241 _ A9.out).mono ?_
 rintro e w' ⟨rfl, ⟨nd, rfl⟩⟩
 refine ⟨_, rfl, ?_⟩
 refine hK.out _ _ ⟨(blk_cell BK228.out 0).trans rfl, (blk_cell BK228.out 1).trans rfl, (blk_cell BK228.out 2).trans rfl, (blk_cell BK229.out 0).trans rfl, (blk_cell BK229.out 1).trans rfl, (blk_cell BK229.out 2).trans rfl, (blk_cell BK227.out 0).trans rfl, (blk_cell BK227.out 1).trans rfl, (blk_cell BK227.out 2).trans rfl, (blk_cell BK230.out 0).trans rfl, (blk_cell BK230.out 1).trans rfl, (blk_cell BK230.out 2).trans rfl⟩ (fun hHeld => ?_)
 clear hK K
 refine norm_ (a' := ?_) ?_ ?_
 rotate_left
 ·show Act.put _ (some 20) _ = _
  simp only [Act.put, List.setIfInBounds_toArray, List.set_cons_zero, List.set_cons_succ, i64_w, i32_w]
  rfl
 refine pure_ (i := 10) (N := some 9) (v := ?_) (a' := ?_) (bm 11 2047) rfl rfl (any_of HT_.out (by kernel_rfl)) (fun _ _ _ h => h) (Or.inl ⟨by rfl, ?_⟩) ?_ ?_
 rotate_left
 ·intro w'
  go_simp
  with_reducible rfl
 rotate_left
 ·simp only [Act.put, List.setIfInBounds_toArray, List.set_cons_zero, List.set_cons_succ, i64_w, i32_w]
  rfl
 refine done_ (done_of HT_.out (by kernel_rfl)) ?_
 try go_wp2
 (try (rw [drewN_self w21]; generalize hq_ : World.drewN w21 _ = w21; have n0_ : Aside0 (w21.heap[gb228]? = some (.cells #[.int .i64 a1_0, .int .i64 a1_1, .int .i64 a1_2] 23 (0, 0))) := ⟨by rw [← hq_]; exact (BK228.out)⟩; have n1_ : Aside0 (w21.heap[gb229]? = some (.cells #[.int .i64 a2_0, .int .i64 a2_1, .int .i64 a2_2] 23 (0, 0))) := ⟨by rw [← hq_]; exact (BK229.out)⟩; have n2_ : Aside0 (w21.heap[gb230]? = some (.cells #[.int .i64 a3_0, .int .i64 a3_1, .int .i64 a3_2] 23 (0, 0))) := ⟨by rw [← hq_]; exact (BK230.out)⟩; have n3_ : Aside0 (Below w.heap.size w w21) := ⟨by rw [← hq_]; exact (by first | exact HB.out | (repeat (first | exact HB.out | apply pw_below_drewN | apply below_drew1 | apply below_alloc)))⟩; clear BK228 BK229 BK230 HB hq_; have BK228 := n0_; have BK229 := n1_; have BK230 := n2_; have HB := n3_; clear n0_ n1_ n2_ n3_))
 replace BK228 := Aside0.mk (blk_drew BK228.out)
 replace BK229 := Aside0.mk (blk_drew BK229.out)
 replace BK230 := Aside0.mk (blk_drew BK230.out)
 replace HB := Aside0.mk (below_drew1 HB.out)
 refine start_ (n := 7) (S := fun w' => w'.cell? ⟨gb229, 0, none⟩ = some (.int .i64 a2_0) ∧ w'.cell? ⟨gb229, 1, none⟩ = some (.int .i64 a2_1) ∧ w'.cell? ⟨gb229, 2, none⟩ = some (.int .i64 a2_2) ∧ w'.cell? ⟨gb230, 0, none⟩ = some (.int .i64 a3_0) ∧ w'.cell? ⟨gb230, 1, none⟩ = some (.int .i64 a3_1) ∧ w'.cell? ⟨gb230, 2, none⟩ = some (.int .i64 a3_2) ∧ w'.cell? ⟨gb228, 0, none⟩ = some (.int .i64 a1_0) ∧ w'.cell? ⟨gb228, 1, none⟩ = some (.int .i64 a1_1) ∧ w'.cell? ⟨gb228, 2, none⟩ = some (.int .i64 a1_2)) (ds := []) #[false, false, false, false, false, false, false] (by kernel_rfl) rfl rfl ⟨(blk_cell BK229.out 0).trans rfl, (blk_cell BK229.out 1).trans rfl, (blk_cell BK229.out 2).trans rfl, (blk_cell BK230.out 0).trans rfl, (blk_cell BK230.out 1).trans rfl, (blk_cell BK230.out 2).trans rfl, (blk_cell BK228.out 0).trans rfl, (blk_cell BK228.out 1).trans rfl, (blk_cell BK228.out 2).trans rfl⟩ (fun hHeld => ?_)
 generalize w21.drew = w22 at BK228 BK229 BK230 HB hHeld ⊢
 refine take_ (i := 0) (N := some 21) (v := ?_) (a' := ?_) (bm 7 1) rfl rfl (by kernel_rfl) (fun _ _ _ h => h) (Or.inl ⟨by rfl, ?_⟩) hHeld ?_ ?_
 rotate_left
 ·rintro w' ⟨s0, s1, s2, s3, s4, s5, s6, s7, s8⟩
  go_simp
  with_reducible rfl
 rotate_left
 ·simp only [Act.put, List.setIfInBounds_toArray, List.set_cons_zero, List.set_cons_succ, i64_w, i32_w]
  rfl
 refine take_ (i := 1) (N := some 22) (v := ?_) (a' := ?_) (bm 7 3) rfl rfl (by kernel_rfl) (fun _ _ _ h => h) (Or.inl ⟨by rfl, ?_⟩) hHeld ?_ ?_
 rotate_left
 ·rintro w' ⟨s0, s1, s2, s3, s4, s5, s6, s7, s8⟩
  go_simp
  with_reducible rfl
 rotate_left
 ·simp only [Act.put, List.setIfInBounds_toArray, List.set_cons_zero, List.set_cons_succ, i64_w, i32_w]
  rfl
 refine take_ (i := 3) (N := some 24) (v := ?_) (a' := ?_) (bm 7 11) rfl rfl (by kernel_rfl) (fun _ _ _ h => h) (Or.inl ⟨by rfl, ?_⟩) hHeld ?_ ?_
 rotate_left
 ·rintro w' ⟨s0, s1, s2, s3, s4, s5, s6, s7, s8⟩
  go_simp
  with_reducible rfl
 rotate_left
 ·simp only [Act.put, List.setIfInBounds_toArray, List.set_cons_zero, List.set_cons_succ, i64_w, i32_w]
  rfl
 refine join_ (σ := Nat) 1 (bm 7 63) (fun s_ => [(23, .agg #[.int .i64 t242, .int .i64 t243, .int .i64 t244]), (25, .agg #[.int .i64 t245, .int .i64 t246, .int .i64 t247]), (10, .pointer (some ⟨s_, 0, none⟩))]) (fun s_ w' => (w'.cell? ⟨gb229, 0, none⟩ = some (.int .i64 a2_0) ∧ w'.cell? ⟨gb229, 1, none⟩ = some (.int .i64 a2_1) ∧ w'.cell? ⟨gb229, 2, none⟩ = some (.int .i64 a2_2) ∧ w'.cell? ⟨gb230, 0, none⟩ = some (.int .i64 a3_0) ∧ w'.cell? ⟨gb230, 1, none⟩ = some (.int .i64 a3_1) ∧ w'.cell? ⟨gb230, 2, none⟩ = some (.int .i64 a3_2) ∧ w'.cell? ⟨gb228, 0, none⟩ = some (.int .i64 a1_0) ∧ w'.cell? ⟨gb228, 1, none⟩ = some (.int .i64 a1_1) ∧ w'.cell? ⟨gb228, 2, none⟩ = some (.int .i64 a1_2)) ∧ (w'.heap[gb228]? = some (.cells #[.int .i64 a1_0, .int .i64 a1_1, .int .i64 a1_2] 23 (0, 0))) ∧ (w'.heap[gb229]? = some (.cells #[.int .i64 a2_0, .int .i64 a2_1, .int .i64 a2_2] 23 (0, 0))) ∧ (w'.heap[gb230]? = some (.cells #[.int .i64 a3_0, .int .i64 a3_1, .int .i64 a3_2] 23 (0, 0))) ∧ (w'.heap[s_]? = some (.cells #[.int .i64 0, .int .i64 0, .int .i64 0] 23 (0, 0))) ∧ (w.heap.size ≤ s_) ∧ (gb228 ≠ s_) ∧ (s_ ≠ gb228) ∧ (gb229 ≠ s_) ∧ (s_ ≠ gb229) ∧ (gb230 ≠ s_) ∧ (s_ ≠ gb230) ∧ (Below w.heap.size w w')) ?_ ?_
 rotate_left
 ·intro hCont
  refine two_ (i := 2) (j := 5) (Ni := some 23) (Nj := some 10) (bm 7 15) (bm 7 43) rfl rfl rfl rfl (by kernel_rfl) (by decide) (by decide) (fun K hK => ?_) (fun K hK => ?_)
  ·skip
   refine goes_ Try.func22 (by kernel_rfl) rfl #[.agg #[.int .i64 a2_0, .int .i64 a2_1, .int .i64 a2_2], .agg #[.int .i64 a3_0, .int .i64 a3_1, .int .i64 a3_2]] (by rfl) rfl rfl (by (try simp only [List.map_toArray, List.map_cons, List.map_nil]); first | done | rfl | (simp only [List.length_drop, List.length_take]; rfl)) ?_
   with_reducible refine (relievoref02_Sub.calls a2_0 a2_1 a2_2 a3_0 a3_1 a3_2 t242 t243 t244 _ A10.out).mono ?_
   rintro e w23 ⟨rfl, hb⟩
   refine ⟨_, rfl, ?_⟩
   replace BK228 := cB hb BK228
   replace BK229 := cB hb BK229
   replace BK230 := cB hb BK230
   replace HB := Aside0.mk (below_step (by first | exact HB.out | (repeat (first | exact HB.out | apply pw_below_drewN | apply below_drew1 | apply below_alloc))) hb)
   (try clear hb)
   (try clear hb2)
   (try clear hk)
   (try clear hi)
   refine hK.out _ _ ⟨(blk_cell BK229.out 0).trans rfl, (blk_cell BK229.out 1).trans rfl, (blk_cell BK229.out 2).trans rfl, (blk_cell BK230.out 0).trans rfl, (blk_cell BK230.out 1).trans rfl, (blk_cell BK230.out 2).trans rfl, (blk_cell BK228.out 0).trans rfl, (blk_cell BK228.out 1).trans rfl, (blk_cell BK228.out 2).trans rfl⟩ (fun hHeld => ?_)
   clear hK K
   refine norm_ (a' := ?_) ?_ ?_
   rotate_left
   ·show Act.put _ (some 23) _ = _
    simp only [Act.put, List.setIfInBounds_toArray, List.set_cons_zero, List.set_cons_succ, i64_w, i32_w]
    rfl
   refine two_ (i := 4) (j := 5) (Ni := some 25) (Nj := some 10) (bm 7 31) (bm 7 47) rfl rfl rfl rfl (by kernel_rfl) (by decide) (by decide) (fun K hK => ?_) (fun K hK => ?_)
   ·skip
    refine goes_ Try.func26 (by kernel_rfl) rfl #[.agg #[.int .i64 t242, .int .i64 t243, .int .i64 t244], .agg #[.int .i64 a1_0, .int .i64 a1_1, .int .i64 a1_2]] (by rfl) rfl rfl (by (try simp only [List.map_toArray, List.map_cons, List.map_nil]); first | done | rfl | (simp only [List.length_drop, List.length_take]; rfl)) ?_
    with_reducible refine (relievoref02_Cross.calls t242 t243 t244 a1_0 a1_1 a1_2 t245 t246 t247 _ A11.out).mono ?_
    rintro e w24 ⟨rfl, hb⟩
    refine ⟨_, rfl, ?_⟩
    replace BK228 := cB hb BK228
    replace BK229 := cB hb BK229
    replace BK230 := cB hb BK230
    replace HB := Aside0.mk (below_step (by first | exact HB.out | (repeat (first | exact HB.out | apply pw_below_drewN | apply below_drew1 | apply below_alloc))) hb)
    (try clear hb)
    (try clear hb2)
    (try clear hk)
    (try clear hi)
    refine hK.out _ _ ⟨(blk_cell BK229.out 0).trans rfl, (blk_cell BK229.out 1).trans rfl, (blk_cell BK229.out 2).trans rfl, (blk_cell BK230.out 0).trans rfl, (blk_cell BK230.out 1).trans rfl, (blk_cell BK230.out 2).trans rfl, (blk_cell BK228.out 0).trans rfl, (blk_cell BK228.out 1).trans rfl, (blk_cell BK228.out 2).trans rfl⟩ (fun hHeld => ?_)
    clear hK K
    refine norm_ (a' := ?_) ?_ ?_
    rotate_left
    ·show Act.put _ (some 25) _ = _
     simp only [Act.put, List.setIfInBounds_toArray, List.set_cons_zero, List.set_cons_succ, i64_w, i32_w]
     rfl
    refine one_ (i := 5) (N := some 10) (bm 7 63) rfl rfl (by kernel_rfl) (by decide) (fun K hK => ?_)
    refine box_step ?hg (N := 10) ?hd (cs := #[.int .i64 0, .int .i64 0, .int .i64 0]) (t := 23) ?hr ?_; (case hd => rfl); (case hg => rfl); (case hr => first | (go_simp; done) | (go_simp; rfl))
    intro gb248 hg w25 hbox hb
    have BK248 := Aside0.mk (hbox)
    have GE248 := Aside0.mk (bG hg (by first | exact HB.out | (repeat (first | exact HB.out | apply pw_below_drewN | apply below_drew1 | apply below_alloc))))
    have NB228_248 := cN hg BK228
    have NB248_228 := cM hg BK228
    have NB229_248 := cN hg BK229
    have NB248_229 := cM hg BK229
    have NB230_248 := cN hg BK230
    have NB248_230 := cM hg BK230
    replace BK228 := cB hb BK228
    replace BK229 := cB hb BK229
    replace BK230 := cB hb BK230
    replace HB := Aside0.mk (below_step (by first | exact HB.out | (repeat (first | exact HB.out | apply pw_below_drewN | apply below_drew1 | apply below_alloc))) hb)
    clear hb hbox hg
    refine hK.out _ _ ⟨(blk_cell BK229.out 0).trans rfl, (blk_cell BK229.out 1).trans rfl, (blk_cell BK229.out 2).trans rfl, (blk_cell BK230.out 0).trans rfl, (blk_cell BK230.out 1).trans rfl, (blk_cell BK230.out 2).trans rfl, (blk_cell BK228.out 0).trans rfl, (blk_cell BK228.out 1).trans rfl, (blk_cell BK228.out 2).trans rfl⟩ (fun hHeld => ?_)
    clear hK K
    refine norm_ (a' := ?_) ?_ ?_
    rotate_left
    ·show Act.put _ (some 10) _ = _
     simp only [Act.put, List.setIfInBounds_toArray, List.set_cons_zero, List.set_cons_succ, i64_w, i32_w]
     rfl
    exact norm_ (by simp only [putAll, Act.put, List.setIfInBounds_toArray, List.set_cons_zero, List.set_cons_succ]) (hCont (gb248) _ ⟨hHeld, (BK228.out), (BK229.out), (BK230.out), (BK248.out), GE248.out, NB228_248.out, NB248_228.out, NB229_248.out, NB248_229.out, NB230_248.out, NB248_230.out, (by first | exact HB.out | (repeat (first | exact HB.out | apply pw_below_drewN | apply below_drew1 | apply below_alloc)))⟩)
   skip
   refine box_step ?hg (N := 10) ?hd (cs := #[.int .i64 0, .int .i64 0, .int .i64 0]) (t := 23) ?hr ?_; (case hd => rfl); (case hg => rfl); (case hr => first | (go_simp; done) | (go_simp; rfl))
   intro gb248 hg w24 hbox hb
   have BK248 := Aside0.mk (hbox)
   have GE248 := Aside0.mk (bG hg (by first | exact HB.out | (repeat (first | exact HB.out | apply pw_below_drewN | apply below_drew1 | apply below_alloc))))
   have NB228_248 := cN hg BK228
   have NB248_228 := cM hg BK228
   have NB229_248 := cN hg BK229
   have NB248_229 := cM hg BK229
   have NB230_248 := cN hg BK230
   have NB248_230 := cM hg BK230
   replace BK228 := cB hb BK228
   replace BK229 := cB hb BK229
   replace BK230 := cB hb BK230
   replace HB := Aside0.mk (below_step (by first | exact HB.out | (repeat (first | exact HB.out | apply pw_below_drewN | apply below_drew1 | apply below_alloc))) hb)
   clear hb hbox hg
   refine hK.out _ _ ⟨(blk_cell BK229.out 0).trans rfl, (blk_cell BK229.out 1).trans rfl, (blk_cell BK229.out 2).trans rfl, (blk_cell BK230.out 0).trans rfl, (blk_cell BK230.out 1).trans rfl, (blk_cell BK230.out 2).trans rfl, (blk_cell BK228.out 0).trans rfl, (blk_cell BK228.out 1).trans rfl, (blk_cell BK228.out 2).trans rfl⟩ (fun hHeld => ?_)
   clear hK K
   refine norm_ (a' := ?_) ?_ ?_
   rotate_left
   ·show Act.put _ (some 10) _ = _
    simp only [Act.put, List.setIfInBounds_toArray, List.set_cons_zero, List.set_cons_succ, i64_w, i32_w]
    rfl
   refine one_ (i := 4) (N := some 25) (bm 7 63) rfl rfl (by kernel_rfl) (by decide) (fun K hK => ?_)
   refine goes_ Try.func26 (by kernel_rfl) rfl #[.agg #[.int .i64 t242, .int .i64 t243, .int .i64 t244], .agg #[.int .i64 a1_0, .int .i64 a1_1, .int .i64 a1_2]] (by rfl) rfl rfl (by (try simp only [List.map_toArray, List.map_cons, List.map_nil]); first | done | rfl | (simp only [List.length_drop, List.length_take]; rfl)) ?_
   with_reducible refine (relievoref02_Cross.calls t242 t243 t244 a1_0 a1_1 a1_2 t245 t246 t247 _ A11.out).mono ?_
   rintro e w25 ⟨rfl, hb⟩
   refine ⟨_, rfl, ?_⟩
   replace BK228 := cB hb BK228
   replace BK229 := cB hb BK229
   replace BK230 := cB hb BK230
   replace BK248 := cB hb BK248
   replace HB := Aside0.mk (below_step (by first | exact HB.out | (repeat (first | exact HB.out | apply pw_below_drewN | apply below_drew1 | apply below_alloc))) hb)
   (try clear hb)
   (try clear hb2)
   (try clear hk)
   (try clear hi)
   refine hK.out _ _ ⟨(blk_cell BK229.out 0).trans rfl, (blk_cell BK229.out 1).trans rfl, (blk_cell BK229.out 2).trans rfl, (blk_cell BK230.out 0).trans rfl, (blk_cell BK230.out 1).trans rfl, (blk_cell BK230.out 2).trans rfl, (blk_cell BK228.out 0).trans rfl, (blk_cell BK228.out 1).trans rfl, (blk_cell BK228.out 2).trans rfl⟩ (fun hHeld => ?_)
   clear hK K
   refine norm_ (a' := ?_) ?_ ?_
   rotate_left
   ·show Act.put _ (some 25) _ = _
    simp only [Act.put, List.setIfInBounds_toArray, List.set_cons_zero, List.set_cons_succ, i64_w, i32_w]
    rfl
   exact norm_ (by simp only [putAll, Act.put, List.setIfInBounds_toArray, List.set_cons_zero, List.set_cons_succ]) (hCont (gb248) _ ⟨hHeld, (BK228.out), (BK229.out), (BK230.out), (BK248.out), GE248.out, NB228_248.out, NB248_228.out, NB229_248.out, NB248_229.out, NB230_248.out, NB248_230.out, (by first | exact HB.out | (repeat (first | exact HB.out | apply pw_below_drewN | apply below_drew1 | apply below_alloc)))⟩)
  skip
  refine box_step ?hg (N := 10) ?hd (cs := #[.int .i64 0, .int .i64 0, .int .i64 0]) (t := 23) ?hr ?_; (case hd => rfl); (case hg => rfl); (case hr => first | (go_simp; done) | (go_simp; rfl))
  intro gb248 hg w23 hbox hb
  have BK248 := Aside0.mk (hbox)
  have GE248 := Aside0.mk (bG hg (by first | exact HB.out | (repeat (first | exact HB.out | apply pw_below_drewN | apply below_drew1 | apply below_alloc))))
  have NB228_248 := cN hg BK228
  have NB248_228 := cM hg BK228
  have NB229_248 := cN hg BK229
  have NB248_229 := cM hg BK229
  have NB230_248 := cN hg BK230
  have NB248_230 := cM hg BK230
  replace BK228 := cB hb BK228
  replace BK229 := cB hb BK229
  replace BK230 := cB hb BK230
  replace HB := Aside0.mk (below_step (by first | exact HB.out | (repeat (first | exact HB.out | apply pw_below_drewN | apply below_drew1 | apply below_alloc))) hb)
  clear hb hbox hg
  refine hK.out _ _ ⟨(blk_cell BK229.out 0).trans rfl, (blk_cell BK229.out 1).trans rfl, (blk_cell BK229.out 2).trans rfl, (blk_cell BK230.out 0).trans rfl, (blk_cell BK230.out 1).trans rfl, (blk_cell BK230.out 2).trans rfl, (blk_cell BK228.out 0).trans rfl, (blk_cell BK228.out 1).trans rfl, (blk_cell BK228.out 2).trans rfl⟩ (fun hHeld => ?_)
  clear hK K
  refine norm_ (a' := ?_) ?_ ?_
  rotate_left
  ·show Act.put _ (some 10) _ = _
   simp only [Act.put, List.setIfInBounds_toArray, List.set_cons_zero, List.set_cons_succ, i64_w, i32_w]
   rfl
  refine one_ (i := 2) (N := some 23) (bm 7 47) rfl rfl (by kernel_rfl) (by decide) (fun K hK => ?_)
  refine goes_ Try.func22 (by kernel_rfl) rfl #[.agg #[.int .i64 a2_0, .int .i64 a2_1, .int .i64 a2_2], .agg #[.int .i64 a3_0, .int .i64 a3_1, .int .i64 a3_2]] (by rfl) rfl rfl (by (try simp only [List.map_toArray, List.map_cons, List.map_nil]); first | done | rfl | (simp only [List.length_drop, List.length_take]; rfl)) ?_
  with_reducible refine (relievoref02_Sub.calls a2_0 a2_1 a2_2 a3_0 a3_1 a3_2 t242 t243 t244 _ A10.out).mono ?_
  rintro e w24 ⟨rfl, hb⟩
  refine ⟨_, rfl, ?_⟩
  replace BK228 := cB hb BK228
  replace BK229 := cB hb BK229
  replace BK230 := cB hb BK230
  replace BK248 := cB hb BK248
  replace HB := Aside0.mk (below_step (by first | exact HB.out | (repeat (first | exact HB.out | apply pw_below_drewN | apply below_drew1 | apply below_alloc))) hb)
  (try clear hb)
  (try clear hb2)
  (try clear hk)
  (try clear hi)
  refine hK.out _ _ ⟨(blk_cell BK229.out 0).trans rfl, (blk_cell BK229.out 1).trans rfl, (blk_cell BK229.out 2).trans rfl, (blk_cell BK230.out 0).trans rfl, (blk_cell BK230.out 1).trans rfl, (blk_cell BK230.out 2).trans rfl, (blk_cell BK228.out 0).trans rfl, (blk_cell BK228.out 1).trans rfl, (blk_cell BK228.out 2).trans rfl⟩ (fun hHeld => ?_)
  clear hK K
  refine norm_ (a' := ?_) ?_ ?_
  rotate_left
  ·show Act.put _ (some 23) _ = _
   simp only [Act.put, List.setIfInBounds_toArray, List.set_cons_zero, List.set_cons_succ, i64_w, i32_w]
   rfl
  refine one_ (i := 4) (N := some 25) (bm 7 63) rfl rfl (by kernel_rfl) (by decide) (fun K hK => ?_)
  refine goes_ Try.func26 (by kernel_rfl) rfl #[.agg #[.int .i64 t242, .int .i64 t243, .int .i64 t244], .agg #[.int .i64 a1_0, .int .i64 a1_1, .int .i64 a1_2]] (by rfl) rfl rfl (by (try simp only [List.map_toArray, List.map_cons, List.map_nil]); first | done | rfl | (simp only [List.length_drop, List.length_take]; rfl)) ?_
  with_reducible refine (relievoref02_Cross.calls t242 t243 t244 a1_0 a1_1 a1_2 t245 t246 t247 _ A11.out).mono ?_
  rintro e w25 ⟨rfl, hb⟩
  refine ⟨_, rfl, ?_⟩
  replace BK228 := cB hb BK228
  replace BK229 := cB hb BK229
  replace BK230 := cB hb BK230
  replace BK248 := cB hb BK248
  replace HB := Aside0.mk (below_step (by first | exact HB.out | (repeat (first | exact HB.out | apply pw_below_drewN | apply below_drew1 | apply below_alloc))) hb)
  (try clear hb)
  (try clear hb2)
  (try clear hk)
  (try clear hi)
  refine hK.out _ _ ⟨(blk_cell BK229.out 0).trans rfl, (blk_cell BK229.out 1).trans rfl, (blk_cell BK229.out 2).trans rfl, (blk_cell BK230.out 0).trans rfl, (blk_cell BK230.out 1).trans rfl, (blk_cell BK230.out 2).trans rfl, (blk_cell BK228.out 0).trans rfl, (blk_cell BK228.out 1).trans rfl, (blk_cell BK228.out 2).trans rfl⟩ (fun hHeld => ?_)
  clear hK K
  refine norm_ (a' := ?_) ?_ ?_
  rotate_left
  ·show Act.put _ (some 25) _ = _
   simp only [Act.put, List.setIfInBounds_toArray, List.set_cons_zero, List.set_cons_succ, i64_w, i32_w]
   rfl
  exact norm_ (by simp only [putAll, Act.put, List.setIfInBounds_toArray, List.set_cons_zero, List.set_cons_succ]) (hCont (gb248) _ ⟨hHeld, (BK228.out), (BK229.out), (BK230.out), (BK248.out), GE248.out, NB228_248.out, NB248_228.out, NB229_248.out, NB248_229.out, NB230_248.out, NB248_230.out, (by first | exact HB.out | (repeat (first | exact HB.out | apply pw_below_drewN | apply below_drew1 | apply below_alloc)))⟩)
 rintro gb248 w26 ⟨hS_, h0_, h1_, h2_, h3_, h4_, h5_, h6_, h7_, h8_, h9_, h10_, h11_⟩
 have n0_ : Aside0 (w26.heap[gb228]? = some (.cells #[.int .i64 a1_0, .int .i64 a1_1, .int .i64 a1_2] 23 (0, 0))) := ⟨h0_⟩
 have n1_ : Aside0 (w26.heap[gb229]? = some (.cells #[.int .i64 a2_0, .int .i64 a2_1, .int .i64 a2_2] 23 (0, 0))) := ⟨h1_⟩
 have n2_ : Aside0 (w26.heap[gb230]? = some (.cells #[.int .i64 a3_0, .int .i64 a3_1, .int .i64 a3_2] 23 (0, 0))) := ⟨h2_⟩
 have n3_ : Aside0 (w26.heap[gb248]? = some (.cells #[.int .i64 0, .int .i64 0, .int .i64 0] 23 (0, 0))) := ⟨h3_⟩
 have GE248 : Aside0 (w.heap.size ≤ gb248) := ⟨h4_⟩
 have NB228_248 : Aside0 (gb228 ≠ gb248) := ⟨h5_⟩
 have NB248_228 : Aside0 (gb248 ≠ gb228) := ⟨h6_⟩
 have NB229_248 : Aside0 (gb229 ≠ gb248) := ⟨h7_⟩
 have NB248_229 : Aside0 (gb248 ≠ gb229) := ⟨h8_⟩
 have NB230_248 : Aside0 (gb230 ≠ gb248) := ⟨h9_⟩
 have NB248_230 : Aside0 (gb248 ≠ gb230) := ⟨h10_⟩
 have n11_ : Aside0 (Below w.heap.size w w26) := ⟨h11_⟩
 clear BK228
 clear BK229
 clear BK230
 clear HB
 clear h0_ h1_ h2_ h3_ h4_ h5_ h6_ h7_ h8_ h9_ h10_ h11_
 have BK228 := n0_
 have BK229 := n1_
 have BK230 := n2_
 have BK248 := n3_
 have HB := n11_
 clear n0_ n1_ n2_ n3_ n11_
 have hHeld : w26.cell? ⟨gb229, 0, none⟩ = some (.int .i64 a2_0) ∧ w26.cell? ⟨gb229, 1, none⟩ = some (.int .i64 a2_1) ∧ w26.cell? ⟨gb229, 2, none⟩ = some (.int .i64 a2_2) ∧ w26.cell? ⟨gb230, 0, none⟩ = some (.int .i64 a3_0) ∧ w26.cell? ⟨gb230, 1, none⟩ = some (.int .i64 a3_1) ∧ w26.cell? ⟨gb230, 2, none⟩ = some (.int .i64 a3_2) ∧ w26.cell? ⟨gb228, 0, none⟩ = some (.int .i64 a1_0) ∧ w26.cell? ⟨gb228, 1, none⟩ = some (.int .i64 a1_1) ∧ w26.cell? ⟨gb228, 2, none⟩ = some (.int .i64 a1_2) := hS_
 refine norm_ (a' := ?_) ?_ ?_
 rotate_left
 ·simp only [putAll, Act.put, List.setIfInBounds_toArray, List.set_cons_zero, List.set_cons_succ]
  rfl
 refine one_ (i := 6) (N := none) (bm 7 127) rfl rfl (by kernel_rfl) (by decide) (fun K hK => ?_)
 have hs27 : w26.cell? ⟨gb248, 0, none⟩ = some (.int .i64 0) := (blk_cell BK248.out 0).trans rfl
 have hfs27 := blk_frozen BK248.out 0
 have hns27_0 := NB228_248.out
 have hns27_1 := NB229_248.out
 have hns27_2 := NB230_248.out
 have hms27_0 := NB248_228.out
 have hms27_1 := NB248_229.out
 have hms27_2 := NB248_230.out
 have hs28 : w26.cell? ⟨gb248, 1, none⟩ = some (.int .i64 0) := (blk_cell BK248.out 1).trans rfl
 have hfs28 := blk_frozen BK248.out 1
 have hns28_0 := NB228_248.out
 have hns28_1 := NB229_248.out
 have hns28_2 := NB230_248.out
 have hms28_0 := NB248_228.out
 have hms28_1 := NB248_229.out
 have hms28_2 := NB248_230.out
 have hs29 : w26.cell? ⟨gb248, 2, none⟩ = some (.int .i64 0) := (blk_cell BK248.out 2).trans rfl
 have hfs29 := blk_frozen BK248.out 2
 have hns29_0 := NB228_248.out
 have hns29_1 := NB229_248.out
 have hns29_2 := NB230_248.out
 have hms29_0 := NB248_228.out
 have hms29_1 := NB248_229.out
 have hms29_2 := NB248_230.out
 refine skip_ (w1 := ?_) (by rfl) rfl ?_ ?_
 rotate_left
 ·go_simp
  rfl
 refine hK.out _ _ ⟨(cf NB229_248.out (cf NB229_248.out (cf NB229_248.out hHeld.1))), (cf NB229_248.out (cf NB229_248.out (cf NB229_248.out hHeld.2.1))), (cf NB229_248.out (cf NB229_248.out (cf NB229_248.out hHeld.2.2.1))), (cf NB230_248.out (cf NB230_248.out (cf NB230_248.out hHeld.2.2.2.1))), (cf NB230_248.out (cf NB230_248.out (cf NB230_248.out hHeld.2.2.2.2.1))), (cf NB230_248.out (cf NB230_248.out (cf NB230_248.out hHeld.2.2.2.2.2.1))), (cf NB228_248.out (cf NB228_248.out (cf NB228_248.out hHeld.2.2.2.2.2.2.1))), (cf NB228_248.out (cf NB228_248.out (cf NB228_248.out hHeld.2.2.2.2.2.2.2.1))), (cf NB228_248.out (cf NB228_248.out (cf NB228_248.out hHeld.2.2.2.2.2.2.2.2)))⟩ (fun hHeld => ?_)
 clear hK K
 refine done_ (by kernel_rfl) ?_
 go_upto_if 27 with (fail)
 go_cut [9] (fun v9 wc => ∃ (kq : Nat) (x9_11 : Int), v9 = .int .i64 x9_11 ∧ Aside0 (relievoref03_pass.j0 kq x9_11 t245 t246 t247 = some r) ∧ Aside0 (kq ≤ k) ∧ Aside0 (wc.heap[gb248]? = some (.cells #[.int .i64 t245, .int .i64 t246, .int .i64 t247] 23 (0, 0))) ∧ Aside0 (Below w.heap.size w wc))
 case first =>
  have H := HC12.out
  clear HC12
  by_cases c30 : t241 = 0
  ·rw [if_pos c30] at H
   have c30b0 : (t241 == 0) = true := beq_iff_eq.mpr c30
   have c30b1 : (t241 != 0) = false := bne_eq_false_iff_eq.mpr c30
   clear c30
   (first | rw [c30b0] | (simp only [i64_w, i32_w]; rw [c30b0]) | skip)
   replace H := Option.bind_eq_some_iff.mp H
   obtain ⟨t249, A310, H⟩ := H
   replace H : (relievoref03_pass.j0 k t249 t245 t246 t247) = some r := H
   have A31 := Aside0.mk A310
   clear A310
   have H' := Aside0.mk H
   clear H
   obtain ⟨hcz32_0, hcz32_1, hcz32_2⟩ := cells3 BK248.out
   go_wp2_with (first | ((with_reducible refine gate_callee (f := 29) rfl ?_); refine goesL_ (some 30) rfl rfl Try.func29 (by kernel_rfl) rfl #[.int .i64 t245] rfl (by (try simp only [List.map_toArray, List.map_cons, List.map_nil]); first | done | rfl | (simp only [List.length_drop, List.length_take]; rfl)) ?_; (with_reducible refine (relievoref03_sign.calls t245 t249 _ A31.out).mono ?_); rintro e w' ⟨rfl, ⟨nd, rfl⟩⟩; refine ⟨_, rfl, ?_⟩))
   go_meet
   case rel => exact ⟨_, (t249), (by first | rfl | (simp; done) | (simp [*]; done)), H', ⟨by first | omega | exact Nat.le_refl _⟩, ⟨(blk_put (cs' := #[.int .i64 t245, .int .i64 t246, .int .i64 t247]) (blk_put (blk_put BK248.out 0 _ rfl) 1 _ rfl) 2 _ rfl)⟩, ⟨by first | exact (below_set (below_set (below_set HB.out GE248.out) GE248.out) GE248.out) | (repeat (first | exact (below_set (below_set (below_set HB.out GE248.out) GE248.out) GE248.out) | apply pw_below_drewN | apply below_drew1 | apply below_alloc))⟩⟩
  rw [if_neg c30] at H
  have c30b0 : (t241 == 0) = false := beq_eq_false_iff_ne.mpr c30
  have c30b1 : (t241 != 0) = true := bne_iff_ne.mpr c30
  (first | rw [c30b0] | (simp only [i64_w, i32_w]; rw [c30b0]) | skip)
  have H' := Aside0.mk H
  clear H
  go_wp2
  go_meet
  case rel => exact ⟨_, (t241), (by first | rfl | (simp; done) | (simp [*]; done)), H', ⟨by first | omega | exact Nat.le_refl _⟩, ⟨(blk_put (cs' := #[.int .i64 t245, .int .i64 t246, .int .i64 t247]) (blk_put (blk_put BK248.out 0 _ rfl) 1 _ rfl) 2 _ rfl)⟩, ⟨by first | exact (below_set (below_set (below_set HB.out GE248.out) GE248.out) GE248.out) | (repeat (first | exact (below_set (below_set (below_set HB.out GE248.out) GE248.out) GE248.out) | apply pw_below_drewN | apply below_drew1 | apply below_alloc))⟩⟩
 clear HC12
 obtain ⟨kq, x9_11, rfl, HA, HJ11, BK248, HB⟩ := hcut
 cases kq with
 | zero => exact absurd HA.out (by simp [relievoref03_pass.j0])
 | succ kj11 =>
  have H := HA.out
  clear HA
  simp only [relievoref03_pass.j0] at H
  by_cases c33 : x9_11 = 0
  ·rw [if_pos c33] at H
   have c33b0 : (x9_11 == 0) = true := beq_iff_eq.mpr c33
   have c33b1 : (x9_11 != 0) = false := bne_eq_false_iff_eq.mpr c33
   clear c33
   replace H := Option.bind_eq_some_iff.mp H
   obtain ⟨t250, A340, H⟩ := H
   replace H : (if t250 = 0 then ((relievoref03_sign.f t247).bind fun t251 => (some t251)) else (some t250)) = some r := H
   have A34 := Aside0.mk A340
   clear A340
   by_cases c35 : t250 = 0
   ·rw [if_pos c35] at H
    have c35b0 : (t250 == 0) = true := beq_iff_eq.mpr c35
    have c35b1 : (t250 != 0) = false := bne_eq_false_iff_eq.mpr c35
    clear c35
    replace H := Option.bind_eq_some_iff.mp H
    obtain ⟨t251, A360, H⟩ := H
    replace H : (some t251) = some r := H
    have A36 := Aside0.mk A360
    clear A360
    obtain rfl := Option.some.inj H
    obtain ⟨hcz37_0, hcz37_1, hcz37_2⟩ := cells3 BK248.out
    go_wp2_with (first | ((with_reducible refine gate_callee (f := 29) rfl ?_); refine goesL_ (some 35) rfl rfl Try.func29 (by kernel_rfl) rfl #[.int .i64 t246] rfl (by (try simp only [List.map_toArray, List.map_cons, List.map_nil]); first | done | rfl | (simp only [List.length_drop, List.length_take]; rfl)) ?_; (with_reducible refine (relievoref03_sign.calls t246 t250 _ A34.out).mono ?_); rintro e w' ⟨rfl, ⟨nd, rfl⟩⟩; refine ⟨_, rfl, ?_⟩) | ((with_reducible refine gate_callee (f := 29) rfl ?_); refine goesL_ (some 40) rfl rfl Try.func29 (by kernel_rfl) rfl #[.int .i64 t247] rfl (by (try simp only [List.map_toArray, List.map_cons, List.map_nil]); first | done | rfl | (simp only [List.length_drop, List.length_take]; rfl)) ?_; (with_reducible refine (relievoref03_sign.calls t247 t251 _ A36.out).mono ?_); rintro e w' ⟨rfl, ⟨nd, rfl⟩⟩; refine ⟨_, rfl, ?_⟩))
    go_ret
    exact ⟨by first | rfl | (simp [errW_none, errW_some] <;> rfl) | (simp [*, errW_none, errW_some] <;> rfl), by first | exact HB.out | (repeat (first | exact HB.out | apply pw_below_drewN | apply below_drew1 | apply below_alloc))⟩
   rw [if_neg c35] at H
   have c35b0 : (t250 == 0) = false := beq_eq_false_iff_ne.mpr c35
   have c35b1 : (t250 != 0) = true := bne_iff_ne.mpr c35
   obtain rfl := Option.some.inj H
   obtain ⟨hcz38_0, hcz38_1, hcz38_2⟩ := cells3 BK248.out
   go_wp2_with (first | ((with_reducible refine gate_callee (f := 29) rfl ?_); refine goesL_ (some 35) rfl rfl Try.func29 (by kernel_rfl) rfl #[.int .i64 t246] rfl (by (try simp only [List.map_toArray, List.map_cons, List.map_nil]); first | done | rfl | (simp only [List.length_drop, List.length_take]; rfl)) ?_; (with_reducible refine (relievoref03_sign.calls t246 t250 _ A34.out).mono ?_); rintro e w' ⟨rfl, ⟨nd, rfl⟩⟩; refine ⟨_, rfl, ?_⟩))
   go_ret
   exact ⟨by first | rfl | (simp [errW_none, errW_some] <;> rfl) | (simp [*, errW_none, errW_some] <;> rfl), by first | exact HB.out | (repeat (first | exact HB.out | apply pw_below_drewN | apply below_drew1 | apply below_alloc))⟩
  rw [if_neg c33] at H
  have c33b0 : (x9_11 == 0) = false := beq_eq_false_iff_ne.mpr c33
  have c33b1 : (x9_11 != 0) = true := bne_iff_ne.mpr c33
  obtain rfl := Option.some.inj H
  go_wp2
  go_ret
  exact ⟨by first | rfl | (simp [errW_none, errW_some] <;> rfl) | (simp [*, errW_none, errW_some] <;> rfl), by first | exact HB.out | (repeat (first | exact HB.out | apply pw_below_drewN | apply below_drew1 | apply below_alloc))⟩

end Go.Proofs.Ytfmbophennepdaa.G
