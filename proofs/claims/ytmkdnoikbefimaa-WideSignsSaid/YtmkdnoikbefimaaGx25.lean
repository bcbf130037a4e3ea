-- Written by a program of this session (wip/gen), out of the translation; Lean checks it.
import Derived.Test.YtmkdnoikbefimaaGx0
import Derived.Test.YtmkdnoikbefimaaGx2
import Derived.Test.YtmkdnoikbefimaaGx4
import Derived.Test.YtmkdnoikbefimaaGx10
import Derived.Test.YtmkdnoikbefimaaGx13
import Derived.Test.YtmkdnoikbefimaaGx22
import Derived.Test.YtmkdnoikbefimaaGx24
namespace Go.Proofs.Ytmkdnoikbefimaa.G
open Go.RowKit Go.Proofs.YtmkdnoikbefimaaW.PrintWords Go.Proofs.YtmkdnoikbefimaaW.PrintLast Go.Proofs.YtmkdnoikbefimaaW.PrintMore
attribute [local go_sem] max2_int min2_int max_two min_two max_three min_three max_four min_four   -- for this text's walks alone
set_option linter.unusedVariables false
set_option linter.unusedSimpArgs false

attribute [local go_sem high] eqA30
/-! ### relievolaw01_WideSigns: function 4 -/
mutual
def relievolaw01_WideSigns.j0 : Nat → Int → Int → Bool → Int → Int → Option (Bool)
  | 0, _, _, _, _, _ => none
  | k + 1, x0, x1, x6, x184000, x184001 => (wide_Of.f 0).bind fun bt186 => ((wide_Cmp.f k x184000 x184001 bt186.1 bt186.2).bind fun t188 => (if (x6 != (t188 == 0)) = true then (relievolaw01_WideSigns.j1 k x0 x1 true x184000 x184001) else (if x6 = true then (relievolaw01_WideSigns.j1 k x0 x1 false x184000 x184001) else (relievolaw01_WideSigns.j1 k x0 x1 ((decide (t188 < 0)) != ((decide (x0 < 0)) != (decide (x1 < 0)))) x184000 x184001))))
def relievolaw01_WideSigns.j1 : Nat → Int → Int → Bool → Int → Int → Option (Bool)
  | 0, _, _, _, _, _ => none
  | k + 1, x0, x1, x46, x184000, x184001 => if x46 = true then (some false) else (if x0 = (wrap64 (-x0)) then (some true) else ((wide_Neg.f x184000 x184001).bind fun bt189 => (if bt189.2.2 = true then ((wide_Mul.f (wrap64 (-x0)) x1).bind fun bt193 => (some (bt193.1 == bt189.1 && (bt193.2 == bt189.2.1)))) else (some false))))
end
def relievolaw01_WideSigns.f (k : Nat) (a0 : Int) (a1 : Int) : Option (Bool) := (relievolaw01_alive.f k).bind fun t180 => (if t180 = true then ((wide_Mul.f a0 a1).bind fun bt181 => ((wide_Mul.f a1 a0).bind fun bt184 => (if (!(bt181.1 == bt184.1) || (!(bt181.2 == bt184.2))) = true then (some false) else (if a0 = 0 then (relievolaw01_WideSigns.j0 k a0 a1 true bt181.1 bt181.2) else (relievolaw01_WideSigns.j0 k a0 a1 (a1 == 0) bt181.1 bt181.2))))) else (some false))
def relievolaw01_WideSigns.T13 : Bool × List (List Nat × List Nat) := (true, [([], []), ([0], [0]), ([1], [1]), ([2, 1], [1, 2]), ([1], [1]), ([3, 4, 1, 1], [1, 3, 4]), ([1], [1]), ([5, 6, 1], [1, 5, 6]), ([1, 7], [1, 7]), ([8, 5, 0, 1, 2, 3, 4, 5, 6, 7, 8], [8])])
def relievolaw01_WideSigns.B13 : List Nat := [0, 1, 3, 7, 3, 31, 3, 127, 255, 511]
theorem relievolaw01_WideSigns.tab13 : rtab .any (opsOf Try.f4 13) = relievolaw01_WideSigns.T13 := by kernel_rfl
theorem relievolaw01_WideSigns.bits13 : waitsOk relievolaw01_WideSigns.T13.2 relievolaw01_WideSigns.B13 = true := by kernel_rfl
set_option maxHeartbeats 8000000 in
set_option maxRecDepth 100000 in
theorem relievolaw01_WideSigns.calls (k : Nat) (a0 : Int) (a1 : Int) (r : Bool) (w : World) (h : relievolaw01_WideSigns.f k a0 a1 = some r) :
    Calls Try.prog 4 #[.int .i64 a0, .int .i64 a1] w fun e w' => e = .returned (.bool r) ∧ Below w.heap.size w w' := by
 have hu30 := Try.underlying30
 have HB := Aside0.mk (Below.refl w.heap.size w)
 have H : ((relievolaw01_alive.f k).bind fun t180 => (if t180 = true then ((wide_Mul.f a0 a1).bind fun bt181 => ((wide_Mul.f a1 a0).bind fun bt184 => (if (!(bt181.1 == bt184.1) || (!(bt181.2 == bt184.2))) = true then (some false) else (if a0 = 0 then (relievolaw01_WideSigns.j0 k a0 a1 true bt181.1 bt181.2) else (relievolaw01_WideSigns.j0 k a0 a1 (a1 == 0) bt181.1 bt181.2))))) else (some false))) = some r := h
 clear h
 replace H := Option.bind_eq_some_iff.mp H
 obtain ⟨t180, A30, H⟩ := H
 replace H : (if t180 = true then ((wide_Mul.f a0 a1).bind fun bt181 => ((wide_Mul.f a1 a0).bind fun bt184 => (if (!(bt181.1 == bt184.1) || (!(bt181.2 == bt184.2))) = true then (some false) else (if a0 = 0 then (relievolaw01_WideSigns.j0 k a0 a1 true bt181.1 bt181.2) else (relievolaw01_WideSigns.j0 k a0 a1 (a1 == 0) bt181.1 bt181.2))))) else (some false)) = some r := H
 have A3 := Aside0.mk A30
 clear A30
 by_cases c4 : t180 = true
 ·subst c4
  have H1 : ((wide_Mul.f a0 a1).bind fun bt181 => ((wide_Mul.f a1 a0).bind fun bt184 => (if (!(bt181.1 == bt184.1) || (!(bt181.2 == bt184.2))) = true then (some false) else (if a0 = 0 then (relievolaw01_WideSigns.j0 k a0 a1 true bt181.1 bt181.2) else (relievolaw01_WideSigns.j0 k a0 a1 (a1 == 0) bt181.1 bt181.2))))) = some r := by rw [if_pos rfl] at H; exact H
  clear H
  have H := H1
  clear H1
  replace H := Option.bind_eq_some_iff.mp H
  obtain ⟨⟨t181, t182⟩, A50, H⟩ := H
  replace H : ((wide_Mul.f a1 a0).bind fun bt184 => (if (!(t181 == bt184.1) || (!(t182 == bt184.2))) = true then (some false) else (if a0 = 0 then (relievolaw01_WideSigns.j0 k a0 a1 true t181 t182) else (relievolaw01_WideSigns.j0 k a0 a1 (a1 == 0) t181 t182)))) = some r := H
  have A5 := Aside0.mk A50
  clear A50
  replace H := Option.bind_eq_some_iff.mp H
  obtain ⟨⟨t184, t185⟩, A60, H⟩ := H
  replace H : (if (!(t181 == t184) || (!(t182 == t185))) = true then (some false) else (if a0 = 0 then (relievolaw01_WideSigns.j0 k a0 a1 true t181 t182) else (relievolaw01_WideSigns.j0 k a0 a1 (a1 == 0) t181 t182))) = some r := H
  have A6 := Aside0.mk A60
  clear A60
  by_cases c7 : (!(t181 == t184) || (!(t182 == t185))) = true
  ·rw [if_pos c7] at H
   have c7b0 : (!(t181 == t184) || (!(t182 == t185))) = true := c7
   clear c7
   obtain rfl := Option.some.inj H
   go_enter Try.func4, Try.ntmps4
   try go_wp2_with (first | ((with_reducible refine gate_callee (f := 11) rfl ?_); refine goesL_ (some 10) rfl rfl Try.func11 (by kernel_rfl) rfl #[] rfl (by (try simp only [List.map_toArray, List.map_cons, List.map_nil]); first | done | rfl | (simp only [List.length_drop, List.length_take]; rfl)) ?_; (with_reducible refine (relievolaw01_alive.calls k  true _ A3.out).mono ?_); rintro e w8 ⟨rfl, hb⟩; refine ⟨_, rfl, ?_⟩; replace HB := Aside0.mk (below_step (HB.out) hb); (try clear hb); (try clear hb2); (try clear hk); (try clear hi)) | ((with_reducible refine gate_callee (f := 13) rfl ?_); refine goesL_ (some 14) rfl rfl Try.func13 (by kernel_rfl) rfl #[.int .i64 a0, .int .i64 a1] rfl (by (try simp only [List.map_toArray, List.map_cons, List.map_nil]); first | done | rfl | (simp only [List.length_drop, List.length_take]; rfl)) ?_; (with_reducible refine (wide_Mul.calls a0 a1 t181 t182 _ A5.out).mono ?_); rintro e w9 ⟨rfl, hb⟩; refine ⟨_, rfl, ?_⟩; replace HB := Aside0.mk (below_step (HB.out) hb); (try clear hb); (try clear hb2); (try clear hk); (try clear hi)) | ((with_reducible refine gate_dst (N := 5) rfl ?_); refine box_event ?hg (N := 5) ?hd (cs := #[.int .i64 0, .int .u64 0]) (t := 30) ?hr ?_; (case hd => rfl); (case hg => rfl); (case hr => first | (go_simp; done) | (go_simp; rfl)); intro gb183 hg w10 hbox hb; have BK183 := Aside0.mk (hbox); have GE183 := Aside0.mk (bG hg (HB.out)); replace HB := Aside0.mk (below_step (HB.out) hb); clear hb hbox hg; obtain ⟨hcz11_0, hcz11_1⟩ := cells2 BK183.out; have hfz11_0 := blk_frozen BK183.out 0; have hfz11_1 := blk_frozen BK183.out 1))
   generalize hw_ : ((w10.setCell ⟨gb183, 0, none⟩ (.int .i64 t181)).setCell ⟨gb183, 1, none⟩ (.int .u64 t182)) = w12
   replace BK183 := Aside0.mk (bF hw_ (blk_put (cs' := #[.int .i64 t181, .int .u64 t182]) (blk_put BK183.out 0 _ rfl) 1 _ rfl))
   replace HB := Aside0.mk (bH hw_ (below_set (below_set HB.out GE183.out) GE183.out))
   clear hw_
   replace BK183 := Aside0.mk (blk_drew BK183.out)
   replace HB := Aside0.mk (below_drew1 HB.out)
   refine start_ (n := 5) (S := fun w' => w'.cell? ⟨gb183, 0, none⟩ = some (.int .i64 t181) ∧ w'.cell? ⟨gb183, 1, none⟩ = some (.int .u64 t182)) (ds := []) #[false, false, false, false, false] (by kernel_rfl) rfl rfl ⟨(blk_cell BK183.out 0).trans rfl, (blk_cell BK183.out 1).trans rfl⟩ (fun hHeld => ?_)
   generalize w12.drew = w13 at BK183 HB hHeld ⊢
   refine pure_ (i := 1) (N := some 16) (v := ?_) (a' := ?_) #[false, true, false, false, false] rfl rfl (by kernel_rfl) (fun _ _ _ h => h) (Or.inl ⟨by rfl, ?_⟩) ?_ ?_
   rotate_left
   ·intro w'
    go_simp
    with_reducible rfl
   rotate_left
   ·simp only [Act.put, List.setIfInBounds_toArray, List.set_cons_zero, List.set_cons_succ, i64_w, i32_w]
    rfl
   refine pure_ (i := 2) (N := some 17) (v := ?_) (a' := ?_) #[false, true, true, false, false] rfl rfl (by kernel_rfl) (fun _ _ _ h => h) (Or.inl ⟨by rfl, ?_⟩) ?_ ?_
   rotate_left
   ·intro w'
    go_simp
    with_reducible rfl
   rotate_left
   ·simp only [Act.put, List.setIfInBounds_toArray, List.set_cons_zero, List.set_cons_succ, i64_w, i32_w]
    rfl
   refine take_ (i := 0) (N := some 15) (v := ?_) (a' := ?_) #[true, true, true, false, false] rfl rfl (by kernel_rfl) (fun _ _ _ h => h) (Or.inl ⟨by rfl, ?_⟩) hHeld ?_ ?_
   rotate_left
   ·rintro w' ⟨s0, s1⟩
    go_simp
    with_reducible rfl
   rotate_left
   ·simp only [Act.put, List.setIfInBounds_toArray, List.set_cons_zero, List.set_cons_succ, i64_w, i32_w]
    rfl
   refine one_ (i := 3) (N := some 18) #[true, true, true, true, false] rfl rfl (by kernel_rfl) (by decide) (fun K hK => ?_)
   refine goes_ Try.func13 (by kernel_rfl) rfl #[.int .i64 a1, .int .i64 a0] (by rfl) rfl rfl (by (try simp only [List.map_toArray, List.map_cons, List.map_nil]); first | done | rfl | (simp only [List.length_drop, List.length_take]; rfl)) ?_
   with_reducible refine (wide_Mul.calls a1 a0 t184 t185 _ A6.out).mono ?_
   rintro e w14 ⟨rfl, hb⟩
   refine ⟨_, rfl, ?_⟩
   replace BK183 := cB hb BK183
   replace HB := Aside0.mk (below_step (HB.out) hb)
   (try clear hb)
   (try clear hb2)
   (try clear hk)
   (try clear hi)
   refine hK.out _ _ ⟨(blk_cell BK183.out 0).trans rfl, (blk_cell BK183.out 1).trans rfl⟩ (fun hHeld => ?_)
   clear hK K
   refine norm_ (a' := ?_) ?_ ?_
   rotate_left
   ·show Act.put _ (some 18) _ = _
    simp only [Act.put, List.setIfInBounds_toArray, List.set_cons_zero, List.set_cons_succ, i64_w, i32_w]
    rfl
   refine pure_ (i := 4) (N := some 19) (v := ?_) (a' := ?_) #[true, true, true, true, true] rfl rfl (by kernel_rfl) (fun _ _ _ h => h) (Or.inl ⟨by rfl, ?_⟩) ?_ ?_
   rotate_left
   ·intro w'
    go_simp
    with_reducible rfl
   rotate_left
   ·simp only [Act.put, List.setIfInBounds_toArray, List.set_cons_zero, List.set_cons_succ, i64_w, i32_w]
    rfl
   refine done_ (by kernel_rfl) ?_
   try go_wp2
   go_ret
   exact ⟨by first | rfl | (simp [errW_none, errW_some] <;> rfl) | (simp [*, errW_none, errW_some] <;> rfl), HB.out⟩
  rw [if_neg c7] at H
  have c7b0 : (!(t181 == t184) || (!(t182 == t185))) = false := by simpa using c7
  clear c7
  have HC15 := Aside0.mk H
  clear H
  go_enter Try.func4, Try.ntmps4
  try go_wp2_with (first | ((with_reducible refine gate_callee (f := 11) rfl ?_); refine goesL_ (some 10) rfl rfl Try.func11 (by kernel_rfl) rfl #[] rfl (by (try simp only [List.map_toArray, List.map_cons, List.map_nil]); first | done | rfl | (simp only [List.length_drop, List.length_take]; rfl)) ?_; (with_reducible refine (relievolaw01_alive.calls k  true _ A3.out).mono ?_); rintro e w16 ⟨rfl, hb⟩; refine ⟨_, rfl, ?_⟩; replace HB := Aside0.mk (below_step (HB.out) hb); (try clear hb); (try clear hb2); (try clear hk); (try clear hi)) | ((with_reducible refine gate_callee (f := 13) rfl ?_); refine goesL_ (some 14) rfl rfl Try.func13 (by kernel_rfl) rfl #[.int .i64 a0, .int .i64 a1] rfl (by (try simp only [List.map_toArray, List.map_cons, List.map_nil]); first | done | rfl | (simp only [List.length_drop, List.length_take]; rfl)) ?_; (with_reducible refine (wide_Mul.calls a0 a1 t181 t182 _ A5.out).mono ?_); rintro e w17 ⟨rfl, hb⟩; refine ⟨_, rfl, ?_⟩; replace HB := Aside0.mk (below_step (HB.out) hb); (try clear hb); (try clear hb2); (try clear hk); (try clear hi)) | ((with_reducible refine gate_dst (N := 5) rfl ?_); refine box_event ?hg (N := 5) ?hd (cs := #[.int .i64 0, .int .u64 0]) (t := 30) ?hr ?_; (case hd => rfl); (case hg => rfl); (case hr => first | (go_simp; done) | (go_simp; rfl)); intro gb183 hg w18 hbox hb; have BK183 := Aside0.mk (hbox); have GE183 := Aside0.mk (bG hg (HB.out)); replace HB := Aside0.mk (below_step (HB.out) hb); clear hb hbox hg; obtain ⟨hcz19_0, hcz19_1⟩ := cells2 BK183.out; have hfz19_0 := blk_frozen BK183.out 0; have hfz19_1 := blk_frozen BK183.out 1))
  generalize hw_ : ((w18.setCell ⟨gb183, 0, none⟩ (.int .i64 t181)).setCell ⟨gb183, 1, none⟩ (.int .u64 t182)) = w20
  replace BK183 := Aside0.mk (bF hw_ (blk_put (cs' := #[.int .i64 t181, .int .u64 t182]) (blk_put BK183.out 0 _ rfl) 1 _ rfl))
  replace HB := Aside0.mk (bH hw_ (below_set (below_set HB.out GE183.out) GE183.out))
  clear hw_
  replace BK183 := Aside0.mk (blk_drew BK183.out)
  replace HB := Aside0.mk (below_drew1 HB.out)
  refine start_ (n := 5) (S := fun w' => w'.cell? ⟨gb183, 0, none⟩ = some (.int .i64 t181) ∧ w'.cell? ⟨gb183, 1, none⟩ = some (.int .u64 t182)) (ds := []) #[false, false, false, false, false] (by kernel_rfl) rfl rfl ⟨(blk_cell BK183.out 0).trans rfl, (blk_cell BK183.out 1).trans rfl⟩ (fun hHeld => ?_)
  generalize w20.drew = w21 at BK183 HB hHeld ⊢
  refine pure_ (i := 1) (N := some 16) (v := ?_) (a' := ?_) #[false, true, false, false, false] rfl rfl (by kernel_rfl) (fun _ _ _ h => h) (Or.inl ⟨by rfl, ?_⟩) ?_ ?_
  rotate_left
  ·intro w'
   go_simp
   with_reducible rfl
  rotate_left
  ·simp only [Act.put, List.setIfInBounds_toArray, List.set_cons_zero, List.set_cons_succ, i64_w, i32_w]
   rfl
  refine pure_ (i := 2) (N := some 17) (v := ?_) (a' := ?_) #[false, true, true, false, false] rfl rfl (by kernel_rfl) (fun _ _ _ h => h) (Or.inl ⟨by rfl, ?_⟩) ?_ ?_
  rotate_left
  ·intro w'
   go_simp
   with_reducible rfl
  rotate_left
  ·simp only [Act.put, List.setIfInBounds_toArray, List.set_cons_zero, List.set_cons_succ, i64_w, i32_w]
   rfl
  refine take_ (i := 0) (N := some 15) (v := ?_) (a' := ?_) #[true, true, true, false, false] rfl rfl (by kernel_rfl) (fun _ _ _ h => h) (Or.inl ⟨by rfl, ?_⟩) hHeld ?_ ?_
  rotate_left
  ·rintro w' ⟨s0, s1⟩
   go_simp
   with_reducible rfl
  rotate_left
  ·simp only [Act.put, List.setIfInBounds_toArray, List.set_cons_zero, List.set_cons_succ, i64_w, i32_w]
   rfl
  refine one_ (i := 3) (N := some 18) #[true, true, true, true, false] rfl rfl (by kernel_rfl) (by decide) (fun K hK => ?_)
  refine goes_ Try.func13 (by kernel_rfl) rfl #[.int .i64 a1, .int .i64 a0] (by rfl) rfl rfl (by (try simp only [List.map_toArray, List.map_cons, List.map_nil]); first | done | rfl | (simp only [List.length_drop, List.length_take]; rfl)) ?_
  with_reducible refine (wide_Mul.calls a1 a0 t184 t185 _ A6.out).mono ?_
  rintro e w22 ⟨rfl, hb⟩
  refine ⟨_, rfl, ?_⟩
  replace BK183 := cB hb BK183
  replace HB := Aside0.mk (below_step (HB.out) hb)
  (try clear hb)
  (try clear hb2)
  (try clear hk)
  (try clear hi)
  refine hK.out _ _ ⟨(blk_cell BK183.out 0).trans rfl, (blk_cell BK183.out 1).trans rfl⟩ (fun hHeld => ?_)
  clear hK K
  refine norm_ (a' := ?_) ?_ ?_
  rotate_left
  ·show Act.put _ (some 18) _ = _
   simp only [Act.put, List.setIfInBounds_toArray, List.set_cons_zero, List.set_cons_succ, i64_w, i32_w]
   rfl
  refine pure_ (i := 4) (N := some 19) (v := ?_) (a' := ?_) #[true, true, true, true, true] rfl rfl (by kernel_rfl) (fun _ _ _ h => h) (Or.inl ⟨by rfl, ?_⟩) ?_ ?_
  rotate_left
  ·intro w'
   go_simp
   with_reducible rfl
  rotate_left
  ·simp only [Act.put, List.setIfInBounds_toArray, List.set_cons_zero, List.set_cons_succ, i64_w, i32_w]
   rfl
  refine done_ (by kernel_rfl) ?_
  go_upto_region 6 with (fail)
  go_cut [6] (fun v6 wc => ∃ (kq : Nat) (x6_14 : Bool), v6 = .bool x6_14 ∧ Aside0 (relievolaw01_WideSigns.j0 kq a0 a1 x6_14 t181 t182 = some r) ∧ Aside0 (kq ≤ k) ∧ Aside0 (wc.heap[gb183]? = some (.cells #[.int .i64 t181, .int .u64 t182] 30 (0, 0))) ∧ Aside0 (Below w.heap.size w wc))
  case first =>
   have H := HC15.out
   clear HC15
   by_cases c23 : a0 = 0
   ·rw [if_pos c23] at H
    have c23b0 : (a0 == 0) = true := beq_iff_eq.mpr c23
    have c23b1 : (a0 != 0) = false := bne_eq_false_iff_eq.mpr c23
    clear c23
    (first | rw [c23b0] | (simp only [i64_w, i32_w]; rw [c23b0]) | skip)
    have H' := Aside0.mk H
    clear H
    go_wp2
    go_meet
    case rel => exact ⟨_, (true), (by first | rfl | (simp; done) | (simp [*]; done)), H', ⟨by first | omega | exact Nat.le_refl _⟩, ⟨BK183.out⟩, ⟨HB.out⟩⟩
   rw [if_neg c23] at H
   have c23b0 : (a0 == 0) = false := beq_eq_false_iff_ne.mpr c23
   have c23b1 : (a0 != 0) = true := bne_iff_ne.mpr c23
   (first | rw [c23b0] | (simp only [i64_w, i32_w]; rw [c23b0]) | skip)
   have H' := Aside0.mk H
   clear H
   go_wp2
   go_meet
   case rel => exact ⟨_, ((a1 == 0)), (by first | rfl | (simp; done) | (simp [*]; done)), H', ⟨by first | omega | exact Nat.le_refl _⟩, ⟨BK183.out⟩, ⟨HB.out⟩⟩
  clear HC15
  try clear c4
  try clear c7
  try clear c7b0
  try clear hcz19_0
  try clear hcz19_1
  try clear hfz19_0
  try clear hfz19_1
  obtain ⟨kq, x6_14, rfl, HA, HJ14, BK183, HB⟩ := hcut
  cases kq with
  | zero => exact absurd HA.out (by simp [relievolaw01_WideSigns.j0])
  | succ kj14 =>
   have H := HA.out
   clear HA
   simp only [relievolaw01_WideSigns.j0] at H
   replace H := Option.bind_eq_some_iff.mp H
   obtain ⟨⟨t186, t187⟩, A240, H⟩ := H
   replace H : ((wide_Cmp.f kj14 t181 t182 t186 t187).bind fun t188 => (if (x6_14 != (t188 == 0)) = true then (relievolaw01_WideSigns.j1 kj14 a0 a1 true t181 t182) else (if x6_14 = true then (relievolaw01_WideSigns.j1 kj14 a0 a1 false t181 t182) else (relievolaw01_WideSigns.j1 kj14 a0 a1 ((decide (t188 < 0)) != ((decide (a0 < 0)) != (decide (a1 < 0)))) t181 t182)))) = some r := H
   have A24 := Aside0.mk A240
   clear A240
   replace H := Option.bind_eq_some_iff.mp H
   obtain ⟨t188, A250, H⟩ := H
   replace H : (if (x6_14 != (t188 == 0)) = true then (relievolaw01_WideSigns.j1 kj14 a0 a1 true t181 t182) else (if x6_14 = true then (relievolaw01_WideSigns.j1 kj14 a0 a1 false t181 t182) else (relievolaw01_WideSigns.j1 kj14 a0 a1 ((decide (t188 < 0)) != ((decide (a0 < 0)) != (decide (a1 < 0)))) t181 t182))) = some r := H
   have A25 := Aside0.mk A250
   clear A250
   have HC26 := Aside0.mk H
   clear H
   try go_wp2
   replace BK183 := Aside0.mk (blk_drew BK183.out)
   replace HB := Aside0.mk (below_drew1 HB.out)
   refine start_ (n := 4) (S := fun w' => w'.cell? ⟨gb183, 0, none⟩ = some (.int .i64 t181) ∧ w'.cell? ⟨gb183, 1, none⟩ = some (.int .u64 t182)) (ds := []) #[false, false, false, false] (by kernel_rfl) rfl rfl ⟨(blk_cell BK183.out 0).trans rfl, (blk_cell BK183.out 1).trans rfl⟩ (fun hHeld => ?_)
   generalize wc.drew = w27 at BK183 HB hHeld ⊢
   refine take_ (i := 0) (N := some 26) (v := ?_) (a' := ?_) #[true, false, false, false] rfl rfl (by kernel_rfl) (fun _ _ _ h => h) (Or.inl ⟨by rfl, ?_⟩) hHeld ?_ ?_
   rotate_left
   ·rintro w' ⟨s0, s1⟩
    go_simp
    with_reducible rfl
   rotate_left
   ·simp only [Act.put, List.setIfInBounds_toArray, List.set_cons_zero, List.set_cons_succ, i64_w, i32_w]
    rfl
   refine one_ (i := 1) (N := some 27) #[true, true, false, false] rfl rfl (by kernel_rfl) (by decide) (fun K hK => ?_)
   refine goes_ Try.func15 (by kernel_rfl) rfl #[.int .i64 0] (by rfl) rfl rfl (by (try simp only [List.map_toArray, List.map_cons, List.map_nil]); first | done | rfl | (simp only [List.length_drop, List.length_take]; rfl)) ?_
   with_reducible refine (wide_Of.calls 0 t186 t187 _ A24.out).mono ?_
   rintro e w28 ⟨rfl, hb⟩
   refine ⟨_, rfl, ?_⟩
   replace BK183 := cB hb BK183
   replace HB := Aside0.mk (below_step (HB.out) hb)
   (try clear hb)
   (try clear hb2)
   (try clear hk)
   (try clear hi)
   refine hK.out _ _ ⟨(blk_cell BK183.out 0).trans rfl, (blk_cell BK183.out 1).trans rfl⟩ (fun hHeld => ?_)
   clear hK K
   refine norm_ (a' := ?_) ?_ ?_
   rotate_left
   ·show Act.put _ (some 27) _ = _
    simp only [Act.put, List.setIfInBounds_toArray, List.set_cons_zero, List.set_cons_succ, i64_w, i32_w]
    rfl
   refine one_ (i := 2) (N := some 28) #[true, true, true, false] rfl rfl (by kernel_rfl) (by decide) (fun K hK => ?_)
   refine goes_ Try.func14 (by kernel_rfl) rfl #[.agg #[.int .i64 t181, .int .u64 t182], .agg #[.int .i64 t186, .int .u64 t187]] (by rfl) rfl rfl (by (try simp only [List.map_toArray, List.map_cons, List.map_nil]); first | done | rfl | (simp only [List.length_drop, List.length_take]; rfl)) ?_
   with_reducible refine (wide_Cmp.calls kj14 t181 t182 t186 t187 t188 _ A25.out).mono ?_
   rintro e w29 ⟨rfl, hb⟩
   refine ⟨_, rfl, ?_⟩
   replace BK183 := cB hb BK183
   replace HB := Aside0.mk (below_step (HB.out) hb)
   (try clear hb)
   (try clear hb2)
   (try clear hk)
   (try clear hi)
   refine hK.out _ _ ⟨(blk_cell BK183.out 0).trans rfl, (blk_cell BK183.out 1).trans rfl⟩ (fun hHeld => ?_)
   clear hK K
   refine norm_ (a' := ?_) ?_ ?_
   rotate_left
   ·show Act.put _ (some 28) _ = _
    simp only [Act.put, List.setIfInBounds_toArray, List.set_cons_zero, List.set_cons_succ, i64_w, i32_w]
    rfl
   refine pure_ (i := 3) (N := some 7) (v := ?_) (a' := ?_) #[true, true, true, true] rfl rfl (by kernel_rfl) (fun _ _ _ h => h) (Or.inl ⟨by rfl, ?_⟩) ?_ ?_
   rotate_left
   ·intro w'
    go_simp
    with_reducible rfl
   rotate_left
   ·simp only [Act.put, List.setIfInBounds_toArray, List.set_cons_zero, List.set_cons_succ, i64_w, i32_w]
    rfl
   refine done_ (by kernel_rfl) ?_
   go_upto_region 8 with (fail)
   go_cut [46] (fun v46 wc => ∃ (kq : Nat) (x46_25 : Bool), v46 = .bool x46_25 ∧ Aside0 (relievolaw01_WideSigns.j1 kq a0 a1 x46_25 t181 t182 = some r) ∧ Aside0 (kq ≤ kj14) ∧ Aside0 (wc.heap[gb183]? = some (.cells #[.int .i64 t181, .int .u64 t182] 30 (0, 0))) ∧ Aside0 (Below w.heap.size w wc))
   case first =>
    have H := HC26.out
    clear HC26
    by_cases c30 : (x6_14 != (t188 == 0)) = true
    ·rw [if_pos c30] at H
     have c30b0 : (x6_14 != (t188 == 0)) = true := c30
     (try (have c30b1 : decide (x6_14 = (t188 == 0)) = false := by simpa using c30))
     (try (have c30b2 : (x6_14 == (t188 == 0)) = false := by simpa using c30))
     (try (have c30b3 : ¬ (x6_14 = (t188 == 0)) := by simpa using c30))
     clear c30
     (first | rw [c30b0] | (simp only [i64_w, i32_w]; rw [c30b0]) | skip)
     have H' := Aside0.mk H
     clear H
     go_wp2
     go_meet
     case rel => exact ⟨_, (true), (by first | rfl | (simp; done) | (simp [*]; done)), H', ⟨by have := HJ14.out; first | omega | exact Nat.le_refl _⟩, ⟨BK183.out⟩, ⟨HB.out⟩⟩
    rw [if_neg c30] at H
    have c30b0 : (x6_14 != (t188 == 0)) = false := by simpa using c30
    (try (have c30b1 : decide (x6_14 = (t188 == 0)) = true := by simpa using c30))
    (try (have c30b2 : (x6_14 == (t188 == 0)) = true := by simpa using c30))
    clear c30
    (first | rw [c30b0] | (simp only [i64_w, i32_w]; rw [c30b0]) | skip)
    by_cases c31 : x6_14 = true
    ·subst c31
     have H1 : (relievolaw01_WideSigns.j1 kj14 a0 a1 false t181 t182) = some r := by rw [if_pos rfl] at H; exact H
     clear H
     have H := H1
     clear H1
     have H' := Aside0.mk H
     clear H
     go_wp2
     go_meet
     case rel => exact ⟨_, (false), (by first | rfl | (simp; done) | (simp [*]; done)), H', ⟨by have := HJ14.out; first | omega | exact Nat.le_refl _⟩, ⟨BK183.out⟩, ⟨HB.out⟩⟩
    replace c31 := Bool.eq_false_iff.mpr c31
    subst c31
    have H1 : (relievolaw01_WideSigns.j1 kj14 a0 a1 ((decide (t188 < 0)) != ((decide (a0 < 0)) != (decide (a1 < 0)))) t181 t182) = some r := by rw [if_neg (show ¬ (false = true) by decide)] at H; exact H
    clear H
    have H := H1
    clear H1
    have H' := Aside0.mk H
    clear H
    go_wp2
    go_meet
    case rel => exact ⟨_, (((decide (t188 < 0)) != ((decide (a0 < 0)) != (decide (a1 < 0))))), (by first | rfl | (simp; done) | (simp [*]; done)), H', ⟨by have := HJ14.out; first | omega | exact Nat.le_refl _⟩, ⟨BK183.out⟩, ⟨HB.out⟩⟩
   clear HC26
   obtain ⟨kq, x46_25, rfl, HA, HJ25, BK183, HB⟩ := hcut
   cases kq with
   | zero => exact absurd HA.out (by simp [relievolaw01_WideSigns.j1])
   | succ kj25 =>
    have H := HA.out
    clear HA
    simp only [relievolaw01_WideSigns.j1] at H
    by_cases c32 : x46_25 = true
    ·subst c32
     have H1 : (some false) = some r := by rw [if_pos rfl] at H; exact H
     clear H
     have H := H1
     clear H1
     obtain rfl := Option.some.inj H
     go_wp2
     go_ret
     exact ⟨by first | rfl | (simp [errW_none, errW_some] <;> rfl) | (simp [*, errW_none, errW_some] <;> rfl), HB.out⟩
    replace c32 := Bool.eq_false_iff.mpr c32
    subst c32
    have H1 : (if a0 = (wrap64 (-a0)) then (some true) else ((wide_Neg.f t181 t182).bind fun bt189 => (if bt189.2.2 = true then ((wide_Mul.f (wrap64 (-a0)) a1).bind fun bt193 => (some (bt193.1 == bt189.1 && (bt193.2 == bt189.2.1)))) else (some false)))) = some r := by rw [if_neg (show ¬ (false = true) by decide)] at H; exact H
    clear H
    have H := H1
    clear H1
    by_cases c33 : a0 = (wrap64 (-a0))
    ·rw [if_pos c33] at H
     have c33b0 : (a0 == (wrap64 (-a0))) = true := beq_iff_eq.mpr c33
     have c33b1 : (a0 != (wrap64 (-a0))) = false := bne_eq_false_iff_eq.mpr c33
     clear c33
     obtain rfl := Option.some.inj H
     go_wp2
     go_ret
     exact ⟨by first | rfl | (simp [errW_none, errW_some] <;> rfl) | (simp [*, errW_none, errW_some] <;> rfl), HB.out⟩
    rw [if_neg c33] at H
    have c33b0 : (a0 == (wrap64 (-a0))) = false := beq_eq_false_iff_ne.mpr c33
    have c33b1 : (a0 != (wrap64 (-a0))) = true := bne_iff_ne.mpr c33
    replace H := Option.bind_eq_some_iff.mp H
    obtain ⟨⟨t189, t190, t191⟩, A340, H⟩ := H
    replace H : (if t191 = true then ((wide_Mul.f (wrap64 (-a0)) a1).bind fun bt193 => (some (bt193.1 == t189 && (bt193.2 == t190)))) else (some false)) = some r := H
    have A34 := Aside0.mk A340
    clear A340
    by_cases c35 : t191 = true
    ·subst c35
     have H1 : ((wide_Mul.f (wrap64 (-a0)) a1).bind fun bt193 => (some (bt193.1 == t189 && (bt193.2 == t190)))) = some r := by rw [if_pos rfl] at H; exact H
     clear H
     have H := H1
     clear H1
     replace H := Option.bind_eq_some_iff.mp H
     obtain ⟨⟨t193, t194⟩, A360, H⟩ := H
     replace H : (some (t193 == t189 && (t194 == t190))) = some r := H
     have A36 := Aside0.mk A360
     clear A360
     obtain rfl := Option.some.inj H
     obtain ⟨hcz37_0, hcz37_1⟩ := cells2 BK183.out
     try go_wp2_with (first | ((with_reducible refine gate_callee (f := 16) rfl ?_); refine goesL_ (some 53) rfl rfl Try.func16 (by kernel_rfl) rfl #[.agg #[.int .i64 t181, .int .u64 t182]] rfl (by (try simp only [List.map_toArray, List.map_cons, List.map_nil]); first | done | rfl | (simp only [List.length_drop, List.length_take]; rfl)) ?_; (with_reducible refine (wide_Neg.calls t181 t182 t189 t190 true _ A34.out).mono ?_); rintro e w38 ⟨rfl, hb⟩; refine ⟨_, rfl, ?_⟩; replace BK183 := cB hb BK183; replace HB := Aside0.mk (below_step (HB.out) hb); (try clear hb); (try clear hb2); (try clear hk); (try clear hi)) | ((with_reducible refine gate_dst (N := 8) rfl ?_); refine box_event ?hg (N := 8) ?hd (cs := #[.int .i64 0, .int .u64 0]) (t := 30) ?hr ?_; (case hd => rfl); (case hg => rfl); (case hr => first | (go_simp; done) | (go_simp; rfl)); intro gb192 hg w39 hbox hb; have BK192 := Aside0.mk (hbox); have GE192 := Aside0.mk (bG hg (HB.out)); have NB183_192 := cN hg BK183; have NB192_183 := cM hg BK183; replace BK183 := cB hb BK183; replace HB := Aside0.mk (below_step (HB.out) hb); clear hb hbox hg; have hnb40 := NB192_183.out; have hnc40 := NB183_192.out; obtain ⟨hcz41_0, hcz41_1⟩ := cells2 BK192.out; have hfz41_0 := blk_frozen BK192.out 0; have hfz41_1 := blk_frozen BK192.out 1))
     generalize hw_ : ((w39.setCell ⟨gb192, 0, none⟩ (.int .i64 t189)).setCell ⟨gb192, 1, none⟩ (.int .u64 t190)) = w42
     replace BK192 := Aside0.mk (bF hw_ (blk_put (cs' := #[.int .i64 t189, .int .u64 t190]) (blk_put BK192.out 0 _ rfl) 1 _ rfl))
     replace HB := Aside0.mk (bH hw_ (below_set (below_set HB.out GE192.out) GE192.out))
     clear hw_
     replace BK192 := Aside0.mk (blk_drew BK192.out)
     replace HB := Aside0.mk (below_drew1 HB.out)
     refine start_ (n := 10) (S := fun w' => w'.cell? ⟨gb192, 0, none⟩ = some (.int .i64 t189) ∧ w'.cell? ⟨gb192, 1, none⟩ = some (.int .u64 t190)) (ds := []) #[false, false, false, false, false, false, false, false, false, false] (by kernel_rfl) rfl rfl ⟨(blk_cell BK192.out 0).trans rfl, (blk_cell BK192.out 1).trans rfl⟩ (fun hHeld => ?_); refine with_tabW relievolaw01_WideSigns.tab13 relievolaw01_WideSigns.bits13 (fun HT_ HW_ => ?_)
     generalize w42.drew = w43 at BK192 HB hHeld ⊢
     refine pure_ (i := 0) (N := some 56) (v := ?_) (a' := ?_) #[true, false, false, false, false, false, false, false, false, false] rfl rfl (any_of HT_.out (by kernel_rfl)) (fun _ _ _ h => h) (Or.inl ⟨by rfl, ?_⟩) ?_ ?_
     rotate_left
     ·intro w'
      go_simp
      with_reducible rfl
     rotate_left
     ·simp only [Act.put, List.setIfInBounds_toArray, List.set_cons_zero, List.set_cons_succ, i64_w, i32_w]
      rfl
     refine pure_ (i := 1) (N := some 57) (v := ?_) (a' := ?_) #[true, true, false, false, false, false, false, false, false, false] rfl rfl (any_of HT_.out (by kernel_rfl)) (fun _ _ _ h => h) (Or.inl ⟨by rfl, ?_⟩) ?_ ?_
     rotate_left
     ·intro w'
      go_simp
      with_reducible rfl
     rotate_left
     ·simp only [Act.put, List.setIfInBounds_toArray, List.set_cons_zero, List.set_cons_succ, i64_w, i32_w]
      rfl
     refine pure_ (i := 2) (N := some 58) (v := ?_) (a' := ?_) #[true, true, true, false, false, false, false, false, false, false] rfl rfl (any_of HT_.out (by kernel_rfl)) (fun _ _ _ h => h) (Or.inl ⟨by rfl, ?_⟩) ?_ ?_
     rotate_left
     ·intro w'
      go_simp
      with_reducible rfl
     rotate_left
     ·simp only [Act.put, List.setIfInBounds_toArray, List.set_cons_zero, List.set_cons_succ, i64_w, i32_w]
      rfl
     refine pure_ (i := 3) (N := some 59) (v := ?_) (a' := ?_) #[true, true, true, true, false, false, false, false, false, false] rfl rfl (any_of HT_.out (by kernel_rfl)) (fun _ _ _ h => h) (Or.inl ⟨by rfl, ?_⟩) ?_ ?_
     rotate_left
     ·intro w'
      go_simp
      with_reducible rfl
     rotate_left
     ·simp only [Act.put, List.setIfInBounds_toArray, List.set_cons_zero, List.set_cons_succ, i64_w, i32_w]
      rfl
     refine pure_ (i := 4) (N := some 60) (v := ?_) (a' := ?_) #[true, true, true, true, true, false, false, false, false, false] rfl rfl (any_of HT_.out (by kernel_rfl)) (fun _ _ _ h => h) (Or.inl ⟨by rfl, ?_⟩) ?_ ?_
     rotate_left
     ·intro w'
      go_simp
      with_reducible rfl
     rotate_left
     ·simp only [Act.put, List.setIfInBounds_toArray, List.set_cons_zero, List.set_cons_succ, i64_w, i32_w]
      rfl
     refine take_ (i := 6) (N := some 62) (v := ?_) (a' := ?_) #[true, true, true, true, true, false, true, false, false, false] rfl rfl (take_ofW HT_.out HW_.out (by kernel_rfl)) (fun _ _ _ h => h) (Or.inl ⟨by rfl, ?_⟩) hHeld ?_ ?_
     rotate_left
     ·rintro w' ⟨s0, s1⟩
      go_simp
      with_reducible rfl
     rotate_left
     ·simp only [Act.put, List.setIfInBounds_toArray, List.set_cons_zero, List.set_cons_succ, i64_w, i32_w]
      rfl
     refine one_ (i := 5) (N := some 61) #[true, true, true, true, true, true, true, false, false, false] rfl rfl (one_of HT_.out (by kernel_rfl)) (by decide) (fun K hK => ?_)
     refine goes_ Try.func13 (by kernel_rfl) rfl #[.int .i64 (wrap64 (-a0)), .int .i64 a1] (by rfl) rfl rfl (by (try simp only [List.map_toArray, List.map_cons, List.map_nil]); first | done | rfl | (simp only [List.length_drop, List.length_take]; rfl)) ?_
     with_reducible refine (wide_Mul.calls (wrap64 (-a0)) a1 t193 t194 _ A36.out).mono ?_
     rintro e w44 ⟨rfl, hb⟩
     refine ⟨_, rfl, ?_⟩
     replace BK192 := cB hb BK192
     replace HB := Aside0.mk (below_step (HB.out) hb)
     (try clear hb)
     (try clear hb2)
     (try clear hk)
     (try clear hi)
     refine hK.out _ _ ⟨(blk_cell BK192.out 0).trans rfl, (blk_cell BK192.out 1).trans rfl⟩ (fun hHeld => ?_)
     clear hK K
     refine norm_ (a' := ?_) ?_ ?_
     rotate_left
     ·show Act.put _ (some 61) _ = _
      simp only [Act.put, List.setIfInBounds_toArray, List.set_cons_zero, List.set_cons_succ, i64_w, i32_w]
      rfl
     refine pure_ (i := 7) (N := some 63) (v := ?_) (a' := ?_) #[true, true, true, true, true, true, true, true, false, false] rfl rfl (any_of HT_.out (by kernel_rfl)) (fun _ _ _ h => h) (Or.inl ⟨by rfl, ?_⟩) ?_ ?_
     rotate_left
     ·intro w'
      go_simp
      with_reducible rfl
     rotate_left
     ·simp only [Act.put, List.setIfInBounds_toArray, List.set_cons_zero, List.set_cons_succ, i64_w, i32_w]
      rfl
     refine pure_ (i := 8) (N := some 64) (v := ?_) (a' := ?_) #[true, true, true, true, true, true, true, true, true, false] rfl rfl (any_of HT_.out (by kernel_rfl)) (fun _ _ _ h => h) (Or.inl ⟨by rfl, ?_⟩) ?_ ?_
     rotate_left
     ·intro w'
      go_simp
      with_reducible rfl
     rotate_left
     ·simp only [Act.put, List.setIfInBounds_toArray, List.set_cons_zero, List.set_cons_succ, i64_w, i32_w]
      rfl
     refine pure_ (i := 9) (N := some 4) (v := ?_) (a' := ?_) #[true, true, true, true, true, true, true, true, true, true] rfl rfl (any_of HT_.out (by kernel_rfl)) (fun _ _ _ h => h) (Or.inl ⟨by rfl, ?_⟩) ?_ ?_
     rotate_left
     ·intro w'
      go_simp
      with_reducible rfl
     rotate_left
     ·simp only [Act.put, List.setIfInBounds_toArray, List.set_cons_zero, List.set_cons_succ, i64_w, i32_w]
      rfl
     refine done_ (done_of HT_.out (by kernel_rfl)) ?_
     try go_wp2
     go_ret
     exact ⟨by first | rfl | (simp [errW_none, errW_some] <;> rfl) | (simp [*, errW_none, errW_some] <;> rfl), HB.out⟩
    replace c35 := Bool.eq_false_iff.mpr c35
    subst c35
    have H1 : (some false) = some r := by rw [if_neg (show ¬ (false = true) by decide)] at H; exact H
    clear H
    have H := H1
    clear H1
    obtain rfl := Option.some.inj H
    obtain ⟨hcz45_0, hcz45_1⟩ := cells2 BK183.out
    try go_wp2_with (first | ((with_reducible refine gate_callee (f := 16) rfl ?_); refine goesL_ (some 53) rfl rfl Try.func16 (by kernel_rfl) rfl #[.agg #[.int .i64 t181, .int .u64 t182]] rfl (by (try simp only [List.map_toArray, List.map_cons, List.map_nil]); first | done | rfl | (simp only [List.length_drop, List.length_take]; rfl)) ?_; (with_reducible refine (wide_Neg.calls t181 t182 t189 t190 false _ A34.out).mono ?_); rintro e w46 ⟨rfl, hb⟩; refine ⟨_, rfl, ?_⟩; replace BK183 := cB hb BK183; replace HB := Aside0.mk (below_step (HB.out) hb); (try clear hb); (try clear hb2); (try clear hk); (try clear hi)) | ((with_reducible refine gate_dst (N := 8) rfl ?_); refine box_event ?hg (N := 8) ?hd (cs := #[.int .i64 0, .int .u64 0]) (t := 30) ?hr ?_; (case hd => rfl); (case hg => rfl); (case hr => first | (go_simp; done) | (go_simp; rfl)); intro gb192 hg w47 hbox hb; have BK192 := Aside0.mk (hbox); have GE192 := Aside0.mk (bG hg (HB.out)); have NB183_192 := cN hg BK183; have NB192_183 := cM hg BK183; replace BK183 := cB hb BK183; replace HB := Aside0.mk (below_step (HB.out) hb); clear hb hbox hg; have hnb48 := NB192_183.out; have hnc48 := NB183_192.out; obtain ⟨hcz49_0, hcz49_1⟩ := cells2 BK192.out; have hfz49_0 := blk_frozen BK192.out 0; have hfz49_1 := blk_frozen BK192.out 1))
    generalize hw_ : ((w47.setCell ⟨gb192, 0, none⟩ (.int .i64 t189)).setCell ⟨gb192, 1, none⟩ (.int .u64 t190)) = w50
    replace BK192 := Aside0.mk (bF hw_ (blk_put (cs' := #[.int .i64 t189, .int .u64 t190]) (blk_put BK192.out 0 _ rfl) 1 _ rfl))
    replace HB := Aside0.mk (bH hw_ (below_set (below_set HB.out GE192.out) GE192.out))
    clear hw_
    replace BK192 := Aside0.mk (blk_drew BK192.out)
    replace HB := Aside0.mk (below_drew1 HB.out)
    refine start_ (n := 10) (S := fun w' => True) (ds := []) #[false, false, false, false, false, false, false, false, false, false] (by kernel_rfl) rfl rfl trivial (fun hHeld => ?_); refine with_tabW relievolaw01_WideSigns.tab13 relievolaw01_WideSigns.bits13 (fun HT_ HW_ => ?_)
    generalize w50.drew = w51 at BK192 HB hHeld ⊢
    refine pure_ (i := 0) (N := some 56) (v := ?_) (a' := ?_) #[true, false, false, false, false, false, false, false, false, false] rfl rfl (any_of HT_.out (by kernel_rfl)) (fun _ _ _ h => h) (Or.inl ⟨by rfl, ?_⟩) ?_ ?_
    rotate_left
    ·intro w'
     go_simp
     with_reducible rfl
    rotate_left
    ·simp only [Act.put, List.setIfInBounds_toArray, List.set_cons_zero, List.set_cons_succ, i64_w, i32_w]
     rfl
    refine pure_ (i := 1) (N := some 57) (v := ?_) (a' := ?_) #[true, true, false, false, false, false, false, false, false, false] rfl rfl (any_of HT_.out (by kernel_rfl)) (fun _ _ _ h => h) (Or.inl ⟨by rfl, ?_⟩) ?_ ?_
    rotate_left
    ·intro w'
     go_simp
     with_reducible rfl
    rotate_left
    ·simp only [Act.put, List.setIfInBounds_toArray, List.set_cons_zero, List.set_cons_succ, i64_w, i32_w]
     rfl
    refine pure_ (i := 2) (N := some 58) (v := undef) (a' := ?_) #[true, true, true, false, false, false, false, false, false, false] rfl rfl (any_of HT_.out (by kernel_rfl)) (fun _ _ _ h => h) (Or.inr ⟨by rfl, rfl⟩) ?_ ?_
    rotate_left
    ·simp only [Act.put, List.setIfInBounds_toArray, List.set_cons_zero, List.set_cons_succ, i64_w, i32_w]
     rfl
    refine pure_ (i := 3) (N := some 59) (v := undef) (a' := ?_) #[true, true, true, true, false, false, false, false, false, false] rfl rfl (any_of HT_.out (by kernel_rfl)) (fun _ _ _ h => h) (Or.inr ⟨by rfl, rfl⟩) ?_ ?_
    rotate_left
    ·simp only [Act.put, List.setIfInBounds_toArray, List.set_cons_zero, List.set_cons_succ, i64_w, i32_w]
     rfl
    refine pure_ (i := 4) (N := some 60) (v := undef) (a' := ?_) #[true, true, true, true, true, false, false, false, false, false] rfl rfl (any_of HT_.out (by kernel_rfl)) (fun _ _ _ h => h) (Or.inr ⟨by rfl, rfl⟩) ?_ ?_
    rotate_left
    ·simp only [Act.put, List.setIfInBounds_toArray, List.set_cons_zero, List.set_cons_succ, i64_w, i32_w]
     rfl
    refine pure_ (i := 5) (N := some 61) (v := undef) (a' := ?_) #[true, true, true, true, true, true, false, false, false, false] rfl rfl (any_of HT_.out (by kernel_rfl)) (fun _ _ _ h => h) (Or.inr ⟨by rfl, rfl⟩) ?_ ?_
    rotate_left
    ·simp only [Act.put, List.setIfInBounds_toArray, List.set_cons_zero, List.set_cons_succ, i64_w, i32_w]
     rfl
    refine pure_ (i := 6) (N := some 62) (v := undef) (a' := ?_) #[true, true, true, true, true, true, true, false, false, false] rfl rfl (any_of HT_.out (by kernel_rfl)) (fun _ _ _ h => h) (Or.inr ⟨by rfl, rfl⟩) ?_ ?_
    rotate_left
    ·simp only [Act.put, List.setIfInBounds_toArray, List.set_cons_zero, List.set_cons_succ, i64_w, i32_w]
     rfl
    refine pure_ (i := 7) (N := some 63) (v := undef) (a' := ?_) #[true, true, true, true, true, true, true, true, false, false] rfl rfl (any_of HT_.out (by kernel_rfl)) (fun _ _ _ h => h) (Or.inr ⟨by rfl, rfl⟩) ?_ ?_
    rotate_left
    ·simp only [Act.put, List.setIfInBounds_toArray, List.set_cons_zero, List.set_cons_succ, i64_w, i32_w]
     rfl
    refine pure_ (i := 8) (N := some 64) (v := ?_) (a' := ?_) #[true, true, true, true, true, true, true, true, true, false] rfl rfl (any_of HT_.out (by kernel_rfl)) (fun _ _ _ h => h) (Or.inl ⟨by rfl, ?_⟩) ?_ ?_
    rotate_left
    ·intro w'
     go_simp
     with_reducible rfl
    rotate_left
    ·simp only [Act.put, List.setIfInBounds_toArray, List.set_cons_zero, List.set_cons_succ, i64_w, i32_w]
     rfl
    refine pure_ (i := 9) (N := some 4) (v := ?_) (a' := ?_) #[true, true, true, true, true, true, true, true, true, true] rfl rfl (any_of HT_.out (by kernel_rfl)) (fun _ _ _ h => h) (Or.inl ⟨by rfl, ?_⟩) ?_ ?_
    rotate_left
    ·intro w'
     go_simp
     with_reducible rfl
    rotate_left
    ·simp only [Act.put, List.setIfInBounds_toArray, List.set_cons_zero, List.set_cons_succ, i64_w, i32_w]
     rfl
    refine done_ (done_of HT_.out (by kernel_rfl)) ?_
    try go_wp2
    go_ret
    exact ⟨by first | rfl | (simp [errW_none, errW_some] <;> rfl) | (simp [*, errW_none, errW_some] <;> rfl), HB.out⟩
 replace c4 := Bool.eq_false_iff.mpr c4
 subst c4
 have H1 : (some false) = some r := by rw [if_neg (show ¬ (false = true) by decide)] at H; exact H
 clear H
 have H := H1
 clear H1
 obtain rfl := Option.some.inj H
 go_enter Try.func4, Try.ntmps4
 go_wp2_with (first | ((with_reducible refine gate_callee (f := 11) rfl ?_); refine goesL_ (some 10) rfl rfl Try.func11 (by kernel_rfl) rfl #[] rfl (by (try simp only [List.map_toArray, List.map_cons, List.map_nil]); first | done | rfl | (simp only [List.length_drop, List.length_take]; rfl)) ?_; (with_reducible refine (relievolaw01_alive.calls k  false _ A3.out).mono ?_); rintro e w52 ⟨rfl, hb⟩; refine ⟨_, rfl, ?_⟩; replace HB := Aside0.mk (below_step (HB.out) hb); (try clear hb); (try clear hb2); (try clear hk); (try clear hi)))
 go_ret
 exact ⟨by first | rfl | (simp [errW_none, errW_some] <;> rfl) | (simp [*, errW_none, errW_some] <;> rfl), HB.out⟩

/-- THE ONE PURE STATEMENT of relievolaw01_WideSigns: yours. -/
def relievolaw01_WideSigns.Pure : Prop := ∀ (a0 : Int) (a1 : Int), (Lit.int .i64 a0).wf = true → (Lit.int .i64 a1).wf = true → ∃ k, relievolaw01_WideSigns.f k a0 a1 = some true
theorem relievolaw01_WideSigns.walk (P : relievolaw01_WideSigns.Pure) (a0 : Int) (a1 : Int) (w : World) (w0 : (Lit.int .i64 a0).wf = true) (w1 : (Lit.int .i64 a1).wf = true) :
  Calls Try.prog 4 #[.int .i64 a0, .int .i64 a1] w fun e w' => e = .returned (.bool true) ∧ Below w.heap.size w w' := by
 obtain ⟨k, h⟩ := P a0 a1 w0 w1
 refine (relievolaw01_WideSigns.calls k a0 a1 true w h).mono ?_
 rintro e w' ⟨rfl, hd⟩
 exact ⟨rfl, hd⟩

end Go.Proofs.Ytmkdnoikbefimaa.G
