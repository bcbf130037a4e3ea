-- Written by a program of this session (wip/gen), out of the translation; Lean checks it.
import Derived.Test.YtfhjdhhflpekiaaGx0
import Derived.Test.YtfhjdhhflpekiaaGx2
import Derived.Test.YtfhjdhhflpekiaaCEq73
import Derived.Test.YtfhjdhhflpekiaaGx28
namespace Go.Proofs.Ytfhjdhhflpekiaa.G
open Go.RowKit Go.Proofs.YtfhjdhhflpekiaaW.PrintWords Go.Proofs.YtfhjdhhflpekiaaW.PrintLast Go.Proofs.YtfhjdhhflpekiaaW.PrintMore
attribute [local go_sem high] idx73_0 idx73_1 idx73_2 wl0 wl1 wl2 wl3 wl4 wl5 tm0_3 tm1_3 tm2_3 tm3_3 tm4_3 tm5_3
attribute [local go_sem] max2_int min2_int max_two min_two max_three min_three max_four min_four   -- for this text's walks alone
set_option linter.unusedVariables false
set_option linter.unusedSimpArgs false

attribute [local go_sem high] eqA72 eqA73
/-! ### relievoref00_SameMesh: function 21 -/
mutual
def relievoref00_SameMesh.j0 : Nat → Bool → List (S69) → List (S72) → List (S73) → List (S69) → List (S72) → List (S73) → Option (Bool)
  | 0, _, _, _, _, _, _, _ => none
  | k + 1, x30, x146000, x146001, x146002, x147000, x147001, x147002 => if x30 = true then (some false) else (relievoref00_SameMesh.l0 k 0 x146000 x146001 x146002 x147000 x147001 x147002)
def relievoref00_SameMesh.l0 : Nat → Int → List (S69) → List (S72) → List (S73) → List (S69) → List (S72) → List (S73) → Option (Bool)
  | 0, _, _, _, _, _, _, _ => none
  | k + 1, x5, x146000, x146001, x146002, x147000, x147001, x147002 => if x5 < (x146001.length : Int) then (if 0 ≤ x5 then (if x5 < (x147001.length : Int) then (if (!(((rd_T72 x146001 x5).f0) == ((rd_T72 x147001 x5).f0)) || (!(((rd_T72 x146001 x5).f1) == ((rd_T72 x147001 x5).f1)) || (!(((rd_T72 x146001 x5).f2) == ((rd_T72 x147001 x5).f2)) || (!(((rd_T72 x146001 x5).f3) == ((rd_T72 x147001 x5).f3)) || (!(((rd_T72 x146001 x5).f4) == ((rd_T72 x147001 x5).f4))))))) = true then (some false) else (relievoref00_SameMesh.l0 k (wrap64 (x5 + 1)) x146000 x146001 x146002 x147000 x147001 x147002)) else (none)) else (none)) else (relievoref00_SameMesh.l1 k 0 x146000 x146001 x146002 x147000 x147001 x147002)
def relievoref00_SameMesh.l1 : Nat → Int → List (S69) → List (S72) → List (S73) → List (S69) → List (S72) → List (S73) → Option (Bool)
  | 0, _, _, _, _, _, _, _ => none
  | k + 1, x6, x146000, x146001, x146002, x147000, x147001, x147002 => if x6 < (x146002.length : Int) then (if 0 ≤ x6 then (if x6 < (x147002.length : Int) then (if (!(((rd_T73 x146002 x6).f0) == ((rd_T73 x147002 x6).f0)) || (!(((rd_T73 x146002 x6).f1) == ((rd_T73 x147002 x6).f1)) || (!(((rd_T73 x146002 x6).f2) == ((rd_T73 x147002 x6).f2))))) = true then (some false) else (relievoref00_SameMesh.l1 k (wrap64 (x6 + 1)) x146000 x146001 x146002 x147000 x147001 x147002)) else (none)) else (none)) else (some true)
end
def relievoref00_SameMesh.f (k : Nat) (l0_0 : List (S69)) (l0_1 : List (S72)) (l0_2 : List (S73)) (l1_0 : List (S69)) (l1_1 : List (S72)) (l1_2 : List (S73)) : Option (Bool) := (relievoref00_SameVs.f k l0_0 l1_0).bind fun t147 => (if t147 = true then (if (l0_1.length : Int) = (l1_1.length : Int) then (relievoref00_SameMesh.j0 k ((l0_2.length : Int) != (l1_2.length : Int)) l0_0 l0_1 l0_2 l1_0 l1_1 l1_2) else (relievoref00_SameMesh.j0 k true l0_0 l0_1 l0_2 l1_0 l1_1 l1_2)) else (relievoref00_SameMesh.j0 k true l0_0 l0_1 l0_2 l1_0 l1_1 l1_2))
theorem relievoref00_SameMesh.mono_l : ∀ k, (∀ y0 y1 y2 y3 y4 y5 y6, LeO (relievoref00_SameMesh.j0 k y0 y1 y2 y3 y4 y5 y6) (relievoref00_SameMesh.j0 (k + 1) y0 y1 y2 y3 y4 y5 y6)) ∧ (∀ y0 y1 y2 y3 y4 y5 y6, LeO (relievoref00_SameMesh.l0 k y0 y1 y2 y3 y4 y5 y6) (relievoref00_SameMesh.l0 (k + 1) y0 y1 y2 y3 y4 y5 y6)) ∧ (∀ y0 y1 y2 y3 y4 y5 y6, LeO (relievoref00_SameMesh.l1 k y0 y1 y2 y3 y4 y5 y6) (relievoref00_SameMesh.l1 (k + 1) y0 y1 y2 y3 y4 y5 y6))
  | 0 => ⟨fun _ _ _ _ _ _ _ r h => by simp [relievoref00_SameMesh.j0] at h, fun _ _ _ _ _ _ _ r h => by simp [relievoref00_SameMesh.l0] at h, fun _ _ _ _ _ _ _ r h => by simp [relievoref00_SameMesh.l1] at h⟩
  | k + 1 => by
    obtain ⟨ih0, ih1, ih2⟩ := relievoref00_SameMesh.mono_l k
    refine ⟨?_, ?_, ?_⟩
    · intro y0 y1 y2 y3 y4 y5 y6
      unfold relievoref00_SameMesh.j0
      repeat' first
      | (with_reducible exact ih0 _ _ _ _ _ _ _)
      | (with_reducible exact ih1 _ _ _ _ _ _ _)
      | (with_reducible exact ih2 _ _ _ _ _ _ _)
      | (with_reducible exact relievoref00_SameVs.mono _ _ _)
      | (with_reducible exact LeO.refl _)
      | (with_reducible exact LeO.none _)
      | (with_reducible refine LeO.ite ?_ ?_)
      | (with_reducible refine LeO.bind ?_ (fun _ => ?_))
      | exact ih0 _ _ _ _ _ _ _
      | exact ih1 _ _ _ _ _ _ _
      | exact ih2 _ _ _ _ _ _ _
      | exact relievoref00_SameVs.mono _ _ _
      | exact LeO.none _
      | refine LeO.ite ?_ ?_
      | refine LeO.bind ?_ (fun _ => ?_)
    · intro y0 y1 y2 y3 y4 y5 y6
      unfold relievoref00_SameMesh.l0
      repeat' first
      | (with_reducible exact ih0 _ _ _ _ _ _ _)
      | (with_reducible exact ih1 _ _ _ _ _ _ _)
      | (with_reducible exact ih2 _ _ _ _ _ _ _)
      | (with_reducible exact relievoref00_SameVs.mono _ _ _)
      | (with_reducible exact LeO.refl _)
      | (with_reducible exact LeO.none _)
      | (with_reducible refine LeO.ite ?_ ?_)
      | (with_reducible refine LeO.bind ?_ (fun _ => ?_))
      | exact ih0 _ _ _ _ _ _ _
      | exact ih1 _ _ _ _ _ _ _
      | exact ih2 _ _ _ _ _ _ _
      | exact relievoref00_SameVs.mono _ _ _
      | exact LeO.none _
      | refine LeO.ite ?_ ?_
      | refine LeO.bind ?_ (fun _ => ?_)
    · intro y0 y1 y2 y3 y4 y5 y6
      unfold relievoref00_SameMesh.l1
      repeat' first
      | (with_reducible exact ih0 _ _ _ _ _ _ _)
      | (with_reducible exact ih1 _ _ _ _ _ _ _)
      | (with_reducible exact ih2 _ _ _ _ _ _ _)
      | (with_reducible exact relievoref00_SameVs.mono _ _ _)
      | (with_reducible exact LeO.refl _)
      | (with_reducible exact LeO.none _)
      | (with_reducible refine LeO.ite ?_ ?_)
      | (with_reducible refine LeO.bind ?_ (fun _ => ?_))
      | exact ih0 _ _ _ _ _ _ _
      | exact ih1 _ _ _ _ _ _ _
      | exact ih2 _ _ _ _ _ _ _
      | exact relievoref00_SameVs.mono _ _ _
      | exact LeO.none _
      | refine LeO.ite ?_ ?_
      | refine LeO.bind ?_ (fun _ => ?_)
theorem relievoref00_SameMesh.mono : ∀ a0 a1 a2 a3 a4 a5 k, LeO (relievoref00_SameMesh.f k a0 a1 a2 a3 a4 a5) (relievoref00_SameMesh.f (k + 1) a0 a1 a2 a3 a4 a5) := by
  intro a0 a1 a2 a3 a4 a5 k
  obtain ⟨ih0, ih1, ih2⟩ := relievoref00_SameMesh.mono_l k
  unfold relievoref00_SameMesh.f
  repeat' first
      | (with_reducible exact ih0 _ _ _ _ _ _ _)
      | (with_reducible exact ih1 _ _ _ _ _ _ _)
      | (with_reducible exact ih2 _ _ _ _ _ _ _)
      | (with_reducible exact relievoref00_SameVs.mono _ _ _)
      | (with_reducible exact LeO.refl _)
      | (with_reducible exact LeO.none _)
      | (with_reducible refine LeO.ite ?_ ?_)
      | (with_reducible refine LeO.bind ?_ (fun _ => ?_))
      | exact ih0 _ _ _ _ _ _ _
      | exact ih1 _ _ _ _ _ _ _
      | exact ih2 _ _ _ _ _ _ _
      | exact relievoref00_SameVs.mono _ _ _
      | exact LeO.none _
      | refine LeO.ite ?_ ?_
      | refine LeO.bind ?_ (fun _ => ?_)
set_option maxHeartbeats 8000000 in
set_option maxRecDepth 100000 in
theorem relievoref00_SameMesh.calls (k : Nat) (A0_0 : Option Addr) (c0_0 : Nat) (l0_0 : List (S69)) (A0_1 : Option Addr) (c0_1 : Nat) (l0_1 : List (S72)) (A0_2 : Option Addr) (c0_2 : Nat) (l0_2 : List (S73)) (A1_0 : Option Addr) (c1_0 : Nat) (l1_0 : List (S69)) (A1_1 : Option Addr) (c1_1 : Nat) (l1_1 : List (S72)) (A1_2 : Option Addr) (c1_2 : Nat) (l1_2 : List (S73)) (r : Bool) (w : World) (hr0_0 : Kd.C k69 w A0_0 l0_0.length l0_0) (hc0_0 : l0_0.length ≤ c0_0) (hr0_1 : Kd.C k72 w A0_1 l0_1.length l0_1) (hc0_1 : l0_1.length ≤ c0_1) (hr0_2 : Kd.C k73 w A0_2 l0_2.length l0_2) (hc0_2 : l0_2.length ≤ c0_2) (hr1_0 : Kd.C k69 w A1_0 l1_0.length l1_0) (hc1_0 : l1_0.length ≤ c1_0) (hr1_1 : Kd.C k72 w A1_1 l1_1.length l1_1) (hc1_1 : l1_1.length ≤ c1_1) (hr1_2 : Kd.C k73 w A1_2 l1_2.length l1_2) (hc1_2 : l1_2.length ≤ c1_2) (h : relievoref00_SameMesh.f k l0_0 l0_1 l0_2 l1_0 l1_1 l1_2 = some r) :
    Calls Try.prog 21 #[.agg #[.slice A0_0 l0_0.length c0_0, .slice A0_1 l0_1.length c0_1, .slice A0_2 l0_2.length c0_2], .agg #[.slice A1_0 l1_0.length c1_0, .slice A1_1 l1_1.length c1_1, .slice A1_2 l1_2.length c1_2]] w fun e w' => e = .returned (.bool r) ∧ Below w.heap.size w w' := by
 have hu40 := Try.underlying40
 have hu72 := Try.underlying72
 have hu73 := Try.underlying73
 have HR0_0 := Aside0.mk hr0_0
 have HC0_0 := Aside0.mk hc0_0
 clear hr0_0 hc0_0
 have HR0_1 := Aside0.mk hr0_1
 have HC0_1 := Aside0.mk hc0_1
 clear hr0_1 hc0_1
 have HR0_2 := Aside0.mk hr0_2
 have HC0_2 := Aside0.mk hc0_2
 clear hr0_2 hc0_2
 have HR1_0 := Aside0.mk hr1_0
 have HC1_0 := Aside0.mk hc1_0
 clear hr1_0 hc1_0
 have HR1_1 := Aside0.mk hr1_1
 have HC1_1 := Aside0.mk hc1_1
 clear hr1_1 hc1_1
 have HR1_2 := Aside0.mk hr1_2
 have HC1_2 := Aside0.mk hc1_2
 clear hr1_2 hc1_2
 have HB := Aside0.mk (Below.refl w.heap.size w)
 have H : ((relievoref00_SameVs.f k l0_0 l1_0).bind fun t147 => (if t147 = true then (if (l0_1.length : Int) = (l1_1.length : Int) then (relievoref00_SameMesh.j0 k ((l0_2.length : Int) != (l1_2.length : Int)) l0_0 l0_1 l0_2 l1_0 l1_1 l1_2) else (relievoref00_SameMesh.j0 k true l0_0 l0_1 l0_2 l1_0 l1_1 l1_2)) else (relievoref00_SameMesh.j0 k true l0_0 l0_1 l0_2 l1_0 l1_1 l1_2))) = some r := h
 clear h
 have HC3 := Aside0.mk H
 clear H
 go_enter Try.func21, Try.ntmps21
 go_upto_region 1 with (first | ((with_reducible refine gate_dst (N := 2) rfl ?_); (try (refine gate_guard (by rfl) ?_; dsimp only)); refine box_event ?hg (N := 2) ?hd (cs := #[.slice A0_0 l0_0.length c0_0, .slice A0_1 l0_1.length c0_1, .slice A0_2 l0_2.length c0_2]) (t := 40) ?hr ?_; (case hd => rfl); (case hg => rfl); (case hr => first | (go_simp; done) | (go_simp; rfl)); intro gb145 hg w4 hbox hb; have BK145 := Aside0.mk (hbox); have GE145 := Aside0.mk (bG hg (by first | exact HB.out | (repeat (first | exact HB.out | apply pw_below_drewN | apply below_drew1 | apply below_alloc)))); replace HB := Aside0.mk (below_step (by first | exact HB.out | (repeat (first | exact HB.out | apply pw_below_drewN | apply below_drew1 | apply below_alloc))) hb); clear hb hbox hg) | ((with_reducible refine gate_dst (N := 3) rfl ?_); (try (refine gate_guard (by rfl) ?_; dsimp only)); refine box_event ?hg (N := 3) ?hd (cs := #[.slice A1_0 l1_0.length c1_0, .slice A1_1 l1_1.length c1_1, .slice A1_2 l1_2.length c1_2]) (t := 40) ?hr ?_; (case hd => rfl); (case hg => rfl); (case hr => first | (go_simp; done) | (go_simp; rfl)); intro gb146 hg w5 hbox hb; have BK146 := Aside0.mk (hbox); have GE146 := Aside0.mk (bG hg (by first | exact HB.out | (repeat (first | exact HB.out | apply pw_below_drewN | apply below_drew1 | apply below_alloc)))); have NB145_146 := cN hg BK145; have NB146_145 := cM hg BK145; replace BK145 := cB hb BK145; replace HB := Aside0.mk (below_step (by first | exact HB.out | (repeat (first | exact HB.out | apply pw_below_drewN | apply below_drew1 | apply below_alloc))) hb); clear hb hbox hg))
 repeat (go_quiet (first | ((with_reducible refine gate_dst (N := 2) rfl ?_); (try (refine gate_guard (by rfl) ?_; dsimp only)); refine box_event ?hg (N := 2) ?hd (cs := #[.slice A0_0 l0_0.length c0_0, .slice A0_1 l0_1.length c0_1, .slice A0_2 l0_2.length c0_2]) (t := 40) ?hr ?_; (case hd => rfl); (case hg => rfl); (case hr => first | (go_simp; done) | (go_simp; rfl)); intro gb145 hg w4 hbox hb; have BK145 := Aside0.mk (hbox); have GE145 := Aside0.mk (bG hg (by first | exact HB.out | (repeat (first | exact HB.out | apply pw_below_drewN | apply below_drew1 | apply below_alloc)))); replace HB := Aside0.mk (below_step (by first | exact HB.out | (repeat (first | exact HB.out | apply pw_below_drewN | apply below_drew1 | apply below_alloc))) hb); clear hb hbox hg) | ((with_reducible refine gate_dst (N := 3) rfl ?_); (try (refine gate_guard (by rfl) ?_; dsimp only)); refine box_event ?hg (N := 3) ?hd (cs := #[.slice A1_0 l1_0.length c1_0, .slice A1_1 l1_1.length c1_1, .slice A1_2 l1_2.length c1_2]) (t := 40) ?hr ?_; (case hd => rfl); (case hg => rfl); (case hr => first | (go_simp; done) | (go_simp; rfl)); intro gb146 hg w5 hbox hb; have BK146 := Aside0.mk (hbox); have GE146 := Aside0.mk (bG hg (by first | exact HB.out | (repeat (first | exact HB.out | apply pw_below_drewN | apply below_drew1 | apply below_alloc)))); have NB145_146 := cN hg BK145; have NB146_145 := cM hg BK145; replace BK145 := cB hb BK145; replace HB := Aside0.mk (below_step (by first | exact HB.out | (repeat (first | exact HB.out | apply pw_below_drewN | apply below_drew1 | apply below_alloc))) hb); clear hb hbox hg)); go_upto_region 1 with (first | ((with_reducible refine gate_dst (N := 2) rfl ?_); (try (refine gate_guard (by rfl) ?_; dsimp only)); refine box_event ?hg (N := 2) ?hd (cs := #[.slice A0_0 l0_0.length c0_0, .slice A0_1 l0_1.length c0_1, .slice A0_2 l0_2.length c0_2]) (t := 40) ?hr ?_; (case hd => rfl); (case hg => rfl); (case hr => first | (go_simp; done) | (go_simp; rfl)); intro gb145 hg w4 hbox hb; have BK145 := Aside0.mk (hbox); have GE145 := Aside0.mk (bG hg (by first | exact HB.out | (repeat (first | exact HB.out | apply pw_below_drewN | apply below_drew1 | apply below_alloc)))); replace HB := Aside0.mk (below_step (by first | exact HB.out | (repeat (first | exact HB.out | apply pw_below_drewN | apply below_drew1 | apply below_alloc))) hb); clear hb hbox hg) | ((with_reducible refine gate_dst (N := 3) rfl ?_); (try (refine gate_guard (by rfl) ?_; dsimp only)); refine box_event ?hg (N := 3) ?hd (cs := #[.slice A1_0 l1_0.length c1_0, .slice A1_1 l1_1.length c1_1, .slice A1_2 l1_2.length c1_2]) (t := 40) ?hr ?_; (case hd => rfl); (case hg => rfl); (case hr => first | (go_simp; done) | (go_simp; rfl)); intro gb146 hg w5 hbox hb; have BK146 := Aside0.mk (hbox); have GE146 := Aside0.mk (bG hg (by first | exact HB.out | (repeat (first | exact HB.out | apply pw_below_drewN | apply below_drew1 | apply below_alloc)))); have NB145_146 := cN hg BK145; have NB146_145 := cM hg BK145; replace BK145 := cB hb BK145; replace HB := Aside0.mk (below_step (by first | exact HB.out | (repeat (first | exact HB.out | apply pw_below_drewN | apply below_drew1 | apply below_alloc))) hb); clear hb hbox hg)))
 (try simp only [Act.put, List.setIfInBounds_toArray, List.set_cons_zero, List.set_cons_succ])
 go_cut [30] (fun v30 wc => ∃ (kq : Nat) (x30_2 : Bool), v30 = .bool x30_2 ∧ Aside0 (relievoref00_SameMesh.j0 kq x30_2 l0_0 l0_1 l0_2 l1_0 l1_1 l1_2 = some r) ∧ Aside0 (kq ≤ k) ∧ Aside0 (wc.heap[gb145]? = some (.cells #[(.slice A0_0 l0_0.length c0_0), (.slice A0_1 l0_1.length c0_1), (.slice A0_2 l0_2.length c0_2)] 40 (0, 0))) ∧ Aside0 (wc.heap[gb146]? = some (.cells #[(.slice A1_0 l1_0.length c1_0), (.slice A1_1 l1_1.length c1_1), (.slice A1_2 l1_2.length c1_2)] 40 (0, 0))) ∧ Aside0 (Below w.heap.size w wc))
 case first =>
  have H := HC3.out
  clear HC3
  replace H := Option.bind_eq_some_iff.mp H
  obtain ⟨t147, A60, H⟩ := H
  replace H : (if t147 = true then (if (l0_1.length : Int) = (l1_1.length : Int) then (relievoref00_SameMesh.j0 k ((l0_2.length : Int) != (l1_2.length : Int)) l0_0 l0_1 l0_2 l1_0 l1_1 l1_2) else (relievoref00_SameMesh.j0 k true l0_0 l0_1 l0_2 l1_0 l1_1 l1_2)) else (relievoref00_SameMesh.j0 k true l0_0 l0_1 l0_2 l1_0 l1_1 l1_2)) = some r := H
  have A6 := Aside0.mk A60
  clear A60
  by_cases c7 : t147 = true
  ·subst c7
   have H1 : (if (l0_1.length : Int) = (l1_1.length : Int) then (relievoref00_SameMesh.j0 k ((l0_2.length : Int) != (l1_2.length : Int)) l0_0 l0_1 l0_2 l1_0 l1_1 l1_2) else (relievoref00_SameMesh.j0 k true l0_0 l0_1 l0_2 l1_0 l1_1 l1_2)) = some r := by rw [if_pos rfl] at H; exact H
   clear H
   have H := H1
   clear H1
   by_cases c8 : (l0_1.length : Int) = (l1_1.length : Int)
   ·rw [if_pos c8] at H
    have c8b0 : ((l0_1.length : Int) == (l1_1.length : Int)) = true := beq_iff_eq.mpr c8
    have c8b1 : ((l0_1.length : Int) != (l1_1.length : Int)) = false := bne_eq_false_iff_eq.mpr c8
    have c8b2 : (l0_1.length == l1_1.length) = true := by first | simpa using c8 | (simp at c8 ⊢; omega)
    clear c8
    (first | rw [c8b0] | (simp only [i64_w, i32_w]; rw [c8b0]) | skip)
    have H' := Aside0.mk H
    clear H
    obtain ⟨hcz9_0, hcz9_1, hcz9_2⟩ := cells3 BK145.out
    obtain ⟨hcz10_0, hcz10_1, hcz10_2⟩ := cells3 BK146.out
    go_wp2_with (first | (go_at_call 27; (with_reducible refine (relievoref00_SameVs.calls k _ _ l0_0 _ _ l1_0 true _ ?side1 ?side2 ?side3 ?side4 A6.out).mono ?_); (case side1 => repeat (first | exact (Kd.C_below HR0_0.out HB.out) | (with_reducible refine Kd.C_alloc ?_ _) | (with_reducible refine Kd.C_drewN ?_ _) | (with_reducible refine Kd.C_drew ?_))); (case side2 => exact HC0_0.out); (case side3 => repeat (first | exact (Kd.C_below HR1_0.out HB.out) | (with_reducible refine Kd.C_alloc ?_ _) | (with_reducible refine Kd.C_drewN ?_ _) | (with_reducible refine Kd.C_drew ?_))); (case side4 => exact HC1_0.out); rintro e w' ⟨rfl, ⟨nd, rfl⟩⟩; (try first | exact ⟨rfl, _, World.drewN_drewN _ _ _⟩ | exact ⟨rfl, _, Eq.trans (World.drewN_drewN _ _ _) (congrArg (World.drewN _) (Nat.add_assoc _ _ _))⟩)))
    repeat (go_quiet (first | (go_at_call 27; (with_reducible refine (relievoref00_SameVs.calls k _ _ l0_0 _ _ l1_0 true _ ?side1 ?side2 ?side3 ?side4 A6.out).mono ?_); (case side1 => repeat (first | exact (Kd.C_below HR0_0.out HB.out) | (with_reducible refine Kd.C_alloc ?_ _) | (with_reducible refine Kd.C_drewN ?_ _) | (with_reducible refine Kd.C_drew ?_))); (case side2 => exact HC0_0.out); (case side3 => repeat (first | exact (Kd.C_below HR1_0.out HB.out) | (with_reducible refine Kd.C_alloc ?_ _) | (with_reducible refine Kd.C_drewN ?_ _) | (with_reducible refine Kd.C_drew ?_))); (case side4 => exact HC1_0.out); rintro e w' ⟨rfl, ⟨nd, rfl⟩⟩; (try first | exact ⟨rfl, _, World.drewN_drewN _ _ _⟩ | exact ⟨rfl, _, Eq.trans (World.drewN_drewN _ _ _) (congrArg (World.drewN _) (Nat.add_assoc _ _ _))⟩))); try go_wp2_with (first | (go_at_call 27; (with_reducible refine (relievoref00_SameVs.calls k _ _ l0_0 _ _ l1_0 true _ ?side1 ?side2 ?side3 ?side4 A6.out).mono ?_); (case side1 => repeat (first | exact (Kd.C_below HR0_0.out HB.out) | (with_reducible refine Kd.C_alloc ?_ _) | (with_reducible refine Kd.C_drewN ?_ _) | (with_reducible refine Kd.C_drew ?_))); (case side2 => exact HC0_0.out); (case side3 => repeat (first | exact (Kd.C_below HR1_0.out HB.out) | (with_reducible refine Kd.C_alloc ?_ _) | (with_reducible refine Kd.C_drewN ?_ _) | (with_reducible refine Kd.C_drew ?_))); (case side4 => exact HC1_0.out); rintro e w' ⟨rfl, ⟨nd, rfl⟩⟩; (try first | exact ⟨rfl, _, World.drewN_drewN _ _ _⟩ | exact ⟨rfl, _, Eq.trans (World.drewN_drewN _ _ _) (congrArg (World.drewN _) (Nat.add_assoc _ _ _))⟩))))
    go_meet
    case rel => exact ⟨_, (((l0_2.length : Int) != (l1_2.length : Int))), (by first | rfl | (simp; done) | (simp [*]; done)), H', ⟨by first | omega | exact Nat.le_refl _⟩, ⟨BK145.out⟩, ⟨BK146.out⟩, ⟨by first | exact HB.out | (repeat (first | exact HB.out | apply pw_below_drewN | apply below_drew1 | apply below_alloc))⟩⟩
   rw [if_neg c8] at H
   have c8b0 : ((l0_1.length : Int) == (l1_1.length : Int)) = false := beq_eq_false_iff_ne.mpr c8
   have c8b1 : ((l0_1.length : Int) != (l1_1.length : Int)) = true := bne_iff_ne.mpr c8
   have c8b2 : (l0_1.length == l1_1.length) = false := by first | simpa using c8 | (simp at c8 ⊢; omega)
   (first | rw [c8b0] | (simp only [i64_w, i32_w]; rw [c8b0]) | skip)
   have H' := Aside0.mk H
   clear H
   obtain ⟨hcz11_0, hcz11_1, hcz11_2⟩ := cells3 BK145.out
   obtain ⟨hcz12_0, hcz12_1, hcz12_2⟩ := cells3 BK146.out
   go_wp2_with (first | (go_at_call 27; (with_reducible refine (relievoref00_SameVs.calls k _ _ l0_0 _ _ l1_0 true _ ?side1 ?side2 ?side3 ?side4 A6.out).mono ?_); (case side1 => repeat (first | exact (Kd.C_below HR0_0.out HB.out) | (with_reducible refine Kd.C_alloc ?_ _) | (with_reducible refine Kd.C_drewN ?_ _) | (with_reducible refine Kd.C_drew ?_))); (case side2 => exact HC0_0.out); (case side3 => repeat (first | exact (Kd.C_below HR1_0.out HB.out) | (with_reducible refine Kd.C_alloc ?_ _) | (with_reducible refine Kd.C_drewN ?_ _) | (with_reducible refine Kd.C_drew ?_))); (case side4 => exact HC1_0.out); rintro e w' ⟨rfl, ⟨nd, rfl⟩⟩; (try first | exact ⟨rfl, _, World.drewN_drewN _ _ _⟩ | exact ⟨rfl, _, Eq.trans (World.drewN_drewN _ _ _) (congrArg (World.drewN _) (Nat.add_assoc _ _ _))⟩)))
   repeat (go_quiet (first | (go_at_call 27; (with_reducible refine (relievoref00_SameVs.calls k _ _ l0_0 _ _ l1_0 true _ ?side1 ?side2 ?side3 ?side4 A6.out).mono ?_); (case side1 => repeat (first | exact (Kd.C_below HR0_0.out HB.out) | (with_reducible refine Kd.C_alloc ?_ _) | (with_reducible refine Kd.C_drewN ?_ _) | (with_reducible refine Kd.C_drew ?_))); (case side2 => exact HC0_0.out); (case side3 => repeat (first | exact (Kd.C_below HR1_0.out HB.out) | (with_reducible refine Kd.C_alloc ?_ _) | (with_reducible refine Kd.C_drewN ?_ _) | (with_reducible refine Kd.C_drew ?_))); (case side4 => exact HC1_0.out); rintro e w' ⟨rfl, ⟨nd, rfl⟩⟩; (try first | exact ⟨rfl, _, World.drewN_drewN _ _ _⟩ | exact ⟨rfl, _, Eq.trans (World.drewN_drewN _ _ _) (congrArg (World.drewN _) (Nat.add_assoc _ _ _))⟩))); try go_wp2_with (first | (go_at_call 27; (with_reducible refine (relievoref00_SameVs.calls k _ _ l0_0 _ _ l1_0 true _ ?side1 ?side2 ?side3 ?side4 A6.out).mono ?_); (case side1 => repeat (first | exact (Kd.C_below HR0_0.out HB.out) | (with_reducible refine Kd.C_alloc ?_ _) | (with_reducible refine Kd.C_drewN ?_ _) | (with_reducible refine Kd.C_drew ?_))); (case side2 => exact HC0_0.out); (case side3 => repeat (first | exact (Kd.C_below HR1_0.out HB.out) | (with_reducible refine Kd.C_alloc ?_ _) | (with_reducible refine Kd.C_drewN ?_ _) | (with_reducible refine Kd.C_drew ?_))); (case side4 => exact HC1_0.out); rintro e w' ⟨rfl, ⟨nd, rfl⟩⟩; (try first | exact ⟨rfl, _, World.drewN_drewN _ _ _⟩ | exact ⟨rfl, _, Eq.trans (World.drewN_drewN _ _ _) (congrArg (World.drewN _) (Nat.add_assoc _ _ _))⟩))))
   go_meet
   case rel => exact ⟨_, (true), (by first | rfl | (simp; done) | (simp [*]; done)), H', ⟨by first | omega | exact Nat.le_refl _⟩, ⟨BK145.out⟩, ⟨BK146.out⟩, ⟨by first | exact HB.out | (repeat (first | exact HB.out | apply pw_below_drewN | apply below_drew1 | apply below_alloc))⟩⟩
  replace c7 := Bool.eq_false_iff.mpr c7
  subst c7
  have H1 : (relievoref00_SameMesh.j0 k true l0_0 l0_1 l0_2 l1_0 l1_1 l1_2) = some r := by rw [if_neg (show ¬ (false = true) by decide)] at H; exact H
  clear H
  have H := H1
  clear H1
  have H' := Aside0.mk H
  clear H
  obtain ⟨hcz13_0, hcz13_1, hcz13_2⟩ := cells3 BK145.out
  obtain ⟨hcz14_0, hcz14_1, hcz14_2⟩ := cells3 BK146.out
  go_wp2_with (first | (go_at_call 27; (with_reducible refine (relievoref00_SameVs.calls k _ _ l0_0 _ _ l1_0 false _ ?side1 ?side2 ?side3 ?side4 A6.out).mono ?_); (case side1 => repeat (first | exact (Kd.C_below HR0_0.out HB.out) | (with_reducible refine Kd.C_alloc ?_ _) | (with_reducible refine Kd.C_drewN ?_ _) | (with_reducible refine Kd.C_drew ?_))); (case side2 => exact HC0_0.out); (case side3 => repeat (first | exact (Kd.C_below HR1_0.out HB.out) | (with_reducible refine Kd.C_alloc ?_ _) | (with_reducible refine Kd.C_drewN ?_ _) | (with_reducible refine Kd.C_drew ?_))); (case side4 => exact HC1_0.out); rintro e w' ⟨rfl, ⟨nd, rfl⟩⟩; (try first | exact ⟨rfl, _, World.drewN_drewN _ _ _⟩ | exact ⟨rfl, _, Eq.trans (World.drewN_drewN _ _ _) (congrArg (World.drewN _) (Nat.add_assoc _ _ _))⟩)))
  repeat (go_quiet (first | (go_at_call 27; (with_reducible refine (relievoref00_SameVs.calls k _ _ l0_0 _ _ l1_0 false _ ?side1 ?side2 ?side3 ?side4 A6.out).mono ?_); (case side1 => repeat (first | exact (Kd.C_below HR0_0.out HB.out) | (with_reducible refine Kd.C_alloc ?_ _) | (with_reducible refine Kd.C_drewN ?_ _) | (with_reducible refine Kd.C_drew ?_))); (case side2 => exact HC0_0.out); (case side3 => repeat (first | exact (Kd.C_below HR1_0.out HB.out) | (with_reducible refine Kd.C_alloc ?_ _) | (with_reducible refine Kd.C_drewN ?_ _) | (with_reducible refine Kd.C_drew ?_))); (case side4 => exact HC1_0.out); rintro e w' ⟨rfl, ⟨nd, rfl⟩⟩; (try first | exact ⟨rfl, _, World.drewN_drewN _ _ _⟩ | exact ⟨rfl, _, Eq.trans (World.drewN_drewN _ _ _) (congrArg (World.drewN _) (Nat.add_assoc _ _ _))⟩))); try go_wp2_with (first | (go_at_call 27; (with_reducible refine (relievoref00_SameVs.calls k _ _ l0_0 _ _ l1_0 false _ ?side1 ?side2 ?side3 ?side4 A6.out).mono ?_); (case side1 => repeat (first | exact (Kd.C_below HR0_0.out HB.out) | (with_reducible refine Kd.C_alloc ?_ _) | (with_reducible refine Kd.C_drewN ?_ _) | (with_reducible refine Kd.C_drew ?_))); (case side2 => exact HC0_0.out); (case side3 => repeat (first | exact (Kd.C_below HR1_0.out HB.out) | (with_reducible refine Kd.C_alloc ?_ _) | (with_reducible refine Kd.C_drewN ?_ _) | (with_reducible refine Kd.C_drew ?_))); (case side4 => exact HC1_0.out); rintro e w' ⟨rfl, ⟨nd, rfl⟩⟩; (try first | exact ⟨rfl, _, World.drewN_drewN _ _ _⟩ | exact ⟨rfl, _, Eq.trans (World.drewN_drewN _ _ _) (congrArg (World.drewN _) (Nat.add_assoc _ _ _))⟩))))
  go_meet
  case rel => exact ⟨_, (true), (by first | rfl | (simp; done) | (simp [*]; done)), H', ⟨by first | omega | exact Nat.le_refl _⟩, ⟨BK145.out⟩, ⟨BK146.out⟩, ⟨by first | exact HB.out | (repeat (first | exact HB.out | apply pw_below_drewN | apply below_drew1 | apply below_alloc))⟩⟩
 clear HC3
 obtain ⟨kq, x30_2, rfl, HA, HJ2, BK145, BK146, HB⟩ := hcut
 cases kq with
 | zero => exact absurd HA.out (by simp [relievoref00_SameMesh.j0])
 | succ kj2 =>
  have H := HA.out
  clear HA
  simp only [relievoref00_SameMesh.j0] at H
  by_cases c15 : x30_2 = true
  ·subst c15
   have H1 : (some false) = some r := by rw [if_pos rfl] at H; exact H
   clear H
   have H := H1
   clear H1
   obtain rfl := Option.some.inj H
   go_wp2
   repeat (go_quiet (fail); try go_wp2)
   go_ret
   exact ⟨by first | rfl | (simp [errW_none, errW_some] <;> rfl) | (simp [*, errW_none, errW_some] <;> rfl), by first | exact HB.out | (repeat (first | exact HB.out | apply pw_below_drewN | apply below_drew1 | apply below_alloc))⟩
  replace c15 := Bool.eq_false_iff.mpr c15
  subst c15
  have H1 : (relievoref00_SameMesh.l0 kj2 0 l0_0 l0_1 l0_2 l1_0 l1_1 l1_2) = some r := by rw [if_neg (show ¬ (false = true) by decide)] at H; exact H
  clear H
  have H := H1
  clear H1
  have H' := Aside0.mk H
  clear H
  go_wp2
  repeat (go_quiet (fail); try go_wp2)
  go_loopg [5] kj2 (fun kq v5 w' => ∃ (x5_2 : Int), v5 = .int .i64 x5_2 ∧ Aside0 (relievoref00_SameMesh.l0 kq x5_2 l0_0 l0_1 l0_2 l1_0 l1_1 l1_2 = some r) ∧ Aside0 (kq ≤ kj2) ∧ Aside0 (w'.heap[gb145]? = some (.cells #[(.slice A0_0 l0_0.length c0_0), (.slice A0_1 l0_1.length c0_1), (.slice A0_2 l0_2.length c0_2)] 40 (0, 0))) ∧ Aside0 (w'.heap[gb146]? = some (.cells #[(.slice A1_0 l1_0.length c1_0), (.slice A1_1 l1_1.length c1_1), (.slice A1_2 l1_2.length c1_2)] 40 (0, 0))) ∧ Aside0 (Below w.heap.size w w'))
  case atStart => exact ⟨(0), (by first | rfl | (simp; done) | (simp [*]; done)), H', ⟨Nat.le_refl _⟩, ⟨BK145.out⟩, ⟨BK146.out⟩, ⟨by first | exact HB.out | (repeat (first | exact HB.out | apply pw_below_drewN | apply below_drew1 | apply below_alloc))⟩⟩
  case round =>
   clear H'
   try clear c15
   obtain ⟨x5_2, rfl, HA, HK2, BK145, BK146, HB⟩ := hrel
   cases gk with
   | zero => exact absurd HA.out (by simp [relievoref00_SameMesh.l0])
   | succ k2 =>
    have H := HA.out
    clear HA
    simp only [relievoref00_SameMesh.l0] at H
    by_cases c16 : x5_2 < (l0_1.length : Int)
    ·rw [if_pos c16] at H
     have c16b0 : decide (x5_2 < (l0_1.length : Int)) = true := decide_eq_true c16
     clear c16
     by_cases c17 : 0 ≤ x5_2
     ·rw [if_pos c17] at H
      have c17b0 : decide (0 ≤ x5_2) = true := decide_eq_true c17
      clear c17
      by_cases c18 : x5_2 < (l1_1.length : Int)
      ·rw [if_pos c18] at H
       have c18b0 : decide (x5_2 < (l1_1.length : Int)) = true := decide_eq_true c18
       clear c18
       by_cases c19 : (!(((rd_T72 l0_1 x5_2).f0) == ((rd_T72 l1_1 x5_2).f0)) || (!(((rd_T72 l0_1 x5_2).f1) == ((rd_T72 l1_1 x5_2).f1)) || (!(((rd_T72 l0_1 x5_2).f2) == ((rd_T72 l1_1 x5_2).f2)) || (!(((rd_T72 l0_1 x5_2).f3) == ((rd_T72 l1_1 x5_2).f3)) || (!(((rd_T72 l0_1 x5_2).f4) == ((rd_T72 l1_1 x5_2).f4))))))) = true
       ·rw [if_pos c19] at H
        have c19b0 : (!(((rd_T72 l0_1 x5_2).f0) == ((rd_T72 l1_1 x5_2).f0)) || (!(((rd_T72 l0_1 x5_2).f1) == ((rd_T72 l1_1 x5_2).f1)) || (!(((rd_T72 l0_1 x5_2).f2) == ((rd_T72 l1_1 x5_2).f2)) || (!(((rd_T72 l0_1 x5_2).f3) == ((rd_T72 l1_1 x5_2).f3)) || (!(((rd_T72 l0_1 x5_2).f4) == ((rd_T72 l1_1 x5_2).f4))))))) = true := c19
        clear c19
        obtain rfl := Option.some.inj H
        obtain ⟨hcz20_0, hcz20_1, hcz20_2⟩ := cells3 BK145.out
        have p148 : 0 ≤ (x5_2 : Int) := of_decide_eq_true (by first | (with_reducible assumption) | assumption)
        have q148 : x5_2 < (l0_1.length : Int) := of_decide_eq_true (by first | (with_reducible assumption) | assumption)
        obtain ⟨ad148, e148, hx148_0, hx148_1, hx148_2, hx148_3, hx148_4⟩ := at_T72 HR0_1.out x5_2 p148 q148
        cases e148
        replace hx148_0 := (HB.out.cell (World.block_lt_of_cell? w _ hx148_0)).trans hx148_0
        replace hx148_1 := (HB.out.cell (World.block_lt_of_cell? w _ hx148_1)).trans hx148_1
        replace hx148_2 := (HB.out.cell (World.block_lt_of_cell? w _ hx148_2)).trans hx148_2
        replace hx148_3 := (HB.out.cell (World.block_lt_of_cell? w _ hx148_3)).trans hx148_3
        replace hx148_4 := (HB.out.cell (World.block_lt_of_cell? w _ hx148_4)).trans hx148_4
        replace p148 := eq_true p148
        replace q148 := eq_true q148
        obtain ⟨hcz21_0, hcz21_1, hcz21_2⟩ := cells3 BK146.out
        have p149 : 0 ≤ (x5_2 : Int) := of_decide_eq_true (by first | (with_reducible assumption) | assumption)
        have q149 : x5_2 < (l1_1.length : Int) := of_decide_eq_true (by first | (with_reducible assumption) | assumption)
        obtain ⟨ad149, e149, hx149_0, hx149_1, hx149_2, hx149_3, hx149_4⟩ := at_T72 HR1_1.out x5_2 p149 q149
        cases e149
        replace hx149_0 := (HB.out.cell (World.block_lt_of_cell? w _ hx149_0)).trans hx149_0
        replace hx149_1 := (HB.out.cell (World.block_lt_of_cell? w _ hx149_1)).trans hx149_1
        replace hx149_2 := (HB.out.cell (World.block_lt_of_cell? w _ hx149_2)).trans hx149_2
        replace hx149_3 := (HB.out.cell (World.block_lt_of_cell? w _ hx149_3)).trans hx149_3
        replace hx149_4 := (HB.out.cell (World.block_lt_of_cell? w _ hx149_4)).trans hx149_4
        replace p149 := eq_true p149
        replace q149 := eq_true q149
        go_wp2
        repeat (go_quiet (fail); try go_wp2)
        go_ret
        exact ⟨by first | rfl | (simp [errW_none, errW_some] <;> rfl) | (simp [*, errW_none, errW_some] <;> rfl), by first | exact HB.out | (repeat (first | exact HB.out | apply pw_below_drewN | apply below_drew1 | apply below_alloc))⟩
       rw [if_neg c19] at H
       have c19b0 : (!(((rd_T72 l0_1 x5_2).f0) == ((rd_T72 l1_1 x5_2).f0)) || (!(((rd_T72 l0_1 x5_2).f1) == ((rd_T72 l1_1 x5_2).f1)) || (!(((rd_T72 l0_1 x5_2).f2) == ((rd_T72 l1_1 x5_2).f2)) || (!(((rd_T72 l0_1 x5_2).f3) == ((rd_T72 l1_1 x5_2).f3)) || (!(((rd_T72 l0_1 x5_2).f4) == ((rd_T72 l1_1 x5_2).f4))))))) = false := by simpa using c19
       clear c19
       have H' := Aside0.mk H
       clear H
       obtain ⟨hcz22_0, hcz22_1, hcz22_2⟩ := cells3 BK145.out
       have p148 : 0 ≤ (x5_2 : Int) := of_decide_eq_true (by first | (with_reducible assumption) | assumption)
       have q148 : x5_2 < (l0_1.length : Int) := of_decide_eq_true (by first | (with_reducible assumption) | assumption)
       obtain ⟨ad148, e148, hx148_0, hx148_1, hx148_2, hx148_3, hx148_4⟩ := at_T72 HR0_1.out x5_2 p148 q148
       cases e148
       replace hx148_0 := (HB.out.cell (World.block_lt_of_cell? w _ hx148_0)).trans hx148_0
       replace hx148_1 := (HB.out.cell (World.block_lt_of_cell? w _ hx148_1)).trans hx148_1
       replace hx148_2 := (HB.out.cell (World.block_lt_of_cell? w _ hx148_2)).trans hx148_2
       replace hx148_3 := (HB.out.cell (World.block_lt_of_cell? w _ hx148_3)).trans hx148_3
       replace hx148_4 := (HB.out.cell (World.block_lt_of_cell? w _ hx148_4)).trans hx148_4
       replace p148 := eq_true p148
       replace q148 := eq_true q148
       obtain ⟨hcz23_0, hcz23_1, hcz23_2⟩ := cells3 BK146.out
       have p149 : 0 ≤ (x5_2 : Int) := of_decide_eq_true (by first | (with_reducible assumption) | assumption)
       have q149 : x5_2 < (l1_1.length : Int) := of_decide_eq_true (by first | (with_reducible assumption) | assumption)
       obtain ⟨ad149, e149, hx149_0, hx149_1, hx149_2, hx149_3, hx149_4⟩ := at_T72 HR1_1.out x5_2 p149 q149
       cases e149
       replace hx149_0 := (HB.out.cell (World.block_lt_of_cell? w _ hx149_0)).trans hx149_0
       replace hx149_1 := (HB.out.cell (World.block_lt_of_cell? w _ hx149_1)).trans hx149_1
       replace hx149_2 := (HB.out.cell (World.block_lt_of_cell? w _ hx149_2)).trans hx149_2
       replace hx149_3 := (HB.out.cell (World.block_lt_of_cell? w _ hx149_3)).trans hx149_3
       replace hx149_4 := (HB.out.cell (World.block_lt_of_cell? w _ hx149_4)).trans hx149_4
       replace p149 := eq_true p149
       replace q149 := eq_true q149
       go_wp2
       repeat (go_quiet (fail); try go_wp2)
       go_roundg k2
       case measure => have := HJ2.out; have := HK2.out; omega
       case rel => exact ⟨(wrap64 (x5_2 + 1)), (by first | rfl | (simp; done) | (simp [*]; done)), H', ⟨by have := HJ2.out; have := HK2.out; omega⟩, ⟨BK145.out⟩, ⟨BK146.out⟩, ⟨by first | exact HB.out | (repeat (first | exact HB.out | apply pw_below_drewN | apply below_drew1 | apply below_alloc))⟩⟩
      rw [if_neg c18] at H
      exact absurd H (by simp)
     rw [if_neg c17] at H
     exact absurd H (by simp)
    rw [if_neg c16] at H
    have c16b0 : decide (x5_2 < (l0_1.length : Int)) = false := decide_eq_false c16
    clear c16
    have H' := Aside0.mk H
    clear H
    obtain ⟨hcz24_0, hcz24_1, hcz24_2⟩ := cells3 BK145.out
    go_wp2
    repeat (go_quiet (fail); try go_wp2)
    go_loopg [6] k2 (fun kq v6 w' => ∃ (x6_3 : Int), v6 = .int .i64 x6_3 ∧ Aside0 (relievoref00_SameMesh.l1 kq x6_3 l0_0 l0_1 l0_2 l1_0 l1_1 l1_2 = some r) ∧ Aside0 (kq ≤ k2) ∧ Aside0 (w'.heap[gb145]? = some (.cells #[(.slice A0_0 l0_0.length c0_0), (.slice A0_1 l0_1.length c0_1), (.slice A0_2 l0_2.length c0_2)] 40 (0, 0))) ∧ Aside0 (w'.heap[gb146]? = some (.cells #[(.slice A1_0 l1_0.length c1_0), (.slice A1_1 l1_1.length c1_1), (.slice A1_2 l1_2.length c1_2)] 40 (0, 0))) ∧ Aside0 (Below w.heap.size w w'))
    case atStart => exact ⟨(0), (by first | rfl | (simp; done) | (simp [*]; done)), H', ⟨Nat.le_refl _⟩, ⟨BK145.out⟩, ⟨BK146.out⟩, ⟨by first | exact HB.out | (repeat (first | exact HB.out | apply pw_below_drewN | apply below_drew1 | apply below_alloc))⟩⟩
    case round =>
     clear H'
     try clear c16
     try clear c16b0
     try clear hcz24_0
     try clear hcz24_1
     try clear hcz24_2
     obtain ⟨x6_3, rfl, HA, HK3, BK145, BK146, HB⟩ := hrel
     cases gk with
     | zero => exact absurd HA.out (by simp [relievoref00_SameMesh.l1])
     | succ k3 =>
      have H := HA.out
      clear HA
      simp only [relievoref00_SameMesh.l1] at H
      by_cases c25 : x6_3 < (l0_2.length : Int)
      ·rw [if_pos c25] at H
       have c25b0 : decide (x6_3 < (l0_2.length : Int)) = true := decide_eq_true c25
       clear c25
       by_cases c26 : 0 ≤ x6_3
       ·rw [if_pos c26] at H
        have c26b0 : decide (0 ≤ x6_3) = true := decide_eq_true c26
        clear c26
        by_cases c27 : x6_3 < (l1_2.length : Int)
        ·rw [if_pos c27] at H
         have c27b0 : decide (x6_3 < (l1_2.length : Int)) = true := decide_eq_true c27
         clear c27
         by_cases c28 : (!(((rd_T73 l0_2 x6_3).f0) == ((rd_T73 l1_2 x6_3).f0)) || (!(((rd_T73 l0_2 x6_3).f1) == ((rd_T73 l1_2 x6_3).f1)) || (!(((rd_T73 l0_2 x6_3).f2) == ((rd_T73 l1_2 x6_3).f2))))) = true
         ·rw [if_pos c28] at H
          have c28b0 : (!(((rd_T73 l0_2 x6_3).f0) == ((rd_T73 l1_2 x6_3).f0)) || (!(((rd_T73 l0_2 x6_3).f1) == ((rd_T73 l1_2 x6_3).f1)) || (!(((rd_T73 l0_2 x6_3).f2) == ((rd_T73 l1_2 x6_3).f2))))) = true := c28
          clear c28
          obtain rfl := Option.some.inj H
          obtain ⟨hcz29_0, hcz29_1, hcz29_2⟩ := cells3 BK145.out
          have p150 : 0 ≤ (x6_3 : Int) := of_decide_eq_true (by first | (with_reducible assumption) | assumption)
          have q150 : x6_3 < (l0_2.length : Int) := of_decide_eq_true (by first | (with_reducible assumption) | assumption)
          obtain ⟨ad150, e150, hx150_0, hx150_1, hx150_2⟩ := at_T73 HR0_2.out x6_3 p150 q150
          cases e150
          replace hx150_0 := (HB.out.cell (World.block_lt_of_cell? w _ hx150_0)).trans hx150_0
          replace hx150_1 := (HB.out.cell (World.block_lt_of_cell? w _ hx150_1)).trans hx150_1
          replace hx150_2 := (HB.out.cell (World.block_lt_of_cell? w _ hx150_2)).trans hx150_2
          replace p150 := eq_true p150
          replace q150 := eq_true q150
          obtain ⟨hcz30_0, hcz30_1, hcz30_2⟩ := cells3 BK146.out
          have p151 : 0 ≤ (x6_3 : Int) := of_decide_eq_true (by first | (with_reducible assumption) | assumption)
          have q151 : x6_3 < (l1_2.length : Int) := of_decide_eq_true (by first | (with_reducible assumption) | assumption)
          obtain ⟨ad151, e151, hx151_0, hx151_1, hx151_2⟩ := at_T73 HR1_2.out x6_3 p151 q151
          cases e151
          replace hx151_0 := (HB.out.cell (World.block_lt_of_cell? w _ hx151_0)).trans hx151_0
          replace hx151_1 := (HB.out.cell (World.block_lt_of_cell? w _ hx151_1)).trans hx151_1
          replace hx151_2 := (HB.out.cell (World.block_lt_of_cell? w _ hx151_2)).trans hx151_2
          replace p151 := eq_true p151
          replace q151 := eq_true q151
          go_wp2
          repeat (go_quiet (fail); try go_wp2)
          go_ret
          exact ⟨by first | rfl | (simp [errW_none, errW_some] <;> rfl) | (simp [*, errW_none, errW_some] <;> rfl), by first | exact HB.out | (repeat (first | exact HB.out | apply pw_below_drewN | apply below_drew1 | apply below_alloc))⟩
         rw [if_neg c28] at H
         have c28b0 : (!(((rd_T73 l0_2 x6_3).f0) == ((rd_T73 l1_2 x6_3).f0)) || (!(((rd_T73 l0_2 x6_3).f1) == ((rd_T73 l1_2 x6_3).f1)) || (!(((rd_T73 l0_2 x6_3).f2) == ((rd_T73 l1_2 x6_3).f2))))) = false := by simpa using c28
         clear c28
         have H' := Aside0.mk H
         clear H
         obtain ⟨hcz31_0, hcz31_1, hcz31_2⟩ := cells3 BK145.out
         have p150 : 0 ≤ (x6_3 : Int) := of_decide_eq_true (by first | (with_reducible assumption) | assumption)
         have q150 : x6_3 < (l0_2.length : Int) := of_decide_eq_true (by first | (with_reducible assumption) | assumption)
         obtain ⟨ad150, e150, hx150_0, hx150_1, hx150_2⟩ := at_T73 HR0_2.out x6_3 p150 q150
         cases e150
         replace hx150_0 := (HB.out.cell (World.block_lt_of_cell? w _ hx150_0)).trans hx150_0
         replace hx150_1 := (HB.out.cell (World.block_lt_of_cell? w _ hx150_1)).trans hx150_1
         replace hx150_2 := (HB.out.cell (World.block_lt_of_cell? w _ hx150_2)).trans hx150_2
         replace p150 := eq_true p150
         replace q150 := eq_true q150
         obtain ⟨hcz32_0, hcz32_1, hcz32_2⟩ := cells3 BK146.out
         have p151 : 0 ≤ (x6_3 : Int) := of_decide_eq_true (by first | (with_reducible assumption) | assumption)
         have q151 : x6_3 < (l1_2.length : Int) := of_decide_eq_true (by first | (with_reducible assumption) | assumption)
         obtain ⟨ad151, e151, hx151_0, hx151_1, hx151_2⟩ := at_T73 HR1_2.out x6_3 p151 q151
         cases e151
         replace hx151_0 := (HB.out.cell (World.block_lt_of_cell? w _ hx151_0)).trans hx151_0
         replace hx151_1 := (HB.out.cell (World.block_lt_of_cell? w _ hx151_1)).trans hx151_1
         replace hx151_2 := (HB.out.cell (World.block_lt_of_cell? w _ hx151_2)).trans hx151_2
         replace p151 := eq_true p151
         replace q151 := eq_true q151
         go_wp2
         repeat (go_quiet (fail); try go_wp2)
         go_roundg k3
         case measure => have := HJ2.out; have := HK2.out; have := HK3.out; omega
         case rel => exact ⟨(wrap64 (x6_3 + 1)), (by first | rfl | (simp; done) | (simp [*]; done)), H', ⟨by have := HJ2.out; have := HK2.out; have := HK3.out; omega⟩, ⟨BK145.out⟩, ⟨BK146.out⟩, ⟨by first | exact HB.out | (repeat (first | exact HB.out | apply pw_below_drewN | apply below_drew1 | apply below_alloc))⟩⟩
        rw [if_neg c27] at H
        exact absurd H (by simp)
       rw [if_neg c26] at H
       exact absurd H (by simp)
      rw [if_neg c25] at H
      have c25b0 : decide (x6_3 < (l0_2.length : Int)) = false := decide_eq_false c25
      clear c25
      obtain rfl := Option.some.inj H
      obtain ⟨hcz33_0, hcz33_1, hcz33_2⟩ := cells3 BK145.out
      go_wp2
      repeat (go_quiet (fail); try go_wp2)
      go_ret
      exact ⟨by first | rfl | (simp [errW_none, errW_some] <;> rfl) | (simp [*, errW_none, errW_some] <;> rfl), by first | exact HB.out | (repeat (first | exact HB.out | apply pw_below_drewN | apply below_drew1 | apply below_alloc))⟩

end Go.Proofs.Ytfhjdhhflpekiaa.G
