-- Written by a program of this session (wip/gen), out of the translation; Lean checks it.
import Derived.Test.YtihklolcnfbbjaaGx0
import Derived.Test.YtihklolcnfbbjaaGx2
import Derived.Test.YtihklolcnfbbjaaGx5
import Derived.Test.YtihklolcnfbbjaaGx22
import Derived.Test.YtihklolcnfbbjaaGx53
import Derived.Test.YtihklolcnfbbjaaGx54
namespace Go.Proofs.Ytihklolcnfbbjaa.G
open Go.RowKit Go.Proofs.YtihklolcnfbbjaaW.PrintWords Go.Proofs.YtihklolcnfbbjaaW.PrintLast Go.Proofs.YtihklolcnfbbjaaW.PrintMore
attribute [local go_sem high] idx35_0 idx35_1 idx35_2 idx35_3 idx41_0 idx41_1 idx41_2 idx84_0 idx84_1 idx84_2 idx88_0 idx88_1 idx88_2 wl0 wl1 wl2 wl3 wl4 wl5 tm0_3 tm1_3 tm2_3 tm3_3 tm4_3 tm5_3
attribute [local go_sem] max2_int min2_int max_two min_two max_three min_three max_four min_four   -- for this text's walks alone
set_option linter.unusedVariables false
set_option linter.unusedSimpArgs false

attribute [local go_sem high] eqA28
/-! ### relievolaw04_SlabMoved: function 12 -/
mutual
def relievolaw04_SlabMoved.j0 : Nat → Bool → Int → Int → Int → Int → Int → Int → Int → Int → Int → Int → Int → Int → Int → Int → Int → Option (Bool)
  | 0, _, _, _, _, _, _, _, _, _, _, _, _, _, _, _, _ => none
  | k + 1, x38, x660000, x660001, x660002, x661000, x661001, x661002, x662000, x662001, x662002, x662003, x662004, x662005, x663000, x663001, x663002 => if x38 = true then (some true) else ((slab_Range.f k x660000 x660001 x660002 x661000 x661001 x661002 x662000 x662001 x662002 x662003 x662004 x662005).bind fun bt668 => ((relievoref02_Add.f x660000 x660001 x660002 x663000 x663001 x663002).bind fun bt676 => ((relievoref02_Add.f x662000 x662001 x662002 x663000 x663001 x663002).bind fun bt679 => ((relievoref02_Add.f x662003 x662004 x662005 x663000 x663001 x663002).bind fun bt682 => ((slab_Range.f k bt676.1 bt676.2.1 bt676.2.2 x661000 x661001 x661002 bt679.1 bt679.2.1 bt679.2.2 bt682.1 bt682.2.1 bt682.2.2).bind fun bt685 => (if bt668.2.2.2.2.2 = 0 then (relievolaw04_SlabMoved.j1 k bt668.2.2.2.2.1 bt685.2.2.2.2.1 (bt685.2.2.2.2.2 != 0) bt668.1 bt668.2.1 bt668.2.2.1 bt668.2.2.2.1 bt685.1 bt685.2.1 bt685.2.2.1 bt685.2.2.2.1) else (relievolaw04_SlabMoved.j1 k bt668.2.2.2.2.1 bt685.2.2.2.2.1 true bt668.1 bt668.2.1 bt668.2.2.1 bt668.2.2.2.1 bt685.1 bt685.2.1 bt685.2.2.1 bt685.2.2.2.1)))))))
def relievolaw04_SlabMoved.j1 : Nat → Bool → Bool → Bool → Int → Int → Int → Int → Int → Int → Int → Int → Option (Bool)
  | 0, _, _, _, _, _, _, _, _, _, _, _ => none
  | k + 1, x11, x15, x72, x675000, x675001, x676000, x676001, x692000, x692001, x693000, x693001 => if x72 = true then (some true) else (relievolaw04_SlabMoved.j2 k x11 x15 x675000 x675001 x676000 x676001 x692000 x692001 x693000 x693001)
def relievolaw04_SlabMoved.j2 : Nat → Bool → Bool → Int → Int → Int → Int → Int → Int → Int → Int → Option (Bool)
  | 0, _, _, _, _, _, _, _, _, _, _ => none
  | k + 1, x11, x15, x675000, x675001, x676000, x676001, x692000, x692001, x693000, x693001 => if (x675000 == x692000 && (x675001 == x692001)) = true then (if (x676000 == x693000 && (x676001 == x693001)) = true then (relievolaw04_SlabMoved.j3 k (x11 == x15)) else (relievolaw04_SlabMoved.j3 k false)) else (relievolaw04_SlabMoved.j3 k false)
def relievolaw04_SlabMoved.j3 : Nat → Bool → Option (Bool)
  | 0, _ => none
  | k + 1, x8 => some x8
end
def relievolaw04_SlabMoved.f (k : Nat) (a0_0 : Int) (a0_1 : Int) (a0_2 : Int) (a1_0 : Int) (a1_1 : Int) (a1_2 : Int) (a2_0 : Int) (a2_1 : Int) (a2_2 : Int) (a2_3 : Int) (a2_4 : Int) (a2_5 : Int) (a3_0 : Int) (a3_1 : Int) (a3_2 : Int) : Option (Bool) := (relievolaw04_alive.f k).bind fun t663 => (if t663 = true then ((vec_Within.f a3_0 a3_1 a3_2 1048576).bind fun t664 => (if t664 = true then ((vec_Within.f a0_0 a0_1 a0_2 1048576).bind fun t665 => (if t665 = true then ((vec_Within.f a2_0 a2_1 a2_2 1048576).bind fun t666 => (if t666 = true then ((vec_Within.f a2_3 a2_4 a2_5 1048576).bind fun t667 => (relievolaw04_SlabMoved.j0 k (!t667) a0_0 a0_1 a0_2 a1_0 a1_1 a1_2 a2_0 a2_1 a2_2 a2_3 a2_4 a2_5 a3_0 a3_1 a3_2)) else (relievolaw04_SlabMoved.j0 k true a0_0 a0_1 a0_2 a1_0 a1_1 a1_2 a2_0 a2_1 a2_2 a2_3 a2_4 a2_5 a3_0 a3_1 a3_2))) else (relievolaw04_SlabMoved.j0 k true a0_0 a0_1 a0_2 a1_0 a1_1 a1_2 a2_0 a2_1 a2_2 a2_3 a2_4 a2_5 a3_0 a3_1 a3_2))) else (relievolaw04_SlabMoved.j0 k true a0_0 a0_1 a0_2 a1_0 a1_1 a1_2 a2_0 a2_1 a2_2 a2_3 a2_4 a2_5 a3_0 a3_1 a3_2))) else (some false))
def relievolaw04_SlabMoved.T6 : Bool × List (List Nat × List Nat) := (true, [([], []), ([], []), ([0, 1], [0, 1]), ([], []), ([], []), ([4], [4]), ([], []), ([5, 6, 2], [5, 6]), ([], []), ([8], [8]), ([], []), ([9, 10, 7], [9, 10]), ([7, 11], [7, 11]), ([2, 3, 12, 11], [2, 3, 12]), ([13], [13]), ([14], [14]), ([14], [14]), ([14], [14]), ([14], [14]), ([], []), ([], []), ([19, 15, 13, 0, 1, 2, 3, 4, 5, 6, 7, 8, 9, 10, 11, 12, 13, 14, 15, 19, 20], [15, 19]), ([20, 16, 21, 0, 1, 2, 3, 4, 5, 6, 7, 8, 9, 10, 11, 12, 13, 14, 15, 16, 19, 20, 21], [16, 20]), ([17, 22, 0, 1, 2, 3, 4, 5, 6, 7, 8, 9, 10, 11, 12, 13, 14, 15, 16, 17, 19, 20, 21, 22], [17]), ([18, 23, 0, 1, 2, 3, 4, 5, 6, 7, 8, 9, 10, 11, 12, 13, 14, 15, 16, 17, 18, 19, 20, 21, 22, 23], [18])])
def relievolaw04_SlabMoved.B6 : List Nat := [0, 0, 3, 0, 0, 16, 0, 119, 0, 256, 0, 2039, 4087, 8191, 16383, 32767, 32767, 32767, 32767, 0, 0, 1638399, 3801087, 8126463, 16777215]
theorem relievolaw04_SlabMoved.tab6 : rtab .any (opsOf Try.f12 6) = relievolaw04_SlabMoved.T6 := by kernel_rfl
theorem relievolaw04_SlabMoved.bits6 : waitsOk relievolaw04_SlabMoved.T6.2 relievolaw04_SlabMoved.B6 = true := by kernel_rfl
set_option maxHeartbeats 8000000 in
set_option maxRecDepth 100000 in
theorem relievolaw04_SlabMoved.calls (k : Nat) (a0_0 : Int) (a0_1 : Int) (a0_2 : Int) (a1_0 : Int) (a1_1 : Int) (a1_2 : Int) (a2_0 : Int) (a2_1 : Int) (a2_2 : Int) (a2_3 : Int) (a2_4 : Int) (a2_5 : Int) (a3_0 : Int) (a3_1 : Int) (a3_2 : Int) (r : Bool) (w : World) (h : relievolaw04_SlabMoved.f k a0_0 a0_1 a0_2 a1_0 a1_1 a1_2 a2_0 a2_1 a2_2 a2_3 a2_4 a2_5 a3_0 a3_1 a3_2 = some r) :
    Calls Try.prog 12 #[.agg #[.int .i64 a0_0, .int .i64 a0_1, .int .i64 a0_2], .agg #[.int .i64 a1_0, .int .i64 a1_1, .int .i64 a1_2], .agg #[.int .i64 a2_0, .int .i64 a2_1, .int .i64 a2_2, .int .i64 a2_3, .int .i64 a2_4, .int .i64 a2_5], .agg #[.int .i64 a3_0, .int .i64 a3_1, .int .i64 a3_2]] w fun e w' => e = .returned (.bool r) ∧ Below w.heap.size w w' := by
 have hu23 := Try.underlying23
 have hu56 := Try.underlying56
 have hu28 := Try.underlying28
 have HB := Aside0.mk (Below.refl w.heap.size w)
 have H : ((relievolaw04_alive.f k).bind fun t663 => (if t663 = true then ((vec_Within.f a3_0 a3_1 a3_2 1048576).bind fun t664 => (if t664 = true then ((vec_Within.f a0_0 a0_1 a0_2 1048576).bind fun t665 => (if t665 = true then ((vec_Within.f a2_0 a2_1 a2_2 1048576).bind fun t666 => (if t666 = true then ((vec_Within.f a2_3 a2_4 a2_5 1048576).bind fun t667 => (relievolaw04_SlabMoved.j0 k (!t667) a0_0 a0_1 a0_2 a1_0 a1_1 a1_2 a2_0 a2_1 a2_2 a2_3 a2_4 a2_5 a3_0 a3_1 a3_2)) else (relievolaw04_SlabMoved.j0 k true a0_0 a0_1 a0_2 a1_0 a1_1 a1_2 a2_0 a2_1 a2_2 a2_3 a2_4 a2_5 a3_0 a3_1 a3_2))) else (relievolaw04_SlabMoved.j0 k true a0_0 a0_1 a0_2 a1_0 a1_1 a1_2 a2_0 a2_1 a2_2 a2_3 a2_4 a2_5 a3_0 a3_1 a3_2))) else (relievolaw04_SlabMoved.j0 k true a0_0 a0_1 a0_2 a1_0 a1_1 a1_2 a2_0 a2_1 a2_2 a2_3 a2_4 a2_5 a3_0 a3_1 a3_2))) else (some false))) = some r := h
 clear h
 replace H := Option.bind_eq_some_iff.mp H
 obtain ⟨t663, A50, H⟩ := H
 replace H : (if t663 = true then ((vec_Within.f a3_0 a3_1 a3_2 1048576).bind fun t664 => (if t664 = true then ((vec_Within.f a0_0 a0_1 a0_2 1048576).bind fun t665 => (if t665 = true then ((vec_Within.f a2_0 a2_1 a2_2 1048576).bind fun t666 => (if t666 = true then ((vec_Within.f a2_3 a2_4 a2_5 1048576).bind fun t667 => (relievolaw04_SlabMoved.j0 k (!t667) a0_0 a0_1 a0_2 a1_0 a1_1 a1_2 a2_0 a2_1 a2_2 a2_3 a2_4 a2_5 a3_0 a3_1 a3_2)) else (relievolaw04_SlabMoved.j0 k true a0_0 a0_1 a0_2 a1_0 a1_1 a1_2 a2_0 a2_1 a2_2 a2_3 a2_4 a2_5 a3_0 a3_1 a3_2))) else (relievolaw04_SlabMoved.j0 k true a0_0 a0_1 a0_2 a1_0 a1_1 a1_2 a2_0 a2_1 a2_2 a2_3 a2_4 a2_5 a3_0 a3_1 a3_2))) else (relievolaw04_SlabMoved.j0 k true a0_0 a0_1 a0_2 a1_0 a1_1 a1_2 a2_0 a2_1 a2_2 a2_3 a2_4 a2_5 a3_0 a3_1 a3_2))) else (some false)) = some r := H
 have A5 := Aside0.mk A50
 clear A50
 by_cases c6 : t663 = true
 ·subst c6
  have H1 : ((vec_Within.f a3_0 a3_1 a3_2 1048576).bind fun t664 => (if t664 = true then ((vec_Within.f a0_0 a0_1 a0_2 1048576).bind fun t665 => (if t665 = true then ((vec_Within.f a2_0 a2_1 a2_2 1048576).bind fun t666 => (if t666 = true then ((vec_Within.f a2_3 a2_4 a2_5 1048576).bind fun t667 => (relievolaw04_SlabMoved.j0 k (!t667) a0_0 a0_1 a0_2 a1_0 a1_1 a1_2 a2_0 a2_1 a2_2 a2_3 a2_4 a2_5 a3_0 a3_1 a3_2)) else (relievolaw04_SlabMoved.j0 k true a0_0 a0_1 a0_2 a1_0 a1_1 a1_2 a2_0 a2_1 a2_2 a2_3 a2_4 a2_5 a3_0 a3_1 a3_2))) else (relievolaw04_SlabMoved.j0 k true a0_0 a0_1 a0_2 a1_0 a1_1 a1_2 a2_0 a2_1 a2_2 a2_3 a2_4 a2_5 a3_0 a3_1 a3_2))) else (relievolaw04_SlabMoved.j0 k true a0_0 a0_1 a0_2 a1_0 a1_1 a1_2 a2_0 a2_1 a2_2 a2_3 a2_4 a2_5 a3_0 a3_1 a3_2))) = some r := by rw [if_pos rfl] at H; exact H
  clear H
  have H := H1
  clear H1
  have HC7 := Aside0.mk H
  clear H
  go_enter Try.func12, Try.ntmps12
  go_upto_region 3 with (first | ((with_reducible refine gate_dst (N := 4) rfl ?_); refine box_event ?hg (N := 4) ?hd (cs := #[.int .i64 a0_0, .int .i64 a0_1, .int .i64 a0_2]) (t := 23) ?hr ?_; (case hd => rfl); (case hg => rfl); (case hr => first | (go_simp; done) | (go_simp; rfl)); intro gb659 hg w8 hbox hb; have BK659 := Aside0.mk (hbox); have GE659 := Aside0.mk (bG hg (HB.out)); replace HB := Aside0.mk (below_step (HB.out) hb); clear hb hbox hg) | ((with_reducible refine gate_dst (N := 5) rfl ?_); refine box_event ?hg (N := 5) ?hd (cs := #[.int .i64 a1_0, .int .i64 a1_1, .int .i64 a1_2]) (t := 23) ?hr ?_; (case hd => rfl); (case hg => rfl); (case hr => first | (go_simp; done) | (go_simp; rfl)); intro gb660 hg w9 hbox hb; have BK660 := Aside0.mk (hbox); have GE660 := Aside0.mk (bG hg (HB.out)); have NB659_660 := cN hg BK659; have NB660_659 := cM hg BK659; replace BK659 := cB hb BK659; replace HB := Aside0.mk (below_step (HB.out) hb); clear hb hbox hg) | ((with_reducible refine gate_dst (N := 6) rfl ?_); refine box_event ?hg (N := 6) ?hd (cs := #[.int .i64 a2_0, .int .i64 a2_1, .int .i64 a2_2, .int .i64 a2_3, .int .i64 a2_4, .int .i64 a2_5]) (t := 56) ?hr ?_; (case hd => rfl); (case hg => rfl); (case hr => first | (go_simp; done) | (go_simp; rfl)); intro gb661 hg w10 hbox hb; have BK661 := Aside0.mk (hbox); have GE661 := Aside0.mk (bG hg (HB.out)); have NB659_661 := cN hg BK659; have NB661_659 := cM hg BK659; have NB660_661 := cN hg BK660; have NB661_660 := cM hg BK660; replace BK659 := cB hb BK659; replace BK660 := cB hb BK660; replace HB := Aside0.mk (below_step (HB.out) hb); clear hb hbox hg) | ((with_reducible refine gate_dst (N := 7) rfl ?_); refine box_event ?hg (N := 7) ?hd (cs := #[.int .i64 a3_0, .int .i64 a3_1, .int .i64 a3_2]) (t := 23) ?hr ?_; (case hd => rfl); (case hg => rfl); (case hr => first | (go_simp; done) | (go_simp; rfl)); intro gb662 hg w11 hbox hb; have BK662 := Aside0.mk (hbox); have GE662 := Aside0.mk (bG hg (HB.out)); have NB659_662 := cN hg BK659; have NB662_659 := cM hg BK659; have NB660_662 := cN hg BK660; have NB662_660 := cM hg BK660; have NB661_662 := cN hg BK661; have NB662_661 := cM hg BK661; replace BK659 := cB hb BK659; replace BK660 := cB hb BK660; replace BK661 := cB hb BK661; replace HB := Aside0.mk (below_step (HB.out) hb); clear hb hbox hg) | ((with_reducible refine gate_callee (f := 31) rfl ?_); refine goesL_ (some 17) rfl rfl Try.func31 (by kernel_rfl) rfl #[] rfl (by (try simp only [List.map_toArray, List.map_cons, List.map_nil]); first | done | rfl | (simp only [List.length_drop, List.length_take]; rfl)) ?_; (with_reducible refine (relievolaw04_alive.calls k  true _ A5.out).mono ?_); rintro e w12 ⟨rfl, hb⟩; refine ⟨_, rfl, ?_⟩; replace BK659 := cB hb BK659; replace BK660 := cB hb BK660; replace BK661 := cB hb BK661; replace BK662 := cB hb BK662; replace HB := Aside0.mk (below_step (HB.out) hb); (try clear hb); (try clear hb2); (try clear hk); (try clear hi)))
  (try simp only [Act.put, List.setIfInBounds_toArray, List.set_cons_zero, List.set_cons_succ])
  go_cut [38] (fun v38 wc => ∃ (kq : Nat) (x38_6 : Bool), v38 = .bool x38_6 ∧ Aside0 (relievolaw04_SlabMoved.j0 kq x38_6 a0_0 a0_1 a0_2 a1_0 a1_1 a1_2 a2_0 a2_1 a2_2 a2_3 a2_4 a2_5 a3_0 a3_1 a3_2 = some r) ∧ Aside0 (kq ≤ k) ∧ Aside0 (wc.heap[gb659]? = some (.cells #[.int .i64 a0_0, .int .i64 a0_1, .int .i64 a0_2] 23 (0, 0))) ∧ Aside0 (wc.heap[gb660]? = some (.cells #[.int .i64 a1_0, .int .i64 a1_1, .int .i64 a1_2] 23 (0, 0))) ∧ Aside0 (wc.heap[gb661]? = some (.cells #[.int .i64 a2_0, .int .i64 a2_1, .int .i64 a2_2, .int .i64 a2_3, .int .i64 a2_4, .int .i64 a2_5] 56 (0, 0))) ∧ Aside0 (wc.heap[gb662]? = some (.cells #[.int .i64 a3_0, .int .i64 a3_1, .int .i64 a3_2] 23 (0, 0))) ∧ Aside0 (Below w.heap.size w wc))
  case first =>
   have H := HC7.out
   clear HC7
   replace H := Option.bind_eq_some_iff.mp H
   obtain ⟨t664, A130, H⟩ := H
   replace H : (if t664 = true then ((vec_Within.f a0_0 a0_1 a0_2 1048576).bind fun t665 => (if t665 = true then ((vec_Within.f a2_0 a2_1 a2_2 1048576).bind fun t666 => (if t666 = true then ((vec_Within.f a2_3 a2_4 a2_5 1048576).bind fun t667 => (relievolaw04_SlabMoved.j0 k (!t667) a0_0 a0_1 a0_2 a1_0 a1_1 a1_2 a2_0 a2_1 a2_2 a2_3 a2_4 a2_5 a3_0 a3_1 a3_2)) else (relievolaw04_SlabMoved.j0 k true a0_0 a0_1 a0_2 a1_0 a1_1 a1_2 a2_0 a2_1 a2_2 a2_3 a2_4 a2_5 a3_0 a3_1 a3_2))) else (relievolaw04_SlabMoved.j0 k true a0_0 a0_1 a0_2 a1_0 a1_1 a1_2 a2_0 a2_1 a2_2 a2_3 a2_4 a2_5 a3_0 a3_1 a3_2))) else (relievolaw04_SlabMoved.j0 k true a0_0 a0_1 a0_2 a1_0 a1_1 a1_2 a2_0 a2_1 a2_2 a2_3 a2_4 a2_5 a3_0 a3_1 a3_2)) = some r := H
   have A13 := Aside0.mk A130
   clear A130
   by_cases c14 : t664 = true
   ·subst c14
    have H1 : ((vec_Within.f a0_0 a0_1 a0_2 1048576).bind fun t665 => (if t665 = true then ((vec_Within.f a2_0 a2_1 a2_2 1048576).bind fun t666 => (if t666 = true then ((vec_Within.f a2_3 a2_4 a2_5 1048576).bind fun t667 => (relievolaw04_SlabMoved.j0 k (!t667) a0_0 a0_1 a0_2 a1_0 a1_1 a1_2 a2_0 a2_1 a2_2 a2_3 a2_4 a2_5 a3_0 a3_1 a3_2)) else (relievolaw04_SlabMoved.j0 k true a0_0 a0_1 a0_2 a1_0 a1_1 a1_2 a2_0 a2_1 a2_2 a2_3 a2_4 a2_5 a3_0 a3_1 a3_2))) else (relievolaw04_SlabMoved.j0 k true a0_0 a0_1 a0_2 a1_0 a1_1 a1_2 a2_0 a2_1 a2_2 a2_3 a2_4 a2_5 a3_0 a3_1 a3_2))) = some r := by rw [if_pos rfl] at H; exact H
    clear H
    have H := H1
    clear H1
    replace H := Option.bind_eq_some_iff.mp H
    obtain ⟨t665, A150, H⟩ := H
    replace H : (if t665 = true then ((vec_Within.f a2_0 a2_1 a2_2 1048576).bind fun t666 => (if t666 = true then ((vec_Within.f a2_3 a2_4 a2_5 1048576).bind fun t667 => (relievolaw04_SlabMoved.j0 k (!t667) a0_0 a0_1 a0_2 a1_0 a1_1 a1_2 a2_0 a2_1 a2_2 a2_3 a2_4 a2_5 a3_0 a3_1 a3_2)) else (relievolaw04_SlabMoved.j0 k true a0_0 a0_1 a0_2 a1_0 a1_1 a1_2 a2_0 a2_1 a2_2 a2_3 a2_4 a2_5 a3_0 a3_1 a3_2))) else (relievolaw04_SlabMoved.j0 k true a0_0 a0_1 a0_2 a1_0 a1_1 a1_2 a2_0 a2_1 a2_2 a2_3 a2_4 a2_5 a3_0 a3_1 a3_2)) = some r := H
    have A15 := Aside0.mk A150
    clear A150
    by_cases c16 : t665 = true
    ·subst c16
     have H1 : ((vec_Within.f a2_0 a2_1 a2_2 1048576).bind fun t666 => (if t666 = true then ((vec_Within.f a2_3 a2_4 a2_5 1048576).bind fun t667 => (relievolaw04_SlabMoved.j0 k (!t667) a0_0 a0_1 a0_2 a1_0 a1_1 a1_2 a2_0 a2_1 a2_2 a2_3 a2_4 a2_5 a3_0 a3_1 a3_2)) else (relievolaw04_SlabMoved.j0 k true a0_0 a0_1 a0_2 a1_0 a1_1 a1_2 a2_0 a2_1 a2_2 a2_3 a2_4 a2_5 a3_0 a3_1 a3_2))) = some r := by rw [if_pos rfl] at H; exact H
     clear H
     have H := H1
     clear H1
     replace H := Option.bind_eq_some_iff.mp H
     obtain ⟨t666, A170, H⟩ := H
     replace H : (if t666 = true then ((vec_Within.f a2_3 a2_4 a2_5 1048576).bind fun t667 => (relievolaw04_SlabMoved.j0 k (!t667) a0_0 a0_1 a0_2 a1_0 a1_1 a1_2 a2_0 a2_1 a2_2 a2_3 a2_4 a2_5 a3_0 a3_1 a3_2)) else (relievolaw04_SlabMoved.j0 k true a0_0 a0_1 a0_2 a1_0 a1_1 a1_2 a2_0 a2_1 a2_2 a2_3 a2_4 a2_5 a3_0 a3_1 a3_2)) = some r := H
     have A17 := Aside0.mk A170
     clear A170
     by_cases c18 : t666 = true
     ·subst c18
      have H1 : ((vec_Within.f a2_3 a2_4 a2_5 1048576).bind fun t667 => (relievolaw04_SlabMoved.j0 k (!t667) a0_0 a0_1 a0_2 a1_0 a1_1 a1_2 a2_0 a2_1 a2_2 a2_3 a2_4 a2_5 a3_0 a3_1 a3_2)) = some r := by rw [if_pos rfl] at H; exact H
      clear H
      have H := H1
      clear H1
      replace H := Option.bind_eq_some_iff.mp H
      obtain ⟨t667, A190, H⟩ := H
      replace H : (relievolaw04_SlabMoved.j0 k (!t667) a0_0 a0_1 a0_2 a1_0 a1_1 a1_2 a2_0 a2_1 a2_2 a2_3 a2_4 a2_5 a3_0 a3_1 a3_2) = some r := H
      have A19 := Aside0.mk A190
      clear A190
      have H' := Aside0.mk H
      clear H
      obtain ⟨hcz20_0, hcz20_1, hcz20_2⟩ := cells3 BK662.out
      go_wp2_with (first | ((with_reducible refine gate_callee (f := 34) rfl ?_); refine goesL_ (some 20) rfl rfl Try.func34 (by kernel_rfl) rfl #[.agg #[.int .i64 a3_0, .int .i64 a3_1, .int .i64 a3_2], .int .i64 1048576] rfl (by (try simp only [List.map_toArray, List.map_cons, List.map_nil]); first | done | rfl | (simp only [List.length_drop, List.length_take]; rfl)) ?_; (with_reducible refine (vec_Within.calls a3_0 a3_1 a3_2 1048576 true _ A13.out).mono ?_); rintro e w21 ⟨rfl, hb⟩; refine ⟨_, rfl, ?_⟩; replace BK659 := cB hb BK659; replace BK660 := cB hb BK660; replace BK661 := cB hb BK661; replace BK662 := cB hb BK662; replace HB := Aside0.mk (below_step (HB.out) hb); (try clear hb); (try clear hb2); (try clear hk); (try clear hi); obtain ⟨hcz22_0, hcz22_1, hcz22_2⟩ := cells3 BK659.out) | (go_at_call 34; (with_reducible refine (vec_Within.calls a0_0 a0_1 a0_2 1048576 true _ A15.out).mono ?_); rintro e w23 ⟨rfl, hb⟩; replace BK659 := cB hb BK659; replace BK660 := cB hb BK660; replace BK661 := cB hb BK661; replace BK662 := cB hb BK662; replace HB := Aside0.mk (below_step (HB.out) hb); (try clear hb); (try clear hb2); (try clear hk); (try clear hi); obtain ⟨hcz24_0, hcz24_1, hcz24_2, hcz24_3, hcz24_4, hcz24_5⟩ := cells6 BK661.out) | (go_at_call 34; (with_reducible refine (vec_Within.calls a2_0 a2_1 a2_2 1048576 true _ A17.out).mono ?_); rintro e w25 ⟨rfl, hb⟩; replace BK659 := cB hb BK659; replace BK660 := cB hb BK660; replace BK661 := cB hb BK661; replace BK662 := cB hb BK662; replace HB := Aside0.mk (below_step (HB.out) hb); (try clear hb); (try clear hb2); (try clear hk); (try clear hi); obtain ⟨hcz26_0, hcz26_1, hcz26_2, hcz26_3, hcz26_4, hcz26_5⟩ := cells6 BK661.out) | (go_at_call 34; (with_reducible refine (vec_Within.calls a2_3 a2_4 a2_5 1048576 t667 _ A19.out).mono ?_); rintro e w27 ⟨rfl, hb⟩; replace BK659 := cB hb BK659; replace BK660 := cB hb BK660; replace BK661 := cB hb BK661; replace BK662 := cB hb BK662; replace HB := Aside0.mk (below_step (HB.out) hb); (try clear hb); (try clear hb2); (try clear hk); (try clear hi)))
      go_meet
      case rel => exact ⟨_, (!t667), (by first | rfl | (simp; done) | (simp [*]; done)), H', ⟨by first | omega | exact Nat.le_refl _⟩, ⟨BK659.out⟩, ⟨BK660.out⟩, ⟨BK661.out⟩, ⟨BK662.out⟩, ⟨HB.out⟩⟩
     replace c18 := Bool.eq_false_iff.mpr c18
     subst c18
     have H1 : (relievolaw04_SlabMoved.j0 k true a0_0 a0_1 a0_2 a1_0 a1_1 a1_2 a2_0 a2_1 a2_2 a2_3 a2_4 a2_5 a3_0 a3_1 a3_2) = some r := by rw [if_neg (show ¬ (false = true) by decide)] at H; exact H
     clear H
     have H := H1
     clear H1
     have H' := Aside0.mk H
     clear H
     obtain ⟨hcz28_0, hcz28_1, hcz28_2⟩ := cells3 BK662.out
     go_wp2_with (first | ((with_reducible refine gate_callee (f := 34) rfl ?_); refine goesL_ (some 20) rfl rfl Try.func34 (by kernel_rfl) rfl #[.agg #[.int .i64 a3_0, .int .i64 a3_1, .int .i64 a3_2], .int .i64 1048576] rfl (by (try simp only [List.map_toArray, List.map_cons, List.map_nil]); first | done | rfl | (simp only [List.length_drop, List.length_take]; rfl)) ?_; (with_reducible refine (vec_Within.calls a3_0 a3_1 a3_2 1048576 true _ A13.out).mono ?_); rintro e w29 ⟨rfl, hb⟩; refine ⟨_, rfl, ?_⟩; replace BK659 := cB hb BK659; replace BK660 := cB hb BK660; replace BK661 := cB hb BK661; replace BK662 := cB hb BK662; replace HB := Aside0.mk (below_step (HB.out) hb); (try clear hb); (try clear hb2); (try clear hk); (try clear hi); obtain ⟨hcz30_0, hcz30_1, hcz30_2⟩ := cells3 BK659.out) | (go_at_call 34; (with_reducible refine (vec_Within.calls a0_0 a0_1 a0_2 1048576 true _ A15.out).mono ?_); rintro e w31 ⟨rfl, hb⟩; replace BK659 := cB hb BK659; replace BK660 := cB hb BK660; replace BK661 := cB hb BK661; replace BK662 := cB hb BK662; replace HB := Aside0.mk (below_step (HB.out) hb); (try clear hb); (try clear hb2); (try clear hk); (try clear hi); obtain ⟨hcz32_0, hcz32_1, hcz32_2, hcz32_3, hcz32_4, hcz32_5⟩ := cells6 BK661.out) | (go_at_call 34; (with_reducible refine (vec_Within.calls a2_0 a2_1 a2_2 1048576 false _ A17.out).mono ?_); rintro e w33 ⟨rfl, hb⟩; replace BK659 := cB hb BK659; replace BK660 := cB hb BK660; replace BK661 := cB hb BK661; replace BK662 := cB hb BK662; replace HB := Aside0.mk (below_step (HB.out) hb); (try clear hb); (try clear hb2); (try clear hk); (try clear hi)))
     go_meet
     case rel => exact ⟨_, (true), (by first | rfl | (simp; done) | (simp [*]; done)), H', ⟨by first | omega | exact Nat.le_refl _⟩, ⟨BK659.out⟩, ⟨BK660.out⟩, ⟨BK661.out⟩, ⟨BK662.out⟩, ⟨HB.out⟩⟩
    replace c16 := Bool.eq_false_iff.mpr c16
    subst c16
    have H1 : (relievolaw04_SlabMoved.j0 k true a0_0 a0_1 a0_2 a1_0 a1_1 a1_2 a2_0 a2_1 a2_2 a2_3 a2_4 a2_5 a3_0 a3_1 a3_2) = some r := by rw [if_neg (show ¬ (false = true) by decide)] at H; exact H
    clear H
    have H := H1
    clear H1
    have H' := Aside0.mk H
    clear H
    obtain ⟨hcz34_0, hcz34_1, hcz34_2⟩ := cells3 BK662.out
    go_wp2_with (first | ((with_reducible refine gate_callee (f := 34) rfl ?_); refine goesL_ (some 20) rfl rfl Try.func34 (by kernel_rfl) rfl #[.agg #[.int .i64 a3_0, .int .i64 a3_1, .int .i64 a3_2], .int .i64 1048576] rfl (by (try simp only [List.map_toArray, List.map_cons, List.map_nil]); first | done | rfl | (simp only [List.length_drop, List.length_take]; rfl)) ?_; (with_reducible refine (vec_Within.calls a3_0 a3_1 a3_2 1048576 true _ A13.out).mono ?_); rintro e w35 ⟨rfl, hb⟩; refine ⟨_, rfl, ?_⟩; replace BK659 := cB hb BK659; replace BK660 := cB hb BK660; replace BK661 := cB hb BK661; replace BK662 := cB hb BK662; replace HB := Aside0.mk (below_step (HB.out) hb); (try clear hb); (try clear hb2); (try clear hk); (try clear hi); obtain ⟨hcz36_0, hcz36_1, hcz36_2⟩ := cells3 BK659.out) | (go_at_call 34; (with_reducible refine (vec_Within.calls a0_0 a0_1 a0_2 1048576 false _ A15.out).mono ?_); rintro e w37 ⟨rfl, hb⟩; replace BK659 := cB hb BK659; replace BK660 := cB hb BK660; replace BK661 := cB hb BK661; replace BK662 := cB hb BK662; replace HB := Aside0.mk (below_step (HB.out) hb); (try clear hb); (try clear hb2); (try clear hk); (try clear hi)))
    go_meet
    case rel => exact ⟨_, (true), (by first | rfl | (simp; done) | (simp [*]; done)), H', ⟨by first | omega | exact Nat.le_refl _⟩, ⟨BK659.out⟩, ⟨BK660.out⟩, ⟨BK661.out⟩, ⟨BK662.out⟩, ⟨HB.out⟩⟩
   replace c14 := Bool.eq_false_iff.mpr c14
   subst c14
   have H1 : (relievolaw04_SlabMoved.j0 k true a0_0 a0_1 a0_2 a1_0 a1_1 a1_2 a2_0 a2_1 a2_2 a2_3 a2_4 a2_5 a3_0 a3_1 a3_2) = some r := by rw [if_neg (show ¬ (false = true) by decide)] at H; exact H
   clear H
   have H := H1
   clear H1
   have H' := Aside0.mk H
   clear H
   obtain ⟨hcz38_0, hcz38_1, hcz38_2⟩ := cells3 BK662.out
   go_wp2_with (first | ((with_reducible refine gate_callee (f := 34) rfl ?_); refine goesL_ (some 20) rfl rfl Try.func34 (by kernel_rfl) rfl #[.agg #[.int .i64 a3_0, .int .i64 a3_1, .int .i64 a3_2], .int .i64 1048576] rfl (by (try simp only [List.map_toArray, List.map_cons, List.map_nil]); first | done | rfl | (simp only [List.length_drop, List.length_take]; rfl)) ?_; (with_reducible refine (vec_Within.calls a3_0 a3_1 a3_2 1048576 false _ A13.out).mono ?_); rintro e w39 ⟨rfl, hb⟩; refine ⟨_, rfl, ?_⟩; replace BK659 := cB hb BK659; replace BK660 := cB hb BK660; replace BK661 := cB hb BK661; replace BK662 := cB hb BK662; replace HB := Aside0.mk (below_step (HB.out) hb); (try clear hb); (try clear hb2); (try clear hk); (try clear hi)))
   go_meet
   case rel => exact ⟨_, (true), (by first | rfl | (simp; done) | (simp [*]; done)), H', ⟨by first | omega | exact Nat.le_refl _⟩, ⟨BK659.out⟩, ⟨BK660.out⟩, ⟨BK661.out⟩, ⟨BK662.out⟩, ⟨HB.out⟩⟩
  clear HC7
  try clear c6
  obtain ⟨kq, x38_6, rfl, HA, HJ6, BK659, BK660, BK661, BK662, HB⟩ := hcut
  cases kq with
  | zero => exact absurd HA.out (by simp [relievolaw04_SlabMoved.j0])
  | succ kj6 =>
   have H := HA.out
   clear HA
   simp only [relievolaw04_SlabMoved.j0] at H
   by_cases c40 : x38_6 = true
   ·subst c40
    have H1 : (some true) = some r := by rw [if_pos rfl] at H; exact H
    clear H
    have H := H1
    clear H1
    obtain rfl := Option.some.inj H
    go_wp2
    go_ret
    exact ⟨by first | rfl | (simp [errW_none, errW_some] <;> rfl) | (simp [*, errW_none, errW_some] <;> rfl), HB.out⟩
   replace c40 := Bool.eq_false_iff.mpr c40
   subst c40
   have H1 : ((slab_Range.f kj6 a0_0 a0_1 a0_2 a1_0 a1_1 a1_2 a2_0 a2_1 a2_2 a2_3 a2_4 a2_5).bind fun bt668 => ((relievoref02_Add.f a0_0 a0_1 a0_2 a3_0 a3_1 a3_2).bind fun bt676 => ((relievoref02_Add.f a2_0 a2_1 a2_2 a3_0 a3_1 a3_2).bind fun bt679 => ((relievoref02_Add.f a2_3 a2_4 a2_5 a3_0 a3_1 a3_2).bind fun bt682 => ((slab_Range.f kj6 bt676.1 bt676.2.1 bt676.2.2 a1_0 a1_1 a1_2 bt679.1 bt679.2.1 bt679.2.2 bt682.1 bt682.2.1 bt682.2.2).bind fun bt685 => (if bt668.2.2.2.2.2 = 0 then (relievolaw04_SlabMoved.j1 kj6 bt668.2.2.2.2.1 bt685.2.2.2.2.1 (bt685.2.2.2.2.2 != 0) bt668.1 bt668.2.1 bt668.2.2.1 bt668.2.2.2.1 bt685.1 bt685.2.1 bt685.2.2.1 bt685.2.2.2.1) else (relievolaw04_SlabMoved.j1 kj6 bt668.2.2.2.2.1 bt685.2.2.2.2.1 true bt668.1 bt668.2.1 bt668.2.2.1 bt668.2.2.2.1 bt685.1 bt685.2.1 bt685.2.2.1 bt685.2.2.2.1))))))) = some r := by rw [if_neg (show ¬ (false = true) by decide)] at H; exact H
   clear H
   have H := H1
   clear H1
   replace H := Option.bind_eq_some_iff.mp H
   obtain ⟨⟨t668, t669, t670, t671, t672, t673⟩, A410, H⟩ := H
   replace H : ((relievoref02_Add.f a0_0 a0_1 a0_2 a3_0 a3_1 a3_2).bind fun bt676 => ((relievoref02_Add.f a2_0 a2_1 a2_2 a3_0 a3_1 a3_2).bind fun bt679 => ((relievoref02_Add.f a2_3 a2_4 a2_5 a3_0 a3_1 a3_2).bind fun bt682 => ((slab_Range.f kj6 bt676.1 bt676.2.1 bt676.2.2 a1_0 a1_1 a1_2 bt679.1 bt679.2.1 bt679.2.2 bt682.1 bt682.2.1 bt682.2.2).bind fun bt685 => (if t673 = 0 then (relievolaw04_SlabMoved.j1 kj6 t672 bt685.2.2.2.2.1 (bt685.2.2.2.2.2 != 0) t668 t669 t670 t671 bt685.1 bt685.2.1 bt685.2.2.1 bt685.2.2.2.1) else (relievolaw04_SlabMoved.j1 kj6 t672 bt685.2.2.2.2.1 true t668 t669 t670 t671 bt685.1 bt685.2.1 bt685.2.2.1 bt685.2.2.2.1)))))) = some r := H
   have A41 := Aside0.mk A410
   clear A410
   replace H := Option.bind_eq_some_iff.mp H
   obtain ⟨⟨t676, t677, t678⟩, A420, H⟩ := H
   replace H : ((relievoref02_Add.f a2_0 a2_1 a2_2 a3_0 a3_1 a3_2).bind fun bt679 => ((relievoref02_Add.f a2_3 a2_4 a2_5 a3_0 a3_1 a3_2).bind fun bt682 => ((slab_Range.f kj6 t676 t677 t678 a1_0 a1_1 a1_2 bt679.1 bt679.2.1 bt679.2.2 bt682.1 bt682.2.1 bt682.2.2).bind fun bt685 => (if t673 = 0 then (relievolaw04_SlabMoved.j1 kj6 t672 bt685.2.2.2.2.1 (bt685.2.2.2.2.2 != 0) t668 t669 t670 t671 bt685.1 bt685.2.1 bt685.2.2.1 bt685.2.2.2.1) else (relievolaw04_SlabMoved.j1 kj6 t672 bt685.2.2.2.2.1 true t668 t669 t670 t671 bt685.1 bt685.2.1 bt685.2.2.1 bt685.2.2.2.1))))) = some r := H
   have A42 := Aside0.mk A420
   clear A420
   replace H := Option.bind_eq_some_iff.mp H
   obtain ⟨⟨t679, t680, t681⟩, A430, H⟩ := H
   replace H : ((relievoref02_Add.f a2_3 a2_4 a2_5 a3_0 a3_1 a3_2).bind fun bt682 => ((slab_Range.f kj6 t676 t677 t678 a1_0 a1_1 a1_2 t679 t680 t681 bt682.1 bt682.2.1 bt682.2.2).bind fun bt685 => (if t673 = 0 then (relievolaw04_SlabMoved.j1 kj6 t672 bt685.2.2.2.2.1 (bt685.2.2.2.2.2 != 0) t668 t669 t670 t671 bt685.1 bt685.2.1 bt685.2.2.1 bt685.2.2.2.1) else (relievolaw04_SlabMoved.j1 kj6 t672 bt685.2.2.2.2.1 true t668 t669 t670 t671 bt685.1 bt685.2.1 bt685.2.2.1 bt685.2.2.2.1)))) = some r := H
   have A43 := Aside0.mk A430
   clear A430
   replace H := Option.bind_eq_some_iff.mp H
   obtain ⟨⟨t682, t683, t684⟩, A440, H⟩ := H
   replace H : ((slab_Range.f kj6 t676 t677 t678 a1_0 a1_1 a1_2 t679 t680 t681 t682 t683 t684).bind fun bt685 => (if t673 = 0 then (relievolaw04_SlabMoved.j1 kj6 t672 bt685.2.2.2.2.1 (bt685.2.2.2.2.2 != 0) t668 t669 t670 t671 bt685.1 bt685.2.1 bt685.2.2.1 bt685.2.2.2.1) else (relievolaw04_SlabMoved.j1 kj6 t672 bt685.2.2.2.2.1 true t668 t669 t670 t671 bt685.1 bt685.2.1 bt685.2.2.1 bt685.2.2.2.1))) = some r := H
   have A44 := Aside0.mk A440
   clear A440
   replace H := Option.bind_eq_some_iff.mp H
   obtain ⟨⟨t685, t686, t687, t688, t689, t690⟩, A450, H⟩ := H
   replace H : (if t673 = 0 then (relievolaw04_SlabMoved.j1 kj6 t672 t689 (t690 != 0) t668 t669 t670 t671 t685 t686 t687 t688) else (relievolaw04_SlabMoved.j1 kj6 t672 t689 true t668 t669 t670 t671 t685 t686 t687 t688)) = some r := H
   have A45 := Aside0.mk A450
   clear A450
   have HC46 := Aside0.mk H
   clear H
   obtain ⟨hcz47_0, hcz47_1, hcz47_2⟩ := cells3 BK659.out
   obtain ⟨hcz48_0, hcz48_1, hcz48_2⟩ := cells3 BK660.out
   obtain ⟨hcz49_0, hcz49_1, hcz49_2, hcz49_3, hcz49_4, hcz49_5⟩ := cells6 BK661.out
   try go_wp2_with (first | ((with_reducible refine gate_callee (f := 32) rfl ?_); refine goesL_ (some 43) rfl rfl Try.func32 (by kernel_rfl) rfl #[.agg #[.int .i64 a0_0, .int .i64 a0_1, .int .i64 a0_2], .agg #[.int .i64 a1_0, .int .i64 a1_1, .int .i64 a1_2], .agg #[.int .i64 a2_0, .int .i64 a2_1, .int .i64 a2_2, .int .i64 a2_3, .int .i64 a2_4, .int .i64 a2_5]] rfl (by (try simp only [List.map_toArray, List.map_cons, List.map_nil]); first | done | rfl | (simp only [List.length_drop, List.length_take]; rfl)) ?_; (with_reducible refine (slab_Range.calls kj6 a0_0 a0_1 a0_2 a1_0 a1_1 a1_2 a2_0 a2_1 a2_2 a2_3 a2_4 a2_5 t668 t669 t670 t671 t672 t673 _ A41.out).mono ?_); rintro e w50 ⟨rfl, hb⟩; refine ⟨_, rfl, ?_⟩; replace BK659 := cB hb BK659; replace BK660 := cB hb BK660; replace BK661 := cB hb BK661; replace BK662 := cB hb BK662; replace HB := Aside0.mk (below_step (HB.out) hb); (try clear hb); (try clear hb2); (try clear hk); (try clear hi)) | ((with_reducible refine gate_dst (N := 9) rfl ?_); refine box_event ?hg (N := 9) ?hd (cs := #[.int .i64 0, .int .i64 0]) (t := 28) ?hr ?_; (case hd => rfl); (case hg => rfl); (case hr => first | (go_simp; done) | (go_simp; rfl)); intro gb674 hg w51 hbox hb; have BK674 := Aside0.mk (hbox); have GE674 := Aside0.mk (bG hg (HB.out)); have NB659_674 := cN hg BK659; have NB674_659 := cM hg BK659; have NB660_674 := cN hg BK660; have NB674_660 := cM hg BK660; have NB661_674 := cN hg BK661; have NB674_661 := cM hg BK661; have NB662_674 := cN hg BK662; have NB674_662 := cM hg BK662; replace BK659 := cB hb BK659; replace BK660 := cB hb BK660; replace BK661 := cB hb BK661; replace BK662 := cB hb BK662; replace HB := Aside0.mk (below_step (HB.out) hb); clear hb hbox hg) | ((with_reducible refine gate_dst (N := 10) rfl ?_); refine box_event ?hg (N := 10) ?hd (cs := #[.int .i64 0, .int .i64 0]) (t := 28) ?hr ?_; (case hd => rfl); (case hg => rfl); (case hr => first | (go_simp; done) | (go_simp; rfl)); intro gb675 hg w52 hbox hb; have BK675 := Aside0.mk (hbox); have GE675 := Aside0.mk (bG hg (HB.out)); have NB659_675 := cN hg BK659; have NB675_659 := cM hg BK659; have NB660_675 := cN hg BK660; have NB675_660 := cM hg BK660; have NB661_675 := cN hg BK661; have NB675_661 := cM hg BK661; have NB662_675 := cN hg BK662; have NB675_662 := cM hg BK662; have NB674_675 := cN hg BK674; have NB675_674 := cM hg BK674; replace BK659 := cB hb BK659; replace BK660 := cB hb BK660; replace BK661 := cB hb BK661; replace BK662 := cB hb BK662; replace BK674 := cB hb BK674; replace HB := Aside0.mk (below_step (HB.out) hb); clear hb hbox hg; have hnb53 := NB674_659.out; have hnc53 := NB659_674.out; have hnb54 := NB674_660.out; have hnc54 := NB660_674.out; have hnb55 := NB674_661.out; have hnc55 := NB661_674.out; have hnb56 := NB674_662.out; have hnc56 := NB662_674.out; have hnb57 := NB674_675.out; have hnc57 := NB675_674.out; obtain ⟨hcz58_0, hcz58_1⟩ := cells2 BK674.out; have hfz58_0 := blk_frozen BK674.out 0; have hfz58_1 := blk_frozen BK674.out 1; have hnb59 := NB675_659.out; have hnc59 := NB659_675.out; have hnb60 := NB675_660.out; have hnc60 := NB660_675.out; have hnb61 := NB675_661.out; have hnc61 := NB661_675.out; have hnb62 := NB675_662.out; have hnc62 := NB662_675.out; obtain ⟨hcz63_0, hcz63_1⟩ := cells2 BK675.out; have hfz63_0 := blk_frozen BK675.out 0; have hfz63_1 := blk_frozen BK675.out 1))
   generalize hw_ : ((((w52.setCell ⟨gb674, 0, none⟩ (.int .i64 t668)).setCell ⟨gb674, 1, none⟩ (.int .i64 t669)).setCell ⟨gb675, 0, none⟩ (.int .i64 t670)).setCell ⟨gb675, 1, none⟩ (.int .i64 t671)) = w64
   replace BK659 := Aside0.mk (bF hw_ (blk_far (blk_far (blk_far (blk_far BK659.out NB659_674.out _) NB659_674.out _) NB659_675.out _) NB659_675.out _))
   replace BK660 := Aside0.mk (bF hw_ (blk_far (blk_far (blk_far (blk_far BK660.out NB660_674.out _) NB660_674.out _) NB660_675.out _) NB660_675.out _))
   replace BK661 := Aside0.mk (bF hw_ (blk_far (blk_far (blk_far (blk_far BK661.out NB661_674.out _) NB661_674.out _) NB661_675.out _) NB661_675.out _))
   replace BK662 := Aside0.mk (bF hw_ (blk_far (blk_far (blk_far (blk_far BK662.out NB662_674.out _) NB662_674.out _) NB662_675.out _) NB662_675.out _))
   replace BK674 := Aside0.mk (bF hw_ (blk_far (blk_far (blk_put (cs' := #[.int .i64 t668, .int .i64 t669]) (blk_put BK674.out 0 _ rfl) 1 _ rfl) NB674_675.out _) NB674_675.out _))
   replace BK675 := Aside0.mk (bF hw_ (blk_put (cs' := #[.int .i64 t670, .int .i64 t671]) (blk_put (blk_far (blk_far BK675.out NB675_674.out _) NB675_674.out _) 0 _ rfl) 1 _ rfl))
   replace HB := Aside0.mk (bH hw_ (below_set (below_set (below_set (below_set HB.out GE674.out) GE674.out) GE675.out) GE675.out))
   clear hw_
   replace BK659 := Aside0.mk (blk_drew BK659.out)
   replace BK660 := Aside0.mk (blk_drew BK660.out)
   replace BK661 := Aside0.mk (blk_drew BK661.out)
   replace BK662 := Aside0.mk (blk_drew BK662.out)
   replace BK674 := Aside0.mk (blk_drew BK674.out)
   replace BK675 := Aside0.mk (blk_drew BK675.out)
   replace HB := Aside0.mk (below_drew1 HB.out)
   refine start_ (n := 25) (S := fun w' => w'.cell? ⟨gb659, 0, none⟩ = some (.int .i64 a0_0) ∧ w'.cell? ⟨gb659, 1, none⟩ = some (.int .i64 a0_1) ∧ w'.cell? ⟨gb659, 2, none⟩ = some (.int .i64 a0_2) ∧ w'.cell? ⟨gb662, 0, none⟩ = some (.int .i64 a3_0) ∧ w'.cell? ⟨gb662, 1, none⟩ = some (.int .i64 a3_1) ∧ w'.cell? ⟨gb662, 2, none⟩ = some (.int .i64 a3_2) ∧ w'.cell? ⟨gb660, 0, none⟩ = some (.int .i64 a1_0) ∧ w'.cell? ⟨gb660, 1, none⟩ = some (.int .i64 a1_1) ∧ w'.cell? ⟨gb660, 2, none⟩ = some (.int .i64 a1_2) ∧ w'.cell? ⟨gb661, 0, none⟩ = some (.int .i64 a2_0) ∧ w'.cell? ⟨gb661, 1, none⟩ = some (.int .i64 a2_1) ∧ w'.cell? ⟨gb661, 2, none⟩ = some (.int .i64 a2_2) ∧ w'.cell? ⟨gb661, 3, none⟩ = some (.int .i64 a2_3) ∧ w'.cell? ⟨gb661, 4, none⟩ = some (.int .i64 a2_4) ∧ w'.cell? ⟨gb661, 5, none⟩ = some (.int .i64 a2_5)) (ds := []) #[false, false, false, false, false, false, false, false, false, false, false, false, false, false, false, false, false, false, false, false, false, false, false, false, false] (by kernel_rfl) rfl rfl ⟨(blk_cell BK659.out 0).trans rfl, (blk_cell BK659.out 1).trans rfl, (blk_cell BK659.out 2).trans rfl, (blk_cell BK662.out 0).trans rfl, (blk_cell BK662.out 1).trans rfl, (blk_cell BK662.out 2).trans rfl, (blk_cell BK660.out 0).trans rfl, (blk_cell BK660.out 1).trans rfl, (blk_cell BK660.out 2).trans rfl, (blk_cell BK661.out 0).trans rfl, (blk_cell BK661.out 1).trans rfl, (blk_cell BK661.out 2).trans rfl, (blk_cell BK661.out 3).trans rfl, (blk_cell BK661.out 4).trans rfl, (blk_cell BK661.out 5).trans rfl⟩ (fun hHeld => ?_); refine with_tabW relievolaw04_SlabMoved.tab6 relievolaw04_SlabMoved.bits6 (fun HT_ HW_ => ?_)
   generalize w64.drew = w65 at BK659 BK660 BK661 BK662 BK674 BK675 HB hHeld ⊢
   refine pure_ (i := 4) (N := some 53) (v := ?_) (a' := ?_) #[false, false, false, false, true, false, false, false, false, false, false, false, false, false, false, false, false, false, false, false, false, false, false, false, false] rfl rfl (any_of HT_.out (by kernel_rfl)) (fun _ _ _ h => h) (Or.inl ⟨by rfl, ?_⟩) ?_ ?_
   rotate_left
   ·intro w'
    go_simp
    with_reducible rfl
   rotate_left
   ·simp only [Act.put, List.setIfInBounds_toArray, List.set_cons_zero, List.set_cons_succ, i64_w, i32_w]
    rfl
   refine pure_ (i := 8) (N := some 57) (v := ?_) (a' := ?_) #[false, false, false, false, true, false, false, false, true, false, false, false, false, false, false, false, false, false, false, false, false, false, false, false, false] rfl rfl (any_of HT_.out (by kernel_rfl)) (fun _ _ _ h => h) (Or.inl ⟨by rfl, ?_⟩) ?_ ?_
   rotate_left
   ·intro w'
    go_simp
    with_reducible rfl
   rotate_left
   ·simp only [Act.put, List.setIfInBounds_toArray, List.set_cons_zero, List.set_cons_succ, i64_w, i32_w]
    rfl
   refine take_ (i := 0) (N := some 49) (v := ?_) (a' := ?_) #[true, false, false, false, true, false, false, false, true, false, false, false, false, false, false, false, false, false, false, false, false, false, false, false, false] rfl rfl (take_ofW HT_.out HW_.out (by kernel_rfl)) (fun _ _ _ h => h) (Or.inl ⟨by rfl, ?_⟩) hHeld ?_ ?_
   rotate_left
   ·rintro w' ⟨s0, s1, s2, s3, s4, s5, s6, s7, s8, s9, s10, s11, s12, s13, s14⟩
    go_simp
    with_reducible rfl
   rotate_left
   ·simp only [Act.put, List.setIfInBounds_toArray, List.set_cons_zero, List.set_cons_succ, i64_w, i32_w]
    rfl
   refine take_ (i := 1) (N := some 50) (v := ?_) (a' := ?_) #[true, true, false, false, true, false, false, false, true, false, false, false, false, false, false, false, false, false, false, false, false, false, false, false, false] rfl rfl (take_ofW HT_.out HW_.out (by kernel_rfl)) (fun _ _ _ h => h) (Or.inl ⟨by rfl, ?_⟩) hHeld ?_ ?_
   rotate_left
   ·rintro w' ⟨s0, s1, s2, s3, s4, s5, s6, s7, s8, s9, s10, s11, s12, s13, s14⟩
    go_simp
    with_reducible rfl
   rotate_left
   ·simp only [Act.put, List.setIfInBounds_toArray, List.set_cons_zero, List.set_cons_succ, i64_w, i32_w]
    rfl
   refine take_ (i := 3) (N := some 52) (v := ?_) (a' := ?_) #[true, true, false, true, true, false, false, false, true, false, false, false, false, false, false, false, false, false, false, false, false, false, false, false, false] rfl rfl (take_ofW HT_.out HW_.out (by kernel_rfl)) (fun _ _ _ h => h) (Or.inl ⟨by rfl, ?_⟩) hHeld ?_ ?_
   rotate_left
   ·rintro w' ⟨s0, s1, s2, s3, s4, s5, s6, s7, s8, s9, s10, s11, s12, s13, s14⟩
    go_simp
    with_reducible rfl
   rotate_left
   ·simp only [Act.put, List.setIfInBounds_toArray, List.set_cons_zero, List.set_cons_succ, i64_w, i32_w]
    rfl
   refine take_ (i := 5) (N := some 54) (v := ?_) (a' := ?_) #[true, true, false, true, true, true, false, false, true, false, false, false, false, false, false, false, false, false, false, false, false, false, false, false, false] rfl rfl (take_ofW HT_.out HW_.out (by kernel_rfl)) (fun _ _ _ h => h) (Or.inl ⟨by rfl, ?_⟩) hHeld ?_ ?_
   rotate_left
   ·rintro w' ⟨s0, s1, s2, s3, s4, s5, s6, s7, s8, s9, s10, s11, s12, s13, s14⟩
    go_simp
    with_reducible rfl
   rotate_left
   ·simp only [Act.put, List.setIfInBounds_toArray, List.set_cons_zero, List.set_cons_succ, i64_w, i32_w]
    rfl
   refine take_ (i := 6) (N := some 55) (v := ?_) (a' := ?_) #[true, true, false, true, true, true, true, false, true, false, false, false, false, false, false, false, false, false, false, false, false, false, false, false, false] rfl rfl (take_ofW HT_.out HW_.out (by kernel_rfl)) (fun _ _ _ h => h) (Or.inl ⟨by rfl, ?_⟩) hHeld ?_ ?_
   rotate_left
   ·rintro w' ⟨s0, s1, s2, s3, s4, s5, s6, s7, s8, s9, s10, s11, s12, s13, s14⟩
    go_simp
    with_reducible rfl
   rotate_left
   ·simp only [Act.put, List.setIfInBounds_toArray, List.set_cons_zero, List.set_cons_succ, i64_w, i32_w]
    rfl
   refine take_ (i := 9) (N := some 58) (v := ?_) (a' := ?_) #[true, true, false, true, true, true, true, false, true, true, false, false, false, false, false, false, false, false, false, false, false, false, false, false, false] rfl rfl (take_ofW HT_.out HW_.out (by kernel_rfl)) (fun _ _ _ h => h) (Or.inl ⟨by rfl, ?_⟩) hHeld ?_ ?_
   rotate_left
   ·rintro w' ⟨s0, s1, s2, s3, s4, s5, s6, s7, s8, s9, s10, s11, s12, s13, s14⟩
    go_simp
    with_reducible rfl
   rotate_left
   ·simp only [Act.put, List.setIfInBounds_toArray, List.set_cons_zero, List.set_cons_succ, i64_w, i32_w]
    rfl
   refine take_ (i := 10) (N := some 59) (v := ?_) (a' := ?_) #[true, true, false, true, true, true, true, false, true, true, true, false, false, false, false, false, false, false, false, false, false, false, false, false, false] rfl rfl (take_ofW HT_.out HW_.out (by kernel_rfl)) (fun _ _ _ h => h) (Or.inl ⟨by rfl, ?_⟩) hHeld ?_ ?_
   rotate_left
   ·rintro w' ⟨s0, s1, s2, s3, s4, s5, s6, s7, s8, s9, s10, s11, s12, s13, s14⟩
    go_simp
    with_reducible rfl
   rotate_left
   ·simp only [Act.put, List.setIfInBounds_toArray, List.set_cons_zero, List.set_cons_succ, i64_w, i32_w]
    rfl
   refine join_ (σ := Nat × Nat) 4 #[true, true, true, true, true, true, true, true, true, true, true, true, true, true, true, true, true, true, true, true, true, false, false, false, false] (fun s_ => [(51, .agg #[.int .i64 t676, .int .i64 t677, .int .i64 t678]), (56, .agg #[.int .i64 t679, .int .i64 t680, .int .i64 t681]), (60, .agg #[.int .i64 t682, .int .i64 t683, .int .i64 t684]), (62, .tuple #[.agg #[.int .i64 t685, .int .i64 t686], .agg #[.int .i64 t687, .int .i64 t688], .bool t689, .int .i64 t690]), (13, .pointer (some ⟨s_.1, 0, none⟩)), (14, .pointer (some ⟨s_.2, 0, none⟩)), (61, .agg #[.int .i64 t679, .int .i64 t680, .int .i64 t681, .int .i64 t682, .int .i64 t683, .int .i64 t684]), (48, .tuple #[.agg #[.int .i64 t685, .int .i64 t686], .agg #[.int .i64 t687, .int .i64 t688], .bool t689, .int .i64 t690]), (63, .agg #[.int .i64 t685, .int .i64 t686]), (64, .agg #[.int .i64 t687, .int .i64 t688]), (65, .bool t689), (66, .int .i64 t690)]) (fun s_ w' => (w'.cell? ⟨gb659, 0, none⟩ = some (.int .i64 a0_0) ∧ w'.cell? ⟨gb659, 1, none⟩ = some (.int .i64 a0_1) ∧ w'.cell? ⟨gb659, 2, none⟩ = some (.int .i64 a0_2) ∧ w'.cell? ⟨gb662, 0, none⟩ = some (.int .i64 a3_0) ∧ w'.cell? ⟨gb662, 1, none⟩ = some (.int .i64 a3_1) ∧ w'.cell? ⟨gb662, 2, none⟩ = some (.int .i64 a3_2) ∧ w'.cell? ⟨gb660, 0, none⟩ = some (.int .i64 a1_0) ∧ w'.cell? ⟨gb660, 1, none⟩ = some (.int .i64 a1_1) ∧ w'.cell? ⟨gb660, 2, none⟩ = some (.int .i64 a1_2) ∧ w'.cell? ⟨gb661, 0, none⟩ = some (.int .i64 a2_0) ∧ w'.cell? ⟨gb661, 1, none⟩ = some (.int .i64 a2_1) ∧ w'.cell? ⟨gb661, 2, none⟩ = some (.int .i64 a2_2) ∧ w'.cell? ⟨gb661, 3, none⟩ = some (.int .i64 a2_3) ∧ w'.cell? ⟨gb661, 4, none⟩ = some (.int .i64 a2_4) ∧ w'.cell? ⟨gb661, 5, none⟩ = some (.int .i64 a2_5)) ∧ (w'.heap[gb659]? = some (.cells #[.int .i64 a0_0, .int .i64 a0_1, .int .i64 a0_2] 23 (0, 0))) ∧ (w'.heap[gb660]? = some (.cells #[.int .i64 a1_0, .int .i64 a1_1, .int .i64 a1_2] 23 (0, 0))) ∧ (w'.heap[gb661]? = some (.cells #[.int .i64 a2_0, .int .i64 a2_1, .int .i64 a2_2, .int .i64 a2_3, .int .i64 a2_4, .int .i64 a2_5] 56 (0, 0))) ∧ (w'.heap[gb662]? = some (.cells #[.int .i64 a3_0, .int .i64 a3_1, .int .i64 a3_2] 23 (0, 0))) ∧ (w'.heap[gb674]? = some (.cells #[.int .i64 t668, .int .i64 t669] 28 (0, 0))) ∧ (w'.heap[gb675]? = some (.cells #[.int .i64 t670, .int .i64 t671] 28 (0, 0))) ∧ (w'.heap[s_.1]? = some (.cells #[.int .i64 0, .int .i64 0] 28 (0, 0))) ∧ (w'.heap[s_.2]? = some (.cells #[.int .i64 0, .int .i64 0] 28 (0, 0))) ∧ (w.heap.size ≤ s_.1) ∧ (gb659 ≠ s_.1) ∧ (s_.1 ≠ gb659) ∧ (gb660 ≠ s_.1) ∧ (s_.1 ≠ gb660) ∧ (gb661 ≠ s_.1) ∧ (s_.1 ≠ gb661) ∧ (gb662 ≠ s_.1) ∧ (s_.1 ≠ gb662) ∧ (gb674 ≠ s_.1) ∧ (s_.1 ≠ gb674) ∧ (gb675 ≠ s_.1) ∧ (s_.1 ≠ gb675) ∧ (s_.2 ≠ s_.1) ∧ (s_.1 ≠ s_.2) ∧ (w.heap.size ≤ s_.2) ∧ (gb659 ≠ s_.2) ∧ (s_.2 ≠ gb659) ∧ (gb660 ≠ s_.2) ∧ (s_.2 ≠ gb660) ∧ (gb661 ≠ s_.2) ∧ (s_.2 ≠ gb661) ∧ (gb662 ≠ s_.2) ∧ (s_.2 ≠ gb662) ∧ (gb674 ≠ s_.2) ∧ (s_.2 ≠ gb674) ∧ (gb675 ≠ s_.2) ∧ (s_.2 ≠ gb675) ∧ (Below w.heap.size w w')) ?_ ?_
   rotate_left
   ·intro hJ2_7_11_13_19_20
    refine join_ (σ := Nat) 5 #[true, true, true, true, true, true, true, true, true, true, true, true, true, true, true, true, true, true, true, true, false, false, false, false, false] (fun s_ => [(51, .agg #[.int .i64 t676, .int .i64 t677, .int .i64 t678]), (56, .agg #[.int .i64 t679, .int .i64 t680, .int .i64 t681]), (60, .agg #[.int .i64 t682, .int .i64 t683, .int .i64 t684]), (62, .tuple #[.agg #[.int .i64 t685, .int .i64 t686], .agg #[.int .i64 t687, .int .i64 t688], .bool t689, .int .i64 t690]), (13, .pointer (some ⟨s_, 0, none⟩)), (61, .agg #[.int .i64 t679, .int .i64 t680, .int .i64 t681, .int .i64 t682, .int .i64 t683, .int .i64 t684]), (48, .tuple #[.agg #[.int .i64 t685, .int .i64 t686], .agg #[.int .i64 t687, .int .i64 t688], .bool t689, .int .i64 t690]), (63, .agg #[.int .i64 t685, .int .i64 t686]), (64, .agg #[.int .i64 t687, .int .i64 t688]), (65, .bool t689), (66, .int .i64 t690)]) (fun s_ w' => (w'.cell? ⟨gb659, 0, none⟩ = some (.int .i64 a0_0) ∧ w'.cell? ⟨gb659, 1, none⟩ = some (.int .i64 a0_1) ∧ w'.cell? ⟨gb659, 2, none⟩ = some (.int .i64 a0_2) ∧ w'.cell? ⟨gb662, 0, none⟩ = some (.int .i64 a3_0) ∧ w'.cell? ⟨gb662, 1, none⟩ = some (.int .i64 a3_1) ∧ w'.cell? ⟨gb662, 2, none⟩ = some (.int .i64 a3_2) ∧ w'.cell? ⟨gb660, 0, none⟩ = some (.int .i64 a1_0) ∧ w'.cell? ⟨gb660, 1, none⟩ = some (.int .i64 a1_1) ∧ w'.cell? ⟨gb660, 2, none⟩ = some (.int .i64 a1_2) ∧ w'.cell? ⟨gb661, 0, none⟩ = some (.int .i64 a2_0) ∧ w'.cell? ⟨gb661, 1, none⟩ = some (.int .i64 a2_1) ∧ w'.cell? ⟨gb661, 2, none⟩ = some (.int .i64 a2_2) ∧ w'.cell? ⟨gb661, 3, none⟩ = some (.int .i64 a2_3) ∧ w'.cell? ⟨gb661, 4, none⟩ = some (.int .i64 a2_4) ∧ w'.cell? ⟨gb661, 5, none⟩ = some (.int .i64 a2_5)) ∧ (w'.heap[gb659]? = some (.cells #[.int .i64 a0_0, .int .i64 a0_1, .int .i64 a0_2] 23 (0, 0))) ∧ (w'.heap[gb660]? = some (.cells #[.int .i64 a1_0, .int .i64 a1_1, .int .i64 a1_2] 23 (0, 0))) ∧ (w'.heap[gb661]? = some (.cells #[.int .i64 a2_0, .int .i64 a2_1, .int .i64 a2_2, .int .i64 a2_3, .int .i64 a2_4, .int .i64 a2_5] 56 (0, 0))) ∧ (w'.heap[gb662]? = some (.cells #[.int .i64 a3_0, .int .i64 a3_1, .int .i64 a3_2] 23 (0, 0))) ∧ (w'.heap[gb674]? = some (.cells #[.int .i64 t668, .int .i64 t669] 28 (0, 0))) ∧ (w'.heap[gb675]? = some (.cells #[.int .i64 t670, .int .i64 t671] 28 (0, 0))) ∧ (w'.heap[s_]? = some (.cells #[.int .i64 0, .int .i64 0] 28 (0, 0))) ∧ (w.heap.size ≤ s_) ∧ (gb659 ≠ s_) ∧ (s_ ≠ gb659) ∧ (gb660 ≠ s_) ∧ (s_ ≠ gb660) ∧ (gb661 ≠ s_) ∧ (s_ ≠ gb661) ∧ (gb662 ≠ s_) ∧ (s_ ≠ gb662) ∧ (gb674 ≠ s_) ∧ (s_ ≠ gb674) ∧ (gb675 ≠ s_) ∧ (s_ ≠ gb675) ∧ (Below w.heap.size w w')) ?_ ?_
    rotate_left
    ·intro hJ2_7_11_13_19
     refine join_ (σ := Nat) 5 #[true, true, true, true, true, true, true, true, true, true, true, true, true, true, true, true, true, true, true, false, true, false, false, false, false] (fun s_ => [(51, .agg #[.int .i64 t676, .int .i64 t677, .int .i64 t678]), (56, .agg #[.int .i64 t679, .int .i64 t680, .int .i64 t681]), (60, .agg #[.int .i64 t682, .int .i64 t683, .int .i64 t684]), (62, .tuple #[.agg #[.int .i64 t685, .int .i64 t686], .agg #[.int .i64 t687, .int .i64 t688], .bool t689, .int .i64 t690]), (14, .pointer (some ⟨s_, 0, none⟩)), (61, .agg #[.int .i64 t679, .int .i64 t680, .int .i64 t681, .int .i64 t682, .int .i64 t683, .int .i64 t684]), (48, .tuple #[.agg #[.int .i64 t685, .int .i64 t686], .agg #[.int .i64 t687, .int .i64 t688], .bool t689, .int .i64 t690]), (63, .agg #[.int .i64 t685, .int .i64 t686]), (64, .agg #[.int .i64 t687, .int .i64 t688]), (65, .bool t689), (66, .int .i64 t690)]) (fun s_ w' => (w'.cell? ⟨gb659, 0, none⟩ = some (.int .i64 a0_0) ∧ w'.cell? ⟨gb659, 1, none⟩ = some (.int .i64 a0_1) ∧ w'.cell? ⟨gb659, 2, none⟩ = some (.int .i64 a0_2) ∧ w'.cell? ⟨gb662, 0, none⟩ = some (.int .i64 a3_0) ∧ w'.cell? ⟨gb662, 1, none⟩ = some (.int .i64 a3_1) ∧ w'.cell? ⟨gb662, 2, none⟩ = some (.int .i64 a3_2) ∧ w'.cell? ⟨gb660, 0, none⟩ = some (.int .i64 a1_0) ∧ w'.cell? ⟨gb660, 1, none⟩ = some (.int .i64 a1_1) ∧ w'.cell? ⟨gb660, 2, none⟩ = some (.int .i64 a1_2) ∧ w'.cell? ⟨gb661, 0, none⟩ = some (.int .i64 a2_0) ∧ w'.cell? ⟨gb661, 1, none⟩ = some (.int .i64 a2_1) ∧ w'.cell? ⟨gb661, 2, none⟩ = some (.int .i64 a2_2) ∧ w'.cell? ⟨gb661, 3, none⟩ = some (.int .i64 a2_3) ∧ w'.cell? ⟨gb661, 4, none⟩ = some (.int .i64 a2_4) ∧ w'.cell? ⟨gb661, 5, none⟩ = some (.int .i64 a2_5)) ∧ (w'.heap[gb659]? = some (.cells #[.int .i64 a0_0, .int .i64 a0_1, .int .i64 a0_2] 23 (0, 0))) ∧ (w'.heap[gb660]? = some (.cells #[.int .i64 a1_0, .int .i64 a1_1, .int .i64 a1_2] 23 (0, 0))) ∧ (w'.heap[gb661]? = some (.cells #[.int .i64 a2_0, .int .i64 a2_1, .int .i64 a2_2, .int .i64 a2_3, .int .i64 a2_4, .int .i64 a2_5] 56 (0, 0))) ∧ (w'.heap[gb662]? = some (.cells #[.int .i64 a3_0, .int .i64 a3_1, .int .i64 a3_2] 23 (0, 0))) ∧ (w'.heap[gb674]? = some (.cells #[.int .i64 t668, .int .i64 t669] 28 (0, 0))) ∧ (w'.heap[gb675]? = some (.cells #[.int .i64 t670, .int .i64 t671] 28 (0, 0))) ∧ (w'.heap[s_]? = some (.cells #[.int .i64 0, .int .i64 0] 28 (0, 0))) ∧ (w.heap.size ≤ s_) ∧ (gb659 ≠ s_) ∧ (s_ ≠ gb659) ∧ (gb660 ≠ s_) ∧ (s_ ≠ gb660) ∧ (gb661 ≠ s_) ∧ (s_ ≠ gb661) ∧ (gb662 ≠ s_) ∧ (s_ ≠ gb662) ∧ (gb674 ≠ s_) ∧ (s_ ≠ gb674) ∧ (gb675 ≠ s_) ∧ (s_ ≠ gb675) ∧ (Below w.heap.size w w')) ?_ ?_
     rotate_left
     ·intro hJ2_7_11_13_20
      refine join_ (σ := Nat × Nat) 10 #[true, true, true, true, true, true, true, true, true, true, true, true, true, false, false, false, false, false, false, true, true, false, false, false, false] (fun s_ => [(51, .agg #[.int .i64 t676, .int .i64 t677, .int .i64 t678]), (56, .agg #[.int .i64 t679, .int .i64 t680, .int .i64 t681]), (60, .agg #[.int .i64 t682, .int .i64 t683, .int .i64 t684]), (13, .pointer (some ⟨s_.1, 0, none⟩)), (14, .pointer (some ⟨s_.2, 0, none⟩)), (61, .agg #[.int .i64 t679, .int .i64 t680, .int .i64 t681, .int .i64 t682, .int .i64 t683, .int .i64 t684])]) (fun s_ w' => (w'.cell? ⟨gb659, 0, none⟩ = some (.int .i64 a0_0) ∧ w'.cell? ⟨gb659, 1, none⟩ = some (.int .i64 a0_1) ∧ w'.cell? ⟨gb659, 2, none⟩ = some (.int .i64 a0_2) ∧ w'.cell? ⟨gb662, 0, none⟩ = some (.int .i64 a3_0) ∧ w'.cell? ⟨gb662, 1, none⟩ = some (.int .i64 a3_1) ∧ w'.cell? ⟨gb662, 2, none⟩ = some (.int .i64 a3_2) ∧ w'.cell? ⟨gb660, 0, none⟩ = some (.int .i64 a1_0) ∧ w'.cell? ⟨gb660, 1, none⟩ = some (.int .i64 a1_1) ∧ w'.cell? ⟨gb660, 2, none⟩ = some (.int .i64 a1_2) ∧ w'.cell? ⟨gb661, 0, none⟩ = some (.int .i64 a2_0) ∧ w'.cell? ⟨gb661, 1, none⟩ = some (.int .i64 a2_1) ∧ w'.cell? ⟨gb661, 2, none⟩ = some (.int .i64 a2_2) ∧ w'.cell? ⟨gb661, 3, none⟩ = some (.int .i64 a2_3) ∧ w'.cell? ⟨gb661, 4, none⟩ = some (.int .i64 a2_4) ∧ w'.cell? ⟨gb661, 5, none⟩ = some (.int .i64 a2_5)) ∧ (w'.heap[gb659]? = some (.cells #[.int .i64 a0_0, .int .i64 a0_1, .int .i64 a0_2] 23 (0, 0))) ∧ (w'.heap[gb660]? = some (.cells #[.int .i64 a1_0, .int .i64 a1_1, .int .i64 a1_2] 23 (0, 0))) ∧ (w'.heap[gb661]? = some (.cells #[.int .i64 a2_0, .int .i64 a2_1, .int .i64 a2_2, .int .i64 a2_3, .int .i64 a2_4, .int .i64 a2_5] 56 (0, 0))) ∧ (w'.heap[gb662]? = some (.cells #[.int .i64 a3_0, .int .i64 a3_1, .int .i64 a3_2] 23 (0, 0))) ∧ (w'.heap[gb674]? = some (.cells #[.int .i64 t668, .int .i64 t669] 28 (0, 0))) ∧ (w'.heap[gb675]? = some (.cells #[.int .i64 t670, .int .i64 t671] 28 (0, 0))) ∧ (w'.heap[s_.1]? = some (.cells #[.int .i64 0, .int .i64 0] 28 (0, 0))) ∧ (w'.heap[s_.2]? = some (.cells #[.int .i64 0, .int .i64 0] 28 (0, 0))) ∧ (w.heap.size ≤ s_.1) ∧ (gb659 ≠ s_.1) ∧ (s_.1 ≠ gb659) ∧ (gb660 ≠ s_.1) ∧ (s_.1 ≠ gb660) ∧ (gb661 ≠ s_.1) ∧ (s_.1 ≠ gb661) ∧ (gb662 ≠ s_.1) ∧ (s_.1 ≠ gb662) ∧ (gb674 ≠ s_.1) ∧ (s_.1 ≠ gb674) ∧ (gb675 ≠ s_.1) ∧ (s_.1 ≠ gb675) ∧ (s_.2 ≠ s_.1) ∧ (s_.1 ≠ s_.2) ∧ (w.heap.size ≤ s_.2) ∧ (gb659 ≠ s_.2) ∧ (s_.2 ≠ gb659) ∧ (gb660 ≠ s_.2) ∧ (s_.2 ≠ gb660) ∧ (gb661 ≠ s_.2) ∧ (s_.2 ≠ gb661) ∧ (gb662 ≠ s_.2) ∧ (s_.2 ≠ gb662) ∧ (gb674 ≠ s_.2) ∧ (s_.2 ≠ gb674) ∧ (gb675 ≠ s_.2) ∧ (s_.2 ≠ gb675) ∧ (Below w.heap.size w w')) ?_ ?_
      rotate_left
      ·intro hJ2_7_11_19_20
       refine join_ (σ := Unit) 6 #[true, true, true, true, true, true, true, true, true, true, true, true, true, true, true, true, true, true, true, false, false, false, false, false, false] (fun s_ => [(51, .agg #[.int .i64 t676, .int .i64 t677, .int .i64 t678]), (56, .agg #[.int .i64 t679, .int .i64 t680, .int .i64 t681]), (60, .agg #[.int .i64 t682, .int .i64 t683, .int .i64 t684]), (62, .tuple #[.agg #[.int .i64 t685, .int .i64 t686], .agg #[.int .i64 t687, .int .i64 t688], .bool t689, .int .i64 t690]), (61, .agg #[.int .i64 t679, .int .i64 t680, .int .i64 t681, .int .i64 t682, .int .i64 t683, .int .i64 t684]), (48, .tuple #[.agg #[.int .i64 t685, .int .i64 t686], .agg #[.int .i64 t687, .int .i64 t688], .bool t689, .int .i64 t690]), (63, .agg #[.int .i64 t685, .int .i64 t686]), (64, .agg #[.int .i64 t687, .int .i64 t688]), (65, .bool t689), (66, .int .i64 t690)]) (fun s_ w' => (w'.cell? ⟨gb659, 0, none⟩ = some (.int .i64 a0_0) ∧ w'.cell? ⟨gb659, 1, none⟩ = some (.int .i64 a0_1) ∧ w'.cell? ⟨gb659, 2, none⟩ = some (.int .i64 a0_2) ∧ w'.cell? ⟨gb662, 0, none⟩ = some (.int .i64 a3_0) ∧ w'.cell? ⟨gb662, 1, none⟩ = some (.int .i64 a3_1) ∧ w'.cell? ⟨gb662, 2, none⟩ = some (.int .i64 a3_2) ∧ w'.cell? ⟨gb660, 0, none⟩ = some (.int .i64 a1_0) ∧ w'.cell? ⟨gb660, 1, none⟩ = some (.int .i64 a1_1) ∧ w'.cell? ⟨gb660, 2, none⟩ = some (.int .i64 a1_2) ∧ w'.cell? ⟨gb661, 0, none⟩ = some (.int .i64 a2_0) ∧ w'.cell? ⟨gb661, 1, none⟩ = some (.int .i64 a2_1) ∧ w'.cell? ⟨gb661, 2, none⟩ = some (.int .i64 a2_2) ∧ w'.cell? ⟨gb661, 3, none⟩ = some (.int .i64 a2_3) ∧ w'.cell? ⟨gb661, 4, none⟩ = some (.int .i64 a2_4) ∧ w'.cell? ⟨gb661, 5, none⟩ = some (.int .i64 a2_5)) ∧ (w'.heap[gb659]? = some (.cells #[.int .i64 a0_0, .int .i64 a0_1, .int .i64 a0_2] 23 (0, 0))) ∧ (w'.heap[gb660]? = some (.cells #[.int .i64 a1_0, .int .i64 a1_1, .int .i64 a1_2] 23 (0, 0))) ∧ (w'.heap[gb661]? = some (.cells #[.int .i64 a2_0, .int .i64 a2_1, .int .i64 a2_2, .int .i64 a2_3, .int .i64 a2_4, .int .i64 a2_5] 56 (0, 0))) ∧ (w'.heap[gb662]? = some (.cells #[.int .i64 a3_0, .int .i64 a3_1, .int .i64 a3_2] 23 (0, 0))) ∧ (w'.heap[gb674]? = some (.cells #[.int .i64 t668, .int .i64 t669] 28 (0, 0))) ∧ (w'.heap[gb675]? = some (.cells #[.int .i64 t670, .int .i64 t671] 28 (0, 0))) ∧ (Below w.heap.size w w')) ?_ ?_
       rotate_left
       ·intro hJ2_7_11_13
        refine join_ (σ := Nat) 11 #[true, true, true, true, true, true, true, true, true, true, true, true, true, false, false, false, false, false, false, true, false, false, false, false, false] (fun s_ => [(51, .agg #[.int .i64 t676, .int .i64 t677, .int .i64 t678]), (56, .agg #[.int .i64 t679, .int .i64 t680, .int .i64 t681]), (60, .agg #[.int .i64 t682, .int .i64 t683, .int .i64 t684]), (13, .pointer (some ⟨s_, 0, none⟩)), (61, .agg #[.int .i64 t679, .int .i64 t680, .int .i64 t681, .int .i64 t682, .int .i64 t683, .int .i64 t684])]) (fun s_ w' => (w'.cell? ⟨gb659, 0, none⟩ = some (.int .i64 a0_0) ∧ w'.cell? ⟨gb659, 1, none⟩ = some (.int .i64 a0_1) ∧ w'.cell? ⟨gb659, 2, none⟩ = some (.int .i64 a0_2) ∧ w'.cell? ⟨gb662, 0, none⟩ = some (.int .i64 a3_0) ∧ w'.cell? ⟨gb662, 1, none⟩ = some (.int .i64 a3_1) ∧ w'.cell? ⟨gb662, 2, none⟩ = some (.int .i64 a3_2) ∧ w'.cell? ⟨gb660, 0, none⟩ = some (.int .i64 a1_0) ∧ w'.cell? ⟨gb660, 1, none⟩ = some (.int .i64 a1_1) ∧ w'.cell? ⟨gb660, 2, none⟩ = some (.int .i64 a1_2) ∧ w'.cell? ⟨gb661, 0, none⟩ = some (.int .i64 a2_0) ∧ w'.cell? ⟨gb661, 1, none⟩ = some (.int .i64 a2_1) ∧ w'.cell? ⟨gb661, 2, none⟩ = some (.int .i64 a2_2) ∧ w'.cell? ⟨gb661, 3, none⟩ = some (.int .i64 a2_3) ∧ w'.cell? ⟨gb661, 4, none⟩ = some (.int .i64 a2_4) ∧ w'.cell? ⟨gb661, 5, none⟩ = some (.int .i64 a2_5)) ∧ (w'.heap[gb659]? = some (.cells #[.int .i64 a0_0, .int .i64 a0_1, .int .i64 a0_2] 23 (0, 0))) ∧ (w'.heap[gb660]? = some (.cells #[.int .i64 a1_0, .int .i64 a1_1, .int .i64 a1_2] 23 (0, 0))) ∧ (w'.heap[gb661]? = some (.cells #[.int .i64 a2_0, .int .i64 a2_1, .int .i64 a2_2, .int .i64 a2_3, .int .i64 a2_4, .int .i64 a2_5] 56 (0, 0))) ∧ (w'.heap[gb662]? = some (.cells #[.int .i64 a3_0, .int .i64 a3_1, .int .i64 a3_2] 23 (0, 0))) ∧ (w'.heap[gb674]? = some (.cells #[.int .i64 t668, .int .i64 t669] 28 (0, 0))) ∧ (w'.heap[gb675]? = some (.cells #[.int .i64 t670, .int .i64 t671] 28 (0, 0))) ∧ (w'.heap[s_]? = some (.cells #[.int .i64 0, .int .i64 0] 28 (0, 0))) ∧ (w.heap.size ≤ s_) ∧ (gb659 ≠ s_) ∧ (s_ ≠ gb659) ∧ (gb660 ≠ s_) ∧ (s_ ≠ gb660) ∧ (gb661 ≠ s_) ∧ (s_ ≠ gb661) ∧ (gb662 ≠ s_) ∧ (s_ ≠ gb662) ∧ (gb674 ≠ s_) ∧ (s_ ≠ gb674) ∧ (gb675 ≠ s_) ∧ (s_ ≠ gb675) ∧ (Below w.heap.size w w')) ?_ ?_
        rotate_left
        ·intro hJ2_7_11_19
         refine join_ (σ := Nat) 11 #[true, true, true, true, true, true, true, true, true, true, true, true, true, false, false, false, false, false, false, false, true, false, false, false, false] (fun s_ => [(51, .agg #[.int .i64 t676, .int .i64 t677, .int .i64 t678]), (56, .agg #[.int .i64 t679, .int .i64 t680, .int .i64 t681]), (60, .agg #[.int .i64 t682, .int .i64 t683, .int .i64 t684]), (14, .pointer (some ⟨s_, 0, none⟩)), (61, .agg #[.int .i64 t679, .int .i64 t680, .int .i64 t681, .int .i64 t682, .int .i64 t683, .int .i64 t684])]) (fun s_ w' => (w'.cell? ⟨gb659, 0, none⟩ = some (.int .i64 a0_0) ∧ w'.cell? ⟨gb659, 1, none⟩ = some (.int .i64 a0_1) ∧ w'.cell? ⟨gb659, 2, none⟩ = some (.int .i64 a0_2) ∧ w'.cell? ⟨gb662, 0, none⟩ = some (.int .i64 a3_0) ∧ w'.cell? ⟨gb662, 1, none⟩ = some (.int .i64 a3_1) ∧ w'.cell? ⟨gb662, 2, none⟩ = some (.int .i64 a3_2) ∧ w'.cell? ⟨gb660, 0, none⟩ = some (.int .i64 a1_0) ∧ w'.cell? ⟨gb660, 1, none⟩ = some (.int .i64 a1_1) ∧ w'.cell? ⟨gb660, 2, none⟩ = some (.int .i64 a1_2) ∧ w'.cell? ⟨gb661, 0, none⟩ = some (.int .i64 a2_0) ∧ w'.cell? ⟨gb661, 1, none⟩ = some (.int .i64 a2_1) ∧ w'.cell? ⟨gb661, 2, none⟩ = some (.int .i64 a2_2) ∧ w'.cell? ⟨gb661, 3, none⟩ = some (.int .i64 a2_3) ∧ w'.cell? ⟨gb661, 4, none⟩ = some (.int .i64 a2_4) ∧ w'.cell? ⟨gb661, 5, none⟩ = some (.int .i64 a2_5)) ∧ (w'.heap[gb659]? = some (.cells #[.int .i64 a0_0, .int .i64 a0_1, .int .i64 a0_2] 23 (0, 0))) ∧ (w'.heap[gb660]? = some (.cells #[.int .i64 a1_0, .int .i64 a1_1, .int .i64 a1_2] 23 (0, 0))) ∧ (w'.heap[gb661]? = some (.cells #[.int .i64 a2_0, .int .i64 a2_1, .int .i64 a2_2, .int .i64 a2_3, .int .i64 a2_4, .int .i64 a2_5] 56 (0, 0))) ∧ (w'.heap[gb662]? = some (.cells #[.int .i64 a3_0, .int .i64 a3_1, .int .i64 a3_2] 23 (0, 0))) ∧ (w'.heap[gb674]? = some (.cells #[.int .i64 t668, .int .i64 t669] 28 (0, 0))) ∧ (w'.heap[gb675]? = some (.cells #[.int .i64 t670, .int .i64 t671] 28 (0, 0))) ∧ (w'.heap[s_]? = some (.cells #[.int .i64 0, .int .i64 0] 28 (0, 0))) ∧ (w.heap.size ≤ s_) ∧ (gb659 ≠ s_) ∧ (s_ ≠ gb659) ∧ (gb660 ≠ s_) ∧ (s_ ≠ gb660) ∧ (gb661 ≠ s_) ∧ (s_ ≠ gb661) ∧ (gb662 ≠ s_) ∧ (s_ ≠ gb662) ∧ (gb674 ≠ s_) ∧ (s_ ≠ gb674) ∧ (gb675 ≠ s_) ∧ (s_ ≠ gb675) ∧ (Below w.heap.size w w')) ?_ ?_
         rotate_left
         ·intro hJ2_7_11_20
          refine join_ (σ := Nat × Nat) 12 #[true, true, true, true, true, true, true, true, true, true, true, false, false, false, false, false, false, false, false, true, true, false, false, false, false] (fun s_ => [(51, .agg #[.int .i64 t676, .int .i64 t677, .int .i64 t678]), (56, .agg #[.int .i64 t679, .int .i64 t680, .int .i64 t681]), (13, .pointer (some ⟨s_.1, 0, none⟩)), (14, .pointer (some ⟨s_.2, 0, none⟩))]) (fun s_ w' => (w'.cell? ⟨gb659, 0, none⟩ = some (.int .i64 a0_0) ∧ w'.cell? ⟨gb659, 1, none⟩ = some (.int .i64 a0_1) ∧ w'.cell? ⟨gb659, 2, none⟩ = some (.int .i64 a0_2) ∧ w'.cell? ⟨gb662, 0, none⟩ = some (.int .i64 a3_0) ∧ w'.cell? ⟨gb662, 1, none⟩ = some (.int .i64 a3_1) ∧ w'.cell? ⟨gb662, 2, none⟩ = some (.int .i64 a3_2) ∧ w'.cell? ⟨gb660, 0, none⟩ = some (.int .i64 a1_0) ∧ w'.cell? ⟨gb660, 1, none⟩ = some (.int .i64 a1_1) ∧ w'.cell? ⟨gb660, 2, none⟩ = some (.int .i64 a1_2) ∧ w'.cell? ⟨gb661, 0, none⟩ = some (.int .i64 a2_0) ∧ w'.cell? ⟨gb661, 1, none⟩ = some (.int .i64 a2_1) ∧ w'.cell? ⟨gb661, 2, none⟩ = some (.int .i64 a2_2) ∧ w'.cell? ⟨gb661, 3, none⟩ = some (.int .i64 a2_3) ∧ w'.cell? ⟨gb661, 4, none⟩ = some (.int .i64 a2_4) ∧ w'.cell? ⟨gb661, 5, none⟩ = some (.int .i64 a2_5)) ∧ (w'.heap[gb659]? = some (.cells #[.int .i64 a0_0, .int .i64 a0_1, .int .i64 a0_2] 23 (0, 0))) ∧ (w'.heap[gb660]? = some (.cells #[.int .i64 a1_0, .int .i64 a1_1, .int .i64 a1_2] 23 (0, 0))) ∧ (w'.heap[gb661]? = some (.cells #[.int .i64 a2_0, .int .i64 a2_1, .int .i64 a2_2, .int .i64 a2_3, .int .i64 a2_4, .int .i64 a2_5] 56 (0, 0))) ∧ (w'.heap[gb662]? = some (.cells #[.int .i64 a3_0, .int .i64 a3_1, .int .i64 a3_2] 23 (0, 0))) ∧ (w'.heap[gb674]? = some (.cells #[.int .i64 t668, .int .i64 t669] 28 (0, 0))) ∧ (w'.heap[gb675]? = some (.cells #[.int .i64 t670, .int .i64 t671] 28 (0, 0))) ∧ (w'.heap[s_.1]? = some (.cells #[.int .i64 0, .int .i64 0] 28 (0, 0))) ∧ (w'.heap[s_.2]? = some (.cells #[.int .i64 0, .int .i64 0] 28 (0, 0))) ∧ (w.heap.size ≤ s_.1) ∧ (gb659 ≠ s_.1) ∧ (s_.1 ≠ gb659) ∧ (gb660 ≠ s_.1) ∧ (s_.1 ≠ gb660) ∧ (gb661 ≠ s_.1) ∧ (s_.1 ≠ gb661) ∧ (gb662 ≠ s_.1) ∧ (s_.1 ≠ gb662) ∧ (gb674 ≠ s_.1) ∧ (s_.1 ≠ gb674) ∧ (gb675 ≠ s_.1) ∧ (s_.1 ≠ gb675) ∧ (s_.2 ≠ s_.1) ∧ (s_.1 ≠ s_.2) ∧ (w.heap.size ≤ s_.2) ∧ (gb659 ≠ s_.2) ∧ (s_.2 ≠ gb659) ∧ (gb660 ≠ s_.2) ∧ (s_.2 ≠ gb660) ∧ (gb661 ≠ s_.2) ∧ (s_.2 ≠ gb661) ∧ (gb662 ≠ s_.2) ∧ (s_.2 ≠ gb662) ∧ (gb674 ≠ s_.2) ∧ (s_.2 ≠ gb674) ∧ (gb675 ≠ s_.2) ∧ (s_.2 ≠ gb675) ∧ (Below w.heap.size w w')) ?_ ?_
          rotate_left
          ·intro hJ2_7_19_20
           refine join_ (σ := Unit) 12 #[true, true, true, true, true, true, true, true, true, true, true, true, true, false, false, false, false, false, false, false, false, false, false, false, false] (fun s_ => [(51, .agg #[.int .i64 t676, .int .i64 t677, .int .i64 t678]), (56, .agg #[.int .i64 t679, .int .i64 t680, .int .i64 t681]), (60, .agg #[.int .i64 t682, .int .i64 t683, .int .i64 t684]), (61, .agg #[.int .i64 t679, .int .i64 t680, .int .i64 t681, .int .i64 t682, .int .i64 t683, .int .i64 t684])]) (fun s_ w' => (w'.cell? ⟨gb659, 0, none⟩ = some (.int .i64 a0_0) ∧ w'.cell? ⟨gb659, 1, none⟩ = some (.int .i64 a0_1) ∧ w'.cell? ⟨gb659, 2, none⟩ = some (.int .i64 a0_2) ∧ w'.cell? ⟨gb662, 0, none⟩ = some (.int .i64 a3_0) ∧ w'.cell? ⟨gb662, 1, none⟩ = some (.int .i64 a3_1) ∧ w'.cell? ⟨gb662, 2, none⟩ = some (.int .i64 a3_2) ∧ w'.cell? ⟨gb660, 0, none⟩ = some (.int .i64 a1_0) ∧ w'.cell? ⟨gb660, 1, none⟩ = some (.int .i64 a1_1) ∧ w'.cell? ⟨gb660, 2, none⟩ = some (.int .i64 a1_2) ∧ w'.cell? ⟨gb661, 0, none⟩ = some (.int .i64 a2_0) ∧ w'.cell? ⟨gb661, 1, none⟩ = some (.int .i64 a2_1) ∧ w'.cell? ⟨gb661, 2, none⟩ = some (.int .i64 a2_2) ∧ w'.cell? ⟨gb661, 3, none⟩ = some (.int .i64 a2_3) ∧ w'.cell? ⟨gb661, 4, none⟩ = some (.int .i64 a2_4) ∧ w'.cell? ⟨gb661, 5, none⟩ = some (.int .i64 a2_5)) ∧ (w'.heap[gb659]? = some (.cells #[.int .i64 a0_0, .int .i64 a0_1, .int .i64 a0_2] 23 (0, 0))) ∧ (w'.heap[gb660]? = some (.cells #[.int .i64 a1_0, .int .i64 a1_1, .int .i64 a1_2] 23 (0, 0))) ∧ (w'.heap[gb661]? = some (.cells #[.int .i64 a2_0, .int .i64 a2_1, .int .i64 a2_2, .int .i64 a2_3, .int .i64 a2_4, .int .i64 a2_5] 56 (0, 0))) ∧ (w'.heap[gb662]? = some (.cells #[.int .i64 a3_0, .int .i64 a3_1, .int .i64 a3_2] 23 (0, 0))) ∧ (w'.heap[gb674]? = some (.cells #[.int .i64 t668, .int .i64 t669] 28 (0, 0))) ∧ (w'.heap[gb675]? = some (.cells #[.int .i64 t670, .int .i64 t671] 28 (0, 0))) ∧ (Below w.heap.size w w')) ?_ ?_
           rotate_left
           ·intro hJ2_7_11
            refine join_ (σ := Nat) 13 #[true, true, true, true, true, true, true, true, true, true, true, false, false, false, false, false, false, false, false, true, false, false, false, false, false] (fun s_ => [(51, .agg #[.int .i64 t676, .int .i64 t677, .int .i64 t678]), (56, .agg #[.int .i64 t679, .int .i64 t680, .int .i64 t681]), (13, .pointer (some ⟨s_, 0, none⟩))]) (fun s_ w' => (w'.cell? ⟨gb659, 0, none⟩ = some (.int .i64 a0_0) ∧ w'.cell? ⟨gb659, 1, none⟩ = some (.int .i64 a0_1) ∧ w'.cell? ⟨gb659, 2, none⟩ = some (.int .i64 a0_2) ∧ w'.cell? ⟨gb662, 0, none⟩ = some (.int .i64 a3_0) ∧ w'.cell? ⟨gb662, 1, none⟩ = some (.int .i64 a3_1) ∧ w'.cell? ⟨gb662, 2, none⟩ = some (.int .i64 a3_2) ∧ w'.cell? ⟨gb660, 0, none⟩ = some (.int .i64 a1_0) ∧ w'.cell? ⟨gb660, 1, none⟩ = some (.int .i64 a1_1) ∧ w'.cell? ⟨gb660, 2, none⟩ = some (.int .i64 a1_2) ∧ w'.cell? ⟨gb661, 0, none⟩ = some (.int .i64 a2_0) ∧ w'.cell? ⟨gb661, 1, none⟩ = some (.int .i64 a2_1) ∧ w'.cell? ⟨gb661, 2, none⟩ = some (.int .i64 a2_2) ∧ w'.cell? ⟨gb661, 3, none⟩ = some (.int .i64 a2_3) ∧ w'.cell? ⟨gb661, 4, none⟩ = some (.int .i64 a2_4) ∧ w'.cell? ⟨gb661, 5, none⟩ = some (.int .i64 a2_5)) ∧ (w'.heap[gb659]? = some (.cells #[.int .i64 a0_0, .int .i64 a0_1, .int .i64 a0_2] 23 (0, 0))) ∧ (w'.heap[gb660]? = some (.cells #[.int .i64 a1_0, .int .i64 a1_1, .int .i64 a1_2] 23 (0, 0))) ∧ (w'.heap[gb661]? = some (.cells #[.int .i64 a2_0, .int .i64 a2_1, .int .i64 a2_2, .int .i64 a2_3, .int .i64 a2_4, .int .i64 a2_5] 56 (0, 0))) ∧ (w'.heap[gb662]? = some (.cells #[.int .i64 a3_0, .int .i64 a3_1, .int .i64 a3_2] 23 (0, 0))) ∧ (w'.heap[gb674]? = some (.cells #[.int .i64 t668, .int .i64 t669] 28 (0, 0))) ∧ (w'.heap[gb675]? = some (.cells #[.int .i64 t670, .int .i64 t671] 28 (0, 0))) ∧ (w'.heap[s_]? = some (.cells #[.int .i64 0, .int .i64 0] 28 (0, 0))) ∧ (w.heap.size ≤ s_) ∧ (gb659 ≠ s_) ∧ (s_ ≠ gb659) ∧ (gb660 ≠ s_) ∧ (s_ ≠ gb660) ∧ (gb661 ≠ s_) ∧ (s_ ≠ gb661) ∧ (gb662 ≠ s_) ∧ (s_ ≠ gb662) ∧ (gb674 ≠ s_) ∧ (s_ ≠ gb674) ∧ (gb675 ≠ s_) ∧ (s_ ≠ gb675) ∧ (Below w.heap.size w w')) ?_ ?_
            rotate_left
            ·intro hJ2_7_19
             refine join_ (σ := Nat) 13 #[true, true, true, true, true, true, true, true, true, true, true, false, false, false, false, false, false, false, false, false, true, false, false, false, false] (fun s_ => [(51, .agg #[.int .i64 t676, .int .i64 t677, .int .i64 t678]), (56, .agg #[.int .i64 t679, .int .i64 t680, .int .i64 t681]), (14, .pointer (some ⟨s_, 0, none⟩))]) (fun s_ w' => (w'.cell? ⟨gb659, 0, none⟩ = some (.int .i64 a0_0) ∧ w'.cell? ⟨gb659, 1, none⟩ = some (.int .i64 a0_1) ∧ w'.cell? ⟨gb659, 2, none⟩ = some (.int .i64 a0_2) ∧ w'.cell? ⟨gb662, 0, none⟩ = some (.int .i64 a3_0) ∧ w'.cell? ⟨gb662, 1, none⟩ = some (.int .i64 a3_1) ∧ w'.cell? ⟨gb662, 2, none⟩ = some (.int .i64 a3_2) ∧ w'.cell? ⟨gb660, 0, none⟩ = some (.int .i64 a1_0) ∧ w'.cell? ⟨gb660, 1, none⟩ = some (.int .i64 a1_1) ∧ w'.cell? ⟨gb660, 2, none⟩ = some (.int .i64 a1_2) ∧ w'.cell? ⟨gb661, 0, none⟩ = some (.int .i64 a2_0) ∧ w'.cell? ⟨gb661, 1, none⟩ = some (.int .i64 a2_1) ∧ w'.cell? ⟨gb661, 2, none⟩ = some (.int .i64 a2_2) ∧ w'.cell? ⟨gb661, 3, none⟩ = some (.int .i64 a2_3) ∧ w'.cell? ⟨gb661, 4, none⟩ = some (.int .i64 a2_4) ∧ w'.cell? ⟨gb661, 5, none⟩ = some (.int .i64 a2_5)) ∧ (w'.heap[gb659]? = some (.cells #[.int .i64 a0_0, .int .i64 a0_1, .int .i64 a0_2] 23 (0, 0))) ∧ (w'.heap[gb660]? = some (.cells #[.int .i64 a1_0, .int .i64 a1_1, .int .i64 a1_2] 23 (0, 0))) ∧ (w'.heap[gb661]? = some (.cells #[.int .i64 a2_0, .int .i64 a2_1, .int .i64 a2_2, .int .i64 a2_3, .int .i64 a2_4, .int .i64 a2_5] 56 (0, 0))) ∧ (w'.heap[gb662]? = some (.cells #[.int .i64 a3_0, .int .i64 a3_1, .int .i64 a3_2] 23 (0, 0))) ∧ (w'.heap[gb674]? = some (.cells #[.int .i64 t668, .int .i64 t669] 28 (0, 0))) ∧ (w'.heap[gb675]? = some (.cells #[.int .i64 t670, .int .i64 t671] 28 (0, 0))) ∧ (w'.heap[s_]? = some (.cells #[.int .i64 0, .int .i64 0] 28 (0, 0))) ∧ (w.heap.size ≤ s_) ∧ (gb659 ≠ s_) ∧ (s_ ≠ gb659) ∧ (gb660 ≠ s_) ∧ (s_ ≠ gb660) ∧ (gb661 ≠ s_) ∧ (s_ ≠ gb661) ∧ (gb662 ≠ s_) ∧ (s_ ≠ gb662) ∧ (gb674 ≠ s_) ∧ (s_ ≠ gb674) ∧ (gb675 ≠ s_) ∧ (s_ ≠ gb675) ∧ (Below w.heap.size w w')) ?_ ?_
             rotate_left
             ·intro hJ2_7_20
              refine join_ (σ := Nat × Nat) 13 #[true, true, true, true, true, true, true, false, true, true, true, false, false, false, false, false, false, false, false, true, true, false, false, false, false] (fun s_ => [(51, .agg #[.int .i64 t676, .int .i64 t677, .int .i64 t678]), (13, .pointer (some ⟨s_.1, 0, none⟩)), (14, .pointer (some ⟨s_.2, 0, none⟩))]) (fun s_ w' => (w'.cell? ⟨gb659, 0, none⟩ = some (.int .i64 a0_0) ∧ w'.cell? ⟨gb659, 1, none⟩ = some (.int .i64 a0_1) ∧ w'.cell? ⟨gb659, 2, none⟩ = some (.int .i64 a0_2) ∧ w'.cell? ⟨gb662, 0, none⟩ = some (.int .i64 a3_0) ∧ w'.cell? ⟨gb662, 1, none⟩ = some (.int .i64 a3_1) ∧ w'.cell? ⟨gb662, 2, none⟩ = some (.int .i64 a3_2) ∧ w'.cell? ⟨gb660, 0, none⟩ = some (.int .i64 a1_0) ∧ w'.cell? ⟨gb660, 1, none⟩ = some (.int .i64 a1_1) ∧ w'.cell? ⟨gb660, 2, none⟩ = some (.int .i64 a1_2) ∧ w'.cell? ⟨gb661, 0, none⟩ = some (.int .i64 a2_0) ∧ w'.cell? ⟨gb661, 1, none⟩ = some (.int .i64 a2_1) ∧ w'.cell? ⟨gb661, 2, none⟩ = some (.int .i64 a2_2) ∧ w'.cell? ⟨gb661, 3, none⟩ = some (.int .i64 a2_3) ∧ w'.cell? ⟨gb661, 4, none⟩ = some (.int .i64 a2_4) ∧ w'.cell? ⟨gb661, 5, none⟩ = some (.int .i64 a2_5)) ∧ (w'.heap[gb659]? = some (.cells #[.int .i64 a0_0, .int .i64 a0_1, .int .i64 a0_2] 23 (0, 0))) ∧ (w'.heap[gb660]? = some (.cells #[.int .i64 a1_0, .int .i64 a1_1, .int .i64 a1_2] 23 (0, 0))) ∧ (w'.heap[gb661]? = some (.cells #[.int .i64 a2_0, .int .i64 a2_1, .int .i64 a2_2, .int .i64 a2_3, .int .i64 a2_4, .int .i64 a2_5] 56 (0, 0))) ∧ (w'.heap[gb662]? = some (.cells #[.int .i64 a3_0, .int .i64 a3_1, .int .i64 a3_2] 23 (0, 0))) ∧ (w'.heap[gb674]? = some (.cells #[.int .i64 t668, .int .i64 t669] 28 (0, 0))) ∧ (w'.heap[gb675]? = some (.cells #[.int .i64 t670, .int .i64 t671] 28 (0, 0))) ∧ (w'.heap[s_.1]? = some (.cells #[.int .i64 0, .int .i64 0] 28 (0, 0))) ∧ (w'.heap[s_.2]? = some (.cells #[.int .i64 0, .int .i64 0] 28 (0, 0))) ∧ (w.heap.size ≤ s_.1) ∧ (gb659 ≠ s_.1) ∧ (s_.1 ≠ gb659) ∧ (gb660 ≠ s_.1) ∧ (s_.1 ≠ gb660) ∧ (gb661 ≠ s_.1) ∧ (s_.1 ≠ gb661) ∧ (gb662 ≠ s_.1) ∧ (s_.1 ≠ gb662) ∧ (gb674 ≠ s_.1) ∧ (s_.1 ≠ gb674) ∧ (gb675 ≠ s_.1) ∧ (s_.1 ≠ gb675) ∧ (s_.2 ≠ s_.1) ∧ (s_.1 ≠ s_.2) ∧ (w.heap.size ≤ s_.2) ∧ (gb659 ≠ s_.2) ∧ (s_.2 ≠ gb659) ∧ (gb660 ≠ s_.2) ∧ (s_.2 ≠ gb660) ∧ (gb661 ≠ s_.2) ∧ (s_.2 ≠ gb661) ∧ (gb662 ≠ s_.2) ∧ (s_.2 ≠ gb662) ∧ (gb674 ≠ s_.2) ∧ (s_.2 ≠ gb674) ∧ (gb675 ≠ s_.2) ∧ (s_.2 ≠ gb675) ∧ (Below w.heap.size w w')) ?_ ?_
              rotate_left
              ·intro hJ2_19_20
               refine join_ (σ := Unit) 14 #[true, true, true, true, true, true, true, true, true, true, true, false, false, false, false, false, false, false, false, false, false, false, false, false, false] (fun s_ => [(51, .agg #[.int .i64 t676, .int .i64 t677, .int .i64 t678]), (56, .agg #[.int .i64 t679, .int .i64 t680, .int .i64 t681])]) (fun s_ w' => (w'.cell? ⟨gb659, 0, none⟩ = some (.int .i64 a0_0) ∧ w'.cell? ⟨gb659, 1, none⟩ = some (.int .i64 a0_1) ∧ w'.cell? ⟨gb659, 2, none⟩ = some (.int .i64 a0_2) ∧ w'.cell? ⟨gb662, 0, none⟩ = some (.int .i64 a3_0) ∧ w'.cell? ⟨gb662, 1, none⟩ = some (.int .i64 a3_1) ∧ w'.cell? ⟨gb662, 2, none⟩ = some (.int .i64 a3_2) ∧ w'.cell? ⟨gb660, 0, none⟩ = some (.int .i64 a1_0) ∧ w'.cell? ⟨gb660, 1, none⟩ = some (.int .i64 a1_1) ∧ w'.cell? ⟨gb660, 2, none⟩ = some (.int .i64 a1_2) ∧ w'.cell? ⟨gb661, 0, none⟩ = some (.int .i64 a2_0) ∧ w'.cell? ⟨gb661, 1, none⟩ = some (.int .i64 a2_1) ∧ w'.cell? ⟨gb661, 2, none⟩ = some (.int .i64 a2_2) ∧ w'.cell? ⟨gb661, 3, none⟩ = some (.int .i64 a2_3) ∧ w'.cell? ⟨gb661, 4, none⟩ = some (.int .i64 a2_4) ∧ w'.cell? ⟨gb661, 5, none⟩ = some (.int .i64 a2_5)) ∧ (w'.heap[gb659]? = some (.cells #[.int .i64 a0_0, .int .i64 a0_1, .int .i64 a0_2] 23 (0, 0))) ∧ (w'.heap[gb660]? = some (.cells #[.int .i64 a1_0, .int .i64 a1_1, .int .i64 a1_2] 23 (0, 0))) ∧ (w'.heap[gb661]? = some (.cells #[.int .i64 a2_0, .int .i64 a2_1, .int .i64 a2_2, .int .i64 a2_3, .int .i64 a2_4, .int .i64 a2_5] 56 (0, 0))) ∧ (w'.heap[gb662]? = some (.cells #[.int .i64 a3_0, .int .i64 a3_1, .int .i64 a3_2] 23 (0, 0))) ∧ (w'.heap[gb674]? = some (.cells #[.int .i64 t668, .int .i64 t669] 28 (0, 0))) ∧ (w'.heap[gb675]? = some (.cells #[.int .i64 t670, .int .i64 t671] 28 (0, 0))) ∧ (Below w.heap.size w w')) ?_ ?_
               rotate_left
               ·intro hJ2_7
                refine join_ (σ := Nat) 14 #[true, true, true, true, true, true, true, false, true, true, true, false, false, false, false, false, false, false, false, true, false, false, false, false, false] (fun s_ => [(51, .agg #[.int .i64 t676, .int .i64 t677, .int .i64 t678]), (13, .pointer (some ⟨s_, 0, none⟩))]) (fun s_ w' => (w'.cell? ⟨gb659, 0, none⟩ = some (.int .i64 a0_0) ∧ w'.cell? ⟨gb659, 1, none⟩ = some (.int .i64 a0_1) ∧ w'.cell? ⟨gb659, 2, none⟩ = some (.int .i64 a0_2) ∧ w'.cell? ⟨gb662, 0, none⟩ = some (.int .i64 a3_0) ∧ w'.cell? ⟨gb662, 1, none⟩ = some (.int .i64 a3_1) ∧ w'.cell? ⟨gb662, 2, none⟩ = some (.int .i64 a3_2) ∧ w'.cell? ⟨gb660, 0, none⟩ = some (.int .i64 a1_0) ∧ w'.cell? ⟨gb660, 1, none⟩ = some (.int .i64 a1_1) ∧ w'.cell? ⟨gb660, 2, none⟩ = some (.int .i64 a1_2) ∧ w'.cell? ⟨gb661, 0, none⟩ = some (.int .i64 a2_0) ∧ w'.cell? ⟨gb661, 1, none⟩ = some (.int .i64 a2_1) ∧ w'.cell? ⟨gb661, 2, none⟩ = some (.int .i64 a2_2) ∧ w'.cell? ⟨gb661, 3, none⟩ = some (.int .i64 a2_3) ∧ w'.cell? ⟨gb661, 4, none⟩ = some (.int .i64 a2_4) ∧ w'.cell? ⟨gb661, 5, none⟩ = some (.int .i64 a2_5)) ∧ (w'.heap[gb659]? = some (.cells #[.int .i64 a0_0, .int .i64 a0_1, .int .i64 a0_2] 23 (0, 0))) ∧ (w'.heap[gb660]? = some (.cells #[.int .i64 a1_0, .int .i64 a1_1, .int .i64 a1_2] 23 (0, 0))) ∧ (w'.heap[gb661]? = some (.cells #[.int .i64 a2_0, .int .i64 a2_1, .int .i64 a2_2, .int .i64 a2_3, .int .i64 a2_4, .int .i64 a2_5] 56 (0, 0))) ∧ (w'.heap[gb662]? = some (.cells #[.int .i64 a3_0, .int .i64 a3_1, .int .i64 a3_2] 23 (0, 0))) ∧ (w'.heap[gb674]? = some (.cells #[.int .i64 t668, .int .i64 t669] 28 (0, 0))) ∧ (w'.heap[gb675]? = some (.cells #[.int .i64 t670, .int .i64 t671] 28 (0, 0))) ∧ (w'.heap[s_]? = some (.cells #[.int .i64 0, .int .i64 0] 28 (0, 0))) ∧ (w.heap.size ≤ s_) ∧ (gb659 ≠ s_) ∧ (s_ ≠ gb659) ∧ (gb660 ≠ s_) ∧ (s_ ≠ gb660) ∧ (gb661 ≠ s_) ∧ (s_ ≠ gb661) ∧ (gb662 ≠ s_) ∧ (s_ ≠ gb662) ∧ (gb674 ≠ s_) ∧ (s_ ≠ gb674) ∧ (gb675 ≠ s_) ∧ (s_ ≠ gb675) ∧ (Below w.heap.size w w')) ?_ ?_
                rotate_left
                ·intro hJ2_19
                 refine join_ (σ := Nat) 14 #[true, true, true, true, true, true, true, false, true, true, true, false, false, false, false, false, false, false, false, false, true, false, false, false, false] (fun s_ => [(51, .agg #[.int .i64 t676, .int .i64 t677, .int .i64 t678]), (14, .pointer (some ⟨s_, 0, none⟩))]) (fun s_ w' => (w'.cell? ⟨gb659, 0, none⟩ = some (.int .i64 a0_0) ∧ w'.cell? ⟨gb659, 1, none⟩ = some (.int .i64 a0_1) ∧ w'.cell? ⟨gb659, 2, none⟩ = some (.int .i64 a0_2) ∧ w'.cell? ⟨gb662, 0, none⟩ = some (.int .i64 a3_0) ∧ w'.cell? ⟨gb662, 1, none⟩ = some (.int .i64 a3_1) ∧ w'.cell? ⟨gb662, 2, none⟩ = some (.int .i64 a3_2) ∧ w'.cell? ⟨gb660, 0, none⟩ = some (.int .i64 a1_0) ∧ w'.cell? ⟨gb660, 1, none⟩ = some (.int .i64 a1_1) ∧ w'.cell? ⟨gb660, 2, none⟩ = some (.int .i64 a1_2) ∧ w'.cell? ⟨gb661, 0, none⟩ = some (.int .i64 a2_0) ∧ w'.cell? ⟨gb661, 1, none⟩ = some (.int .i64 a2_1) ∧ w'.cell? ⟨gb661, 2, none⟩ = some (.int .i64 a2_2) ∧ w'.cell? ⟨gb661, 3, none⟩ = some (.int .i64 a2_3) ∧ w'.cell? ⟨gb661, 4, none⟩ = some (.int .i64 a2_4) ∧ w'.cell? ⟨gb661, 5, none⟩ = some (.int .i64 a2_5)) ∧ (w'.heap[gb659]? = some (.cells #[.int .i64 a0_0, .int .i64 a0_1, .int .i64 a0_2] 23 (0, 0))) ∧ (w'.heap[gb660]? = some (.cells #[.int .i64 a1_0, .int .i64 a1_1, .int .i64 a1_2] 23 (0, 0))) ∧ (w'.heap[gb661]? = some (.cells #[.int .i64 a2_0, .int .i64 a2_1, .int .i64 a2_2, .int .i64 a2_3, .int .i64 a2_4, .int .i64 a2_5] 56 (0, 0))) ∧ (w'.heap[gb662]? = some (.cells #[.int .i64 a3_0, .int .i64 a3_1, .int .i64 a3_2] 23 (0, 0))) ∧ (w'.heap[gb674]? = some (.cells #[.int .i64 t668, .int .i64 t669] 28 (0, 0))) ∧ (w'.heap[gb675]? = some (.cells #[.int .i64 t670, .int .i64 t671] 28 (0, 0))) ∧ (w'.heap[s_]? = some (.cells #[.int .i64 0, .int .i64 0] 28 (0, 0))) ∧ (w.heap.size ≤ s_) ∧ (gb659 ≠ s_) ∧ (s_ ≠ gb659) ∧ (gb660 ≠ s_) ∧ (s_ ≠ gb660) ∧ (gb661 ≠ s_) ∧ (s_ ≠ gb661) ∧ (gb662 ≠ s_) ∧ (s_ ≠ gb662) ∧ (gb674 ≠ s_) ∧ (s_ ≠ gb674) ∧ (gb675 ≠ s_) ∧ (s_ ≠ gb675) ∧ (Below w.heap.size w w')) ?_ ?_
                 rotate_left
                 ·intro hJ2_20
                  refine join_ (σ := Nat × Nat) 14 #[true, true, false, true, true, true, true, false, true, true, true, false, false, false, false, false, false, false, false, true, true, false, false, false, false] (fun s_ => [(13, .pointer (some ⟨s_.1, 0, none⟩)), (14, .pointer (some ⟨s_.2, 0, none⟩))]) (fun s_ w' => (w'.cell? ⟨gb659, 0, none⟩ = some (.int .i64 a0_0) ∧ w'.cell? ⟨gb659, 1, none⟩ = some (.int .i64 a0_1) ∧ w'.cell? ⟨gb659, 2, none⟩ = some (.int .i64 a0_2) ∧ w'.cell? ⟨gb662, 0, none⟩ = some (.int .i64 a3_0) ∧ w'.cell? ⟨gb662, 1, none⟩ = some (.int .i64 a3_1) ∧ w'.cell? ⟨gb662, 2, none⟩ = some (.int .i64 a3_2) ∧ w'.cell? ⟨gb660, 0, none⟩ = some (.int .i64 a1_0) ∧ w'.cell? ⟨gb660, 1, none⟩ = some (.int .i64 a1_1) ∧ w'.cell? ⟨gb660, 2, none⟩ = some (.int .i64 a1_2) ∧ w'.cell? ⟨gb661, 0, none⟩ = some (.int .i64 a2_0) ∧ w'.cell? ⟨gb661, 1, none⟩ = some (.int .i64 a2_1) ∧ w'.cell? ⟨gb661, 2, none⟩ = some (.int .i64 a2_2) ∧ w'.cell? ⟨gb661, 3, none⟩ = some (.int .i64 a2_3) ∧ w'.cell? ⟨gb661, 4, none⟩ = some (.int .i64 a2_4) ∧ w'.cell? ⟨gb661, 5, none⟩ = some (.int .i64 a2_5)) ∧ (w'.heap[gb659]? = some (.cells #[.int .i64 a0_0, .int .i64 a0_1, .int .i64 a0_2] 23 (0, 0))) ∧ (w'.heap[gb660]? = some (.cells #[.int .i64 a1_0, .int .i64 a1_1, .int .i64 a1_2] 23 (0, 0))) ∧ (w'.heap[gb661]? = some (.cells #[.int .i64 a2_0, .int .i64 a2_1, .int .i64 a2_2, .int .i64 a2_3, .int .i64 a2_4, .int .i64 a2_5] 56 (0, 0))) ∧ (w'.heap[gb662]? = some (.cells #[.int .i64 a3_0, .int .i64 a3_1, .int .i64 a3_2] 23 (0, 0))) ∧ (w'.heap[gb674]? = some (.cells #[.int .i64 t668, .int .i64 t669] 28 (0, 0))) ∧ (w'.heap[gb675]? = some (.cells #[.int .i64 t670, .int .i64 t671] 28 (0, 0))) ∧ (w'.heap[s_.1]? = some (.cells #[.int .i64 0, .int .i64 0] 28 (0, 0))) ∧ (w'.heap[s_.2]? = some (.cells #[.int .i64 0, .int .i64 0] 28 (0, 0))) ∧ (w.heap.size ≤ s_.1) ∧ (gb659 ≠ s_.1) ∧ (s_.1 ≠ gb659) ∧ (gb660 ≠ s_.1) ∧ (s_.1 ≠ gb660) ∧ (gb661 ≠ s_.1) ∧ (s_.1 ≠ gb661) ∧ (gb662 ≠ s_.1) ∧ (s_.1 ≠ gb662) ∧ (gb674 ≠ s_.1) ∧ (s_.1 ≠ gb674) ∧ (gb675 ≠ s_.1) ∧ (s_.1 ≠ gb675) ∧ (s_.2 ≠ s_.1) ∧ (s_.1 ≠ s_.2) ∧ (w.heap.size ≤ s_.2) ∧ (gb659 ≠ s_.2) ∧ (s_.2 ≠ gb659) ∧ (gb660 ≠ s_.2) ∧ (s_.2 ≠ gb660) ∧ (gb661 ≠ s_.2) ∧ (s_.2 ≠ gb661) ∧ (gb662 ≠ s_.2) ∧ (s_.2 ≠ gb662) ∧ (gb674 ≠ s_.2) ∧ (s_.2 ≠ gb674) ∧ (gb675 ≠ s_.2) ∧ (s_.2 ≠ gb675) ∧ (Below w.heap.size w w')) ?_ ?_
                  rotate_left
                  ·intro hJ19_20
                   refine join_ (σ := Unit) 15 #[true, true, true, true, true, true, true, false, true, true, true, false, false, false, false, false, false, false, false, false, false, false, false, false, false] (fun s_ => [(51, .agg #[.int .i64 t676, .int .i64 t677, .int .i64 t678])]) (fun s_ w' => (w'.cell? ⟨gb659, 0, none⟩ = some (.int .i64 a0_0) ∧ w'.cell? ⟨gb659, 1, none⟩ = some (.int .i64 a0_1) ∧ w'.cell? ⟨gb659, 2, none⟩ = some (.int .i64 a0_2) ∧ w'.cell? ⟨gb662, 0, none⟩ = some (.int .i64 a3_0) ∧ w'.cell? ⟨gb662, 1, none⟩ = some (.int .i64 a3_1) ∧ w'.cell? ⟨gb662, 2, none⟩ = some (.int .i64 a3_2) ∧ w'.cell? ⟨gb660, 0, none⟩ = some (.int .i64 a1_0) ∧ w'.cell? ⟨gb660, 1, none⟩ = some (.int .i64 a1_1) ∧ w'.cell? ⟨gb660, 2, none⟩ = some (.int .i64 a1_2) ∧ w'.cell? ⟨gb661, 0, none⟩ = some (.int .i64 a2_0) ∧ w'.cell? ⟨gb661, 1, none⟩ = some (.int .i64 a2_1) ∧ w'.cell? ⟨gb661, 2, none⟩ = some (.int .i64 a2_2) ∧ w'.cell? ⟨gb661, 3, none⟩ = some (.int .i64 a2_3) ∧ w'.cell? ⟨gb661, 4, none⟩ = some (.int .i64 a2_4) ∧ w'.cell? ⟨gb661, 5, none⟩ = some (.int .i64 a2_5)) ∧ (w'.heap[gb659]? = some (.cells #[.int .i64 a0_0, .int .i64 a0_1, .int .i64 a0_2] 23 (0, 0))) ∧ (w'.heap[gb660]? = some (.cells #[.int .i64 a1_0, .int .i64 a1_1, .int .i64 a1_2] 23 (0, 0))) ∧ (w'.heap[gb661]? = some (.cells #[.int .i64 a2_0, .int .i64 a2_1, .int .i64 a2_2, .int .i64 a2_3, .int .i64 a2_4, .int .i64 a2_5] 56 (0, 0))) ∧ (w'.heap[gb662]? = some (.cells #[.int .i64 a3_0, .int .i64 a3_1, .int .i64 a3_2] 23 (0, 0))) ∧ (w'.heap[gb674]? = some (.cells #[.int .i64 t668, .int .i64 t669] 28 (0, 0))) ∧ (w'.heap[gb675]? = some (.cells #[.int .i64 t670, .int .i64 t671] 28 (0, 0))) ∧ (Below w.heap.size w w')) ?_ ?_
                   rotate_left
                   ·intro hJ2
                    refine join_ (σ := Nat) 15 #[true, true, false, true, true, true, true, false, true, true, true, false, false, false, false, false, false, false, false, true, false, false, false, false, false] (fun s_ => [(13, .pointer (some ⟨s_, 0, none⟩))]) (fun s_ w' => (w'.cell? ⟨gb659, 0, none⟩ = some (.int .i64 a0_0) ∧ w'.cell? ⟨gb659, 1, none⟩ = some (.int .i64 a0_1) ∧ w'.cell? ⟨gb659, 2, none⟩ = some (.int .i64 a0_2) ∧ w'.cell? ⟨gb662, 0, none⟩ = some (.int .i64 a3_0) ∧ w'.cell? ⟨gb662, 1, none⟩ = some (.int .i64 a3_1) ∧ w'.cell? ⟨gb662, 2, none⟩ = some (.int .i64 a3_2) ∧ w'.cell? ⟨gb660, 0, none⟩ = some (.int .i64 a1_0) ∧ w'.cell? ⟨gb660, 1, none⟩ = some (.int .i64 a1_1) ∧ w'.cell? ⟨gb660, 2, none⟩ = some (.int .i64 a1_2) ∧ w'.cell? ⟨gb661, 0, none⟩ = some (.int .i64 a2_0) ∧ w'.cell? ⟨gb661, 1, none⟩ = some (.int .i64 a2_1) ∧ w'.cell? ⟨gb661, 2, none⟩ = some (.int .i64 a2_2) ∧ w'.cell? ⟨gb661, 3, none⟩ = some (.int .i64 a2_3) ∧ w'.cell? ⟨gb661, 4, none⟩ = some (.int .i64 a2_4) ∧ w'.cell? ⟨gb661, 5, none⟩ = some (.int .i64 a2_5)) ∧ (w'.heap[gb659]? = some (.cells #[.int .i64 a0_0, .int .i64 a0_1, .int .i64 a0_2] 23 (0, 0))) ∧ (w'.heap[gb660]? = some (.cells #[.int .i64 a1_0, .int .i64 a1_1, .int .i64 a1_2] 23 (0, 0))) ∧ (w'.heap[gb661]? = some (.cells #[.int .i64 a2_0, .int .i64 a2_1, .int .i64 a2_2, .int .i64 a2_3, .int .i64 a2_4, .int .i64 a2_5] 56 (0, 0))) ∧ (w'.heap[gb662]? = some (.cells #[.int .i64 a3_0, .int .i64 a3_1, .int .i64 a3_2] 23 (0, 0))) ∧ (w'.heap[gb674]? = some (.cells #[.int .i64 t668, .int .i64 t669] 28 (0, 0))) ∧ (w'.heap[gb675]? = some (.cells #[.int .i64 t670, .int .i64 t671] 28 (0, 0))) ∧ (w'.heap[s_]? = some (.cells #[.int .i64 0, .int .i64 0] 28 (0, 0))) ∧ (w.heap.size ≤ s_) ∧ (gb659 ≠ s_) ∧ (s_ ≠ gb659) ∧ (gb660 ≠ s_) ∧ (s_ ≠ gb660) ∧ (gb661 ≠ s_) ∧ (s_ ≠ gb661) ∧ (gb662 ≠ s_) ∧ (s_ ≠ gb662) ∧ (gb674 ≠ s_) ∧ (s_ ≠ gb674) ∧ (gb675 ≠ s_) ∧ (s_ ≠ gb675) ∧ (Below w.heap.size w w')) ?_ ?_
                    rotate_left
                    ·intro hJ19
                     refine join_ (σ := Nat) 15 #[true, true, false, true, true, true, true, false, true, true, true, false, false, false, false, false, false, false, false, false, true, false, false, false, false] (fun s_ => [(14, .pointer (some ⟨s_, 0, none⟩))]) (fun s_ w' => (w'.cell? ⟨gb659, 0, none⟩ = some (.int .i64 a0_0) ∧ w'.cell? ⟨gb659, 1, none⟩ = some (.int .i64 a0_1) ∧ w'.cell? ⟨gb659, 2, none⟩ = some (.int .i64 a0_2) ∧ w'.cell? ⟨gb662, 0, none⟩ = some (.int .i64 a3_0) ∧ w'.cell? ⟨gb662, 1, none⟩ = some (.int .i64 a3_1) ∧ w'.cell? ⟨gb662, 2, none⟩ = some (.int .i64 a3_2) ∧ w'.cell? ⟨gb660, 0, none⟩ = some (.int .i64 a1_0) ∧ w'.cell? ⟨gb660, 1, none⟩ = some (.int .i64 a1_1) ∧ w'.cell? ⟨gb660, 2, none⟩ = some (.int .i64 a1_2) ∧ w'.cell? ⟨gb661, 0, none⟩ = some (.int .i64 a2_0) ∧ w'.cell? ⟨gb661, 1, none⟩ = some (.int .i64 a2_1) ∧ w'.cell? ⟨gb661, 2, none⟩ = some (.int .i64 a2_2) ∧ w'.cell? ⟨gb661, 3, none⟩ = some (.int .i64 a2_3) ∧ w'.cell? ⟨gb661, 4, none⟩ = some (.int .i64 a2_4) ∧ w'.cell? ⟨gb661, 5, none⟩ = some (.int .i64 a2_5)) ∧ (w'.heap[gb659]? = some (.cells #[.int .i64 a0_0, .int .i64 a0_1, .int .i64 a0_2] 23 (0, 0))) ∧ (w'.heap[gb660]? = some (.cells #[.int .i64 a1_0, .int .i64 a1_1, .int .i64 a1_2] 23 (0, 0))) ∧ (w'.heap[gb661]? = some (.cells #[.int .i64 a2_0, .int .i64 a2_1, .int .i64 a2_2, .int .i64 a2_3, .int .i64 a2_4, .int .i64 a2_5] 56 (0, 0))) ∧ (w'.heap[gb662]? = some (.cells #[.int .i64 a3_0, .int .i64 a3_1, .int .i64 a3_2] 23 (0, 0))) ∧ (w'.heap[gb674]? = some (.cells #[.int .i64 t668, .int .i64 t669] 28 (0, 0))) ∧ (w'.heap[gb675]? = some (.cells #[.int .i64 t670, .int .i64 t671] 28 (0, 0))) ∧ (w'.heap[s_]? = some (.cells #[.int .i64 0, .int .i64 0] 28 (0, 0))) ∧ (w.heap.size ≤ s_) ∧ (gb659 ≠ s_) ∧ (s_ ≠ gb659) ∧ (gb660 ≠ s_) ∧ (s_ ≠ gb660) ∧ (gb661 ≠ s_) ∧ (s_ ≠ gb661) ∧ (gb662 ≠ s_) ∧ (s_ ≠ gb662) ∧ (gb674 ≠ s_) ∧ (s_ ≠ gb674) ∧ (gb675 ≠ s_) ∧ (s_ ≠ gb675) ∧ (Below w.heap.size w w')) ?_ ?_
                     rotate_left
                     ·intro hJ20
                      refine three_ (i := 2) (j := 19) (k := 20) (Ni := some 51) (Nj := some 13) (Nk := some 14) #[true, true, true, true, true, true, true, false, true, true, true, false, false, false, false, false, false, false, false, false, false, false, false, false, false] #[true, true, false, true, true, true, true, false, true, true, true, false, false, false, false, false, false, false, false, true, false, false, false, false, false] #[true, true, false, true, true, true, true, false, true, true, true, false, false, false, false, false, false, false, false, false, true, false, false, false, false] rfl rfl rfl rfl rfl rfl (three_of HT_.out (by kernel_rfl)) (by decide) (by decide) (by decide) (fun K hK => ?_) (fun K hK => ?_) (fun K hK => ?_)
                      ·skip
                       refine goes_ Try.func24 (by kernel_rfl) rfl #[.agg #[.int .i64 a0_0, .int .i64 a0_1, .int .i64 a0_2], .agg #[.int .i64 a3_0, .int .i64 a3_1, .int .i64 a3_2]] (by rfl) rfl rfl (by (try simp only [List.map_toArray, List.map_cons, List.map_nil]); first | done | rfl | (simp only [List.length_drop, List.length_take]; rfl)) ?_
                       with_reducible refine (relievoref02_Add.calls a0_0 a0_1 a0_2 a3_0 a3_1 a3_2 t676 t677 t678 _ A42.out).mono ?_
                       rintro e w66 ⟨rfl, hb⟩
                       refine ⟨_, rfl, ?_⟩
                       replace BK659 := cB hb BK659
                       replace BK660 := cB hb BK660
                       replace BK661 := cB hb BK661
                       replace BK662 := cB hb BK662
                       replace BK674 := cB hb BK674
                       replace BK675 := cB hb BK675
                       replace HB := Aside0.mk (below_step (HB.out) hb)
                       (try clear hb)
                       (try clear hb2)
                       (try clear hk)
                       (try clear hi)
                       refine hK.out _ _ ⟨(blk_cell BK659.out 0).trans rfl, (blk_cell BK659.out 1).trans rfl, (blk_cell BK659.out 2).trans rfl, (blk_cell BK662.out 0).trans rfl, (blk_cell BK662.out 1).trans rfl, (blk_cell BK662.out 2).trans rfl, (blk_cell BK660.out 0).trans rfl, (blk_cell BK660.out 1).trans rfl, (blk_cell BK660.out 2).trans rfl, (blk_cell BK661.out 0).trans rfl, (blk_cell BK661.out 1).trans rfl, (blk_cell BK661.out 2).trans rfl, (blk_cell BK661.out 3).trans rfl, (blk_cell BK661.out 4).trans rfl, (blk_cell BK661.out 5).trans rfl⟩ (fun hHeld => ?_)
                       clear hK K
                       refine norm_ (a' := ?_) ?_ ?_
                       rotate_left
                       ·show Act.put _ (some 51) _ = _
                        simp only [Act.put, List.setIfInBounds_toArray, List.set_cons_zero, List.set_cons_succ, i64_w, i32_w]
                        rfl
                       exact norm_ (by simp only [putAll, Act.put, List.setIfInBounds_toArray, List.set_cons_zero, List.set_cons_succ] <;> rfl) (hJ2 () _ ⟨hHeld, (BK659.out), (BK660.out), (BK661.out), (BK662.out), (BK674.out), (BK675.out), (HB.out)⟩)
                      ·skip
                       refine box_step ?hg (N := 13) ?hd (cs := #[.int .i64 0, .int .i64 0]) (t := 28) ?hr ?_; (case hd => rfl); (case hg => rfl); (case hr => first | (go_simp; done) | (go_simp; rfl))
                       intro gb691 hg w66 hbox hb
                       have BK691 := Aside0.mk (hbox)
                       have GE691 := Aside0.mk (bG hg (HB.out))
                       have NB659_691 := cN hg BK659
                       have NB691_659 := cM hg BK659
                       have NB660_691 := cN hg BK660
                       have NB691_660 := cM hg BK660
                       have NB661_691 := cN hg BK661
                       have NB691_661 := cM hg BK661
                       have NB662_691 := cN hg BK662
                       have NB691_662 := cM hg BK662
                       have NB674_691 := cN hg BK674
                       have NB691_674 := cM hg BK674
                       have NB675_691 := cN hg BK675
                       have NB691_675 := cM hg BK675
                       replace BK659 := cB hb BK659
                       replace BK660 := cB hb BK660
                       replace BK661 := cB hb BK661
                       replace BK662 := cB hb BK662
                       replace BK674 := cB hb BK674
                       replace BK675 := cB hb BK675
                       replace HB := Aside0.mk (below_step (HB.out) hb)
                       clear hb hbox hg
                       refine hK.out _ _ ⟨(blk_cell BK659.out 0).trans rfl, (blk_cell BK659.out 1).trans rfl, (blk_cell BK659.out 2).trans rfl, (blk_cell BK662.out 0).trans rfl, (blk_cell BK662.out 1).trans rfl, (blk_cell BK662.out 2).trans rfl, (blk_cell BK660.out 0).trans rfl, (blk_cell BK660.out 1).trans rfl, (blk_cell BK660.out 2).trans rfl, (blk_cell BK661.out 0).trans rfl, (blk_cell BK661.out 1).trans rfl, (blk_cell BK661.out 2).trans rfl, (blk_cell BK661.out 3).trans rfl, (blk_cell BK661.out 4).trans rfl, (blk_cell BK661.out 5).trans rfl⟩ (fun hHeld => ?_)
                       clear hK K
                       refine norm_ (a' := ?_) ?_ ?_
                       rotate_left
                       ·show Act.put _ (some 13) _ = _
                        simp only [Act.put, List.setIfInBounds_toArray, List.set_cons_zero, List.set_cons_succ, i64_w, i32_w]
                        rfl
                       exact norm_ (by simp only [putAll, Act.put, List.setIfInBounds_toArray, List.set_cons_zero, List.set_cons_succ] <;> rfl) (hJ19 (gb691) _ ⟨hHeld, (BK659.out), (BK660.out), (BK661.out), (BK662.out), (BK674.out), (BK675.out), (BK691.out), GE691.out, NB659_691.out, NB691_659.out, NB660_691.out, NB691_660.out, NB661_691.out, NB691_661.out, NB662_691.out, NB691_662.out, NB674_691.out, NB691_674.out, NB675_691.out, NB691_675.out, (HB.out)⟩)
                      skip
                      refine box_step ?hg (N := 14) ?hd (cs := #[.int .i64 0, .int .i64 0]) (t := 28) ?hr ?_; (case hd => rfl); (case hg => rfl); (case hr => first | (go_simp; done) | (go_simp; rfl))
                      intro gb692 hg w66 hbox hb
                      have BK692 := Aside0.mk (hbox)
                      have GE692 := Aside0.mk (bG hg (HB.out))
                      have NB659_692 := cN hg BK659
                      have NB692_659 := cM hg BK659
                      have NB660_692 := cN hg BK660
                      have NB692_660 := cM hg BK660
                      have NB661_692 := cN hg BK661
                      have NB692_661 := cM hg BK661
                      have NB662_692 := cN hg BK662
                      have NB692_662 := cM hg BK662
                      have NB674_692 := cN hg BK674
                      have NB692_674 := cM hg BK674
                      have NB675_692 := cN hg BK675
                      have NB692_675 := cM hg BK675
                      replace BK659 := cB hb BK659
                      replace BK660 := cB hb BK660
                      replace BK661 := cB hb BK661
                      replace BK662 := cB hb BK662
                      replace BK674 := cB hb BK674
                      replace BK675 := cB hb BK675
                      replace HB := Aside0.mk (below_step (HB.out) hb)
                      clear hb hbox hg
                      refine hK.out _ _ ⟨(blk_cell BK659.out 0).trans rfl, (blk_cell BK659.out 1).trans rfl, (blk_cell BK659.out 2).trans rfl, (blk_cell BK662.out 0).trans rfl, (blk_cell BK662.out 1).trans rfl, (blk_cell BK662.out 2).trans rfl, (blk_cell BK660.out 0).trans rfl, (blk_cell BK660.out 1).trans rfl, (blk_cell BK660.out 2).trans rfl, (blk_cell BK661.out 0).trans rfl, (blk_cell BK661.out 1).trans rfl, (blk_cell BK661.out 2).trans rfl, (blk_cell BK661.out 3).trans rfl, (blk_cell BK661.out 4).trans rfl, (blk_cell BK661.out 5).trans rfl⟩ (fun hHeld => ?_)
                      clear hK K
                      refine norm_ (a' := ?_) ?_ ?_
                      rotate_left
                      ·show Act.put _ (some 14) _ = _
                       simp only [Act.put, List.setIfInBounds_toArray, List.set_cons_zero, List.set_cons_succ, i64_w, i32_w]
                       rfl
                      exact norm_ (by simp only [putAll, Act.put, List.setIfInBounds_toArray, List.set_cons_zero, List.set_cons_succ] <;> rfl) (hJ20 (gb692) _ ⟨hHeld, (BK659.out), (BK660.out), (BK661.out), (BK662.out), (BK674.out), (BK675.out), (BK692.out), GE692.out, NB659_692.out, NB692_659.out, NB660_692.out, NB692_660.out, NB661_692.out, NB692_661.out, NB662_692.out, NB692_662.out, NB674_692.out, NB692_674.out, NB675_692.out, NB692_675.out, (HB.out)⟩)
                     skip
                     rintro gb692 w67 ⟨hS_, h0_, h1_, h2_, h3_, h4_, h5_, h6_, h7_, h8_, h9_, h10_, h11_, h12_, h13_, h14_, h15_, h16_, h17_, h18_, h19_, h20_⟩
                     have n0_ : Aside0 (w67.heap[gb659]? = some (.cells #[.int .i64 a0_0, .int .i64 a0_1, .int .i64 a0_2] 23 (0, 0))) := ⟨h0_⟩
                     have n1_ : Aside0 (w67.heap[gb660]? = some (.cells #[.int .i64 a1_0, .int .i64 a1_1, .int .i64 a1_2] 23 (0, 0))) := ⟨h1_⟩
                     have n2_ : Aside0 (w67.heap[gb661]? = some (.cells #[.int .i64 a2_0, .int .i64 a2_1, .int .i64 a2_2, .int .i64 a2_3, .int .i64 a2_4, .int .i64 a2_5] 56 (0, 0))) := ⟨h2_⟩
                     have n3_ : Aside0 (w67.heap[gb662]? = some (.cells #[.int .i64 a3_0, .int .i64 a3_1, .int .i64 a3_2] 23 (0, 0))) := ⟨h3_⟩
                     have n4_ : Aside0 (w67.heap[gb674]? = some (.cells #[.int .i64 t668, .int .i64 t669] 28 (0, 0))) := ⟨h4_⟩
                     have n5_ : Aside0 (w67.heap[gb675]? = some (.cells #[.int .i64 t670, .int .i64 t671] 28 (0, 0))) := ⟨h5_⟩
                     have n6_ : Aside0 (w67.heap[gb692]? = some (.cells #[.int .i64 0, .int .i64 0] 28 (0, 0))) := ⟨h6_⟩
                     have GE692 : Aside0 (w.heap.size ≤ gb692) := ⟨h7_⟩
                     have NB659_692 : Aside0 (gb659 ≠ gb692) := ⟨h8_⟩
                     have NB692_659 : Aside0 (gb692 ≠ gb659) := ⟨h9_⟩
                     have NB660_692 : Aside0 (gb660 ≠ gb692) := ⟨h10_⟩
                     have NB692_660 : Aside0 (gb692 ≠ gb660) := ⟨h11_⟩
                     have NB661_692 : Aside0 (gb661 ≠ gb692) := ⟨h12_⟩
                     have NB692_661 : Aside0 (gb692 ≠ gb661) := ⟨h13_⟩
                     have NB662_692 : Aside0 (gb662 ≠ gb692) := ⟨h14_⟩
                     have NB692_662 : Aside0 (gb692 ≠ gb662) := ⟨h15_⟩
                     have NB674_692 : Aside0 (gb674 ≠ gb692) := ⟨h16_⟩
                     have NB692_674 : Aside0 (gb692 ≠ gb674) := ⟨h17_⟩
                     have NB675_692 : Aside0 (gb675 ≠ gb692) := ⟨h18_⟩
                     have NB692_675 : Aside0 (gb692 ≠ gb675) := ⟨h19_⟩
                     have n20_ : Aside0 (Below w.heap.size w w67) := ⟨h20_⟩
                     clear BK659
                     clear BK660
                     clear BK661
                     clear BK662
                     clear BK674
                     clear BK675
                     clear HB
                     clear h0_ h1_ h2_ h3_ h4_ h5_ h6_ h7_ h8_ h9_ h10_ h11_ h12_ h13_ h14_ h15_ h16_ h17_ h18_ h19_ h20_
                     have BK659 := n0_
                     have BK660 := n1_
                     have BK661 := n2_
                     have BK662 := n3_
                     have BK674 := n4_
                     have BK675 := n5_
                     have BK692 := n6_
                     have HB := n20_
                     clear n0_ n1_ n2_ n3_ n4_ n5_ n6_ n20_
                     have hHeld : w67.cell? ⟨gb659, 0, none⟩ = some (.int .i64 a0_0) ∧ w67.cell? ⟨gb659, 1, none⟩ = some (.int .i64 a0_1) ∧ w67.cell? ⟨gb659, 2, none⟩ = some (.int .i64 a0_2) ∧ w67.cell? ⟨gb662, 0, none⟩ = some (.int .i64 a3_0) ∧ w67.cell? ⟨gb662, 1, none⟩ = some (.int .i64 a3_1) ∧ w67.cell? ⟨gb662, 2, none⟩ = some (.int .i64 a3_2) ∧ w67.cell? ⟨gb660, 0, none⟩ = some (.int .i64 a1_0) ∧ w67.cell? ⟨gb660, 1, none⟩ = some (.int .i64 a1_1) ∧ w67.cell? ⟨gb660, 2, none⟩ = some (.int .i64 a1_2) ∧ w67.cell? ⟨gb661, 0, none⟩ = some (.int .i64 a2_0) ∧ w67.cell? ⟨gb661, 1, none⟩ = some (.int .i64 a2_1) ∧ w67.cell? ⟨gb661, 2, none⟩ = some (.int .i64 a2_2) ∧ w67.cell? ⟨gb661, 3, none⟩ = some (.int .i64 a2_3) ∧ w67.cell? ⟨gb661, 4, none⟩ = some (.int .i64 a2_4) ∧ w67.cell? ⟨gb661, 5, none⟩ = some (.int .i64 a2_5) := hS_
                     refine norm_ (a' := ?_) ?_ ?_
                     rotate_left
                     ·simp only [putAll, Act.put, List.setIfInBounds_toArray, List.set_cons_zero, List.set_cons_succ]
                      rfl
                     refine two_ (i := 2) (j := 19) (Ni := some 51) (Nj := some 13) #[true, true, true, true, true, true, true, false, true, true, true, false, false, false, false, false, false, false, false, false, true, false, false, false, false] #[true, true, false, true, true, true, true, false, true, true, true, false, false, false, false, false, false, false, false, true, true, false, false, false, false] rfl rfl rfl rfl (two_of HT_.out (by kernel_rfl)) (by decide) (by decide) (fun K hK => ?_) (fun K hK => ?_)
                     ·skip
                      refine goes_ Try.func24 (by kernel_rfl) rfl #[.agg #[.int .i64 a0_0, .int .i64 a0_1, .int .i64 a0_2], .agg #[.int .i64 a3_0, .int .i64 a3_1, .int .i64 a3_2]] (by rfl) rfl rfl (by (try simp only [List.map_toArray, List.map_cons, List.map_nil]); first | done | rfl | (simp only [List.length_drop, List.length_take]; rfl)) ?_
                      with_reducible refine (relievoref02_Add.calls a0_0 a0_1 a0_2 a3_0 a3_1 a3_2 t676 t677 t678 _ A42.out).mono ?_
                      rintro e w68 ⟨rfl, hb⟩
                      refine ⟨_, rfl, ?_⟩
                      replace BK659 := cB hb BK659
                      replace BK660 := cB hb BK660
                      replace BK661 := cB hb BK661
                      replace BK662 := cB hb BK662
                      replace BK674 := cB hb BK674
                      replace BK675 := cB hb BK675
                      replace BK692 := cB hb BK692
                      replace HB := Aside0.mk (below_step (HB.out) hb)
                      (try clear hb)
                      (try clear hb2)
                      (try clear hk)
                      (try clear hi)
                      refine hK.out _ _ ⟨(blk_cell BK659.out 0).trans rfl, (blk_cell BK659.out 1).trans rfl, (blk_cell BK659.out 2).trans rfl, (blk_cell BK662.out 0).trans rfl, (blk_cell BK662.out 1).trans rfl, (blk_cell BK662.out 2).trans rfl, (blk_cell BK660.out 0).trans rfl, (blk_cell BK660.out 1).trans rfl, (blk_cell BK660.out 2).trans rfl, (blk_cell BK661.out 0).trans rfl, (blk_cell BK661.out 1).trans rfl, (blk_cell BK661.out 2).trans rfl, (blk_cell BK661.out 3).trans rfl, (blk_cell BK661.out 4).trans rfl, (blk_cell BK661.out 5).trans rfl⟩ (fun hHeld => ?_)
                      clear hK K
                      refine norm_ (a' := ?_) ?_ ?_
                      rotate_left
                      ·show Act.put _ (some 51) _ = _
                       simp only [Act.put, List.setIfInBounds_toArray, List.set_cons_zero, List.set_cons_succ, i64_w, i32_w]
                       rfl
                      exact norm_ (by simp only [putAll, Act.put, List.setIfInBounds_toArray, List.set_cons_zero, List.set_cons_succ] <;> rfl) (hJ2_20 (gb692) _ ⟨hHeld, (BK659.out), (BK660.out), (BK661.out), (BK662.out), (BK674.out), (BK675.out), (BK692.out), GE692.out, NB659_692.out, NB692_659.out, NB660_692.out, NB692_660.out, NB661_692.out, NB692_661.out, NB662_692.out, NB692_662.out, NB674_692.out, NB692_674.out, NB675_692.out, NB692_675.out, (HB.out)⟩)
                     skip
                     refine box_step ?hg (N := 13) ?hd (cs := #[.int .i64 0, .int .i64 0]) (t := 28) ?hr ?_; (case hd => rfl); (case hg => rfl); (case hr => first | (go_simp; done) | (go_simp; rfl))
                     intro gb691 hg w68 hbox hb
                     have BK691 := Aside0.mk (hbox)
                     have GE691 := Aside0.mk (bG hg (HB.out))
                     have NB659_691 := cN hg BK659
                     have NB691_659 := cM hg BK659
                     have NB660_691 := cN hg BK660
                     have NB691_660 := cM hg BK660
                     have NB661_691 := cN hg BK661
                     have NB691_661 := cM hg BK661
                     have NB662_691 := cN hg BK662
                     have NB691_662 := cM hg BK662
                     have NB674_691 := cN hg BK674
                     have NB691_674 := cM hg BK674
                     have NB675_691 := cN hg BK675
                     have NB691_675 := cM hg BK675
                     have NB692_691 := cN hg BK692
                     have NB691_692 := cM hg BK692
                     replace BK659 := cB hb BK659
                     replace BK660 := cB hb BK660
                     replace BK661 := cB hb BK661
                     replace BK662 := cB hb BK662
                     replace BK674 := cB hb BK674
                     replace BK675 := cB hb BK675
                     replace BK692 := cB hb BK692
                     replace HB := Aside0.mk (below_step (HB.out) hb)
                     clear hb hbox hg
                     refine hK.out _ _ ⟨(blk_cell BK659.out 0).trans rfl, (blk_cell BK659.out 1).trans rfl, (blk_cell BK659.out 2).trans rfl, (blk_cell BK662.out 0).trans rfl, (blk_cell BK662.out 1).trans rfl, (blk_cell BK662.out 2).trans rfl, (blk_cell BK660.out 0).trans rfl, (blk_cell BK660.out 1).trans rfl, (blk_cell BK660.out 2).trans rfl, (blk_cell BK661.out 0).trans rfl, (blk_cell BK661.out 1).trans rfl, (blk_cell BK661.out 2).trans rfl, (blk_cell BK661.out 3).trans rfl, (blk_cell BK661.out 4).trans rfl, (blk_cell BK661.out 5).trans rfl⟩ (fun hHeld => ?_)
                     clear hK K
                     refine norm_ (a' := ?_) ?_ ?_
                     rotate_left
                     ·show Act.put _ (some 13) _ = _
                      simp only [Act.put, List.setIfInBounds_toArray, List.set_cons_zero, List.set_cons_succ, i64_w, i32_w]
                      rfl
                     exact norm_ (by simp only [putAll, Act.put, List.setIfInBounds_toArray, List.set_cons_zero, List.set_cons_succ] <;> rfl) (hJ19_20 (gb691, gb692) _ ⟨hHeld, (BK659.out), (BK660.out), (BK661.out), (BK662.out), (BK674.out), (BK675.out), (BK691.out), (BK692.out), GE691.out, NB659_691.out, NB691_659.out, NB660_691.out, NB691_660.out, NB661_691.out, NB691_661.out, NB662_691.out, NB691_662.out, NB674_691.out, NB691_674.out, NB675_691.out, NB691_675.out, NB692_691.out, NB691_692.out, GE692.out, NB659_692.out, NB692_659.out, NB660_692.out, NB692_660.out, NB661_692.out, NB692_661.out, NB662_692.out, NB692_662.out, NB674_692.out, NB692_674.out, NB675_692.out, NB692_675.out, (HB.out)⟩)
                    skip
                    rintro gb691 w67 ⟨hS_, h0_, h1_, h2_, h3_, h4_, h5_, h6_, h7_, h8_, h9_, h10_, h11_, h12_, h13_, h14_, h15_, h16_, h17_, h18_, h19_, h20_⟩
                    have n0_ : Aside0 (w67.heap[gb659]? = some (.cells #[.int .i64 a0_0, .int .i64 a0_1, .int .i64 a0_2] 23 (0, 0))) := ⟨h0_⟩
                    have n1_ : Aside0 (w67.heap[gb660]? = some (.cells #[.int .i64 a1_0, .int .i64 a1_1, .int .i64 a1_2] 23 (0, 0))) := ⟨h1_⟩
                    have n2_ : Aside0 (w67.heap[gb661]? = some (.cells #[.int .i64 a2_0, .int .i64 a2_1, .int .i64 a2_2, .int .i64 a2_3, .int .i64 a2_4, .int .i64 a2_5] 56 (0, 0))) := ⟨h2_⟩
                    have n3_ : Aside0 (w67.heap[gb662]? = some (.cells #[.int .i64 a3_0, .int .i64 a3_1, .int .i64 a3_2] 23 (0, 0))) := ⟨h3_⟩
                    have n4_ : Aside0 (w67.heap[gb674]? = some (.cells #[.int .i64 t668, .int .i64 t669] 28 (0, 0))) := ⟨h4_⟩
                    have n5_ : Aside0 (w67.heap[gb675]? = some (.cells #[.int .i64 t670, .int .i64 t671] 28 (0, 0))) := ⟨h5_⟩
                    have n6_ : Aside0 (w67.heap[gb691]? = some (.cells #[.int .i64 0, .int .i64 0] 28 (0, 0))) := ⟨h6_⟩
                    have GE691 : Aside0 (w.heap.size ≤ gb691) := ⟨h7_⟩
                    have NB659_691 : Aside0 (gb659 ≠ gb691) := ⟨h8_⟩
                    have NB691_659 : Aside0 (gb691 ≠ gb659) := ⟨h9_⟩
                    have NB660_691 : Aside0 (gb660 ≠ gb691) := ⟨h10_⟩
                    have NB691_660 : Aside0 (gb691 ≠ gb660) := ⟨h11_⟩
                    have NB661_691 : Aside0 (gb661 ≠ gb691) := ⟨h12_⟩
                    have NB691_661 : Aside0 (gb691 ≠ gb661) := ⟨h13_⟩
                    have NB662_691 : Aside0 (gb662 ≠ gb691) := ⟨h14_⟩
                    have NB691_662 : Aside0 (gb691 ≠ gb662) := ⟨h15_⟩
                    have NB674_691 : Aside0 (gb674 ≠ gb691) := ⟨h16_⟩
                    have NB691_674 : Aside0 (gb691 ≠ gb674) := ⟨h17_⟩
                    have NB675_691 : Aside0 (gb675 ≠ gb691) := ⟨h18_⟩
                    have NB691_675 : Aside0 (gb691 ≠ gb675) := ⟨h19_⟩
                    have n20_ : Aside0 (Below w.heap.size w w67) := ⟨h20_⟩
                    clear BK659
                    clear BK660
                    clear BK661
                    clear BK662
                    clear BK674
                    clear BK675
                    clear HB
                    clear h0_ h1_ h2_ h3_ h4_ h5_ h6_ h7_ h8_ h9_ h10_ h11_ h12_ h13_ h14_ h15_ h16_ h17_ h18_ h19_ h20_
                    have BK659 := n0_
                    have BK660 := n1_
                    have BK661 := n2_
                    have BK662 := n3_
                    have BK674 := n4_
                    have BK675 := n5_
                    have BK691 := n6_
                    have HB := n20_
                    clear n0_ n1_ n2_ n3_ n4_ n5_ n6_ n20_
                    have hHeld : w67.cell? ⟨gb659, 0, none⟩ = some (.int .i64 a0_0) ∧ w67.cell? ⟨gb659, 1, none⟩ = some (.int .i64 a0_1) ∧ w67.cell? ⟨gb659, 2, none⟩ = some (.int .i64 a0_2) ∧ w67.cell? ⟨gb662, 0, none⟩ = some (.int .i64 a3_0) ∧ w67.cell? ⟨gb662, 1, none⟩ = some (.int .i64 a3_1) ∧ w67.cell? ⟨gb662, 2, none⟩ = some (.int .i64 a3_2) ∧ w67.cell? ⟨gb660, 0, none⟩ = some (.int .i64 a1_0) ∧ w67.cell? ⟨gb660, 1, none⟩ = some (.int .i64 a1_1) ∧ w67.cell? ⟨gb660, 2, none⟩ = some (.int .i64 a1_2) ∧ w67.cell? ⟨gb661, 0, none⟩ = some (.int .i64 a2_0) ∧ w67.cell? ⟨gb661, 1, none⟩ = some (.int .i64 a2_1) ∧ w67.cell? ⟨gb661, 2, none⟩ = some (.int .i64 a2_2) ∧ w67.cell? ⟨gb661, 3, none⟩ = some (.int .i64 a2_3) ∧ w67.cell? ⟨gb661, 4, none⟩ = some (.int .i64 a2_4) ∧ w67.cell? ⟨gb661, 5, none⟩ = some (.int .i64 a2_5) := hS_
                    refine norm_ (a' := ?_) ?_ ?_
                    rotate_left
                    ·simp only [putAll, Act.put, List.setIfInBounds_toArray, List.set_cons_zero, List.set_cons_succ]
                     rfl
                    refine two_ (i := 2) (j := 20) (Ni := some 51) (Nj := some 14) #[true, true, true, true, true, true, true, false, true, true, true, false, false, false, false, false, false, false, false, true, false, false, false, false, false] #[true, true, false, true, true, true, true, false, true, true, true, false, false, false, false, false, false, false, false, true, true, false, false, false, false] rfl rfl rfl rfl (two_of HT_.out (by kernel_rfl)) (by decide) (by decide) (fun K hK => ?_) (fun K hK => ?_)
                    ·skip
                     refine goes_ Try.func24 (by kernel_rfl) rfl #[.agg #[.int .i64 a0_0, .int .i64 a0_1, .int .i64 a0_2], .agg #[.int .i64 a3_0, .int .i64 a3_1, .int .i64 a3_2]] (by rfl) rfl rfl (by (try simp only [List.map_toArray, List.map_cons, List.map_nil]); first | done | rfl | (simp only [List.length_drop, List.length_take]; rfl)) ?_
                     with_reducible refine (relievoref02_Add.calls a0_0 a0_1 a0_2 a3_0 a3_1 a3_2 t676 t677 t678 _ A42.out).mono ?_
                     rintro e w68 ⟨rfl, hb⟩
                     refine ⟨_, rfl, ?_⟩
                     replace BK659 := cB hb BK659
                     replace BK660 := cB hb BK660
                     replace BK661 := cB hb BK661
                     replace BK662 := cB hb BK662
                     replace BK674 := cB hb BK674
                     replace BK675 := cB hb BK675
                     replace BK691 := cB hb BK691
                     replace HB := Aside0.mk (below_step (HB.out) hb)
                     (try clear hb)
                     (try clear hb2)
                     (try clear hk)
                     (try clear hi)
                     refine hK.out _ _ ⟨(blk_cell BK659.out 0).trans rfl, (blk_cell BK659.out 1).trans rfl, (blk_cell BK659.out 2).trans rfl, (blk_cell BK662.out 0).trans rfl, (blk_cell BK662.out 1).trans rfl, (blk_cell BK662.out 2).trans rfl, (blk_cell BK660.out 0).trans rfl, (blk_cell BK660.out 1).trans rfl, (blk_cell BK660.out 2).trans rfl, (blk_cell BK661.out 0).trans rfl, (blk_cell BK661.out 1).trans rfl, (blk_cell BK661.out 2).trans rfl, (blk_cell BK661.out 3).trans rfl, (blk_cell BK661.out 4).trans rfl, (blk_cell BK661.out 5).trans rfl⟩ (fun hHeld => ?_)
                     clear hK K
                     refine norm_ (a' := ?_) ?_ ?_
                     rotate_left
                     ·show Act.put _ (some 51) _ = _
                      simp only [Act.put, List.setIfInBounds_toArray, List.set_cons_zero, List.set_cons_succ, i64_w, i32_w]
                      rfl
                     exact norm_ (by simp only [putAll, Act.put, List.setIfInBounds_toArray, List.set_cons_zero, List.set_cons_succ] <;> rfl) (hJ2_19 (gb691) _ ⟨hHeld, (BK659.out), (BK660.out), (BK661.out), (BK662.out), (BK674.out), (BK675.out), (BK691.out), GE691.out, NB659_691.out, NB691_659.out, NB660_691.out, NB691_660.out, NB661_691.out, NB691_661.out, NB662_691.out, NB691_662.out, NB674_691.out, NB691_674.out, NB675_691.out, NB691_675.out, (HB.out)⟩)
                    skip
                    refine box_step ?hg (N := 14) ?hd (cs := #[.int .i64 0, .int .i64 0]) (t := 28) ?hr ?_; (case hd => rfl); (case hg => rfl); (case hr => first | (go_simp; done) | (go_simp; rfl))
                    intro gb692 hg w68 hbox hb
                    have BK692 := Aside0.mk (hbox)
                    have GE692 := Aside0.mk (bG hg (HB.out))
                    have NB659_692 := cN hg BK659
                    have NB692_659 := cM hg BK659
                    have NB660_692 := cN hg BK660
                    have NB692_660 := cM hg BK660
                    have NB661_692 := cN hg BK661
                    have NB692_661 := cM hg BK661
                    have NB662_692 := cN hg BK662
                    have NB692_662 := cM hg BK662
                    have NB674_692 := cN hg BK674
                    have NB692_674 := cM hg BK674
                    have NB675_692 := cN hg BK675
                    have NB692_675 := cM hg BK675
                    have NB691_692 := cN hg BK691
                    have NB692_691 := cM hg BK691
                    replace BK659 := cB hb BK659
                    replace BK660 := cB hb BK660
                    replace BK661 := cB hb BK661
                    replace BK662 := cB hb BK662
                    replace BK674 := cB hb BK674
                    replace BK675 := cB hb BK675
                    replace BK691 := cB hb BK691
                    replace HB := Aside0.mk (below_step (HB.out) hb)
                    clear hb hbox hg
                    refine hK.out _ _ ⟨(blk_cell BK659.out 0).trans rfl, (blk_cell BK659.out 1).trans rfl, (blk_cell BK659.out 2).trans rfl, (blk_cell BK662.out 0).trans rfl, (blk_cell BK662.out 1).trans rfl, (blk_cell BK662.out 2).trans rfl, (blk_cell BK660.out 0).trans rfl, (blk_cell BK660.out 1).trans rfl, (blk_cell BK660.out 2).trans rfl, (blk_cell BK661.out 0).trans rfl, (blk_cell BK661.out 1).trans rfl, (blk_cell BK661.out 2).trans rfl, (blk_cell BK661.out 3).trans rfl, (blk_cell BK661.out 4).trans rfl, (blk_cell BK661.out 5).trans rfl⟩ (fun hHeld => ?_)
                    clear hK K
                    refine norm_ (a' := ?_) ?_ ?_
                    rotate_left
                    ·show Act.put _ (some 14) _ = _
                     simp only [Act.put, List.setIfInBounds_toArray, List.set_cons_zero, List.set_cons_succ, i64_w, i32_w]
                     rfl
                    exact norm_ (by simp only [putAll, Act.put, List.setIfInBounds_toArray, List.set_cons_zero, List.set_cons_succ] <;> rfl) (hJ19_20 (gb691, gb692) _ ⟨hHeld, (BK659.out), (BK660.out), (BK661.out), (BK662.out), (BK674.out), (BK675.out), (BK691.out), (BK692.out), GE691.out, NB659_691.out, NB691_659.out, NB660_691.out, NB691_660.out, NB661_691.out, NB691_661.out, NB662_691.out, NB691_662.out, NB674_691.out, NB691_674.out, NB675_691.out, NB691_675.out, NB692_691.out, NB691_692.out, GE692.out, NB659_692.out, NB692_659.out, NB660_692.out, NB692_660.out, NB661_692.out, NB692_661.out, NB662_692.out, NB692_662.out, NB674_692.out, NB692_674.out, NB675_692.out, NB692_675.out, (HB.out)⟩)
                   skip
                   rintro _ w67 ⟨hS_, h0_, h1_, h2_, h3_, h4_, h5_, h6_⟩
                   have n0_ : Aside0 (w67.heap[gb659]? = some (.cells #[.int .i64 a0_0, .int .i64 a0_1, .int .i64 a0_2] 23 (0, 0))) := ⟨h0_⟩
                   have n1_ : Aside0 (w67.heap[gb660]? = some (.cells #[.int .i64 a1_0, .int .i64 a1_1, .int .i64 a1_2] 23 (0, 0))) := ⟨h1_⟩
                   have n2_ : Aside0 (w67.heap[gb661]? = some (.cells #[.int .i64 a2_0, .int .i64 a2_1, .int .i64 a2_2, .int .i64 a2_3, .int .i64 a2_4, .int .i64 a2_5] 56 (0, 0))) := ⟨h2_⟩
                   have n3_ : Aside0 (w67.heap[gb662]? = some (.cells #[.int .i64 a3_0, .int .i64 a3_1, .int .i64 a3_2] 23 (0, 0))) := ⟨h3_⟩
                   have n4_ : Aside0 (w67.heap[gb674]? = some (.cells #[.int .i64 t668, .int .i64 t669] 28 (0, 0))) := ⟨h4_⟩
                   have n5_ : Aside0 (w67.heap[gb675]? = some (.cells #[.int .i64 t670, .int .i64 t671] 28 (0, 0))) := ⟨h5_⟩
                   have n6_ : Aside0 (Below w.heap.size w w67) := ⟨h6_⟩
                   clear BK659
                   clear BK660
                   clear BK661
                   clear BK662
                   clear BK674
                   clear BK675
                   clear HB
                   clear h0_ h1_ h2_ h3_ h4_ h5_ h6_
                   have BK659 := n0_
                   have BK660 := n1_
                   have BK661 := n2_
                   have BK662 := n3_
                   have BK674 := n4_
                   have BK675 := n5_
                   have HB := n6_
                   clear n0_ n1_ n2_ n3_ n4_ n5_ n6_
                   have hHeld : w67.cell? ⟨gb659, 0, none⟩ = some (.int .i64 a0_0) ∧ w67.cell? ⟨gb659, 1, none⟩ = some (.int .i64 a0_1) ∧ w67.cell? ⟨gb659, 2, none⟩ = some (.int .i64 a0_2) ∧ w67.cell? ⟨gb662, 0, none⟩ = some (.int .i64 a3_0) ∧ w67.cell? ⟨gb662, 1, none⟩ = some (.int .i64 a3_1) ∧ w67.cell? ⟨gb662, 2, none⟩ = some (.int .i64 a3_2) ∧ w67.cell? ⟨gb660, 0, none⟩ = some (.int .i64 a1_0) ∧ w67.cell? ⟨gb660, 1, none⟩ = some (.int .i64 a1_1) ∧ w67.cell? ⟨gb660, 2, none⟩ = some (.int .i64 a1_2) ∧ w67.cell? ⟨gb661, 0, none⟩ = some (.int .i64 a2_0) ∧ w67.cell? ⟨gb661, 1, none⟩ = some (.int .i64 a2_1) ∧ w67.cell? ⟨gb661, 2, none⟩ = some (.int .i64 a2_2) ∧ w67.cell? ⟨gb661, 3, none⟩ = some (.int .i64 a2_3) ∧ w67.cell? ⟨gb661, 4, none⟩ = some (.int .i64 a2_4) ∧ w67.cell? ⟨gb661, 5, none⟩ = some (.int .i64 a2_5) := hS_
                   refine norm_ (a' := ?_) ?_ ?_
                   rotate_left
                   ·simp only [putAll, Act.put, List.setIfInBounds_toArray, List.set_cons_zero, List.set_cons_succ]
                    rfl
                   refine three_ (i := 7) (j := 19) (k := 20) (Ni := some 56) (Nj := some 13) (Nk := some 14) #[true, true, true, true, true, true, true, true, true, true, true, false, false, false, false, false, false, false, false, false, false, false, false, false, false] #[true, true, true, true, true, true, true, false, true, true, true, false, false, false, false, false, false, false, false, true, false, false, false, false, false] #[true, true, true, true, true, true, true, false, true, true, true, false, false, false, false, false, false, false, false, false, true, false, false, false, false] rfl rfl rfl rfl rfl rfl (three_of HT_.out (by kernel_rfl)) (by decide) (by decide) (by decide) (fun K hK => ?_) (fun K hK => ?_) (fun K hK => ?_)
                   ·skip
                    refine goes_ Try.func24 (by kernel_rfl) rfl #[.agg #[.int .i64 a2_0, .int .i64 a2_1, .int .i64 a2_2], .agg #[.int .i64 a3_0, .int .i64 a3_1, .int .i64 a3_2]] (by rfl) rfl rfl (by (try simp only [List.map_toArray, List.map_cons, List.map_nil]); first | done | rfl | (simp only [List.length_drop, List.length_take]; rfl)) ?_
                    with_reducible refine (relievoref02_Add.calls a2_0 a2_1 a2_2 a3_0 a3_1 a3_2 t679 t680 t681 _ A43.out).mono ?_
                    rintro e w68 ⟨rfl, hb⟩
                    refine ⟨_, rfl, ?_⟩
                    replace BK659 := cB hb BK659
                    replace BK660 := cB hb BK660
                    replace BK661 := cB hb BK661
                    replace BK662 := cB hb BK662
                    replace BK674 := cB hb BK674
                    replace BK675 := cB hb BK675
                    replace HB := Aside0.mk (below_step (HB.out) hb)
                    (try clear hb)
                    (try clear hb2)
                    (try clear hk)
                    (try clear hi)
                    refine hK.out _ _ ⟨(blk_cell BK659.out 0).trans rfl, (blk_cell BK659.out 1).trans rfl, (blk_cell BK659.out 2).trans rfl, (blk_cell BK662.out 0).trans rfl, (blk_cell BK662.out 1).trans rfl, (blk_cell BK662.out 2).trans rfl, (blk_cell BK660.out 0).trans rfl, (blk_cell BK660.out 1).trans rfl, (blk_cell BK660.out 2).trans rfl, (blk_cell BK661.out 0).trans rfl, (blk_cell BK661.out 1).trans rfl, (blk_cell BK661.out 2).trans rfl, (blk_cell BK661.out 3).trans rfl, (blk_cell BK661.out 4).trans rfl, (blk_cell BK661.out 5).trans rfl⟩ (fun hHeld => ?_)
                    clear hK K
                    refine norm_ (a' := ?_) ?_ ?_
                    rotate_left
                    ·show Act.put _ (some 56) _ = _
                     simp only [Act.put, List.setIfInBounds_toArray, List.set_cons_zero, List.set_cons_succ, i64_w, i32_w]
                     rfl
                    exact norm_ (by simp only [putAll, Act.put, List.setIfInBounds_toArray, List.set_cons_zero, List.set_cons_succ] <;> rfl) (hJ2_7 () _ ⟨hHeld, (BK659.out), (BK660.out), (BK661.out), (BK662.out), (BK674.out), (BK675.out), (HB.out)⟩)
                   ·skip
                    refine box_step ?hg (N := 13) ?hd (cs := #[.int .i64 0, .int .i64 0]) (t := 28) ?hr ?_; (case hd => rfl); (case hg => rfl); (case hr => first | (go_simp; done) | (go_simp; rfl))
                    intro gb691 hg w68 hbox hb
                    have BK691 := Aside0.mk (hbox)
                    have GE691 := Aside0.mk (bG hg (HB.out))
                    have NB659_691 := cN hg BK659
                    have NB691_659 := cM hg BK659
                    have NB660_691 := cN hg BK660
                    have NB691_660 := cM hg BK660
                    have NB661_691 := cN hg BK661
                    have NB691_661 := cM hg BK661
                    have NB662_691 := cN hg BK662
                    have NB691_662 := cM hg BK662
                    have NB674_691 := cN hg BK674
                    have NB691_674 := cM hg BK674
                    have NB675_691 := cN hg BK675
                    have NB691_675 := cM hg BK675
                    replace BK659 := cB hb BK659
                    replace BK660 := cB hb BK660
                    replace BK661 := cB hb BK661
                    replace BK662 := cB hb BK662
                    replace BK674 := cB hb BK674
                    replace BK675 := cB hb BK675
                    replace HB := Aside0.mk (below_step (HB.out) hb)
                    clear hb hbox hg
                    refine hK.out _ _ ⟨(blk_cell BK659.out 0).trans rfl, (blk_cell BK659.out 1).trans rfl, (blk_cell BK659.out 2).trans rfl, (blk_cell BK662.out 0).trans rfl, (blk_cell BK662.out 1).trans rfl, (blk_cell BK662.out 2).trans rfl, (blk_cell BK660.out 0).trans rfl, (blk_cell BK660.out 1).trans rfl, (blk_cell BK660.out 2).trans rfl, (blk_cell BK661.out 0).trans rfl, (blk_cell BK661.out 1).trans rfl, (blk_cell BK661.out 2).trans rfl, (blk_cell BK661.out 3).trans rfl, (blk_cell BK661.out 4).trans rfl, (blk_cell BK661.out 5).trans rfl⟩ (fun hHeld => ?_)
                    clear hK K
                    refine norm_ (a' := ?_) ?_ ?_
                    rotate_left
                    ·show Act.put _ (some 13) _ = _
                     simp only [Act.put, List.setIfInBounds_toArray, List.set_cons_zero, List.set_cons_succ, i64_w, i32_w]
                     rfl
                    exact norm_ (by simp only [putAll, Act.put, List.setIfInBounds_toArray, List.set_cons_zero, List.set_cons_succ] <;> rfl) (hJ2_19 (gb691) _ ⟨hHeld, (BK659.out), (BK660.out), (BK661.out), (BK662.out), (BK674.out), (BK675.out), (BK691.out), GE691.out, NB659_691.out, NB691_659.out, NB660_691.out, NB691_660.out, NB661_691.out, NB691_661.out, NB662_691.out, NB691_662.out, NB674_691.out, NB691_674.out, NB675_691.out, NB691_675.out, (HB.out)⟩)
                   skip
                   refine box_step ?hg (N := 14) ?hd (cs := #[.int .i64 0, .int .i64 0]) (t := 28) ?hr ?_; (case hd => rfl); (case hg => rfl); (case hr => first | (go_simp; done) | (go_simp; rfl))
                   intro gb692 hg w68 hbox hb
                   have BK692 := Aside0.mk (hbox)
                   have GE692 := Aside0.mk (bG hg (HB.out))
                   have NB659_692 := cN hg BK659
                   have NB692_659 := cM hg BK659
                   have NB660_692 := cN hg BK660
                   have NB692_660 := cM hg BK660
                   have NB661_692 := cN hg BK661
                   have NB692_661 := cM hg BK661
                   have NB662_692 := cN hg BK662
                   have NB692_662 := cM hg BK662
                   have NB674_692 := cN hg BK674
                   have NB692_674 := cM hg BK674
                   have NB675_692 := cN hg BK675
                   have NB692_675 := cM hg BK675
                   replace BK659 := cB hb BK659
                   replace BK660 := cB hb BK660
                   replace BK661 := cB hb BK661
                   replace BK662 := cB hb BK662
                   replace BK674 := cB hb BK674
                   replace BK675 := cB hb BK675
                   replace HB := Aside0.mk (below_step (HB.out) hb)
                   clear hb hbox hg
                   refine hK.out _ _ ⟨(blk_cell BK659.out 0).trans rfl, (blk_cell BK659.out 1).trans rfl, (blk_cell BK659.out 2).trans rfl, (blk_cell BK662.out 0).trans rfl, (blk_cell BK662.out 1).trans rfl, (blk_cell BK662.out 2).trans rfl, (blk_cell BK660.out 0).trans rfl, (blk_cell BK660.out 1).trans rfl, (blk_cell BK660.out 2).trans rfl, (blk_cell BK661.out 0).trans rfl, (blk_cell BK661.out 1).trans rfl, (blk_cell BK661.out 2).trans rfl, (blk_cell BK661.out 3).trans rfl, (blk_cell BK661.out 4).trans rfl, (blk_cell BK661.out 5).trans rfl⟩ (fun hHeld => ?_)
                   clear hK K
                   refine norm_ (a' := ?_) ?_ ?_
                   rotate_left
                   ·show Act.put _ (some 14) _ = _
                    simp only [Act.put, List.setIfInBounds_toArray, List.set_cons_zero, List.set_cons_succ, i64_w, i32_w]
                    rfl
                   exact norm_ (by simp only [putAll, Act.put, List.setIfInBounds_toArray, List.set_cons_zero, List.set_cons_succ] <;> rfl) (hJ2_20 (gb692) _ ⟨hHeld, (BK659.out), (BK660.out), (BK661.out), (BK662.out), (BK674.out), (BK675.out), (BK692.out), GE692.out, NB659_692.out, NB692_659.out, NB660_692.out, NB692_660.out, NB661_692.out, NB692_661.out, NB662_692.out, NB692_662.out, NB674_692.out, NB692_674.out, NB675_692.out, NB692_675.out, (HB.out)⟩)
                  skip
                  rintro ⟨gb691, gb692⟩ w68 ⟨hS_, h0_, h1_, h2_, h3_, h4_, h5_, h6_, h7_, h8_, h9_, h10_, h11_, h12_, h13_, h14_, h15_, h16_, h17_, h18_, h19_, h20_, h21_, h22_, h23_, h24_, h25_, h26_, h27_, h28_, h29_, h30_, h31_, h32_, h33_, h34_, h35_, h36_⟩
                  have n0_ : Aside0 (w68.heap[gb659]? = some (.cells #[.int .i64 a0_0, .int .i64 a0_1, .int .i64 a0_2] 23 (0, 0))) := ⟨h0_⟩
                  have n1_ : Aside0 (w68.heap[gb660]? = some (.cells #[.int .i64 a1_0, .int .i64 a1_1, .int .i64 a1_2] 23 (0, 0))) := ⟨h1_⟩
                  have n2_ : Aside0 (w68.heap[gb661]? = some (.cells #[.int .i64 a2_0, .int .i64 a2_1, .int .i64 a2_2, .int .i64 a2_3, .int .i64 a2_4, .int .i64 a2_5] 56 (0, 0))) := ⟨h2_⟩
                  have n3_ : Aside0 (w68.heap[gb662]? = some (.cells #[.int .i64 a3_0, .int .i64 a3_1, .int .i64 a3_2] 23 (0, 0))) := ⟨h3_⟩
                  have n4_ : Aside0 (w68.heap[gb674]? = some (.cells #[.int .i64 t668, .int .i64 t669] 28 (0, 0))) := ⟨h4_⟩
                  have n5_ : Aside0 (w68.heap[gb675]? = some (.cells #[.int .i64 t670, .int .i64 t671] 28 (0, 0))) := ⟨h5_⟩
                  have n6_ : Aside0 (w68.heap[gb691]? = some (.cells #[.int .i64 0, .int .i64 0] 28 (0, 0))) := ⟨h6_⟩
                  have n7_ : Aside0 (w68.heap[gb692]? = some (.cells #[.int .i64 0, .int .i64 0] 28 (0, 0))) := ⟨h7_⟩
                  have GE691 : Aside0 (w.heap.size ≤ gb691) := ⟨h8_⟩
                  have NB659_691 : Aside0 (gb659 ≠ gb691) := ⟨h9_⟩
                  have NB691_659 : Aside0 (gb691 ≠ gb659) := ⟨h10_⟩
                  have NB660_691 : Aside0 (gb660 ≠ gb691) := ⟨h11_⟩
                  have NB691_660 : Aside0 (gb691 ≠ gb660) := ⟨h12_⟩
                  have NB661_691 : Aside0 (gb661 ≠ gb691) := ⟨h13_⟩
                  have NB691_661 : Aside0 (gb691 ≠ gb661) := ⟨h14_⟩
                  have NB662_691 : Aside0 (gb662 ≠ gb691) := ⟨h15_⟩
                  have NB691_662 : Aside0 (gb691 ≠ gb662) := ⟨h16_⟩
                  have NB674_691 : Aside0 (gb674 ≠ gb691) := ⟨h17_⟩
                  have NB691_674 : Aside0 (gb691 ≠ gb674) := ⟨h18_⟩
                  have NB675_691 : Aside0 (gb675 ≠ gb691) := ⟨h19_⟩
                  have NB691_675 : Aside0 (gb691 ≠ gb675) := ⟨h20_⟩
                  have NB692_691 : Aside0 (gb692 ≠ gb691) := ⟨h21_⟩
                  have NB691_692 : Aside0 (gb691 ≠ gb692) := ⟨h22_⟩
                  have GE692 : Aside0 (w.heap.size ≤ gb692) := ⟨h23_⟩
                  have NB659_692 : Aside0 (gb659 ≠ gb692) := ⟨h24_⟩
                  have NB692_659 : Aside0 (gb692 ≠ gb659) := ⟨h25_⟩
                  have NB660_692 : Aside0 (gb660 ≠ gb692) := ⟨h26_⟩
                  have NB692_660 : Aside0 (gb692 ≠ gb660) := ⟨h27_⟩
                  have NB661_692 : Aside0 (gb661 ≠ gb692) := ⟨h28_⟩
                  have NB692_661 : Aside0 (gb692 ≠ gb661) := ⟨h29_⟩
                  have NB662_692 : Aside0 (gb662 ≠ gb692) := ⟨h30_⟩
                  have NB692_662 : Aside0 (gb692 ≠ gb662) := ⟨h31_⟩
                  have NB674_692 : Aside0 (gb674 ≠ gb692) := ⟨h32_⟩
                  have NB692_674 : Aside0 (gb692 ≠ gb674) := ⟨h33_⟩
                  have NB675_692 : Aside0 (gb675 ≠ gb692) := ⟨h34_⟩
                  have NB692_675 : Aside0 (gb692 ≠ gb675) := ⟨h35_⟩
                  have n36_ : Aside0 (Below w.heap.size w w68) := ⟨h36_⟩
                  clear BK659
                  clear BK660
                  clear BK661
                  clear BK662
                  clear BK674
                  clear BK675
                  clear HB
                  clear h0_ h1_ h2_ h3_ h4_ h5_ h6_ h7_ h8_ h9_ h10_ h11_ h12_ h13_ h14_ h15_ h16_ h17_ h18_ h19_ h20_ h21_ h22_ h23_ h24_ h25_ h26_ h27_ h28_ h29_ h30_ h31_ h32_ h33_ h34_ h35_ h36_
                  have BK659 := n0_
                  have BK660 := n1_
                  have BK661 := n2_
                  have BK662 := n3_
                  have BK674 := n4_
                  have BK675 := n5_
                  have BK691 := n6_
                  have BK692 := n7_
                  have HB := n36_
                  clear n0_ n1_ n2_ n3_ n4_ n5_ n6_ n7_ n36_
                  have hHeld : w68.cell? ⟨gb659, 0, none⟩ = some (.int .i64 a0_0) ∧ w68.cell? ⟨gb659, 1, none⟩ = some (.int .i64 a0_1) ∧ w68.cell? ⟨gb659, 2, none⟩ = some (.int .i64 a0_2) ∧ w68.cell? ⟨gb662, 0, none⟩ = some (.int .i64 a3_0) ∧ w68.cell? ⟨gb662, 1, none⟩ = some (.int .i64 a3_1) ∧ w68.cell? ⟨gb662, 2, none⟩ = some (.int .i64 a3_2) ∧ w68.cell? ⟨gb660, 0, none⟩ = some (.int .i64 a1_0) ∧ w68.cell? ⟨gb660, 1, none⟩ = some (.int .i64 a1_1) ∧ w68.cell? ⟨gb660, 2, none⟩ = some (.int .i64 a1_2) ∧ w68.cell? ⟨gb661, 0, none⟩ = some (.int .i64 a2_0) ∧ w68.cell? ⟨gb661, 1, none⟩ = some (.int .i64 a2_1) ∧ w68.cell? ⟨gb661, 2, none⟩ = some (.int .i64 a2_2) ∧ w68.cell? ⟨gb661, 3, none⟩ = some (.int .i64 a2_3) ∧ w68.cell? ⟨gb661, 4, none⟩ = some (.int .i64 a2_4) ∧ w68.cell? ⟨gb661, 5, none⟩ = some (.int .i64 a2_5) := hS_
                  refine norm_ (a' := ?_) ?_ ?_
                  rotate_left
                  ·simp only [putAll, Act.put, List.setIfInBounds_toArray, List.set_cons_zero, List.set_cons_succ]
                   rfl
                  refine one_ (i := 2) (N := some 51) #[true, true, true, true, true, true, true, false, true, true, true, false, false, false, false, false, false, false, false, true, true, false, false, false, false] rfl rfl (one_of HT_.out (by kernel_rfl)) (by decide) (fun K hK => ?_)
                  refine goes_ Try.func24 (by kernel_rfl) rfl #[.agg #[.int .i64 a0_0, .int .i64 a0_1, .int .i64 a0_2], .agg #[.int .i64 a3_0, .int .i64 a3_1, .int .i64 a3_2]] (by rfl) rfl rfl (by (try simp only [List.map_toArray, List.map_cons, List.map_nil]); first | done | rfl | (simp only [List.length_drop, List.length_take]; rfl)) ?_
                  with_reducible refine (relievoref02_Add.calls a0_0 a0_1 a0_2 a3_0 a3_1 a3_2 t676 t677 t678 _ A42.out).mono ?_
                  rintro e w69 ⟨rfl, hb⟩
                  refine ⟨_, rfl, ?_⟩
                  replace BK659 := cB hb BK659
                  replace BK660 := cB hb BK660
                  replace BK661 := cB hb BK661
                  replace BK662 := cB hb BK662
                  replace BK674 := cB hb BK674
                  replace BK675 := cB hb BK675
                  replace BK691 := cB hb BK691
                  replace BK692 := cB hb BK692
                  replace HB := Aside0.mk (below_step (HB.out) hb)
                  (try clear hb)
                  (try clear hb2)
                  (try clear hk)
                  (try clear hi)
                  refine hK.out _ _ ⟨(blk_cell BK659.out 0).trans rfl, (blk_cell BK659.out 1).trans rfl, (blk_cell BK659.out 2).trans rfl, (blk_cell BK662.out 0).trans rfl, (blk_cell BK662.out 1).trans rfl, (blk_cell BK662.out 2).trans rfl, (blk_cell BK660.out 0).trans rfl, (blk_cell BK660.out 1).trans rfl, (blk_cell BK660.out 2).trans rfl, (blk_cell BK661.out 0).trans rfl, (blk_cell BK661.out 1).trans rfl, (blk_cell BK661.out 2).trans rfl, (blk_cell BK661.out 3).trans rfl, (blk_cell BK661.out 4).trans rfl, (blk_cell BK661.out 5).trans rfl⟩ (fun hHeld => ?_)
                  clear hK K
                  refine norm_ (a' := ?_) ?_ ?_
                  rotate_left
                  ·show Act.put _ (some 51) _ = _
                   simp only [Act.put, List.setIfInBounds_toArray, List.set_cons_zero, List.set_cons_succ, i64_w, i32_w]
                   rfl
                  exact norm_ (by simp only [putAll, Act.put, List.setIfInBounds_toArray, List.set_cons_zero, List.set_cons_succ] <;> rfl) (hJ2_19_20 (gb691, gb692) _ ⟨hHeld, (BK659.out), (BK660.out), (BK661.out), (BK662.out), (BK674.out), (BK675.out), (BK691.out), (BK692.out), GE691.out, NB659_691.out, NB691_659.out, NB660_691.out, NB691_660.out, NB661_691.out, NB691_661.out, NB662_691.out, NB691_662.out, NB674_691.out, NB691_674.out, NB675_691.out, NB691_675.out, NB692_691.out, NB691_692.out, GE692.out, NB659_692.out, NB692_659.out, NB660_692.out, NB692_660.out, NB661_692.out, NB692_661.out, NB662_692.out, NB692_662.out, NB674_692.out, NB692_674.out, NB675_692.out, NB692_675.out, (HB.out)⟩)
                 skip
                 rintro gb692 w68 ⟨hS_, h0_, h1_, h2_, h3_, h4_, h5_, h6_, h7_, h8_, h9_, h10_, h11_, h12_, h13_, h14_, h15_, h16_, h17_, h18_, h19_, h20_⟩
                 have n0_ : Aside0 (w68.heap[gb659]? = some (.cells #[.int .i64 a0_0, .int .i64 a0_1, .int .i64 a0_2] 23 (0, 0))) := ⟨h0_⟩
                 have n1_ : Aside0 (w68.heap[gb660]? = some (.cells #[.int .i64 a1_0, .int .i64 a1_1, .int .i64 a1_2] 23 (0, 0))) := ⟨h1_⟩
                 have n2_ : Aside0 (w68.heap[gb661]? = some (.cells #[.int .i64 a2_0, .int .i64 a2_1, .int .i64 a2_2, .int .i64 a2_3, .int .i64 a2_4, .int .i64 a2_5] 56 (0, 0))) := ⟨h2_⟩
                 have n3_ : Aside0 (w68.heap[gb662]? = some (.cells #[.int .i64 a3_0, .int .i64 a3_1, .int .i64 a3_2] 23 (0, 0))) := ⟨h3_⟩
                 have n4_ : Aside0 (w68.heap[gb674]? = some (.cells #[.int .i64 t668, .int .i64 t669] 28 (0, 0))) := ⟨h4_⟩
                 have n5_ : Aside0 (w68.heap[gb675]? = some (.cells #[.int .i64 t670, .int .i64 t671] 28 (0, 0))) := ⟨h5_⟩
                 have n6_ : Aside0 (w68.heap[gb692]? = some (.cells #[.int .i64 0, .int .i64 0] 28 (0, 0))) := ⟨h6_⟩
                 have GE692 : Aside0 (w.heap.size ≤ gb692) := ⟨h7_⟩
                 have NB659_692 : Aside0 (gb659 ≠ gb692) := ⟨h8_⟩
                 have NB692_659 : Aside0 (gb692 ≠ gb659) := ⟨h9_⟩
                 have NB660_692 : Aside0 (gb660 ≠ gb692) := ⟨h10_⟩
                 have NB692_660 : Aside0 (gb692 ≠ gb660) := ⟨h11_⟩
                 have NB661_692 : Aside0 (gb661 ≠ gb692) := ⟨h12_⟩
                 have NB692_661 : Aside0 (gb692 ≠ gb661) := ⟨h13_⟩
                 have NB662_692 : Aside0 (gb662 ≠ gb692) := ⟨h14_⟩
                 have NB692_662 : Aside0 (gb692 ≠ gb662) := ⟨h15_⟩
                 have NB674_692 : Aside0 (gb674 ≠ gb692) := ⟨h16_⟩
                 have NB692_674 : Aside0 (gb692 ≠ gb674) := ⟨h17_⟩
                 have NB675_692 : Aside0 (gb675 ≠ gb692) := ⟨h18_⟩
                 have NB692_675 : Aside0 (gb692 ≠ gb675) := ⟨h19_⟩
                 have n20_ : Aside0 (Below w.heap.size w w68) := ⟨h20_⟩
                 clear BK659
                 clear BK660
                 clear BK661
                 clear BK662
                 clear BK674
                 clear BK675
                 clear HB
                 clear h0_ h1_ h2_ h3_ h4_ h5_ h6_ h7_ h8_ h9_ h10_ h11_ h12_ h13_ h14_ h15_ h16_ h17_ h18_ h19_ h20_
                 have BK659 := n0_
                 have BK660 := n1_
                 have BK661 := n2_
                 have BK662 := n3_
                 have BK674 := n4_
                 have BK675 := n5_
                 have BK692 := n6_
                 have HB := n20_
                 clear n0_ n1_ n2_ n3_ n4_ n5_ n6_ n20_
                 have hHeld : w68.cell? ⟨gb659, 0, none⟩ = some (.int .i64 a0_0) ∧ w68.cell? ⟨gb659, 1, none⟩ = some (.int .i64 a0_1) ∧ w68.cell? ⟨gb659, 2, none⟩ = some (.int .i64 a0_2) ∧ w68.cell? ⟨gb662, 0, none⟩ = some (.int .i64 a3_0) ∧ w68.cell? ⟨gb662, 1, none⟩ = some (.int .i64 a3_1) ∧ w68.cell? ⟨gb662, 2, none⟩ = some (.int .i64 a3_2) ∧ w68.cell? ⟨gb660, 0, none⟩ = some (.int .i64 a1_0) ∧ w68.cell? ⟨gb660, 1, none⟩ = some (.int .i64 a1_1) ∧ w68.cell? ⟨gb660, 2, none⟩ = some (.int .i64 a1_2) ∧ w68.cell? ⟨gb661, 0, none⟩ = some (.int .i64 a2_0) ∧ w68.cell? ⟨gb661, 1, none⟩ = some (.int .i64 a2_1) ∧ w68.cell? ⟨gb661, 2, none⟩ = some (.int .i64 a2_2) ∧ w68.cell? ⟨gb661, 3, none⟩ = some (.int .i64 a2_3) ∧ w68.cell? ⟨gb661, 4, none⟩ = some (.int .i64 a2_4) ∧ w68.cell? ⟨gb661, 5, none⟩ = some (.int .i64 a2_5) := hS_
                 refine norm_ (a' := ?_) ?_ ?_
                 rotate_left
                 ·simp only [putAll, Act.put, List.setIfInBounds_toArray, List.set_cons_zero, List.set_cons_succ]
                  rfl
                 refine two_ (i := 7) (j := 19) (Ni := some 56) (Nj := some 13) #[true, true, true, true, true, true, true, true, true, true, true, false, false, false, false, false, false, false, false, false, true, false, false, false, false] #[true, true, true, true, true, true, true, false, true, true, true, false, false, false, false, false, false, false, false, true, true, false, false, false, false] rfl rfl rfl rfl (two_of HT_.out (by kernel_rfl)) (by decide) (by decide) (fun K hK => ?_) (fun K hK => ?_)
                 ·skip
                  refine goes_ Try.func24 (by kernel_rfl) rfl #[.agg #[.int .i64 a2_0, .int .i64 a2_1, .int .i64 a2_2], .agg #[.int .i64 a3_0, .int .i64 a3_1, .int .i64 a3_2]] (by rfl) rfl rfl (by (try simp only [List.map_toArray, List.map_cons, List.map_nil]); first | done | rfl | (simp only [List.length_drop, List.length_take]; rfl)) ?_
                  with_reducible refine (relievoref02_Add.calls a2_0 a2_1 a2_2 a3_0 a3_1 a3_2 t679 t680 t681 _ A43.out).mono ?_
                  rintro e w69 ⟨rfl, hb⟩
                  refine ⟨_, rfl, ?_⟩
                  replace BK659 := cB hb BK659
                  replace BK660 := cB hb BK660
                  replace BK661 := cB hb BK661
                  replace BK662 := cB hb BK662
                  replace BK674 := cB hb BK674
                  replace BK675 := cB hb BK675
                  replace BK692 := cB hb BK692
                  replace HB := Aside0.mk (below_step (HB.out) hb)
                  (try clear hb)
                  (try clear hb2)
                  (try clear hk)
                  (try clear hi)
                  refine hK.out _ _ ⟨(blk_cell BK659.out 0).trans rfl, (blk_cell BK659.out 1).trans rfl, (blk_cell BK659.out 2).trans rfl, (blk_cell BK662.out 0).trans rfl, (blk_cell BK662.out 1).trans rfl, (blk_cell BK662.out 2).trans rfl, (blk_cell BK660.out 0).trans rfl, (blk_cell BK660.out 1).trans rfl, (blk_cell BK660.out 2).trans rfl, (blk_cell BK661.out 0).trans rfl, (blk_cell BK661.out 1).trans rfl, (blk_cell BK661.out 2).trans rfl, (blk_cell BK661.out 3).trans rfl, (blk_cell BK661.out 4).trans rfl, (blk_cell BK661.out 5).trans rfl⟩ (fun hHeld => ?_)
                  clear hK K
                  refine norm_ (a' := ?_) ?_ ?_
                  rotate_left
                  ·show Act.put _ (some 56) _ = _
                   simp only [Act.put, List.setIfInBounds_toArray, List.set_cons_zero, List.set_cons_succ, i64_w, i32_w]
                   rfl
                  exact norm_ (by simp only [putAll, Act.put, List.setIfInBounds_toArray, List.set_cons_zero, List.set_cons_succ] <;> rfl) (hJ2_7_20 (gb692) _ ⟨hHeld, (BK659.out), (BK660.out), (BK661.out), (BK662.out), (BK674.out), (BK675.out), (BK692.out), GE692.out, NB659_692.out, NB692_659.out, NB660_692.out, NB692_660.out, NB661_692.out, NB692_661.out, NB662_692.out, NB692_662.out, NB674_692.out, NB692_674.out, NB675_692.out, NB692_675.out, (HB.out)⟩)
                 skip
                 refine box_step ?hg (N := 13) ?hd (cs := #[.int .i64 0, .int .i64 0]) (t := 28) ?hr ?_; (case hd => rfl); (case hg => rfl); (case hr => first | (go_simp; done) | (go_simp; rfl))
                 intro gb691 hg w69 hbox hb
                 have BK691 := Aside0.mk (hbox)
                 have GE691 := Aside0.mk (bG hg (HB.out))
                 have NB659_691 := cN hg BK659
                 have NB691_659 := cM hg BK659
                 have NB660_691 := cN hg BK660
                 have NB691_660 := cM hg BK660
                 have NB661_691 := cN hg BK661
                 have NB691_661 := cM hg BK661
                 have NB662_691 := cN hg BK662
                 have NB691_662 := cM hg BK662
                 have NB674_691 := cN hg BK674
                 have NB691_674 := cM hg BK674
                 have NB675_691 := cN hg BK675
                 have NB691_675 := cM hg BK675
                 have NB692_691 := cN hg BK692
                 have NB691_692 := cM hg BK692
                 replace BK659 := cB hb BK659
                 replace BK660 := cB hb BK660
                 replace BK661 := cB hb BK661
                 replace BK662 := cB hb BK662
                 replace BK674 := cB hb BK674
                 replace BK675 := cB hb BK675
                 replace BK692 := cB hb BK692
                 replace HB := Aside0.mk (below_step (HB.out) hb)
                 clear hb hbox hg
                 refine hK.out _ _ ⟨(blk_cell BK659.out 0).trans rfl, (blk_cell BK659.out 1).trans rfl, (blk_cell BK659.out 2).trans rfl, (blk_cell BK662.out 0).trans rfl, (blk_cell BK662.out 1).trans rfl, (blk_cell BK662.out 2).trans rfl, (blk_cell BK660.out 0).trans rfl, (blk_cell BK660.out 1).trans rfl, (blk_cell BK660.out 2).trans rfl, (blk_cell BK661.out 0).trans rfl, (blk_cell BK661.out 1).trans rfl, (blk_cell BK661.out 2).trans rfl, (blk_cell BK661.out 3).trans rfl, (blk_cell BK661.out 4).trans rfl, (blk_cell BK661.out 5).trans rfl⟩ (fun hHeld => ?_)
                 clear hK K
                 refine norm_ (a' := ?_) ?_ ?_
                 rotate_left
                 ·show Act.put _ (some 13) _ = _
                  simp only [Act.put, List.setIfInBounds_toArray, List.set_cons_zero, List.set_cons_succ, i64_w, i32_w]
                  rfl
                 exact norm_ (by simp only [putAll, Act.put, List.setIfInBounds_toArray, List.set_cons_zero, List.set_cons_succ] <;> rfl) (hJ2_19_20 (gb691, gb692) _ ⟨hHeld, (BK659.out), (BK660.out), (BK661.out), (BK662.out), (BK674.out), (BK675.out), (BK691.out), (BK692.out), GE691.out, NB659_691.out, NB691_659.out, NB660_691.out, NB691_660.out, NB661_691.out, NB691_661.out, NB662_691.out, NB691_662.out, NB674_691.out, NB691_674.out, NB675_691.out, NB691_675.out, NB692_691.out, NB691_692.out, GE692.out, NB659_692.out, NB692_659.out, NB660_692.out, NB692_660.out, NB661_692.out, NB692_661.out, NB662_692.out, NB692_662.out, NB674_692.out, NB692_674.out, NB675_692.out, NB692_675.out, (HB.out)⟩)
                skip
                rintro gb691 w68 ⟨hS_, h0_, h1_, h2_, h3_, h4_, h5_, h6_, h7_, h8_, h9_, h10_, h11_, h12_, h13_, h14_, h15_, h16_, h17_, h18_, h19_, h20_⟩
                have n0_ : Aside0 (w68.heap[gb659]? = some (.cells #[.int .i64 a0_0, .int .i64 a0_1, .int .i64 a0_2] 23 (0, 0))) := ⟨h0_⟩
                have n1_ : Aside0 (w68.heap[gb660]? = some (.cells #[.int .i64 a1_0, .int .i64 a1_1, .int .i64 a1_2] 23 (0, 0))) := ⟨h1_⟩
                have n2_ : Aside0 (w68.heap[gb661]? = some (.cells #[.int .i64 a2_0, .int .i64 a2_1, .int .i64 a2_2, .int .i64 a2_3, .int .i64 a2_4, .int .i64 a2_5] 56 (0, 0))) := ⟨h2_⟩
                have n3_ : Aside0 (w68.heap[gb662]? = some (.cells #[.int .i64 a3_0, .int .i64 a3_1, .int .i64 a3_2] 23 (0, 0))) := ⟨h3_⟩
                have n4_ : Aside0 (w68.heap[gb674]? = some (.cells #[.int .i64 t668, .int .i64 t669] 28 (0, 0))) := ⟨h4_⟩
                have n5_ : Aside0 (w68.heap[gb675]? = some (.cells #[.int .i64 t670, .int .i64 t671] 28 (0, 0))) := ⟨h5_⟩
                have n6_ : Aside0 (w68.heap[gb691]? = some (.cells #[.int .i64 0, .int .i64 0] 28 (0, 0))) := ⟨h6_⟩
                have GE691 : Aside0 (w.heap.size ≤ gb691) := ⟨h7_⟩
                have NB659_691 : Aside0 (gb659 ≠ gb691) := ⟨h8_⟩
                have NB691_659 : Aside0 (gb691 ≠ gb659) := ⟨h9_⟩
                have NB660_691 : Aside0 (gb660 ≠ gb691) := ⟨h10_⟩
                have NB691_660 : Aside0 (gb691 ≠ gb660) := ⟨h11_⟩
                have NB661_691 : Aside0 (gb661 ≠ gb691) := ⟨h12_⟩
                have NB691_661 : Aside0 (gb691 ≠ gb661) := ⟨h13_⟩
                have NB662_691 : Aside0 (gb662 ≠ gb691) := ⟨h14_⟩
                have NB691_662 : Aside0 (gb691 ≠ gb662) := ⟨h15_⟩
                have NB674_691 : Aside0 (gb674 ≠ gb691) := ⟨h16_⟩
                have NB691_674 : Aside0 (gb691 ≠ gb674) := ⟨h17_⟩
                have NB675_691 : Aside0 (gb675 ≠ gb691) := ⟨h18_⟩
                have NB691_675 : Aside0 (gb691 ≠ gb675) := ⟨h19_⟩
                have n20_ : Aside0 (Below w.heap.size w w68) := ⟨h20_⟩
                clear BK659
                clear BK660
                clear BK661
                clear BK662
                clear BK674
                clear BK675
                clear HB
                clear h0_ h1_ h2_ h3_ h4_ h5_ h6_ h7_ h8_ h9_ h10_ h11_ h12_ h13_ h14_ h15_ h16_ h17_ h18_ h19_ h20_
                have BK659 := n0_
                have BK660 := n1_
                have BK661 := n2_
                have BK662 := n3_
                have BK674 := n4_
                have BK675 := n5_
                have BK691 := n6_
                have HB := n20_
                clear n0_ n1_ n2_ n3_ n4_ n5_ n6_ n20_
                have hHeld : w68.cell? ⟨gb659, 0, none⟩ = some (.int .i64 a0_0) ∧ w68.cell? ⟨gb659, 1, none⟩ = some (.int .i64 a0_1) ∧ w68.cell? ⟨gb659, 2, none⟩ = some (.int .i64 a0_2) ∧ w68.cell? ⟨gb662, 0, none⟩ = some (.int .i64 a3_0) ∧ w68.cell? ⟨gb662, 1, none⟩ = some (.int .i64 a3_1) ∧ w68.cell? ⟨gb662, 2, none⟩ = some (.int .i64 a3_2) ∧ w68.cell? ⟨gb660, 0, none⟩ = some (.int .i64 a1_0) ∧ w68.cell? ⟨gb660, 1, none⟩ = some (.int .i64 a1_1) ∧ w68.cell? ⟨gb660, 2, none⟩ = some (.int .i64 a1_2) ∧ w68.cell? ⟨gb661, 0, none⟩ = some (.int .i64 a2_0) ∧ w68.cell? ⟨gb661, 1, none⟩ = some (.int .i64 a2_1) ∧ w68.cell? ⟨gb661, 2, none⟩ = some (.int .i64 a2_2) ∧ w68.cell? ⟨gb661, 3, none⟩ = some (.int .i64 a2_3) ∧ w68.cell? ⟨gb661, 4, none⟩ = some (.int .i64 a2_4) ∧ w68.cell? ⟨gb661, 5, none⟩ = some (.int .i64 a2_5) := hS_
                refine norm_ (a' := ?_) ?_ ?_
                rotate_left
                ·simp only [putAll, Act.put, List.setIfInBounds_toArray, List.set_cons_zero, List.set_cons_succ]
                 rfl
                refine two_ (i := 7) (j := 20) (Ni := some 56) (Nj := some 14) #[true, true, true, true, true, true, true, true, true, true, true, false, false, false, false, false, false, false, false, true, false, false, false, false, false] #[true, true, true, true, true, true, true, false, true, true, true, false, false, false, false, false, false, false, false, true, true, false, false, false, false] rfl rfl rfl rfl (two_of HT_.out (by kernel_rfl)) (by decide) (by decide) (fun K hK => ?_) (fun K hK => ?_)
                ·skip
                 refine goes_ Try.func24 (by kernel_rfl) rfl #[.agg #[.int .i64 a2_0, .int .i64 a2_1, .int .i64 a2_2], .agg #[.int .i64 a3_0, .int .i64 a3_1, .int .i64 a3_2]] (by rfl) rfl rfl (by (try simp only [List.map_toArray, List.map_cons, List.map_nil]); first | done | rfl | (simp only [List.length_drop, List.length_take]; rfl)) ?_
                 with_reducible refine (relievoref02_Add.calls a2_0 a2_1 a2_2 a3_0 a3_1 a3_2 t679 t680 t681 _ A43.out).mono ?_
                 rintro e w69 ⟨rfl, hb⟩
                 refine ⟨_, rfl, ?_⟩
                 replace BK659 := cB hb BK659
                 replace BK660 := cB hb BK660
                 replace BK661 := cB hb BK661
                 replace BK662 := cB hb BK662
                 replace BK674 := cB hb BK674
                 replace BK675 := cB hb BK675
                 replace BK691 := cB hb BK691
                 replace HB := Aside0.mk (below_step (HB.out) hb)
                 (try clear hb)
                 (try clear hb2)
                 (try clear hk)
                 (try clear hi)
                 refine hK.out _ _ ⟨(blk_cell BK659.out 0).trans rfl, (blk_cell BK659.out 1).trans rfl, (blk_cell BK659.out 2).trans rfl, (blk_cell BK662.out 0).trans rfl, (blk_cell BK662.out 1).trans rfl, (blk_cell BK662.out 2).trans rfl, (blk_cell BK660.out 0).trans rfl, (blk_cell BK660.out 1).trans rfl, (blk_cell BK660.out 2).trans rfl, (blk_cell BK661.out 0).trans rfl, (blk_cell BK661.out 1).trans rfl, (blk_cell BK661.out 2).trans rfl, (blk_cell BK661.out 3).trans rfl, (blk_cell BK661.out 4).trans rfl, (blk_cell BK661.out 5).trans rfl⟩ (fun hHeld => ?_)
                 clear hK K
                 refine norm_ (a' := ?_) ?_ ?_
                 rotate_left
                 ·show Act.put _ (some 56) _ = _
                  simp only [Act.put, List.setIfInBounds_toArray, List.set_cons_zero, List.set_cons_succ, i64_w, i32_w]
                  rfl
                 exact norm_ (by simp only [putAll, Act.put, List.setIfInBounds_toArray, List.set_cons_zero, List.set_cons_succ] <;> rfl) (hJ2_7_19 (gb691) _ ⟨hHeld, (BK659.out), (BK660.out), (BK661.out), (BK662.out), (BK674.out), (BK675.out), (BK691.out), GE691.out, NB659_691.out, NB691_659.out, NB660_691.out, NB691_660.out, NB661_691.out, NB691_661.out, NB662_691.out, NB691_662.out, NB674_691.out, NB691_674.out, NB675_691.out, NB691_675.out, (HB.out)⟩)
                skip
                refine box_step ?hg (N := 14) ?hd (cs := #[.int .i64 0, .int .i64 0]) (t := 28) ?hr ?_; (case hd => rfl); (case hg => rfl); (case hr => first | (go_simp; done) | (go_simp; rfl))
                intro gb692 hg w69 hbox hb
                have BK692 := Aside0.mk (hbox)
                have GE692 := Aside0.mk (bG hg (HB.out))
                have NB659_692 := cN hg BK659
                have NB692_659 := cM hg BK659
                have NB660_692 := cN hg BK660
                have NB692_660 := cM hg BK660
                have NB661_692 := cN hg BK661
                have NB692_661 := cM hg BK661
                have NB662_692 := cN hg BK662
                have NB692_662 := cM hg BK662
                have NB674_692 := cN hg BK674
                have NB692_674 := cM hg BK674
                have NB675_692 := cN hg BK675
                have NB692_675 := cM hg BK675
                have NB691_692 := cN hg BK691
                have NB692_691 := cM hg BK691
                replace BK659 := cB hb BK659
                replace BK660 := cB hb BK660
                replace BK661 := cB hb BK661
                replace BK662 := cB hb BK662
                replace BK674 := cB hb BK674
                replace BK675 := cB hb BK675
                replace BK691 := cB hb BK691
                replace HB := Aside0.mk (below_step (HB.out) hb)
                clear hb hbox hg
                refine hK.out _ _ ⟨(blk_cell BK659.out 0).trans rfl, (blk_cell BK659.out 1).trans rfl, (blk_cell BK659.out 2).trans rfl, (blk_cell BK662.out 0).trans rfl, (blk_cell BK662.out 1).trans rfl, (blk_cell BK662.out 2).trans rfl, (blk_cell BK660.out 0).trans rfl, (blk_cell BK660.out 1).trans rfl, (blk_cell BK660.out 2).trans rfl, (blk_cell BK661.out 0).trans rfl, (blk_cell BK661.out 1).trans rfl, (blk_cell BK661.out 2).trans rfl, (blk_cell BK661.out 3).trans rfl, (blk_cell BK661.out 4).trans rfl, (blk_cell BK661.out 5).trans rfl⟩ (fun hHeld => ?_)
                clear hK K
                refine norm_ (a' := ?_) ?_ ?_
                rotate_left
                ·show Act.put _ (some 14) _ = _
                 simp only [Act.put, List.setIfInBounds_toArray, List.set_cons_zero, List.set_cons_succ, i64_w, i32_w]
                 rfl
                exact norm_ (by simp only [putAll, Act.put, List.setIfInBounds_toArray, List.set_cons_zero, List.set_cons_succ] <;> rfl) (hJ2_19_20 (gb691, gb692) _ ⟨hHeld, (BK659.out), (BK660.out), (BK661.out), (BK662.out), (BK674.out), (BK675.out), (BK691.out), (BK692.out), GE691.out, NB659_691.out, NB691_659.out, NB660_691.out, NB691_660.out, NB661_691.out, NB691_661.out, NB662_691.out, NB691_662.out, NB674_691.out, NB691_674.out, NB675_691.out, NB691_675.out, NB692_691.out, NB691_692.out, GE692.out, NB659_692.out, NB692_659.out, NB660_692.out, NB692_660.out, NB661_692.out, NB692_661.out, NB662_692.out, NB692_662.out, NB674_692.out, NB692_674.out, NB675_692.out, NB692_675.out, (HB.out)⟩)
               skip
               rintro _ w68 ⟨hS_, h0_, h1_, h2_, h3_, h4_, h5_, h6_⟩
               have n0_ : Aside0 (w68.heap[gb659]? = some (.cells #[.int .i64 a0_0, .int .i64 a0_1, .int .i64 a0_2] 23 (0, 0))) := ⟨h0_⟩
               have n1_ : Aside0 (w68.heap[gb660]? = some (.cells #[.int .i64 a1_0, .int .i64 a1_1, .int .i64 a1_2] 23 (0, 0))) := ⟨h1_⟩
               have n2_ : Aside0 (w68.heap[gb661]? = some (.cells #[.int .i64 a2_0, .int .i64 a2_1, .int .i64 a2_2, .int .i64 a2_3, .int .i64 a2_4, .int .i64 a2_5] 56 (0, 0))) := ⟨h2_⟩
               have n3_ : Aside0 (w68.heap[gb662]? = some (.cells #[.int .i64 a3_0, .int .i64 a3_1, .int .i64 a3_2] 23 (0, 0))) := ⟨h3_⟩
               have n4_ : Aside0 (w68.heap[gb674]? = some (.cells #[.int .i64 t668, .int .i64 t669] 28 (0, 0))) := ⟨h4_⟩
               have n5_ : Aside0 (w68.heap[gb675]? = some (.cells #[.int .i64 t670, .int .i64 t671] 28 (0, 0))) := ⟨h5_⟩
               have n6_ : Aside0 (Below w.heap.size w w68) := ⟨h6_⟩
               clear BK659
               clear BK660
               clear BK661
               clear BK662
               clear BK674
               clear BK675
               clear HB
               clear h0_ h1_ h2_ h3_ h4_ h5_ h6_
               have BK659 := n0_
               have BK660 := n1_
               have BK661 := n2_
               have BK662 := n3_
               have BK674 := n4_
               have BK675 := n5_
               have HB := n6_
               clear n0_ n1_ n2_ n3_ n4_ n5_ n6_
               have hHeld : w68.cell? ⟨gb659, 0, none⟩ = some (.int .i64 a0_0) ∧ w68.cell? ⟨gb659, 1, none⟩ = some (.int .i64 a0_1) ∧ w68.cell? ⟨gb659, 2, none⟩ = some (.int .i64 a0_2) ∧ w68.cell? ⟨gb662, 0, none⟩ = some (.int .i64 a3_0) ∧ w68.cell? ⟨gb662, 1, none⟩ = some (.int .i64 a3_1) ∧ w68.cell? ⟨gb662, 2, none⟩ = some (.int .i64 a3_2) ∧ w68.cell? ⟨gb660, 0, none⟩ = some (.int .i64 a1_0) ∧ w68.cell? ⟨gb660, 1, none⟩ = some (.int .i64 a1_1) ∧ w68.cell? ⟨gb660, 2, none⟩ = some (.int .i64 a1_2) ∧ w68.cell? ⟨gb661, 0, none⟩ = some (.int .i64 a2_0) ∧ w68.cell? ⟨gb661, 1, none⟩ = some (.int .i64 a2_1) ∧ w68.cell? ⟨gb661, 2, none⟩ = some (.int .i64 a2_2) ∧ w68.cell? ⟨gb661, 3, none⟩ = some (.int .i64 a2_3) ∧ w68.cell? ⟨gb661, 4, none⟩ = some (.int .i64 a2_4) ∧ w68.cell? ⟨gb661, 5, none⟩ = some (.int .i64 a2_5) := hS_
               refine norm_ (a' := ?_) ?_ ?_
               rotate_left
               ·simp only [putAll, Act.put, List.setIfInBounds_toArray, List.set_cons_zero, List.set_cons_succ]
                rfl
               refine three_ (i := 11) (j := 19) (k := 20) (Ni := some 60) (Nj := some 13) (Nk := some 14) #[true, true, true, true, true, true, true, true, true, true, true, true, false, false, false, false, false, false, false, false, false, false, false, false, false] #[true, true, true, true, true, true, true, true, true, true, true, false, false, false, false, false, false, false, false, true, false, false, false, false, false] #[true, true, true, true, true, true, true, true, true, true, true, false, false, false, false, false, false, false, false, false, true, false, false, false, false] rfl rfl rfl rfl rfl rfl (three_of HT_.out (by kernel_rfl)) (by decide) (by decide) (by decide) (fun K hK => ?_) (fun K hK => ?_) (fun K hK => ?_)
               ·skip
                refine goes_ Try.func24 (by kernel_rfl) rfl #[.agg #[.int .i64 a2_3, .int .i64 a2_4, .int .i64 a2_5], .agg #[.int .i64 a3_0, .int .i64 a3_1, .int .i64 a3_2]] (by rfl) rfl rfl (by (try simp only [List.map_toArray, List.map_cons, List.map_nil]); first | done | rfl | (simp only [List.length_drop, List.length_take]; rfl)) ?_
                with_reducible refine (relievoref02_Add.calls a2_3 a2_4 a2_5 a3_0 a3_1 a3_2 t682 t683 t684 _ A44.out).mono ?_
                rintro e w69 ⟨rfl, hb⟩
                refine ⟨_, rfl, ?_⟩
                replace BK659 := cB hb BK659
                replace BK660 := cB hb BK660
                replace BK661 := cB hb BK661
                replace BK662 := cB hb BK662
                replace BK674 := cB hb BK674
                replace BK675 := cB hb BK675
                replace HB := Aside0.mk (below_step (HB.out) hb)
                (try clear hb)
                (try clear hb2)
                (try clear hk)
                (try clear hi)
                refine hK.out _ _ ⟨(blk_cell BK659.out 0).trans rfl, (blk_cell BK659.out 1).trans rfl, (blk_cell BK659.out 2).trans rfl, (blk_cell BK662.out 0).trans rfl, (blk_cell BK662.out 1).trans rfl, (blk_cell BK662.out 2).trans rfl, (blk_cell BK660.out 0).trans rfl, (blk_cell BK660.out 1).trans rfl, (blk_cell BK660.out 2).trans rfl, (blk_cell BK661.out 0).trans rfl, (blk_cell BK661.out 1).trans rfl, (blk_cell BK661.out 2).trans rfl, (blk_cell BK661.out 3).trans rfl, (blk_cell BK661.out 4).trans rfl, (blk_cell BK661.out 5).trans rfl⟩ (fun hHeld => ?_)
                clear hK K
                refine norm_ (a' := ?_) ?_ ?_
                rotate_left
                ·show Act.put _ (some 60) _ = _
                 simp only [Act.put, List.setIfInBounds_toArray, List.set_cons_zero, List.set_cons_succ, i64_w, i32_w]
                 rfl
                refine pure_ (i := 12) (N := some 61) (v := ?_) (a' := ?_) #[true, true, true, true, true, true, true, true, true, true, true, true, true, false, false, false, false, false, false, false, false, false, false, false, false] rfl rfl (any_of HT_.out (by kernel_rfl)) (fun _ _ _ h => h) (Or.inl ⟨by rfl, ?_⟩) ?_ ?_
                rotate_left
                ·intro w'
                 go_simp
                 with_reducible rfl
                rotate_left
                ·simp only [Act.put, List.setIfInBounds_toArray, List.set_cons_zero, List.set_cons_succ, i64_w, i32_w]
                 rfl
                exact norm_ (by simp only [putAll, Act.put, List.setIfInBounds_toArray, List.set_cons_zero, List.set_cons_succ] <;> rfl) (hJ2_7_11 () _ ⟨hHeld, (BK659.out), (BK660.out), (BK661.out), (BK662.out), (BK674.out), (BK675.out), (HB.out)⟩)
               ·skip
                refine box_step ?hg (N := 13) ?hd (cs := #[.int .i64 0, .int .i64 0]) (t := 28) ?hr ?_; (case hd => rfl); (case hg => rfl); (case hr => first | (go_simp; done) | (go_simp; rfl))
                intro gb691 hg w69 hbox hb
                have BK691 := Aside0.mk (hbox)
                have GE691 := Aside0.mk (bG hg (HB.out))
                have NB659_691 := cN hg BK659
                have NB691_659 := cM hg BK659
                have NB660_691 := cN hg BK660
                have NB691_660 := cM hg BK660
                have NB661_691 := cN hg BK661
                have NB691_661 := cM hg BK661
                have NB662_691 := cN hg BK662
                have NB691_662 := cM hg BK662
                have NB674_691 := cN hg BK674
                have NB691_674 := cM hg BK674
                have NB675_691 := cN hg BK675
                have NB691_675 := cM hg BK675
                replace BK659 := cB hb BK659
                replace BK660 := cB hb BK660
                replace BK661 := cB hb BK661
                replace BK662 := cB hb BK662
                replace BK674 := cB hb BK674
                replace BK675 := cB hb BK675
                replace HB := Aside0.mk (below_step (HB.out) hb)
                clear hb hbox hg
                refine hK.out _ _ ⟨(blk_cell BK659.out 0).trans rfl, (blk_cell BK659.out 1).trans rfl, (blk_cell BK659.out 2).trans rfl, (blk_cell BK662.out 0).trans rfl, (blk_cell BK662.out 1).trans rfl, (blk_cell BK662.out 2).trans rfl, (blk_cell BK660.out 0).trans rfl, (blk_cell BK660.out 1).trans rfl, (blk_cell BK660.out 2).trans rfl, (blk_cell BK661.out 0).trans rfl, (blk_cell BK661.out 1).trans rfl, (blk_cell BK661.out 2).trans rfl, (blk_cell BK661.out 3).trans rfl, (blk_cell BK661.out 4).trans rfl, (blk_cell BK661.out 5).trans rfl⟩ (fun hHeld => ?_)
                clear hK K
                refine norm_ (a' := ?_) ?_ ?_
                rotate_left
                ·show Act.put _ (some 13) _ = _
                 simp only [Act.put, List.setIfInBounds_toArray, List.set_cons_zero, List.set_cons_succ, i64_w, i32_w]
                 rfl
                exact norm_ (by simp only [putAll, Act.put, List.setIfInBounds_toArray, List.set_cons_zero, List.set_cons_succ] <;> rfl) (hJ2_7_19 (gb691) _ ⟨hHeld, (BK659.out), (BK660.out), (BK661.out), (BK662.out), (BK674.out), (BK675.out), (BK691.out), GE691.out, NB659_691.out, NB691_659.out, NB660_691.out, NB691_660.out, NB661_691.out, NB691_661.out, NB662_691.out, NB691_662.out, NB674_691.out, NB691_674.out, NB675_691.out, NB691_675.out, (HB.out)⟩)
               skip
               refine box_step ?hg (N := 14) ?hd (cs := #[.int .i64 0, .int .i64 0]) (t := 28) ?hr ?_; (case hd => rfl); (case hg => rfl); (case hr => first | (go_simp; done) | (go_simp; rfl))
               intro gb692 hg w69 hbox hb
               have BK692 := Aside0.mk (hbox)
               have GE692 := Aside0.mk (bG hg (HB.out))
               have NB659_692 := cN hg BK659
               have NB692_659 := cM hg BK659
               have NB660_692 := cN hg BK660
               have NB692_660 := cM hg BK660
               have NB661_692 := cN hg BK661
               have NB692_661 := cM hg BK661
               have NB662_692 := cN hg BK662
               have NB692_662 := cM hg BK662
               have NB674_692 := cN hg BK674
               have NB692_674 := cM hg BK674
               have NB675_692 := cN hg BK675
               have NB692_675 := cM hg BK675
               replace BK659 := cB hb BK659
               replace BK660 := cB hb BK660
               replace BK661 := cB hb BK661
               replace BK662 := cB hb BK662
               replace BK674 := cB hb BK674
               replace BK675 := cB hb BK675
               replace HB := Aside0.mk (below_step (HB.out) hb)
               clear hb hbox hg
               refine hK.out _ _ ⟨(blk_cell BK659.out 0).trans rfl, (blk_cell BK659.out 1).trans rfl, (blk_cell BK659.out 2).trans rfl, (blk_cell BK662.out 0).trans rfl, (blk_cell BK662.out 1).trans rfl, (blk_cell BK662.out 2).trans rfl, (blk_cell BK660.out 0).trans rfl, (blk_cell BK660.out 1).trans rfl, (blk_cell BK660.out 2).trans rfl, (blk_cell BK661.out 0).trans rfl, (blk_cell BK661.out 1).trans rfl, (blk_cell BK661.out 2).trans rfl, (blk_cell BK661.out 3).trans rfl, (blk_cell BK661.out 4).trans rfl, (blk_cell BK661.out 5).trans rfl⟩ (fun hHeld => ?_)
               clear hK K
               refine norm_ (a' := ?_) ?_ ?_
               rotate_left
               ·show Act.put _ (some 14) _ = _
                simp only [Act.put, List.setIfInBounds_toArray, List.set_cons_zero, List.set_cons_succ, i64_w, i32_w]
                rfl
               exact norm_ (by simp only [putAll, Act.put, List.setIfInBounds_toArray, List.set_cons_zero, List.set_cons_succ] <;> rfl) (hJ2_7_20 (gb692) _ ⟨hHeld, (BK659.out), (BK660.out), (BK661.out), (BK662.out), (BK674.out), (BK675.out), (BK692.out), GE692.out, NB659_692.out, NB692_659.out, NB660_692.out, NB692_660.out, NB661_692.out, NB692_661.out, NB662_692.out, NB692_662.out, NB674_692.out, NB692_674.out, NB675_692.out, NB692_675.out, (HB.out)⟩)
              skip
              rintro ⟨gb691, gb692⟩ w69 ⟨hS_, h0_, h1_, h2_, h3_, h4_, h5_, h6_, h7_, h8_, h9_, h10_, h11_, h12_, h13_, h14_, h15_, h16_, h17_, h18_, h19_, h20_, h21_, h22_, h23_, h24_, h25_, h26_, h27_, h28_, h29_, h30_, h31_, h32_, h33_, h34_, h35_, h36_⟩
              have n0_ : Aside0 (w69.heap[gb659]? = some (.cells #[.int .i64 a0_0, .int .i64 a0_1, .int .i64 a0_2] 23 (0, 0))) := ⟨h0_⟩
              have n1_ : Aside0 (w69.heap[gb660]? = some (.cells #[.int .i64 a1_0, .int .i64 a1_1, .int .i64 a1_2] 23 (0, 0))) := ⟨h1_⟩
              have n2_ : Aside0 (w69.heap[gb661]? = some (.cells #[.int .i64 a2_0, .int .i64 a2_1, .int .i64 a2_2, .int .i64 a2_3, .int .i64 a2_4, .int .i64 a2_5] 56 (0, 0))) := ⟨h2_⟩
              have n3_ : Aside0 (w69.heap[gb662]? = some (.cells #[.int .i64 a3_0, .int .i64 a3_1, .int .i64 a3_2] 23 (0, 0))) := ⟨h3_⟩
              have n4_ : Aside0 (w69.heap[gb674]? = some (.cells #[.int .i64 t668, .int .i64 t669] 28 (0, 0))) := ⟨h4_⟩
              have n5_ : Aside0 (w69.heap[gb675]? = some (.cells #[.int .i64 t670, .int .i64 t671] 28 (0, 0))) := ⟨h5_⟩
              have n6_ : Aside0 (w69.heap[gb691]? = some (.cells #[.int .i64 0, .int .i64 0] 28 (0, 0))) := ⟨h6_⟩
              have n7_ : Aside0 (w69.heap[gb692]? = some (.cells #[.int .i64 0, .int .i64 0] 28 (0, 0))) := ⟨h7_⟩
              have GE691 : Aside0 (w.heap.size ≤ gb691) := ⟨h8_⟩
              have NB659_691 : Aside0 (gb659 ≠ gb691) := ⟨h9_⟩
              have NB691_659 : Aside0 (gb691 ≠ gb659) := ⟨h10_⟩
              have NB660_691 : Aside0 (gb660 ≠ gb691) := ⟨h11_⟩
              have NB691_660 : Aside0 (gb691 ≠ gb660) := ⟨h12_⟩
              have NB661_691 : Aside0 (gb661 ≠ gb691) := ⟨h13_⟩
              have NB691_661 : Aside0 (gb691 ≠ gb661) := ⟨h14_⟩
              have NB662_691 : Aside0 (gb662 ≠ gb691) := ⟨h15_⟩
              have NB691_662 : Aside0 (gb691 ≠ gb662) := ⟨h16_⟩
              have NB674_691 : Aside0 (gb674 ≠ gb691) := ⟨h17_⟩
              have NB691_674 : Aside0 (gb691 ≠ gb674) := ⟨h18_⟩
              have NB675_691 : Aside0 (gb675 ≠ gb691) := ⟨h19_⟩
              have NB691_675 : Aside0 (gb691 ≠ gb675) := ⟨h20_⟩
              have NB692_691 : Aside0 (gb692 ≠ gb691) := ⟨h21_⟩
              have NB691_692 : Aside0 (gb691 ≠ gb692) := ⟨h22_⟩
              have GE692 : Aside0 (w.heap.size ≤ gb692) := ⟨h23_⟩
              have NB659_692 : Aside0 (gb659 ≠ gb692) := ⟨h24_⟩
              have NB692_659 : Aside0 (gb692 ≠ gb659) := ⟨h25_⟩
              have NB660_692 : Aside0 (gb660 ≠ gb692) := ⟨h26_⟩
              have NB692_660 : Aside0 (gb692 ≠ gb660) := ⟨h27_⟩
              have NB661_692 : Aside0 (gb661 ≠ gb692) := ⟨h28_⟩
              have NB692_661 : Aside0 (gb692 ≠ gb661) := ⟨h29_⟩
              have NB662_692 : Aside0 (gb662 ≠ gb692) := ⟨h30_⟩
              have NB692_662 : Aside0 (gb692 ≠ gb662) := ⟨h31_⟩
              have NB674_692 : Aside0 (gb674 ≠ gb692) := ⟨h32_⟩
              have NB692_674 : Aside0 (gb692 ≠ gb674) := ⟨h33_⟩
              have NB675_692 : Aside0 (gb675 ≠ gb692) := ⟨h34_⟩
              have NB692_675 : Aside0 (gb692 ≠ gb675) := ⟨h35_⟩
              have n36_ : Aside0 (Below w.heap.size w w69) := ⟨h36_⟩
              clear BK659
              clear BK660
              clear BK661
              clear BK662
              clear BK674
              clear BK675
              clear HB
              clear h0_ h1_ h2_ h3_ h4_ h5_ h6_ h7_ h8_ h9_ h10_ h11_ h12_ h13_ h14_ h15_ h16_ h17_ h18_ h19_ h20_ h21_ h22_ h23_ h24_ h25_ h26_ h27_ h28_ h29_ h30_ h31_ h32_ h33_ h34_ h35_ h36_
              have BK659 := n0_
              have BK660 := n1_
              have BK661 := n2_
              have BK662 := n3_
              have BK674 := n4_
              have BK675 := n5_
              have BK691 := n6_
              have BK692 := n7_
              have HB := n36_
              clear n0_ n1_ n2_ n3_ n4_ n5_ n6_ n7_ n36_
              have hHeld : w69.cell? ⟨gb659, 0, none⟩ = some (.int .i64 a0_0) ∧ w69.cell? ⟨gb659, 1, none⟩ = some (.int .i64 a0_1) ∧ w69.cell? ⟨gb659, 2, none⟩ = some (.int .i64 a0_2) ∧ w69.cell? ⟨gb662, 0, none⟩ = some (.int .i64 a3_0) ∧ w69.cell? ⟨gb662, 1, none⟩ = some (.int .i64 a3_1) ∧ w69.cell? ⟨gb662, 2, none⟩ = some (.int .i64 a3_2) ∧ w69.cell? ⟨gb660, 0, none⟩ = some (.int .i64 a1_0) ∧ w69.cell? ⟨gb660, 1, none⟩ = some (.int .i64 a1_1) ∧ w69.cell? ⟨gb660, 2, none⟩ = some (.int .i64 a1_2) ∧ w69.cell? ⟨gb661, 0, none⟩ = some (.int .i64 a2_0) ∧ w69.cell? ⟨gb661, 1, none⟩ = some (.int .i64 a2_1) ∧ w69.cell? ⟨gb661, 2, none⟩ = some (.int .i64 a2_2) ∧ w69.cell? ⟨gb661, 3, none⟩ = some (.int .i64 a2_3) ∧ w69.cell? ⟨gb661, 4, none⟩ = some (.int .i64 a2_4) ∧ w69.cell? ⟨gb661, 5, none⟩ = some (.int .i64 a2_5) := hS_
              refine norm_ (a' := ?_) ?_ ?_
              rotate_left
              ·simp only [putAll, Act.put, List.setIfInBounds_toArray, List.set_cons_zero, List.set_cons_succ]
               rfl
              refine one_ (i := 7) (N := some 56) #[true, true, true, true, true, true, true, true, true, true, true, false, false, false, false, false, false, false, false, true, true, false, false, false, false] rfl rfl (one_of HT_.out (by kernel_rfl)) (by decide) (fun K hK => ?_)
              refine goes_ Try.func24 (by kernel_rfl) rfl #[.agg #[.int .i64 a2_0, .int .i64 a2_1, .int .i64 a2_2], .agg #[.int .i64 a3_0, .int .i64 a3_1, .int .i64 a3_2]] (by rfl) rfl rfl (by (try simp only [List.map_toArray, List.map_cons, List.map_nil]); first | done | rfl | (simp only [List.length_drop, List.length_take]; rfl)) ?_
              with_reducible refine (relievoref02_Add.calls a2_0 a2_1 a2_2 a3_0 a3_1 a3_2 t679 t680 t681 _ A43.out).mono ?_
              rintro e w70 ⟨rfl, hb⟩
              refine ⟨_, rfl, ?_⟩
              replace BK659 := cB hb BK659
              replace BK660 := cB hb BK660
              replace BK661 := cB hb BK661
              replace BK662 := cB hb BK662
              replace BK674 := cB hb BK674
              replace BK675 := cB hb BK675
              replace BK691 := cB hb BK691
              replace BK692 := cB hb BK692
              replace HB := Aside0.mk (below_step (HB.out) hb)
              (try clear hb)
              (try clear hb2)
              (try clear hk)
              (try clear hi)
              refine hK.out _ _ ⟨(blk_cell BK659.out 0).trans rfl, (blk_cell BK659.out 1).trans rfl, (blk_cell BK659.out 2).trans rfl, (blk_cell BK662.out 0).trans rfl, (blk_cell BK662.out 1).trans rfl, (blk_cell BK662.out 2).trans rfl, (blk_cell BK660.out 0).trans rfl, (blk_cell BK660.out 1).trans rfl, (blk_cell BK660.out 2).trans rfl, (blk_cell BK661.out 0).trans rfl, (blk_cell BK661.out 1).trans rfl, (blk_cell BK661.out 2).trans rfl, (blk_cell BK661.out 3).trans rfl, (blk_cell BK661.out 4).trans rfl, (blk_cell BK661.out 5).trans rfl⟩ (fun hHeld => ?_)
              clear hK K
              refine norm_ (a' := ?_) ?_ ?_
              rotate_left
              ·show Act.put _ (some 56) _ = _
               simp only [Act.put, List.setIfInBounds_toArray, List.set_cons_zero, List.set_cons_succ, i64_w, i32_w]
               rfl
              exact norm_ (by simp only [putAll, Act.put, List.setIfInBounds_toArray, List.set_cons_zero, List.set_cons_succ] <;> rfl) (hJ2_7_19_20 (gb691, gb692) _ ⟨hHeld, (BK659.out), (BK660.out), (BK661.out), (BK662.out), (BK674.out), (BK675.out), (BK691.out), (BK692.out), GE691.out, NB659_691.out, NB691_659.out, NB660_691.out, NB691_660.out, NB661_691.out, NB691_661.out, NB662_691.out, NB691_662.out, NB674_691.out, NB691_674.out, NB675_691.out, NB691_675.out, NB692_691.out, NB691_692.out, GE692.out, NB659_692.out, NB692_659.out, NB660_692.out, NB692_660.out, NB661_692.out, NB692_661.out, NB662_692.out, NB692_662.out, NB674_692.out, NB692_674.out, NB675_692.out, NB692_675.out, (HB.out)⟩)
             skip
             rintro gb692 w69 ⟨hS_, h0_, h1_, h2_, h3_, h4_, h5_, h6_, h7_, h8_, h9_, h10_, h11_, h12_, h13_, h14_, h15_, h16_, h17_, h18_, h19_, h20_⟩
             have n0_ : Aside0 (w69.heap[gb659]? = some (.cells #[.int .i64 a0_0, .int .i64 a0_1, .int .i64 a0_2] 23 (0, 0))) := ⟨h0_⟩
             have n1_ : Aside0 (w69.heap[gb660]? = some (.cells #[.int .i64 a1_0, .int .i64 a1_1, .int .i64 a1_2] 23 (0, 0))) := ⟨h1_⟩
             have n2_ : Aside0 (w69.heap[gb661]? = some (.cells #[.int .i64 a2_0, .int .i64 a2_1, .int .i64 a2_2, .int .i64 a2_3, .int .i64 a2_4, .int .i64 a2_5] 56 (0, 0))) := ⟨h2_⟩
             have n3_ : Aside0 (w69.heap[gb662]? = some (.cells #[.int .i64 a3_0, .int .i64 a3_1, .int .i64 a3_2] 23 (0, 0))) := ⟨h3_⟩
             have n4_ : Aside0 (w69.heap[gb674]? = some (.cells #[.int .i64 t668, .int .i64 t669] 28 (0, 0))) := ⟨h4_⟩
             have n5_ : Aside0 (w69.heap[gb675]? = some (.cells #[.int .i64 t670, .int .i64 t671] 28 (0, 0))) := ⟨h5_⟩
             have n6_ : Aside0 (w69.heap[gb692]? = some (.cells #[.int .i64 0, .int .i64 0] 28 (0, 0))) := ⟨h6_⟩
             have GE692 : Aside0 (w.heap.size ≤ gb692) := ⟨h7_⟩
             have NB659_692 : Aside0 (gb659 ≠ gb692) := ⟨h8_⟩
             have NB692_659 : Aside0 (gb692 ≠ gb659) := ⟨h9_⟩
             have NB660_692 : Aside0 (gb660 ≠ gb692) := ⟨h10_⟩
             have NB692_660 : Aside0 (gb692 ≠ gb660) := ⟨h11_⟩
             have NB661_692 : Aside0 (gb661 ≠ gb692) := ⟨h12_⟩
             have NB692_661 : Aside0 (gb692 ≠ gb661) := ⟨h13_⟩
             have NB662_692 : Aside0 (gb662 ≠ gb692) := ⟨h14_⟩
             have NB692_662 : Aside0 (gb692 ≠ gb662) := ⟨h15_⟩
             have NB674_692 : Aside0 (gb674 ≠ gb692) := ⟨h16_⟩
             have NB692_674 : Aside0 (gb692 ≠ gb674) := ⟨h17_⟩
             have NB675_692 : Aside0 (gb675 ≠ gb692) := ⟨h18_⟩
             have NB692_675 : Aside0 (gb692 ≠ gb675) := ⟨h19_⟩
             have n20_ : Aside0 (Below w.heap.size w w69) := ⟨h20_⟩
             clear BK659
             clear BK660
             clear BK661
             clear BK662
             clear BK674
             clear BK675
             clear HB
             clear h0_ h1_ h2_ h3_ h4_ h5_ h6_ h7_ h8_ h9_ h10_ h11_ h12_ h13_ h14_ h15_ h16_ h17_ h18_ h19_ h20_
             have BK659 := n0_
             have BK660 := n1_
             have BK661 := n2_
             have BK662 := n3_
             have BK674 := n4_
             have BK675 := n5_
             have BK692 := n6_
             have HB := n20_
             clear n0_ n1_ n2_ n3_ n4_ n5_ n6_ n20_
             have hHeld : w69.cell? ⟨gb659, 0, none⟩ = some (.int .i64 a0_0) ∧ w69.cell? ⟨gb659, 1, none⟩ = some (.int .i64 a0_1) ∧ w69.cell? ⟨gb659, 2, none⟩ = some (.int .i64 a0_2) ∧ w69.cell? ⟨gb662, 0, none⟩ = some (.int .i64 a3_0) ∧ w69.cell? ⟨gb662, 1, none⟩ = some (.int .i64 a3_1) ∧ w69.cell? ⟨gb662, 2, none⟩ = some (.int .i64 a3_2) ∧ w69.cell? ⟨gb660, 0, none⟩ = some (.int .i64 a1_0) ∧ w69.cell? ⟨gb660, 1, none⟩ = some (.int .i64 a1_1) ∧ w69.cell? ⟨gb660, 2, none⟩ = some (.int .i64 a1_2) ∧ w69.cell? ⟨gb661, 0, none⟩ = some (.int .i64 a2_0) ∧ w69.cell? ⟨gb661, 1, none⟩ = some (.int .i64 a2_1) ∧ w69.cell? ⟨gb661, 2, none⟩ = some (.int .i64 a2_2) ∧ w69.cell? ⟨gb661, 3, none⟩ = some (.int .i64 a2_3) ∧ w69.cell? ⟨gb661, 4, none⟩ = some (.int .i64 a2_4) ∧ w69.cell? ⟨gb661, 5, none⟩ = some (.int .i64 a2_5) := hS_
             refine norm_ (a' := ?_) ?_ ?_
             rotate_left
             ·simp only [putAll, Act.put, List.setIfInBounds_toArray, List.set_cons_zero, List.set_cons_succ]
              rfl
             refine two_ (i := 11) (j := 19) (Ni := some 60) (Nj := some 13) #[true, true, true, true, true, true, true, true, true, true, true, true, false, false, false, false, false, false, false, false, true, false, false, false, false] #[true, true, true, true, true, true, true, true, true, true, true, false, false, false, false, false, false, false, false, true, true, false, false, false, false] rfl rfl rfl rfl (two_of HT_.out (by kernel_rfl)) (by decide) (by decide) (fun K hK => ?_) (fun K hK => ?_)
             ·skip
              refine goes_ Try.func24 (by kernel_rfl) rfl #[.agg #[.int .i64 a2_3, .int .i64 a2_4, .int .i64 a2_5], .agg #[.int .i64 a3_0, .int .i64 a3_1, .int .i64 a3_2]] (by rfl) rfl rfl (by (try simp only [List.map_toArray, List.map_cons, List.map_nil]); first | done | rfl | (simp only [List.length_drop, List.length_take]; rfl)) ?_
              with_reducible refine (relievoref02_Add.calls a2_3 a2_4 a2_5 a3_0 a3_1 a3_2 t682 t683 t684 _ A44.out).mono ?_
              rintro e w70 ⟨rfl, hb⟩
              refine ⟨_, rfl, ?_⟩
              replace BK659 := cB hb BK659
              replace BK660 := cB hb BK660
              replace BK661 := cB hb BK661
              replace BK662 := cB hb BK662
              replace BK674 := cB hb BK674
              replace BK675 := cB hb BK675
              replace BK692 := cB hb BK692
              replace HB := Aside0.mk (below_step (HB.out) hb)
              (try clear hb)
              (try clear hb2)
              (try clear hk)
              (try clear hi)
              refine hK.out _ _ ⟨(blk_cell BK659.out 0).trans rfl, (blk_cell BK659.out 1).trans rfl, (blk_cell BK659.out 2).trans rfl, (blk_cell BK662.out 0).trans rfl, (blk_cell BK662.out 1).trans rfl, (blk_cell BK662.out 2).trans rfl, (blk_cell BK660.out 0).trans rfl, (blk_cell BK660.out 1).trans rfl, (blk_cell BK660.out 2).trans rfl, (blk_cell BK661.out 0).trans rfl, (blk_cell BK661.out 1).trans rfl, (blk_cell BK661.out 2).trans rfl, (blk_cell BK661.out 3).trans rfl, (blk_cell BK661.out 4).trans rfl, (blk_cell BK661.out 5).trans rfl⟩ (fun hHeld => ?_)
              clear hK K
              refine norm_ (a' := ?_) ?_ ?_
              rotate_left
              ·show Act.put _ (some 60) _ = _
               simp only [Act.put, List.setIfInBounds_toArray, List.set_cons_zero, List.set_cons_succ, i64_w, i32_w]
               rfl
              refine pure_ (i := 12) (N := some 61) (v := ?_) (a' := ?_) #[true, true, true, true, true, true, true, true, true, true, true, true, true, false, false, false, false, false, false, false, true, false, false, false, false] rfl rfl (any_of HT_.out (by kernel_rfl)) (fun _ _ _ h => h) (Or.inl ⟨by rfl, ?_⟩) ?_ ?_
              rotate_left
              ·intro w'
               go_simp
               with_reducible rfl
              rotate_left
              ·simp only [Act.put, List.setIfInBounds_toArray, List.set_cons_zero, List.set_cons_succ, i64_w, i32_w]
               rfl
              exact norm_ (by simp only [putAll, Act.put, List.setIfInBounds_toArray, List.set_cons_zero, List.set_cons_succ] <;> rfl) (hJ2_7_11_20 (gb692) _ ⟨hHeld, (BK659.out), (BK660.out), (BK661.out), (BK662.out), (BK674.out), (BK675.out), (BK692.out), GE692.out, NB659_692.out, NB692_659.out, NB660_692.out, NB692_660.out, NB661_692.out, NB692_661.out, NB662_692.out, NB692_662.out, NB674_692.out, NB692_674.out, NB675_692.out, NB692_675.out, (HB.out)⟩)
             skip
             refine box_step ?hg (N := 13) ?hd (cs := #[.int .i64 0, .int .i64 0]) (t := 28) ?hr ?_; (case hd => rfl); (case hg => rfl); (case hr => first | (go_simp; done) | (go_simp; rfl))
             intro gb691 hg w70 hbox hb
             have BK691 := Aside0.mk (hbox)
             have GE691 := Aside0.mk (bG hg (HB.out))
             have NB659_691 := cN hg BK659
             have NB691_659 := cM hg BK659
             have NB660_691 := cN hg BK660
             have NB691_660 := cM hg BK660
             have NB661_691 := cN hg BK661
             have NB691_661 := cM hg BK661
             have NB662_691 := cN hg BK662
             have NB691_662 := cM hg BK662
             have NB674_691 := cN hg BK674
             have NB691_674 := cM hg BK674
             have NB675_691 := cN hg BK675
             have NB691_675 := cM hg BK675
             have NB692_691 := cN hg BK692
             have NB691_692 := cM hg BK692
             replace BK659 := cB hb BK659
             replace BK660 := cB hb BK660
             replace BK661 := cB hb BK661
             replace BK662 := cB hb BK662
             replace BK674 := cB hb BK674
             replace BK675 := cB hb BK675
             replace BK692 := cB hb BK692
             replace HB := Aside0.mk (below_step (HB.out) hb)
             clear hb hbox hg
             refine hK.out _ _ ⟨(blk_cell BK659.out 0).trans rfl, (blk_cell BK659.out 1).trans rfl, (blk_cell BK659.out 2).trans rfl, (blk_cell BK662.out 0).trans rfl, (blk_cell BK662.out 1).trans rfl, (blk_cell BK662.out 2).trans rfl, (blk_cell BK660.out 0).trans rfl, (blk_cell BK660.out 1).trans rfl, (blk_cell BK660.out 2).trans rfl, (blk_cell BK661.out 0).trans rfl, (blk_cell BK661.out 1).trans rfl, (blk_cell BK661.out 2).trans rfl, (blk_cell BK661.out 3).trans rfl, (blk_cell BK661.out 4).trans rfl, (blk_cell BK661.out 5).trans rfl⟩ (fun hHeld => ?_)
             clear hK K
             refine norm_ (a' := ?_) ?_ ?_
             rotate_left
             ·show Act.put _ (some 13) _ = _
              simp only [Act.put, List.setIfInBounds_toArray, List.set_cons_zero, List.set_cons_succ, i64_w, i32_w]
              rfl
             exact norm_ (by simp only [putAll, Act.put, List.setIfInBounds_toArray, List.set_cons_zero, List.set_cons_succ] <;> rfl) (hJ2_7_19_20 (gb691, gb692) _ ⟨hHeld, (BK659.out), (BK660.out), (BK661.out), (BK662.out), (BK674.out), (BK675.out), (BK691.out), (BK692.out), GE691.out, NB659_691.out, NB691_659.out, NB660_691.out, NB691_660.out, NB661_691.out, NB691_661.out, NB662_691.out, NB691_662.out, NB674_691.out, NB691_674.out, NB675_691.out, NB691_675.out, NB692_691.out, NB691_692.out, GE692.out, NB659_692.out, NB692_659.out, NB660_692.out, NB692_660.out, NB661_692.out, NB692_661.out, NB662_692.out, NB692_662.out, NB674_692.out, NB692_674.out, NB675_692.out, NB692_675.out, (HB.out)⟩)
            skip
            rintro gb691 w69 ⟨hS_, h0_, h1_, h2_, h3_, h4_, h5_, h6_, h7_, h8_, h9_, h10_, h11_, h12_, h13_, h14_, h15_, h16_, h17_, h18_, h19_, h20_⟩
            have n0_ : Aside0 (w69.heap[gb659]? = some (.cells #[.int .i64 a0_0, .int .i64 a0_1, .int .i64 a0_2] 23 (0, 0))) := ⟨h0_⟩
            have n1_ : Aside0 (w69.heap[gb660]? = some (.cells #[.int .i64 a1_0, .int .i64 a1_1, .int .i64 a1_2] 23 (0, 0))) := ⟨h1_⟩
            have n2_ : Aside0 (w69.heap[gb661]? = some (.cells #[.int .i64 a2_0, .int .i64 a2_1, .int .i64 a2_2, .int .i64 a2_3, .int .i64 a2_4, .int .i64 a2_5] 56 (0, 0))) := ⟨h2_⟩
            have n3_ : Aside0 (w69.heap[gb662]? = some (.cells #[.int .i64 a3_0, .int .i64 a3_1, .int .i64 a3_2] 23 (0, 0))) := ⟨h3_⟩
            have n4_ : Aside0 (w69.heap[gb674]? = some (.cells #[.int .i64 t668, .int .i64 t669] 28 (0, 0))) := ⟨h4_⟩
            have n5_ : Aside0 (w69.heap[gb675]? = some (.cells #[.int .i64 t670, .int .i64 t671] 28 (0, 0))) := ⟨h5_⟩
            have n6_ : Aside0 (w69.heap[gb691]? = some (.cells #[.int .i64 0, .int .i64 0] 28 (0, 0))) := ⟨h6_⟩
            have GE691 : Aside0 (w.heap.size ≤ gb691) := ⟨h7_⟩
            have NB659_691 : Aside0 (gb659 ≠ gb691) := ⟨h8_⟩
            have NB691_659 : Aside0 (gb691 ≠ gb659) := ⟨h9_⟩
            have NB660_691 : Aside0 (gb660 ≠ gb691) := ⟨h10_⟩
            have NB691_660 : Aside0 (gb691 ≠ gb660) := ⟨h11_⟩
            have NB661_691 : Aside0 (gb661 ≠ gb691) := ⟨h12_⟩
            have NB691_661 : Aside0 (gb691 ≠ gb661) := ⟨h13_⟩
            have NB662_691 : Aside0 (gb662 ≠ gb691) := ⟨h14_⟩
            have NB691_662 : Aside0 (gb691 ≠ gb662) := ⟨h15_⟩
            have NB674_691 : Aside0 (gb674 ≠ gb691) := ⟨h16_⟩
            have NB691_674 : Aside0 (gb691 ≠ gb674) := ⟨h17_⟩
            have NB675_691 : Aside0 (gb675 ≠ gb691) := ⟨h18_⟩
            have NB691_675 : Aside0 (gb691 ≠ gb675) := ⟨h19_⟩
            have n20_ : Aside0 (Below w.heap.size w w69) := ⟨h20_⟩
            clear BK659
            clear BK660
            clear BK661
            clear BK662
            clear BK674
            clear BK675
            clear HB
            clear h0_ h1_ h2_ h3_ h4_ h5_ h6_ h7_ h8_ h9_ h10_ h11_ h12_ h13_ h14_ h15_ h16_ h17_ h18_ h19_ h20_
            have BK659 := n0_
            have BK660 := n1_
            have BK661 := n2_
            have BK662 := n3_
            have BK674 := n4_
            have BK675 := n5_
            have BK691 := n6_
            have HB := n20_
            clear n0_ n1_ n2_ n3_ n4_ n5_ n6_ n20_
            have hHeld : w69.cell? ⟨gb659, 0, none⟩ = some (.int .i64 a0_0) ∧ w69.cell? ⟨gb659, 1, none⟩ = some (.int .i64 a0_1) ∧ w69.cell? ⟨gb659, 2, none⟩ = some (.int .i64 a0_2) ∧ w69.cell? ⟨gb662, 0, none⟩ = some (.int .i64 a3_0) ∧ w69.cell? ⟨gb662, 1, none⟩ = some (.int .i64 a3_1) ∧ w69.cell? ⟨gb662, 2, none⟩ = some (.int .i64 a3_2) ∧ w69.cell? ⟨gb660, 0, none⟩ = some (.int .i64 a1_0) ∧ w69.cell? ⟨gb660, 1, none⟩ = some (.int .i64 a1_1) ∧ w69.cell? ⟨gb660, 2, none⟩ = some (.int .i64 a1_2) ∧ w69.cell? ⟨gb661, 0, none⟩ = some (.int .i64 a2_0) ∧ w69.cell? ⟨gb661, 1, none⟩ = some (.int .i64 a2_1) ∧ w69.cell? ⟨gb661, 2, none⟩ = some (.int .i64 a2_2) ∧ w69.cell? ⟨gb661, 3, none⟩ = some (.int .i64 a2_3) ∧ w69.cell? ⟨gb661, 4, none⟩ = some (.int .i64 a2_4) ∧ w69.cell? ⟨gb661, 5, none⟩ = some (.int .i64 a2_5) := hS_
            refine norm_ (a' := ?_) ?_ ?_
            rotate_left
            ·simp only [putAll, Act.put, List.setIfInBounds_toArray, List.set_cons_zero, List.set_cons_succ]
             rfl
            refine two_ (i := 11) (j := 20) (Ni := some 60) (Nj := some 14) #[true, true, true, true, true, true, true, true, true, true, true, true, false, false, false, false, false, false, false, true, false, false, false, false, false] #[true, true, true, true, true, true, true, true, true, true, true, false, false, false, false, false, false, false, false, true, true, false, false, false, false] rfl rfl rfl rfl (two_of HT_.out (by kernel_rfl)) (by decide) (by decide) (fun K hK => ?_) (fun K hK => ?_)
            ·skip
             refine goes_ Try.func24 (by kernel_rfl) rfl #[.agg #[.int .i64 a2_3, .int .i64 a2_4, .int .i64 a2_5], .agg #[.int .i64 a3_0, .int .i64 a3_1, .int .i64 a3_2]] (by rfl) rfl rfl (by (try simp only [List.map_toArray, List.map_cons, List.map_nil]); first | done | rfl | (simp only [List.length_drop, List.length_take]; rfl)) ?_
             with_reducible refine (relievoref02_Add.calls a2_3 a2_4 a2_5 a3_0 a3_1 a3_2 t682 t683 t684 _ A44.out).mono ?_
             rintro e w70 ⟨rfl, hb⟩
             refine ⟨_, rfl, ?_⟩
             replace BK659 := cB hb BK659
             replace BK660 := cB hb BK660
             replace BK661 := cB hb BK661
             replace BK662 := cB hb BK662
             replace BK674 := cB hb BK674
             replace BK675 := cB hb BK675
             replace BK691 := cB hb BK691
             replace HB := Aside0.mk (below_step (HB.out) hb)
             (try clear hb)
             (try clear hb2)
             (try clear hk)
             (try clear hi)
             refine hK.out _ _ ⟨(blk_cell BK659.out 0).trans rfl, (blk_cell BK659.out 1).trans rfl, (blk_cell BK659.out 2).trans rfl, (blk_cell BK662.out 0).trans rfl, (blk_cell BK662.out 1).trans rfl, (blk_cell BK662.out 2).trans rfl, (blk_cell BK660.out 0).trans rfl, (blk_cell BK660.out 1).trans rfl, (blk_cell BK660.out 2).trans rfl, (blk_cell BK661.out 0).trans rfl, (blk_cell BK661.out 1).trans rfl, (blk_cell BK661.out 2).trans rfl, (blk_cell BK661.out 3).trans rfl, (blk_cell BK661.out 4).trans rfl, (blk_cell BK661.out 5).trans rfl⟩ (fun hHeld => ?_)
             clear hK K
             refine norm_ (a' := ?_) ?_ ?_
             rotate_left
             ·show Act.put _ (some 60) _ = _
              simp only [Act.put, List.setIfInBounds_toArray, List.set_cons_zero, List.set_cons_succ, i64_w, i32_w]
              rfl
             refine pure_ (i := 12) (N := some 61) (v := ?_) (a' := ?_) #[true, true, true, true, true, true, true, true, true, true, true, true, true, false, false, false, false, false, false, true, false, false, false, false, false] rfl rfl (any_of HT_.out (by kernel_rfl)) (fun _ _ _ h => h) (Or.inl ⟨by rfl, ?_⟩) ?_ ?_
             rotate_left
             ·intro w'
              go_simp
              with_reducible rfl
             rotate_left
             ·simp only [Act.put, List.setIfInBounds_toArray, List.set_cons_zero, List.set_cons_succ, i64_w, i32_w]
              rfl
             exact norm_ (by simp only [putAll, Act.put, List.setIfInBounds_toArray, List.set_cons_zero, List.set_cons_succ] <;> rfl) (hJ2_7_11_19 (gb691) _ ⟨hHeld, (BK659.out), (BK660.out), (BK661.out), (BK662.out), (BK674.out), (BK675.out), (BK691.out), GE691.out, NB659_691.out, NB691_659.out, NB660_691.out, NB691_660.out, NB661_691.out, NB691_661.out, NB662_691.out, NB691_662.out, NB674_691.out, NB691_674.out, NB675_691.out, NB691_675.out, (HB.out)⟩)
            skip
            refine box_step ?hg (N := 14) ?hd (cs := #[.int .i64 0, .int .i64 0]) (t := 28) ?hr ?_; (case hd => rfl); (case hg => rfl); (case hr => first | (go_simp; done) | (go_simp; rfl))
            intro gb692 hg w70 hbox hb
            have BK692 := Aside0.mk (hbox)
            have GE692 := Aside0.mk (bG hg (HB.out))
            have NB659_692 := cN hg BK659
            have NB692_659 := cM hg BK659
            have NB660_692 := cN hg BK660
            have NB692_660 := cM hg BK660
            have NB661_692 := cN hg BK661
            have NB692_661 := cM hg BK661
            have NB662_692 := cN hg BK662
            have NB692_662 := cM hg BK662
            have NB674_692 := cN hg BK674
            have NB692_674 := cM hg BK674
            have NB675_692 := cN hg BK675
            have NB692_675 := cM hg BK675
            have NB691_692 := cN hg BK691
            have NB692_691 := cM hg BK691
            replace BK659 := cB hb BK659
            replace BK660 := cB hb BK660
            replace BK661 := cB hb BK661
            replace BK662 := cB hb BK662
            replace BK674 := cB hb BK674
            replace BK675 := cB hb BK675
            replace BK691 := cB hb BK691
            replace HB := Aside0.mk (below_step (HB.out) hb)
            clear hb hbox hg
            refine hK.out _ _ ⟨(blk_cell BK659.out 0).trans rfl, (blk_cell BK659.out 1).trans rfl, (blk_cell BK659.out 2).trans rfl, (blk_cell BK662.out 0).trans rfl, (blk_cell BK662.out 1).trans rfl, (blk_cell BK662.out 2).trans rfl, (blk_cell BK660.out 0).trans rfl, (blk_cell BK660.out 1).trans rfl, (blk_cell BK660.out 2).trans rfl, (blk_cell BK661.out 0).trans rfl, (blk_cell BK661.out 1).trans rfl, (blk_cell BK661.out 2).trans rfl, (blk_cell BK661.out 3).trans rfl, (blk_cell BK661.out 4).trans rfl, (blk_cell BK661.out 5).trans rfl⟩ (fun hHeld => ?_)
            clear hK K
            refine norm_ (a' := ?_) ?_ ?_
            rotate_left
            ·show Act.put _ (some 14) _ = _
             simp only [Act.put, List.setIfInBounds_toArray, List.set_cons_zero, List.set_cons_succ, i64_w, i32_w]
             rfl
            exact norm_ (by simp only [putAll, Act.put, List.setIfInBounds_toArray, List.set_cons_zero, List.set_cons_succ] <;> rfl) (hJ2_7_19_20 (gb691, gb692) _ ⟨hHeld, (BK659.out), (BK660.out), (BK661.out), (BK662.out), (BK674.out), (BK675.out), (BK691.out), (BK692.out), GE691.out, NB659_691.out, NB691_659.out, NB660_691.out, NB691_660.out, NB661_691.out, NB691_661.out, NB662_691.out, NB691_662.out, NB674_691.out, NB691_674.out, NB675_691.out, NB691_675.out, NB692_691.out, NB691_692.out, GE692.out, NB659_692.out, NB692_659.out, NB660_692.out, NB692_660.out, NB661_692.out, NB692_661.out, NB662_692.out, NB692_662.out, NB674_692.out, NB692_674.out, NB675_692.out, NB692_675.out, (HB.out)⟩)
           skip
           rintro _ w69 ⟨hS_, h0_, h1_, h2_, h3_, h4_, h5_, h6_⟩
           have n0_ : Aside0 (w69.heap[gb659]? = some (.cells #[.int .i64 a0_0, .int .i64 a0_1, .int .i64 a0_2] 23 (0, 0))) := ⟨h0_⟩
           have n1_ : Aside0 (w69.heap[gb660]? = some (.cells #[.int .i64 a1_0, .int .i64 a1_1, .int .i64 a1_2] 23 (0, 0))) := ⟨h1_⟩
           have n2_ : Aside0 (w69.heap[gb661]? = some (.cells #[.int .i64 a2_0, .int .i64 a2_1, .int .i64 a2_2, .int .i64 a2_3, .int .i64 a2_4, .int .i64 a2_5] 56 (0, 0))) := ⟨h2_⟩
           have n3_ : Aside0 (w69.heap[gb662]? = some (.cells #[.int .i64 a3_0, .int .i64 a3_1, .int .i64 a3_2] 23 (0, 0))) := ⟨h3_⟩
           have n4_ : Aside0 (w69.heap[gb674]? = some (.cells #[.int .i64 t668, .int .i64 t669] 28 (0, 0))) := ⟨h4_⟩
           have n5_ : Aside0 (w69.heap[gb675]? = some (.cells #[.int .i64 t670, .int .i64 t671] 28 (0, 0))) := ⟨h5_⟩
           have n6_ : Aside0 (Below w.heap.size w w69) := ⟨h6_⟩
           clear BK659
           clear BK660
           clear BK661
           clear BK662
           clear BK674
           clear BK675
           clear HB
           clear h0_ h1_ h2_ h3_ h4_ h5_ h6_
           have BK659 := n0_
           have BK660 := n1_
           have BK661 := n2_
           have BK662 := n3_
           have BK674 := n4_
           have BK675 := n5_
           have HB := n6_
           clear n0_ n1_ n2_ n3_ n4_ n5_ n6_
           have hHeld : w69.cell? ⟨gb659, 0, none⟩ = some (.int .i64 a0_0) ∧ w69.cell? ⟨gb659, 1, none⟩ = some (.int .i64 a0_1) ∧ w69.cell? ⟨gb659, 2, none⟩ = some (.int .i64 a0_2) ∧ w69.cell? ⟨gb662, 0, none⟩ = some (.int .i64 a3_0) ∧ w69.cell? ⟨gb662, 1, none⟩ = some (.int .i64 a3_1) ∧ w69.cell? ⟨gb662, 2, none⟩ = some (.int .i64 a3_2) ∧ w69.cell? ⟨gb660, 0, none⟩ = some (.int .i64 a1_0) ∧ w69.cell? ⟨gb660, 1, none⟩ = some (.int .i64 a1_1) ∧ w69.cell? ⟨gb660, 2, none⟩ = some (.int .i64 a1_2) ∧ w69.cell? ⟨gb661, 0, none⟩ = some (.int .i64 a2_0) ∧ w69.cell? ⟨gb661, 1, none⟩ = some (.int .i64 a2_1) ∧ w69.cell? ⟨gb661, 2, none⟩ = some (.int .i64 a2_2) ∧ w69.cell? ⟨gb661, 3, none⟩ = some (.int .i64 a2_3) ∧ w69.cell? ⟨gb661, 4, none⟩ = some (.int .i64 a2_4) ∧ w69.cell? ⟨gb661, 5, none⟩ = some (.int .i64 a2_5) := hS_
           refine norm_ (a' := ?_) ?_ ?_
           rotate_left
           ·simp only [putAll, Act.put, List.setIfInBounds_toArray, List.set_cons_zero, List.set_cons_succ]
            rfl
           refine three_ (i := 13) (j := 19) (k := 20) (Ni := some 62) (Nj := some 13) (Nk := some 14) #[true, true, true, true, true, true, true, true, true, true, true, true, true, true, false, false, false, false, false, false, false, false, false, false, false] #[true, true, true, true, true, true, true, true, true, true, true, true, true, false, false, false, false, false, false, true, false, false, false, false, false] #[true, true, true, true, true, true, true, true, true, true, true, true, true, false, false, false, false, false, false, false, true, false, false, false, false] rfl rfl rfl rfl rfl rfl (three_of HT_.out (by kernel_rfl)) (by decide) (by decide) (by decide) (fun K hK => ?_) (fun K hK => ?_) (fun K hK => ?_)
           ·skip
            refine goes_ Try.func32 (by kernel_rfl) rfl #[.agg #[.int .i64 t676, .int .i64 t677, .int .i64 t678], .agg #[.int .i64 a1_0, .int .i64 a1_1, .int .i64 a1_2], .agg #[.int .i64 t679, .int .i64 t680, .int .i64 t681, .int .i64 t682, .int .i64 t683, .int .i64 t684]] (by rfl) rfl rfl (by (try simp only [List.map_toArray, List.map_cons, List.map_nil]); first | done | rfl | (simp only [List.length_drop, List.length_take]; rfl)) ?_
            with_reducible refine (slab_Range.calls kj6 t676 t677 t678 a1_0 a1_1 a1_2 t679 t680 t681 t682 t683 t684 t685 t686 t687 t688 t689 t690 _ A45.out).mono ?_
            rintro e w70 ⟨rfl, hb⟩
            refine ⟨_, rfl, ?_⟩
            replace BK659 := cB hb BK659
            replace BK660 := cB hb BK660
            replace BK661 := cB hb BK661
            replace BK662 := cB hb BK662
            replace BK674 := cB hb BK674
            replace BK675 := cB hb BK675
            replace HB := Aside0.mk (below_step (HB.out) hb)
            (try clear hb)
            (try clear hb2)
            (try clear hk)
            (try clear hi)
            refine hK.out _ _ ⟨(blk_cell BK659.out 0).trans rfl, (blk_cell BK659.out 1).trans rfl, (blk_cell BK659.out 2).trans rfl, (blk_cell BK662.out 0).trans rfl, (blk_cell BK662.out 1).trans rfl, (blk_cell BK662.out 2).trans rfl, (blk_cell BK660.out 0).trans rfl, (blk_cell BK660.out 1).trans rfl, (blk_cell BK660.out 2).trans rfl, (blk_cell BK661.out 0).trans rfl, (blk_cell BK661.out 1).trans rfl, (blk_cell BK661.out 2).trans rfl, (blk_cell BK661.out 3).trans rfl, (blk_cell BK661.out 4).trans rfl, (blk_cell BK661.out 5).trans rfl⟩ (fun hHeld => ?_)
            clear hK K
            refine norm_ (a' := ?_) ?_ ?_
            rotate_left
            ·show Act.put _ (some 62) _ = _
             simp only [Act.put, List.setIfInBounds_toArray, List.set_cons_zero, List.set_cons_succ, i64_w, i32_w]
             rfl
            refine pure_ (i := 14) (N := some 48) (v := ?_) (a' := ?_) #[true, true, true, true, true, true, true, true, true, true, true, true, true, true, true, false, false, false, false, false, false, false, false, false, false] rfl rfl (any_of HT_.out (by kernel_rfl)) (fun _ _ _ h => h) (Or.inl ⟨by rfl, ?_⟩) ?_ ?_
            rotate_left
            ·intro w'
             go_simp
             with_reducible rfl
            rotate_left
            ·simp only [Act.put, List.setIfInBounds_toArray, List.set_cons_zero, List.set_cons_succ, i64_w, i32_w]
             rfl
            refine pure_ (i := 15) (N := some 63) (v := ?_) (a' := ?_) #[true, true, true, true, true, true, true, true, true, true, true, true, true, true, true, true, false, false, false, false, false, false, false, false, false] rfl rfl (any_of HT_.out (by kernel_rfl)) (fun _ _ _ h => h) (Or.inl ⟨by rfl, ?_⟩) ?_ ?_
            rotate_left
            ·intro w'
             go_simp
             with_reducible rfl
            rotate_left
            ·simp only [Act.put, List.setIfInBounds_toArray, List.set_cons_zero, List.set_cons_succ, i64_w, i32_w]
             rfl
            refine pure_ (i := 16) (N := some 64) (v := ?_) (a' := ?_) #[true, true, true, true, true, true, true, true, true, true, true, true, true, true, true, true, true, false, false, false, false, false, false, false, false] rfl rfl (any_of HT_.out (by kernel_rfl)) (fun _ _ _ h => h) (Or.inl ⟨by rfl, ?_⟩) ?_ ?_
            rotate_left
            ·intro w'
             go_simp
             with_reducible rfl
            rotate_left
            ·simp only [Act.put, List.setIfInBounds_toArray, List.set_cons_zero, List.set_cons_succ, i64_w, i32_w]
             rfl
            refine pure_ (i := 17) (N := some 65) (v := ?_) (a' := ?_) #[true, true, true, true, true, true, true, true, true, true, true, true, true, true, true, true, true, true, false, false, false, false, false, false, false] rfl rfl (any_of HT_.out (by kernel_rfl)) (fun _ _ _ h => h) (Or.inl ⟨by rfl, ?_⟩) ?_ ?_
            rotate_left
            ·intro w'
             go_simp
             with_reducible rfl
            rotate_left
            ·simp only [Act.put, List.setIfInBounds_toArray, List.set_cons_zero, List.set_cons_succ, i64_w, i32_w]
             rfl
            refine pure_ (i := 18) (N := some 66) (v := ?_) (a' := ?_) #[true, true, true, true, true, true, true, true, true, true, true, true, true, true, true, true, true, true, true, false, false, false, false, false, false] rfl rfl (any_of HT_.out (by kernel_rfl)) (fun _ _ _ h => h) (Or.inl ⟨by rfl, ?_⟩) ?_ ?_
            rotate_left
            ·intro w'
             go_simp
             with_reducible rfl
            rotate_left
            ·simp only [Act.put, List.setIfInBounds_toArray, List.set_cons_zero, List.set_cons_succ, i64_w, i32_w]
             rfl
            exact norm_ (by simp only [putAll, Act.put, List.setIfInBounds_toArray, List.set_cons_zero, List.set_cons_succ] <;> rfl) (hJ2_7_11_13 () _ ⟨hHeld, (BK659.out), (BK660.out), (BK661.out), (BK662.out), (BK674.out), (BK675.out), (HB.out)⟩)
           ·skip
            refine box_step ?hg (N := 13) ?hd (cs := #[.int .i64 0, .int .i64 0]) (t := 28) ?hr ?_; (case hd => rfl); (case hg => rfl); (case hr => first | (go_simp; done) | (go_simp; rfl))
            intro gb691 hg w70 hbox hb
            have BK691 := Aside0.mk (hbox)
            have GE691 := Aside0.mk (bG hg (HB.out))
            have NB659_691 := cN hg BK659
            have NB691_659 := cM hg BK659
            have NB660_691 := cN hg BK660
            have NB691_660 := cM hg BK660
            have NB661_691 := cN hg BK661
            have NB691_661 := cM hg BK661
            have NB662_691 := cN hg BK662
            have NB691_662 := cM hg BK662
            have NB674_691 := cN hg BK674
            have NB691_674 := cM hg BK674
            have NB675_691 := cN hg BK675
            have NB691_675 := cM hg BK675
            replace BK659 := cB hb BK659
            replace BK660 := cB hb BK660
            replace BK661 := cB hb BK661
            replace BK662 := cB hb BK662
            replace BK674 := cB hb BK674
            replace BK675 := cB hb BK675
            replace HB := Aside0.mk (below_step (HB.out) hb)
            clear hb hbox hg
            refine hK.out _ _ ⟨(blk_cell BK659.out 0).trans rfl, (blk_cell BK659.out 1).trans rfl, (blk_cell BK659.out 2).trans rfl, (blk_cell BK662.out 0).trans rfl, (blk_cell BK662.out 1).trans rfl, (blk_cell BK662.out 2).trans rfl, (blk_cell BK660.out 0).trans rfl, (blk_cell BK660.out 1).trans rfl, (blk_cell BK660.out 2).trans rfl, (blk_cell BK661.out 0).trans rfl, (blk_cell BK661.out 1).trans rfl, (blk_cell BK661.out 2).trans rfl, (blk_cell BK661.out 3).trans rfl, (blk_cell BK661.out 4).trans rfl, (blk_cell BK661.out 5).trans rfl⟩ (fun hHeld => ?_)
            clear hK K
            refine norm_ (a' := ?_) ?_ ?_
            rotate_left
            ·show Act.put _ (some 13) _ = _
             simp only [Act.put, List.setIfInBounds_toArray, List.set_cons_zero, List.set_cons_succ, i64_w, i32_w]
             rfl
            exact norm_ (by simp only [putAll, Act.put, List.setIfInBounds_toArray, List.set_cons_zero, List.set_cons_succ] <;> rfl) (hJ2_7_11_19 (gb691) _ ⟨hHeld, (BK659.out), (BK660.out), (BK661.out), (BK662.out), (BK674.out), (BK675.out), (BK691.out), GE691.out, NB659_691.out, NB691_659.out, NB660_691.out, NB691_660.out, NB661_691.out, NB691_661.out, NB662_691.out, NB691_662.out, NB674_691.out, NB691_674.out, NB675_691.out, NB691_675.out, (HB.out)⟩)
           skip
           refine box_step ?hg (N := 14) ?hd (cs := #[.int .i64 0, .int .i64 0]) (t := 28) ?hr ?_; (case hd => rfl); (case hg => rfl); (case hr => first | (go_simp; done) | (go_simp; rfl))
           intro gb692 hg w70 hbox hb
           have BK692 := Aside0.mk (hbox)
           have GE692 := Aside0.mk (bG hg (HB.out))
           have NB659_692 := cN hg BK659
           have NB692_659 := cM hg BK659
           have NB660_692 := cN hg BK660
           have NB692_660 := cM hg BK660
           have NB661_692 := cN hg BK661
           have NB692_661 := cM hg BK661
           have NB662_692 := cN hg BK662
           have NB692_662 := cM hg BK662
           have NB674_692 := cN hg BK674
           have NB692_674 := cM hg BK674
           have NB675_692 := cN hg BK675
           have NB692_675 := cM hg BK675
           replace BK659 := cB hb BK659
           replace BK660 := cB hb BK660
           replace BK661 := cB hb BK661
           replace BK662 := cB hb BK662
           replace BK674 := cB hb BK674
           replace BK675 := cB hb BK675
           replace HB := Aside0.mk (below_step (HB.out) hb)
           clear hb hbox hg
           refine hK.out _ _ ⟨(blk_cell BK659.out 0).trans rfl, (blk_cell BK659.out 1).trans rfl, (blk_cell BK659.out 2).trans rfl, (blk_cell BK662.out 0).trans rfl, (blk_cell BK662.out 1).trans rfl, (blk_cell BK662.out 2).trans rfl, (blk_cell BK660.out 0).trans rfl, (blk_cell BK660.out 1).trans rfl, (blk_cell BK660.out 2).trans rfl, (blk_cell BK661.out 0).trans rfl, (blk_cell BK661.out 1).trans rfl, (blk_cell BK661.out 2).trans rfl, (blk_cell BK661.out 3).trans rfl, (blk_cell BK661.out 4).trans rfl, (blk_cell BK661.out 5).trans rfl⟩ (fun hHeld => ?_)
           clear hK K
           refine norm_ (a' := ?_) ?_ ?_
           rotate_left
           ·show Act.put _ (some 14) _ = _
            simp only [Act.put, List.setIfInBounds_toArray, List.set_cons_zero, List.set_cons_succ, i64_w, i32_w]
            rfl
           exact norm_ (by simp only [putAll, Act.put, List.setIfInBounds_toArray, List.set_cons_zero, List.set_cons_succ] <;> rfl) (hJ2_7_11_20 (gb692) _ ⟨hHeld, (BK659.out), (BK660.out), (BK661.out), (BK662.out), (BK674.out), (BK675.out), (BK692.out), GE692.out, NB659_692.out, NB692_659.out, NB660_692.out, NB692_660.out, NB661_692.out, NB692_661.out, NB662_692.out, NB692_662.out, NB674_692.out, NB692_674.out, NB675_692.out, NB692_675.out, (HB.out)⟩)
          skip
          rintro ⟨gb691, gb692⟩ w70 ⟨hS_, h0_, h1_, h2_, h3_, h4_, h5_, h6_, h7_, h8_, h9_, h10_, h11_, h12_, h13_, h14_, h15_, h16_, h17_, h18_, h19_, h20_, h21_, h22_, h23_, h24_, h25_, h26_, h27_, h28_, h29_, h30_, h31_, h32_, h33_, h34_, h35_, h36_⟩
          have n0_ : Aside0 (w70.heap[gb659]? = some (.cells #[.int .i64 a0_0, .int .i64 a0_1, .int .i64 a0_2] 23 (0, 0))) := ⟨h0_⟩
          have n1_ : Aside0 (w70.heap[gb660]? = some (.cells #[.int .i64 a1_0, .int .i64 a1_1, .int .i64 a1_2] 23 (0, 0))) := ⟨h1_⟩
          have n2_ : Aside0 (w70.heap[gb661]? = some (.cells #[.int .i64 a2_0, .int .i64 a2_1, .int .i64 a2_2, .int .i64 a2_3, .int .i64 a2_4, .int .i64 a2_5] 56 (0, 0))) := ⟨h2_⟩
          have n3_ : Aside0 (w70.heap[gb662]? = some (.cells #[.int .i64 a3_0, .int .i64 a3_1, .int .i64 a3_2] 23 (0, 0))) := ⟨h3_⟩
          have n4_ : Aside0 (w70.heap[gb674]? = some (.cells #[.int .i64 t668, .int .i64 t669] 28 (0, 0))) := ⟨h4_⟩
          have n5_ : Aside0 (w70.heap[gb675]? = some (.cells #[.int .i64 t670, .int .i64 t671] 28 (0, 0))) := ⟨h5_⟩
          have n6_ : Aside0 (w70.heap[gb691]? = some (.cells #[.int .i64 0, .int .i64 0] 28 (0, 0))) := ⟨h6_⟩
          have n7_ : Aside0 (w70.heap[gb692]? = some (.cells #[.int .i64 0, .int .i64 0] 28 (0, 0))) := ⟨h7_⟩
          have GE691 : Aside0 (w.heap.size ≤ gb691) := ⟨h8_⟩
          have NB659_691 : Aside0 (gb659 ≠ gb691) := ⟨h9_⟩
          have NB691_659 : Aside0 (gb691 ≠ gb659) := ⟨h10_⟩
          have NB660_691 : Aside0 (gb660 ≠ gb691) := ⟨h11_⟩
          have NB691_660 : Aside0 (gb691 ≠ gb660) := ⟨h12_⟩
          have NB661_691 : Aside0 (gb661 ≠ gb691) := ⟨h13_⟩
          have NB691_661 : Aside0 (gb691 ≠ gb661) := ⟨h14_⟩
          have NB662_691 : Aside0 (gb662 ≠ gb691) := ⟨h15_⟩
          have NB691_662 : Aside0 (gb691 ≠ gb662) := ⟨h16_⟩
          have NB674_691 : Aside0 (gb674 ≠ gb691) := ⟨h17_⟩
          have NB691_674 : Aside0 (gb691 ≠ gb674) := ⟨h18_⟩
          have NB675_691 : Aside0 (gb675 ≠ gb691) := ⟨h19_⟩
          have NB691_675 : Aside0 (gb691 ≠ gb675) := ⟨h20_⟩
          have NB692_691 : Aside0 (gb692 ≠ gb691) := ⟨h21_⟩
          have NB691_692 : Aside0 (gb691 ≠ gb692) := ⟨h22_⟩
          have GE692 : Aside0 (w.heap.size ≤ gb692) := ⟨h23_⟩
          have NB659_692 : Aside0 (gb659 ≠ gb692) := ⟨h24_⟩
          have NB692_659 : Aside0 (gb692 ≠ gb659) := ⟨h25_⟩
          have NB660_692 : Aside0 (gb660 ≠ gb692) := ⟨h26_⟩
          have NB692_660 : Aside0 (gb692 ≠ gb660) := ⟨h27_⟩
          have NB661_692 : Aside0 (gb661 ≠ gb692) := ⟨h28_⟩
          have NB692_661 : Aside0 (gb692 ≠ gb661) := ⟨h29_⟩
          have NB662_692 : Aside0 (gb662 ≠ gb692) := ⟨h30_⟩
          have NB692_662 : Aside0 (gb692 ≠ gb662) := ⟨h31_⟩
          have NB674_692 : Aside0 (gb674 ≠ gb692) := ⟨h32_⟩
          have NB692_674 : Aside0 (gb692 ≠ gb674) := ⟨h33_⟩
          have NB675_692 : Aside0 (gb675 ≠ gb692) := ⟨h34_⟩
          have NB692_675 : Aside0 (gb692 ≠ gb675) := ⟨h35_⟩
          have n36_ : Aside0 (Below w.heap.size w w70) := ⟨h36_⟩
          clear BK659
          clear BK660
          clear BK661
          clear BK662
          clear BK674
          clear BK675
          clear HB
          clear h0_ h1_ h2_ h3_ h4_ h5_ h6_ h7_ h8_ h9_ h10_ h11_ h12_ h13_ h14_ h15_ h16_ h17_ h18_ h19_ h20_ h21_ h22_ h23_ h24_ h25_ h26_ h27_ h28_ h29_ h30_ h31_ h32_ h33_ h34_ h35_ h36_
          have BK659 := n0_
          have BK660 := n1_
          have BK661 := n2_
          have BK662 := n3_
          have BK674 := n4_
          have BK675 := n5_
          have BK691 := n6_
          have BK692 := n7_
          have HB := n36_
          clear n0_ n1_ n2_ n3_ n4_ n5_ n6_ n7_ n36_
          have hHeld : w70.cell? ⟨gb659, 0, none⟩ = some (.int .i64 a0_0) ∧ w70.cell? ⟨gb659, 1, none⟩ = some (.int .i64 a0_1) ∧ w70.cell? ⟨gb659, 2, none⟩ = some (.int .i64 a0_2) ∧ w70.cell? ⟨gb662, 0, none⟩ = some (.int .i64 a3_0) ∧ w70.cell? ⟨gb662, 1, none⟩ = some (.int .i64 a3_1) ∧ w70.cell? ⟨gb662, 2, none⟩ = some (.int .i64 a3_2) ∧ w70.cell? ⟨gb660, 0, none⟩ = some (.int .i64 a1_0) ∧ w70.cell? ⟨gb660, 1, none⟩ = some (.int .i64 a1_1) ∧ w70.cell? ⟨gb660, 2, none⟩ = some (.int .i64 a1_2) ∧ w70.cell? ⟨gb661, 0, none⟩ = some (.int .i64 a2_0) ∧ w70.cell? ⟨gb661, 1, none⟩ = some (.int .i64 a2_1) ∧ w70.cell? ⟨gb661, 2, none⟩ = some (.int .i64 a2_2) ∧ w70.cell? ⟨gb661, 3, none⟩ = some (.int .i64 a2_3) ∧ w70.cell? ⟨gb661, 4, none⟩ = some (.int .i64 a2_4) ∧ w70.cell? ⟨gb661, 5, none⟩ = some (.int .i64 a2_5) := hS_
          refine norm_ (a' := ?_) ?_ ?_
          rotate_left
          ·simp only [putAll, Act.put, List.setIfInBounds_toArray, List.set_cons_zero, List.set_cons_succ]
           rfl
          refine one_ (i := 11) (N := some 60) #[true, true, true, true, true, true, true, true, true, true, true, true, false, false, false, false, false, false, false, true, true, false, false, false, false] rfl rfl (one_of HT_.out (by kernel_rfl)) (by decide) (fun K hK => ?_)
          refine goes_ Try.func24 (by kernel_rfl) rfl #[.agg #[.int .i64 a2_3, .int .i64 a2_4, .int .i64 a2_5], .agg #[.int .i64 a3_0, .int .i64 a3_1, .int .i64 a3_2]] (by rfl) rfl rfl (by (try simp only [List.map_toArray, List.map_cons, List.map_nil]); first | done | rfl | (simp only [List.length_drop, List.length_take]; rfl)) ?_
          with_reducible refine (relievoref02_Add.calls a2_3 a2_4 a2_5 a3_0 a3_1 a3_2 t682 t683 t684 _ A44.out).mono ?_
          rintro e w71 ⟨rfl, hb⟩
          refine ⟨_, rfl, ?_⟩
          replace BK659 := cB hb BK659
          replace BK660 := cB hb BK660
          replace BK661 := cB hb BK661
          replace BK662 := cB hb BK662
          replace BK674 := cB hb BK674
          replace BK675 := cB hb BK675
          replace BK691 := cB hb BK691
          replace BK692 := cB hb BK692
          replace HB := Aside0.mk (below_step (HB.out) hb)
          (try clear hb)
          (try clear hb2)
          (try clear hk)
          (try clear hi)
          refine hK.out _ _ ⟨(blk_cell BK659.out 0).trans rfl, (blk_cell BK659.out 1).trans rfl, (blk_cell BK659.out 2).trans rfl, (blk_cell BK662.out 0).trans rfl, (blk_cell BK662.out 1).trans rfl, (blk_cell BK662.out 2).trans rfl, (blk_cell BK660.out 0).trans rfl, (blk_cell BK660.out 1).trans rfl, (blk_cell BK660.out 2).trans rfl, (blk_cell BK661.out 0).trans rfl, (blk_cell BK661.out 1).trans rfl, (blk_cell BK661.out 2).trans rfl, (blk_cell BK661.out 3).trans rfl, (blk_cell BK661.out 4).trans rfl, (blk_cell BK661.out 5).trans rfl⟩ (fun hHeld => ?_)
          clear hK K
          refine norm_ (a' := ?_) ?_ ?_
          rotate_left
          ·show Act.put _ (some 60) _ = _
           simp only [Act.put, List.setIfInBounds_toArray, List.set_cons_zero, List.set_cons_succ, i64_w, i32_w]
           rfl
          refine pure_ (i := 12) (N := some 61) (v := ?_) (a' := ?_) #[true, true, true, true, true, true, true, true, true, true, true, true, true, false, false, false, false, false, false, true, true, false, false, false, false] rfl rfl (any_of HT_.out (by kernel_rfl)) (fun _ _ _ h => h) (Or.inl ⟨by rfl, ?_⟩) ?_ ?_
          rotate_left
          ·intro w'
           go_simp
           with_reducible rfl
          rotate_left
          ·simp only [Act.put, List.setIfInBounds_toArray, List.set_cons_zero, List.set_cons_succ, i64_w, i32_w]
           rfl
          exact norm_ (by simp only [putAll, Act.put, List.setIfInBounds_toArray, List.set_cons_zero, List.set_cons_succ] <;> rfl) (hJ2_7_11_19_20 (gb691, gb692) _ ⟨hHeld, (BK659.out), (BK660.out), (BK661.out), (BK662.out), (BK674.out), (BK675.out), (BK691.out), (BK692.out), GE691.out, NB659_691.out, NB691_659.out, NB660_691.out, NB691_660.out, NB661_691.out, NB691_661.out, NB662_691.out, NB691_662.out, NB674_691.out, NB691_674.out, NB675_691.out, NB691_675.out, NB692_691.out, NB691_692.out, GE692.out, NB659_692.out, NB692_659.out, NB660_692.out, NB692_660.out, NB661_692.out, NB692_661.out, NB662_692.out, NB692_662.out, NB674_692.out, NB692_674.out, NB675_692.out, NB692_675.out, (HB.out)⟩)
         skip
         rintro gb692 w70 ⟨hS_, h0_, h1_, h2_, h3_, h4_, h5_, h6_, h7_, h8_, h9_, h10_, h11_, h12_, h13_, h14_, h15_, h16_, h17_, h18_, h19_, h20_⟩
         have n0_ : Aside0 (w70.heap[gb659]? = some (.cells #[.int .i64 a0_0, .int .i64 a0_1, .int .i64 a0_2] 23 (0, 0))) := ⟨h0_⟩
         have n1_ : Aside0 (w70.heap[gb660]? = some (.cells #[.int .i64 a1_0, .int .i64 a1_1, .int .i64 a1_2] 23 (0, 0))) := ⟨h1_⟩
         have n2_ : Aside0 (w70.heap[gb661]? = some (.cells #[.int .i64 a2_0, .int .i64 a2_1, .int .i64 a2_2, .int .i64 a2_3, .int .i64 a2_4, .int .i64 a2_5] 56 (0, 0))) := ⟨h2_⟩
         have n3_ : Aside0 (w70.heap[gb662]? = some (.cells #[.int .i64 a3_0, .int .i64 a3_1, .int .i64 a3_2] 23 (0, 0))) := ⟨h3_⟩
         have n4_ : Aside0 (w70.heap[gb674]? = some (.cells #[.int .i64 t668, .int .i64 t669] 28 (0, 0))) := ⟨h4_⟩
         have n5_ : Aside0 (w70.heap[gb675]? = some (.cells #[.int .i64 t670, .int .i64 t671] 28 (0, 0))) := ⟨h5_⟩
         have n6_ : Aside0 (w70.heap[gb692]? = some (.cells #[.int .i64 0, .int .i64 0] 28 (0, 0))) := ⟨h6_⟩
         have GE692 : Aside0 (w.heap.size ≤ gb692) := ⟨h7_⟩
         have NB659_692 : Aside0 (gb659 ≠ gb692) := ⟨h8_⟩
         have NB692_659 : Aside0 (gb692 ≠ gb659) := ⟨h9_⟩
         have NB660_692 : Aside0 (gb660 ≠ gb692) := ⟨h10_⟩
         have NB692_660 : Aside0 (gb692 ≠ gb660) := ⟨h11_⟩
         have NB661_692 : Aside0 (gb661 ≠ gb692) := ⟨h12_⟩
         have NB692_661 : Aside0 (gb692 ≠ gb661) := ⟨h13_⟩
         have NB662_692 : Aside0 (gb662 ≠ gb692) := ⟨h14_⟩
         have NB692_662 : Aside0 (gb692 ≠ gb662) := ⟨h15_⟩
         have NB674_692 : Aside0 (gb674 ≠ gb692) := ⟨h16_⟩
         have NB692_674 : Aside0 (gb692 ≠ gb674) := ⟨h17_⟩
         have NB675_692 : Aside0 (gb675 ≠ gb692) := ⟨h18_⟩
         have NB692_675 : Aside0 (gb692 ≠ gb675) := ⟨h19_⟩
         have n20_ : Aside0 (Below w.heap.size w w70) := ⟨h20_⟩
         clear BK659
         clear BK660
         clear BK661
         clear BK662
         clear BK674
         clear BK675
         clear HB
         clear h0_ h1_ h2_ h3_ h4_ h5_ h6_ h7_ h8_ h9_ h10_ h11_ h12_ h13_ h14_ h15_ h16_ h17_ h18_ h19_ h20_
         have BK659 := n0_
         have BK660 := n1_
         have BK661 := n2_
         have BK662 := n3_
         have BK674 := n4_
         have BK675 := n5_
         have BK692 := n6_
         have HB := n20_
         clear n0_ n1_ n2_ n3_ n4_ n5_ n6_ n20_
         have hHeld : w70.cell? ⟨gb659, 0, none⟩ = some (.int .i64 a0_0) ∧ w70.cell? ⟨gb659, 1, none⟩ = some (.int .i64 a0_1) ∧ w70.cell? ⟨gb659, 2, none⟩ = some (.int .i64 a0_2) ∧ w70.cell? ⟨gb662, 0, none⟩ = some (.int .i64 a3_0) ∧ w70.cell? ⟨gb662, 1, none⟩ = some (.int .i64 a3_1) ∧ w70.cell? ⟨gb662, 2, none⟩ = some (.int .i64 a3_2) ∧ w70.cell? ⟨gb660, 0, none⟩ = some (.int .i64 a1_0) ∧ w70.cell? ⟨gb660, 1, none⟩ = some (.int .i64 a1_1) ∧ w70.cell? ⟨gb660, 2, none⟩ = some (.int .i64 a1_2) ∧ w70.cell? ⟨gb661, 0, none⟩ = some (.int .i64 a2_0) ∧ w70.cell? ⟨gb661, 1, none⟩ = some (.int .i64 a2_1) ∧ w70.cell? ⟨gb661, 2, none⟩ = some (.int .i64 a2_2) ∧ w70.cell? ⟨gb661, 3, none⟩ = some (.int .i64 a2_3) ∧ w70.cell? ⟨gb661, 4, none⟩ = some (.int .i64 a2_4) ∧ w70.cell? ⟨gb661, 5, none⟩ = some (.int .i64 a2_5) := hS_
         refine norm_ (a' := ?_) ?_ ?_
         rotate_left
         ·simp only [putAll, Act.put, List.setIfInBounds_toArray, List.set_cons_zero, List.set_cons_succ]
          rfl
         refine two_ (i := 13) (j := 19) (Ni := some 62) (Nj := some 13) #[true, true, true, true, true, true, true, true, true, true, true, true, true, true, false, false, false, false, false, false, true, false, false, false, false] #[true, true, true, true, true, true, true, true, true, true, true, true, true, false, false, false, false, false, false, true, true, false, false, false, false] rfl rfl rfl rfl (two_of HT_.out (by kernel_rfl)) (by decide) (by decide) (fun K hK => ?_) (fun K hK => ?_)
         ·skip
          refine goes_ Try.func32 (by kernel_rfl) rfl #[.agg #[.int .i64 t676, .int .i64 t677, .int .i64 t678], .agg #[.int .i64 a1_0, .int .i64 a1_1, .int .i64 a1_2], .agg #[.int .i64 t679, .int .i64 t680, .int .i64 t681, .int .i64 t682, .int .i64 t683, .int .i64 t684]] (by rfl) rfl rfl (by (try simp only [List.map_toArray, List.map_cons, List.map_nil]); first | done | rfl | (simp only [List.length_drop, List.length_take]; rfl)) ?_
          with_reducible refine (slab_Range.calls kj6 t676 t677 t678 a1_0 a1_1 a1_2 t679 t680 t681 t682 t683 t684 t685 t686 t687 t688 t689 t690 _ A45.out).mono ?_
          rintro e w71 ⟨rfl, hb⟩
          refine ⟨_, rfl, ?_⟩
          replace BK659 := cB hb BK659
          replace BK660 := cB hb BK660
          replace BK661 := cB hb BK661
          replace BK662 := cB hb BK662
          replace BK674 := cB hb BK674
          replace BK675 := cB hb BK675
          replace BK692 := cB hb BK692
          replace HB := Aside0.mk (below_step (HB.out) hb)
          (try clear hb)
          (try clear hb2)
          (try clear hk)
          (try clear hi)
          refine hK.out _ _ ⟨(blk_cell BK659.out 0).trans rfl, (blk_cell BK659.out 1).trans rfl, (blk_cell BK659.out 2).trans rfl, (blk_cell BK662.out 0).trans rfl, (blk_cell BK662.out 1).trans rfl, (blk_cell BK662.out 2).trans rfl, (blk_cell BK660.out 0).trans rfl, (blk_cell BK660.out 1).trans rfl, (blk_cell BK660.out 2).trans rfl, (blk_cell BK661.out 0).trans rfl, (blk_cell BK661.out 1).trans rfl, (blk_cell BK661.out 2).trans rfl, (blk_cell BK661.out 3).trans rfl, (blk_cell BK661.out 4).trans rfl, (blk_cell BK661.out 5).trans rfl⟩ (fun hHeld => ?_)
          clear hK K
          refine norm_ (a' := ?_) ?_ ?_
          rotate_left
          ·show Act.put _ (some 62) _ = _
           simp only [Act.put, List.setIfInBounds_toArray, List.set_cons_zero, List.set_cons_succ, i64_w, i32_w]
           rfl
          refine pure_ (i := 14) (N := some 48) (v := ?_) (a' := ?_) #[true, true, true, true, true, true, true, true, true, true, true, true, true, true, true, false, false, false, false, false, true, false, false, false, false] rfl rfl (any_of HT_.out (by kernel_rfl)) (fun _ _ _ h => h) (Or.inl ⟨by rfl, ?_⟩) ?_ ?_
          rotate_left
          ·intro w'
           go_simp
           with_reducible rfl
          rotate_left
          ·simp only [Act.put, List.setIfInBounds_toArray, List.set_cons_zero, List.set_cons_succ, i64_w, i32_w]
           rfl
          refine pure_ (i := 15) (N := some 63) (v := ?_) (a' := ?_) #[true, true, true, true, true, true, true, true, true, true, true, true, true, true, true, true, false, false, false, false, true, false, false, false, false] rfl rfl (any_of HT_.out (by kernel_rfl)) (fun _ _ _ h => h) (Or.inl ⟨by rfl, ?_⟩) ?_ ?_
          rotate_left
          ·intro w'
           go_simp
           with_reducible rfl
          rotate_left
          ·simp only [Act.put, List.setIfInBounds_toArray, List.set_cons_zero, List.set_cons_succ, i64_w, i32_w]
           rfl
          refine pure_ (i := 16) (N := some 64) (v := ?_) (a' := ?_) #[true, true, true, true, true, true, true, true, true, true, true, true, true, true, true, true, true, false, false, false, true, false, false, false, false] rfl rfl (any_of HT_.out (by kernel_rfl)) (fun _ _ _ h => h) (Or.inl ⟨by rfl, ?_⟩) ?_ ?_
          rotate_left
          ·intro w'
           go_simp
           with_reducible rfl
          rotate_left
          ·simp only [Act.put, List.setIfInBounds_toArray, List.set_cons_zero, List.set_cons_succ, i64_w, i32_w]
           rfl
          refine pure_ (i := 17) (N := some 65) (v := ?_) (a' := ?_) #[true, true, true, true, true, true, true, true, true, true, true, true, true, true, true, true, true, true, false, false, true, false, false, false, false] rfl rfl (any_of HT_.out (by kernel_rfl)) (fun _ _ _ h => h) (Or.inl ⟨by rfl, ?_⟩) ?_ ?_
          rotate_left
          ·intro w'
           go_simp
           with_reducible rfl
          rotate_left
          ·simp only [Act.put, List.setIfInBounds_toArray, List.set_cons_zero, List.set_cons_succ, i64_w, i32_w]
           rfl
          refine pure_ (i := 18) (N := some 66) (v := ?_) (a' := ?_) #[true, true, true, true, true, true, true, true, true, true, true, true, true, true, true, true, true, true, true, false, true, false, false, false, false] rfl rfl (any_of HT_.out (by kernel_rfl)) (fun _ _ _ h => h) (Or.inl ⟨by rfl, ?_⟩) ?_ ?_
          rotate_left
          ·intro w'
           go_simp
           with_reducible rfl
          rotate_left
          ·simp only [Act.put, List.setIfInBounds_toArray, List.set_cons_zero, List.set_cons_succ, i64_w, i32_w]
           rfl
          exact norm_ (by simp only [putAll, Act.put, List.setIfInBounds_toArray, List.set_cons_zero, List.set_cons_succ] <;> rfl) (hJ2_7_11_13_20 (gb692) _ ⟨hHeld, (BK659.out), (BK660.out), (BK661.out), (BK662.out), (BK674.out), (BK675.out), (BK692.out), GE692.out, NB659_692.out, NB692_659.out, NB660_692.out, NB692_660.out, NB661_692.out, NB692_661.out, NB662_692.out, NB692_662.out, NB674_692.out, NB692_674.out, NB675_692.out, NB692_675.out, (HB.out)⟩)
         skip
         refine box_step ?hg (N := 13) ?hd (cs := #[.int .i64 0, .int .i64 0]) (t := 28) ?hr ?_; (case hd => rfl); (case hg => rfl); (case hr => first | (go_simp; done) | (go_simp; rfl))
         intro gb691 hg w71 hbox hb
         have BK691 := Aside0.mk (hbox)
         have GE691 := Aside0.mk (bG hg (HB.out))
         have NB659_691 := cN hg BK659
         have NB691_659 := cM hg BK659
         have NB660_691 := cN hg BK660
         have NB691_660 := cM hg BK660
         have NB661_691 := cN hg BK661
         have NB691_661 := cM hg BK661
         have NB662_691 := cN hg BK662
         have NB691_662 := cM hg BK662
         have NB674_691 := cN hg BK674
         have NB691_674 := cM hg BK674
         have NB675_691 := cN hg BK675
         have NB691_675 := cM hg BK675
         have NB692_691 := cN hg BK692
         have NB691_692 := cM hg BK692
         replace BK659 := cB hb BK659
         replace BK660 := cB hb BK660
         replace BK661 := cB hb BK661
         replace BK662 := cB hb BK662
         replace BK674 := cB hb BK674
         replace BK675 := cB hb BK675
         replace BK692 := cB hb BK692
         replace HB := Aside0.mk (below_step (HB.out) hb)
         clear hb hbox hg
         refine hK.out _ _ ⟨(blk_cell BK659.out 0).trans rfl, (blk_cell BK659.out 1).trans rfl, (blk_cell BK659.out 2).trans rfl, (blk_cell BK662.out 0).trans rfl, (blk_cell BK662.out 1).trans rfl, (blk_cell BK662.out 2).trans rfl, (blk_cell BK660.out 0).trans rfl, (blk_cell BK660.out 1).trans rfl, (blk_cell BK660.out 2).trans rfl, (blk_cell BK661.out 0).trans rfl, (blk_cell BK661.out 1).trans rfl, (blk_cell BK661.out 2).trans rfl, (blk_cell BK661.out 3).trans rfl, (blk_cell BK661.out 4).trans rfl, (blk_cell BK661.out 5).trans rfl⟩ (fun hHeld => ?_)
         clear hK K
         refine norm_ (a' := ?_) ?_ ?_
         rotate_left
         ·show Act.put _ (some 13) _ = _
          simp only [Act.put, List.setIfInBounds_toArray, List.set_cons_zero, List.set_cons_succ, i64_w, i32_w]
          rfl
         exact norm_ (by simp only [putAll, Act.put, List.setIfInBounds_toArray, List.set_cons_zero, List.set_cons_succ] <;> rfl) (hJ2_7_11_19_20 (gb691, gb692) _ ⟨hHeld, (BK659.out), (BK660.out), (BK661.out), (BK662.out), (BK674.out), (BK675.out), (BK691.out), (BK692.out), GE691.out, NB659_691.out, NB691_659.out, NB660_691.out, NB691_660.out, NB661_691.out, NB691_661.out, NB662_691.out, NB691_662.out, NB674_691.out, NB691_674.out, NB675_691.out, NB691_675.out, NB692_691.out, NB691_692.out, GE692.out, NB659_692.out, NB692_659.out, NB660_692.out, NB692_660.out, NB661_692.out, NB692_661.out, NB662_692.out, NB692_662.out, NB674_692.out, NB692_674.out, NB675_692.out, NB692_675.out, (HB.out)⟩)
        skip
        rintro gb691 w70 ⟨hS_, h0_, h1_, h2_, h3_, h4_, h5_, h6_, h7_, h8_, h9_, h10_, h11_, h12_, h13_, h14_, h15_, h16_, h17_, h18_, h19_, h20_⟩
        have n0_ : Aside0 (w70.heap[gb659]? = some (.cells #[.int .i64 a0_0, .int .i64 a0_1, .int .i64 a0_2] 23 (0, 0))) := ⟨h0_⟩
        have n1_ : Aside0 (w70.heap[gb660]? = some (.cells #[.int .i64 a1_0, .int .i64 a1_1, .int .i64 a1_2] 23 (0, 0))) := ⟨h1_⟩
        have n2_ : Aside0 (w70.heap[gb661]? = some (.cells #[.int .i64 a2_0, .int .i64 a2_1, .int .i64 a2_2, .int .i64 a2_3, .int .i64 a2_4, .int .i64 a2_5] 56 (0, 0))) := ⟨h2_⟩
        have n3_ : Aside0 (w70.heap[gb662]? = some (.cells #[.int .i64 a3_0, .int .i64 a3_1, .int .i64 a3_2] 23 (0, 0))) := ⟨h3_⟩
        have n4_ : Aside0 (w70.heap[gb674]? = some (.cells #[.int .i64 t668, .int .i64 t669] 28 (0, 0))) := ⟨h4_⟩
        have n5_ : Aside0 (w70.heap[gb675]? = some (.cells #[.int .i64 t670, .int .i64 t671] 28 (0, 0))) := ⟨h5_⟩
        have n6_ : Aside0 (w70.heap[gb691]? = some (.cells #[.int .i64 0, .int .i64 0] 28 (0, 0))) := ⟨h6_⟩
        have GE691 : Aside0 (w.heap.size ≤ gb691) := ⟨h7_⟩
        have NB659_691 : Aside0 (gb659 ≠ gb691) := ⟨h8_⟩
        have NB691_659 : Aside0 (gb691 ≠ gb659) := ⟨h9_⟩
        have NB660_691 : Aside0 (gb660 ≠ gb691) := ⟨h10_⟩
        have NB691_660 : Aside0 (gb691 ≠ gb660) := ⟨h11_⟩
        have NB661_691 : Aside0 (gb661 ≠ gb691) := ⟨h12_⟩
        have NB691_661 : Aside0 (gb691 ≠ gb661) := ⟨h13_⟩
        have NB662_691 : Aside0 (gb662 ≠ gb691) := ⟨h14_⟩
        have NB691_662 : Aside0 (gb691 ≠ gb662) := ⟨h15_⟩
        have NB674_691 : Aside0 (gb674 ≠ gb691) := ⟨h16_⟩
        have NB691_674 : Aside0 (gb691 ≠ gb674) := ⟨h17_⟩
        have NB675_691 : Aside0 (gb675 ≠ gb691) := ⟨h18_⟩
        have NB691_675 : Aside0 (gb691 ≠ gb675) := ⟨h19_⟩
        have n20_ : Aside0 (Below w.heap.size w w70) := ⟨h20_⟩
        clear BK659
        clear BK660
        clear BK661
        clear BK662
        clear BK674
        clear BK675
        clear HB
        clear h0_ h1_ h2_ h3_ h4_ h5_ h6_ h7_ h8_ h9_ h10_ h11_ h12_ h13_ h14_ h15_ h16_ h17_ h18_ h19_ h20_
        have BK659 := n0_
        have BK660 := n1_
        have BK661 := n2_
        have BK662 := n3_
        have BK674 := n4_
        have BK675 := n5_
        have BK691 := n6_
        have HB := n20_
        clear n0_ n1_ n2_ n3_ n4_ n5_ n6_ n20_
        have hHeld : w70.cell? ⟨gb659, 0, none⟩ = some (.int .i64 a0_0) ∧ w70.cell? ⟨gb659, 1, none⟩ = some (.int .i64 a0_1) ∧ w70.cell? ⟨gb659, 2, none⟩ = some (.int .i64 a0_2) ∧ w70.cell? ⟨gb662, 0, none⟩ = some (.int .i64 a3_0) ∧ w70.cell? ⟨gb662, 1, none⟩ = some (.int .i64 a3_1) ∧ w70.cell? ⟨gb662, 2, none⟩ = some (.int .i64 a3_2) ∧ w70.cell? ⟨gb660, 0, none⟩ = some (.int .i64 a1_0) ∧ w70.cell? ⟨gb660, 1, none⟩ = some (.int .i64 a1_1) ∧ w70.cell? ⟨gb660, 2, none⟩ = some (.int .i64 a1_2) ∧ w70.cell? ⟨gb661, 0, none⟩ = some (.int .i64 a2_0) ∧ w70.cell? ⟨gb661, 1, none⟩ = some (.int .i64 a2_1) ∧ w70.cell? ⟨gb661, 2, none⟩ = some (.int .i64 a2_2) ∧ w70.cell? ⟨gb661, 3, none⟩ = some (.int .i64 a2_3) ∧ w70.cell? ⟨gb661, 4, none⟩ = some (.int .i64 a2_4) ∧ w70.cell? ⟨gb661, 5, none⟩ = some (.int .i64 a2_5) := hS_
        refine norm_ (a' := ?_) ?_ ?_
        rotate_left
        ·simp only [putAll, Act.put, List.setIfInBounds_toArray, List.set_cons_zero, List.set_cons_succ]
         rfl
        refine two_ (i := 13) (j := 20) (Ni := some 62) (Nj := some 14) #[true, true, true, true, true, true, true, true, true, true, true, true, true, true, false, false, false, false, false, true, false, false, false, false, false] #[true, true, true, true, true, true, true, true, true, true, true, true, true, false, false, false, false, false, false, true, true, false, false, false, false] rfl rfl rfl rfl (two_of HT_.out (by kernel_rfl)) (by decide) (by decide) (fun K hK => ?_) (fun K hK => ?_)
        ·skip
         refine goes_ Try.func32 (by kernel_rfl) rfl #[.agg #[.int .i64 t676, .int .i64 t677, .int .i64 t678], .agg #[.int .i64 a1_0, .int .i64 a1_1, .int .i64 a1_2], .agg #[.int .i64 t679, .int .i64 t680, .int .i64 t681, .int .i64 t682, .int .i64 t683, .int .i64 t684]] (by rfl) rfl rfl (by (try simp only [List.map_toArray, List.map_cons, List.map_nil]); first | done | rfl | (simp only [List.length_drop, List.length_take]; rfl)) ?_
         with_reducible refine (slab_Range.calls kj6 t676 t677 t678 a1_0 a1_1 a1_2 t679 t680 t681 t682 t683 t684 t685 t686 t687 t688 t689 t690 _ A45.out).mono ?_
         rintro e w71 ⟨rfl, hb⟩
         refine ⟨_, rfl, ?_⟩
         replace BK659 := cB hb BK659
         replace BK660 := cB hb BK660
         replace BK661 := cB hb BK661
         replace BK662 := cB hb BK662
         replace BK674 := cB hb BK674
         replace BK675 := cB hb BK675
         replace BK691 := cB hb BK691
         replace HB := Aside0.mk (below_step (HB.out) hb)
         (try clear hb)
         (try clear hb2)
         (try clear hk)
         (try clear hi)
         refine hK.out _ _ ⟨(blk_cell BK659.out 0).trans rfl, (blk_cell BK659.out 1).trans rfl, (blk_cell BK659.out 2).trans rfl, (blk_cell BK662.out 0).trans rfl, (blk_cell BK662.out 1).trans rfl, (blk_cell BK662.out 2).trans rfl, (blk_cell BK660.out 0).trans rfl, (blk_cell BK660.out 1).trans rfl, (blk_cell BK660.out 2).trans rfl, (blk_cell BK661.out 0).trans rfl, (blk_cell BK661.out 1).trans rfl, (blk_cell BK661.out 2).trans rfl, (blk_cell BK661.out 3).trans rfl, (blk_cell BK661.out 4).trans rfl, (blk_cell BK661.out 5).trans rfl⟩ (fun hHeld => ?_)
         clear hK K
         refine norm_ (a' := ?_) ?_ ?_
         rotate_left
         ·show Act.put _ (some 62) _ = _
          simp only [Act.put, List.setIfInBounds_toArray, List.set_cons_zero, List.set_cons_succ, i64_w, i32_w]
          rfl
         refine pure_ (i := 14) (N := some 48) (v := ?_) (a' := ?_) #[true, true, true, true, true, true, true, true, true, true, true, true, true, true, true, false, false, false, false, true, false, false, false, false, false] rfl rfl (any_of HT_.out (by kernel_rfl)) (fun _ _ _ h => h) (Or.inl ⟨by rfl, ?_⟩) ?_ ?_
         rotate_left
         ·intro w'
          go_simp
          with_reducible rfl
         rotate_left
         ·simp only [Act.put, List.setIfInBounds_toArray, List.set_cons_zero, List.set_cons_succ, i64_w, i32_w]
          rfl
         refine pure_ (i := 15) (N := some 63) (v := ?_) (a' := ?_) #[true, true, true, true, true, true, true, true, true, true, true, true, true, true, true, true, false, false, false, true, false, false, false, false, false] rfl rfl (any_of HT_.out (by kernel_rfl)) (fun _ _ _ h => h) (Or.inl ⟨by rfl, ?_⟩) ?_ ?_
         rotate_left
         ·intro w'
          go_simp
          with_reducible rfl
         rotate_left
         ·simp only [Act.put, List.setIfInBounds_toArray, List.set_cons_zero, List.set_cons_succ, i64_w, i32_w]
          rfl
         refine pure_ (i := 16) (N := some 64) (v := ?_) (a' := ?_) #[true, true, true, true, true, true, true, true, true, true, true, true, true, true, true, true, true, false, false, true, false, false, false, false, false] rfl rfl (any_of HT_.out (by kernel_rfl)) (fun _ _ _ h => h) (Or.inl ⟨by rfl, ?_⟩) ?_ ?_
         rotate_left
         ·intro w'
          go_simp
          with_reducible rfl
         rotate_left
         ·simp only [Act.put, List.setIfInBounds_toArray, List.set_cons_zero, List.set_cons_succ, i64_w, i32_w]
          rfl
         refine pure_ (i := 17) (N := some 65) (v := ?_) (a' := ?_) #[true, true, true, true, true, true, true, true, true, true, true, true, true, true, true, true, true, true, false, true, false, false, false, false, false] rfl rfl (any_of HT_.out (by kernel_rfl)) (fun _ _ _ h => h) (Or.inl ⟨by rfl, ?_⟩) ?_ ?_
         rotate_left
         ·intro w'
          go_simp
          with_reducible rfl
         rotate_left
         ·simp only [Act.put, List.setIfInBounds_toArray, List.set_cons_zero, List.set_cons_succ, i64_w, i32_w]
          rfl
         refine pure_ (i := 18) (N := some 66) (v := ?_) (a' := ?_) #[true, true, true, true, true, true, true, true, true, true, true, true, true, true, true, true, true, true, true, true, false, false, false, false, false] rfl rfl (any_of HT_.out (by kernel_rfl)) (fun _ _ _ h => h) (Or.inl ⟨by rfl, ?_⟩) ?_ ?_
         rotate_left
         ·intro w'
          go_simp
          with_reducible rfl
         rotate_left
         ·simp only [Act.put, List.setIfInBounds_toArray, List.set_cons_zero, List.set_cons_succ, i64_w, i32_w]
          rfl
         exact norm_ (by simp only [putAll, Act.put, List.setIfInBounds_toArray, List.set_cons_zero, List.set_cons_succ] <;> rfl) (hJ2_7_11_13_19 (gb691) _ ⟨hHeld, (BK659.out), (BK660.out), (BK661.out), (BK662.out), (BK674.out), (BK675.out), (BK691.out), GE691.out, NB659_691.out, NB691_659.out, NB660_691.out, NB691_660.out, NB661_691.out, NB691_661.out, NB662_691.out, NB691_662.out, NB674_691.out, NB691_674.out, NB675_691.out, NB691_675.out, (HB.out)⟩)
        skip
        refine box_step ?hg (N := 14) ?hd (cs := #[.int .i64 0, .int .i64 0]) (t := 28) ?hr ?_; (case hd => rfl); (case hg => rfl); (case hr => first | (go_simp; done) | (go_simp; rfl))
        intro gb692 hg w71 hbox hb
        have BK692 := Aside0.mk (hbox)
        have GE692 := Aside0.mk (bG hg (HB.out))
        have NB659_692 := cN hg BK659
        have NB692_659 := cM hg BK659
        have NB660_692 := cN hg BK660
        have NB692_660 := cM hg BK660
        have NB661_692 := cN hg BK661
        have NB692_661 := cM hg BK661
        have NB662_692 := cN hg BK662
        have NB692_662 := cM hg BK662
        have NB674_692 := cN hg BK674
        have NB692_674 := cM hg BK674
        have NB675_692 := cN hg BK675
        have NB692_675 := cM hg BK675
        have NB691_692 := cN hg BK691
        have NB692_691 := cM hg BK691
        replace BK659 := cB hb BK659
        replace BK660 := cB hb BK660
        replace BK661 := cB hb BK661
        replace BK662 := cB hb BK662
        replace BK674 := cB hb BK674
        replace BK675 := cB hb BK675
        replace BK691 := cB hb BK691
        replace HB := Aside0.mk (below_step (HB.out) hb)
        clear hb hbox hg
        refine hK.out _ _ ⟨(blk_cell BK659.out 0).trans rfl, (blk_cell BK659.out 1).trans rfl, (blk_cell BK659.out 2).trans rfl, (blk_cell BK662.out 0).trans rfl, (blk_cell BK662.out 1).trans rfl, (blk_cell BK662.out 2).trans rfl, (blk_cell BK660.out 0).trans rfl, (blk_cell BK660.out 1).trans rfl, (blk_cell BK660.out 2).trans rfl, (blk_cell BK661.out 0).trans rfl, (blk_cell BK661.out 1).trans rfl, (blk_cell BK661.out 2).trans rfl, (blk_cell BK661.out 3).trans rfl, (blk_cell BK661.out 4).trans rfl, (blk_cell BK661.out 5).trans rfl⟩ (fun hHeld => ?_)
        clear hK K
        refine norm_ (a' := ?_) ?_ ?_
        rotate_left
        ·show Act.put _ (some 14) _ = _
         simp only [Act.put, List.setIfInBounds_toArray, List.set_cons_zero, List.set_cons_succ, i64_w, i32_w]
         rfl
        exact norm_ (by simp only [putAll, Act.put, List.setIfInBounds_toArray, List.set_cons_zero, List.set_cons_succ] <;> rfl) (hJ2_7_11_19_20 (gb691, gb692) _ ⟨hHeld, (BK659.out), (BK660.out), (BK661.out), (BK662.out), (BK674.out), (BK675.out), (BK691.out), (BK692.out), GE691.out, NB659_691.out, NB691_659.out, NB660_691.out, NB691_660.out, NB661_691.out, NB691_661.out, NB662_691.out, NB691_662.out, NB674_691.out, NB691_674.out, NB675_691.out, NB691_675.out, NB692_691.out, NB691_692.out, GE692.out, NB659_692.out, NB692_659.out, NB660_692.out, NB692_660.out, NB661_692.out, NB692_661.out, NB662_692.out, NB692_662.out, NB674_692.out, NB692_674.out, NB675_692.out, NB692_675.out, (HB.out)⟩)
       skip
       rintro _ w70 ⟨hS_, h0_, h1_, h2_, h3_, h4_, h5_, h6_⟩
       have n0_ : Aside0 (w70.heap[gb659]? = some (.cells #[.int .i64 a0_0, .int .i64 a0_1, .int .i64 a0_2] 23 (0, 0))) := ⟨h0_⟩
       have n1_ : Aside0 (w70.heap[gb660]? = some (.cells #[.int .i64 a1_0, .int .i64 a1_1, .int .i64 a1_2] 23 (0, 0))) := ⟨h1_⟩
       have n2_ : Aside0 (w70.heap[gb661]? = some (.cells #[.int .i64 a2_0, .int .i64 a2_1, .int .i64 a2_2, .int .i64 a2_3, .int .i64 a2_4, .int .i64 a2_5] 56 (0, 0))) := ⟨h2_⟩
       have n3_ : Aside0 (w70.heap[gb662]? = some (.cells #[.int .i64 a3_0, .int .i64 a3_1, .int .i64 a3_2] 23 (0, 0))) := ⟨h3_⟩
       have n4_ : Aside0 (w70.heap[gb674]? = some (.cells #[.int .i64 t668, .int .i64 t669] 28 (0, 0))) := ⟨h4_⟩
       have n5_ : Aside0 (w70.heap[gb675]? = some (.cells #[.int .i64 t670, .int .i64 t671] 28 (0, 0))) := ⟨h5_⟩
       have n6_ : Aside0 (Below w.heap.size w w70) := ⟨h6_⟩
       clear BK659
       clear BK660
       clear BK661
       clear BK662
       clear BK674
       clear BK675
       clear HB
       clear h0_ h1_ h2_ h3_ h4_ h5_ h6_
       have BK659 := n0_
       have BK660 := n1_
       have BK661 := n2_
       have BK662 := n3_
       have BK674 := n4_
       have BK675 := n5_
       have HB := n6_
       clear n0_ n1_ n2_ n3_ n4_ n5_ n6_
       have hHeld : w70.cell? ⟨gb659, 0, none⟩ = some (.int .i64 a0_0) ∧ w70.cell? ⟨gb659, 1, none⟩ = some (.int .i64 a0_1) ∧ w70.cell? ⟨gb659, 2, none⟩ = some (.int .i64 a0_2) ∧ w70.cell? ⟨gb662, 0, none⟩ = some (.int .i64 a3_0) ∧ w70.cell? ⟨gb662, 1, none⟩ = some (.int .i64 a3_1) ∧ w70.cell? ⟨gb662, 2, none⟩ = some (.int .i64 a3_2) ∧ w70.cell? ⟨gb660, 0, none⟩ = some (.int .i64 a1_0) ∧ w70.cell? ⟨gb660, 1, none⟩ = some (.int .i64 a1_1) ∧ w70.cell? ⟨gb660, 2, none⟩ = some (.int .i64 a1_2) ∧ w70.cell? ⟨gb661, 0, none⟩ = some (.int .i64 a2_0) ∧ w70.cell? ⟨gb661, 1, none⟩ = some (.int .i64 a2_1) ∧ w70.cell? ⟨gb661, 2, none⟩ = some (.int .i64 a2_2) ∧ w70.cell? ⟨gb661, 3, none⟩ = some (.int .i64 a2_3) ∧ w70.cell? ⟨gb661, 4, none⟩ = some (.int .i64 a2_4) ∧ w70.cell? ⟨gb661, 5, none⟩ = some (.int .i64 a2_5) := hS_
       refine norm_ (a' := ?_) ?_ ?_
       rotate_left
       ·simp only [putAll, Act.put, List.setIfInBounds_toArray, List.set_cons_zero, List.set_cons_succ]
        rfl
       refine two_ (i := 19) (j := 20) (Ni := some 13) (Nj := some 14) #[true, true, true, true, true, true, true, true, true, true, true, true, true, true, true, true, true, true, true, true, false, false, false, false, false] #[true, true, true, true, true, true, true, true, true, true, true, true, true, true, true, true, true, true, true, false, true, false, false, false, false] rfl rfl rfl rfl (two_of HT_.out (by kernel_rfl)) (by decide) (by decide) (fun K hK => ?_) (fun K hK => ?_)
       ·skip
        refine box_step ?hg (N := 13) ?hd (cs := #[.int .i64 0, .int .i64 0]) (t := 28) ?hr ?_; (case hd => rfl); (case hg => rfl); (case hr => first | (go_simp; done) | (go_simp; rfl))
        intro gb691 hg w71 hbox hb
        have BK691 := Aside0.mk (hbox)
        have GE691 := Aside0.mk (bG hg (HB.out))
        have NB659_691 := cN hg BK659
        have NB691_659 := cM hg BK659
        have NB660_691 := cN hg BK660
        have NB691_660 := cM hg BK660
        have NB661_691 := cN hg BK661
        have NB691_661 := cM hg BK661
        have NB662_691 := cN hg BK662
        have NB691_662 := cM hg BK662
        have NB674_691 := cN hg BK674
        have NB691_674 := cM hg BK674
        have NB675_691 := cN hg BK675
        have NB691_675 := cM hg BK675
        replace BK659 := cB hb BK659
        replace BK660 := cB hb BK660
        replace BK661 := cB hb BK661
        replace BK662 := cB hb BK662
        replace BK674 := cB hb BK674
        replace BK675 := cB hb BK675
        replace HB := Aside0.mk (below_step (HB.out) hb)
        clear hb hbox hg
        refine hK.out _ _ ⟨(blk_cell BK659.out 0).trans rfl, (blk_cell BK659.out 1).trans rfl, (blk_cell BK659.out 2).trans rfl, (blk_cell BK662.out 0).trans rfl, (blk_cell BK662.out 1).trans rfl, (blk_cell BK662.out 2).trans rfl, (blk_cell BK660.out 0).trans rfl, (blk_cell BK660.out 1).trans rfl, (blk_cell BK660.out 2).trans rfl, (blk_cell BK661.out 0).trans rfl, (blk_cell BK661.out 1).trans rfl, (blk_cell BK661.out 2).trans rfl, (blk_cell BK661.out 3).trans rfl, (blk_cell BK661.out 4).trans rfl, (blk_cell BK661.out 5).trans rfl⟩ (fun hHeld => ?_)
        clear hK K
        refine norm_ (a' := ?_) ?_ ?_
        rotate_left
        ·show Act.put _ (some 13) _ = _
         simp only [Act.put, List.setIfInBounds_toArray, List.set_cons_zero, List.set_cons_succ, i64_w, i32_w]
         rfl
        exact norm_ (by simp only [putAll, Act.put, List.setIfInBounds_toArray, List.set_cons_zero, List.set_cons_succ] <;> rfl) (hJ2_7_11_13_19 (gb691) _ ⟨hHeld, (BK659.out), (BK660.out), (BK661.out), (BK662.out), (BK674.out), (BK675.out), (BK691.out), GE691.out, NB659_691.out, NB691_659.out, NB660_691.out, NB691_660.out, NB661_691.out, NB691_661.out, NB662_691.out, NB691_662.out, NB674_691.out, NB691_674.out, NB675_691.out, NB691_675.out, (HB.out)⟩)
       skip
       refine box_step ?hg (N := 14) ?hd (cs := #[.int .i64 0, .int .i64 0]) (t := 28) ?hr ?_; (case hd => rfl); (case hg => rfl); (case hr => first | (go_simp; done) | (go_simp; rfl))
       intro gb692 hg w71 hbox hb
       have BK692 := Aside0.mk (hbox)
       have GE692 := Aside0.mk (bG hg (HB.out))
       have NB659_692 := cN hg BK659
       have NB692_659 := cM hg BK659
       have NB660_692 := cN hg BK660
       have NB692_660 := cM hg BK660
       have NB661_692 := cN hg BK661
       have NB692_661 := cM hg BK661
       have NB662_692 := cN hg BK662
       have NB692_662 := cM hg BK662
       have NB674_692 := cN hg BK674
       have NB692_674 := cM hg BK674
       have NB675_692 := cN hg BK675
       have NB692_675 := cM hg BK675
       replace BK659 := cB hb BK659
       replace BK660 := cB hb BK660
       replace BK661 := cB hb BK661
       replace BK662 := cB hb BK662
       replace BK674 := cB hb BK674
       replace BK675 := cB hb BK675
       replace HB := Aside0.mk (below_step (HB.out) hb)
       clear hb hbox hg
       refine hK.out _ _ ⟨(blk_cell BK659.out 0).trans rfl, (blk_cell BK659.out 1).trans rfl, (blk_cell BK659.out 2).trans rfl, (blk_cell BK662.out 0).trans rfl, (blk_cell BK662.out 1).trans rfl, (blk_cell BK662.out 2).trans rfl, (blk_cell BK660.out 0).trans rfl, (blk_cell BK660.out 1).trans rfl, (blk_cell BK660.out 2).trans rfl, (blk_cell BK661.out 0).trans rfl, (blk_cell BK661.out 1).trans rfl, (blk_cell BK661.out 2).trans rfl, (blk_cell BK661.out 3).trans rfl, (blk_cell BK661.out 4).trans rfl, (blk_cell BK661.out 5).trans rfl⟩ (fun hHeld => ?_)
       clear hK K
       refine norm_ (a' := ?_) ?_ ?_
       rotate_left
       ·show Act.put _ (some 14) _ = _
        simp only [Act.put, List.setIfInBounds_toArray, List.set_cons_zero, List.set_cons_succ, i64_w, i32_w]
        rfl
       exact norm_ (by simp only [putAll, Act.put, List.setIfInBounds_toArray, List.set_cons_zero, List.set_cons_succ] <;> rfl) (hJ2_7_11_13_20 (gb692) _ ⟨hHeld, (BK659.out), (BK660.out), (BK661.out), (BK662.out), (BK674.out), (BK675.out), (BK692.out), GE692.out, NB659_692.out, NB692_659.out, NB660_692.out, NB692_660.out, NB661_692.out, NB692_661.out, NB662_692.out, NB692_662.out, NB674_692.out, NB692_674.out, NB675_692.out, NB692_675.out, (HB.out)⟩)
      skip
      rintro ⟨gb691, gb692⟩ w71 ⟨hS_, h0_, h1_, h2_, h3_, h4_, h5_, h6_, h7_, h8_, h9_, h10_, h11_, h12_, h13_, h14_, h15_, h16_, h17_, h18_, h19_, h20_, h21_, h22_, h23_, h24_, h25_, h26_, h27_, h28_, h29_, h30_, h31_, h32_, h33_, h34_, h35_, h36_⟩
      have n0_ : Aside0 (w71.heap[gb659]? = some (.cells #[.int .i64 a0_0, .int .i64 a0_1, .int .i64 a0_2] 23 (0, 0))) := ⟨h0_⟩
      have n1_ : Aside0 (w71.heap[gb660]? = some (.cells #[.int .i64 a1_0, .int .i64 a1_1, .int .i64 a1_2] 23 (0, 0))) := ⟨h1_⟩
      have n2_ : Aside0 (w71.heap[gb661]? = some (.cells #[.int .i64 a2_0, .int .i64 a2_1, .int .i64 a2_2, .int .i64 a2_3, .int .i64 a2_4, .int .i64 a2_5] 56 (0, 0))) := ⟨h2_⟩
      have n3_ : Aside0 (w71.heap[gb662]? = some (.cells #[.int .i64 a3_0, .int .i64 a3_1, .int .i64 a3_2] 23 (0, 0))) := ⟨h3_⟩
      have n4_ : Aside0 (w71.heap[gb674]? = some (.cells #[.int .i64 t668, .int .i64 t669] 28 (0, 0))) := ⟨h4_⟩
      have n5_ : Aside0 (w71.heap[gb675]? = some (.cells #[.int .i64 t670, .int .i64 t671] 28 (0, 0))) := ⟨h5_⟩
      have n6_ : Aside0 (w71.heap[gb691]? = some (.cells #[.int .i64 0, .int .i64 0] 28 (0, 0))) := ⟨h6_⟩
      have n7_ : Aside0 (w71.heap[gb692]? = some (.cells #[.int .i64 0, .int .i64 0] 28 (0, 0))) := ⟨h7_⟩
      have GE691 : Aside0 (w.heap.size ≤ gb691) := ⟨h8_⟩
      have NB659_691 : Aside0 (gb659 ≠ gb691) := ⟨h9_⟩
      have NB691_659 : Aside0 (gb691 ≠ gb659) := ⟨h10_⟩
      have NB660_691 : Aside0 (gb660 ≠ gb691) := ⟨h11_⟩
      have NB691_660 : Aside0 (gb691 ≠ gb660) := ⟨h12_⟩
      have NB661_691 : Aside0 (gb661 ≠ gb691) := ⟨h13_⟩
      have NB691_661 : Aside0 (gb691 ≠ gb661) := ⟨h14_⟩
      have NB662_691 : Aside0 (gb662 ≠ gb691) := ⟨h15_⟩
      have NB691_662 : Aside0 (gb691 ≠ gb662) := ⟨h16_⟩
      have NB674_691 : Aside0 (gb674 ≠ gb691) := ⟨h17_⟩
      have NB691_674 : Aside0 (gb691 ≠ gb674) := ⟨h18_⟩
      have NB675_691 : Aside0 (gb675 ≠ gb691) := ⟨h19_⟩
      have NB691_675 : Aside0 (gb691 ≠ gb675) := ⟨h20_⟩
      have NB692_691 : Aside0 (gb692 ≠ gb691) := ⟨h21_⟩
      have NB691_692 : Aside0 (gb691 ≠ gb692) := ⟨h22_⟩
      have GE692 : Aside0 (w.heap.size ≤ gb692) := ⟨h23_⟩
      have NB659_692 : Aside0 (gb659 ≠ gb692) := ⟨h24_⟩
      have NB692_659 : Aside0 (gb692 ≠ gb659) := ⟨h25_⟩
      have NB660_692 : Aside0 (gb660 ≠ gb692) := ⟨h26_⟩
      have NB692_660 : Aside0 (gb692 ≠ gb660) := ⟨h27_⟩
      have NB661_692 : Aside0 (gb661 ≠ gb692) := ⟨h28_⟩
      have NB692_661 : Aside0 (gb692 ≠ gb661) := ⟨h29_⟩
      have NB662_692 : Aside0 (gb662 ≠ gb692) := ⟨h30_⟩
      have NB692_662 : Aside0 (gb692 ≠ gb662) := ⟨h31_⟩
      have NB674_692 : Aside0 (gb674 ≠ gb692) := ⟨h32_⟩
      have NB692_674 : Aside0 (gb692 ≠ gb674) := ⟨h33_⟩
      have NB675_692 : Aside0 (gb675 ≠ gb692) := ⟨h34_⟩
      have NB692_675 : Aside0 (gb692 ≠ gb675) := ⟨h35_⟩
      have n36_ : Aside0 (Below w.heap.size w w71) := ⟨h36_⟩
      clear BK659
      clear BK660
      clear BK661
      clear BK662
      clear BK674
      clear BK675
      clear HB
      clear h0_ h1_ h2_ h3_ h4_ h5_ h6_ h7_ h8_ h9_ h10_ h11_ h12_ h13_ h14_ h15_ h16_ h17_ h18_ h19_ h20_ h21_ h22_ h23_ h24_ h25_ h26_ h27_ h28_ h29_ h30_ h31_ h32_ h33_ h34_ h35_ h36_
      have BK659 := n0_
      have BK660 := n1_
      have BK661 := n2_
      have BK662 := n3_
      have BK674 := n4_
      have BK675 := n5_
      have BK691 := n6_
      have BK692 := n7_
      have HB := n36_
      clear n0_ n1_ n2_ n3_ n4_ n5_ n6_ n7_ n36_
      have hHeld : w71.cell? ⟨gb659, 0, none⟩ = some (.int .i64 a0_0) ∧ w71.cell? ⟨gb659, 1, none⟩ = some (.int .i64 a0_1) ∧ w71.cell? ⟨gb659, 2, none⟩ = some (.int .i64 a0_2) ∧ w71.cell? ⟨gb662, 0, none⟩ = some (.int .i64 a3_0) ∧ w71.cell? ⟨gb662, 1, none⟩ = some (.int .i64 a3_1) ∧ w71.cell? ⟨gb662, 2, none⟩ = some (.int .i64 a3_2) ∧ w71.cell? ⟨gb660, 0, none⟩ = some (.int .i64 a1_0) ∧ w71.cell? ⟨gb660, 1, none⟩ = some (.int .i64 a1_1) ∧ w71.cell? ⟨gb660, 2, none⟩ = some (.int .i64 a1_2) ∧ w71.cell? ⟨gb661, 0, none⟩ = some (.int .i64 a2_0) ∧ w71.cell? ⟨gb661, 1, none⟩ = some (.int .i64 a2_1) ∧ w71.cell? ⟨gb661, 2, none⟩ = some (.int .i64 a2_2) ∧ w71.cell? ⟨gb661, 3, none⟩ = some (.int .i64 a2_3) ∧ w71.cell? ⟨gb661, 4, none⟩ = some (.int .i64 a2_4) ∧ w71.cell? ⟨gb661, 5, none⟩ = some (.int .i64 a2_5) := hS_
      refine norm_ (a' := ?_) ?_ ?_
      rotate_left
      ·simp only [putAll, Act.put, List.setIfInBounds_toArray, List.set_cons_zero, List.set_cons_succ]
       rfl
      refine one_ (i := 13) (N := some 62) #[true, true, true, true, true, true, true, true, true, true, true, true, true, true, false, false, false, false, false, true, true, false, false, false, false] rfl rfl (one_of HT_.out (by kernel_rfl)) (by decide) (fun K hK => ?_)
      refine goes_ Try.func32 (by kernel_rfl) rfl #[.agg #[.int .i64 t676, .int .i64 t677, .int .i64 t678], .agg #[.int .i64 a1_0, .int .i64 a1_1, .int .i64 a1_2], .agg #[.int .i64 t679, .int .i64 t680, .int .i64 t681, .int .i64 t682, .int .i64 t683, .int .i64 t684]] (by rfl) rfl rfl (by (try simp only [List.map_toArray, List.map_cons, List.map_nil]); first | done | rfl | (simp only [List.length_drop, List.length_take]; rfl)) ?_
      with_reducible refine (slab_Range.calls kj6 t676 t677 t678 a1_0 a1_1 a1_2 t679 t680 t681 t682 t683 t684 t685 t686 t687 t688 t689 t690 _ A45.out).mono ?_
      rintro e w72 ⟨rfl, hb⟩
      refine ⟨_, rfl, ?_⟩
      replace BK659 := cB hb BK659
      replace BK660 := cB hb BK660
      replace BK661 := cB hb BK661
      replace BK662 := cB hb BK662
      replace BK674 := cB hb BK674
      replace BK675 := cB hb BK675
      replace BK691 := cB hb BK691
      replace BK692 := cB hb BK692
      replace HB := Aside0.mk (below_step (HB.out) hb)
      (try clear hb)
      (try clear hb2)
      (try clear hk)
      (try clear hi)
      refine hK.out _ _ ⟨(blk_cell BK659.out 0).trans rfl, (blk_cell BK659.out 1).trans rfl, (blk_cell BK659.out 2).trans rfl, (blk_cell BK662.out 0).trans rfl, (blk_cell BK662.out 1).trans rfl, (blk_cell BK662.out 2).trans rfl, (blk_cell BK660.out 0).trans rfl, (blk_cell BK660.out 1).trans rfl, (blk_cell BK660.out 2).trans rfl, (blk_cell BK661.out 0).trans rfl, (blk_cell BK661.out 1).trans rfl, (blk_cell BK661.out 2).trans rfl, (blk_cell BK661.out 3).trans rfl, (blk_cell BK661.out 4).trans rfl, (blk_cell BK661.out 5).trans rfl⟩ (fun hHeld => ?_)
      clear hK K
      refine norm_ (a' := ?_) ?_ ?_
      rotate_left
      ·show Act.put _ (some 62) _ = _
       simp only [Act.put, List.setIfInBounds_toArray, List.set_cons_zero, List.set_cons_succ, i64_w, i32_w]
       rfl
      refine pure_ (i := 14) (N := some 48) (v := ?_) (a' := ?_) #[true, true, true, true, true, true, true, true, true, true, true, true, true, true, true, false, false, false, false, true, true, false, false, false, false] rfl rfl (any_of HT_.out (by kernel_rfl)) (fun _ _ _ h => h) (Or.inl ⟨by rfl, ?_⟩) ?_ ?_
      rotate_left
      ·intro w'
       go_simp
       with_reducible rfl
      rotate_left
      ·simp only [Act.put, List.setIfInBounds_toArray, List.set_cons_zero, List.set_cons_succ, i64_w, i32_w]
       rfl
      refine pure_ (i := 15) (N := some 63) (v := ?_) (a' := ?_) #[true, true, true, true, true, true, true, true, true, true, true, true, true, true, true, true, false, false, false, true, true, false, false, false, false] rfl rfl (any_of HT_.out (by kernel_rfl)) (fun _ _ _ h => h) (Or.inl ⟨by rfl, ?_⟩) ?_ ?_
      rotate_left
      ·intro w'
       go_simp
       with_reducible rfl
      rotate_left
      ·simp only [Act.put, List.setIfInBounds_toArray, List.set_cons_zero, List.set_cons_succ, i64_w, i32_w]
       rfl
      refine pure_ (i := 16) (N := some 64) (v := ?_) (a' := ?_) #[true, true, true, true, true, true, true, true, true, true, true, true, true, true, true, true, true, false, false, true, true, false, false, false, false] rfl rfl (any_of HT_.out (by kernel_rfl)) (fun _ _ _ h => h) (Or.inl ⟨by rfl, ?_⟩) ?_ ?_
      rotate_left
      ·intro w'
       go_simp
       with_reducible rfl
      rotate_left
      ·simp only [Act.put, List.setIfInBounds_toArray, List.set_cons_zero, List.set_cons_succ, i64_w, i32_w]
       rfl
      refine pure_ (i := 17) (N := some 65) (v := ?_) (a' := ?_) #[true, true, true, true, true, true, true, true, true, true, true, true, true, true, true, true, true, true, false, true, true, false, false, false, false] rfl rfl (any_of HT_.out (by kernel_rfl)) (fun _ _ _ h => h) (Or.inl ⟨by rfl, ?_⟩) ?_ ?_
      rotate_left
      ·intro w'
       go_simp
       with_reducible rfl
      rotate_left
      ·simp only [Act.put, List.setIfInBounds_toArray, List.set_cons_zero, List.set_cons_succ, i64_w, i32_w]
       rfl
      refine pure_ (i := 18) (N := some 66) (v := ?_) (a' := ?_) #[true, true, true, true, true, true, true, true, true, true, true, true, true, true, true, true, true, true, true, true, true, false, false, false, false] rfl rfl (any_of HT_.out (by kernel_rfl)) (fun _ _ _ h => h) (Or.inl ⟨by rfl, ?_⟩) ?_ ?_
      rotate_left
      ·intro w'
       go_simp
       with_reducible rfl
      rotate_left
      ·simp only [Act.put, List.setIfInBounds_toArray, List.set_cons_zero, List.set_cons_succ, i64_w, i32_w]
       rfl
      exact norm_ (by simp only [putAll, Act.put, List.setIfInBounds_toArray, List.set_cons_zero, List.set_cons_succ] <;> rfl) (hJ2_7_11_13_19_20 (gb691, gb692) _ ⟨hHeld, (BK659.out), (BK660.out), (BK661.out), (BK662.out), (BK674.out), (BK675.out), (BK691.out), (BK692.out), GE691.out, NB659_691.out, NB691_659.out, NB660_691.out, NB691_660.out, NB661_691.out, NB691_661.out, NB662_691.out, NB691_662.out, NB674_691.out, NB691_674.out, NB675_691.out, NB691_675.out, NB692_691.out, NB691_692.out, GE692.out, NB659_692.out, NB692_659.out, NB660_692.out, NB692_660.out, NB661_692.out, NB692_661.out, NB662_692.out, NB692_662.out, NB674_692.out, NB692_674.out, NB675_692.out, NB692_675.out, (HB.out)⟩)
     skip
     rintro gb692 w71 ⟨hS_, h0_, h1_, h2_, h3_, h4_, h5_, h6_, h7_, h8_, h9_, h10_, h11_, h12_, h13_, h14_, h15_, h16_, h17_, h18_, h19_, h20_⟩
     have n0_ : Aside0 (w71.heap[gb659]? = some (.cells #[.int .i64 a0_0, .int .i64 a0_1, .int .i64 a0_2] 23 (0, 0))) := ⟨h0_⟩
     have n1_ : Aside0 (w71.heap[gb660]? = some (.cells #[.int .i64 a1_0, .int .i64 a1_1, .int .i64 a1_2] 23 (0, 0))) := ⟨h1_⟩
     have n2_ : Aside0 (w71.heap[gb661]? = some (.cells #[.int .i64 a2_0, .int .i64 a2_1, .int .i64 a2_2, .int .i64 a2_3, .int .i64 a2_4, .int .i64 a2_5] 56 (0, 0))) := ⟨h2_⟩
     have n3_ : Aside0 (w71.heap[gb662]? = some (.cells #[.int .i64 a3_0, .int .i64 a3_1, .int .i64 a3_2] 23 (0, 0))) := ⟨h3_⟩
     have n4_ : Aside0 (w71.heap[gb674]? = some (.cells #[.int .i64 t668, .int .i64 t669] 28 (0, 0))) := ⟨h4_⟩
     have n5_ : Aside0 (w71.heap[gb675]? = some (.cells #[.int .i64 t670, .int .i64 t671] 28 (0, 0))) := ⟨h5_⟩
     have n6_ : Aside0 (w71.heap[gb692]? = some (.cells #[.int .i64 0, .int .i64 0] 28 (0, 0))) := ⟨h6_⟩
     have GE692 : Aside0 (w.heap.size ≤ gb692) := ⟨h7_⟩
     have NB659_692 : Aside0 (gb659 ≠ gb692) := ⟨h8_⟩
     have NB692_659 : Aside0 (gb692 ≠ gb659) := ⟨h9_⟩
     have NB660_692 : Aside0 (gb660 ≠ gb692) := ⟨h10_⟩
     have NB692_660 : Aside0 (gb692 ≠ gb660) := ⟨h11_⟩
     have NB661_692 : Aside0 (gb661 ≠ gb692) := ⟨h12_⟩
     have NB692_661 : Aside0 (gb692 ≠ gb661) := ⟨h13_⟩
     have NB662_692 : Aside0 (gb662 ≠ gb692) := ⟨h14_⟩
     have NB692_662 : Aside0 (gb692 ≠ gb662) := ⟨h15_⟩
     have NB674_692 : Aside0 (gb674 ≠ gb692) := ⟨h16_⟩
     have NB692_674 : Aside0 (gb692 ≠ gb674) := ⟨h17_⟩
     have NB675_692 : Aside0 (gb675 ≠ gb692) := ⟨h18_⟩
     have NB692_675 : Aside0 (gb692 ≠ gb675) := ⟨h19_⟩
     have n20_ : Aside0 (Below w.heap.size w w71) := ⟨h20_⟩
     clear BK659
     clear BK660
     clear BK661
     clear BK662
     clear BK674
     clear BK675
     clear HB
     clear h0_ h1_ h2_ h3_ h4_ h5_ h6_ h7_ h8_ h9_ h10_ h11_ h12_ h13_ h14_ h15_ h16_ h17_ h18_ h19_ h20_
     have BK659 := n0_
     have BK660 := n1_
     have BK661 := n2_
     have BK662 := n3_
     have BK674 := n4_
     have BK675 := n5_
     have BK692 := n6_
     have HB := n20_
     clear n0_ n1_ n2_ n3_ n4_ n5_ n6_ n20_
     have hHeld : w71.cell? ⟨gb659, 0, none⟩ = some (.int .i64 a0_0) ∧ w71.cell? ⟨gb659, 1, none⟩ = some (.int .i64 a0_1) ∧ w71.cell? ⟨gb659, 2, none⟩ = some (.int .i64 a0_2) ∧ w71.cell? ⟨gb662, 0, none⟩ = some (.int .i64 a3_0) ∧ w71.cell? ⟨gb662, 1, none⟩ = some (.int .i64 a3_1) ∧ w71.cell? ⟨gb662, 2, none⟩ = some (.int .i64 a3_2) ∧ w71.cell? ⟨gb660, 0, none⟩ = some (.int .i64 a1_0) ∧ w71.cell? ⟨gb660, 1, none⟩ = some (.int .i64 a1_1) ∧ w71.cell? ⟨gb660, 2, none⟩ = some (.int .i64 a1_2) ∧ w71.cell? ⟨gb661, 0, none⟩ = some (.int .i64 a2_0) ∧ w71.cell? ⟨gb661, 1, none⟩ = some (.int .i64 a2_1) ∧ w71.cell? ⟨gb661, 2, none⟩ = some (.int .i64 a2_2) ∧ w71.cell? ⟨gb661, 3, none⟩ = some (.int .i64 a2_3) ∧ w71.cell? ⟨gb661, 4, none⟩ = some (.int .i64 a2_4) ∧ w71.cell? ⟨gb661, 5, none⟩ = some (.int .i64 a2_5) := hS_
     refine norm_ (a' := ?_) ?_ ?_
     rotate_left
     ·simp only [putAll, Act.put, List.setIfInBounds_toArray, List.set_cons_zero, List.set_cons_succ]
      rfl
     refine one_ (i := 19) (N := some 13) #[true, true, true, true, true, true, true, true, true, true, true, true, true, true, true, true, true, true, true, true, true, false, false, false, false] rfl rfl (one_of HT_.out (by kernel_rfl)) (by decide) (fun K hK => ?_)
     refine box_step ?hg (N := 13) ?hd (cs := #[.int .i64 0, .int .i64 0]) (t := 28) ?hr ?_; (case hd => rfl); (case hg => rfl); (case hr => first | (go_simp; done) | (go_simp; rfl))
     intro gb691 hg w72 hbox hb
     have BK691 := Aside0.mk (hbox)
     have GE691 := Aside0.mk (bG hg (HB.out))
     have NB659_691 := cN hg BK659
     have NB691_659 := cM hg BK659
     have NB660_691 := cN hg BK660
     have NB691_660 := cM hg BK660
     have NB661_691 := cN hg BK661
     have NB691_661 := cM hg BK661
     have NB662_691 := cN hg BK662
     have NB691_662 := cM hg BK662
     have NB674_691 := cN hg BK674
     have NB691_674 := cM hg BK674
     have NB675_691 := cN hg BK675
     have NB691_675 := cM hg BK675
     have NB692_691 := cN hg BK692
     have NB691_692 := cM hg BK692
     replace BK659 := cB hb BK659
     replace BK660 := cB hb BK660
     replace BK661 := cB hb BK661
     replace BK662 := cB hb BK662
     replace BK674 := cB hb BK674
     replace BK675 := cB hb BK675
     replace BK692 := cB hb BK692
     replace HB := Aside0.mk (below_step (HB.out) hb)
     clear hb hbox hg
     refine hK.out _ _ ⟨(blk_cell BK659.out 0).trans rfl, (blk_cell BK659.out 1).trans rfl, (blk_cell BK659.out 2).trans rfl, (blk_cell BK662.out 0).trans rfl, (blk_cell BK662.out 1).trans rfl, (blk_cell BK662.out 2).trans rfl, (blk_cell BK660.out 0).trans rfl, (blk_cell BK660.out 1).trans rfl, (blk_cell BK660.out 2).trans rfl, (blk_cell BK661.out 0).trans rfl, (blk_cell BK661.out 1).trans rfl, (blk_cell BK661.out 2).trans rfl, (blk_cell BK661.out 3).trans rfl, (blk_cell BK661.out 4).trans rfl, (blk_cell BK661.out 5).trans rfl⟩ (fun hHeld => ?_)
     clear hK K
     refine norm_ (a' := ?_) ?_ ?_
     rotate_left
     ·show Act.put _ (some 13) _ = _
      simp only [Act.put, List.setIfInBounds_toArray, List.set_cons_zero, List.set_cons_succ, i64_w, i32_w]
      rfl
     exact norm_ (by simp only [putAll, Act.put, List.setIfInBounds_toArray, List.set_cons_zero, List.set_cons_succ] <;> rfl) (hJ2_7_11_13_19_20 (gb691, gb692) _ ⟨hHeld, (BK659.out), (BK660.out), (BK661.out), (BK662.out), (BK674.out), (BK675.out), (BK691.out), (BK692.out), GE691.out, NB659_691.out, NB691_659.out, NB660_691.out, NB691_660.out, NB661_691.out, NB691_661.out, NB662_691.out, NB691_662.out, NB674_691.out, NB691_674.out, NB675_691.out, NB691_675.out, NB692_691.out, NB691_692.out, GE692.out, NB659_692.out, NB692_659.out, NB660_692.out, NB692_660.out, NB661_692.out, NB692_661.out, NB662_692.out, NB692_662.out, NB674_692.out, NB692_674.out, NB675_692.out, NB692_675.out, (HB.out)⟩)
    skip
    rintro gb691 w71 ⟨hS_, h0_, h1_, h2_, h3_, h4_, h5_, h6_, h7_, h8_, h9_, h10_, h11_, h12_, h13_, h14_, h15_, h16_, h17_, h18_, h19_, h20_⟩
    have n0_ : Aside0 (w71.heap[gb659]? = some (.cells #[.int .i64 a0_0, .int .i64 a0_1, .int .i64 a0_2] 23 (0, 0))) := ⟨h0_⟩
    have n1_ : Aside0 (w71.heap[gb660]? = some (.cells #[.int .i64 a1_0, .int .i64 a1_1, .int .i64 a1_2] 23 (0, 0))) := ⟨h1_⟩
    have n2_ : Aside0 (w71.heap[gb661]? = some (.cells #[.int .i64 a2_0, .int .i64 a2_1, .int .i64 a2_2, .int .i64 a2_3, .int .i64 a2_4, .int .i64 a2_5] 56 (0, 0))) := ⟨h2_⟩
    have n3_ : Aside0 (w71.heap[gb662]? = some (.cells #[.int .i64 a3_0, .int .i64 a3_1, .int .i64 a3_2] 23 (0, 0))) := ⟨h3_⟩
    have n4_ : Aside0 (w71.heap[gb674]? = some (.cells #[.int .i64 t668, .int .i64 t669] 28 (0, 0))) := ⟨h4_⟩
    have n5_ : Aside0 (w71.heap[gb675]? = some (.cells #[.int .i64 t670, .int .i64 t671] 28 (0, 0))) := ⟨h5_⟩
    have n6_ : Aside0 (w71.heap[gb691]? = some (.cells #[.int .i64 0, .int .i64 0] 28 (0, 0))) := ⟨h6_⟩
    have GE691 : Aside0 (w.heap.size ≤ gb691) := ⟨h7_⟩
    have NB659_691 : Aside0 (gb659 ≠ gb691) := ⟨h8_⟩
    have NB691_659 : Aside0 (gb691 ≠ gb659) := ⟨h9_⟩
    have NB660_691 : Aside0 (gb660 ≠ gb691) := ⟨h10_⟩
    have NB691_660 : Aside0 (gb691 ≠ gb660) := ⟨h11_⟩
    have NB661_691 : Aside0 (gb661 ≠ gb691) := ⟨h12_⟩
    have NB691_661 : Aside0 (gb691 ≠ gb661) := ⟨h13_⟩
    have NB662_691 : Aside0 (gb662 ≠ gb691) := ⟨h14_⟩
    have NB691_662 : Aside0 (gb691 ≠ gb662) := ⟨h15_⟩
    have NB674_691 : Aside0 (gb674 ≠ gb691) := ⟨h16_⟩
    have NB691_674 : Aside0 (gb691 ≠ gb674) := ⟨h17_⟩
    have NB675_691 : Aside0 (gb675 ≠ gb691) := ⟨h18_⟩
    have NB691_675 : Aside0 (gb691 ≠ gb675) := ⟨h19_⟩
    have n20_ : Aside0 (Below w.heap.size w w71) := ⟨h20_⟩
    clear BK659
    clear BK660
    clear BK661
    clear BK662
    clear BK674
    clear BK675
    clear HB
    clear h0_ h1_ h2_ h3_ h4_ h5_ h6_ h7_ h8_ h9_ h10_ h11_ h12_ h13_ h14_ h15_ h16_ h17_ h18_ h19_ h20_
    have BK659 := n0_
    have BK660 := n1_
    have BK661 := n2_
    have BK662 := n3_
    have BK674 := n4_
    have BK675 := n5_
    have BK691 := n6_
    have HB := n20_
    clear n0_ n1_ n2_ n3_ n4_ n5_ n6_ n20_
    have hHeld : w71.cell? ⟨gb659, 0, none⟩ = some (.int .i64 a0_0) ∧ w71.cell? ⟨gb659, 1, none⟩ = some (.int .i64 a0_1) ∧ w71.cell? ⟨gb659, 2, none⟩ = some (.int .i64 a0_2) ∧ w71.cell? ⟨gb662, 0, none⟩ = some (.int .i64 a3_0) ∧ w71.cell? ⟨gb662, 1, none⟩ = some (.int .i64 a3_1) ∧ w71.cell? ⟨gb662, 2, none⟩ = some (.int .i64 a3_2) ∧ w71.cell? ⟨gb660, 0, none⟩ = some (.int .i64 a1_0) ∧ w71.cell? ⟨gb660, 1, none⟩ = some (.int .i64 a1_1) ∧ w71.cell? ⟨gb660, 2, none⟩ = some (.int .i64 a1_2) ∧ w71.cell? ⟨gb661, 0, none⟩ = some (.int .i64 a2_0) ∧ w71.cell? ⟨gb661, 1, none⟩ = some (.int .i64 a2_1) ∧ w71.cell? ⟨gb661, 2, none⟩ = some (.int .i64 a2_2) ∧ w71.cell? ⟨gb661, 3, none⟩ = some (.int .i64 a2_3) ∧ w71.cell? ⟨gb661, 4, none⟩ = some (.int .i64 a2_4) ∧ w71.cell? ⟨gb661, 5, none⟩ = some (.int .i64 a2_5) := hS_
    refine norm_ (a' := ?_) ?_ ?_
    rotate_left
    ·simp only [putAll, Act.put, List.setIfInBounds_toArray, List.set_cons_zero, List.set_cons_succ]
     rfl
    refine one_ (i := 20) (N := some 14) #[true, true, true, true, true, true, true, true, true, true, true, true, true, true, true, true, true, true, true, true, true, false, false, false, false] rfl rfl (one_of HT_.out (by kernel_rfl)) (by decide) (fun K hK => ?_)
    refine box_step ?hg (N := 14) ?hd (cs := #[.int .i64 0, .int .i64 0]) (t := 28) ?hr ?_; (case hd => rfl); (case hg => rfl); (case hr => first | (go_simp; done) | (go_simp; rfl))
    intro gb692 hg w72 hbox hb
    have BK692 := Aside0.mk (hbox)
    have GE692 := Aside0.mk (bG hg (HB.out))
    have NB659_692 := cN hg BK659
    have NB692_659 := cM hg BK659
    have NB660_692 := cN hg BK660
    have NB692_660 := cM hg BK660
    have NB661_692 := cN hg BK661
    have NB692_661 := cM hg BK661
    have NB662_692 := cN hg BK662
    have NB692_662 := cM hg BK662
    have NB674_692 := cN hg BK674
    have NB692_674 := cM hg BK674
    have NB675_692 := cN hg BK675
    have NB692_675 := cM hg BK675
    have NB691_692 := cN hg BK691
    have NB692_691 := cM hg BK691
    replace BK659 := cB hb BK659
    replace BK660 := cB hb BK660
    replace BK661 := cB hb BK661
    replace BK662 := cB hb BK662
    replace BK674 := cB hb BK674
    replace BK675 := cB hb BK675
    replace BK691 := cB hb BK691
    replace HB := Aside0.mk (below_step (HB.out) hb)
    clear hb hbox hg
    refine hK.out _ _ ⟨(blk_cell BK659.out 0).trans rfl, (blk_cell BK659.out 1).trans rfl, (blk_cell BK659.out 2).trans rfl, (blk_cell BK662.out 0).trans rfl, (blk_cell BK662.out 1).trans rfl, (blk_cell BK662.out 2).trans rfl, (blk_cell BK660.out 0).trans rfl, (blk_cell BK660.out 1).trans rfl, (blk_cell BK660.out 2).trans rfl, (blk_cell BK661.out 0).trans rfl, (blk_cell BK661.out 1).trans rfl, (blk_cell BK661.out 2).trans rfl, (blk_cell BK661.out 3).trans rfl, (blk_cell BK661.out 4).trans rfl, (blk_cell BK661.out 5).trans rfl⟩ (fun hHeld => ?_)
    clear hK K
    refine norm_ (a' := ?_) ?_ ?_
    rotate_left
    ·show Act.put _ (some 14) _ = _
     simp only [Act.put, List.setIfInBounds_toArray, List.set_cons_zero, List.set_cons_succ, i64_w, i32_w]
     rfl
    exact norm_ (by simp only [putAll, Act.put, List.setIfInBounds_toArray, List.set_cons_zero, List.set_cons_succ] <;> rfl) (hJ2_7_11_13_19_20 (gb691, gb692) _ ⟨hHeld, (BK659.out), (BK660.out), (BK661.out), (BK662.out), (BK674.out), (BK675.out), (BK691.out), (BK692.out), GE691.out, NB659_691.out, NB691_659.out, NB660_691.out, NB691_660.out, NB661_691.out, NB691_661.out, NB662_691.out, NB691_662.out, NB674_691.out, NB691_674.out, NB675_691.out, NB691_675.out, NB692_691.out, NB691_692.out, GE692.out, NB659_692.out, NB692_659.out, NB660_692.out, NB692_660.out, NB661_692.out, NB692_661.out, NB662_692.out, NB692_662.out, NB674_692.out, NB692_674.out, NB675_692.out, NB692_675.out, (HB.out)⟩)
   rintro ⟨gb691, gb692⟩ w72 ⟨hS_, h0_, h1_, h2_, h3_, h4_, h5_, h6_, h7_, h8_, h9_, h10_, h11_, h12_, h13_, h14_, h15_, h16_, h17_, h18_, h19_, h20_, h21_, h22_, h23_, h24_, h25_, h26_, h27_, h28_, h29_, h30_, h31_, h32_, h33_, h34_, h35_, h36_⟩
   have n0_ : Aside0 (w72.heap[gb659]? = some (.cells #[.int .i64 a0_0, .int .i64 a0_1, .int .i64 a0_2] 23 (0, 0))) := ⟨h0_⟩
   have n1_ : Aside0 (w72.heap[gb660]? = some (.cells #[.int .i64 a1_0, .int .i64 a1_1, .int .i64 a1_2] 23 (0, 0))) := ⟨h1_⟩
   have n2_ : Aside0 (w72.heap[gb661]? = some (.cells #[.int .i64 a2_0, .int .i64 a2_1, .int .i64 a2_2, .int .i64 a2_3, .int .i64 a2_4, .int .i64 a2_5] 56 (0, 0))) := ⟨h2_⟩
   have n3_ : Aside0 (w72.heap[gb662]? = some (.cells #[.int .i64 a3_0, .int .i64 a3_1, .int .i64 a3_2] 23 (0, 0))) := ⟨h3_⟩
   have n4_ : Aside0 (w72.heap[gb674]? = some (.cells #[.int .i64 t668, .int .i64 t669] 28 (0, 0))) := ⟨h4_⟩
   have n5_ : Aside0 (w72.heap[gb675]? = some (.cells #[.int .i64 t670, .int .i64 t671] 28 (0, 0))) := ⟨h5_⟩
   have n6_ : Aside0 (w72.heap[gb691]? = some (.cells #[.int .i64 0, .int .i64 0] 28 (0, 0))) := ⟨h6_⟩
   have n7_ : Aside0 (w72.heap[gb692]? = some (.cells #[.int .i64 0, .int .i64 0] 28 (0, 0))) := ⟨h7_⟩
   have GE691 : Aside0 (w.heap.size ≤ gb691) := ⟨h8_⟩
   have NB659_691 : Aside0 (gb659 ≠ gb691) := ⟨h9_⟩
   have NB691_659 : Aside0 (gb691 ≠ gb659) := ⟨h10_⟩
   have NB660_691 : Aside0 (gb660 ≠ gb691) := ⟨h11_⟩
   have NB691_660 : Aside0 (gb691 ≠ gb660) := ⟨h12_⟩
   have NB661_691 : Aside0 (gb661 ≠ gb691) := ⟨h13_⟩
   have NB691_661 : Aside0 (gb691 ≠ gb661) := ⟨h14_⟩
   have NB662_691 : Aside0 (gb662 ≠ gb691) := ⟨h15_⟩
   have NB691_662 : Aside0 (gb691 ≠ gb662) := ⟨h16_⟩
   have NB674_691 : Aside0 (gb674 ≠ gb691) := ⟨h17_⟩
   have NB691_674 : Aside0 (gb691 ≠ gb674) := ⟨h18_⟩
   have NB675_691 : Aside0 (gb675 ≠ gb691) := ⟨h19_⟩
   have NB691_675 : Aside0 (gb691 ≠ gb675) := ⟨h20_⟩
   have NB692_691 : Aside0 (gb692 ≠ gb691) := ⟨h21_⟩
   have NB691_692 : Aside0 (gb691 ≠ gb692) := ⟨h22_⟩
   have GE692 : Aside0 (w.heap.size ≤ gb692) := ⟨h23_⟩
   have NB659_692 : Aside0 (gb659 ≠ gb692) := ⟨h24_⟩
   have NB692_659 : Aside0 (gb692 ≠ gb659) := ⟨h25_⟩
   have NB660_692 : Aside0 (gb660 ≠ gb692) := ⟨h26_⟩
   have NB692_660 : Aside0 (gb692 ≠ gb660) := ⟨h27_⟩
   have NB661_692 : Aside0 (gb661 ≠ gb692) := ⟨h28_⟩
   have NB692_661 : Aside0 (gb692 ≠ gb661) := ⟨h29_⟩
   have NB662_692 : Aside0 (gb662 ≠ gb692) := ⟨h30_⟩
   have NB692_662 : Aside0 (gb692 ≠ gb662) := ⟨h31_⟩
   have NB674_692 : Aside0 (gb674 ≠ gb692) := ⟨h32_⟩
   have NB692_674 : Aside0 (gb692 ≠ gb674) := ⟨h33_⟩
   have NB675_692 : Aside0 (gb675 ≠ gb692) := ⟨h34_⟩
   have NB692_675 : Aside0 (gb692 ≠ gb675) := ⟨h35_⟩
   have n36_ : Aside0 (Below w.heap.size w w72) := ⟨h36_⟩
   clear BK659
   clear BK660
   clear BK661
   clear BK662
   clear BK674
   clear BK675
   clear HB
   clear h0_ h1_ h2_ h3_ h4_ h5_ h6_ h7_ h8_ h9_ h10_ h11_ h12_ h13_ h14_ h15_ h16_ h17_ h18_ h19_ h20_ h21_ h22_ h23_ h24_ h25_ h26_ h27_ h28_ h29_ h30_ h31_ h32_ h33_ h34_ h35_ h36_
   have BK659 := n0_
   have BK660 := n1_
   have BK661 := n2_
   have BK662 := n3_
   have BK674 := n4_
   have BK675 := n5_
   have BK691 := n6_
   have BK692 := n7_
   have HB := n36_
   clear n0_ n1_ n2_ n3_ n4_ n5_ n6_ n7_ n36_
   have hHeld : w72.cell? ⟨gb659, 0, none⟩ = some (.int .i64 a0_0) ∧ w72.cell? ⟨gb659, 1, none⟩ = some (.int .i64 a0_1) ∧ w72.cell? ⟨gb659, 2, none⟩ = some (.int .i64 a0_2) ∧ w72.cell? ⟨gb662, 0, none⟩ = some (.int .i64 a3_0) ∧ w72.cell? ⟨gb662, 1, none⟩ = some (.int .i64 a3_1) ∧ w72.cell? ⟨gb662, 2, none⟩ = some (.int .i64 a3_2) ∧ w72.cell? ⟨gb660, 0, none⟩ = some (.int .i64 a1_0) ∧ w72.cell? ⟨gb660, 1, none⟩ = some (.int .i64 a1_1) ∧ w72.cell? ⟨gb660, 2, none⟩ = some (.int .i64 a1_2) ∧ w72.cell? ⟨gb661, 0, none⟩ = some (.int .i64 a2_0) ∧ w72.cell? ⟨gb661, 1, none⟩ = some (.int .i64 a2_1) ∧ w72.cell? ⟨gb661, 2, none⟩ = some (.int .i64 a2_2) ∧ w72.cell? ⟨gb661, 3, none⟩ = some (.int .i64 a2_3) ∧ w72.cell? ⟨gb661, 4, none⟩ = some (.int .i64 a2_4) ∧ w72.cell? ⟨gb661, 5, none⟩ = some (.int .i64 a2_5) := hS_
   refine norm_ (a' := ?_) ?_ ?_
   rotate_left
   ·simp only [putAll, Act.put, List.setIfInBounds_toArray, List.set_cons_zero, List.set_cons_succ]
    rfl
   refine one_ (i := 21) (N := none) #[true, true, true, true, true, true, true, true, true, true, true, true, true, true, true, true, true, true, true, true, true, true, false, false, false] rfl rfl (one_of HT_.out (by kernel_rfl)) (by decide) (fun K hK => ?_)
   have hs73 : w72.cell? ⟨gb691, 0, none⟩ = some (.int .i64 0) := (blk_cell BK691.out 0).trans rfl
   have hfs73 := blk_frozen BK691.out 0
   have hns73_0 := NB659_691.out
   have hns73_1 := NB660_691.out
   have hns73_2 := NB661_691.out
   have hns73_3 := NB662_691.out
   have hns73_4 := NB674_691.out
   have hns73_5 := NB675_691.out
   have hns73_7 := NB692_691.out
   have hms73_0 := NB691_659.out
   have hms73_1 := NB691_660.out
   have hms73_2 := NB691_661.out
   have hms73_3 := NB691_662.out
   have hms73_4 := NB691_674.out
   have hms73_5 := NB691_675.out
   have hms73_7 := NB691_692.out
   have hs74 : w72.cell? ⟨gb691, 1, none⟩ = some (.int .i64 0) := (blk_cell BK691.out 1).trans rfl
   have hfs74 := blk_frozen BK691.out 1
   have hns74_0 := NB659_691.out
   have hns74_1 := NB660_691.out
   have hns74_2 := NB661_691.out
   have hns74_3 := NB662_691.out
   have hns74_4 := NB674_691.out
   have hns74_5 := NB675_691.out
   have hns74_7 := NB692_691.out
   have hms74_0 := NB691_659.out
   have hms74_1 := NB691_660.out
   have hms74_2 := NB691_661.out
   have hms74_3 := NB691_662.out
   have hms74_4 := NB691_674.out
   have hms74_5 := NB691_675.out
   have hms74_7 := NB691_692.out
   refine skip_ (w1 := ?_) (by rfl) rfl ?_ ?_
   rotate_left
   ·go_simp
    rfl
   refine hK.out _ _ ⟨(cf NB659_691.out (cf NB659_691.out hHeld.1)), (cf NB659_691.out (cf NB659_691.out hHeld.2.1)), (cf NB659_691.out (cf NB659_691.out hHeld.2.2.1)), (cf NB662_691.out (cf NB662_691.out hHeld.2.2.2.1)), (cf NB662_691.out (cf NB662_691.out hHeld.2.2.2.2.1)), (cf NB662_691.out (cf NB662_691.out hHeld.2.2.2.2.2.1)), (cf NB660_691.out (cf NB660_691.out hHeld.2.2.2.2.2.2.1)), (cf NB660_691.out (cf NB660_691.out hHeld.2.2.2.2.2.2.2.1)), (cf NB660_691.out (cf NB660_691.out hHeld.2.2.2.2.2.2.2.2.1)), (cf NB661_691.out (cf NB661_691.out hHeld.2.2.2.2.2.2.2.2.2.1)), (cf NB661_691.out (cf NB661_691.out hHeld.2.2.2.2.2.2.2.2.2.2.1)), (cf NB661_691.out (cf NB661_691.out hHeld.2.2.2.2.2.2.2.2.2.2.2.1)), (cf NB661_691.out (cf NB661_691.out hHeld.2.2.2.2.2.2.2.2.2.2.2.2.1)), (cf NB661_691.out (cf NB661_691.out hHeld.2.2.2.2.2.2.2.2.2.2.2.2.2.1)), (cf NB661_691.out (cf NB661_691.out hHeld.2.2.2.2.2.2.2.2.2.2.2.2.2.2))⟩ (fun hHeld => ?_)
   clear hK K
   refine one_ (i := 22) (N := none) #[true, true, true, true, true, true, true, true, true, true, true, true, true, true, true, true, true, true, true, true, true, true, true, false, false] rfl rfl (one_of HT_.out (by kernel_rfl)) (by decide) (fun K hK => ?_)
   have hs75 : w72.cell? ⟨gb692, 0, none⟩ = some (.int .i64 0) := (blk_cell BK692.out 0).trans rfl
   have hfs75 := blk_frozen BK692.out 0
   have hns75_0 := NB659_692.out
   have hns75_1 := NB660_692.out
   have hns75_2 := NB661_692.out
   have hns75_3 := NB662_692.out
   have hns75_4 := NB674_692.out
   have hns75_5 := NB675_692.out
   have hns75_6 := NB691_692.out
   have hms75_0 := NB692_659.out
   have hms75_1 := NB692_660.out
   have hms75_2 := NB692_661.out
   have hms75_3 := NB692_662.out
   have hms75_4 := NB692_674.out
   have hms75_5 := NB692_675.out
   have hms75_6 := NB692_691.out
   have hs76 : w72.cell? ⟨gb692, 1, none⟩ = some (.int .i64 0) := (blk_cell BK692.out 1).trans rfl
   have hfs76 := blk_frozen BK692.out 1
   have hns76_0 := NB659_692.out
   have hns76_1 := NB660_692.out
   have hns76_2 := NB661_692.out
   have hns76_3 := NB662_692.out
   have hns76_4 := NB674_692.out
   have hns76_5 := NB675_692.out
   have hns76_6 := NB691_692.out
   have hms76_0 := NB692_659.out
   have hms76_1 := NB692_660.out
   have hms76_2 := NB692_661.out
   have hms76_3 := NB692_662.out
   have hms76_4 := NB692_674.out
   have hms76_5 := NB692_675.out
   have hms76_6 := NB692_691.out
   refine skip_ (w1 := ?_) (by rfl) rfl ?_ ?_
   rotate_left
   ·go_simp
    rfl
   refine hK.out _ _ ⟨(cf NB659_692.out (cf NB659_692.out hHeld.1)), (cf NB659_692.out (cf NB659_692.out hHeld.2.1)), (cf NB659_692.out (cf NB659_692.out hHeld.2.2.1)), (cf NB662_692.out (cf NB662_692.out hHeld.2.2.2.1)), (cf NB662_692.out (cf NB662_692.out hHeld.2.2.2.2.1)), (cf NB662_692.out (cf NB662_692.out hHeld.2.2.2.2.2.1)), (cf NB660_692.out (cf NB660_692.out hHeld.2.2.2.2.2.2.1)), (cf NB660_692.out (cf NB660_692.out hHeld.2.2.2.2.2.2.2.1)), (cf NB660_692.out (cf NB660_692.out hHeld.2.2.2.2.2.2.2.2.1)), (cf NB661_692.out (cf NB661_692.out hHeld.2.2.2.2.2.2.2.2.2.1)), (cf NB661_692.out (cf NB661_692.out hHeld.2.2.2.2.2.2.2.2.2.2.1)), (cf NB661_692.out (cf NB661_692.out hHeld.2.2.2.2.2.2.2.2.2.2.2.1)), (cf NB661_692.out (cf NB661_692.out hHeld.2.2.2.2.2.2.2.2.2.2.2.2.1)), (cf NB661_692.out (cf NB661_692.out hHeld.2.2.2.2.2.2.2.2.2.2.2.2.2.1)), (cf NB661_692.out (cf NB661_692.out hHeld.2.2.2.2.2.2.2.2.2.2.2.2.2.2))⟩ (fun hHeld => ?_)
   clear hK K
   refine pure_ (i := 23) (N := some 15) (v := ?_) (a' := ?_) #[true, true, true, true, true, true, true, true, true, true, true, true, true, true, true, true, true, true, true, true, true, true, true, true, false] rfl rfl (any_of HT_.out (by kernel_rfl)) (fun _ _ _ h => h) (Or.inl ⟨by rfl, ?_⟩) ?_ ?_
   rotate_left
   ·intro w'
    go_simp
    with_reducible rfl
   rotate_left
   ·simp only [Act.put, List.setIfInBounds_toArray, List.set_cons_zero, List.set_cons_succ, i64_w, i32_w]
    rfl
   refine pure_ (i := 24) (N := some 16) (v := ?_) (a' := ?_) #[true, true, true, true, true, true, true, true, true, true, true, true, true, true, true, true, true, true, true, true, true, true, true, true, true] rfl rfl (any_of HT_.out (by kernel_rfl)) (fun _ _ _ h => h) (Or.inl ⟨by rfl, ?_⟩) ?_ ?_
   rotate_left
   ·intro w'
    go_simp
    with_reducible rfl
   rotate_left
   ·simp only [Act.put, List.setIfInBounds_toArray, List.set_cons_zero, List.set_cons_succ, i64_w, i32_w]
    rfl
   refine done_ (done_of HT_.out (by kernel_rfl)) ?_
   go_upto_region 7 with (fail)
   go_cut [72] (fun v72 wc => ∃ (kq : Nat) (x72_45 : Bool), v72 = .bool x72_45 ∧ Aside0 (relievolaw04_SlabMoved.j1 kq t672 t689 x72_45 t668 t669 t670 t671 t685 t686 t687 t688 = some r) ∧ Aside0 (kq ≤ kj6) ∧ Aside0 (wc.heap[gb674]? = some (.cells #[.int .i64 t668, .int .i64 t669] 28 (0, 0))) ∧ Aside0 (wc.heap[gb675]? = some (.cells #[.int .i64 t670, .int .i64 t671] 28 (0, 0))) ∧ Aside0 (wc.heap[gb691]? = some (.cells #[.int .i64 t685, .int .i64 t686] 28 (0, 0))) ∧ Aside0 (wc.heap[gb692]? = some (.cells #[.int .i64 t687, .int .i64 t688] 28 (0, 0))) ∧ Aside0 (Below w.heap.size w wc))
   case first =>
    have H := HC46.out
    clear HC46
    by_cases c77 : t673 = 0
    ·rw [if_pos c77] at H
     have c77b0 : (t673 == 0) = true := beq_iff_eq.mpr c77
     have c77b1 : (t673 != 0) = false := bne_eq_false_iff_eq.mpr c77
     clear c77
     (first | rw [c77b0] | (simp only [i64_w, i32_w]; rw [c77b0]) | skip)
     have H' := Aside0.mk H
     clear H
     go_wp2
     go_meet
     case rel => exact ⟨_, ((t690 != 0)), (by first | rfl | (simp; done) | (simp [*]; done)), H', ⟨by have := HJ6.out; first | omega | exact Nat.le_refl _⟩, ⟨(blk_far (blk_far (blk_far (blk_far BK674.out NB674_691.out _) NB674_691.out _) NB674_692.out _) NB674_692.out _)⟩, ⟨(blk_far (blk_far (blk_far (blk_far BK675.out NB675_691.out _) NB675_691.out _) NB675_692.out _) NB675_692.out _)⟩, ⟨(blk_far (blk_far (blk_put (cs' := #[.int .i64 t685, .int .i64 t686]) (blk_put BK691.out 0 _ rfl) 1 _ rfl) NB691_692.out _) NB691_692.out _)⟩, ⟨(blk_put (cs' := #[.int .i64 t687, .int .i64 t688]) (blk_put (blk_far (blk_far BK692.out NB692_691.out _) NB692_691.out _) 0 _ rfl) 1 _ rfl)⟩, ⟨(below_set (below_set (below_set (below_set HB.out GE691.out) GE691.out) GE692.out) GE692.out)⟩⟩
    rw [if_neg c77] at H
    have c77b0 : (t673 == 0) = false := beq_eq_false_iff_ne.mpr c77
    have c77b1 : (t673 != 0) = true := bne_iff_ne.mpr c77
    (first | rw [c77b0] | (simp only [i64_w, i32_w]; rw [c77b0]) | skip)
    have H' := Aside0.mk H
    clear H
    go_wp2
    go_meet
    case rel => exact ⟨_, (true), (by first | rfl | (simp; done) | (simp [*]; done)), H', ⟨by have := HJ6.out; first | omega | exact Nat.le_refl _⟩, ⟨(blk_far (blk_far (blk_far (blk_far BK674.out NB674_691.out _) NB674_691.out _) NB674_692.out _) NB674_692.out _)⟩, ⟨(blk_far (blk_far (blk_far (blk_far BK675.out NB675_691.out _) NB675_691.out _) NB675_692.out _) NB675_692.out _)⟩, ⟨(blk_far (blk_far (blk_put (cs' := #[.int .i64 t685, .int .i64 t686]) (blk_put BK691.out 0 _ rfl) 1 _ rfl) NB691_692.out _) NB691_692.out _)⟩, ⟨(blk_put (cs' := #[.int .i64 t687, .int .i64 t688]) (blk_put (blk_far (blk_far BK692.out NB692_691.out _) NB692_691.out _) 0 _ rfl) 1 _ rfl)⟩, ⟨(below_set (below_set (below_set (below_set HB.out GE691.out) GE691.out) GE692.out) GE692.out)⟩⟩
   clear HC46
   try clear c40
   try clear hcz47_0
   try clear hcz47_1
   try clear hcz47_2
   try clear hcz48_0
   try clear hcz48_1
   try clear hcz48_2
   try clear hcz49_0
   try clear hcz49_1
   try clear hcz49_2
   try clear hcz49_3
   try clear hcz49_4
   try clear hcz49_5
   try clear hcz58_0
   try clear hcz58_1
   try clear hcz63_0
   try clear hcz63_1
   try clear hfz58_0
   try clear hfz58_1
   try clear hfz63_0
   try clear hfz63_1
   obtain ⟨kq, x72_45, rfl, HA, HJ45, BK674, BK675, BK691, BK692, HB⟩ := hcut
   cases kq with
   | zero => exact absurd HA.out (by simp [relievolaw04_SlabMoved.j1])
   | succ kj45 =>
    have H := HA.out
    clear HA
    simp only [relievolaw04_SlabMoved.j1] at H
    have HC78 := Aside0.mk H
    clear H
    go_upto_if 72 with (fail)
    go_cut [] (fun wc => ∃ (kq : Nat), Aside0 (relievolaw04_SlabMoved.j2 kq t672 t689 t668 t669 t670 t671 t685 t686 t687 t688 = some r) ∧ Aside0 (kq ≤ kj45) ∧ Aside0 (wc.heap[gb674]? = some (.cells #[.int .i64 t668, .int .i64 t669] 28 (0, 0))) ∧ Aside0 (wc.heap[gb675]? = some (.cells #[.int .i64 t670, .int .i64 t671] 28 (0, 0))) ∧ Aside0 (wc.heap[gb691]? = some (.cells #[.int .i64 t685, .int .i64 t686] 28 (0, 0))) ∧ Aside0 (wc.heap[gb692]? = some (.cells #[.int .i64 t687, .int .i64 t688] 28 (0, 0))) ∧ Aside0 (Below w.heap.size w wc))
    case first =>
     have H := HC78.out
     clear HC78
     by_cases c79 : x72_45 = true
     ·subst c79
      have H1 : (some true) = some r := by rw [if_pos rfl] at H; exact H
      clear H
      have H := H1
      clear H1
      obtain rfl := Option.some.inj H
      go_wp2
      go_ret
      exact ⟨by first | rfl | (simp [errW_none, errW_some] <;> rfl) | (simp [*, errW_none, errW_some] <;> rfl), HB.out⟩
     replace c79 := Bool.eq_false_iff.mpr c79
     subst c79
     have H1 : (relievolaw04_SlabMoved.j2 kj45 t672 t689 t668 t669 t670 t671 t685 t686 t687 t688) = some r := by rw [if_neg (show ¬ (false = true) by decide)] at H; exact H
     clear H
     have H := H1
     clear H1
     have H' := Aside0.mk H
     clear H
     go_wp2
     go_meet
     case rel => exact ⟨_, H', ⟨by have := HJ6.out; have := HJ45.out; first | omega | exact Nat.le_refl _⟩, ⟨BK674.out⟩, ⟨BK675.out⟩, ⟨BK691.out⟩, ⟨BK692.out⟩, ⟨HB.out⟩⟩
    clear HC78
    obtain ⟨kq, HA, HJ77, BK674, BK675, BK691, BK692, HB⟩ := hcut
    cases kq with
    | zero => exact absurd HA.out (by simp [relievolaw04_SlabMoved.j2])
    | succ kj77 =>
     have H := HA.out
     clear HA
     simp only [relievolaw04_SlabMoved.j2] at H
     have HC80 := Aside0.mk H
     clear H
     go_upto_region 9 with (fail)
     go_cut [8] (fun v8 wc => ∃ (kq : Nat) (x8_79 : Bool), v8 = .bool x8_79 ∧ Aside0 (relievolaw04_SlabMoved.j3 kq x8_79 = some r) ∧ Aside0 (kq ≤ kj77) ∧ Aside0 (wc.heap[gb674]? = some (.cells #[.int .i64 t668, .int .i64 t669] 28 (0, 0))) ∧ Aside0 (wc.heap[gb675]? = some (.cells #[.int .i64 t670, .int .i64 t671] 28 (0, 0))) ∧ Aside0 (wc.heap[gb691]? = some (.cells #[.int .i64 t685, .int .i64 t686] 28 (0, 0))) ∧ Aside0 (wc.heap[gb692]? = some (.cells #[.int .i64 t687, .int .i64 t688] 28 (0, 0))) ∧ Aside0 (Below w.heap.size w wc))
     case first =>
      have H := HC80.out
      clear HC80
      by_cases c81 : (t668 == t685 && (t669 == t686)) = true
      ·rw [if_pos c81] at H
       have c81b0 : (t668 == t685 && (t669 == t686)) = true := c81
       (try (have c81b1 : decide (t668 = t685 && (t669 == t686)) = true := by simpa using c81))
       (try (have c81b2 : (t668 == t685 && (t669 == t686)) = true := by simpa using c81))
       clear c81
       (first | rw [c81b0] | (simp only [i64_w, i32_w]; rw [c81b0]) | skip)
       by_cases c82 : (t670 == t687 && (t671 == t688)) = true
       ·rw [if_pos c82] at H
        have c82b0 : (t670 == t687 && (t671 == t688)) = true := c82
        (try (have c82b1 : decide (t670 = t687 && (t671 == t688)) = true := by simpa using c82))
        (try (have c82b2 : (t670 == t687 && (t671 == t688)) = true := by simpa using c82))
        clear c82
        have H' := Aside0.mk H
        clear H
        obtain ⟨hcz83_0, hcz83_1⟩ := cells2 BK674.out
        obtain ⟨hcz84_0, hcz84_1⟩ := cells2 BK691.out
        obtain ⟨hcz85_0, hcz85_1⟩ := cells2 BK675.out
        obtain ⟨hcz86_0, hcz86_1⟩ := cells2 BK692.out
        go_wp2
        go_meet
        case rel => exact ⟨_, ((t672 == t689)), (by first | rfl | (simp; done) | (simp [*]; done)), H', ⟨by have := HJ6.out; have := HJ45.out; have := HJ77.out; first | omega | exact Nat.le_refl _⟩, ⟨BK674.out⟩, ⟨BK675.out⟩, ⟨BK691.out⟩, ⟨BK692.out⟩, ⟨HB.out⟩⟩
       rw [if_neg c82] at H
       have c82b0 : (t670 == t687 && (t671 == t688)) = false := by simpa using c82
       (try (have c82b1 : decide (t670 = t687 && (t671 == t688)) = false := by simpa using c82))
       (try (have c82b2 : (t670 == t687 && (t671 == t688)) = false := by simpa using c82))
       (try (have c82b3 : ¬ (t670 = t687 && (t671 == t688)) := by simpa using c82))
       clear c82
       have H' := Aside0.mk H
       clear H
       obtain ⟨hcz87_0, hcz87_1⟩ := cells2 BK674.out
       obtain ⟨hcz88_0, hcz88_1⟩ := cells2 BK691.out
       obtain ⟨hcz89_0, hcz89_1⟩ := cells2 BK675.out
       obtain ⟨hcz90_0, hcz90_1⟩ := cells2 BK692.out
       go_wp2
       go_meet
       case rel => exact ⟨_, (false), (by first | rfl | (simp; done) | (simp [*]; done)), H', ⟨by have := HJ6.out; have := HJ45.out; have := HJ77.out; first | omega | exact Nat.le_refl _⟩, ⟨BK674.out⟩, ⟨BK675.out⟩, ⟨BK691.out⟩, ⟨BK692.out⟩, ⟨HB.out⟩⟩
      rw [if_neg c81] at H
      have c81b0 : (t668 == t685 && (t669 == t686)) = false := by simpa using c81
      (try (have c81b1 : decide (t668 = t685 && (t669 == t686)) = false := by simpa using c81))
      (try (have c81b2 : (t668 == t685 && (t669 == t686)) = false := by simpa using c81))
      (try (have c81b3 : ¬ (t668 = t685 && (t669 == t686)) := by simpa using c81))
      clear c81
      (first | rw [c81b0] | (simp only [i64_w, i32_w]; rw [c81b0]) | skip)
      have H' := Aside0.mk H
      clear H
      obtain ⟨hcz91_0, hcz91_1⟩ := cells2 BK674.out
      obtain ⟨hcz92_0, hcz92_1⟩ := cells2 BK691.out
      go_wp2
      go_meet
      case rel => exact ⟨_, (false), (by first | rfl | (simp; done) | (simp [*]; done)), H', ⟨by have := HJ6.out; have := HJ45.out; have := HJ77.out; first | omega | exact Nat.le_refl _⟩, ⟨BK674.out⟩, ⟨BK675.out⟩, ⟨BK691.out⟩, ⟨BK692.out⟩, ⟨HB.out⟩⟩
     clear HC80
     obtain ⟨kq, x8_79, rfl, HA, HJ79, BK674, BK675, BK691, BK692, HB⟩ := hcut
     cases kq with
     | zero => exact absurd HA.out (by simp [relievolaw04_SlabMoved.j3])
     | succ kj79 =>
      have H := HA.out
      clear HA
      simp only [relievolaw04_SlabMoved.j3] at H
      obtain rfl := Option.some.inj H
      go_wp2
      go_ret
      exact ⟨by first | rfl | (simp [errW_none, errW_some] <;> rfl) | (simp [*, errW_none, errW_some] <;> rfl), HB.out⟩
 replace c6 := Bool.eq_false_iff.mpr c6
 subst c6
 have H1 : (some false) = some r := by rw [if_neg (show ¬ (false = true) by decide)] at H; exact H
 clear H
 have H := H1
 clear H1
 obtain rfl := Option.some.inj H
 go_enter Try.func12, Try.ntmps12
 go_wp2_with (first | ((with_reducible refine gate_dst (N := 4) rfl ?_); refine box_event ?hg (N := 4) ?hd (cs := #[.int .i64 a0_0, .int .i64 a0_1, .int .i64 a0_2]) (t := 23) ?hr ?_; (case hd => rfl); (case hg => rfl); (case hr => first | (go_simp; done) | (go_simp; rfl)); intro gb659 hg w93 hbox hb; have BK659 := Aside0.mk (hbox); have GE659 := Aside0.mk (bG hg (HB.out)); replace HB := Aside0.mk (below_step (HB.out) hb); clear hb hbox hg) | ((with_reducible refine gate_dst (N := 5) rfl ?_); refine box_event ?hg (N := 5) ?hd (cs := #[.int .i64 a1_0, .int .i64 a1_1, .int .i64 a1_2]) (t := 23) ?hr ?_; (case hd => rfl); (case hg => rfl); (case hr => first | (go_simp; done) | (go_simp; rfl)); intro gb660 hg w94 hbox hb; have BK660 := Aside0.mk (hbox); have GE660 := Aside0.mk (bG hg (HB.out)); have NB659_660 := cN hg BK659; have NB660_659 := cM hg BK659; replace BK659 := cB hb BK659; replace HB := Aside0.mk (below_step (HB.out) hb); clear hb hbox hg) | ((with_reducible refine gate_dst (N := 6) rfl ?_); refine box_event ?hg (N := 6) ?hd (cs := #[.int .i64 a2_0, .int .i64 a2_1, .int .i64 a2_2, .int .i64 a2_3, .int .i64 a2_4, .int .i64 a2_5]) (t := 56) ?hr ?_; (case hd => rfl); (case hg => rfl); (case hr => first | (go_simp; done) | (go_simp; rfl)); intro gb661 hg w95 hbox hb; have BK661 := Aside0.mk (hbox); have GE661 := Aside0.mk (bG hg (HB.out)); have NB659_661 := cN hg BK659; have NB661_659 := cM hg BK659; have NB660_661 := cN hg BK660; have NB661_660 := cM hg BK660; replace BK659 := cB hb BK659; replace BK660 := cB hb BK660; replace HB := Aside0.mk (below_step (HB.out) hb); clear hb hbox hg) | ((with_reducible refine gate_dst (N := 7) rfl ?_); refine box_event ?hg (N := 7) ?hd (cs := #[.int .i64 a3_0, .int .i64 a3_1, .int .i64 a3_2]) (t := 23) ?hr ?_; (case hd => rfl); (case hg => rfl); (case hr => first | (go_simp; done) | (go_simp; rfl)); intro gb662 hg w96 hbox hb; have BK662 := Aside0.mk (hbox); have GE662 := Aside0.mk (bG hg (HB.out)); have NB659_662 := cN hg BK659; have NB662_659 := cM hg BK659; have NB660_662 := cN hg BK660; have NB662_660 := cM hg BK660; have NB661_662 := cN hg BK661; have NB662_661 := cM hg BK661; replace BK659 := cB hb BK659; replace BK660 := cB hb BK660; replace BK661 := cB hb BK661; replace HB := Aside0.mk (below_step (HB.out) hb); clear hb hbox hg) | ((with_reducible refine gate_callee (f := 31) rfl ?_); refine goesL_ (some 17) rfl rfl Try.func31 (by kernel_rfl) rfl #[] rfl (by (try simp only [List.map_toArray, List.map_cons, List.map_nil]); first | done | rfl | (simp only [List.length_drop, List.length_take]; rfl)) ?_; (with_reducible refine (relievolaw04_alive.calls k  false _ A5.out).mono ?_); rintro e w97 ⟨rfl, hb⟩; refine ⟨_, rfl, ?_⟩; replace BK659 := cB hb BK659; replace BK660 := cB hb BK660; replace BK661 := cB hb BK661; replace BK662 := cB hb BK662; replace HB := Aside0.mk (below_step (HB.out) hb); (try clear hb); (try clear hb2); (try clear hk); (try clear hi)))
 go_ret
 exact ⟨by first | rfl | (simp [errW_none, errW_some] <;> rfl) | (simp [*, errW_none, errW_some] <;> rfl), HB.out⟩

end Go.Proofs.Ytihklolcnfbbjaa.G
