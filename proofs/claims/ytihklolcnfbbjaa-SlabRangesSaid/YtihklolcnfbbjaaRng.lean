/- The walk of the document's Range, its loop with an index that is not told. -/
import Derived.Test.YtihklolcnfbbjaaNumE
import Derived.Test.YtihklolcnfbbjaaGx0
import Derived.Test.YtihklolcnfbbjaaGx19
import Derived.Test.YtihklolcnfbbjaaGx20
import Derived.Test.YtihklolcnfbbjaaGx58
namespace Go.Proofs.Ytihklolcnfbbjaa.G
open Go.RowKit Go.Proofs.NumMath Go.Proofs.YtihklolcnfbbjaaW.PrintWords Go.Proofs.YtihklolcnfbbjaaW.PrintLast Go.Proofs.YtihklolcnfbbjaaW.PrintMore
attribute [local go_sem high] idx35_0 idx35_1 idx35_2 idx35_3 idx41_0 idx41_1 idx41_2 idx84_0 idx84_1 idx84_2 idx88_0 idx88_1 idx88_2 wl0 wl1 wl2 wl3 wl4 wl5 tm0_3 tm1_3 tm2_3 tm3_3 tm4_3 tm5_3
attribute [local go_sem] max2_int min2_int max_two min_two max_three min_three max_four min_four   -- for this text's walks alone
set_option linter.unusedVariables false
set_option linter.unusedSimpArgs false

abbrev Out6 := Option (Int × Int × Int × Int × Bool × Int)
/-- The loop over the three parts of a ray. -/
def rngL (F S Lo Hi : List Int) : Nat → Nat → Int → Int → Int → Int → Out6
  | 0, _, pn, pd, qn, qd => (relievoref04_less.f qn qd pn pd).bind fun t => if t = true then some (0, 0, 0, 0, false, 0) else some (pn, pd, qn, qd, true, 0)
  | r + 1, i, pn, pd, qn, qd =>
    if Lo.getD i 0 > Hi.getD i 0 then some (0, 0, 0, 0, false, 0) else if S.getD i 0 = 0 then (if F.getD i 0 < Lo.getD i 0 then some (0, 0, 0, 0, false, 0) else if F.getD i 0 > Hi.getD i 0 then some (0, 0, 0, 0, false, 0) else rngL F S Lo Hi r (i + 1) pn pd qn qd)
    else if S.getD i 0 < 0 then (relievoref04_less.f pn pd (wrap64 (F.getD i 0 - Hi.getD i 0)) (wrap64 (-S.getD i 0))).bind fun t => (relievoref04_less.f (wrap64 (F.getD i 0 - Lo.getD i 0)) (wrap64 (-S.getD i 0)) qn qd).bind fun t' =>
      rngL F S Lo Hi r (i + 1) (if t = true then wrap64 (F.getD i 0 - Hi.getD i 0) else pn) (if t = true then wrap64 (-S.getD i 0) else pd) (if t' = true then wrap64 (F.getD i 0 - Lo.getD i 0) else qn) (if t' = true then wrap64 (-S.getD i 0) else qd)
    else (relievoref04_less.f pn pd (wrap64 (Lo.getD i 0 - F.getD i 0)) (S.getD i 0)).bind fun t => (relievoref04_less.f (wrap64 (Hi.getD i 0 - F.getD i 0)) (S.getD i 0) qn qd).bind fun t' =>
      rngL F S Lo Hi r (i + 1) (if t = true then wrap64 (Lo.getD i 0 - F.getD i 0) else pn) (if t = true then S.getD i 0 else pd) (if t' = true then wrap64 (Hi.getD i 0 - F.getD i 0) else qn) (if t' = true then S.getD i 0 else qd)
def relievoref04_Range.j0 : Nat → Bool → Int → Int → Int → Int → Int → Int → Int → Int → Int → Int → Int → Int → Out6
  | 0, _, _, _, _, _, _, _, _, _, _, _, _, _ => none
  | _ + 1, x34, a0_0, a0_1, a0_2, a1_0, a1_1, a1_2, a2_0, a2_1, a2_2, a2_3, a2_4, a2_5 => if x34 = true then (some (0, 0, 0, 0, false, 21)) else rngL [a0_0, a0_1, a0_2] [a1_0, a1_1, a1_2] [a2_0, a2_1, a2_2] [a2_3, a2_4, a2_5] 3 0 0 1 1 0
def relievoref04_Range.f (k : Nat) (a0_0 : Int) (a0_1 : Int) (a0_2 : Int) (a1_0 : Int) (a1_1 : Int) (a1_2 : Int) (a2_0 : Int) (a2_1 : Int) (a2_2 : Int) (a2_3 : Int) (a2_4 : Int) (a2_5 : Int) : Option (Int × Int × Int × Int × Bool × Int) := (relievoref03_Line.f a0_0 a0_1 a0_2 a1_0 a1_1 a1_2).bind fun t204 => (if t204 = true then ((relievoref00_Within.f a2_0 a2_1 a2_2 131072).bind fun t205 => (if t205 = true then ((relievoref00_Within.f a2_3 a2_4 a2_5 131072).bind fun t206 => (relievoref04_Range.j0 k (!t206) a0_0 a0_1 a0_2 a1_0 a1_1 a1_2 a2_0 a2_1 a2_2 a2_3 a2_4 a2_5)) else (relievoref04_Range.j0 k true a0_0 a0_1 a0_2 a1_0 a1_1 a1_2 a2_0 a2_1 a2_2 a2_3 a2_4 a2_5))) else (relievoref04_Range.j0 k true a0_0 a0_1 a0_2 a1_0 a1_1 a1_2 a2_0 a2_1 a2_2 a2_3 a2_4 a2_5))
def relievoref04_Range.T17 : Bool × List (List Nat × List Nat) := (true, [([], []), ([0], [0]), ([1], [1]), ([], []), ([3], [3]), ([4], [4]), ([2, 5], [2, 5]), ([], []), ([7], [7]), ([8], [8]), ([6, 9], [6, 9]), ([], []), ([11, 10, 0, 1, 2, 3, 4, 5, 6, 7, 8, 9, 10, 11], [10, 11])])
def relievoref04_Range.B17 : List Nat := [0, 1, 3, 0, 8, 24, 63, 0, 128, 384, 1023, 0, 4095]
theorem relievoref04_Range.tab17 : rtab .any (opsOf Try.f33 17) = relievoref04_Range.T17 := by kernel_rfl
theorem relievoref04_Range.bits17 : waitsOk relievoref04_Range.T17.2 relievoref04_Range.B17 = true := by kernel_rfl
def relievoref04_Range.T18 : Bool × List (List Nat × List Nat) := (true, [([], []), ([0], [0]), ([1], [1]), ([], []), ([3], [3]), ([4], [4]), ([2, 5], [2, 5]), ([], []), ([7], [7]), ([8], [8]), ([6, 9], [6, 9]), ([], []), ([11, 10, 0, 1, 2, 3, 4, 5, 6, 7, 8, 9, 10, 11], [10, 11])])
def relievoref04_Range.B18 : List Nat := [0, 1, 3, 0, 8, 24, 63, 0, 128, 384, 1023, 0, 4095]
theorem relievoref04_Range.tab18 : rtab .any (opsOf Try.f33 18) = relievoref04_Range.T18 := by kernel_rfl
theorem relievoref04_Range.bits18 : waitsOk relievoref04_Range.T18.2 relievoref04_Range.B18 = true := by kernel_rfl
def relievoref04_Range.T20 : Bool × List (List Nat × List Nat) := (true, [([], []), ([0], [0]), ([1], [1]), ([], []), ([3], [3]), ([4], [4]), ([2, 5], [2, 5]), ([], []), ([7], [7]), ([8], [8]), ([9], [9]), ([6, 10], [6, 10]), ([], []), ([12], [12]), ([13], [13]), ([], []), ([15], [15]), ([16], [16]), ([14, 17], [14, 17]), ([], []), ([19], [19]), ([20], [20]), ([21], [21]), ([18, 22], [18, 22]), ([11, 0, 1, 2, 3, 4, 5, 6, 7, 8, 9, 10, 11], [11]), ([23, 24, 0, 1, 2, 3, 4, 5, 6, 7, 8, 9, 10, 11, 12, 13, 14, 15, 16, 17, 18, 19, 20, 21, 22, 23, 24], [23])])
def relievoref04_Range.B20 : List Nat := [0, 1, 3, 0, 8, 24, 63, 0, 128, 384, 896, 2047, 0, 4096, 12288, 0, 32768, 98304, 258048, 0, 524288, 1572864, 3670016, 8384512, 4095, 33554431]
theorem relievoref04_Range.tab20 : rtab .any (opsOf Try.f33 20) = relievoref04_Range.T20 := by kernel_rfl
theorem relievoref04_Range.bits20 : waitsOk relievoref04_Range.T20.2 relievoref04_Range.B20 = true := by kernel_rfl
theorem bD {w : World} {g n : Nat} {o : Obj} (h : Aside0 (w.heap[g]? = some o)) : Aside0 ((w.drewN n).heap[g]? = some o) := ⟨h.out⟩
set_option maxHeartbeats 8000000 in
set_option maxRecDepth 100000 in
theorem relievoref04_Range.calls (k : Nat) (a0_0 : Int) (a0_1 : Int) (a0_2 : Int) (a1_0 : Int) (a1_1 : Int) (a1_2 : Int) (a2_0 : Int) (a2_1 : Int) (a2_2 : Int) (a2_3 : Int) (a2_4 : Int) (a2_5 : Int) (r1 : Int) (r2 : Int) (r3 : Int) (r4 : Int) (r5 : Bool) (r6 : Int) (w : World) (h : relievoref04_Range.f k a0_0 a0_1 a0_2 a1_0 a1_1 a1_2 a2_0 a2_1 a2_2 a2_3 a2_4 a2_5 = some (r1, r2, r3, r4, r5, r6)) :
    Calls Try.prog 33 #[.agg #[.int .i64 a0_0, .int .i64 a0_1, .int .i64 a0_2], .agg #[.int .i64 a1_0, .int .i64 a1_1, .int .i64 a1_2], .agg #[.int .i64 a2_0, .int .i64 a2_1, .int .i64 a2_2, .int .i64 a2_3, .int .i64 a2_4, .int .i64 a2_5]] w fun e w' => e = .returned (.tuple #[.agg #[.int .i64 r1, .int .i64 r2], .agg #[.int .i64 r3, .int .i64 r4], .bool r5, .int .i64 r6]) ∧ Below w.heap.size w w' := by
 have hu23 := Try.underlying23
 have hu56 := Try.underlying56
 have hu28 := Try.underlying28
 have hu88 := Try.underlying88
 have HB := Aside0.mk (Below.refl w.heap.size w)
 have H : ((relievoref03_Line.f a0_0 a0_1 a0_2 a1_0 a1_1 a1_2).bind fun t204 => (if t204 = true then ((relievoref00_Within.f a2_0 a2_1 a2_2 131072).bind fun t205 => (if t205 = true then ((relievoref00_Within.f a2_3 a2_4 a2_5 131072).bind fun t206 => (relievoref04_Range.j0 k (!t206) a0_0 a0_1 a0_2 a1_0 a1_1 a1_2 a2_0 a2_1 a2_2 a2_3 a2_4 a2_5)) else (relievoref04_Range.j0 k true a0_0 a0_1 a0_2 a1_0 a1_1 a1_2 a2_0 a2_1 a2_2 a2_3 a2_4 a2_5))) else (relievoref04_Range.j0 k true a0_0 a0_1 a0_2 a1_0 a1_1 a1_2 a2_0 a2_1 a2_2 a2_3 a2_4 a2_5))) = some (r1, r2, r3, r4, r5, r6) := h
 clear h
 have HC4 := Aside0.mk H
 clear H
 go_enter Try.func33, Try.ntmps33
 go_upto_region 1 with (first | ((with_reducible refine gate_dst (N := 3) rfl ?_); refine box_event ?hg (N := 3) ?hd (cs := #[.int .i64 a0_0, .int .i64 a0_1, .int .i64 a0_2]) (t := 23) ?hr ?_; (case hd => rfl); (case hg => rfl); (case hr => first | (go_simp; done) | (go_simp; rfl)); intro gb199 hg w5 hbox hb; have BK199 := Aside0.mk (hbox); have GE199 := Aside0.mk (bG hg (HB.out)); replace HB := Aside0.mk (below_step (HB.out) hb); clear hb hbox hg) | ((with_reducible refine gate_dst (N := 4) rfl ?_); refine box_event ?hg (N := 4) ?hd (cs := #[.int .i64 a1_0, .int .i64 a1_1, .int .i64 a1_2]) (t := 23) ?hr ?_; (case hd => rfl); (case hg => rfl); (case hr => first | (go_simp; done) | (go_simp; rfl)); intro gb200 hg w6 hbox hb; have BK200 := Aside0.mk (hbox); have GE200 := Aside0.mk (bG hg (HB.out)); have NB199_200 := cN hg BK199; have NB200_199 := cM hg BK199; replace BK199 := cB hb BK199; replace HB := Aside0.mk (below_step (HB.out) hb); clear hb hbox hg) | ((with_reducible refine gate_dst (N := 5) rfl ?_); refine box_event ?hg (N := 5) ?hd (cs := #[.int .i64 a2_0, .int .i64 a2_1, .int .i64 a2_2, .int .i64 a2_3, .int .i64 a2_4, .int .i64 a2_5]) (t := 56) ?hr ?_; (case hd => rfl); (case hg => rfl); (case hr => first | (go_simp; done) | (go_simp; rfl)); intro gb201 hg w7 hbox hb; have BK201 := Aside0.mk (hbox); have GE201 := Aside0.mk (bG hg (HB.out)); have NB199_201 := cN hg BK199; have NB201_199 := cM hg BK199; have NB200_201 := cN hg BK200; have NB201_200 := cM hg BK200; replace BK199 := cB hb BK199; replace BK200 := cB hb BK200; replace HB := Aside0.mk (below_step (HB.out) hb); clear hb hbox hg) | ((with_reducible refine gate_dst (N := 6) rfl ?_); refine box_event ?hg (N := 6) ?hd (cs := #[.int .i64 0, .int .i64 0]) (t := 28) ?hr ?_; (case hd => rfl); (case hg => rfl); (case hr => first | (go_simp; done) | (go_simp; rfl)); intro gb202 hg w8 hbox hb; have BK202 := Aside0.mk (hbox); have GE202 := Aside0.mk (bG hg (HB.out)); have NB199_202 := cN hg BK199; have NB202_199 := cM hg BK199; have NB200_202 := cN hg BK200; have NB202_200 := cM hg BK200; have NB201_202 := cN hg BK201; have NB202_201 := cM hg BK201; replace BK199 := cB hb BK199; replace BK200 := cB hb BK200; replace BK201 := cB hb BK201; replace HB := Aside0.mk (below_step (HB.out) hb); clear hb hbox hg) | ((with_reducible refine gate_dst (N := 7) rfl ?_); refine box_event ?hg (N := 7) ?hd (cs := #[.int .i64 0, .int .i64 0]) (t := 28) ?hr ?_; (case hd => rfl); (case hg => rfl); (case hr => first | (go_simp; done) | (go_simp; rfl)); intro gb203 hg w9 hbox hb; have BK203 := Aside0.mk (hbox); have GE203 := Aside0.mk (bG hg (HB.out)); have NB199_203 := cN hg BK199; have NB203_199 := cM hg BK199; have NB200_203 := cN hg BK200; have NB203_200 := cM hg BK200; have NB201_203 := cN hg BK201; have NB203_201 := cM hg BK201; have NB202_203 := cN hg BK202; have NB203_202 := cM hg BK202; replace BK199 := cB hb BK199; replace BK200 := cB hb BK200; replace BK201 := cB hb BK201; replace BK202 := cB hb BK202; replace HB := Aside0.mk (below_step (HB.out) hb); clear hb hbox hg))
 (try simp only [Act.put, List.setIfInBounds_toArray, List.set_cons_zero, List.set_cons_succ])
 go_cut [34] (fun v34 wc => ∃ (kq : Nat) (x34_3 : Bool), v34 = .bool x34_3 ∧ Aside0 (relievoref04_Range.j0 kq x34_3 a0_0 a0_1 a0_2 a1_0 a1_1 a1_2 a2_0 a2_1 a2_2 a2_3 a2_4 a2_5 = some (r1, r2, r3, r4, r5, r6)) ∧ Aside0 (kq ≤ k) ∧ Aside0 (wc.heap[gb199]? = some (.cells #[.int .i64 a0_0, .int .i64 a0_1, .int .i64 a0_2] 23 (0, 0))) ∧ Aside0 (wc.heap[gb200]? = some (.cells #[.int .i64 a1_0, .int .i64 a1_1, .int .i64 a1_2] 23 (0, 0))) ∧ Aside0 (wc.heap[gb201]? = some (.cells #[.int .i64 a2_0, .int .i64 a2_1, .int .i64 a2_2, .int .i64 a2_3, .int .i64 a2_4, .int .i64 a2_5] 56 (0, 0))) ∧ Aside0 (wc.heap[gb202]? = some (.cells #[.int .i64 0, .int .i64 0] 28 (0, 0))) ∧ Aside0 (wc.heap[gb203]? = some (.cells #[.int .i64 0, .int .i64 0] 28 (0, 0))) ∧ Aside0 (Below w.heap.size w wc))
 case first =>
  have H := HC4.out
  clear HC4
  replace H := Option.bind_eq_some_iff.mp H
  obtain ⟨t204, A100, H⟩ := H
  replace H : (if t204 = true then ((relievoref00_Within.f a2_0 a2_1 a2_2 131072).bind fun t205 => (if t205 = true then ((relievoref00_Within.f a2_3 a2_4 a2_5 131072).bind fun t206 => (relievoref04_Range.j0 k (!t206) a0_0 a0_1 a0_2 a1_0 a1_1 a1_2 a2_0 a2_1 a2_2 a2_3 a2_4 a2_5)) else (relievoref04_Range.j0 k true a0_0 a0_1 a0_2 a1_0 a1_1 a1_2 a2_0 a2_1 a2_2 a2_3 a2_4 a2_5))) else (relievoref04_Range.j0 k true a0_0 a0_1 a0_2 a1_0 a1_1 a1_2 a2_0 a2_1 a2_2 a2_3 a2_4 a2_5)) = some (r1, r2, r3, r4, r5, r6) := H
  have A10 := Aside0.mk A100
  clear A100
  by_cases c11 : t204 = true
  ·subst c11
   have H1 : ((relievoref00_Within.f a2_0 a2_1 a2_2 131072).bind fun t205 => (if t205 = true then ((relievoref00_Within.f a2_3 a2_4 a2_5 131072).bind fun t206 => (relievoref04_Range.j0 k (!t206) a0_0 a0_1 a0_2 a1_0 a1_1 a1_2 a2_0 a2_1 a2_2 a2_3 a2_4 a2_5)) else (relievoref04_Range.j0 k true a0_0 a0_1 a0_2 a1_0 a1_1 a1_2 a2_0 a2_1 a2_2 a2_3 a2_4 a2_5))) = some (r1, r2, r3, r4, r5, r6) := by rw [if_pos rfl] at H; exact H
   clear H
   have H := H1
   clear H1
   replace H := Option.bind_eq_some_iff.mp H
   obtain ⟨t205, A120, H⟩ := H
   replace H : (if t205 = true then ((relievoref00_Within.f a2_3 a2_4 a2_5 131072).bind fun t206 => (relievoref04_Range.j0 k (!t206) a0_0 a0_1 a0_2 a1_0 a1_1 a1_2 a2_0 a2_1 a2_2 a2_3 a2_4 a2_5)) else (relievoref04_Range.j0 k true a0_0 a0_1 a0_2 a1_0 a1_1 a1_2 a2_0 a2_1 a2_2 a2_3 a2_4 a2_5)) = some (r1, r2, r3, r4, r5, r6) := H
   have A12 := Aside0.mk A120
   clear A120
   by_cases c13 : t205 = true
   ·subst c13
    have H1 : ((relievoref00_Within.f a2_3 a2_4 a2_5 131072).bind fun t206 => (relievoref04_Range.j0 k (!t206) a0_0 a0_1 a0_2 a1_0 a1_1 a1_2 a2_0 a2_1 a2_2 a2_3 a2_4 a2_5)) = some (r1, r2, r3, r4, r5, r6) := by rw [if_pos rfl] at H; exact H
    clear H
    have H := H1
    clear H1
    replace H := Option.bind_eq_some_iff.mp H
    obtain ⟨t206, A140, H⟩ := H
    replace H : (relievoref04_Range.j0 k (!t206) a0_0 a0_1 a0_2 a1_0 a1_1 a1_2 a2_0 a2_1 a2_2 a2_3 a2_4 a2_5) = some (r1, r2, r3, r4, r5, r6) := H
    have A14 := Aside0.mk A140
    clear A140
    have H' := Aside0.mk H
    clear H
    obtain ⟨hcz15_0, hcz15_1, hcz15_2⟩ := cells3 BK199.out
    obtain ⟨hcz16_0, hcz16_1, hcz16_2⟩ := cells3 BK200.out
    go_wp2_with (first | ((with_reducible refine gate_callee (f := 21) rfl ?_); refine goesL_ (some 21) rfl rfl Try.func21 (by kernel_rfl) rfl #[.agg #[.int .i64 a0_0, .int .i64 a0_1, .int .i64 a0_2], .agg #[.int .i64 a1_0, .int .i64 a1_1, .int .i64 a1_2]] rfl (by (try simp only [List.map_toArray, List.map_cons, List.map_nil]); first | done | rfl | (simp only [List.length_drop, List.length_take]; rfl)) ?_; (with_reducible refine (relievoref03_Line.calls a0_0 a0_1 a0_2 a1_0 a1_1 a1_2 true _ A10.out).mono ?_); rintro e w17 ⟨rfl, hb⟩; refine ⟨_, rfl, ?_⟩; replace BK199 := cB hb BK199; replace BK200 := cB hb BK200; replace BK201 := cB hb BK201; replace BK202 := cB hb BK202; replace BK203 := cB hb BK203; replace HB := Aside0.mk (below_step (HB.out) hb); (try clear hb); (try clear hb2); (try clear hk); (try clear hi); obtain ⟨hcz18_0, hcz18_1, hcz18_2, hcz18_3, hcz18_4, hcz18_5⟩ := cells6 BK201.out) | (go_at_call 22; (with_reducible refine (relievoref00_Within.calls a2_0 a2_1 a2_2 131072 true _ A12.out).mono ?_); rintro e w19 ⟨rfl, hb⟩; replace BK199 := cB hb BK199; replace BK200 := cB hb BK200; replace BK201 := cB hb BK201; replace BK202 := cB hb BK202; replace BK203 := cB hb BK203; replace HB := Aside0.mk (below_step (HB.out) hb); (try clear hb); (try clear hb2); (try clear hk); (try clear hi); obtain ⟨hcz20_0, hcz20_1, hcz20_2, hcz20_3, hcz20_4, hcz20_5⟩ := cells6 BK201.out) | (go_at_call 22; (with_reducible refine (relievoref00_Within.calls a2_3 a2_4 a2_5 131072 t206 _ A14.out).mono ?_); rintro e w21 ⟨rfl, hb⟩; replace BK199 := cB hb BK199; replace BK200 := cB hb BK200; replace BK201 := cB hb BK201; replace BK202 := cB hb BK202; replace BK203 := cB hb BK203; replace HB := Aside0.mk (below_step (HB.out) hb); (try clear hb); (try clear hb2); (try clear hk); (try clear hi)))
    go_meet
    case rel => exact ⟨_, (!t206), (by first | rfl | (simp; done) | (simp [*]; done)), H', ⟨by first | omega | exact Nat.le_refl _⟩, ⟨BK199.out⟩, ⟨BK200.out⟩, ⟨BK201.out⟩, ⟨BK202.out⟩, ⟨BK203.out⟩, ⟨HB.out⟩⟩
   replace c13 := Bool.eq_false_iff.mpr c13
   subst c13
   have H1 : (relievoref04_Range.j0 k true a0_0 a0_1 a0_2 a1_0 a1_1 a1_2 a2_0 a2_1 a2_2 a2_3 a2_4 a2_5) = some (r1, r2, r3, r4, r5, r6) := by rw [if_neg (show ¬ (false = true) by decide)] at H; exact H
   clear H
   have H := H1
   clear H1
   have H' := Aside0.mk H
   clear H
   obtain ⟨hcz22_0, hcz22_1, hcz22_2⟩ := cells3 BK199.out
   obtain ⟨hcz23_0, hcz23_1, hcz23_2⟩ := cells3 BK200.out
   go_wp2_with (first | ((with_reducible refine gate_callee (f := 21) rfl ?_); refine goesL_ (some 21) rfl rfl Try.func21 (by kernel_rfl) rfl #[.agg #[.int .i64 a0_0, .int .i64 a0_1, .int .i64 a0_2], .agg #[.int .i64 a1_0, .int .i64 a1_1, .int .i64 a1_2]] rfl (by (try simp only [List.map_toArray, List.map_cons, List.map_nil]); first | done | rfl | (simp only [List.length_drop, List.length_take]; rfl)) ?_; (with_reducible refine (relievoref03_Line.calls a0_0 a0_1 a0_2 a1_0 a1_1 a1_2 true _ A10.out).mono ?_); rintro e w24 ⟨rfl, hb⟩; refine ⟨_, rfl, ?_⟩; replace BK199 := cB hb BK199; replace BK200 := cB hb BK200; replace BK201 := cB hb BK201; replace BK202 := cB hb BK202; replace BK203 := cB hb BK203; replace HB := Aside0.mk (below_step (HB.out) hb); (try clear hb); (try clear hb2); (try clear hk); (try clear hi); obtain ⟨hcz25_0, hcz25_1, hcz25_2, hcz25_3, hcz25_4, hcz25_5⟩ := cells6 BK201.out) | (go_at_call 22; (with_reducible refine (relievoref00_Within.calls a2_0 a2_1 a2_2 131072 false _ A12.out).mono ?_); rintro e w26 ⟨rfl, hb⟩; replace BK199 := cB hb BK199; replace BK200 := cB hb BK200; replace BK201 := cB hb BK201; replace BK202 := cB hb BK202; replace BK203 := cB hb BK203; replace HB := Aside0.mk (below_step (HB.out) hb); (try clear hb); (try clear hb2); (try clear hk); (try clear hi)))
   go_meet
   case rel => exact ⟨_, (true), (by first | rfl | (simp; done) | (simp [*]; done)), H', ⟨by first | omega | exact Nat.le_refl _⟩, ⟨BK199.out⟩, ⟨BK200.out⟩, ⟨BK201.out⟩, ⟨BK202.out⟩, ⟨BK203.out⟩, ⟨HB.out⟩⟩
  replace c11 := Bool.eq_false_iff.mpr c11
  subst c11
  have H1 : (relievoref04_Range.j0 k true a0_0 a0_1 a0_2 a1_0 a1_1 a1_2 a2_0 a2_1 a2_2 a2_3 a2_4 a2_5) = some (r1, r2, r3, r4, r5, r6) := by rw [if_neg (show ¬ (false = true) by decide)] at H; exact H
  clear H
  have H := H1
  clear H1
  have H' := Aside0.mk H
  clear H
  obtain ⟨hcz27_0, hcz27_1, hcz27_2⟩ := cells3 BK199.out
  obtain ⟨hcz28_0, hcz28_1, hcz28_2⟩ := cells3 BK200.out
  go_wp2_with (first | ((with_reducible refine gate_callee (f := 21) rfl ?_); refine goesL_ (some 21) rfl rfl Try.func21 (by kernel_rfl) rfl #[.agg #[.int .i64 a0_0, .int .i64 a0_1, .int .i64 a0_2], .agg #[.int .i64 a1_0, .int .i64 a1_1, .int .i64 a1_2]] rfl (by (try simp only [List.map_toArray, List.map_cons, List.map_nil]); first | done | rfl | (simp only [List.length_drop, List.length_take]; rfl)) ?_; (with_reducible refine (relievoref03_Line.calls a0_0 a0_1 a0_2 a1_0 a1_1 a1_2 false _ A10.out).mono ?_); rintro e w29 ⟨rfl, hb⟩; refine ⟨_, rfl, ?_⟩; replace BK199 := cB hb BK199; replace BK200 := cB hb BK200; replace BK201 := cB hb BK201; replace BK202 := cB hb BK202; replace BK203 := cB hb BK203; replace HB := Aside0.mk (below_step (HB.out) hb); (try clear hb); (try clear hb2); (try clear hk); (try clear hi)))
  go_meet
  case rel => exact ⟨_, (true), (by first | rfl | (simp; done) | (simp [*]; done)), H', ⟨by first | omega | exact Nat.le_refl _⟩, ⟨BK199.out⟩, ⟨BK200.out⟩, ⟨BK201.out⟩, ⟨BK202.out⟩, ⟨BK203.out⟩, ⟨HB.out⟩⟩
 clear HC4
 obtain ⟨kq, x34_3, rfl, HA, HJ3, BK199, BK200, BK201, BK202, BK203, HB⟩ := hcut
 cases kq with
 | zero => exact absurd HA.out (by simp [relievoref04_Range.j0])
 | succ kj3 =>
  have H := HA.out
  clear HA
  simp only [relievoref04_Range.j0] at H
  by_cases c30 : x34_3 = true
  ·subst c30
   have H1 : (some (0, 0, 0, 0, false, 21)) = some (r1, r2, r3, r4, r5, r6) := by rw [if_pos rfl] at H; exact H
   clear H
   have H := H1
   clear H1
   simp only [Option.some.injEq, Prod.mk.injEq] at H
   obtain ⟨rfl, rfl, rfl, rfl, rfl, rfl⟩ := H
   have hnb31 := NB202_199.out
   have hnc31 := NB199_202.out
   have hnb32 := NB202_200.out
   have hnc32 := NB200_202.out
   have hnb33 := NB202_201.out
   have hnc33 := NB201_202.out
   have hnb34 := NB202_203.out
   have hnc34 := NB203_202.out
   obtain ⟨hcz35_0, hcz35_1⟩ := cells2 BK202.out
   have hfz35_0 := blk_frozen BK202.out 0
   have hfz35_1 := blk_frozen BK202.out 1
   have hnb36 := NB203_199.out
   have hnc36 := NB199_203.out
   have hnb37 := NB203_200.out
   have hnc37 := NB200_203.out
   have hnb38 := NB203_201.out
   have hnc38 := NB201_203.out
   obtain ⟨hcz39_0, hcz39_1⟩ := cells2 BK203.out
   have hfz39_0 := blk_frozen BK203.out 0
   have hfz39_1 := blk_frozen BK203.out 1
   go_wp2
   refine bodyPost_ret (results_list (rs := [.cell 6 28, .cell 7 28, .tmp 8, .tmp 9]) rfl (by simp) (.cell gb202 28 #[.int .i64 0, .int .i64 0] (0, 0) _ rfl ((blk_far (blk_far (blk_put (cs' := #[.int .i64 0, .int .i64 0]) (blk_put BK202.out 0 _ rfl) 1 _ rfl) NB202_203.out _) NB202_203.out _)) Try.underlying28 rfl (by kernel_rfl) (.cell gb203 28 #[.int .i64 0, .int .i64 0] (0, 0) _ rfl ((blk_put (cs' := #[.int .i64 0, .int .i64 0]) (blk_put (blk_far (blk_far BK203.out NB203_202.out _) NB203_202.out _) 0 _ rfl) 1 _ rfl)) Try.underlying28 rfl (by kernel_rfl) (.tmp (.tmp .nil))))) rfl ?_
   exact ⟨by first | rfl | (simp [errW_none, errW_some] <;> rfl) | (simp [*, errW_none, errW_some] <;> rfl), (below_set (below_set (below_set (below_set HB.out GE202.out) GE202.out) GE203.out) GE203.out)⟩
  replace c30 := Bool.eq_false_iff.mpr c30
  subst c30
  have H1 : rngL [a0_0, a0_1, a0_2] [a1_0, a1_1, a1_2] [a2_0, a2_1, a2_2] [a2_3, a2_4, a2_5] 3 0 0 1 1 0 = some (r1, r2, r3, r4, r5, r6) := by rw [if_neg (show ¬ (false = true) by decide)] at H; exact H
  clear H
  have H := H1
  clear H1
  have HC40 := Aside0.mk H
  clear H
  obtain ⟨hcz41_0, hcz41_1, hcz41_2⟩ := cells3 BK199.out
  try go_wp2_with (first | ((with_reducible refine gate_dst (N := 10) rfl ?_); refine box_event ?hg (N := 10) ?hd (cs := #[.int .i64 0, .int .i64 0, .int .i64 0]) (t := 88) ?hr ?_; (case hd => rfl); (case hg => rfl); (case hr => first | (go_simp; done) | (go_simp; rfl)); intro gb208 hg w42 hbox hb; have BK208 := Aside0.mk (hbox); have GE208 := Aside0.mk (bG hg (HB.out)); have NB199_208 := cN hg BK199; have NB208_199 := cM hg BK199; have NB200_208 := cN hg BK200; have NB208_200 := cM hg BK200; have NB201_208 := cN hg BK201; have NB208_201 := cM hg BK201; have NB202_208 := cN hg BK202; have NB208_202 := cM hg BK202; have NB203_208 := cN hg BK203; have NB208_203 := cM hg BK203; replace BK199 := cB hb BK199; replace BK200 := cB hb BK200; replace BK201 := cB hb BK201; replace BK202 := cB hb BK202; replace BK203 := cB hb BK203; replace HB := Aside0.mk (below_step (HB.out) hb); clear hb hbox hg; have hnb43 := NB208_199.out; have hnc43 := NB199_208.out; have hnb44 := NB208_200.out; have hnc44 := NB200_208.out; have hnb45 := NB208_201.out; have hnc45 := NB201_208.out; have hnb46 := NB208_202.out; have hnc46 := NB202_208.out; have hnb47 := NB208_203.out; have hnc47 := NB203_208.out; obtain ⟨hcz48_0, hcz48_1, hcz48_2⟩ := cells3 BK208.out; have hfz48_0 := blk_frozen BK208.out 0; have hfz48_1 := blk_frozen BK208.out 1; have hfz48_2 := blk_frozen BK208.out 2; obtain ⟨hcz49_0, hcz49_1, hcz49_2⟩ := cells3 BK200.out) | ((with_reducible refine gate_dst (N := 11) rfl ?_); refine box_event ?hg (N := 11) ?hd (cs := #[.int .i64 0, .int .i64 0, .int .i64 0]) (t := 88) ?hr ?_; (case hd => rfl); (case hg => rfl); (case hr => first | (go_simp; done) | (go_simp; rfl)); intro gb210 hg w50 hbox hb; have BK210 := Aside0.mk (hbox); have GE210 := Aside0.mk (bG hg ((below_set (below_set (below_set HB.out GE208.out) GE208.out) GE208.out))); have NB200_210 := Aside0.mk (bN hg ((blk_far (blk_far (blk_far BK200.out NB200_208.out _) NB200_208.out _) NB200_208.out _))); have NB210_200 := Aside0.mk (bM hg ((blk_far (blk_far (blk_far BK200.out NB200_208.out _) NB200_208.out _) NB200_208.out _))); have NB201_210 := Aside0.mk (bN hg ((blk_far (blk_far (blk_far BK201.out NB201_208.out _) NB201_208.out _) NB201_208.out _))); have NB210_201 := Aside0.mk (bM hg ((blk_far (blk_far (blk_far BK201.out NB201_208.out _) NB201_208.out _) NB201_208.out _))); have NB202_210 := Aside0.mk (bN hg ((blk_far (blk_far (blk_far BK202.out NB202_208.out _) NB202_208.out _) NB202_208.out _))); have NB210_202 := Aside0.mk (bM hg ((blk_far (blk_far (blk_far BK202.out NB202_208.out _) NB202_208.out _) NB202_208.out _))); have NB203_210 := Aside0.mk (bN hg ((blk_far (blk_far (blk_far BK203.out NB203_208.out _) NB203_208.out _) NB203_208.out _))); have NB210_203 := Aside0.mk (bM hg ((blk_far (blk_far (blk_far BK203.out NB203_208.out _) NB203_208.out _) NB203_208.out _))); have NB208_210 := Aside0.mk (bN hg ((blk_put (cs' := #[.int .i64 a0_0, .int .i64 a0_1, .int .i64 a0_2]) (blk_put (blk_put BK208.out 0 _ rfl) 1 _ rfl) 2 _ rfl))); have NB210_208 := Aside0.mk (bM hg ((blk_put (cs' := #[.int .i64 a0_0, .int .i64 a0_1, .int .i64 a0_2]) (blk_put (blk_put BK208.out 0 _ rfl) 1 _ rfl) 2 _ rfl))); replace BK200 := Aside0.mk (bB hb ((blk_far (blk_far (blk_far BK200.out NB200_208.out _) NB200_208.out _) NB200_208.out _))); replace BK201 := Aside0.mk (bB hb ((blk_far (blk_far (blk_far BK201.out NB201_208.out _) NB201_208.out _) NB201_208.out _))); replace BK202 := Aside0.mk (bB hb ((blk_far (blk_far (blk_far BK202.out NB202_208.out _) NB202_208.out _) NB202_208.out _))); replace BK203 := Aside0.mk (bB hb ((blk_far (blk_far (blk_far BK203.out NB203_208.out _) NB203_208.out _) NB203_208.out _))); replace BK208 := Aside0.mk (bB hb ((blk_put (cs' := #[.int .i64 a0_0, .int .i64 a0_1, .int .i64 a0_2]) (blk_put (blk_put BK208.out 0 _ rfl) 1 _ rfl) 2 _ rfl))); replace HB := Aside0.mk (below_step ((below_set (below_set (below_set HB.out GE208.out) GE208.out) GE208.out)) hb); clear hb hbox hg; have hnb51 := NB210_200.out; have hnc51 := NB200_210.out; have hnb52 := NB210_201.out; have hnc52 := NB201_210.out; have hnb53 := NB210_202.out; have hnc53 := NB202_210.out; have hnb54 := NB210_203.out; have hnc54 := NB203_210.out; have hnb55 := NB210_208.out; have hnc55 := NB208_210.out; obtain ⟨hcz56_0, hcz56_1, hcz56_2⟩ := cells3 BK210.out; have hfz56_0 := blk_frozen BK210.out 0; have hfz56_1 := blk_frozen BK210.out 1; have hfz56_2 := blk_frozen BK210.out 2; obtain ⟨hcz57_0, hcz57_1, hcz57_2, hcz57_3, hcz57_4, hcz57_5⟩ := cells6 BK201.out) | ((with_reducible refine gate_dst (N := 12) rfl ?_); refine box_event ?hg (N := 12) ?hd (cs := #[.int .i64 0, .int .i64 0, .int .i64 0]) (t := 88) ?hr ?_; (case hd => rfl); (case hg => rfl); (case hr => first | (go_simp; done) | (go_simp; rfl)); intro gb212 hg w58 hbox hb; have BK212 := Aside0.mk (hbox); have GE212 := Aside0.mk (bG hg ((below_set (below_set (below_set HB.out GE210.out) GE210.out) GE210.out))); have NB201_212 := Aside0.mk (bN hg ((blk_far (blk_far (blk_far BK201.out NB201_210.out _) NB201_210.out _) NB201_210.out _))); have NB212_201 := Aside0.mk (bM hg ((blk_far (blk_far (blk_far BK201.out NB201_210.out _) NB201_210.out _) NB201_210.out _))); have NB202_212 := Aside0.mk (bN hg ((blk_far (blk_far (blk_far BK202.out NB202_210.out _) NB202_210.out _) NB202_210.out _))); have NB212_202 := Aside0.mk (bM hg ((blk_far (blk_far (blk_far BK202.out NB202_210.out _) NB202_210.out _) NB202_210.out _))); have NB203_212 := Aside0.mk (bN hg ((blk_far (blk_far (blk_far BK203.out NB203_210.out _) NB203_210.out _) NB203_210.out _))); have NB212_203 := Aside0.mk (bM hg ((blk_far (blk_far (blk_far BK203.out NB203_210.out _) NB203_210.out _) NB203_210.out _))); have NB208_212 := Aside0.mk (bN hg ((blk_far (blk_far (blk_far BK208.out NB208_210.out _) NB208_210.out _) NB208_210.out _))); have NB212_208 := Aside0.mk (bM hg ((blk_far (blk_far (blk_far BK208.out NB208_210.out _) NB208_210.out _) NB208_210.out _))); have NB210_212 := Aside0.mk (bN hg ((blk_put (cs' := #[.int .i64 a1_0, .int .i64 a1_1, .int .i64 a1_2]) (blk_put (blk_put BK210.out 0 _ rfl) 1 _ rfl) 2 _ rfl))); have NB212_210 := Aside0.mk (bM hg ((blk_put (cs' := #[.int .i64 a1_0, .int .i64 a1_1, .int .i64 a1_2]) (blk_put (blk_put BK210.out 0 _ rfl) 1 _ rfl) 2 _ rfl))); replace BK201 := Aside0.mk (bB hb ((blk_far (blk_far (blk_far BK201.out NB201_210.out _) NB201_210.out _) NB201_210.out _))); replace BK202 := Aside0.mk (bB hb ((blk_far (blk_far (blk_far BK202.out NB202_210.out _) NB202_210.out _) NB202_210.out _))); replace BK203 := Aside0.mk (bB hb ((blk_far (blk_far (blk_far BK203.out NB203_210.out _) NB203_210.out _) NB203_210.out _))); replace BK208 := Aside0.mk (bB hb ((blk_far (blk_far (blk_far BK208.out NB208_210.out _) NB208_210.out _) NB208_210.out _))); replace BK210 := Aside0.mk (bB hb ((blk_put (cs' := #[.int .i64 a1_0, .int .i64 a1_1, .int .i64 a1_2]) (blk_put (blk_put BK210.out 0 _ rfl) 1 _ rfl) 2 _ rfl))); replace HB := Aside0.mk (below_step ((below_set (below_set (below_set HB.out GE210.out) GE210.out) GE210.out)) hb); clear hb hbox hg; have hnb59 := NB212_201.out; have hnc59 := NB201_212.out; have hnb60 := NB212_202.out; have hnc60 := NB202_212.out; have hnb61 := NB212_203.out; have hnc61 := NB203_212.out; have hnb62 := NB212_208.out; have hnc62 := NB208_212.out; have hnb63 := NB212_210.out; have hnc63 := NB210_212.out; obtain ⟨hcz64_0, hcz64_1, hcz64_2⟩ := cells3 BK212.out; have hfz64_0 := blk_frozen BK212.out 0; have hfz64_1 := blk_frozen BK212.out 1; have hfz64_2 := blk_frozen BK212.out 2; obtain ⟨hcz65_0, hcz65_1, hcz65_2, hcz65_3, hcz65_4, hcz65_5⟩ := cells6 BK201.out) | ((with_reducible refine gate_dst (N := 13) rfl ?_); refine box_event ?hg (N := 13) ?hd (cs := #[.int .i64 0, .int .i64 0, .int .i64 0]) (t := 88) ?hr ?_; (case hd => rfl); (case hg => rfl); (case hr => first | (go_simp; done) | (go_simp; rfl)); intro gb214 hg w66 hbox hb; have BK214 := Aside0.mk (hbox); have GE214 := Aside0.mk (bG hg ((below_set (below_set (below_set HB.out GE212.out) GE212.out) GE212.out))); have NB201_214 := Aside0.mk (bN hg ((blk_far (blk_far (blk_far BK201.out NB201_212.out _) NB201_212.out _) NB201_212.out _))); have NB214_201 := Aside0.mk (bM hg ((blk_far (blk_far (blk_far BK201.out NB201_212.out _) NB201_212.out _) NB201_212.out _))); have NB202_214 := Aside0.mk (bN hg ((blk_far (blk_far (blk_far BK202.out NB202_212.out _) NB202_212.out _) NB202_212.out _))); have NB214_202 := Aside0.mk (bM hg ((blk_far (blk_far (blk_far BK202.out NB202_212.out _) NB202_212.out _) NB202_212.out _))); have NB203_214 := Aside0.mk (bN hg ((blk_far (blk_far (blk_far BK203.out NB203_212.out _) NB203_212.out _) NB203_212.out _))); have NB214_203 := Aside0.mk (bM hg ((blk_far (blk_far (blk_far BK203.out NB203_212.out _) NB203_212.out _) NB203_212.out _))); have NB208_214 := Aside0.mk (bN hg ((blk_far (blk_far (blk_far BK208.out NB208_212.out _) NB208_212.out _) NB208_212.out _))); have NB214_208 := Aside0.mk (bM hg ((blk_far (blk_far (blk_far BK208.out NB208_212.out _) NB208_212.out _) NB208_212.out _))); have NB210_214 := Aside0.mk (bN hg ((blk_far (blk_far (blk_far BK210.out NB210_212.out _) NB210_212.out _) NB210_212.out _))); have NB214_210 := Aside0.mk (bM hg ((blk_far (blk_far (blk_far BK210.out NB210_212.out _) NB210_212.out _) NB210_212.out _))); have NB212_214 := Aside0.mk (bN hg ((blk_put (cs' := #[.int .i64 a2_0, .int .i64 a2_1, .int .i64 a2_2]) (blk_put (blk_put BK212.out 0 _ rfl) 1 _ rfl) 2 _ rfl))); have NB214_212 := Aside0.mk (bM hg ((blk_put (cs' := #[.int .i64 a2_0, .int .i64 a2_1, .int .i64 a2_2]) (blk_put (blk_put BK212.out 0 _ rfl) 1 _ rfl) 2 _ rfl))); replace BK201 := Aside0.mk (bB hb ((blk_far (blk_far (blk_far BK201.out NB201_212.out _) NB201_212.out _) NB201_212.out _))); replace BK202 := Aside0.mk (bB hb ((blk_far (blk_far (blk_far BK202.out NB202_212.out _) NB202_212.out _) NB202_212.out _))); replace BK203 := Aside0.mk (bB hb ((blk_far (blk_far (blk_far BK203.out NB203_212.out _) NB203_212.out _) NB203_212.out _))); replace BK208 := Aside0.mk (bB hb ((blk_far (blk_far (blk_far BK208.out NB208_212.out _) NB208_212.out _) NB208_212.out _))); replace BK210 := Aside0.mk (bB hb ((blk_far (blk_far (blk_far BK210.out NB210_212.out _) NB210_212.out _) NB210_212.out _))); replace BK212 := Aside0.mk (bB hb ((blk_put (cs' := #[.int .i64 a2_0, .int .i64 a2_1, .int .i64 a2_2]) (blk_put (blk_put BK212.out 0 _ rfl) 1 _ rfl) 2 _ rfl))); replace HB := Aside0.mk (below_step ((below_set (below_set (below_set HB.out GE212.out) GE212.out) GE212.out)) hb); clear hb hbox hg; have hnb67 := NB214_201.out; have hnc67 := NB201_214.out; have hnb68 := NB214_202.out; have hnc68 := NB202_214.out; have hnb69 := NB214_203.out; have hnc69 := NB203_214.out; have hnb70 := NB214_208.out; have hnc70 := NB208_214.out; have hnb71 := NB214_210.out; have hnc71 := NB210_214.out; have hnb72 := NB214_212.out; have hnc72 := NB212_214.out; obtain ⟨hcz73_0, hcz73_1, hcz73_2⟩ := cells3 BK214.out; have hfz73_0 := blk_frozen BK214.out 0; have hfz73_1 := blk_frozen BK214.out 1; have hfz73_2 := blk_frozen BK214.out 2) | ((with_reducible refine gate_dst (N := 14) rfl ?_); refine box_event ?hg (N := 14) ?hd (cs := #[.int .i64 0, .int .i64 0]) (t := 28) ?hr ?_; (case hd => rfl); (case hg => rfl); (case hr => first | (go_simp; done) | (go_simp; rfl)); intro gb215 hg w74 hbox hb; have BK215 := Aside0.mk (hbox); have GE215 := Aside0.mk (bG hg ((below_set (below_set (below_set HB.out GE214.out) GE214.out) GE214.out))); have NB202_215 := Aside0.mk (bN hg ((blk_far (blk_far (blk_far BK202.out NB202_214.out _) NB202_214.out _) NB202_214.out _))); have NB215_202 := Aside0.mk (bM hg ((blk_far (blk_far (blk_far BK202.out NB202_214.out _) NB202_214.out _) NB202_214.out _))); have NB203_215 := Aside0.mk (bN hg ((blk_far (blk_far (blk_far BK203.out NB203_214.out _) NB203_214.out _) NB203_214.out _))); have NB215_203 := Aside0.mk (bM hg ((blk_far (blk_far (blk_far BK203.out NB203_214.out _) NB203_214.out _) NB203_214.out _))); have NB208_215 := Aside0.mk (bN hg ((blk_far (blk_far (blk_far BK208.out NB208_214.out _) NB208_214.out _) NB208_214.out _))); have NB215_208 := Aside0.mk (bM hg ((blk_far (blk_far (blk_far BK208.out NB208_214.out _) NB208_214.out _) NB208_214.out _))); have NB210_215 := Aside0.mk (bN hg ((blk_far (blk_far (blk_far BK210.out NB210_214.out _) NB210_214.out _) NB210_214.out _))); have NB215_210 := Aside0.mk (bM hg ((blk_far (blk_far (blk_far BK210.out NB210_214.out _) NB210_214.out _) NB210_214.out _))); have NB212_215 := Aside0.mk (bN hg ((blk_far (blk_far (blk_far BK212.out NB212_214.out _) NB212_214.out _) NB212_214.out _))); have NB215_212 := Aside0.mk (bM hg ((blk_far (blk_far (blk_far BK212.out NB212_214.out _) NB212_214.out _) NB212_214.out _))); have NB214_215 := Aside0.mk (bN hg ((blk_put (cs' := #[.int .i64 a2_3, .int .i64 a2_4, .int .i64 a2_5]) (blk_put (blk_put BK214.out 0 _ rfl) 1 _ rfl) 2 _ rfl))); have NB215_214 := Aside0.mk (bM hg ((blk_put (cs' := #[.int .i64 a2_3, .int .i64 a2_4, .int .i64 a2_5]) (blk_put (blk_put BK214.out 0 _ rfl) 1 _ rfl) 2 _ rfl))); replace BK202 := Aside0.mk (bB hb ((blk_far (blk_far (blk_far BK202.out NB202_214.out _) NB202_214.out _) NB202_214.out _))); replace BK203 := Aside0.mk (bB hb ((blk_far (blk_far (blk_far BK203.out NB203_214.out _) NB203_214.out _) NB203_214.out _))); replace BK208 := Aside0.mk (bB hb ((blk_far (blk_far (blk_far BK208.out NB208_214.out _) NB208_214.out _) NB208_214.out _))); replace BK210 := Aside0.mk (bB hb ((blk_far (blk_far (blk_far BK210.out NB210_214.out _) NB210_214.out _) NB210_214.out _))); replace BK212 := Aside0.mk (bB hb ((blk_far (blk_far (blk_far BK212.out NB212_214.out _) NB212_214.out _) NB212_214.out _))); replace BK214 := Aside0.mk (bB hb ((blk_put (cs' := #[.int .i64 a2_3, .int .i64 a2_4, .int .i64 a2_5]) (blk_put (blk_put BK214.out 0 _ rfl) 1 _ rfl) 2 _ rfl))); replace HB := Aside0.mk (below_step ((below_set (below_set (below_set HB.out GE214.out) GE214.out) GE214.out)) hb); clear hb hbox hg; have hnb75 := NB215_202.out; have hnc75 := NB202_215.out; have hnb76 := NB215_203.out; have hnc76 := NB203_215.out; have hnb77 := NB215_208.out; have hnc77 := NB208_215.out; have hnb78 := NB215_210.out; have hnc78 := NB210_215.out; have hnb79 := NB215_212.out; have hnc79 := NB212_215.out; have hnb80 := NB215_214.out; have hnc80 := NB214_215.out; obtain ⟨hcz81_0, hcz81_1⟩ := cells2 BK215.out; have hfz81_0 := blk_frozen BK215.out 0; have hfz81_1 := blk_frozen BK215.out 1) | ((with_reducible refine gate_dst (N := 15) rfl ?_); refine box_event ?hg (N := 15) ?hd (cs := #[.int .i64 0, .int .i64 0]) (t := 28) ?hr ?_; (case hd => rfl); (case hg => rfl); (case hr => first | (go_simp; done) | (go_simp; rfl)); intro gb216 hg w82 hbox hb; have BK216 := Aside0.mk (hbox); have GE216 := Aside0.mk (bG hg ((below_set (below_set HB.out GE215.out) GE215.out))); have NB202_216 := Aside0.mk (bN hg ((blk_far (blk_far BK202.out NB202_215.out _) NB202_215.out _))); have NB216_202 := Aside0.mk (bM hg ((blk_far (blk_far BK202.out NB202_215.out _) NB202_215.out _))); have NB203_216 := Aside0.mk (bN hg ((blk_far (blk_far BK203.out NB203_215.out _) NB203_215.out _))); have NB216_203 := Aside0.mk (bM hg ((blk_far (blk_far BK203.out NB203_215.out _) NB203_215.out _))); have NB208_216 := Aside0.mk (bN hg ((blk_far (blk_far BK208.out NB208_215.out _) NB208_215.out _))); have NB216_208 := Aside0.mk (bM hg ((blk_far (blk_far BK208.out NB208_215.out _) NB208_215.out _))); have NB210_216 := Aside0.mk (bN hg ((blk_far (blk_far BK210.out NB210_215.out _) NB210_215.out _))); have NB216_210 := Aside0.mk (bM hg ((blk_far (blk_far BK210.out NB210_215.out _) NB210_215.out _))); have NB212_216 := Aside0.mk (bN hg ((blk_far (blk_far BK212.out NB212_215.out _) NB212_215.out _))); have NB216_212 := Aside0.mk (bM hg ((blk_far (blk_far BK212.out NB212_215.out _) NB212_215.out _))); have NB214_216 := Aside0.mk (bN hg ((blk_far (blk_far BK214.out NB214_215.out _) NB214_215.out _))); have NB216_214 := Aside0.mk (bM hg ((blk_far (blk_far BK214.out NB214_215.out _) NB214_215.out _))); have NB215_216 := Aside0.mk (bN hg ((blk_put (cs' := #[.int .i64 0, .int .i64 1]) (blk_put BK215.out 0 _ rfl) 1 _ rfl))); have NB216_215 := Aside0.mk (bM hg ((blk_put (cs' := #[.int .i64 0, .int .i64 1]) (blk_put BK215.out 0 _ rfl) 1 _ rfl))); replace BK202 := Aside0.mk (bB hb ((blk_far (blk_far BK202.out NB202_215.out _) NB202_215.out _))); replace BK203 := Aside0.mk (bB hb ((blk_far (blk_far BK203.out NB203_215.out _) NB203_215.out _))); replace BK208 := Aside0.mk (bB hb ((blk_far (blk_far BK208.out NB208_215.out _) NB208_215.out _))); replace BK210 := Aside0.mk (bB hb ((blk_far (blk_far BK210.out NB210_215.out _) NB210_215.out _))); replace BK212 := Aside0.mk (bB hb ((blk_far (blk_far BK212.out NB212_215.out _) NB212_215.out _))); replace BK214 := Aside0.mk (bB hb ((blk_far (blk_far BK214.out NB214_215.out _) NB214_215.out _))); replace BK215 := Aside0.mk (bB hb ((blk_put (cs' := #[.int .i64 0, .int .i64 1]) (blk_put BK215.out 0 _ rfl) 1 _ rfl))); replace HB := Aside0.mk (below_step ((below_set (below_set HB.out GE215.out) GE215.out)) hb); clear hb hbox hg; have hnb83 := NB216_202.out; have hnc83 := NB202_216.out; have hnb84 := NB216_203.out; have hnc84 := NB203_216.out; have hnb85 := NB216_208.out; have hnc85 := NB208_216.out; have hnb86 := NB216_210.out; have hnc86 := NB210_216.out; have hnb87 := NB216_212.out; have hnc87 := NB212_216.out; have hnb88 := NB216_214.out; have hnc88 := NB214_216.out; have hnb89 := NB216_215.out; have hnc89 := NB215_216.out; obtain ⟨hcz90_0, hcz90_1⟩ := cells2 BK216.out; have hfz90_0 := blk_frozen BK216.out 0; have hfz90_1 := blk_frozen BK216.out 1))
  generalize hw_ : ((w82.setCell ⟨gb216, 0, none⟩ (.int .i64 1)).setCell ⟨gb216, 1, none⟩ (.int .i64 0)) = w92
  replace BK202 := Aside0.mk (bF hw_ (blk_far (blk_far BK202.out NB202_216.out _) NB202_216.out _))
  replace BK203 := Aside0.mk (bF hw_ (blk_far (blk_far BK203.out NB203_216.out _) NB203_216.out _))
  replace BK208 := Aside0.mk (bF hw_ (blk_far (blk_far BK208.out NB208_216.out _) NB208_216.out _))
  replace BK210 := Aside0.mk (bF hw_ (blk_far (blk_far BK210.out NB210_216.out _) NB210_216.out _))
  replace BK212 := Aside0.mk (bF hw_ (blk_far (blk_far BK212.out NB212_216.out _) NB212_216.out _))
  replace BK214 := Aside0.mk (bF hw_ (blk_far (blk_far BK214.out NB214_216.out _) NB214_216.out _))
  replace BK215 := Aside0.mk (bF hw_ (blk_far (blk_far BK215.out NB215_216.out _) NB215_216.out _))
  replace BK216 := Aside0.mk (bF hw_ (blk_put (cs' := #[.int .i64 1, .int .i64 0]) (blk_put BK216.out 0 _ rfl) 1 _ rfl))
  replace HB := Aside0.mk (bH hw_ (below_set (below_set HB.out GE216.out) GE216.out))
  clear hw_
  have BK208 : Aside0 (w92.heap[gb208]? = some (.cells (ar [a0_0, a0_1, a0_2]) 88 (0, 0))) := BK208
  have BK210 : Aside0 (w92.heap[gb210]? = some (.cells (ar [a1_0, a1_1, a1_2]) 88 (0, 0))) := BK210
  have BK212 : Aside0 (w92.heap[gb212]? = some (.cells (ar [a2_0, a2_1, a2_2]) 88 (0, 0))) := BK212
  have BK214 : Aside0 (w92.heap[gb214]? = some (.cells (ar [a2_3, a2_4, a2_5]) 88 (0, 0))) := BK214
  have HX := HC40
  clear HC40
  have lF : [a0_0, a0_1, a0_2].length = 3 := rfl
  have lS : [a1_0, a1_1, a1_2].length = 3 := rfl
  have lL : [a2_0, a2_1, a2_2].length = 3 := rfl
  have lH : [a2_3, a2_4, a2_5].length = 3 := rfl
  generalize [a0_0, a0_1, a0_2] = F at BK208 HX lF
  generalize [a1_0, a1_1, a1_2] = S at BK210 HX lS
  generalize [a2_0, a2_1, a2_2] = Lo at BK212 HX lL
  generalize [a2_3, a2_4, a2_5] = Hi at BK214 HX lH
  go_loopg [16, 17, 18] 3 (fun kq v16 v17 v18 w' => ∃ (i : Nat) (pn pd qn qd : Int), v16 = .int .i64 i ∧ Aside0 (i + kq = 3) ∧ Aside0 (rngL F S Lo Hi kq i pn pd qn qd = some (r1, r2, r3, r4, r5, r6)) ∧ Aside0 (w'.heap[gb202]? = some (.cells #[.int .i64 0, .int .i64 0] 28 (0, 0))) ∧ Aside0 (w'.heap[gb203]? = some (.cells #[.int .i64 0, .int .i64 0] 28 (0, 0))) ∧ Aside0 (w'.heap[gb208]? = some (.cells (ar F) 88 (0, 0))) ∧ Aside0 (w'.heap[gb210]? = some (.cells (ar S) 88 (0, 0))) ∧ Aside0 (w'.heap[gb212]? = some (.cells (ar Lo) 88 (0, 0))) ∧ Aside0 (w'.heap[gb214]? = some (.cells (ar Hi) 88 (0, 0))) ∧ Aside0 (w'.heap[gb215]? = some (.cells #[.int .i64 pn, .int .i64 pd] 28 (0, 0))) ∧ Aside0 (w'.heap[gb216]? = some (.cells #[.int .i64 qn, .int .i64 qd] 28 (0, 0))) ∧ Aside0 (Below w.heap.size w w'))
  case atStart => exact ⟨0, 0, 1, 1, 0, rfl, ⟨rfl⟩, HX, BK202, BK203, BK208, BK210, BK212, BK214, BK215, BK216, HB⟩
  case round =>
   clear HX HB BK202 BK203 BK208 BK210 BK212 BK214 BK215 BK216
   obtain ⟨i, pn, pd, qn, qd, rfl, HI, HX, BK202, BK203, BK208, BK210, BK212, BK214, BK215, BK216, HB⟩ := hrel
   have hI := HI.out
   cases gk with
   | zero =>
    have ei : i = 3 := by omega
    subst ei
    have hx := HX.out
    clear HX hI
    rw [rngL] at hx
    replace hx := Option.bind_eq_some_iff.mp hx
    obtain ⟨t, ht, hx⟩ := hx
    have LS := fun w => relievoref04_less.calls qn qd pn pd t w ht
    clear ht
    have d1 : decide (((3 : Nat) : Int) < 3) = false := rfl
    obtain ⟨x0, x1⟩ := cells2 BK216.out
    obtain ⟨x2, x3⟩ := cells2 BK215.out
    cases t
    · simp only [Bool.false_eq_true, if_false, Option.some.injEq, Prod.mk.injEq] at hx
      obtain ⟨rfl, rfl, rfl, rfl, rfl, rfl⟩ := hx
      go_wp2_with (first | (go_at_call 53; (with_reducible refine (LS _).mono ?_); rintro e w50 ⟨rfl, hb⟩; replace BK202 := cB hb BK202; replace BK203 := cB hb BK203; replace BK208 := cB hb BK208; replace BK210 := cB hb BK210; replace BK212 := cB hb BK212; replace BK214 := cB hb BK214; replace BK215 := cB hb BK215; replace BK216 := cB hb BK216; replace HB := Aside0.mk (below_step (HB.out) hb); clear hb))
      replace BK202 := Aside0.mk (blk_drew BK202.out)
      replace BK203 := Aside0.mk (blk_drew BK203.out)
      replace BK215 := Aside0.mk (blk_drew BK215.out)
      replace BK216 := Aside0.mk (blk_drew BK216.out)
      replace HB := Aside0.mk (below_drew1 HB.out)
      refine start_ (n := 6) (S := fun w' => w'.cell? ⟨gb215, 0, none⟩ = some (.int .i64 pn) ∧ w'.cell? ⟨gb215, 1, none⟩ = some (.int .i64 pd) ∧ w'.cell? ⟨gb216, 0, none⟩ = some (.int .i64 qn) ∧ w'.cell? ⟨gb216, 1, none⟩ = some (.int .i64 qd)) (ds := []) #[false, false, false, false, false, false] (by kernel_rfl) rfl rfl ⟨(blk_cell BK215.out 0).trans rfl, (blk_cell BK215.out 1).trans rfl, (blk_cell BK216.out 0).trans rfl, (blk_cell BK216.out 1).trans rfl⟩ (fun hHeld => ?_)
      generalize w50.drew = w51 at BK202 BK203 BK215 BK216 HB hHeld ⊢
      refine take_ (i := 0) (N := some 171) (v := ?_) (a' := ?_) #[true, false, false, false, false, false] rfl rfl (by kernel_rfl) (fun _ _ _ h => h) (Or.inl ⟨by rfl, ?_⟩) hHeld ?_ ?_
      rotate_left
      ·rintro w' ⟨s0, s1, s2, s3⟩
       go_simp
       with_reducible rfl
      rotate_left
      ·simp only [Act.put, List.setIfInBounds_toArray, List.set_cons_zero, List.set_cons_succ, i64_w, i32_w]
       rfl
      refine take_ (i := 1) (N := some 172) (v := ?_) (a' := ?_) #[true, true, false, false, false, false] rfl rfl (by kernel_rfl) (fun _ _ _ h => h) (Or.inl ⟨by rfl, ?_⟩) hHeld ?_ ?_
      rotate_left
      ·rintro w' ⟨s0, s1, s2, s3⟩
       go_simp
       with_reducible rfl
      rotate_left
      ·simp only [Act.put, List.setIfInBounds_toArray, List.set_cons_zero, List.set_cons_succ, i64_w, i32_w]
       rfl
      refine one_ (i := 2) (N := none) #[true, true, true, false, false, false] rfl rfl (by kernel_rfl) (by decide) (fun K hK => ?_)
      have hs580 : w51.cell? ⟨gb202, 0, none⟩ = some (.int .i64 0) := (blk_cell BK202.out 0).trans rfl
      have hfs580 := blk_frozen BK202.out 0
      have hns580_1 := NB203_202.out
      have hms580_1 := NB202_203.out
      have hs581 : w51.cell? ⟨gb202, 1, none⟩ = some (.int .i64 0) := (blk_cell BK202.out 1).trans rfl
      have hfs581 := blk_frozen BK202.out 1
      refine skip_ (w1 := ?_) (by rfl) rfl ?_ ?_
      rotate_left
      ·go_simp
       rfl
      refine hK.out _ _ ⟨(cf NB215_202.out (cf NB215_202.out hHeld.1)), (cf NB215_202.out (cf NB215_202.out hHeld.2.1)), (cf NB216_202.out (cf NB216_202.out hHeld.2.2.1)), (cf NB216_202.out (cf NB216_202.out hHeld.2.2.2))⟩ (fun hHeld => ?_)
      clear hK K
      refine one_ (i := 3) (N := none) #[true, true, true, true, false, false] rfl rfl (by kernel_rfl) (by decide) (fun K hK => ?_)
      have hs582 : w51.cell? ⟨gb203, 0, none⟩ = some (.int .i64 0) := (blk_cell BK203.out 0).trans rfl
      have hfs582 := blk_frozen BK203.out 0
      have hs583 : w51.cell? ⟨gb203, 1, none⟩ = some (.int .i64 0) := (blk_cell BK203.out 1).trans rfl
      have hfs583 := blk_frozen BK203.out 1
      refine skip_ (w1 := ?_) (by rfl) rfl ?_ ?_
      rotate_left
      ·go_simp
       rfl
      refine hK.out _ _ ⟨(cf NB215_203.out (cf NB215_203.out hHeld.1)), (cf NB215_203.out (cf NB215_203.out hHeld.2.1)), (cf NB216_203.out (cf NB216_203.out hHeld.2.2.1)), (cf NB216_203.out (cf NB216_203.out hHeld.2.2.2))⟩ (fun hHeld => ?_)
      clear hK K
      refine pure_ (i := 4) (N := some 8) (v := ?_) (a' := ?_) #[true, true, true, true, true, false] rfl rfl (by kernel_rfl) (fun _ _ _ h => h) (Or.inl ⟨by rfl, ?_⟩) ?_ ?_
      rotate_left
      ·intro w'
       go_simp
       with_reducible rfl
      rotate_left
      ·simp only [Act.put, List.setIfInBounds_toArray, List.set_cons_zero, List.set_cons_succ, i64_w, i32_w]
       rfl
      refine pure_ (i := 5) (N := some 9) (v := ?_) (a' := ?_) #[true, true, true, true, true, true] rfl rfl (by kernel_rfl) (fun _ _ _ h => h) (Or.inl ⟨by rfl, ?_⟩) ?_ ?_
      rotate_left
      ·intro w'
       go_simp
       with_reducible rfl
      rotate_left
      ·simp only [Act.put, List.setIfInBounds_toArray, List.set_cons_zero, List.set_cons_succ, i64_w, i32_w]
       rfl
      refine done_ (by kernel_rfl) ?_
      try go_wp2
      (try simp only [Exit.inBlock, Exit.then])
      refine bodyPost_ret (results_list (rs := [.cell 6 28, .cell 7 28, .tmp 8, .tmp 9]) rfl (by simp) (.cell gb202 28 #[.int .i64 pn, .int .i64 pd] (0, 0) _ rfl ((blk_far (blk_far (blk_put (cs' := #[.int .i64 pn, .int .i64 pd]) (blk_put (w := w51) BK202.out 0 _ rfl) 1 _ rfl) NB202_203.out _) NB202_203.out _)) Try.underlying28 rfl (by kernel_rfl) (.cell gb203 28 #[.int .i64 qn, .int .i64 qd] (0, 0) _ rfl ((blk_put (cs' := #[.int .i64 qn, .int .i64 qd]) (blk_put (blk_far (blk_far (w := w51) BK203.out NB203_202.out _) NB203_202.out _) 0 _ rfl) 1 _ rfl)) Try.underlying28 rfl (by kernel_rfl) (.tmp (.tmp .nil))))) rfl ?_
      exact ⟨rfl, below_set (below_set (below_set (below_set (by repeat (first | exact HB.out | apply pw_below_drewN | apply below_drew1)) GE202.out) GE202.out) GE203.out) GE203.out⟩
    · simp only [if_true, Option.some.injEq, Prod.mk.injEq] at hx
      obtain ⟨rfl, rfl, rfl, rfl, rfl, rfl⟩ := hx
      go_wp2_with (first | (go_at_call 53; (with_reducible refine (LS _).mono ?_); rintro e w50 ⟨rfl, hb⟩; replace BK202 := cB hb BK202; replace BK203 := cB hb BK203; replace BK208 := cB hb BK208; replace BK210 := cB hb BK210; replace BK212 := cB hb BK212; replace BK214 := cB hb BK214; replace BK215 := cB hb BK215; replace BK216 := cB hb BK216; replace HB := Aside0.mk (below_step (HB.out) hb); clear hb; obtain ⟨z0, z1⟩ := cells2 BK202.out; have y0 := blk_frozen BK202.out 0; have y1 := blk_frozen BK202.out 1; obtain ⟨z2, z3⟩ := cells2 BK203.out; have y2 := blk_frozen BK203.out 0; have y3 := blk_frozen BK203.out 1; have nb1 := NB202_203.out; have nb2 := NB203_202.out))
      (try simp only [Exit.inBlock, Exit.then])
      refine bodyPost_ret (results_list (rs := [.cell 6 28, .cell 7 28, .tmp 8, .tmp 9]) rfl (by simp) (.cell gb202 28 #[.int .i64 0, .int .i64 0] (0, 0) _ rfl ((blk_far (blk_far (blk_put (cs' := #[.int .i64 0, .int .i64 0]) (blk_put (w := w50) BK202.out 0 _ rfl) 1 _ rfl) NB202_203.out _) NB202_203.out _)) Try.underlying28 rfl (by kernel_rfl) (.cell gb203 28 #[.int .i64 0, .int .i64 0] (0, 0) _ rfl ((blk_put (cs' := #[.int .i64 0, .int .i64 0]) (blk_put (blk_far (blk_far (w := w50) BK203.out NB203_202.out _) NB203_202.out _) 0 _ rfl) 1 _ rfl)) Try.underlying28 rfl (by kernel_rfl) (.tmp (.tmp .nil))))) rfl ?_
      exact ⟨rfl, below_set (below_set (below_set (below_set (by repeat (first | exact HB.out | apply pw_below_drewN | apply below_drew1)) GE202.out) GE202.out) GE203.out) GE203.out⟩
   | succ gi =>
    have hi : i < 3 := by omega
    have mer : i + 1 + gi = 3 := by omega
    have c1 : decide ((i : Int) < 3) = true := decide_eq_true (by omega)
    have i0 : (0 : Int) ≤ i := by omega
    have i1 : (i : Int) < 3 := by omega
    have cl := (blk_cell BK212.out i).trans (ar_get (by rw [lL]; exact hi))
    have cu := (blk_cell BK214.out i).trans (ar_get (by rw [lH]; exact hi))
    have cs := (blk_cell BK210.out i).trans (ar_get (by rw [lS]; exact hi))
    have cff := (blk_cell BK208.out i).trans (ar_get (by rw [lF]; exact hi))
    have h := HX.out
    clear HX hI hi
    rw [rngL] at h
    generalize Lo.getD i 0 = l at cl h
    generalize Hi.getD i 0 = u at cu h
    generalize S.getD i 0 = s at cs h
    generalize F.getD i 0 = f at cff h
    by_cases b1 : l > u
    · have d1 : decide (l > u) = true := decide_eq_true b1
      have d1' : decide (u < l) = true := decide_eq_true b1
      rw [if_pos b1] at h
      simp only [Option.some.injEq, Prod.mk.injEq] at h
      obtain ⟨rfl, rfl, rfl, rfl, rfl, rfl⟩ := h
      obtain ⟨z0, z1⟩ := cells2 BK202.out
      have y0 := blk_frozen BK202.out 0
      have y1 := blk_frozen BK202.out 1
      obtain ⟨z2, z3⟩ := cells2 BK203.out
      have y2 := blk_frozen BK203.out 0
      have y3 := blk_frozen BK203.out 1
      have nb1 := NB202_203.out
      have nb2 := NB203_202.out
      go_wp2
      go_quiet (fail)
      go_wp2
      (try simp only [Exit.inBlock, Exit.then])
      refine bodyPost_ret (results_list (rs := [.cell 6 28, .cell 7 28, .tmp 8, .tmp 9]) rfl (by simp) (.cell gb202 28 #[.int .i64 0, .int .i64 0] (0, 0) _ rfl ((blk_far (blk_far (blk_put (cs' := #[.int .i64 0, .int .i64 0]) (blk_put (w := (wr.drewN nq)) BK202.out 0 _ rfl) 1 _ rfl) NB202_203.out _) NB202_203.out _)) Try.underlying28 rfl (by kernel_rfl) (.cell gb203 28 #[.int .i64 0, .int .i64 0] (0, 0) _ rfl ((blk_put (cs' := #[.int .i64 0, .int .i64 0]) (blk_put (blk_far (blk_far (w := (wr.drewN nq)) BK203.out NB203_202.out _) NB203_202.out _) 0 _ rfl) 1 _ rfl)) Try.underlying28 rfl (by kernel_rfl) (.tmp (.tmp .nil))))) rfl ?_
      exact ⟨rfl, below_set (below_set (below_set (below_set (by repeat (first | exact HB.out | apply pw_below_drewN | apply below_drew1)) GE202.out) GE202.out) GE203.out) GE203.out⟩
    have d1 : decide (l > u) = false := decide_eq_false b1
    have d1' : decide (u < l) = false := decide_eq_false b1
    rw [if_neg b1] at h
    clear b1
    by_cases b2 : s = 0
    · subst b2
      rw [if_pos rfl] at h
      by_cases b3 : f < l
      · have d3 : decide (f < l) = true := decide_eq_true b3
        rw [if_pos b3] at h
        simp only [Option.some.injEq, Prod.mk.injEq] at h
        obtain ⟨rfl, rfl, rfl, rfl, rfl, rfl⟩ := h
        obtain ⟨z0, z1⟩ := cells2 BK202.out
        have y0 := blk_frozen BK202.out 0
        have y1 := blk_frozen BK202.out 1
        obtain ⟨z2, z3⟩ := cells2 BK203.out
        have y2 := blk_frozen BK203.out 0
        have y3 := blk_frozen BK203.out 1
        have nb1 := NB202_203.out
        have nb2 := NB203_202.out
        go_wp2
        go_quiet (fail)
        go_wp2
        go_quiet (fail)
        go_wp2
        (try simp only [Exit.inBlock, Exit.then])
        refine bodyPost_ret (results_list (rs := [.cell 6 28, .cell 7 28, .tmp 8, .tmp 9]) rfl (by simp) (.cell gb202 28 #[.int .i64 0, .int .i64 0] (0, 0) _ rfl ((blk_far (blk_far (blk_put (cs' := #[.int .i64 0, .int .i64 0]) (blk_put (w := (wr.drewN _)) BK202.out 0 _ rfl) 1 _ rfl) NB202_203.out _) NB202_203.out _)) Try.underlying28 rfl (by kernel_rfl) (.cell gb203 28 #[.int .i64 0, .int .i64 0] (0, 0) _ rfl ((blk_put (cs' := #[.int .i64 0, .int .i64 0]) (blk_put (blk_far (blk_far (w := (wr.drewN _)) BK203.out NB203_202.out _) NB203_202.out _) 0 _ rfl) 1 _ rfl)) Try.underlying28 rfl (by kernel_rfl) (.tmp (.tmp .nil))))) rfl ?_
        exact ⟨rfl, below_set (below_set (below_set (below_set (by repeat (first | exact HB.out | apply pw_below_drewN | apply below_drew1)) GE202.out) GE202.out) GE203.out) GE203.out⟩
      have d3 : decide (f < l) = false := decide_eq_false b3
      rw [if_neg b3] at h
      by_cases b4 : f > u
      · have d4 : decide (f > u) = true := decide_eq_true b4
        have d4' : decide (u < f) = true := decide_eq_true b4
        rw [if_pos b4] at h
        simp only [Option.some.injEq, Prod.mk.injEq] at h
        obtain ⟨rfl, rfl, rfl, rfl, rfl, rfl⟩ := h
        obtain ⟨z0, z1⟩ := cells2 BK202.out
        have y0 := blk_frozen BK202.out 0
        have y1 := blk_frozen BK202.out 1
        obtain ⟨z2, z3⟩ := cells2 BK203.out
        have y2 := blk_frozen BK203.out 0
        have y3 := blk_frozen BK203.out 1
        have nb1 := NB202_203.out
        have nb2 := NB203_202.out
        go_wp2
        go_quiet (fail)
        go_wp2
        go_quiet (fail)
        go_wp2
        (try simp only [Exit.inBlock, Exit.then])
        refine bodyPost_ret (results_list (rs := [.cell 6 28, .cell 7 28, .tmp 8, .tmp 9]) rfl (by simp) (.cell gb202 28 #[.int .i64 0, .int .i64 0] (0, 0) _ rfl ((blk_far (blk_far (blk_put (cs' := #[.int .i64 0, .int .i64 0]) (blk_put (w := (wr.drewN _)) BK202.out 0 _ rfl) 1 _ rfl) NB202_203.out _) NB202_203.out _)) Try.underlying28 rfl (by kernel_rfl) (.cell gb203 28 #[.int .i64 0, .int .i64 0] (0, 0) _ rfl ((blk_put (cs' := #[.int .i64 0, .int .i64 0]) (blk_put (blk_far (blk_far (w := (wr.drewN _)) BK203.out NB203_202.out _) NB203_202.out _) 0 _ rfl) 1 _ rfl)) Try.underlying28 rfl (by kernel_rfl) (.tmp (.tmp .nil))))) rfl ?_
        exact ⟨rfl, below_set (below_set (below_set (below_set (by repeat (first | exact HB.out | apply pw_below_drewN | apply below_drew1)) GE202.out) GE202.out) GE203.out) GE203.out⟩
      have d4 : decide (f > u) = false := decide_eq_false b4
      have d4' : decide (u < f) = false := decide_eq_false b4
      rw [if_neg b4] at h
      have HX := Aside0.mk h
      clear h b3 b4
      go_wp2
      go_quiet (fail)
      go_wp2
      go_quiet (fail)
      go_wp2
      go_roundg gi
      case measure => exact Nat.lt_succ_self _
      case rel => exact ⟨i + 1, pn, pd, qn, qd, by simp, ⟨mer⟩, HX, ⟨BK202.out⟩, ⟨BK203.out⟩, ⟨BK208.out⟩, ⟨BK210.out⟩, ⟨BK212.out⟩, ⟨BK214.out⟩, ⟨BK215.out⟩, ⟨BK216.out⟩, ⟨by repeat (first | exact HB.out | apply pw_below_drewN | apply below_drew1)⟩⟩
    · have d2 : (s == 0) = false := beq_eq_false_iff_ne.2 b2
      rw [if_neg b2] at h
      have HX := Aside0.mk h
      clear h
      have e208 : (ar F)[i]? = some (.int .i64 f) := ((blk_cell BK208.out i).symm.trans cff).trans rfl
      have e210 : (ar S)[i]? = some (.int .i64 s) := ((blk_cell BK210.out i).symm.trans cs).trans rfl
      have e212 : (ar Lo)[i]? = some (.int .i64 l) := ((blk_cell BK212.out i).symm.trans cl).trans rfl
      have e214 : (ar Hi)[i]? = some (.int .i64 u) := ((blk_cell BK214.out i).symm.trans cu).trans rfl
      go_wp2
      go_quiet (fail)
      go_wp2
      replace BK202 := bD (n := nq) BK202
      replace BK203 := bD (n := nq) BK203
      replace BK208 := bD (n := nq) BK208
      replace BK210 := bD (n := nq) BK210
      replace BK212 := bD (n := nq) BK212
      replace BK214 := bD (n := nq) BK214
      replace BK215 := bD (n := nq) BK215
      replace BK216 := bD (n := nq) BK216
      replace HB : Aside0 (Below w.heap.size w (wr.drewN nq)) := ⟨by repeat (first | exact HB.out | apply pw_below_drewN | apply below_drew1)⟩
      generalize wr.drewN nq = w150 at BK202 BK203 BK208 BK210 BK212 BK214 BK215 BK216 HB ⊢
      replace BK202 := Aside0.mk (blk_drew BK202.out)
      replace BK203 := Aside0.mk (blk_drew BK203.out)
      replace BK208 := Aside0.mk (blk_drew BK208.out)
      replace BK210 := Aside0.mk (blk_drew BK210.out)
      replace BK212 := Aside0.mk (blk_drew BK212.out)
      replace BK214 := Aside0.mk (blk_drew BK214.out)
      replace BK215 := Aside0.mk (blk_drew BK215.out)
      replace BK216 := Aside0.mk (blk_drew BK216.out)
      replace HB := Aside0.mk (below_drew1 HB.out)
      refine start_ (n := 13) (S := fun w' => w'.cell? ⟨gb212, i, none⟩ = some (.int .i64 l) ∧ w'.cell? ⟨gb212, i, none⟩ = some (.int .i64 l) ∧ w'.cell? ⟨gb212, i, none⟩ = some (.int .i64 l) ∧ w'.cell? ⟨gb208, i, none⟩ = some (.int .i64 f) ∧ w'.cell? ⟨gb208, i, none⟩ = some (.int .i64 f) ∧ w'.cell? ⟨gb208, i, none⟩ = some (.int .i64 f) ∧ w'.cell? ⟨gb210, i, none⟩ = some (.int .i64 s) ∧ w'.cell? ⟨gb210, i, none⟩ = some (.int .i64 s) ∧ w'.cell? ⟨gb210, i, none⟩ = some (.int .i64 s)) (ds := []) #[false, false, false, false, false, false, false, false, false, false, false, false, false] (by kernel_rfl) rfl rfl ⟨(blk_cell BK212.out i).trans e212, (blk_cell BK212.out i).trans e212, (blk_cell BK212.out i).trans e212, (blk_cell BK208.out i).trans e208, (blk_cell BK208.out i).trans e208, (blk_cell BK208.out i).trans e208, (blk_cell BK210.out i).trans e210, (blk_cell BK210.out i).trans e210, (blk_cell BK210.out i).trans e210⟩ (fun hHeld => ?_); refine with_tabW relievoref04_Range.tab17 relievoref04_Range.bits17 (fun HT_ HW_ => ?_)
      generalize w150.drew = w158 at BK202 BK203 BK208 BK210 BK212 BK214 BK215 BK216 HB hHeld ⊢
      refine pure_ (i := 0) (N := some 108) (v := ?_) (a' := ?_) #[true, false, false, false, false, false, false, false, false, false, false, false, false] rfl rfl (any_of HT_.out (by kernel_rfl)) (fun _ _ _ h => h) (Or.inl ⟨by rfl, ?_⟩) ?_ ?_
      rotate_left
      ·intro w'
       go_simp
       with_reducible rfl
      rotate_left
      ·simp only [Act.put, List.setIfInBounds_toArray, List.set_cons_zero, List.set_cons_succ, i64_w, i32_w]
       rfl
      refine pure_ (i := 1) (N := some 109) (v := ?_) (a' := ?_) #[true, true, false, false, false, false, false, false, false, false, false, false, false] rfl rfl (any_of HT_.out (by kernel_rfl)) (fun _ _ _ h => h) (Or.inl ⟨by rfl, ?_⟩) ?_ ?_
      rotate_left
      ·intro w'
       go_simp
       with_reducible rfl
      rotate_left
      ·simp only [Act.put, List.setIfInBounds_toArray, List.set_cons_zero, List.set_cons_succ, i64_w, i32_w]
       rfl
      refine pure_ (i := 3) (N := some 111) (v := ?_) (a' := ?_) #[true, true, false, true, false, false, false, false, false, false, false, false, false] rfl rfl (any_of HT_.out (by kernel_rfl)) (fun _ _ _ h => h) (Or.inl ⟨by rfl, ?_⟩) ?_ ?_
      rotate_left
      ·intro w'
       go_simp
       with_reducible rfl
      rotate_left
      ·simp only [Act.put, List.setIfInBounds_toArray, List.set_cons_zero, List.set_cons_succ, i64_w, i32_w]
       rfl
      refine pure_ (i := 4) (N := some 112) (v := ?_) (a' := ?_) #[true, true, false, true, true, false, false, false, false, false, false, false, false] rfl rfl (any_of HT_.out (by kernel_rfl)) (fun _ _ _ h => h) (Or.inl ⟨by rfl, ?_⟩) ?_ ?_
      rotate_left
      ·intro w'
       go_simp
       with_reducible rfl
      rotate_left
      ·simp only [Act.put, List.setIfInBounds_toArray, List.set_cons_zero, List.set_cons_succ, i64_w, i32_w]
       rfl
      refine pure_ (i := 7) (N := some 115) (v := ?_) (a' := ?_) #[true, true, false, true, true, false, false, true, false, false, false, false, false] rfl rfl (any_of HT_.out (by kernel_rfl)) (fun _ _ _ h => h) (Or.inl ⟨by rfl, ?_⟩) ?_ ?_
      rotate_left
      ·intro w'
       go_simp
       with_reducible rfl
      rotate_left
      ·simp only [Act.put, List.setIfInBounds_toArray, List.set_cons_zero, List.set_cons_succ, i64_w, i32_w]
       rfl
      refine pure_ (i := 8) (N := some 116) (v := ?_) (a' := ?_) #[true, true, false, true, true, false, false, true, true, false, false, false, false] rfl rfl (any_of HT_.out (by kernel_rfl)) (fun _ _ _ h => h) (Or.inl ⟨by rfl, ?_⟩) ?_ ?_
      rotate_left
      ·intro w'
       go_simp
       with_reducible rfl
      rotate_left
      ·simp only [Act.put, List.setIfInBounds_toArray, List.set_cons_zero, List.set_cons_succ, i64_w, i32_w]
       rfl
      refine take_ (i := 2) (N := some 110) (v := ?_) (a' := ?_) #[true, true, true, true, true, false, false, true, true, false, false, false, false] rfl rfl (take_ofW HT_.out HW_.out (by kernel_rfl)) (fun _ _ _ h => h) (Or.inl ⟨by rfl, ?_⟩) hHeld ?_ ?_
      rotate_left
      ·rintro w' ⟨s0, s1, s2, s3, s4, s5, s6, s7, s8⟩
       go_simp
       with_reducible rfl
      rotate_left
      ·simp only [Act.put, List.setIfInBounds_toArray, List.set_cons_zero, List.set_cons_succ, i64_w, i32_w]
       rfl
      refine take_ (i := 5) (N := some 113) (v := ?_) (a' := ?_) #[true, true, true, true, true, true, false, true, true, false, false, false, false] rfl rfl (take_ofW HT_.out HW_.out (by kernel_rfl)) (fun _ _ _ h => h) (Or.inl ⟨by rfl, ?_⟩) hHeld ?_ ?_
      rotate_left
      ·rintro w' ⟨s0, s1, s2, s3, s4, s5, s6, s7, s8⟩
       go_simp
       with_reducible rfl
      rotate_left
      ·simp only [Act.put, List.setIfInBounds_toArray, List.set_cons_zero, List.set_cons_succ, i64_w, i32_w]
       rfl
      refine pure_ (i := 6) (N := some 114) (v := ?_) (a' := ?_) #[true, true, true, true, true, true, true, true, true, false, false, false, false] rfl rfl (any_of HT_.out (by kernel_rfl)) (fun _ _ _ h => h) (Or.inl ⟨by rfl, ?_⟩) ?_ ?_
      rotate_left
      ·intro w'
       go_simp
       with_reducible rfl
      rotate_left
      ·simp only [Act.put, List.setIfInBounds_toArray, List.set_cons_zero, List.set_cons_succ, i64_w, i32_w]
       rfl
      refine take_ (i := 9) (N := some 117) (v := ?_) (a' := ?_) #[true, true, true, true, true, true, true, true, true, true, false, false, false] rfl rfl (take_ofW HT_.out HW_.out (by kernel_rfl)) (fun _ _ _ h => h) (Or.inl ⟨by rfl, ?_⟩) hHeld ?_ ?_
      rotate_left
      ·rintro w' ⟨s0, s1, s2, s3, s4, s5, s6, s7, s8⟩
       go_simp
       with_reducible rfl
      rotate_left
      ·simp only [Act.put, List.setIfInBounds_toArray, List.set_cons_zero, List.set_cons_succ, i64_w, i32_w]
       rfl
      refine pure_ (i := 10) (N := some 118) (v := ?_) (a' := ?_) #[true, true, true, true, true, true, true, true, true, true, true, false, false] rfl rfl (any_of HT_.out (by kernel_rfl)) (fun _ _ _ h => h) (Or.inl ⟨by rfl, ?_⟩) ?_ ?_
      rotate_left
      ·intro w'
       go_simp
       with_reducible rfl
      rotate_left
      ·simp only [Act.put, List.setIfInBounds_toArray, List.set_cons_zero, List.set_cons_succ, i64_w, i32_w]
       rfl
      refine one_ (i := 11) (N := some 17) #[true, true, true, true, true, true, true, true, true, true, true, true, false] rfl rfl (one_of HT_.out (by kernel_rfl)) (by decide) (fun K hK => ?_)
      refine box_step ?hg (N := 17) ?hd (cs := #[.int .i64 0, .int .i64 0]) (t := 28) ?hr ?_; (case hd => rfl); (case hg => rfl); (case hr => first | (go_simp; done) | (go_simp; rfl))
      intro gb217 hg w159 hbox hb
      have BK217 := Aside0.mk (hbox)
      have GE217 := Aside0.mk (bG hg (HB.out))
      have NB202_217 := cN hg BK202
      have NB217_202 := cM hg BK202
      have NB203_217 := cN hg BK203
      have NB217_203 := cM hg BK203
      have NB208_217 := cN hg BK208
      have NB217_208 := cM hg BK208
      have NB210_217 := cN hg BK210
      have NB217_210 := cM hg BK210
      have NB212_217 := cN hg BK212
      have NB217_212 := cM hg BK212
      have NB214_217 := cN hg BK214
      have NB217_214 := cM hg BK214
      have NB215_217 := cN hg BK215
      have NB217_215 := cM hg BK215
      have NB216_217 := cN hg BK216
      have NB217_216 := cM hg BK216
      replace BK202 := cB hb BK202
      replace BK203 := cB hb BK203
      replace BK208 := cB hb BK208
      replace BK210 := cB hb BK210
      replace BK212 := cB hb BK212
      replace BK214 := cB hb BK214
      replace BK215 := cB hb BK215
      replace BK216 := cB hb BK216
      replace HB := Aside0.mk (below_step (HB.out) hb)
      clear hb hbox hg
      refine hK.out _ _ ⟨(blk_cell BK212.out i).trans e212, (blk_cell BK212.out i).trans e212, (blk_cell BK212.out i).trans e212, (blk_cell BK208.out i).trans e208, (blk_cell BK208.out i).trans e208, (blk_cell BK208.out i).trans e208, (blk_cell BK210.out i).trans e210, (blk_cell BK210.out i).trans e210, (blk_cell BK210.out i).trans e210⟩ (fun hHeld => ?_)
      clear hK K
      refine norm_ (a' := ?_) ?_ ?_
      rotate_left
      ·show Act.put _ (some 17) _ = _
       simp only [Act.put, List.setIfInBounds_toArray, List.set_cons_zero, List.set_cons_succ, i64_w, i32_w]
       rfl
      refine one_ (i := 12) (N := none) #[true, true, true, true, true, true, true, true, true, true, true, true, true] rfl rfl (one_of HT_.out (by kernel_rfl)) (by decide) (fun K hK => ?_)
      have hs160 : w159.cell? ⟨gb217, 0, none⟩ = some (.int .i64 0) := (blk_cell BK217.out 0).trans rfl
      have hfs160 := blk_frozen BK217.out 0
      have hns160_0 := NB202_217.out
      have hns160_1 := NB203_217.out
      have hns160_2 := NB208_217.out
      have hns160_3 := NB210_217.out
      have hns160_4 := NB212_217.out
      have hns160_5 := NB214_217.out
      have hns160_6 := NB215_217.out
      have hns160_7 := NB216_217.out
      have hms160_0 := NB217_202.out
      have hms160_1 := NB217_203.out
      have hms160_2 := NB217_208.out
      have hms160_3 := NB217_210.out
      have hms160_4 := NB217_212.out
      have hms160_5 := NB217_214.out
      have hms160_6 := NB217_215.out
      have hms160_7 := NB217_216.out
      have hs161 : w159.cell? ⟨gb217, 1, none⟩ = some (.int .i64 0) := (blk_cell BK217.out 1).trans rfl
      have hfs161 := blk_frozen BK217.out 1
      refine skip_ (w1 := ?_) (by rfl) rfl ?_ ?_
      rotate_left
      ·go_simp
       rfl
      refine hK.out _ _ ⟨(cf NB212_217.out (cf NB212_217.out hHeld.1)), (cf NB212_217.out (cf NB212_217.out hHeld.2.1)), (cf NB212_217.out (cf NB212_217.out hHeld.2.2.1)), (cf NB208_217.out (cf NB208_217.out hHeld.2.2.2.1)), (cf NB208_217.out (cf NB208_217.out hHeld.2.2.2.2.1)), (cf NB208_217.out (cf NB208_217.out hHeld.2.2.2.2.2.1)), (cf NB210_217.out (cf NB210_217.out hHeld.2.2.2.2.2.2.1)), (cf NB210_217.out (cf NB210_217.out hHeld.2.2.2.2.2.2.2.1)), (cf NB210_217.out (cf NB210_217.out hHeld.2.2.2.2.2.2.2.2))⟩ (fun hHeld => ?_)
      clear hK K
      refine done_ (done_of HT_.out (by kernel_rfl)) ?_
      try go_wp2
      generalize hw_ : ((w159.setCell ⟨gb217, 0, none⟩ (.int .i64 (wrap64 (l - f)))).setCell ⟨gb217, 1, none⟩ (.int .i64 s)) = w162
      replace BK202 := Aside0.mk (bF hw_ (blk_far (blk_far BK202.out NB202_217.out _) NB202_217.out _))
      replace BK203 := Aside0.mk (bF hw_ (blk_far (blk_far BK203.out NB203_217.out _) NB203_217.out _))
      replace BK208 := Aside0.mk (bF hw_ (blk_far (blk_far BK208.out NB208_217.out _) NB208_217.out _))
      replace BK210 := Aside0.mk (bF hw_ (blk_far (blk_far BK210.out NB210_217.out _) NB210_217.out _))
      replace BK212 := Aside0.mk (bF hw_ (blk_far (blk_far BK212.out NB212_217.out _) NB212_217.out _))
      replace BK214 := Aside0.mk (bF hw_ (blk_far (blk_far BK214.out NB214_217.out _) NB214_217.out _))
      replace BK215 := Aside0.mk (bF hw_ (blk_far (blk_far BK215.out NB215_217.out _) NB215_217.out _))
      replace BK216 := Aside0.mk (bF hw_ (blk_far (blk_far BK216.out NB216_217.out _) NB216_217.out _))
      replace BK217 := Aside0.mk (bF hw_ (blk_put (cs' := #[.int .i64 (wrap64 (l - f)), .int .i64 s]) (blk_put BK217.out 0 _ rfl) 1 _ rfl))
      replace HB := Aside0.mk (bH hw_ (below_set (below_set HB.out GE217.out) GE217.out))
      clear hw_
      replace BK202 := Aside0.mk (blk_drew BK202.out)
      replace BK203 := Aside0.mk (blk_drew BK203.out)
      replace BK208 := Aside0.mk (blk_drew BK208.out)
      replace BK210 := Aside0.mk (blk_drew BK210.out)
      replace BK212 := Aside0.mk (blk_drew BK212.out)
      replace BK214 := Aside0.mk (blk_drew BK214.out)
      replace BK215 := Aside0.mk (blk_drew BK215.out)
      replace BK216 := Aside0.mk (blk_drew BK216.out)
      replace BK217 := Aside0.mk (blk_drew BK217.out)
      replace HB := Aside0.mk (below_drew1 HB.out)
      refine start_ (n := 13) (S := fun w' => w'.cell? ⟨gb214, i, none⟩ = some (.int .i64 u) ∧ w'.cell? ⟨gb214, i, none⟩ = some (.int .i64 u) ∧ w'.cell? ⟨gb214, i, none⟩ = some (.int .i64 u) ∧ w'.cell? ⟨gb208, i, none⟩ = some (.int .i64 f) ∧ w'.cell? ⟨gb208, i, none⟩ = some (.int .i64 f) ∧ w'.cell? ⟨gb208, i, none⟩ = some (.int .i64 f) ∧ w'.cell? ⟨gb210, i, none⟩ = some (.int .i64 s) ∧ w'.cell? ⟨gb210, i, none⟩ = some (.int .i64 s) ∧ w'.cell? ⟨gb210, i, none⟩ = some (.int .i64 s)) (ds := []) #[false, false, false, false, false, false, false, false, false, false, false, false, false] (by kernel_rfl) rfl rfl ⟨(blk_cell BK214.out i).trans e214, (blk_cell BK214.out i).trans e214, (blk_cell BK214.out i).trans e214, (blk_cell BK208.out i).trans e208, (blk_cell BK208.out i).trans e208, (blk_cell BK208.out i).trans e208, (blk_cell BK210.out i).trans e210, (blk_cell BK210.out i).trans e210, (blk_cell BK210.out i).trans e210⟩ (fun hHeld => ?_); refine with_tabW relievoref04_Range.tab18 relievoref04_Range.bits18 (fun HT_ HW_ => ?_)
      generalize w162.drew = w163 at BK202 BK203 BK208 BK210 BK212 BK214 BK215 BK216 BK217 HB hHeld ⊢
      refine pure_ (i := 0) (N := some 119) (v := ?_) (a' := ?_) #[true, false, false, false, false, false, false, false, false, false, false, false, false] rfl rfl (any_of HT_.out (by kernel_rfl)) (fun _ _ _ h => h) (Or.inl ⟨by rfl, ?_⟩) ?_ ?_
      rotate_left
      ·intro w'
       go_simp
       with_reducible rfl
      rotate_left
      ·simp only [Act.put, List.setIfInBounds_toArray, List.set_cons_zero, List.set_cons_succ, i64_w, i32_w]
       rfl
      refine pure_ (i := 1) (N := some 120) (v := ?_) (a' := ?_) #[true, true, false, false, false, false, false, false, false, false, false, false, false] rfl rfl (any_of HT_.out (by kernel_rfl)) (fun _ _ _ h => h) (Or.inl ⟨by rfl, ?_⟩) ?_ ?_
      rotate_left
      ·intro w'
       go_simp
       with_reducible rfl
      rotate_left
      ·simp only [Act.put, List.setIfInBounds_toArray, List.set_cons_zero, List.set_cons_succ, i64_w, i32_w]
       rfl
      refine pure_ (i := 3) (N := some 122) (v := ?_) (a' := ?_) #[true, true, false, true, false, false, false, false, false, false, false, false, false] rfl rfl (any_of HT_.out (by kernel_rfl)) (fun _ _ _ h => h) (Or.inl ⟨by rfl, ?_⟩) ?_ ?_
      rotate_left
      ·intro w'
       go_simp
       with_reducible rfl
      rotate_left
      ·simp only [Act.put, List.setIfInBounds_toArray, List.set_cons_zero, List.set_cons_succ, i64_w, i32_w]
       rfl
      refine pure_ (i := 4) (N := some 123) (v := ?_) (a' := ?_) #[true, true, false, true, true, false, false, false, false, false, false, false, false] rfl rfl (any_of HT_.out (by kernel_rfl)) (fun _ _ _ h => h) (Or.inl ⟨by rfl, ?_⟩) ?_ ?_
      rotate_left
      ·intro w'
       go_simp
       with_reducible rfl
      rotate_left
      ·simp only [Act.put, List.setIfInBounds_toArray, List.set_cons_zero, List.set_cons_succ, i64_w, i32_w]
       rfl
      refine pure_ (i := 7) (N := some 126) (v := ?_) (a' := ?_) #[true, true, false, true, true, false, false, true, false, false, false, false, false] rfl rfl (any_of HT_.out (by kernel_rfl)) (fun _ _ _ h => h) (Or.inl ⟨by rfl, ?_⟩) ?_ ?_
      rotate_left
      ·intro w'
       go_simp
       with_reducible rfl
      rotate_left
      ·simp only [Act.put, List.setIfInBounds_toArray, List.set_cons_zero, List.set_cons_succ, i64_w, i32_w]
       rfl
      refine pure_ (i := 8) (N := some 127) (v := ?_) (a' := ?_) #[true, true, false, true, true, false, false, true, true, false, false, false, false] rfl rfl (any_of HT_.out (by kernel_rfl)) (fun _ _ _ h => h) (Or.inl ⟨by rfl, ?_⟩) ?_ ?_
      rotate_left
      ·intro w'
       go_simp
       with_reducible rfl
      rotate_left
      ·simp only [Act.put, List.setIfInBounds_toArray, List.set_cons_zero, List.set_cons_succ, i64_w, i32_w]
       rfl
      refine take_ (i := 2) (N := some 121) (v := ?_) (a' := ?_) #[true, true, true, true, true, false, false, true, true, false, false, false, false] rfl rfl (take_ofW HT_.out HW_.out (by kernel_rfl)) (fun _ _ _ h => h) (Or.inl ⟨by rfl, ?_⟩) hHeld ?_ ?_
      rotate_left
      ·rintro w' ⟨s0, s1, s2, s3, s4, s5, s6, s7, s8⟩
       go_simp
       with_reducible rfl
      rotate_left
      ·simp only [Act.put, List.setIfInBounds_toArray, List.set_cons_zero, List.set_cons_succ, i64_w, i32_w]
       rfl
      refine take_ (i := 5) (N := some 124) (v := ?_) (a' := ?_) #[true, true, true, true, true, true, false, true, true, false, false, false, false] rfl rfl (take_ofW HT_.out HW_.out (by kernel_rfl)) (fun _ _ _ h => h) (Or.inl ⟨by rfl, ?_⟩) hHeld ?_ ?_
      rotate_left
      ·rintro w' ⟨s0, s1, s2, s3, s4, s5, s6, s7, s8⟩
       go_simp
       with_reducible rfl
      rotate_left
      ·simp only [Act.put, List.setIfInBounds_toArray, List.set_cons_zero, List.set_cons_succ, i64_w, i32_w]
       rfl
      refine pure_ (i := 6) (N := some 125) (v := ?_) (a' := ?_) #[true, true, true, true, true, true, true, true, true, false, false, false, false] rfl rfl (any_of HT_.out (by kernel_rfl)) (fun _ _ _ h => h) (Or.inl ⟨by rfl, ?_⟩) ?_ ?_
      rotate_left
      ·intro w'
       go_simp
       with_reducible rfl
      rotate_left
      ·simp only [Act.put, List.setIfInBounds_toArray, List.set_cons_zero, List.set_cons_succ, i64_w, i32_w]
       rfl
      refine take_ (i := 9) (N := some 128) (v := ?_) (a' := ?_) #[true, true, true, true, true, true, true, true, true, true, false, false, false] rfl rfl (take_ofW HT_.out HW_.out (by kernel_rfl)) (fun _ _ _ h => h) (Or.inl ⟨by rfl, ?_⟩) hHeld ?_ ?_
      rotate_left
      ·rintro w' ⟨s0, s1, s2, s3, s4, s5, s6, s7, s8⟩
       go_simp
       with_reducible rfl
      rotate_left
      ·simp only [Act.put, List.setIfInBounds_toArray, List.set_cons_zero, List.set_cons_succ, i64_w, i32_w]
       rfl
      refine pure_ (i := 10) (N := some 129) (v := ?_) (a' := ?_) #[true, true, true, true, true, true, true, true, true, true, true, false, false] rfl rfl (any_of HT_.out (by kernel_rfl)) (fun _ _ _ h => h) (Or.inl ⟨by rfl, ?_⟩) ?_ ?_
      rotate_left
      ·intro w'
       go_simp
       with_reducible rfl
      rotate_left
      ·simp only [Act.put, List.setIfInBounds_toArray, List.set_cons_zero, List.set_cons_succ, i64_w, i32_w]
       rfl
      refine one_ (i := 11) (N := some 18) #[true, true, true, true, true, true, true, true, true, true, true, true, false] rfl rfl (one_of HT_.out (by kernel_rfl)) (by decide) (fun K hK => ?_)
      refine box_step ?hg (N := 18) ?hd (cs := #[.int .i64 0, .int .i64 0]) (t := 28) ?hr ?_; (case hd => rfl); (case hg => rfl); (case hr => first | (go_simp; done) | (go_simp; rfl))
      intro gb218 hg w164 hbox hb
      have BK218 := Aside0.mk (hbox)
      have GE218 := Aside0.mk (bG hg (HB.out))
      have NB202_218 := cN hg BK202
      have NB218_202 := cM hg BK202
      have NB203_218 := cN hg BK203
      have NB218_203 := cM hg BK203
      have NB208_218 := cN hg BK208
      have NB218_208 := cM hg BK208
      have NB210_218 := cN hg BK210
      have NB218_210 := cM hg BK210
      have NB212_218 := cN hg BK212
      have NB218_212 := cM hg BK212
      have NB214_218 := cN hg BK214
      have NB218_214 := cM hg BK214
      have NB215_218 := cN hg BK215
      have NB218_215 := cM hg BK215
      have NB216_218 := cN hg BK216
      have NB218_216 := cM hg BK216
      have NB217_218 := cN hg BK217
      have NB218_217 := cM hg BK217
      replace BK202 := cB hb BK202
      replace BK203 := cB hb BK203
      replace BK208 := cB hb BK208
      replace BK210 := cB hb BK210
      replace BK212 := cB hb BK212
      replace BK214 := cB hb BK214
      replace BK215 := cB hb BK215
      replace BK216 := cB hb BK216
      replace BK217 := cB hb BK217
      replace HB := Aside0.mk (below_step (HB.out) hb)
      clear hb hbox hg
      refine hK.out _ _ ⟨(blk_cell BK214.out i).trans e214, (blk_cell BK214.out i).trans e214, (blk_cell BK214.out i).trans e214, (blk_cell BK208.out i).trans e208, (blk_cell BK208.out i).trans e208, (blk_cell BK208.out i).trans e208, (blk_cell BK210.out i).trans e210, (blk_cell BK210.out i).trans e210, (blk_cell BK210.out i).trans e210⟩ (fun hHeld => ?_)
      clear hK K
      refine norm_ (a' := ?_) ?_ ?_
      rotate_left
      ·show Act.put _ (some 18) _ = _
       simp only [Act.put, List.setIfInBounds_toArray, List.set_cons_zero, List.set_cons_succ, i64_w, i32_w]
       rfl
      refine one_ (i := 12) (N := none) #[true, true, true, true, true, true, true, true, true, true, true, true, true] rfl rfl (one_of HT_.out (by kernel_rfl)) (by decide) (fun K hK => ?_)
      have hs165 : w164.cell? ⟨gb218, 0, none⟩ = some (.int .i64 0) := (blk_cell BK218.out 0).trans rfl
      have hfs165 := blk_frozen BK218.out 0
      have hns165_0 := NB202_218.out
      have hns165_1 := NB203_218.out
      have hns165_2 := NB208_218.out
      have hns165_3 := NB210_218.out
      have hns165_4 := NB212_218.out
      have hns165_5 := NB214_218.out
      have hns165_6 := NB215_218.out
      have hns165_7 := NB216_218.out
      have hns165_8 := NB217_218.out
      have hms165_0 := NB218_202.out
      have hms165_1 := NB218_203.out
      have hms165_2 := NB218_208.out
      have hms165_3 := NB218_210.out
      have hms165_4 := NB218_212.out
      have hms165_5 := NB218_214.out
      have hms165_6 := NB218_215.out
      have hms165_7 := NB218_216.out
      have hms165_8 := NB218_217.out
      have hs166 : w164.cell? ⟨gb218, 1, none⟩ = some (.int .i64 0) := (blk_cell BK218.out 1).trans rfl
      have hfs166 := blk_frozen BK218.out 1
      refine skip_ (w1 := ?_) (by rfl) rfl ?_ ?_
      rotate_left
      ·go_simp
       rfl
      refine hK.out _ _ ⟨(cf NB214_218.out (cf NB214_218.out hHeld.1)), (cf NB214_218.out (cf NB214_218.out hHeld.2.1)), (cf NB214_218.out (cf NB214_218.out hHeld.2.2.1)), (cf NB208_218.out (cf NB208_218.out hHeld.2.2.2.1)), (cf NB208_218.out (cf NB208_218.out hHeld.2.2.2.2.1)), (cf NB208_218.out (cf NB208_218.out hHeld.2.2.2.2.2.1)), (cf NB210_218.out (cf NB210_218.out hHeld.2.2.2.2.2.2.1)), (cf NB210_218.out (cf NB210_218.out hHeld.2.2.2.2.2.2.2.1)), (cf NB210_218.out (cf NB210_218.out hHeld.2.2.2.2.2.2.2.2))⟩ (fun hHeld => ?_)
      clear hK K
      refine done_ (done_of HT_.out (by kernel_rfl)) ?_
      have hnb167 := NB210_217.out
      have hnc167 := NB217_210.out
      have hcz210_ := (blk_cell BK210.out i).trans e210
      go_upto_if 133 with (fail)
      go_cut [] (fun wc => ∃ (an ad bn bd : Int), Aside0 (((relievoref04_less.f pn pd an ad).bind fun t => (relievoref04_less.f bn bd qn qd).bind fun t' => rngL F S Lo Hi gi (i + 1) (if t = true then an else pn) (if t = true then ad else pd) (if t' = true then bn else qn) (if t' = true then bd else qd)) = some (r1, r2, r3, r4, r5, r6)) ∧ Aside0 (wc.heap[gb202]? = some (.cells #[.int .i64 0, .int .i64 0] 28 (0, 0))) ∧ Aside0 (wc.heap[gb203]? = some (.cells #[.int .i64 0, .int .i64 0] 28 (0, 0))) ∧ Aside0 (wc.heap[gb208]? = some (.cells (ar F) 88 (0, 0))) ∧ Aside0 (wc.heap[gb210]? = some (.cells (ar S) 88 (0, 0))) ∧ Aside0 (wc.heap[gb212]? = some (.cells (ar Lo) 88 (0, 0))) ∧ Aside0 (wc.heap[gb214]? = some (.cells (ar Hi) 88 (0, 0))) ∧ Aside0 (wc.heap[gb215]? = some (.cells #[.int .i64 pn, .int .i64 pd] 28 (0, 0))) ∧ Aside0 (wc.heap[gb216]? = some (.cells #[.int .i64 qn, .int .i64 qd] 28 (0, 0))) ∧ Aside0 (wc.heap[gb217]? = some (.cells #[.int .i64 an, .int .i64 ad] 28 (0, 0))) ∧ Aside0 (wc.heap[gb218]? = some (.cells #[.int .i64 bn, .int .i64 bd] 28 (0, 0))) ∧ Aside0 (Below w.heap.size w wc))
      case first =>
       generalize hw_ : ((w164.setCell ⟨gb218, 0, none⟩ (.int .i64 (wrap64 (u - f)))).setCell ⟨gb218, 1, none⟩ (.int .i64 s)) = w171
       replace BK202 := Aside0.mk (bF hw_ (blk_far (blk_far BK202.out NB202_218.out _) NB202_218.out _))
       replace BK203 := Aside0.mk (bF hw_ (blk_far (blk_far BK203.out NB203_218.out _) NB203_218.out _))
       replace BK208 := Aside0.mk (bF hw_ (blk_far (blk_far BK208.out NB208_218.out _) NB208_218.out _))
       replace BK210 := Aside0.mk (bF hw_ (blk_far (blk_far BK210.out NB210_218.out _) NB210_218.out _))
       replace BK212 := Aside0.mk (bF hw_ (blk_far (blk_far BK212.out NB212_218.out _) NB212_218.out _))
       replace BK214 := Aside0.mk (bF hw_ (blk_far (blk_far BK214.out NB214_218.out _) NB214_218.out _))
       replace BK215 := Aside0.mk (bF hw_ (blk_far (blk_far BK215.out NB215_218.out _) NB215_218.out _))
       replace BK216 := Aside0.mk (bF hw_ (blk_far (blk_far BK216.out NB216_218.out _) NB216_218.out _))
       replace BK217 := Aside0.mk (bF hw_ (blk_far (blk_far BK217.out NB217_218.out _) NB217_218.out _))
       replace BK218 := Aside0.mk (bF hw_ (blk_put (cs' := #[.int .i64 (wrap64 (u - f)), .int .i64 s]) (blk_put BK218.out 0 _ rfl) 1 _ rfl))
       replace HB := Aside0.mk (bH hw_ (below_set (below_set HB.out GE218.out) GE218.out))
       clear hw_
       have h := HX.out
       clear HX
       have cs2 := (blk_cell BK210.out i).trans e210
       by_cases b5 : s < 0
       · have d5 : decide (s < 0) = true := decide_eq_true b5
         rw [if_pos b5] at h
         have HX := Aside0.mk h
         clear h
         go_wp2
         replace BK202 := Aside0.mk (blk_drew BK202.out)
         replace BK203 := Aside0.mk (blk_drew BK203.out)
         replace BK208 := Aside0.mk (blk_drew BK208.out)
         replace BK210 := Aside0.mk (blk_drew BK210.out)
         replace BK212 := Aside0.mk (blk_drew BK212.out)
         replace BK214 := Aside0.mk (blk_drew BK214.out)
         replace BK215 := Aside0.mk (blk_drew BK215.out)
         replace BK216 := Aside0.mk (blk_drew BK216.out)
         replace BK217 := Aside0.mk (blk_drew BK217.out)
         replace BK218 := Aside0.mk (blk_drew BK218.out)
         replace HB := Aside0.mk (below_drew1 HB.out)
         refine start_ (n := 26) (S := fun w' => w'.cell? ⟨gb208, i, none⟩ = some (.int .i64 f) ∧ w'.cell? ⟨gb208, i, none⟩ = some (.int .i64 f) ∧ w'.cell? ⟨gb208, i, none⟩ = some (.int .i64 f) ∧ w'.cell? ⟨gb214, i, none⟩ = some (.int .i64 u) ∧ w'.cell? ⟨gb214, i, none⟩ = some (.int .i64 u) ∧ w'.cell? ⟨gb214, i, none⟩ = some (.int .i64 u) ∧ w'.cell? ⟨gb210, i, none⟩ = some (.int .i64 s) ∧ w'.cell? ⟨gb210, i, none⟩ = some (.int .i64 s) ∧ w'.cell? ⟨gb210, i, none⟩ = some (.int .i64 s) ∧ w'.cell? ⟨gb212, i, none⟩ = some (.int .i64 l) ∧ w'.cell? ⟨gb212, i, none⟩ = some (.int .i64 l) ∧ w'.cell? ⟨gb212, i, none⟩ = some (.int .i64 l)) (ds := []) #[false, false, false, false, false, false, false, false, false, false, false, false, false, false, false, false, false, false, false, false, false, false, false, false, false, false] (by kernel_rfl) rfl rfl ⟨(blk_cell BK208.out i).trans e208, (blk_cell BK208.out i).trans e208, (blk_cell BK208.out i).trans e208, (blk_cell BK214.out i).trans e214, (blk_cell BK214.out i).trans e214, (blk_cell BK214.out i).trans e214, (blk_cell BK210.out i).trans e210, (blk_cell BK210.out i).trans e210, (blk_cell BK210.out i).trans e210, (blk_cell BK212.out i).trans e212, (blk_cell BK212.out i).trans e212, (blk_cell BK212.out i).trans e212⟩ (fun hHeld => ?_); refine with_tabW relievoref04_Range.tab20 relievoref04_Range.bits20 (fun HT_ HW_ => ?_)
         generalize w171.drew = w172 at BK202 BK203 BK208 BK210 BK212 BK214 BK215 BK216 BK217 BK218 HB hHeld ⊢
         refine pure_ (i := 0) (N := some 134) (v := ?_) (a' := ?_) #[true, false, false, false, false, false, false, false, false, false, false, false, false, false, false, false, false, false, false, false, false, false, false, false, false, false] rfl rfl (any_of HT_.out (by kernel_rfl)) (fun _ _ _ h => h) (Or.inl ⟨by rfl, ?_⟩) ?_ ?_
         rotate_left
         ·intro w'
          go_simp
          with_reducible rfl
         rotate_left
         ·simp only [Act.put, List.setIfInBounds_toArray, List.set_cons_zero, List.set_cons_succ, i64_w, i32_w]
          rfl
         refine pure_ (i := 1) (N := some 135) (v := ?_) (a' := ?_) #[true, true, false, false, false, false, false, false, false, false, false, false, false, false, false, false, false, false, false, false, false, false, false, false, false, false] rfl rfl (any_of HT_.out (by kernel_rfl)) (fun _ _ _ h => h) (Or.inl ⟨by rfl, ?_⟩) ?_ ?_
         rotate_left
         ·intro w'
          go_simp
          with_reducible rfl
         rotate_left
         ·simp only [Act.put, List.setIfInBounds_toArray, List.set_cons_zero, List.set_cons_succ, i64_w, i32_w]
          rfl
         refine pure_ (i := 3) (N := some 137) (v := ?_) (a' := ?_) #[true, true, false, true, false, false, false, false, false, false, false, false, false, false, false, false, false, false, false, false, false, false, false, false, false, false] rfl rfl (any_of HT_.out (by kernel_rfl)) (fun _ _ _ h => h) (Or.inl ⟨by rfl, ?_⟩) ?_ ?_
         rotate_left
         ·intro w'
          go_simp
          with_reducible rfl
         rotate_left
         ·simp only [Act.put, List.setIfInBounds_toArray, List.set_cons_zero, List.set_cons_succ, i64_w, i32_w]
          rfl
         refine pure_ (i := 4) (N := some 138) (v := ?_) (a' := ?_) #[true, true, false, true, true, false, false, false, false, false, false, false, false, false, false, false, false, false, false, false, false, false, false, false, false, false] rfl rfl (any_of HT_.out (by kernel_rfl)) (fun _ _ _ h => h) (Or.inl ⟨by rfl, ?_⟩) ?_ ?_
         rotate_left
         ·intro w'
          go_simp
          with_reducible rfl
         rotate_left
         ·simp only [Act.put, List.setIfInBounds_toArray, List.set_cons_zero, List.set_cons_succ, i64_w, i32_w]
          rfl
         refine pure_ (i := 7) (N := some 141) (v := ?_) (a' := ?_) #[true, true, false, true, true, false, false, true, false, false, false, false, false, false, false, false, false, false, false, false, false, false, false, false, false, false] rfl rfl (any_of HT_.out (by kernel_rfl)) (fun _ _ _ h => h) (Or.inl ⟨by rfl, ?_⟩) ?_ ?_
         rotate_left
         ·intro w'
          go_simp
          with_reducible rfl
         rotate_left
         ·simp only [Act.put, List.setIfInBounds_toArray, List.set_cons_zero, List.set_cons_succ, i64_w, i32_w]
          rfl
         refine pure_ (i := 8) (N := some 142) (v := ?_) (a' := ?_) #[true, true, false, true, true, false, false, true, true, false, false, false, false, false, false, false, false, false, false, false, false, false, false, false, false, false] rfl rfl (any_of HT_.out (by kernel_rfl)) (fun _ _ _ h => h) (Or.inl ⟨by rfl, ?_⟩) ?_ ?_
         rotate_left
         ·intro w'
          go_simp
          with_reducible rfl
         rotate_left
         ·simp only [Act.put, List.setIfInBounds_toArray, List.set_cons_zero, List.set_cons_succ, i64_w, i32_w]
          rfl
         refine pure_ (i := 12) (N := some 146) (v := ?_) (a' := ?_) #[true, true, false, true, true, false, false, true, true, false, false, false, true, false, false, false, false, false, false, false, false, false, false, false, false, false] rfl rfl (any_of HT_.out (by kernel_rfl)) (fun _ _ _ h => h) (Or.inl ⟨by rfl, ?_⟩) ?_ ?_
         rotate_left
         ·intro w'
          go_simp
          with_reducible rfl
         rotate_left
         ·simp only [Act.put, List.setIfInBounds_toArray, List.set_cons_zero, List.set_cons_succ, i64_w, i32_w]
          rfl
         refine pure_ (i := 13) (N := some 147) (v := ?_) (a' := ?_) #[true, true, false, true, true, false, false, true, true, false, false, false, true, true, false, false, false, false, false, false, false, false, false, false, false, false] rfl rfl (any_of HT_.out (by kernel_rfl)) (fun _ _ _ h => h) (Or.inl ⟨by rfl, ?_⟩) ?_ ?_
         rotate_left
         ·intro w'
          go_simp
          with_reducible rfl
         rotate_left
         ·simp only [Act.put, List.setIfInBounds_toArray, List.set_cons_zero, List.set_cons_succ, i64_w, i32_w]
          rfl
         refine pure_ (i := 15) (N := some 149) (v := ?_) (a' := ?_) #[true, true, false, true, true, false, false, true, true, false, false, false, true, true, false, true, false, false, false, false, false, false, false, false, false, false] rfl rfl (any_of HT_.out (by kernel_rfl)) (fun _ _ _ h => h) (Or.inl ⟨by rfl, ?_⟩) ?_ ?_
         rotate_left
         ·intro w'
          go_simp
          with_reducible rfl
         rotate_left
         ·simp only [Act.put, List.setIfInBounds_toArray, List.set_cons_zero, List.set_cons_succ, i64_w, i32_w]
          rfl
         refine pure_ (i := 16) (N := some 150) (v := ?_) (a' := ?_) #[true, true, false, true, true, false, false, true, true, false, false, false, true, true, false, true, true, false, false, false, false, false, false, false, false, false] rfl rfl (any_of HT_.out (by kernel_rfl)) (fun _ _ _ h => h) (Or.inl ⟨by rfl, ?_⟩) ?_ ?_
         rotate_left
         ·intro w'
          go_simp
          with_reducible rfl
         rotate_left
         ·simp only [Act.put, List.setIfInBounds_toArray, List.set_cons_zero, List.set_cons_succ, i64_w, i32_w]
          rfl
         refine pure_ (i := 19) (N := some 153) (v := ?_) (a' := ?_) #[true, true, false, true, true, false, false, true, true, false, false, false, true, true, false, true, true, false, false, true, false, false, false, false, false, false] rfl rfl (any_of HT_.out (by kernel_rfl)) (fun _ _ _ h => h) (Or.inl ⟨by rfl, ?_⟩) ?_ ?_
         rotate_left
         ·intro w'
          go_simp
          with_reducible rfl
         rotate_left
         ·simp only [Act.put, List.setIfInBounds_toArray, List.set_cons_zero, List.set_cons_succ, i64_w, i32_w]
          rfl
         refine pure_ (i := 20) (N := some 154) (v := ?_) (a' := ?_) #[true, true, false, true, true, false, false, true, true, false, false, false, true, true, false, true, true, false, false, true, true, false, false, false, false, false] rfl rfl (any_of HT_.out (by kernel_rfl)) (fun _ _ _ h => h) (Or.inl ⟨by rfl, ?_⟩) ?_ ?_
         rotate_left
         ·intro w'
          go_simp
          with_reducible rfl
         rotate_left
         ·simp only [Act.put, List.setIfInBounds_toArray, List.set_cons_zero, List.set_cons_succ, i64_w, i32_w]
          rfl
         refine take_ (i := 2) (N := some 136) (v := ?_) (a' := ?_) #[true, true, true, true, true, false, false, true, true, false, false, false, true, true, false, true, true, false, false, true, true, false, false, false, false, false] rfl rfl (take_ofW HT_.out HW_.out (by kernel_rfl)) (fun _ _ _ h => h) (Or.inl ⟨by rfl, ?_⟩) hHeld ?_ ?_
         rotate_left
         ·rintro w' ⟨s0, s1, s2, s3, s4, s5, s6, s7, s8, s9, s10, s11⟩
          go_simp
          with_reducible rfl
         rotate_left
         ·simp only [Act.put, List.setIfInBounds_toArray, List.set_cons_zero, List.set_cons_succ, i64_w, i32_w]
          rfl
         refine take_ (i := 5) (N := some 139) (v := ?_) (a' := ?_) #[true, true, true, true, true, true, false, true, true, false, false, false, true, true, false, true, true, false, false, true, true, false, false, false, false, false] rfl rfl (take_ofW HT_.out HW_.out (by kernel_rfl)) (fun _ _ _ h => h) (Or.inl ⟨by rfl, ?_⟩) hHeld ?_ ?_
         rotate_left
         ·rintro w' ⟨s0, s1, s2, s3, s4, s5, s6, s7, s8, s9, s10, s11⟩
          go_simp
          with_reducible rfl
         rotate_left
         ·simp only [Act.put, List.setIfInBounds_toArray, List.set_cons_zero, List.set_cons_succ, i64_w, i32_w]
          rfl
         refine pure_ (i := 6) (N := some 140) (v := ?_) (a' := ?_) #[true, true, true, true, true, true, true, true, true, false, false, false, true, true, false, true, true, false, false, true, true, false, false, false, false, false] rfl rfl (any_of HT_.out (by kernel_rfl)) (fun _ _ _ h => h) (Or.inl ⟨by rfl, ?_⟩) ?_ ?_
         rotate_left
         ·intro w'
          go_simp
          with_reducible rfl
         rotate_left
         ·simp only [Act.put, List.setIfInBounds_toArray, List.set_cons_zero, List.set_cons_succ, i64_w, i32_w]
          rfl
         refine take_ (i := 9) (N := some 143) (v := ?_) (a' := ?_) #[true, true, true, true, true, true, true, true, true, true, false, false, true, true, false, true, true, false, false, true, true, false, false, false, false, false] rfl rfl (take_ofW HT_.out HW_.out (by kernel_rfl)) (fun _ _ _ h => h) (Or.inl ⟨by rfl, ?_⟩) hHeld ?_ ?_
         rotate_left
         ·rintro w' ⟨s0, s1, s2, s3, s4, s5, s6, s7, s8, s9, s10, s11⟩
          go_simp
          with_reducible rfl
         rotate_left
         ·simp only [Act.put, List.setIfInBounds_toArray, List.set_cons_zero, List.set_cons_succ, i64_w, i32_w]
          rfl
         refine pure_ (i := 10) (N := some 144) (v := ?_) (a' := ?_) #[true, true, true, true, true, true, true, true, true, true, true, false, true, true, false, true, true, false, false, true, true, false, false, false, false, false] rfl rfl (any_of HT_.out (by kernel_rfl)) (fun _ _ _ h => h) (Or.inl ⟨by rfl, ?_⟩) ?_ ?_
         rotate_left
         ·intro w'
          go_simp
          with_reducible rfl
         rotate_left
         ·simp only [Act.put, List.setIfInBounds_toArray, List.set_cons_zero, List.set_cons_succ, i64_w, i32_w]
          rfl
         refine pure_ (i := 11) (N := some 145) (v := ?_) (a' := ?_) #[true, true, true, true, true, true, true, true, true, true, true, true, true, true, false, true, true, false, false, true, true, false, false, false, false, false] rfl rfl (any_of HT_.out (by kernel_rfl)) (fun _ _ _ h => h) (Or.inl ⟨by rfl, ?_⟩) ?_ ?_
         rotate_left
         ·intro w'
          go_simp
          with_reducible rfl
         rotate_left
         ·simp only [Act.put, List.setIfInBounds_toArray, List.set_cons_zero, List.set_cons_succ, i64_w, i32_w]
          rfl
         refine take_ (i := 14) (N := some 148) (v := ?_) (a' := ?_) #[true, true, true, true, true, true, true, true, true, true, true, true, true, true, true, true, true, false, false, true, true, false, false, false, false, false] rfl rfl (take_ofW HT_.out HW_.out (by kernel_rfl)) (fun _ _ _ h => h) (Or.inl ⟨by rfl, ?_⟩) hHeld ?_ ?_
         rotate_left
         ·rintro w' ⟨s0, s1, s2, s3, s4, s5, s6, s7, s8, s9, s10, s11⟩
          go_simp
          with_reducible rfl
         rotate_left
         ·simp only [Act.put, List.setIfInBounds_toArray, List.set_cons_zero, List.set_cons_succ, i64_w, i32_w]
          rfl
         refine take_ (i := 17) (N := some 151) (v := ?_) (a' := ?_) #[true, true, true, true, true, true, true, true, true, true, true, true, true, true, true, true, true, true, false, true, true, false, false, false, false, false] rfl rfl (take_ofW HT_.out HW_.out (by kernel_rfl)) (fun _ _ _ h => h) (Or.inl ⟨by rfl, ?_⟩) hHeld ?_ ?_
         rotate_left
         ·rintro w' ⟨s0, s1, s2, s3, s4, s5, s6, s7, s8, s9, s10, s11⟩
          go_simp
          with_reducible rfl
         rotate_left
         ·simp only [Act.put, List.setIfInBounds_toArray, List.set_cons_zero, List.set_cons_succ, i64_w, i32_w]
          rfl
         refine pure_ (i := 18) (N := some 152) (v := ?_) (a' := ?_) #[true, true, true, true, true, true, true, true, true, true, true, true, true, true, true, true, true, true, true, true, true, false, false, false, false, false] rfl rfl (any_of HT_.out (by kernel_rfl)) (fun _ _ _ h => h) (Or.inl ⟨by rfl, ?_⟩) ?_ ?_
         rotate_left
         ·intro w'
          go_simp
          with_reducible rfl
         rotate_left
         ·simp only [Act.put, List.setIfInBounds_toArray, List.set_cons_zero, List.set_cons_succ, i64_w, i32_w]
          rfl
         refine take_ (i := 21) (N := some 155) (v := ?_) (a' := ?_) #[true, true, true, true, true, true, true, true, true, true, true, true, true, true, true, true, true, true, true, true, true, true, false, false, false, false] rfl rfl (take_ofW HT_.out HW_.out (by kernel_rfl)) (fun _ _ _ h => h) (Or.inl ⟨by rfl, ?_⟩) hHeld ?_ ?_
         rotate_left
         ·rintro w' ⟨s0, s1, s2, s3, s4, s5, s6, s7, s8, s9, s10, s11⟩
          go_simp
          with_reducible rfl
         rotate_left
         ·simp only [Act.put, List.setIfInBounds_toArray, List.set_cons_zero, List.set_cons_succ, i64_w, i32_w]
          rfl
         refine pure_ (i := 22) (N := some 156) (v := ?_) (a' := ?_) #[true, true, true, true, true, true, true, true, true, true, true, true, true, true, true, true, true, true, true, true, true, true, true, false, false, false] rfl rfl (any_of HT_.out (by kernel_rfl)) (fun _ _ _ h => h) (Or.inl ⟨by rfl, ?_⟩) ?_ ?_
         rotate_left
         ·intro w'
          go_simp
          with_reducible rfl
         rotate_left
         ·simp only [Act.put, List.setIfInBounds_toArray, List.set_cons_zero, List.set_cons_succ, i64_w, i32_w]
          rfl
         refine pure_ (i := 23) (N := some 157) (v := ?_) (a' := ?_) #[true, true, true, true, true, true, true, true, true, true, true, true, true, true, true, true, true, true, true, true, true, true, true, true, false, false] rfl rfl (any_of HT_.out (by kernel_rfl)) (fun _ _ _ h => h) (Or.inl ⟨by rfl, ?_⟩) ?_ ?_
         rotate_left
         ·intro w'
          go_simp
          with_reducible rfl
         rotate_left
         ·simp only [Act.put, List.setIfInBounds_toArray, List.set_cons_zero, List.set_cons_succ, i64_w, i32_w]
          rfl
         refine one_ (i := 24) (N := none) #[true, true, true, true, true, true, true, true, true, true, true, true, true, true, true, true, true, true, true, true, true, true, true, true, true, false] rfl rfl (one_of HT_.out (by kernel_rfl)) (by decide) (fun K hK => ?_)
         have hs173 : w172.cell? ⟨gb217, 0, none⟩ = some (.int .i64 (wrap64 (l - f))) := (blk_cell BK217.out 0).trans rfl
         have hfs173 := blk_frozen BK217.out 0
         have hns173_0 := NB202_217.out
         have hns173_1 := NB203_217.out
         have hns173_2 := NB208_217.out
         have hns173_3 := NB210_217.out
         have hns173_4 := NB212_217.out
         have hns173_5 := NB214_217.out
         have hns173_6 := NB215_217.out
         have hns173_7 := NB216_217.out
         have hns173_9 := NB218_217.out
         have hms173_0 := NB217_202.out
         have hms173_1 := NB217_203.out
         have hms173_2 := NB217_208.out
         have hms173_3 := NB217_210.out
         have hms173_4 := NB217_212.out
         have hms173_5 := NB217_214.out
         have hms173_6 := NB217_215.out
         have hms173_7 := NB217_216.out
         have hms173_9 := NB217_218.out
         have hs174 : w172.cell? ⟨gb217, 1, none⟩ = some (.int .i64 s) := (blk_cell BK217.out 1).trans rfl
         have hfs174 := blk_frozen BK217.out 1
         refine skip_ (w1 := ?_) (by rfl) rfl ?_ ?_
         rotate_left
         ·go_simp
          rfl
         refine hK.out _ _ ⟨(cf NB208_217.out (cf NB208_217.out hHeld.1)), (cf NB208_217.out (cf NB208_217.out hHeld.2.1)), (cf NB208_217.out (cf NB208_217.out hHeld.2.2.1)), (cf NB214_217.out (cf NB214_217.out hHeld.2.2.2.1)), (cf NB214_217.out (cf NB214_217.out hHeld.2.2.2.2.1)), (cf NB214_217.out (cf NB214_217.out hHeld.2.2.2.2.2.1)), (cf NB210_217.out (cf NB210_217.out hHeld.2.2.2.2.2.2.1)), (cf NB210_217.out (cf NB210_217.out hHeld.2.2.2.2.2.2.2.1)), (cf NB210_217.out (cf NB210_217.out hHeld.2.2.2.2.2.2.2.2.1)), (cf NB212_217.out (cf NB212_217.out hHeld.2.2.2.2.2.2.2.2.2.1)), (cf NB212_217.out (cf NB212_217.out hHeld.2.2.2.2.2.2.2.2.2.2.1)), (cf NB212_217.out (cf NB212_217.out hHeld.2.2.2.2.2.2.2.2.2.2.2))⟩ (fun hHeld => ?_)
         clear hK K
         refine one_ (i := 25) (N := none) #[true, true, true, true, true, true, true, true, true, true, true, true, true, true, true, true, true, true, true, true, true, true, true, true, true, true] rfl rfl (one_of HT_.out (by kernel_rfl)) (by decide) (fun K hK => ?_)
         have hs175 : w172.cell? ⟨gb218, 0, none⟩ = some (.int .i64 (wrap64 (u - f))) := (blk_cell BK218.out 0).trans rfl
         have hfs175 := blk_frozen BK218.out 0
         have hns175_0 := NB202_218.out
         have hns175_1 := NB203_218.out
         have hns175_2 := NB208_218.out
         have hns175_3 := NB210_218.out
         have hns175_4 := NB212_218.out
         have hns175_5 := NB214_218.out
         have hns175_6 := NB215_218.out
         have hns175_7 := NB216_218.out
         have hms175_0 := NB218_202.out
         have hms175_1 := NB218_203.out
         have hms175_2 := NB218_208.out
         have hms175_3 := NB218_210.out
         have hms175_4 := NB218_212.out
         have hms175_5 := NB218_214.out
         have hms175_6 := NB218_215.out
         have hms175_7 := NB218_216.out
         have hs176 : w172.cell? ⟨gb218, 1, none⟩ = some (.int .i64 s) := (blk_cell BK218.out 1).trans rfl
         have hfs176 := blk_frozen BK218.out 1
         refine skip_ (w1 := ?_) (by rfl) rfl ?_ ?_
         rotate_left
         ·go_simp
          rfl
         refine hK.out _ _ ⟨(cf NB208_218.out (cf NB208_218.out hHeld.1)), (cf NB208_218.out (cf NB208_218.out hHeld.2.1)), (cf NB208_218.out (cf NB208_218.out hHeld.2.2.1)), (cf NB214_218.out (cf NB214_218.out hHeld.2.2.2.1)), (cf NB214_218.out (cf NB214_218.out hHeld.2.2.2.2.1)), (cf NB214_218.out (cf NB214_218.out hHeld.2.2.2.2.2.1)), (cf NB210_218.out (cf NB210_218.out hHeld.2.2.2.2.2.2.1)), (cf NB210_218.out (cf NB210_218.out hHeld.2.2.2.2.2.2.2.1)), (cf NB210_218.out (cf NB210_218.out hHeld.2.2.2.2.2.2.2.2.1)), (cf NB212_218.out (cf NB212_218.out hHeld.2.2.2.2.2.2.2.2.2.1)), (cf NB212_218.out (cf NB212_218.out hHeld.2.2.2.2.2.2.2.2.2.2.1)), (cf NB212_218.out (cf NB212_218.out hHeld.2.2.2.2.2.2.2.2.2.2.2))⟩ (fun hHeld => ?_)
         clear hK K
         refine done_ (done_of HT_.out (by kernel_rfl)) ?_
         try go_wp2
         go_meet
         case rel => exact ⟨(wrap64 (f - u)), (wrap64 (-s)), (wrap64 (f - l)), (wrap64 (-s)), HX, ⟨(blk_far (blk_far (blk_far (blk_far BK202.out NB202_217.out _) NB202_217.out _) NB202_218.out _) NB202_218.out _)⟩, ⟨(blk_far (blk_far (blk_far (blk_far BK203.out NB203_217.out _) NB203_217.out _) NB203_218.out _) NB203_218.out _)⟩, ⟨(blk_far (blk_far (blk_far (blk_far BK208.out NB208_217.out _) NB208_217.out _) NB208_218.out _) NB208_218.out _)⟩, ⟨(blk_far (blk_far (blk_far (blk_far BK210.out NB210_217.out _) NB210_217.out _) NB210_218.out _) NB210_218.out _)⟩, ⟨(blk_far (blk_far (blk_far (blk_far BK212.out NB212_217.out _) NB212_217.out _) NB212_218.out _) NB212_218.out _)⟩, ⟨(blk_far (blk_far (blk_far (blk_far BK214.out NB214_217.out _) NB214_217.out _) NB214_218.out _) NB214_218.out _)⟩, ⟨(blk_far (blk_far (blk_far (blk_far BK215.out NB215_217.out _) NB215_217.out _) NB215_218.out _) NB215_218.out _)⟩, ⟨(blk_far (blk_far (blk_far (blk_far BK216.out NB216_217.out _) NB216_217.out _) NB216_218.out _) NB216_218.out _)⟩, ⟨(blk_far (blk_far (blk_put (cs' := #[.int .i64 (wrap64 (f - u)), .int .i64 (wrap64 (-s))]) (blk_put BK217.out 0 _ rfl) 1 _ rfl) NB217_218.out _) NB217_218.out _)⟩, ⟨(blk_put (cs' := #[.int .i64 (wrap64 (f - l)), .int .i64 (wrap64 (-s))]) (blk_put (blk_far (blk_far BK218.out NB218_217.out _) NB218_217.out _) 0 _ rfl) 1 _ rfl)⟩, ⟨(below_set (below_set (below_set (below_set HB.out GE217.out) GE217.out) GE218.out) GE218.out)⟩⟩
       · have d5 : decide (s < 0) = false := decide_eq_false b5
         rw [if_neg b5] at h
         have HX := Aside0.mk h
         clear h
         go_wp2
         go_meet
         case rel => exact ⟨wrap64 (l - f), s, wrap64 (u - f), s, HX, ⟨BK202.out⟩, ⟨BK203.out⟩, ⟨BK208.out⟩, ⟨BK210.out⟩, ⟨BK212.out⟩, ⟨BK214.out⟩, ⟨BK215.out⟩, ⟨BK216.out⟩, ⟨BK217.out⟩, ⟨BK218.out⟩, ⟨HB.out⟩⟩
      obtain ⟨an, ad, bn, bd, HX, BK202, BK203, BK208, BK210, BK212, BK214, BK215, BK216, BK217, BK218, HB⟩ := hcut
      have h := HX.out
      clear HX
      replace h := Option.bind_eq_some_iff.mp h
      obtain ⟨t, ht, h⟩ := h
      replace h := Option.bind_eq_some_iff.mp h
      obtain ⟨t', ht', h⟩ := h
      have L1 := fun w => relievoref04_less.calls pn pd an ad t w ht
      have L2 := fun w => relievoref04_less.calls bn bd qn qd t' w ht'
      clear ht ht'
      have n215_202 := NB215_202.out
      have m215_202 := NB202_215.out
      have n215_203 := NB215_203.out
      have m215_203 := NB203_215.out
      have n215_208 := NB215_208.out
      have m215_208 := NB208_215.out
      have n215_210 := NB215_210.out
      have m215_210 := NB210_215.out
      have n215_212 := NB215_212.out
      have m215_212 := NB212_215.out
      have n215_214 := NB215_214.out
      have m215_214 := NB214_215.out
      have n215_216 := NB215_216.out
      have m215_216 := NB216_215.out
      have n215_217 := NB215_217.out
      have m215_217 := NB217_215.out
      have n215_218 := NB215_218.out
      have m215_218 := NB218_215.out
      have n216_202 := NB216_202.out
      have m216_202 := NB202_216.out
      have n216_203 := NB216_203.out
      have m216_203 := NB203_216.out
      have n216_208 := NB216_208.out
      have m216_208 := NB208_216.out
      have n216_210 := NB216_210.out
      have m216_210 := NB210_216.out
      have n216_212 := NB216_212.out
      have m216_212 := NB212_216.out
      have n216_214 := NB216_214.out
      have m216_214 := NB214_216.out
      have n216_217 := NB216_217.out
      have m216_217 := NB217_216.out
      have n216_218 := NB216_218.out
      have m216_218 := NB218_216.out
      cases t
      · cases t'
        · skip
          simp only [Bool.false_eq_true, if_false, if_true] at h
          have HX := Aside0.mk h
          clear h
          obtain ⟨p0, p1⟩ := cells2 BK217.out
          obtain ⟨p2, p3⟩ := cells2 BK215.out
          obtain ⟨p4, p5⟩ := cells2 BK218.out
          obtain ⟨p6, p7⟩ := cells2 BK216.out
          have f0 := blk_frozen BK215.out 0
          have f1 := blk_frozen BK215.out 1
          have f2 := blk_frozen BK216.out 0
          have f3 := blk_frozen BK216.out 1
          go_wp2_with (first | (go_at_call 53; (with_reducible refine (L1 _).mono ?_); rintro e w60 ⟨rfl, hb⟩; replace BK202 := cB hb BK202; replace BK203 := cB hb BK203; replace BK208 := cB hb BK208; replace BK210 := cB hb BK210; replace BK212 := cB hb BK212; replace BK214 := cB hb BK214; replace BK215 := cB hb BK215; replace BK216 := cB hb BK216; replace BK217 := cB hb BK217; replace BK218 := cB hb BK218; replace HB := Aside0.mk (below_step (HB.out) hb); clear hb p0 p1 p2 p3 p4 p5 p6 p7 f0 f1 f2 f3; obtain ⟨p0, p1⟩ := cells2 BK217.out; obtain ⟨p2, p3⟩ := cells2 BK215.out; obtain ⟨p4, p5⟩ := cells2 BK218.out; obtain ⟨p6, p7⟩ := cells2 BK216.out; have f0 := blk_frozen BK215.out 0; have f1 := blk_frozen BK215.out 1; have f2 := blk_frozen BK216.out 0; have f3 := blk_frozen BK216.out 1) | (go_at_call 53; (with_reducible refine (L2 _).mono ?_); rintro e w61 ⟨rfl, hb⟩; replace BK202 := cB hb BK202; replace BK203 := cB hb BK203; replace BK208 := cB hb BK208; replace BK210 := cB hb BK210; replace BK212 := cB hb BK212; replace BK214 := cB hb BK214; replace BK215 := cB hb BK215; replace BK216 := cB hb BK216; replace BK217 := cB hb BK217; replace BK218 := cB hb BK218; replace HB := Aside0.mk (below_step (HB.out) hb); clear hb p0 p1 p2 p3 p4 p5 p6 p7 f0 f1 f2 f3; obtain ⟨p0, p1⟩ := cells2 BK217.out; obtain ⟨p2, p3⟩ := cells2 BK215.out; obtain ⟨p4, p5⟩ := cells2 BK218.out; obtain ⟨p6, p7⟩ := cells2 BK216.out; have f0 := blk_frozen BK215.out 0; have f1 := blk_frozen BK215.out 1; have f2 := blk_frozen BK216.out 0; have f3 := blk_frozen BK216.out 1))
          go_roundg gi
          case measure => exact Nat.lt_succ_self _
          case rel => exact ⟨i + 1, pn, pd, qn, qd, by simp, ⟨mer⟩, HX, ⟨BK202.out⟩, ⟨BK203.out⟩, ⟨BK208.out⟩, ⟨BK210.out⟩, ⟨BK212.out⟩, ⟨BK214.out⟩, ⟨BK215.out⟩, ⟨BK216.out⟩, ⟨HB.out⟩⟩
        · skip
          simp only [Bool.false_eq_true, if_false, if_true] at h
          have HX := Aside0.mk h
          clear h
          obtain ⟨p0, p1⟩ := cells2 BK217.out
          obtain ⟨p2, p3⟩ := cells2 BK215.out
          obtain ⟨p4, p5⟩ := cells2 BK218.out
          obtain ⟨p6, p7⟩ := cells2 BK216.out
          have f0 := blk_frozen BK215.out 0
          have f1 := blk_frozen BK215.out 1
          have f2 := blk_frozen BK216.out 0
          have f3 := blk_frozen BK216.out 1
          go_wp2_with (first | (go_at_call 53; (with_reducible refine (L1 _).mono ?_); rintro e w60 ⟨rfl, hb⟩; replace BK202 := cB hb BK202; replace BK203 := cB hb BK203; replace BK208 := cB hb BK208; replace BK210 := cB hb BK210; replace BK212 := cB hb BK212; replace BK214 := cB hb BK214; replace BK215 := cB hb BK215; replace BK216 := cB hb BK216; replace BK217 := cB hb BK217; replace BK218 := cB hb BK218; replace HB := Aside0.mk (below_step (HB.out) hb); clear hb p0 p1 p2 p3 p4 p5 p6 p7 f0 f1 f2 f3; obtain ⟨p0, p1⟩ := cells2 BK217.out; obtain ⟨p2, p3⟩ := cells2 BK215.out; obtain ⟨p4, p5⟩ := cells2 BK218.out; obtain ⟨p6, p7⟩ := cells2 BK216.out; have f0 := blk_frozen BK215.out 0; have f1 := blk_frozen BK215.out 1; have f2 := blk_frozen BK216.out 0; have f3 := blk_frozen BK216.out 1) | (go_at_call 53; (with_reducible refine (L2 _).mono ?_); rintro e w61 ⟨rfl, hb⟩; replace BK202 := cB hb BK202; replace BK203 := cB hb BK203; replace BK208 := cB hb BK208; replace BK210 := cB hb BK210; replace BK212 := cB hb BK212; replace BK214 := cB hb BK214; replace BK215 := cB hb BK215; replace BK216 := cB hb BK216; replace BK217 := cB hb BK217; replace BK218 := cB hb BK218; replace HB := Aside0.mk (below_step (HB.out) hb); clear hb p0 p1 p2 p3 p4 p5 p6 p7 f0 f1 f2 f3; obtain ⟨p0, p1⟩ := cells2 BK217.out; obtain ⟨p2, p3⟩ := cells2 BK215.out; obtain ⟨p4, p5⟩ := cells2 BK218.out; obtain ⟨p6, p7⟩ := cells2 BK216.out; have f0 := blk_frozen BK215.out 0; have f1 := blk_frozen BK215.out 1; have f2 := blk_frozen BK216.out 0; have f3 := blk_frozen BK216.out 1))
          go_roundg gi
          case measure => exact Nat.lt_succ_self _
          case rel => exact ⟨i + 1, pn, pd, bn, bd, by simp, ⟨mer⟩, HX, ⟨blk_far (blk_far BK202.out (by exact NB202_216.out) _) (by exact NB202_216.out) _⟩, ⟨blk_far (blk_far BK203.out (by exact NB203_216.out) _) (by exact NB203_216.out) _⟩, ⟨blk_far (blk_far BK208.out (by exact NB208_216.out) _) (by exact NB208_216.out) _⟩, ⟨blk_far (blk_far BK210.out (by exact NB210_216.out) _) (by exact NB210_216.out) _⟩, ⟨blk_far (blk_far BK212.out (by exact NB212_216.out) _) (by exact NB212_216.out) _⟩, ⟨blk_far (blk_far BK214.out (by exact NB214_216.out) _) (by exact NB214_216.out) _⟩, ⟨blk_far (blk_far BK215.out (by exact NB215_216.out) _) (by exact NB215_216.out) _⟩, ⟨blk_put (cs' := #[.int .i64 bn, .int .i64 bd]) (blk_put BK216.out 0 _ rfl) 1 _ rfl⟩, ⟨below_set (below_set HB.out GE216.out) GE216.out⟩⟩
      · cases t'
        · skip
          simp only [Bool.false_eq_true, if_false, if_true] at h
          have HX := Aside0.mk h
          clear h
          obtain ⟨p0, p1⟩ := cells2 BK217.out
          obtain ⟨p2, p3⟩ := cells2 BK215.out
          obtain ⟨p4, p5⟩ := cells2 BK218.out
          obtain ⟨p6, p7⟩ := cells2 BK216.out
          have f0 := blk_frozen BK215.out 0
          have f1 := blk_frozen BK215.out 1
          have f2 := blk_frozen BK216.out 0
          have f3 := blk_frozen BK216.out 1
          go_wp2_with (first | (go_at_call 53; (with_reducible refine (L1 _).mono ?_); rintro e w60 ⟨rfl, hb⟩; replace BK202 := cB hb BK202; replace BK203 := cB hb BK203; replace BK208 := cB hb BK208; replace BK210 := cB hb BK210; replace BK212 := cB hb BK212; replace BK214 := cB hb BK214; replace BK215 := cB hb BK215; replace BK216 := cB hb BK216; replace BK217 := cB hb BK217; replace BK218 := cB hb BK218; replace HB := Aside0.mk (below_step (HB.out) hb); clear hb p0 p1 p2 p3 p4 p5 p6 p7 f0 f1 f2 f3; obtain ⟨p0, p1⟩ := cells2 BK217.out; obtain ⟨p2, p3⟩ := cells2 BK215.out; obtain ⟨p4, p5⟩ := cells2 BK218.out; obtain ⟨p6, p7⟩ := cells2 BK216.out; have f0 := blk_frozen BK215.out 0; have f1 := blk_frozen BK215.out 1; have f2 := blk_frozen BK216.out 0; have f3 := blk_frozen BK216.out 1) | (go_at_call 53; (with_reducible refine (L2 _).mono ?_); rintro e w61 ⟨rfl, hb⟩; replace BK202 := cB hb ⟨blk_far (blk_far BK202.out (by exact NB202_215.out) _) (by exact NB202_215.out) _⟩; replace BK203 := cB hb ⟨blk_far (blk_far BK203.out (by exact NB203_215.out) _) (by exact NB203_215.out) _⟩; replace BK208 := cB hb ⟨blk_far (blk_far BK208.out (by exact NB208_215.out) _) (by exact NB208_215.out) _⟩; replace BK210 := cB hb ⟨blk_far (blk_far BK210.out (by exact NB210_215.out) _) (by exact NB210_215.out) _⟩; replace BK212 := cB hb ⟨blk_far (blk_far BK212.out (by exact NB212_215.out) _) (by exact NB212_215.out) _⟩; replace BK214 := cB hb ⟨blk_far (blk_far BK214.out (by exact NB214_215.out) _) (by exact NB214_215.out) _⟩; replace BK216 := cB hb ⟨blk_far (blk_far BK216.out (by exact NB216_215.out) _) (by exact NB216_215.out) _⟩; replace BK217 := cB hb ⟨blk_far (blk_far BK217.out (by exact NB217_215.out) _) (by exact NB217_215.out) _⟩; replace BK218 := cB hb ⟨blk_far (blk_far BK218.out (by exact NB218_215.out) _) (by exact NB218_215.out) _⟩; replace BK215 := cB hb ⟨blk_put (cs' := #[.int .i64 an, .int .i64 ad]) (blk_put BK215.out 0 _ rfl) 1 _ rfl⟩; replace HB := Aside0.mk (below_step (below_set (below_set HB.out GE215.out) GE215.out) hb); clear hb p0 p1 p2 p3 p4 p5 p6 p7 f0 f1 f2 f3; obtain ⟨p0, p1⟩ := cells2 BK217.out; obtain ⟨p2, p3⟩ := cells2 BK215.out; obtain ⟨p4, p5⟩ := cells2 BK218.out; obtain ⟨p6, p7⟩ := cells2 BK216.out; have f0 := blk_frozen BK215.out 0; have f1 := blk_frozen BK215.out 1; have f2 := blk_frozen BK216.out 0; have f3 := blk_frozen BK216.out 1))
          go_roundg gi
          case measure => exact Nat.lt_succ_self _
          case rel => exact ⟨i + 1, an, ad, qn, qd, by simp, ⟨mer⟩, HX, ⟨BK202.out⟩, ⟨BK203.out⟩, ⟨BK208.out⟩, ⟨BK210.out⟩, ⟨BK212.out⟩, ⟨BK214.out⟩, ⟨BK215.out⟩, ⟨BK216.out⟩, ⟨HB.out⟩⟩
        · skip
          simp only [Bool.false_eq_true, if_false, if_true] at h
          have HX := Aside0.mk h
          clear h
          obtain ⟨p0, p1⟩ := cells2 BK217.out
          obtain ⟨p2, p3⟩ := cells2 BK215.out
          obtain ⟨p4, p5⟩ := cells2 BK218.out
          obtain ⟨p6, p7⟩ := cells2 BK216.out
          have f0 := blk_frozen BK215.out 0
          have f1 := blk_frozen BK215.out 1
          have f2 := blk_frozen BK216.out 0
          have f3 := blk_frozen BK216.out 1
          go_wp2_with (first | (go_at_call 53; (with_reducible refine (L1 _).mono ?_); rintro e w60 ⟨rfl, hb⟩; replace BK202 := cB hb BK202; replace BK203 := cB hb BK203; replace BK208 := cB hb BK208; replace BK210 := cB hb BK210; replace BK212 := cB hb BK212; replace BK214 := cB hb BK214; replace BK215 := cB hb BK215; replace BK216 := cB hb BK216; replace BK217 := cB hb BK217; replace BK218 := cB hb BK218; replace HB := Aside0.mk (below_step (HB.out) hb); clear hb p0 p1 p2 p3 p4 p5 p6 p7 f0 f1 f2 f3; obtain ⟨p0, p1⟩ := cells2 BK217.out; obtain ⟨p2, p3⟩ := cells2 BK215.out; obtain ⟨p4, p5⟩ := cells2 BK218.out; obtain ⟨p6, p7⟩ := cells2 BK216.out; have f0 := blk_frozen BK215.out 0; have f1 := blk_frozen BK215.out 1; have f2 := blk_frozen BK216.out 0; have f3 := blk_frozen BK216.out 1) | (go_at_call 53; (with_reducible refine (L2 _).mono ?_); rintro e w61 ⟨rfl, hb⟩; replace BK202 := cB hb ⟨blk_far (blk_far BK202.out (by exact NB202_215.out) _) (by exact NB202_215.out) _⟩; replace BK203 := cB hb ⟨blk_far (blk_far BK203.out (by exact NB203_215.out) _) (by exact NB203_215.out) _⟩; replace BK208 := cB hb ⟨blk_far (blk_far BK208.out (by exact NB208_215.out) _) (by exact NB208_215.out) _⟩; replace BK210 := cB hb ⟨blk_far (blk_far BK210.out (by exact NB210_215.out) _) (by exact NB210_215.out) _⟩; replace BK212 := cB hb ⟨blk_far (blk_far BK212.out (by exact NB212_215.out) _) (by exact NB212_215.out) _⟩; replace BK214 := cB hb ⟨blk_far (blk_far BK214.out (by exact NB214_215.out) _) (by exact NB214_215.out) _⟩; replace BK216 := cB hb ⟨blk_far (blk_far BK216.out (by exact NB216_215.out) _) (by exact NB216_215.out) _⟩; replace BK217 := cB hb ⟨blk_far (blk_far BK217.out (by exact NB217_215.out) _) (by exact NB217_215.out) _⟩; replace BK218 := cB hb ⟨blk_far (blk_far BK218.out (by exact NB218_215.out) _) (by exact NB218_215.out) _⟩; replace BK215 := cB hb ⟨blk_put (cs' := #[.int .i64 an, .int .i64 ad]) (blk_put BK215.out 0 _ rfl) 1 _ rfl⟩; replace HB := Aside0.mk (below_step (below_set (below_set HB.out GE215.out) GE215.out) hb); clear hb p0 p1 p2 p3 p4 p5 p6 p7 f0 f1 f2 f3; obtain ⟨p0, p1⟩ := cells2 BK217.out; obtain ⟨p2, p3⟩ := cells2 BK215.out; obtain ⟨p4, p5⟩ := cells2 BK218.out; obtain ⟨p6, p7⟩ := cells2 BK216.out; have f0 := blk_frozen BK215.out 0; have f1 := blk_frozen BK215.out 1; have f2 := blk_frozen BK216.out 0; have f3 := blk_frozen BK216.out 1))
          go_roundg gi
          case measure => exact Nat.lt_succ_self _
          case rel => exact ⟨i + 1, an, ad, bn, bd, by simp, ⟨mer⟩, HX, ⟨blk_far (blk_far BK202.out (by exact NB202_216.out) _) (by exact NB202_216.out) _⟩, ⟨blk_far (blk_far BK203.out (by exact NB203_216.out) _) (by exact NB203_216.out) _⟩, ⟨blk_far (blk_far BK208.out (by exact NB208_216.out) _) (by exact NB208_216.out) _⟩, ⟨blk_far (blk_far BK210.out (by exact NB210_216.out) _) (by exact NB210_216.out) _⟩, ⟨blk_far (blk_far BK212.out (by exact NB212_216.out) _) (by exact NB212_216.out) _⟩, ⟨blk_far (blk_far BK214.out (by exact NB214_216.out) _) (by exact NB214_216.out) _⟩, ⟨blk_far (blk_far BK215.out (by exact NB215_216.out) _) (by exact NB215_216.out) _⟩, ⟨blk_put (cs' := #[.int .i64 bn, .int .i64 bd]) (blk_put BK216.out 0 _ rfl) 1 _ rfl⟩, ⟨below_set (below_set HB.out GE216.out) GE216.out⟩⟩

end Go.Proofs.Ytihklolcnfbbjaa.G
