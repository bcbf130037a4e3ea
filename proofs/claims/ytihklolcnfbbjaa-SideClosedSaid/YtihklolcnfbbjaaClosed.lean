/- What SideClosed's loop over the four triangles comes to. -/
import Derived.Test.YtihklolcnfbbjaaNumD
import Derived.Test.YtihklolcnfbbjaaGx16
namespace Go.Proofs.Ytihklolcnfbbjaa.G
open Go.RowKit Go.Proofs.NumMath Go.Proofs.YtihklolcnfbbjaaW.PrintWords Go.Proofs.YtihklolcnfbbjaaW.PrintLast Go.Proofs.YtihklolcnfbbjaaW.PrintMore
set_option linter.unusedVariables false
set_option linter.unusedSimpArgs false

def closedL (k : Nat) (o0 o1 o2 d0 d1 d2 : Int) (L : List Int) : Nat → Nat → Int → Option Bool
  | 0, _, n => some (n == 0)
  | r + 1, i, n => (side_Meet.f k o0 o1 o2 d0 d1 d2 (L.getD (i * 9) 0) (L.getD (i * 9 + 1) 0) (L.getD (i * 9 + 2) 0) (L.getD (i * 9 + 3) 0) (L.getD (i * 9 + 4) 0) (L.getD (i * 9 + 5) 0) (L.getD (i * 9 + 6) 0) (L.getD (i * 9 + 7) 0) (L.getD (i * 9 + 8) 0)).bind fun m =>
    if m.2.2.2.2.2.2 = 0 then closedL k o0 o1 o2 d0 d1 d2 L r (i + 1) (if m.2.2.2.2.2.1 = true then (if m.2.2.1 = true then wrap64 (n + 1) else wrap64 (n - 1)) else n) else some (m.2.2.2.2.2.2 == 21)
def closedT (a0_0 a0_1 a0_2 a1_0 a1_1 a1_2 a2_0 a2_1 a2_2 a3_0 a3_1 a3_2 a4_0 a4_1 a4_2 a5_0 a5_1 a5_2 : Int) : List Int := [a2_0, a2_1, a2_2, a3_0, a3_1, a3_2, a4_0, a4_1, a4_2, a2_0, a2_1, a2_2, a4_0, a4_1, a4_2, a5_0, a5_1, a5_2, a2_0, a2_1, a2_2, a5_0, a5_1, a5_2, a3_0, a3_1, a3_2, a3_0, a3_1, a3_2, a5_0, a5_1, a5_2, a4_0, a4_1, a4_2]
def relievolaw03_SideClosed.f (k : Nat) (a0_0 a0_1 a0_2 a1_0 a1_1 a1_2 a2_0 a2_1 a2_2 a3_0 a3_1 a3_2 a4_0 a4_1 a4_2 a5_0 a5_1 a5_2 : Int) : Option Bool :=
  (relievolaw03_alive.f k).bind fun t => if t = true then closedL k a0_0 a0_1 a0_2 a1_0 a1_1 a1_2 (closedT a0_0 a0_1 a0_2 a1_0 a1_1 a1_2 a2_0 a2_1 a2_2 a3_0 a3_1 a3_2 a4_0 a4_1 a4_2 a5_0 a5_1 a5_2) 4 0 0 else some false
theorem ar36_info {L : List Int} (h : L.length = 36) : (Try.prog.info? 35).map (·.size) = some (ar L).size := by
  rw [show (ar L).size = 36 by simp [ar, h]]
  kernel_rfl
theorem len9 {L : List Int} {i : Nat} (h : L.length = 36) (hi : i < 4) (j : Nat) (hj : j < 9) : i * 9 + j < L.length := by omega
def relievolaw03_SideClosed.T : Bool × List (List Nat × List Nat) := (true, [([], []), ([], []), ([], []), ([2], [2]), ([3], [3]), ([0, 1, 4], [0, 1, 4]), ([5], [5]), ([6], [6]), ([6], [6]), ([6], [6]), ([], []), ([10, 7, 5, 0, 1, 2, 3, 4, 5, 6, 7, 10], [7, 10]), ([8, 11, 0, 1, 2, 3, 4, 5, 6, 7, 8, 10, 11], [8]), ([9, 12, 0, 1, 2, 3, 4, 5, 6, 7, 8, 9, 10, 11, 12], [9])])
def relievolaw03_SideClosed.B : List Nat := [0, 0, 0, 4, 12, 31, 63, 127, 127, 127, 0, 1279, 3583, 8191]
theorem relievolaw03_SideClosed.tab : rtab .any (opsOf Try.f4 8) = relievolaw03_SideClosed.T := by kernel_rfl
theorem relievolaw03_SideClosed.bits : waitsOk relievolaw03_SideClosed.T.2 relievolaw03_SideClosed.B = true := by kernel_rfl
set_option maxHeartbeats 2000000 in
set_option maxRecDepth 100000 in
theorem relievolaw03_SideClosed.calls (k : Nat) (a0_0 a0_1 a0_2 a1_0 a1_1 a1_2 a2_0 a2_1 a2_2 a3_0 a3_1 a3_2 a4_0 a4_1 a4_2 a5_0 a5_1 a5_2 : Int) (r : Bool) (w : World) (h : relievolaw03_SideClosed.f k a0_0 a0_1 a0_2 a1_0 a1_1 a1_2 a2_0 a2_1 a2_2 a3_0 a3_1 a3_2 a4_0 a4_1 a4_2 a5_0 a5_1 a5_2 = some r) :
    Calls Try.prog 4 #[.agg #[.int .i64 a0_0, .int .i64 a0_1, .int .i64 a0_2], .agg #[.int .i64 a1_0, .int .i64 a1_1, .int .i64 a1_2], .agg #[.int .i64 a2_0, .int .i64 a2_1, .int .i64 a2_2], .agg #[.int .i64 a3_0, .int .i64 a3_1, .int .i64 a3_2], .agg #[.int .i64 a4_0, .int .i64 a4_1, .int .i64 a4_2], .agg #[.int .i64 a5_0, .int .i64 a5_1, .int .i64 a5_2]] w fun e w' => e = .returned (.bool r) ∧ Below w.heap.size w w' := by
 have hu23 := Try.underlying23
 have hu25 := Try.underlying25
 have hu35 := Try.underlying35
 have hu30 := Try.underlying30
 unfold relievolaw03_SideClosed.f at h
 replace h := Option.bind_eq_some_iff.mp h
 obtain ⟨t, ht, h⟩ := h
 have AL := fun w => relievolaw03_alive.calls k t w ht
 clear ht
 have HB := Aside0.mk (Below.refl w.heap.size w)
 cases t
 · rw [if_neg (by decide)] at h
   obtain rfl := Option.some.inj h
   clear h
   go_enter Try.func4, Try.ntmps4
   go_wp2_with (first
      | ((with_reducible refine gate_dst (N := 6) rfl ?_); refine box_event ?hg (N := 6) ?hd (cs := #[.int .i64 a0_0, .int .i64 a0_1, .int .i64 a0_2]) (t := 23) ?hr ?_; (case hd => rfl); (case hg => rfl); (case hr => first | (go_simp; done) | (go_simp; rfl)); intro g6 hg w20 hbox hb; have BK6 := Aside0.mk (hbox); have GE6 := Aside0.mk (bG hg (HB.out)); replace HB := Aside0.mk (below_step (HB.out) hb); clear hb hbox hg)
      | ((with_reducible refine gate_dst (N := 7) rfl ?_); refine box_event ?hg (N := 7) ?hd (cs := #[.int .i64 a1_0, .int .i64 a1_1, .int .i64 a1_2]) (t := 23) ?hr ?_; (case hd => rfl); (case hg => rfl); (case hr => first | (go_simp; done) | (go_simp; rfl)); intro g7 hg w21 hbox hb; have BK7 := Aside0.mk (hbox); have GE7 := Aside0.mk (bG hg (HB.out)); replace HB := Aside0.mk (below_step (HB.out) hb); replace BK6 := cB hb BK6; clear hb hbox hg)
      | ((with_reducible refine gate_dst (N := 8) rfl ?_); refine box_event ?hg (N := 8) ?hd (cs := #[.int .i64 a2_0, .int .i64 a2_1, .int .i64 a2_2]) (t := 23) ?hr ?_; (case hd => rfl); (case hg => rfl); (case hr => first | (go_simp; done) | (go_simp; rfl)); intro g8 hg w22 hbox hb; have BK8 := Aside0.mk (hbox); have GE8 := Aside0.mk (bG hg (HB.out)); replace HB := Aside0.mk (below_step (HB.out) hb); replace BK6 := cB hb BK6; replace BK7 := cB hb BK7; clear hb hbox hg)
      | ((with_reducible refine gate_dst (N := 9) rfl ?_); refine box_event ?hg (N := 9) ?hd (cs := #[.int .i64 a3_0, .int .i64 a3_1, .int .i64 a3_2]) (t := 23) ?hr ?_; (case hd => rfl); (case hg => rfl); (case hr => first | (go_simp; done) | (go_simp; rfl)); intro g9 hg w23 hbox hb; have BK9 := Aside0.mk (hbox); have GE9 := Aside0.mk (bG hg (HB.out)); replace HB := Aside0.mk (below_step (HB.out) hb); replace BK6 := cB hb BK6; replace BK7 := cB hb BK7; replace BK8 := cB hb BK8; clear hb hbox hg)
      | ((with_reducible refine gate_dst (N := 10) rfl ?_); refine box_event ?hg (N := 10) ?hd (cs := #[.int .i64 a4_0, .int .i64 a4_1, .int .i64 a4_2]) (t := 23) ?hr ?_; (case hd => rfl); (case hg => rfl); (case hr => first | (go_simp; done) | (go_simp; rfl)); intro g10 hg w24 hbox hb; have BK10 := Aside0.mk (hbox); have GE10 := Aside0.mk (bG hg (HB.out)); replace HB := Aside0.mk (below_step (HB.out) hb); replace BK6 := cB hb BK6; replace BK7 := cB hb BK7; replace BK8 := cB hb BK8; replace BK9 := cB hb BK9; clear hb hbox hg)
      | ((with_reducible refine gate_dst (N := 11) rfl ?_); refine box_event ?hg (N := 11) ?hd (cs := #[.int .i64 a5_0, .int .i64 a5_1, .int .i64 a5_2]) (t := 23) ?hr ?_; (case hd => rfl); (case hg => rfl); (case hr => first | (go_simp; done) | (go_simp; rfl)); intro g11 hg w25 hbox hb; have BK11 := Aside0.mk (hbox); have GE11 := Aside0.mk (bG hg (HB.out)); replace HB := Aside0.mk (below_step (HB.out) hb); replace BK6 := cB hb BK6; replace BK7 := cB hb BK7; replace BK8 := cB hb BK8; replace BK9 := cB hb BK9; replace BK10 := cB hb BK10; clear hb hbox hg)
      | (go_at_call 19; (with_reducible refine (AL _).mono ?_); rintro e w30 ⟨rfl, hb⟩; replace BK6 := cB hb BK6; replace BK7 := cB hb BK7; replace BK8 := cB hb BK8; replace BK9 := cB hb BK9; replace BK10 := cB hb BK10; replace BK11 := cB hb BK11; replace HB := Aside0.mk (below_step (HB.out) hb); clear hb; obtain ⟨k8_0, k8_1, k8_2⟩ := cells3 BK8.out; obtain ⟨k9_0, k9_1, k9_2⟩ := cells3 BK9.out; obtain ⟨k10_0, k10_1, k10_2⟩ := cells3 BK10.out; obtain ⟨k11_0, k11_1, k11_2⟩ := cells3 BK11.out))
   go_ret
   exact ⟨rfl, HB.out⟩
 · rw [if_pos rfl] at h
   have hL : (closedT a0_0 a0_1 a0_2 a1_0 a1_1 a1_2 a2_0 a2_1 a2_2 a3_0 a3_1 a3_2 a4_0 a4_1 a4_2 a5_0 a5_1 a5_2).length = 36 := rfl
   have HL := Aside0.mk h
   clear h
   go_enter Try.func4, Try.ntmps4
   go_wp2_with (first
      | ((with_reducible refine gate_dst (N := 6) rfl ?_); refine box_event ?hg (N := 6) ?hd (cs := #[.int .i64 a0_0, .int .i64 a0_1, .int .i64 a0_2]) (t := 23) ?hr ?_; (case hd => rfl); (case hg => rfl); (case hr => first | (go_simp; done) | (go_simp; rfl)); intro g6 hg w20 hbox hb; have BK6 := Aside0.mk (hbox); have GE6 := Aside0.mk (bG hg (HB.out)); replace HB := Aside0.mk (below_step (HB.out) hb); clear hb hbox hg)
      | ((with_reducible refine gate_dst (N := 7) rfl ?_); refine box_event ?hg (N := 7) ?hd (cs := #[.int .i64 a1_0, .int .i64 a1_1, .int .i64 a1_2]) (t := 23) ?hr ?_; (case hd => rfl); (case hg => rfl); (case hr => first | (go_simp; done) | (go_simp; rfl)); intro g7 hg w21 hbox hb; have BK7 := Aside0.mk (hbox); have GE7 := Aside0.mk (bG hg (HB.out)); replace HB := Aside0.mk (below_step (HB.out) hb); replace BK6 := cB hb BK6; clear hb hbox hg)
      | ((with_reducible refine gate_dst (N := 8) rfl ?_); refine box_event ?hg (N := 8) ?hd (cs := #[.int .i64 a2_0, .int .i64 a2_1, .int .i64 a2_2]) (t := 23) ?hr ?_; (case hd => rfl); (case hg => rfl); (case hr => first | (go_simp; done) | (go_simp; rfl)); intro g8 hg w22 hbox hb; have BK8 := Aside0.mk (hbox); have GE8 := Aside0.mk (bG hg (HB.out)); replace HB := Aside0.mk (below_step (HB.out) hb); replace BK6 := cB hb BK6; replace BK7 := cB hb BK7; clear hb hbox hg)
      | ((with_reducible refine gate_dst (N := 9) rfl ?_); refine box_event ?hg (N := 9) ?hd (cs := #[.int .i64 a3_0, .int .i64 a3_1, .int .i64 a3_2]) (t := 23) ?hr ?_; (case hd => rfl); (case hg => rfl); (case hr => first | (go_simp; done) | (go_simp; rfl)); intro g9 hg w23 hbox hb; have BK9 := Aside0.mk (hbox); have GE9 := Aside0.mk (bG hg (HB.out)); replace HB := Aside0.mk (below_step (HB.out) hb); replace BK6 := cB hb BK6; replace BK7 := cB hb BK7; replace BK8 := cB hb BK8; clear hb hbox hg)
      | ((with_reducible refine gate_dst (N := 10) rfl ?_); refine box_event ?hg (N := 10) ?hd (cs := #[.int .i64 a4_0, .int .i64 a4_1, .int .i64 a4_2]) (t := 23) ?hr ?_; (case hd => rfl); (case hg => rfl); (case hr => first | (go_simp; done) | (go_simp; rfl)); intro g10 hg w24 hbox hb; have BK10 := Aside0.mk (hbox); have GE10 := Aside0.mk (bG hg (HB.out)); replace HB := Aside0.mk (below_step (HB.out) hb); replace BK6 := cB hb BK6; replace BK7 := cB hb BK7; replace BK8 := cB hb BK8; replace BK9 := cB hb BK9; clear hb hbox hg)
      | ((with_reducible refine gate_dst (N := 11) rfl ?_); refine box_event ?hg (N := 11) ?hd (cs := #[.int .i64 a5_0, .int .i64 a5_1, .int .i64 a5_2]) (t := 23) ?hr ?_; (case hd => rfl); (case hg => rfl); (case hr => first | (go_simp; done) | (go_simp; rfl)); intro g11 hg w25 hbox hb; have BK11 := Aside0.mk (hbox); have GE11 := Aside0.mk (bG hg (HB.out)); replace HB := Aside0.mk (below_step (HB.out) hb); replace BK6 := cB hb BK6; replace BK7 := cB hb BK7; replace BK8 := cB hb BK8; replace BK9 := cB hb BK9; replace BK10 := cB hb BK10; clear hb hbox hg)
      | (go_at_call 19; (with_reducible refine (AL _).mono ?_); rintro e w30 ⟨rfl, hb⟩; replace BK6 := cB hb BK6; replace BK7 := cB hb BK7; replace BK8 := cB hb BK8; replace BK9 := cB hb BK9; replace BK10 := cB hb BK10; replace BK11 := cB hb BK11; replace HB := Aside0.mk (below_step (HB.out) hb); clear hb; obtain ⟨k8_0, k8_1, k8_2⟩ := cells3 BK8.out; obtain ⟨k9_0, k9_1, k9_2⟩ := cells3 BK9.out; obtain ⟨k10_0, k10_1, k10_2⟩ := cells3 BK10.out; obtain ⟨k11_0, k11_1, k11_2⟩ := cells3 BK11.out)
      | ((with_reducible refine gate_dst (N := 13) rfl ?_); refine box_event ?hg (N := 13) ?hd (cs := #[.int .i64 0, .int .i64 0, .int .i64 0, .int .i64 0, .int .i64 0, .int .i64 0, .int .i64 0, .int .i64 0, .int .i64 0, .int .i64 0, .int .i64 0, .int .i64 0, .int .i64 0, .int .i64 0, .int .i64 0, .int .i64 0, .int .i64 0, .int .i64 0, .int .i64 0, .int .i64 0, .int .i64 0, .int .i64 0, .int .i64 0, .int .i64 0, .int .i64 0, .int .i64 0, .int .i64 0, .int .i64 0, .int .i64 0, .int .i64 0, .int .i64 0, .int .i64 0, .int .i64 0, .int .i64 0, .int .i64 0, .int .i64 0]) (t := 35) ?hr ?_; (case hd => rfl); (case hg => rfl); (case hr => first | (go_simp; done) | (go_simp; rfl)); intro g13 hg w31 hbox hb; have BK13 := Aside0.mk (hbox); have GE13 := Aside0.mk (bG hg (HB.out)); have N613 := cN hg BK6; have N713 := cN hg BK7; replace HB := Aside0.mk (below_step (HB.out) hb); replace BK6 := cB hb BK6; replace BK7 := cB hb BK7; replace BK8 := cB hb BK8; replace BK9 := cB hb BK9; replace BK10 := cB hb BK10; replace BK11 := cB hb BK11; clear hb hbox hg)
      | ((with_reducible refine gate_store2 (t := 35) (x := .tmp 13) (y := .tmp 37) rfl ?_); refine ev_row rfl 35 (.tmp 13) (.tmp 37) rfl rfl g13 (ar (closedT a0_0 a0_1 a0_2 a1_0 a1_1 a1_2 a2_0 a2_1 a2_2 a3_0 a3_1 a3_2 a4_0 a4_1 a4_2 a5_0 a5_1 a5_2)) ?hx ?hy 35 (ar (List.replicate 36 0)) BK13.out ?hi rfl (ar_one _) HB.out GE13.out ?_; (case hx => first | (go_simp; done) | rfl); (case hy => first | rfl | (go_simp; done) | (go_simp; rfl)); (case hi => exact ar36_info hL); intro w32 hbox hb hk; replace BK13 := Aside0.mk hbox; replace HB := Aside0.mk hb; replace BK6 := Aside0.mk ((hk _ N613.out).trans BK6.out); replace BK7 := Aside0.mk ((hk _ N713.out).trans BK7.out); clear hbox hb hk))
   generalize closedT a0_0 a0_1 a0_2 a1_0 a1_1 a1_2 a2_0 a2_1 a2_2 a3_0 a3_1 a3_2 a4_0 a4_1 a4_2 a5_0 a5_1 a5_2 = L at BK13 HL hL
   go_loopg [14, 15, 16, 17, 18] 4 (fun kq v14 v15 v16 v17 v18 w' => ∃ (i : Nat) (n : Int), v15 = .int .i64 i ∧ v14 = .int .i64 n ∧ Aside0 (i + kq = 4) ∧ Aside0 (closedL k a0_0 a0_1 a0_2 a1_0 a1_1 a1_2 L kq i n = some r) ∧ Aside0 (w'.heap[g6]? = some (.cells #[.int .i64 a0_0, .int .i64 a0_1, .int .i64 a0_2] 23 (0, 0))) ∧ Aside0 (w'.heap[g7]? = some (.cells #[.int .i64 a1_0, .int .i64 a1_1, .int .i64 a1_2] 23 (0, 0))) ∧ Aside0 (w'.heap[g13]? = some (.cells (ar L) 35 (0, 0))) ∧ Aside0 (Below w.heap.size w w'))
   case atStart => exact ⟨0, 0, rfl, rfl, ⟨rfl⟩, HL, BK6, BK7, BK13, HB⟩
   case round =>
    clear BK6 BK7 BK13 HB
    obtain ⟨i, n, rfl, rfl, HI, HX, BK6, BK7, BK13, HB⟩ := hrel
    have hI := HI.out
    cases gk with
    | zero =>
     have ei : i = 4 := by omega
     subst ei
     have hx := HX.out
     rw [closedL] at hx
     obtain rfl := Option.some.inj hx
     clear hx HX
     have c1 : decide (((4 : Nat) : Int) < 4) = false := rfl
     go_wp2
     go_ret
     exact ⟨rfl, HB.out⟩
    | succ gi =>
     have hi : i < 4 := by omega
     have mer : i + 1 + gi = 4 := by omega
     have c1 : decide ((i : Int) < 4) = true := decide_eq_true (by omega)
     have i0 : (0 : Int) ≤ i := by omega
     have i1 : (i : Int) < 4 := by omega
     have h := HX.out
     rw [closedL] at h
     replace h := Option.bind_eq_some_iff.mp h
     obtain ⟨⟨m1, m2, m3, m4, m5, m6, m7⟩, hm, h⟩ := h
     have HX := Aside0.mk h
     clear h
     have MC := fun w => side_Meet.calls k _ _ _ _ _ _ _ _ _ _ _ _ _ _ _ m1 m2 m3 m4 m5 m6 m7 w hm
     clear hm hI
     try go_wp2
     replace BK6 := Aside0.mk (blk_drew BK6.out)
     replace BK7 := Aside0.mk (blk_drew BK7.out)
     replace BK13 := Aside0.mk (blk_drew BK13.out)
     replace HB := Aside0.mk (below_drew1 HB.out)
     refine start_ (n := 14) (S := fun w' => w'.cell? ⟨g6, 0, none⟩ = some (.int .i64 a0_0) ∧ w'.cell? ⟨g6, 1, none⟩ = some (.int .i64 a0_1) ∧ w'.cell? ⟨g6, 2, none⟩ = some (.int .i64 a0_2) ∧ w'.cell? ⟨g7, 0, none⟩ = some (.int .i64 a1_0) ∧ w'.cell? ⟨g7, 1, none⟩ = some (.int .i64 a1_1) ∧ w'.cell? ⟨g7, 2, none⟩ = some (.int .i64 a1_2) ∧ w'.cell? ⟨g13, i * 9, none⟩ = some (.int .i64 (L.getD (i * 9) 0)) ∧ w'.cell? ⟨g13, i * 9 + 1, none⟩ = some (.int .i64 (L.getD (i * 9 + 1) 0)) ∧ w'.cell? ⟨g13, i * 9 + 2, none⟩ = some (.int .i64 (L.getD (i * 9 + 2) 0)) ∧ w'.cell? ⟨g13, i * 9 + 3, none⟩ = some (.int .i64 (L.getD (i * 9 + 3) 0)) ∧ w'.cell? ⟨g13, i * 9 + 4, none⟩ = some (.int .i64 (L.getD (i * 9 + 4) 0)) ∧ w'.cell? ⟨g13, i * 9 + 5, none⟩ = some (.int .i64 (L.getD (i * 9 + 5) 0)) ∧ w'.cell? ⟨g13, i * 9 + 6, none⟩ = some (.int .i64 (L.getD (i * 9 + 6) 0)) ∧ w'.cell? ⟨g13, i * 9 + 7, none⟩ = some (.int .i64 (L.getD (i * 9 + 7) 0)) ∧ w'.cell? ⟨g13, i * 9 + 8, none⟩ = some (.int .i64 (L.getD (i * 9 + 8) 0))) (ds := []) #[false, false, false, false, false, false, false, false, false, false, false, false, false, false] (by kernel_rfl) rfl rfl ⟨(blk_cell BK6.out 0).trans rfl, (blk_cell BK6.out 1).trans rfl, (blk_cell BK6.out 2).trans rfl, (blk_cell BK7.out 0).trans rfl, (blk_cell BK7.out 1).trans rfl, (blk_cell BK7.out 2).trans rfl, (blk_cell BK13.out (i * 9)).trans (ar_get (len9 hL hi 0 (by decide))), (blk_cell BK13.out (i * 9 + 1)).trans (ar_get (len9 hL hi 1 (by decide))), (blk_cell BK13.out (i * 9 + 2)).trans (ar_get (len9 hL hi 2 (by decide))), (blk_cell BK13.out (i * 9 + 3)).trans (ar_get (len9 hL hi 3 (by decide))), (blk_cell BK13.out (i * 9 + 4)).trans (ar_get (len9 hL hi 4 (by decide))), (blk_cell BK13.out (i * 9 + 5)).trans (ar_get (len9 hL hi 5 (by decide))), (blk_cell BK13.out (i * 9 + 6)).trans (ar_get (len9 hL hi 6 (by decide))), (blk_cell BK13.out (i * 9 + 7)).trans (ar_get (len9 hL hi 7 (by decide))), (blk_cell BK13.out (i * 9 + 8)).trans (ar_get (len9 hL hi 8 (by decide)))⟩ (fun hHeld => ?_); refine with_tabW relievolaw03_SideClosed.tab relievolaw03_SideClosed.bits (fun HT_ HW_ => ?_)
     generalize wr.drew = w40 at BK6 BK7 BK13 HB hHeld ⊢
     refine pure_ (i := 2) (N := some 45) (v := ?_) (a' := ?_) #[false, false, true, false, false, false, false, false, false, false, false, false, false, false] rfl rfl (any_of HT_.out (by kernel_rfl)) (fun _ _ _ h => h) (Or.inl ⟨by rfl, ?_⟩) ?_ ?_
     rotate_left
     ·intro w'
      go_simp
      with_reducible rfl
     rotate_left
     ·simp only [Act.put, List.setIfInBounds_toArray, List.set_cons_zero, List.set_cons_succ, i64_w, i32_w]
      rfl
     refine pure_ (i := 3) (N := some 46) (v := ?_) (a' := ?_) #[false, false, true, true, false, false, false, false, false, false, false, false, false, false] rfl rfl (any_of HT_.out (by kernel_rfl)) (fun _ _ _ h => h) (Or.inl ⟨by rfl, ?_⟩) ?_ ?_
     rotate_left
     ·intro w'
      go_simp
      with_reducible rfl
     rotate_left
     ·simp only [Act.put, List.setIfInBounds_toArray, List.set_cons_zero, List.set_cons_succ, i64_w, i32_w]
      rfl
     refine take_ (i := 0) (N := some 43) (v := ?_) (a' := ?_) #[true, false, true, true, false, false, false, false, false, false, false, false, false, false] rfl rfl (take_ofW HT_.out HW_.out (by kernel_rfl)) (fun _ _ _ h => h) (Or.inl ⟨by rfl, ?_⟩) hHeld ?_ ?_
     rotate_left
     ·rintro w' ⟨s0, s1, s2, s3, s4, s5, s6, s7, s8, s9, s10, s11, s12, s13, s14⟩
      go_simp
      with_reducible rfl
     rotate_left
     ·simp only [Act.put, List.setIfInBounds_toArray, List.set_cons_zero, List.set_cons_succ, i64_w, i32_w]
      rfl
     refine take_ (i := 1) (N := some 44) (v := ?_) (a' := ?_) #[true, true, true, true, false, false, false, false, false, false, false, false, false, false] rfl rfl (take_ofW HT_.out HW_.out (by kernel_rfl)) (fun _ _ _ h => h) (Or.inl ⟨by rfl, ?_⟩) hHeld ?_ ?_
     rotate_left
     ·rintro w' ⟨s0, s1, s2, s3, s4, s5, s6, s7, s8, s9, s10, s11, s12, s13, s14⟩
      go_simp
      with_reducible rfl
     rotate_left
     ·simp only [Act.put, List.setIfInBounds_toArray, List.set_cons_zero, List.set_cons_succ, i64_w, i32_w]
      rfl
     refine take_ (i := 4) (N := some 47) (v := ?_) (a' := ?_) #[true, true, true, true, true, false, false, false, false, false, false, false, false, false] rfl rfl (take_ofW HT_.out HW_.out (by kernel_rfl)) (fun _ _ _ h => h) (Or.inl ⟨by rfl, ?_⟩) hHeld ?_ ?_
     rotate_left
     ·rintro w' ⟨s0, s1, s2, s3, s4, s5, s6, s7, s8, s9, s10, s11, s12, s13, s14⟩
      go_simp
      with_reducible rfl
     rotate_left
     ·simp only [Act.put, List.setIfInBounds_toArray, List.set_cons_zero, List.set_cons_succ, i64_w, i32_w]
      rfl
     refine join_ (σ := Nat) 3 #[true, true, true, true, true, true, true, true, true, true, true, false, false, false] (fun s_ => [(48, .tuple #[.agg #[.int .i64 m1, .int .i64 m2, .bool m3, .int .i64 m4, .int .i64 m5], .bool m6, .int .i64 m7]), (16, .pointer (some ⟨s_, 0, none⟩)), (42, .tuple #[.agg #[.int .i64 m1, .int .i64 m2, .bool m3, .int .i64 m4, .int .i64 m5], .bool m6, .int .i64 m7]), (49, .agg #[.int .i64 m1, .int .i64 m2, .bool m3, .int .i64 m4, .int .i64 m5]), (50, .bool m6), (51, .int .i64 m7)]) (fun s_ w' => (w'.cell? ⟨g6, 0, none⟩ = some (.int .i64 a0_0) ∧ w'.cell? ⟨g6, 1, none⟩ = some (.int .i64 a0_1) ∧ w'.cell? ⟨g6, 2, none⟩ = some (.int .i64 a0_2) ∧ w'.cell? ⟨g7, 0, none⟩ = some (.int .i64 a1_0) ∧ w'.cell? ⟨g7, 1, none⟩ = some (.int .i64 a1_1) ∧ w'.cell? ⟨g7, 2, none⟩ = some (.int .i64 a1_2) ∧ w'.cell? ⟨g13, i * 9, none⟩ = some (.int .i64 (L.getD (i * 9) 0)) ∧ w'.cell? ⟨g13, i * 9 + 1, none⟩ = some (.int .i64 (L.getD (i * 9 + 1) 0)) ∧ w'.cell? ⟨g13, i * 9 + 2, none⟩ = some (.int .i64 (L.getD (i * 9 + 2) 0)) ∧ w'.cell? ⟨g13, i * 9 + 3, none⟩ = some (.int .i64 (L.getD (i * 9 + 3) 0)) ∧ w'.cell? ⟨g13, i * 9 + 4, none⟩ = some (.int .i64 (L.getD (i * 9 + 4) 0)) ∧ w'.cell? ⟨g13, i * 9 + 5, none⟩ = some (.int .i64 (L.getD (i * 9 + 5) 0)) ∧ w'.cell? ⟨g13, i * 9 + 6, none⟩ = some (.int .i64 (L.getD (i * 9 + 6) 0)) ∧ w'.cell? ⟨g13, i * 9 + 7, none⟩ = some (.int .i64 (L.getD (i * 9 + 7) 0)) ∧ w'.cell? ⟨g13, i * 9 + 8, none⟩ = some (.int .i64 (L.getD (i * 9 + 8) 0))) ∧ (w'.heap[g6]? = some (.cells #[.int .i64 a0_0, .int .i64 a0_1, .int .i64 a0_2] 23 (0, 0))) ∧ (w'.heap[g7]? = some (.cells #[.int .i64 a1_0, .int .i64 a1_1, .int .i64 a1_2] 23 (0, 0))) ∧ (w'.heap[g13]? = some (.cells (ar L) 35 (0, 0))) ∧ (w'.heap[s_]? = some (.cells #[.int .i64 0, .int .i64 0, .bool false, .int .i64 0, .int .i64 0] 30 (0, 0))) ∧ (w.heap.size ≤ s_) ∧ (g6 ≠ s_) ∧ (s_ ≠ g6) ∧ (g7 ≠ s_) ∧ (s_ ≠ g7) ∧ (g13 ≠ s_) ∧ (s_ ≠ g13) ∧ (Below w.heap.size w w')) ?_ ?_
     rotate_left
     ·intro hCont
      refine two_ (i := 5) (j := 10) (Ni := some 48) (Nj := some 16) #[true, true, true, true, true, true, false, false, false, false, false, false, false, false] #[true, true, true, true, true, false, false, false, false, false, true, false, false, false] rfl rfl rfl rfl (two_of HT_.out (by kernel_rfl)) (by decide) (by decide) (fun K hK => ?_) (fun K hK => ?_)
      ·skip
       refine goes_ Try.func20 (by kernel_rfl) rfl #[.agg #[.int .i64 a0_0, .int .i64 a0_1, .int .i64 a0_2], .agg #[.int .i64 a1_0, .int .i64 a1_1, .int .i64 a1_2], .agg #[.int .i64 (L.getD (i * 9) 0), .int .i64 (L.getD (i * 9 + 1) 0), .int .i64 (L.getD (i * 9 + 2) 0), .int .i64 (L.getD (i * 9 + 3) 0), .int .i64 (L.getD (i * 9 + 4) 0), .int .i64 (L.getD (i * 9 + 5) 0), .int .i64 (L.getD (i * 9 + 6) 0), .int .i64 (L.getD (i * 9 + 7) 0), .int .i64 (L.getD (i * 9 + 8) 0)]] (by rfl) rfl rfl (by (try simp only [List.map_toArray, List.map_cons, List.map_nil]); first | done | rfl | (simp only [List.length_drop, List.length_take]; rfl)) ?_
       with_reducible refine (MC _).mono ?_
       rintro e w41 ⟨rfl, hb⟩
       refine ⟨_, rfl, ?_⟩
       replace BK6 := cB hb BK6
       replace BK7 := cB hb BK7
       replace BK13 := cB hb BK13
       replace HB := Aside0.mk (below_step (HB.out) hb)
       clear hb
       refine hK.out _ _ ⟨(blk_cell BK6.out 0).trans rfl, (blk_cell BK6.out 1).trans rfl, (blk_cell BK6.out 2).trans rfl, (blk_cell BK7.out 0).trans rfl, (blk_cell BK7.out 1).trans rfl, (blk_cell BK7.out 2).trans rfl, (blk_cell BK13.out (i * 9)).trans (ar_get (len9 hL hi 0 (by decide))), (blk_cell BK13.out (i * 9 + 1)).trans (ar_get (len9 hL hi 1 (by decide))), (blk_cell BK13.out (i * 9 + 2)).trans (ar_get (len9 hL hi 2 (by decide))), (blk_cell BK13.out (i * 9 + 3)).trans (ar_get (len9 hL hi 3 (by decide))), (blk_cell BK13.out (i * 9 + 4)).trans (ar_get (len9 hL hi 4 (by decide))), (blk_cell BK13.out (i * 9 + 5)).trans (ar_get (len9 hL hi 5 (by decide))), (blk_cell BK13.out (i * 9 + 6)).trans (ar_get (len9 hL hi 6 (by decide))), (blk_cell BK13.out (i * 9 + 7)).trans (ar_get (len9 hL hi 7 (by decide))), (blk_cell BK13.out (i * 9 + 8)).trans (ar_get (len9 hL hi 8 (by decide)))⟩ (fun hHeld => ?_)
       clear hK K
       refine norm_ (a' := ?_) ?_ ?_
       rotate_left
       ·show Act.put _ (some 48) _ = _
        simp only [Act.put, List.setIfInBounds_toArray, List.set_cons_zero, List.set_cons_succ, i64_w, i32_w]
        rfl
       refine pure_ (i := 6) (N := some 42) (v := ?_) (a' := ?_) #[true, true, true, true, true, true, true, false, false, false, false, false, false, false] rfl rfl (any_of HT_.out (by kernel_rfl)) (fun _ _ _ h => h) (Or.inl ⟨by rfl, ?_⟩) ?_ ?_
       rotate_left
       ·intro w'
        go_simp
        with_reducible rfl
       rotate_left
       ·simp only [Act.put, List.setIfInBounds_toArray, List.set_cons_zero, List.set_cons_succ, i64_w, i32_w]
        rfl
       refine pure_ (i := 7) (N := some 49) (v := ?_) (a' := ?_) #[true, true, true, true, true, true, true, true, false, false, false, false, false, false] rfl rfl (any_of HT_.out (by kernel_rfl)) (fun _ _ _ h => h) (Or.inl ⟨by rfl, ?_⟩) ?_ ?_
       rotate_left
       ·intro w'
        go_simp
        with_reducible rfl
       rotate_left
       ·simp only [Act.put, List.setIfInBounds_toArray, List.set_cons_zero, List.set_cons_succ, i64_w, i32_w]
        rfl
       refine pure_ (i := 8) (N := some 50) (v := ?_) (a' := ?_) #[true, true, true, true, true, true, true, true, true, false, false, false, false, false] rfl rfl (any_of HT_.out (by kernel_rfl)) (fun _ _ _ h => h) (Or.inl ⟨by rfl, ?_⟩) ?_ ?_
       rotate_left
       ·intro w'
        go_simp
        with_reducible rfl
       rotate_left
       ·simp only [Act.put, List.setIfInBounds_toArray, List.set_cons_zero, List.set_cons_succ, i64_w, i32_w]
        rfl
       refine pure_ (i := 9) (N := some 51) (v := ?_) (a' := ?_) #[true, true, true, true, true, true, true, true, true, true, false, false, false, false] rfl rfl (any_of HT_.out (by kernel_rfl)) (fun _ _ _ h => h) (Or.inl ⟨by rfl, ?_⟩) ?_ ?_
       rotate_left
       ·intro w'
        go_simp
        with_reducible rfl
       rotate_left
       ·simp only [Act.put, List.setIfInBounds_toArray, List.set_cons_zero, List.set_cons_succ, i64_w, i32_w]
        rfl
       refine one_ (i := 10) (N := some 16) #[true, true, true, true, true, true, true, true, true, true, true, false, false, false] rfl rfl (one_of HT_.out (by kernel_rfl)) (by decide) (fun K hK => ?_)
       refine box_step ?hg (N := 16) ?hd (cs := #[.int .i64 0, .int .i64 0, .bool false, .int .i64 0, .int .i64 0]) (t := 30) ?hr ?_; (case hd => rfl); (case hg => rfl); (case hr => first | (go_simp; done) | (go_simp; rfl))
       intro g16 hg w42 hbox hb
       have BK16 := Aside0.mk (hbox)
       have GE16 := Aside0.mk (bG hg (HB.out))
       have N616 := cN hg BK6
       have N166 := cM hg BK6
       have N716 := cN hg BK7
       have N167 := cM hg BK7
       have N1316 := cN hg BK13
       have N1613 := cM hg BK13
       replace BK6 := cB hb BK6
       replace BK7 := cB hb BK7
       replace BK13 := cB hb BK13
       replace HB := Aside0.mk (below_step (HB.out) hb)
       clear hb hbox hg
       refine hK.out _ _ ⟨(blk_cell BK6.out 0).trans rfl, (blk_cell BK6.out 1).trans rfl, (blk_cell BK6.out 2).trans rfl, (blk_cell BK7.out 0).trans rfl, (blk_cell BK7.out 1).trans rfl, (blk_cell BK7.out 2).trans rfl, (blk_cell BK13.out (i * 9)).trans (ar_get (len9 hL hi 0 (by decide))), (blk_cell BK13.out (i * 9 + 1)).trans (ar_get (len9 hL hi 1 (by decide))), (blk_cell BK13.out (i * 9 + 2)).trans (ar_get (len9 hL hi 2 (by decide))), (blk_cell BK13.out (i * 9 + 3)).trans (ar_get (len9 hL hi 3 (by decide))), (blk_cell BK13.out (i * 9 + 4)).trans (ar_get (len9 hL hi 4 (by decide))), (blk_cell BK13.out (i * 9 + 5)).trans (ar_get (len9 hL hi 5 (by decide))), (blk_cell BK13.out (i * 9 + 6)).trans (ar_get (len9 hL hi 6 (by decide))), (blk_cell BK13.out (i * 9 + 7)).trans (ar_get (len9 hL hi 7 (by decide))), (blk_cell BK13.out (i * 9 + 8)).trans (ar_get (len9 hL hi 8 (by decide)))⟩ (fun hHeld => ?_)
       clear hK K
       refine norm_ (a' := ?_) ?_ ?_
       rotate_left
       ·show Act.put _ (some 16) _ = _
        simp only [Act.put, List.setIfInBounds_toArray, List.set_cons_zero, List.set_cons_succ, i64_w, i32_w]
        rfl
       exact norm_ (by simp only [putAll, Act.put, List.setIfInBounds_toArray, List.set_cons_zero, List.set_cons_succ]) (hCont (g16) _ ⟨hHeld, BK6.out, BK7.out, BK13.out, BK16.out, GE16.out, N616.out, N166.out, N716.out, N167.out, N1316.out, N1613.out, HB.out⟩)
      ·skip
       refine box_step ?hg (N := 16) ?hd (cs := #[.int .i64 0, .int .i64 0, .bool false, .int .i64 0, .int .i64 0]) (t := 30) ?hr ?_; (case hd => rfl); (case hg => rfl); (case hr => first | (go_simp; done) | (go_simp; rfl))
       intro g16 hg w43 hbox hb
       have BK16 := Aside0.mk (hbox)
       have GE16 := Aside0.mk (bG hg (HB.out))
       have N616 := cN hg BK6
       have N166 := cM hg BK6
       have N716 := cN hg BK7
       have N167 := cM hg BK7
       have N1316 := cN hg BK13
       have N1613 := cM hg BK13
       replace BK6 := cB hb BK6
       replace BK7 := cB hb BK7
       replace BK13 := cB hb BK13
       replace HB := Aside0.mk (below_step (HB.out) hb)
       clear hb hbox hg
       refine hK.out _ _ ⟨(blk_cell BK6.out 0).trans rfl, (blk_cell BK6.out 1).trans rfl, (blk_cell BK6.out 2).trans rfl, (blk_cell BK7.out 0).trans rfl, (blk_cell BK7.out 1).trans rfl, (blk_cell BK7.out 2).trans rfl, (blk_cell BK13.out (i * 9)).trans (ar_get (len9 hL hi 0 (by decide))), (blk_cell BK13.out (i * 9 + 1)).trans (ar_get (len9 hL hi 1 (by decide))), (blk_cell BK13.out (i * 9 + 2)).trans (ar_get (len9 hL hi 2 (by decide))), (blk_cell BK13.out (i * 9 + 3)).trans (ar_get (len9 hL hi 3 (by decide))), (blk_cell BK13.out (i * 9 + 4)).trans (ar_get (len9 hL hi 4 (by decide))), (blk_cell BK13.out (i * 9 + 5)).trans (ar_get (len9 hL hi 5 (by decide))), (blk_cell BK13.out (i * 9 + 6)).trans (ar_get (len9 hL hi 6 (by decide))), (blk_cell BK13.out (i * 9 + 7)).trans (ar_get (len9 hL hi 7 (by decide))), (blk_cell BK13.out (i * 9 + 8)).trans (ar_get (len9 hL hi 8 (by decide)))⟩ (fun hHeld => ?_)
       clear hK K
       refine norm_ (a' := ?_) ?_ ?_
       rotate_left
       ·show Act.put _ (some 16) _ = _
        simp only [Act.put, List.setIfInBounds_toArray, List.set_cons_zero, List.set_cons_succ, i64_w, i32_w]
        rfl
       refine one_ (i := 5) (N := some 48) #[true, true, true, true, true, true, false, false, false, false, true, false, false, false] rfl rfl (one_of HT_.out (by kernel_rfl)) (by decide) (fun K hK => ?_)
       refine goes_ Try.func20 (by kernel_rfl) rfl #[.agg #[.int .i64 a0_0, .int .i64 a0_1, .int .i64 a0_2], .agg #[.int .i64 a1_0, .int .i64 a1_1, .int .i64 a1_2], .agg #[.int .i64 (L.getD (i * 9) 0), .int .i64 (L.getD (i * 9 + 1) 0), .int .i64 (L.getD (i * 9 + 2) 0), .int .i64 (L.getD (i * 9 + 3) 0), .int .i64 (L.getD (i * 9 + 4) 0), .int .i64 (L.getD (i * 9 + 5) 0), .int .i64 (L.getD (i * 9 + 6) 0), .int .i64 (L.getD (i * 9 + 7) 0), .int .i64 (L.getD (i * 9 + 8) 0)]] (by rfl) rfl rfl (by (try simp only [List.map_toArray, List.map_cons, List.map_nil]); first | done | rfl | (simp only [List.length_drop, List.length_take]; rfl)) ?_
       with_reducible refine (MC _).mono ?_
       rintro e w44 ⟨rfl, hb⟩
       refine ⟨_, rfl, ?_⟩
       replace BK6 := cB hb BK6
       replace BK7 := cB hb BK7
       replace BK13 := cB hb BK13
       replace BK16 := cB hb BK16
       replace HB := Aside0.mk (below_step (HB.out) hb)
       clear hb
       refine hK.out _ _ ⟨(blk_cell BK6.out 0).trans rfl, (blk_cell BK6.out 1).trans rfl, (blk_cell BK6.out 2).trans rfl, (blk_cell BK7.out 0).trans rfl, (blk_cell BK7.out 1).trans rfl, (blk_cell BK7.out 2).trans rfl, (blk_cell BK13.out (i * 9)).trans (ar_get (len9 hL hi 0 (by decide))), (blk_cell BK13.out (i * 9 + 1)).trans (ar_get (len9 hL hi 1 (by decide))), (blk_cell BK13.out (i * 9 + 2)).trans (ar_get (len9 hL hi 2 (by decide))), (blk_cell BK13.out (i * 9 + 3)).trans (ar_get (len9 hL hi 3 (by decide))), (blk_cell BK13.out (i * 9 + 4)).trans (ar_get (len9 hL hi 4 (by decide))), (blk_cell BK13.out (i * 9 + 5)).trans (ar_get (len9 hL hi 5 (by decide))), (blk_cell BK13.out (i * 9 + 6)).trans (ar_get (len9 hL hi 6 (by decide))), (blk_cell BK13.out (i * 9 + 7)).trans (ar_get (len9 hL hi 7 (by decide))), (blk_cell BK13.out (i * 9 + 8)).trans (ar_get (len9 hL hi 8 (by decide)))⟩ (fun hHeld => ?_)
       clear hK K
       refine norm_ (a' := ?_) ?_ ?_
       rotate_left
       ·show Act.put _ (some 48) _ = _
        simp only [Act.put, List.setIfInBounds_toArray, List.set_cons_zero, List.set_cons_succ, i64_w, i32_w]
        rfl
       refine pure_ (i := 6) (N := some 42) (v := ?_) (a' := ?_) #[true, true, true, true, true, true, true, false, false, false, true, false, false, false] rfl rfl (any_of HT_.out (by kernel_rfl)) (fun _ _ _ h => h) (Or.inl ⟨by rfl, ?_⟩) ?_ ?_
       rotate_left
       ·intro w'
        go_simp
        with_reducible rfl
       rotate_left
       ·simp only [Act.put, List.setIfInBounds_toArray, List.set_cons_zero, List.set_cons_succ, i64_w, i32_w]
        rfl
       refine pure_ (i := 7) (N := some 49) (v := ?_) (a' := ?_) #[true, true, true, true, true, true, true, true, false, false, true, false, false, false] rfl rfl (any_of HT_.out (by kernel_rfl)) (fun _ _ _ h => h) (Or.inl ⟨by rfl, ?_⟩) ?_ ?_
       rotate_left
       ·intro w'
        go_simp
        with_reducible rfl
       rotate_left
       ·simp only [Act.put, List.setIfInBounds_toArray, List.set_cons_zero, List.set_cons_succ, i64_w, i32_w]
        rfl
       refine pure_ (i := 8) (N := some 50) (v := ?_) (a' := ?_) #[true, true, true, true, true, true, true, true, true, false, true, false, false, false] rfl rfl (any_of HT_.out (by kernel_rfl)) (fun _ _ _ h => h) (Or.inl ⟨by rfl, ?_⟩) ?_ ?_
       rotate_left
       ·intro w'
        go_simp
        with_reducible rfl
       rotate_left
       ·simp only [Act.put, List.setIfInBounds_toArray, List.set_cons_zero, List.set_cons_succ, i64_w, i32_w]
        rfl
       refine pure_ (i := 9) (N := some 51) (v := ?_) (a' := ?_) #[true, true, true, true, true, true, true, true, true, true, true, false, false, false] rfl rfl (any_of HT_.out (by kernel_rfl)) (fun _ _ _ h => h) (Or.inl ⟨by rfl, ?_⟩) ?_ ?_
       rotate_left
       ·intro w'
        go_simp
        with_reducible rfl
       rotate_left
       ·simp only [Act.put, List.setIfInBounds_toArray, List.set_cons_zero, List.set_cons_succ, i64_w, i32_w]
        rfl
       exact norm_ (by simp only [putAll, Act.put, List.setIfInBounds_toArray, List.set_cons_zero, List.set_cons_succ]) (hCont (g16) _ ⟨hHeld, BK6.out, BK7.out, BK13.out, BK16.out, GE16.out, N616.out, N166.out, N716.out, N167.out, N1316.out, N1613.out, HB.out⟩)
     rintro g16 w45 ⟨hS_, h0_, h1_, h2_, h3_, h4_, h5_, h6_, h7_, h8_, h9_, h10_, h11_⟩
     clear BK6 BK7 BK13 HB hHeld
     have BK6 := Aside0.mk h0_
     have BK7 := Aside0.mk h1_
     have BK13 := Aside0.mk h2_
     have BK16 := Aside0.mk h3_
     have GE16 := Aside0.mk h4_
     have N616 := Aside0.mk h5_
     have N166 := Aside0.mk h6_
     have N716 := Aside0.mk h7_
     have N167 := Aside0.mk h8_
     have N1316 := Aside0.mk h9_
     have N1613 := Aside0.mk h10_
     have HB := Aside0.mk h11_
     clear h0_ h1_ h2_ h3_ h4_ h5_ h6_ h7_ h8_ h9_ h10_ h11_
     have hHeld : w45.cell? ⟨g6, 0, none⟩ = some (.int .i64 a0_0) ∧ w45.cell? ⟨g6, 1, none⟩ = some (.int .i64 a0_1) ∧ w45.cell? ⟨g6, 2, none⟩ = some (.int .i64 a0_2) ∧ w45.cell? ⟨g7, 0, none⟩ = some (.int .i64 a1_0) ∧ w45.cell? ⟨g7, 1, none⟩ = some (.int .i64 a1_1) ∧ w45.cell? ⟨g7, 2, none⟩ = some (.int .i64 a1_2) ∧ w45.cell? ⟨g13, i * 9, none⟩ = some (.int .i64 (L.getD (i * 9) 0)) ∧ w45.cell? ⟨g13, i * 9 + 1, none⟩ = some (.int .i64 (L.getD (i * 9 + 1) 0)) ∧ w45.cell? ⟨g13, i * 9 + 2, none⟩ = some (.int .i64 (L.getD (i * 9 + 2) 0)) ∧ w45.cell? ⟨g13, i * 9 + 3, none⟩ = some (.int .i64 (L.getD (i * 9 + 3) 0)) ∧ w45.cell? ⟨g13, i * 9 + 4, none⟩ = some (.int .i64 (L.getD (i * 9 + 4) 0)) ∧ w45.cell? ⟨g13, i * 9 + 5, none⟩ = some (.int .i64 (L.getD (i * 9 + 5) 0)) ∧ w45.cell? ⟨g13, i * 9 + 6, none⟩ = some (.int .i64 (L.getD (i * 9 + 6) 0)) ∧ w45.cell? ⟨g13, i * 9 + 7, none⟩ = some (.int .i64 (L.getD (i * 9 + 7) 0)) ∧ w45.cell? ⟨g13, i * 9 + 8, none⟩ = some (.int .i64 (L.getD (i * 9 + 8) 0)) := hS_
     clear hS_
     refine norm_ (a' := ?_) ?_ ?_
     rotate_left
     ·simp only [putAll, Act.put, List.setIfInBounds_toArray, List.set_cons_zero, List.set_cons_succ]
      rfl
     refine one_ (i := 11) (N := none) #[true, true, true, true, true, true, true, true, true, true, true, true, false, false] rfl rfl (one_of HT_.out (by kernel_rfl)) (by decide) (fun K hK => ?_)
     have hs0 : w45.cell? ⟨g16, 0, none⟩ = some (.int .i64 0) := (blk_cell BK16.out 0).trans rfl
     have hf0 := blk_frozen BK16.out 0
     have hs1 : w45.cell? ⟨g16, 1, none⟩ = some (.int .i64 0) := (blk_cell BK16.out 1).trans rfl
     have hf1 := blk_frozen BK16.out 1
     have hs2 : w45.cell? ⟨g16, 2, none⟩ = some (.bool false) := (blk_cell BK16.out 2).trans rfl
     have hf2 := blk_frozen BK16.out 2
     have hs3 : w45.cell? ⟨g16, 3, none⟩ = some (.int .i64 0) := (blk_cell BK16.out 3).trans rfl
     have hf3 := blk_frozen BK16.out 3
     have hs4 : w45.cell? ⟨g16, 4, none⟩ = some (.int .i64 0) := (blk_cell BK16.out 4).trans rfl
     have hf4 := blk_frozen BK16.out 4
     have hn0 := N616.out
     have hn1 := N166.out
     have hn2 := N716.out
     have hn3 := N167.out
     have hn4 := N1316.out
     have hn5 := N1613.out
     refine skip_ (w1 := ?_) (by rfl) rfl ?_ ?_
     rotate_left
     ·go_simp
      rfl
     refine hK.out _ _ ⟨cf N616.out (cf N616.out (cf N616.out (cf N616.out (cf N616.out hHeld.1)))), cf N616.out (cf N616.out (cf N616.out (cf N616.out (cf N616.out hHeld.2.1)))), cf N616.out (cf N616.out (cf N616.out (cf N616.out (cf N616.out hHeld.2.2.1)))), cf N716.out (cf N716.out (cf N716.out (cf N716.out (cf N716.out hHeld.2.2.2.1)))), cf N716.out (cf N716.out (cf N716.out (cf N716.out (cf N716.out hHeld.2.2.2.2.1)))), cf N716.out (cf N716.out (cf N716.out (cf N716.out (cf N716.out hHeld.2.2.2.2.2.1)))), cf N1316.out (cf N1316.out (cf N1316.out (cf N1316.out (cf N1316.out hHeld.2.2.2.2.2.2.1)))), cf N1316.out (cf N1316.out (cf N1316.out (cf N1316.out (cf N1316.out hHeld.2.2.2.2.2.2.2.1)))), cf N1316.out (cf N1316.out (cf N1316.out (cf N1316.out (cf N1316.out hHeld.2.2.2.2.2.2.2.2.1)))), cf N1316.out (cf N1316.out (cf N1316.out (cf N1316.out (cf N1316.out hHeld.2.2.2.2.2.2.2.2.2.1)))), cf N1316.out (cf N1316.out (cf N1316.out (cf N1316.out (cf N1316.out hHeld.2.2.2.2.2.2.2.2.2.2.1)))), cf N1316.out (cf N1316.out (cf N1316.out (cf N1316.out (cf N1316.out hHeld.2.2.2.2.2.2.2.2.2.2.2.1)))), cf N1316.out (cf N1316.out (cf N1316.out (cf N1316.out (cf N1316.out hHeld.2.2.2.2.2.2.2.2.2.2.2.2.1)))), cf N1316.out (cf N1316.out (cf N1316.out (cf N1316.out (cf N1316.out hHeld.2.2.2.2.2.2.2.2.2.2.2.2.2.1)))), cf N1316.out (cf N1316.out (cf N1316.out (cf N1316.out (cf N1316.out hHeld.2.2.2.2.2.2.2.2.2.2.2.2.2.2))))⟩ (fun hHeld => ?_)
     clear hK K
     refine pure_ (i := 12) (N := some 17) (v := ?_) (a' := ?_) #[true, true, true, true, true, true, true, true, true, true, true, true, true, false] rfl rfl (any_of HT_.out (by kernel_rfl)) (fun _ _ _ h => h) (Or.inl ⟨by rfl, ?_⟩) ?_ ?_
     rotate_left
     ·intro w'
      go_simp
      with_reducible rfl
     rotate_left
     ·simp only [Act.put, List.setIfInBounds_toArray, List.set_cons_zero, List.set_cons_succ, i64_w, i32_w]
      rfl
     refine pure_ (i := 13) (N := some 18) (v := ?_) (a' := ?_) #[true, true, true, true, true, true, true, true, true, true, true, true, true, true] rfl rfl (any_of HT_.out (by kernel_rfl)) (fun _ _ _ h => h) (Or.inl ⟨by rfl, ?_⟩) ?_ ?_
     rotate_left
     ·intro w'
      go_simp
      with_reducible rfl
     rotate_left
     ·simp only [Act.put, List.setIfInBounds_toArray, List.set_cons_zero, List.set_cons_succ, i64_w, i32_w]
      rfl
     refine done_ (done_of HT_.out (by kernel_rfl)) ?_
     have BK6 := Aside0.mk (blk_far (blk_far (blk_far (blk_far (blk_far BK6.out (p := ⟨g16, 0, none⟩) (by exact N616.out) (.int .i64 m1)) (p := ⟨g16, 1, none⟩) (by exact N616.out) (.int .i64 m2)) (p := ⟨g16, 2, none⟩) (by exact N616.out) (.bool m3)) (p := ⟨g16, 3, none⟩) (by exact N616.out) (.int .i64 m4)) (p := ⟨g16, 4, none⟩) (by exact N616.out) (.int .i64 m5))
     have BK7 := Aside0.mk (blk_far (blk_far (blk_far (blk_far (blk_far BK7.out (p := ⟨g16, 0, none⟩) (by exact N716.out) (.int .i64 m1)) (p := ⟨g16, 1, none⟩) (by exact N716.out) (.int .i64 m2)) (p := ⟨g16, 2, none⟩) (by exact N716.out) (.bool m3)) (p := ⟨g16, 3, none⟩) (by exact N716.out) (.int .i64 m4)) (p := ⟨g16, 4, none⟩) (by exact N716.out) (.int .i64 m5))
     have BK13 := Aside0.mk (blk_far (blk_far (blk_far (blk_far (blk_far BK13.out (p := ⟨g16, 0, none⟩) (by exact N1316.out) (.int .i64 m1)) (p := ⟨g16, 1, none⟩) (by exact N1316.out) (.int .i64 m2)) (p := ⟨g16, 2, none⟩) (by exact N1316.out) (.bool m3)) (p := ⟨g16, 3, none⟩) (by exact N1316.out) (.int .i64 m4)) (p := ⟨g16, 4, none⟩) (by exact N1316.out) (.int .i64 m5))
     have BK16 := Aside0.mk (blk_put (cs' := #[.int .i64 m1, .int .i64 m2, .bool m3, .int .i64 m4, .int .i64 m5]) (blk_put (blk_put (blk_put (blk_put BK16.out 0 (.int .i64 m1) rfl) 1 (.int .i64 m2) rfl) 2 (.bool m3) rfl) 3 (.int .i64 m4) rfl) 4 (.int .i64 m5) rfl)
     replace HB : Aside0 (Below w.heap.size w (((((w45.setCell ⟨g16, 0, none⟩ (.int .i64 m1)).setCell ⟨g16, 1, none⟩ (.int .i64 m2)).setCell ⟨g16, 2, none⟩ (.bool m3)).setCell ⟨g16, 3, none⟩ (.int .i64 m4)).setCell ⟨g16, 4, none⟩ (.int .i64 m5))) := ⟨below_set (below_set (below_set (below_set (below_set HB.out GE16.out) GE16.out) GE16.out) GE16.out) GE16.out⟩
     have q2 := blk_cell BK16.out 2
     have h := HX.out
     clear HX hHeld
     try dsimp only at h
     by_cases e0 : m7 = 0
     · subst e0
       rw [if_pos rfl] at h
       cases m6
       · simp only [Bool.false_eq_true, if_false] at h
         have HX := Aside0.mk h
         clear h
         go_wp2
         go_roundg gi
         case measure => exact Nat.lt_succ_self _
         case rel => exact ⟨i + 1, _, rfl, rfl, ⟨mer⟩, HX, ⟨BK6.out⟩, ⟨BK7.out⟩, ⟨BK13.out⟩, ⟨HB.out⟩⟩
       · simp only [if_true] at h
         cases m3
         · simp only [Bool.false_eq_true, if_false] at h
           have HX := Aside0.mk h
           clear h
           go_wp2
           go_roundg gi
           case measure => exact Nat.lt_succ_self _
           case rel => exact ⟨i + 1, _, rfl, rfl, ⟨mer⟩, HX, ⟨BK6.out⟩, ⟨BK7.out⟩, ⟨BK13.out⟩, ⟨HB.out⟩⟩
         · simp only [if_true] at h
           have HX := Aside0.mk h
           clear h
           go_wp2
           go_roundg gi
           case measure => exact Nat.lt_succ_self _
           case rel => exact ⟨i + 1, _, rfl, rfl, ⟨mer⟩, HX, ⟨BK6.out⟩, ⟨BK7.out⟩, ⟨BK13.out⟩, ⟨HB.out⟩⟩
     · rw [if_neg e0] at h
       obtain rfl := Option.some.inj h
       clear h
       have c2 : (m7 == 0) = false := beq_eq_false_iff_ne.2 e0
       have c3 : (m7 != 0) = true := bne_iff_ne.2 e0
       go_wp2
       go_ret
       exact ⟨rfl, HB.out⟩
end Go.Proofs.Ytihklolcnfbbjaa.G
