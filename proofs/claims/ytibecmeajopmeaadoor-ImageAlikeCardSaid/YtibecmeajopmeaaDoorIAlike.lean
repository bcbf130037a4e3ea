/- The walk of ImageAlike. -/
import Derived.Test.YtibecmeajopmeaaDoorIAlikeP
namespace Go.Proofs.YtibecmeajopmeaaDoor.G
open Go.RowKit Go.Proofs.YtibecmeajopmeaaDoorW.PrintWords Go.Proofs.YtibecmeajopmeaaDoorW.PrintLast Go.Proofs.YtibecmeajopmeaaDoorW.PrintMore
set_option linter.unusedVariables false
set_option linter.unusedSimpArgs false
attribute [local go_sem] i64_and15
set_option maxHeartbeats 4000000 in
set_option maxRecDepth 100000 in
theorem alikeYes.calls (c : Col) (times : Int) (w : World) (hP : Pow w) (ht : I64 times) (hc : okC c = true) :
    Calls Tryd.prog 5 #[.agg #[.int .i64 c.r, .int .i64 c.g, .int .i64 c.b], .int .i64 times] w fun e w' => e = .returned (.bool true) ∧ Below w.heap.size w w' := by
  have hu33 := Tryd.underlying33
  have HB := Aside0.mk (Below.refl w.heap.size w)
  have HP := Aside0.mk hP
  have HT := Aside0.mk ht
  have g21 : goodB 2 1 = true := by decide
  have G21 := Aside0.mk g21
  have hcc := okC_no hc
  have d1 : decide (c.r ≥ 0) = true := decide_eq_true (by omega)
  have d2 : decide (c.r ≤ 255) = true := decide_eq_true (by omega)
  have d3 : decide (c.g ≥ 0) = true := decide_eq_true (by omega)
  have d4 : decide (c.g ≤ 255) = true := decide_eq_true (by omega)
  have d5 : decide (c.b ≥ 0) = true := decide_eq_true (by omega)
  have d6 : decide (c.b ≤ 255) = true := decide_eq_true (by omega)
  have HC := Aside0.mk hc
  clear hc hcc
  clear hP ht g21
  go_enter Tryd.func5, Tryd.ntmps5
  go_wp2_with (first
   | ((with_reducible refine gate_dst (N := 2) rfl ?_); refine box_event ?hg (N := 2) ?hd (cs := #[.int .i64 c.r, .int .i64 c.g, .int .i64 c.b]) (t := 33) ?hr ?_; (case hd => rfl); (case hg => rfl); (case hr => first | (go_simp; done) | (go_simp; rfl)); intro g2 hg w1 hbox hb; have BK2 := Aside0.mk hbox; have GE2 := Aside0.mk (bG hg HB.out); replace HB := Aside0.mk (below_step HB.out hb); clear hg hbox hb)
   | (go_at_call 7; (with_reducible refine (alive.calls _ (HP.out.on HB.out)).mono ?_); rintro e w2 ⟨rfl, hb⟩; replace BK2 := Aside0.mk (blk_below BK2.out hb); replace HB := Aside0.mk (below_step HB.out hb); clear hb)
   | (go_at_call 8; (with_reducible refine (newOk.calls 2 1 _ G21.out).mono ?_); rintro e w3 ⟨a, mb, rfl, hi, ha, hm, hb⟩; have IM := Aside0.mk hi; have GM := Aside0.mk (Nat.le_trans HB.out.size hm); have NB := Aside0.mk (Nat.ne_of_lt (Nat.lt_of_lt_of_le (blk_lt BK2.out) hm)); replace BK2 := Aside0.mk (blk_below BK2.out hb); replace HB := Aside0.mk (below_step HB.out hb); have y0 : w3.cell? ⟨g2, 0, none⟩ = some (.int .i64 c.r) := (blk_cell BK2.out 0).trans rfl; have y1 : w3.cell? ⟨g2, 1, none⟩ = some (.int .i64 c.g) := (blk_cell BK2.out 1).trans rfl; have y2 : w3.cell? ⟨g2, 2, none⟩ = some (.int .i64 c.b) := (blk_cell BK2.out 2).trans rfl; clear hi ha hm hb))
  obtain ⟨T, hT⟩ : ∃ T : Nat, (T : Int) = times % 16 + 1 := ⟨(times % 16 + 1).toNat, by omega⟩
  have HTT := Aside0.mk hT
  have t0 : 0 ≤ times % 16 := by omega
  have t1 : times % 16 ≤ 15 := by omega
  clear y0 y1 y2 hT
  go_loopg [8] T (fun kq v8 w' => ∃ j : Nat, v8 = .int .i64 j ∧ ∃ W, W = w' ∧ Aside0 (j + kq = T) ∧ Aside0 (Img W a mb j 2 1 (manyM c j)) ∧ Aside0 (W.heap[g2]? = some (.cells #[.int .i64 c.r, .int .i64 c.g, .int .i64 c.b] 33 (0, 0))) ∧ Aside0 (Below w.heap.size w W))
  case atStart => exact ⟨0, rfl, _, rfl, ⟨by omega⟩, IM, BK2, HB⟩
  case round =>
    clear IM BK2 HB
    obtain ⟨j, rfl, W, rfl, HJ, IM, BK2, HB⟩ := hrel
    have hj := HJ.out
    have htt := HTT.out
    by_cases hlt : j < T
    · have e1 : decide ((j : Int) ≤ times % 16) = true := decide_eq_true (by omega)
      have j16 : j ≤ 15 := by omega
      have y0 : W.cell? ⟨g2, 0, none⟩ = some (.int .i64 c.r) := (blk_cell BK2.out 0).trans rfl
      have y1 : W.cell? ⟨g2, 1, none⟩ = some (.int .i64 c.g) := (blk_cell BK2.out 1).trans rfl
      have y2 : W.cell? ⟨g2, 2, none⟩ = some (.int .i64 c.b) := (blk_cell BK2.out 2).trans rfl
      have AC := add1.calls c j W IM.out (by omega) 0 (many_e_yes HC.out (by omega))
      clear htt
      cases gk with
      | zero => omega
      | succ k1 =>
      go_wp2_with (go_at_call 9; (with_reducible refine AC.mono ?_); rintro e w4 ⟨rfl, hi, hq⟩; replace IM := Aside0.mk hi; replace BK2 := Aside0.mk ((hq.kept _ (blk_lt BK2.out) NB.out).trans BK2.out); replace HB := Aside0.mk (HB.out.trans (hq.below _ GM.out HB.out.size)); clear hi hq)
      go_roundg k1
      case measure => omega
      case rel => exact ⟨j + 1, by simp, _, rfl, ⟨by omega⟩, IM, BK2, HB⟩
    · have e1 : decide ((j : Int) ≤ times % 16) = false := decide_eq_false (by omega)
      have j1 : 1 ≤ j := by omega
      have j2 : j ≤ 16 := by omega
      have q1 := many_col HC.out j1 j2
      have q2 := (by rw [(many_yes HC.out j j2).2]; exact zero_col : colR (manyM c j 0 0) = 0 ∧ colG (manyM c j 0 0) = 0 ∧ colB (manyM c j 0 0) = 0)
      have Q1 := Aside0.mk q1
      have Q2 := Aside0.mk q2
      have cs1 := col_same c.r c.g c.b
      have cs2 := col_same 0 0 0
      clear q1 q2 htt
      go_wp2_with (first
       | (go_at_call 11; (with_reducible refine (at1.calls 1 (by omega) _ IM.out _ _ _ Q1.out).mono ?_); rintro e w5 ⟨rfl, hb⟩; replace IM := Aside0.mk (IM.out.below hb); replace BK2 := Aside0.mk (blk_below BK2.out hb); replace HB := Aside0.mk (below_step HB.out hb); clear hb)
       | (go_at_call 11; (with_reducible refine (at1.calls 0 (by omega) _ IM.out _ _ _ Q2.out).mono ?_); rintro e w6 ⟨rfl, hb⟩; replace IM := Aside0.mk (IM.out.below hb); replace BK2 := Aside0.mk (blk_below BK2.out hb); replace BK10 := Aside0.mk (blk_below BK10.out hb); replace HB := Aside0.mk (below_step HB.out hb); clear hb)
       | ((with_reducible refine gate_dst (N := 10) rfl ?_); refine box_event ?hg (N := 10) ?hd (cs := #[.int .i64 0, .int .i64 0, .int .i64 0]) (t := 33) ?hr ?_; (case hd => rfl); (case hg => rfl); (case hr => first | (go_simp; done) | (go_simp; rfl)); intro g10 hg w7 hbox hb; have BK10 := Aside0.mk hbox; have GE10 := Aside0.mk (bG hg HB.out); replace IM := Aside0.mk (IM.out.below hb); have NE2_10 := cN hg BK2; replace BK2 := cB hb BK2; replace HB := Aside0.mk (below_step HB.out hb); clear hg hbox hb)
       | ((with_reducible refine gate_store2 (t := 33) (x := .tmp 10) (y := .tmp 79) rfl ?_); refine ev_row (B := w.heap.size) (w0 := w) rfl 33 (.tmp 10) (.tmp 79) rfl rfl g10 #[.int .i64 c.r, .int .i64 c.g, .int .i64 c.b] ?hx ?hy 33 _ BK10.out (by kernel_rfl) rfl (by simp [Value.oneCell']) HB.out GE10.out ?_; (case hx => first | (go_simp; done) | rfl); (case hy => first | (go_simp; done) | rfl | (go_simp; rfl)); intro w8 hbox hb hk; replace BK2 := Aside0.mk ((hk _ NE2_10.out).trans BK2.out); replace IM := Aside0.mk (IM.out.but33 BK10.out hk); replace BK10 := Aside0.mk hbox; replace HB := Aside0.mk hb; clear hbox hb hk)
       | ((with_reducible refine gate_dst (N := 12) rfl ?_); refine box_event ?hg (N := 12) ?hd (cs := #[.int .i64 0, .int .i64 0, .int .i64 0]) (t := 33) ?hr ?_; (case hd => rfl); (case hg => rfl); (case hr => first | (go_simp; done) | (go_simp; rfl)); intro g12 hg w10 hbox hb; have BK12 := Aside0.mk hbox; have GE12 := Aside0.mk (bG hg HB.out); replace IM := Aside0.mk (IM.out.below hb); have NE2_12 := cN hg BK2; replace BK2 := cB hb BK2; have NE10_12 := cN hg BK10; replace BK10 := cB hb BK10; replace HB := Aside0.mk (below_step HB.out hb); clear hg hbox hb)
       | ((with_reducible refine gate_store2 (t := 33) (x := .tmp 12) (y := .tmp 84) rfl ?_); refine ev_row (B := w.heap.size) (w0 := w) rfl 33 (.tmp 12) (.tmp 84) rfl rfl g12 #[.int .i64 0, .int .i64 0, .int .i64 0] ?hx ?hy 33 _ BK12.out (by kernel_rfl) rfl (by simp [Value.oneCell']) HB.out GE12.out ?_; (case hx => first | (go_simp; done) | rfl); (case hy => first | (go_simp; done) | rfl | (go_simp; rfl)); intro w11 hbox hb hk; replace BK2 := Aside0.mk ((hk _ NE2_12.out).trans BK2.out); replace BK10 := Aside0.mk ((hk _ NE10_12.out).trans BK10.out); replace IM := Aside0.mk (IM.out.but33 BK12.out hk); replace BK12 := Aside0.mk hbox; replace HB := Aside0.mk hb; have z10_0 : w11.cell? ⟨g10, 0, none⟩ = some (.int .i64 c.r) := (blk_cell BK10.out 0).trans rfl; have z10_1 : w11.cell? ⟨g10, 1, none⟩ = some (.int .i64 c.g) := (blk_cell BK10.out 1).trans rfl; have z10_2 : w11.cell? ⟨g10, 2, none⟩ = some (.int .i64 c.b) := (blk_cell BK10.out 2).trans rfl; have z2_0 : w11.cell? ⟨g2, 0, none⟩ = some (.int .i64 c.r) := (blk_cell BK2.out 0).trans rfl; have z2_1 : w11.cell? ⟨g2, 1, none⟩ = some (.int .i64 c.g) := (blk_cell BK2.out 1).trans rfl; have z2_2 : w11.cell? ⟨g2, 2, none⟩ = some (.int .i64 c.b) := (blk_cell BK2.out 2).trans rfl; have z12_0 : w11.cell? ⟨g12, 0, none⟩ = some (.int .i64 0) := (blk_cell BK12.out 0).trans rfl; have z12_1 : w11.cell? ⟨g12, 1, none⟩ = some (.int .i64 0) := (blk_cell BK12.out 1).trans rfl; have z12_2 : w11.cell? ⟨g12, 2, none⟩ = some (.int .i64 0) := (blk_cell BK12.out 2).trans rfl; clear hbox hb hk))
      go_ret
      exact ⟨rfl, HB.out⟩
set_option maxHeartbeats 4000000 in
set_option maxRecDepth 100000 in
theorem alikeNo0.calls (c : Col) (times : Int) (w : World) (hP : Pow w) (ht : I64 times) (hc : okC c = false)  (h0 : ¬ c.r ≥ 0) :
    Calls Tryd.prog 5 #[.agg #[.int .i64 c.r, .int .i64 c.g, .int .i64 c.b], .int .i64 times] w fun e w' => e = .returned (.bool true) ∧ Below w.heap.size w w' := by
  have hu33 := Tryd.underlying33
  have HB := Aside0.mk (Below.refl w.heap.size w)
  have HP := Aside0.mk hP
  have HT := Aside0.mk ht
  have g21 : goodB 2 1 = true := by decide
  have G21 := Aside0.mk g21
  have d0 : decide (c.r ≥ 0) = false := decide_eq_false h0
  have HC := Aside0.mk hc
  clear hc h0
  clear hP ht g21
  go_enter Tryd.func5, Tryd.ntmps5
  go_wp2_with (first
   | ((with_reducible refine gate_dst (N := 2) rfl ?_); refine box_event ?hg (N := 2) ?hd (cs := #[.int .i64 c.r, .int .i64 c.g, .int .i64 c.b]) (t := 33) ?hr ?_; (case hd => rfl); (case hg => rfl); (case hr => first | (go_simp; done) | (go_simp; rfl)); intro g2 hg w1 hbox hb; have BK2 := Aside0.mk hbox; have GE2 := Aside0.mk (bG hg HB.out); replace HB := Aside0.mk (below_step HB.out hb); clear hg hbox hb)
   | (go_at_call 7; (with_reducible refine (alive.calls _ (HP.out.on HB.out)).mono ?_); rintro e w2 ⟨rfl, hb⟩; replace BK2 := Aside0.mk (blk_below BK2.out hb); replace HB := Aside0.mk (below_step HB.out hb); clear hb)
   | (go_at_call 8; (with_reducible refine (newOk.calls 2 1 _ G21.out).mono ?_); rintro e w3 ⟨a, mb, rfl, hi, ha, hm, hb⟩; have IM := Aside0.mk hi; have GM := Aside0.mk (Nat.le_trans HB.out.size hm); have NB := Aside0.mk (Nat.ne_of_lt (Nat.lt_of_lt_of_le (blk_lt BK2.out) hm)); replace BK2 := Aside0.mk (blk_below BK2.out hb); replace HB := Aside0.mk (below_step HB.out hb); have y0 : w3.cell? ⟨g2, 0, none⟩ = some (.int .i64 c.r) := (blk_cell BK2.out 0).trans rfl; have y1 : w3.cell? ⟨g2, 1, none⟩ = some (.int .i64 c.g) := (blk_cell BK2.out 1).trans rfl; have y2 : w3.cell? ⟨g2, 2, none⟩ = some (.int .i64 c.b) := (blk_cell BK2.out 2).trans rfl; clear hi ha hm hb))
  obtain ⟨T, hT⟩ : ∃ T : Nat, (T : Int) = times % 16 + 1 := ⟨(times % 16 + 1).toNat, by omega⟩
  have HTT := Aside0.mk hT
  have t0 : 0 ≤ times % 16 := by omega
  have t1 : times % 16 ≤ 15 := by omega
  clear y0 y1 y2 hT
  go_loopg [8] T (fun kq v8 w' => ∃ j : Nat, v8 = .int .i64 j ∧ ∃ W, W = w' ∧ Aside0 (j + kq = T) ∧ Aside0 (Img W a mb j 2 1 (manyM c j)) ∧ Aside0 (W.heap[g2]? = some (.cells #[.int .i64 c.r, .int .i64 c.g, .int .i64 c.b] 33 (0, 0))) ∧ Aside0 (Below w.heap.size w W))
  case atStart => exact ⟨0, rfl, _, rfl, ⟨by omega⟩, IM, BK2, HB⟩
  case round =>
    clear IM BK2 HB
    obtain ⟨j, rfl, W, rfl, HJ, IM, BK2, HB⟩ := hrel
    have hj := HJ.out
    have htt := HTT.out
    by_cases hlt : j < T
    · have e1 : decide ((j : Int) ≤ times % 16) = true := decide_eq_true (by omega)
      have j16 : j ≤ 15 := by omega
      have y0 : W.cell? ⟨g2, 0, none⟩ = some (.int .i64 c.r) := (blk_cell BK2.out 0).trans rfl
      have y1 : W.cell? ⟨g2, 1, none⟩ = some (.int .i64 c.g) := (blk_cell BK2.out 1).trans rfl
      have y2 : W.cell? ⟨g2, 2, none⟩ = some (.int .i64 c.b) := (blk_cell BK2.out 2).trans rfl
      have AC := add1.calls c j W IM.out (by omega) 11 (many_e_no HC.out j)
      clear htt
      cases gk with
      | zero => omega
      | succ k1 =>
      go_wp2_with (go_at_call 9; (with_reducible refine AC.mono ?_); rintro e w4 ⟨rfl, hi, hq⟩; replace IM := Aside0.mk hi; replace BK2 := Aside0.mk ((hq.kept _ (blk_lt BK2.out) NB.out).trans BK2.out); replace HB := Aside0.mk (HB.out.trans (hq.below _ GM.out HB.out.size)); clear hi hq)
      go_roundg k1
      case measure => omega
      case rel => exact ⟨j + 1, by simp, _, rfl, ⟨by omega⟩, IM, BK2, HB⟩
    · have e1 : decide ((j : Int) ≤ times % 16) = false := decide_eq_false (by omega)
      have j1 : 1 ≤ j := by omega
      have j2 : j ≤ 16 := by omega
      have q1 := (by rw [many_no HC.out j]; exact zero_col : colR (manyM c j 1 0) = 0 ∧ colG (manyM c j 1 0) = 0 ∧ colB (manyM c j 1 0) = 0)
      have q2 := (by rw [many_no HC.out j]; exact zero_col : colR (manyM c j 0 0) = 0 ∧ colG (manyM c j 0 0) = 0 ∧ colB (manyM c j 0 0) = 0)
      have Q1 := Aside0.mk q1
      have Q2 := Aside0.mk q2
      have cs1 := col_same 0 0 0
      have cs2 := col_same 0 0 0
      clear q1 q2 htt
      go_wp2_with (first
       | (go_at_call 11; (with_reducible refine (at1.calls 1 (by omega) _ IM.out _ _ _ Q1.out).mono ?_); rintro e w5 ⟨rfl, hb⟩; replace IM := Aside0.mk (IM.out.below hb); replace BK2 := Aside0.mk (blk_below BK2.out hb); replace HB := Aside0.mk (below_step HB.out hb); clear hb)
       | (go_at_call 11; (with_reducible refine (at1.calls 0 (by omega) _ IM.out _ _ _ Q2.out).mono ?_); rintro e w6 ⟨rfl, hb⟩; replace IM := Aside0.mk (IM.out.below hb); replace BK2 := Aside0.mk (blk_below BK2.out hb); replace BK10 := Aside0.mk (blk_below BK10.out hb); replace HB := Aside0.mk (below_step HB.out hb); clear hb)
       | ((with_reducible refine gate_dst (N := 10) rfl ?_); refine box_event ?hg (N := 10) ?hd (cs := #[.int .i64 0, .int .i64 0, .int .i64 0]) (t := 33) ?hr ?_; (case hd => rfl); (case hg => rfl); (case hr => first | (go_simp; done) | (go_simp; rfl)); intro g10 hg w7 hbox hb; have BK10 := Aside0.mk hbox; have GE10 := Aside0.mk (bG hg HB.out); replace IM := Aside0.mk (IM.out.below hb); have NE2_10 := cN hg BK2; replace BK2 := cB hb BK2; replace HB := Aside0.mk (below_step HB.out hb); clear hg hbox hb)
       | ((with_reducible refine gate_store2 (t := 33) (x := .tmp 10) (y := .tmp 79) rfl ?_); refine ev_row (B := w.heap.size) (w0 := w) rfl 33 (.tmp 10) (.tmp 79) rfl rfl g10 #[.int .i64 0, .int .i64 0, .int .i64 0] ?hx ?hy 33 _ BK10.out (by kernel_rfl) rfl (by simp [Value.oneCell']) HB.out GE10.out ?_; (case hx => first | (go_simp; done) | rfl); (case hy => first | (go_simp; done) | rfl | (go_simp; rfl)); intro w8 hbox hb hk; replace BK2 := Aside0.mk ((hk _ NE2_10.out).trans BK2.out); replace IM := Aside0.mk (IM.out.but33 BK10.out hk); replace BK10 := Aside0.mk hbox; replace HB := Aside0.mk hb; clear hbox hb hk)
       | ((with_reducible refine gate_dst (N := 12) rfl ?_); refine box_event ?hg (N := 12) ?hd (cs := #[.int .i64 0, .int .i64 0, .int .i64 0]) (t := 33) ?hr ?_; (case hd => rfl); (case hg => rfl); (case hr => first | (go_simp; done) | (go_simp; rfl)); intro g12 hg w10 hbox hb; have BK12 := Aside0.mk hbox; have GE12 := Aside0.mk (bG hg HB.out); replace IM := Aside0.mk (IM.out.below hb); have NE2_12 := cN hg BK2; replace BK2 := cB hb BK2; have NE10_12 := cN hg BK10; replace BK10 := cB hb BK10; replace HB := Aside0.mk (below_step HB.out hb); clear hg hbox hb)
       | ((with_reducible refine gate_store2 (t := 33) (x := .tmp 12) (y := .tmp 84) rfl ?_); refine ev_row (B := w.heap.size) (w0 := w) rfl 33 (.tmp 12) (.tmp 84) rfl rfl g12 #[.int .i64 0, .int .i64 0, .int .i64 0] ?hx ?hy 33 _ BK12.out (by kernel_rfl) rfl (by simp [Value.oneCell']) HB.out GE12.out ?_; (case hx => first | (go_simp; done) | rfl); (case hy => first | (go_simp; done) | rfl | (go_simp; rfl)); intro w11 hbox hb hk; replace BK2 := Aside0.mk ((hk _ NE2_12.out).trans BK2.out); replace BK10 := Aside0.mk ((hk _ NE10_12.out).trans BK10.out); replace IM := Aside0.mk (IM.out.but33 BK12.out hk); replace BK12 := Aside0.mk hbox; replace HB := Aside0.mk hb; clear hbox hb hk)
       | ((with_reducible refine gate_store2 (t := 33) (x := .tmp 2) (y := .tmp 88) rfl ?_); refine ev_row (B := w.heap.size) (w0 := w) rfl 33 (.tmp 2) (.tmp 88) rfl rfl g2 #[.int .i64 0, .int .i64 0, .int .i64 0] ?hx ?hy 33 _ BK2.out (by kernel_rfl) rfl (by simp [Value.oneCell']) HB.out GE2.out ?_; (case hx => first | (go_simp; done) | rfl); (case hy => first | (go_simp; done) | rfl | (go_simp; rfl)); intro w12 hbox hb hk; replace BK10 := Aside0.mk ((hk _ (Ne.symm NE2_10.out)).trans BK10.out); replace BK12 := Aside0.mk ((hk _ (Ne.symm NE2_12.out)).trans BK12.out); replace IM := Aside0.mk (IM.out.but33 BK2.out hk); replace BK2 := Aside0.mk hbox; replace HB := Aside0.mk hb; have z10_0 : w12.cell? ⟨g10, 0, none⟩ = some (.int .i64 0) := (blk_cell BK10.out 0).trans rfl; have z10_1 : w12.cell? ⟨g10, 1, none⟩ = some (.int .i64 0) := (blk_cell BK10.out 1).trans rfl; have z10_2 : w12.cell? ⟨g10, 2, none⟩ = some (.int .i64 0) := (blk_cell BK10.out 2).trans rfl; have z2_0 : w12.cell? ⟨g2, 0, none⟩ = some (.int .i64 0) := (blk_cell BK2.out 0).trans rfl; have z2_1 : w12.cell? ⟨g2, 1, none⟩ = some (.int .i64 0) := (blk_cell BK2.out 1).trans rfl; have z2_2 : w12.cell? ⟨g2, 2, none⟩ = some (.int .i64 0) := (blk_cell BK2.out 2).trans rfl; have z12_0 : w12.cell? ⟨g12, 0, none⟩ = some (.int .i64 0) := (blk_cell BK12.out 0).trans rfl; have z12_1 : w12.cell? ⟨g12, 1, none⟩ = some (.int .i64 0) := (blk_cell BK12.out 1).trans rfl; have z12_2 : w12.cell? ⟨g12, 2, none⟩ = some (.int .i64 0) := (blk_cell BK12.out 2).trans rfl; clear hbox hb hk))
      go_ret
      exact ⟨rfl, HB.out⟩
set_option maxHeartbeats 4000000 in
set_option maxRecDepth 100000 in
theorem alikeNo1.calls (c : Col) (times : Int) (w : World) (hP : Pow w) (ht : I64 times) (hc : okC c = false) (h0 : c.r ≥ 0) (h1 : ¬ c.r ≤ 255) :
    Calls Tryd.prog 5 #[.agg #[.int .i64 c.r, .int .i64 c.g, .int .i64 c.b], .int .i64 times] w fun e w' => e = .returned (.bool true) ∧ Below w.heap.size w w' := by
  have hu33 := Tryd.underlying33
  have HB := Aside0.mk (Below.refl w.heap.size w)
  have HP := Aside0.mk hP
  have HT := Aside0.mk ht
  have g21 : goodB 2 1 = true := by decide
  have G21 := Aside0.mk g21
  have d0 : decide (c.r ≥ 0) = true := decide_eq_true h0
  have d1 : decide (c.r ≤ 255) = false := decide_eq_false h1
  have HC := Aside0.mk hc
  clear hc h0 h1
  clear hP ht g21
  go_enter Tryd.func5, Tryd.ntmps5
  go_wp2_with (first
   | ((with_reducible refine gate_dst (N := 2) rfl ?_); refine box_event ?hg (N := 2) ?hd (cs := #[.int .i64 c.r, .int .i64 c.g, .int .i64 c.b]) (t := 33) ?hr ?_; (case hd => rfl); (case hg => rfl); (case hr => first | (go_simp; done) | (go_simp; rfl)); intro g2 hg w1 hbox hb; have BK2 := Aside0.mk hbox; have GE2 := Aside0.mk (bG hg HB.out); replace HB := Aside0.mk (below_step HB.out hb); clear hg hbox hb)
   | (go_at_call 7; (with_reducible refine (alive.calls _ (HP.out.on HB.out)).mono ?_); rintro e w2 ⟨rfl, hb⟩; replace BK2 := Aside0.mk (blk_below BK2.out hb); replace HB := Aside0.mk (below_step HB.out hb); clear hb)
   | (go_at_call 8; (with_reducible refine (newOk.calls 2 1 _ G21.out).mono ?_); rintro e w3 ⟨a, mb, rfl, hi, ha, hm, hb⟩; have IM := Aside0.mk hi; have GM := Aside0.mk (Nat.le_trans HB.out.size hm); have NB := Aside0.mk (Nat.ne_of_lt (Nat.lt_of_lt_of_le (blk_lt BK2.out) hm)); replace BK2 := Aside0.mk (blk_below BK2.out hb); replace HB := Aside0.mk (below_step HB.out hb); have y0 : w3.cell? ⟨g2, 0, none⟩ = some (.int .i64 c.r) := (blk_cell BK2.out 0).trans rfl; have y1 : w3.cell? ⟨g2, 1, none⟩ = some (.int .i64 c.g) := (blk_cell BK2.out 1).trans rfl; have y2 : w3.cell? ⟨g2, 2, none⟩ = some (.int .i64 c.b) := (blk_cell BK2.out 2).trans rfl; clear hi ha hm hb))
  obtain ⟨T, hT⟩ : ∃ T : Nat, (T : Int) = times % 16 + 1 := ⟨(times % 16 + 1).toNat, by omega⟩
  have HTT := Aside0.mk hT
  have t0 : 0 ≤ times % 16 := by omega
  have t1 : times % 16 ≤ 15 := by omega
  clear y0 y1 y2 hT
  go_loopg [8] T (fun kq v8 w' => ∃ j : Nat, v8 = .int .i64 j ∧ ∃ W, W = w' ∧ Aside0 (j + kq = T) ∧ Aside0 (Img W a mb j 2 1 (manyM c j)) ∧ Aside0 (W.heap[g2]? = some (.cells #[.int .i64 c.r, .int .i64 c.g, .int .i64 c.b] 33 (0, 0))) ∧ Aside0 (Below w.heap.size w W))
  case atStart => exact ⟨0, rfl, _, rfl, ⟨by omega⟩, IM, BK2, HB⟩
  case round =>
    clear IM BK2 HB
    obtain ⟨j, rfl, W, rfl, HJ, IM, BK2, HB⟩ := hrel
    have hj := HJ.out
    have htt := HTT.out
    by_cases hlt : j < T
    · have e1 : decide ((j : Int) ≤ times % 16) = true := decide_eq_true (by omega)
      have j16 : j ≤ 15 := by omega
      have y0 : W.cell? ⟨g2, 0, none⟩ = some (.int .i64 c.r) := (blk_cell BK2.out 0).trans rfl
      have y1 : W.cell? ⟨g2, 1, none⟩ = some (.int .i64 c.g) := (blk_cell BK2.out 1).trans rfl
      have y2 : W.cell? ⟨g2, 2, none⟩ = some (.int .i64 c.b) := (blk_cell BK2.out 2).trans rfl
      have AC := add1.calls c j W IM.out (by omega) 11 (many_e_no HC.out j)
      clear htt
      cases gk with
      | zero => omega
      | succ k1 =>
      go_wp2_with (go_at_call 9; (with_reducible refine AC.mono ?_); rintro e w4 ⟨rfl, hi, hq⟩; replace IM := Aside0.mk hi; replace BK2 := Aside0.mk ((hq.kept _ (blk_lt BK2.out) NB.out).trans BK2.out); replace HB := Aside0.mk (HB.out.trans (hq.below _ GM.out HB.out.size)); clear hi hq)
      go_roundg k1
      case measure => omega
      case rel => exact ⟨j + 1, by simp, _, rfl, ⟨by omega⟩, IM, BK2, HB⟩
    · have e1 : decide ((j : Int) ≤ times % 16) = false := decide_eq_false (by omega)
      have j1 : 1 ≤ j := by omega
      have j2 : j ≤ 16 := by omega
      have q1 := (by rw [many_no HC.out j]; exact zero_col : colR (manyM c j 1 0) = 0 ∧ colG (manyM c j 1 0) = 0 ∧ colB (manyM c j 1 0) = 0)
      have q2 := (by rw [many_no HC.out j]; exact zero_col : colR (manyM c j 0 0) = 0 ∧ colG (manyM c j 0 0) = 0 ∧ colB (manyM c j 0 0) = 0)
      have Q1 := Aside0.mk q1
      have Q2 := Aside0.mk q2
      have cs1 := col_same 0 0 0
      have cs2 := col_same 0 0 0
      clear q1 q2 htt
      go_wp2_with (first
       | (go_at_call 11; (with_reducible refine (at1.calls 1 (by omega) _ IM.out _ _ _ Q1.out).mono ?_); rintro e w5 ⟨rfl, hb⟩; replace IM := Aside0.mk (IM.out.below hb); replace BK2 := Aside0.mk (blk_below BK2.out hb); replace HB := Aside0.mk (below_step HB.out hb); clear hb)
       | (go_at_call 11; (with_reducible refine (at1.calls 0 (by omega) _ IM.out _ _ _ Q2.out).mono ?_); rintro e w6 ⟨rfl, hb⟩; replace IM := Aside0.mk (IM.out.below hb); replace BK2 := Aside0.mk (blk_below BK2.out hb); replace BK10 := Aside0.mk (blk_below BK10.out hb); replace HB := Aside0.mk (below_step HB.out hb); clear hb)
       | ((with_reducible refine gate_dst (N := 10) rfl ?_); refine box_event ?hg (N := 10) ?hd (cs := #[.int .i64 0, .int .i64 0, .int .i64 0]) (t := 33) ?hr ?_; (case hd => rfl); (case hg => rfl); (case hr => first | (go_simp; done) | (go_simp; rfl)); intro g10 hg w7 hbox hb; have BK10 := Aside0.mk hbox; have GE10 := Aside0.mk (bG hg HB.out); replace IM := Aside0.mk (IM.out.below hb); have NE2_10 := cN hg BK2; replace BK2 := cB hb BK2; replace HB := Aside0.mk (below_step HB.out hb); clear hg hbox hb)
       | ((with_reducible refine gate_store2 (t := 33) (x := .tmp 10) (y := .tmp 79) rfl ?_); refine ev_row (B := w.heap.size) (w0 := w) rfl 33 (.tmp 10) (.tmp 79) rfl rfl g10 #[.int .i64 0, .int .i64 0, .int .i64 0] ?hx ?hy 33 _ BK10.out (by kernel_rfl) rfl (by simp [Value.oneCell']) HB.out GE10.out ?_; (case hx => first | (go_simp; done) | rfl); (case hy => first | (go_simp; done) | rfl | (go_simp; rfl)); intro w8 hbox hb hk; replace BK2 := Aside0.mk ((hk _ NE2_10.out).trans BK2.out); replace IM := Aside0.mk (IM.out.but33 BK10.out hk); replace BK10 := Aside0.mk hbox; replace HB := Aside0.mk hb; clear hbox hb hk)
       | ((with_reducible refine gate_dst (N := 12) rfl ?_); refine box_event ?hg (N := 12) ?hd (cs := #[.int .i64 0, .int .i64 0, .int .i64 0]) (t := 33) ?hr ?_; (case hd => rfl); (case hg => rfl); (case hr => first | (go_simp; done) | (go_simp; rfl)); intro g12 hg w10 hbox hb; have BK12 := Aside0.mk hbox; have GE12 := Aside0.mk (bG hg HB.out); replace IM := Aside0.mk (IM.out.below hb); have NE2_12 := cN hg BK2; replace BK2 := cB hb BK2; have NE10_12 := cN hg BK10; replace BK10 := cB hb BK10; replace HB := Aside0.mk (below_step HB.out hb); clear hg hbox hb)
       | ((with_reducible refine gate_store2 (t := 33) (x := .tmp 12) (y := .tmp 84) rfl ?_); refine ev_row (B := w.heap.size) (w0 := w) rfl 33 (.tmp 12) (.tmp 84) rfl rfl g12 #[.int .i64 0, .int .i64 0, .int .i64 0] ?hx ?hy 33 _ BK12.out (by kernel_rfl) rfl (by simp [Value.oneCell']) HB.out GE12.out ?_; (case hx => first | (go_simp; done) | rfl); (case hy => first | (go_simp; done) | rfl | (go_simp; rfl)); intro w11 hbox hb hk; replace BK2 := Aside0.mk ((hk _ NE2_12.out).trans BK2.out); replace BK10 := Aside0.mk ((hk _ NE10_12.out).trans BK10.out); replace IM := Aside0.mk (IM.out.but33 BK12.out hk); replace BK12 := Aside0.mk hbox; replace HB := Aside0.mk hb; clear hbox hb hk)
       | ((with_reducible refine gate_store2 (t := 33) (x := .tmp 2) (y := .tmp 88) rfl ?_); refine ev_row (B := w.heap.size) (w0 := w) rfl 33 (.tmp 2) (.tmp 88) rfl rfl g2 #[.int .i64 0, .int .i64 0, .int .i64 0] ?hx ?hy 33 _ BK2.out (by kernel_rfl) rfl (by simp [Value.oneCell']) HB.out GE2.out ?_; (case hx => first | (go_simp; done) | rfl); (case hy => first | (go_simp; done) | rfl | (go_simp; rfl)); intro w12 hbox hb hk; replace BK10 := Aside0.mk ((hk _ (Ne.symm NE2_10.out)).trans BK10.out); replace BK12 := Aside0.mk ((hk _ (Ne.symm NE2_12.out)).trans BK12.out); replace IM := Aside0.mk (IM.out.but33 BK2.out hk); replace BK2 := Aside0.mk hbox; replace HB := Aside0.mk hb; have z10_0 : w12.cell? ⟨g10, 0, none⟩ = some (.int .i64 0) := (blk_cell BK10.out 0).trans rfl; have z10_1 : w12.cell? ⟨g10, 1, none⟩ = some (.int .i64 0) := (blk_cell BK10.out 1).trans rfl; have z10_2 : w12.cell? ⟨g10, 2, none⟩ = some (.int .i64 0) := (blk_cell BK10.out 2).trans rfl; have z2_0 : w12.cell? ⟨g2, 0, none⟩ = some (.int .i64 0) := (blk_cell BK2.out 0).trans rfl; have z2_1 : w12.cell? ⟨g2, 1, none⟩ = some (.int .i64 0) := (blk_cell BK2.out 1).trans rfl; have z2_2 : w12.cell? ⟨g2, 2, none⟩ = some (.int .i64 0) := (blk_cell BK2.out 2).trans rfl; have z12_0 : w12.cell? ⟨g12, 0, none⟩ = some (.int .i64 0) := (blk_cell BK12.out 0).trans rfl; have z12_1 : w12.cell? ⟨g12, 1, none⟩ = some (.int .i64 0) := (blk_cell BK12.out 1).trans rfl; have z12_2 : w12.cell? ⟨g12, 2, none⟩ = some (.int .i64 0) := (blk_cell BK12.out 2).trans rfl; clear hbox hb hk))
      go_ret
      exact ⟨rfl, HB.out⟩
set_option maxHeartbeats 4000000 in
set_option maxRecDepth 100000 in
theorem alikeNo2.calls (c : Col) (times : Int) (w : World) (hP : Pow w) (ht : I64 times) (hc : okC c = false) (h0 : c.r ≥ 0) (h1 : c.r ≤ 255) (h2 : ¬ c.g ≥ 0) :
    Calls Tryd.prog 5 #[.agg #[.int .i64 c.r, .int .i64 c.g, .int .i64 c.b], .int .i64 times] w fun e w' => e = .returned (.bool true) ∧ Below w.heap.size w w' := by
  have hu33 := Tryd.underlying33
  have HB := Aside0.mk (Below.refl w.heap.size w)
  have HP := Aside0.mk hP
  have HT := Aside0.mk ht
  have g21 : goodB 2 1 = true := by decide
  have G21 := Aside0.mk g21
  have d0 : decide (c.r ≥ 0) = true := decide_eq_true h0
  have d1 : decide (c.r ≤ 255) = true := decide_eq_true h1
  have d2 : decide (c.g ≥ 0) = false := decide_eq_false h2
  have HC := Aside0.mk hc
  clear hc h0 h1 h2
  clear hP ht g21
  go_enter Tryd.func5, Tryd.ntmps5
  go_wp2_with (first
   | ((with_reducible refine gate_dst (N := 2) rfl ?_); refine box_event ?hg (N := 2) ?hd (cs := #[.int .i64 c.r, .int .i64 c.g, .int .i64 c.b]) (t := 33) ?hr ?_; (case hd => rfl); (case hg => rfl); (case hr => first | (go_simp; done) | (go_simp; rfl)); intro g2 hg w1 hbox hb; have BK2 := Aside0.mk hbox; have GE2 := Aside0.mk (bG hg HB.out); replace HB := Aside0.mk (below_step HB.out hb); clear hg hbox hb)
   | (go_at_call 7; (with_reducible refine (alive.calls _ (HP.out.on HB.out)).mono ?_); rintro e w2 ⟨rfl, hb⟩; replace BK2 := Aside0.mk (blk_below BK2.out hb); replace HB := Aside0.mk (below_step HB.out hb); clear hb)
   | (go_at_call 8; (with_reducible refine (newOk.calls 2 1 _ G21.out).mono ?_); rintro e w3 ⟨a, mb, rfl, hi, ha, hm, hb⟩; have IM := Aside0.mk hi; have GM := Aside0.mk (Nat.le_trans HB.out.size hm); have NB := Aside0.mk (Nat.ne_of_lt (Nat.lt_of_lt_of_le (blk_lt BK2.out) hm)); replace BK2 := Aside0.mk (blk_below BK2.out hb); replace HB := Aside0.mk (below_step HB.out hb); have y0 : w3.cell? ⟨g2, 0, none⟩ = some (.int .i64 c.r) := (blk_cell BK2.out 0).trans rfl; have y1 : w3.cell? ⟨g2, 1, none⟩ = some (.int .i64 c.g) := (blk_cell BK2.out 1).trans rfl; have y2 : w3.cell? ⟨g2, 2, none⟩ = some (.int .i64 c.b) := (blk_cell BK2.out 2).trans rfl; clear hi ha hm hb))
  obtain ⟨T, hT⟩ : ∃ T : Nat, (T : Int) = times % 16 + 1 := ⟨(times % 16 + 1).toNat, by omega⟩
  have HTT := Aside0.mk hT
  have t0 : 0 ≤ times % 16 := by omega
  have t1 : times % 16 ≤ 15 := by omega
  clear y0 y1 y2 hT
  go_loopg [8] T (fun kq v8 w' => ∃ j : Nat, v8 = .int .i64 j ∧ ∃ W, W = w' ∧ Aside0 (j + kq = T) ∧ Aside0 (Img W a mb j 2 1 (manyM c j)) ∧ Aside0 (W.heap[g2]? = some (.cells #[.int .i64 c.r, .int .i64 c.g, .int .i64 c.b] 33 (0, 0))) ∧ Aside0 (Below w.heap.size w W))
  case atStart => exact ⟨0, rfl, _, rfl, ⟨by omega⟩, IM, BK2, HB⟩
  case round =>
    clear IM BK2 HB
    obtain ⟨j, rfl, W, rfl, HJ, IM, BK2, HB⟩ := hrel
    have hj := HJ.out
    have htt := HTT.out
    by_cases hlt : j < T
    · have e1 : decide ((j : Int) ≤ times % 16) = true := decide_eq_true (by omega)
      have j16 : j ≤ 15 := by omega
      have y0 : W.cell? ⟨g2, 0, none⟩ = some (.int .i64 c.r) := (blk_cell BK2.out 0).trans rfl
      have y1 : W.cell? ⟨g2, 1, none⟩ = some (.int .i64 c.g) := (blk_cell BK2.out 1).trans rfl
      have y2 : W.cell? ⟨g2, 2, none⟩ = some (.int .i64 c.b) := (blk_cell BK2.out 2).trans rfl
      have AC := add1.calls c j W IM.out (by omega) 11 (many_e_no HC.out j)
      clear htt
      cases gk with
      | zero => omega
      | succ k1 =>
      go_wp2_with (go_at_call 9; (with_reducible refine AC.mono ?_); rintro e w4 ⟨rfl, hi, hq⟩; replace IM := Aside0.mk hi; replace BK2 := Aside0.mk ((hq.kept _ (blk_lt BK2.out) NB.out).trans BK2.out); replace HB := Aside0.mk (HB.out.trans (hq.below _ GM.out HB.out.size)); clear hi hq)
      go_roundg k1
      case measure => omega
      case rel => exact ⟨j + 1, by simp, _, rfl, ⟨by omega⟩, IM, BK2, HB⟩
    · have e1 : decide ((j : Int) ≤ times % 16) = false := decide_eq_false (by omega)
      have j1 : 1 ≤ j := by omega
      have j2 : j ≤ 16 := by omega
      have q1 := (by rw [many_no HC.out j]; exact zero_col : colR (manyM c j 1 0) = 0 ∧ colG (manyM c j 1 0) = 0 ∧ colB (manyM c j 1 0) = 0)
      have q2 := (by rw [many_no HC.out j]; exact zero_col : colR (manyM c j 0 0) = 0 ∧ colG (manyM c j 0 0) = 0 ∧ colB (manyM c j 0 0) = 0)
      have Q1 := Aside0.mk q1
      have Q2 := Aside0.mk q2
      have cs1 := col_same 0 0 0
      have cs2 := col_same 0 0 0
      clear q1 q2 htt
      go_wp2_with (first
       | (go_at_call 11; (with_reducible refine (at1.calls 1 (by omega) _ IM.out _ _ _ Q1.out).mono ?_); rintro e w5 ⟨rfl, hb⟩; replace IM := Aside0.mk (IM.out.below hb); replace BK2 := Aside0.mk (blk_below BK2.out hb); replace HB := Aside0.mk (below_step HB.out hb); clear hb)
       | (go_at_call 11; (with_reducible refine (at1.calls 0 (by omega) _ IM.out _ _ _ Q2.out).mono ?_); rintro e w6 ⟨rfl, hb⟩; replace IM := Aside0.mk (IM.out.below hb); replace BK2 := Aside0.mk (blk_below BK2.out hb); replace BK10 := Aside0.mk (blk_below BK10.out hb); replace HB := Aside0.mk (below_step HB.out hb); clear hb)
       | ((with_reducible refine gate_dst (N := 10) rfl ?_); refine box_event ?hg (N := 10) ?hd (cs := #[.int .i64 0, .int .i64 0, .int .i64 0]) (t := 33) ?hr ?_; (case hd => rfl); (case hg => rfl); (case hr => first | (go_simp; done) | (go_simp; rfl)); intro g10 hg w7 hbox hb; have BK10 := Aside0.mk hbox; have GE10 := Aside0.mk (bG hg HB.out); replace IM := Aside0.mk (IM.out.below hb); have NE2_10 := cN hg BK2; replace BK2 := cB hb BK2; replace HB := Aside0.mk (below_step HB.out hb); clear hg hbox hb)
       | ((with_reducible refine gate_store2 (t := 33) (x := .tmp 10) (y := .tmp 79) rfl ?_); refine ev_row (B := w.heap.size) (w0 := w) rfl 33 (.tmp 10) (.tmp 79) rfl rfl g10 #[.int .i64 0, .int .i64 0, .int .i64 0] ?hx ?hy 33 _ BK10.out (by kernel_rfl) rfl (by simp [Value.oneCell']) HB.out GE10.out ?_; (case hx => first | (go_simp; done) | rfl); (case hy => first | (go_simp; done) | rfl | (go_simp; rfl)); intro w8 hbox hb hk; replace BK2 := Aside0.mk ((hk _ NE2_10.out).trans BK2.out); replace IM := Aside0.mk (IM.out.but33 BK10.out hk); replace BK10 := Aside0.mk hbox; replace HB := Aside0.mk hb; clear hbox hb hk)
       | ((with_reducible refine gate_dst (N := 12) rfl ?_); refine box_event ?hg (N := 12) ?hd (cs := #[.int .i64 0, .int .i64 0, .int .i64 0]) (t := 33) ?hr ?_; (case hd => rfl); (case hg => rfl); (case hr => first | (go_simp; done) | (go_simp; rfl)); intro g12 hg w10 hbox hb; have BK12 := Aside0.mk hbox; have GE12 := Aside0.mk (bG hg HB.out); replace IM := Aside0.mk (IM.out.below hb); have NE2_12 := cN hg BK2; replace BK2 := cB hb BK2; have NE10_12 := cN hg BK10; replace BK10 := cB hb BK10; replace HB := Aside0.mk (below_step HB.out hb); clear hg hbox hb)
       | ((with_reducible refine gate_store2 (t := 33) (x := .tmp 12) (y := .tmp 84) rfl ?_); refine ev_row (B := w.heap.size) (w0 := w) rfl 33 (.tmp 12) (.tmp 84) rfl rfl g12 #[.int .i64 0, .int .i64 0, .int .i64 0] ?hx ?hy 33 _ BK12.out (by kernel_rfl) rfl (by simp [Value.oneCell']) HB.out GE12.out ?_; (case hx => first | (go_simp; done) | rfl); (case hy => first | (go_simp; done) | rfl | (go_simp; rfl)); intro w11 hbox hb hk; replace BK2 := Aside0.mk ((hk _ NE2_12.out).trans BK2.out); replace BK10 := Aside0.mk ((hk _ NE10_12.out).trans BK10.out); replace IM := Aside0.mk (IM.out.but33 BK12.out hk); replace BK12 := Aside0.mk hbox; replace HB := Aside0.mk hb; clear hbox hb hk)
       | ((with_reducible refine gate_store2 (t := 33) (x := .tmp 2) (y := .tmp 88) rfl ?_); refine ev_row (B := w.heap.size) (w0 := w) rfl 33 (.tmp 2) (.tmp 88) rfl rfl g2 #[.int .i64 0, .int .i64 0, .int .i64 0] ?hx ?hy 33 _ BK2.out (by kernel_rfl) rfl (by simp [Value.oneCell']) HB.out GE2.out ?_; (case hx => first | (go_simp; done) | rfl); (case hy => first | (go_simp; done) | rfl | (go_simp; rfl)); intro w12 hbox hb hk; replace BK10 := Aside0.mk ((hk _ (Ne.symm NE2_10.out)).trans BK10.out); replace BK12 := Aside0.mk ((hk _ (Ne.symm NE2_12.out)).trans BK12.out); replace IM := Aside0.mk (IM.out.but33 BK2.out hk); replace BK2 := Aside0.mk hbox; replace HB := Aside0.mk hb; have z10_0 : w12.cell? ⟨g10, 0, none⟩ = some (.int .i64 0) := (blk_cell BK10.out 0).trans rfl; have z10_1 : w12.cell? ⟨g10, 1, none⟩ = some (.int .i64 0) := (blk_cell BK10.out 1).trans rfl; have z10_2 : w12.cell? ⟨g10, 2, none⟩ = some (.int .i64 0) := (blk_cell BK10.out 2).trans rfl; have z2_0 : w12.cell? ⟨g2, 0, none⟩ = some (.int .i64 0) := (blk_cell BK2.out 0).trans rfl; have z2_1 : w12.cell? ⟨g2, 1, none⟩ = some (.int .i64 0) := (blk_cell BK2.out 1).trans rfl; have z2_2 : w12.cell? ⟨g2, 2, none⟩ = some (.int .i64 0) := (blk_cell BK2.out 2).trans rfl; have z12_0 : w12.cell? ⟨g12, 0, none⟩ = some (.int .i64 0) := (blk_cell BK12.out 0).trans rfl; have z12_1 : w12.cell? ⟨g12, 1, none⟩ = some (.int .i64 0) := (blk_cell BK12.out 1).trans rfl; have z12_2 : w12.cell? ⟨g12, 2, none⟩ = some (.int .i64 0) := (blk_cell BK12.out 2).trans rfl; clear hbox hb hk))
      go_ret
      exact ⟨rfl, HB.out⟩
set_option maxHeartbeats 4000000 in
set_option maxRecDepth 100000 in
theorem alikeNo3.calls (c : Col) (times : Int) (w : World) (hP : Pow w) (ht : I64 times) (hc : okC c = false) (h0 : c.r ≥ 0) (h1 : c.r ≤ 255) (h2 : c.g ≥ 0) (h3 : ¬ c.g ≤ 255) :
    Calls Tryd.prog 5 #[.agg #[.int .i64 c.r, .int .i64 c.g, .int .i64 c.b], .int .i64 times] w fun e w' => e = .returned (.bool true) ∧ Below w.heap.size w w' := by
  have hu33 := Tryd.underlying33
  have HB := Aside0.mk (Below.refl w.heap.size w)
  have HP := Aside0.mk hP
  have HT := Aside0.mk ht
  have g21 : goodB 2 1 = true := by decide
  have G21 := Aside0.mk g21
  have d0 : decide (c.r ≥ 0) = true := decide_eq_true h0
  have d1 : decide (c.r ≤ 255) = true := decide_eq_true h1
  have d2 : decide (c.g ≥ 0) = true := decide_eq_true h2
  have d3 : decide (c.g ≤ 255) = false := decide_eq_false h3
  have HC := Aside0.mk hc
  clear hc h0 h1 h2 h3
  clear hP ht g21
  go_enter Tryd.func5, Tryd.ntmps5
  go_wp2_with (first
   | ((with_reducible refine gate_dst (N := 2) rfl ?_); refine box_event ?hg (N := 2) ?hd (cs := #[.int .i64 c.r, .int .i64 c.g, .int .i64 c.b]) (t := 33) ?hr ?_; (case hd => rfl); (case hg => rfl); (case hr => first | (go_simp; done) | (go_simp; rfl)); intro g2 hg w1 hbox hb; have BK2 := Aside0.mk hbox; have GE2 := Aside0.mk (bG hg HB.out); replace HB := Aside0.mk (below_step HB.out hb); clear hg hbox hb)
   | (go_at_call 7; (with_reducible refine (alive.calls _ (HP.out.on HB.out)).mono ?_); rintro e w2 ⟨rfl, hb⟩; replace BK2 := Aside0.mk (blk_below BK2.out hb); replace HB := Aside0.mk (below_step HB.out hb); clear hb)
   | (go_at_call 8; (with_reducible refine (newOk.calls 2 1 _ G21.out).mono ?_); rintro e w3 ⟨a, mb, rfl, hi, ha, hm, hb⟩; have IM := Aside0.mk hi; have GM := Aside0.mk (Nat.le_trans HB.out.size hm); have NB := Aside0.mk (Nat.ne_of_lt (Nat.lt_of_lt_of_le (blk_lt BK2.out) hm)); replace BK2 := Aside0.mk (blk_below BK2.out hb); replace HB := Aside0.mk (below_step HB.out hb); have y0 : w3.cell? ⟨g2, 0, none⟩ = some (.int .i64 c.r) := (blk_cell BK2.out 0).trans rfl; have y1 : w3.cell? ⟨g2, 1, none⟩ = some (.int .i64 c.g) := (blk_cell BK2.out 1).trans rfl; have y2 : w3.cell? ⟨g2, 2, none⟩ = some (.int .i64 c.b) := (blk_cell BK2.out 2).trans rfl; clear hi ha hm hb))
  obtain ⟨T, hT⟩ : ∃ T : Nat, (T : Int) = times % 16 + 1 := ⟨(times % 16 + 1).toNat, by omega⟩
  have HTT := Aside0.mk hT
  have t0 : 0 ≤ times % 16 := by omega
  have t1 : times % 16 ≤ 15 := by omega
  clear y0 y1 y2 hT
  go_loopg [8] T (fun kq v8 w' => ∃ j : Nat, v8 = .int .i64 j ∧ ∃ W, W = w' ∧ Aside0 (j + kq = T) ∧ Aside0 (Img W a mb j 2 1 (manyM c j)) ∧ Aside0 (W.heap[g2]? = some (.cells #[.int .i64 c.r, .int .i64 c.g, .int .i64 c.b] 33 (0, 0))) ∧ Aside0 (Below w.heap.size w W))
  case atStart => exact ⟨0, rfl, _, rfl, ⟨by omega⟩, IM, BK2, HB⟩
  case round =>
    clear IM BK2 HB
    obtain ⟨j, rfl, W, rfl, HJ, IM, BK2, HB⟩ := hrel
    have hj := HJ.out
    have htt := HTT.out
    by_cases hlt : j < T
    · have e1 : decide ((j : Int) ≤ times % 16) = true := decide_eq_true (by omega)
      have j16 : j ≤ 15 := by omega
      have y0 : W.cell? ⟨g2, 0, none⟩ = some (.int .i64 c.r) := (blk_cell BK2.out 0).trans rfl
      have y1 : W.cell? ⟨g2, 1, none⟩ = some (.int .i64 c.g) := (blk_cell BK2.out 1).trans rfl
      have y2 : W.cell? ⟨g2, 2, none⟩ = some (.int .i64 c.b) := (blk_cell BK2.out 2).trans rfl
      have AC := add1.calls c j W IM.out (by omega) 11 (many_e_no HC.out j)
      clear htt
      cases gk with
      | zero => omega
      | succ k1 =>
      go_wp2_with (go_at_call 9; (with_reducible refine AC.mono ?_); rintro e w4 ⟨rfl, hi, hq⟩; replace IM := Aside0.mk hi; replace BK2 := Aside0.mk ((hq.kept _ (blk_lt BK2.out) NB.out).trans BK2.out); replace HB := Aside0.mk (HB.out.trans (hq.below _ GM.out HB.out.size)); clear hi hq)
      go_roundg k1
      case measure => omega
      case rel => exact ⟨j + 1, by simp, _, rfl, ⟨by omega⟩, IM, BK2, HB⟩
    · have e1 : decide ((j : Int) ≤ times % 16) = false := decide_eq_false (by omega)
      have j1 : 1 ≤ j := by omega
      have j2 : j ≤ 16 := by omega
      have q1 := (by rw [many_no HC.out j]; exact zero_col : colR (manyM c j 1 0) = 0 ∧ colG (manyM c j 1 0) = 0 ∧ colB (manyM c j 1 0) = 0)
      have q2 := (by rw [many_no HC.out j]; exact zero_col : colR (manyM c j 0 0) = 0 ∧ colG (manyM c j 0 0) = 0 ∧ colB (manyM c j 0 0) = 0)
      have Q1 := Aside0.mk q1
      have Q2 := Aside0.mk q2
      have cs1 := col_same 0 0 0
      have cs2 := col_same 0 0 0
      clear q1 q2 htt
      go_wp2_with (first
       | (go_at_call 11; (with_reducible refine (at1.calls 1 (by omega) _ IM.out _ _ _ Q1.out).mono ?_); rintro e w5 ⟨rfl, hb⟩; replace IM := Aside0.mk (IM.out.below hb); replace BK2 := Aside0.mk (blk_below BK2.out hb); replace HB := Aside0.mk (below_step HB.out hb); clear hb)
       | (go_at_call 11; (with_reducible refine (at1.calls 0 (by omega) _ IM.out _ _ _ Q2.out).mono ?_); rintro e w6 ⟨rfl, hb⟩; replace IM := Aside0.mk (IM.out.below hb); replace BK2 := Aside0.mk (blk_below BK2.out hb); replace BK10 := Aside0.mk (blk_below BK10.out hb); replace HB := Aside0.mk (below_step HB.out hb); clear hb)
       | ((with_reducible refine gate_dst (N := 10) rfl ?_); refine box_event ?hg (N := 10) ?hd (cs := #[.int .i64 0, .int .i64 0, .int .i64 0]) (t := 33) ?hr ?_; (case hd => rfl); (case hg => rfl); (case hr => first | (go_simp; done) | (go_simp; rfl)); intro g10 hg w7 hbox hb; have BK10 := Aside0.mk hbox; have GE10 := Aside0.mk (bG hg HB.out); replace IM := Aside0.mk (IM.out.below hb); have NE2_10 := cN hg BK2; replace BK2 := cB hb BK2; replace HB := Aside0.mk (below_step HB.out hb); clear hg hbox hb)
       | ((with_reducible refine gate_store2 (t := 33) (x := .tmp 10) (y := .tmp 79) rfl ?_); refine ev_row (B := w.heap.size) (w0 := w) rfl 33 (.tmp 10) (.tmp 79) rfl rfl g10 #[.int .i64 0, .int .i64 0, .int .i64 0] ?hx ?hy 33 _ BK10.out (by kernel_rfl) rfl (by simp [Value.oneCell']) HB.out GE10.out ?_; (case hx => first | (go_simp; done) | rfl); (case hy => first | (go_simp; done) | rfl | (go_simp; rfl)); intro w8 hbox hb hk; replace BK2 := Aside0.mk ((hk _ NE2_10.out).trans BK2.out); replace IM := Aside0.mk (IM.out.but33 BK10.out hk); replace BK10 := Aside0.mk hbox; replace HB := Aside0.mk hb; clear hbox hb hk)
       | ((with_reducible refine gate_dst (N := 12) rfl ?_); refine box_event ?hg (N := 12) ?hd (cs := #[.int .i64 0, .int .i64 0, .int .i64 0]) (t := 33) ?hr ?_; (case hd => rfl); (case hg => rfl); (case hr => first | (go_simp; done) | (go_simp; rfl)); intro g12 hg w10 hbox hb; have BK12 := Aside0.mk hbox; have GE12 := Aside0.mk (bG hg HB.out); replace IM := Aside0.mk (IM.out.below hb); have NE2_12 := cN hg BK2; replace BK2 := cB hb BK2; have NE10_12 := cN hg BK10; replace BK10 := cB hb BK10; replace HB := Aside0.mk (below_step HB.out hb); clear hg hbox hb)
       | ((with_reducible refine gate_store2 (t := 33) (x := .tmp 12) (y := .tmp 84) rfl ?_); refine ev_row (B := w.heap.size) (w0 := w) rfl 33 (.tmp 12) (.tmp 84) rfl rfl g12 #[.int .i64 0, .int .i64 0, .int .i64 0] ?hx ?hy 33 _ BK12.out (by kernel_rfl) rfl (by simp [Value.oneCell']) HB.out GE12.out ?_; (case hx => first | (go_simp; done) | rfl); (case hy => first | (go_simp; done) | rfl | (go_simp; rfl)); intro w11 hbox hb hk; replace BK2 := Aside0.mk ((hk _ NE2_12.out).trans BK2.out); replace BK10 := Aside0.mk ((hk _ NE10_12.out).trans BK10.out); replace IM := Aside0.mk (IM.out.but33 BK12.out hk); replace BK12 := Aside0.mk hbox; replace HB := Aside0.mk hb; clear hbox hb hk)
       | ((with_reducible refine gate_store2 (t := 33) (x := .tmp 2) (y := .tmp 88) rfl ?_); refine ev_row (B := w.heap.size) (w0 := w) rfl 33 (.tmp 2) (.tmp 88) rfl rfl g2 #[.int .i64 0, .int .i64 0, .int .i64 0] ?hx ?hy 33 _ BK2.out (by kernel_rfl) rfl (by simp [Value.oneCell']) HB.out GE2.out ?_; (case hx => first | (go_simp; done) | rfl); (case hy => first | (go_simp; done) | rfl | (go_simp; rfl)); intro w12 hbox hb hk; replace BK10 := Aside0.mk ((hk _ (Ne.symm NE2_10.out)).trans BK10.out); replace BK12 := Aside0.mk ((hk _ (Ne.symm NE2_12.out)).trans BK12.out); replace IM := Aside0.mk (IM.out.but33 BK2.out hk); replace BK2 := Aside0.mk hbox; replace HB := Aside0.mk hb; have z10_0 : w12.cell? ⟨g10, 0, none⟩ = some (.int .i64 0) := (blk_cell BK10.out 0).trans rfl; have z10_1 : w12.cell? ⟨g10, 1, none⟩ = some (.int .i64 0) := (blk_cell BK10.out 1).trans rfl; have z10_2 : w12.cell? ⟨g10, 2, none⟩ = some (.int .i64 0) := (blk_cell BK10.out 2).trans rfl; have z2_0 : w12.cell? ⟨g2, 0, none⟩ = some (.int .i64 0) := (blk_cell BK2.out 0).trans rfl; have z2_1 : w12.cell? ⟨g2, 1, none⟩ = some (.int .i64 0) := (blk_cell BK2.out 1).trans rfl; have z2_2 : w12.cell? ⟨g2, 2, none⟩ = some (.int .i64 0) := (blk_cell BK2.out 2).trans rfl; have z12_0 : w12.cell? ⟨g12, 0, none⟩ = some (.int .i64 0) := (blk_cell BK12.out 0).trans rfl; have z12_1 : w12.cell? ⟨g12, 1, none⟩ = some (.int .i64 0) := (blk_cell BK12.out 1).trans rfl; have z12_2 : w12.cell? ⟨g12, 2, none⟩ = some (.int .i64 0) := (blk_cell BK12.out 2).trans rfl; clear hbox hb hk))
      go_ret
      exact ⟨rfl, HB.out⟩
set_option maxHeartbeats 4000000 in
set_option maxRecDepth 100000 in
theorem alikeNo4.calls (c : Col) (times : Int) (w : World) (hP : Pow w) (ht : I64 times) (hc : okC c = false) (h0 : c.r ≥ 0) (h1 : c.r ≤ 255) (h2 : c.g ≥ 0) (h3 : c.g ≤ 255) (h4 : ¬ c.b ≥ 0) :
    Calls Tryd.prog 5 #[.agg #[.int .i64 c.r, .int .i64 c.g, .int .i64 c.b], .int .i64 times] w fun e w' => e = .returned (.bool true) ∧ Below w.heap.size w w' := by
  have hu33 := Tryd.underlying33
  have HB := Aside0.mk (Below.refl w.heap.size w)
  have HP := Aside0.mk hP
  have HT := Aside0.mk ht
  have g21 : goodB 2 1 = true := by decide
  have G21 := Aside0.mk g21
  have d0 : decide (c.r ≥ 0) = true := decide_eq_true h0
  have d1 : decide (c.r ≤ 255) = true := decide_eq_true h1
  have d2 : decide (c.g ≥ 0) = true := decide_eq_true h2
  have d3 : decide (c.g ≤ 255) = true := decide_eq_true h3
  have d4 : decide (c.b ≥ 0) = false := decide_eq_false h4
  have HC := Aside0.mk hc
  clear hc h0 h1 h2 h3 h4
  clear hP ht g21
  go_enter Tryd.func5, Tryd.ntmps5
  go_wp2_with (first
   | ((with_reducible refine gate_dst (N := 2) rfl ?_); refine box_event ?hg (N := 2) ?hd (cs := #[.int .i64 c.r, .int .i64 c.g, .int .i64 c.b]) (t := 33) ?hr ?_; (case hd => rfl); (case hg => rfl); (case hr => first | (go_simp; done) | (go_simp; rfl)); intro g2 hg w1 hbox hb; have BK2 := Aside0.mk hbox; have GE2 := Aside0.mk (bG hg HB.out); replace HB := Aside0.mk (below_step HB.out hb); clear hg hbox hb)
   | (go_at_call 7; (with_reducible refine (alive.calls _ (HP.out.on HB.out)).mono ?_); rintro e w2 ⟨rfl, hb⟩; replace BK2 := Aside0.mk (blk_below BK2.out hb); replace HB := Aside0.mk (below_step HB.out hb); clear hb)
   | (go_at_call 8; (with_reducible refine (newOk.calls 2 1 _ G21.out).mono ?_); rintro e w3 ⟨a, mb, rfl, hi, ha, hm, hb⟩; have IM := Aside0.mk hi; have GM := Aside0.mk (Nat.le_trans HB.out.size hm); have NB := Aside0.mk (Nat.ne_of_lt (Nat.lt_of_lt_of_le (blk_lt BK2.out) hm)); replace BK2 := Aside0.mk (blk_below BK2.out hb); replace HB := Aside0.mk (below_step HB.out hb); have y0 : w3.cell? ⟨g2, 0, none⟩ = some (.int .i64 c.r) := (blk_cell BK2.out 0).trans rfl; have y1 : w3.cell? ⟨g2, 1, none⟩ = some (.int .i64 c.g) := (blk_cell BK2.out 1).trans rfl; have y2 : w3.cell? ⟨g2, 2, none⟩ = some (.int .i64 c.b) := (blk_cell BK2.out 2).trans rfl; clear hi ha hm hb))
  obtain ⟨T, hT⟩ : ∃ T : Nat, (T : Int) = times % 16 + 1 := ⟨(times % 16 + 1).toNat, by omega⟩
  have HTT := Aside0.mk hT
  have t0 : 0 ≤ times % 16 := by omega
  have t1 : times % 16 ≤ 15 := by omega
  clear y0 y1 y2 hT
  go_loopg [8] T (fun kq v8 w' => ∃ j : Nat, v8 = .int .i64 j ∧ ∃ W, W = w' ∧ Aside0 (j + kq = T) ∧ Aside0 (Img W a mb j 2 1 (manyM c j)) ∧ Aside0 (W.heap[g2]? = some (.cells #[.int .i64 c.r, .int .i64 c.g, .int .i64 c.b] 33 (0, 0))) ∧ Aside0 (Below w.heap.size w W))
  case atStart => exact ⟨0, rfl, _, rfl, ⟨by omega⟩, IM, BK2, HB⟩
  case round =>
    clear IM BK2 HB
    obtain ⟨j, rfl, W, rfl, HJ, IM, BK2, HB⟩ := hrel
    have hj := HJ.out
    have htt := HTT.out
    by_cases hlt : j < T
    · have e1 : decide ((j : Int) ≤ times % 16) = true := decide_eq_true (by omega)
      have j16 : j ≤ 15 := by omega
      have y0 : W.cell? ⟨g2, 0, none⟩ = some (.int .i64 c.r) := (blk_cell BK2.out 0).trans rfl
      have y1 : W.cell? ⟨g2, 1, none⟩ = some (.int .i64 c.g) := (blk_cell BK2.out 1).trans rfl
      have y2 : W.cell? ⟨g2, 2, none⟩ = some (.int .i64 c.b) := (blk_cell BK2.out 2).trans rfl
      have AC := add1.calls c j W IM.out (by omega) 11 (many_e_no HC.out j)
      clear htt
      cases gk with
      | zero => omega
      | succ k1 =>
      go_wp2_with (go_at_call 9; (with_reducible refine AC.mono ?_); rintro e w4 ⟨rfl, hi, hq⟩; replace IM := Aside0.mk hi; replace BK2 := Aside0.mk ((hq.kept _ (blk_lt BK2.out) NB.out).trans BK2.out); replace HB := Aside0.mk (HB.out.trans (hq.below _ GM.out HB.out.size)); clear hi hq)
      go_roundg k1
      case measure => omega
      case rel => exact ⟨j + 1, by simp, _, rfl, ⟨by omega⟩, IM, BK2, HB⟩
    · have e1 : decide ((j : Int) ≤ times % 16) = false := decide_eq_false (by omega)
      have j1 : 1 ≤ j := by omega
      have j2 : j ≤ 16 := by omega
      have q1 := (by rw [many_no HC.out j]; exact zero_col : colR (manyM c j 1 0) = 0 ∧ colG (manyM c j 1 0) = 0 ∧ colB (manyM c j 1 0) = 0)
      have q2 := (by rw [many_no HC.out j]; exact zero_col : colR (manyM c j 0 0) = 0 ∧ colG (manyM c j 0 0) = 0 ∧ colB (manyM c j 0 0) = 0)
      have Q1 := Aside0.mk q1
      have Q2 := Aside0.mk q2
      have cs1 := col_same 0 0 0
      have cs2 := col_same 0 0 0
      clear q1 q2 htt
      go_wp2_with (first
       | (go_at_call 11; (with_reducible refine (at1.calls 1 (by omega) _ IM.out _ _ _ Q1.out).mono ?_); rintro e w5 ⟨rfl, hb⟩; replace IM := Aside0.mk (IM.out.below hb); replace BK2 := Aside0.mk (blk_below BK2.out hb); replace HB := Aside0.mk (below_step HB.out hb); clear hb)
       | (go_at_call 11; (with_reducible refine (at1.calls 0 (by omega) _ IM.out _ _ _ Q2.out).mono ?_); rintro e w6 ⟨rfl, hb⟩; replace IM := Aside0.mk (IM.out.below hb); replace BK2 := Aside0.mk (blk_below BK2.out hb); replace BK10 := Aside0.mk (blk_below BK10.out hb); replace HB := Aside0.mk (below_step HB.out hb); clear hb)
       | ((with_reducible refine gate_dst (N := 10) rfl ?_); refine box_event ?hg (N := 10) ?hd (cs := #[.int .i64 0, .int .i64 0, .int .i64 0]) (t := 33) ?hr ?_; (case hd => rfl); (case hg => rfl); (case hr => first | (go_simp; done) | (go_simp; rfl)); intro g10 hg w7 hbox hb; have BK10 := Aside0.mk hbox; have GE10 := Aside0.mk (bG hg HB.out); replace IM := Aside0.mk (IM.out.below hb); have NE2_10 := cN hg BK2; replace BK2 := cB hb BK2; replace HB := Aside0.mk (below_step HB.out hb); clear hg hbox hb)
       | ((with_reducible refine gate_store2 (t := 33) (x := .tmp 10) (y := .tmp 79) rfl ?_); refine ev_row (B := w.heap.size) (w0 := w) rfl 33 (.tmp 10) (.tmp 79) rfl rfl g10 #[.int .i64 0, .int .i64 0, .int .i64 0] ?hx ?hy 33 _ BK10.out (by kernel_rfl) rfl (by simp [Value.oneCell']) HB.out GE10.out ?_; (case hx => first | (go_simp; done) | rfl); (case hy => first | (go_simp; done) | rfl | (go_simp; rfl)); intro w8 hbox hb hk; replace BK2 := Aside0.mk ((hk _ NE2_10.out).trans BK2.out); replace IM := Aside0.mk (IM.out.but33 BK10.out hk); replace BK10 := Aside0.mk hbox; replace HB := Aside0.mk hb; clear hbox hb hk)
       | ((with_reducible refine gate_dst (N := 12) rfl ?_); refine box_event ?hg (N := 12) ?hd (cs := #[.int .i64 0, .int .i64 0, .int .i64 0]) (t := 33) ?hr ?_; (case hd => rfl); (case hg => rfl); (case hr => first | (go_simp; done) | (go_simp; rfl)); intro g12 hg w10 hbox hb; have BK12 := Aside0.mk hbox; have GE12 := Aside0.mk (bG hg HB.out); replace IM := Aside0.mk (IM.out.below hb); have NE2_12 := cN hg BK2; replace BK2 := cB hb BK2; have NE10_12 := cN hg BK10; replace BK10 := cB hb BK10; replace HB := Aside0.mk (below_step HB.out hb); clear hg hbox hb)
       | ((with_reducible refine gate_store2 (t := 33) (x := .tmp 12) (y := .tmp 84) rfl ?_); refine ev_row (B := w.heap.size) (w0 := w) rfl 33 (.tmp 12) (.tmp 84) rfl rfl g12 #[.int .i64 0, .int .i64 0, .int .i64 0] ?hx ?hy 33 _ BK12.out (by kernel_rfl) rfl (by simp [Value.oneCell']) HB.out GE12.out ?_; (case hx => first | (go_simp; done) | rfl); (case hy => first | (go_simp; done) | rfl | (go_simp; rfl)); intro w11 hbox hb hk; replace BK2 := Aside0.mk ((hk _ NE2_12.out).trans BK2.out); replace BK10 := Aside0.mk ((hk _ NE10_12.out).trans BK10.out); replace IM := Aside0.mk (IM.out.but33 BK12.out hk); replace BK12 := Aside0.mk hbox; replace HB := Aside0.mk hb; clear hbox hb hk)
       | ((with_reducible refine gate_store2 (t := 33) (x := .tmp 2) (y := .tmp 88) rfl ?_); refine ev_row (B := w.heap.size) (w0 := w) rfl 33 (.tmp 2) (.tmp 88) rfl rfl g2 #[.int .i64 0, .int .i64 0, .int .i64 0] ?hx ?hy 33 _ BK2.out (by kernel_rfl) rfl (by simp [Value.oneCell']) HB.out GE2.out ?_; (case hx => first | (go_simp; done) | rfl); (case hy => first | (go_simp; done) | rfl | (go_simp; rfl)); intro w12 hbox hb hk; replace BK10 := Aside0.mk ((hk _ (Ne.symm NE2_10.out)).trans BK10.out); replace BK12 := Aside0.mk ((hk _ (Ne.symm NE2_12.out)).trans BK12.out); replace IM := Aside0.mk (IM.out.but33 BK2.out hk); replace BK2 := Aside0.mk hbox; replace HB := Aside0.mk hb; have z10_0 : w12.cell? ⟨g10, 0, none⟩ = some (.int .i64 0) := (blk_cell BK10.out 0).trans rfl; have z10_1 : w12.cell? ⟨g10, 1, none⟩ = some (.int .i64 0) := (blk_cell BK10.out 1).trans rfl; have z10_2 : w12.cell? ⟨g10, 2, none⟩ = some (.int .i64 0) := (blk_cell BK10.out 2).trans rfl; have z2_0 : w12.cell? ⟨g2, 0, none⟩ = some (.int .i64 0) := (blk_cell BK2.out 0).trans rfl; have z2_1 : w12.cell? ⟨g2, 1, none⟩ = some (.int .i64 0) := (blk_cell BK2.out 1).trans rfl; have z2_2 : w12.cell? ⟨g2, 2, none⟩ = some (.int .i64 0) := (blk_cell BK2.out 2).trans rfl; have z12_0 : w12.cell? ⟨g12, 0, none⟩ = some (.int .i64 0) := (blk_cell BK12.out 0).trans rfl; have z12_1 : w12.cell? ⟨g12, 1, none⟩ = some (.int .i64 0) := (blk_cell BK12.out 1).trans rfl; have z12_2 : w12.cell? ⟨g12, 2, none⟩ = some (.int .i64 0) := (blk_cell BK12.out 2).trans rfl; clear hbox hb hk))
      go_ret
      exact ⟨rfl, HB.out⟩
set_option maxHeartbeats 4000000 in
set_option maxRecDepth 100000 in
theorem alikeNo5.calls (c : Col) (times : Int) (w : World) (hP : Pow w) (ht : I64 times) (hc : okC c = false) (h0 : c.r ≥ 0) (h1 : c.r ≤ 255) (h2 : c.g ≥ 0) (h3 : c.g ≤ 255) (h4 : c.b ≥ 0) (h5 : ¬ c.b ≤ 255) :
    Calls Tryd.prog 5 #[.agg #[.int .i64 c.r, .int .i64 c.g, .int .i64 c.b], .int .i64 times] w fun e w' => e = .returned (.bool true) ∧ Below w.heap.size w w' := by
  have hu33 := Tryd.underlying33
  have HB := Aside0.mk (Below.refl w.heap.size w)
  have HP := Aside0.mk hP
  have HT := Aside0.mk ht
  have g21 : goodB 2 1 = true := by decide
  have G21 := Aside0.mk g21
  have d0 : decide (c.r ≥ 0) = true := decide_eq_true h0
  have d1 : decide (c.r ≤ 255) = true := decide_eq_true h1
  have d2 : decide (c.g ≥ 0) = true := decide_eq_true h2
  have d3 : decide (c.g ≤ 255) = true := decide_eq_true h3
  have d4 : decide (c.b ≥ 0) = true := decide_eq_true h4
  have d5 : decide (c.b ≤ 255) = false := decide_eq_false h5
  have HC := Aside0.mk hc
  clear hc h0 h1 h2 h3 h4 h5
  clear hP ht g21
  go_enter Tryd.func5, Tryd.ntmps5
  go_wp2_with (first
   | ((with_reducible refine gate_dst (N := 2) rfl ?_); refine box_event ?hg (N := 2) ?hd (cs := #[.int .i64 c.r, .int .i64 c.g, .int .i64 c.b]) (t := 33) ?hr ?_; (case hd => rfl); (case hg => rfl); (case hr => first | (go_simp; done) | (go_simp; rfl)); intro g2 hg w1 hbox hb; have BK2 := Aside0.mk hbox; have GE2 := Aside0.mk (bG hg HB.out); replace HB := Aside0.mk (below_step HB.out hb); clear hg hbox hb)
   | (go_at_call 7; (with_reducible refine (alive.calls _ (HP.out.on HB.out)).mono ?_); rintro e w2 ⟨rfl, hb⟩; replace BK2 := Aside0.mk (blk_below BK2.out hb); replace HB := Aside0.mk (below_step HB.out hb); clear hb)
   | (go_at_call 8; (with_reducible refine (newOk.calls 2 1 _ G21.out).mono ?_); rintro e w3 ⟨a, mb, rfl, hi, ha, hm, hb⟩; have IM := Aside0.mk hi; have GM := Aside0.mk (Nat.le_trans HB.out.size hm); have NB := Aside0.mk (Nat.ne_of_lt (Nat.lt_of_lt_of_le (blk_lt BK2.out) hm)); replace BK2 := Aside0.mk (blk_below BK2.out hb); replace HB := Aside0.mk (below_step HB.out hb); have y0 : w3.cell? ⟨g2, 0, none⟩ = some (.int .i64 c.r) := (blk_cell BK2.out 0).trans rfl; have y1 : w3.cell? ⟨g2, 1, none⟩ = some (.int .i64 c.g) := (blk_cell BK2.out 1).trans rfl; have y2 : w3.cell? ⟨g2, 2, none⟩ = some (.int .i64 c.b) := (blk_cell BK2.out 2).trans rfl; clear hi ha hm hb))
  obtain ⟨T, hT⟩ : ∃ T : Nat, (T : Int) = times % 16 + 1 := ⟨(times % 16 + 1).toNat, by omega⟩
  have HTT := Aside0.mk hT
  have t0 : 0 ≤ times % 16 := by omega
  have t1 : times % 16 ≤ 15 := by omega
  clear y0 y1 y2 hT
  go_loopg [8] T (fun kq v8 w' => ∃ j : Nat, v8 = .int .i64 j ∧ ∃ W, W = w' ∧ Aside0 (j + kq = T) ∧ Aside0 (Img W a mb j 2 1 (manyM c j)) ∧ Aside0 (W.heap[g2]? = some (.cells #[.int .i64 c.r, .int .i64 c.g, .int .i64 c.b] 33 (0, 0))) ∧ Aside0 (Below w.heap.size w W))
  case atStart => exact ⟨0, rfl, _, rfl, ⟨by omega⟩, IM, BK2, HB⟩
  case round =>
    clear IM BK2 HB
    obtain ⟨j, rfl, W, rfl, HJ, IM, BK2, HB⟩ := hrel
    have hj := HJ.out
    have htt := HTT.out
    by_cases hlt : j < T
    · have e1 : decide ((j : Int) ≤ times % 16) = true := decide_eq_true (by omega)
      have j16 : j ≤ 15 := by omega
      have y0 : W.cell? ⟨g2, 0, none⟩ = some (.int .i64 c.r) := (blk_cell BK2.out 0).trans rfl
      have y1 : W.cell? ⟨g2, 1, none⟩ = some (.int .i64 c.g) := (blk_cell BK2.out 1).trans rfl
      have y2 : W.cell? ⟨g2, 2, none⟩ = some (.int .i64 c.b) := (blk_cell BK2.out 2).trans rfl
      have AC := add1.calls c j W IM.out (by omega) 11 (many_e_no HC.out j)
      clear htt
      cases gk with
      | zero => omega
      | succ k1 =>
      go_wp2_with (go_at_call 9; (with_reducible refine AC.mono ?_); rintro e w4 ⟨rfl, hi, hq⟩; replace IM := Aside0.mk hi; replace BK2 := Aside0.mk ((hq.kept _ (blk_lt BK2.out) NB.out).trans BK2.out); replace HB := Aside0.mk (HB.out.trans (hq.below _ GM.out HB.out.size)); clear hi hq)
      go_roundg k1
      case measure => omega
      case rel => exact ⟨j + 1, by simp, _, rfl, ⟨by omega⟩, IM, BK2, HB⟩
    · have e1 : decide ((j : Int) ≤ times % 16) = false := decide_eq_false (by omega)
      have j1 : 1 ≤ j := by omega
      have j2 : j ≤ 16 := by omega
      have q1 := (by rw [many_no HC.out j]; exact zero_col : colR (manyM c j 1 0) = 0 ∧ colG (manyM c j 1 0) = 0 ∧ colB (manyM c j 1 0) = 0)
      have q2 := (by rw [many_no HC.out j]; exact zero_col : colR (manyM c j 0 0) = 0 ∧ colG (manyM c j 0 0) = 0 ∧ colB (manyM c j 0 0) = 0)
      have Q1 := Aside0.mk q1
      have Q2 := Aside0.mk q2
      have cs1 := col_same 0 0 0
      have cs2 := col_same 0 0 0
      clear q1 q2 htt
      go_wp2_with (first
       | (go_at_call 11; (with_reducible refine (at1.calls 1 (by omega) _ IM.out _ _ _ Q1.out).mono ?_); rintro e w5 ⟨rfl, hb⟩; replace IM := Aside0.mk (IM.out.below hb); replace BK2 := Aside0.mk (blk_below BK2.out hb); replace HB := Aside0.mk (below_step HB.out hb); clear hb)
       | (go_at_call 11; (with_reducible refine (at1.calls 0 (by omega) _ IM.out _ _ _ Q2.out).mono ?_); rintro e w6 ⟨rfl, hb⟩; replace IM := Aside0.mk (IM.out.below hb); replace BK2 := Aside0.mk (blk_below BK2.out hb); replace BK10 := Aside0.mk (blk_below BK10.out hb); replace HB := Aside0.mk (below_step HB.out hb); clear hb)
       | ((with_reducible refine gate_dst (N := 10) rfl ?_); refine box_event ?hg (N := 10) ?hd (cs := #[.int .i64 0, .int .i64 0, .int .i64 0]) (t := 33) ?hr ?_; (case hd => rfl); (case hg => rfl); (case hr => first | (go_simp; done) | (go_simp; rfl)); intro g10 hg w7 hbox hb; have BK10 := Aside0.mk hbox; have GE10 := Aside0.mk (bG hg HB.out); replace IM := Aside0.mk (IM.out.below hb); have NE2_10 := cN hg BK2; replace BK2 := cB hb BK2; replace HB := Aside0.mk (below_step HB.out hb); clear hg hbox hb)
       | ((with_reducible refine gate_store2 (t := 33) (x := .tmp 10) (y := .tmp 79) rfl ?_); refine ev_row (B := w.heap.size) (w0 := w) rfl 33 (.tmp 10) (.tmp 79) rfl rfl g10 #[.int .i64 0, .int .i64 0, .int .i64 0] ?hx ?hy 33 _ BK10.out (by kernel_rfl) rfl (by simp [Value.oneCell']) HB.out GE10.out ?_; (case hx => first | (go_simp; done) | rfl); (case hy => first | (go_simp; done) | rfl | (go_simp; rfl)); intro w8 hbox hb hk; replace BK2 := Aside0.mk ((hk _ NE2_10.out).trans BK2.out); replace IM := Aside0.mk (IM.out.but33 BK10.out hk); replace BK10 := Aside0.mk hbox; replace HB := Aside0.mk hb; clear hbox hb hk)
       | ((with_reducible refine gate_dst (N := 12) rfl ?_); refine box_event ?hg (N := 12) ?hd (cs := #[.int .i64 0, .int .i64 0, .int .i64 0]) (t := 33) ?hr ?_; (case hd => rfl); (case hg => rfl); (case hr => first | (go_simp; done) | (go_simp; rfl)); intro g12 hg w10 hbox hb; have BK12 := Aside0.mk hbox; have GE12 := Aside0.mk (bG hg HB.out); replace IM := Aside0.mk (IM.out.below hb); have NE2_12 := cN hg BK2; replace BK2 := cB hb BK2; have NE10_12 := cN hg BK10; replace BK10 := cB hb BK10; replace HB := Aside0.mk (below_step HB.out hb); clear hg hbox hb)
       | ((with_reducible refine gate_store2 (t := 33) (x := .tmp 12) (y := .tmp 84) rfl ?_); refine ev_row (B := w.heap.size) (w0 := w) rfl 33 (.tmp 12) (.tmp 84) rfl rfl g12 #[.int .i64 0, .int .i64 0, .int .i64 0] ?hx ?hy 33 _ BK12.out (by kernel_rfl) rfl (by simp [Value.oneCell']) HB.out GE12.out ?_; (case hx => first | (go_simp; done) | rfl); (case hy => first | (go_simp; done) | rfl | (go_simp; rfl)); intro w11 hbox hb hk; replace BK2 := Aside0.mk ((hk _ NE2_12.out).trans BK2.out); replace BK10 := Aside0.mk ((hk _ NE10_12.out).trans BK10.out); replace IM := Aside0.mk (IM.out.but33 BK12.out hk); replace BK12 := Aside0.mk hbox; replace HB := Aside0.mk hb; clear hbox hb hk)
       | ((with_reducible refine gate_store2 (t := 33) (x := .tmp 2) (y := .tmp 88) rfl ?_); refine ev_row (B := w.heap.size) (w0 := w) rfl 33 (.tmp 2) (.tmp 88) rfl rfl g2 #[.int .i64 0, .int .i64 0, .int .i64 0] ?hx ?hy 33 _ BK2.out (by kernel_rfl) rfl (by simp [Value.oneCell']) HB.out GE2.out ?_; (case hx => first | (go_simp; done) | rfl); (case hy => first | (go_simp; done) | rfl | (go_simp; rfl)); intro w12 hbox hb hk; replace BK10 := Aside0.mk ((hk _ (Ne.symm NE2_10.out)).trans BK10.out); replace BK12 := Aside0.mk ((hk _ (Ne.symm NE2_12.out)).trans BK12.out); replace IM := Aside0.mk (IM.out.but33 BK2.out hk); replace BK2 := Aside0.mk hbox; replace HB := Aside0.mk hb; have z10_0 : w12.cell? ⟨g10, 0, none⟩ = some (.int .i64 0) := (blk_cell BK10.out 0).trans rfl; have z10_1 : w12.cell? ⟨g10, 1, none⟩ = some (.int .i64 0) := (blk_cell BK10.out 1).trans rfl; have z10_2 : w12.cell? ⟨g10, 2, none⟩ = some (.int .i64 0) := (blk_cell BK10.out 2).trans rfl; have z2_0 : w12.cell? ⟨g2, 0, none⟩ = some (.int .i64 0) := (blk_cell BK2.out 0).trans rfl; have z2_1 : w12.cell? ⟨g2, 1, none⟩ = some (.int .i64 0) := (blk_cell BK2.out 1).trans rfl; have z2_2 : w12.cell? ⟨g2, 2, none⟩ = some (.int .i64 0) := (blk_cell BK2.out 2).trans rfl; have z12_0 : w12.cell? ⟨g12, 0, none⟩ = some (.int .i64 0) := (blk_cell BK12.out 0).trans rfl; have z12_1 : w12.cell? ⟨g12, 1, none⟩ = some (.int .i64 0) := (blk_cell BK12.out 1).trans rfl; have z12_2 : w12.cell? ⟨g12, 2, none⟩ = some (.int .i64 0) := (blk_cell BK12.out 2).trans rfl; clear hbox hb hk))
      go_ret
      exact ⟨rfl, HB.out⟩
theorem alike.calls (c : Col) (times : Int) (w : World) (hP : Pow w) (ht : I64 times) :
    Calls Tryd.prog 5 #[.agg #[.int .i64 c.r, .int .i64 c.g, .int .i64 c.b], .int .i64 times] w fun e w' => e = .returned (.bool true) ∧ Below w.heap.size w w' := by
  cases hc : okC c with
  | true => exact alikeYes.calls c times w hP ht hc
  | false =>
    by_cases h0 : c.r ≥ 0
    · by_cases h1 : c.r ≤ 255
      · by_cases h2 : c.g ≥ 0
        · by_cases h3 : c.g ≤ 255
          · by_cases h4 : c.b ≥ 0
            · by_cases h5 : c.b ≤ 255
              · simp only [okC, partB, Bool.and_eq_false_iff, decide_eq_false_iff_not] at hc
                omega
              · exact alikeNo5.calls c times w hP ht hc h0 h1 h2 h3 h4 h5
            · exact alikeNo4.calls c times w hP ht hc h0 h1 h2 h3 h4
          · exact alikeNo3.calls c times w hP ht hc h0 h1 h2 h3
        · exact alikeNo2.calls c times w hP ht hc h0 h1 h2
      · exact alikeNo1.calls c times w hP ht hc h0 h1
    · exact alikeNo0.calls c times w hP ht hc h0
end Go.Proofs.YtibecmeajopmeaaDoor.G
