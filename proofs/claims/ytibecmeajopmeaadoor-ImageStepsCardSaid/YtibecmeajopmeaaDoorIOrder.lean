/- The walk of ImageOrder. -/
import Derived.Test.YtibecmeajopmeaaDoorIOrderP
namespace Go.Proofs.YtibecmeajopmeaaDoor.G
open Go.RowKit Go.Proofs.YtibecmeajopmeaaDoorW.PrintWords Go.Proofs.YtibecmeajopmeaaDoorW.PrintLast Go.Proofs.YtibecmeajopmeaaDoorW.PrintMore
set_option linter.unusedVariables false
set_option linter.unusedSimpArgs false
theorem Img.but35 {w w1 : World} {a mb n k : Nat} {W H : Int} {M : Int → Int → Px} {old : Array Value} (h : Img w a mb n W H M) (hg : w.heap[k]? = some (.cells old 35 (0, 0))) (hk : ∀ i, i ≠ k → w1.heap[i]? = w.heap[i]?) : Img w1 a mb n W H M := by
  refine ⟨(hk a ?_).trans h.cells, h.map.same (hk mb ?_)⟩
  · rintro rfl
    have := h.cells
    rw [hg] at this
    injection this with this
    injection this with _ this _
    exact absurd this (by decide)
  · rintro rfl
    exact h.map.no_cells hg
theorem Img.kept {w w1 : World} {a mb n m : Nat} {W H : Int} {M : Int → Int → Px} (h : Img w a mb n W H M) (hk : ∀ k, k < w.heap.size → k ≠ m → w1.heap[k]? = w.heap[k]?) (h1 : a ≠ m) (h2 : mb ≠ m) : Img w1 a mb n W H M :=
  ⟨(hk a (blk_lt h.cells) h1).trans h.cells, h.map.same (hk mb h.map.lt h2)⟩
/-- A sample is added. -/
theorem addS.calls {a mb n : Nat} {W H : Int} {M : Int → Int → Px} (s : S35) (w : World) (h : Img w a mb n W H M) (hx : I64 s.f0) (hy : I64 s.f1) (hG : GoodM M) (hn : n < 1000000) :
    Calls Tryd.prog 9 #[.pointer (some ⟨a, 0, none⟩), .int .i64 s.f0, .int .i64 s.f1, .agg #[.int .i64 s.f2.f0, .int .i64 s.f2.f1, .int .i64 s.f2.f2]] w fun e w' => e = .returned (.int .i64 (addE W H s.f0 s.f1 (colS s) (M s.f0 s.f1))) ∧ Img w' a mb (n + 1) W H (stepM W H M s) ∧ Added a mb n W H M s.f0 s.f1 (colS s) w w' := by
  refine (add.calls s.f0 s.f1 (colS s) w h hx hy hG hn).mono ?_
  rintro e w' ⟨h1, h2⟩
  exact ⟨h1, h2.img, h2⟩
theorem at35 {w : World} {ad : Addr} {l : List S35} (h : Kd.C k35 w (some ad) l.length l) {j : Nat} (hj : j < l.length) {s : S35} (hs : l[j]? = some s) :
    w.cell? (ad.add (j * 5)) = some (.int .i64 s.f0) ∧ w.cell? ⟨(ad.add (j * 5)).block, (ad.add (j * 5)).off + 1, none⟩ = some (.int .i64 s.f1) ∧ w.cell? ⟨(ad.add (j * 5)).block, (ad.add (j * 5)).off + 2, none⟩ = some (.int .i64 s.f2.f0) ∧ w.cell? ⟨(ad.add (j * 5)).block, (ad.add (j * 5)).off + 3, none⟩ = some (.int .i64 s.f2.f1) ∧ w.cell? ⟨(ad.add (j * 5)).block, (ad.add (j * 5)).off + 4, none⟩ = some (.int .i64 s.f2.f2) := by
  obtain ⟨ad', e, h⟩ := at_T35 h (j : Int) (by omega) (by omega)
  injection e with e
  subst e
  have hr : rd_T35 l (j : Int) = s := by
    show l.getD (j : Int).toNat z35 = s
    rw [Int.toNat_natCast, List.getD_eq_getElem?_getD, hs]
    rfl
  rw [hr, Int.toNat_natCast] at h
  exact h
set_option maxHeartbeats 4000000 in
set_option maxRecDepth 100000 in
theorem orderLong.calls (W H turn : Int) (A : Option Addr) (c : Nat) (l : List S35) (w : World) (hP : Pow w) (hr : Kd.C k35 w A l.length l) (hc : l.length ≤ c) (hi : ∀ s ∈ l, I64 s.f0 ∧ I64 s.f1) (hlm : l.length ≤ 9223372036854775807) (htu : I64 turn) (hn : 300 < l.length) :
    Calls Tryd.prog 4 #[.int .i64 W, .int .i64 H, .slice A l.length c, .int .i64 turn] w fun e w' => e = .returned (.bool true) ∧ Below w.heap.size w w' := by
  have HB := Aside0.mk (Below.refl w.heap.size w)
  have HP := Aside0.mk hP
  have HR := Aside0.mk hr
  have HI := Aside0.mk hi
  have d1 : decide ((l.length : Int) > 300) = true := decide_eq_true (by omega)
  clear hP hr hc hi hn hlm htu
  go_enter Tryd.func4, Tryd.ntmps4
  go_wp2_with (first
   | (go_at_call 7; (with_reducible refine (alive.calls _ (HP.out.on HB.out)).mono ?_); rintro e w2 ⟨rfl, hb⟩; replace HB := Aside0.mk (below_step HB.out hb); clear hb))
  go_ret
  exact ⟨rfl, HB.out⟩
set_option maxHeartbeats 4000000 in
set_option maxRecDepth 100000 in
theorem orderLess.calls (W H turn : Int) (A : Option Addr) (c : Nat) (l : List S35) (w : World) (hP : Pow w) (hr : Kd.C k35 w A l.length l) (hc : l.length ≤ c) (hi : ∀ s ∈ l, I64 s.f0 ∧ I64 s.f1) (hlm : l.length ≤ 9223372036854775807) (htu : I64 turn) (hn : ¬ 300 < l.length) (ht : turn < 0) :
    Calls Tryd.prog 4 #[.int .i64 W, .int .i64 H, .slice A l.length c, .int .i64 turn] w fun e w' => e = .returned (.bool true) ∧ Below w.heap.size w w' := by
  have HB := Aside0.mk (Below.refl w.heap.size w)
  have HP := Aside0.mk hP
  have HR := Aside0.mk hr
  have HI := Aside0.mk hi
  have d1 : decide ((l.length : Int) > 300) = false := decide_eq_false (by omega)
  have d2 : decide (turn < 0) = true := decide_eq_true ht
  clear hP hr hc hi hn hlm htu ht
  go_enter Tryd.func4, Tryd.ntmps4
  go_wp2_with (first
   | (go_at_call 7; (with_reducible refine (alive.calls _ (HP.out.on HB.out)).mono ?_); rintro e w2 ⟨rfl, hb⟩; replace HB := Aside0.mk (below_step HB.out hb); clear hb))
  go_ret
  exact ⟨rfl, HB.out⟩
set_option maxHeartbeats 4000000 in
set_option maxRecDepth 100000 in
theorem orderBad.calls (W H turn : Int) (A : Option Addr) (c : Nat) (l : List S35) (w : World) (hP : Pow w) (hr : Kd.C k35 w A l.length l) (hc : l.length ≤ c) (hi : ∀ s ∈ l, I64 s.f0 ∧ I64 s.f1) (hlm : l.length ≤ 9223372036854775807) (htu : I64 turn) (hn : ¬ 300 < l.length) (ht : ¬ turn < 0) (hg : goodB W H = false) :
    Calls Tryd.prog 4 #[.int .i64 W, .int .i64 H, .slice A l.length c, .int .i64 turn] w fun e w' => e = .returned (.bool true) ∧ Below w.heap.size w w' := by
  have HB := Aside0.mk (Below.refl w.heap.size w)
  have HP := Aside0.mk hP
  have HR := Aside0.mk hr
  have HI := Aside0.mk hi
  have d1 : decide ((l.length : Int) > 300) = false := decide_eq_false (by omega)
  have d2 : decide (turn < 0) = false := decide_eq_false ht
  have HGD := Aside0.mk hg
  clear hP hr hc hi hn hlm htu ht hg
  go_enter Tryd.func4, Tryd.ntmps4
  go_wp2_with (first
   | (go_at_call 7; (with_reducible refine (alive.calls _ (HP.out.on HB.out)).mono ?_); rintro e w2 ⟨rfl, hb⟩; replace HB := Aside0.mk (below_step HB.out hb); clear hb)
   | (go_at_call 8; (with_reducible refine (newBad.calls W H _ HGD.out).mono ?_); rintro e w1 ⟨rfl, rfl⟩))
  go_ret
  exact ⟨rfl, HB.out⟩
set_option maxHeartbeats 4000000 in
set_option maxRecDepth 100000 in
theorem orderGood.calls (W H turn : Int) (A : Option Addr) (c : Nat) (l : List S35) (w : World) (hP : Pow w) (hr : Kd.C k35 w A l.length l) (hc : l.length ≤ c) (hi : ∀ s ∈ l, I64 s.f0 ∧ I64 s.f1) (hlm : l.length ≤ 9223372036854775807) (htu : I64 turn) (hn : ¬ 300 < l.length) (ht : ¬ turn < 0) (hg : goodB W H = true) :
    Calls Tryd.prog 4 #[.int .i64 W, .int .i64 H, .slice A l.length c, .int .i64 turn] w fun e w' => e = .returned (.bool true) ∧ Below w.heap.size w w' := by
  have HB := Aside0.mk (Below.refl w.heap.size w)
  have HP := Aside0.mk hP
  have HR := Aside0.mk hr
  have HI := Aside0.mk hi
  have d1 : decide ((l.length : Int) > 300) = false := decide_eq_false (by omega)
  have d2 : decide (turn < 0) = false := decide_eq_false ht
  have HGD := Aside0.mk hg
  obtain ⟨g1, g2, g3, g4⟩ := of_decide_eq_true hg
  obtain ⟨Wn, hW⟩ : ∃ n : Nat, (n : Int) = W := ⟨W.toNat, by omega⟩
  obtain ⟨Hn, hH⟩ : ∃ n : Nat, (n : Int) = H := ⟨H.toNat, by omega⟩
  subst hW hH
  have HWH : Aside0 (Wn ≤ 64 ∧ Hn ≤ 64) := ⟨by omega⟩
  have ll : (l.length : Int) ≤ 300 := by omega
  have tt : 0 ≤ turn := by omega
  obtain ⟨t, htq⟩ : ∃ t : Nat, turn.tmod (l.length : Int) = t := ⟨(turn.tmod (l.length : Int)).toNat, by have := Int.tmod_nonneg (l.length : Int) tt; omega⟩
  have HTL : Aside0 (0 < l.length → t < l.length) := ⟨fun h => by have := Int.tmod_lt_of_pos turn (show 0 < (l.length : Int) by omega); omega⟩
  have HC := Aside0.mk hc
  clear hP hr hc hi hn hlm ht hg
  go_enter Tryd.func4, Tryd.ntmps4
  go_wp2_with (first
   | (go_at_call 7; (with_reducible refine (alive.calls _ (HP.out.on HB.out)).mono ?_); rintro e w2 ⟨rfl, hb⟩; replace HB := Aside0.mk (below_step HB.out hb); clear hb)
   | (go_at_call 8; (with_reducible refine (newOk.calls Wn Hn _ HGD.out).mono ?_); rintro e w4 ⟨b, mb, rfl, hi, hb0, hm, hb⟩; have IB := Aside0.mk hi; have DIS : Aside0 (a ≠ mb ∧ ma ≠ mb ∧ b ≠ ma) := ⟨by have h1 := blk_lt IA.out.cells; have h2 := IA.out.map.lt; omega⟩; replace IA := Aside0.mk (IA.out.below hb); have GB := Aside0.mk (Nat.le_trans HB.out.size hm); replace HB := Aside0.mk (below_step HB.out hb); clear hi hb0 hm hb)
   | (go_at_call 8; (with_reducible refine (newOk.calls Wn Hn _ HGD.out).mono ?_); rintro e w3 ⟨a, ma, rfl, hi, ha, hm, hb⟩; have IA := Aside0.mk hi; have GA := Aside0.mk (Nat.le_trans HB.out.size hm); replace HB := Aside0.mk (below_step HB.out hb); clear hi ha hm hb))
  go_loopg [14] l.length (fun kq v14 w' => ∃ j : Nat, v14 = .int .i64 j ∧ ∃ W', W' = w' ∧ Aside0 (j + kq = l.length) ∧ Aside0 (Img W' a ma j Wn Hn (foldM Wn Hn (l.take j))) ∧ Aside0 (Img W' b mb j Wn Hn (foldM Wn Hn ((rot l t).take j))) ∧ Aside0 (Below w.heap.size w W'))
  case atStart => exact ⟨0, rfl, _, rfl, ⟨by omega⟩, IA, IB, HB⟩
  case round =>
    clear IA IB HB
    obtain ⟨j, rfl, W', rfl, HJ, IA, IB, HB⟩ := hrel
    have hj := HJ.out
    by_cases hlt : j < l.length
    · have e1 : decide ((j : Int) < (l.length : Int)) = true := decide_eq_true (by omega)
      have hT := HTL.out (by omega)
      have n0 : ¬ ((l.length : Int) = 0) := by omega
      obtain ⟨s, hs⟩ : ∃ s, l[j]? = some s := ⟨_, List.getElem?_eq_getElem hlt⟩
      obtain ⟨q, hq⟩ : ∃ q : Nat, (j + t) % l.length = q := ⟨_, rfl⟩
      have q1 : q < l.length := by rw [← hq]; exact Nat.mod_lt _ (by omega)
      obtain ⟨s2, hs2⟩ : ∃ s, l[q]? = some s := ⟨_, List.getElem?_eq_getElem q1⟩
      have hqq : ((j : Int) + (t : Int)).tmod (l.length : Int) = q := by
        rw [← hq, ← Int.natCast_add, Int.ofNat_tmod]
      have RS := Aside0.mk (fold_next Wn Hn l hs)
      have RS2 : Aside0 (foldM Wn Hn ((rot l t).take (j + 1)) = stepM Wn Hn (foldM Wn Hn ((rot l t).take j)) s2) := ⟨fold_next Wn Hn (rot l t) (by rw [rot_at l hT hlt, hq]; exact hs2)⟩
      have I1 := Aside0.mk (HI.out s (List.mem_of_getElem? hs))
      have I2 := Aside0.mk (HI.out s2 (List.mem_of_getElem? hs2))
      have GDA := Aside0.mk (fold_good Wn Hn (l.take j))
      have GDB := Aside0.mk (fold_good Wn Hn ((rot l t).take j))
      obtain ⟨ad, rfl, _⟩ := at_T35 HR.out (j : Int) (by omega) (by omega)
      have X1 : Aside0 (∀ W'', Below w.heap.size w W'' → _) := ⟨fun W'' hb => at35 (Kd.C_below HR.out hb) hlt hs⟩
      have X2 : Aside0 (∀ W'', Below w.heap.size w W'' → _) := ⟨fun W'' hb => at35 (Kd.C_below HR.out hb) q1 hs2⟩
      obtain ⟨x0, x1, x2, x3, x4⟩ := X1.out W' HB.out
      have j0 : 0 ≤ (j : Int) := by omega
      have j1 : (j : Int) < (l.length : Int) := by omega
      have k0 : 0 ≤ (q : Int) := by omega
      have k1' : (q : Int) < (l.length : Int) := by omega
      have t0 : 0 ≤ (t : Int) := by omega
      have t1 : (t : Int) < (l.length : Int) := by omega
      have HQ := Aside0.mk hq
      clear hs hs2 hq
      generalize foldM Wn Hn (l.take j) = MA at *
      generalize foldM Wn Hn ((rot l t).take j) = MB at *
      cases gk with
      | zero => omega
      | succ k1 =>
      go_wp2_with (first
       | ((with_reducible refine gate_dst (N := 15) rfl ?_); refine box_event ?hg (N := 15) ?hd (cs := #[.int .i64 0, .int .i64 0, .int .i64 0, .int .i64 0, .int .i64 0]) (t := 35) ?hr ?_; (case hd => rfl); (case hg => rfl); (case hr => first | (go_simp; done) | (go_simp; rfl)); intro g15 hg w5 hbox hb; have BK15 := Aside0.mk hbox; have GE15 := Aside0.mk (bG hg HB.out); replace IA := Aside0.mk (IA.out.below hb); replace IB := Aside0.mk (IB.out.below hb); replace HB := Aside0.mk (below_step HB.out hb); clear hg hbox hb)
       | ((with_reducible refine gate_store2 (t := 35) (x := .tmp 15) (y := .tmp 61) rfl ?_); refine ev_row (B := w.heap.size) (w0 := w) rfl 35 (.tmp 15) (.tmp 61) rfl rfl g15 #[.int .i64 s.f0, .int .i64 s.f1, .int .i64 s.f2.f0, .int .i64 s.f2.f1, .int .i64 s.f2.f2] ?hx ?hy 35 _ BK15.out (by kernel_rfl) rfl (by simp [Value.oneCell']) HB.out GE15.out ?_; (case hx => first | (go_simp; done) | rfl); (case hy => first | (go_simp; done) | rfl | (go_simp; rfl)); intro w6 hbox hb hk; replace IA := Aside0.mk (IA.out.but35 BK15.out hk); replace IB := Aside0.mk (IB.out.but35 BK15.out hk); replace BK15 := Aside0.mk hbox; replace HB := Aside0.mk hb; obtain ⟨v0, v1, v2, v3, v4⟩ := X2.out w6 HB.out; clear hbox hb hk)
       | ((with_reducible refine gate_dst (N := 16) rfl ?_); refine box_event ?hg (N := 16) ?hd (cs := #[.int .i64 0, .int .i64 0, .int .i64 0, .int .i64 0, .int .i64 0]) (t := 35) ?hr ?_; (case hd => rfl); (case hg => rfl); (case hr => first | (go_simp; done) | (go_simp; rfl)); intro g16 hg w7 hbox hb; have BK16 := Aside0.mk hbox; have GE16 := Aside0.mk (bG hg HB.out); replace IA := Aside0.mk (IA.out.below hb); replace IB := Aside0.mk (IB.out.below hb); have NE := cN hg BK15; replace BK15 := cB hb BK15; replace HB := Aside0.mk (below_step HB.out hb); clear hg hbox hb)
       | ((with_reducible refine gate_store2 (t := 35) (x := .tmp 16) (y := .tmp 71) rfl ?_); refine ev_row (B := w.heap.size) (w0 := w) rfl 35 (.tmp 16) (.tmp 71) rfl rfl g16 #[.int .i64 s2.f0, .int .i64 s2.f1, .int .i64 s2.f2.f0, .int .i64 s2.f2.f1, .int .i64 s2.f2.f2] ?hx ?hy 35 _ BK16.out (by kernel_rfl) rfl (by simp [Value.oneCell']) HB.out GE16.out ?_; (case hx => first | (go_simp; done) | rfl); (case hy => first | (go_simp; done) | rfl | (go_simp; rfl)); intro w8 hbox hb hk; replace BK15 := Aside0.mk ((hk _ NE.out).trans BK15.out); replace IA := Aside0.mk (IA.out.but35 BK16.out hk); replace IB := Aside0.mk (IB.out.but35 BK16.out hk); replace BK16 := Aside0.mk hbox; replace HB := Aside0.mk hb; have z15_0 : w8.cell? ⟨g15, 0, none⟩ = some (.int .i64 s.f0) := (blk_cell BK15.out 0).trans rfl; have z15_1 : w8.cell? ⟨g15, 1, none⟩ = some (.int .i64 s.f1) := (blk_cell BK15.out 1).trans rfl; have z15_2 : w8.cell? ⟨g15, 2, none⟩ = some (.int .i64 s.f2.f0) := (blk_cell BK15.out 2).trans rfl; have z15_3 : w8.cell? ⟨g15, 3, none⟩ = some (.int .i64 s.f2.f1) := (blk_cell BK15.out 3).trans rfl; have z15_4 : w8.cell? ⟨g15, 4, none⟩ = some (.int .i64 s.f2.f2) := (blk_cell BK15.out 4).trans rfl; clear hbox hb hk)
       | (go_at_call 9; (with_reducible refine (addS.calls s _ IA.out I1.out.1 I1.out.2 GDA.out (by omega)).mono ?_); rintro e w9 ⟨rfl, hi, hq⟩; have NG : g16 ≠ ma := fun e => IA.out.map.no_cells (by rw [← e]; exact BK16.out); replace IA := Aside0.mk hi; replace IB := Aside0.mk (IB.out.kept hq.kept DIS.out.2.2 (Ne.symm DIS.out.2.1)); replace BK16 := Aside0.mk ((hq.kept _ (blk_lt BK16.out) NG).trans BK16.out); replace HB := Aside0.mk (HB.out.trans (hq.below _ GA.out HB.out.size)); have z16_0 : w9.cell? ⟨g16, 0, none⟩ = some (.int .i64 s2.f0) := (blk_cell BK16.out 0).trans rfl; have z16_1 : w9.cell? ⟨g16, 1, none⟩ = some (.int .i64 s2.f1) := (blk_cell BK16.out 1).trans rfl; have z16_2 : w9.cell? ⟨g16, 2, none⟩ = some (.int .i64 s2.f2.f0) := (blk_cell BK16.out 2).trans rfl; have z16_3 : w9.cell? ⟨g16, 3, none⟩ = some (.int .i64 s2.f2.f1) := (blk_cell BK16.out 3).trans rfl; have z16_4 : w9.cell? ⟨g16, 4, none⟩ = some (.int .i64 s2.f2.f2) := (blk_cell BK16.out 4).trans rfl; clear hi hq NG)
       | (go_at_call 9; (with_reducible refine (addS.calls s2 _ IB.out I2.out.1 I2.out.2 GDB.out (by omega)).mono ?_); rintro e w10 ⟨rfl, hi, hq⟩; replace IB := Aside0.mk hi; replace IA := Aside0.mk (IA.out.kept hq.kept DIS.out.1 DIS.out.2.1); replace HB := Aside0.mk (HB.out.trans (hq.below _ GB.out HB.out.size)); clear hi hq))
      go_roundg k1
      case measure => omega
      case rel => exact ⟨j + 1, by simp, _, rfl, ⟨by omega⟩, ⟨by rw [RS.out]; exact IA.out⟩, ⟨by rw [RS2.out]; exact IB.out⟩, HB⟩
    · have e1 : decide ((j : Int) < (l.length : Int)) = false := decide_eq_false (by omega)
      have hE : foldM Wn Hn ((rot l t).take j) = foldM Wn Hn (l.take j) := by
        by_cases h0 : 0 < l.length
        · have hT := HTL.out h0
          have e2 : j = l.length := by omega
          rw [e2, List.take_length]
          have e3 : (rot l t).take l.length = rot l t := by rw [← rot_len l (Nat.le_of_lt hT), List.take_length]
          rw [e3]
          exact rot_fold Wn Hn l t (by omega) (Nat.le_of_lt hT)
        · have e2 : j = 0 := by omega
          rw [e2]
          rfl
      rw [hE] at IB
      clear hE
      generalize foldM Wn Hn (l.take j) = M at *
      have TA : ∀ w', Img w' a ma j Wn Hn M → Pow w' → Calls Tryd.prog 13 #[.pointer (some ⟨a, 0, none⟩)] w' (TextPost Wn Hn M w') := fun w' h hp => text.calls w' h HWH.out.1 HWH.out.2 hp
      have TB : ∀ w', Img w' b mb j Wn Hn M → Pow w' → Calls Tryd.prog 13 #[.pointer (some ⟨b, 0, none⟩)] w' (TextPost Wn Hn M w') := fun w' h hp => text.calls w' h HWH.out.1 HWH.out.2 hp
      unfold TextPost at TA TB
      generalize (⟨(textB Wn Hn M).toArray⟩ : ByteArray) = tx at *
      go_wp2_with (first
       | (go_at_call 13; (with_reducible refine (TA _ IA.out (HP.out.on HB.out)).mono ?_); rintro e w20 ⟨rfl, hb⟩; replace IB := Aside0.mk (IB.out.below hb); replace HB := Aside0.mk (below_step HB.out hb); clear hb)
       | (go_at_call 13; (with_reducible refine (TB _ IB.out (HP.out.on HB.out)).mono ?_); rintro e w21 ⟨rfl, hb⟩; replace HB := Aside0.mk (below_step HB.out hb); clear hb))
      go_ret
      exact ⟨rfl, HB.out⟩
end Go.Proofs.YtibecmeajopmeaaDoor.G
