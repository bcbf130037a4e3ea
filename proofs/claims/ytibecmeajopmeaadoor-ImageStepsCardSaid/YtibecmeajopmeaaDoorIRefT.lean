/- The document's At. -/
import Derived.Test.YtibecmeajopmeaaDoorIRefQ
import Derived.BigQuiet
namespace Go.Proofs.YtibecmeajopmeaaDoor.G
open Go.RowKit Go.Proofs.YtibecmeajopmeaaDoorW.PrintWords Go.Proofs.YtibecmeajopmeaaDoorW.PrintLast Go.Proofs.YtibecmeajopmeaaDoorW.PrintMore
set_option linter.unusedVariables false
set_option linter.unusedSimpArgs false
set_option maxHeartbeats 4000000 in
set_option maxRecDepth 100000 in
theorem ratNo0.calls {B b : Nat} {v : Value} {K : List S35} {W H : Int} (x y : Int) (w : World) (h : RIm B w b v K W H) (hK : ∀ s ∈ K, accB W H s = true) (hl : K.length ≤ 1000)  (h0 : x < 0) :
    Calls Tryd.prog 12 #[.pointer (some ⟨b, 0, none⟩), .int .i64 x, .int .i64 y] w (AtPost W H (foldM W H K) x y w) := by
  have hu33 := Tryd.underlying33
  have HB := Aside0.mk (Below.refl w.heap.size w)
  have IM := Aside0.mk h
  have HN : hasB W H x y = false := decide_eq_false (by omega)
  have HNN := Aside0.mk HN
  have d0 : decide (x < 0) = true := decide_eq_true h0
  clear h hl hK HN h0
  go_enter Tryd.func12, Tryd.ntmps12
  go_wp2_with (first
   | ((with_reducible refine gate_dst (N := 6) rfl ?_); refine box_event ?hg (N := 6) ?hd (cs := #[.int .i64 0, .int .i64 0, .int .i64 0]) (t := 33) ?hr ?_; (case hd => rfl); (case hg => rfl); (case hr => first | (go_simp; done) | (go_simp; rfl)); intro g6 hg W6 hbox hb; have BK6 := Aside0.mk hbox; have GE6 := Aside0.mk (bG hg HB.out); replace IM := Aside0.mk (IM.out.below hb); replace HB := Aside0.mk (below_step HB.out hb); have c0 := IM.out.c0; have c1 := IM.out.c1; clear hg hbox hb)
   | ((with_reducible refine gate_store2 (t := 33) (x := .tmp 6) (y := .tmp 33) rfl ?_); refine ev_row (B := w.heap.size) (w0 := w) rfl 33 (.tmp 6) (.tmp 33) rfl rfl g6 #[.int .i64 0, .int .i64 0, .int .i64 0] ?hx ?hy 33 _ BK6.out (by kernel_rfl) rfl (by simp [Value.oneCell']) HB.out GE6.out ?_; (case hx => first | (go_simp; done) | rfl); (case hy => first | (go_simp; done) | rfl | (go_simp; rfl)); intro W7 hbox hb hk; replace IM := Aside0.mk (IM.out.but BK6.out (by decide) (by decide) hk); replace BK6 := Aside0.mk hbox; replace HB := Aside0.mk hb; clear hbox hb hk))
  refine bodyPost_ret (results_list (rs := [.cell 6 33, .tmp 7]) rfl (by simp) (.cell g6 33 _ (0, 0) _ rfl BK6.out hu33 rfl (by kernel_rfl) (.tmp .nil))) rfl ?_
  exact ⟨by rw [HNN.out]; rfl, HB.out⟩
set_option maxHeartbeats 4000000 in
set_option maxRecDepth 100000 in
theorem ratNo1.calls {B b : Nat} {v : Value} {K : List S35} {W H : Int} (x y : Int) (w : World) (h : RIm B w b v K W H) (hK : ∀ s ∈ K, accB W H s = true) (hl : K.length ≤ 1000) (h0 : ¬ x < 0) (h1 : x ≥ W) :
    Calls Tryd.prog 12 #[.pointer (some ⟨b, 0, none⟩), .int .i64 x, .int .i64 y] w (AtPost W H (foldM W H K) x y w) := by
  have hu33 := Tryd.underlying33
  have HB := Aside0.mk (Below.refl w.heap.size w)
  have IM := Aside0.mk h
  have HN : hasB W H x y = false := decide_eq_false (by omega)
  have HNN := Aside0.mk HN
  have d0 : decide (x < 0) = false := decide_eq_false h0
  have d1 : decide (x ≥ W) = true := decide_eq_true h1
  clear h hl hK HN h0 h1
  go_enter Tryd.func12, Tryd.ntmps12
  go_wp2_with (first
   | ((with_reducible refine gate_dst (N := 6) rfl ?_); refine box_event ?hg (N := 6) ?hd (cs := #[.int .i64 0, .int .i64 0, .int .i64 0]) (t := 33) ?hr ?_; (case hd => rfl); (case hg => rfl); (case hr => first | (go_simp; done) | (go_simp; rfl)); intro g6 hg W6 hbox hb; have BK6 := Aside0.mk hbox; have GE6 := Aside0.mk (bG hg HB.out); replace IM := Aside0.mk (IM.out.below hb); replace HB := Aside0.mk (below_step HB.out hb); have c0 := IM.out.c0; have c1 := IM.out.c1; clear hg hbox hb)
   | ((with_reducible refine gate_store2 (t := 33) (x := .tmp 6) (y := .tmp 33) rfl ?_); refine ev_row (B := w.heap.size) (w0 := w) rfl 33 (.tmp 6) (.tmp 33) rfl rfl g6 #[.int .i64 0, .int .i64 0, .int .i64 0] ?hx ?hy 33 _ BK6.out (by kernel_rfl) rfl (by simp [Value.oneCell']) HB.out GE6.out ?_; (case hx => first | (go_simp; done) | rfl); (case hy => first | (go_simp; done) | rfl | (go_simp; rfl)); intro W7 hbox hb hk; replace IM := Aside0.mk (IM.out.but BK6.out (by decide) (by decide) hk); replace BK6 := Aside0.mk hbox; replace HB := Aside0.mk hb; clear hbox hb hk))
  refine bodyPost_ret (results_list (rs := [.cell 6 33, .tmp 7]) rfl (by simp) (.cell g6 33 _ (0, 0) _ rfl BK6.out hu33 rfl (by kernel_rfl) (.tmp .nil))) rfl ?_
  exact ⟨by rw [HNN.out]; rfl, HB.out⟩
set_option maxHeartbeats 4000000 in
set_option maxRecDepth 100000 in
theorem ratNo2.calls {B b : Nat} {v : Value} {K : List S35} {W H : Int} (x y : Int) (w : World) (h : RIm B w b v K W H) (hK : ∀ s ∈ K, accB W H s = true) (hl : K.length ≤ 1000) (h0 : ¬ x < 0) (h1 : ¬ x ≥ W) (h2 : y < 0) :
    Calls Tryd.prog 12 #[.pointer (some ⟨b, 0, none⟩), .int .i64 x, .int .i64 y] w (AtPost W H (foldM W H K) x y w) := by
  have hu33 := Tryd.underlying33
  have HB := Aside0.mk (Below.refl w.heap.size w)
  have IM := Aside0.mk h
  have HN : hasB W H x y = false := decide_eq_false (by omega)
  have HNN := Aside0.mk HN
  have d0 : decide (x < 0) = false := decide_eq_false h0
  have d1 : decide (x ≥ W) = false := decide_eq_false h1
  have d2 : decide (y < 0) = true := decide_eq_true h2
  clear h hl hK HN h0 h1 h2
  go_enter Tryd.func12, Tryd.ntmps12
  go_wp2_with (first
   | ((with_reducible refine gate_dst (N := 6) rfl ?_); refine box_event ?hg (N := 6) ?hd (cs := #[.int .i64 0, .int .i64 0, .int .i64 0]) (t := 33) ?hr ?_; (case hd => rfl); (case hg => rfl); (case hr => first | (go_simp; done) | (go_simp; rfl)); intro g6 hg W6 hbox hb; have BK6 := Aside0.mk hbox; have GE6 := Aside0.mk (bG hg HB.out); replace IM := Aside0.mk (IM.out.below hb); replace HB := Aside0.mk (below_step HB.out hb); have c0 := IM.out.c0; have c1 := IM.out.c1; clear hg hbox hb)
   | ((with_reducible refine gate_store2 (t := 33) (x := .tmp 6) (y := .tmp 33) rfl ?_); refine ev_row (B := w.heap.size) (w0 := w) rfl 33 (.tmp 6) (.tmp 33) rfl rfl g6 #[.int .i64 0, .int .i64 0, .int .i64 0] ?hx ?hy 33 _ BK6.out (by kernel_rfl) rfl (by simp [Value.oneCell']) HB.out GE6.out ?_; (case hx => first | (go_simp; done) | rfl); (case hy => first | (go_simp; done) | rfl | (go_simp; rfl)); intro W7 hbox hb hk; replace IM := Aside0.mk (IM.out.but BK6.out (by decide) (by decide) hk); replace BK6 := Aside0.mk hbox; replace HB := Aside0.mk hb; clear hbox hb hk))
  refine bodyPost_ret (results_list (rs := [.cell 6 33, .tmp 7]) rfl (by simp) (.cell g6 33 _ (0, 0) _ rfl BK6.out hu33 rfl (by kernel_rfl) (.tmp .nil))) rfl ?_
  exact ⟨by rw [HNN.out]; rfl, HB.out⟩
set_option maxHeartbeats 4000000 in
set_option maxRecDepth 100000 in
theorem ratNo3.calls {B b : Nat} {v : Value} {K : List S35} {W H : Int} (x y : Int) (w : World) (h : RIm B w b v K W H) (hK : ∀ s ∈ K, accB W H s = true) (hl : K.length ≤ 1000) (h0 : ¬ x < 0) (h1 : ¬ x ≥ W) (h2 : ¬ y < 0) (h3 : y ≥ H) :
    Calls Tryd.prog 12 #[.pointer (some ⟨b, 0, none⟩), .int .i64 x, .int .i64 y] w (AtPost W H (foldM W H K) x y w) := by
  have hu33 := Tryd.underlying33
  have HB := Aside0.mk (Below.refl w.heap.size w)
  have IM := Aside0.mk h
  have HN : hasB W H x y = false := decide_eq_false (by omega)
  have HNN := Aside0.mk HN
  have d0 : decide (x < 0) = false := decide_eq_false h0
  have d1 : decide (x ≥ W) = false := decide_eq_false h1
  have d2 : decide (y < 0) = false := decide_eq_false h2
  have d3 : decide (y ≥ H) = true := decide_eq_true h3
  clear h hl hK HN h0 h1 h2 h3
  go_enter Tryd.func12, Tryd.ntmps12
  go_wp2_with (first
   | ((with_reducible refine gate_dst (N := 6) rfl ?_); refine box_event ?hg (N := 6) ?hd (cs := #[.int .i64 0, .int .i64 0, .int .i64 0]) (t := 33) ?hr ?_; (case hd => rfl); (case hg => rfl); (case hr => first | (go_simp; done) | (go_simp; rfl)); intro g6 hg W6 hbox hb; have BK6 := Aside0.mk hbox; have GE6 := Aside0.mk (bG hg HB.out); replace IM := Aside0.mk (IM.out.below hb); replace HB := Aside0.mk (below_step HB.out hb); have c0 := IM.out.c0; have c1 := IM.out.c1; clear hg hbox hb)
   | ((with_reducible refine gate_store2 (t := 33) (x := .tmp 6) (y := .tmp 33) rfl ?_); refine ev_row (B := w.heap.size) (w0 := w) rfl 33 (.tmp 6) (.tmp 33) rfl rfl g6 #[.int .i64 0, .int .i64 0, .int .i64 0] ?hx ?hy 33 _ BK6.out (by kernel_rfl) rfl (by simp [Value.oneCell']) HB.out GE6.out ?_; (case hx => first | (go_simp; done) | rfl); (case hy => first | (go_simp; done) | rfl | (go_simp; rfl)); intro W7 hbox hb hk; replace IM := Aside0.mk (IM.out.but BK6.out (by decide) (by decide) hk); replace BK6 := Aside0.mk hbox; replace HB := Aside0.mk hb; clear hbox hb hk))
  refine bodyPost_ret (results_list (rs := [.cell 6 33, .tmp 7]) rfl (by simp) (.cell g6 33 _ (0, 0) _ rfl BK6.out hu33 rfl (by kernel_rfl) (.tmp .nil))) rfl ?_
  exact ⟨by rw [HNN.out]; rfl, HB.out⟩
set_option maxHeartbeats 4000000 in
set_option maxRecDepth 100000 in
theorem ratYes.calls {B b : Nat} {v : Value} {K : List S35} {W H : Int} (x y : Int) (w : World) (h : RIm B w b v K W H) (hK : ∀ s ∈ K, accB W H s = true) (hl : K.length ≤ 1000) (h0 : ¬ x < 0) (h1 : ¬ x ≥ W) (h2 : ¬ y < 0) (h3 : ¬ y ≥ H) :
    Calls Tryd.prog 12 #[.pointer (some ⟨b, 0, none⟩), .int .i64 x, .int .i64 y] w (AtPost W H (foldM W H K) x y w) := by
  have hu33 := Tryd.underlying33
  have HB := Aside0.mk (Below.refl w.heap.size w)
  have IM := Aside0.mk h
  have HN : hasB W H x y = true := decide_eq_true (by omega)
  have HNN := Aside0.mk HN
  obtain ⟨A, c, rfl, hc, hC⟩ := Kd.R_reads h.row
  have HR := Aside0.mk hC
  have HL := Aside0.mk hl
  have HK := Aside0.mk hK
  have d0 : decide (x < 0) = false := decide_eq_false h0
  have d1 : decide (x ≥ W) = false := decide_eq_false h1
  have d2 : decide (y < 0) = false := decide_eq_false h2
  have d3 : decide (y ≥ H) = false := decide_eq_false h3
  clear h hl hK HN hc hC h0 h1 h2 h3
  go_enter Tryd.func12, Tryd.ntmps12
  go_wp2_with (first
   | ((with_reducible refine gate_dst (N := 6) rfl ?_); refine box_event ?hg (N := 6) ?hd (cs := #[.int .i64 0, .int .i64 0, .int .i64 0]) (t := 33) ?hr ?_; (case hd => rfl); (case hg => rfl); (case hr => first | (go_simp; done) | (go_simp; rfl)); intro g6 hg W6 hbox hb; have BK6 := Aside0.mk hbox; have GE6 := Aside0.mk (bG hg HB.out); replace IM := Aside0.mk (IM.out.below hb); replace HB := Aside0.mk (below_step HB.out hb); have c0 := IM.out.c0; have c1 := IM.out.c1; clear hg hbox hb)
   | ((with_reducible refine gate_dst (N := 9) rfl ?_); refine box_event ?hg (N := 9) ?hd (cs := #[.int .i64 0, .int .i64 0, .int .i64 0]) (t := 33) ?hr ?_; (case hd => rfl); (case hg => rfl); (case hr => first | (go_simp; done) | (go_simp; rfl)); intro g9 hg W9 hbox hb; have BK9 := Aside0.mk hbox; have GE9 := Aside0.mk (bG hg HB.out); replace IM := Aside0.mk (IM.out.below hb); have NE := cN hg BK6; replace BK6 := cB hb BK6; replace HB := Aside0.mk (below_step HB.out hb); clear hg hbox hb)
   | ((with_reducible refine gate_store2 (t := 33) (x := .tmp 9) (y := .tmp 34) rfl ?_); refine ev_row (B := w.heap.size) (w0 := w) rfl 33 (.tmp 9) (.tmp 34) rfl rfl g9 #[.int .i64 0, .int .i64 0, .int .i64 0] ?hx ?hy 33 _ BK9.out (by kernel_rfl) rfl (by simp [Value.oneCell']) HB.out GE9.out ?_; (case hx => first | (go_simp; done) | rfl); (case hy => first | (go_simp; done) | rfl | (go_simp; rfl)); intro W10 hbox hb hk; replace IM := Aside0.mk (IM.out.but BK9.out (by decide) (by decide) hk); replace BK6 := Aside0.mk ((hk _ NE.out).trans BK6.out); replace BK9 := Aside0.mk hbox; replace HB := Aside0.mk hb; clear hbox hb hk))
  go_loopg [8, 10] K.length (fun kq v8 v10 w' => ∃ j : Nat, v8 = .int .i64 (sumTo W H x y K j).n ∧ v10 = .int .i64 j ∧ ∃ W', W' = w' ∧ Aside0 (j + kq = K.length) ∧ Aside0 (RIm B W' b (.slice A K.length c) K W H) ∧ Aside0 (W'.heap[g9]? = some (.cells #[.int .i64 (sumTo W H x y K j).r, .int .i64 (sumTo W H x y K j).g, .int .i64 (sumTo W H x y K j).b] 33 (0, 0))) ∧ Aside0 (W'.heap[g6]? = some (.cells #[.int .i64 0, .int .i64 0, .int .i64 0] 33 (0, 0))) ∧ Aside0 (Below w.heap.size w W'))
  case atStart => exact ⟨0, rfl, rfl, _, rfl, ⟨by omega⟩, IM, BK9, BK6, HB⟩
  case round =>
    clear IM BK9 BK6 HB
    obtain ⟨j, rfl, rfl, W', rfl, HJ, IM, BK9, BK6, HB⟩ := hrel
    have hj := HJ.out
    have hl := HL.out
    have SG := sumTo_good (W := W) (H := H) (x := x) (y := y) (l := K) (j := j) (by omega) hl
    have c2 := IM.out.c2
    by_cases hlt : j < K.length
    · have e1 : decide ((j : Int) < (K.length : Int)) = true := decide_eq_true (by omega)
      obtain ⟨s, hs⟩ : ∃ s, K[j]? = some s := ⟨_, List.getElem?_eq_getElem hlt⟩
      have NX := Aside0.mk (sumTo_next (x := x) (y := y) hs (HK.out s (List.mem_of_getElem? hs)))
      obtain ⟨ad, rfl, _⟩ := at_T35 HR.out (j : Int) (by omega) (by omega)
      have AC := HK.out s (List.mem_of_getElem? hs)
      have X1 : Aside0 (∀ W'', Below w.heap.size w W'' → _) := ⟨fun W'' hb => at35 (Kd.C_below HR.out hb) hlt hs⟩
      obtain ⟨x0, x1, x2, x3, x4⟩ := X1.out W' HB.out
      have j0 : 0 ≤ (j : Int) := by omega
      have j1 : (j : Int) < (K.length : Int) := by omega
      unfold accB at AC
      have CB := okC_no (Bool.and_eq_true_iff.1 AC).2
      unfold colS at CB
      have SG1 := Aside0.mk SG
      have CB1 := Aside0.mk CB
      clear hs AC
      generalize sumTo W H x y K j = p at *
      cases gk with
      | zero => omega
      | succ k1 =>
      by_cases qx : s.f0 = x
      · have qx1 : (s.f0 == x) = true := beq_iff_eq.2 qx
        by_cases qy : s.f1 = y
        · have qy1 : (s.f1 == y) = true := beq_iff_eq.2 qy
          have NP := Aside0.mk (NX.out.trans (if_pos ⟨qx, qy⟩))
          have r0 : W'.cell? ⟨g9, 0, none⟩ = some (.int .i64 p.r) := (blk_cell BK9.out 0).trans rfl
          have f0 := blk_frozen BK9.out 0
          go_wp2
          go_region
          have p0 := put3 BK9.out 0 (.int .i64 (p.r + s.f2.f0)) rfl HB.out GE9.out
          replace IM := Aside0.mk (IM.out.but BK9.out (by decide) (by decide) p0.2.2)
          replace BK6 := Aside0.mk ((p0.2.2 _ NE.out).trans BK6.out)
          replace BK9 := Aside0.mk p0.1
          replace HB := Aside0.mk p0.2.1
          clear p0 r0 f0 c2 x0 x1 x2 x3 x4
          generalize (W'.setCell ⟨g9, 0, none⟩ (.int .i64 (p.r + s.f2.f0))).drew = W1 at *
          have c2 := IM.out.c2
          obtain ⟨x0, x1, x2, x3, x4⟩ := X1.out W1 HB.out
          have r1 : W1.cell? ⟨g9, 1, none⟩ = some (.int .i64 p.g) := (blk_cell BK9.out 1).trans rfl
          have f1 := blk_frozen BK9.out 1
          go_wp2
          go_region
          have p1 := put3 BK9.out 1 (.int .i64 (p.g + s.f2.f1)) rfl HB.out GE9.out
          replace IM := Aside0.mk (IM.out.but BK9.out (by decide) (by decide) p1.2.2)
          replace BK6 := Aside0.mk ((p1.2.2 _ NE.out).trans BK6.out)
          replace BK9 := Aside0.mk p1.1
          replace HB := Aside0.mk p1.2.1
          clear p1 r1 f1 c2 x0 x1 x2 x3 x4
          generalize (W1.setCell ⟨g9, 1, none⟩ (.int .i64 (p.g + s.f2.f1))).drew = W2 at *
          have c2 := IM.out.c2
          obtain ⟨x0, x1, x2, x3, x4⟩ := X1.out W2 HB.out
          have r2 : W2.cell? ⟨g9, 2, none⟩ = some (.int .i64 p.b) := (blk_cell BK9.out 2).trans rfl
          have f2 := blk_frozen BK9.out 2
          go_wp2
          go_region
          have p2 := put3 BK9.out 2 (.int .i64 (p.b + s.f2.f2)) rfl HB.out GE9.out
          replace IM := Aside0.mk (IM.out.but BK9.out (by decide) (by decide) p2.2.2)
          replace BK6 := Aside0.mk ((p2.2.2 _ NE.out).trans BK6.out)
          replace BK9 := Aside0.mk p2.1
          replace HB := Aside0.mk p2.2.1
          clear p2 r2 f2 c2 x0 x1 x2 x3 x4
          generalize (W2.setCell ⟨g9, 2, none⟩ (.int .i64 (p.b + s.f2.f2))).drew = W3 at *
          go_wp2
          go_roundg k1
          case measure => omega
          case rel => exact ⟨j + 1, by rw [NP.out]; rfl, by simp, _, rfl, ⟨by omega⟩, IM, ⟨by rw [NP.out]; exact BK9.out⟩, BK6, HB⟩
        · have qy1 : (s.f1 == y) = false := beq_eq_false_iff_ne.2 qy
          have NP := Aside0.mk (NX.out.trans (if_neg (fun h => qy h.2)))
          go_wp2
          go_roundg k1
          case measure => omega
          case rel => exact ⟨j + 1, by rw [NP.out], by simp, _, rfl, ⟨by omega⟩, IM, ⟨by rw [NP.out]; exact BK9.out⟩, BK6, HB⟩
      · have qx1 : (s.f0 == x) = false := beq_eq_false_iff_ne.2 qx
        have NP := Aside0.mk (NX.out.trans (if_neg (fun h => qx h.1)))
        go_wp2
        go_roundg k1
        case measure => omega
        case rel => exact ⟨j + 1, by rw [NP.out], by simp, _, rfl, ⟨by omega⟩, IM, ⟨by rw [NP.out]; exact BK9.out⟩, BK6, HB⟩
    · have e1 : decide ((j : Int) < (K.length : Int)) = false := decide_eq_false (by omega)
      have PA := sumTo_all (W := W) (H := H) (x := x) (y := y) hl
      have hjj : j = K.length := by omega
      rw [← hjj] at PA
      have PX := Aside0.mk PA
      clear PA hjj
      generalize sumTo W H x y K j = p at *
      by_cases hn : 0 < p.n
      · have e2 : decide (p.n > 0) = true := decide_eq_true hn
        have CS := Aside0.mk (col_some hn (by omega))
        have n0 : ¬ p.n = 0 := by omega
        have r0 : W'.cell? ⟨g9, 0, none⟩ = some (.int .i64 p.r) := (blk_cell BK9.out 0).trans rfl
        have f0 := blk_frozen BK9.out 0
        have r1 : W'.cell? ⟨g9, 1, none⟩ = some (.int .i64 p.g) := (blk_cell BK9.out 1).trans rfl
        have f1 := blk_frozen BK9.out 1
        have r2 : W'.cell? ⟨g9, 2, none⟩ = some (.int .i64 p.b) := (blk_cell BK9.out 2).trans rfl
        have f2 := blk_frozen BK9.out 2
        go_wp2
        go_region
        have q := putAll (x := .int .i64 (p.r / p.n)) (y := .int .i64 (p.g / p.n)) (z := .int .i64 (p.b / p.n)) BK9.out HB.out GE9.out
        replace IM := Aside0.mk (IM.out.but BK9.out (by decide) (by decide) q.2.2)
        replace BK6 := Aside0.mk ((q.2.2 _ NE.out).trans BK6.out)
        replace BK9 := Aside0.mk q.1
        replace HB := Aside0.mk q.2.1
        clear q r0 r1 r2 f0 f1 f2 c2
        generalize (((W'.setCell ⟨g9, 0, none⟩ (.int .i64 (p.r / p.n))).setCell ⟨g9, 1, none⟩ (.int .i64 (p.g / p.n))).setCell ⟨g9, 2, none⟩ (.int .i64 (p.b / p.n))).drew = W1 at *
        have r0 : W1.cell? ⟨g9, 0, none⟩ = some (.int .i64 (p.r / p.n)) := (blk_cell BK9.out 0).trans rfl
        have r1 : W1.cell? ⟨g9, 1, none⟩ = some (.int .i64 (p.g / p.n)) := (blk_cell BK9.out 1).trans rfl
        have r2 : W1.cell? ⟨g9, 2, none⟩ = some (.int .i64 (p.b / p.n)) := (blk_cell BK9.out 2).trans rfl
        go_wp2_with (first
         | ((with_reducible refine gate_store2 (t := 33) (x := .tmp 6) (y := .tmp 122) rfl ?_); refine ev_row (B := w.heap.size) (w0 := w) rfl 33 (.tmp 6) (.tmp 122) rfl rfl g6 #[.int .i64 (p.r / p.n), .int .i64 (p.g / p.n), .int .i64 (p.b / p.n)] ?hx ?hy 33 _ BK6.out (by kernel_rfl) rfl (by simp [Value.oneCell']) HB.out GE6.out ?_; (case hx => first | (go_simp; done) | rfl); (case hy => first | (go_simp; done) | rfl | (go_simp; rfl)); intro W20 hbox hb hk; replace IM := Aside0.mk (IM.out.but BK6.out (by decide) (by decide) hk); replace BK6 := Aside0.mk hbox; replace HB := Aside0.mk hb; clear hbox hb hk))
        refine bodyPost_ret (results_list (rs := [.cell 6 33, .tmp 7]) rfl (by simp) (.cell g6 33 _ (0, 0) _ rfl BK6.out hu33 rfl (by kernel_rfl) (.tmp .nil))) rfl ?_
        exact ⟨by rw [HNN.out, ← PX.out, CS.out.1, CS.out.2.1, CS.out.2.2]; rfl, HB.out⟩
      · have e2 : decide (p.n > 0) = false := decide_eq_false hn
        have CS := Aside0.mk (col_none hn (by omega) (by omega))
        have r0 : W'.cell? ⟨g9, 0, none⟩ = some (.int .i64 p.r) := (blk_cell BK9.out 0).trans rfl
        have f0 := blk_frozen BK9.out 0
        have r1 : W'.cell? ⟨g9, 1, none⟩ = some (.int .i64 p.g) := (blk_cell BK9.out 1).trans rfl
        have f1 := blk_frozen BK9.out 1
        have r2 : W'.cell? ⟨g9, 2, none⟩ = some (.int .i64 p.b) := (blk_cell BK9.out 2).trans rfl
        have f2 := blk_frozen BK9.out 2
        go_wp2_with (first
         | ((with_reducible refine gate_store2 (t := 33) (x := .tmp 6) (y := .tmp 122) rfl ?_); refine ev_row (B := w.heap.size) (w0 := w) rfl 33 (.tmp 6) (.tmp 122) rfl rfl g6 #[.int .i64 p.r, .int .i64 p.g, .int .i64 p.b] ?hx ?hy 33 _ BK6.out (by kernel_rfl) rfl (by simp [Value.oneCell']) HB.out GE6.out ?_; (case hx => first | (go_simp; done) | rfl); (case hy => first | (go_simp; done) | rfl | (go_simp; rfl)); intro W20 hbox hb hk; replace IM := Aside0.mk (IM.out.but BK6.out (by decide) (by decide) hk); replace BK6 := Aside0.mk hbox; replace HB := Aside0.mk hb; clear hbox hb hk))
        refine bodyPost_ret (results_list (rs := [.cell 6 33, .tmp 7]) rfl (by simp) (.cell g6 33 _ (0, 0) _ rfl BK6.out hu33 rfl (by kernel_rfl) (.tmp .nil))) rfl ?_
        exact ⟨by rw [HNN.out, ← PX.out, CS.out.1, CS.out.2.1, CS.out.2.2]; rfl, HB.out⟩
theorem rat.calls {B b : Nat} {v : Value} {K : List S35} {W H : Int} (x y : Int) (w : World) (h : RIm B w b v K W H) (hK : ∀ s ∈ K, accB W H s = true) (hl : K.length ≤ 1000) :
    Calls Tryd.prog 12 #[.pointer (some ⟨b, 0, none⟩), .int .i64 x, .int .i64 y] w (AtPost W H (foldM W H K) x y w) := by
  by_cases h0 : x < 0
  · exact ratNo0.calls x y w h hK hl h0
  by_cases h1 : x ≥ W
  · exact ratNo1.calls x y w h hK hl h0 h1
  by_cases h2 : y < 0
  · exact ratNo2.calls x y w h hK hl h0 h1 h2
  by_cases h3 : y ≥ H
  · exact ratNo3.calls x y w h hK hl h0 h1 h2 h3
  exact ratYes.calls x y w h hK hl h0 h1 h2 h3
end Go.Proofs.YtibecmeajopmeaaDoor.G
