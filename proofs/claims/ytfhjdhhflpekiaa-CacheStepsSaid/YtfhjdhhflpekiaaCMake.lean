/- What Make answers. -/
import Derived.Test.YtfhjdhhflpekiaaCKA
namespace Go.Proofs.Ytfhjdhhflpekiaa.G
open Go.RowKit Go.Proofs.Cache Go.Proofs.YtfhjdhhflpekiaaW.PrintWords Go.Proofs.YtfhjdhhflpekiaaW.PrintLast Go.Proofs.YtfhjdhhflpekiaaW.PrintMore
set_option linter.unusedVariables false
set_option linter.unusedSimpArgs false
section
variable {P : Program} {ops : Array Oper} {rest : List Oper} {o : Oper} {a : Act} {Q : Exit → Act → World → Prop}
/-- A slice is made of new cells. -/
theorem lit_event {W : World} (hgd : o.guard = none) {N : Tmp} (_hd : o.dst = some N) {cs : Array Value} {t : TypeId} {n c : Nat}
    (hrun : (execOp a.eval o).run P W = .ok (.value (.slice (some ⟨W.heap.size, 0, none⟩) n c)) (W.alloc (.cells cs t (0, 0))))
    (h : ∀ g, g = W.heap.size → ∀ w1, w1.heap[g]? = some (.cells cs t (0, 0)) → Below W.heap.size W w1 → wpList P ops Q rest (a.put o.dst (.slice (some ⟨g, 0, none⟩) n c)) w1) : wpList P ops Q (o :: rest) a W :=
  Kd.event_run hgd hrun (h _ rfl _ (blk_new W _) (below_alloc (Below.refl _ _) _))
end
theorem safe_blk {B : Bd} {w : World} {g : Nat} {cs : Array Value} {t : TypeId} {fr : Nat × Nat} (h : w.heap[g]? = some (.cells cs t fr)) (ht : dirty t = false) (h3 : t = 3 → ¬ B.N g) : SafeB B w g := ⟨blk_lt h, .inr ⟨_, _, _, h, ht, h3⟩⟩
theorem rd_v {B : Bd} {w : World} {g : Nat} {i : Int} (h : w.heap[g]? = some (.cells #[.int .i64 i, .int .i64 0, .int .i64 0] 69 (0, 0))) : Rd k69 B w (some ⟨g, 0, none⟩) [⟨i, 0, 0⟩] := by
  refine ⟨⟨rfl, by simp, fun _ => ⟨_, rfl, fun j p hj => ?_⟩⟩, fun _ a e => by cases e; exact safe_blk h rfl (fun q => absurd q (by decide))⟩
  rcases j with _ | j
  · cases hj
    refine ⟨_, rfl, k69_mk w _, fun q u hu => ?_⟩
    rw [add_plain, blk_cell h]
    show _ = _
    rw [show 0 * k69.sz + q = q by omega]
    rw [← hu]
    rcases q with _ | _ | _ | q <;> rfl
  · simp at hj
theorem rd_i {B : Bd} {w : World} {g : Nat} {i : Int} (h : w.heap[g]? = some (.cells #[.int .i64 i] 3 (0, 0))) (hN : ¬ B.N g) : Rd (Kd.int .i64) B w (some ⟨g, 0, none⟩) [i] := by
  refine ⟨⟨rfl, by simp, fun _ => ⟨_, rfl, fun j p hj => ?_⟩⟩, fun _ a e => by cases e; exact safe_blk h rfl (fun _ => hN)⟩
  rcases j with _ | j
  · cases hj
    refine ⟨[.int .i64 i], rfl, rfl, fun q u hu => ?_⟩
    rw [add_plain, blk_cell h, show 0 * (Kd.int .i64).sz + q = q by omega, ← hu]
    rcases q with _ | q <;> rfl
  · simp at hj
theorem rd_t {B : Bd} {w : World} {g n : Nat} (hn : n ≤ 9223372036854775807) (h : w.heap[g]? = some (.cells (madeCells #[.int .i64 0, .int .i64 0, .int .i64 0] (n * 3)) 73 (0, 0))) : Rd k73 B w (some ⟨g, 0, none⟩) (List.replicate n ⟨0, 0, 0⟩) := by
  refine ⟨⟨by simp, by simpa using hn, fun _ => ⟨_, rfl, fun j p hj => ?_⟩⟩, fun _ a e => by cases e; exact safe_blk h rfl (fun q => absurd q (by decide))⟩
  have hjn : j < n := by
    have := (List.getElem?_eq_some_iff.1 hj).1
    simpa using this
  have hp : p = ⟨0, 0, 0⟩ := by
    rw [List.getElem?_replicate, if_pos hjn] at hj
    cases hj
    rfl
  subst hp
  refine ⟨_, rfl, k73_mk w _, fun q u hu => ?_⟩
  have hq : q < 3 := (List.getElem?_eq_some_iff.1 hu).1
  have hu0 : u = .int .i64 0 := by
    rcases q with _ | _ | _ | q
    · cases hu; rfl
    · cases hu; rfl
    · cases hu; rfl
    · omega
  subst hu0
  rw [add_plain, blk_cell h]
  have hsz : j * k73.sz + q < (madeCells #[.int .i64 0, .int .i64 0, .int .i64 0] (n * 3)).size := by
    rw [size_madeCells]
    show j * 3 + q < n * 3
    omega
  rw [Array.getElem?_eq_getElem hsz]
  have hr : ∀ r, r < 3 → (#[Value.int .i64 0, .int .i64 0, .int .i64 0])[r]! = Value.int .i64 0 := by
    intro r hr
    rcases r with _ | _ | _ | r
    · rfl
    · rfl
    · rfl
    · omega
  simp only [madeCells, Array.getElem_map, Array.getElem_range]
  exact congrArg some (hr _ (Nat.mod_lt _ (by decide)))
def MakeBad (w : World) (x : Ending) (w' : World) : Prop :=
  x = .returned (.tuple #[.agg #[.slice none 0 0, .slice none 0 0, .slice none 0 0], .agg #[.slice none 0 0, .slice none 0 0], .int .i64 20]) ∧ Below w.heap.size w w'
def MakeGood (B : Bd) (i : Int) (n : Nat) (w : World) (x : Ending) (w' : World) : Prop :=
  ∃ m : Msh, m.i = i ∧ m.n = n ∧ x = .returned (.tuple #[.agg m.mesh, .agg m.tree, .int .i64 0]) ∧ Below w.heap.size w w' ∧ MshAt B w' m
set_option maxHeartbeats 2000000 in
set_option maxRecDepth 100000 in
theorem makeNeg.calls (mb : Nat) (i : Int) (w : World) (hi : i < 0) : Calls Try.prog 50 #[.pointer (some ⟨mb, 0, none⟩), .int .i64 i] w (MakeBad w) := by
  have hu40 := Try.underlying40
  have hu43 := Try.underlying43
  have HB := Aside0.mk (Below.refl w.heap.size w)
  have d1 : decide (i < 0) = true := decide_eq_true hi
  clear hi
  go_enter Try.func50, Try.ntmps50
  go_wp2_with (first
   | ((with_reducible refine gate_dst (N := 4) rfl ?_); refine box_event ?hg (N := 4) ?hd (cs := #[.slice none 0 0, .slice none 0 0, .slice none 0 0]) (t := 40) ?hr ?_; (case hd => rfl); (case hg => rfl); (case hr => first | (go_simp; done) | (go_simp; rfl)); intro g4 hg w3 hbox hb; have BK4 := Aside0.mk (hbox); have GE4 := Aside0.mk (bG hg (HB.out)); replace HB := Aside0.mk (below_step (HB.out) hb); clear hb hbox hg)
   | ((with_reducible refine gate_dst (N := 5) rfl ?_); refine box_event ?hg (N := 5) ?hd (cs := #[.slice none 0 0, .slice none 0 0]) (t := 43) ?hr ?_; (case hd => rfl); (case hg => rfl); (case hr => first | (go_simp; done) | (go_simp; rfl)); intro g5 hg w4 hbox hb; have BK5 := Aside0.mk (hbox); have GE5 := Aside0.mk (bG hg (HB.out)); have NE45 := cN hg BK4; replace HB := Aside0.mk (below_step (HB.out) hb); replace BK4 := cB hb BK4; clear hb hbox hg)
   | ((with_reducible refine gate_store2 (t := 40) (x := .tmp 4) (y := .tmp 28) rfl ?_); refine ev_row rfl 40 (.tmp 4) (.tmp 28) rfl rfl g4 #[.slice none 0 0, .slice none 0 0, .slice none 0 0] ?hx ?hy 40 _ BK4.out (by kernel_rfl) rfl (by simp [Value.oneCell']) HB.out GE4.out ?_; (case hx => first | (go_simp; done) | rfl); (case hy => first | (go_simp; done) | rfl | (go_simp; rfl)); intro w5 hbox hb hk; replace BK4 := Aside0.mk hbox; replace HB := Aside0.mk hb; replace BK5 := Aside0.mk ((hk _ (Ne.symm NE45.out)).trans BK5.out); clear hbox hb hk)
   | ((with_reducible refine gate_store2 (t := 43) (x := .tmp 5) (y := .tmp 29) rfl ?_); refine ev_row rfl 43 (.tmp 5) (.tmp 29) rfl rfl g5 #[.slice none 0 0, .slice none 0 0] ?hx ?hy 43 _ BK5.out (by kernel_rfl) rfl (by simp [Value.oneCell']) HB.out GE5.out ?_; (case hx => first | (go_simp; done) | rfl); (case hy => first | (go_simp; done) | rfl | (go_simp; rfl)); intro w6 hbox hb hk; replace BK5 := Aside0.mk hbox; replace HB := Aside0.mk hb; replace BK4 := Aside0.mk ((hk _ NE45.out).trans BK4.out); clear hbox hb hk))
  refine bodyPost_ret (results_list (rs := [.cell 4 40, .cell 5 43, .tmp 6]) rfl (by simp) (.cell g4 40 _ (0, 0) _ rfl BK4.out hu40 rfl (by kernel_rfl) (.cell g5 43 _ (0, 0) _ rfl BK5.out hu43 rfl (by kernel_rfl) (.tmp .nil)))) rfl ?_
  exact ⟨rfl, HB.out⟩
set_option maxHeartbeats 2000000 in
set_option maxRecDepth 100000 in
theorem makeFar.calls (B : Bd) (sizes : List Int) (mb : Nat) (i : Int) (w : World) (h : MadeAt B sizes w mb) (h0 : 0 ≤ i) (hi : (sizes.length : Int) ≤ i) : Calls Try.prog 50 #[.pointer (some ⟨mb, 0, none⟩), .int .i64 i] w (MakeBad w) := by
  have hu40 := Try.underlying40
  have hu43 := Try.underlying43
  have HB := Aside0.mk (Below.refl w.heap.size w)
  obtain ⟨A, c, hmb, hc, hr⟩ := h.made
  have BKM := Aside0.mk hmb
  have RS := Aside0.mk hr
  have hc' := hc
  have d1 : decide (i < 0) = false := decide_eq_false (by omega)
  have d2 : decide (i ≥ (sizes.length : Int)) = true := decide_eq_true hi
  clear hi h0 h hr hmb hc hc'
  go_enter Try.func50, Try.ntmps50
  go_wp2_with (first
   | ((with_reducible refine gate_dst (N := 4) rfl ?_); refine box_event ?hg (N := 4) ?hd (cs := #[.slice none 0 0, .slice none 0 0, .slice none 0 0]) (t := 40) ?hr ?_; (case hd => rfl); (case hg => rfl); (case hr => first | (go_simp; done) | (go_simp; rfl)); intro g4 hg w3 hbox hb; have BK4 := Aside0.mk (hbox); have GE4 := Aside0.mk (bG hg (HB.out)); have NE_ := cN hg BKM; replace HB := Aside0.mk (below_step (HB.out) hb); replace BKM := cB hb BKM; clear hb hbox hg)
   | ((with_reducible refine gate_dst (N := 5) rfl ?_); refine box_event ?hg (N := 5) ?hd (cs := #[.slice none 0 0, .slice none 0 0]) (t := 43) ?hr ?_; (case hd => rfl); (case hg => rfl); (case hr => first | (go_simp; done) | (go_simp; rfl)); intro g5 hg w4 hbox hb; have BK5 := Aside0.mk (hbox); have GE5 := Aside0.mk (bG hg (HB.out)); have NE45 := cN hg BK4; replace HB := Aside0.mk (below_step (HB.out) hb); replace BK4 := cB hb BK4; replace BKM := cB hb BKM; have cm : w4.cell? ⟨mb, 0, none⟩ = some (.slice A sizes.length c) := (blk_cell BKM.out 0).trans rfl; clear hb hbox hg)
   | ((with_reducible refine gate_store2 (t := 40) (x := .tmp 4) (y := .tmp 28) rfl ?_); refine ev_row rfl 40 (.tmp 4) (.tmp 28) rfl rfl g4 #[.slice none 0 0, .slice none 0 0, .slice none 0 0] ?hx ?hy 40 _ BK4.out (by kernel_rfl) rfl (by simp [Value.oneCell']) HB.out GE4.out ?_; (case hx => first | (go_simp; done) | rfl); (case hy => first | (go_simp; done) | rfl | (go_simp; rfl)); intro w5 hbox hb hk; replace BK4 := Aside0.mk hbox; replace HB := Aside0.mk hb; replace BK5 := Aside0.mk ((hk _ (Ne.symm NE45.out)).trans BK5.out); clear hbox hb hk)
   | ((with_reducible refine gate_store2 (t := 43) (x := .tmp 5) (y := .tmp 29) rfl ?_); refine ev_row rfl 43 (.tmp 5) (.tmp 29) rfl rfl g5 #[.slice none 0 0, .slice none 0 0] ?hx ?hy 43 _ BK5.out (by kernel_rfl) rfl (by simp [Value.oneCell']) HB.out GE5.out ?_; (case hx => first | (go_simp; done) | rfl); (case hy => first | (go_simp; done) | rfl | (go_simp; rfl)); intro w6 hbox hb hk; replace BK5 := Aside0.mk hbox; replace HB := Aside0.mk hb; replace BK4 := Aside0.mk ((hk _ NE45.out).trans BK4.out); clear hbox hb hk))
  refine bodyPost_ret (results_list (rs := [.cell 4 40, .cell 5 43, .tmp 6]) rfl (by simp) (.cell g4 40 _ (0, 0) _ rfl BK4.out hu40 rfl (by kernel_rfl) (.cell g5 43 _ (0, 0) _ rfl BK5.out hu43 rfl (by kernel_rfl) (.tmp .nil)))) rfl ?_
  exact ⟨rfl, HB.out⟩
set_option maxHeartbeats 2000000 in
set_option maxRecDepth 100000 in
theorem makeLess.calls (B : Bd) (sizes : List Int) (mb : Nat) (i : Int) (w : World) (h : MadeAt B sizes w mb) (h0 : 0 ≤ i) (h1 : i < (sizes.length : Int)) (x : Int) (hv : rd sizes i = x) (hx : x < 0) : Calls Try.prog 50 #[.pointer (some ⟨mb, 0, none⟩), .int .i64 i] w (MakeBad w) := by
  have hu40 := Try.underlying40
  have hu43 := Try.underlying43
  have HB := Aside0.mk (Below.refl w.heap.size w)
  obtain ⟨A, c, hmb, hc, hr⟩ := h.made
  have BKM := Aside0.mk hmb
  have RS := Aside0.mk hr
  have hc' := hc
  have d1 : decide (i < 0) = false := decide_eq_false (by omega)
  have d2 : decide (i ≥ (sizes.length : Int)) = false := decide_eq_false (by omega)
  have d3 : decide (x < 0) = true := decide_eq_true hx
  clear hx h hr hmb hc hc'
  go_enter Try.func50, Try.ntmps50
  go_wp2_with (first
   | ((with_reducible refine gate_dst (N := 4) rfl ?_); refine box_event ?hg (N := 4) ?hd (cs := #[.slice none 0 0, .slice none 0 0, .slice none 0 0]) (t := 40) ?hr ?_; (case hd => rfl); (case hg => rfl); (case hr => first | (go_simp; done) | (go_simp; rfl)); intro g4 hg w3 hbox hb; have BK4 := Aside0.mk (hbox); have GE4 := Aside0.mk (bG hg (HB.out)); replace HB := Aside0.mk (below_step (HB.out) hb); replace BKM := cB hb BKM; replace RS := Aside0.mk (RS.out.int (.of_below hb)); clear hb hbox hg)
   | ((with_reducible refine gate_dst (N := 5) rfl ?_); refine box_event ?hg (N := 5) ?hd (cs := #[.slice none 0 0, .slice none 0 0]) (t := 43) ?hr ?_; (case hd => rfl); (case hg => rfl); (case hr => first | (go_simp; done) | (go_simp; rfl)); intro g5 hg w4 hbox hb; have BK5 := Aside0.mk (hbox); have GE5 := Aside0.mk (bG hg (HB.out)); have NE45 := cN hg BK4; replace HB := Aside0.mk (below_step (HB.out) hb); replace BK4 := cB hb BK4; replace BKM := cB hb BKM; replace RS := Aside0.mk (RS.out.int (.of_below hb)); have cm : w4.cell? ⟨mb, 0, none⟩ = some (.slice A sizes.length c) := (blk_cell BKM.out 0).trans rfl; obtain ⟨ad, e_, hx_⟩ := Kd.at_int RS.out.1 i h0 h1; cases e_; rw [hv] at hx_; clear hb hbox hg)
   | ((with_reducible refine gate_store2 (t := 40) (x := .tmp 4) (y := .tmp 28) rfl ?_); refine ev_row rfl 40 (.tmp 4) (.tmp 28) rfl rfl g4 #[.slice none 0 0, .slice none 0 0, .slice none 0 0] ?hx ?hy 40 _ BK4.out (by kernel_rfl) rfl (by simp [Value.oneCell']) HB.out GE4.out ?_; (case hx => first | (go_simp; done) | rfl); (case hy => first | (go_simp; done) | rfl | (go_simp; rfl)); intro w5 hbox hb hk; replace BK4 := Aside0.mk hbox; replace HB := Aside0.mk hb; replace BK5 := Aside0.mk ((hk _ (Ne.symm NE45.out)).trans BK5.out); clear hbox hb hk)
   | ((with_reducible refine gate_store2 (t := 43) (x := .tmp 5) (y := .tmp 29) rfl ?_); refine ev_row rfl 43 (.tmp 5) (.tmp 29) rfl rfl g5 #[.slice none 0 0, .slice none 0 0] ?hx ?hy 43 _ BK5.out (by kernel_rfl) rfl (by simp [Value.oneCell']) HB.out GE5.out ?_; (case hx => first | (go_simp; done) | rfl); (case hy => first | (go_simp; done) | rfl | (go_simp; rfl)); intro w6 hbox hb hk; replace BK5 := Aside0.mk hbox; replace HB := Aside0.mk hb; replace BK4 := Aside0.mk ((hk _ NE45.out).trans BK4.out); clear hbox hb hk))
  refine bodyPost_ret (results_list (rs := [.cell 4 40, .cell 5 43, .tmp 6]) rfl (by simp) (.cell g4 40 _ (0, 0) _ rfl BK4.out hu40 rfl (by kernel_rfl) (.cell g5 43 _ (0, 0) _ rfl BK5.out hu43 rfl (by kernel_rfl) (.tmp .nil)))) rfl ?_
  exact ⟨rfl, HB.out⟩
set_option maxHeartbeats 2000000 in
set_option maxRecDepth 100000 in
theorem makeGood.calls (B : Bd) (sizes : List Int) (mb : Nat) (i : Int) (w : World) (h : MadeAt B sizes w mb) (h0 : 0 ≤ i) (h1 : i < (sizes.length : Int)) (n : Nat) (hv : rd sizes i = n) (hn : n ≤ 1000) (hN : ∀ k, B.N k → k < w.heap.size) : Calls Try.prog 50 #[.pointer (some ⟨mb, 0, none⟩), .int .i64 i] w (MakeGood B i n w) := by
  have hu40 := Try.underlying40
  have hu43 := Try.underlying43
  have HB := Aside0.mk (Below.refl w.heap.size w)
  obtain ⟨A, c, hmb, hc, hr⟩ := h.made
  have BKM := Aside0.mk hmb
  have RS := Aside0.mk hr
  have hc' := hc
  have HN := Aside0.mk hN
  have d1 : decide (i < 0) = false := decide_eq_false (by omega)
  have d2 : decide (i ≥ (sizes.length : Int)) = false := decide_eq_false (by omega)
  have d3 : decide ((n : Int) < 0) = false := decide_eq_false (by omega)
  obtain ⟨i0, hi0, hzz⟩ := Option.map_eq_some_iff.1 (show (Try.prog.info? 73).map (fun i => (i.zero, i.size, i.bytes)) = some (some (.agg #[.int .i64 0, .int .i64 0, .int .i64 0]), 3, 24) by kernel_rfl)
  simp only [Prod.mk.injEq] at hzz
  have MK : ∀ W, (Instr.makeSlice 38 (.int .i64 (n : Int)) (.int .i64 (n : Int))).run Try.prog W = .ok (.slice (some ⟨W.heap.size, 0, none⟩) n n) (W.alloc (.cells (madeCells #[.int .i64 0, .int .i64 0, .int .i64 0] (n * 3)) 73 (0, 0))) := fun W => by
    have := run_make (P := Try.prog) W 38 73 i0 _ Try.underlying38 hi0 hzz.1 .i64 .i64 (n : Int) (n : Int) (by omega) (by omega) (by rw [hzz.2.2]; omega) (by omega)
    rw [hzz.2.1] at this
    simpa [Value.cells] using this
  clear h hr hmb hc hc' hzz hi0 hN
  go_enter Try.func50, Try.ntmps50
  go_wp2_with (first
   | ((with_reducible refine gate_dst (N := 4) rfl ?_); refine box_event ?hg (N := 4) ?hd (cs := #[.slice none 0 0, .slice none 0 0, .slice none 0 0]) (t := 40) ?hr ?_; (case hd => rfl); (case hg => rfl); (case hr => first | (go_simp; done) | (go_simp; rfl)); intro g4 hg w3 hbox hb; have BK4 := Aside0.mk (hbox); have GE4 := Aside0.mk (bG hg (HB.out)); replace HB := Aside0.mk (below_step (HB.out) hb); replace BKM := cB hb BKM; replace RS := Aside0.mk (RS.out.int (.of_below hb)); clear hb hbox hg)
   | ((with_reducible refine gate_dst (N := 5) rfl ?_); refine box_event ?hg (N := 5) ?hd (cs := #[.slice none 0 0, .slice none 0 0]) (t := 43) ?hr ?_; (case hd => rfl); (case hg => rfl); (case hr => first | (go_simp; done) | (go_simp; rfl)); intro g5 hg w4 hbox hb; have BK5 := Aside0.mk (hbox); have GE5 := Aside0.mk (bG hg (HB.out)); have NE45 := cN hg BK4; replace HB := Aside0.mk (below_step (HB.out) hb); replace BK4 := cB hb BK4; replace BKM := cB hb BKM; replace RS := Aside0.mk (RS.out.int (.of_below hb)); have cm : w4.cell? ⟨mb, 0, none⟩ = some (.slice A sizes.length c) := (blk_cell BKM.out 0).trans rfl; obtain ⟨ad, e_, hx_⟩ := Kd.at_int RS.out.1 i h0 h1; cases e_; rw [hv] at hx_; clear hb hbox hg)
   | ((with_reducible refine gate_dst (N := 32) rfl ?_); refine lit_event ?hg (N := 32) ?hd (cs := #[.int .i64 i, .int .i64 0, .int .i64 0]) (t := 69) (n := 1) (c := 1) ?hr ?_; (case hd => rfl); (case hg => rfl); (case hr => first | (go_simp; done) | (go_simp; rfl)); intro g32 hg w5 hbox hb; have BK32 := Aside0.mk (hbox); have GE32 := Aside0.mk (bG hg (HB.out)); have NE432 := cN hg BK4; have NE532 := cN hg BK5; replace HB := Aside0.mk (below_step (HB.out) hb); replace BK4 := cB hb BK4; replace BK5 := cB hb BK5; have cm5 : w5.cell? ⟨mb, 0, none⟩ = some (.slice (some ad) sizes.length c) := (bB hb BKM.out |> fun h => (blk_cell h 0).trans rfl); replace BKM := cB hb BKM; replace RS := Aside0.mk (RS.out.int (.of_below hb)); obtain ⟨ad5, e_, hx5⟩ := Kd.at_int RS.out.1 i h0 h1; cases e_; rw [hv] at hx5; clear hb hbox hg)
   | ((with_reducible refine gate_dst (N := 40) rfl ?_); refine lit_event ?hg (N := 40) ?hd (cs := madeCells #[.int .i64 0, .int .i64 0, .int .i64 0] (n * 3)) (t := 73) (n := n) (c := n) ?hr ?_; (case hd => rfl); (case hg => rfl); (case hr => first | (go_simp; done) | (go_simp; rfl)); intro g40 hg w6 hbox hb; have BK40 := Aside0.mk (hbox); have GE40 := Aside0.mk (bG hg (HB.out)); have NE440 := cN hg BK4; have NE540 := cN hg BK5; have NE3240 := cN hg BK32; replace HB := Aside0.mk (below_step (HB.out) hb); replace BK4 := cB hb BK4; replace BK5 := cB hb BK5; replace BK32 := cB hb BK32; clear hb hbox hg)
   | ((with_reducible refine gate_dst (N := 43) rfl ?_); refine lit_event ?hg (N := 43) ?hd (cs := #[.int .i64 i]) (t := 3) (n := 1) (c := 1) ?hr ?_; (case hd => rfl); (case hg => rfl); (case hr => first | (go_simp; done) | (go_simp; rfl)); intro g43 hg w7 hbox hb; have BK43 := Aside0.mk (hbox); have GE43 := Aside0.mk (bG hg (HB.out)); have NE443 := cN hg BK4; have NE543 := cN hg BK5; have NE3243 := cN hg BK32; have NE4043 := cN hg BK40; replace HB := Aside0.mk (below_step (HB.out) hb); replace BK4 := cB hb BK4; replace BK5 := cB hb BK5; replace BK32 := cB hb BK32; replace BK40 := cB hb BK40; clear hb hbox hg)
   | ((with_reducible refine gate_store2 (t := 40) (x := .tmp 4) (y := .tmp 41) rfl ?_); refine ev_row rfl 40 (.tmp 4) (.tmp 41) rfl rfl g4 #[.slice (some ⟨g32, 0, none⟩) 1 1, .slice none 0 0, .slice (some ⟨g40, 0, none⟩) n n] ?hx ?hy 40 _ BK4.out (by kernel_rfl) rfl (by simp [Value.oneCell']) HB.out GE4.out ?_; (case hx => first | (go_simp; done) | rfl); (case hy => first | (go_simp; done) | rfl | (go_simp; rfl)); intro w8 hbox hb hk; replace BK4 := Aside0.mk hbox; replace HB := Aside0.mk hb; replace BK5 := Aside0.mk ((hk _ (Ne.symm NE45.out)).trans BK5.out); replace BK32 := Aside0.mk ((hk _ (Ne.symm NE432.out)).trans BK32.out); replace BK40 := Aside0.mk ((hk _ (Ne.symm NE440.out)).trans BK40.out); replace BK43 := Aside0.mk ((hk _ (Ne.symm NE443.out)).trans BK43.out); clear hbox hb hk)
   | ((with_reducible refine gate_store2 (t := 43) (x := .tmp 5) (y := .tmp 44) rfl ?_); refine ev_row rfl 43 (.tmp 5) (.tmp 44) rfl rfl g5 #[.slice none 0 0, .slice (some ⟨g43, 0, none⟩) 1 1] ?hx ?hy 43 _ BK5.out (by kernel_rfl) rfl (by simp [Value.oneCell']) HB.out GE5.out ?_; (case hx => first | (go_simp; done) | rfl); (case hy => first | (go_simp; done) | rfl | (go_simp; rfl)); intro w9 hbox hb hk; replace BK5 := Aside0.mk hbox; replace HB := Aside0.mk hb; replace BK4 := Aside0.mk ((hk _ NE45.out).trans BK4.out); replace BK32 := Aside0.mk ((hk _ (Ne.symm NE532.out)).trans BK32.out); replace BK40 := Aside0.mk ((hk _ (Ne.symm NE540.out)).trans BK40.out); replace BK43 := Aside0.mk ((hk _ (Ne.symm NE543.out)).trans BK43.out); clear hbox hb hk))
  refine bodyPost_ret (results_list (rs := [.cell 4 40, .cell 5 43, .tmp 6]) rfl (by simp) (.cell g4 40 _ (0, 0) _ rfl BK4.out hu40 rfl (by kernel_rfl) (.cell g5 43 _ (0, 0) _ rfl BK5.out hu43 rfl (by kernel_rfl) (.tmp .nil)))) rfl ?_
  exact ⟨⟨i, n, some ⟨g32, 0, none⟩, 1, some ⟨g40, 0, none⟩, n, some ⟨g43, 0, none⟩, 1⟩, rfl, rfl, rfl, HB.out, ⟨rd_v BK32.out, Nat.le_refl _, rd_t (show n ≤ 9223372036854775807 by omega) BK40.out, Nat.le_refl _, rd_i BK43.out (fun q => by have := HN.out _ q; have := GE43.out; omega), Nat.le_refl _⟩⟩
end Go.Proofs.Ytfhjdhhflpekiaa.G
