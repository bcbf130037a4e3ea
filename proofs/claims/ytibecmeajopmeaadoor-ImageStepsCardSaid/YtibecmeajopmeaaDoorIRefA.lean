/- The document's Add. -/
import Derived.Test.YtibecmeajopmeaaDoorIRefP
import Derived.BigQuiet
namespace Go.Proofs.YtibecmeajopmeaaDoor.G
open Go.RowKit Go.Proofs.YtibecmeajopmeaaDoorW.PrintWords Go.Proofs.YtibecmeajopmeaaDoorW.PrintLast Go.Proofs.YtibecmeajopmeaaDoorW.PrintMore
set_option linter.unusedVariables false
set_option linter.unusedSimpArgs false
set_option maxHeartbeats 4000000 in
set_option maxRecDepth 100000 in
theorem raddPlace0.calls {B b : Nat} {v : Value} {l : List S35} {W H : Int} (s : S35) (w : World) (h : RIm B w b v l W H) (hl : l.length ≤ 1000)  (h0 : s.f0 < 0) :
    Calls Tryd.prog 10 #[.pointer (some ⟨b, 0, none⟩), .agg #[.int .i64 s.f0, .int .i64 s.f1, .int .i64 s.f2.f0, .int .i64 s.f2.f1, .int .i64 s.f2.f2]] w (RAddPost B b W H l s w) := by
  have HB := Aside0.mk (Below.refl w.heap.size w)
  have IM := Aside0.mk h
  have IM0 := Aside0.mk h
  have HN : hasB W H s.f0 s.f1 = false := decide_eq_false (by omega)
  have EE : radE W H s = 20 := by unfold radE; rw [if_pos HN]
  have AA : accB W H s = false := by unfold accB; rw [HN]; rfl
  have EA := Aside0.mk EE
  have AN := Aside0.mk AA
  have d0 : decide (s.f0 < 0) = true := decide_eq_true h0
  clear h hl HN EE AA h0
  go_enter Tryd.func10, Tryd.ntmps10
  go_wp2_with (first
   | ((with_reducible refine gate_dst (N := 3) rfl ?_); refine box_event ?hg (N := 3) ?hd (cs := #[.int .i64 s.f0, .int .i64 s.f1, .int .i64 s.f2.f0, .int .i64 s.f2.f1, .int .i64 s.f2.f2]) (t := 35) ?hr ?_; (case hd => rfl); (case hg => rfl); (case hr => first | (go_simp; done) | (go_simp; rfl)); intro g3 hg W3 hbox hb; have BK3 := Aside0.mk hbox; have GE3 := Aside0.mk (bG hg HB.out); replace IM := Aside0.mk (IM.out.below hb); replace HB := Aside0.mk (below_step HB.out hb); have c0 := IM.out.c0; have c1 := IM.out.c1; have c2 := IM.out.c2; have z0 : W3.cell? ⟨g3, 0, none⟩ = some (.int .i64 s.f0) := (blk_cell BK3.out 0).trans rfl; have z1 : W3.cell? ⟨g3, 1, none⟩ = some (.int .i64 s.f1) := (blk_cell BK3.out 1).trans rfl; have z2 : W3.cell? ⟨g3, 2, none⟩ = some (.int .i64 s.f2.f0) := (blk_cell BK3.out 2).trans rfl; have z3 : W3.cell? ⟨g3, 3, none⟩ = some (.int .i64 s.f2.f1) := (blk_cell BK3.out 3).trans rfl; have z4 : W3.cell? ⟨g3, 4, none⟩ = some (.int .i64 s.f2.f2) := (blk_cell BK3.out 4).trans rfl; clear hg hbox hb))
  go_quiet (fail)
  go_wp2
  go_ret
  exact ⟨by rw [EA.out]; rfl, radded_no IM0.out (pw_below_drewN HB.out _) AN.out⟩
set_option maxHeartbeats 4000000 in
set_option maxRecDepth 100000 in
theorem raddPlace1.calls {B b : Nat} {v : Value} {l : List S35} {W H : Int} (s : S35) (w : World) (h : RIm B w b v l W H) (hl : l.length ≤ 1000) (h0 : ¬ s.f0 < 0) (h1 : s.f0 ≥ W) :
    Calls Tryd.prog 10 #[.pointer (some ⟨b, 0, none⟩), .agg #[.int .i64 s.f0, .int .i64 s.f1, .int .i64 s.f2.f0, .int .i64 s.f2.f1, .int .i64 s.f2.f2]] w (RAddPost B b W H l s w) := by
  have HB := Aside0.mk (Below.refl w.heap.size w)
  have IM := Aside0.mk h
  have IM0 := Aside0.mk h
  have HN : hasB W H s.f0 s.f1 = false := decide_eq_false (by omega)
  have EE : radE W H s = 20 := by unfold radE; rw [if_pos HN]
  have AA : accB W H s = false := by unfold accB; rw [HN]; rfl
  have EA := Aside0.mk EE
  have AN := Aside0.mk AA
  have d0 : decide (s.f0 < 0) = false := decide_eq_false h0
  have d1 : decide (s.f0 ≥ W) = true := decide_eq_true h1
  clear h hl HN EE AA h0 h1
  go_enter Tryd.func10, Tryd.ntmps10
  go_wp2_with (first
   | ((with_reducible refine gate_dst (N := 3) rfl ?_); refine box_event ?hg (N := 3) ?hd (cs := #[.int .i64 s.f0, .int .i64 s.f1, .int .i64 s.f2.f0, .int .i64 s.f2.f1, .int .i64 s.f2.f2]) (t := 35) ?hr ?_; (case hd => rfl); (case hg => rfl); (case hr => first | (go_simp; done) | (go_simp; rfl)); intro g3 hg W3 hbox hb; have BK3 := Aside0.mk hbox; have GE3 := Aside0.mk (bG hg HB.out); replace IM := Aside0.mk (IM.out.below hb); replace HB := Aside0.mk (below_step HB.out hb); have c0 := IM.out.c0; have c1 := IM.out.c1; have c2 := IM.out.c2; have z0 : W3.cell? ⟨g3, 0, none⟩ = some (.int .i64 s.f0) := (blk_cell BK3.out 0).trans rfl; have z1 : W3.cell? ⟨g3, 1, none⟩ = some (.int .i64 s.f1) := (blk_cell BK3.out 1).trans rfl; have z2 : W3.cell? ⟨g3, 2, none⟩ = some (.int .i64 s.f2.f0) := (blk_cell BK3.out 2).trans rfl; have z3 : W3.cell? ⟨g3, 3, none⟩ = some (.int .i64 s.f2.f1) := (blk_cell BK3.out 3).trans rfl; have z4 : W3.cell? ⟨g3, 4, none⟩ = some (.int .i64 s.f2.f2) := (blk_cell BK3.out 4).trans rfl; clear hg hbox hb))
  go_quiet (fail)
  go_wp2
  go_ret
  exact ⟨by rw [EA.out]; rfl, radded_no IM0.out (pw_below_drewN HB.out _) AN.out⟩
set_option maxHeartbeats 4000000 in
set_option maxRecDepth 100000 in
theorem raddPlace2.calls {B b : Nat} {v : Value} {l : List S35} {W H : Int} (s : S35) (w : World) (h : RIm B w b v l W H) (hl : l.length ≤ 1000) (h0 : ¬ s.f0 < 0) (h1 : ¬ s.f0 ≥ W) (h2 : s.f1 < 0) :
    Calls Tryd.prog 10 #[.pointer (some ⟨b, 0, none⟩), .agg #[.int .i64 s.f0, .int .i64 s.f1, .int .i64 s.f2.f0, .int .i64 s.f2.f1, .int .i64 s.f2.f2]] w (RAddPost B b W H l s w) := by
  have HB := Aside0.mk (Below.refl w.heap.size w)
  have IM := Aside0.mk h
  have IM0 := Aside0.mk h
  have HN : hasB W H s.f0 s.f1 = false := decide_eq_false (by omega)
  have EE : radE W H s = 20 := by unfold radE; rw [if_pos HN]
  have AA : accB W H s = false := by unfold accB; rw [HN]; rfl
  have EA := Aside0.mk EE
  have AN := Aside0.mk AA
  have d0 : decide (s.f0 < 0) = false := decide_eq_false h0
  have d1 : decide (s.f0 ≥ W) = false := decide_eq_false h1
  have d2 : decide (s.f1 < 0) = true := decide_eq_true h2
  clear h hl HN EE AA h0 h1 h2
  go_enter Tryd.func10, Tryd.ntmps10
  go_wp2_with (first
   | ((with_reducible refine gate_dst (N := 3) rfl ?_); refine box_event ?hg (N := 3) ?hd (cs := #[.int .i64 s.f0, .int .i64 s.f1, .int .i64 s.f2.f0, .int .i64 s.f2.f1, .int .i64 s.f2.f2]) (t := 35) ?hr ?_; (case hd => rfl); (case hg => rfl); (case hr => first | (go_simp; done) | (go_simp; rfl)); intro g3 hg W3 hbox hb; have BK3 := Aside0.mk hbox; have GE3 := Aside0.mk (bG hg HB.out); replace IM := Aside0.mk (IM.out.below hb); replace HB := Aside0.mk (below_step HB.out hb); have c0 := IM.out.c0; have c1 := IM.out.c1; have c2 := IM.out.c2; have z0 : W3.cell? ⟨g3, 0, none⟩ = some (.int .i64 s.f0) := (blk_cell BK3.out 0).trans rfl; have z1 : W3.cell? ⟨g3, 1, none⟩ = some (.int .i64 s.f1) := (blk_cell BK3.out 1).trans rfl; have z2 : W3.cell? ⟨g3, 2, none⟩ = some (.int .i64 s.f2.f0) := (blk_cell BK3.out 2).trans rfl; have z3 : W3.cell? ⟨g3, 3, none⟩ = some (.int .i64 s.f2.f1) := (blk_cell BK3.out 3).trans rfl; have z4 : W3.cell? ⟨g3, 4, none⟩ = some (.int .i64 s.f2.f2) := (blk_cell BK3.out 4).trans rfl; clear hg hbox hb))
  go_quiet (fail)
  go_wp2
  go_ret
  exact ⟨by rw [EA.out]; rfl, radded_no IM0.out (pw_below_drewN HB.out _) AN.out⟩
set_option maxHeartbeats 4000000 in
set_option maxRecDepth 100000 in
theorem raddPlace3.calls {B b : Nat} {v : Value} {l : List S35} {W H : Int} (s : S35) (w : World) (h : RIm B w b v l W H) (hl : l.length ≤ 1000) (h0 : ¬ s.f0 < 0) (h1 : ¬ s.f0 ≥ W) (h2 : ¬ s.f1 < 0) (h3 : s.f1 ≥ H) :
    Calls Tryd.prog 10 #[.pointer (some ⟨b, 0, none⟩), .agg #[.int .i64 s.f0, .int .i64 s.f1, .int .i64 s.f2.f0, .int .i64 s.f2.f1, .int .i64 s.f2.f2]] w (RAddPost B b W H l s w) := by
  have HB := Aside0.mk (Below.refl w.heap.size w)
  have IM := Aside0.mk h
  have IM0 := Aside0.mk h
  have HN : hasB W H s.f0 s.f1 = false := decide_eq_false (by omega)
  have EE : radE W H s = 20 := by unfold radE; rw [if_pos HN]
  have AA : accB W H s = false := by unfold accB; rw [HN]; rfl
  have EA := Aside0.mk EE
  have AN := Aside0.mk AA
  have d0 : decide (s.f0 < 0) = false := decide_eq_false h0
  have d1 : decide (s.f0 ≥ W) = false := decide_eq_false h1
  have d2 : decide (s.f1 < 0) = false := decide_eq_false h2
  have d3 : decide (s.f1 ≥ H) = true := decide_eq_true h3
  clear h hl HN EE AA h0 h1 h2 h3
  go_enter Tryd.func10, Tryd.ntmps10
  go_wp2_with (first
   | ((with_reducible refine gate_dst (N := 3) rfl ?_); refine box_event ?hg (N := 3) ?hd (cs := #[.int .i64 s.f0, .int .i64 s.f1, .int .i64 s.f2.f0, .int .i64 s.f2.f1, .int .i64 s.f2.f2]) (t := 35) ?hr ?_; (case hd => rfl); (case hg => rfl); (case hr => first | (go_simp; done) | (go_simp; rfl)); intro g3 hg W3 hbox hb; have BK3 := Aside0.mk hbox; have GE3 := Aside0.mk (bG hg HB.out); replace IM := Aside0.mk (IM.out.below hb); replace HB := Aside0.mk (below_step HB.out hb); have c0 := IM.out.c0; have c1 := IM.out.c1; have c2 := IM.out.c2; have z0 : W3.cell? ⟨g3, 0, none⟩ = some (.int .i64 s.f0) := (blk_cell BK3.out 0).trans rfl; have z1 : W3.cell? ⟨g3, 1, none⟩ = some (.int .i64 s.f1) := (blk_cell BK3.out 1).trans rfl; have z2 : W3.cell? ⟨g3, 2, none⟩ = some (.int .i64 s.f2.f0) := (blk_cell BK3.out 2).trans rfl; have z3 : W3.cell? ⟨g3, 3, none⟩ = some (.int .i64 s.f2.f1) := (blk_cell BK3.out 3).trans rfl; have z4 : W3.cell? ⟨g3, 4, none⟩ = some (.int .i64 s.f2.f2) := (blk_cell BK3.out 4).trans rfl; clear hg hbox hb))
  go_quiet (fail)
  go_wp2
  go_ret
  exact ⟨by rw [EA.out]; rfl, radded_no IM0.out (pw_below_drewN HB.out _) AN.out⟩
set_option maxHeartbeats 4000000 in
set_option maxRecDepth 100000 in
theorem raddRange0.calls {B b : Nat} {v : Value} {l : List S35} {W H : Int} (s : S35) (w : World) (h : RIm B w b v l W H) (hl : l.length ≤ 1000) (h0 : ¬ s.f0 < 0) (h1 : ¬ s.f0 ≥ W) (h2 : ¬ s.f1 < 0) (h3 : ¬ s.f1 ≥ H) (p0 : partB s.f2.f0 = false) :
    Calls Tryd.prog 10 #[.pointer (some ⟨b, 0, none⟩), .agg #[.int .i64 s.f0, .int .i64 s.f1, .int .i64 s.f2.f0, .int .i64 s.f2.f1, .int .i64 s.f2.f2]] w (RAddPost B b W H l s w) := by
  have HB := Aside0.mk (Below.refl w.heap.size w)
  have IM := Aside0.mk h
  have IM0 := Aside0.mk h
  have HN : hasB W H s.f0 s.f1 = true := decide_eq_true (by omega)
  have OC : okC (colS s) = false := by show (partB s.f2.f0 && partB s.f2.f1 && partB s.f2.f2) = false; simp [p0]
  have EE : radE W H s = 11 := by unfold radE; rw [if_neg (by rw [HN]; decide), if_pos OC]
  have AA : accB W H s = false := by unfold accB; rw [OC, Bool.and_false]
  have EA := Aside0.mk EE
  have AN := Aside0.mk AA
  have d0 : decide (s.f0 < 0) = false := decide_eq_false h0
  have d1 : decide (s.f0 ≥ W) = false := decide_eq_false h1
  have d2 : decide (s.f1 < 0) = false := decide_eq_false h2
  have d3 : decide (s.f1 ≥ H) = false := decide_eq_false h3
  have PC : ∀ w, Calls Tryd.prog 16 #[.int .i64 s.f2.f0] w fun e w' => e = .returned (.bool false) ∧ Drawn0 w w' := fun w => by have := part.calls s.f2.f0 w; rw [p0] at this; exact this
  clear h hl HN OC EE AA h0 h1 h2 h3 p0
  go_enter Tryd.func10, Tryd.ntmps10
  go_wp2_with (first
   | ((with_reducible refine gate_dst (N := 3) rfl ?_); refine box_event ?hg (N := 3) ?hd (cs := #[.int .i64 s.f0, .int .i64 s.f1, .int .i64 s.f2.f0, .int .i64 s.f2.f1, .int .i64 s.f2.f2]) (t := 35) ?hr ?_; (case hd => rfl); (case hg => rfl); (case hr => first | (go_simp; done) | (go_simp; rfl)); intro g3 hg W3 hbox hb; have BK3 := Aside0.mk hbox; have GE3 := Aside0.mk (bG hg HB.out); replace IM := Aside0.mk (IM.out.below hb); replace HB := Aside0.mk (below_step HB.out hb); have c0 := IM.out.c0; have c1 := IM.out.c1; have c2 := IM.out.c2; have z0 : W3.cell? ⟨g3, 0, none⟩ = some (.int .i64 s.f0) := (blk_cell BK3.out 0).trans rfl; have z1 : W3.cell? ⟨g3, 1, none⟩ = some (.int .i64 s.f1) := (blk_cell BK3.out 1).trans rfl; have z2 : W3.cell? ⟨g3, 2, none⟩ = some (.int .i64 s.f2.f0) := (blk_cell BK3.out 2).trans rfl; have z3 : W3.cell? ⟨g3, 3, none⟩ = some (.int .i64 s.f2.f1) := (blk_cell BK3.out 3).trans rfl; have z4 : W3.cell? ⟨g3, 4, none⟩ = some (.int .i64 s.f2.f2) := (blk_cell BK3.out 4).trans rfl; clear hg hbox hb))
  go_quiet (fail)
  go_wp2_with (first
   | (go_at_call 16; (with_reducible refine (PC _).mono ?_); rintro e W9 ⟨rfl, ⟨m9, rfl⟩⟩))
  go_ret
  exact ⟨by rw [EA.out]; rfl, radded_no IM0.out (by repeat (first | exact HB.out | apply pw_below_drewN)) AN.out⟩
set_option maxHeartbeats 4000000 in
set_option maxRecDepth 100000 in
theorem raddRange1.calls {B b : Nat} {v : Value} {l : List S35} {W H : Int} (s : S35) (w : World) (h : RIm B w b v l W H) (hl : l.length ≤ 1000) (h0 : ¬ s.f0 < 0) (h1 : ¬ s.f0 ≥ W) (h2 : ¬ s.f1 < 0) (h3 : ¬ s.f1 ≥ H) (p0 : partB s.f2.f0 = true) (p1 : partB s.f2.f1 = false) :
    Calls Tryd.prog 10 #[.pointer (some ⟨b, 0, none⟩), .agg #[.int .i64 s.f0, .int .i64 s.f1, .int .i64 s.f2.f0, .int .i64 s.f2.f1, .int .i64 s.f2.f2]] w (RAddPost B b W H l s w) := by
  have HB := Aside0.mk (Below.refl w.heap.size w)
  have IM := Aside0.mk h
  have IM0 := Aside0.mk h
  have HN : hasB W H s.f0 s.f1 = true := decide_eq_true (by omega)
  have OC : okC (colS s) = false := by show (partB s.f2.f0 && partB s.f2.f1 && partB s.f2.f2) = false; simp [p0, p1]
  have EE : radE W H s = 11 := by unfold radE; rw [if_neg (by rw [HN]; decide), if_pos OC]
  have AA : accB W H s = false := by unfold accB; rw [OC, Bool.and_false]
  have EA := Aside0.mk EE
  have AN := Aside0.mk AA
  have d0 : decide (s.f0 < 0) = false := decide_eq_false h0
  have d1 : decide (s.f0 ≥ W) = false := decide_eq_false h1
  have d2 : decide (s.f1 < 0) = false := decide_eq_false h2
  have d3 : decide (s.f1 ≥ H) = false := decide_eq_false h3
  have PC : ∀ w, Calls Tryd.prog 16 #[.int .i64 s.f2.f1] w fun e w' => e = .returned (.bool false) ∧ Drawn0 w w' := fun w => by have := part.calls s.f2.f1 w; rw [p1] at this; exact this
  have PT0 : ∀ w, Calls Tryd.prog 16 #[.int .i64 s.f2.f0] w fun e w' => e = .returned (.bool true) ∧ Drawn0 w w' := fun w => by have := part.calls s.f2.f0 w; rw [p0] at this; exact this
  clear h hl HN OC EE AA h0 h1 h2 h3 p0 p1
  go_enter Tryd.func10, Tryd.ntmps10
  go_wp2_with (first
   | ((with_reducible refine gate_dst (N := 3) rfl ?_); refine box_event ?hg (N := 3) ?hd (cs := #[.int .i64 s.f0, .int .i64 s.f1, .int .i64 s.f2.f0, .int .i64 s.f2.f1, .int .i64 s.f2.f2]) (t := 35) ?hr ?_; (case hd => rfl); (case hg => rfl); (case hr => first | (go_simp; done) | (go_simp; rfl)); intro g3 hg W3 hbox hb; have BK3 := Aside0.mk hbox; have GE3 := Aside0.mk (bG hg HB.out); replace IM := Aside0.mk (IM.out.below hb); replace HB := Aside0.mk (below_step HB.out hb); have c0 := IM.out.c0; have c1 := IM.out.c1; have c2 := IM.out.c2; have z0 : W3.cell? ⟨g3, 0, none⟩ = some (.int .i64 s.f0) := (blk_cell BK3.out 0).trans rfl; have z1 : W3.cell? ⟨g3, 1, none⟩ = some (.int .i64 s.f1) := (blk_cell BK3.out 1).trans rfl; have z2 : W3.cell? ⟨g3, 2, none⟩ = some (.int .i64 s.f2.f0) := (blk_cell BK3.out 2).trans rfl; have z3 : W3.cell? ⟨g3, 3, none⟩ = some (.int .i64 s.f2.f1) := (blk_cell BK3.out 3).trans rfl; have z4 : W3.cell? ⟨g3, 4, none⟩ = some (.int .i64 s.f2.f2) := (blk_cell BK3.out 4).trans rfl; clear hg hbox hb))
  go_quiet (fail)
  go_wp2_with (first
   | (go_at_call 16; (with_reducible refine (PC _).mono ?_); rintro e W9 ⟨rfl, ⟨m9, rfl⟩⟩)
   | (go_at_call 16; (with_reducible refine (PT0 _).mono ?_); rintro e W0 ⟨rfl, ⟨m0, rfl⟩⟩))
  go_ret
  exact ⟨by rw [EA.out]; rfl, radded_no IM0.out (by repeat (first | exact HB.out | apply pw_below_drewN)) AN.out⟩
set_option maxHeartbeats 4000000 in
set_option maxRecDepth 100000 in
theorem raddRange2.calls {B b : Nat} {v : Value} {l : List S35} {W H : Int} (s : S35) (w : World) (h : RIm B w b v l W H) (hl : l.length ≤ 1000) (h0 : ¬ s.f0 < 0) (h1 : ¬ s.f0 ≥ W) (h2 : ¬ s.f1 < 0) (h3 : ¬ s.f1 ≥ H) (p0 : partB s.f2.f0 = true) (p1 : partB s.f2.f1 = true) (p2 : partB s.f2.f2 = false) :
    Calls Tryd.prog 10 #[.pointer (some ⟨b, 0, none⟩), .agg #[.int .i64 s.f0, .int .i64 s.f1, .int .i64 s.f2.f0, .int .i64 s.f2.f1, .int .i64 s.f2.f2]] w (RAddPost B b W H l s w) := by
  have HB := Aside0.mk (Below.refl w.heap.size w)
  have IM := Aside0.mk h
  have IM0 := Aside0.mk h
  have HN : hasB W H s.f0 s.f1 = true := decide_eq_true (by omega)
  have OC : okC (colS s) = false := by show (partB s.f2.f0 && partB s.f2.f1 && partB s.f2.f2) = false; simp [p0, p1, p2]
  have EE : radE W H s = 11 := by unfold radE; rw [if_neg (by rw [HN]; decide), if_pos OC]
  have AA : accB W H s = false := by unfold accB; rw [OC, Bool.and_false]
  have EA := Aside0.mk EE
  have AN := Aside0.mk AA
  have d0 : decide (s.f0 < 0) = false := decide_eq_false h0
  have d1 : decide (s.f0 ≥ W) = false := decide_eq_false h1
  have d2 : decide (s.f1 < 0) = false := decide_eq_false h2
  have d3 : decide (s.f1 ≥ H) = false := decide_eq_false h3
  have PC : ∀ w, Calls Tryd.prog 16 #[.int .i64 s.f2.f2] w fun e w' => e = .returned (.bool false) ∧ Drawn0 w w' := fun w => by have := part.calls s.f2.f2 w; rw [p2] at this; exact this
  have PT0 : ∀ w, Calls Tryd.prog 16 #[.int .i64 s.f2.f0] w fun e w' => e = .returned (.bool true) ∧ Drawn0 w w' := fun w => by have := part.calls s.f2.f0 w; rw [p0] at this; exact this
  have PT1 : ∀ w, Calls Tryd.prog 16 #[.int .i64 s.f2.f1] w fun e w' => e = .returned (.bool true) ∧ Drawn0 w w' := fun w => by have := part.calls s.f2.f1 w; rw [p1] at this; exact this
  clear h hl HN OC EE AA h0 h1 h2 h3 p0 p1 p2
  go_enter Tryd.func10, Tryd.ntmps10
  go_wp2_with (first
   | ((with_reducible refine gate_dst (N := 3) rfl ?_); refine box_event ?hg (N := 3) ?hd (cs := #[.int .i64 s.f0, .int .i64 s.f1, .int .i64 s.f2.f0, .int .i64 s.f2.f1, .int .i64 s.f2.f2]) (t := 35) ?hr ?_; (case hd => rfl); (case hg => rfl); (case hr => first | (go_simp; done) | (go_simp; rfl)); intro g3 hg W3 hbox hb; have BK3 := Aside0.mk hbox; have GE3 := Aside0.mk (bG hg HB.out); replace IM := Aside0.mk (IM.out.below hb); replace HB := Aside0.mk (below_step HB.out hb); have c0 := IM.out.c0; have c1 := IM.out.c1; have c2 := IM.out.c2; have z0 : W3.cell? ⟨g3, 0, none⟩ = some (.int .i64 s.f0) := (blk_cell BK3.out 0).trans rfl; have z1 : W3.cell? ⟨g3, 1, none⟩ = some (.int .i64 s.f1) := (blk_cell BK3.out 1).trans rfl; have z2 : W3.cell? ⟨g3, 2, none⟩ = some (.int .i64 s.f2.f0) := (blk_cell BK3.out 2).trans rfl; have z3 : W3.cell? ⟨g3, 3, none⟩ = some (.int .i64 s.f2.f1) := (blk_cell BK3.out 3).trans rfl; have z4 : W3.cell? ⟨g3, 4, none⟩ = some (.int .i64 s.f2.f2) := (blk_cell BK3.out 4).trans rfl; clear hg hbox hb))
  go_quiet (fail)
  go_wp2_with (first
   | (go_at_call 16; (with_reducible refine (PC _).mono ?_); rintro e W9 ⟨rfl, ⟨m9, rfl⟩⟩)
   | (go_at_call 16; (with_reducible refine (PT0 _).mono ?_); rintro e W0 ⟨rfl, ⟨m0, rfl⟩⟩)
   | (go_at_call 16; (with_reducible refine (PT1 _).mono ?_); rintro e W1 ⟨rfl, ⟨m1, rfl⟩⟩))
  go_ret
  exact ⟨by rw [EA.out]; rfl, radded_no IM0.out (by repeat (first | exact HB.out | apply pw_below_drewN)) AN.out⟩
set_option maxHeartbeats 4000000 in
set_option maxRecDepth 100000 in
theorem raddGood.calls {B b : Nat} {v : Value} {l : List S35} {W H : Int} (s : S35) (w : World) (h : RIm B w b v l W H) (hl : l.length ≤ 1000) (h0 : ¬ s.f0 < 0) (h1 : ¬ s.f0 ≥ W) (h2 : ¬ s.f1 < 0) (h3 : ¬ s.f1 ≥ H) (p0 : partB s.f2.f0 = true) (p1 : partB s.f2.f1 = true) (p2 : partB s.f2.f2 = true) :
    Calls Tryd.prog 10 #[.pointer (some ⟨b, 0, none⟩), .agg #[.int .i64 s.f0, .int .i64 s.f1, .int .i64 s.f2.f0, .int .i64 s.f2.f1, .int .i64 s.f2.f2]] w (RAddPost B b W H l s w) := by
  have HB := Aside0.mk (Below.refl w.heap.size w)
  have IM := Aside0.mk h
  have IM0 := Aside0.mk h
  have HN : hasB W H s.f0 s.f1 = true := decide_eq_true (by omega)
  have OC : okC (colS s) = true := by show (partB s.f2.f0 && partB s.f2.f1 && partB s.f2.f2) = true; simp [p0, p1, p2]
  have EE : radE W H s = 0 := by unfold radE; rw [if_neg (by rw [HN]; decide), if_neg (by rw [OC]; decide)]
  have AA : accB W H s = true := by unfold accB; rw [OC, HN]; rfl
  have EA := Aside0.mk EE
  have AN := Aside0.mk AA
  have HL := Aside0.mk hl
  have d0 : decide (s.f0 < 0) = false := decide_eq_false h0
  have d1 : decide (s.f0 ≥ W) = false := decide_eq_false h1
  have d2 : decide (s.f1 < 0) = false := decide_eq_false h2
  have d3 : decide (s.f1 ≥ H) = false := decide_eq_false h3
  have PT0 : ∀ w, Calls Tryd.prog 16 #[.int .i64 s.f2.f0] w fun e w' => e = .returned (.bool true) ∧ Drawn0 w w' := fun w => by have := part.calls s.f2.f0 w; rw [p0] at this; exact this
  have PT1 : ∀ w, Calls Tryd.prog 16 #[.int .i64 s.f2.f1] w fun e w' => e = .returned (.bool true) ∧ Drawn0 w w' := fun w => by have := part.calls s.f2.f1 w; rw [p1] at this; exact this
  have PT2 : ∀ w, Calls Tryd.prog 16 #[.int .i64 s.f2.f2] w fun e w' => e = .returned (.bool true) ∧ Drawn0 w w' := fun w => by have := part.calls s.f2.f2 w; rw [p2] at this; exact this
  clear h hl HN OC EE AA h0 h1 h2 h3 p0 p1 p2
  go_enter Tryd.func10, Tryd.ntmps10
  go_wp2_with (first
   | ((with_reducible refine gate_dst (N := 3) rfl ?_); refine box_event ?hg (N := 3) ?hd (cs := #[.int .i64 s.f0, .int .i64 s.f1, .int .i64 s.f2.f0, .int .i64 s.f2.f1, .int .i64 s.f2.f2]) (t := 35) ?hr ?_; (case hd => rfl); (case hg => rfl); (case hr => first | (go_simp; done) | (go_simp; rfl)); intro g3 hg W3 hbox hb; have BK3 := Aside0.mk hbox; have GE3 := Aside0.mk (bG hg HB.out); replace IM := Aside0.mk (IM.out.below hb); replace HB := Aside0.mk (below_step HB.out hb); have c0 := IM.out.c0; have c1 := IM.out.c1; have c2 := IM.out.c2; have z0 : W3.cell? ⟨g3, 0, none⟩ = some (.int .i64 s.f0) := (blk_cell BK3.out 0).trans rfl; have z1 : W3.cell? ⟨g3, 1, none⟩ = some (.int .i64 s.f1) := (blk_cell BK3.out 1).trans rfl; have z2 : W3.cell? ⟨g3, 2, none⟩ = some (.int .i64 s.f2.f0) := (blk_cell BK3.out 2).trans rfl; have z3 : W3.cell? ⟨g3, 3, none⟩ = some (.int .i64 s.f2.f1) := (blk_cell BK3.out 3).trans rfl; have z4 : W3.cell? ⟨g3, 4, none⟩ = some (.int .i64 s.f2.f2) := (blk_cell BK3.out 4).trans rfl; clear hg hbox hb))
  go_quiet (fail)
  go_wp2_with (first
   | (go_at_call 16; (with_reducible refine (PT0 _).mono ?_); rintro e W4 ⟨rfl, ⟨m0, rfl⟩⟩)
   | (go_at_call 16; (with_reducible refine (PT1 _).mono ?_); rintro e W5 ⟨rfl, ⟨m1, rfl⟩⟩)
   | (go_at_call 16; (with_reducible refine (PT2 _).mono ?_); rintro e W6 ⟨rfl, ⟨m2, rfl⟩⟩))
  have hb5 : Below W3.heap.size W3 (W3.drewN (nq + m0 + m1 + m2)) := pw_below_drewN (Below.refl _ _) _
  generalize W3.drewN (nq + m0 + m1 + m2) = W5 at hb5 ⊢
  have I5 := Aside0.mk (IM.out.below hb5)
  have HB5 := Aside0.mk (below_step HB.out hb5)
  have y2 := I5.out.c2
  have G5 := blk_below BK3.out hb5
  have y3 : ∀ k : Nat, k < 5 → True := fun _ _ => trivial
  have q0 : W5.cell? ⟨g3, 0, none⟩ = some (.int .i64 s.f0) := (blk_cell G5 0).trans rfl
  have q1 : W5.cell? ⟨g3, 1, none⟩ = some (.int .i64 s.f1) := (blk_cell G5 1).trans rfl
  have q2 : W5.cell? ⟨g3, 2, none⟩ = some (.int .i64 s.f2.f0) := (blk_cell G5 2).trans rfl
  have q3 : W5.cell? ⟨g3, 3, none⟩ = some (.int .i64 s.f2.f1) := (blk_cell G5 3).trans rfl
  have q4 : W5.cell? ⟨g3, 4, none⟩ = some (.int .i64 s.f2.f2) := (blk_cell G5 4).trans rfl
  have y2b : (W5.alloc (.cells #[.int .i64 s.f0, .int .i64 s.f1, .int .i64 s.f2.f0, .int .i64 s.f2.f1, .int .i64 s.f2.f2] 35)).cell? ⟨b, 2, none⟩ = some v := ((below_alloc (Below.refl W5.heap.size W5) _).cell (p := ⟨b, 2, none⟩) (blk_lt I5.out.cells)).trans y2
  have HO : Aside0 (Kd.R k35 35 W5.drew B (fun _ => True) v l) := ⟨Kd.R_below I5.out.row (below_drew1 (Below.refl _ _))⟩
  have HS : Aside0 (B ≤ W5.drew.heap.size) := ⟨I5.out.size⟩
  clear G5 y3 c0 c1 c2 z0 z1 z2 z3 z4 hb5 PT0 PT1 PT2 d0 d1 d2 d3
  go_region_law (refine Kd.R_append_step k35 (w0 := W5.drew) B (by simp [Region.wanted]) (.tmp 54) (.tmp 56) 22 35 (.agg #[.int .i64 0, .int .i64 0, .int .i64 0, .int .i64 0, .int .i64 0]) 40 rfl Tryd.underlying22 info35 rfl (by decide) (by decide) v l s [.int .i64 s.f0, .int .i64 s.f1, .int .i64 s.f2.f0, .int .i64 s.f2.f1, .int .i64 s.f2.f2] (fun _ => True) (fun _ => False) (by rfl) (by rfl) (k35_mkM _ _ _ _) (fun _ hk => hk.elim) (fun _ _ => trivial) HO.out (Below.refl _ _) HS.out (by have := HL.out; omega) ?_
                 intro v1 w11 hr hb2 hg2 hat2
                 obtain ⟨A3, k3, rfl⟩ := Kd.R_slice hr
                 have hb3 : Below B W5 w11 := (below_drew1 (Below.refl B W5)).trans hb2
                 have hg3 : W5.grownBy w11 v.ownBlock := ⟨hg2.os, hg2.tape, hg2.output, hg2.size, hg2.block⟩
                 have hc3 := (I5.out.grown hg3 rfl).trans I5.out.cells
                 have x4 : w11.cell? ⟨b, 2, none⟩ = some v := (blk_cell hc3 2).trans rfl
                 have f4 : w11.frozen? ⟨b, 2, none⟩ = false := blk_frozen hc3 2
                 have fin := radded_yes IM0.out HB5.out I5.out AN.out hr hb3 hg3
                 rw [List.length_append, List.length_singleton] at fin
                 have FIN := Aside0.mk fin
                 clear fin hr hb2 hg2 hat2 hb3 hg3 hc3)
  all_goals
    go_wp2
    go_ret
    exact ⟨by rw [EA.out]; rfl, FIN.out⟩
theorem radd.calls {B b : Nat} {v : Value} {l : List S35} {W H : Int} (s : S35) (w : World) (h : RIm B w b v l W H) (hl : l.length ≤ 1000) :
    Calls Tryd.prog 10 #[.pointer (some ⟨b, 0, none⟩), .agg #[.int .i64 s.f0, .int .i64 s.f1, .int .i64 s.f2.f0, .int .i64 s.f2.f1, .int .i64 s.f2.f2]] w (RAddPost B b W H l s w) := by
  by_cases h0 : s.f0 < 0
  · exact raddPlace0.calls s w h hl h0
  by_cases h1 : s.f0 ≥ W
  · exact raddPlace1.calls s w h hl h0 h1
  by_cases h2 : s.f1 < 0
  · exact raddPlace2.calls s w h hl h0 h1 h2
  by_cases h3 : s.f1 ≥ H
  · exact raddPlace3.calls s w h hl h0 h1 h2 h3
  cases p0 : partB s.f2.f0 with
  | false => exact raddRange0.calls s w h hl h0 h1 h2 h3 p0
  | true =>
    cases p1 : partB s.f2.f1 with
    | false => exact raddRange1.calls s w h hl h0 h1 h2 h3 p0 p1
    | true =>
      cases p2 : partB s.f2.f2 with
      | false => exact raddRange2.calls s w h hl h0 h1 h2 h3 p0 p1 p2
      | true => exact raddGood.calls s w h hl h0 h1 h2 h3 p0 p1 p2
end Go.Proofs.YtibecmeajopmeaaDoor.G
