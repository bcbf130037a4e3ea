/- alive answers true. -/
import Derived.Test.YtfhjdhhflpekiaaCLive
import Derived.Test.YtfhjdhhflpekiaaGx14
namespace Go.Proofs.Ytfhjdhhflpekiaa.G
open Go.RowKit Go.Proofs.Cache Go.Proofs.YtfhjdhhflpekiaaW.PrintWords Go.Proofs.YtfhjdhhflpekiaaW.PrintLast Go.Proofs.YtfhjdhhflpekiaaW.PrintMore
set_option linter.unusedVariables false
set_option linter.unusedSimpArgs false
theorem rd_ints {B : Bd} {w : World} {g : Nat} {l : List Int} (hl : l.length ≤ 1000000) (h : w.heap[g]? = some (.cells (l.map (Value.int .i64)).toArray 3 (0, 0))) (hN : ∀ k, ¬ B.N k) : Rd (Kd.int .i64) B w (some ⟨g, 0, none⟩) l := by
  refine ⟨⟨rfl, by omega, fun _ => ⟨_, rfl, fun j p hj => ?_⟩⟩, fun _ a e => by cases e; exact safe_blk h rfl (fun _ => hN _)⟩
  refine ⟨[.int .i64 p], rfl, rfl, fun q u hu => ?_⟩
  rcases q with _ | q
  · cases hu
    rw [add_plain, blk_cell h]
    show ((l.map (Value.int .i64)).toArray)[j * 1 + 0]? = _
    simp [hj]
  · simp at hu
theorem same00 : relievoref00_SameInts.f 2 [0] [0] = some true := by
  first | kernel_rfl | decide | simp [relievoref00_SameInts.f, relievoref00_SameInts.l0, rd, wrap64]
set_option maxHeartbeats 2000000 in
set_option maxRecDepth 100000 in
theorem alive.calls (w : World) : Calls Try.prog 8 #[] w fun e w' => e = .returned (.bool true) ∧ Below w.heap.size w w' := by
  have hu40 := Try.underlying40
  have hu43 := Try.underlying43
  have HB := Aside0.mk (Below.refl w.heap.size w)
  have HS : Aside0 (∀ x ∈ ([3, 4] : List Int), x ≤ 1000) := ⟨by decide⟩
  have EQ : ∀ w, (binOp .eql 32 (.agg #[.int .i64 3, .int .i64 2, .int .i64 0, .int .i64 4]) (.agg #[.int .i64 3, .int .i64 2, .int .i64 0, .int .i64 4])).run Try.prog w = .ok (.bool true) w := fun w => by kernel_rfl
  go_enter Try.func8, Try.ntmps8
  go_wp2_with (first
   | ((with_reducible refine gate_dst (N := 5) rfl ?_); refine lit_event ?hg (N := 5) ?hd (cs := #[.int .i64 3, .int .i64 4]) (t := 3) (n := 2) (c := 2) ?hr ?_; (case hd => rfl); (case hg => rfl); (case hr => first | (go_simp; done) | (go_simp; rfl)); intro g5 hg w5 hbox hb; have BK5 := Aside0.mk (hbox); have GE5 := Aside0.mk (bG hg (HB.out)); replace HB := Aside0.mk (below_step (HB.out) hb); clear hb hbox hg)
   | ((with_reducible refine gate_dst (N := 7) rfl ?_); refine box_event ?hg (N := 7) ?hd (cs := #[.slice (some ⟨g5, 0, none⟩) 2 2]) (t := 30) ?hr ?_; (case hd => rfl); (case hg => rfl); (case hr => first | (go_simp; done) | (go_simp; rfl)); intro g7 hg w7 hbox hb; replace BK5 := cB hb BK5; have MD : Aside0 (MadeAt (bd0 w.heap.size) [3, 4] w7 g7) := ⟨⟨⟨_, _, hbox, Nat.le_refl _, rd_ints (by simp) BK5.out (fun _ => id)⟩⟩⟩; replace HB := Aside0.mk (below_step (HB.out) hb); have NW : Calls Try.prog 11 #[.int .i64 5, .slice none 0 0, .iface 28 (.pointer (some ⟨g7, 0, none⟩))] w7 (LiveNew (bd0 w.heap.size) [3, 4] 5 [] w7) := live_new (B := bd0 w.heap.size) (sizes := [3, 4]) 5 none [] 0 g7 MD.out ⟨rfl, by simp, fun h => absurd h (by simp)⟩ (Nat.le_refl _) (by simp) HB.out.size (by unfold I64; omega) (fun _ => id); clear hb hbox hg)
   | (go_at_call 11; (with_reducible refine NW.mono ?_); rintro e w0 ⟨g, s, rfl, hlv, hb, hmu⟩
      have LV := Aside0.mk hlv
      replace HB := Aside0.mk (below_step (HB.out) hb)
      clear hlv hb hmu)
   | (go_at_call 13; (with_reducible refine (LV.out.get_ok HS.out ?a1 ?a2 ?a3).mono ?_); (case a1 => unfold I64; omega); (case a2 => rfl); (case a3 => decide)
      rintro e w1 ⟨m, s', hmi, hmn, rfl, hms, hgt⟩
      replace HB := Aside0.mk ((HB.out).trans hgt.left.frame.below)
      replace LV := Aside0.mk hgt.live
      have MS := Aside0.mk hms
      have MN := Aside0.mk hmn
      clear hmi hmn hms hgt)
   | ((with_reducible refine gate_dst (N := 2) rfl ?_); refine box_event ?hg (N := 2) ?hd (cs := #[.slice none 0 0, .slice none 0 0, .slice none 0 0]) (t := 40) ?hr ?_; (case hd => rfl); (case hg => rfl); (case hr => first | (go_simp; done) | (go_simp; rfl)); intro g2 hg w2 hbox hb; have BK2 := Aside0.mk (hbox); have GE2 := Aside0.mk (bG hg (HB.out)); replace LV := Aside0.mk (LV.out.below hb); replace MS := Aside0.mk (MS.out.move (.of_below hb)); replace HB := Aside0.mk (below_step (HB.out) hb); clear hb hbox hg)
   | ((with_reducible refine gate_dst (N := 3) rfl ?_); refine box_event ?hg (N := 3) ?hd (cs := #[.slice none 0 0, .slice none 0 0]) (t := 43) ?hr ?_; (case hd => rfl); (case hg => rfl); (case hr => first | (go_simp; done) | (go_simp; rfl)); intro g3 hg w3 hbox hb; have BK3 := Aside0.mk (hbox); have GE3 := Aside0.mk (bG hg (HB.out)); have NE2_3 := cN hg BK2; replace BK2 := cB hb BK2; replace LV := Aside0.mk (LV.out.below hb); replace MS := Aside0.mk (MS.out.move (.of_below hb)); replace HB := Aside0.mk (below_step (HB.out) hb); clear hb hbox hg)
   | ((with_reducible refine gate_store2 (t := 40) (x := .tmp 2) (y := .tmp 19) rfl ?_); refine ev_row (B := w.heap.size) (w0 := w) rfl 40 (.tmp 2) (.tmp 19) rfl rfl g2 m.mesh ?hx ?hy 40 _ BK2.out (by kernel_rfl) rfl (by simp [Value.oneCell', Msh.mesh, Msh.tree]) HB.out GE2.out ?_; (case hx => first | (go_simp; done) | rfl); (case hy => first | (go_simp; done) | rfl | (go_simp; rfl)); intro w4 hbox hb hk; have hsz_ := size_of_but BK2.out hbox hk; replace LV := Aside0.mk (LV.out.but BK2.out (.inl rfl) GE2.out hsz_ hk); replace MS := Aside0.mk (MS.out.move (.of_but BK2.out rfl GE2.out hsz_ hk)); replace BK2 := Aside0.mk hbox; replace HB := Aside0.mk hb; replace BK3 := Aside0.mk ((hk _ (Ne.symm NE2_3.out)).trans BK3.out); clear hbox hb hk hsz_)
   | ((with_reducible refine gate_store2 (t := 43) (x := .tmp 3) (y := .tmp 20) rfl ?_); refine ev_row (B := w.heap.size) (w0 := w) rfl 43 (.tmp 3) (.tmp 20) rfl rfl g3 m.tree ?hx ?hy 43 _ BK3.out (by kernel_rfl) rfl (by simp [Value.oneCell', Msh.mesh, Msh.tree]) HB.out GE3.out ?_; (case hx => first | (go_simp; done) | rfl); (case hy => first | (go_simp; done) | rfl | (go_simp; rfl)); intro w6 hbox hb hk; have hsz_ := size_of_but BK3.out hbox hk; replace LV := Aside0.mk (LV.out.but BK3.out (.inr (.inl rfl)) GE3.out hsz_ hk); replace MS := Aside0.mk (MS.out.move (.of_but BK3.out rfl GE3.out hsz_ hk)); replace BK3 := Aside0.mk hbox; replace HB := Aside0.mk hb; replace BK2 := Aside0.mk ((hk _ NE2_3.out).trans BK2.out); have hst : getP [3, 4] (getP [3, 4] (getP [3, 4] (startP 5 []) 0) 1) 0 = ⟨5, [], 3, [⟨0, 3, 3⟩], 3, 2, 0, 4⟩ := rfl; rw [hst] at LV; clear hst; have TL : Calls Try.prog 20 #[.pointer (some ⟨g, 0, none⟩)] w6 fun x w' => x = .returned (.agg #[.int .i64 3, .int .i64 2, .int .i64 0, .int .i64 4]) ∧ Below w6.heap.size w6 w' := LV.out.tallyc; have q2 : w6.cell? ⟨g2, 0, none⟩ = some (.slice m.vA 1 m.vc) := (blk_cell BK2.out 0).trans rfl; have q3 : w6.cell? ⟨g3, 1, none⟩ = some (.slice m.iA 1 m.ic) := (blk_cell BK3.out 1).trans rfl; clear hbox hb hk hsz_)
   | (go_at_call 20; (with_reducible refine LV.out.tallyc.mono ?_); rintro e w20 ⟨rfl, hb⟩; replace BK2 := cB hb BK2; replace BK3 := cB hb BK3; replace LV := Aside0.mk (LV.out.below hb); replace MS := Aside0.mk (MS.out.move (.of_below hb)); replace HB := Aside0.mk (below_step (HB.out) hb); have KP : Calls Try.prog 17 #[.pointer (some ⟨g, 0, none⟩)] w20 (KeptPost [0] w20) := LV.out.keptc (by decide); clear hb)
   | (go_at_call 17; (with_reducible refine KP.mono ?_); rintro e w17 ⟨A, ca, rfl, hca, hb, hC⟩; replace LV := Aside0.mk (LV.out.below hb); replace HB := Aside0.mk (below_step (HB.out) hb); have SI : Calls Try.prog 16 #[.slice A 1 ca, .slice (some ⟨w17.heap.size, 0, none⟩) 1 1] (w17.alloc (.cells #[.int .i64 0] 3 (0, 0))) (fun e w2 => e = .returned (.bool true) ∧ Drawn0 (w17.alloc (.cells #[.int .i64 0] 3 (0, 0))) w2) := relievoref00_SameInts.calls 2 A ca [0] (some ⟨w17.heap.size, 0, none⟩) 1 [0] true _ (Kd.C_below (hC (bd0 0) (fun _ => id)).1 (below_alloc (Below.refl _ _) _)) hca (rd_ints (B := bd0 0) (l := [0]) (by simp) (blk_new w17 _) (fun _ => id)).1 (Nat.le_refl _) same00; clear hb hC hca)
   | (go_at_call 16; (with_reducible refine SI.mono ?_); rintro e w16 ⟨rfl, ⟨mq, rfl⟩⟩; replace LV := Aside0.mk ((LV.out.below (below_alloc (Below.refl _ _) (.cells #[.int .i64 0] 3 (0, 0)))).drewN mq); replace HB := Aside0.mk (pw_below_drewN (below_alloc HB.out (.cells #[.int .i64 0] 3 (0, 0))) mq); have HD : Calls Try.prog 18 #[.pointer (some ⟨g, 0, none⟩)] ((w17.alloc (.cells #[.int .i64 0] 3 (0, 0))).drewN mq) fun x w2 => x = .returned (.int .i64 3) ∧ w2 = (w17.alloc (.cells #[.int .i64 0] 3 (0, 0))).drewN mq := LV.out.heldc (by decide))
   | (go_at_call 18; (with_reducible refine HD.mono ?_); rintro e w18 ⟨rfl, rfl⟩))
  go_ret
  exact ⟨rfl, HB.out⟩
end Go.Proofs.Ytfhjdhhflpekiaa.G
