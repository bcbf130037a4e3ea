/- What light.Refract answers. -/
import Derived.Test.YtmhnidmbgicgeaaLitAll
import Derived.Test.YtmhnidmbgicgeaaGx1
namespace Go.Proofs.Ytmhnidmbgicgeaa.G
open Go.RowKit Go.Proofs.YtmhnidmbgicgeaaW.PrintWords Go.Proofs.YtmhnidmbgicgeaaW.PrintLast Go.Proofs.YtmhnidmbgicgeaaW.PrintMore
attribute [local go_sem] max2_int min2_int max_two min_two max_three min_three max_four min_four
set_option linter.unusedVariables false
set_option linter.unusedSimpArgs false
attribute [local go_sem high] eqA26
def light_Refract.T3 : Bool × List (List Nat × List Nat) := (true, [([], []), ([0], [0]), ([], []), ([2, 1], [2]), ([], []), ([], []), ([4, 1, 3, 0, 1, 4, 5], [1, 4]), ([5, 3, 6, 0, 1, 2, 3, 4, 5, 6], [3, 5])])
def light_Refract.B3 : List Nat := [0, 1, 0, 7, 0, 0, 63, 127]
theorem light_Refract.tab3 : rtab .any (opsOf Try.f15 3) = light_Refract.T3 := by kernel_rfl
theorem light_Refract.bits3 : waitsOk light_Refract.T3.2 light_Refract.B3 = true := by kernel_rfl
def light_Refract.T11 : Bool × List (List Nat × List Nat) := (true, [([], []), ([], []), ([], []), ([1, 2], [1, 2]), ([0, 0], [0]), ([3, 4, 0, 1, 2, 3, 4], [3])])
def light_Refract.B11 : List Nat := [0, 0, 0, 6, 1, 31]
theorem light_Refract.tab11 : rtab .any (opsOf Try.f15 11) = light_Refract.T11 := by kernel_rfl
theorem light_Refract.bits11 : waitsOk light_Refract.T11.2 light_Refract.B11 = true := by kernel_rfl

def light_Refract.f (k : Nat) (a0_0 a0_1 a0_2 a1_0 a1_1 a1_2 a2 : Int) : Option (Int × Int × Int × Bool) :=
  (light_fine.f a0_0 a0_1 a0_2 a1_0 a1_1 a1_2).bind fun t => if t = true then (if a2 < 64 then some (0, 0, 0, false) else if a2 > 1024 then some (0, 0, 0, false) else
    (vec_Dot.f a0_0 a0_1 a0_2 a1_0 a1_1 a1_2).bind fun e => if e ≥ 0 then some (0, 0, 0, false) else
    (light_unit.f k a0_0 a0_1 a0_2).bind fun u => (light_unit.f k a1_0 a1_1 a1_2).bind fun m => (vec_Dot.f u.1 u.2.1 u.2.2 m.1 m.2.1 m.2.2).bind fun p => (light_floor.f p 4096).bind fun c =>
    (light_floor.f (wrap64 (wrap64 (a2 * a2) * wrap64 (16777216 - wrap64 (wrap64 (-c) * wrap64 (-c))))) 65536).bind fun f0 =>
    if wrap64 (16777216 - f0) < 0 then some (0, 0, 0, false) else
    (light_floor.f (wrap64 (a2 * wrap64 (-c))) 256).bind fun g0 => (light_root.f k (wrap64 (16777216 - f0)) 1).bind fun s =>
    (light_floor.f (wrap64 (a2 * u.1)) 256).bind fun x1 => (light_floor.f (wrap64 (wrap64 (g0 - s) * m.1)) 4096).bind fun x2 =>
    (light_floor.f (wrap64 (a2 * u.2.1)) 256).bind fun y1 => (light_floor.f (wrap64 (wrap64 (g0 - s) * m.2.1)) 4096).bind fun y2 =>
    (light_floor.f (wrap64 (a2 * u.2.2)) 256).bind fun z1 => (light_floor.f (wrap64 (wrap64 (g0 - s) * m.2.2)) 4096).bind fun z2 =>
    (vec_Cut.f k (wrap64 (x1 + x2)) (wrap64 (y1 + y2)) (wrap64 (z1 + z2)) 32768).bind fun o => some (o.1, o.2.1, o.2.2, !(o.1 == 0 && (o.2.1 == 0 && (o.2.2 == 0))))) else some (0, 0, 0, false)
theorem light_Refract.mono : ∀ a0_0 a0_1 a0_2 a1_0 a1_1 a1_2 a2 k, LeO (light_Refract.f k a0_0 a0_1 a0_2 a1_0 a1_1 a1_2 a2) (light_Refract.f (k + 1) a0_0 a0_1 a0_2 a1_0 a1_1 a1_2 a2) := by
  intro a0_0 a0_1 a0_2 a1_0 a1_1 a1_2 a2 k
  unfold light_Refract.f
  repeat' first
      | (with_reducible exact vec_Cut.mono _ _ _ _ _)
      | (with_reducible exact light_unit.mono _ _ _ _)
      | (with_reducible exact light_root.mono _ _ _)
      | (with_reducible exact LeO.refl _)
      | (with_reducible exact LeO.none _)
      | (with_reducible refine LeO.ite ?_ ?_)
      | (with_reducible refine LeO.bind ?_ (fun _ => ?_))
set_option maxHeartbeats 4000000 in
set_option maxRecDepth 100000 in
theorem light_Refract.calls (k : Nat) (a0_0 a0_1 a0_2 a1_0 a1_1 a1_2 a2 : Int) (r1 r2 r3 : Int) (r4 : Bool) (w : World) (h : light_Refract.f k a0_0 a0_1 a0_2 a1_0 a1_1 a1_2 a2 = some (r1, r2, r3, r4)) :
    Calls Try.prog 15 #[.agg #[.int .i64 a0_0, .int .i64 a0_1, .int .i64 a0_2], .agg #[.int .i64 a1_0, .int .i64 a1_1, .int .i64 a1_2], .int .i64 a2] w fun e w' => e = .returned (.tuple #[.agg #[.int .i64 r1, .int .i64 r2, .int .i64 r3], .bool r4]) ∧ Below w.heap.size w w' := by
 have hu26 := Try.underlying26
 have hu3 := Try.underlying3
 have hmf : ∀ (fn : Fn) (first cap : Array Value) (w : World), (Instr.makeFunc fn first cap).run Try.prog w = .ok (.func fn first cap) w := fun _ _ _ _ => rfl
 unfold light_Refract.f at h
 replace h := Option.bind_eq_some_iff.mp h
 obtain ⟨t, ht, h⟩ := h
 have CF := fun w => light_fine.calls a0_0 a0_1 a0_2 a1_0 a1_1 a1_2 t w ht
 have HB := Aside0.mk (Below.refl w.heap.size w)
 clear ht
 cases t
 · rw [if_neg (by decide)] at h
   obtain ⟨rfl, rfl, rfl, rfl⟩ : r1 = 0 ∧ r2 = 0 ∧ r3 = 0 ∧ r4 = false := by simpa [eq_comm] using h
   clear h
   go_enter Try.func15, Try.ntmps15
   go_wp2_with (first
  | ((with_reducible refine gate_dst (N := 3) rfl ?_); refine box_event ?hg (N := 3) ?hd (cs := #[.int .i64 a0_0, .int .i64 a0_1, .int .i64 a0_2]) (t := 26) ?hr ?_; (case hd => rfl); (case hg => rfl); (case hr => first | (go_simp; done) | (go_simp; rfl)); intro g3 hg w4 hbox hb; have BK3 := Aside0.mk (hbox); have GE3 := Aside0.mk (bG hg (HB.out)); replace HB := Aside0.mk (below_step (HB.out) hb); clear hb hbox hg)
  | ((with_reducible refine gate_dst (N := 4) rfl ?_); refine box_event ?hg (N := 4) ?hd (cs := #[.int .i64 a1_0, .int .i64 a1_1, .int .i64 a1_2]) (t := 26) ?hr ?_; (case hd => rfl); (case hg => rfl); (case hr => first | (go_simp; done) | (go_simp; rfl)); intro g4 hg w5 hbox hb; have BK4 := Aside0.mk (hbox); have GE4 := Aside0.mk (bG hg (HB.out)); have N34 := cN hg BK3; have N43 := cM hg BK3; replace HB := Aside0.mk (below_step (HB.out) hb); replace BK3 := cB hb BK3; clear hb hbox hg)
  | ((with_reducible refine gate_dst (N := 5) rfl ?_); refine box_event ?hg (N := 5) ?hd (cs := #[.int .i64 a2]) (t := 3) ?hr ?_; (case hd => rfl); (case hg => rfl); (case hr => first | (go_simp; done) | (go_simp; rfl)); intro g5 hg w6 hbox hb; have BK5 := Aside0.mk (hbox); have GE5 := Aside0.mk (bG hg (HB.out)); have N35 := cN hg BK3; have N53 := cM hg BK3; have N45 := cN hg BK4; have N54 := cM hg BK4; replace HB := Aside0.mk (below_step (HB.out) hb); replace BK3 := cB hb BK3; replace BK4 := cB hb BK4; clear hb hbox hg)
  | ((with_reducible refine gate_dst (N := 6) rfl ?_); refine box_event ?hg (N := 6) ?hd (cs := #[.int .i64 0, .int .i64 0, .int .i64 0]) (t := 26) ?hr ?_; (case hd => rfl); (case hg => rfl); (case hr => first | (go_simp; done) | (go_simp; rfl)); intro g6 hg w7 hbox hb; have BK6 := Aside0.mk (hbox); have GE6 := Aside0.mk (bG hg (HB.out)); have N36 := cN hg BK3; have N63 := cM hg BK3; have N46 := cN hg BK4; have N64 := cM hg BK4; have N56 := cN hg BK5; have N65 := cM hg BK5; replace HB := Aside0.mk (below_step (HB.out) hb); replace BK3 := cB hb BK3; replace BK4 := cB hb BK4; replace BK5 := cB hb BK5; clear hb hbox hg; obtain ⟨k0, k1, k2⟩ := cells3 BK3.out; obtain ⟨l0, l1, l2⟩ := cells3 BK4.out; have p0 := (blk_cell BK5.out 0).trans (rfl : _ = some (Value.int .i64 a2)))
  | (go_at_call 27; (with_reducible refine (CF _).mono ?_); rintro e w8 ⟨rfl, hb⟩; replace BK3 := cB hb BK3; replace BK4 := cB hb BK4; replace BK5 := cB hb BK5; replace BK6 := cB hb BK6; replace HB := Aside0.mk (below_step (HB.out) hb); clear hb; obtain ⟨k0, k1, k2⟩ := cells3 BK3.out; obtain ⟨l0, l1, l2⟩ := cells3 BK4.out; have p0 := (blk_cell BK5.out 0).trans (rfl : _ = some (Value.int .i64 a2)); have zz0 := (blk_cell BK6.out 0).trans (rfl : _ = some (Value.int .i64 0)); have zzf0 := blk_frozen BK6.out 0; have zz1 := (blk_cell BK6.out 1).trans (rfl : _ = some (Value.int .i64 0)); have zzf1 := blk_frozen BK6.out 1; have zz2 := (blk_cell BK6.out 2).trans (rfl : _ = some (Value.int .i64 0)); have zzf2 := blk_frozen BK6.out 2))
   refine bodyPost_ret (results_ct rfl _ _ g6 26 #[.int .i64 0, .int .i64 0, .int .i64 0] (0, 0) _ rfl (blk_put (cs' := #[.int .i64 0, .int .i64 0, .int .i64 0]) (blk_put (blk_put BK6.out 0 _ rfl) 1 _ rfl) 2 _ rfl) Try.underlying26 rfl (by kernel_rfl)) rfl ?_
   exact ⟨rfl, below_set (below_set (below_set HB.out GE6.out) GE6.out) GE6.out⟩
 rw [if_pos rfl] at h
 by_cases b0 : a2 < 64
 · rw [if_pos b0] at h
   obtain ⟨rfl, rfl, rfl, rfl⟩ : r1 = 0 ∧ r2 = 0 ∧ r3 = 0 ∧ r4 = false := by simpa [eq_comm] using h
   clear h
   go_enter Try.func15, Try.ntmps15
   go_wp2_with (first
  | ((with_reducible refine gate_dst (N := 3) rfl ?_); refine box_event ?hg (N := 3) ?hd (cs := #[.int .i64 a0_0, .int .i64 a0_1, .int .i64 a0_2]) (t := 26) ?hr ?_; (case hd => rfl); (case hg => rfl); (case hr => first | (go_simp; done) | (go_simp; rfl)); intro g3 hg w4 hbox hb; have BK3 := Aside0.mk (hbox); have GE3 := Aside0.mk (bG hg (HB.out)); replace HB := Aside0.mk (below_step (HB.out) hb); clear hb hbox hg)
  | ((with_reducible refine gate_dst (N := 4) rfl ?_); refine box_event ?hg (N := 4) ?hd (cs := #[.int .i64 a1_0, .int .i64 a1_1, .int .i64 a1_2]) (t := 26) ?hr ?_; (case hd => rfl); (case hg => rfl); (case hr => first | (go_simp; done) | (go_simp; rfl)); intro g4 hg w5 hbox hb; have BK4 := Aside0.mk (hbox); have GE4 := Aside0.mk (bG hg (HB.out)); have N34 := cN hg BK3; have N43 := cM hg BK3; replace HB := Aside0.mk (below_step (HB.out) hb); replace BK3 := cB hb BK3; clear hb hbox hg)
  | ((with_reducible refine gate_dst (N := 5) rfl ?_); refine box_event ?hg (N := 5) ?hd (cs := #[.int .i64 a2]) (t := 3) ?hr ?_; (case hd => rfl); (case hg => rfl); (case hr => first | (go_simp; done) | (go_simp; rfl)); intro g5 hg w6 hbox hb; have BK5 := Aside0.mk (hbox); have GE5 := Aside0.mk (bG hg (HB.out)); have N35 := cN hg BK3; have N53 := cM hg BK3; have N45 := cN hg BK4; have N54 := cM hg BK4; replace HB := Aside0.mk (below_step (HB.out) hb); replace BK3 := cB hb BK3; replace BK4 := cB hb BK4; clear hb hbox hg)
  | ((with_reducible refine gate_dst (N := 6) rfl ?_); refine box_event ?hg (N := 6) ?hd (cs := #[.int .i64 0, .int .i64 0, .int .i64 0]) (t := 26) ?hr ?_; (case hd => rfl); (case hg => rfl); (case hr => first | (go_simp; done) | (go_simp; rfl)); intro g6 hg w7 hbox hb; have BK6 := Aside0.mk (hbox); have GE6 := Aside0.mk (bG hg (HB.out)); have N36 := cN hg BK3; have N63 := cM hg BK3; have N46 := cN hg BK4; have N64 := cM hg BK4; have N56 := cN hg BK5; have N65 := cM hg BK5; replace HB := Aside0.mk (below_step (HB.out) hb); replace BK3 := cB hb BK3; replace BK4 := cB hb BK4; replace BK5 := cB hb BK5; clear hb hbox hg; obtain ⟨k0, k1, k2⟩ := cells3 BK3.out; obtain ⟨l0, l1, l2⟩ := cells3 BK4.out; have p0 := (blk_cell BK5.out 0).trans (rfl : _ = some (Value.int .i64 a2)))
  | (go_at_call 27; (with_reducible refine (CF _).mono ?_); rintro e w8 ⟨rfl, hb⟩; replace BK3 := cB hb BK3; replace BK4 := cB hb BK4; replace BK5 := cB hb BK5; replace BK6 := cB hb BK6; replace HB := Aside0.mk (below_step (HB.out) hb); clear hb; obtain ⟨k0, k1, k2⟩ := cells3 BK3.out; obtain ⟨l0, l1, l2⟩ := cells3 BK4.out; have p0 := (blk_cell BK5.out 0).trans (rfl : _ = some (Value.int .i64 a2)); have zz0 := (blk_cell BK6.out 0).trans (rfl : _ = some (Value.int .i64 0)); have zzf0 := blk_frozen BK6.out 0; have zz1 := (blk_cell BK6.out 1).trans (rfl : _ = some (Value.int .i64 0)); have zzf1 := blk_frozen BK6.out 1; have zz2 := (blk_cell BK6.out 2).trans (rfl : _ = some (Value.int .i64 0)); have zzf2 := blk_frozen BK6.out 2))
   refine bodyPost_ret (results_ct rfl _ _ g6 26 #[.int .i64 0, .int .i64 0, .int .i64 0] (0, 0) _ rfl (blk_put (cs' := #[.int .i64 0, .int .i64 0, .int .i64 0]) (blk_put (blk_put BK6.out 0 _ rfl) 1 _ rfl) 2 _ rfl) Try.underlying26 rfl (by kernel_rfl)) rfl ?_
   exact ⟨rfl, below_set (below_set (below_set HB.out GE6.out) GE6.out) GE6.out⟩
 rw [if_neg b0] at h
 by_cases b1 : a2 > 1024
 · rw [if_pos b1] at h
   obtain ⟨rfl, rfl, rfl, rfl⟩ : r1 = 0 ∧ r2 = 0 ∧ r3 = 0 ∧ r4 = false := by simpa [eq_comm] using h
   clear h
   go_enter Try.func15, Try.ntmps15
   go_wp2_with (first
  | ((with_reducible refine gate_dst (N := 3) rfl ?_); refine box_event ?hg (N := 3) ?hd (cs := #[.int .i64 a0_0, .int .i64 a0_1, .int .i64 a0_2]) (t := 26) ?hr ?_; (case hd => rfl); (case hg => rfl); (case hr => first | (go_simp; done) | (go_simp; rfl)); intro g3 hg w4 hbox hb; have BK3 := Aside0.mk (hbox); have GE3 := Aside0.mk (bG hg (HB.out)); replace HB := Aside0.mk (below_step (HB.out) hb); clear hb hbox hg)
  | ((with_reducible refine gate_dst (N := 4) rfl ?_); refine box_event ?hg (N := 4) ?hd (cs := #[.int .i64 a1_0, .int .i64 a1_1, .int .i64 a1_2]) (t := 26) ?hr ?_; (case hd => rfl); (case hg => rfl); (case hr => first | (go_simp; done) | (go_simp; rfl)); intro g4 hg w5 hbox hb; have BK4 := Aside0.mk (hbox); have GE4 := Aside0.mk (bG hg (HB.out)); have N34 := cN hg BK3; have N43 := cM hg BK3; replace HB := Aside0.mk (below_step (HB.out) hb); replace BK3 := cB hb BK3; clear hb hbox hg)
  | ((with_reducible refine gate_dst (N := 5) rfl ?_); refine box_event ?hg (N := 5) ?hd (cs := #[.int .i64 a2]) (t := 3) ?hr ?_; (case hd => rfl); (case hg => rfl); (case hr => first | (go_simp; done) | (go_simp; rfl)); intro g5 hg w6 hbox hb; have BK5 := Aside0.mk (hbox); have GE5 := Aside0.mk (bG hg (HB.out)); have N35 := cN hg BK3; have N53 := cM hg BK3; have N45 := cN hg BK4; have N54 := cM hg BK4; replace HB := Aside0.mk (below_step (HB.out) hb); replace BK3 := cB hb BK3; replace BK4 := cB hb BK4; clear hb hbox hg)
  | ((with_reducible refine gate_dst (N := 6) rfl ?_); refine box_event ?hg (N := 6) ?hd (cs := #[.int .i64 0, .int .i64 0, .int .i64 0]) (t := 26) ?hr ?_; (case hd => rfl); (case hg => rfl); (case hr => first | (go_simp; done) | (go_simp; rfl)); intro g6 hg w7 hbox hb; have BK6 := Aside0.mk (hbox); have GE6 := Aside0.mk (bG hg (HB.out)); have N36 := cN hg BK3; have N63 := cM hg BK3; have N46 := cN hg BK4; have N64 := cM hg BK4; have N56 := cN hg BK5; have N65 := cM hg BK5; replace HB := Aside0.mk (below_step (HB.out) hb); replace BK3 := cB hb BK3; replace BK4 := cB hb BK4; replace BK5 := cB hb BK5; clear hb hbox hg; obtain ⟨k0, k1, k2⟩ := cells3 BK3.out; obtain ⟨l0, l1, l2⟩ := cells3 BK4.out; have p0 := (blk_cell BK5.out 0).trans (rfl : _ = some (Value.int .i64 a2)))
  | (go_at_call 27; (with_reducible refine (CF _).mono ?_); rintro e w8 ⟨rfl, hb⟩; replace BK3 := cB hb BK3; replace BK4 := cB hb BK4; replace BK5 := cB hb BK5; replace BK6 := cB hb BK6; replace HB := Aside0.mk (below_step (HB.out) hb); clear hb; obtain ⟨k0, k1, k2⟩ := cells3 BK3.out; obtain ⟨l0, l1, l2⟩ := cells3 BK4.out; have p0 := (blk_cell BK5.out 0).trans (rfl : _ = some (Value.int .i64 a2)); have zz0 := (blk_cell BK6.out 0).trans (rfl : _ = some (Value.int .i64 0)); have zzf0 := blk_frozen BK6.out 0; have zz1 := (blk_cell BK6.out 1).trans (rfl : _ = some (Value.int .i64 0)); have zzf1 := blk_frozen BK6.out 1; have zz2 := (blk_cell BK6.out 2).trans (rfl : _ = some (Value.int .i64 0)); have zzf2 := blk_frozen BK6.out 2))
   refine bodyPost_ret (results_ct rfl _ _ g6 26 #[.int .i64 0, .int .i64 0, .int .i64 0] (0, 0) _ rfl (blk_put (cs' := #[.int .i64 0, .int .i64 0, .int .i64 0]) (blk_put (blk_put BK6.out 0 _ rfl) 1 _ rfl) 2 _ rfl) Try.underlying26 rfl (by kernel_rfl)) rfl ?_
   exact ⟨rfl, below_set (below_set (below_set HB.out GE6.out) GE6.out) GE6.out⟩
 rw [if_neg b1] at h
 replace h := Option.bind_eq_some_iff.mp h
 obtain ⟨e, he, h⟩ := h
 have CE := fun w => vec_Dot.calls a0_0 a0_1 a0_2 a1_0 a1_1 a1_2 e w he
 clear he
 by_cases b2 : e ≥ 0
 · rw [if_pos b2] at h
   obtain ⟨rfl, rfl, rfl, rfl⟩ : r1 = 0 ∧ r2 = 0 ∧ r3 = 0 ∧ r4 = false := by simpa [eq_comm] using h
   clear h
   go_enter Try.func15, Try.ntmps15
   go_wp2_with (first
  | ((with_reducible refine gate_dst (N := 3) rfl ?_); refine box_event ?hg (N := 3) ?hd (cs := #[.int .i64 a0_0, .int .i64 a0_1, .int .i64 a0_2]) (t := 26) ?hr ?_; (case hd => rfl); (case hg => rfl); (case hr => first | (go_simp; done) | (go_simp; rfl)); intro g3 hg w4 hbox hb; have BK3 := Aside0.mk (hbox); have GE3 := Aside0.mk (bG hg (HB.out)); replace HB := Aside0.mk (below_step (HB.out) hb); clear hb hbox hg)
  | ((with_reducible refine gate_dst (N := 4) rfl ?_); refine box_event ?hg (N := 4) ?hd (cs := #[.int .i64 a1_0, .int .i64 a1_1, .int .i64 a1_2]) (t := 26) ?hr ?_; (case hd => rfl); (case hg => rfl); (case hr => first | (go_simp; done) | (go_simp; rfl)); intro g4 hg w5 hbox hb; have BK4 := Aside0.mk (hbox); have GE4 := Aside0.mk (bG hg (HB.out)); have N34 := cN hg BK3; have N43 := cM hg BK3; replace HB := Aside0.mk (below_step (HB.out) hb); replace BK3 := cB hb BK3; clear hb hbox hg)
  | ((with_reducible refine gate_dst (N := 5) rfl ?_); refine box_event ?hg (N := 5) ?hd (cs := #[.int .i64 a2]) (t := 3) ?hr ?_; (case hd => rfl); (case hg => rfl); (case hr => first | (go_simp; done) | (go_simp; rfl)); intro g5 hg w6 hbox hb; have BK5 := Aside0.mk (hbox); have GE5 := Aside0.mk (bG hg (HB.out)); have N35 := cN hg BK3; have N53 := cM hg BK3; have N45 := cN hg BK4; have N54 := cM hg BK4; replace HB := Aside0.mk (below_step (HB.out) hb); replace BK3 := cB hb BK3; replace BK4 := cB hb BK4; clear hb hbox hg)
  | ((with_reducible refine gate_dst (N := 6) rfl ?_); refine box_event ?hg (N := 6) ?hd (cs := #[.int .i64 0, .int .i64 0, .int .i64 0]) (t := 26) ?hr ?_; (case hd => rfl); (case hg => rfl); (case hr => first | (go_simp; done) | (go_simp; rfl)); intro g6 hg w7 hbox hb; have BK6 := Aside0.mk (hbox); have GE6 := Aside0.mk (bG hg (HB.out)); have N36 := cN hg BK3; have N63 := cM hg BK3; have N46 := cN hg BK4; have N64 := cM hg BK4; have N56 := cN hg BK5; have N65 := cM hg BK5; replace HB := Aside0.mk (below_step (HB.out) hb); replace BK3 := cB hb BK3; replace BK4 := cB hb BK4; replace BK5 := cB hb BK5; clear hb hbox hg; obtain ⟨k0, k1, k2⟩ := cells3 BK3.out; obtain ⟨l0, l1, l2⟩ := cells3 BK4.out; have p0 := (blk_cell BK5.out 0).trans (rfl : _ = some (Value.int .i64 a2)))
  | (go_at_call 27; (with_reducible refine (CF _).mono ?_); rintro e w8 ⟨rfl, hb⟩; replace BK3 := cB hb BK3; replace BK4 := cB hb BK4; replace BK5 := cB hb BK5; replace BK6 := cB hb BK6; replace HB := Aside0.mk (below_step (HB.out) hb); clear hb; obtain ⟨k0, k1, k2⟩ := cells3 BK3.out; obtain ⟨l0, l1, l2⟩ := cells3 BK4.out; have p0 := (blk_cell BK5.out 0).trans (rfl : _ = some (Value.int .i64 a2)); have zz0 := (blk_cell BK6.out 0).trans (rfl : _ = some (Value.int .i64 0)); have zzf0 := blk_frozen BK6.out 0; have zz1 := (blk_cell BK6.out 1).trans (rfl : _ = some (Value.int .i64 0)); have zzf1 := blk_frozen BK6.out 1; have zz2 := (blk_cell BK6.out 2).trans (rfl : _ = some (Value.int .i64 0)); have zzf2 := blk_frozen BK6.out 2)
  | (go_at_call 16; (with_reducible refine (CE _).mono ?_); rintro e w9 ⟨rfl, hb⟩; replace BK3 := cB hb BK3; replace BK4 := cB hb BK4; replace BK5 := cB hb BK5; replace BK6 := cB hb BK6; replace HB := Aside0.mk (below_step (HB.out) hb); clear hb; obtain ⟨k0, k1, k2⟩ := cells3 BK3.out; obtain ⟨l0, l1, l2⟩ := cells3 BK4.out; have p0 := (blk_cell BK5.out 0).trans (rfl : _ = some (Value.int .i64 a2)); have zz0 := (blk_cell BK6.out 0).trans (rfl : _ = some (Value.int .i64 0)); have zzf0 := blk_frozen BK6.out 0; have zz1 := (blk_cell BK6.out 1).trans (rfl : _ = some (Value.int .i64 0)); have zzf1 := blk_frozen BK6.out 1; have zz2 := (blk_cell BK6.out 2).trans (rfl : _ = some (Value.int .i64 0)); have zzf2 := blk_frozen BK6.out 2))
   refine bodyPost_ret (results_ct rfl _ _ g6 26 #[.int .i64 0, .int .i64 0, .int .i64 0] (0, 0) _ rfl (blk_put (cs' := #[.int .i64 0, .int .i64 0, .int .i64 0]) (blk_put (blk_put BK6.out 0 _ rfl) 1 _ rfl) 2 _ rfl) Try.underlying26 rfl (by kernel_rfl)) rfl ?_
   exact ⟨rfl, below_set (below_set (below_set HB.out GE6.out) GE6.out) GE6.out⟩
 rw [if_neg b2] at h
 replace h := Option.bind_eq_some_iff.mp h
 obtain ⟨⟨u0, u1, u2⟩, hu, h⟩ := h
 replace h := Option.bind_eq_some_iff.mp h
 obtain ⟨⟨m0, m1, m2⟩, hm, h⟩ := h
 dsimp only at h
 replace h := Option.bind_eq_some_iff.mp h
 obtain ⟨p, hp, h⟩ := h
 replace h := Option.bind_eq_some_iff.mp h
 obtain ⟨c, hc, h⟩ := h
 replace h := Option.bind_eq_some_iff.mp h
 obtain ⟨f0, hf0, h⟩ := h
 have CU := fun w => light_unit.calls k a0_0 a0_1 a0_2 u0 u1 u2 w hu
 have CM := fun w => light_unit.calls k a1_0 a1_1 a1_2 m0 m1 m2 w hm
 have CP := fun w => vec_Dot.calls u0 u1 u2 m0 m1 m2 p w hp
 have F0 := fun w => floor_below _ _ c w hc
 have F1 := fun w => floor_below _ _ f0 w hf0
 clear hu hm hp hc hf0
 by_cases b3 : wrap64 (16777216 - f0) < 0
 · rw [if_pos b3] at h
   obtain ⟨rfl, rfl, rfl, rfl⟩ : r1 = 0 ∧ r2 = 0 ∧ r3 = 0 ∧ r4 = false := by simpa [eq_comm] using h
   clear h
   go_enter Try.func15, Try.ntmps15
   go_wp2_with (first
  | ((with_reducible refine gate_dst (N := 3) rfl ?_); refine box_event ?hg (N := 3) ?hd (cs := #[.int .i64 a0_0, .int .i64 a0_1, .int .i64 a0_2]) (t := 26) ?hr ?_; (case hd => rfl); (case hg => rfl); (case hr => first | (go_simp; done) | (go_simp; rfl)); intro g3 hg w4 hbox hb; have BK3 := Aside0.mk (hbox); have GE3 := Aside0.mk (bG hg (HB.out)); replace HB := Aside0.mk (below_step (HB.out) hb); clear hb hbox hg)
  | ((with_reducible refine gate_dst (N := 4) rfl ?_); refine box_event ?hg (N := 4) ?hd (cs := #[.int .i64 a1_0, .int .i64 a1_1, .int .i64 a1_2]) (t := 26) ?hr ?_; (case hd => rfl); (case hg => rfl); (case hr => first | (go_simp; done) | (go_simp; rfl)); intro g4 hg w5 hbox hb; have BK4 := Aside0.mk (hbox); have GE4 := Aside0.mk (bG hg (HB.out)); have N34 := cN hg BK3; have N43 := cM hg BK3; replace HB := Aside0.mk (below_step (HB.out) hb); replace BK3 := cB hb BK3; clear hb hbox hg)
  | ((with_reducible refine gate_dst (N := 5) rfl ?_); refine box_event ?hg (N := 5) ?hd (cs := #[.int .i64 a2]) (t := 3) ?hr ?_; (case hd => rfl); (case hg => rfl); (case hr => first | (go_simp; done) | (go_simp; rfl)); intro g5 hg w6 hbox hb; have BK5 := Aside0.mk (hbox); have GE5 := Aside0.mk (bG hg (HB.out)); have N35 := cN hg BK3; have N53 := cM hg BK3; have N45 := cN hg BK4; have N54 := cM hg BK4; replace HB := Aside0.mk (below_step (HB.out) hb); replace BK3 := cB hb BK3; replace BK4 := cB hb BK4; clear hb hbox hg)
  | ((with_reducible refine gate_dst (N := 6) rfl ?_); refine box_event ?hg (N := 6) ?hd (cs := #[.int .i64 0, .int .i64 0, .int .i64 0]) (t := 26) ?hr ?_; (case hd => rfl); (case hg => rfl); (case hr => first | (go_simp; done) | (go_simp; rfl)); intro g6 hg w7 hbox hb; have BK6 := Aside0.mk (hbox); have GE6 := Aside0.mk (bG hg (HB.out)); have N36 := cN hg BK3; have N63 := cM hg BK3; have N46 := cN hg BK4; have N64 := cM hg BK4; have N56 := cN hg BK5; have N65 := cM hg BK5; replace HB := Aside0.mk (below_step (HB.out) hb); replace BK3 := cB hb BK3; replace BK4 := cB hb BK4; replace BK5 := cB hb BK5; clear hb hbox hg; obtain ⟨k0, k1, k2⟩ := cells3 BK3.out; obtain ⟨l0, l1, l2⟩ := cells3 BK4.out; have p0 := (blk_cell BK5.out 0).trans (rfl : _ = some (Value.int .i64 a2)))
  | (go_at_call 27; (with_reducible refine (CF _).mono ?_); rintro e w8 ⟨rfl, hb⟩; replace BK3 := cB hb BK3; replace BK4 := cB hb BK4; replace BK5 := cB hb BK5; replace BK6 := cB hb BK6; replace HB := Aside0.mk (below_step (HB.out) hb); clear hb; obtain ⟨k0, k1, k2⟩ := cells3 BK3.out; obtain ⟨l0, l1, l2⟩ := cells3 BK4.out; have p0 := (blk_cell BK5.out 0).trans (rfl : _ = some (Value.int .i64 a2)); have zz0 := (blk_cell BK6.out 0).trans (rfl : _ = some (Value.int .i64 0)); have zzf0 := blk_frozen BK6.out 0; have zz1 := (blk_cell BK6.out 1).trans (rfl : _ = some (Value.int .i64 0)); have zzf1 := blk_frozen BK6.out 1; have zz2 := (blk_cell BK6.out 2).trans (rfl : _ = some (Value.int .i64 0)); have zzf2 := blk_frozen BK6.out 2)
  | (go_at_call 16; (with_reducible refine (CE _).mono ?_); rintro e w9 ⟨rfl, hb⟩; replace BK3 := cB hb BK3; replace BK4 := cB hb BK4; replace BK5 := cB hb BK5; replace BK6 := cB hb BK6; replace HB := Aside0.mk (below_step (HB.out) hb); clear hb; obtain ⟨k0, k1, k2⟩ := cells3 BK3.out; obtain ⟨l0, l1, l2⟩ := cells3 BK4.out; have p0 := (blk_cell BK5.out 0).trans (rfl : _ = some (Value.int .i64 a2)); have zz0 := (blk_cell BK6.out 0).trans (rfl : _ = some (Value.int .i64 0)); have zzf0 := blk_frozen BK6.out 0; have zz1 := (blk_cell BK6.out 1).trans (rfl : _ = some (Value.int .i64 0)); have zzf1 := blk_frozen BK6.out 1; have zz2 := (blk_cell BK6.out 2).trans (rfl : _ = some (Value.int .i64 0)); have zzf2 := blk_frozen BK6.out 2))
   replace BK3 := Aside0.mk (blk_drew BK3.out)
   replace BK4 := Aside0.mk (blk_drew BK4.out)
   replace BK5 := Aside0.mk (blk_drew BK5.out)
   replace BK6 := Aside0.mk (blk_drew BK6.out)
   replace HB := Aside0.mk (below_drew1 HB.out)
   refine start_ (n := 8) (S := fun w' => w'.cell? ⟨g3, 0, none⟩ = some (.int .i64 a0_0) ∧ w'.cell? ⟨g3, 1, none⟩ = some (.int .i64 a0_1) ∧ w'.cell? ⟨g3, 2, none⟩ = some (.int .i64 a0_2) ∧ w'.cell? ⟨g4, 0, none⟩ = some (.int .i64 a1_0) ∧ w'.cell? ⟨g4, 1, none⟩ = some (.int .i64 a1_1) ∧ w'.cell? ⟨g4, 2, none⟩ = some (.int .i64 a1_2)) (ds := [6, 7]) #[false, false, false, false, false, false, false, false] (by kernel_rfl) rfl rfl ⟨(blk_cell BK3.out 0).trans rfl, (blk_cell BK3.out 1).trans rfl, (blk_cell BK3.out 2).trans rfl, (blk_cell BK4.out 0).trans rfl, (blk_cell BK4.out 1).trans rfl, (blk_cell BK4.out 2).trans rfl⟩ (fun hHeld => ?_); refine with_tabW light_Refract.tab3 light_Refract.bits3 (fun HT_ HW_ => ?_)
   generalize w9.drew = w10 at BK3 BK4 BK5 BK6 HB hHeld ⊢
   refine take_ (i := 0) (N := some 33) (v := ?_) (a' := ?_) (bm 8 1) rfl rfl (take_ofW HT_.out HW_.out (by kernel_rfl)) (fun _ _ _ h => h) (Or.inl ⟨by rfl, ?_⟩) hHeld ?_ ?_
   rotate_left
   ·rintro w' ⟨s0, s1, s2, s3, s4, s5⟩
    go_simp
    with_reducible rfl
   rotate_left
   ·simp only [Act.put, List.setIfInBounds_toArray, List.set_cons_zero, List.set_cons_succ, i64_w, i32_w]
    rfl
   refine take_ (i := 2) (N := some 35) (v := ?_) (a' := ?_) (bm 8 5) rfl rfl (take_ofW HT_.out HW_.out (by kernel_rfl)) (fun _ _ _ h => h) (Or.inl ⟨by rfl, ?_⟩) hHeld ?_ ?_
   rotate_left
   ·rintro w' ⟨s0, s1, s2, s3, s4, s5⟩
    go_simp
    with_reducible rfl
   rotate_left
   ·simp only [Act.put, List.setIfInBounds_toArray, List.set_cons_zero, List.set_cons_succ, i64_w, i32_w]
    rfl
   refine join_ (σ := Nat × Nat) 2 (bm 8 63) (fun s_ => [(34, .agg #[.int .i64 u0, .int .i64 u1, .int .i64 u2]), (36, .agg #[.int .i64 m0, .int .i64 m1, .int .i64 m2]), (8, .pointer (some ⟨s_.1, 0, none⟩)), (9, .pointer (some ⟨s_.2, 0, none⟩))]) (fun s_ w' => (w'.cell? ⟨g3, 0, none⟩ = some (.int .i64 a0_0) ∧ w'.cell? ⟨g3, 1, none⟩ = some (.int .i64 a0_1) ∧ w'.cell? ⟨g3, 2, none⟩ = some (.int .i64 a0_2) ∧ w'.cell? ⟨g4, 0, none⟩ = some (.int .i64 a1_0) ∧ w'.cell? ⟨g4, 1, none⟩ = some (.int .i64 a1_1) ∧ w'.cell? ⟨g4, 2, none⟩ = some (.int .i64 a1_2)) ∧ (w'.heap[g3]? = some (.cells #[.int .i64 a0_0, .int .i64 a0_1, .int .i64 a0_2] 26 (0, 0))) ∧ (w'.heap[g4]? = some (.cells #[.int .i64 a1_0, .int .i64 a1_1, .int .i64 a1_2] 26 (0, 0))) ∧ (w'.heap[g5]? = some (.cells #[.int .i64 a2] 3 (0, 0))) ∧ (w'.heap[g6]? = some (.cells #[.int .i64 0, .int .i64 0, .int .i64 0] 26 (0, 0))) ∧ (w'.heap[s_.1]? = some (.cells #[.int .i64 0, .int .i64 0, .int .i64 0] 26 (0, 0))) ∧ (w'.heap[s_.2]? = some (.cells #[.int .i64 0, .int .i64 0, .int .i64 0] 26 (0, 0))) ∧ (w.heap.size ≤ s_.1) ∧ (w.heap.size ≤ s_.2) ∧ (g3 ≠ s_.1) ∧ (s_.1 ≠ g3) ∧ (g4 ≠ s_.1) ∧ (s_.1 ≠ g4) ∧ (g5 ≠ s_.1) ∧ (s_.1 ≠ g5) ∧ (g6 ≠ s_.1) ∧ (s_.1 ≠ g6) ∧ (g3 ≠ s_.2) ∧ (s_.2 ≠ g3) ∧ (g4 ≠ s_.2) ∧ (s_.2 ≠ g4) ∧ (g5 ≠ s_.2) ∧ (s_.2 ≠ g5) ∧ (g6 ≠ s_.2) ∧ (s_.2 ≠ g6) ∧ (s_.1 ≠ s_.2) ∧ (s_.2 ≠ s_.1) ∧ (Below w.heap.size w w')) ?_ ?_
   rotate_left
   ·intro hCont
    refine three_ (i := 1) (j := 4) (k := 5) (Ni := some 34) (Nj := some 8) (Nk := some 9) (bm 8 7) (bm 8 21) (bm 8 37) rfl rfl rfl rfl rfl rfl (three_of HT_.out (by kernel_rfl)) (by decide) (by decide) (by decide) (fun K hK => ?_) (fun K hK => ?_) (fun K hK => ?_)
    ·skip
     refine goes_ Try.func32 (by kernel_rfl) rfl #[.agg #[.int .i64 a0_0, .int .i64 a0_1, .int .i64 a0_2]] (by rfl) rfl rfl (by (try simp only [List.map_toArray, List.map_cons, List.map_nil]); first | done | rfl | (simp only [List.length_drop, List.length_take]; rfl)) ?_
     with_reducible refine (CU _).mono ?_
     rintro e w10_1 ⟨rfl, hb⟩
     refine ⟨_, rfl, ?_⟩
     replace BK3 := cB hb BK3
     replace BK4 := cB hb BK4
     replace BK5 := cB hb BK5
     replace BK6 := cB hb BK6
     replace HB := Aside0.mk (below_step (HB.out) hb)
     clear hb
     refine hK.out _ _ ⟨(blk_cell BK3.out 0).trans rfl, (blk_cell BK3.out 1).trans rfl, (blk_cell BK3.out 2).trans rfl, (blk_cell BK4.out 0).trans rfl, (blk_cell BK4.out 1).trans rfl, (blk_cell BK4.out 2).trans rfl⟩ (fun hHeld => ?_)
     clear hK K
     refine norm_ (a' := ?_) ?_ ?_
     rotate_left
     ·show Act.put _ (some 34) _ = _
      simp only [Act.put, List.setIfInBounds_toArray, List.set_cons_zero, List.set_cons_succ, i64_w, i32_w]
      rfl
     refine three_ (i := 3) (j := 4) (k := 5) (Ni := some 36) (Nj := some 8) (Nk := some 9) (bm 8 15) (bm 8 23) (bm 8 39) rfl rfl rfl rfl rfl rfl (three_of HT_.out (by kernel_rfl)) (by decide) (by decide) (by decide) (fun K hK => ?_) (fun K hK => ?_) (fun K hK => ?_)
     ·skip
      refine goes_ Try.func32 (by kernel_rfl) rfl #[.agg #[.int .i64 a1_0, .int .i64 a1_1, .int .i64 a1_2]] (by rfl) rfl rfl (by (try simp only [List.map_toArray, List.map_cons, List.map_nil]); first | done | rfl | (simp only [List.length_drop, List.length_take]; rfl)) ?_
      with_reducible refine (CM _).mono ?_
      rintro e w10_2 ⟨rfl, hb⟩
      refine ⟨_, rfl, ?_⟩
      replace BK3 := cB hb BK3
      replace BK4 := cB hb BK4
      replace BK5 := cB hb BK5
      replace BK6 := cB hb BK6
      replace HB := Aside0.mk (below_step (HB.out) hb)
      clear hb
      refine hK.out _ _ ⟨(blk_cell BK3.out 0).trans rfl, (blk_cell BK3.out 1).trans rfl, (blk_cell BK3.out 2).trans rfl, (blk_cell BK4.out 0).trans rfl, (blk_cell BK4.out 1).trans rfl, (blk_cell BK4.out 2).trans rfl⟩ (fun hHeld => ?_)
      clear hK K
      refine norm_ (a' := ?_) ?_ ?_
      rotate_left
      ·show Act.put _ (some 36) _ = _
       simp only [Act.put, List.setIfInBounds_toArray, List.set_cons_zero, List.set_cons_succ, i64_w, i32_w]
       rfl
      refine two_ (i := 4) (j := 5) (Ni := some 8) (Nj := some 9) (bm 8 31) (bm 8 47) rfl rfl rfl rfl (two_of HT_.out (by kernel_rfl)) (by decide) (by decide) (fun K hK => ?_) (fun K hK => ?_)
      ·skip
       refine box_step ?hg (N := 8) ?hd (cs := #[.int .i64 0, .int .i64 0, .int .i64 0]) (t := 26) ?hr ?_; (case hd => rfl); (case hg => rfl); (case hr => first | (go_simp; done) | (go_simp; rfl))
       intro g8 hg w10_3 hbox hb
       have BK8 := Aside0.mk (hbox)
       have GE8 := Aside0.mk (bG hg (HB.out))
       have N38 := cN hg BK3
       have N83 := cM hg BK3
       have N48 := cN hg BK4
       have N84 := cM hg BK4
       have N58 := cN hg BK5
       have N85 := cM hg BK5
       have N68 := cN hg BK6
       have N86 := cM hg BK6
       clear hbox hg
       replace BK3 := cB hb BK3
       replace BK4 := cB hb BK4
       replace BK5 := cB hb BK5
       replace BK6 := cB hb BK6
       replace HB := Aside0.mk (below_step (HB.out) hb)
       clear hb
       refine hK.out _ _ ⟨(blk_cell BK3.out 0).trans rfl, (blk_cell BK3.out 1).trans rfl, (blk_cell BK3.out 2).trans rfl, (blk_cell BK4.out 0).trans rfl, (blk_cell BK4.out 1).trans rfl, (blk_cell BK4.out 2).trans rfl⟩ (fun hHeld => ?_)
       clear hK K
       refine norm_ (a' := ?_) ?_ ?_
       rotate_left
       ·show Act.put _ (some 8) _ = _
        simp only [Act.put, List.setIfInBounds_toArray, List.set_cons_zero, List.set_cons_succ, i64_w, i32_w]
        rfl
       refine one_ (i := 5) (N := some 9) (bm 8 63) rfl rfl (one_of HT_.out (by kernel_rfl)) (by decide) (fun K hK => ?_)
       refine box_step ?hg (N := 9) ?hd (cs := #[.int .i64 0, .int .i64 0, .int .i64 0]) (t := 26) ?hr ?_; (case hd => rfl); (case hg => rfl); (case hr => first | (go_simp; done) | (go_simp; rfl))
       intro g9 hg w10_4 hbox hb
       have BK9 := Aside0.mk (hbox)
       have GE9 := Aside0.mk (bG hg (HB.out))
       have N39 := cN hg BK3
       have N93 := cM hg BK3
       have N49 := cN hg BK4
       have N94 := cM hg BK4
       have N59 := cN hg BK5
       have N95 := cM hg BK5
       have N69 := cN hg BK6
       have N96 := cM hg BK6
       have N89 := cN hg BK8
       have N98 := cM hg BK8
       clear hbox hg
       replace BK3 := cB hb BK3
       replace BK4 := cB hb BK4
       replace BK5 := cB hb BK5
       replace BK6 := cB hb BK6
       replace BK8 := cB hb BK8
       replace HB := Aside0.mk (below_step (HB.out) hb)
       clear hb
       refine hK.out _ _ ⟨(blk_cell BK3.out 0).trans rfl, (blk_cell BK3.out 1).trans rfl, (blk_cell BK3.out 2).trans rfl, (blk_cell BK4.out 0).trans rfl, (blk_cell BK4.out 1).trans rfl, (blk_cell BK4.out 2).trans rfl⟩ (fun hHeld => ?_)
       clear hK K
       refine norm_ (a' := ?_) ?_ ?_
       rotate_left
       ·show Act.put _ (some 9) _ = _
        simp only [Act.put, List.setIfInBounds_toArray, List.set_cons_zero, List.set_cons_succ, i64_w, i32_w]
        rfl
       exact norm_ (by simp only [putAll, Act.put, List.setIfInBounds_toArray, List.set_cons_zero, List.set_cons_succ]) (hCont (g8, g9) _ ⟨hHeld, BK3.out, BK4.out, BK5.out, BK6.out, BK8.out, BK9.out, GE8.out, GE9.out, N38.out, N83.out, N48.out, N84.out, N58.out, N85.out, N68.out, N86.out, N39.out, N93.out, N49.out, N94.out, N59.out, N95.out, N69.out, N96.out, N89.out, N98.out, HB.out⟩)
      ·skip
       refine box_step ?hg (N := 9) ?hd (cs := #[.int .i64 0, .int .i64 0, .int .i64 0]) (t := 26) ?hr ?_; (case hd => rfl); (case hg => rfl); (case hr => first | (go_simp; done) | (go_simp; rfl))
       intro g9 hg w10_5 hbox hb
       have BK9 := Aside0.mk (hbox)
       have GE9 := Aside0.mk (bG hg (HB.out))
       have N39 := cN hg BK3
       have N93 := cM hg BK3
       have N49 := cN hg BK4
       have N94 := cM hg BK4
       have N59 := cN hg BK5
       have N95 := cM hg BK5
       have N69 := cN hg BK6
       have N96 := cM hg BK6
       clear hbox hg
       replace BK3 := cB hb BK3
       replace BK4 := cB hb BK4
       replace BK5 := cB hb BK5
       replace BK6 := cB hb BK6
       replace HB := Aside0.mk (below_step (HB.out) hb)
       clear hb
       refine hK.out _ _ ⟨(blk_cell BK3.out 0).trans rfl, (blk_cell BK3.out 1).trans rfl, (blk_cell BK3.out 2).trans rfl, (blk_cell BK4.out 0).trans rfl, (blk_cell BK4.out 1).trans rfl, (blk_cell BK4.out 2).trans rfl⟩ (fun hHeld => ?_)
       clear hK K
       refine norm_ (a' := ?_) ?_ ?_
       rotate_left
       ·show Act.put _ (some 9) _ = _
        simp only [Act.put, List.setIfInBounds_toArray, List.set_cons_zero, List.set_cons_succ, i64_w, i32_w]
        rfl
       refine one_ (i := 4) (N := some 8) (bm 8 63) rfl rfl (one_of HT_.out (by kernel_rfl)) (by decide) (fun K hK => ?_)
       refine box_step ?hg (N := 8) ?hd (cs := #[.int .i64 0, .int .i64 0, .int .i64 0]) (t := 26) ?hr ?_; (case hd => rfl); (case hg => rfl); (case hr => first | (go_simp; done) | (go_simp; rfl))
       intro g8 hg w10_6 hbox hb
       have BK8 := Aside0.mk (hbox)
       have GE8 := Aside0.mk (bG hg (HB.out))
       have N38 := cN hg BK3
       have N83 := cM hg BK3
       have N48 := cN hg BK4
       have N84 := cM hg BK4
       have N58 := cN hg BK5
       have N85 := cM hg BK5
       have N68 := cN hg BK6
       have N86 := cM hg BK6
       have N98 := cN hg BK9
       have N89 := cM hg BK9
       clear hbox hg
       replace BK3 := cB hb BK3
       replace BK4 := cB hb BK4
       replace BK5 := cB hb BK5
       replace BK6 := cB hb BK6
       replace BK9 := cB hb BK9
       replace HB := Aside0.mk (below_step (HB.out) hb)
       clear hb
       refine hK.out _ _ ⟨(blk_cell BK3.out 0).trans rfl, (blk_cell BK3.out 1).trans rfl, (blk_cell BK3.out 2).trans rfl, (blk_cell BK4.out 0).trans rfl, (blk_cell BK4.out 1).trans rfl, (blk_cell BK4.out 2).trans rfl⟩ (fun hHeld => ?_)
       clear hK K
       refine norm_ (a' := ?_) ?_ ?_
       rotate_left
       ·show Act.put _ (some 8) _ = _
        simp only [Act.put, List.setIfInBounds_toArray, List.set_cons_zero, List.set_cons_succ, i64_w, i32_w]
        rfl
       exact norm_ (by simp only [putAll, Act.put, List.setIfInBounds_toArray, List.set_cons_zero, List.set_cons_succ]) (hCont (g8, g9) _ ⟨hHeld, BK3.out, BK4.out, BK5.out, BK6.out, BK8.out, BK9.out, GE8.out, GE9.out, N38.out, N83.out, N48.out, N84.out, N58.out, N85.out, N68.out, N86.out, N39.out, N93.out, N49.out, N94.out, N59.out, N95.out, N69.out, N96.out, N89.out, N98.out, HB.out⟩)
     ·skip
      refine box_step ?hg (N := 8) ?hd (cs := #[.int .i64 0, .int .i64 0, .int .i64 0]) (t := 26) ?hr ?_; (case hd => rfl); (case hg => rfl); (case hr => first | (go_simp; done) | (go_simp; rfl))
      intro g8 hg w10_7 hbox hb
      have BK8 := Aside0.mk (hbox)
      have GE8 := Aside0.mk (bG hg (HB.out))
      have N38 := cN hg BK3
      have N83 := cM hg BK3
      have N48 := cN hg BK4
      have N84 := cM hg BK4
      have N58 := cN hg BK5
      have N85 := cM hg BK5
      have N68 := cN hg BK6
      have N86 := cM hg BK6
      clear hbox hg
      replace BK3 := cB hb BK3
      replace BK4 := cB hb BK4
      replace BK5 := cB hb BK5
      replace BK6 := cB hb BK6
      replace HB := Aside0.mk (below_step (HB.out) hb)
      clear hb
      refine hK.out _ _ ⟨(blk_cell BK3.out 0).trans rfl, (blk_cell BK3.out 1).trans rfl, (blk_cell BK3.out 2).trans rfl, (blk_cell BK4.out 0).trans rfl, (blk_cell BK4.out 1).trans rfl, (blk_cell BK4.out 2).trans rfl⟩ (fun hHeld => ?_)
      clear hK K
      refine norm_ (a' := ?_) ?_ ?_
      rotate_left
      ·show Act.put _ (some 8) _ = _
       simp only [Act.put, List.setIfInBounds_toArray, List.set_cons_zero, List.set_cons_succ, i64_w, i32_w]
       rfl
      refine two_ (i := 3) (j := 5) (Ni := some 36) (Nj := some 9) (bm 8 31) (bm 8 55) rfl rfl rfl rfl (two_of HT_.out (by kernel_rfl)) (by decide) (by decide) (fun K hK => ?_) (fun K hK => ?_)
      ·skip
       refine goes_ Try.func32 (by kernel_rfl) rfl #[.agg #[.int .i64 a1_0, .int .i64 a1_1, .int .i64 a1_2]] (by rfl) rfl rfl (by (try simp only [List.map_toArray, List.map_cons, List.map_nil]); first | done | rfl | (simp only [List.length_drop, List.length_take]; rfl)) ?_
       with_reducible refine (CM _).mono ?_
       rintro e w10_8 ⟨rfl, hb⟩
       refine ⟨_, rfl, ?_⟩
       replace BK3 := cB hb BK3
       replace BK4 := cB hb BK4
       replace BK5 := cB hb BK5
       replace BK6 := cB hb BK6
       replace BK8 := cB hb BK8
       replace HB := Aside0.mk (below_step (HB.out) hb)
       clear hb
       refine hK.out _ _ ⟨(blk_cell BK3.out 0).trans rfl, (blk_cell BK3.out 1).trans rfl, (blk_cell BK3.out 2).trans rfl, (blk_cell BK4.out 0).trans rfl, (blk_cell BK4.out 1).trans rfl, (blk_cell BK4.out 2).trans rfl⟩ (fun hHeld => ?_)
       clear hK K
       refine norm_ (a' := ?_) ?_ ?_
       rotate_left
       ·show Act.put _ (some 36) _ = _
        simp only [Act.put, List.setIfInBounds_toArray, List.set_cons_zero, List.set_cons_succ, i64_w, i32_w]
        rfl
       refine one_ (i := 5) (N := some 9) (bm 8 63) rfl rfl (one_of HT_.out (by kernel_rfl)) (by decide) (fun K hK => ?_)
       refine box_step ?hg (N := 9) ?hd (cs := #[.int .i64 0, .int .i64 0, .int .i64 0]) (t := 26) ?hr ?_; (case hd => rfl); (case hg => rfl); (case hr => first | (go_simp; done) | (go_simp; rfl))
       intro g9 hg w10_9 hbox hb
       have BK9 := Aside0.mk (hbox)
       have GE9 := Aside0.mk (bG hg (HB.out))
       have N39 := cN hg BK3
       have N93 := cM hg BK3
       have N49 := cN hg BK4
       have N94 := cM hg BK4
       have N59 := cN hg BK5
       have N95 := cM hg BK5
       have N69 := cN hg BK6
       have N96 := cM hg BK6
       have N89 := cN hg BK8
       have N98 := cM hg BK8
       clear hbox hg
       replace BK3 := cB hb BK3
       replace BK4 := cB hb BK4
       replace BK5 := cB hb BK5
       replace BK6 := cB hb BK6
       replace BK8 := cB hb BK8
       replace HB := Aside0.mk (below_step (HB.out) hb)
       clear hb
       refine hK.out _ _ ⟨(blk_cell BK3.out 0).trans rfl, (blk_cell BK3.out 1).trans rfl, (blk_cell BK3.out 2).trans rfl, (blk_cell BK4.out 0).trans rfl, (blk_cell BK4.out 1).trans rfl, (blk_cell BK4.out 2).trans rfl⟩ (fun hHeld => ?_)
       clear hK K
       refine norm_ (a' := ?_) ?_ ?_
       rotate_left
       ·show Act.put _ (some 9) _ = _
        simp only [Act.put, List.setIfInBounds_toArray, List.set_cons_zero, List.set_cons_succ, i64_w, i32_w]
        rfl
       exact norm_ (by simp only [putAll, Act.put, List.setIfInBounds_toArray, List.set_cons_zero, List.set_cons_succ]) (hCont (g8, g9) _ ⟨hHeld, BK3.out, BK4.out, BK5.out, BK6.out, BK8.out, BK9.out, GE8.out, GE9.out, N38.out, N83.out, N48.out, N84.out, N58.out, N85.out, N68.out, N86.out, N39.out, N93.out, N49.out, N94.out, N59.out, N95.out, N69.out, N96.out, N89.out, N98.out, HB.out⟩)
      ·skip
       refine box_step ?hg (N := 9) ?hd (cs := #[.int .i64 0, .int .i64 0, .int .i64 0]) (t := 26) ?hr ?_; (case hd => rfl); (case hg => rfl); (case hr => first | (go_simp; done) | (go_simp; rfl))
       intro g9 hg w10_10 hbox hb
       have BK9 := Aside0.mk (hbox)
       have GE9 := Aside0.mk (bG hg (HB.out))
       have N39 := cN hg BK3
       have N93 := cM hg BK3
       have N49 := cN hg BK4
       have N94 := cM hg BK4
       have N59 := cN hg BK5
       have N95 := cM hg BK5
       have N69 := cN hg BK6
       have N96 := cM hg BK6
       have N89 := cN hg BK8
       have N98 := cM hg BK8
       clear hbox hg
       replace BK3 := cB hb BK3
       replace BK4 := cB hb BK4
       replace BK5 := cB hb BK5
       replace BK6 := cB hb BK6
       replace BK8 := cB hb BK8
       replace HB := Aside0.mk (below_step (HB.out) hb)
       clear hb
       refine hK.out _ _ ⟨(blk_cell BK3.out 0).trans rfl, (blk_cell BK3.out 1).trans rfl, (blk_cell BK3.out 2).trans rfl, (blk_cell BK4.out 0).trans rfl, (blk_cell BK4.out 1).trans rfl, (blk_cell BK4.out 2).trans rfl⟩ (fun hHeld => ?_)
       clear hK K
       refine norm_ (a' := ?_) ?_ ?_
       rotate_left
       ·show Act.put _ (some 9) _ = _
        simp only [Act.put, List.setIfInBounds_toArray, List.set_cons_zero, List.set_cons_succ, i64_w, i32_w]
        rfl
       refine one_ (i := 3) (N := some 36) (bm 8 63) rfl rfl (one_of HT_.out (by kernel_rfl)) (by decide) (fun K hK => ?_)
       refine goes_ Try.func32 (by kernel_rfl) rfl #[.agg #[.int .i64 a1_0, .int .i64 a1_1, .int .i64 a1_2]] (by rfl) rfl rfl (by (try simp only [List.map_toArray, List.map_cons, List.map_nil]); first | done | rfl | (simp only [List.length_drop, List.length_take]; rfl)) ?_
       with_reducible refine (CM _).mono ?_
       rintro e w10_11 ⟨rfl, hb⟩
       refine ⟨_, rfl, ?_⟩
       replace BK3 := cB hb BK3
       replace BK4 := cB hb BK4
       replace BK5 := cB hb BK5
       replace BK6 := cB hb BK6
       replace BK8 := cB hb BK8
       replace BK9 := cB hb BK9
       replace HB := Aside0.mk (below_step (HB.out) hb)
       clear hb
       refine hK.out _ _ ⟨(blk_cell BK3.out 0).trans rfl, (blk_cell BK3.out 1).trans rfl, (blk_cell BK3.out 2).trans rfl, (blk_cell BK4.out 0).trans rfl, (blk_cell BK4.out 1).trans rfl, (blk_cell BK4.out 2).trans rfl⟩ (fun hHeld => ?_)
       clear hK K
       refine norm_ (a' := ?_) ?_ ?_
       rotate_left
       ·show Act.put _ (some 36) _ = _
        simp only [Act.put, List.setIfInBounds_toArray, List.set_cons_zero, List.set_cons_succ, i64_w, i32_w]
        rfl
       exact norm_ (by simp only [putAll, Act.put, List.setIfInBounds_toArray, List.set_cons_zero, List.set_cons_succ]) (hCont (g8, g9) _ ⟨hHeld, BK3.out, BK4.out, BK5.out, BK6.out, BK8.out, BK9.out, GE8.out, GE9.out, N38.out, N83.out, N48.out, N84.out, N58.out, N85.out, N68.out, N86.out, N39.out, N93.out, N49.out, N94.out, N59.out, N95.out, N69.out, N96.out, N89.out, N98.out, HB.out⟩)
     ·skip
      refine box_step ?hg (N := 9) ?hd (cs := #[.int .i64 0, .int .i64 0, .int .i64 0]) (t := 26) ?hr ?_; (case hd => rfl); (case hg => rfl); (case hr => first | (go_simp; done) | (go_simp; rfl))
      intro g9 hg w10_12 hbox hb
      have BK9 := Aside0.mk (hbox)
      have GE9 := Aside0.mk (bG hg (HB.out))
      have N39 := cN hg BK3
      have N93 := cM hg BK3
      have N49 := cN hg BK4
      have N94 := cM hg BK4
      have N59 := cN hg BK5
      have N95 := cM hg BK5
      have N69 := cN hg BK6
      have N96 := cM hg BK6
      clear hbox hg
      replace BK3 := cB hb BK3
      replace BK4 := cB hb BK4
      replace BK5 := cB hb BK5
      replace BK6 := cB hb BK6
      replace HB := Aside0.mk (below_step (HB.out) hb)
      clear hb
      refine hK.out _ _ ⟨(blk_cell BK3.out 0).trans rfl, (blk_cell BK3.out 1).trans rfl, (blk_cell BK3.out 2).trans rfl, (blk_cell BK4.out 0).trans rfl, (blk_cell BK4.out 1).trans rfl, (blk_cell BK4.out 2).trans rfl⟩ (fun hHeld => ?_)
      clear hK K
      refine norm_ (a' := ?_) ?_ ?_
      rotate_left
      ·show Act.put _ (some 9) _ = _
       simp only [Act.put, List.setIfInBounds_toArray, List.set_cons_zero, List.set_cons_succ, i64_w, i32_w]
       rfl
      refine two_ (i := 3) (j := 4) (Ni := some 36) (Nj := some 8) (bm 8 47) (bm 8 55) rfl rfl rfl rfl (two_of HT_.out (by kernel_rfl)) (by decide) (by decide) (fun K hK => ?_) (fun K hK => ?_)
      ·skip
       refine goes_ Try.func32 (by kernel_rfl) rfl #[.agg #[.int .i64 a1_0, .int .i64 a1_1, .int .i64 a1_2]] (by rfl) rfl rfl (by (try simp only [List.map_toArray, List.map_cons, List.map_nil]); first | done | rfl | (simp only [List.length_drop, List.length_take]; rfl)) ?_
       with_reducible refine (CM _).mono ?_
       rintro e w10_13 ⟨rfl, hb⟩
       refine ⟨_, rfl, ?_⟩
       replace BK3 := cB hb BK3
       replace BK4 := cB hb BK4
       replace BK5 := cB hb BK5
       replace BK6 := cB hb BK6
       replace BK9 := cB hb BK9
       replace HB := Aside0.mk (below_step (HB.out) hb)
       clear hb
       refine hK.out _ _ ⟨(blk_cell BK3.out 0).trans rfl, (blk_cell BK3.out 1).trans rfl, (blk_cell BK3.out 2).trans rfl, (blk_cell BK4.out 0).trans rfl, (blk_cell BK4.out 1).trans rfl, (blk_cell BK4.out 2).trans rfl⟩ (fun hHeld => ?_)
       clear hK K
       refine norm_ (a' := ?_) ?_ ?_
       rotate_left
       ·show Act.put _ (some 36) _ = _
        simp only [Act.put, List.setIfInBounds_toArray, List.set_cons_zero, List.set_cons_succ, i64_w, i32_w]
        rfl
       refine one_ (i := 4) (N := some 8) (bm 8 63) rfl rfl (one_of HT_.out (by kernel_rfl)) (by decide) (fun K hK => ?_)
       refine box_step ?hg (N := 8) ?hd (cs := #[.int .i64 0, .int .i64 0, .int .i64 0]) (t := 26) ?hr ?_; (case hd => rfl); (case hg => rfl); (case hr => first | (go_simp; done) | (go_simp; rfl))
       intro g8 hg w10_14 hbox hb
       have BK8 := Aside0.mk (hbox)
       have GE8 := Aside0.mk (bG hg (HB.out))
       have N38 := cN hg BK3
       have N83 := cM hg BK3
       have N48 := cN hg BK4
       have N84 := cM hg BK4
       have N58 := cN hg BK5
       have N85 := cM hg BK5
       have N68 := cN hg BK6
       have N86 := cM hg BK6
       have N98 := cN hg BK9
       have N89 := cM hg BK9
       clear hbox hg
       replace BK3 := cB hb BK3
       replace BK4 := cB hb BK4
       replace BK5 := cB hb BK5
       replace BK6 := cB hb BK6
       replace BK9 := cB hb BK9
       replace HB := Aside0.mk (below_step (HB.out) hb)
       clear hb
       refine hK.out _ _ ⟨(blk_cell BK3.out 0).trans rfl, (blk_cell BK3.out 1).trans rfl, (blk_cell BK3.out 2).trans rfl, (blk_cell BK4.out 0).trans rfl, (blk_cell BK4.out 1).trans rfl, (blk_cell BK4.out 2).trans rfl⟩ (fun hHeld => ?_)
       clear hK K
       refine norm_ (a' := ?_) ?_ ?_
       rotate_left
       ·show Act.put _ (some 8) _ = _
        simp only [Act.put, List.setIfInBounds_toArray, List.set_cons_zero, List.set_cons_succ, i64_w, i32_w]
        rfl
       exact norm_ (by simp only [putAll, Act.put, List.setIfInBounds_toArray, List.set_cons_zero, List.set_cons_succ]) (hCont (g8, g9) _ ⟨hHeld, BK3.out, BK4.out, BK5.out, BK6.out, BK8.out, BK9.out, GE8.out, GE9.out, N38.out, N83.out, N48.out, N84.out, N58.out, N85.out, N68.out, N86.out, N39.out, N93.out, N49.out, N94.out, N59.out, N95.out, N69.out, N96.out, N89.out, N98.out, HB.out⟩)
      ·skip
       refine box_step ?hg (N := 8) ?hd (cs := #[.int .i64 0, .int .i64 0, .int .i64 0]) (t := 26) ?hr ?_; (case hd => rfl); (case hg => rfl); (case hr => first | (go_simp; done) | (go_simp; rfl))
       intro g8 hg w10_15 hbox hb
       have BK8 := Aside0.mk (hbox)
       have GE8 := Aside0.mk (bG hg (HB.out))
       have N38 := cN hg BK3
       have N83 := cM hg BK3
       have N48 := cN hg BK4
       have N84 := cM hg BK4
       have N58 := cN hg BK5
       have N85 := cM hg BK5
       have N68 := cN hg BK6
       have N86 := cM hg BK6
       have N98 := cN hg BK9
       have N89 := cM hg BK9
       clear hbox hg
       replace BK3 := cB hb BK3
       replace BK4 := cB hb BK4
       replace BK5 := cB hb BK5
       replace BK6 := cB hb BK6
       replace BK9 := cB hb BK9
       replace HB := Aside0.mk (below_step (HB.out) hb)
       clear hb
       refine hK.out _ _ ⟨(blk_cell BK3.out 0).trans rfl, (blk_cell BK3.out 1).trans rfl, (blk_cell BK3.out 2).trans rfl, (blk_cell BK4.out 0).trans rfl, (blk_cell BK4.out 1).trans rfl, (blk_cell BK4.out 2).trans rfl⟩ (fun hHeld => ?_)
       clear hK K
       refine norm_ (a' := ?_) ?_ ?_
       rotate_left
       ·show Act.put _ (some 8) _ = _
        simp only [Act.put, List.setIfInBounds_toArray, List.set_cons_zero, List.set_cons_succ, i64_w, i32_w]
        rfl
       refine one_ (i := 3) (N := some 36) (bm 8 63) rfl rfl (one_of HT_.out (by kernel_rfl)) (by decide) (fun K hK => ?_)
       refine goes_ Try.func32 (by kernel_rfl) rfl #[.agg #[.int .i64 a1_0, .int .i64 a1_1, .int .i64 a1_2]] (by rfl) rfl rfl (by (try simp only [List.map_toArray, List.map_cons, List.map_nil]); first | done | rfl | (simp only [List.length_drop, List.length_take]; rfl)) ?_
       with_reducible refine (CM _).mono ?_
       rintro e w10_16 ⟨rfl, hb⟩
       refine ⟨_, rfl, ?_⟩
       replace BK3 := cB hb BK3
       replace BK4 := cB hb BK4
       replace BK5 := cB hb BK5
       replace BK6 := cB hb BK6
       replace BK9 := cB hb BK9
       replace BK8 := cB hb BK8
       replace HB := Aside0.mk (below_step (HB.out) hb)
       clear hb
       refine hK.out _ _ ⟨(blk_cell BK3.out 0).trans rfl, (blk_cell BK3.out 1).trans rfl, (blk_cell BK3.out 2).trans rfl, (blk_cell BK4.out 0).trans rfl, (blk_cell BK4.out 1).trans rfl, (blk_cell BK4.out 2).trans rfl⟩ (fun hHeld => ?_)
       clear hK K
       refine norm_ (a' := ?_) ?_ ?_
       rotate_left
       ·show Act.put _ (some 36) _ = _
        simp only [Act.put, List.setIfInBounds_toArray, List.set_cons_zero, List.set_cons_succ, i64_w, i32_w]
        rfl
       exact norm_ (by simp only [putAll, Act.put, List.setIfInBounds_toArray, List.set_cons_zero, List.set_cons_succ]) (hCont (g8, g9) _ ⟨hHeld, BK3.out, BK4.out, BK5.out, BK6.out, BK8.out, BK9.out, GE8.out, GE9.out, N38.out, N83.out, N48.out, N84.out, N58.out, N85.out, N68.out, N86.out, N39.out, N93.out, N49.out, N94.out, N59.out, N95.out, N69.out, N96.out, N89.out, N98.out, HB.out⟩)
    ·skip
     refine box_step ?hg (N := 8) ?hd (cs := #[.int .i64 0, .int .i64 0, .int .i64 0]) (t := 26) ?hr ?_; (case hd => rfl); (case hg => rfl); (case hr => first | (go_simp; done) | (go_simp; rfl))
     intro g8 hg w10_17 hbox hb
     have BK8 := Aside0.mk (hbox)
     have GE8 := Aside0.mk (bG hg (HB.out))
     have N38 := cN hg BK3
     have N83 := cM hg BK3
     have N48 := cN hg BK4
     have N84 := cM hg BK4
     have N58 := cN hg BK5
     have N85 := cM hg BK5
     have N68 := cN hg BK6
     have N86 := cM hg BK6
     clear hbox hg
     replace BK3 := cB hb BK3
     replace BK4 := cB hb BK4
     replace BK5 := cB hb BK5
     replace BK6 := cB hb BK6
     replace HB := Aside0.mk (below_step (HB.out) hb)
     clear hb
     refine hK.out _ _ ⟨(blk_cell BK3.out 0).trans rfl, (blk_cell BK3.out 1).trans rfl, (blk_cell BK3.out 2).trans rfl, (blk_cell BK4.out 0).trans rfl, (blk_cell BK4.out 1).trans rfl, (blk_cell BK4.out 2).trans rfl⟩ (fun hHeld => ?_)
     clear hK K
     refine norm_ (a' := ?_) ?_ ?_
     rotate_left
     ·show Act.put _ (some 8) _ = _
      simp only [Act.put, List.setIfInBounds_toArray, List.set_cons_zero, List.set_cons_succ, i64_w, i32_w]
      rfl
     refine two_ (i := 1) (j := 5) (Ni := some 34) (Nj := some 9) (bm 8 23) (bm 8 53) rfl rfl rfl rfl (two_of HT_.out (by kernel_rfl)) (by decide) (by decide) (fun K hK => ?_) (fun K hK => ?_)
     ·skip
      refine goes_ Try.func32 (by kernel_rfl) rfl #[.agg #[.int .i64 a0_0, .int .i64 a0_1, .int .i64 a0_2]] (by rfl) rfl rfl (by (try simp only [List.map_toArray, List.map_cons, List.map_nil]); first | done | rfl | (simp only [List.length_drop, List.length_take]; rfl)) ?_
      with_reducible refine (CU _).mono ?_
      rintro e w10_18 ⟨rfl, hb⟩
      refine ⟨_, rfl, ?_⟩
      replace BK3 := cB hb BK3
      replace BK4 := cB hb BK4
      replace BK5 := cB hb BK5
      replace BK6 := cB hb BK6
      replace BK8 := cB hb BK8
      replace HB := Aside0.mk (below_step (HB.out) hb)
      clear hb
      refine hK.out _ _ ⟨(blk_cell BK3.out 0).trans rfl, (blk_cell BK3.out 1).trans rfl, (blk_cell BK3.out 2).trans rfl, (blk_cell BK4.out 0).trans rfl, (blk_cell BK4.out 1).trans rfl, (blk_cell BK4.out 2).trans rfl⟩ (fun hHeld => ?_)
      clear hK K
      refine norm_ (a' := ?_) ?_ ?_
      rotate_left
      ·show Act.put _ (some 34) _ = _
       simp only [Act.put, List.setIfInBounds_toArray, List.set_cons_zero, List.set_cons_succ, i64_w, i32_w]
       rfl
      refine two_ (i := 3) (j := 5) (Ni := some 36) (Nj := some 9) (bm 8 31) (bm 8 55) rfl rfl rfl rfl (two_of HT_.out (by kernel_rfl)) (by decide) (by decide) (fun K hK => ?_) (fun K hK => ?_)
      ·skip
       refine goes_ Try.func32 (by kernel_rfl) rfl #[.agg #[.int .i64 a1_0, .int .i64 a1_1, .int .i64 a1_2]] (by rfl) rfl rfl (by (try simp only [List.map_toArray, List.map_cons, List.map_nil]); first | done | rfl | (simp only [List.length_drop, List.length_take]; rfl)) ?_
       with_reducible refine (CM _).mono ?_
       rintro e w10_19 ⟨rfl, hb⟩
       refine ⟨_, rfl, ?_⟩
       replace BK3 := cB hb BK3
       replace BK4 := cB hb BK4
       replace BK5 := cB hb BK5
       replace BK6 := cB hb BK6
       replace BK8 := cB hb BK8
       replace HB := Aside0.mk (below_step (HB.out) hb)
       clear hb
       refine hK.out _ _ ⟨(blk_cell BK3.out 0).trans rfl, (blk_cell BK3.out 1).trans rfl, (blk_cell BK3.out 2).trans rfl, (blk_cell BK4.out 0).trans rfl, (blk_cell BK4.out 1).trans rfl, (blk_cell BK4.out 2).trans rfl⟩ (fun hHeld => ?_)
       clear hK K
       refine norm_ (a' := ?_) ?_ ?_
       rotate_left
       ·show Act.put _ (some 36) _ = _
        simp only [Act.put, List.setIfInBounds_toArray, List.set_cons_zero, List.set_cons_succ, i64_w, i32_w]
        rfl
       refine one_ (i := 5) (N := some 9) (bm 8 63) rfl rfl (one_of HT_.out (by kernel_rfl)) (by decide) (fun K hK => ?_)
       refine box_step ?hg (N := 9) ?hd (cs := #[.int .i64 0, .int .i64 0, .int .i64 0]) (t := 26) ?hr ?_; (case hd => rfl); (case hg => rfl); (case hr => first | (go_simp; done) | (go_simp; rfl))
       intro g9 hg w10_20 hbox hb
       have BK9 := Aside0.mk (hbox)
       have GE9 := Aside0.mk (bG hg (HB.out))
       have N39 := cN hg BK3
       have N93 := cM hg BK3
       have N49 := cN hg BK4
       have N94 := cM hg BK4
       have N59 := cN hg BK5
       have N95 := cM hg BK5
       have N69 := cN hg BK6
       have N96 := cM hg BK6
       have N89 := cN hg BK8
       have N98 := cM hg BK8
       clear hbox hg
       replace BK3 := cB hb BK3
       replace BK4 := cB hb BK4
       replace BK5 := cB hb BK5
       replace BK6 := cB hb BK6
       replace BK8 := cB hb BK8
       replace HB := Aside0.mk (below_step (HB.out) hb)
       clear hb
       refine hK.out _ _ ⟨(blk_cell BK3.out 0).trans rfl, (blk_cell BK3.out 1).trans rfl, (blk_cell BK3.out 2).trans rfl, (blk_cell BK4.out 0).trans rfl, (blk_cell BK4.out 1).trans rfl, (blk_cell BK4.out 2).trans rfl⟩ (fun hHeld => ?_)
       clear hK K
       refine norm_ (a' := ?_) ?_ ?_
       rotate_left
       ·show Act.put _ (some 9) _ = _
        simp only [Act.put, List.setIfInBounds_toArray, List.set_cons_zero, List.set_cons_succ, i64_w, i32_w]
        rfl
       exact norm_ (by simp only [putAll, Act.put, List.setIfInBounds_toArray, List.set_cons_zero, List.set_cons_succ]) (hCont (g8, g9) _ ⟨hHeld, BK3.out, BK4.out, BK5.out, BK6.out, BK8.out, BK9.out, GE8.out, GE9.out, N38.out, N83.out, N48.out, N84.out, N58.out, N85.out, N68.out, N86.out, N39.out, N93.out, N49.out, N94.out, N59.out, N95.out, N69.out, N96.out, N89.out, N98.out, HB.out⟩)
      ·skip
       refine box_step ?hg (N := 9) ?hd (cs := #[.int .i64 0, .int .i64 0, .int .i64 0]) (t := 26) ?hr ?_; (case hd => rfl); (case hg => rfl); (case hr => first | (go_simp; done) | (go_simp; rfl))
       intro g9 hg w10_21 hbox hb
       have BK9 := Aside0.mk (hbox)
       have GE9 := Aside0.mk (bG hg (HB.out))
       have N39 := cN hg BK3
       have N93 := cM hg BK3
       have N49 := cN hg BK4
       have N94 := cM hg BK4
       have N59 := cN hg BK5
       have N95 := cM hg BK5
       have N69 := cN hg BK6
       have N96 := cM hg BK6
       have N89 := cN hg BK8
       have N98 := cM hg BK8
       clear hbox hg
       replace BK3 := cB hb BK3
       replace BK4 := cB hb BK4
       replace BK5 := cB hb BK5
       replace BK6 := cB hb BK6
       replace BK8 := cB hb BK8
       replace HB := Aside0.mk (below_step (HB.out) hb)
       clear hb
       refine hK.out _ _ ⟨(blk_cell BK3.out 0).trans rfl, (blk_cell BK3.out 1).trans rfl, (blk_cell BK3.out 2).trans rfl, (blk_cell BK4.out 0).trans rfl, (blk_cell BK4.out 1).trans rfl, (blk_cell BK4.out 2).trans rfl⟩ (fun hHeld => ?_)
       clear hK K
       refine norm_ (a' := ?_) ?_ ?_
       rotate_left
       ·show Act.put _ (some 9) _ = _
        simp only [Act.put, List.setIfInBounds_toArray, List.set_cons_zero, List.set_cons_succ, i64_w, i32_w]
        rfl
       refine one_ (i := 3) (N := some 36) (bm 8 63) rfl rfl (one_of HT_.out (by kernel_rfl)) (by decide) (fun K hK => ?_)
       refine goes_ Try.func32 (by kernel_rfl) rfl #[.agg #[.int .i64 a1_0, .int .i64 a1_1, .int .i64 a1_2]] (by rfl) rfl rfl (by (try simp only [List.map_toArray, List.map_cons, List.map_nil]); first | done | rfl | (simp only [List.length_drop, List.length_take]; rfl)) ?_
       with_reducible refine (CM _).mono ?_
       rintro e w10_22 ⟨rfl, hb⟩
       refine ⟨_, rfl, ?_⟩
       replace BK3 := cB hb BK3
       replace BK4 := cB hb BK4
       replace BK5 := cB hb BK5
       replace BK6 := cB hb BK6
       replace BK8 := cB hb BK8
       replace BK9 := cB hb BK9
       replace HB := Aside0.mk (below_step (HB.out) hb)
       clear hb
       refine hK.out _ _ ⟨(blk_cell BK3.out 0).trans rfl, (blk_cell BK3.out 1).trans rfl, (blk_cell BK3.out 2).trans rfl, (blk_cell BK4.out 0).trans rfl, (blk_cell BK4.out 1).trans rfl, (blk_cell BK4.out 2).trans rfl⟩ (fun hHeld => ?_)
       clear hK K
       refine norm_ (a' := ?_) ?_ ?_
       rotate_left
       ·show Act.put _ (some 36) _ = _
        simp only [Act.put, List.setIfInBounds_toArray, List.set_cons_zero, List.set_cons_succ, i64_w, i32_w]
        rfl
       exact norm_ (by simp only [putAll, Act.put, List.setIfInBounds_toArray, List.set_cons_zero, List.set_cons_succ]) (hCont (g8, g9) _ ⟨hHeld, BK3.out, BK4.out, BK5.out, BK6.out, BK8.out, BK9.out, GE8.out, GE9.out, N38.out, N83.out, N48.out, N84.out, N58.out, N85.out, N68.out, N86.out, N39.out, N93.out, N49.out, N94.out, N59.out, N95.out, N69.out, N96.out, N89.out, N98.out, HB.out⟩)
     ·skip
      refine box_step ?hg (N := 9) ?hd (cs := #[.int .i64 0, .int .i64 0, .int .i64 0]) (t := 26) ?hr ?_; (case hd => rfl); (case hg => rfl); (case hr => first | (go_simp; done) | (go_simp; rfl))
      intro g9 hg w10_23 hbox hb
      have BK9 := Aside0.mk (hbox)
      have GE9 := Aside0.mk (bG hg (HB.out))
      have N39 := cN hg BK3
      have N93 := cM hg BK3
      have N49 := cN hg BK4
      have N94 := cM hg BK4
      have N59 := cN hg BK5
      have N95 := cM hg BK5
      have N69 := cN hg BK6
      have N96 := cM hg BK6
      have N89 := cN hg BK8
      have N98 := cM hg BK8
      clear hbox hg
      replace BK3 := cB hb BK3
      replace BK4 := cB hb BK4
      replace BK5 := cB hb BK5
      replace BK6 := cB hb BK6
      replace BK8 := cB hb BK8
      replace HB := Aside0.mk (below_step (HB.out) hb)
      clear hb
      refine hK.out _ _ ⟨(blk_cell BK3.out 0).trans rfl, (blk_cell BK3.out 1).trans rfl, (blk_cell BK3.out 2).trans rfl, (blk_cell BK4.out 0).trans rfl, (blk_cell BK4.out 1).trans rfl, (blk_cell BK4.out 2).trans rfl⟩ (fun hHeld => ?_)
      clear hK K
      refine norm_ (a' := ?_) ?_ ?_
      rotate_left
      ·show Act.put _ (some 9) _ = _
       simp only [Act.put, List.setIfInBounds_toArray, List.set_cons_zero, List.set_cons_succ, i64_w, i32_w]
       rfl
      refine one_ (i := 1) (N := some 34) (bm 8 55) rfl rfl (one_of HT_.out (by kernel_rfl)) (by decide) (fun K hK => ?_)
      refine goes_ Try.func32 (by kernel_rfl) rfl #[.agg #[.int .i64 a0_0, .int .i64 a0_1, .int .i64 a0_2]] (by rfl) rfl rfl (by (try simp only [List.map_toArray, List.map_cons, List.map_nil]); first | done | rfl | (simp only [List.length_drop, List.length_take]; rfl)) ?_
      with_reducible refine (CU _).mono ?_
      rintro e w10_24 ⟨rfl, hb⟩
      refine ⟨_, rfl, ?_⟩
      replace BK3 := cB hb BK3
      replace BK4 := cB hb BK4
      replace BK5 := cB hb BK5
      replace BK6 := cB hb BK6
      replace BK8 := cB hb BK8
      replace BK9 := cB hb BK9
      replace HB := Aside0.mk (below_step (HB.out) hb)
      clear hb
      refine hK.out _ _ ⟨(blk_cell BK3.out 0).trans rfl, (blk_cell BK3.out 1).trans rfl, (blk_cell BK3.out 2).trans rfl, (blk_cell BK4.out 0).trans rfl, (blk_cell BK4.out 1).trans rfl, (blk_cell BK4.out 2).trans rfl⟩ (fun hHeld => ?_)
      clear hK K
      refine norm_ (a' := ?_) ?_ ?_
      rotate_left
      ·show Act.put _ (some 34) _ = _
       simp only [Act.put, List.setIfInBounds_toArray, List.set_cons_zero, List.set_cons_succ, i64_w, i32_w]
       rfl
      refine one_ (i := 3) (N := some 36) (bm 8 63) rfl rfl (one_of HT_.out (by kernel_rfl)) (by decide) (fun K hK => ?_)
      refine goes_ Try.func32 (by kernel_rfl) rfl #[.agg #[.int .i64 a1_0, .int .i64 a1_1, .int .i64 a1_2]] (by rfl) rfl rfl (by (try simp only [List.map_toArray, List.map_cons, List.map_nil]); first | done | rfl | (simp only [List.length_drop, List.length_take]; rfl)) ?_
      with_reducible refine (CM _).mono ?_
      rintro e w10_25 ⟨rfl, hb⟩
      refine ⟨_, rfl, ?_⟩
      replace BK3 := cB hb BK3
      replace BK4 := cB hb BK4
      replace BK5 := cB hb BK5
      replace BK6 := cB hb BK6
      replace BK8 := cB hb BK8
      replace BK9 := cB hb BK9
      replace HB := Aside0.mk (below_step (HB.out) hb)
      clear hb
      refine hK.out _ _ ⟨(blk_cell BK3.out 0).trans rfl, (blk_cell BK3.out 1).trans rfl, (blk_cell BK3.out 2).trans rfl, (blk_cell BK4.out 0).trans rfl, (blk_cell BK4.out 1).trans rfl, (blk_cell BK4.out 2).trans rfl⟩ (fun hHeld => ?_)
      clear hK K
      refine norm_ (a' := ?_) ?_ ?_
      rotate_left
      ·show Act.put _ (some 36) _ = _
       simp only [Act.put, List.setIfInBounds_toArray, List.set_cons_zero, List.set_cons_succ, i64_w, i32_w]
       rfl
      exact norm_ (by simp only [putAll, Act.put, List.setIfInBounds_toArray, List.set_cons_zero, List.set_cons_succ]) (hCont (g8, g9) _ ⟨hHeld, BK3.out, BK4.out, BK5.out, BK6.out, BK8.out, BK9.out, GE8.out, GE9.out, N38.out, N83.out, N48.out, N84.out, N58.out, N85.out, N68.out, N86.out, N39.out, N93.out, N49.out, N94.out, N59.out, N95.out, N69.out, N96.out, N89.out, N98.out, HB.out⟩)
    ·skip
     refine box_step ?hg (N := 9) ?hd (cs := #[.int .i64 0, .int .i64 0, .int .i64 0]) (t := 26) ?hr ?_; (case hd => rfl); (case hg => rfl); (case hr => first | (go_simp; done) | (go_simp; rfl))
     intro g9 hg w10_26 hbox hb
     have BK9 := Aside0.mk (hbox)
     have GE9 := Aside0.mk (bG hg (HB.out))
     have N39 := cN hg BK3
     have N93 := cM hg BK3
     have N49 := cN hg BK4
     have N94 := cM hg BK4
     have N59 := cN hg BK5
     have N95 := cM hg BK5
     have N69 := cN hg BK6
     have N96 := cM hg BK6
     clear hbox hg
     replace BK3 := cB hb BK3
     replace BK4 := cB hb BK4
     replace BK5 := cB hb BK5
     replace BK6 := cB hb BK6
     replace HB := Aside0.mk (below_step (HB.out) hb)
     clear hb
     refine hK.out _ _ ⟨(blk_cell BK3.out 0).trans rfl, (blk_cell BK3.out 1).trans rfl, (blk_cell BK3.out 2).trans rfl, (blk_cell BK4.out 0).trans rfl, (blk_cell BK4.out 1).trans rfl, (blk_cell BK4.out 2).trans rfl⟩ (fun hHeld => ?_)
     clear hK K
     refine norm_ (a' := ?_) ?_ ?_
     rotate_left
     ·show Act.put _ (some 9) _ = _
      simp only [Act.put, List.setIfInBounds_toArray, List.set_cons_zero, List.set_cons_succ, i64_w, i32_w]
      rfl
     refine two_ (i := 1) (j := 4) (Ni := some 34) (Nj := some 8) (bm 8 39) (bm 8 53) rfl rfl rfl rfl (two_of HT_.out (by kernel_rfl)) (by decide) (by decide) (fun K hK => ?_) (fun K hK => ?_)
     ·skip
      refine goes_ Try.func32 (by kernel_rfl) rfl #[.agg #[.int .i64 a0_0, .int .i64 a0_1, .int .i64 a0_2]] (by rfl) rfl rfl (by (try simp only [List.map_toArray, List.map_cons, List.map_nil]); first | done | rfl | (simp only [List.length_drop, List.length_take]; rfl)) ?_
      with_reducible refine (CU _).mono ?_
      rintro e w10_27 ⟨rfl, hb⟩
      refine ⟨_, rfl, ?_⟩
      replace BK3 := cB hb BK3
      replace BK4 := cB hb BK4
      replace BK5 := cB hb BK5
      replace BK6 := cB hb BK6
      replace BK9 := cB hb BK9
      replace HB := Aside0.mk (below_step (HB.out) hb)
      clear hb
      refine hK.out _ _ ⟨(blk_cell BK3.out 0).trans rfl, (blk_cell BK3.out 1).trans rfl, (blk_cell BK3.out 2).trans rfl, (blk_cell BK4.out 0).trans rfl, (blk_cell BK4.out 1).trans rfl, (blk_cell BK4.out 2).trans rfl⟩ (fun hHeld => ?_)
      clear hK K
      refine norm_ (a' := ?_) ?_ ?_
      rotate_left
      ·show Act.put _ (some 34) _ = _
       simp only [Act.put, List.setIfInBounds_toArray, List.set_cons_zero, List.set_cons_succ, i64_w, i32_w]
       rfl
      refine two_ (i := 3) (j := 4) (Ni := some 36) (Nj := some 8) (bm 8 47) (bm 8 55) rfl rfl rfl rfl (two_of HT_.out (by kernel_rfl)) (by decide) (by decide) (fun K hK => ?_) (fun K hK => ?_)
      ·skip
       refine goes_ Try.func32 (by kernel_rfl) rfl #[.agg #[.int .i64 a1_0, .int .i64 a1_1, .int .i64 a1_2]] (by rfl) rfl rfl (by (try simp only [List.map_toArray, List.map_cons, List.map_nil]); first | done | rfl | (simp only [List.length_drop, List.length_take]; rfl)) ?_
       with_reducible refine (CM _).mono ?_
       rintro e w10_28 ⟨rfl, hb⟩
       refine ⟨_, rfl, ?_⟩
       replace BK3 := cB hb BK3
       replace BK4 := cB hb BK4
       replace BK5 := cB hb BK5
       replace BK6 := cB hb BK6
       replace BK9 := cB hb BK9
       replace HB := Aside0.mk (below_step (HB.out) hb)
       clear hb
       refine hK.out _ _ ⟨(blk_cell BK3.out 0).trans rfl, (blk_cell BK3.out 1).trans rfl, (blk_cell BK3.out 2).trans rfl, (blk_cell BK4.out 0).trans rfl, (blk_cell BK4.out 1).trans rfl, (blk_cell BK4.out 2).trans rfl⟩ (fun hHeld => ?_)
       clear hK K
       refine norm_ (a' := ?_) ?_ ?_
       rotate_left
       ·show Act.put _ (some 36) _ = _
        simp only [Act.put, List.setIfInBounds_toArray, List.set_cons_zero, List.set_cons_succ, i64_w, i32_w]
        rfl
       refine one_ (i := 4) (N := some 8) (bm 8 63) rfl rfl (one_of HT_.out (by kernel_rfl)) (by decide) (fun K hK => ?_)
       refine box_step ?hg (N := 8) ?hd (cs := #[.int .i64 0, .int .i64 0, .int .i64 0]) (t := 26) ?hr ?_; (case hd => rfl); (case hg => rfl); (case hr => first | (go_simp; done) | (go_simp; rfl))
       intro g8 hg w10_29 hbox hb
       have BK8 := Aside0.mk (hbox)
       have GE8 := Aside0.mk (bG hg (HB.out))
       have N38 := cN hg BK3
       have N83 := cM hg BK3
       have N48 := cN hg BK4
       have N84 := cM hg BK4
       have N58 := cN hg BK5
       have N85 := cM hg BK5
       have N68 := cN hg BK6
       have N86 := cM hg BK6
       have N98 := cN hg BK9
       have N89 := cM hg BK9
       clear hbox hg
       replace BK3 := cB hb BK3
       replace BK4 := cB hb BK4
       replace BK5 := cB hb BK5
       replace BK6 := cB hb BK6
       replace BK9 := cB hb BK9
       replace HB := Aside0.mk (below_step (HB.out) hb)
       clear hb
       refine hK.out _ _ ⟨(blk_cell BK3.out 0).trans rfl, (blk_cell BK3.out 1).trans rfl, (blk_cell BK3.out 2).trans rfl, (blk_cell BK4.out 0).trans rfl, (blk_cell BK4.out 1).trans rfl, (blk_cell BK4.out 2).trans rfl⟩ (fun hHeld => ?_)
       clear hK K
       refine norm_ (a' := ?_) ?_ ?_
       rotate_left
       ·show Act.put _ (some 8) _ = _
        simp only [Act.put, List.setIfInBounds_toArray, List.set_cons_zero, List.set_cons_succ, i64_w, i32_w]
        rfl
       exact norm_ (by simp only [putAll, Act.put, List.setIfInBounds_toArray, List.set_cons_zero, List.set_cons_succ]) (hCont (g8, g9) _ ⟨hHeld, BK3.out, BK4.out, BK5.out, BK6.out, BK8.out, BK9.out, GE8.out, GE9.out, N38.out, N83.out, N48.out, N84.out, N58.out, N85.out, N68.out, N86.out, N39.out, N93.out, N49.out, N94.out, N59.out, N95.out, N69.out, N96.out, N89.out, N98.out, HB.out⟩)
      ·skip
       refine box_step ?hg (N := 8) ?hd (cs := #[.int .i64 0, .int .i64 0, .int .i64 0]) (t := 26) ?hr ?_; (case hd => rfl); (case hg => rfl); (case hr => first | (go_simp; done) | (go_simp; rfl))
       intro g8 hg w10_30 hbox hb
       have BK8 := Aside0.mk (hbox)
       have GE8 := Aside0.mk (bG hg (HB.out))
       have N38 := cN hg BK3
       have N83 := cM hg BK3
       have N48 := cN hg BK4
       have N84 := cM hg BK4
       have N58 := cN hg BK5
       have N85 := cM hg BK5
       have N68 := cN hg BK6
       have N86 := cM hg BK6
       have N98 := cN hg BK9
       have N89 := cM hg BK9
       clear hbox hg
       replace BK3 := cB hb BK3
       replace BK4 := cB hb BK4
       replace BK5 := cB hb BK5
       replace BK6 := cB hb BK6
       replace BK9 := cB hb BK9
       replace HB := Aside0.mk (below_step (HB.out) hb)
       clear hb
       refine hK.out _ _ ⟨(blk_cell BK3.out 0).trans rfl, (blk_cell BK3.out 1).trans rfl, (blk_cell BK3.out 2).trans rfl, (blk_cell BK4.out 0).trans rfl, (blk_cell BK4.out 1).trans rfl, (blk_cell BK4.out 2).trans rfl⟩ (fun hHeld => ?_)
       clear hK K
       refine norm_ (a' := ?_) ?_ ?_
       rotate_left
       ·show Act.put _ (some 8) _ = _
        simp only [Act.put, List.setIfInBounds_toArray, List.set_cons_zero, List.set_cons_succ, i64_w, i32_w]
        rfl
       refine one_ (i := 3) (N := some 36) (bm 8 63) rfl rfl (one_of HT_.out (by kernel_rfl)) (by decide) (fun K hK => ?_)
       refine goes_ Try.func32 (by kernel_rfl) rfl #[.agg #[.int .i64 a1_0, .int .i64 a1_1, .int .i64 a1_2]] (by rfl) rfl rfl (by (try simp only [List.map_toArray, List.map_cons, List.map_nil]); first | done | rfl | (simp only [List.length_drop, List.length_take]; rfl)) ?_
       with_reducible refine (CM _).mono ?_
       rintro e w10_31 ⟨rfl, hb⟩
       refine ⟨_, rfl, ?_⟩
       replace BK3 := cB hb BK3
       replace BK4 := cB hb BK4
       replace BK5 := cB hb BK5
       replace BK6 := cB hb BK6
       replace BK9 := cB hb BK9
       replace BK8 := cB hb BK8
       replace HB := Aside0.mk (below_step (HB.out) hb)
       clear hb
       refine hK.out _ _ ⟨(blk_cell BK3.out 0).trans rfl, (blk_cell BK3.out 1).trans rfl, (blk_cell BK3.out 2).trans rfl, (blk_cell BK4.out 0).trans rfl, (blk_cell BK4.out 1).trans rfl, (blk_cell BK4.out 2).trans rfl⟩ (fun hHeld => ?_)
       clear hK K
       refine norm_ (a' := ?_) ?_ ?_
       rotate_left
       ·show Act.put _ (some 36) _ = _
        simp only [Act.put, List.setIfInBounds_toArray, List.set_cons_zero, List.set_cons_succ, i64_w, i32_w]
        rfl
       exact norm_ (by simp only [putAll, Act.put, List.setIfInBounds_toArray, List.set_cons_zero, List.set_cons_succ]) (hCont (g8, g9) _ ⟨hHeld, BK3.out, BK4.out, BK5.out, BK6.out, BK8.out, BK9.out, GE8.out, GE9.out, N38.out, N83.out, N48.out, N84.out, N58.out, N85.out, N68.out, N86.out, N39.out, N93.out, N49.out, N94.out, N59.out, N95.out, N69.out, N96.out, N89.out, N98.out, HB.out⟩)
     ·skip
      refine box_step ?hg (N := 8) ?hd (cs := #[.int .i64 0, .int .i64 0, .int .i64 0]) (t := 26) ?hr ?_; (case hd => rfl); (case hg => rfl); (case hr => first | (go_simp; done) | (go_simp; rfl))
      intro g8 hg w10_32 hbox hb
      have BK8 := Aside0.mk (hbox)
      have GE8 := Aside0.mk (bG hg (HB.out))
      have N38 := cN hg BK3
      have N83 := cM hg BK3
      have N48 := cN hg BK4
      have N84 := cM hg BK4
      have N58 := cN hg BK5
      have N85 := cM hg BK5
      have N68 := cN hg BK6
      have N86 := cM hg BK6
      have N98 := cN hg BK9
      have N89 := cM hg BK9
      clear hbox hg
      replace BK3 := cB hb BK3
      replace BK4 := cB hb BK4
      replace BK5 := cB hb BK5
      replace BK6 := cB hb BK6
      replace BK9 := cB hb BK9
      replace HB := Aside0.mk (below_step (HB.out) hb)
      clear hb
      refine hK.out _ _ ⟨(blk_cell BK3.out 0).trans rfl, (blk_cell BK3.out 1).trans rfl, (blk_cell BK3.out 2).trans rfl, (blk_cell BK4.out 0).trans rfl, (blk_cell BK4.out 1).trans rfl, (blk_cell BK4.out 2).trans rfl⟩ (fun hHeld => ?_)
      clear hK K
      refine norm_ (a' := ?_) ?_ ?_
      rotate_left
      ·show Act.put _ (some 8) _ = _
       simp only [Act.put, List.setIfInBounds_toArray, List.set_cons_zero, List.set_cons_succ, i64_w, i32_w]
       rfl
      refine one_ (i := 1) (N := some 34) (bm 8 55) rfl rfl (one_of HT_.out (by kernel_rfl)) (by decide) (fun K hK => ?_)
      refine goes_ Try.func32 (by kernel_rfl) rfl #[.agg #[.int .i64 a0_0, .int .i64 a0_1, .int .i64 a0_2]] (by rfl) rfl rfl (by (try simp only [List.map_toArray, List.map_cons, List.map_nil]); first | done | rfl | (simp only [List.length_drop, List.length_take]; rfl)) ?_
      with_reducible refine (CU _).mono ?_
      rintro e w10_33 ⟨rfl, hb⟩
      refine ⟨_, rfl, ?_⟩
      replace BK3 := cB hb BK3
      replace BK4 := cB hb BK4
      replace BK5 := cB hb BK5
      replace BK6 := cB hb BK6
      replace BK9 := cB hb BK9
      replace BK8 := cB hb BK8
      replace HB := Aside0.mk (below_step (HB.out) hb)
      clear hb
      refine hK.out _ _ ⟨(blk_cell BK3.out 0).trans rfl, (blk_cell BK3.out 1).trans rfl, (blk_cell BK3.out 2).trans rfl, (blk_cell BK4.out 0).trans rfl, (blk_cell BK4.out 1).trans rfl, (blk_cell BK4.out 2).trans rfl⟩ (fun hHeld => ?_)
      clear hK K
      refine norm_ (a' := ?_) ?_ ?_
      rotate_left
      ·show Act.put _ (some 34) _ = _
       simp only [Act.put, List.setIfInBounds_toArray, List.set_cons_zero, List.set_cons_succ, i64_w, i32_w]
       rfl
      refine one_ (i := 3) (N := some 36) (bm 8 63) rfl rfl (one_of HT_.out (by kernel_rfl)) (by decide) (fun K hK => ?_)
      refine goes_ Try.func32 (by kernel_rfl) rfl #[.agg #[.int .i64 a1_0, .int .i64 a1_1, .int .i64 a1_2]] (by rfl) rfl rfl (by (try simp only [List.map_toArray, List.map_cons, List.map_nil]); first | done | rfl | (simp only [List.length_drop, List.length_take]; rfl)) ?_
      with_reducible refine (CM _).mono ?_
      rintro e w10_34 ⟨rfl, hb⟩
      refine ⟨_, rfl, ?_⟩
      replace BK3 := cB hb BK3
      replace BK4 := cB hb BK4
      replace BK5 := cB hb BK5
      replace BK6 := cB hb BK6
      replace BK9 := cB hb BK9
      replace BK8 := cB hb BK8
      replace HB := Aside0.mk (below_step (HB.out) hb)
      clear hb
      refine hK.out _ _ ⟨(blk_cell BK3.out 0).trans rfl, (blk_cell BK3.out 1).trans rfl, (blk_cell BK3.out 2).trans rfl, (blk_cell BK4.out 0).trans rfl, (blk_cell BK4.out 1).trans rfl, (blk_cell BK4.out 2).trans rfl⟩ (fun hHeld => ?_)
      clear hK K
      refine norm_ (a' := ?_) ?_ ?_
      rotate_left
      ·show Act.put _ (some 36) _ = _
       simp only [Act.put, List.setIfInBounds_toArray, List.set_cons_zero, List.set_cons_succ, i64_w, i32_w]
       rfl
      exact norm_ (by simp only [putAll, Act.put, List.setIfInBounds_toArray, List.set_cons_zero, List.set_cons_succ]) (hCont (g8, g9) _ ⟨hHeld, BK3.out, BK4.out, BK5.out, BK6.out, BK8.out, BK9.out, GE8.out, GE9.out, N38.out, N83.out, N48.out, N84.out, N58.out, N85.out, N68.out, N86.out, N39.out, N93.out, N49.out, N94.out, N59.out, N95.out, N69.out, N96.out, N89.out, N98.out, HB.out⟩)
   rintro ⟨g8, g9⟩ w11 ⟨h0_, h1_, h2_, h3_, h4_, h5_, h6_, h7_, h8_, h9_, h10_, h11_, h12_, h13_, h14_, h15_, h16_, h17_, h18_, h19_, h20_, h21_, h22_, h23_, h24_, h25_, h26_, h27_⟩
   clear HB hHeld BK3 BK4 BK5 BK6
   have BK3 := Aside0.mk h1_
   have BK4 := Aside0.mk h2_
   have BK5 := Aside0.mk h3_
   have BK6 := Aside0.mk h4_
   have BK8 := Aside0.mk h5_
   have BK9 := Aside0.mk h6_
   have GE8 := Aside0.mk h7_
   have GE9 := Aside0.mk h8_
   have N38 := Aside0.mk h9_
   have N83 := Aside0.mk h10_
   have N48 := Aside0.mk h11_
   have N84 := Aside0.mk h12_
   have N58 := Aside0.mk h13_
   have N85 := Aside0.mk h14_
   have N68 := Aside0.mk h15_
   have N86 := Aside0.mk h16_
   have N39 := Aside0.mk h17_
   have N93 := Aside0.mk h18_
   have N49 := Aside0.mk h19_
   have N94 := Aside0.mk h20_
   have N59 := Aside0.mk h21_
   have N95 := Aside0.mk h22_
   have N69 := Aside0.mk h23_
   have N96 := Aside0.mk h24_
   have N89 := Aside0.mk h25_
   have N98 := Aside0.mk h26_
   have HB := Aside0.mk h27_
   have hHeld : w11.cell? ⟨g3, 0, none⟩ = some (.int .i64 a0_0) ∧ w11.cell? ⟨g3, 1, none⟩ = some (.int .i64 a0_1) ∧ w11.cell? ⟨g3, 2, none⟩ = some (.int .i64 a0_2) ∧ w11.cell? ⟨g4, 0, none⟩ = some (.int .i64 a1_0) ∧ w11.cell? ⟨g4, 1, none⟩ = some (.int .i64 a1_1) ∧ w11.cell? ⟨g4, 2, none⟩ = some (.int .i64 a1_2) := h0_
   clear h0_ h1_ h2_ h3_ h4_ h5_ h6_ h7_ h8_ h9_ h10_ h11_ h12_ h13_ h14_ h15_ h16_ h17_ h18_ h19_ h20_ h21_ h22_ h23_ h24_ h25_ h26_ h27_
   refine norm_ (a' := ?_) ?_ ?_
   rotate_left
   ·simp only [putAll, Act.put, List.setIfInBounds_toArray, List.set_cons_zero, List.set_cons_succ]
    rfl
   have hn0 := N98.out
   have hn1 := N89.out
   refine last_ (i := 6) (N := none) (bm 8 127) rfl rfl (one_of HT_.out (by kernel_rfl)) (by decide) (fun K hK => ?_)
   have hs0 := (blk_cell BK8.out 0).trans (rfl : _ = some (Value.int .i64 0))
   have hf0 := blk_frozen BK8.out 0
   have hs1 := (blk_cell BK8.out 1).trans (rfl : _ = some (Value.int .i64 0))
   have hf1 := blk_frozen BK8.out 1
   have hs2 := (blk_cell BK8.out 2).trans (rfl : _ = some (Value.int .i64 0))
   have hf2 := blk_frozen BK8.out 2
   refine skip_ (w1 := ?_) (by rfl) rfl ?_ ?_
   rotate_left
   ·go_simp
    rfl
   refine hK.out _ _ ?_
   clear hK K hs0 hf0 hs1 hf1 hs2 hf2
   replace BK9 := Aside0.mk (blk_far (blk_far (blk_far BK9.out (p := ⟨g8, 0, none⟩) N98.out (.int .i64 u0)) (p := ⟨g8, 1, none⟩) N98.out (.int .i64 u1)) (p := ⟨g8, 2, none⟩) N98.out (.int .i64 u2))
   refine last_ (i := 7) (N := none) (bm 8 255) rfl rfl (one_of HT_.out (by kernel_rfl)) (by decide) (fun K hK => ?_)
   have hs0 := (blk_cell BK9.out 0).trans (rfl : _ = some (Value.int .i64 0))
   have hf0 := blk_frozen BK9.out 0
   have hs1 := (blk_cell BK9.out 1).trans (rfl : _ = some (Value.int .i64 0))
   have hf1 := blk_frozen BK9.out 1
   have hs2 := (blk_cell BK9.out 2).trans (rfl : _ = some (Value.int .i64 0))
   have hf2 := blk_frozen BK9.out 2
   refine skip_ (w1 := ?_) (by rfl) rfl ?_ ?_
   rotate_left
   ·go_simp
    rfl
   refine hK.out _ _ ?_
   clear hK K hs0 hf0 hs1 hf1 hs2 hf2
   refine done_ (done_of HT_.out (by kernel_rfl)) ?_
   clear hn0 hn1 hHeld HT_ HW_
   replace BK3 := Aside0.mk (blk_far (blk_far (blk_far (blk_far (blk_far (blk_far BK3.out (p := ⟨g8, 0, none⟩) N38.out (.int .i64 u0)) (p := ⟨g8, 1, none⟩) N38.out (.int .i64 u1)) (p := ⟨g8, 2, none⟩) N38.out (.int .i64 u2)) (p := ⟨g9, 0, none⟩) N39.out (.int .i64 m0)) (p := ⟨g9, 1, none⟩) N39.out (.int .i64 m1)) (p := ⟨g9, 2, none⟩) N39.out (.int .i64 m2))
   replace BK4 := Aside0.mk (blk_far (blk_far (blk_far (blk_far (blk_far (blk_far BK4.out (p := ⟨g8, 0, none⟩) N48.out (.int .i64 u0)) (p := ⟨g8, 1, none⟩) N48.out (.int .i64 u1)) (p := ⟨g8, 2, none⟩) N48.out (.int .i64 u2)) (p := ⟨g9, 0, none⟩) N49.out (.int .i64 m0)) (p := ⟨g9, 1, none⟩) N49.out (.int .i64 m1)) (p := ⟨g9, 2, none⟩) N49.out (.int .i64 m2))
   replace BK5 := Aside0.mk (blk_far (blk_far (blk_far (blk_far (blk_far (blk_far BK5.out (p := ⟨g8, 0, none⟩) N58.out (.int .i64 u0)) (p := ⟨g8, 1, none⟩) N58.out (.int .i64 u1)) (p := ⟨g8, 2, none⟩) N58.out (.int .i64 u2)) (p := ⟨g9, 0, none⟩) N59.out (.int .i64 m0)) (p := ⟨g9, 1, none⟩) N59.out (.int .i64 m1)) (p := ⟨g9, 2, none⟩) N59.out (.int .i64 m2))
   replace BK6 := Aside0.mk (blk_far (blk_far (blk_far (blk_far (blk_far (blk_far BK6.out (p := ⟨g8, 0, none⟩) N68.out (.int .i64 u0)) (p := ⟨g8, 1, none⟩) N68.out (.int .i64 u1)) (p := ⟨g8, 2, none⟩) N68.out (.int .i64 u2)) (p := ⟨g9, 0, none⟩) N69.out (.int .i64 m0)) (p := ⟨g9, 1, none⟩) N69.out (.int .i64 m1)) (p := ⟨g9, 2, none⟩) N69.out (.int .i64 m2))
   replace BK8 := Aside0.mk (blk_far (blk_far (blk_far (blk_put (cs' := #[.int .i64 u0, .int .i64 u1, .int .i64 u2]) (blk_put (blk_put BK8.out 0 (.int .i64 u0) rfl) 1 (.int .i64 u1) rfl) 2 (.int .i64 u2) rfl) (p := ⟨g9, 0, none⟩) N89.out (.int .i64 m0)) (p := ⟨g9, 1, none⟩) N89.out (.int .i64 m1)) (p := ⟨g9, 2, none⟩) N89.out (.int .i64 m2))
   replace BK9 := Aside0.mk (blk_put (cs' := #[.int .i64 m0, .int .i64 m1, .int .i64 m2]) (blk_put (blk_put BK9.out 0 (.int .i64 m0) rfl) 1 (.int .i64 m1) rfl) 2 (.int .i64 m2) rfl)
   replace HB := Aside0.mk (below_set (j := 2) (v := .int .i64 m2) (below_set (j := 1) (v := .int .i64 m1) (below_set (j := 0) (v := .int .i64 m0) (below_set (j := 2) (v := .int .i64 u2) (below_set (j := 1) (v := .int .i64 u1) (below_set (j := 0) (v := .int .i64 u0) HB.out GE8.out) GE8.out) GE8.out) GE9.out) GE9.out) GE9.out)
   generalize ((((((w11.setCell ⟨g8, 0, none⟩ (.int .i64 u0)).setCell ⟨g8, 1, none⟩ (.int .i64 u1)).setCell ⟨g8, 2, none⟩ (.int .i64 u2)).setCell ⟨g9, 0, none⟩ (.int .i64 m0)).setCell ⟨g9, 1, none⟩ (.int .i64 m1)).setCell ⟨g9, 2, none⟩ (.int .i64 m2)) = w12 at BK3 BK4 BK5 BK6 BK8 BK9 HB ⊢
   obtain ⟨k0, k1, k2⟩ := cells3 BK8.out
   obtain ⟨l0, l1, l2⟩ := cells3 BK9.out
   have p0 := (blk_cell BK5.out 0).trans (rfl : _ = some (Value.int .i64 a2))
   have zz0 := (blk_cell BK6.out 0).trans (rfl : _ = some (Value.int .i64 0))
   have zzf0 := blk_frozen BK6.out 0
   have zz1 := (blk_cell BK6.out 1).trans (rfl : _ = some (Value.int .i64 0))
   have zzf1 := blk_frozen BK6.out 1
   have zz2 := (blk_cell BK6.out 2).trans (rfl : _ = some (Value.int .i64 0))
   have zzf2 := blk_frozen BK6.out 2
   go_wp2_with (first
  | (go_at_call 16; (with_reducible refine (CP _).mono ?_); rintro e w13 ⟨rfl, hb⟩; replace BK5 := cB hb BK5; replace BK6 := cB hb BK6; replace BK8 := cB hb BK8; replace BK9 := cB hb BK9; replace HB := Aside0.mk (below_step (HB.out) hb); clear hb; obtain ⟨k0, k1, k2⟩ := cells3 BK8.out; obtain ⟨l0, l1, l2⟩ := cells3 BK9.out; have p0 := (blk_cell BK5.out 0).trans (rfl : _ = some (Value.int .i64 a2)); have zz0 := (blk_cell BK6.out 0).trans (rfl : _ = some (Value.int .i64 0)); have zzf0 := blk_frozen BK6.out 0; have zz1 := (blk_cell BK6.out 1).trans (rfl : _ = some (Value.int .i64 0)); have zzf1 := blk_frozen BK6.out 1; have zz2 := (blk_cell BK6.out 2).trans (rfl : _ = some (Value.int .i64 0)); have zzf2 := blk_frozen BK6.out 2)
  | (go_at_call 31; (with_reducible refine (F0 _).mono ?_); rintro e w14 ⟨rfl, hb⟩; replace BK5 := cB hb BK5; replace BK6 := cB hb BK6; replace BK8 := cB hb BK8; replace BK9 := cB hb BK9; replace HB := Aside0.mk (below_step (HB.out) hb); clear hb; obtain ⟨k0, k1, k2⟩ := cells3 BK8.out; obtain ⟨l0, l1, l2⟩ := cells3 BK9.out; have p0 := (blk_cell BK5.out 0).trans (rfl : _ = some (Value.int .i64 a2)); have zz0 := (blk_cell BK6.out 0).trans (rfl : _ = some (Value.int .i64 0)); have zzf0 := blk_frozen BK6.out 0; have zz1 := (blk_cell BK6.out 1).trans (rfl : _ = some (Value.int .i64 0)); have zzf1 := blk_frozen BK6.out 1; have zz2 := (blk_cell BK6.out 2).trans (rfl : _ = some (Value.int .i64 0)); have zzf2 := blk_frozen BK6.out 2)
  | (go_at_call 31; (with_reducible refine (F1 _).mono ?_); rintro e w15 ⟨rfl, hb⟩; replace BK5 := cB hb BK5; replace BK6 := cB hb BK6; replace BK8 := cB hb BK8; replace BK9 := cB hb BK9; replace HB := Aside0.mk (below_step (HB.out) hb); clear hb; obtain ⟨k0, k1, k2⟩ := cells3 BK8.out; obtain ⟨l0, l1, l2⟩ := cells3 BK9.out; have p0 := (blk_cell BK5.out 0).trans (rfl : _ = some (Value.int .i64 a2)); have zz0 := (blk_cell BK6.out 0).trans (rfl : _ = some (Value.int .i64 0)); have zzf0 := blk_frozen BK6.out 0; have zz1 := (blk_cell BK6.out 1).trans (rfl : _ = some (Value.int .i64 0)); have zzf1 := blk_frozen BK6.out 1; have zz2 := (blk_cell BK6.out 2).trans (rfl : _ = some (Value.int .i64 0)); have zzf2 := blk_frozen BK6.out 2))
   refine bodyPost_ret (results_ct rfl _ _ g6 26 #[.int .i64 0, .int .i64 0, .int .i64 0] (0, 0) _ rfl (blk_put (cs' := #[.int .i64 0, .int .i64 0, .int .i64 0]) (blk_put (blk_put BK6.out 0 _ rfl) 1 _ rfl) 2 _ rfl) Try.underlying26 rfl (by kernel_rfl)) rfl ?_
   exact ⟨rfl, below_set (below_set (below_set HB.out GE6.out) GE6.out) GE6.out⟩
 rw [if_neg b3] at h
 replace h := Option.bind_eq_some_iff.mp h
 obtain ⟨g0, hg0, h⟩ := h
 replace h := Option.bind_eq_some_iff.mp h
 obtain ⟨s, hs, h⟩ := h
 replace h := Option.bind_eq_some_iff.mp h
 obtain ⟨x1, hx1, h⟩ := h
 replace h := Option.bind_eq_some_iff.mp h
 obtain ⟨x2, hx2, h⟩ := h
 replace h := Option.bind_eq_some_iff.mp h
 obtain ⟨y1, hy1, h⟩ := h
 replace h := Option.bind_eq_some_iff.mp h
 obtain ⟨y2, hy2, h⟩ := h
 replace h := Option.bind_eq_some_iff.mp h
 obtain ⟨z1, hz1, h⟩ := h
 replace h := Option.bind_eq_some_iff.mp h
 obtain ⟨z2, hz2, h⟩ := h
 replace h := Option.bind_eq_some_iff.mp h
 obtain ⟨⟨q1, q2, q3⟩, hq, h⟩ := h
 simp only [Option.some.injEq, Prod.mk.injEq] at h
 obtain ⟨rfl, rfl, rfl, rfl⟩ := h
 have F2 := fun w => floor_below _ _ g0 w hg0
 have CR := fun w => light_root.calls k _ 1 s w hs
 have CC := fun w => vec_Cut.calls k _ _ _ 32768 q1 q2 q3 w hq
 clear hg0 hs hq
 go_enter Try.func15, Try.ntmps15
 go_wp2_with (first
  | ((with_reducible refine gate_dst (N := 3) rfl ?_); refine box_event ?hg (N := 3) ?hd (cs := #[.int .i64 a0_0, .int .i64 a0_1, .int .i64 a0_2]) (t := 26) ?hr ?_; (case hd => rfl); (case hg => rfl); (case hr => first | (go_simp; done) | (go_simp; rfl)); intro g3 hg w4 hbox hb; have BK3 := Aside0.mk (hbox); have GE3 := Aside0.mk (bG hg (HB.out)); replace HB := Aside0.mk (below_step (HB.out) hb); clear hb hbox hg)
  | ((with_reducible refine gate_dst (N := 4) rfl ?_); refine box_event ?hg (N := 4) ?hd (cs := #[.int .i64 a1_0, .int .i64 a1_1, .int .i64 a1_2]) (t := 26) ?hr ?_; (case hd => rfl); (case hg => rfl); (case hr => first | (go_simp; done) | (go_simp; rfl)); intro g4 hg w5 hbox hb; have BK4 := Aside0.mk (hbox); have GE4 := Aside0.mk (bG hg (HB.out)); have N34 := cN hg BK3; have N43 := cM hg BK3; replace HB := Aside0.mk (below_step (HB.out) hb); replace BK3 := cB hb BK3; clear hb hbox hg)
  | ((with_reducible refine gate_dst (N := 5) rfl ?_); refine box_event ?hg (N := 5) ?hd (cs := #[.int .i64 a2]) (t := 3) ?hr ?_; (case hd => rfl); (case hg => rfl); (case hr => first | (go_simp; done) | (go_simp; rfl)); intro g5 hg w6 hbox hb; have BK5 := Aside0.mk (hbox); have GE5 := Aside0.mk (bG hg (HB.out)); have N35 := cN hg BK3; have N53 := cM hg BK3; have N45 := cN hg BK4; have N54 := cM hg BK4; replace HB := Aside0.mk (below_step (HB.out) hb); replace BK3 := cB hb BK3; replace BK4 := cB hb BK4; clear hb hbox hg)
  | ((with_reducible refine gate_dst (N := 6) rfl ?_); refine box_event ?hg (N := 6) ?hd (cs := #[.int .i64 0, .int .i64 0, .int .i64 0]) (t := 26) ?hr ?_; (case hd => rfl); (case hg => rfl); (case hr => first | (go_simp; done) | (go_simp; rfl)); intro g6 hg w7 hbox hb; have BK6 := Aside0.mk (hbox); have GE6 := Aside0.mk (bG hg (HB.out)); have N36 := cN hg BK3; have N63 := cM hg BK3; have N46 := cN hg BK4; have N64 := cM hg BK4; have N56 := cN hg BK5; have N65 := cM hg BK5; replace HB := Aside0.mk (below_step (HB.out) hb); replace BK3 := cB hb BK3; replace BK4 := cB hb BK4; replace BK5 := cB hb BK5; clear hb hbox hg; obtain ⟨k0, k1, k2⟩ := cells3 BK3.out; obtain ⟨l0, l1, l2⟩ := cells3 BK4.out; have p0 := (blk_cell BK5.out 0).trans (rfl : _ = some (Value.int .i64 a2)))
  | (go_at_call 27; (with_reducible refine (CF _).mono ?_); rintro e w8 ⟨rfl, hb⟩; replace BK3 := cB hb BK3; replace BK4 := cB hb BK4; replace BK5 := cB hb BK5; replace BK6 := cB hb BK6; replace HB := Aside0.mk (below_step (HB.out) hb); clear hb; obtain ⟨k0, k1, k2⟩ := cells3 BK3.out; obtain ⟨l0, l1, l2⟩ := cells3 BK4.out; have p0 := (blk_cell BK5.out 0).trans (rfl : _ = some (Value.int .i64 a2)); have zz0 := (blk_cell BK6.out 0).trans (rfl : _ = some (Value.int .i64 0)); have zzf0 := blk_frozen BK6.out 0; have zz1 := (blk_cell BK6.out 1).trans (rfl : _ = some (Value.int .i64 0)); have zzf1 := blk_frozen BK6.out 1; have zz2 := (blk_cell BK6.out 2).trans (rfl : _ = some (Value.int .i64 0)); have zzf2 := blk_frozen BK6.out 2)
  | (go_at_call 16; (with_reducible refine (CE _).mono ?_); rintro e w9 ⟨rfl, hb⟩; replace BK3 := cB hb BK3; replace BK4 := cB hb BK4; replace BK5 := cB hb BK5; replace BK6 := cB hb BK6; replace HB := Aside0.mk (below_step (HB.out) hb); clear hb; obtain ⟨k0, k1, k2⟩ := cells3 BK3.out; obtain ⟨l0, l1, l2⟩ := cells3 BK4.out; have p0 := (blk_cell BK5.out 0).trans (rfl : _ = some (Value.int .i64 a2)); have zz0 := (blk_cell BK6.out 0).trans (rfl : _ = some (Value.int .i64 0)); have zzf0 := blk_frozen BK6.out 0; have zz1 := (blk_cell BK6.out 1).trans (rfl : _ = some (Value.int .i64 0)); have zzf1 := blk_frozen BK6.out 1; have zz2 := (blk_cell BK6.out 2).trans (rfl : _ = some (Value.int .i64 0)); have zzf2 := blk_frozen BK6.out 2))
 replace BK3 := Aside0.mk (blk_drew BK3.out)
 replace BK4 := Aside0.mk (blk_drew BK4.out)
 replace BK5 := Aside0.mk (blk_drew BK5.out)
 replace BK6 := Aside0.mk (blk_drew BK6.out)
 replace HB := Aside0.mk (below_drew1 HB.out)
 refine start_ (n := 8) (S := fun w' => w'.cell? ⟨g3, 0, none⟩ = some (.int .i64 a0_0) ∧ w'.cell? ⟨g3, 1, none⟩ = some (.int .i64 a0_1) ∧ w'.cell? ⟨g3, 2, none⟩ = some (.int .i64 a0_2) ∧ w'.cell? ⟨g4, 0, none⟩ = some (.int .i64 a1_0) ∧ w'.cell? ⟨g4, 1, none⟩ = some (.int .i64 a1_1) ∧ w'.cell? ⟨g4, 2, none⟩ = some (.int .i64 a1_2)) (ds := [6, 7]) #[false, false, false, false, false, false, false, false] (by kernel_rfl) rfl rfl ⟨(blk_cell BK3.out 0).trans rfl, (blk_cell BK3.out 1).trans rfl, (blk_cell BK3.out 2).trans rfl, (blk_cell BK4.out 0).trans rfl, (blk_cell BK4.out 1).trans rfl, (blk_cell BK4.out 2).trans rfl⟩ (fun hHeld => ?_); refine with_tabW light_Refract.tab3 light_Refract.bits3 (fun HT_ HW_ => ?_)
 generalize w9.drew = w10 at BK3 BK4 BK5 BK6 HB hHeld ⊢
 refine take_ (i := 0) (N := some 33) (v := ?_) (a' := ?_) (bm 8 1) rfl rfl (take_ofW HT_.out HW_.out (by kernel_rfl)) (fun _ _ _ h => h) (Or.inl ⟨by rfl, ?_⟩) hHeld ?_ ?_
 rotate_left
 ·rintro w' ⟨s0, s1, s2, s3, s4, s5⟩
  go_simp
  with_reducible rfl
 rotate_left
 ·simp only [Act.put, List.setIfInBounds_toArray, List.set_cons_zero, List.set_cons_succ, i64_w, i32_w]
  rfl
 refine take_ (i := 2) (N := some 35) (v := ?_) (a' := ?_) (bm 8 5) rfl rfl (take_ofW HT_.out HW_.out (by kernel_rfl)) (fun _ _ _ h => h) (Or.inl ⟨by rfl, ?_⟩) hHeld ?_ ?_
 rotate_left
 ·rintro w' ⟨s0, s1, s2, s3, s4, s5⟩
  go_simp
  with_reducible rfl
 rotate_left
 ·simp only [Act.put, List.setIfInBounds_toArray, List.set_cons_zero, List.set_cons_succ, i64_w, i32_w]
  rfl
 refine join_ (σ := Nat × Nat) 2 (bm 8 63) (fun s_ => [(34, .agg #[.int .i64 u0, .int .i64 u1, .int .i64 u2]), (36, .agg #[.int .i64 m0, .int .i64 m1, .int .i64 m2]), (8, .pointer (some ⟨s_.1, 0, none⟩)), (9, .pointer (some ⟨s_.2, 0, none⟩))]) (fun s_ w' => (w'.cell? ⟨g3, 0, none⟩ = some (.int .i64 a0_0) ∧ w'.cell? ⟨g3, 1, none⟩ = some (.int .i64 a0_1) ∧ w'.cell? ⟨g3, 2, none⟩ = some (.int .i64 a0_2) ∧ w'.cell? ⟨g4, 0, none⟩ = some (.int .i64 a1_0) ∧ w'.cell? ⟨g4, 1, none⟩ = some (.int .i64 a1_1) ∧ w'.cell? ⟨g4, 2, none⟩ = some (.int .i64 a1_2)) ∧ (w'.heap[g3]? = some (.cells #[.int .i64 a0_0, .int .i64 a0_1, .int .i64 a0_2] 26 (0, 0))) ∧ (w'.heap[g4]? = some (.cells #[.int .i64 a1_0, .int .i64 a1_1, .int .i64 a1_2] 26 (0, 0))) ∧ (w'.heap[g5]? = some (.cells #[.int .i64 a2] 3 (0, 0))) ∧ (w'.heap[g6]? = some (.cells #[.int .i64 0, .int .i64 0, .int .i64 0] 26 (0, 0))) ∧ (w'.heap[s_.1]? = some (.cells #[.int .i64 0, .int .i64 0, .int .i64 0] 26 (0, 0))) ∧ (w'.heap[s_.2]? = some (.cells #[.int .i64 0, .int .i64 0, .int .i64 0] 26 (0, 0))) ∧ (w.heap.size ≤ s_.1) ∧ (w.heap.size ≤ s_.2) ∧ (g3 ≠ s_.1) ∧ (s_.1 ≠ g3) ∧ (g4 ≠ s_.1) ∧ (s_.1 ≠ g4) ∧ (g5 ≠ s_.1) ∧ (s_.1 ≠ g5) ∧ (g6 ≠ s_.1) ∧ (s_.1 ≠ g6) ∧ (g3 ≠ s_.2) ∧ (s_.2 ≠ g3) ∧ (g4 ≠ s_.2) ∧ (s_.2 ≠ g4) ∧ (g5 ≠ s_.2) ∧ (s_.2 ≠ g5) ∧ (g6 ≠ s_.2) ∧ (s_.2 ≠ g6) ∧ (s_.1 ≠ s_.2) ∧ (s_.2 ≠ s_.1) ∧ (Below w.heap.size w w')) ?_ ?_
 rotate_left
 ·intro hCont
  refine three_ (i := 1) (j := 4) (k := 5) (Ni := some 34) (Nj := some 8) (Nk := some 9) (bm 8 7) (bm 8 21) (bm 8 37) rfl rfl rfl rfl rfl rfl (three_of HT_.out (by kernel_rfl)) (by decide) (by decide) (by decide) (fun K hK => ?_) (fun K hK => ?_) (fun K hK => ?_)
  ·skip
   refine goes_ Try.func32 (by kernel_rfl) rfl #[.agg #[.int .i64 a0_0, .int .i64 a0_1, .int .i64 a0_2]] (by rfl) rfl rfl (by (try simp only [List.map_toArray, List.map_cons, List.map_nil]); first | done | rfl | (simp only [List.length_drop, List.length_take]; rfl)) ?_
   with_reducible refine (CU _).mono ?_
   rintro e w10_1 ⟨rfl, hb⟩
   refine ⟨_, rfl, ?_⟩
   replace BK3 := cB hb BK3
   replace BK4 := cB hb BK4
   replace BK5 := cB hb BK5
   replace BK6 := cB hb BK6
   replace HB := Aside0.mk (below_step (HB.out) hb)
   clear hb
   refine hK.out _ _ ⟨(blk_cell BK3.out 0).trans rfl, (blk_cell BK3.out 1).trans rfl, (blk_cell BK3.out 2).trans rfl, (blk_cell BK4.out 0).trans rfl, (blk_cell BK4.out 1).trans rfl, (blk_cell BK4.out 2).trans rfl⟩ (fun hHeld => ?_)
   clear hK K
   refine norm_ (a' := ?_) ?_ ?_
   rotate_left
   ·show Act.put _ (some 34) _ = _
    simp only [Act.put, List.setIfInBounds_toArray, List.set_cons_zero, List.set_cons_succ, i64_w, i32_w]
    rfl
   refine three_ (i := 3) (j := 4) (k := 5) (Ni := some 36) (Nj := some 8) (Nk := some 9) (bm 8 15) (bm 8 23) (bm 8 39) rfl rfl rfl rfl rfl rfl (three_of HT_.out (by kernel_rfl)) (by decide) (by decide) (by decide) (fun K hK => ?_) (fun K hK => ?_) (fun K hK => ?_)
   ·skip
    refine goes_ Try.func32 (by kernel_rfl) rfl #[.agg #[.int .i64 a1_0, .int .i64 a1_1, .int .i64 a1_2]] (by rfl) rfl rfl (by (try simp only [List.map_toArray, List.map_cons, List.map_nil]); first | done | rfl | (simp only [List.length_drop, List.length_take]; rfl)) ?_
    with_reducible refine (CM _).mono ?_
    rintro e w10_2 ⟨rfl, hb⟩
    refine ⟨_, rfl, ?_⟩
    replace BK3 := cB hb BK3
    replace BK4 := cB hb BK4
    replace BK5 := cB hb BK5
    replace BK6 := cB hb BK6
    replace HB := Aside0.mk (below_step (HB.out) hb)
    clear hb
    refine hK.out _ _ ⟨(blk_cell BK3.out 0).trans rfl, (blk_cell BK3.out 1).trans rfl, (blk_cell BK3.out 2).trans rfl, (blk_cell BK4.out 0).trans rfl, (blk_cell BK4.out 1).trans rfl, (blk_cell BK4.out 2).trans rfl⟩ (fun hHeld => ?_)
    clear hK K
    refine norm_ (a' := ?_) ?_ ?_
    rotate_left
    ·show Act.put _ (some 36) _ = _
     simp only [Act.put, List.setIfInBounds_toArray, List.set_cons_zero, List.set_cons_succ, i64_w, i32_w]
     rfl
    refine two_ (i := 4) (j := 5) (Ni := some 8) (Nj := some 9) (bm 8 31) (bm 8 47) rfl rfl rfl rfl (two_of HT_.out (by kernel_rfl)) (by decide) (by decide) (fun K hK => ?_) (fun K hK => ?_)
    ·skip
     refine box_step ?hg (N := 8) ?hd (cs := #[.int .i64 0, .int .i64 0, .int .i64 0]) (t := 26) ?hr ?_; (case hd => rfl); (case hg => rfl); (case hr => first | (go_simp; done) | (go_simp; rfl))
     intro g8 hg w10_3 hbox hb
     have BK8 := Aside0.mk (hbox)
     have GE8 := Aside0.mk (bG hg (HB.out))
     have N38 := cN hg BK3
     have N83 := cM hg BK3
     have N48 := cN hg BK4
     have N84 := cM hg BK4
     have N58 := cN hg BK5
     have N85 := cM hg BK5
     have N68 := cN hg BK6
     have N86 := cM hg BK6
     clear hbox hg
     replace BK3 := cB hb BK3
     replace BK4 := cB hb BK4
     replace BK5 := cB hb BK5
     replace BK6 := cB hb BK6
     replace HB := Aside0.mk (below_step (HB.out) hb)
     clear hb
     refine hK.out _ _ ⟨(blk_cell BK3.out 0).trans rfl, (blk_cell BK3.out 1).trans rfl, (blk_cell BK3.out 2).trans rfl, (blk_cell BK4.out 0).trans rfl, (blk_cell BK4.out 1).trans rfl, (blk_cell BK4.out 2).trans rfl⟩ (fun hHeld => ?_)
     clear hK K
     refine norm_ (a' := ?_) ?_ ?_
     rotate_left
     ·show Act.put _ (some 8) _ = _
      simp only [Act.put, List.setIfInBounds_toArray, List.set_cons_zero, List.set_cons_succ, i64_w, i32_w]
      rfl
     refine one_ (i := 5) (N := some 9) (bm 8 63) rfl rfl (one_of HT_.out (by kernel_rfl)) (by decide) (fun K hK => ?_)
     refine box_step ?hg (N := 9) ?hd (cs := #[.int .i64 0, .int .i64 0, .int .i64 0]) (t := 26) ?hr ?_; (case hd => rfl); (case hg => rfl); (case hr => first | (go_simp; done) | (go_simp; rfl))
     intro g9 hg w10_4 hbox hb
     have BK9 := Aside0.mk (hbox)
     have GE9 := Aside0.mk (bG hg (HB.out))
     have N39 := cN hg BK3
     have N93 := cM hg BK3
     have N49 := cN hg BK4
     have N94 := cM hg BK4
     have N59 := cN hg BK5
     have N95 := cM hg BK5
     have N69 := cN hg BK6
     have N96 := cM hg BK6
     have N89 := cN hg BK8
     have N98 := cM hg BK8
     clear hbox hg
     replace BK3 := cB hb BK3
     replace BK4 := cB hb BK4
     replace BK5 := cB hb BK5
     replace BK6 := cB hb BK6
     replace BK8 := cB hb BK8
     replace HB := Aside0.mk (below_step (HB.out) hb)
     clear hb
     refine hK.out _ _ ⟨(blk_cell BK3.out 0).trans rfl, (blk_cell BK3.out 1).trans rfl, (blk_cell BK3.out 2).trans rfl, (blk_cell BK4.out 0).trans rfl, (blk_cell BK4.out 1).trans rfl, (blk_cell BK4.out 2).trans rfl⟩ (fun hHeld => ?_)
     clear hK K
     refine norm_ (a' := ?_) ?_ ?_
     rotate_left
     ·show Act.put _ (some 9) _ = _
      simp only [Act.put, List.setIfInBounds_toArray, List.set_cons_zero, List.set_cons_succ, i64_w, i32_w]
      rfl
     exact norm_ (by simp only [putAll, Act.put, List.setIfInBounds_toArray, List.set_cons_zero, List.set_cons_succ]) (hCont (g8, g9) _ ⟨hHeld, BK3.out, BK4.out, BK5.out, BK6.out, BK8.out, BK9.out, GE8.out, GE9.out, N38.out, N83.out, N48.out, N84.out, N58.out, N85.out, N68.out, N86.out, N39.out, N93.out, N49.out, N94.out, N59.out, N95.out, N69.out, N96.out, N89.out, N98.out, HB.out⟩)
    ·skip
     refine box_step ?hg (N := 9) ?hd (cs := #[.int .i64 0, .int .i64 0, .int .i64 0]) (t := 26) ?hr ?_; (case hd => rfl); (case hg => rfl); (case hr => first | (go_simp; done) | (go_simp; rfl))
     intro g9 hg w10_5 hbox hb
     have BK9 := Aside0.mk (hbox)
     have GE9 := Aside0.mk (bG hg (HB.out))
     have N39 := cN hg BK3
     have N93 := cM hg BK3
     have N49 := cN hg BK4
     have N94 := cM hg BK4
     have N59 := cN hg BK5
     have N95 := cM hg BK5
     have N69 := cN hg BK6
     have N96 := cM hg BK6
     clear hbox hg
     replace BK3 := cB hb BK3
     replace BK4 := cB hb BK4
     replace BK5 := cB hb BK5
     replace BK6 := cB hb BK6
     replace HB := Aside0.mk (below_step (HB.out) hb)
     clear hb
     refine hK.out _ _ ⟨(blk_cell BK3.out 0).trans rfl, (blk_cell BK3.out 1).trans rfl, (blk_cell BK3.out 2).trans rfl, (blk_cell BK4.out 0).trans rfl, (blk_cell BK4.out 1).trans rfl, (blk_cell BK4.out 2).trans rfl⟩ (fun hHeld => ?_)
     clear hK K
     refine norm_ (a' := ?_) ?_ ?_
     rotate_left
     ·show Act.put _ (some 9) _ = _
      simp only [Act.put, List.setIfInBounds_toArray, List.set_cons_zero, List.set_cons_succ, i64_w, i32_w]
      rfl
     refine one_ (i := 4) (N := some 8) (bm 8 63) rfl rfl (one_of HT_.out (by kernel_rfl)) (by decide) (fun K hK => ?_)
     refine box_step ?hg (N := 8) ?hd (cs := #[.int .i64 0, .int .i64 0, .int .i64 0]) (t := 26) ?hr ?_; (case hd => rfl); (case hg => rfl); (case hr => first | (go_simp; done) | (go_simp; rfl))
     intro g8 hg w10_6 hbox hb
     have BK8 := Aside0.mk (hbox)
     have GE8 := Aside0.mk (bG hg (HB.out))
     have N38 := cN hg BK3
     have N83 := cM hg BK3
     have N48 := cN hg BK4
     have N84 := cM hg BK4
     have N58 := cN hg BK5
     have N85 := cM hg BK5
     have N68 := cN hg BK6
     have N86 := cM hg BK6
     have N98 := cN hg BK9
     have N89 := cM hg BK9
     clear hbox hg
     replace BK3 := cB hb BK3
     replace BK4 := cB hb BK4
     replace BK5 := cB hb BK5
     replace BK6 := cB hb BK6
     replace BK9 := cB hb BK9
     replace HB := Aside0.mk (below_step (HB.out) hb)
     clear hb
     refine hK.out _ _ ⟨(blk_cell BK3.out 0).trans rfl, (blk_cell BK3.out 1).trans rfl, (blk_cell BK3.out 2).trans rfl, (blk_cell BK4.out 0).trans rfl, (blk_cell BK4.out 1).trans rfl, (blk_cell BK4.out 2).trans rfl⟩ (fun hHeld => ?_)
     clear hK K
     refine norm_ (a' := ?_) ?_ ?_
     rotate_left
     ·show Act.put _ (some 8) _ = _
      simp only [Act.put, List.setIfInBounds_toArray, List.set_cons_zero, List.set_cons_succ, i64_w, i32_w]
      rfl
     exact norm_ (by simp only [putAll, Act.put, List.setIfInBounds_toArray, List.set_cons_zero, List.set_cons_succ]) (hCont (g8, g9) _ ⟨hHeld, BK3.out, BK4.out, BK5.out, BK6.out, BK8.out, BK9.out, GE8.out, GE9.out, N38.out, N83.out, N48.out, N84.out, N58.out, N85.out, N68.out, N86.out, N39.out, N93.out, N49.out, N94.out, N59.out, N95.out, N69.out, N96.out, N89.out, N98.out, HB.out⟩)
   ·skip
    refine box_step ?hg (N := 8) ?hd (cs := #[.int .i64 0, .int .i64 0, .int .i64 0]) (t := 26) ?hr ?_; (case hd => rfl); (case hg => rfl); (case hr => first | (go_simp; done) | (go_simp; rfl))
    intro g8 hg w10_7 hbox hb
    have BK8 := Aside0.mk (hbox)
    have GE8 := Aside0.mk (bG hg (HB.out))
    have N38 := cN hg BK3
    have N83 := cM hg BK3
    have N48 := cN hg BK4
    have N84 := cM hg BK4
    have N58 := cN hg BK5
    have N85 := cM hg BK5
    have N68 := cN hg BK6
    have N86 := cM hg BK6
    clear hbox hg
    replace BK3 := cB hb BK3
    replace BK4 := cB hb BK4
    replace BK5 := cB hb BK5
    replace BK6 := cB hb BK6
    replace HB := Aside0.mk (below_step (HB.out) hb)
    clear hb
    refine hK.out _ _ ⟨(blk_cell BK3.out 0).trans rfl, (blk_cell BK3.out 1).trans rfl, (blk_cell BK3.out 2).trans rfl, (blk_cell BK4.out 0).trans rfl, (blk_cell BK4.out 1).trans rfl, (blk_cell BK4.out 2).trans rfl⟩ (fun hHeld => ?_)
    clear hK K
    refine norm_ (a' := ?_) ?_ ?_
    rotate_left
    ·show Act.put _ (some 8) _ = _
     simp only [Act.put, List.setIfInBounds_toArray, List.set_cons_zero, List.set_cons_succ, i64_w, i32_w]
     rfl
    refine two_ (i := 3) (j := 5) (Ni := some 36) (Nj := some 9) (bm 8 31) (bm 8 55) rfl rfl rfl rfl (two_of HT_.out (by kernel_rfl)) (by decide) (by decide) (fun K hK => ?_) (fun K hK => ?_)
    ·skip
     refine goes_ Try.func32 (by kernel_rfl) rfl #[.agg #[.int .i64 a1_0, .int .i64 a1_1, .int .i64 a1_2]] (by rfl) rfl rfl (by (try simp only [List.map_toArray, List.map_cons, List.map_nil]); first | done | rfl | (simp only [List.length_drop, List.length_take]; rfl)) ?_
     with_reducible refine (CM _).mono ?_
     rintro e w10_8 ⟨rfl, hb⟩
     refine ⟨_, rfl, ?_⟩
     replace BK3 := cB hb BK3
     replace BK4 := cB hb BK4
     replace BK5 := cB hb BK5
     replace BK6 := cB hb BK6
     replace BK8 := cB hb BK8
     replace HB := Aside0.mk (below_step (HB.out) hb)
     clear hb
     refine hK.out _ _ ⟨(blk_cell BK3.out 0).trans rfl, (blk_cell BK3.out 1).trans rfl, (blk_cell BK3.out 2).trans rfl, (blk_cell BK4.out 0).trans rfl, (blk_cell BK4.out 1).trans rfl, (blk_cell BK4.out 2).trans rfl⟩ (fun hHeld => ?_)
     clear hK K
     refine norm_ (a' := ?_) ?_ ?_
     rotate_left
     ·show Act.put _ (some 36) _ = _
      simp only [Act.put, List.setIfInBounds_toArray, List.set_cons_zero, List.set_cons_succ, i64_w, i32_w]
      rfl
     refine one_ (i := 5) (N := some 9) (bm 8 63) rfl rfl (one_of HT_.out (by kernel_rfl)) (by decide) (fun K hK => ?_)
     refine box_step ?hg (N := 9) ?hd (cs := #[.int .i64 0, .int .i64 0, .int .i64 0]) (t := 26) ?hr ?_; (case hd => rfl); (case hg => rfl); (case hr => first | (go_simp; done) | (go_simp; rfl))
     intro g9 hg w10_9 hbox hb
     have BK9 := Aside0.mk (hbox)
     have GE9 := Aside0.mk (bG hg (HB.out))
     have N39 := cN hg BK3
     have N93 := cM hg BK3
     have N49 := cN hg BK4
     have N94 := cM hg BK4
     have N59 := cN hg BK5
     have N95 := cM hg BK5
     have N69 := cN hg BK6
     have N96 := cM hg BK6
     have N89 := cN hg BK8
     have N98 := cM hg BK8
     clear hbox hg
     replace BK3 := cB hb BK3
     replace BK4 := cB hb BK4
     replace BK5 := cB hb BK5
     replace BK6 := cB hb BK6
     replace BK8 := cB hb BK8
     replace HB := Aside0.mk (below_step (HB.out) hb)
     clear hb
     refine hK.out _ _ ⟨(blk_cell BK3.out 0).trans rfl, (blk_cell BK3.out 1).trans rfl, (blk_cell BK3.out 2).trans rfl, (blk_cell BK4.out 0).trans rfl, (blk_cell BK4.out 1).trans rfl, (blk_cell BK4.out 2).trans rfl⟩ (fun hHeld => ?_)
     clear hK K
     refine norm_ (a' := ?_) ?_ ?_
     rotate_left
     ·show Act.put _ (some 9) _ = _
      simp only [Act.put, List.setIfInBounds_toArray, List.set_cons_zero, List.set_cons_succ, i64_w, i32_w]
      rfl
     exact norm_ (by simp only [putAll, Act.put, List.setIfInBounds_toArray, List.set_cons_zero, List.set_cons_succ]) (hCont (g8, g9) _ ⟨hHeld, BK3.out, BK4.out, BK5.out, BK6.out, BK8.out, BK9.out, GE8.out, GE9.out, N38.out, N83.out, N48.out, N84.out, N58.out, N85.out, N68.out, N86.out, N39.out, N93.out, N49.out, N94.out, N59.out, N95.out, N69.out, N96.out, N89.out, N98.out, HB.out⟩)
    ·skip
     refine box_step ?hg (N := 9) ?hd (cs := #[.int .i64 0, .int .i64 0, .int .i64 0]) (t := 26) ?hr ?_; (case hd => rfl); (case hg => rfl); (case hr => first | (go_simp; done) | (go_simp; rfl))
     intro g9 hg w10_10 hbox hb
     have BK9 := Aside0.mk (hbox)
     have GE9 := Aside0.mk (bG hg (HB.out))
     have N39 := cN hg BK3
     have N93 := cM hg BK3
     have N49 := cN hg BK4
     have N94 := cM hg BK4
     have N59 := cN hg BK5
     have N95 := cM hg BK5
     have N69 := cN hg BK6
     have N96 := cM hg BK6
     have N89 := cN hg BK8
     have N98 := cM hg BK8
     clear hbox hg
     replace BK3 := cB hb BK3
     replace BK4 := cB hb BK4
     replace BK5 := cB hb BK5
     replace BK6 := cB hb BK6
     replace BK8 := cB hb BK8
     replace HB := Aside0.mk (below_step (HB.out) hb)
     clear hb
     refine hK.out _ _ ⟨(blk_cell BK3.out 0).trans rfl, (blk_cell BK3.out 1).trans rfl, (blk_cell BK3.out 2).trans rfl, (blk_cell BK4.out 0).trans rfl, (blk_cell BK4.out 1).trans rfl, (blk_cell BK4.out 2).trans rfl⟩ (fun hHeld => ?_)
     clear hK K
     refine norm_ (a' := ?_) ?_ ?_
     rotate_left
     ·show Act.put _ (some 9) _ = _
      simp only [Act.put, List.setIfInBounds_toArray, List.set_cons_zero, List.set_cons_succ, i64_w, i32_w]
      rfl
     refine one_ (i := 3) (N := some 36) (bm 8 63) rfl rfl (one_of HT_.out (by kernel_rfl)) (by decide) (fun K hK => ?_)
     refine goes_ Try.func32 (by kernel_rfl) rfl #[.agg #[.int .i64 a1_0, .int .i64 a1_1, .int .i64 a1_2]] (by rfl) rfl rfl (by (try simp only [List.map_toArray, List.map_cons, List.map_nil]); first | done | rfl | (simp only [List.length_drop, List.length_take]; rfl)) ?_
     with_reducible refine (CM _).mono ?_
     rintro e w10_11 ⟨rfl, hb⟩
     refine ⟨_, rfl, ?_⟩
     replace BK3 := cB hb BK3
     replace BK4 := cB hb BK4
     replace BK5 := cB hb BK5
     replace BK6 := cB hb BK6
     replace BK8 := cB hb BK8
     replace BK9 := cB hb BK9
     replace HB := Aside0.mk (below_step (HB.out) hb)
     clear hb
     refine hK.out _ _ ⟨(blk_cell BK3.out 0).trans rfl, (blk_cell BK3.out 1).trans rfl, (blk_cell BK3.out 2).trans rfl, (blk_cell BK4.out 0).trans rfl, (blk_cell BK4.out 1).trans rfl, (blk_cell BK4.out 2).trans rfl⟩ (fun hHeld => ?_)
     clear hK K
     refine norm_ (a' := ?_) ?_ ?_
     rotate_left
     ·show Act.put _ (some 36) _ = _
      simp only [Act.put, List.setIfInBounds_toArray, List.set_cons_zero, List.set_cons_succ, i64_w, i32_w]
      rfl
     exact norm_ (by simp only [putAll, Act.put, List.setIfInBounds_toArray, List.set_cons_zero, List.set_cons_succ]) (hCont (g8, g9) _ ⟨hHeld, BK3.out, BK4.out, BK5.out, BK6.out, BK8.out, BK9.out, GE8.out, GE9.out, N38.out, N83.out, N48.out, N84.out, N58.out, N85.out, N68.out, N86.out, N39.out, N93.out, N49.out, N94.out, N59.out, N95.out, N69.out, N96.out, N89.out, N98.out, HB.out⟩)
   ·skip
    refine box_step ?hg (N := 9) ?hd (cs := #[.int .i64 0, .int .i64 0, .int .i64 0]) (t := 26) ?hr ?_; (case hd => rfl); (case hg => rfl); (case hr => first | (go_simp; done) | (go_simp; rfl))
    intro g9 hg w10_12 hbox hb
    have BK9 := Aside0.mk (hbox)
    have GE9 := Aside0.mk (bG hg (HB.out))
    have N39 := cN hg BK3
    have N93 := cM hg BK3
    have N49 := cN hg BK4
    have N94 := cM hg BK4
    have N59 := cN hg BK5
    have N95 := cM hg BK5
    have N69 := cN hg BK6
    have N96 := cM hg BK6
    clear hbox hg
    replace BK3 := cB hb BK3
    replace BK4 := cB hb BK4
    replace BK5 := cB hb BK5
    replace BK6 := cB hb BK6
    replace HB := Aside0.mk (below_step (HB.out) hb)
    clear hb
    refine hK.out _ _ ⟨(blk_cell BK3.out 0).trans rfl, (blk_cell BK3.out 1).trans rfl, (blk_cell BK3.out 2).trans rfl, (blk_cell BK4.out 0).trans rfl, (blk_cell BK4.out 1).trans rfl, (blk_cell BK4.out 2).trans rfl⟩ (fun hHeld => ?_)
    clear hK K
    refine norm_ (a' := ?_) ?_ ?_
    rotate_left
    ·show Act.put _ (some 9) _ = _
     simp only [Act.put, List.setIfInBounds_toArray, List.set_cons_zero, List.set_cons_succ, i64_w, i32_w]
     rfl
    refine two_ (i := 3) (j := 4) (Ni := some 36) (Nj := some 8) (bm 8 47) (bm 8 55) rfl rfl rfl rfl (two_of HT_.out (by kernel_rfl)) (by decide) (by decide) (fun K hK => ?_) (fun K hK => ?_)
    ·skip
     refine goes_ Try.func32 (by kernel_rfl) rfl #[.agg #[.int .i64 a1_0, .int .i64 a1_1, .int .i64 a1_2]] (by rfl) rfl rfl (by (try simp only [List.map_toArray, List.map_cons, List.map_nil]); first | done | rfl | (simp only [List.length_drop, List.length_take]; rfl)) ?_
     with_reducible refine (CM _).mono ?_
     rintro e w10_13 ⟨rfl, hb⟩
     refine ⟨_, rfl, ?_⟩
     replace BK3 := cB hb BK3
     replace BK4 := cB hb BK4
     replace BK5 := cB hb BK5
     replace BK6 := cB hb BK6
     replace BK9 := cB hb BK9
     replace HB := Aside0.mk (below_step (HB.out) hb)
     clear hb
     refine hK.out _ _ ⟨(blk_cell BK3.out 0).trans rfl, (blk_cell BK3.out 1).trans rfl, (blk_cell BK3.out 2).trans rfl, (blk_cell BK4.out 0).trans rfl, (blk_cell BK4.out 1).trans rfl, (blk_cell BK4.out 2).trans rfl⟩ (fun hHeld => ?_)
     clear hK K
     refine norm_ (a' := ?_) ?_ ?_
     rotate_left
     ·show Act.put _ (some 36) _ = _
      simp only [Act.put, List.setIfInBounds_toArray, List.set_cons_zero, List.set_cons_succ, i64_w, i32_w]
      rfl
     refine one_ (i := 4) (N := some 8) (bm 8 63) rfl rfl (one_of HT_.out (by kernel_rfl)) (by decide) (fun K hK => ?_)
     refine box_step ?hg (N := 8) ?hd (cs := #[.int .i64 0, .int .i64 0, .int .i64 0]) (t := 26) ?hr ?_; (case hd => rfl); (case hg => rfl); (case hr => first | (go_simp; done) | (go_simp; rfl))
     intro g8 hg w10_14 hbox hb
     have BK8 := Aside0.mk (hbox)
     have GE8 := Aside0.mk (bG hg (HB.out))
     have N38 := cN hg BK3
     have N83 := cM hg BK3
     have N48 := cN hg BK4
     have N84 := cM hg BK4
     have N58 := cN hg BK5
     have N85 := cM hg BK5
     have N68 := cN hg BK6
     have N86 := cM hg BK6
     have N98 := cN hg BK9
     have N89 := cM hg BK9
     clear hbox hg
     replace BK3 := cB hb BK3
     replace BK4 := cB hb BK4
     replace BK5 := cB hb BK5
     replace BK6 := cB hb BK6
     replace BK9 := cB hb BK9
     replace HB := Aside0.mk (below_step (HB.out) hb)
     clear hb
     refine hK.out _ _ ⟨(blk_cell BK3.out 0).trans rfl, (blk_cell BK3.out 1).trans rfl, (blk_cell BK3.out 2).trans rfl, (blk_cell BK4.out 0).trans rfl, (blk_cell BK4.out 1).trans rfl, (blk_cell BK4.out 2).trans rfl⟩ (fun hHeld => ?_)
     clear hK K
     refine norm_ (a' := ?_) ?_ ?_
     rotate_left
     ·show Act.put _ (some 8) _ = _
      simp only [Act.put, List.setIfInBounds_toArray, List.set_cons_zero, List.set_cons_succ, i64_w, i32_w]
      rfl
     exact norm_ (by simp only [putAll, Act.put, List.setIfInBounds_toArray, List.set_cons_zero, List.set_cons_succ]) (hCont (g8, g9) _ ⟨hHeld, BK3.out, BK4.out, BK5.out, BK6.out, BK8.out, BK9.out, GE8.out, GE9.out, N38.out, N83.out, N48.out, N84.out, N58.out, N85.out, N68.out, N86.out, N39.out, N93.out, N49.out, N94.out, N59.out, N95.out, N69.out, N96.out, N89.out, N98.out, HB.out⟩)
    ·skip
     refine box_step ?hg (N := 8) ?hd (cs := #[.int .i64 0, .int .i64 0, .int .i64 0]) (t := 26) ?hr ?_; (case hd => rfl); (case hg => rfl); (case hr => first | (go_simp; done) | (go_simp; rfl))
     intro g8 hg w10_15 hbox hb
     have BK8 := Aside0.mk (hbox)
     have GE8 := Aside0.mk (bG hg (HB.out))
     have N38 := cN hg BK3
     have N83 := cM hg BK3
     have N48 := cN hg BK4
     have N84 := cM hg BK4
     have N58 := cN hg BK5
     have N85 := cM hg BK5
     have N68 := cN hg BK6
     have N86 := cM hg BK6
     have N98 := cN hg BK9
     have N89 := cM hg BK9
     clear hbox hg
     replace BK3 := cB hb BK3
     replace BK4 := cB hb BK4
     replace BK5 := cB hb BK5
     replace BK6 := cB hb BK6
     replace BK9 := cB hb BK9
     replace HB := Aside0.mk (below_step (HB.out) hb)
     clear hb
     refine hK.out _ _ ⟨(blk_cell BK3.out 0).trans rfl, (blk_cell BK3.out 1).trans rfl, (blk_cell BK3.out 2).trans rfl, (blk_cell BK4.out 0).trans rfl, (blk_cell BK4.out 1).trans rfl, (blk_cell BK4.out 2).trans rfl⟩ (fun hHeld => ?_)
     clear hK K
     refine norm_ (a' := ?_) ?_ ?_
     rotate_left
     ·show Act.put _ (some 8) _ = _
      simp only [Act.put, List.setIfInBounds_toArray, List.set_cons_zero, List.set_cons_succ, i64_w, i32_w]
      rfl
     refine one_ (i := 3) (N := some 36) (bm 8 63) rfl rfl (one_of HT_.out (by kernel_rfl)) (by decide) (fun K hK => ?_)
     refine goes_ Try.func32 (by kernel_rfl) rfl #[.agg #[.int .i64 a1_0, .int .i64 a1_1, .int .i64 a1_2]] (by rfl) rfl rfl (by (try simp only [List.map_toArray, List.map_cons, List.map_nil]); first | done | rfl | (simp only [List.length_drop, List.length_take]; rfl)) ?_
     with_reducible refine (CM _).mono ?_
     rintro e w10_16 ⟨rfl, hb⟩
     refine ⟨_, rfl, ?_⟩
     replace BK3 := cB hb BK3
     replace BK4 := cB hb BK4
     replace BK5 := cB hb BK5
     replace BK6 := cB hb BK6
     replace BK9 := cB hb BK9
     replace BK8 := cB hb BK8
     replace HB := Aside0.mk (below_step (HB.out) hb)
     clear hb
     refine hK.out _ _ ⟨(blk_cell BK3.out 0).trans rfl, (blk_cell BK3.out 1).trans rfl, (blk_cell BK3.out 2).trans rfl, (blk_cell BK4.out 0).trans rfl, (blk_cell BK4.out 1).trans rfl, (blk_cell BK4.out 2).trans rfl⟩ (fun hHeld => ?_)
     clear hK K
     refine norm_ (a' := ?_) ?_ ?_
     rotate_left
     ·show Act.put _ (some 36) _ = _
      simp only [Act.put, List.setIfInBounds_toArray, List.set_cons_zero, List.set_cons_succ, i64_w, i32_w]
      rfl
     exact norm_ (by simp only [putAll, Act.put, List.setIfInBounds_toArray, List.set_cons_zero, List.set_cons_succ]) (hCont (g8, g9) _ ⟨hHeld, BK3.out, BK4.out, BK5.out, BK6.out, BK8.out, BK9.out, GE8.out, GE9.out, N38.out, N83.out, N48.out, N84.out, N58.out, N85.out, N68.out, N86.out, N39.out, N93.out, N49.out, N94.out, N59.out, N95.out, N69.out, N96.out, N89.out, N98.out, HB.out⟩)
  ·skip
   refine box_step ?hg (N := 8) ?hd (cs := #[.int .i64 0, .int .i64 0, .int .i64 0]) (t := 26) ?hr ?_; (case hd => rfl); (case hg => rfl); (case hr => first | (go_simp; done) | (go_simp; rfl))
   intro g8 hg w10_17 hbox hb
   have BK8 := Aside0.mk (hbox)
   have GE8 := Aside0.mk (bG hg (HB.out))
   have N38 := cN hg BK3
   have N83 := cM hg BK3
   have N48 := cN hg BK4
   have N84 := cM hg BK4
   have N58 := cN hg BK5
   have N85 := cM hg BK5
   have N68 := cN hg BK6
   have N86 := cM hg BK6
   clear hbox hg
   replace BK3 := cB hb BK3
   replace BK4 := cB hb BK4
   replace BK5 := cB hb BK5
   replace BK6 := cB hb BK6
   replace HB := Aside0.mk (below_step (HB.out) hb)
   clear hb
   refine hK.out _ _ ⟨(blk_cell BK3.out 0).trans rfl, (blk_cell BK3.out 1).trans rfl, (blk_cell BK3.out 2).trans rfl, (blk_cell BK4.out 0).trans rfl, (blk_cell BK4.out 1).trans rfl, (blk_cell BK4.out 2).trans rfl⟩ (fun hHeld => ?_)
   clear hK K
   refine norm_ (a' := ?_) ?_ ?_
   rotate_left
   ·show Act.put _ (some 8) _ = _
    simp only [Act.put, List.setIfInBounds_toArray, List.set_cons_zero, List.set_cons_succ, i64_w, i32_w]
    rfl
   refine two_ (i := 1) (j := 5) (Ni := some 34) (Nj := some 9) (bm 8 23) (bm 8 53) rfl rfl rfl rfl (two_of HT_.out (by kernel_rfl)) (by decide) (by decide) (fun K hK => ?_) (fun K hK => ?_)
   ·skip
    refine goes_ Try.func32 (by kernel_rfl) rfl #[.agg #[.int .i64 a0_0, .int .i64 a0_1, .int .i64 a0_2]] (by rfl) rfl rfl (by (try simp only [List.map_toArray, List.map_cons, List.map_nil]); first | done | rfl | (simp only [List.length_drop, List.length_take]; rfl)) ?_
    with_reducible refine (CU _).mono ?_
    rintro e w10_18 ⟨rfl, hb⟩
    refine ⟨_, rfl, ?_⟩
    replace BK3 := cB hb BK3
    replace BK4 := cB hb BK4
    replace BK5 := cB hb BK5
    replace BK6 := cB hb BK6
    replace BK8 := cB hb BK8
    replace HB := Aside0.mk (below_step (HB.out) hb)
    clear hb
    refine hK.out _ _ ⟨(blk_cell BK3.out 0).trans rfl, (blk_cell BK3.out 1).trans rfl, (blk_cell BK3.out 2).trans rfl, (blk_cell BK4.out 0).trans rfl, (blk_cell BK4.out 1).trans rfl, (blk_cell BK4.out 2).trans rfl⟩ (fun hHeld => ?_)
    clear hK K
    refine norm_ (a' := ?_) ?_ ?_
    rotate_left
    ·show Act.put _ (some 34) _ = _
     simp only [Act.put, List.setIfInBounds_toArray, List.set_cons_zero, List.set_cons_succ, i64_w, i32_w]
     rfl
    refine two_ (i := 3) (j := 5) (Ni := some 36) (Nj := some 9) (bm 8 31) (bm 8 55) rfl rfl rfl rfl (two_of HT_.out (by kernel_rfl)) (by decide) (by decide) (fun K hK => ?_) (fun K hK => ?_)
    ·skip
     refine goes_ Try.func32 (by kernel_rfl) rfl #[.agg #[.int .i64 a1_0, .int .i64 a1_1, .int .i64 a1_2]] (by rfl) rfl rfl (by (try simp only [List.map_toArray, List.map_cons, List.map_nil]); first | done | rfl | (simp only [List.length_drop, List.length_take]; rfl)) ?_
     with_reducible refine (CM _).mono ?_
     rintro e w10_19 ⟨rfl, hb⟩
     refine ⟨_, rfl, ?_⟩
     replace BK3 := cB hb BK3
     replace BK4 := cB hb BK4
     replace BK5 := cB hb BK5
     replace BK6 := cB hb BK6
     replace BK8 := cB hb BK8
     replace HB := Aside0.mk (below_step (HB.out) hb)
     clear hb
     refine hK.out _ _ ⟨(blk_cell BK3.out 0).trans rfl, (blk_cell BK3.out 1).trans rfl, (blk_cell BK3.out 2).trans rfl, (blk_cell BK4.out 0).trans rfl, (blk_cell BK4.out 1).trans rfl, (blk_cell BK4.out 2).trans rfl⟩ (fun hHeld => ?_)
     clear hK K
     refine norm_ (a' := ?_) ?_ ?_
     rotate_left
     ·show Act.put _ (some 36) _ = _
      simp only [Act.put, List.setIfInBounds_toArray, List.set_cons_zero, List.set_cons_succ, i64_w, i32_w]
      rfl
     refine one_ (i := 5) (N := some 9) (bm 8 63) rfl rfl (one_of HT_.out (by kernel_rfl)) (by decide) (fun K hK => ?_)
     refine box_step ?hg (N := 9) ?hd (cs := #[.int .i64 0, .int .i64 0, .int .i64 0]) (t := 26) ?hr ?_; (case hd => rfl); (case hg => rfl); (case hr => first | (go_simp; done) | (go_simp; rfl))
     intro g9 hg w10_20 hbox hb
     have BK9 := Aside0.mk (hbox)
     have GE9 := Aside0.mk (bG hg (HB.out))
     have N39 := cN hg BK3
     have N93 := cM hg BK3
     have N49 := cN hg BK4
     have N94 := cM hg BK4
     have N59 := cN hg BK5
     have N95 := cM hg BK5
     have N69 := cN hg BK6
     have N96 := cM hg BK6
     have N89 := cN hg BK8
     have N98 := cM hg BK8
     clear hbox hg
     replace BK3 := cB hb BK3
     replace BK4 := cB hb BK4
     replace BK5 := cB hb BK5
     replace BK6 := cB hb BK6
     replace BK8 := cB hb BK8
     replace HB := Aside0.mk (below_step (HB.out) hb)
     clear hb
     refine hK.out _ _ ⟨(blk_cell BK3.out 0).trans rfl, (blk_cell BK3.out 1).trans rfl, (blk_cell BK3.out 2).trans rfl, (blk_cell BK4.out 0).trans rfl, (blk_cell BK4.out 1).trans rfl, (blk_cell BK4.out 2).trans rfl⟩ (fun hHeld => ?_)
     clear hK K
     refine norm_ (a' := ?_) ?_ ?_
     rotate_left
     ·show Act.put _ (some 9) _ = _
      simp only [Act.put, List.setIfInBounds_toArray, List.set_cons_zero, List.set_cons_succ, i64_w, i32_w]
      rfl
     exact norm_ (by simp only [putAll, Act.put, List.setIfInBounds_toArray, List.set_cons_zero, List.set_cons_succ]) (hCont (g8, g9) _ ⟨hHeld, BK3.out, BK4.out, BK5.out, BK6.out, BK8.out, BK9.out, GE8.out, GE9.out, N38.out, N83.out, N48.out, N84.out, N58.out, N85.out, N68.out, N86.out, N39.out, N93.out, N49.out, N94.out, N59.out, N95.out, N69.out, N96.out, N89.out, N98.out, HB.out⟩)
    ·skip
     refine box_step ?hg (N := 9) ?hd (cs := #[.int .i64 0, .int .i64 0, .int .i64 0]) (t := 26) ?hr ?_; (case hd => rfl); (case hg => rfl); (case hr => first | (go_simp; done) | (go_simp; rfl))
     intro g9 hg w10_21 hbox hb
     have BK9 := Aside0.mk (hbox)
     have GE9 := Aside0.mk (bG hg (HB.out))
     have N39 := cN hg BK3
     have N93 := cM hg BK3
     have N49 := cN hg BK4
     have N94 := cM hg BK4
     have N59 := cN hg BK5
     have N95 := cM hg BK5
     have N69 := cN hg BK6
     have N96 := cM hg BK6
     have N89 := cN hg BK8
     have N98 := cM hg BK8
     clear hbox hg
     replace BK3 := cB hb BK3
     replace BK4 := cB hb BK4
     replace BK5 := cB hb BK5
     replace BK6 := cB hb BK6
     replace BK8 := cB hb BK8
     replace HB := Aside0.mk (below_step (HB.out) hb)
     clear hb
     refine hK.out _ _ ⟨(blk_cell BK3.out 0).trans rfl, (blk_cell BK3.out 1).trans rfl, (blk_cell BK3.out 2).trans rfl, (blk_cell BK4.out 0).trans rfl, (blk_cell BK4.out 1).trans rfl, (blk_cell BK4.out 2).trans rfl⟩ (fun hHeld => ?_)
     clear hK K
     refine norm_ (a' := ?_) ?_ ?_
     rotate_left
     ·show Act.put _ (some 9) _ = _
      simp only [Act.put, List.setIfInBounds_toArray, List.set_cons_zero, List.set_cons_succ, i64_w, i32_w]
      rfl
     refine one_ (i := 3) (N := some 36) (bm 8 63) rfl rfl (one_of HT_.out (by kernel_rfl)) (by decide) (fun K hK => ?_)
     refine goes_ Try.func32 (by kernel_rfl) rfl #[.agg #[.int .i64 a1_0, .int .i64 a1_1, .int .i64 a1_2]] (by rfl) rfl rfl (by (try simp only [List.map_toArray, List.map_cons, List.map_nil]); first | done | rfl | (simp only [List.length_drop, List.length_take]; rfl)) ?_
     with_reducible refine (CM _).mono ?_
     rintro e w10_22 ⟨rfl, hb⟩
     refine ⟨_, rfl, ?_⟩
     replace BK3 := cB hb BK3
     replace BK4 := cB hb BK4
     replace BK5 := cB hb BK5
     replace BK6 := cB hb BK6
     replace BK8 := cB hb BK8
     replace BK9 := cB hb BK9
     replace HB := Aside0.mk (below_step (HB.out) hb)
     clear hb
     refine hK.out _ _ ⟨(blk_cell BK3.out 0).trans rfl, (blk_cell BK3.out 1).trans rfl, (blk_cell BK3.out 2).trans rfl, (blk_cell BK4.out 0).trans rfl, (blk_cell BK4.out 1).trans rfl, (blk_cell BK4.out 2).trans rfl⟩ (fun hHeld => ?_)
     clear hK K
     refine norm_ (a' := ?_) ?_ ?_
     rotate_left
     ·show Act.put _ (some 36) _ = _
      simp only [Act.put, List.setIfInBounds_toArray, List.set_cons_zero, List.set_cons_succ, i64_w, i32_w]
      rfl
     exact norm_ (by simp only [putAll, Act.put, List.setIfInBounds_toArray, List.set_cons_zero, List.set_cons_succ]) (hCont (g8, g9) _ ⟨hHeld, BK3.out, BK4.out, BK5.out, BK6.out, BK8.out, BK9.out, GE8.out, GE9.out, N38.out, N83.out, N48.out, N84.out, N58.out, N85.out, N68.out, N86.out, N39.out, N93.out, N49.out, N94.out, N59.out, N95.out, N69.out, N96.out, N89.out, N98.out, HB.out⟩)
   ·skip
    refine box_step ?hg (N := 9) ?hd (cs := #[.int .i64 0, .int .i64 0, .int .i64 0]) (t := 26) ?hr ?_; (case hd => rfl); (case hg => rfl); (case hr => first | (go_simp; done) | (go_simp; rfl))
    intro g9 hg w10_23 hbox hb
    have BK9 := Aside0.mk (hbox)
    have GE9 := Aside0.mk (bG hg (HB.out))
    have N39 := cN hg BK3
    have N93 := cM hg BK3
    have N49 := cN hg BK4
    have N94 := cM hg BK4
    have N59 := cN hg BK5
    have N95 := cM hg BK5
    have N69 := cN hg BK6
    have N96 := cM hg BK6
    have N89 := cN hg BK8
    have N98 := cM hg BK8
    clear hbox hg
    replace BK3 := cB hb BK3
    replace BK4 := cB hb BK4
    replace BK5 := cB hb BK5
    replace BK6 := cB hb BK6
    replace BK8 := cB hb BK8
    replace HB := Aside0.mk (below_step (HB.out) hb)
    clear hb
    refine hK.out _ _ ⟨(blk_cell BK3.out 0).trans rfl, (blk_cell BK3.out 1).trans rfl, (blk_cell BK3.out 2).trans rfl, (blk_cell BK4.out 0).trans rfl, (blk_cell BK4.out 1).trans rfl, (blk_cell BK4.out 2).trans rfl⟩ (fun hHeld => ?_)
    clear hK K
    refine norm_ (a' := ?_) ?_ ?_
    rotate_left
    ·show Act.put _ (some 9) _ = _
     simp only [Act.put, List.setIfInBounds_toArray, List.set_cons_zero, List.set_cons_succ, i64_w, i32_w]
     rfl
    refine one_ (i := 1) (N := some 34) (bm 8 55) rfl rfl (one_of HT_.out (by kernel_rfl)) (by decide) (fun K hK => ?_)
    refine goes_ Try.func32 (by kernel_rfl) rfl #[.agg #[.int .i64 a0_0, .int .i64 a0_1, .int .i64 a0_2]] (by rfl) rfl rfl (by (try simp only [List.map_toArray, List.map_cons, List.map_nil]); first | done | rfl | (simp only [List.length_drop, List.length_take]; rfl)) ?_
    with_reducible refine (CU _).mono ?_
    rintro e w10_24 ⟨rfl, hb⟩
    refine ⟨_, rfl, ?_⟩
    replace BK3 := cB hb BK3
    replace BK4 := cB hb BK4
    replace BK5 := cB hb BK5
    replace BK6 := cB hb BK6
    replace BK8 := cB hb BK8
    replace BK9 := cB hb BK9
    replace HB := Aside0.mk (below_step (HB.out) hb)
    clear hb
    refine hK.out _ _ ⟨(blk_cell BK3.out 0).trans rfl, (blk_cell BK3.out 1).trans rfl, (blk_cell BK3.out 2).trans rfl, (blk_cell BK4.out 0).trans rfl, (blk_cell BK4.out 1).trans rfl, (blk_cell BK4.out 2).trans rfl⟩ (fun hHeld => ?_)
    clear hK K
    refine norm_ (a' := ?_) ?_ ?_
    rotate_left
    ·show Act.put _ (some 34) _ = _
     simp only [Act.put, List.setIfInBounds_toArray, List.set_cons_zero, List.set_cons_succ, i64_w, i32_w]
     rfl
    refine one_ (i := 3) (N := some 36) (bm 8 63) rfl rfl (one_of HT_.out (by kernel_rfl)) (by decide) (fun K hK => ?_)
    refine goes_ Try.func32 (by kernel_rfl) rfl #[.agg #[.int .i64 a1_0, .int .i64 a1_1, .int .i64 a1_2]] (by rfl) rfl rfl (by (try simp only [List.map_toArray, List.map_cons, List.map_nil]); first | done | rfl | (simp only [List.length_drop, List.length_take]; rfl)) ?_
    with_reducible refine (CM _).mono ?_
    rintro e w10_25 ⟨rfl, hb⟩
    refine ⟨_, rfl, ?_⟩
    replace BK3 := cB hb BK3
    replace BK4 := cB hb BK4
    replace BK5 := cB hb BK5
    replace BK6 := cB hb BK6
    replace BK8 := cB hb BK8
    replace BK9 := cB hb BK9
    replace HB := Aside0.mk (below_step (HB.out) hb)
    clear hb
    refine hK.out _ _ ⟨(blk_cell BK3.out 0).trans rfl, (blk_cell BK3.out 1).trans rfl, (blk_cell BK3.out 2).trans rfl, (blk_cell BK4.out 0).trans rfl, (blk_cell BK4.out 1).trans rfl, (blk_cell BK4.out 2).trans rfl⟩ (fun hHeld => ?_)
    clear hK K
    refine norm_ (a' := ?_) ?_ ?_
    rotate_left
    ·show Act.put _ (some 36) _ = _
     simp only [Act.put, List.setIfInBounds_toArray, List.set_cons_zero, List.set_cons_succ, i64_w, i32_w]
     rfl
    exact norm_ (by simp only [putAll, Act.put, List.setIfInBounds_toArray, List.set_cons_zero, List.set_cons_succ]) (hCont (g8, g9) _ ⟨hHeld, BK3.out, BK4.out, BK5.out, BK6.out, BK8.out, BK9.out, GE8.out, GE9.out, N38.out, N83.out, N48.out, N84.out, N58.out, N85.out, N68.out, N86.out, N39.out, N93.out, N49.out, N94.out, N59.out, N95.out, N69.out, N96.out, N89.out, N98.out, HB.out⟩)
  ·skip
   refine box_step ?hg (N := 9) ?hd (cs := #[.int .i64 0, .int .i64 0, .int .i64 0]) (t := 26) ?hr ?_; (case hd => rfl); (case hg => rfl); (case hr => first | (go_simp; done) | (go_simp; rfl))
   intro g9 hg w10_26 hbox hb
   have BK9 := Aside0.mk (hbox)
   have GE9 := Aside0.mk (bG hg (HB.out))
   have N39 := cN hg BK3
   have N93 := cM hg BK3
   have N49 := cN hg BK4
   have N94 := cM hg BK4
   have N59 := cN hg BK5
   have N95 := cM hg BK5
   have N69 := cN hg BK6
   have N96 := cM hg BK6
   clear hbox hg
   replace BK3 := cB hb BK3
   replace BK4 := cB hb BK4
   replace BK5 := cB hb BK5
   replace BK6 := cB hb BK6
   replace HB := Aside0.mk (below_step (HB.out) hb)
   clear hb
   refine hK.out _ _ ⟨(blk_cell BK3.out 0).trans rfl, (blk_cell BK3.out 1).trans rfl, (blk_cell BK3.out 2).trans rfl, (blk_cell BK4.out 0).trans rfl, (blk_cell BK4.out 1).trans rfl, (blk_cell BK4.out 2).trans rfl⟩ (fun hHeld => ?_)
   clear hK K
   refine norm_ (a' := ?_) ?_ ?_
   rotate_left
   ·show Act.put _ (some 9) _ = _
    simp only [Act.put, List.setIfInBounds_toArray, List.set_cons_zero, List.set_cons_succ, i64_w, i32_w]
    rfl
   refine two_ (i := 1) (j := 4) (Ni := some 34) (Nj := some 8) (bm 8 39) (bm 8 53) rfl rfl rfl rfl (two_of HT_.out (by kernel_rfl)) (by decide) (by decide) (fun K hK => ?_) (fun K hK => ?_)
   ·skip
    refine goes_ Try.func32 (by kernel_rfl) rfl #[.agg #[.int .i64 a0_0, .int .i64 a0_1, .int .i64 a0_2]] (by rfl) rfl rfl (by (try simp only [List.map_toArray, List.map_cons, List.map_nil]); first | done | rfl | (simp only [List.length_drop, List.length_take]; rfl)) ?_
    with_reducible refine (CU _).mono ?_
    rintro e w10_27 ⟨rfl, hb⟩
    refine ⟨_, rfl, ?_⟩
    replace BK3 := cB hb BK3
    replace BK4 := cB hb BK4
    replace BK5 := cB hb BK5
    replace BK6 := cB hb BK6
    replace BK9 := cB hb BK9
    replace HB := Aside0.mk (below_step (HB.out) hb)
    clear hb
    refine hK.out _ _ ⟨(blk_cell BK3.out 0).trans rfl, (blk_cell BK3.out 1).trans rfl, (blk_cell BK3.out 2).trans rfl, (blk_cell BK4.out 0).trans rfl, (blk_cell BK4.out 1).trans rfl, (blk_cell BK4.out 2).trans rfl⟩ (fun hHeld => ?_)
    clear hK K
    refine norm_ (a' := ?_) ?_ ?_
    rotate_left
    ·show Act.put _ (some 34) _ = _
     simp only [Act.put, List.setIfInBounds_toArray, List.set_cons_zero, List.set_cons_succ, i64_w, i32_w]
     rfl
    refine two_ (i := 3) (j := 4) (Ni := some 36) (Nj := some 8) (bm 8 47) (bm 8 55) rfl rfl rfl rfl (two_of HT_.out (by kernel_rfl)) (by decide) (by decide) (fun K hK => ?_) (fun K hK => ?_)
    ·skip
     refine goes_ Try.func32 (by kernel_rfl) rfl #[.agg #[.int .i64 a1_0, .int .i64 a1_1, .int .i64 a1_2]] (by rfl) rfl rfl (by (try simp only [List.map_toArray, List.map_cons, List.map_nil]); first | done | rfl | (simp only [List.length_drop, List.length_take]; rfl)) ?_
     with_reducible refine (CM _).mono ?_
     rintro e w10_28 ⟨rfl, hb⟩
     refine ⟨_, rfl, ?_⟩
     replace BK3 := cB hb BK3
     replace BK4 := cB hb BK4
     replace BK5 := cB hb BK5
     replace BK6 := cB hb BK6
     replace BK9 := cB hb BK9
     replace HB := Aside0.mk (below_step (HB.out) hb)
     clear hb
     refine hK.out _ _ ⟨(blk_cell BK3.out 0).trans rfl, (blk_cell BK3.out 1).trans rfl, (blk_cell BK3.out 2).trans rfl, (blk_cell BK4.out 0).trans rfl, (blk_cell BK4.out 1).trans rfl, (blk_cell BK4.out 2).trans rfl⟩ (fun hHeld => ?_)
     clear hK K
     refine norm_ (a' := ?_) ?_ ?_
     rotate_left
     ·show Act.put _ (some 36) _ = _
      simp only [Act.put, List.setIfInBounds_toArray, List.set_cons_zero, List.set_cons_succ, i64_w, i32_w]
      rfl
     refine one_ (i := 4) (N := some 8) (bm 8 63) rfl rfl (one_of HT_.out (by kernel_rfl)) (by decide) (fun K hK => ?_)
     refine box_step ?hg (N := 8) ?hd (cs := #[.int .i64 0, .int .i64 0, .int .i64 0]) (t := 26) ?hr ?_; (case hd => rfl); (case hg => rfl); (case hr => first | (go_simp; done) | (go_simp; rfl))
     intro g8 hg w10_29 hbox hb
     have BK8 := Aside0.mk (hbox)
     have GE8 := Aside0.mk (bG hg (HB.out))
     have N38 := cN hg BK3
     have N83 := cM hg BK3
     have N48 := cN hg BK4
     have N84 := cM hg BK4
     have N58 := cN hg BK5
     have N85 := cM hg BK5
     have N68 := cN hg BK6
     have N86 := cM hg BK6
     have N98 := cN hg BK9
     have N89 := cM hg BK9
     clear hbox hg
     replace BK3 := cB hb BK3
     replace BK4 := cB hb BK4
     replace BK5 := cB hb BK5
     replace BK6 := cB hb BK6
     replace BK9 := cB hb BK9
     replace HB := Aside0.mk (below_step (HB.out) hb)
     clear hb
     refine hK.out _ _ ⟨(blk_cell BK3.out 0).trans rfl, (blk_cell BK3.out 1).trans rfl, (blk_cell BK3.out 2).trans rfl, (blk_cell BK4.out 0).trans rfl, (blk_cell BK4.out 1).trans rfl, (blk_cell BK4.out 2).trans rfl⟩ (fun hHeld => ?_)
     clear hK K
     refine norm_ (a' := ?_) ?_ ?_
     rotate_left
     ·show Act.put _ (some 8) _ = _
      simp only [Act.put, List.setIfInBounds_toArray, List.set_cons_zero, List.set_cons_succ, i64_w, i32_w]
      rfl
     exact norm_ (by simp only [putAll, Act.put, List.setIfInBounds_toArray, List.set_cons_zero, List.set_cons_succ]) (hCont (g8, g9) _ ⟨hHeld, BK3.out, BK4.out, BK5.out, BK6.out, BK8.out, BK9.out, GE8.out, GE9.out, N38.out, N83.out, N48.out, N84.out, N58.out, N85.out, N68.out, N86.out, N39.out, N93.out, N49.out, N94.out, N59.out, N95.out, N69.out, N96.out, N89.out, N98.out, HB.out⟩)
    ·skip
     refine box_step ?hg (N := 8) ?hd (cs := #[.int .i64 0, .int .i64 0, .int .i64 0]) (t := 26) ?hr ?_; (case hd => rfl); (case hg => rfl); (case hr => first | (go_simp; done) | (go_simp; rfl))
     intro g8 hg w10_30 hbox hb
     have BK8 := Aside0.mk (hbox)
     have GE8 := Aside0.mk (bG hg (HB.out))
     have N38 := cN hg BK3
     have N83 := cM hg BK3
     have N48 := cN hg BK4
     have N84 := cM hg BK4
     have N58 := cN hg BK5
     have N85 := cM hg BK5
     have N68 := cN hg BK6
     have N86 := cM hg BK6
     have N98 := cN hg BK9
     have N89 := cM hg BK9
     clear hbox hg
     replace BK3 := cB hb BK3
     replace BK4 := cB hb BK4
     replace BK5 := cB hb BK5
     replace BK6 := cB hb BK6
     replace BK9 := cB hb BK9
     replace HB := Aside0.mk (below_step (HB.out) hb)
     clear hb
     refine hK.out _ _ ⟨(blk_cell BK3.out 0).trans rfl, (blk_cell BK3.out 1).trans rfl, (blk_cell BK3.out 2).trans rfl, (blk_cell BK4.out 0).trans rfl, (blk_cell BK4.out 1).trans rfl, (blk_cell BK4.out 2).trans rfl⟩ (fun hHeld => ?_)
     clear hK K
     refine norm_ (a' := ?_) ?_ ?_
     rotate_left
     ·show Act.put _ (some 8) _ = _
      simp only [Act.put, List.setIfInBounds_toArray, List.set_cons_zero, List.set_cons_succ, i64_w, i32_w]
      rfl
     refine one_ (i := 3) (N := some 36) (bm 8 63) rfl rfl (one_of HT_.out (by kernel_rfl)) (by decide) (fun K hK => ?_)
     refine goes_ Try.func32 (by kernel_rfl) rfl #[.agg #[.int .i64 a1_0, .int .i64 a1_1, .int .i64 a1_2]] (by rfl) rfl rfl (by (try simp only [List.map_toArray, List.map_cons, List.map_nil]); first | done | rfl | (simp only [List.length_drop, List.length_take]; rfl)) ?_
     with_reducible refine (CM _).mono ?_
     rintro e w10_31 ⟨rfl, hb⟩
     refine ⟨_, rfl, ?_⟩
     replace BK3 := cB hb BK3
     replace BK4 := cB hb BK4
     replace BK5 := cB hb BK5
     replace BK6 := cB hb BK6
     replace BK9 := cB hb BK9
     replace BK8 := cB hb BK8
     replace HB := Aside0.mk (below_step (HB.out) hb)
     clear hb
     refine hK.out _ _ ⟨(blk_cell BK3.out 0).trans rfl, (blk_cell BK3.out 1).trans rfl, (blk_cell BK3.out 2).trans rfl, (blk_cell BK4.out 0).trans rfl, (blk_cell BK4.out 1).trans rfl, (blk_cell BK4.out 2).trans rfl⟩ (fun hHeld => ?_)
     clear hK K
     refine norm_ (a' := ?_) ?_ ?_
     rotate_left
     ·show Act.put _ (some 36) _ = _
      simp only [Act.put, List.setIfInBounds_toArray, List.set_cons_zero, List.set_cons_succ, i64_w, i32_w]
      rfl
     exact norm_ (by simp only [putAll, Act.put, List.setIfInBounds_toArray, List.set_cons_zero, List.set_cons_succ]) (hCont (g8, g9) _ ⟨hHeld, BK3.out, BK4.out, BK5.out, BK6.out, BK8.out, BK9.out, GE8.out, GE9.out, N38.out, N83.out, N48.out, N84.out, N58.out, N85.out, N68.out, N86.out, N39.out, N93.out, N49.out, N94.out, N59.out, N95.out, N69.out, N96.out, N89.out, N98.out, HB.out⟩)
   ·skip
    refine box_step ?hg (N := 8) ?hd (cs := #[.int .i64 0, .int .i64 0, .int .i64 0]) (t := 26) ?hr ?_; (case hd => rfl); (case hg => rfl); (case hr => first | (go_simp; done) | (go_simp; rfl))
    intro g8 hg w10_32 hbox hb
    have BK8 := Aside0.mk (hbox)
    have GE8 := Aside0.mk (bG hg (HB.out))
    have N38 := cN hg BK3
    have N83 := cM hg BK3
    have N48 := cN hg BK4
    have N84 := cM hg BK4
    have N58 := cN hg BK5
    have N85 := cM hg BK5
    have N68 := cN hg BK6
    have N86 := cM hg BK6
    have N98 := cN hg BK9
    have N89 := cM hg BK9
    clear hbox hg
    replace BK3 := cB hb BK3
    replace BK4 := cB hb BK4
    replace BK5 := cB hb BK5
    replace BK6 := cB hb BK6
    replace BK9 := cB hb BK9
    replace HB := Aside0.mk (below_step (HB.out) hb)
    clear hb
    refine hK.out _ _ ⟨(blk_cell BK3.out 0).trans rfl, (blk_cell BK3.out 1).trans rfl, (blk_cell BK3.out 2).trans rfl, (blk_cell BK4.out 0).trans rfl, (blk_cell BK4.out 1).trans rfl, (blk_cell BK4.out 2).trans rfl⟩ (fun hHeld => ?_)
    clear hK K
    refine norm_ (a' := ?_) ?_ ?_
    rotate_left
    ·show Act.put _ (some 8) _ = _
     simp only [Act.put, List.setIfInBounds_toArray, List.set_cons_zero, List.set_cons_succ, i64_w, i32_w]
     rfl
    refine one_ (i := 1) (N := some 34) (bm 8 55) rfl rfl (one_of HT_.out (by kernel_rfl)) (by decide) (fun K hK => ?_)
    refine goes_ Try.func32 (by kernel_rfl) rfl #[.agg #[.int .i64 a0_0, .int .i64 a0_1, .int .i64 a0_2]] (by rfl) rfl rfl (by (try simp only [List.map_toArray, List.map_cons, List.map_nil]); first | done | rfl | (simp only [List.length_drop, List.length_take]; rfl)) ?_
    with_reducible refine (CU _).mono ?_
    rintro e w10_33 ⟨rfl, hb⟩
    refine ⟨_, rfl, ?_⟩
    replace BK3 := cB hb BK3
    replace BK4 := cB hb BK4
    replace BK5 := cB hb BK5
    replace BK6 := cB hb BK6
    replace BK9 := cB hb BK9
    replace BK8 := cB hb BK8
    replace HB := Aside0.mk (below_step (HB.out) hb)
    clear hb
    refine hK.out _ _ ⟨(blk_cell BK3.out 0).trans rfl, (blk_cell BK3.out 1).trans rfl, (blk_cell BK3.out 2).trans rfl, (blk_cell BK4.out 0).trans rfl, (blk_cell BK4.out 1).trans rfl, (blk_cell BK4.out 2).trans rfl⟩ (fun hHeld => ?_)
    clear hK K
    refine norm_ (a' := ?_) ?_ ?_
    rotate_left
    ·show Act.put _ (some 34) _ = _
     simp only [Act.put, List.setIfInBounds_toArray, List.set_cons_zero, List.set_cons_succ, i64_w, i32_w]
     rfl
    refine one_ (i := 3) (N := some 36) (bm 8 63) rfl rfl (one_of HT_.out (by kernel_rfl)) (by decide) (fun K hK => ?_)
    refine goes_ Try.func32 (by kernel_rfl) rfl #[.agg #[.int .i64 a1_0, .int .i64 a1_1, .int .i64 a1_2]] (by rfl) rfl rfl (by (try simp only [List.map_toArray, List.map_cons, List.map_nil]); first | done | rfl | (simp only [List.length_drop, List.length_take]; rfl)) ?_
    with_reducible refine (CM _).mono ?_
    rintro e w10_34 ⟨rfl, hb⟩
    refine ⟨_, rfl, ?_⟩
    replace BK3 := cB hb BK3
    replace BK4 := cB hb BK4
    replace BK5 := cB hb BK5
    replace BK6 := cB hb BK6
    replace BK9 := cB hb BK9
    replace BK8 := cB hb BK8
    replace HB := Aside0.mk (below_step (HB.out) hb)
    clear hb
    refine hK.out _ _ ⟨(blk_cell BK3.out 0).trans rfl, (blk_cell BK3.out 1).trans rfl, (blk_cell BK3.out 2).trans rfl, (blk_cell BK4.out 0).trans rfl, (blk_cell BK4.out 1).trans rfl, (blk_cell BK4.out 2).trans rfl⟩ (fun hHeld => ?_)
    clear hK K
    refine norm_ (a' := ?_) ?_ ?_
    rotate_left
    ·show Act.put _ (some 36) _ = _
     simp only [Act.put, List.setIfInBounds_toArray, List.set_cons_zero, List.set_cons_succ, i64_w, i32_w]
     rfl
    exact norm_ (by simp only [putAll, Act.put, List.setIfInBounds_toArray, List.set_cons_zero, List.set_cons_succ]) (hCont (g8, g9) _ ⟨hHeld, BK3.out, BK4.out, BK5.out, BK6.out, BK8.out, BK9.out, GE8.out, GE9.out, N38.out, N83.out, N48.out, N84.out, N58.out, N85.out, N68.out, N86.out, N39.out, N93.out, N49.out, N94.out, N59.out, N95.out, N69.out, N96.out, N89.out, N98.out, HB.out⟩)
 rintro ⟨g8, g9⟩ w11 ⟨h0_, h1_, h2_, h3_, h4_, h5_, h6_, h7_, h8_, h9_, h10_, h11_, h12_, h13_, h14_, h15_, h16_, h17_, h18_, h19_, h20_, h21_, h22_, h23_, h24_, h25_, h26_, h27_⟩
 clear HB hHeld BK3 BK4 BK5 BK6
 have BK3 := Aside0.mk h1_
 have BK4 := Aside0.mk h2_
 have BK5 := Aside0.mk h3_
 have BK6 := Aside0.mk h4_
 have BK8 := Aside0.mk h5_
 have BK9 := Aside0.mk h6_
 have GE8 := Aside0.mk h7_
 have GE9 := Aside0.mk h8_
 have N38 := Aside0.mk h9_
 have N83 := Aside0.mk h10_
 have N48 := Aside0.mk h11_
 have N84 := Aside0.mk h12_
 have N58 := Aside0.mk h13_
 have N85 := Aside0.mk h14_
 have N68 := Aside0.mk h15_
 have N86 := Aside0.mk h16_
 have N39 := Aside0.mk h17_
 have N93 := Aside0.mk h18_
 have N49 := Aside0.mk h19_
 have N94 := Aside0.mk h20_
 have N59 := Aside0.mk h21_
 have N95 := Aside0.mk h22_
 have N69 := Aside0.mk h23_
 have N96 := Aside0.mk h24_
 have N89 := Aside0.mk h25_
 have N98 := Aside0.mk h26_
 have HB := Aside0.mk h27_
 have hHeld : w11.cell? ⟨g3, 0, none⟩ = some (.int .i64 a0_0) ∧ w11.cell? ⟨g3, 1, none⟩ = some (.int .i64 a0_1) ∧ w11.cell? ⟨g3, 2, none⟩ = some (.int .i64 a0_2) ∧ w11.cell? ⟨g4, 0, none⟩ = some (.int .i64 a1_0) ∧ w11.cell? ⟨g4, 1, none⟩ = some (.int .i64 a1_1) ∧ w11.cell? ⟨g4, 2, none⟩ = some (.int .i64 a1_2) := h0_
 clear h0_ h1_ h2_ h3_ h4_ h5_ h6_ h7_ h8_ h9_ h10_ h11_ h12_ h13_ h14_ h15_ h16_ h17_ h18_ h19_ h20_ h21_ h22_ h23_ h24_ h25_ h26_ h27_
 refine norm_ (a' := ?_) ?_ ?_
 rotate_left
 ·simp only [putAll, Act.put, List.setIfInBounds_toArray, List.set_cons_zero, List.set_cons_succ]
  rfl
 have hn0 := N98.out
 have hn1 := N89.out
 refine last_ (i := 6) (N := none) (bm 8 127) rfl rfl (one_of HT_.out (by kernel_rfl)) (by decide) (fun K hK => ?_)
 have hs0 := (blk_cell BK8.out 0).trans (rfl : _ = some (Value.int .i64 0))
 have hf0 := blk_frozen BK8.out 0
 have hs1 := (blk_cell BK8.out 1).trans (rfl : _ = some (Value.int .i64 0))
 have hf1 := blk_frozen BK8.out 1
 have hs2 := (blk_cell BK8.out 2).trans (rfl : _ = some (Value.int .i64 0))
 have hf2 := blk_frozen BK8.out 2
 refine skip_ (w1 := ?_) (by rfl) rfl ?_ ?_
 rotate_left
 ·go_simp
  rfl
 refine hK.out _ _ ?_
 clear hK K hs0 hf0 hs1 hf1 hs2 hf2
 replace BK9 := Aside0.mk (blk_far (blk_far (blk_far BK9.out (p := ⟨g8, 0, none⟩) N98.out (.int .i64 u0)) (p := ⟨g8, 1, none⟩) N98.out (.int .i64 u1)) (p := ⟨g8, 2, none⟩) N98.out (.int .i64 u2))
 refine last_ (i := 7) (N := none) (bm 8 255) rfl rfl (one_of HT_.out (by kernel_rfl)) (by decide) (fun K hK => ?_)
 have hs0 := (blk_cell BK9.out 0).trans (rfl : _ = some (Value.int .i64 0))
 have hf0 := blk_frozen BK9.out 0
 have hs1 := (blk_cell BK9.out 1).trans (rfl : _ = some (Value.int .i64 0))
 have hf1 := blk_frozen BK9.out 1
 have hs2 := (blk_cell BK9.out 2).trans (rfl : _ = some (Value.int .i64 0))
 have hf2 := blk_frozen BK9.out 2
 refine skip_ (w1 := ?_) (by rfl) rfl ?_ ?_
 rotate_left
 ·go_simp
  rfl
 refine hK.out _ _ ?_
 clear hK K hs0 hf0 hs1 hf1 hs2 hf2
 refine done_ (done_of HT_.out (by kernel_rfl)) ?_
 clear hn0 hn1 hHeld HT_ HW_
 replace BK3 := Aside0.mk (blk_far (blk_far (blk_far (blk_far (blk_far (blk_far BK3.out (p := ⟨g8, 0, none⟩) N38.out (.int .i64 u0)) (p := ⟨g8, 1, none⟩) N38.out (.int .i64 u1)) (p := ⟨g8, 2, none⟩) N38.out (.int .i64 u2)) (p := ⟨g9, 0, none⟩) N39.out (.int .i64 m0)) (p := ⟨g9, 1, none⟩) N39.out (.int .i64 m1)) (p := ⟨g9, 2, none⟩) N39.out (.int .i64 m2))
 replace BK4 := Aside0.mk (blk_far (blk_far (blk_far (blk_far (blk_far (blk_far BK4.out (p := ⟨g8, 0, none⟩) N48.out (.int .i64 u0)) (p := ⟨g8, 1, none⟩) N48.out (.int .i64 u1)) (p := ⟨g8, 2, none⟩) N48.out (.int .i64 u2)) (p := ⟨g9, 0, none⟩) N49.out (.int .i64 m0)) (p := ⟨g9, 1, none⟩) N49.out (.int .i64 m1)) (p := ⟨g9, 2, none⟩) N49.out (.int .i64 m2))
 replace BK5 := Aside0.mk (blk_far (blk_far (blk_far (blk_far (blk_far (blk_far BK5.out (p := ⟨g8, 0, none⟩) N58.out (.int .i64 u0)) (p := ⟨g8, 1, none⟩) N58.out (.int .i64 u1)) (p := ⟨g8, 2, none⟩) N58.out (.int .i64 u2)) (p := ⟨g9, 0, none⟩) N59.out (.int .i64 m0)) (p := ⟨g9, 1, none⟩) N59.out (.int .i64 m1)) (p := ⟨g9, 2, none⟩) N59.out (.int .i64 m2))
 replace BK6 := Aside0.mk (blk_far (blk_far (blk_far (blk_far (blk_far (blk_far BK6.out (p := ⟨g8, 0, none⟩) N68.out (.int .i64 u0)) (p := ⟨g8, 1, none⟩) N68.out (.int .i64 u1)) (p := ⟨g8, 2, none⟩) N68.out (.int .i64 u2)) (p := ⟨g9, 0, none⟩) N69.out (.int .i64 m0)) (p := ⟨g9, 1, none⟩) N69.out (.int .i64 m1)) (p := ⟨g9, 2, none⟩) N69.out (.int .i64 m2))
 replace BK8 := Aside0.mk (blk_far (blk_far (blk_far (blk_put (cs' := #[.int .i64 u0, .int .i64 u1, .int .i64 u2]) (blk_put (blk_put BK8.out 0 (.int .i64 u0) rfl) 1 (.int .i64 u1) rfl) 2 (.int .i64 u2) rfl) (p := ⟨g9, 0, none⟩) N89.out (.int .i64 m0)) (p := ⟨g9, 1, none⟩) N89.out (.int .i64 m1)) (p := ⟨g9, 2, none⟩) N89.out (.int .i64 m2))
 replace BK9 := Aside0.mk (blk_put (cs' := #[.int .i64 m0, .int .i64 m1, .int .i64 m2]) (blk_put (blk_put BK9.out 0 (.int .i64 m0) rfl) 1 (.int .i64 m1) rfl) 2 (.int .i64 m2) rfl)
 replace HB := Aside0.mk (below_set (j := 2) (v := .int .i64 m2) (below_set (j := 1) (v := .int .i64 m1) (below_set (j := 0) (v := .int .i64 m0) (below_set (j := 2) (v := .int .i64 u2) (below_set (j := 1) (v := .int .i64 u1) (below_set (j := 0) (v := .int .i64 u0) HB.out GE8.out) GE8.out) GE8.out) GE9.out) GE9.out) GE9.out)
 generalize ((((((w11.setCell ⟨g8, 0, none⟩ (.int .i64 u0)).setCell ⟨g8, 1, none⟩ (.int .i64 u1)).setCell ⟨g8, 2, none⟩ (.int .i64 u2)).setCell ⟨g9, 0, none⟩ (.int .i64 m0)).setCell ⟨g9, 1, none⟩ (.int .i64 m1)).setCell ⟨g9, 2, none⟩ (.int .i64 m2)) = w12 at BK3 BK4 BK5 BK6 BK8 BK9 HB ⊢
 obtain ⟨k0, k1, k2⟩ := cells3 BK8.out
 obtain ⟨l0, l1, l2⟩ := cells3 BK9.out
 have p0 := (blk_cell BK5.out 0).trans (rfl : _ = some (Value.int .i64 a2))
 have zz0 := (blk_cell BK6.out 0).trans (rfl : _ = some (Value.int .i64 0))
 have zzf0 := blk_frozen BK6.out 0
 have zz1 := (blk_cell BK6.out 1).trans (rfl : _ = some (Value.int .i64 0))
 have zzf1 := blk_frozen BK6.out 1
 have zz2 := (blk_cell BK6.out 2).trans (rfl : _ = some (Value.int .i64 0))
 have zzf2 := blk_frozen BK6.out 2
 go_wp2_with (first
  | (go_at_call 16; (with_reducible refine (CP _).mono ?_); rintro e w13 ⟨rfl, hb⟩; replace BK5 := cB hb BK5; replace BK6 := cB hb BK6; replace BK8 := cB hb BK8; replace BK9 := cB hb BK9; replace HB := Aside0.mk (below_step (HB.out) hb); clear hb; obtain ⟨k0, k1, k2⟩ := cells3 BK8.out; obtain ⟨l0, l1, l2⟩ := cells3 BK9.out; have p0 := (blk_cell BK5.out 0).trans (rfl : _ = some (Value.int .i64 a2)); have zz0 := (blk_cell BK6.out 0).trans (rfl : _ = some (Value.int .i64 0)); have zzf0 := blk_frozen BK6.out 0; have zz1 := (blk_cell BK6.out 1).trans (rfl : _ = some (Value.int .i64 0)); have zzf1 := blk_frozen BK6.out 1; have zz2 := (blk_cell BK6.out 2).trans (rfl : _ = some (Value.int .i64 0)); have zzf2 := blk_frozen BK6.out 2)
  | (go_at_call 31; (with_reducible refine (F0 _).mono ?_); rintro e w14 ⟨rfl, hb⟩; replace BK5 := cB hb BK5; replace BK6 := cB hb BK6; replace BK8 := cB hb BK8; replace BK9 := cB hb BK9; replace HB := Aside0.mk (below_step (HB.out) hb); clear hb; obtain ⟨k0, k1, k2⟩ := cells3 BK8.out; obtain ⟨l0, l1, l2⟩ := cells3 BK9.out; have p0 := (blk_cell BK5.out 0).trans (rfl : _ = some (Value.int .i64 a2)); have zz0 := (blk_cell BK6.out 0).trans (rfl : _ = some (Value.int .i64 0)); have zzf0 := blk_frozen BK6.out 0; have zz1 := (blk_cell BK6.out 1).trans (rfl : _ = some (Value.int .i64 0)); have zzf1 := blk_frozen BK6.out 1; have zz2 := (blk_cell BK6.out 2).trans (rfl : _ = some (Value.int .i64 0)); have zzf2 := blk_frozen BK6.out 2)
  | (go_at_call 31; (with_reducible refine (F1 _).mono ?_); rintro e w15 ⟨rfl, hb⟩; replace BK5 := cB hb BK5; replace BK6 := cB hb BK6; replace BK8 := cB hb BK8; replace BK9 := cB hb BK9; replace HB := Aside0.mk (below_step (HB.out) hb); clear hb; obtain ⟨k0, k1, k2⟩ := cells3 BK8.out; obtain ⟨l0, l1, l2⟩ := cells3 BK9.out; have p0 := (blk_cell BK5.out 0).trans (rfl : _ = some (Value.int .i64 a2)); have zz0 := (blk_cell BK6.out 0).trans (rfl : _ = some (Value.int .i64 0)); have zzf0 := blk_frozen BK6.out 0; have zz1 := (blk_cell BK6.out 1).trans (rfl : _ = some (Value.int .i64 0)); have zzf1 := blk_frozen BK6.out 1; have zz2 := (blk_cell BK6.out 2).trans (rfl : _ = some (Value.int .i64 0)); have zzf2 := blk_frozen BK6.out 2)
  | (go_at_call 31; (with_reducible refine (F2 _).mono ?_); rintro e w16 ⟨rfl, hb⟩; replace BK5 := cB hb BK5; replace BK6 := cB hb BK6; replace BK8 := cB hb BK8; replace BK9 := cB hb BK9; replace HB := Aside0.mk (below_step (HB.out) hb); clear hb; obtain ⟨k0, k1, k2⟩ := cells3 BK8.out; obtain ⟨l0, l1, l2⟩ := cells3 BK9.out; have p0 := (blk_cell BK5.out 0).trans (rfl : _ = some (Value.int .i64 a2)); have zz0 := (blk_cell BK6.out 0).trans (rfl : _ = some (Value.int .i64 0)); have zzf0 := blk_frozen BK6.out 0; have zz1 := (blk_cell BK6.out 1).trans (rfl : _ = some (Value.int .i64 0)); have zzf1 := blk_frozen BK6.out 1; have zz2 := (blk_cell BK6.out 2).trans (rfl : _ = some (Value.int .i64 0)); have zzf2 := blk_frozen BK6.out 2)
  | (go_at_call 33; (with_reducible refine (CR _).mono ?_); rintro e w17 ⟨rfl, hb⟩; replace BK5 := cB hb BK5; replace BK6 := cB hb BK6; replace BK8 := cB hb BK8; replace BK9 := cB hb BK9; replace HB := Aside0.mk (below_step (HB.out) hb); clear hb; obtain ⟨k0, k1, k2⟩ := cells3 BK8.out; obtain ⟨l0, l1, l2⟩ := cells3 BK9.out; have p0 := (blk_cell BK5.out 0).trans (rfl : _ = some (Value.int .i64 a2)); have zz0 := (blk_cell BK6.out 0).trans (rfl : _ = some (Value.int .i64 0)); have zzf0 := blk_frozen BK6.out 0; have zz1 := (blk_cell BK6.out 1).trans (rfl : _ = some (Value.int .i64 0)); have zzf1 := blk_frozen BK6.out 1; have zz2 := (blk_cell BK6.out 2).trans (rfl : _ = some (Value.int .i64 0)); have zzf2 := blk_frozen BK6.out 2)
  | ((with_reducible refine gate_dst (N := 12) rfl ?_); refine box_event ?hg (N := 12) ?hd (cs := #[.int .i64 0]) (t := 3) ?hr ?_; (case hd => rfl); (case hg => rfl); (case hr => first | (go_simp; done) | (go_simp; rfl)); intro g12 hg w18 hbox hb; have BK12 := Aside0.mk (hbox); have GE12 := Aside0.mk (bG hg (HB.out)); have N512 := cN hg BK5; have N125 := cM hg BK5; have N612 := cN hg BK6; have N126 := cM hg BK6; have N812 := cN hg BK8; have N128 := cM hg BK8; have N912 := cN hg BK9; have N129 := cM hg BK9; replace HB := Aside0.mk (below_step (HB.out) hb); replace BK5 := cB hb BK5; replace BK6 := cB hb BK6; replace BK8 := cB hb BK8; replace BK9 := cB hb BK9; clear hb hbox hg; obtain ⟨k0, k1, k2⟩ := cells3 BK8.out; obtain ⟨l0, l1, l2⟩ := cells3 BK9.out; have s0 := (blk_cell BK12.out 0).trans (rfl : _ = some (Value.int .i64 0)); have sf0 := blk_frozen BK12.out 0; have hn0 := N812.out; have hn1 := N128.out; have hn2 := N912.out; have hn3 := N129.out)
  | (go_at_call 29; replace BK5 := Aside0.mk (blk_far BK5.out (p := ⟨g12, 0, none⟩) N512.out (.int .i64 (wrap64 (g0 - s)))); replace BK6 := Aside0.mk (blk_far BK6.out (p := ⟨g12, 0, none⟩) N612.out (.int .i64 (wrap64 (g0 - s)))); replace BK8 := Aside0.mk (blk_far BK8.out (p := ⟨g12, 0, none⟩) N812.out (.int .i64 (wrap64 (g0 - s)))); replace BK9 := Aside0.mk (blk_far BK9.out (p := ⟨g12, 0, none⟩) N912.out (.int .i64 (wrap64 (g0 - s)))); replace BK12 := Aside0.mk (blk_put (cs' := #[.int .i64 (wrap64 (g0 - s))]) BK12.out 0 (.int .i64 (wrap64 (g0 - s))) rfl); replace HB := Aside0.mk (below_set (j := 0) (v := .int .i64 (wrap64 (g0 - s))) HB.out GE12.out); (with_reducible refine (light_parts.calls 34 Try.f34 #[.pointer (some ⟨g5, 0, none⟩), .pointer (some ⟨g12, 0, none⟩)] u0 u1 u2 m0 m1 m2 (wrap64 (x1 + x2)) (wrap64 (y1 + y2)) (wrap64 (z1 + z2)) _ Try.func34 (by kernel_rfl) rfl (fun w'' hb => refract1.calls u0 m0 a2 (wrap64 (g0 - s)) g5 g12 x1 x2 w'' (blk_below BK5.out hb) (blk_below BK12.out hb) hx1 hx2) (fun w'' hb => refract1.calls u1 m1 a2 (wrap64 (g0 - s)) g5 g12 y1 y2 w'' (blk_below BK5.out hb) (blk_below BK12.out hb) hy1 hy2) (fun w'' hb => refract1.calls u2 m2 a2 (wrap64 (g0 - s)) g5 g12 z1 z2 w'' (blk_below BK5.out hb) (blk_below BK12.out hb) hz1 hz2)).mono ?_); rintro e' w19 ⟨rfl, hb⟩; replace BK6 := cB hb BK6; replace HB := Aside0.mk (below_step (HB.out) hb); clear hb hn0 hn1 hn2 hn3)
  | ((with_reducible refine gate_dst (N := 13) rfl ?_); refine box_event ?hg (N := 13) ?hd (cs := #[.int .i64 0, .int .i64 0, .int .i64 0]) (t := 26) ?hr ?_; (case hd => rfl); (case hg => rfl); (case hr => first | (go_simp; done) | (go_simp; rfl)); intro g13 hg w20 hbox hb; have BK13 := Aside0.mk (hbox); have GE13 := Aside0.mk (bG hg (HB.out)); have N613 := cN hg BK6; have N136 := cM hg BK6; replace HB := Aside0.mk (below_step (HB.out) hb); replace BK6 := cB hb BK6; clear hb hbox hg; have n0 := (blk_cell BK13.out 0).trans (rfl : _ = some (Value.int .i64 0)); have nf0 := blk_frozen BK13.out 0; have n1 := (blk_cell BK13.out 1).trans (rfl : _ = some (Value.int .i64 0)); have nf1 := blk_frozen BK13.out 1; have n2 := (blk_cell BK13.out 2).trans (rfl : _ = some (Value.int .i64 0)); have nf2 := blk_frozen BK13.out 2; have hn0 := N613.out; have hn1 := N136.out)
  | (go_at_call 28; replace BK6 := Aside0.mk (blk_far (blk_far (blk_far BK6.out (p := ⟨g13, 0, none⟩) N613.out (.int .i64 (wrap64 (x1 + x2)))) (p := ⟨g13, 1, none⟩) N613.out (.int .i64 (wrap64 (y1 + y2)))) (p := ⟨g13, 2, none⟩) N613.out (.int .i64 (wrap64 (z1 + z2)))); replace BK13 := Aside0.mk (blk_put (cs' := #[.int .i64 (wrap64 (x1 + x2)), .int .i64 (wrap64 (y1 + y2)), .int .i64 (wrap64 (z1 + z2))]) (blk_put (blk_put BK13.out 0 (.int .i64 (wrap64 (x1 + x2))) rfl) 1 (.int .i64 (wrap64 (y1 + y2))) rfl) 2 (.int .i64 (wrap64 (z1 + z2))) rfl); replace HB := Aside0.mk (below_set (j := 2) (v := .int .i64 (wrap64 (z1 + z2))) (below_set (j := 1) (v := .int .i64 (wrap64 (y1 + y2))) (below_set (j := 0) (v := .int .i64 (wrap64 (x1 + x2))) HB.out GE13.out) GE13.out) GE13.out); (with_reducible refine (CC _).mono ?_); rintro e' w21 ⟨rfl, hb⟩; replace BK6 := cB hb BK6; replace BK13 := cB hb BK13; replace HB := Aside0.mk (below_step (HB.out) hb); clear hb; obtain ⟨n0, n1, n2⟩ := cells3 BK13.out; have nf0 := blk_frozen BK13.out 0; have nf1 := blk_frozen BK13.out 1; have nf2 := blk_frozen BK13.out 2))
 replace BK6 := Aside0.mk (blk_far (blk_far (blk_far BK6.out (p := ⟨g13, 0, none⟩) N613.out (.int .i64 q1)) (p := ⟨g13, 1, none⟩) N613.out (.int .i64 q2)) (p := ⟨g13, 2, none⟩) N613.out (.int .i64 q3))
 replace BK13 := Aside0.mk (blk_put (cs' := #[.int .i64 q1, .int .i64 q2, .int .i64 q3]) (blk_put (blk_put BK13.out 0 (.int .i64 q1) rfl) 1 (.int .i64 q2) rfl) 2 (.int .i64 q3) rfl)
 replace HB := Aside0.mk (below_set (j := 2) (v := .int .i64 q3) (below_set (j := 1) (v := .int .i64 q2) (below_set (j := 0) (v := .int .i64 q1) HB.out GE13.out) GE13.out) GE13.out)
 clear hn0 hn1 n0 n1 n2 nf0 nf1 nf2
 generalize (((w21.setCell ⟨g13, 0, none⟩ (.int .i64 q1)).setCell ⟨g13, 1, none⟩ (.int .i64 q2)).setCell ⟨g13, 2, none⟩ (.int .i64 q3)) = w22 at BK6 BK13 HB ⊢
 replace BK6 := Aside0.mk (blk_drew BK6.out)
 replace BK13 := Aside0.mk (blk_drew BK13.out)
 replace HB := Aside0.mk (below_drew1 HB.out)
 refine start_ (n := 6) (S := fun w' => w'.cell? ⟨g13, 0, none⟩ = some (.int .i64 q1) ∧ w'.cell? ⟨g13, 1, none⟩ = some (.int .i64 q2) ∧ w'.cell? ⟨g13, 2, none⟩ = some (.int .i64 q3)) (ds := []) #[false, false, false, false, false, false] (by kernel_rfl) rfl rfl ⟨(blk_cell BK13.out 0).trans rfl, (blk_cell BK13.out 1).trans rfl, (blk_cell BK13.out 2).trans rfl⟩ (fun hHeld => ?_); refine with_tabW light_Refract.tab11 light_Refract.bits11 (fun HT_ HW_ => ?_)
 generalize w22.drew = w23 at BK6 BK13 HB hHeld ⊢
 refine take_ (i := 0) (N := some 68) (v := ?_) (a' := ?_) (bm 6 1) rfl rfl (take_ofW HT_.out HW_.out (by kernel_rfl)) (fun _ _ _ h => h) (Or.inl ⟨by rfl, ?_⟩) hHeld ?_ ?_
 rotate_left
 ·rintro w' ⟨s0, s1, s2⟩
  go_simp
  with_reducible rfl
 rotate_left
 ·simp only [Act.put, List.setIfInBounds_toArray, List.set_cons_zero, List.set_cons_succ, i64_w, i32_w]
  rfl
 refine take_ (i := 1) (N := some 69) (v := ?_) (a' := ?_) (bm 6 3) rfl rfl (take_ofW HT_.out HW_.out (by kernel_rfl)) (fun _ _ _ h => h) (Or.inl ⟨by rfl, ?_⟩) hHeld ?_ ?_
 rotate_left
 ·rintro w' ⟨s0, s1, s2⟩
  go_simp
  with_reducible rfl
 rotate_left
 ·simp only [Act.put, List.setIfInBounds_toArray, List.set_cons_zero, List.set_cons_succ, i64_w, i32_w]
  rfl
 refine pure_ (i := 2) (N := some 70) (v := ?_) (a' := ?_) (bm 6 7) rfl rfl (any_of HT_.out (by kernel_rfl)) (fun _ _ _ h => h) (Or.inl ⟨by rfl, ?_⟩) ?_ ?_
 rotate_left
 ·intro w'
  first | (go_simp; with_reducible rfl) | (go_simp; rfl)
 rotate_left
 ·simp only [Act.put, List.setIfInBounds_toArray, List.set_cons_zero, List.set_cons_succ, i64_w, i32_w]
  rfl
 refine pure_ (i := 3) (N := some 71) (v := ?_) (a' := ?_) (bm 6 15) rfl rfl (any_of HT_.out (by kernel_rfl)) (fun _ _ _ h => h) (Or.inl ⟨by rfl, ?_⟩) ?_ ?_
 rotate_left
 ·intro w'
  first | (go_simp; with_reducible rfl) | (go_simp; rfl)
 rotate_left
 ·simp only [Act.put, List.setIfInBounds_toArray, List.set_cons_zero, List.set_cons_succ, i64_w, i32_w]
  rfl
 refine one_ (i := 4) (N := none) (bm 6 31) rfl rfl (one_of HT_.out (by kernel_rfl)) (by decide) (fun K hK => ?_)
 have hs0 := (blk_cell BK6.out 0).trans (rfl : _ = some (Value.int .i64 0))
 have hf0 := blk_frozen BK6.out 0
 have hs1 := (blk_cell BK6.out 1).trans (rfl : _ = some (Value.int .i64 0))
 have hf1 := blk_frozen BK6.out 1
 have hs2 := (blk_cell BK6.out 2).trans (rfl : _ = some (Value.int .i64 0))
 have hf2 := blk_frozen BK6.out 2
 refine skip_ (w1 := ?_) (by rfl) rfl ?_ ?_
 rotate_left
 ·go_simp
  rfl
 refine hK.out _ _ ⟨cf N136.out (cf N136.out (cf N136.out (hHeld.1))), cf N136.out (cf N136.out (cf N136.out (hHeld.2.1))), cf N136.out (cf N136.out (cf N136.out (hHeld.2.2)))⟩ (fun hHeld => ?_)
 clear hK K hs0 hf0 hs1 hf1 hs2 hf2
 refine pure_ (i := 5) (N := some 7) (v := ?_) (a' := ?_) (bm 6 63) rfl rfl (any_of HT_.out (by kernel_rfl)) (fun _ _ _ h => h) (Or.inl ⟨by rfl, ?_⟩) ?_ ?_
 rotate_left
 ·intro w'
  go_simp
  with_reducible rfl
 rotate_left
 ·simp only [Act.put, List.setIfInBounds_toArray, List.set_cons_zero, List.set_cons_succ, i64_w, i32_w]
  rfl
 refine done_ (done_of HT_.out (by kernel_rfl)) ?_
 try go_wp2
 refine bodyPost_ret (results_ct rfl _ _ g6 26 #[.int .i64 q1, .int .i64 q2, .int .i64 q3] (0, 0) _ rfl (blk_put (cs' := #[.int .i64 q1, .int .i64 q2, .int .i64 q3]) (blk_put (blk_put BK6.out 0 _ rfl) 1 _ rfl) 2 _ rfl) Try.underlying26 rfl (by kernel_rfl)) rfl ?_
 exact ⟨by simp, below_set (below_set (below_set HB.out GE6.out) GE6.out) GE6.out⟩
end Go.Proofs.Ytmhnidmbgicgeaa.G
