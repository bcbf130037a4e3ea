-- Written by a program of this session (wip/gen), out of the translation; Lean checks it.
import Derived.Test.YtihklolcnfbbjaaGx0
import Derived.Test.YtihklolcnfbbjaaGx15
import Derived.Test.YtihklolcnfbbjaaGx51
import Derived.Test.YtihklolcnfbbjaaGx53
import Derived.Test.YtihklolcnfbbjaaGx54
import Derived.Test.YtihklolcnfbbjaaGx67
import Derived.Test.YtihklolcnfbbjaaGx69
namespace Go.Proofs.Ytihklolcnfbbjaa.G
open Go.RowKit Go.Proofs.YtihklolcnfbbjaaW.PrintWords Go.Proofs.YtihklolcnfbbjaaW.PrintLast Go.Proofs.YtihklolcnfbbjaaW.PrintMore
attribute [local go_sem high] idx35_0 idx35_1 idx35_2 idx35_3 idx41_0 idx41_1 idx41_2 idx84_0 idx84_1 idx84_2 idx88_0 idx88_1 idx88_2 wl0 wl1 wl2 wl3 wl4 wl5 tm0_3 tm1_3 tm2_3 tm3_3 tm4_3 tm5_3
attribute [local go_sem] max2_int min2_int max_two min_two max_three min_three max_four min_four   -- for this text's walks alone
set_option linter.unusedVariables false
set_option linter.unusedSimpArgs false

/-! ### relievolaw04_SlabHolds: function 17 -/
mutual
def relievolaw04_SlabHolds.j0 : Nat → Bool → Int → Int → Int → Int → Int → Int → Int → Int → Int → Int → Int → Int → Int → Int → Int → Int → Int → Int → Int → Int → Int → Int → Int → Bool → Int → Int → Option (Bool)
  | 0, _, _, _, _, _, _, _, _, _, _, _, _, _, _, _, _, _, _, _, _, _, _, _, _, _, _, _ => none
  | k + 1, x43, x815000, x815001, x815002, x816000, x816001, x816002, x817000, x817001, x817002, x817003, x817004, x817005, x817006, x817007, x817008, x818000, x818001, x818002, x818003, x818004, x818005, x827000, x827001, x827002, x827003, x827004 => if x43 = true then (some true) else (relievolaw04_SlabHolds.j1 k x815000 x815001 x815002 x816000 x816001 x816002 x817000 x817001 x817002 x817003 x817004 x817005 x817006 x817007 x817008 x818000 x818001 x818002 x818003 x818004 x818005 x827000 x827001 x827002 x827003 x827004)
def relievolaw04_SlabHolds.j1 : Nat → Int → Int → Int → Int → Int → Int → Int → Int → Int → Int → Int → Int → Int → Int → Int → Int → Int → Int → Int → Int → Int → Int → Int → Bool → Int → Int → Option (Bool)
  | 0, _, _, _, _, _, _, _, _, _, _, _, _, _, _, _, _, _, _, _, _, _, _, _, _, _, _ => none
  | k + 1, x815000, x815001, x815002, x816000, x816001, x816002, x817000, x817001, x817002, x817003, x817004, x817005, x817006, x817007, x817008, x818000, x818001, x818002, x818003, x818004, x818005, x827000, x827001, x827002, x827003, x827004 => (vec_Bound.f k (([(⟨x817000, x817001, x817002⟩ : S23), (⟨x817003, x817004, x817005⟩ : S23), (⟨x817006, x817007, x817008⟩ : S23)] : List (S23)))).bind fun bt830 => ((vec_Join.f bt830.1 bt830.2.1 bt830.2.2.1 bt830.2.2.2.1 bt830.2.2.2.2.1 bt830.2.2.2.2.2.1 x818000 x818001 x818002 x818003 x818004 x818005).bind fun bt838 => ((slab_Range.f k x815000 x815001 x815002 x816000 x816001 x816002 bt838.1 bt838.2.1 bt838.2.2.1 bt838.2.2.2.1 bt838.2.2.2.2.1 bt838.2.2.2.2.2).bind fun bt844 => (if bt844.2.2.2.2.2 = 0 then (relievolaw04_SlabHolds.j2 k bt844.2.2.2.2.1 x827000 x827001 x827002 x827003 x827004 bt844.1 bt844.2.1 bt844.2.2.1 bt844.2.2.2.1) else (some (bt844.2.2.2.2.2 == 21)))))
def relievolaw04_SlabHolds.j2 : Nat → Bool → Int → Int → Bool → Int → Int → Int → Int → Int → Int → Option (Bool)
  | 0, _, _, _, _, _, _, _, _, _, _ => none
  | k + 1, x16, x827000, x827001, x827002, x827003, x827004, x851000, x851001, x852000, x852001 => (wide_Order.f k x851000 x851001 x827000 x827001).bind fun bt852 => ((wide_Order.f k x827000 x827001 x852000 x852001).bind fun bt854 => (if x16 = true then (if bt852.1 ≤ 0 then (relievolaw04_SlabHolds.j3 k (decide (bt854.1 ≤ 0))) else (relievolaw04_SlabHolds.j3 k false)) else (relievolaw04_SlabHolds.j3 k false)))
def relievolaw04_SlabHolds.j3 : Nat → Bool → Option (Bool)
  | 0, _ => none
  | k + 1, x8 => some x8
end
def relievolaw04_SlabHolds.f (k : Nat) (a0_0 : Int) (a0_1 : Int) (a0_2 : Int) (a1_0 : Int) (a1_1 : Int) (a1_2 : Int) (a2_0 : Int) (a2_1 : Int) (a2_2 : Int) (a2_3 : Int) (a2_4 : Int) (a2_5 : Int) (a2_6 : Int) (a2_7 : Int) (a2_8 : Int) (a3_0 : Int) (a3_1 : Int) (a3_2 : Int) (a3_3 : Int) (a3_4 : Int) (a3_5 : Int) : Option (Bool) := (relievolaw04_alive.f k).bind fun t818 => (if t818 = true then ((side_Meet.f k a0_0 a0_1 a0_2 a1_0 a1_1 a1_2 a2_0 a2_1 a2_2 a2_3 a2_4 a2_5 a2_6 a2_7 a2_8).bind fun bt819 => (if bt819.2.2.2.2.2.2 = 0 then (if bt819.2.2.2.2.2.1 = true then (relievolaw04_SlabHolds.j0 k (decide (bt819.1 < 0)) a0_0 a0_1 a0_2 a1_0 a1_1 a1_2 a2_0 a2_1 a2_2 a2_3 a2_4 a2_5 a2_6 a2_7 a2_8 a3_0 a3_1 a3_2 a3_3 a3_4 a3_5 bt819.1 bt819.2.1 bt819.2.2.1 bt819.2.2.2.1 bt819.2.2.2.2.1) else (relievolaw04_SlabHolds.j0 k true a0_0 a0_1 a0_2 a1_0 a1_1 a1_2 a2_0 a2_1 a2_2 a2_3 a2_4 a2_5 a2_6 a2_7 a2_8 a3_0 a3_1 a3_2 a3_3 a3_4 a3_5 bt819.1 bt819.2.1 bt819.2.2.1 bt819.2.2.2.1 bt819.2.2.2.2.1)) else (relievolaw04_SlabHolds.j0 k true a0_0 a0_1 a0_2 a1_0 a1_1 a1_2 a2_0 a2_1 a2_2 a2_3 a2_4 a2_5 a2_6 a2_7 a2_8 a3_0 a3_1 a3_2 a3_3 a3_4 a3_5 bt819.1 bt819.2.1 bt819.2.2.1 bt819.2.2.2.1 bt819.2.2.2.2.1))) else (some false))
def relievolaw04_SlabHolds.T7 : Bool × List (List Nat × List Nat) := (true, [([], []), ([], []), ([], []), ([], []), ([2, 3], [2, 3]), ([0, 1, 4, 4], [0, 1, 4]), ([5], [5]), ([6], [6]), ([6], [6]), ([6], [6]), ([6], [6]), ([], []), ([], []), ([11, 7, 5, 0, 1, 2, 3, 4, 5, 6, 7, 11, 12], [7, 11]), ([12, 8, 13, 0, 1, 2, 3, 4, 5, 6, 7, 8, 11, 12, 13], [8, 12]), ([9, 14, 0, 1, 2, 3, 4, 5, 6, 7, 8, 9, 11, 12, 13, 14], [9]), ([10, 15, 0, 1, 2, 3, 4, 5, 6, 7, 8, 9, 10, 11, 12, 13, 14, 15], [10])])
def relievolaw04_SlabHolds.B7 : List Nat := [0, 0, 0, 0, 12, 31, 63, 127, 127, 127, 127, 0, 0, 6399, 14847, 31743, 65535]
theorem relievolaw04_SlabHolds.tab7 : rtab .any (opsOf Try.f17 7) = relievolaw04_SlabHolds.T7 := by kernel_rfl
theorem relievolaw04_SlabHolds.bits7 : waitsOk relievolaw04_SlabHolds.T7.2 relievolaw04_SlabHolds.B7 = true := by kernel_rfl
set_option maxHeartbeats 8000000 in
set_option maxRecDepth 100000 in
theorem relievolaw04_SlabHolds.calls (k : Nat) (a0_0 : Int) (a0_1 : Int) (a0_2 : Int) (a1_0 : Int) (a1_1 : Int) (a1_2 : Int) (a2_0 : Int) (a2_1 : Int) (a2_2 : Int) (a2_3 : Int) (a2_4 : Int) (a2_5 : Int) (a2_6 : Int) (a2_7 : Int) (a2_8 : Int) (a3_0 : Int) (a3_1 : Int) (a3_2 : Int) (a3_3 : Int) (a3_4 : Int) (a3_5 : Int) (r : Bool) (w : World) (h : relievolaw04_SlabHolds.f k a0_0 a0_1 a0_2 a1_0 a1_1 a1_2 a2_0 a2_1 a2_2 a2_3 a2_4 a2_5 a2_6 a2_7 a2_8 a3_0 a3_1 a3_2 a3_3 a3_4 a3_5 = some r) :
    Calls Try.prog 17 #[.agg #[.int .i64 a0_0, .int .i64 a0_1, .int .i64 a0_2], .agg #[.int .i64 a1_0, .int .i64 a1_1, .int .i64 a1_2], .agg #[.int .i64 a2_0, .int .i64 a2_1, .int .i64 a2_2, .int .i64 a2_3, .int .i64 a2_4, .int .i64 a2_5, .int .i64 a2_6, .int .i64 a2_7, .int .i64 a2_8], .agg #[.int .i64 a3_0, .int .i64 a3_1, .int .i64 a3_2, .int .i64 a3_3, .int .i64 a3_4, .int .i64 a3_5]] w fun e w' => e = .returned (.bool r) ∧ Below w.heap.size w w' := by
 have hu23 := Try.underlying23
 have hu25 := Try.underlying25
 have hu56 := Try.underlying56
 have hu30 := Try.underlying30
 have hu28 := Try.underlying28
 have HB := Aside0.mk (Below.refl w.heap.size w)
 have H : ((relievolaw04_alive.f k).bind fun t818 => (if t818 = true then ((side_Meet.f k a0_0 a0_1 a0_2 a1_0 a1_1 a1_2 a2_0 a2_1 a2_2 a2_3 a2_4 a2_5 a2_6 a2_7 a2_8).bind fun bt819 => (if bt819.2.2.2.2.2.2 = 0 then (if bt819.2.2.2.2.2.1 = true then (relievolaw04_SlabHolds.j0 k (decide (bt819.1 < 0)) a0_0 a0_1 a0_2 a1_0 a1_1 a1_2 a2_0 a2_1 a2_2 a2_3 a2_4 a2_5 a2_6 a2_7 a2_8 a3_0 a3_1 a3_2 a3_3 a3_4 a3_5 bt819.1 bt819.2.1 bt819.2.2.1 bt819.2.2.2.1 bt819.2.2.2.2.1) else (relievolaw04_SlabHolds.j0 k true a0_0 a0_1 a0_2 a1_0 a1_1 a1_2 a2_0 a2_1 a2_2 a2_3 a2_4 a2_5 a2_6 a2_7 a2_8 a3_0 a3_1 a3_2 a3_3 a3_4 a3_5 bt819.1 bt819.2.1 bt819.2.2.1 bt819.2.2.2.1 bt819.2.2.2.2.1)) else (relievolaw04_SlabHolds.j0 k true a0_0 a0_1 a0_2 a1_0 a1_1 a1_2 a2_0 a2_1 a2_2 a2_3 a2_4 a2_5 a2_6 a2_7 a2_8 a3_0 a3_1 a3_2 a3_3 a3_4 a3_5 bt819.1 bt819.2.1 bt819.2.2.1 bt819.2.2.2.1 bt819.2.2.2.2.1))) else (some false))) = some r := h
 clear h
 replace H := Option.bind_eq_some_iff.mp H
 obtain ⟨t818, A50, H⟩ := H
 replace H : (if t818 = true then ((side_Meet.f k a0_0 a0_1 a0_2 a1_0 a1_1 a1_2 a2_0 a2_1 a2_2 a2_3 a2_4 a2_5 a2_6 a2_7 a2_8).bind fun bt819 => (if bt819.2.2.2.2.2.2 = 0 then (if bt819.2.2.2.2.2.1 = true then (relievolaw04_SlabHolds.j0 k (decide (bt819.1 < 0)) a0_0 a0_1 a0_2 a1_0 a1_1 a1_2 a2_0 a2_1 a2_2 a2_3 a2_4 a2_5 a2_6 a2_7 a2_8 a3_0 a3_1 a3_2 a3_3 a3_4 a3_5 bt819.1 bt819.2.1 bt819.2.2.1 bt819.2.2.2.1 bt819.2.2.2.2.1) else (relievolaw04_SlabHolds.j0 k true a0_0 a0_1 a0_2 a1_0 a1_1 a1_2 a2_0 a2_1 a2_2 a2_3 a2_4 a2_5 a2_6 a2_7 a2_8 a3_0 a3_1 a3_2 a3_3 a3_4 a3_5 bt819.1 bt819.2.1 bt819.2.2.1 bt819.2.2.2.1 bt819.2.2.2.2.1)) else (relievolaw04_SlabHolds.j0 k true a0_0 a0_1 a0_2 a1_0 a1_1 a1_2 a2_0 a2_1 a2_2 a2_3 a2_4 a2_5 a2_6 a2_7 a2_8 a3_0 a3_1 a3_2 a3_3 a3_4 a3_5 bt819.1 bt819.2.1 bt819.2.2.1 bt819.2.2.2.1 bt819.2.2.2.2.1))) else (some false)) = some r := H
 have A5 := Aside0.mk A50
 clear A50
 by_cases c6 : t818 = true
 ·subst c6
  have H1 : ((side_Meet.f k a0_0 a0_1 a0_2 a1_0 a1_1 a1_2 a2_0 a2_1 a2_2 a2_3 a2_4 a2_5 a2_6 a2_7 a2_8).bind fun bt819 => (if bt819.2.2.2.2.2.2 = 0 then (if bt819.2.2.2.2.2.1 = true then (relievolaw04_SlabHolds.j0 k (decide (bt819.1 < 0)) a0_0 a0_1 a0_2 a1_0 a1_1 a1_2 a2_0 a2_1 a2_2 a2_3 a2_4 a2_5 a2_6 a2_7 a2_8 a3_0 a3_1 a3_2 a3_3 a3_4 a3_5 bt819.1 bt819.2.1 bt819.2.2.1 bt819.2.2.2.1 bt819.2.2.2.2.1) else (relievolaw04_SlabHolds.j0 k true a0_0 a0_1 a0_2 a1_0 a1_1 a1_2 a2_0 a2_1 a2_2 a2_3 a2_4 a2_5 a2_6 a2_7 a2_8 a3_0 a3_1 a3_2 a3_3 a3_4 a3_5 bt819.1 bt819.2.1 bt819.2.2.1 bt819.2.2.2.1 bt819.2.2.2.2.1)) else (relievolaw04_SlabHolds.j0 k true a0_0 a0_1 a0_2 a1_0 a1_1 a1_2 a2_0 a2_1 a2_2 a2_3 a2_4 a2_5 a2_6 a2_7 a2_8 a3_0 a3_1 a3_2 a3_3 a3_4 a3_5 bt819.1 bt819.2.1 bt819.2.2.1 bt819.2.2.2.1 bt819.2.2.2.2.1))) = some r := by rw [if_pos rfl] at H; exact H
  clear H
  have H := H1
  clear H1
  replace H := Option.bind_eq_some_iff.mp H
  obtain ⟨⟨t819, t820, t821, t822, t823, t824, t825⟩, A70, H⟩ := H
  replace H : (if t825 = 0 then (if t824 = true then (relievolaw04_SlabHolds.j0 k (decide (t819 < 0)) a0_0 a0_1 a0_2 a1_0 a1_1 a1_2 a2_0 a2_1 a2_2 a2_3 a2_4 a2_5 a2_6 a2_7 a2_8 a3_0 a3_1 a3_2 a3_3 a3_4 a3_5 t819 t820 t821 t822 t823) else (relievolaw04_SlabHolds.j0 k true a0_0 a0_1 a0_2 a1_0 a1_1 a1_2 a2_0 a2_1 a2_2 a2_3 a2_4 a2_5 a2_6 a2_7 a2_8 a3_0 a3_1 a3_2 a3_3 a3_4 a3_5 t819 t820 t821 t822 t823)) else (relievolaw04_SlabHolds.j0 k true a0_0 a0_1 a0_2 a1_0 a1_1 a1_2 a2_0 a2_1 a2_2 a2_3 a2_4 a2_5 a2_6 a2_7 a2_8 a3_0 a3_1 a3_2 a3_3 a3_4 a3_5 t819 t820 t821 t822 t823)) = some r := H
  have A7 := Aside0.mk A70
  clear A70
  have HC8 := Aside0.mk H
  clear H
  go_enter Try.func17, Try.ntmps17
  go_upto_region 4 with (first | ((with_reducible refine gate_dst (N := 4) rfl ?_); refine box_event ?hg (N := 4) ?hd (cs := #[.int .i64 a0_0, .int .i64 a0_1, .int .i64 a0_2]) (t := 23) ?hr ?_; (case hd => rfl); (case hg => rfl); (case hr => first | (go_simp; done) | (go_simp; rfl)); intro gb814 hg w9 hbox hb; have BK814 := Aside0.mk (hbox); have GE814 := Aside0.mk (bG hg (HB.out)); replace HB := Aside0.mk (below_step (HB.out) hb); clear hb hbox hg) | ((with_reducible refine gate_dst (N := 5) rfl ?_); refine box_event ?hg (N := 5) ?hd (cs := #[.int .i64 a1_0, .int .i64 a1_1, .int .i64 a1_2]) (t := 23) ?hr ?_; (case hd => rfl); (case hg => rfl); (case hr => first | (go_simp; done) | (go_simp; rfl)); intro gb815 hg w10 hbox hb; have BK815 := Aside0.mk (hbox); have GE815 := Aside0.mk (bG hg (HB.out)); have NB814_815 := cN hg BK814; have NB815_814 := cM hg BK814; replace BK814 := cB hb BK814; replace HB := Aside0.mk (below_step (HB.out) hb); clear hb hbox hg) | ((with_reducible refine gate_dst (N := 6) rfl ?_); refine box_event ?hg (N := 6) ?hd (cs := #[.int .i64 a2_0, .int .i64 a2_1, .int .i64 a2_2, .int .i64 a2_3, .int .i64 a2_4, .int .i64 a2_5, .int .i64 a2_6, .int .i64 a2_7, .int .i64 a2_8]) (t := 25) ?hr ?_; (case hd => rfl); (case hg => rfl); (case hr => first | (go_simp; done) | (go_simp; rfl)); intro gb816 hg w11 hbox hb; have BK816 := Aside0.mk (hbox); have GE816 := Aside0.mk (bG hg (HB.out)); have NB814_816 := cN hg BK814; have NB816_814 := cM hg BK814; have NB815_816 := cN hg BK815; have NB816_815 := cM hg BK815; replace BK814 := cB hb BK814; replace BK815 := cB hb BK815; replace HB := Aside0.mk (below_step (HB.out) hb); clear hb hbox hg) | ((with_reducible refine gate_dst (N := 7) rfl ?_); refine box_event ?hg (N := 7) ?hd (cs := #[.int .i64 a3_0, .int .i64 a3_1, .int .i64 a3_2, .int .i64 a3_3, .int .i64 a3_4, .int .i64 a3_5]) (t := 56) ?hr ?_; (case hd => rfl); (case hg => rfl); (case hr => first | (go_simp; done) | (go_simp; rfl)); intro gb817 hg w12 hbox hb; have BK817 := Aside0.mk (hbox); have GE817 := Aside0.mk (bG hg (HB.out)); have NB814_817 := cN hg BK814; have NB817_814 := cM hg BK814; have NB815_817 := cN hg BK815; have NB817_815 := cM hg BK815; have NB816_817 := cN hg BK816; have NB817_816 := cM hg BK816; replace BK814 := cB hb BK814; replace BK815 := cB hb BK815; replace BK816 := cB hb BK816; replace HB := Aside0.mk (below_step (HB.out) hb); clear hb hbox hg) | ((with_reducible refine gate_callee (f := 31) rfl ?_); refine goesL_ (some 22) rfl rfl Try.func31 (by kernel_rfl) rfl #[] rfl (by (try simp only [List.map_toArray, List.map_cons, List.map_nil]); first | done | rfl | (simp only [List.length_drop, List.length_take]; rfl)) ?_; (with_reducible refine (relievolaw04_alive.calls k  true _ A5.out).mono ?_); rintro e w13 ⟨rfl, hb⟩; refine ⟨_, rfl, ?_⟩; replace BK814 := cB hb BK814; replace BK815 := cB hb BK815; replace BK816 := cB hb BK816; replace BK817 := cB hb BK817; replace HB := Aside0.mk (below_step (HB.out) hb); (try clear hb); (try clear hb2); (try clear hk); (try clear hi); obtain ⟨hcz14_0, hcz14_1, hcz14_2⟩ := cells3 BK814.out; obtain ⟨hcz15_0, hcz15_1, hcz15_2⟩ := cells3 BK815.out; obtain ⟨hcz16_0, hcz16_1, hcz16_2, hcz16_3, hcz16_4, hcz16_5, hcz16_6, hcz16_7, hcz16_8⟩ := cells9 BK816.out) | ((with_reducible refine gate_callee (f := 20) rfl ?_); refine goesL_ (some 28) rfl rfl Try.func20 (by kernel_rfl) rfl #[.agg #[.int .i64 a0_0, .int .i64 a0_1, .int .i64 a0_2], .agg #[.int .i64 a1_0, .int .i64 a1_1, .int .i64 a1_2], .agg #[.int .i64 a2_0, .int .i64 a2_1, .int .i64 a2_2, .int .i64 a2_3, .int .i64 a2_4, .int .i64 a2_5, .int .i64 a2_6, .int .i64 a2_7, .int .i64 a2_8]] rfl (by (try simp only [List.map_toArray, List.map_cons, List.map_nil]); first | done | rfl | (simp only [List.length_drop, List.length_take]; rfl)) ?_; (with_reducible refine (side_Meet.calls k a0_0 a0_1 a0_2 a1_0 a1_1 a1_2 a2_0 a2_1 a2_2 a2_3 a2_4 a2_5 a2_6 a2_7 a2_8 t819 t820 t821 t822 t823 t824 t825 _ A7.out).mono ?_); rintro e w17 ⟨rfl, hb⟩; refine ⟨_, rfl, ?_⟩; replace BK814 := cB hb BK814; replace BK815 := cB hb BK815; replace BK816 := cB hb BK816; replace BK817 := cB hb BK817; replace HB := Aside0.mk (below_step (HB.out) hb); (try clear hb); (try clear hb2); (try clear hk); (try clear hi)) | ((with_reducible refine gate_dst (N := 9) rfl ?_); refine box_event ?hg (N := 9) ?hd (cs := #[.int .i64 0, .int .i64 0, .bool false, .int .i64 0, .int .i64 0]) (t := 30) ?hr ?_; (case hd => rfl); (case hg => rfl); (case hr => first | (go_simp; done) | (go_simp; rfl)); intro gb826 hg w18 hbox hb; have BK826 := Aside0.mk (hbox); have GE826 := Aside0.mk (bG hg (HB.out)); have NB814_826 := cN hg BK814; have NB826_814 := cM hg BK814; have NB815_826 := cN hg BK815; have NB826_815 := cM hg BK815; have NB816_826 := cN hg BK816; have NB826_816 := cM hg BK816; have NB817_826 := cN hg BK817; have NB826_817 := cM hg BK817; replace BK814 := cB hb BK814; replace BK815 := cB hb BK815; replace BK816 := cB hb BK816; replace BK817 := cB hb BK817; replace HB := Aside0.mk (below_step (HB.out) hb); clear hb hbox hg; have hnb19 := NB826_814.out; have hnc19 := NB814_826.out; have hnb20 := NB826_815.out; have hnc20 := NB815_826.out; have hnb21 := NB826_816.out; have hnc21 := NB816_826.out; have hnb22 := NB826_817.out; have hnc22 := NB817_826.out; obtain ⟨hcz23_0, hcz23_1, hcz23_2, hcz23_3, hcz23_4⟩ := cells5 BK826.out; have hfz23_0 := blk_frozen BK826.out 0; have hfz23_1 := blk_frozen BK826.out 1; have hfz23_2 := blk_frozen BK826.out 2; have hfz23_3 := blk_frozen BK826.out 3; have hfz23_4 := blk_frozen BK826.out 4))
  (try simp only [Act.put, List.setIfInBounds_toArray, List.set_cons_zero, List.set_cons_succ])
  go_cut [43] (fun v43 wc => ∃ (kq : Nat) (x43_7 : Bool), v43 = .bool x43_7 ∧ Aside0 (relievolaw04_SlabHolds.j0 kq x43_7 a0_0 a0_1 a0_2 a1_0 a1_1 a1_2 a2_0 a2_1 a2_2 a2_3 a2_4 a2_5 a2_6 a2_7 a2_8 a3_0 a3_1 a3_2 a3_3 a3_4 a3_5 t819 t820 t821 t822 t823 = some r) ∧ Aside0 (kq ≤ k) ∧ Aside0 (wc.heap[gb814]? = some (.cells #[.int .i64 a0_0, .int .i64 a0_1, .int .i64 a0_2] 23 (0, 0))) ∧ Aside0 (wc.heap[gb815]? = some (.cells #[.int .i64 a1_0, .int .i64 a1_1, .int .i64 a1_2] 23 (0, 0))) ∧ Aside0 (wc.heap[gb816]? = some (.cells #[.int .i64 a2_0, .int .i64 a2_1, .int .i64 a2_2, .int .i64 a2_3, .int .i64 a2_4, .int .i64 a2_5, .int .i64 a2_6, .int .i64 a2_7, .int .i64 a2_8] 25 (0, 0))) ∧ Aside0 (wc.heap[gb817]? = some (.cells #[.int .i64 a3_0, .int .i64 a3_1, .int .i64 a3_2, .int .i64 a3_3, .int .i64 a3_4, .int .i64 a3_5] 56 (0, 0))) ∧ Aside0 (wc.heap[gb826]? = some (.cells #[.int .i64 t819, .int .i64 t820, .bool t821, .int .i64 t822, .int .i64 t823] 30 (0, 0))) ∧ Aside0 (Below w.heap.size w wc))
  case first =>
   have H := HC8.out
   clear HC8
   by_cases c24 : t825 = 0
   ·rw [if_pos c24] at H
    have c24b0 : (t825 == 0) = true := beq_iff_eq.mpr c24
    have c24b1 : (t825 != 0) = false := bne_eq_false_iff_eq.mpr c24
    clear c24
    (first | rw [c24b0] | (simp only [i64_w, i32_w]; rw [c24b0]) | skip)
    by_cases c25 : t824 = true
    ·subst c25
     have H1 : (relievolaw04_SlabHolds.j0 k (decide (t819 < 0)) a0_0 a0_1 a0_2 a1_0 a1_1 a1_2 a2_0 a2_1 a2_2 a2_3 a2_4 a2_5 a2_6 a2_7 a2_8 a3_0 a3_1 a3_2 a3_3 a3_4 a3_5 t819 t820 t821 t822 t823) = some r := by rw [if_pos rfl] at H; exact H
     clear H
     have H := H1
     clear H1
     have H' := Aside0.mk H
     clear H
     obtain ⟨hcz26_0, hcz26_1, hcz26_2, hcz26_3, hcz26_4⟩ := cells5 BK826.out
     go_wp2
     go_meet
     case rel => exact ⟨_, (decide (t819 < 0)), (by first | rfl | (simp; done) | (simp [*]; done)), H', ⟨by first | omega | exact Nat.le_refl _⟩, ⟨(blk_far (blk_far (blk_far (blk_far (blk_far BK814.out NB814_826.out _) NB814_826.out _) NB814_826.out _) NB814_826.out _) NB814_826.out _)⟩, ⟨(blk_far (blk_far (blk_far (blk_far (blk_far BK815.out NB815_826.out _) NB815_826.out _) NB815_826.out _) NB815_826.out _) NB815_826.out _)⟩, ⟨(blk_far (blk_far (blk_far (blk_far (blk_far BK816.out NB816_826.out _) NB816_826.out _) NB816_826.out _) NB816_826.out _) NB816_826.out _)⟩, ⟨(blk_far (blk_far (blk_far (blk_far (blk_far BK817.out NB817_826.out _) NB817_826.out _) NB817_826.out _) NB817_826.out _) NB817_826.out _)⟩, ⟨(blk_put (cs' := #[.int .i64 t819, .int .i64 t820, .bool t821, .int .i64 t822, .int .i64 t823]) (blk_put (blk_put (blk_put (blk_put BK826.out 0 _ rfl) 1 _ rfl) 2 _ rfl) 3 _ rfl) 4 _ rfl)⟩, ⟨(below_set (below_set (below_set (below_set (below_set HB.out GE826.out) GE826.out) GE826.out) GE826.out) GE826.out)⟩⟩
    replace c25 := Bool.eq_false_iff.mpr c25
    subst c25
    have H1 : (relievolaw04_SlabHolds.j0 k true a0_0 a0_1 a0_2 a1_0 a1_1 a1_2 a2_0 a2_1 a2_2 a2_3 a2_4 a2_5 a2_6 a2_7 a2_8 a3_0 a3_1 a3_2 a3_3 a3_4 a3_5 t819 t820 t821 t822 t823) = some r := by rw [if_neg (show ¬ (false = true) by decide)] at H; exact H
    clear H
    have H := H1
    clear H1
    have H' := Aside0.mk H
    clear H
    go_wp2
    go_meet
    case rel => exact ⟨_, (true), (by first | rfl | (simp; done) | (simp [*]; done)), H', ⟨by first | omega | exact Nat.le_refl _⟩, ⟨(blk_far (blk_far (blk_far (blk_far (blk_far BK814.out NB814_826.out _) NB814_826.out _) NB814_826.out _) NB814_826.out _) NB814_826.out _)⟩, ⟨(blk_far (blk_far (blk_far (blk_far (blk_far BK815.out NB815_826.out _) NB815_826.out _) NB815_826.out _) NB815_826.out _) NB815_826.out _)⟩, ⟨(blk_far (blk_far (blk_far (blk_far (blk_far BK816.out NB816_826.out _) NB816_826.out _) NB816_826.out _) NB816_826.out _) NB816_826.out _)⟩, ⟨(blk_far (blk_far (blk_far (blk_far (blk_far BK817.out NB817_826.out _) NB817_826.out _) NB817_826.out _) NB817_826.out _) NB817_826.out _)⟩, ⟨(blk_put (cs' := #[.int .i64 t819, .int .i64 t820, .bool t821, .int .i64 t822, .int .i64 t823]) (blk_put (blk_put (blk_put (blk_put BK826.out 0 _ rfl) 1 _ rfl) 2 _ rfl) 3 _ rfl) 4 _ rfl)⟩, ⟨(below_set (below_set (below_set (below_set (below_set HB.out GE826.out) GE826.out) GE826.out) GE826.out) GE826.out)⟩⟩
   rw [if_neg c24] at H
   have c24b0 : (t825 == 0) = false := beq_eq_false_iff_ne.mpr c24
   have c24b1 : (t825 != 0) = true := bne_iff_ne.mpr c24
   (first | rw [c24b0] | (simp only [i64_w, i32_w]; rw [c24b0]) | skip)
   have H' := Aside0.mk H
   clear H
   go_wp2
   go_meet
   case rel => exact ⟨_, (true), (by first | rfl | (simp; done) | (simp [*]; done)), H', ⟨by first | omega | exact Nat.le_refl _⟩, ⟨(blk_far (blk_far (blk_far (blk_far (blk_far BK814.out NB814_826.out _) NB814_826.out _) NB814_826.out _) NB814_826.out _) NB814_826.out _)⟩, ⟨(blk_far (blk_far (blk_far (blk_far (blk_far BK815.out NB815_826.out _) NB815_826.out _) NB815_826.out _) NB815_826.out _) NB815_826.out _)⟩, ⟨(blk_far (blk_far (blk_far (blk_far (blk_far BK816.out NB816_826.out _) NB816_826.out _) NB816_826.out _) NB816_826.out _) NB816_826.out _)⟩, ⟨(blk_far (blk_far (blk_far (blk_far (blk_far BK817.out NB817_826.out _) NB817_826.out _) NB817_826.out _) NB817_826.out _) NB817_826.out _)⟩, ⟨(blk_put (cs' := #[.int .i64 t819, .int .i64 t820, .bool t821, .int .i64 t822, .int .i64 t823]) (blk_put (blk_put (blk_put (blk_put BK826.out 0 _ rfl) 1 _ rfl) 2 _ rfl) 3 _ rfl) 4 _ rfl)⟩, ⟨(below_set (below_set (below_set (below_set (below_set HB.out GE826.out) GE826.out) GE826.out) GE826.out) GE826.out)⟩⟩
  clear HC8
  try clear c6
  try clear hcz14_0
  try clear hcz14_1
  try clear hcz14_2
  try clear hcz15_0
  try clear hcz15_1
  try clear hcz15_2
  try clear hcz16_0
  try clear hcz16_1
  try clear hcz16_2
  try clear hcz16_3
  try clear hcz16_4
  try clear hcz16_5
  try clear hcz16_6
  try clear hcz16_7
  try clear hcz16_8
  try clear hcz23_0
  try clear hcz23_1
  try clear hcz23_2
  try clear hcz23_3
  try clear hcz23_4
  try clear hfz23_0
  try clear hfz23_1
  try clear hfz23_2
  try clear hfz23_3
  try clear hfz23_4
  obtain ⟨kq, x43_7, rfl, HA, HJ7, BK814, BK815, BK816, BK817, BK826, HB⟩ := hcut
  cases kq with
  | zero => exact absurd HA.out (by simp [relievolaw04_SlabHolds.j0])
  | succ kj7 =>
   have H := HA.out
   clear HA
   simp only [relievolaw04_SlabHolds.j0] at H
   have HC27 := Aside0.mk H
   clear H
   go_upto_if 43 with (fail)
   go_cut [] (fun wc => ∃ (kq : Nat), Aside0 (relievolaw04_SlabHolds.j1 kq a0_0 a0_1 a0_2 a1_0 a1_1 a1_2 a2_0 a2_1 a2_2 a2_3 a2_4 a2_5 a2_6 a2_7 a2_8 a3_0 a3_1 a3_2 a3_3 a3_4 a3_5 t819 t820 t821 t822 t823 = some r) ∧ Aside0 (kq ≤ kj7) ∧ Aside0 (wc.heap[gb814]? = some (.cells #[.int .i64 a0_0, .int .i64 a0_1, .int .i64 a0_2] 23 (0, 0))) ∧ Aside0 (wc.heap[gb815]? = some (.cells #[.int .i64 a1_0, .int .i64 a1_1, .int .i64 a1_2] 23 (0, 0))) ∧ Aside0 (wc.heap[gb816]? = some (.cells #[.int .i64 a2_0, .int .i64 a2_1, .int .i64 a2_2, .int .i64 a2_3, .int .i64 a2_4, .int .i64 a2_5, .int .i64 a2_6, .int .i64 a2_7, .int .i64 a2_8] 25 (0, 0))) ∧ Aside0 (wc.heap[gb817]? = some (.cells #[.int .i64 a3_0, .int .i64 a3_1, .int .i64 a3_2, .int .i64 a3_3, .int .i64 a3_4, .int .i64 a3_5] 56 (0, 0))) ∧ Aside0 (wc.heap[gb826]? = some (.cells #[.int .i64 t819, .int .i64 t820, .bool t821, .int .i64 t822, .int .i64 t823] 30 (0, 0))) ∧ Aside0 (Below w.heap.size w wc))
   case first =>
    have H := HC27.out
    clear HC27
    by_cases c28 : x43_7 = true
    ·subst c28
     have H1 : (some true) = some r := by rw [if_pos rfl] at H; exact H
     clear H
     have H := H1
     clear H1
     obtain rfl := Option.some.inj H
     go_wp2
     go_ret
     exact ⟨by first | rfl | (simp [errW_none, errW_some] <;> rfl) | (simp [*, errW_none, errW_some] <;> rfl), HB.out⟩
    replace c28 := Bool.eq_false_iff.mpr c28
    subst c28
    have H1 : (relievolaw04_SlabHolds.j1 kj7 a0_0 a0_1 a0_2 a1_0 a1_1 a1_2 a2_0 a2_1 a2_2 a2_3 a2_4 a2_5 a2_6 a2_7 a2_8 a3_0 a3_1 a3_2 a3_3 a3_4 a3_5 t819 t820 t821 t822 t823) = some r := by rw [if_neg (show ¬ (false = true) by decide)] at H; exact H
    clear H
    have H := H1
    clear H1
    have H' := Aside0.mk H
    clear H
    go_wp2
    go_meet
    case rel => exact ⟨_, H', ⟨by have := HJ7.out; first | omega | exact Nat.le_refl _⟩, ⟨BK814.out⟩, ⟨BK815.out⟩, ⟨BK816.out⟩, ⟨BK817.out⟩, ⟨BK826.out⟩, ⟨HB.out⟩⟩
   clear HC27
   obtain ⟨kq, HA, HJ26, BK814, BK815, BK816, BK817, BK826, HB⟩ := hcut
   cases kq with
   | zero => exact absurd HA.out (by simp [relievolaw04_SlabHolds.j1])
   | succ kj26 =>
    have H := HA.out
    clear HA
    simp only [relievolaw04_SlabHolds.j1] at H
    obtain ⟨y827, hy827⟩ : ∃ y_ : List (S23), y_ = (([(⟨a2_0, a2_1, a2_2⟩ : S23), (⟨a2_3, a2_4, a2_5⟩ : S23), (⟨a2_6, a2_7, a2_8⟩ : S23)] : List (S23))) := ⟨_, rfl⟩
    replace H : ((vec_Bound.f kj26 y827).bind fun bt830 => ((vec_Join.f bt830.1 bt830.2.1 bt830.2.2.1 bt830.2.2.2.1 bt830.2.2.2.2.1 bt830.2.2.2.2.2.1 a3_0 a3_1 a3_2 a3_3 a3_4 a3_5).bind fun bt838 => ((slab_Range.f kj26 a0_0 a0_1 a0_2 a1_0 a1_1 a1_2 bt838.1 bt838.2.1 bt838.2.2.1 bt838.2.2.2.1 bt838.2.2.2.2.1 bt838.2.2.2.2.2).bind fun bt844 => (if bt844.2.2.2.2.2 = 0 then (relievolaw04_SlabHolds.j2 kj26 bt844.2.2.2.2.1 t819 t820 t821 t822 t823 bt844.1 bt844.2.1 bt844.2.2.1 bt844.2.2.2.1) else (some (bt844.2.2.2.2.2 == 21)))))) = some r := by first | (rw [hy827]; with_reducible exact H) | (have H2_ := (Option.bind_some _ _).symm.trans H; rw [hy827]; with_reducible exact H2_) | (have H2_ := (Option.bind_some _ _).symm.trans H; with_reducible exact H2_) | with_reducible exact H | (rw [hy827]; exact H) | exact H
    have Ny827 := Aside0.mk hy827
    clear hy827
    replace H := Option.bind_eq_some_iff.mp H
    obtain ⟨⟨t830, t831, t832, t833, t834, t835, t836⟩, A290, H⟩ := H
    replace H : ((vec_Join.f t830 t831 t832 t833 t834 t835 a3_0 a3_1 a3_2 a3_3 a3_4 a3_5).bind fun bt838 => ((slab_Range.f kj26 a0_0 a0_1 a0_2 a1_0 a1_1 a1_2 bt838.1 bt838.2.1 bt838.2.2.1 bt838.2.2.2.1 bt838.2.2.2.2.1 bt838.2.2.2.2.2).bind fun bt844 => (if bt844.2.2.2.2.2 = 0 then (relievolaw04_SlabHolds.j2 kj26 bt844.2.2.2.2.1 t819 t820 t821 t822 t823 bt844.1 bt844.2.1 bt844.2.2.1 bt844.2.2.2.1) else (some (bt844.2.2.2.2.2 == 21))))) = some r := H
    have A29 := Aside0.mk A290
    clear A290
    replace H := Option.bind_eq_some_iff.mp H
    obtain ⟨⟨t838, t839, t840, t841, t842, t843⟩, A300, H⟩ := H
    replace H : ((slab_Range.f kj26 a0_0 a0_1 a0_2 a1_0 a1_1 a1_2 t838 t839 t840 t841 t842 t843).bind fun bt844 => (if bt844.2.2.2.2.2 = 0 then (relievolaw04_SlabHolds.j2 kj26 bt844.2.2.2.2.1 t819 t820 t821 t822 t823 bt844.1 bt844.2.1 bt844.2.2.1 bt844.2.2.2.1) else (some (bt844.2.2.2.2.2 == 21)))) = some r := H
    have A30 := Aside0.mk A300
    clear A300
    replace H := Option.bind_eq_some_iff.mp H
    obtain ⟨⟨t844, t845, t846, t847, t848, t849⟩, A310, H⟩ := H
    replace H : (if t849 = 0 then (relievolaw04_SlabHolds.j2 kj26 t848 t819 t820 t821 t822 t823 t844 t845 t846 t847) else (some (t849 == 21))) = some r := H
    have A31 := Aside0.mk A310
    clear A310
    have HC32 := Aside0.mk H
    clear H
    obtain ⟨hcz33_0, hcz33_1, hcz33_2, hcz33_3, hcz33_4, hcz33_5, hcz33_6, hcz33_7, hcz33_8⟩ := cells9 BK816.out
    try go_wp2_with (first | ((with_reducible refine gate_dst (N := 51) rfl ?_); refine Kd.R_lit k23 _ 23 ?hg (N := 51) ?hd (xs := ([(⟨a2_0, a2_1, a2_2⟩ : S23), (⟨a2_3, a2_4, a2_5⟩ : S23), (⟨a2_6, a2_7, a2_8⟩ : S23)] : List (S23))) (inner := [.int .i64 a2_0, .int .i64 a2_1, .int .i64 a2_2, .int .i64 a2_3, .int .i64 a2_4, .int .i64 a2_5, .int .i64 a2_6, .int .i64 a2_7, .int .i64 a2_8]) (ok := fun _ => True) (okp := fun _ => True) ?hr ?hp (fun _ hk => hk) trivial (Below.refl _ _) (Nat.le_refl _) (by simp) ?_; (case hd => rfl); (case hg => rfl); (case hr => first | (go_simp; done) | (go_simp; rfl)); (case hp => exact (Reps.c3 (show Kd.M k23 _ _ _ (⟨a2_0, a2_1, a2_2⟩ : S23) [.int .i64 a2_0, .int .i64 a2_1, .int .i64 a2_2] from (k23_mkM _ _ _ (⟨a2_0, a2_1, a2_2⟩ : S23) )) (Reps.c3 (show Kd.M k23 _ _ _ (⟨a2_3, a2_4, a2_5⟩ : S23) [.int .i64 a2_3, .int .i64 a2_4, .int .i64 a2_5] from (k23_mkM _ _ _ (⟨a2_3, a2_4, a2_5⟩ : S23) )) (Reps.c3 (show Kd.M k23 _ _ _ (⟨a2_6, a2_7, a2_8⟩ : S23) [.int .i64 a2_6, .int .i64 a2_7, .int .i64 a2_8] from (k23_mkM _ _ _ (⟨a2_6, a2_7, a2_8⟩ : S23) )) (Reps.none _ _))))); intro v828 w34 ho35 hb hg_ hnew_; clear hg_ hnew_; (first | rw [← Ny827.out] at ho35 | (simp only [Int.reduceToNat] at ho35; rw [← Ny827.out] at ho35)); have HO829 := Aside0.mk (Kd.R_lower (Kd.R_newB (Kd.R_newB ho35 (BK814.out)) (BK815.out)) (below_size (HB.out))); replace BK814 := cB hb BK814; replace BK815 := cB hb BK815; replace BK816 := cB hb BK816; replace BK817 := cB hb BK817; replace BK826 := cB hb BK826; replace HB := Aside0.mk (below_step (HB.out) hb); clear hb ho35; obtain ⟨Ao36, co36, eo36⟩ := Kd.R_slice HO829.out; subst eo36) | ((with_reducible refine gate_callee (f := 38) rfl ?_); refine goesL_ (some 52) rfl rfl Try.func38 (by kernel_rfl) rfl #[.slice Ao36 y827.length co36] rfl (by (try simp only [List.map_toArray, List.map_cons, List.map_nil]); first | done | rfl | (simp only [List.length_drop, List.length_take]; rfl)) ?_; (with_reducible refine (vec_Bound.calls kj26 _ _ y827 t830 t831 t832 t833 t834 t835 t836 _ ?side1 ?side2 A29.out).mono ?_); (case side1 => repeat (first | exact (Kd.R_reads' HO829.out).2.2 | (with_reducible refine Kd.C_alloc ?_ _) | (with_reducible refine Kd.C_drewN ?_ _) | (with_reducible refine Kd.C_drew ?_))); (case side2 => exact (Kd.R_reads' HO829.out).2.1); rintro e w37 ⟨rfl, hb⟩; refine ⟨_, rfl, ?_⟩; replace HO829 := Aside0.mk (Kd.R_below (by (with_reducible repeat (first | apply Kd.R_alloc | apply Kd.R_drewN | apply Kd.R_drew)); exact HO829.out) hb); replace BK814 := cB hb BK814; replace BK815 := cB hb BK815; replace BK816 := cB hb BK816; replace BK817 := cB hb BK817; replace BK826 := cB hb BK826; replace HB := Aside0.mk (below_step (HB.out) hb); (try clear hb); (try clear hb2); (try clear hk); (try clear hi)) | ((with_reducible refine gate_dst (N := 12) rfl ?_); refine box_event ?hg (N := 12) ?hd (cs := #[.int .i64 0, .int .i64 0, .int .i64 0, .int .i64 0, .int .i64 0, .int .i64 0]) (t := 56) ?hr ?_; (case hd => rfl); (case hg => rfl); (case hr => first | (go_simp; done) | (go_simp; rfl)); intro gb837 hg w38 hbox hb; have BK837 := Aside0.mk (hbox); have GE837 := Aside0.mk (bG hg (HB.out)); have NB814_837 := cN hg BK814; have NB837_814 := cM hg BK814; have NB815_837 := cN hg BK815; have NB837_815 := cM hg BK815; have NB816_837 := cN hg BK816; have NB837_816 := cM hg BK816; have NB817_837 := cN hg BK817; have NB837_817 := cM hg BK817; have NB826_837 := cN hg BK826; have NB837_826 := cM hg BK826; replace HO829 := Aside0.mk (Kd.R_below (by (with_reducible repeat (first | apply Kd.R_alloc | apply Kd.R_drewN | apply Kd.R_drew)); exact HO829.out) hb); replace BK814 := cB hb BK814; replace BK815 := cB hb BK815; replace BK816 := cB hb BK816; replace BK817 := cB hb BK817; replace BK826 := cB hb BK826; replace HB := Aside0.mk (below_step (HB.out) hb); clear hb hbox hg; have hnb39 := NB837_814.out; have hnc39 := NB814_837.out; have hnb40 := NB837_815.out; have hnc40 := NB815_837.out; have hnb41 := NB837_816.out; have hnc41 := NB816_837.out; have hnb42 := NB837_817.out; have hnc42 := NB817_837.out; have hnb43 := NB837_826.out; have hnc43 := NB826_837.out; obtain ⟨hcz44_0, hcz44_1, hcz44_2, hcz44_3, hcz44_4, hcz44_5⟩ := cells6 BK837.out; have hfz44_0 := blk_frozen BK837.out 0; have hfz44_1 := blk_frozen BK837.out 1; have hfz44_2 := blk_frozen BK837.out 2; have hfz44_3 := blk_frozen BK837.out 3; have hfz44_4 := blk_frozen BK837.out 4; have hfz44_5 := blk_frozen BK837.out 5))
    have n0_ : Aside0 (Kd.R k23 23 ((((((w38.setCell ⟨gb837, 0, none⟩ (.int .i64 t830)).setCell ⟨gb837, 1, none⟩ (.int .i64 t831)).setCell ⟨gb837, 2, none⟩ (.int .i64 t832)).setCell ⟨gb837, 3, none⟩ (.int .i64 t833)).setCell ⟨gb837, 4, none⟩ (.int .i64 t834)).setCell ⟨gb837, 5, none⟩ (.int .i64 t835)) w.heap.size (fun k_ => k_ ≠ gb814 ∧ k_ ≠ gb815) (.slice Ao36 y827.length co36) y827) := ⟨by (with_reducible repeat (first | apply Kd.R_alloc | apply Kd.R_drewN | apply Kd.R_drew)); exact Kd.R_mono (Kd.R_far (p := ⟨gb837, 5, none⟩) (Kd.R_far (p := ⟨gb837, 4, none⟩) (Kd.R_far (p := ⟨gb837, 3, none⟩) (Kd.R_far (p := ⟨gb837, 2, none⟩) (Kd.R_far (p := ⟨gb837, 1, none⟩) (Kd.R_far (p := ⟨gb837, 0, none⟩) (Kd.R_types HO829.out BK837.out (by decide)) (fun _ hk => hk.2) (.int .i64 t830)) (fun _ hk => hk.2) (.int .i64 t831)) (fun _ hk => hk.2) (.int .i64 t832)) (fun _ hk => hk.2) (.int .i64 t833)) (fun _ hk => hk.2) (.int .i64 t834)) (fun _ hk => hk.2) (.int .i64 t835)) (fun _ hk => ⟨hk.1.1.2, hk.1.2⟩)⟩
    have n1_ : Aside0 (((((((w38.setCell ⟨gb837, 0, none⟩ (.int .i64 t830)).setCell ⟨gb837, 1, none⟩ (.int .i64 t831)).setCell ⟨gb837, 2, none⟩ (.int .i64 t832)).setCell ⟨gb837, 3, none⟩ (.int .i64 t833)).setCell ⟨gb837, 4, none⟩ (.int .i64 t834)).setCell ⟨gb837, 5, none⟩ (.int .i64 t835)).heap[gb814]? = some (.cells #[.int .i64 a0_0, .int .i64 a0_1, .int .i64 a0_2] 23 (0, 0))) := ⟨(blk_far (blk_far (blk_far (blk_far (blk_far (blk_far BK814.out NB814_837.out _) NB814_837.out _) NB814_837.out _) NB814_837.out _) NB814_837.out _) NB814_837.out _)⟩
    have n2_ : Aside0 (((((((w38.setCell ⟨gb837, 0, none⟩ (.int .i64 t830)).setCell ⟨gb837, 1, none⟩ (.int .i64 t831)).setCell ⟨gb837, 2, none⟩ (.int .i64 t832)).setCell ⟨gb837, 3, none⟩ (.int .i64 t833)).setCell ⟨gb837, 4, none⟩ (.int .i64 t834)).setCell ⟨gb837, 5, none⟩ (.int .i64 t835)).heap[gb815]? = some (.cells #[.int .i64 a1_0, .int .i64 a1_1, .int .i64 a1_2] 23 (0, 0))) := ⟨(blk_far (blk_far (blk_far (blk_far (blk_far (blk_far BK815.out NB815_837.out _) NB815_837.out _) NB815_837.out _) NB815_837.out _) NB815_837.out _) NB815_837.out _)⟩
    have n3_ : Aside0 (((((((w38.setCell ⟨gb837, 0, none⟩ (.int .i64 t830)).setCell ⟨gb837, 1, none⟩ (.int .i64 t831)).setCell ⟨gb837, 2, none⟩ (.int .i64 t832)).setCell ⟨gb837, 3, none⟩ (.int .i64 t833)).setCell ⟨gb837, 4, none⟩ (.int .i64 t834)).setCell ⟨gb837, 5, none⟩ (.int .i64 t835)).heap[gb817]? = some (.cells #[.int .i64 a3_0, .int .i64 a3_1, .int .i64 a3_2, .int .i64 a3_3, .int .i64 a3_4, .int .i64 a3_5] 56 (0, 0))) := ⟨(blk_far (blk_far (blk_far (blk_far (blk_far (blk_far BK817.out NB817_837.out _) NB817_837.out _) NB817_837.out _) NB817_837.out _) NB817_837.out _) NB817_837.out _)⟩
    have n4_ : Aside0 (((((((w38.setCell ⟨gb837, 0, none⟩ (.int .i64 t830)).setCell ⟨gb837, 1, none⟩ (.int .i64 t831)).setCell ⟨gb837, 2, none⟩ (.int .i64 t832)).setCell ⟨gb837, 3, none⟩ (.int .i64 t833)).setCell ⟨gb837, 4, none⟩ (.int .i64 t834)).setCell ⟨gb837, 5, none⟩ (.int .i64 t835)).heap[gb826]? = some (.cells #[.int .i64 t819, .int .i64 t820, .bool t821, .int .i64 t822, .int .i64 t823] 30 (0, 0))) := ⟨(blk_far (blk_far (blk_far (blk_far (blk_far (blk_far BK826.out NB826_837.out _) NB826_837.out _) NB826_837.out _) NB826_837.out _) NB826_837.out _) NB826_837.out _)⟩
    have n5_ : Aside0 (((((((w38.setCell ⟨gb837, 0, none⟩ (.int .i64 t830)).setCell ⟨gb837, 1, none⟩ (.int .i64 t831)).setCell ⟨gb837, 2, none⟩ (.int .i64 t832)).setCell ⟨gb837, 3, none⟩ (.int .i64 t833)).setCell ⟨gb837, 4, none⟩ (.int .i64 t834)).setCell ⟨gb837, 5, none⟩ (.int .i64 t835)).heap[gb837]? = some (.cells #[.int .i64 t830, .int .i64 t831, .int .i64 t832, .int .i64 t833, .int .i64 t834, .int .i64 t835] 56 (0, 0))) := ⟨(blk_put (cs' := #[.int .i64 t830, .int .i64 t831, .int .i64 t832, .int .i64 t833, .int .i64 t834, .int .i64 t835]) (blk_put (blk_put (blk_put (blk_put (blk_put BK837.out 0 _ rfl) 1 _ rfl) 2 _ rfl) 3 _ rfl) 4 _ rfl) 5 _ rfl)⟩
    have n6_ : Aside0 (Below w.heap.size w ((((((w38.setCell ⟨gb837, 0, none⟩ (.int .i64 t830)).setCell ⟨gb837, 1, none⟩ (.int .i64 t831)).setCell ⟨gb837, 2, none⟩ (.int .i64 t832)).setCell ⟨gb837, 3, none⟩ (.int .i64 t833)).setCell ⟨gb837, 4, none⟩ (.int .i64 t834)).setCell ⟨gb837, 5, none⟩ (.int .i64 t835))) := ⟨(below_set (below_set (below_set (below_set (below_set (below_set HB.out GE837.out) GE837.out) GE837.out) GE837.out) GE837.out) GE837.out)⟩
    (try clear HO829)
    (try clear BK814)
    (try clear BK815)
    (try clear BK817)
    (try clear BK826)
    (try clear BK837)
    (try clear HB)
    generalize ((((((w38.setCell ⟨gb837, 0, none⟩ (.int .i64 t830)).setCell ⟨gb837, 1, none⟩ (.int .i64 t831)).setCell ⟨gb837, 2, none⟩ (.int .i64 t832)).setCell ⟨gb837, 3, none⟩ (.int .i64 t833)).setCell ⟨gb837, 4, none⟩ (.int .i64 t834)).setCell ⟨gb837, 5, none⟩ (.int .i64 t835)) = w45 at n0_ n1_ n2_ n3_ n4_ n5_ n6_ ⊢
    have HO829 := n0_
    have BK814 := n1_
    have BK815 := n2_
    have BK817 := n3_
    have BK826 := n4_
    have BK837 := n5_
    have HB := n6_
    clear n0_ n1_ n2_ n3_ n4_ n5_ n6_
    replace HO829 := Aside0.mk (Kd.R_drew HO829.out)
    replace BK814 := Aside0.mk (blk_drew BK814.out)
    replace BK815 := Aside0.mk (blk_drew BK815.out)
    replace BK817 := Aside0.mk (blk_drew BK817.out)
    replace BK826 := Aside0.mk (blk_drew BK826.out)
    replace BK837 := Aside0.mk (blk_drew BK837.out)
    replace HB := Aside0.mk (below_drew1 HB.out)
    refine start_ (n := 17) (S := fun w' => w'.cell? ⟨gb814, 0, none⟩ = some (.int .i64 a0_0) ∧ w'.cell? ⟨gb814, 1, none⟩ = some (.int .i64 a0_1) ∧ w'.cell? ⟨gb814, 2, none⟩ = some (.int .i64 a0_2) ∧ w'.cell? ⟨gb815, 0, none⟩ = some (.int .i64 a1_0) ∧ w'.cell? ⟨gb815, 1, none⟩ = some (.int .i64 a1_1) ∧ w'.cell? ⟨gb815, 2, none⟩ = some (.int .i64 a1_2) ∧ w'.cell? ⟨gb837, 0, none⟩ = some (.int .i64 t830) ∧ w'.cell? ⟨gb837, 1, none⟩ = some (.int .i64 t831) ∧ w'.cell? ⟨gb837, 2, none⟩ = some (.int .i64 t832) ∧ w'.cell? ⟨gb837, 3, none⟩ = some (.int .i64 t833) ∧ w'.cell? ⟨gb837, 4, none⟩ = some (.int .i64 t834) ∧ w'.cell? ⟨gb837, 5, none⟩ = some (.int .i64 t835) ∧ w'.cell? ⟨gb817, 0, none⟩ = some (.int .i64 a3_0) ∧ w'.cell? ⟨gb817, 1, none⟩ = some (.int .i64 a3_1) ∧ w'.cell? ⟨gb817, 2, none⟩ = some (.int .i64 a3_2) ∧ w'.cell? ⟨gb817, 3, none⟩ = some (.int .i64 a3_3) ∧ w'.cell? ⟨gb817, 4, none⟩ = some (.int .i64 a3_4) ∧ w'.cell? ⟨gb817, 5, none⟩ = some (.int .i64 a3_5)) (ds := []) #[false, false, false, false, false, false, false, false, false, false, false, false, false, false, false, false, false] (by kernel_rfl) rfl rfl ⟨(blk_cell BK814.out 0).trans rfl, (blk_cell BK814.out 1).trans rfl, (blk_cell BK814.out 2).trans rfl, (blk_cell BK815.out 0).trans rfl, (blk_cell BK815.out 1).trans rfl, (blk_cell BK815.out 2).trans rfl, (blk_cell BK837.out 0).trans rfl, (blk_cell BK837.out 1).trans rfl, (blk_cell BK837.out 2).trans rfl, (blk_cell BK837.out 3).trans rfl, (blk_cell BK837.out 4).trans rfl, (blk_cell BK837.out 5).trans rfl, (blk_cell BK817.out 0).trans rfl, (blk_cell BK817.out 1).trans rfl, (blk_cell BK817.out 2).trans rfl, (blk_cell BK817.out 3).trans rfl, (blk_cell BK817.out 4).trans rfl, (blk_cell BK817.out 5).trans rfl⟩ (fun hHeld => ?_); refine with_tabW relievolaw04_SlabHolds.tab7 relievolaw04_SlabHolds.bits7 (fun HT_ HW_ => ?_)
    generalize w45.drew = w46 at HO829 BK814 BK815 BK817 BK826 BK837 HB HO829 hHeld ⊢
    refine take_ (i := 0) (N := some 56) (v := ?_) (a' := ?_) #[true, false, false, false, false, false, false, false, false, false, false, false, false, false, false, false, false] rfl rfl (take_ofW HT_.out HW_.out (by kernel_rfl)) (fun _ _ _ h => h) (Or.inl ⟨by rfl, ?_⟩) hHeld ?_ ?_
    rotate_left
    ·rintro w' ⟨s0, s1, s2, s3, s4, s5, s6, s7, s8, s9, s10, s11, s12, s13, s14, s15, s16, s17⟩
     go_simp
     with_reducible rfl
    rotate_left
    ·simp only [Act.put, List.setIfInBounds_toArray, List.set_cons_zero, List.set_cons_succ, i64_w, i32_w]
     rfl
    refine take_ (i := 1) (N := some 57) (v := ?_) (a' := ?_) #[true, true, false, false, false, false, false, false, false, false, false, false, false, false, false, false, false] rfl rfl (take_ofW HT_.out HW_.out (by kernel_rfl)) (fun _ _ _ h => h) (Or.inl ⟨by rfl, ?_⟩) hHeld ?_ ?_
    rotate_left
    ·rintro w' ⟨s0, s1, s2, s3, s4, s5, s6, s7, s8, s9, s10, s11, s12, s13, s14, s15, s16, s17⟩
     go_simp
     with_reducible rfl
    rotate_left
    ·simp only [Act.put, List.setIfInBounds_toArray, List.set_cons_zero, List.set_cons_succ, i64_w, i32_w]
     rfl
    refine take_ (i := 2) (N := some 58) (v := ?_) (a' := ?_) #[true, true, true, false, false, false, false, false, false, false, false, false, false, false, false, false, false] rfl rfl (take_ofW HT_.out HW_.out (by kernel_rfl)) (fun _ _ _ h => h) (Or.inl ⟨by rfl, ?_⟩) hHeld ?_ ?_
    rotate_left
    ·rintro w' ⟨s0, s1, s2, s3, s4, s5, s6, s7, s8, s9, s10, s11, s12, s13, s14, s15, s16, s17⟩
     go_simp
     with_reducible rfl
    rotate_left
    ·simp only [Act.put, List.setIfInBounds_toArray, List.set_cons_zero, List.set_cons_succ, i64_w, i32_w]
     rfl
    refine take_ (i := 3) (N := some 59) (v := ?_) (a' := ?_) #[true, true, true, true, false, false, false, false, false, false, false, false, false, false, false, false, false] rfl rfl (take_ofW HT_.out HW_.out (by kernel_rfl)) (fun _ _ _ h => h) (Or.inl ⟨by rfl, ?_⟩) hHeld ?_ ?_
    rotate_left
    ·rintro w' ⟨s0, s1, s2, s3, s4, s5, s6, s7, s8, s9, s10, s11, s12, s13, s14, s15, s16, s17⟩
     go_simp
     with_reducible rfl
    rotate_left
    ·simp only [Act.put, List.setIfInBounds_toArray, List.set_cons_zero, List.set_cons_succ, i64_w, i32_w]
     rfl
    refine join_ (σ := Nat × Nat) 4 #[true, true, true, true, true, true, true, true, true, true, true, true, true, false, false, false, false] (fun s_ => [(60, .agg #[.int .i64 t838, .int .i64 t839, .int .i64 t840, .int .i64 t841, .int .i64 t842, .int .i64 t843]), (61, .tuple #[.agg #[.int .i64 t844, .int .i64 t845], .agg #[.int .i64 t846, .int .i64 t847], .bool t848, .int .i64 t849]), (14, .pointer (some ⟨s_.1, 0, none⟩)), (15, .pointer (some ⟨s_.2, 0, none⟩)), (55, .tuple #[.agg #[.int .i64 t844, .int .i64 t845], .agg #[.int .i64 t846, .int .i64 t847], .bool t848, .int .i64 t849]), (62, .agg #[.int .i64 t844, .int .i64 t845]), (63, .agg #[.int .i64 t846, .int .i64 t847]), (64, .bool t848), (65, .int .i64 t849)]) (fun s_ w' => (w'.cell? ⟨gb814, 0, none⟩ = some (.int .i64 a0_0) ∧ w'.cell? ⟨gb814, 1, none⟩ = some (.int .i64 a0_1) ∧ w'.cell? ⟨gb814, 2, none⟩ = some (.int .i64 a0_2) ∧ w'.cell? ⟨gb815, 0, none⟩ = some (.int .i64 a1_0) ∧ w'.cell? ⟨gb815, 1, none⟩ = some (.int .i64 a1_1) ∧ w'.cell? ⟨gb815, 2, none⟩ = some (.int .i64 a1_2) ∧ w'.cell? ⟨gb837, 0, none⟩ = some (.int .i64 t830) ∧ w'.cell? ⟨gb837, 1, none⟩ = some (.int .i64 t831) ∧ w'.cell? ⟨gb837, 2, none⟩ = some (.int .i64 t832) ∧ w'.cell? ⟨gb837, 3, none⟩ = some (.int .i64 t833) ∧ w'.cell? ⟨gb837, 4, none⟩ = some (.int .i64 t834) ∧ w'.cell? ⟨gb837, 5, none⟩ = some (.int .i64 t835) ∧ w'.cell? ⟨gb817, 0, none⟩ = some (.int .i64 a3_0) ∧ w'.cell? ⟨gb817, 1, none⟩ = some (.int .i64 a3_1) ∧ w'.cell? ⟨gb817, 2, none⟩ = some (.int .i64 a3_2) ∧ w'.cell? ⟨gb817, 3, none⟩ = some (.int .i64 a3_3) ∧ w'.cell? ⟨gb817, 4, none⟩ = some (.int .i64 a3_4) ∧ w'.cell? ⟨gb817, 5, none⟩ = some (.int .i64 a3_5)) ∧ (Kd.R k23 23 w' w.heap.size (fun k_ => k_ ≠ gb814 ∧ k_ ≠ gb815) (.slice Ao36 y827.length co36) y827) ∧ (w'.heap[gb814]? = some (.cells #[.int .i64 a0_0, .int .i64 a0_1, .int .i64 a0_2] 23 (0, 0))) ∧ (w'.heap[gb815]? = some (.cells #[.int .i64 a1_0, .int .i64 a1_1, .int .i64 a1_2] 23 (0, 0))) ∧ (w'.heap[gb817]? = some (.cells #[.int .i64 a3_0, .int .i64 a3_1, .int .i64 a3_2, .int .i64 a3_3, .int .i64 a3_4, .int .i64 a3_5] 56 (0, 0))) ∧ (w'.heap[gb826]? = some (.cells #[.int .i64 t819, .int .i64 t820, .bool t821, .int .i64 t822, .int .i64 t823] 30 (0, 0))) ∧ (w'.heap[gb837]? = some (.cells #[.int .i64 t830, .int .i64 t831, .int .i64 t832, .int .i64 t833, .int .i64 t834, .int .i64 t835] 56 (0, 0))) ∧ (w'.heap[s_.1]? = some (.cells #[.int .i64 0, .int .i64 0] 28 (0, 0))) ∧ (w'.heap[s_.2]? = some (.cells #[.int .i64 0, .int .i64 0] 28 (0, 0))) ∧ (w.heap.size ≤ s_.1) ∧ (gb814 ≠ s_.1) ∧ (s_.1 ≠ gb814) ∧ (gb815 ≠ s_.1) ∧ (s_.1 ≠ gb815) ∧ (gb817 ≠ s_.1) ∧ (s_.1 ≠ gb817) ∧ (gb826 ≠ s_.1) ∧ (s_.1 ≠ gb826) ∧ (gb837 ≠ s_.1) ∧ (s_.1 ≠ gb837) ∧ (s_.2 ≠ s_.1) ∧ (s_.1 ≠ s_.2) ∧ (w.heap.size ≤ s_.2) ∧ (gb814 ≠ s_.2) ∧ (s_.2 ≠ gb814) ∧ (gb815 ≠ s_.2) ∧ (s_.2 ≠ gb815) ∧ (gb817 ≠ s_.2) ∧ (s_.2 ≠ gb817) ∧ (gb826 ≠ s_.2) ∧ (s_.2 ≠ gb826) ∧ (gb837 ≠ s_.2) ∧ (s_.2 ≠ gb837) ∧ (Below w.heap.size w w')) ?_ ?_
    rotate_left
    ·intro hJ4_5_11_12
     refine join_ (σ := Nat) 5 #[true, true, true, true, true, true, true, true, true, true, true, true, false, false, false, false, false] (fun s_ => [(60, .agg #[.int .i64 t838, .int .i64 t839, .int .i64 t840, .int .i64 t841, .int .i64 t842, .int .i64 t843]), (61, .tuple #[.agg #[.int .i64 t844, .int .i64 t845], .agg #[.int .i64 t846, .int .i64 t847], .bool t848, .int .i64 t849]), (14, .pointer (some ⟨s_, 0, none⟩)), (55, .tuple #[.agg #[.int .i64 t844, .int .i64 t845], .agg #[.int .i64 t846, .int .i64 t847], .bool t848, .int .i64 t849]), (62, .agg #[.int .i64 t844, .int .i64 t845]), (63, .agg #[.int .i64 t846, .int .i64 t847]), (64, .bool t848), (65, .int .i64 t849)]) (fun s_ w' => (w'.cell? ⟨gb814, 0, none⟩ = some (.int .i64 a0_0) ∧ w'.cell? ⟨gb814, 1, none⟩ = some (.int .i64 a0_1) ∧ w'.cell? ⟨gb814, 2, none⟩ = some (.int .i64 a0_2) ∧ w'.cell? ⟨gb815, 0, none⟩ = some (.int .i64 a1_0) ∧ w'.cell? ⟨gb815, 1, none⟩ = some (.int .i64 a1_1) ∧ w'.cell? ⟨gb815, 2, none⟩ = some (.int .i64 a1_2) ∧ w'.cell? ⟨gb837, 0, none⟩ = some (.int .i64 t830) ∧ w'.cell? ⟨gb837, 1, none⟩ = some (.int .i64 t831) ∧ w'.cell? ⟨gb837, 2, none⟩ = some (.int .i64 t832) ∧ w'.cell? ⟨gb837, 3, none⟩ = some (.int .i64 t833) ∧ w'.cell? ⟨gb837, 4, none⟩ = some (.int .i64 t834) ∧ w'.cell? ⟨gb837, 5, none⟩ = some (.int .i64 t835) ∧ w'.cell? ⟨gb817, 0, none⟩ = some (.int .i64 a3_0) ∧ w'.cell? ⟨gb817, 1, none⟩ = some (.int .i64 a3_1) ∧ w'.cell? ⟨gb817, 2, none⟩ = some (.int .i64 a3_2) ∧ w'.cell? ⟨gb817, 3, none⟩ = some (.int .i64 a3_3) ∧ w'.cell? ⟨gb817, 4, none⟩ = some (.int .i64 a3_4) ∧ w'.cell? ⟨gb817, 5, none⟩ = some (.int .i64 a3_5)) ∧ (Kd.R k23 23 w' w.heap.size (fun k_ => k_ ≠ gb814 ∧ k_ ≠ gb815) (.slice Ao36 y827.length co36) y827) ∧ (w'.heap[gb814]? = some (.cells #[.int .i64 a0_0, .int .i64 a0_1, .int .i64 a0_2] 23 (0, 0))) ∧ (w'.heap[gb815]? = some (.cells #[.int .i64 a1_0, .int .i64 a1_1, .int .i64 a1_2] 23 (0, 0))) ∧ (w'.heap[gb817]? = some (.cells #[.int .i64 a3_0, .int .i64 a3_1, .int .i64 a3_2, .int .i64 a3_3, .int .i64 a3_4, .int .i64 a3_5] 56 (0, 0))) ∧ (w'.heap[gb826]? = some (.cells #[.int .i64 t819, .int .i64 t820, .bool t821, .int .i64 t822, .int .i64 t823] 30 (0, 0))) ∧ (w'.heap[gb837]? = some (.cells #[.int .i64 t830, .int .i64 t831, .int .i64 t832, .int .i64 t833, .int .i64 t834, .int .i64 t835] 56 (0, 0))) ∧ (w'.heap[s_]? = some (.cells #[.int .i64 0, .int .i64 0] 28 (0, 0))) ∧ (w.heap.size ≤ s_) ∧ (gb814 ≠ s_) ∧ (s_ ≠ gb814) ∧ (gb815 ≠ s_) ∧ (s_ ≠ gb815) ∧ (gb817 ≠ s_) ∧ (s_ ≠ gb817) ∧ (gb826 ≠ s_) ∧ (s_ ≠ gb826) ∧ (gb837 ≠ s_) ∧ (s_ ≠ gb837) ∧ (Below w.heap.size w w')) ?_ ?_
     rotate_left
     ·intro hJ4_5_11
      refine join_ (σ := Nat) 5 #[true, true, true, true, true, true, true, true, true, true, true, false, true, false, false, false, false] (fun s_ => [(60, .agg #[.int .i64 t838, .int .i64 t839, .int .i64 t840, .int .i64 t841, .int .i64 t842, .int .i64 t843]), (61, .tuple #[.agg #[.int .i64 t844, .int .i64 t845], .agg #[.int .i64 t846, .int .i64 t847], .bool t848, .int .i64 t849]), (15, .pointer (some ⟨s_, 0, none⟩)), (55, .tuple #[.agg #[.int .i64 t844, .int .i64 t845], .agg #[.int .i64 t846, .int .i64 t847], .bool t848, .int .i64 t849]), (62, .agg #[.int .i64 t844, .int .i64 t845]), (63, .agg #[.int .i64 t846, .int .i64 t847]), (64, .bool t848), (65, .int .i64 t849)]) (fun s_ w' => (w'.cell? ⟨gb814, 0, none⟩ = some (.int .i64 a0_0) ∧ w'.cell? ⟨gb814, 1, none⟩ = some (.int .i64 a0_1) ∧ w'.cell? ⟨gb814, 2, none⟩ = some (.int .i64 a0_2) ∧ w'.cell? ⟨gb815, 0, none⟩ = some (.int .i64 a1_0) ∧ w'.cell? ⟨gb815, 1, none⟩ = some (.int .i64 a1_1) ∧ w'.cell? ⟨gb815, 2, none⟩ = some (.int .i64 a1_2) ∧ w'.cell? ⟨gb837, 0, none⟩ = some (.int .i64 t830) ∧ w'.cell? ⟨gb837, 1, none⟩ = some (.int .i64 t831) ∧ w'.cell? ⟨gb837, 2, none⟩ = some (.int .i64 t832) ∧ w'.cell? ⟨gb837, 3, none⟩ = some (.int .i64 t833) ∧ w'.cell? ⟨gb837, 4, none⟩ = some (.int .i64 t834) ∧ w'.cell? ⟨gb837, 5, none⟩ = some (.int .i64 t835) ∧ w'.cell? ⟨gb817, 0, none⟩ = some (.int .i64 a3_0) ∧ w'.cell? ⟨gb817, 1, none⟩ = some (.int .i64 a3_1) ∧ w'.cell? ⟨gb817, 2, none⟩ = some (.int .i64 a3_2) ∧ w'.cell? ⟨gb817, 3, none⟩ = some (.int .i64 a3_3) ∧ w'.cell? ⟨gb817, 4, none⟩ = some (.int .i64 a3_4) ∧ w'.cell? ⟨gb817, 5, none⟩ = some (.int .i64 a3_5)) ∧ (Kd.R k23 23 w' w.heap.size (fun k_ => k_ ≠ gb814 ∧ k_ ≠ gb815) (.slice Ao36 y827.length co36) y827) ∧ (w'.heap[gb814]? = some (.cells #[.int .i64 a0_0, .int .i64 a0_1, .int .i64 a0_2] 23 (0, 0))) ∧ (w'.heap[gb815]? = some (.cells #[.int .i64 a1_0, .int .i64 a1_1, .int .i64 a1_2] 23 (0, 0))) ∧ (w'.heap[gb817]? = some (.cells #[.int .i64 a3_0, .int .i64 a3_1, .int .i64 a3_2, .int .i64 a3_3, .int .i64 a3_4, .int .i64 a3_5] 56 (0, 0))) ∧ (w'.heap[gb826]? = some (.cells #[.int .i64 t819, .int .i64 t820, .bool t821, .int .i64 t822, .int .i64 t823] 30 (0, 0))) ∧ (w'.heap[gb837]? = some (.cells #[.int .i64 t830, .int .i64 t831, .int .i64 t832, .int .i64 t833, .int .i64 t834, .int .i64 t835] 56 (0, 0))) ∧ (w'.heap[s_]? = some (.cells #[.int .i64 0, .int .i64 0] 28 (0, 0))) ∧ (w.heap.size ≤ s_) ∧ (gb814 ≠ s_) ∧ (s_ ≠ gb814) ∧ (gb815 ≠ s_) ∧ (s_ ≠ gb815) ∧ (gb817 ≠ s_) ∧ (s_ ≠ gb817) ∧ (gb826 ≠ s_) ∧ (s_ ≠ gb826) ∧ (gb837 ≠ s_) ∧ (s_ ≠ gb837) ∧ (Below w.heap.size w w')) ?_ ?_
      rotate_left
      ·intro hJ4_5_12
       refine join_ (σ := Nat × Nat) 10 #[true, true, true, true, true, false, false, false, false, false, false, true, true, false, false, false, false] (fun s_ => [(60, .agg #[.int .i64 t838, .int .i64 t839, .int .i64 t840, .int .i64 t841, .int .i64 t842, .int .i64 t843]), (14, .pointer (some ⟨s_.1, 0, none⟩)), (15, .pointer (some ⟨s_.2, 0, none⟩))]) (fun s_ w' => (w'.cell? ⟨gb814, 0, none⟩ = some (.int .i64 a0_0) ∧ w'.cell? ⟨gb814, 1, none⟩ = some (.int .i64 a0_1) ∧ w'.cell? ⟨gb814, 2, none⟩ = some (.int .i64 a0_2) ∧ w'.cell? ⟨gb815, 0, none⟩ = some (.int .i64 a1_0) ∧ w'.cell? ⟨gb815, 1, none⟩ = some (.int .i64 a1_1) ∧ w'.cell? ⟨gb815, 2, none⟩ = some (.int .i64 a1_2) ∧ w'.cell? ⟨gb837, 0, none⟩ = some (.int .i64 t830) ∧ w'.cell? ⟨gb837, 1, none⟩ = some (.int .i64 t831) ∧ w'.cell? ⟨gb837, 2, none⟩ = some (.int .i64 t832) ∧ w'.cell? ⟨gb837, 3, none⟩ = some (.int .i64 t833) ∧ w'.cell? ⟨gb837, 4, none⟩ = some (.int .i64 t834) ∧ w'.cell? ⟨gb837, 5, none⟩ = some (.int .i64 t835) ∧ w'.cell? ⟨gb817, 0, none⟩ = some (.int .i64 a3_0) ∧ w'.cell? ⟨gb817, 1, none⟩ = some (.int .i64 a3_1) ∧ w'.cell? ⟨gb817, 2, none⟩ = some (.int .i64 a3_2) ∧ w'.cell? ⟨gb817, 3, none⟩ = some (.int .i64 a3_3) ∧ w'.cell? ⟨gb817, 4, none⟩ = some (.int .i64 a3_4) ∧ w'.cell? ⟨gb817, 5, none⟩ = some (.int .i64 a3_5)) ∧ (Kd.R k23 23 w' w.heap.size (fun k_ => k_ ≠ gb814 ∧ k_ ≠ gb815) (.slice Ao36 y827.length co36) y827) ∧ (w'.heap[gb814]? = some (.cells #[.int .i64 a0_0, .int .i64 a0_1, .int .i64 a0_2] 23 (0, 0))) ∧ (w'.heap[gb815]? = some (.cells #[.int .i64 a1_0, .int .i64 a1_1, .int .i64 a1_2] 23 (0, 0))) ∧ (w'.heap[gb817]? = some (.cells #[.int .i64 a3_0, .int .i64 a3_1, .int .i64 a3_2, .int .i64 a3_3, .int .i64 a3_4, .int .i64 a3_5] 56 (0, 0))) ∧ (w'.heap[gb826]? = some (.cells #[.int .i64 t819, .int .i64 t820, .bool t821, .int .i64 t822, .int .i64 t823] 30 (0, 0))) ∧ (w'.heap[gb837]? = some (.cells #[.int .i64 t830, .int .i64 t831, .int .i64 t832, .int .i64 t833, .int .i64 t834, .int .i64 t835] 56 (0, 0))) ∧ (w'.heap[s_.1]? = some (.cells #[.int .i64 0, .int .i64 0] 28 (0, 0))) ∧ (w'.heap[s_.2]? = some (.cells #[.int .i64 0, .int .i64 0] 28 (0, 0))) ∧ (w.heap.size ≤ s_.1) ∧ (gb814 ≠ s_.1) ∧ (s_.1 ≠ gb814) ∧ (gb815 ≠ s_.1) ∧ (s_.1 ≠ gb815) ∧ (gb817 ≠ s_.1) ∧ (s_.1 ≠ gb817) ∧ (gb826 ≠ s_.1) ∧ (s_.1 ≠ gb826) ∧ (gb837 ≠ s_.1) ∧ (s_.1 ≠ gb837) ∧ (s_.2 ≠ s_.1) ∧ (s_.1 ≠ s_.2) ∧ (w.heap.size ≤ s_.2) ∧ (gb814 ≠ s_.2) ∧ (s_.2 ≠ gb814) ∧ (gb815 ≠ s_.2) ∧ (s_.2 ≠ gb815) ∧ (gb817 ≠ s_.2) ∧ (s_.2 ≠ gb817) ∧ (gb826 ≠ s_.2) ∧ (s_.2 ≠ gb826) ∧ (gb837 ≠ s_.2) ∧ (s_.2 ≠ gb837) ∧ (Below w.heap.size w w')) ?_ ?_
       rotate_left
       ·intro hJ4_11_12
        refine join_ (σ := Unit) 6 #[true, true, true, true, true, true, true, true, true, true, true, false, false, false, false, false, false] (fun s_ => [(60, .agg #[.int .i64 t838, .int .i64 t839, .int .i64 t840, .int .i64 t841, .int .i64 t842, .int .i64 t843]), (61, .tuple #[.agg #[.int .i64 t844, .int .i64 t845], .agg #[.int .i64 t846, .int .i64 t847], .bool t848, .int .i64 t849]), (55, .tuple #[.agg #[.int .i64 t844, .int .i64 t845], .agg #[.int .i64 t846, .int .i64 t847], .bool t848, .int .i64 t849]), (62, .agg #[.int .i64 t844, .int .i64 t845]), (63, .agg #[.int .i64 t846, .int .i64 t847]), (64, .bool t848), (65, .int .i64 t849)]) (fun s_ w' => (w'.cell? ⟨gb814, 0, none⟩ = some (.int .i64 a0_0) ∧ w'.cell? ⟨gb814, 1, none⟩ = some (.int .i64 a0_1) ∧ w'.cell? ⟨gb814, 2, none⟩ = some (.int .i64 a0_2) ∧ w'.cell? ⟨gb815, 0, none⟩ = some (.int .i64 a1_0) ∧ w'.cell? ⟨gb815, 1, none⟩ = some (.int .i64 a1_1) ∧ w'.cell? ⟨gb815, 2, none⟩ = some (.int .i64 a1_2) ∧ w'.cell? ⟨gb837, 0, none⟩ = some (.int .i64 t830) ∧ w'.cell? ⟨gb837, 1, none⟩ = some (.int .i64 t831) ∧ w'.cell? ⟨gb837, 2, none⟩ = some (.int .i64 t832) ∧ w'.cell? ⟨gb837, 3, none⟩ = some (.int .i64 t833) ∧ w'.cell? ⟨gb837, 4, none⟩ = some (.int .i64 t834) ∧ w'.cell? ⟨gb837, 5, none⟩ = some (.int .i64 t835) ∧ w'.cell? ⟨gb817, 0, none⟩ = some (.int .i64 a3_0) ∧ w'.cell? ⟨gb817, 1, none⟩ = some (.int .i64 a3_1) ∧ w'.cell? ⟨gb817, 2, none⟩ = some (.int .i64 a3_2) ∧ w'.cell? ⟨gb817, 3, none⟩ = some (.int .i64 a3_3) ∧ w'.cell? ⟨gb817, 4, none⟩ = some (.int .i64 a3_4) ∧ w'.cell? ⟨gb817, 5, none⟩ = some (.int .i64 a3_5)) ∧ (Kd.R k23 23 w' w.heap.size (fun k_ => k_ ≠ gb814 ∧ k_ ≠ gb815) (.slice Ao36 y827.length co36) y827) ∧ (w'.heap[gb814]? = some (.cells #[.int .i64 a0_0, .int .i64 a0_1, .int .i64 a0_2] 23 (0, 0))) ∧ (w'.heap[gb815]? = some (.cells #[.int .i64 a1_0, .int .i64 a1_1, .int .i64 a1_2] 23 (0, 0))) ∧ (w'.heap[gb817]? = some (.cells #[.int .i64 a3_0, .int .i64 a3_1, .int .i64 a3_2, .int .i64 a3_3, .int .i64 a3_4, .int .i64 a3_5] 56 (0, 0))) ∧ (w'.heap[gb826]? = some (.cells #[.int .i64 t819, .int .i64 t820, .bool t821, .int .i64 t822, .int .i64 t823] 30 (0, 0))) ∧ (w'.heap[gb837]? = some (.cells #[.int .i64 t830, .int .i64 t831, .int .i64 t832, .int .i64 t833, .int .i64 t834, .int .i64 t835] 56 (0, 0))) ∧ (Below w.heap.size w w')) ?_ ?_
        rotate_left
        ·intro hJ4_5
         refine join_ (σ := Nat) 11 #[true, true, true, true, true, false, false, false, false, false, false, true, false, false, false, false, false] (fun s_ => [(60, .agg #[.int .i64 t838, .int .i64 t839, .int .i64 t840, .int .i64 t841, .int .i64 t842, .int .i64 t843]), (14, .pointer (some ⟨s_, 0, none⟩))]) (fun s_ w' => (w'.cell? ⟨gb814, 0, none⟩ = some (.int .i64 a0_0) ∧ w'.cell? ⟨gb814, 1, none⟩ = some (.int .i64 a0_1) ∧ w'.cell? ⟨gb814, 2, none⟩ = some (.int .i64 a0_2) ∧ w'.cell? ⟨gb815, 0, none⟩ = some (.int .i64 a1_0) ∧ w'.cell? ⟨gb815, 1, none⟩ = some (.int .i64 a1_1) ∧ w'.cell? ⟨gb815, 2, none⟩ = some (.int .i64 a1_2) ∧ w'.cell? ⟨gb837, 0, none⟩ = some (.int .i64 t830) ∧ w'.cell? ⟨gb837, 1, none⟩ = some (.int .i64 t831) ∧ w'.cell? ⟨gb837, 2, none⟩ = some (.int .i64 t832) ∧ w'.cell? ⟨gb837, 3, none⟩ = some (.int .i64 t833) ∧ w'.cell? ⟨gb837, 4, none⟩ = some (.int .i64 t834) ∧ w'.cell? ⟨gb837, 5, none⟩ = some (.int .i64 t835) ∧ w'.cell? ⟨gb817, 0, none⟩ = some (.int .i64 a3_0) ∧ w'.cell? ⟨gb817, 1, none⟩ = some (.int .i64 a3_1) ∧ w'.cell? ⟨gb817, 2, none⟩ = some (.int .i64 a3_2) ∧ w'.cell? ⟨gb817, 3, none⟩ = some (.int .i64 a3_3) ∧ w'.cell? ⟨gb817, 4, none⟩ = some (.int .i64 a3_4) ∧ w'.cell? ⟨gb817, 5, none⟩ = some (.int .i64 a3_5)) ∧ (Kd.R k23 23 w' w.heap.size (fun k_ => k_ ≠ gb814 ∧ k_ ≠ gb815) (.slice Ao36 y827.length co36) y827) ∧ (w'.heap[gb814]? = some (.cells #[.int .i64 a0_0, .int .i64 a0_1, .int .i64 a0_2] 23 (0, 0))) ∧ (w'.heap[gb815]? = some (.cells #[.int .i64 a1_0, .int .i64 a1_1, .int .i64 a1_2] 23 (0, 0))) ∧ (w'.heap[gb817]? = some (.cells #[.int .i64 a3_0, .int .i64 a3_1, .int .i64 a3_2, .int .i64 a3_3, .int .i64 a3_4, .int .i64 a3_5] 56 (0, 0))) ∧ (w'.heap[gb826]? = some (.cells #[.int .i64 t819, .int .i64 t820, .bool t821, .int .i64 t822, .int .i64 t823] 30 (0, 0))) ∧ (w'.heap[gb837]? = some (.cells #[.int .i64 t830, .int .i64 t831, .int .i64 t832, .int .i64 t833, .int .i64 t834, .int .i64 t835] 56 (0, 0))) ∧ (w'.heap[s_]? = some (.cells #[.int .i64 0, .int .i64 0] 28 (0, 0))) ∧ (w.heap.size ≤ s_) ∧ (gb814 ≠ s_) ∧ (s_ ≠ gb814) ∧ (gb815 ≠ s_) ∧ (s_ ≠ gb815) ∧ (gb817 ≠ s_) ∧ (s_ ≠ gb817) ∧ (gb826 ≠ s_) ∧ (s_ ≠ gb826) ∧ (gb837 ≠ s_) ∧ (s_ ≠ gb837) ∧ (Below w.heap.size w w')) ?_ ?_
         rotate_left
         ·intro hJ4_11
          refine join_ (σ := Nat) 11 #[true, true, true, true, true, false, false, false, false, false, false, false, true, false, false, false, false] (fun s_ => [(60, .agg #[.int .i64 t838, .int .i64 t839, .int .i64 t840, .int .i64 t841, .int .i64 t842, .int .i64 t843]), (15, .pointer (some ⟨s_, 0, none⟩))]) (fun s_ w' => (w'.cell? ⟨gb814, 0, none⟩ = some (.int .i64 a0_0) ∧ w'.cell? ⟨gb814, 1, none⟩ = some (.int .i64 a0_1) ∧ w'.cell? ⟨gb814, 2, none⟩ = some (.int .i64 a0_2) ∧ w'.cell? ⟨gb815, 0, none⟩ = some (.int .i64 a1_0) ∧ w'.cell? ⟨gb815, 1, none⟩ = some (.int .i64 a1_1) ∧ w'.cell? ⟨gb815, 2, none⟩ = some (.int .i64 a1_2) ∧ w'.cell? ⟨gb837, 0, none⟩ = some (.int .i64 t830) ∧ w'.cell? ⟨gb837, 1, none⟩ = some (.int .i64 t831) ∧ w'.cell? ⟨gb837, 2, none⟩ = some (.int .i64 t832) ∧ w'.cell? ⟨gb837, 3, none⟩ = some (.int .i64 t833) ∧ w'.cell? ⟨gb837, 4, none⟩ = some (.int .i64 t834) ∧ w'.cell? ⟨gb837, 5, none⟩ = some (.int .i64 t835) ∧ w'.cell? ⟨gb817, 0, none⟩ = some (.int .i64 a3_0) ∧ w'.cell? ⟨gb817, 1, none⟩ = some (.int .i64 a3_1) ∧ w'.cell? ⟨gb817, 2, none⟩ = some (.int .i64 a3_2) ∧ w'.cell? ⟨gb817, 3, none⟩ = some (.int .i64 a3_3) ∧ w'.cell? ⟨gb817, 4, none⟩ = some (.int .i64 a3_4) ∧ w'.cell? ⟨gb817, 5, none⟩ = some (.int .i64 a3_5)) ∧ (Kd.R k23 23 w' w.heap.size (fun k_ => k_ ≠ gb814 ∧ k_ ≠ gb815) (.slice Ao36 y827.length co36) y827) ∧ (w'.heap[gb814]? = some (.cells #[.int .i64 a0_0, .int .i64 a0_1, .int .i64 a0_2] 23 (0, 0))) ∧ (w'.heap[gb815]? = some (.cells #[.int .i64 a1_0, .int .i64 a1_1, .int .i64 a1_2] 23 (0, 0))) ∧ (w'.heap[gb817]? = some (.cells #[.int .i64 a3_0, .int .i64 a3_1, .int .i64 a3_2, .int .i64 a3_3, .int .i64 a3_4, .int .i64 a3_5] 56 (0, 0))) ∧ (w'.heap[gb826]? = some (.cells #[.int .i64 t819, .int .i64 t820, .bool t821, .int .i64 t822, .int .i64 t823] 30 (0, 0))) ∧ (w'.heap[gb837]? = some (.cells #[.int .i64 t830, .int .i64 t831, .int .i64 t832, .int .i64 t833, .int .i64 t834, .int .i64 t835] 56 (0, 0))) ∧ (w'.heap[s_]? = some (.cells #[.int .i64 0, .int .i64 0] 28 (0, 0))) ∧ (w.heap.size ≤ s_) ∧ (gb814 ≠ s_) ∧ (s_ ≠ gb814) ∧ (gb815 ≠ s_) ∧ (s_ ≠ gb815) ∧ (gb817 ≠ s_) ∧ (s_ ≠ gb817) ∧ (gb826 ≠ s_) ∧ (s_ ≠ gb826) ∧ (gb837 ≠ s_) ∧ (s_ ≠ gb837) ∧ (Below w.heap.size w w')) ?_ ?_
          rotate_left
          ·intro hJ4_12
           refine join_ (σ := Nat × Nat) 11 #[true, true, true, true, false, false, false, false, false, false, false, true, true, false, false, false, false] (fun s_ => [(14, .pointer (some ⟨s_.1, 0, none⟩)), (15, .pointer (some ⟨s_.2, 0, none⟩))]) (fun s_ w' => (w'.cell? ⟨gb814, 0, none⟩ = some (.int .i64 a0_0) ∧ w'.cell? ⟨gb814, 1, none⟩ = some (.int .i64 a0_1) ∧ w'.cell? ⟨gb814, 2, none⟩ = some (.int .i64 a0_2) ∧ w'.cell? ⟨gb815, 0, none⟩ = some (.int .i64 a1_0) ∧ w'.cell? ⟨gb815, 1, none⟩ = some (.int .i64 a1_1) ∧ w'.cell? ⟨gb815, 2, none⟩ = some (.int .i64 a1_2) ∧ w'.cell? ⟨gb837, 0, none⟩ = some (.int .i64 t830) ∧ w'.cell? ⟨gb837, 1, none⟩ = some (.int .i64 t831) ∧ w'.cell? ⟨gb837, 2, none⟩ = some (.int .i64 t832) ∧ w'.cell? ⟨gb837, 3, none⟩ = some (.int .i64 t833) ∧ w'.cell? ⟨gb837, 4, none⟩ = some (.int .i64 t834) ∧ w'.cell? ⟨gb837, 5, none⟩ = some (.int .i64 t835) ∧ w'.cell? ⟨gb817, 0, none⟩ = some (.int .i64 a3_0) ∧ w'.cell? ⟨gb817, 1, none⟩ = some (.int .i64 a3_1) ∧ w'.cell? ⟨gb817, 2, none⟩ = some (.int .i64 a3_2) ∧ w'.cell? ⟨gb817, 3, none⟩ = some (.int .i64 a3_3) ∧ w'.cell? ⟨gb817, 4, none⟩ = some (.int .i64 a3_4) ∧ w'.cell? ⟨gb817, 5, none⟩ = some (.int .i64 a3_5)) ∧ (Kd.R k23 23 w' w.heap.size (fun k_ => k_ ≠ gb814 ∧ k_ ≠ gb815) (.slice Ao36 y827.length co36) y827) ∧ (w'.heap[gb814]? = some (.cells #[.int .i64 a0_0, .int .i64 a0_1, .int .i64 a0_2] 23 (0, 0))) ∧ (w'.heap[gb815]? = some (.cells #[.int .i64 a1_0, .int .i64 a1_1, .int .i64 a1_2] 23 (0, 0))) ∧ (w'.heap[gb817]? = some (.cells #[.int .i64 a3_0, .int .i64 a3_1, .int .i64 a3_2, .int .i64 a3_3, .int .i64 a3_4, .int .i64 a3_5] 56 (0, 0))) ∧ (w'.heap[gb826]? = some (.cells #[.int .i64 t819, .int .i64 t820, .bool t821, .int .i64 t822, .int .i64 t823] 30 (0, 0))) ∧ (w'.heap[gb837]? = some (.cells #[.int .i64 t830, .int .i64 t831, .int .i64 t832, .int .i64 t833, .int .i64 t834, .int .i64 t835] 56 (0, 0))) ∧ (w'.heap[s_.1]? = some (.cells #[.int .i64 0, .int .i64 0] 28 (0, 0))) ∧ (w'.heap[s_.2]? = some (.cells #[.int .i64 0, .int .i64 0] 28 (0, 0))) ∧ (w.heap.size ≤ s_.1) ∧ (gb814 ≠ s_.1) ∧ (s_.1 ≠ gb814) ∧ (gb815 ≠ s_.1) ∧ (s_.1 ≠ gb815) ∧ (gb817 ≠ s_.1) ∧ (s_.1 ≠ gb817) ∧ (gb826 ≠ s_.1) ∧ (s_.1 ≠ gb826) ∧ (gb837 ≠ s_.1) ∧ (s_.1 ≠ gb837) ∧ (s_.2 ≠ s_.1) ∧ (s_.1 ≠ s_.2) ∧ (w.heap.size ≤ s_.2) ∧ (gb814 ≠ s_.2) ∧ (s_.2 ≠ gb814) ∧ (gb815 ≠ s_.2) ∧ (s_.2 ≠ gb815) ∧ (gb817 ≠ s_.2) ∧ (s_.2 ≠ gb817) ∧ (gb826 ≠ s_.2) ∧ (s_.2 ≠ gb826) ∧ (gb837 ≠ s_.2) ∧ (s_.2 ≠ gb837) ∧ (Below w.heap.size w w')) ?_ ?_
           rotate_left
           ·intro hJ11_12
            refine join_ (σ := Unit) 12 #[true, true, true, true, true, false, false, false, false, false, false, false, false, false, false, false, false] (fun s_ => [(60, .agg #[.int .i64 t838, .int .i64 t839, .int .i64 t840, .int .i64 t841, .int .i64 t842, .int .i64 t843])]) (fun s_ w' => (w'.cell? ⟨gb814, 0, none⟩ = some (.int .i64 a0_0) ∧ w'.cell? ⟨gb814, 1, none⟩ = some (.int .i64 a0_1) ∧ w'.cell? ⟨gb814, 2, none⟩ = some (.int .i64 a0_2) ∧ w'.cell? ⟨gb815, 0, none⟩ = some (.int .i64 a1_0) ∧ w'.cell? ⟨gb815, 1, none⟩ = some (.int .i64 a1_1) ∧ w'.cell? ⟨gb815, 2, none⟩ = some (.int .i64 a1_2) ∧ w'.cell? ⟨gb837, 0, none⟩ = some (.int .i64 t830) ∧ w'.cell? ⟨gb837, 1, none⟩ = some (.int .i64 t831) ∧ w'.cell? ⟨gb837, 2, none⟩ = some (.int .i64 t832) ∧ w'.cell? ⟨gb837, 3, none⟩ = some (.int .i64 t833) ∧ w'.cell? ⟨gb837, 4, none⟩ = some (.int .i64 t834) ∧ w'.cell? ⟨gb837, 5, none⟩ = some (.int .i64 t835) ∧ w'.cell? ⟨gb817, 0, none⟩ = some (.int .i64 a3_0) ∧ w'.cell? ⟨gb817, 1, none⟩ = some (.int .i64 a3_1) ∧ w'.cell? ⟨gb817, 2, none⟩ = some (.int .i64 a3_2) ∧ w'.cell? ⟨gb817, 3, none⟩ = some (.int .i64 a3_3) ∧ w'.cell? ⟨gb817, 4, none⟩ = some (.int .i64 a3_4) ∧ w'.cell? ⟨gb817, 5, none⟩ = some (.int .i64 a3_5)) ∧ (Kd.R k23 23 w' w.heap.size (fun k_ => k_ ≠ gb814 ∧ k_ ≠ gb815) (.slice Ao36 y827.length co36) y827) ∧ (w'.heap[gb814]? = some (.cells #[.int .i64 a0_0, .int .i64 a0_1, .int .i64 a0_2] 23 (0, 0))) ∧ (w'.heap[gb815]? = some (.cells #[.int .i64 a1_0, .int .i64 a1_1, .int .i64 a1_2] 23 (0, 0))) ∧ (w'.heap[gb817]? = some (.cells #[.int .i64 a3_0, .int .i64 a3_1, .int .i64 a3_2, .int .i64 a3_3, .int .i64 a3_4, .int .i64 a3_5] 56 (0, 0))) ∧ (w'.heap[gb826]? = some (.cells #[.int .i64 t819, .int .i64 t820, .bool t821, .int .i64 t822, .int .i64 t823] 30 (0, 0))) ∧ (w'.heap[gb837]? = some (.cells #[.int .i64 t830, .int .i64 t831, .int .i64 t832, .int .i64 t833, .int .i64 t834, .int .i64 t835] 56 (0, 0))) ∧ (Below w.heap.size w w')) ?_ ?_
            rotate_left
            ·intro hJ4
             refine join_ (σ := Nat) 12 #[true, true, true, true, false, false, false, false, false, false, false, true, false, false, false, false, false] (fun s_ => [(14, .pointer (some ⟨s_, 0, none⟩))]) (fun s_ w' => (w'.cell? ⟨gb814, 0, none⟩ = some (.int .i64 a0_0) ∧ w'.cell? ⟨gb814, 1, none⟩ = some (.int .i64 a0_1) ∧ w'.cell? ⟨gb814, 2, none⟩ = some (.int .i64 a0_2) ∧ w'.cell? ⟨gb815, 0, none⟩ = some (.int .i64 a1_0) ∧ w'.cell? ⟨gb815, 1, none⟩ = some (.int .i64 a1_1) ∧ w'.cell? ⟨gb815, 2, none⟩ = some (.int .i64 a1_2) ∧ w'.cell? ⟨gb837, 0, none⟩ = some (.int .i64 t830) ∧ w'.cell? ⟨gb837, 1, none⟩ = some (.int .i64 t831) ∧ w'.cell? ⟨gb837, 2, none⟩ = some (.int .i64 t832) ∧ w'.cell? ⟨gb837, 3, none⟩ = some (.int .i64 t833) ∧ w'.cell? ⟨gb837, 4, none⟩ = some (.int .i64 t834) ∧ w'.cell? ⟨gb837, 5, none⟩ = some (.int .i64 t835) ∧ w'.cell? ⟨gb817, 0, none⟩ = some (.int .i64 a3_0) ∧ w'.cell? ⟨gb817, 1, none⟩ = some (.int .i64 a3_1) ∧ w'.cell? ⟨gb817, 2, none⟩ = some (.int .i64 a3_2) ∧ w'.cell? ⟨gb817, 3, none⟩ = some (.int .i64 a3_3) ∧ w'.cell? ⟨gb817, 4, none⟩ = some (.int .i64 a3_4) ∧ w'.cell? ⟨gb817, 5, none⟩ = some (.int .i64 a3_5)) ∧ (Kd.R k23 23 w' w.heap.size (fun k_ => k_ ≠ gb814 ∧ k_ ≠ gb815) (.slice Ao36 y827.length co36) y827) ∧ (w'.heap[gb814]? = some (.cells #[.int .i64 a0_0, .int .i64 a0_1, .int .i64 a0_2] 23 (0, 0))) ∧ (w'.heap[gb815]? = some (.cells #[.int .i64 a1_0, .int .i64 a1_1, .int .i64 a1_2] 23 (0, 0))) ∧ (w'.heap[gb817]? = some (.cells #[.int .i64 a3_0, .int .i64 a3_1, .int .i64 a3_2, .int .i64 a3_3, .int .i64 a3_4, .int .i64 a3_5] 56 (0, 0))) ∧ (w'.heap[gb826]? = some (.cells #[.int .i64 t819, .int .i64 t820, .bool t821, .int .i64 t822, .int .i64 t823] 30 (0, 0))) ∧ (w'.heap[gb837]? = some (.cells #[.int .i64 t830, .int .i64 t831, .int .i64 t832, .int .i64 t833, .int .i64 t834, .int .i64 t835] 56 (0, 0))) ∧ (w'.heap[s_]? = some (.cells #[.int .i64 0, .int .i64 0] 28 (0, 0))) ∧ (w.heap.size ≤ s_) ∧ (gb814 ≠ s_) ∧ (s_ ≠ gb814) ∧ (gb815 ≠ s_) ∧ (s_ ≠ gb815) ∧ (gb817 ≠ s_) ∧ (s_ ≠ gb817) ∧ (gb826 ≠ s_) ∧ (s_ ≠ gb826) ∧ (gb837 ≠ s_) ∧ (s_ ≠ gb837) ∧ (Below w.heap.size w w')) ?_ ?_
             rotate_left
             ·intro hJ11
              refine join_ (σ := Nat) 12 #[true, true, true, true, false, false, false, false, false, false, false, false, true, false, false, false, false] (fun s_ => [(15, .pointer (some ⟨s_, 0, none⟩))]) (fun s_ w' => (w'.cell? ⟨gb814, 0, none⟩ = some (.int .i64 a0_0) ∧ w'.cell? ⟨gb814, 1, none⟩ = some (.int .i64 a0_1) ∧ w'.cell? ⟨gb814, 2, none⟩ = some (.int .i64 a0_2) ∧ w'.cell? ⟨gb815, 0, none⟩ = some (.int .i64 a1_0) ∧ w'.cell? ⟨gb815, 1, none⟩ = some (.int .i64 a1_1) ∧ w'.cell? ⟨gb815, 2, none⟩ = some (.int .i64 a1_2) ∧ w'.cell? ⟨gb837, 0, none⟩ = some (.int .i64 t830) ∧ w'.cell? ⟨gb837, 1, none⟩ = some (.int .i64 t831) ∧ w'.cell? ⟨gb837, 2, none⟩ = some (.int .i64 t832) ∧ w'.cell? ⟨gb837, 3, none⟩ = some (.int .i64 t833) ∧ w'.cell? ⟨gb837, 4, none⟩ = some (.int .i64 t834) ∧ w'.cell? ⟨gb837, 5, none⟩ = some (.int .i64 t835) ∧ w'.cell? ⟨gb817, 0, none⟩ = some (.int .i64 a3_0) ∧ w'.cell? ⟨gb817, 1, none⟩ = some (.int .i64 a3_1) ∧ w'.cell? ⟨gb817, 2, none⟩ = some (.int .i64 a3_2) ∧ w'.cell? ⟨gb817, 3, none⟩ = some (.int .i64 a3_3) ∧ w'.cell? ⟨gb817, 4, none⟩ = some (.int .i64 a3_4) ∧ w'.cell? ⟨gb817, 5, none⟩ = some (.int .i64 a3_5)) ∧ (Kd.R k23 23 w' w.heap.size (fun k_ => k_ ≠ gb814 ∧ k_ ≠ gb815) (.slice Ao36 y827.length co36) y827) ∧ (w'.heap[gb814]? = some (.cells #[.int .i64 a0_0, .int .i64 a0_1, .int .i64 a0_2] 23 (0, 0))) ∧ (w'.heap[gb815]? = some (.cells #[.int .i64 a1_0, .int .i64 a1_1, .int .i64 a1_2] 23 (0, 0))) ∧ (w'.heap[gb817]? = some (.cells #[.int .i64 a3_0, .int .i64 a3_1, .int .i64 a3_2, .int .i64 a3_3, .int .i64 a3_4, .int .i64 a3_5] 56 (0, 0))) ∧ (w'.heap[gb826]? = some (.cells #[.int .i64 t819, .int .i64 t820, .bool t821, .int .i64 t822, .int .i64 t823] 30 (0, 0))) ∧ (w'.heap[gb837]? = some (.cells #[.int .i64 t830, .int .i64 t831, .int .i64 t832, .int .i64 t833, .int .i64 t834, .int .i64 t835] 56 (0, 0))) ∧ (w'.heap[s_]? = some (.cells #[.int .i64 0, .int .i64 0] 28 (0, 0))) ∧ (w.heap.size ≤ s_) ∧ (gb814 ≠ s_) ∧ (s_ ≠ gb814) ∧ (gb815 ≠ s_) ∧ (s_ ≠ gb815) ∧ (gb817 ≠ s_) ∧ (s_ ≠ gb817) ∧ (gb826 ≠ s_) ∧ (s_ ≠ gb826) ∧ (gb837 ≠ s_) ∧ (s_ ≠ gb837) ∧ (Below w.heap.size w w')) ?_ ?_
              rotate_left
              ·intro hJ12
               refine three_ (i := 4) (j := 11) (k := 12) (Ni := some 60) (Nj := some 14) (Nk := some 15) #[true, true, true, true, true, false, false, false, false, false, false, false, false, false, false, false, false] #[true, true, true, true, false, false, false, false, false, false, false, true, false, false, false, false, false] #[true, true, true, true, false, false, false, false, false, false, false, false, true, false, false, false, false] rfl rfl rfl rfl rfl rfl (three_of HT_.out (by kernel_rfl)) (by decide) (by decide) (by decide) (fun K hK => ?_) (fun K hK => ?_) (fun K hK => ?_)
               ·skip
                refine goes_ Try.func37 (by kernel_rfl) rfl #[.agg #[.int .i64 t830, .int .i64 t831, .int .i64 t832, .int .i64 t833, .int .i64 t834, .int .i64 t835], .agg #[.int .i64 a3_0, .int .i64 a3_1, .int .i64 a3_2, .int .i64 a3_3, .int .i64 a3_4, .int .i64 a3_5]] (by rfl) rfl rfl (by (try simp only [List.map_toArray, List.map_cons, List.map_nil]); first | done | rfl | (simp only [List.length_drop, List.length_take]; rfl)) ?_
                with_reducible refine (vec_Join.calls t830 t831 t832 t833 t834 t835 a3_0 a3_1 a3_2 a3_3 a3_4 a3_5 t838 t839 t840 t841 t842 t843 _ A30.out).mono ?_
                rintro e w47 ⟨rfl, hb⟩
                refine ⟨_, rfl, ?_⟩
                replace HO829 := Aside0.mk (Kd.R_below (by (with_reducible repeat (first | apply Kd.R_alloc | apply Kd.R_drewN | apply Kd.R_drew)); exact HO829.out) hb)
                replace BK814 := cB hb BK814
                replace BK815 := cB hb BK815
                replace BK817 := cB hb BK817
                replace BK826 := cB hb BK826
                replace BK837 := cB hb BK837
                replace HB := Aside0.mk (below_step (HB.out) hb)
                (try clear hb)
                (try clear hb2)
                (try clear hk)
                (try clear hi)
                refine hK.out _ _ ⟨(blk_cell BK814.out 0).trans rfl, (blk_cell BK814.out 1).trans rfl, (blk_cell BK814.out 2).trans rfl, (blk_cell BK815.out 0).trans rfl, (blk_cell BK815.out 1).trans rfl, (blk_cell BK815.out 2).trans rfl, (blk_cell BK837.out 0).trans rfl, (blk_cell BK837.out 1).trans rfl, (blk_cell BK837.out 2).trans rfl, (blk_cell BK837.out 3).trans rfl, (blk_cell BK837.out 4).trans rfl, (blk_cell BK837.out 5).trans rfl, (blk_cell BK817.out 0).trans rfl, (blk_cell BK817.out 1).trans rfl, (blk_cell BK817.out 2).trans rfl, (blk_cell BK817.out 3).trans rfl, (blk_cell BK817.out 4).trans rfl, (blk_cell BK817.out 5).trans rfl⟩ (fun hHeld => ?_)
                clear hK K
                refine norm_ (a' := ?_) ?_ ?_
                rotate_left
                ·show Act.put _ (some 60) _ = _
                 simp only [Act.put, List.setIfInBounds_toArray, List.set_cons_zero, List.set_cons_succ, i64_w, i32_w]
                 rfl
                exact norm_ (by simp only [putAll, Act.put, List.setIfInBounds_toArray, List.set_cons_zero, List.set_cons_succ] <;> rfl) (hJ4 () _ ⟨hHeld, (by (with_reducible repeat (first | apply Kd.R_alloc | apply Kd.R_drewN | apply Kd.R_drew)); exact HO829.out), (BK814.out), (BK815.out), (BK817.out), (BK826.out), (BK837.out), (HB.out)⟩)
               ·skip
                refine box_step ?hg (N := 14) ?hd (cs := #[.int .i64 0, .int .i64 0]) (t := 28) ?hr ?_; (case hd => rfl); (case hg => rfl); (case hr => first | (go_simp; done) | (go_simp; rfl))
                intro gb850 hg w47 hbox hb
                have BK850 := Aside0.mk (hbox)
                have GE850 := Aside0.mk (bG hg (HB.out))
                have NB814_850 := cN hg BK814
                have NB850_814 := cM hg BK814
                have NB815_850 := cN hg BK815
                have NB850_815 := cM hg BK815
                have NB817_850 := cN hg BK817
                have NB850_817 := cM hg BK817
                have NB826_850 := cN hg BK826
                have NB850_826 := cM hg BK826
                have NB837_850 := cN hg BK837
                have NB850_837 := cM hg BK837
                replace HO829 := Aside0.mk (Kd.R_below (by (with_reducible repeat (first | apply Kd.R_alloc | apply Kd.R_drewN | apply Kd.R_drew)); exact HO829.out) hb)
                replace BK814 := cB hb BK814
                replace BK815 := cB hb BK815
                replace BK817 := cB hb BK817
                replace BK826 := cB hb BK826
                replace BK837 := cB hb BK837
                replace HB := Aside0.mk (below_step (HB.out) hb)
                clear hb hbox hg
                refine hK.out _ _ ⟨(blk_cell BK814.out 0).trans rfl, (blk_cell BK814.out 1).trans rfl, (blk_cell BK814.out 2).trans rfl, (blk_cell BK815.out 0).trans rfl, (blk_cell BK815.out 1).trans rfl, (blk_cell BK815.out 2).trans rfl, (blk_cell BK837.out 0).trans rfl, (blk_cell BK837.out 1).trans rfl, (blk_cell BK837.out 2).trans rfl, (blk_cell BK837.out 3).trans rfl, (blk_cell BK837.out 4).trans rfl, (blk_cell BK837.out 5).trans rfl, (blk_cell BK817.out 0).trans rfl, (blk_cell BK817.out 1).trans rfl, (blk_cell BK817.out 2).trans rfl, (blk_cell BK817.out 3).trans rfl, (blk_cell BK817.out 4).trans rfl, (blk_cell BK817.out 5).trans rfl⟩ (fun hHeld => ?_)
                clear hK K
                refine norm_ (a' := ?_) ?_ ?_
                rotate_left
                ·show Act.put _ (some 14) _ = _
                 simp only [Act.put, List.setIfInBounds_toArray, List.set_cons_zero, List.set_cons_succ, i64_w, i32_w]
                 rfl
                exact norm_ (by simp only [putAll, Act.put, List.setIfInBounds_toArray, List.set_cons_zero, List.set_cons_succ] <;> rfl) (hJ11 (gb850) _ ⟨hHeld, (by (with_reducible repeat (first | apply Kd.R_alloc | apply Kd.R_drewN | apply Kd.R_drew)); exact HO829.out), (BK814.out), (BK815.out), (BK817.out), (BK826.out), (BK837.out), (BK850.out), GE850.out, NB814_850.out, NB850_814.out, NB815_850.out, NB850_815.out, NB817_850.out, NB850_817.out, NB826_850.out, NB850_826.out, NB837_850.out, NB850_837.out, (HB.out)⟩)
               skip
               refine box_step ?hg (N := 15) ?hd (cs := #[.int .i64 0, .int .i64 0]) (t := 28) ?hr ?_; (case hd => rfl); (case hg => rfl); (case hr => first | (go_simp; done) | (go_simp; rfl))
               intro gb851 hg w47 hbox hb
               have BK851 := Aside0.mk (hbox)
               have GE851 := Aside0.mk (bG hg (HB.out))
               have NB814_851 := cN hg BK814
               have NB851_814 := cM hg BK814
               have NB815_851 := cN hg BK815
               have NB851_815 := cM hg BK815
               have NB817_851 := cN hg BK817
               have NB851_817 := cM hg BK817
               have NB826_851 := cN hg BK826
               have NB851_826 := cM hg BK826
               have NB837_851 := cN hg BK837
               have NB851_837 := cM hg BK837
               replace HO829 := Aside0.mk (Kd.R_below (by (with_reducible repeat (first | apply Kd.R_alloc | apply Kd.R_drewN | apply Kd.R_drew)); exact HO829.out) hb)
               replace BK814 := cB hb BK814
               replace BK815 := cB hb BK815
               replace BK817 := cB hb BK817
               replace BK826 := cB hb BK826
               replace BK837 := cB hb BK837
               replace HB := Aside0.mk (below_step (HB.out) hb)
               clear hb hbox hg
               refine hK.out _ _ ⟨(blk_cell BK814.out 0).trans rfl, (blk_cell BK814.out 1).trans rfl, (blk_cell BK814.out 2).trans rfl, (blk_cell BK815.out 0).trans rfl, (blk_cell BK815.out 1).trans rfl, (blk_cell BK815.out 2).trans rfl, (blk_cell BK837.out 0).trans rfl, (blk_cell BK837.out 1).trans rfl, (blk_cell BK837.out 2).trans rfl, (blk_cell BK837.out 3).trans rfl, (blk_cell BK837.out 4).trans rfl, (blk_cell BK837.out 5).trans rfl, (blk_cell BK817.out 0).trans rfl, (blk_cell BK817.out 1).trans rfl, (blk_cell BK817.out 2).trans rfl, (blk_cell BK817.out 3).trans rfl, (blk_cell BK817.out 4).trans rfl, (blk_cell BK817.out 5).trans rfl⟩ (fun hHeld => ?_)
               clear hK K
               refine norm_ (a' := ?_) ?_ ?_
               rotate_left
               ·show Act.put _ (some 15) _ = _
                simp only [Act.put, List.setIfInBounds_toArray, List.set_cons_zero, List.set_cons_succ, i64_w, i32_w]
                rfl
               exact norm_ (by simp only [putAll, Act.put, List.setIfInBounds_toArray, List.set_cons_zero, List.set_cons_succ] <;> rfl) (hJ12 (gb851) _ ⟨hHeld, (by (with_reducible repeat (first | apply Kd.R_alloc | apply Kd.R_drewN | apply Kd.R_drew)); exact HO829.out), (BK814.out), (BK815.out), (BK817.out), (BK826.out), (BK837.out), (BK851.out), GE851.out, NB814_851.out, NB851_814.out, NB815_851.out, NB851_815.out, NB817_851.out, NB851_817.out, NB826_851.out, NB851_826.out, NB837_851.out, NB851_837.out, (HB.out)⟩)
              skip
              rintro gb851 w48 ⟨hS_, h0_, h1_, h2_, h3_, h4_, h5_, h6_, h7_, h8_, h9_, h10_, h11_, h12_, h13_, h14_, h15_, h16_, h17_, h18_⟩
              have n0_ : Aside0 (Kd.R k23 23 w48 w.heap.size (fun k_ => k_ ≠ gb814 ∧ k_ ≠ gb815) (.slice Ao36 y827.length co36) y827) := ⟨h0_⟩
              have n1_ : Aside0 (w48.heap[gb814]? = some (.cells #[.int .i64 a0_0, .int .i64 a0_1, .int .i64 a0_2] 23 (0, 0))) := ⟨h1_⟩
              have n2_ : Aside0 (w48.heap[gb815]? = some (.cells #[.int .i64 a1_0, .int .i64 a1_1, .int .i64 a1_2] 23 (0, 0))) := ⟨h2_⟩
              have n3_ : Aside0 (w48.heap[gb817]? = some (.cells #[.int .i64 a3_0, .int .i64 a3_1, .int .i64 a3_2, .int .i64 a3_3, .int .i64 a3_4, .int .i64 a3_5] 56 (0, 0))) := ⟨h3_⟩
              have n4_ : Aside0 (w48.heap[gb826]? = some (.cells #[.int .i64 t819, .int .i64 t820, .bool t821, .int .i64 t822, .int .i64 t823] 30 (0, 0))) := ⟨h4_⟩
              have n5_ : Aside0 (w48.heap[gb837]? = some (.cells #[.int .i64 t830, .int .i64 t831, .int .i64 t832, .int .i64 t833, .int .i64 t834, .int .i64 t835] 56 (0, 0))) := ⟨h5_⟩
              have n6_ : Aside0 (w48.heap[gb851]? = some (.cells #[.int .i64 0, .int .i64 0] 28 (0, 0))) := ⟨h6_⟩
              have GE851 : Aside0 (w.heap.size ≤ gb851) := ⟨h7_⟩
              have NB814_851 : Aside0 (gb814 ≠ gb851) := ⟨h8_⟩
              have NB851_814 : Aside0 (gb851 ≠ gb814) := ⟨h9_⟩
              have NB815_851 : Aside0 (gb815 ≠ gb851) := ⟨h10_⟩
              have NB851_815 : Aside0 (gb851 ≠ gb815) := ⟨h11_⟩
              have NB817_851 : Aside0 (gb817 ≠ gb851) := ⟨h12_⟩
              have NB851_817 : Aside0 (gb851 ≠ gb817) := ⟨h13_⟩
              have NB826_851 : Aside0 (gb826 ≠ gb851) := ⟨h14_⟩
              have NB851_826 : Aside0 (gb851 ≠ gb826) := ⟨h15_⟩
              have NB837_851 : Aside0 (gb837 ≠ gb851) := ⟨h16_⟩
              have NB851_837 : Aside0 (gb851 ≠ gb837) := ⟨h17_⟩
              have n18_ : Aside0 (Below w.heap.size w w48) := ⟨h18_⟩
              clear HO829
              clear BK814
              clear BK815
              clear BK817
              clear BK826
              clear BK837
              clear HB
              clear h0_ h1_ h2_ h3_ h4_ h5_ h6_ h7_ h8_ h9_ h10_ h11_ h12_ h13_ h14_ h15_ h16_ h17_ h18_
              have HO829 := n0_
              have BK814 := n1_
              have BK815 := n2_
              have BK817 := n3_
              have BK826 := n4_
              have BK837 := n5_
              have BK851 := n6_
              have HB := n18_
              clear n0_ n1_ n2_ n3_ n4_ n5_ n6_ n18_
              have hHeld : w48.cell? ⟨gb814, 0, none⟩ = some (.int .i64 a0_0) ∧ w48.cell? ⟨gb814, 1, none⟩ = some (.int .i64 a0_1) ∧ w48.cell? ⟨gb814, 2, none⟩ = some (.int .i64 a0_2) ∧ w48.cell? ⟨gb815, 0, none⟩ = some (.int .i64 a1_0) ∧ w48.cell? ⟨gb815, 1, none⟩ = some (.int .i64 a1_1) ∧ w48.cell? ⟨gb815, 2, none⟩ = some (.int .i64 a1_2) ∧ w48.cell? ⟨gb837, 0, none⟩ = some (.int .i64 t830) ∧ w48.cell? ⟨gb837, 1, none⟩ = some (.int .i64 t831) ∧ w48.cell? ⟨gb837, 2, none⟩ = some (.int .i64 t832) ∧ w48.cell? ⟨gb837, 3, none⟩ = some (.int .i64 t833) ∧ w48.cell? ⟨gb837, 4, none⟩ = some (.int .i64 t834) ∧ w48.cell? ⟨gb837, 5, none⟩ = some (.int .i64 t835) ∧ w48.cell? ⟨gb817, 0, none⟩ = some (.int .i64 a3_0) ∧ w48.cell? ⟨gb817, 1, none⟩ = some (.int .i64 a3_1) ∧ w48.cell? ⟨gb817, 2, none⟩ = some (.int .i64 a3_2) ∧ w48.cell? ⟨gb817, 3, none⟩ = some (.int .i64 a3_3) ∧ w48.cell? ⟨gb817, 4, none⟩ = some (.int .i64 a3_4) ∧ w48.cell? ⟨gb817, 5, none⟩ = some (.int .i64 a3_5) := hS_
              refine norm_ (a' := ?_) ?_ ?_
              rotate_left
              ·simp only [putAll, Act.put, List.setIfInBounds_toArray, List.set_cons_zero, List.set_cons_succ]
               rfl
              refine two_ (i := 4) (j := 11) (Ni := some 60) (Nj := some 14) #[true, true, true, true, true, false, false, false, false, false, false, false, true, false, false, false, false] #[true, true, true, true, false, false, false, false, false, false, false, true, true, false, false, false, false] rfl rfl rfl rfl (two_of HT_.out (by kernel_rfl)) (by decide) (by decide) (fun K hK => ?_) (fun K hK => ?_)
              ·skip
               refine goes_ Try.func37 (by kernel_rfl) rfl #[.agg #[.int .i64 t830, .int .i64 t831, .int .i64 t832, .int .i64 t833, .int .i64 t834, .int .i64 t835], .agg #[.int .i64 a3_0, .int .i64 a3_1, .int .i64 a3_2, .int .i64 a3_3, .int .i64 a3_4, .int .i64 a3_5]] (by rfl) rfl rfl (by (try simp only [List.map_toArray, List.map_cons, List.map_nil]); first | done | rfl | (simp only [List.length_drop, List.length_take]; rfl)) ?_
               with_reducible refine (vec_Join.calls t830 t831 t832 t833 t834 t835 a3_0 a3_1 a3_2 a3_3 a3_4 a3_5 t838 t839 t840 t841 t842 t843 _ A30.out).mono ?_
               rintro e w49 ⟨rfl, hb⟩
               refine ⟨_, rfl, ?_⟩
               replace HO829 := Aside0.mk (Kd.R_below (by (with_reducible repeat (first | apply Kd.R_alloc | apply Kd.R_drewN | apply Kd.R_drew)); exact HO829.out) hb)
               replace BK814 := cB hb BK814
               replace BK815 := cB hb BK815
               replace BK817 := cB hb BK817
               replace BK826 := cB hb BK826
               replace BK837 := cB hb BK837
               replace BK851 := cB hb BK851
               replace HB := Aside0.mk (below_step (HB.out) hb)
               (try clear hb)
               (try clear hb2)
               (try clear hk)
               (try clear hi)
               refine hK.out _ _ ⟨(blk_cell BK814.out 0).trans rfl, (blk_cell BK814.out 1).trans rfl, (blk_cell BK814.out 2).trans rfl, (blk_cell BK815.out 0).trans rfl, (blk_cell BK815.out 1).trans rfl, (blk_cell BK815.out 2).trans rfl, (blk_cell BK837.out 0).trans rfl, (blk_cell BK837.out 1).trans rfl, (blk_cell BK837.out 2).trans rfl, (blk_cell BK837.out 3).trans rfl, (blk_cell BK837.out 4).trans rfl, (blk_cell BK837.out 5).trans rfl, (blk_cell BK817.out 0).trans rfl, (blk_cell BK817.out 1).trans rfl, (blk_cell BK817.out 2).trans rfl, (blk_cell BK817.out 3).trans rfl, (blk_cell BK817.out 4).trans rfl, (blk_cell BK817.out 5).trans rfl⟩ (fun hHeld => ?_)
               clear hK K
               refine norm_ (a' := ?_) ?_ ?_
               rotate_left
               ·show Act.put _ (some 60) _ = _
                simp only [Act.put, List.setIfInBounds_toArray, List.set_cons_zero, List.set_cons_succ, i64_w, i32_w]
                rfl
               exact norm_ (by simp only [putAll, Act.put, List.setIfInBounds_toArray, List.set_cons_zero, List.set_cons_succ] <;> rfl) (hJ4_12 (gb851) _ ⟨hHeld, (by (with_reducible repeat (first | apply Kd.R_alloc | apply Kd.R_drewN | apply Kd.R_drew)); exact HO829.out), (BK814.out), (BK815.out), (BK817.out), (BK826.out), (BK837.out), (BK851.out), GE851.out, NB814_851.out, NB851_814.out, NB815_851.out, NB851_815.out, NB817_851.out, NB851_817.out, NB826_851.out, NB851_826.out, NB837_851.out, NB851_837.out, (HB.out)⟩)
              skip
              refine box_step ?hg (N := 14) ?hd (cs := #[.int .i64 0, .int .i64 0]) (t := 28) ?hr ?_; (case hd => rfl); (case hg => rfl); (case hr => first | (go_simp; done) | (go_simp; rfl))
              intro gb850 hg w49 hbox hb
              have BK850 := Aside0.mk (hbox)
              have GE850 := Aside0.mk (bG hg (HB.out))
              have NB814_850 := cN hg BK814
              have NB850_814 := cM hg BK814
              have NB815_850 := cN hg BK815
              have NB850_815 := cM hg BK815
              have NB817_850 := cN hg BK817
              have NB850_817 := cM hg BK817
              have NB826_850 := cN hg BK826
              have NB850_826 := cM hg BK826
              have NB837_850 := cN hg BK837
              have NB850_837 := cM hg BK837
              have NB851_850 := cN hg BK851
              have NB850_851 := cM hg BK851
              replace HO829 := Aside0.mk (Kd.R_below (by (with_reducible repeat (first | apply Kd.R_alloc | apply Kd.R_drewN | apply Kd.R_drew)); exact HO829.out) hb)
              replace BK814 := cB hb BK814
              replace BK815 := cB hb BK815
              replace BK817 := cB hb BK817
              replace BK826 := cB hb BK826
              replace BK837 := cB hb BK837
              replace BK851 := cB hb BK851
              replace HB := Aside0.mk (below_step (HB.out) hb)
              clear hb hbox hg
              refine hK.out _ _ ⟨(blk_cell BK814.out 0).trans rfl, (blk_cell BK814.out 1).trans rfl, (blk_cell BK814.out 2).trans rfl, (blk_cell BK815.out 0).trans rfl, (blk_cell BK815.out 1).trans rfl, (blk_cell BK815.out 2).trans rfl, (blk_cell BK837.out 0).trans rfl, (blk_cell BK837.out 1).trans rfl, (blk_cell BK837.out 2).trans rfl, (blk_cell BK837.out 3).trans rfl, (blk_cell BK837.out 4).trans rfl, (blk_cell BK837.out 5).trans rfl, (blk_cell BK817.out 0).trans rfl, (blk_cell BK817.out 1).trans rfl, (blk_cell BK817.out 2).trans rfl, (blk_cell BK817.out 3).trans rfl, (blk_cell BK817.out 4).trans rfl, (blk_cell BK817.out 5).trans rfl⟩ (fun hHeld => ?_)
              clear hK K
              refine norm_ (a' := ?_) ?_ ?_
              rotate_left
              ·show Act.put _ (some 14) _ = _
               simp only [Act.put, List.setIfInBounds_toArray, List.set_cons_zero, List.set_cons_succ, i64_w, i32_w]
               rfl
              exact norm_ (by simp only [putAll, Act.put, List.setIfInBounds_toArray, List.set_cons_zero, List.set_cons_succ] <;> rfl) (hJ11_12 (gb850, gb851) _ ⟨hHeld, (by (with_reducible repeat (first | apply Kd.R_alloc | apply Kd.R_drewN | apply Kd.R_drew)); exact HO829.out), (BK814.out), (BK815.out), (BK817.out), (BK826.out), (BK837.out), (BK850.out), (BK851.out), GE850.out, NB814_850.out, NB850_814.out, NB815_850.out, NB850_815.out, NB817_850.out, NB850_817.out, NB826_850.out, NB850_826.out, NB837_850.out, NB850_837.out, NB851_850.out, NB850_851.out, GE851.out, NB814_851.out, NB851_814.out, NB815_851.out, NB851_815.out, NB817_851.out, NB851_817.out, NB826_851.out, NB851_826.out, NB837_851.out, NB851_837.out, (HB.out)⟩)
             skip
             rintro gb850 w48 ⟨hS_, h0_, h1_, h2_, h3_, h4_, h5_, h6_, h7_, h8_, h9_, h10_, h11_, h12_, h13_, h14_, h15_, h16_, h17_, h18_⟩
             have n0_ : Aside0 (Kd.R k23 23 w48 w.heap.size (fun k_ => k_ ≠ gb814 ∧ k_ ≠ gb815) (.slice Ao36 y827.length co36) y827) := ⟨h0_⟩
             have n1_ : Aside0 (w48.heap[gb814]? = some (.cells #[.int .i64 a0_0, .int .i64 a0_1, .int .i64 a0_2] 23 (0, 0))) := ⟨h1_⟩
             have n2_ : Aside0 (w48.heap[gb815]? = some (.cells #[.int .i64 a1_0, .int .i64 a1_1, .int .i64 a1_2] 23 (0, 0))) := ⟨h2_⟩
             have n3_ : Aside0 (w48.heap[gb817]? = some (.cells #[.int .i64 a3_0, .int .i64 a3_1, .int .i64 a3_2, .int .i64 a3_3, .int .i64 a3_4, .int .i64 a3_5] 56 (0, 0))) := ⟨h3_⟩
             have n4_ : Aside0 (w48.heap[gb826]? = some (.cells #[.int .i64 t819, .int .i64 t820, .bool t821, .int .i64 t822, .int .i64 t823] 30 (0, 0))) := ⟨h4_⟩
             have n5_ : Aside0 (w48.heap[gb837]? = some (.cells #[.int .i64 t830, .int .i64 t831, .int .i64 t832, .int .i64 t833, .int .i64 t834, .int .i64 t835] 56 (0, 0))) := ⟨h5_⟩
             have n6_ : Aside0 (w48.heap[gb850]? = some (.cells #[.int .i64 0, .int .i64 0] 28 (0, 0))) := ⟨h6_⟩
             have GE850 : Aside0 (w.heap.size ≤ gb850) := ⟨h7_⟩
             have NB814_850 : Aside0 (gb814 ≠ gb850) := ⟨h8_⟩
             have NB850_814 : Aside0 (gb850 ≠ gb814) := ⟨h9_⟩
             have NB815_850 : Aside0 (gb815 ≠ gb850) := ⟨h10_⟩
             have NB850_815 : Aside0 (gb850 ≠ gb815) := ⟨h11_⟩
             have NB817_850 : Aside0 (gb817 ≠ gb850) := ⟨h12_⟩
             have NB850_817 : Aside0 (gb850 ≠ gb817) := ⟨h13_⟩
             have NB826_850 : Aside0 (gb826 ≠ gb850) := ⟨h14_⟩
             have NB850_826 : Aside0 (gb850 ≠ gb826) := ⟨h15_⟩
             have NB837_850 : Aside0 (gb837 ≠ gb850) := ⟨h16_⟩
             have NB850_837 : Aside0 (gb850 ≠ gb837) := ⟨h17_⟩
             have n18_ : Aside0 (Below w.heap.size w w48) := ⟨h18_⟩
             clear HO829
             clear BK814
             clear BK815
             clear BK817
             clear BK826
             clear BK837
             clear HB
             clear h0_ h1_ h2_ h3_ h4_ h5_ h6_ h7_ h8_ h9_ h10_ h11_ h12_ h13_ h14_ h15_ h16_ h17_ h18_
             have HO829 := n0_
             have BK814 := n1_
             have BK815 := n2_
             have BK817 := n3_
             have BK826 := n4_
             have BK837 := n5_
             have BK850 := n6_
             have HB := n18_
             clear n0_ n1_ n2_ n3_ n4_ n5_ n6_ n18_
             have hHeld : w48.cell? ⟨gb814, 0, none⟩ = some (.int .i64 a0_0) ∧ w48.cell? ⟨gb814, 1, none⟩ = some (.int .i64 a0_1) ∧ w48.cell? ⟨gb814, 2, none⟩ = some (.int .i64 a0_2) ∧ w48.cell? ⟨gb815, 0, none⟩ = some (.int .i64 a1_0) ∧ w48.cell? ⟨gb815, 1, none⟩ = some (.int .i64 a1_1) ∧ w48.cell? ⟨gb815, 2, none⟩ = some (.int .i64 a1_2) ∧ w48.cell? ⟨gb837, 0, none⟩ = some (.int .i64 t830) ∧ w48.cell? ⟨gb837, 1, none⟩ = some (.int .i64 t831) ∧ w48.cell? ⟨gb837, 2, none⟩ = some (.int .i64 t832) ∧ w48.cell? ⟨gb837, 3, none⟩ = some (.int .i64 t833) ∧ w48.cell? ⟨gb837, 4, none⟩ = some (.int .i64 t834) ∧ w48.cell? ⟨gb837, 5, none⟩ = some (.int .i64 t835) ∧ w48.cell? ⟨gb817, 0, none⟩ = some (.int .i64 a3_0) ∧ w48.cell? ⟨gb817, 1, none⟩ = some (.int .i64 a3_1) ∧ w48.cell? ⟨gb817, 2, none⟩ = some (.int .i64 a3_2) ∧ w48.cell? ⟨gb817, 3, none⟩ = some (.int .i64 a3_3) ∧ w48.cell? ⟨gb817, 4, none⟩ = some (.int .i64 a3_4) ∧ w48.cell? ⟨gb817, 5, none⟩ = some (.int .i64 a3_5) := hS_
             refine norm_ (a' := ?_) ?_ ?_
             rotate_left
             ·simp only [putAll, Act.put, List.setIfInBounds_toArray, List.set_cons_zero, List.set_cons_succ]
              rfl
             refine two_ (i := 4) (j := 12) (Ni := some 60) (Nj := some 15) #[true, true, true, true, true, false, false, false, false, false, false, true, false, false, false, false, false] #[true, true, true, true, false, false, false, false, false, false, false, true, true, false, false, false, false] rfl rfl rfl rfl (two_of HT_.out (by kernel_rfl)) (by decide) (by decide) (fun K hK => ?_) (fun K hK => ?_)
             ·skip
              refine goes_ Try.func37 (by kernel_rfl) rfl #[.agg #[.int .i64 t830, .int .i64 t831, .int .i64 t832, .int .i64 t833, .int .i64 t834, .int .i64 t835], .agg #[.int .i64 a3_0, .int .i64 a3_1, .int .i64 a3_2, .int .i64 a3_3, .int .i64 a3_4, .int .i64 a3_5]] (by rfl) rfl rfl (by (try simp only [List.map_toArray, List.map_cons, List.map_nil]); first | done | rfl | (simp only [List.length_drop, List.length_take]; rfl)) ?_
              with_reducible refine (vec_Join.calls t830 t831 t832 t833 t834 t835 a3_0 a3_1 a3_2 a3_3 a3_4 a3_5 t838 t839 t840 t841 t842 t843 _ A30.out).mono ?_
              rintro e w49 ⟨rfl, hb⟩
              refine ⟨_, rfl, ?_⟩
              replace HO829 := Aside0.mk (Kd.R_below (by (with_reducible repeat (first | apply Kd.R_alloc | apply Kd.R_drewN | apply Kd.R_drew)); exact HO829.out) hb)
              replace BK814 := cB hb BK814
              replace BK815 := cB hb BK815
              replace BK817 := cB hb BK817
              replace BK826 := cB hb BK826
              replace BK837 := cB hb BK837
              replace BK850 := cB hb BK850
              replace HB := Aside0.mk (below_step (HB.out) hb)
              (try clear hb)
              (try clear hb2)
              (try clear hk)
              (try clear hi)
              refine hK.out _ _ ⟨(blk_cell BK814.out 0).trans rfl, (blk_cell BK814.out 1).trans rfl, (blk_cell BK814.out 2).trans rfl, (blk_cell BK815.out 0).trans rfl, (blk_cell BK815.out 1).trans rfl, (blk_cell BK815.out 2).trans rfl, (blk_cell BK837.out 0).trans rfl, (blk_cell BK837.out 1).trans rfl, (blk_cell BK837.out 2).trans rfl, (blk_cell BK837.out 3).trans rfl, (blk_cell BK837.out 4).trans rfl, (blk_cell BK837.out 5).trans rfl, (blk_cell BK817.out 0).trans rfl, (blk_cell BK817.out 1).trans rfl, (blk_cell BK817.out 2).trans rfl, (blk_cell BK817.out 3).trans rfl, (blk_cell BK817.out 4).trans rfl, (blk_cell BK817.out 5).trans rfl⟩ (fun hHeld => ?_)
              clear hK K
              refine norm_ (a' := ?_) ?_ ?_
              rotate_left
              ·show Act.put _ (some 60) _ = _
               simp only [Act.put, List.setIfInBounds_toArray, List.set_cons_zero, List.set_cons_succ, i64_w, i32_w]
               rfl
              exact norm_ (by simp only [putAll, Act.put, List.setIfInBounds_toArray, List.set_cons_zero, List.set_cons_succ] <;> rfl) (hJ4_11 (gb850) _ ⟨hHeld, (by (with_reducible repeat (first | apply Kd.R_alloc | apply Kd.R_drewN | apply Kd.R_drew)); exact HO829.out), (BK814.out), (BK815.out), (BK817.out), (BK826.out), (BK837.out), (BK850.out), GE850.out, NB814_850.out, NB850_814.out, NB815_850.out, NB850_815.out, NB817_850.out, NB850_817.out, NB826_850.out, NB850_826.out, NB837_850.out, NB850_837.out, (HB.out)⟩)
             skip
             refine box_step ?hg (N := 15) ?hd (cs := #[.int .i64 0, .int .i64 0]) (t := 28) ?hr ?_; (case hd => rfl); (case hg => rfl); (case hr => first | (go_simp; done) | (go_simp; rfl))
             intro gb851 hg w49 hbox hb
             have BK851 := Aside0.mk (hbox)
             have GE851 := Aside0.mk (bG hg (HB.out))
             have NB814_851 := cN hg BK814
             have NB851_814 := cM hg BK814
             have NB815_851 := cN hg BK815
             have NB851_815 := cM hg BK815
             have NB817_851 := cN hg BK817
             have NB851_817 := cM hg BK817
             have NB826_851 := cN hg BK826
             have NB851_826 := cM hg BK826
             have NB837_851 := cN hg BK837
             have NB851_837 := cM hg BK837
             have NB850_851 := cN hg BK850
             have NB851_850 := cM hg BK850
             replace HO829 := Aside0.mk (Kd.R_below (by (with_reducible repeat (first | apply Kd.R_alloc | apply Kd.R_drewN | apply Kd.R_drew)); exact HO829.out) hb)
             replace BK814 := cB hb BK814
             replace BK815 := cB hb BK815
             replace BK817 := cB hb BK817
             replace BK826 := cB hb BK826
             replace BK837 := cB hb BK837
             replace BK850 := cB hb BK850
             replace HB := Aside0.mk (below_step (HB.out) hb)
             clear hb hbox hg
             refine hK.out _ _ ⟨(blk_cell BK814.out 0).trans rfl, (blk_cell BK814.out 1).trans rfl, (blk_cell BK814.out 2).trans rfl, (blk_cell BK815.out 0).trans rfl, (blk_cell BK815.out 1).trans rfl, (blk_cell BK815.out 2).trans rfl, (blk_cell BK837.out 0).trans rfl, (blk_cell BK837.out 1).trans rfl, (blk_cell BK837.out 2).trans rfl, (blk_cell BK837.out 3).trans rfl, (blk_cell BK837.out 4).trans rfl, (blk_cell BK837.out 5).trans rfl, (blk_cell BK817.out 0).trans rfl, (blk_cell BK817.out 1).trans rfl, (blk_cell BK817.out 2).trans rfl, (blk_cell BK817.out 3).trans rfl, (blk_cell BK817.out 4).trans rfl, (blk_cell BK817.out 5).trans rfl⟩ (fun hHeld => ?_)
             clear hK K
             refine norm_ (a' := ?_) ?_ ?_
             rotate_left
             ·show Act.put _ (some 15) _ = _
              simp only [Act.put, List.setIfInBounds_toArray, List.set_cons_zero, List.set_cons_succ, i64_w, i32_w]
              rfl
             exact norm_ (by simp only [putAll, Act.put, List.setIfInBounds_toArray, List.set_cons_zero, List.set_cons_succ] <;> rfl) (hJ11_12 (gb850, gb851) _ ⟨hHeld, (by (with_reducible repeat (first | apply Kd.R_alloc | apply Kd.R_drewN | apply Kd.R_drew)); exact HO829.out), (BK814.out), (BK815.out), (BK817.out), (BK826.out), (BK837.out), (BK850.out), (BK851.out), GE850.out, NB814_850.out, NB850_814.out, NB815_850.out, NB850_815.out, NB817_850.out, NB850_817.out, NB826_850.out, NB850_826.out, NB837_850.out, NB850_837.out, NB851_850.out, NB850_851.out, GE851.out, NB814_851.out, NB851_814.out, NB815_851.out, NB851_815.out, NB817_851.out, NB851_817.out, NB826_851.out, NB851_826.out, NB837_851.out, NB851_837.out, (HB.out)⟩)
            skip
            rintro _ w48 ⟨hS_, h0_, h1_, h2_, h3_, h4_, h5_, h6_⟩
            have n0_ : Aside0 (Kd.R k23 23 w48 w.heap.size (fun k_ => k_ ≠ gb814 ∧ k_ ≠ gb815) (.slice Ao36 y827.length co36) y827) := ⟨h0_⟩
            have n1_ : Aside0 (w48.heap[gb814]? = some (.cells #[.int .i64 a0_0, .int .i64 a0_1, .int .i64 a0_2] 23 (0, 0))) := ⟨h1_⟩
            have n2_ : Aside0 (w48.heap[gb815]? = some (.cells #[.int .i64 a1_0, .int .i64 a1_1, .int .i64 a1_2] 23 (0, 0))) := ⟨h2_⟩
            have n3_ : Aside0 (w48.heap[gb817]? = some (.cells #[.int .i64 a3_0, .int .i64 a3_1, .int .i64 a3_2, .int .i64 a3_3, .int .i64 a3_4, .int .i64 a3_5] 56 (0, 0))) := ⟨h3_⟩
            have n4_ : Aside0 (w48.heap[gb826]? = some (.cells #[.int .i64 t819, .int .i64 t820, .bool t821, .int .i64 t822, .int .i64 t823] 30 (0, 0))) := ⟨h4_⟩
            have n5_ : Aside0 (w48.heap[gb837]? = some (.cells #[.int .i64 t830, .int .i64 t831, .int .i64 t832, .int .i64 t833, .int .i64 t834, .int .i64 t835] 56 (0, 0))) := ⟨h5_⟩
            have n6_ : Aside0 (Below w.heap.size w w48) := ⟨h6_⟩
            clear HO829
            clear BK814
            clear BK815
            clear BK817
            clear BK826
            clear BK837
            clear HB
            clear h0_ h1_ h2_ h3_ h4_ h5_ h6_
            have HO829 := n0_
            have BK814 := n1_
            have BK815 := n2_
            have BK817 := n3_
            have BK826 := n4_
            have BK837 := n5_
            have HB := n6_
            clear n0_ n1_ n2_ n3_ n4_ n5_ n6_
            have hHeld : w48.cell? ⟨gb814, 0, none⟩ = some (.int .i64 a0_0) ∧ w48.cell? ⟨gb814, 1, none⟩ = some (.int .i64 a0_1) ∧ w48.cell? ⟨gb814, 2, none⟩ = some (.int .i64 a0_2) ∧ w48.cell? ⟨gb815, 0, none⟩ = some (.int .i64 a1_0) ∧ w48.cell? ⟨gb815, 1, none⟩ = some (.int .i64 a1_1) ∧ w48.cell? ⟨gb815, 2, none⟩ = some (.int .i64 a1_2) ∧ w48.cell? ⟨gb837, 0, none⟩ = some (.int .i64 t830) ∧ w48.cell? ⟨gb837, 1, none⟩ = some (.int .i64 t831) ∧ w48.cell? ⟨gb837, 2, none⟩ = some (.int .i64 t832) ∧ w48.cell? ⟨gb837, 3, none⟩ = some (.int .i64 t833) ∧ w48.cell? ⟨gb837, 4, none⟩ = some (.int .i64 t834) ∧ w48.cell? ⟨gb837, 5, none⟩ = some (.int .i64 t835) ∧ w48.cell? ⟨gb817, 0, none⟩ = some (.int .i64 a3_0) ∧ w48.cell? ⟨gb817, 1, none⟩ = some (.int .i64 a3_1) ∧ w48.cell? ⟨gb817, 2, none⟩ = some (.int .i64 a3_2) ∧ w48.cell? ⟨gb817, 3, none⟩ = some (.int .i64 a3_3) ∧ w48.cell? ⟨gb817, 4, none⟩ = some (.int .i64 a3_4) ∧ w48.cell? ⟨gb817, 5, none⟩ = some (.int .i64 a3_5) := hS_
            refine norm_ (a' := ?_) ?_ ?_
            rotate_left
            ·simp only [putAll, Act.put, List.setIfInBounds_toArray, List.set_cons_zero, List.set_cons_succ]
             rfl
            refine three_ (i := 5) (j := 11) (k := 12) (Ni := some 61) (Nj := some 14) (Nk := some 15) #[true, true, true, true, true, true, false, false, false, false, false, false, false, false, false, false, false] #[true, true, true, true, true, false, false, false, false, false, false, true, false, false, false, false, false] #[true, true, true, true, true, false, false, false, false, false, false, false, true, false, false, false, false] rfl rfl rfl rfl rfl rfl (three_of HT_.out (by kernel_rfl)) (by decide) (by decide) (by decide) (fun K hK => ?_) (fun K hK => ?_) (fun K hK => ?_)
            ·skip
             refine goes_ Try.func32 (by kernel_rfl) rfl #[.agg #[.int .i64 a0_0, .int .i64 a0_1, .int .i64 a0_2], .agg #[.int .i64 a1_0, .int .i64 a1_1, .int .i64 a1_2], .agg #[.int .i64 t838, .int .i64 t839, .int .i64 t840, .int .i64 t841, .int .i64 t842, .int .i64 t843]] (by rfl) rfl rfl (by (try simp only [List.map_toArray, List.map_cons, List.map_nil]); first | done | rfl | (simp only [List.length_drop, List.length_take]; rfl)) ?_
             with_reducible refine (slab_Range.calls kj26 a0_0 a0_1 a0_2 a1_0 a1_1 a1_2 t838 t839 t840 t841 t842 t843 t844 t845 t846 t847 t848 t849 _ A31.out).mono ?_
             rintro e w49 ⟨rfl, hb⟩
             refine ⟨_, rfl, ?_⟩
             replace HO829 := Aside0.mk (Kd.R_below (by (with_reducible repeat (first | apply Kd.R_alloc | apply Kd.R_drewN | apply Kd.R_drew)); exact HO829.out) hb)
             replace BK814 := cB hb BK814
             replace BK815 := cB hb BK815
             replace BK817 := cB hb BK817
             replace BK826 := cB hb BK826
             replace BK837 := cB hb BK837
             replace HB := Aside0.mk (below_step (HB.out) hb)
             (try clear hb)
             (try clear hb2)
             (try clear hk)
             (try clear hi)
             refine hK.out _ _ ⟨(blk_cell BK814.out 0).trans rfl, (blk_cell BK814.out 1).trans rfl, (blk_cell BK814.out 2).trans rfl, (blk_cell BK815.out 0).trans rfl, (blk_cell BK815.out 1).trans rfl, (blk_cell BK815.out 2).trans rfl, (blk_cell BK837.out 0).trans rfl, (blk_cell BK837.out 1).trans rfl, (blk_cell BK837.out 2).trans rfl, (blk_cell BK837.out 3).trans rfl, (blk_cell BK837.out 4).trans rfl, (blk_cell BK837.out 5).trans rfl, (blk_cell BK817.out 0).trans rfl, (blk_cell BK817.out 1).trans rfl, (blk_cell BK817.out 2).trans rfl, (blk_cell BK817.out 3).trans rfl, (blk_cell BK817.out 4).trans rfl, (blk_cell BK817.out 5).trans rfl⟩ (fun hHeld => ?_)
             clear hK K
             refine norm_ (a' := ?_) ?_ ?_
             rotate_left
             ·show Act.put _ (some 61) _ = _
              simp only [Act.put, List.setIfInBounds_toArray, List.set_cons_zero, List.set_cons_succ, i64_w, i32_w]
              rfl
             refine pure_ (i := 6) (N := some 55) (v := ?_) (a' := ?_) #[true, true, true, true, true, true, true, false, false, false, false, false, false, false, false, false, false] rfl rfl (any_of HT_.out (by kernel_rfl)) (fun _ _ _ h => h) (Or.inl ⟨by rfl, ?_⟩) ?_ ?_
             rotate_left
             ·intro w'
              go_simp
              with_reducible rfl
             rotate_left
             ·simp only [Act.put, List.setIfInBounds_toArray, List.set_cons_zero, List.set_cons_succ, i64_w, i32_w]
              rfl
             refine pure_ (i := 7) (N := some 62) (v := ?_) (a' := ?_) #[true, true, true, true, true, true, true, true, false, false, false, false, false, false, false, false, false] rfl rfl (any_of HT_.out (by kernel_rfl)) (fun _ _ _ h => h) (Or.inl ⟨by rfl, ?_⟩) ?_ ?_
             rotate_left
             ·intro w'
              go_simp
              with_reducible rfl
             rotate_left
             ·simp only [Act.put, List.setIfInBounds_toArray, List.set_cons_zero, List.set_cons_succ, i64_w, i32_w]
              rfl
             refine pure_ (i := 8) (N := some 63) (v := ?_) (a' := ?_) #[true, true, true, true, true, true, true, true, true, false, false, false, false, false, false, false, false] rfl rfl (any_of HT_.out (by kernel_rfl)) (fun _ _ _ h => h) (Or.inl ⟨by rfl, ?_⟩) ?_ ?_
             rotate_left
             ·intro w'
              go_simp
              with_reducible rfl
             rotate_left
             ·simp only [Act.put, List.setIfInBounds_toArray, List.set_cons_zero, List.set_cons_succ, i64_w, i32_w]
              rfl
             refine pure_ (i := 9) (N := some 64) (v := ?_) (a' := ?_) #[true, true, true, true, true, true, true, true, true, true, false, false, false, false, false, false, false] rfl rfl (any_of HT_.out (by kernel_rfl)) (fun _ _ _ h => h) (Or.inl ⟨by rfl, ?_⟩) ?_ ?_
             rotate_left
             ·intro w'
              go_simp
              with_reducible rfl
             rotate_left
             ·simp only [Act.put, List.setIfInBounds_toArray, List.set_cons_zero, List.set_cons_succ, i64_w, i32_w]
              rfl
             refine pure_ (i := 10) (N := some 65) (v := ?_) (a' := ?_) #[true, true, true, true, true, true, true, true, true, true, true, false, false, false, false, false, false] rfl rfl (any_of HT_.out (by kernel_rfl)) (fun _ _ _ h => h) (Or.inl ⟨by rfl, ?_⟩) ?_ ?_
             rotate_left
             ·intro w'
              go_simp
              with_reducible rfl
             rotate_left
             ·simp only [Act.put, List.setIfInBounds_toArray, List.set_cons_zero, List.set_cons_succ, i64_w, i32_w]
              rfl
             exact norm_ (by simp only [putAll, Act.put, List.setIfInBounds_toArray, List.set_cons_zero, List.set_cons_succ] <;> rfl) (hJ4_5 () _ ⟨hHeld, (by (with_reducible repeat (first | apply Kd.R_alloc | apply Kd.R_drewN | apply Kd.R_drew)); exact HO829.out), (BK814.out), (BK815.out), (BK817.out), (BK826.out), (BK837.out), (HB.out)⟩)
            ·skip
             refine box_step ?hg (N := 14) ?hd (cs := #[.int .i64 0, .int .i64 0]) (t := 28) ?hr ?_; (case hd => rfl); (case hg => rfl); (case hr => first | (go_simp; done) | (go_simp; rfl))
             intro gb850 hg w49 hbox hb
             have BK850 := Aside0.mk (hbox)
             have GE850 := Aside0.mk (bG hg (HB.out))
             have NB814_850 := cN hg BK814
             have NB850_814 := cM hg BK814
             have NB815_850 := cN hg BK815
             have NB850_815 := cM hg BK815
             have NB817_850 := cN hg BK817
             have NB850_817 := cM hg BK817
             have NB826_850 := cN hg BK826
             have NB850_826 := cM hg BK826
             have NB837_850 := cN hg BK837
             have NB850_837 := cM hg BK837
             replace HO829 := Aside0.mk (Kd.R_below (by (with_reducible repeat (first | apply Kd.R_alloc | apply Kd.R_drewN | apply Kd.R_drew)); exact HO829.out) hb)
             replace BK814 := cB hb BK814
             replace BK815 := cB hb BK815
             replace BK817 := cB hb BK817
             replace BK826 := cB hb BK826
             replace BK837 := cB hb BK837
             replace HB := Aside0.mk (below_step (HB.out) hb)
             clear hb hbox hg
             refine hK.out _ _ ⟨(blk_cell BK814.out 0).trans rfl, (blk_cell BK814.out 1).trans rfl, (blk_cell BK814.out 2).trans rfl, (blk_cell BK815.out 0).trans rfl, (blk_cell BK815.out 1).trans rfl, (blk_cell BK815.out 2).trans rfl, (blk_cell BK837.out 0).trans rfl, (blk_cell BK837.out 1).trans rfl, (blk_cell BK837.out 2).trans rfl, (blk_cell BK837.out 3).trans rfl, (blk_cell BK837.out 4).trans rfl, (blk_cell BK837.out 5).trans rfl, (blk_cell BK817.out 0).trans rfl, (blk_cell BK817.out 1).trans rfl, (blk_cell BK817.out 2).trans rfl, (blk_cell BK817.out 3).trans rfl, (blk_cell BK817.out 4).trans rfl, (blk_cell BK817.out 5).trans rfl⟩ (fun hHeld => ?_)
             clear hK K
             refine norm_ (a' := ?_) ?_ ?_
             rotate_left
             ·show Act.put _ (some 14) _ = _
              simp only [Act.put, List.setIfInBounds_toArray, List.set_cons_zero, List.set_cons_succ, i64_w, i32_w]
              rfl
             exact norm_ (by simp only [putAll, Act.put, List.setIfInBounds_toArray, List.set_cons_zero, List.set_cons_succ] <;> rfl) (hJ4_11 (gb850) _ ⟨hHeld, (by (with_reducible repeat (first | apply Kd.R_alloc | apply Kd.R_drewN | apply Kd.R_drew)); exact HO829.out), (BK814.out), (BK815.out), (BK817.out), (BK826.out), (BK837.out), (BK850.out), GE850.out, NB814_850.out, NB850_814.out, NB815_850.out, NB850_815.out, NB817_850.out, NB850_817.out, NB826_850.out, NB850_826.out, NB837_850.out, NB850_837.out, (HB.out)⟩)
            skip
            refine box_step ?hg (N := 15) ?hd (cs := #[.int .i64 0, .int .i64 0]) (t := 28) ?hr ?_; (case hd => rfl); (case hg => rfl); (case hr => first | (go_simp; done) | (go_simp; rfl))
            intro gb851 hg w49 hbox hb
            have BK851 := Aside0.mk (hbox)
            have GE851 := Aside0.mk (bG hg (HB.out))
            have NB814_851 := cN hg BK814
            have NB851_814 := cM hg BK814
            have NB815_851 := cN hg BK815
            have NB851_815 := cM hg BK815
            have NB817_851 := cN hg BK817
            have NB851_817 := cM hg BK817
            have NB826_851 := cN hg BK826
            have NB851_826 := cM hg BK826
            have NB837_851 := cN hg BK837
            have NB851_837 := cM hg BK837
            replace HO829 := Aside0.mk (Kd.R_below (by (with_reducible repeat (first | apply Kd.R_alloc | apply Kd.R_drewN | apply Kd.R_drew)); exact HO829.out) hb)
            replace BK814 := cB hb BK814
            replace BK815 := cB hb BK815
            replace BK817 := cB hb BK817
            replace BK826 := cB hb BK826
            replace BK837 := cB hb BK837
            replace HB := Aside0.mk (below_step (HB.out) hb)
            clear hb hbox hg
            refine hK.out _ _ ⟨(blk_cell BK814.out 0).trans rfl, (blk_cell BK814.out 1).trans rfl, (blk_cell BK814.out 2).trans rfl, (blk_cell BK815.out 0).trans rfl, (blk_cell BK815.out 1).trans rfl, (blk_cell BK815.out 2).trans rfl, (blk_cell BK837.out 0).trans rfl, (blk_cell BK837.out 1).trans rfl, (blk_cell BK837.out 2).trans rfl, (blk_cell BK837.out 3).trans rfl, (blk_cell BK837.out 4).trans rfl, (blk_cell BK837.out 5).trans rfl, (blk_cell BK817.out 0).trans rfl, (blk_cell BK817.out 1).trans rfl, (blk_cell BK817.out 2).trans rfl, (blk_cell BK817.out 3).trans rfl, (blk_cell BK817.out 4).trans rfl, (blk_cell BK817.out 5).trans rfl⟩ (fun hHeld => ?_)
            clear hK K
            refine norm_ (a' := ?_) ?_ ?_
            rotate_left
            ·show Act.put _ (some 15) _ = _
             simp only [Act.put, List.setIfInBounds_toArray, List.set_cons_zero, List.set_cons_succ, i64_w, i32_w]
             rfl
            exact norm_ (by simp only [putAll, Act.put, List.setIfInBounds_toArray, List.set_cons_zero, List.set_cons_succ] <;> rfl) (hJ4_12 (gb851) _ ⟨hHeld, (by (with_reducible repeat (first | apply Kd.R_alloc | apply Kd.R_drewN | apply Kd.R_drew)); exact HO829.out), (BK814.out), (BK815.out), (BK817.out), (BK826.out), (BK837.out), (BK851.out), GE851.out, NB814_851.out, NB851_814.out, NB815_851.out, NB851_815.out, NB817_851.out, NB851_817.out, NB826_851.out, NB851_826.out, NB837_851.out, NB851_837.out, (HB.out)⟩)
           skip
           rintro ⟨gb850, gb851⟩ w49 ⟨hS_, h0_, h1_, h2_, h3_, h4_, h5_, h6_, h7_, h8_, h9_, h10_, h11_, h12_, h13_, h14_, h15_, h16_, h17_, h18_, h19_, h20_, h21_, h22_, h23_, h24_, h25_, h26_, h27_, h28_, h29_, h30_, h31_, h32_⟩
           have n0_ : Aside0 (Kd.R k23 23 w49 w.heap.size (fun k_ => k_ ≠ gb814 ∧ k_ ≠ gb815) (.slice Ao36 y827.length co36) y827) := ⟨h0_⟩
           have n1_ : Aside0 (w49.heap[gb814]? = some (.cells #[.int .i64 a0_0, .int .i64 a0_1, .int .i64 a0_2] 23 (0, 0))) := ⟨h1_⟩
           have n2_ : Aside0 (w49.heap[gb815]? = some (.cells #[.int .i64 a1_0, .int .i64 a1_1, .int .i64 a1_2] 23 (0, 0))) := ⟨h2_⟩
           have n3_ : Aside0 (w49.heap[gb817]? = some (.cells #[.int .i64 a3_0, .int .i64 a3_1, .int .i64 a3_2, .int .i64 a3_3, .int .i64 a3_4, .int .i64 a3_5] 56 (0, 0))) := ⟨h3_⟩
           have n4_ : Aside0 (w49.heap[gb826]? = some (.cells #[.int .i64 t819, .int .i64 t820, .bool t821, .int .i64 t822, .int .i64 t823] 30 (0, 0))) := ⟨h4_⟩
           have n5_ : Aside0 (w49.heap[gb837]? = some (.cells #[.int .i64 t830, .int .i64 t831, .int .i64 t832, .int .i64 t833, .int .i64 t834, .int .i64 t835] 56 (0, 0))) := ⟨h5_⟩
           have n6_ : Aside0 (w49.heap[gb850]? = some (.cells #[.int .i64 0, .int .i64 0] 28 (0, 0))) := ⟨h6_⟩
           have n7_ : Aside0 (w49.heap[gb851]? = some (.cells #[.int .i64 0, .int .i64 0] 28 (0, 0))) := ⟨h7_⟩
           have GE850 : Aside0 (w.heap.size ≤ gb850) := ⟨h8_⟩
           have NB814_850 : Aside0 (gb814 ≠ gb850) := ⟨h9_⟩
           have NB850_814 : Aside0 (gb850 ≠ gb814) := ⟨h10_⟩
           have NB815_850 : Aside0 (gb815 ≠ gb850) := ⟨h11_⟩
           have NB850_815 : Aside0 (gb850 ≠ gb815) := ⟨h12_⟩
           have NB817_850 : Aside0 (gb817 ≠ gb850) := ⟨h13_⟩
           have NB850_817 : Aside0 (gb850 ≠ gb817) := ⟨h14_⟩
           have NB826_850 : Aside0 (gb826 ≠ gb850) := ⟨h15_⟩
           have NB850_826 : Aside0 (gb850 ≠ gb826) := ⟨h16_⟩
           have NB837_850 : Aside0 (gb837 ≠ gb850) := ⟨h17_⟩
           have NB850_837 : Aside0 (gb850 ≠ gb837) := ⟨h18_⟩
           have NB851_850 : Aside0 (gb851 ≠ gb850) := ⟨h19_⟩
           have NB850_851 : Aside0 (gb850 ≠ gb851) := ⟨h20_⟩
           have GE851 : Aside0 (w.heap.size ≤ gb851) := ⟨h21_⟩
           have NB814_851 : Aside0 (gb814 ≠ gb851) := ⟨h22_⟩
           have NB851_814 : Aside0 (gb851 ≠ gb814) := ⟨h23_⟩
           have NB815_851 : Aside0 (gb815 ≠ gb851) := ⟨h24_⟩
           have NB851_815 : Aside0 (gb851 ≠ gb815) := ⟨h25_⟩
           have NB817_851 : Aside0 (gb817 ≠ gb851) := ⟨h26_⟩
           have NB851_817 : Aside0 (gb851 ≠ gb817) := ⟨h27_⟩
           have NB826_851 : Aside0 (gb826 ≠ gb851) := ⟨h28_⟩
           have NB851_826 : Aside0 (gb851 ≠ gb826) := ⟨h29_⟩
           have NB837_851 : Aside0 (gb837 ≠ gb851) := ⟨h30_⟩
           have NB851_837 : Aside0 (gb851 ≠ gb837) := ⟨h31_⟩
           have n32_ : Aside0 (Below w.heap.size w w49) := ⟨h32_⟩
           clear HO829
           clear BK814
           clear BK815
           clear BK817
           clear BK826
           clear BK837
           clear HB
           clear h0_ h1_ h2_ h3_ h4_ h5_ h6_ h7_ h8_ h9_ h10_ h11_ h12_ h13_ h14_ h15_ h16_ h17_ h18_ h19_ h20_ h21_ h22_ h23_ h24_ h25_ h26_ h27_ h28_ h29_ h30_ h31_ h32_
           have HO829 := n0_
           have BK814 := n1_
           have BK815 := n2_
           have BK817 := n3_
           have BK826 := n4_
           have BK837 := n5_
           have BK850 := n6_
           have BK851 := n7_
           have HB := n32_
           clear n0_ n1_ n2_ n3_ n4_ n5_ n6_ n7_ n32_
           have hHeld : w49.cell? ⟨gb814, 0, none⟩ = some (.int .i64 a0_0) ∧ w49.cell? ⟨gb814, 1, none⟩ = some (.int .i64 a0_1) ∧ w49.cell? ⟨gb814, 2, none⟩ = some (.int .i64 a0_2) ∧ w49.cell? ⟨gb815, 0, none⟩ = some (.int .i64 a1_0) ∧ w49.cell? ⟨gb815, 1, none⟩ = some (.int .i64 a1_1) ∧ w49.cell? ⟨gb815, 2, none⟩ = some (.int .i64 a1_2) ∧ w49.cell? ⟨gb837, 0, none⟩ = some (.int .i64 t830) ∧ w49.cell? ⟨gb837, 1, none⟩ = some (.int .i64 t831) ∧ w49.cell? ⟨gb837, 2, none⟩ = some (.int .i64 t832) ∧ w49.cell? ⟨gb837, 3, none⟩ = some (.int .i64 t833) ∧ w49.cell? ⟨gb837, 4, none⟩ = some (.int .i64 t834) ∧ w49.cell? ⟨gb837, 5, none⟩ = some (.int .i64 t835) ∧ w49.cell? ⟨gb817, 0, none⟩ = some (.int .i64 a3_0) ∧ w49.cell? ⟨gb817, 1, none⟩ = some (.int .i64 a3_1) ∧ w49.cell? ⟨gb817, 2, none⟩ = some (.int .i64 a3_2) ∧ w49.cell? ⟨gb817, 3, none⟩ = some (.int .i64 a3_3) ∧ w49.cell? ⟨gb817, 4, none⟩ = some (.int .i64 a3_4) ∧ w49.cell? ⟨gb817, 5, none⟩ = some (.int .i64 a3_5) := hS_
           refine norm_ (a' := ?_) ?_ ?_
           rotate_left
           ·simp only [putAll, Act.put, List.setIfInBounds_toArray, List.set_cons_zero, List.set_cons_succ]
            rfl
           refine one_ (i := 4) (N := some 60) #[true, true, true, true, true, false, false, false, false, false, false, true, true, false, false, false, false] rfl rfl (one_of HT_.out (by kernel_rfl)) (by decide) (fun K hK => ?_)
           refine goes_ Try.func37 (by kernel_rfl) rfl #[.agg #[.int .i64 t830, .int .i64 t831, .int .i64 t832, .int .i64 t833, .int .i64 t834, .int .i64 t835], .agg #[.int .i64 a3_0, .int .i64 a3_1, .int .i64 a3_2, .int .i64 a3_3, .int .i64 a3_4, .int .i64 a3_5]] (by rfl) rfl rfl (by (try simp only [List.map_toArray, List.map_cons, List.map_nil]); first | done | rfl | (simp only [List.length_drop, List.length_take]; rfl)) ?_
           with_reducible refine (vec_Join.calls t830 t831 t832 t833 t834 t835 a3_0 a3_1 a3_2 a3_3 a3_4 a3_5 t838 t839 t840 t841 t842 t843 _ A30.out).mono ?_
           rintro e w50 ⟨rfl, hb⟩
           refine ⟨_, rfl, ?_⟩
           replace HO829 := Aside0.mk (Kd.R_below (by (with_reducible repeat (first | apply Kd.R_alloc | apply Kd.R_drewN | apply Kd.R_drew)); exact HO829.out) hb)
           replace BK814 := cB hb BK814
           replace BK815 := cB hb BK815
           replace BK817 := cB hb BK817
           replace BK826 := cB hb BK826
           replace BK837 := cB hb BK837
           replace BK850 := cB hb BK850
           replace BK851 := cB hb BK851
           replace HB := Aside0.mk (below_step (HB.out) hb)
           (try clear hb)
           (try clear hb2)
           (try clear hk)
           (try clear hi)
           refine hK.out _ _ ⟨(blk_cell BK814.out 0).trans rfl, (blk_cell BK814.out 1).trans rfl, (blk_cell BK814.out 2).trans rfl, (blk_cell BK815.out 0).trans rfl, (blk_cell BK815.out 1).trans rfl, (blk_cell BK815.out 2).trans rfl, (blk_cell BK837.out 0).trans rfl, (blk_cell BK837.out 1).trans rfl, (blk_cell BK837.out 2).trans rfl, (blk_cell BK837.out 3).trans rfl, (blk_cell BK837.out 4).trans rfl, (blk_cell BK837.out 5).trans rfl, (blk_cell BK817.out 0).trans rfl, (blk_cell BK817.out 1).trans rfl, (blk_cell BK817.out 2).trans rfl, (blk_cell BK817.out 3).trans rfl, (blk_cell BK817.out 4).trans rfl, (blk_cell BK817.out 5).trans rfl⟩ (fun hHeld => ?_)
           clear hK K
           refine norm_ (a' := ?_) ?_ ?_
           rotate_left
           ·show Act.put _ (some 60) _ = _
            simp only [Act.put, List.setIfInBounds_toArray, List.set_cons_zero, List.set_cons_succ, i64_w, i32_w]
            rfl
           exact norm_ (by simp only [putAll, Act.put, List.setIfInBounds_toArray, List.set_cons_zero, List.set_cons_succ] <;> rfl) (hJ4_11_12 (gb850, gb851) _ ⟨hHeld, (by (with_reducible repeat (first | apply Kd.R_alloc | apply Kd.R_drewN | apply Kd.R_drew)); exact HO829.out), (BK814.out), (BK815.out), (BK817.out), (BK826.out), (BK837.out), (BK850.out), (BK851.out), GE850.out, NB814_850.out, NB850_814.out, NB815_850.out, NB850_815.out, NB817_850.out, NB850_817.out, NB826_850.out, NB850_826.out, NB837_850.out, NB850_837.out, NB851_850.out, NB850_851.out, GE851.out, NB814_851.out, NB851_814.out, NB815_851.out, NB851_815.out, NB817_851.out, NB851_817.out, NB826_851.out, NB851_826.out, NB837_851.out, NB851_837.out, (HB.out)⟩)
          skip
          rintro gb851 w49 ⟨hS_, h0_, h1_, h2_, h3_, h4_, h5_, h6_, h7_, h8_, h9_, h10_, h11_, h12_, h13_, h14_, h15_, h16_, h17_, h18_⟩
          have n0_ : Aside0 (Kd.R k23 23 w49 w.heap.size (fun k_ => k_ ≠ gb814 ∧ k_ ≠ gb815) (.slice Ao36 y827.length co36) y827) := ⟨h0_⟩
          have n1_ : Aside0 (w49.heap[gb814]? = some (.cells #[.int .i64 a0_0, .int .i64 a0_1, .int .i64 a0_2] 23 (0, 0))) := ⟨h1_⟩
          have n2_ : Aside0 (w49.heap[gb815]? = some (.cells #[.int .i64 a1_0, .int .i64 a1_1, .int .i64 a1_2] 23 (0, 0))) := ⟨h2_⟩
          have n3_ : Aside0 (w49.heap[gb817]? = some (.cells #[.int .i64 a3_0, .int .i64 a3_1, .int .i64 a3_2, .int .i64 a3_3, .int .i64 a3_4, .int .i64 a3_5] 56 (0, 0))) := ⟨h3_⟩
          have n4_ : Aside0 (w49.heap[gb826]? = some (.cells #[.int .i64 t819, .int .i64 t820, .bool t821, .int .i64 t822, .int .i64 t823] 30 (0, 0))) := ⟨h4_⟩
          have n5_ : Aside0 (w49.heap[gb837]? = some (.cells #[.int .i64 t830, .int .i64 t831, .int .i64 t832, .int .i64 t833, .int .i64 t834, .int .i64 t835] 56 (0, 0))) := ⟨h5_⟩
          have n6_ : Aside0 (w49.heap[gb851]? = some (.cells #[.int .i64 0, .int .i64 0] 28 (0, 0))) := ⟨h6_⟩
          have GE851 : Aside0 (w.heap.size ≤ gb851) := ⟨h7_⟩
          have NB814_851 : Aside0 (gb814 ≠ gb851) := ⟨h8_⟩
          have NB851_814 : Aside0 (gb851 ≠ gb814) := ⟨h9_⟩
          have NB815_851 : Aside0 (gb815 ≠ gb851) := ⟨h10_⟩
          have NB851_815 : Aside0 (gb851 ≠ gb815) := ⟨h11_⟩
          have NB817_851 : Aside0 (gb817 ≠ gb851) := ⟨h12_⟩
          have NB851_817 : Aside0 (gb851 ≠ gb817) := ⟨h13_⟩
          have NB826_851 : Aside0 (gb826 ≠ gb851) := ⟨h14_⟩
          have NB851_826 : Aside0 (gb851 ≠ gb826) := ⟨h15_⟩
          have NB837_851 : Aside0 (gb837 ≠ gb851) := ⟨h16_⟩
          have NB851_837 : Aside0 (gb851 ≠ gb837) := ⟨h17_⟩
          have n18_ : Aside0 (Below w.heap.size w w49) := ⟨h18_⟩
          clear HO829
          clear BK814
          clear BK815
          clear BK817
          clear BK826
          clear BK837
          clear HB
          clear h0_ h1_ h2_ h3_ h4_ h5_ h6_ h7_ h8_ h9_ h10_ h11_ h12_ h13_ h14_ h15_ h16_ h17_ h18_
          have HO829 := n0_
          have BK814 := n1_
          have BK815 := n2_
          have BK817 := n3_
          have BK826 := n4_
          have BK837 := n5_
          have BK851 := n6_
          have HB := n18_
          clear n0_ n1_ n2_ n3_ n4_ n5_ n6_ n18_
          have hHeld : w49.cell? ⟨gb814, 0, none⟩ = some (.int .i64 a0_0) ∧ w49.cell? ⟨gb814, 1, none⟩ = some (.int .i64 a0_1) ∧ w49.cell? ⟨gb814, 2, none⟩ = some (.int .i64 a0_2) ∧ w49.cell? ⟨gb815, 0, none⟩ = some (.int .i64 a1_0) ∧ w49.cell? ⟨gb815, 1, none⟩ = some (.int .i64 a1_1) ∧ w49.cell? ⟨gb815, 2, none⟩ = some (.int .i64 a1_2) ∧ w49.cell? ⟨gb837, 0, none⟩ = some (.int .i64 t830) ∧ w49.cell? ⟨gb837, 1, none⟩ = some (.int .i64 t831) ∧ w49.cell? ⟨gb837, 2, none⟩ = some (.int .i64 t832) ∧ w49.cell? ⟨gb837, 3, none⟩ = some (.int .i64 t833) ∧ w49.cell? ⟨gb837, 4, none⟩ = some (.int .i64 t834) ∧ w49.cell? ⟨gb837, 5, none⟩ = some (.int .i64 t835) ∧ w49.cell? ⟨gb817, 0, none⟩ = some (.int .i64 a3_0) ∧ w49.cell? ⟨gb817, 1, none⟩ = some (.int .i64 a3_1) ∧ w49.cell? ⟨gb817, 2, none⟩ = some (.int .i64 a3_2) ∧ w49.cell? ⟨gb817, 3, none⟩ = some (.int .i64 a3_3) ∧ w49.cell? ⟨gb817, 4, none⟩ = some (.int .i64 a3_4) ∧ w49.cell? ⟨gb817, 5, none⟩ = some (.int .i64 a3_5) := hS_
          refine norm_ (a' := ?_) ?_ ?_
          rotate_left
          ·simp only [putAll, Act.put, List.setIfInBounds_toArray, List.set_cons_zero, List.set_cons_succ]
           rfl
          refine two_ (i := 5) (j := 11) (Ni := some 61) (Nj := some 14) #[true, true, true, true, true, true, false, false, false, false, false, false, true, false, false, false, false] #[true, true, true, true, true, false, false, false, false, false, false, true, true, false, false, false, false] rfl rfl rfl rfl (two_of HT_.out (by kernel_rfl)) (by decide) (by decide) (fun K hK => ?_) (fun K hK => ?_)
          ·skip
           refine goes_ Try.func32 (by kernel_rfl) rfl #[.agg #[.int .i64 a0_0, .int .i64 a0_1, .int .i64 a0_2], .agg #[.int .i64 a1_0, .int .i64 a1_1, .int .i64 a1_2], .agg #[.int .i64 t838, .int .i64 t839, .int .i64 t840, .int .i64 t841, .int .i64 t842, .int .i64 t843]] (by rfl) rfl rfl (by (try simp only [List.map_toArray, List.map_cons, List.map_nil]); first | done | rfl | (simp only [List.length_drop, List.length_take]; rfl)) ?_
           with_reducible refine (slab_Range.calls kj26 a0_0 a0_1 a0_2 a1_0 a1_1 a1_2 t838 t839 t840 t841 t842 t843 t844 t845 t846 t847 t848 t849 _ A31.out).mono ?_
           rintro e w50 ⟨rfl, hb⟩
           refine ⟨_, rfl, ?_⟩
           replace HO829 := Aside0.mk (Kd.R_below (by (with_reducible repeat (first | apply Kd.R_alloc | apply Kd.R_drewN | apply Kd.R_drew)); exact HO829.out) hb)
           replace BK814 := cB hb BK814
           replace BK815 := cB hb BK815
           replace BK817 := cB hb BK817
           replace BK826 := cB hb BK826
           replace BK837 := cB hb BK837
           replace BK851 := cB hb BK851
           replace HB := Aside0.mk (below_step (HB.out) hb)
           (try clear hb)
           (try clear hb2)
           (try clear hk)
           (try clear hi)
           refine hK.out _ _ ⟨(blk_cell BK814.out 0).trans rfl, (blk_cell BK814.out 1).trans rfl, (blk_cell BK814.out 2).trans rfl, (blk_cell BK815.out 0).trans rfl, (blk_cell BK815.out 1).trans rfl, (blk_cell BK815.out 2).trans rfl, (blk_cell BK837.out 0).trans rfl, (blk_cell BK837.out 1).trans rfl, (blk_cell BK837.out 2).trans rfl, (blk_cell BK837.out 3).trans rfl, (blk_cell BK837.out 4).trans rfl, (blk_cell BK837.out 5).trans rfl, (blk_cell BK817.out 0).trans rfl, (blk_cell BK817.out 1).trans rfl, (blk_cell BK817.out 2).trans rfl, (blk_cell BK817.out 3).trans rfl, (blk_cell BK817.out 4).trans rfl, (blk_cell BK817.out 5).trans rfl⟩ (fun hHeld => ?_)
           clear hK K
           refine norm_ (a' := ?_) ?_ ?_
           rotate_left
           ·show Act.put _ (some 61) _ = _
            simp only [Act.put, List.setIfInBounds_toArray, List.set_cons_zero, List.set_cons_succ, i64_w, i32_w]
            rfl
           refine pure_ (i := 6) (N := some 55) (v := ?_) (a' := ?_) #[true, true, true, true, true, true, true, false, false, false, false, false, true, false, false, false, false] rfl rfl (any_of HT_.out (by kernel_rfl)) (fun _ _ _ h => h) (Or.inl ⟨by rfl, ?_⟩) ?_ ?_
           rotate_left
           ·intro w'
            go_simp
            with_reducible rfl
           rotate_left
           ·simp only [Act.put, List.setIfInBounds_toArray, List.set_cons_zero, List.set_cons_succ, i64_w, i32_w]
            rfl
           refine pure_ (i := 7) (N := some 62) (v := ?_) (a' := ?_) #[true, true, true, true, true, true, true, true, false, false, false, false, true, false, false, false, false] rfl rfl (any_of HT_.out (by kernel_rfl)) (fun _ _ _ h => h) (Or.inl ⟨by rfl, ?_⟩) ?_ ?_
           rotate_left
           ·intro w'
            go_simp
            with_reducible rfl
           rotate_left
           ·simp only [Act.put, List.setIfInBounds_toArray, List.set_cons_zero, List.set_cons_succ, i64_w, i32_w]
            rfl
           refine pure_ (i := 8) (N := some 63) (v := ?_) (a' := ?_) #[true, true, true, true, true, true, true, true, true, false, false, false, true, false, false, false, false] rfl rfl (any_of HT_.out (by kernel_rfl)) (fun _ _ _ h => h) (Or.inl ⟨by rfl, ?_⟩) ?_ ?_
           rotate_left
           ·intro w'
            go_simp
            with_reducible rfl
           rotate_left
           ·simp only [Act.put, List.setIfInBounds_toArray, List.set_cons_zero, List.set_cons_succ, i64_w, i32_w]
            rfl
           refine pure_ (i := 9) (N := some 64) (v := ?_) (a' := ?_) #[true, true, true, true, true, true, true, true, true, true, false, false, true, false, false, false, false] rfl rfl (any_of HT_.out (by kernel_rfl)) (fun _ _ _ h => h) (Or.inl ⟨by rfl, ?_⟩) ?_ ?_
           rotate_left
           ·intro w'
            go_simp
            with_reducible rfl
           rotate_left
           ·simp only [Act.put, List.setIfInBounds_toArray, List.set_cons_zero, List.set_cons_succ, i64_w, i32_w]
            rfl
           refine pure_ (i := 10) (N := some 65) (v := ?_) (a' := ?_) #[true, true, true, true, true, true, true, true, true, true, true, false, true, false, false, false, false] rfl rfl (any_of HT_.out (by kernel_rfl)) (fun _ _ _ h => h) (Or.inl ⟨by rfl, ?_⟩) ?_ ?_
           rotate_left
           ·intro w'
            go_simp
            with_reducible rfl
           rotate_left
           ·simp only [Act.put, List.setIfInBounds_toArray, List.set_cons_zero, List.set_cons_succ, i64_w, i32_w]
            rfl
           exact norm_ (by simp only [putAll, Act.put, List.setIfInBounds_toArray, List.set_cons_zero, List.set_cons_succ] <;> rfl) (hJ4_5_12 (gb851) _ ⟨hHeld, (by (with_reducible repeat (first | apply Kd.R_alloc | apply Kd.R_drewN | apply Kd.R_drew)); exact HO829.out), (BK814.out), (BK815.out), (BK817.out), (BK826.out), (BK837.out), (BK851.out), GE851.out, NB814_851.out, NB851_814.out, NB815_851.out, NB851_815.out, NB817_851.out, NB851_817.out, NB826_851.out, NB851_826.out, NB837_851.out, NB851_837.out, (HB.out)⟩)
          skip
          refine box_step ?hg (N := 14) ?hd (cs := #[.int .i64 0, .int .i64 0]) (t := 28) ?hr ?_; (case hd => rfl); (case hg => rfl); (case hr => first | (go_simp; done) | (go_simp; rfl))
          intro gb850 hg w50 hbox hb
          have BK850 := Aside0.mk (hbox)
          have GE850 := Aside0.mk (bG hg (HB.out))
          have NB814_850 := cN hg BK814
          have NB850_814 := cM hg BK814
          have NB815_850 := cN hg BK815
          have NB850_815 := cM hg BK815
          have NB817_850 := cN hg BK817
          have NB850_817 := cM hg BK817
          have NB826_850 := cN hg BK826
          have NB850_826 := cM hg BK826
          have NB837_850 := cN hg BK837
          have NB850_837 := cM hg BK837
          have NB851_850 := cN hg BK851
          have NB850_851 := cM hg BK851
          replace HO829 := Aside0.mk (Kd.R_below (by (with_reducible repeat (first | apply Kd.R_alloc | apply Kd.R_drewN | apply Kd.R_drew)); exact HO829.out) hb)
          replace BK814 := cB hb BK814
          replace BK815 := cB hb BK815
          replace BK817 := cB hb BK817
          replace BK826 := cB hb BK826
          replace BK837 := cB hb BK837
          replace BK851 := cB hb BK851
          replace HB := Aside0.mk (below_step (HB.out) hb)
          clear hb hbox hg
          refine hK.out _ _ ⟨(blk_cell BK814.out 0).trans rfl, (blk_cell BK814.out 1).trans rfl, (blk_cell BK814.out 2).trans rfl, (blk_cell BK815.out 0).trans rfl, (blk_cell BK815.out 1).trans rfl, (blk_cell BK815.out 2).trans rfl, (blk_cell BK837.out 0).trans rfl, (blk_cell BK837.out 1).trans rfl, (blk_cell BK837.out 2).trans rfl, (blk_cell BK837.out 3).trans rfl, (blk_cell BK837.out 4).trans rfl, (blk_cell BK837.out 5).trans rfl, (blk_cell BK817.out 0).trans rfl, (blk_cell BK817.out 1).trans rfl, (blk_cell BK817.out 2).trans rfl, (blk_cell BK817.out 3).trans rfl, (blk_cell BK817.out 4).trans rfl, (blk_cell BK817.out 5).trans rfl⟩ (fun hHeld => ?_)
          clear hK K
          refine norm_ (a' := ?_) ?_ ?_
          rotate_left
          ·show Act.put _ (some 14) _ = _
           simp only [Act.put, List.setIfInBounds_toArray, List.set_cons_zero, List.set_cons_succ, i64_w, i32_w]
           rfl
          exact norm_ (by simp only [putAll, Act.put, List.setIfInBounds_toArray, List.set_cons_zero, List.set_cons_succ] <;> rfl) (hJ4_11_12 (gb850, gb851) _ ⟨hHeld, (by (with_reducible repeat (first | apply Kd.R_alloc | apply Kd.R_drewN | apply Kd.R_drew)); exact HO829.out), (BK814.out), (BK815.out), (BK817.out), (BK826.out), (BK837.out), (BK850.out), (BK851.out), GE850.out, NB814_850.out, NB850_814.out, NB815_850.out, NB850_815.out, NB817_850.out, NB850_817.out, NB826_850.out, NB850_826.out, NB837_850.out, NB850_837.out, NB851_850.out, NB850_851.out, GE851.out, NB814_851.out, NB851_814.out, NB815_851.out, NB851_815.out, NB817_851.out, NB851_817.out, NB826_851.out, NB851_826.out, NB837_851.out, NB851_837.out, (HB.out)⟩)
         skip
         rintro gb850 w49 ⟨hS_, h0_, h1_, h2_, h3_, h4_, h5_, h6_, h7_, h8_, h9_, h10_, h11_, h12_, h13_, h14_, h15_, h16_, h17_, h18_⟩
         have n0_ : Aside0 (Kd.R k23 23 w49 w.heap.size (fun k_ => k_ ≠ gb814 ∧ k_ ≠ gb815) (.slice Ao36 y827.length co36) y827) := ⟨h0_⟩
         have n1_ : Aside0 (w49.heap[gb814]? = some (.cells #[.int .i64 a0_0, .int .i64 a0_1, .int .i64 a0_2] 23 (0, 0))) := ⟨h1_⟩
         have n2_ : Aside0 (w49.heap[gb815]? = some (.cells #[.int .i64 a1_0, .int .i64 a1_1, .int .i64 a1_2] 23 (0, 0))) := ⟨h2_⟩
         have n3_ : Aside0 (w49.heap[gb817]? = some (.cells #[.int .i64 a3_0, .int .i64 a3_1, .int .i64 a3_2, .int .i64 a3_3, .int .i64 a3_4, .int .i64 a3_5] 56 (0, 0))) := ⟨h3_⟩
         have n4_ : Aside0 (w49.heap[gb826]? = some (.cells #[.int .i64 t819, .int .i64 t820, .bool t821, .int .i64 t822, .int .i64 t823] 30 (0, 0))) := ⟨h4_⟩
         have n5_ : Aside0 (w49.heap[gb837]? = some (.cells #[.int .i64 t830, .int .i64 t831, .int .i64 t832, .int .i64 t833, .int .i64 t834, .int .i64 t835] 56 (0, 0))) := ⟨h5_⟩
         have n6_ : Aside0 (w49.heap[gb850]? = some (.cells #[.int .i64 0, .int .i64 0] 28 (0, 0))) := ⟨h6_⟩
         have GE850 : Aside0 (w.heap.size ≤ gb850) := ⟨h7_⟩
         have NB814_850 : Aside0 (gb814 ≠ gb850) := ⟨h8_⟩
         have NB850_814 : Aside0 (gb850 ≠ gb814) := ⟨h9_⟩
         have NB815_850 : Aside0 (gb815 ≠ gb850) := ⟨h10_⟩
         have NB850_815 : Aside0 (gb850 ≠ gb815) := ⟨h11_⟩
         have NB817_850 : Aside0 (gb817 ≠ gb850) := ⟨h12_⟩
         have NB850_817 : Aside0 (gb850 ≠ gb817) := ⟨h13_⟩
         have NB826_850 : Aside0 (gb826 ≠ gb850) := ⟨h14_⟩
         have NB850_826 : Aside0 (gb850 ≠ gb826) := ⟨h15_⟩
         have NB837_850 : Aside0 (gb837 ≠ gb850) := ⟨h16_⟩
         have NB850_837 : Aside0 (gb850 ≠ gb837) := ⟨h17_⟩
         have n18_ : Aside0 (Below w.heap.size w w49) := ⟨h18_⟩
         clear HO829
         clear BK814
         clear BK815
         clear BK817
         clear BK826
         clear BK837
         clear HB
         clear h0_ h1_ h2_ h3_ h4_ h5_ h6_ h7_ h8_ h9_ h10_ h11_ h12_ h13_ h14_ h15_ h16_ h17_ h18_
         have HO829 := n0_
         have BK814 := n1_
         have BK815 := n2_
         have BK817 := n3_
         have BK826 := n4_
         have BK837 := n5_
         have BK850 := n6_
         have HB := n18_
         clear n0_ n1_ n2_ n3_ n4_ n5_ n6_ n18_
         have hHeld : w49.cell? ⟨gb814, 0, none⟩ = some (.int .i64 a0_0) ∧ w49.cell? ⟨gb814, 1, none⟩ = some (.int .i64 a0_1) ∧ w49.cell? ⟨gb814, 2, none⟩ = some (.int .i64 a0_2) ∧ w49.cell? ⟨gb815, 0, none⟩ = some (.int .i64 a1_0) ∧ w49.cell? ⟨gb815, 1, none⟩ = some (.int .i64 a1_1) ∧ w49.cell? ⟨gb815, 2, none⟩ = some (.int .i64 a1_2) ∧ w49.cell? ⟨gb837, 0, none⟩ = some (.int .i64 t830) ∧ w49.cell? ⟨gb837, 1, none⟩ = some (.int .i64 t831) ∧ w49.cell? ⟨gb837, 2, none⟩ = some (.int .i64 t832) ∧ w49.cell? ⟨gb837, 3, none⟩ = some (.int .i64 t833) ∧ w49.cell? ⟨gb837, 4, none⟩ = some (.int .i64 t834) ∧ w49.cell? ⟨gb837, 5, none⟩ = some (.int .i64 t835) ∧ w49.cell? ⟨gb817, 0, none⟩ = some (.int .i64 a3_0) ∧ w49.cell? ⟨gb817, 1, none⟩ = some (.int .i64 a3_1) ∧ w49.cell? ⟨gb817, 2, none⟩ = some (.int .i64 a3_2) ∧ w49.cell? ⟨gb817, 3, none⟩ = some (.int .i64 a3_3) ∧ w49.cell? ⟨gb817, 4, none⟩ = some (.int .i64 a3_4) ∧ w49.cell? ⟨gb817, 5, none⟩ = some (.int .i64 a3_5) := hS_
         refine norm_ (a' := ?_) ?_ ?_
         rotate_left
         ·simp only [putAll, Act.put, List.setIfInBounds_toArray, List.set_cons_zero, List.set_cons_succ]
          rfl
         refine two_ (i := 5) (j := 12) (Ni := some 61) (Nj := some 15) #[true, true, true, true, true, true, false, false, false, false, false, true, false, false, false, false, false] #[true, true, true, true, true, false, false, false, false, false, false, true, true, false, false, false, false] rfl rfl rfl rfl (two_of HT_.out (by kernel_rfl)) (by decide) (by decide) (fun K hK => ?_) (fun K hK => ?_)
         ·skip
          refine goes_ Try.func32 (by kernel_rfl) rfl #[.agg #[.int .i64 a0_0, .int .i64 a0_1, .int .i64 a0_2], .agg #[.int .i64 a1_0, .int .i64 a1_1, .int .i64 a1_2], .agg #[.int .i64 t838, .int .i64 t839, .int .i64 t840, .int .i64 t841, .int .i64 t842, .int .i64 t843]] (by rfl) rfl rfl (by (try simp only [List.map_toArray, List.map_cons, List.map_nil]); first | done | rfl | (simp only [List.length_drop, List.length_take]; rfl)) ?_
          with_reducible refine (slab_Range.calls kj26 a0_0 a0_1 a0_2 a1_0 a1_1 a1_2 t838 t839 t840 t841 t842 t843 t844 t845 t846 t847 t848 t849 _ A31.out).mono ?_
          rintro e w50 ⟨rfl, hb⟩
          refine ⟨_, rfl, ?_⟩
          replace HO829 := Aside0.mk (Kd.R_below (by (with_reducible repeat (first | apply Kd.R_alloc | apply Kd.R_drewN | apply Kd.R_drew)); exact HO829.out) hb)
          replace BK814 := cB hb BK814
          replace BK815 := cB hb BK815
          replace BK817 := cB hb BK817
          replace BK826 := cB hb BK826
          replace BK837 := cB hb BK837
          replace BK850 := cB hb BK850
          replace HB := Aside0.mk (below_step (HB.out) hb)
          (try clear hb)
          (try clear hb2)
          (try clear hk)
          (try clear hi)
          refine hK.out _ _ ⟨(blk_cell BK814.out 0).trans rfl, (blk_cell BK814.out 1).trans rfl, (blk_cell BK814.out 2).trans rfl, (blk_cell BK815.out 0).trans rfl, (blk_cell BK815.out 1).trans rfl, (blk_cell BK815.out 2).trans rfl, (blk_cell BK837.out 0).trans rfl, (blk_cell BK837.out 1).trans rfl, (blk_cell BK837.out 2).trans rfl, (blk_cell BK837.out 3).trans rfl, (blk_cell BK837.out 4).trans rfl, (blk_cell BK837.out 5).trans rfl, (blk_cell BK817.out 0).trans rfl, (blk_cell BK817.out 1).trans rfl, (blk_cell BK817.out 2).trans rfl, (blk_cell BK817.out 3).trans rfl, (blk_cell BK817.out 4).trans rfl, (blk_cell BK817.out 5).trans rfl⟩ (fun hHeld => ?_)
          clear hK K
          refine norm_ (a' := ?_) ?_ ?_
          rotate_left
          ·show Act.put _ (some 61) _ = _
           simp only [Act.put, List.setIfInBounds_toArray, List.set_cons_zero, List.set_cons_succ, i64_w, i32_w]
           rfl
          refine pure_ (i := 6) (N := some 55) (v := ?_) (a' := ?_) #[true, true, true, true, true, true, true, false, false, false, false, true, false, false, false, false, false] rfl rfl (any_of HT_.out (by kernel_rfl)) (fun _ _ _ h => h) (Or.inl ⟨by rfl, ?_⟩) ?_ ?_
          rotate_left
          ·intro w'
           go_simp
           with_reducible rfl
          rotate_left
          ·simp only [Act.put, List.setIfInBounds_toArray, List.set_cons_zero, List.set_cons_succ, i64_w, i32_w]
           rfl
          refine pure_ (i := 7) (N := some 62) (v := ?_) (a' := ?_) #[true, true, true, true, true, true, true, true, false, false, false, true, false, false, false, false, false] rfl rfl (any_of HT_.out (by kernel_rfl)) (fun _ _ _ h => h) (Or.inl ⟨by rfl, ?_⟩) ?_ ?_
          rotate_left
          ·intro w'
           go_simp
           with_reducible rfl
          rotate_left
          ·simp only [Act.put, List.setIfInBounds_toArray, List.set_cons_zero, List.set_cons_succ, i64_w, i32_w]
           rfl
          refine pure_ (i := 8) (N := some 63) (v := ?_) (a' := ?_) #[true, true, true, true, true, true, true, true, true, false, false, true, false, false, false, false, false] rfl rfl (any_of HT_.out (by kernel_rfl)) (fun _ _ _ h => h) (Or.inl ⟨by rfl, ?_⟩) ?_ ?_
          rotate_left
          ·intro w'
           go_simp
           with_reducible rfl
          rotate_left
          ·simp only [Act.put, List.setIfInBounds_toArray, List.set_cons_zero, List.set_cons_succ, i64_w, i32_w]
           rfl
          refine pure_ (i := 9) (N := some 64) (v := ?_) (a' := ?_) #[true, true, true, true, true, true, true, true, true, true, false, true, false, false, false, false, false] rfl rfl (any_of HT_.out (by kernel_rfl)) (fun _ _ _ h => h) (Or.inl ⟨by rfl, ?_⟩) ?_ ?_
          rotate_left
          ·intro w'
           go_simp
           with_reducible rfl
          rotate_left
          ·simp only [Act.put, List.setIfInBounds_toArray, List.set_cons_zero, List.set_cons_succ, i64_w, i32_w]
           rfl
          refine pure_ (i := 10) (N := some 65) (v := ?_) (a' := ?_) #[true, true, true, true, true, true, true, true, true, true, true, true, false, false, false, false, false] rfl rfl (any_of HT_.out (by kernel_rfl)) (fun _ _ _ h => h) (Or.inl ⟨by rfl, ?_⟩) ?_ ?_
          rotate_left
          ·intro w'
           go_simp
           with_reducible rfl
          rotate_left
          ·simp only [Act.put, List.setIfInBounds_toArray, List.set_cons_zero, List.set_cons_succ, i64_w, i32_w]
           rfl
          exact norm_ (by simp only [putAll, Act.put, List.setIfInBounds_toArray, List.set_cons_zero, List.set_cons_succ] <;> rfl) (hJ4_5_11 (gb850) _ ⟨hHeld, (by (with_reducible repeat (first | apply Kd.R_alloc | apply Kd.R_drewN | apply Kd.R_drew)); exact HO829.out), (BK814.out), (BK815.out), (BK817.out), (BK826.out), (BK837.out), (BK850.out), GE850.out, NB814_850.out, NB850_814.out, NB815_850.out, NB850_815.out, NB817_850.out, NB850_817.out, NB826_850.out, NB850_826.out, NB837_850.out, NB850_837.out, (HB.out)⟩)
         skip
         refine box_step ?hg (N := 15) ?hd (cs := #[.int .i64 0, .int .i64 0]) (t := 28) ?hr ?_; (case hd => rfl); (case hg => rfl); (case hr => first | (go_simp; done) | (go_simp; rfl))
         intro gb851 hg w50 hbox hb
         have BK851 := Aside0.mk (hbox)
         have GE851 := Aside0.mk (bG hg (HB.out))
         have NB814_851 := cN hg BK814
         have NB851_814 := cM hg BK814
         have NB815_851 := cN hg BK815
         have NB851_815 := cM hg BK815
         have NB817_851 := cN hg BK817
         have NB851_817 := cM hg BK817
         have NB826_851 := cN hg BK826
         have NB851_826 := cM hg BK826
         have NB837_851 := cN hg BK837
         have NB851_837 := cM hg BK837
         have NB850_851 := cN hg BK850
         have NB851_850 := cM hg BK850
         replace HO829 := Aside0.mk (Kd.R_below (by (with_reducible repeat (first | apply Kd.R_alloc | apply Kd.R_drewN | apply Kd.R_drew)); exact HO829.out) hb)
         replace BK814 := cB hb BK814
         replace BK815 := cB hb BK815
         replace BK817 := cB hb BK817
         replace BK826 := cB hb BK826
         replace BK837 := cB hb BK837
         replace BK850 := cB hb BK850
         replace HB := Aside0.mk (below_step (HB.out) hb)
         clear hb hbox hg
         refine hK.out _ _ ⟨(blk_cell BK814.out 0).trans rfl, (blk_cell BK814.out 1).trans rfl, (blk_cell BK814.out 2).trans rfl, (blk_cell BK815.out 0).trans rfl, (blk_cell BK815.out 1).trans rfl, (blk_cell BK815.out 2).trans rfl, (blk_cell BK837.out 0).trans rfl, (blk_cell BK837.out 1).trans rfl, (blk_cell BK837.out 2).trans rfl, (blk_cell BK837.out 3).trans rfl, (blk_cell BK837.out 4).trans rfl, (blk_cell BK837.out 5).trans rfl, (blk_cell BK817.out 0).trans rfl, (blk_cell BK817.out 1).trans rfl, (blk_cell BK817.out 2).trans rfl, (blk_cell BK817.out 3).trans rfl, (blk_cell BK817.out 4).trans rfl, (blk_cell BK817.out 5).trans rfl⟩ (fun hHeld => ?_)
         clear hK K
         refine norm_ (a' := ?_) ?_ ?_
         rotate_left
         ·show Act.put _ (some 15) _ = _
          simp only [Act.put, List.setIfInBounds_toArray, List.set_cons_zero, List.set_cons_succ, i64_w, i32_w]
          rfl
         exact norm_ (by simp only [putAll, Act.put, List.setIfInBounds_toArray, List.set_cons_zero, List.set_cons_succ] <;> rfl) (hJ4_11_12 (gb850, gb851) _ ⟨hHeld, (by (with_reducible repeat (first | apply Kd.R_alloc | apply Kd.R_drewN | apply Kd.R_drew)); exact HO829.out), (BK814.out), (BK815.out), (BK817.out), (BK826.out), (BK837.out), (BK850.out), (BK851.out), GE850.out, NB814_850.out, NB850_814.out, NB815_850.out, NB850_815.out, NB817_850.out, NB850_817.out, NB826_850.out, NB850_826.out, NB837_850.out, NB850_837.out, NB851_850.out, NB850_851.out, GE851.out, NB814_851.out, NB851_814.out, NB815_851.out, NB851_815.out, NB817_851.out, NB851_817.out, NB826_851.out, NB851_826.out, NB837_851.out, NB851_837.out, (HB.out)⟩)
        skip
        rintro _ w49 ⟨hS_, h0_, h1_, h2_, h3_, h4_, h5_, h6_⟩
        have n0_ : Aside0 (Kd.R k23 23 w49 w.heap.size (fun k_ => k_ ≠ gb814 ∧ k_ ≠ gb815) (.slice Ao36 y827.length co36) y827) := ⟨h0_⟩
        have n1_ : Aside0 (w49.heap[gb814]? = some (.cells #[.int .i64 a0_0, .int .i64 a0_1, .int .i64 a0_2] 23 (0, 0))) := ⟨h1_⟩
        have n2_ : Aside0 (w49.heap[gb815]? = some (.cells #[.int .i64 a1_0, .int .i64 a1_1, .int .i64 a1_2] 23 (0, 0))) := ⟨h2_⟩
        have n3_ : Aside0 (w49.heap[gb817]? = some (.cells #[.int .i64 a3_0, .int .i64 a3_1, .int .i64 a3_2, .int .i64 a3_3, .int .i64 a3_4, .int .i64 a3_5] 56 (0, 0))) := ⟨h3_⟩
        have n4_ : Aside0 (w49.heap[gb826]? = some (.cells #[.int .i64 t819, .int .i64 t820, .bool t821, .int .i64 t822, .int .i64 t823] 30 (0, 0))) := ⟨h4_⟩
        have n5_ : Aside0 (w49.heap[gb837]? = some (.cells #[.int .i64 t830, .int .i64 t831, .int .i64 t832, .int .i64 t833, .int .i64 t834, .int .i64 t835] 56 (0, 0))) := ⟨h5_⟩
        have n6_ : Aside0 (Below w.heap.size w w49) := ⟨h6_⟩
        clear HO829
        clear BK814
        clear BK815
        clear BK817
        clear BK826
        clear BK837
        clear HB
        clear h0_ h1_ h2_ h3_ h4_ h5_ h6_
        have HO829 := n0_
        have BK814 := n1_
        have BK815 := n2_
        have BK817 := n3_
        have BK826 := n4_
        have BK837 := n5_
        have HB := n6_
        clear n0_ n1_ n2_ n3_ n4_ n5_ n6_
        have hHeld : w49.cell? ⟨gb814, 0, none⟩ = some (.int .i64 a0_0) ∧ w49.cell? ⟨gb814, 1, none⟩ = some (.int .i64 a0_1) ∧ w49.cell? ⟨gb814, 2, none⟩ = some (.int .i64 a0_2) ∧ w49.cell? ⟨gb815, 0, none⟩ = some (.int .i64 a1_0) ∧ w49.cell? ⟨gb815, 1, none⟩ = some (.int .i64 a1_1) ∧ w49.cell? ⟨gb815, 2, none⟩ = some (.int .i64 a1_2) ∧ w49.cell? ⟨gb837, 0, none⟩ = some (.int .i64 t830) ∧ w49.cell? ⟨gb837, 1, none⟩ = some (.int .i64 t831) ∧ w49.cell? ⟨gb837, 2, none⟩ = some (.int .i64 t832) ∧ w49.cell? ⟨gb837, 3, none⟩ = some (.int .i64 t833) ∧ w49.cell? ⟨gb837, 4, none⟩ = some (.int .i64 t834) ∧ w49.cell? ⟨gb837, 5, none⟩ = some (.int .i64 t835) ∧ w49.cell? ⟨gb817, 0, none⟩ = some (.int .i64 a3_0) ∧ w49.cell? ⟨gb817, 1, none⟩ = some (.int .i64 a3_1) ∧ w49.cell? ⟨gb817, 2, none⟩ = some (.int .i64 a3_2) ∧ w49.cell? ⟨gb817, 3, none⟩ = some (.int .i64 a3_3) ∧ w49.cell? ⟨gb817, 4, none⟩ = some (.int .i64 a3_4) ∧ w49.cell? ⟨gb817, 5, none⟩ = some (.int .i64 a3_5) := hS_
        refine norm_ (a' := ?_) ?_ ?_
        rotate_left
        ·simp only [putAll, Act.put, List.setIfInBounds_toArray, List.set_cons_zero, List.set_cons_succ]
         rfl
        refine two_ (i := 11) (j := 12) (Ni := some 14) (Nj := some 15) #[true, true, true, true, true, true, true, true, true, true, true, true, false, false, false, false, false] #[true, true, true, true, true, true, true, true, true, true, true, false, true, false, false, false, false] rfl rfl rfl rfl (two_of HT_.out (by kernel_rfl)) (by decide) (by decide) (fun K hK => ?_) (fun K hK => ?_)
        ·skip
         refine box_step ?hg (N := 14) ?hd (cs := #[.int .i64 0, .int .i64 0]) (t := 28) ?hr ?_; (case hd => rfl); (case hg => rfl); (case hr => first | (go_simp; done) | (go_simp; rfl))
         intro gb850 hg w50 hbox hb
         have BK850 := Aside0.mk (hbox)
         have GE850 := Aside0.mk (bG hg (HB.out))
         have NB814_850 := cN hg BK814
         have NB850_814 := cM hg BK814
         have NB815_850 := cN hg BK815
         have NB850_815 := cM hg BK815
         have NB817_850 := cN hg BK817
         have NB850_817 := cM hg BK817
         have NB826_850 := cN hg BK826
         have NB850_826 := cM hg BK826
         have NB837_850 := cN hg BK837
         have NB850_837 := cM hg BK837
         replace HO829 := Aside0.mk (Kd.R_below (by (with_reducible repeat (first | apply Kd.R_alloc | apply Kd.R_drewN | apply Kd.R_drew)); exact HO829.out) hb)
         replace BK814 := cB hb BK814
         replace BK815 := cB hb BK815
         replace BK817 := cB hb BK817
         replace BK826 := cB hb BK826
         replace BK837 := cB hb BK837
         replace HB := Aside0.mk (below_step (HB.out) hb)
         clear hb hbox hg
         refine hK.out _ _ ⟨(blk_cell BK814.out 0).trans rfl, (blk_cell BK814.out 1).trans rfl, (blk_cell BK814.out 2).trans rfl, (blk_cell BK815.out 0).trans rfl, (blk_cell BK815.out 1).trans rfl, (blk_cell BK815.out 2).trans rfl, (blk_cell BK837.out 0).trans rfl, (blk_cell BK837.out 1).trans rfl, (blk_cell BK837.out 2).trans rfl, (blk_cell BK837.out 3).trans rfl, (blk_cell BK837.out 4).trans rfl, (blk_cell BK837.out 5).trans rfl, (blk_cell BK817.out 0).trans rfl, (blk_cell BK817.out 1).trans rfl, (blk_cell BK817.out 2).trans rfl, (blk_cell BK817.out 3).trans rfl, (blk_cell BK817.out 4).trans rfl, (blk_cell BK817.out 5).trans rfl⟩ (fun hHeld => ?_)
         clear hK K
         refine norm_ (a' := ?_) ?_ ?_
         rotate_left
         ·show Act.put _ (some 14) _ = _
          simp only [Act.put, List.setIfInBounds_toArray, List.set_cons_zero, List.set_cons_succ, i64_w, i32_w]
          rfl
         exact norm_ (by simp only [putAll, Act.put, List.setIfInBounds_toArray, List.set_cons_zero, List.set_cons_succ] <;> rfl) (hJ4_5_11 (gb850) _ ⟨hHeld, (by (with_reducible repeat (first | apply Kd.R_alloc | apply Kd.R_drewN | apply Kd.R_drew)); exact HO829.out), (BK814.out), (BK815.out), (BK817.out), (BK826.out), (BK837.out), (BK850.out), GE850.out, NB814_850.out, NB850_814.out, NB815_850.out, NB850_815.out, NB817_850.out, NB850_817.out, NB826_850.out, NB850_826.out, NB837_850.out, NB850_837.out, (HB.out)⟩)
        skip
        refine box_step ?hg (N := 15) ?hd (cs := #[.int .i64 0, .int .i64 0]) (t := 28) ?hr ?_; (case hd => rfl); (case hg => rfl); (case hr => first | (go_simp; done) | (go_simp; rfl))
        intro gb851 hg w50 hbox hb
        have BK851 := Aside0.mk (hbox)
        have GE851 := Aside0.mk (bG hg (HB.out))
        have NB814_851 := cN hg BK814
        have NB851_814 := cM hg BK814
        have NB815_851 := cN hg BK815
        have NB851_815 := cM hg BK815
        have NB817_851 := cN hg BK817
        have NB851_817 := cM hg BK817
        have NB826_851 := cN hg BK826
        have NB851_826 := cM hg BK826
        have NB837_851 := cN hg BK837
        have NB851_837 := cM hg BK837
        replace HO829 := Aside0.mk (Kd.R_below (by (with_reducible repeat (first | apply Kd.R_alloc | apply Kd.R_drewN | apply Kd.R_drew)); exact HO829.out) hb)
        replace BK814 := cB hb BK814
        replace BK815 := cB hb BK815
        replace BK817 := cB hb BK817
        replace BK826 := cB hb BK826
        replace BK837 := cB hb BK837
        replace HB := Aside0.mk (below_step (HB.out) hb)
        clear hb hbox hg
        refine hK.out _ _ ⟨(blk_cell BK814.out 0).trans rfl, (blk_cell BK814.out 1).trans rfl, (blk_cell BK814.out 2).trans rfl, (blk_cell BK815.out 0).trans rfl, (blk_cell BK815.out 1).trans rfl, (blk_cell BK815.out 2).trans rfl, (blk_cell BK837.out 0).trans rfl, (blk_cell BK837.out 1).trans rfl, (blk_cell BK837.out 2).trans rfl, (blk_cell BK837.out 3).trans rfl, (blk_cell BK837.out 4).trans rfl, (blk_cell BK837.out 5).trans rfl, (blk_cell BK817.out 0).trans rfl, (blk_cell BK817.out 1).trans rfl, (blk_cell BK817.out 2).trans rfl, (blk_cell BK817.out 3).trans rfl, (blk_cell BK817.out 4).trans rfl, (blk_cell BK817.out 5).trans rfl⟩ (fun hHeld => ?_)
        clear hK K
        refine norm_ (a' := ?_) ?_ ?_
        rotate_left
        ·show Act.put _ (some 15) _ = _
         simp only [Act.put, List.setIfInBounds_toArray, List.set_cons_zero, List.set_cons_succ, i64_w, i32_w]
         rfl
        exact norm_ (by simp only [putAll, Act.put, List.setIfInBounds_toArray, List.set_cons_zero, List.set_cons_succ] <;> rfl) (hJ4_5_12 (gb851) _ ⟨hHeld, (by (with_reducible repeat (first | apply Kd.R_alloc | apply Kd.R_drewN | apply Kd.R_drew)); exact HO829.out), (BK814.out), (BK815.out), (BK817.out), (BK826.out), (BK837.out), (BK851.out), GE851.out, NB814_851.out, NB851_814.out, NB815_851.out, NB851_815.out, NB817_851.out, NB851_817.out, NB826_851.out, NB851_826.out, NB837_851.out, NB851_837.out, (HB.out)⟩)
       skip
       rintro ⟨gb850, gb851⟩ w50 ⟨hS_, h0_, h1_, h2_, h3_, h4_, h5_, h6_, h7_, h8_, h9_, h10_, h11_, h12_, h13_, h14_, h15_, h16_, h17_, h18_, h19_, h20_, h21_, h22_, h23_, h24_, h25_, h26_, h27_, h28_, h29_, h30_, h31_, h32_⟩
       have n0_ : Aside0 (Kd.R k23 23 w50 w.heap.size (fun k_ => k_ ≠ gb814 ∧ k_ ≠ gb815) (.slice Ao36 y827.length co36) y827) := ⟨h0_⟩
       have n1_ : Aside0 (w50.heap[gb814]? = some (.cells #[.int .i64 a0_0, .int .i64 a0_1, .int .i64 a0_2] 23 (0, 0))) := ⟨h1_⟩
       have n2_ : Aside0 (w50.heap[gb815]? = some (.cells #[.int .i64 a1_0, .int .i64 a1_1, .int .i64 a1_2] 23 (0, 0))) := ⟨h2_⟩
       have n3_ : Aside0 (w50.heap[gb817]? = some (.cells #[.int .i64 a3_0, .int .i64 a3_1, .int .i64 a3_2, .int .i64 a3_3, .int .i64 a3_4, .int .i64 a3_5] 56 (0, 0))) := ⟨h3_⟩
       have n4_ : Aside0 (w50.heap[gb826]? = some (.cells #[.int .i64 t819, .int .i64 t820, .bool t821, .int .i64 t822, .int .i64 t823] 30 (0, 0))) := ⟨h4_⟩
       have n5_ : Aside0 (w50.heap[gb837]? = some (.cells #[.int .i64 t830, .int .i64 t831, .int .i64 t832, .int .i64 t833, .int .i64 t834, .int .i64 t835] 56 (0, 0))) := ⟨h5_⟩
       have n6_ : Aside0 (w50.heap[gb850]? = some (.cells #[.int .i64 0, .int .i64 0] 28 (0, 0))) := ⟨h6_⟩
       have n7_ : Aside0 (w50.heap[gb851]? = some (.cells #[.int .i64 0, .int .i64 0] 28 (0, 0))) := ⟨h7_⟩
       have GE850 : Aside0 (w.heap.size ≤ gb850) := ⟨h8_⟩
       have NB814_850 : Aside0 (gb814 ≠ gb850) := ⟨h9_⟩
       have NB850_814 : Aside0 (gb850 ≠ gb814) := ⟨h10_⟩
       have NB815_850 : Aside0 (gb815 ≠ gb850) := ⟨h11_⟩
       have NB850_815 : Aside0 (gb850 ≠ gb815) := ⟨h12_⟩
       have NB817_850 : Aside0 (gb817 ≠ gb850) := ⟨h13_⟩
       have NB850_817 : Aside0 (gb850 ≠ gb817) := ⟨h14_⟩
       have NB826_850 : Aside0 (gb826 ≠ gb850) := ⟨h15_⟩
       have NB850_826 : Aside0 (gb850 ≠ gb826) := ⟨h16_⟩
       have NB837_850 : Aside0 (gb837 ≠ gb850) := ⟨h17_⟩
       have NB850_837 : Aside0 (gb850 ≠ gb837) := ⟨h18_⟩
       have NB851_850 : Aside0 (gb851 ≠ gb850) := ⟨h19_⟩
       have NB850_851 : Aside0 (gb850 ≠ gb851) := ⟨h20_⟩
       have GE851 : Aside0 (w.heap.size ≤ gb851) := ⟨h21_⟩
       have NB814_851 : Aside0 (gb814 ≠ gb851) := ⟨h22_⟩
       have NB851_814 : Aside0 (gb851 ≠ gb814) := ⟨h23_⟩
       have NB815_851 : Aside0 (gb815 ≠ gb851) := ⟨h24_⟩
       have NB851_815 : Aside0 (gb851 ≠ gb815) := ⟨h25_⟩
       have NB817_851 : Aside0 (gb817 ≠ gb851) := ⟨h26_⟩
       have NB851_817 : Aside0 (gb851 ≠ gb817) := ⟨h27_⟩
       have NB826_851 : Aside0 (gb826 ≠ gb851) := ⟨h28_⟩
       have NB851_826 : Aside0 (gb851 ≠ gb826) := ⟨h29_⟩
       have NB837_851 : Aside0 (gb837 ≠ gb851) := ⟨h30_⟩
       have NB851_837 : Aside0 (gb851 ≠ gb837) := ⟨h31_⟩
       have n32_ : Aside0 (Below w.heap.size w w50) := ⟨h32_⟩
       clear HO829
       clear BK814
       clear BK815
       clear BK817
       clear BK826
       clear BK837
       clear HB
       clear h0_ h1_ h2_ h3_ h4_ h5_ h6_ h7_ h8_ h9_ h10_ h11_ h12_ h13_ h14_ h15_ h16_ h17_ h18_ h19_ h20_ h21_ h22_ h23_ h24_ h25_ h26_ h27_ h28_ h29_ h30_ h31_ h32_
       have HO829 := n0_
       have BK814 := n1_
       have BK815 := n2_
       have BK817 := n3_
       have BK826 := n4_
       have BK837 := n5_
       have BK850 := n6_
       have BK851 := n7_
       have HB := n32_
       clear n0_ n1_ n2_ n3_ n4_ n5_ n6_ n7_ n32_
       have hHeld : w50.cell? ⟨gb814, 0, none⟩ = some (.int .i64 a0_0) ∧ w50.cell? ⟨gb814, 1, none⟩ = some (.int .i64 a0_1) ∧ w50.cell? ⟨gb814, 2, none⟩ = some (.int .i64 a0_2) ∧ w50.cell? ⟨gb815, 0, none⟩ = some (.int .i64 a1_0) ∧ w50.cell? ⟨gb815, 1, none⟩ = some (.int .i64 a1_1) ∧ w50.cell? ⟨gb815, 2, none⟩ = some (.int .i64 a1_2) ∧ w50.cell? ⟨gb837, 0, none⟩ = some (.int .i64 t830) ∧ w50.cell? ⟨gb837, 1, none⟩ = some (.int .i64 t831) ∧ w50.cell? ⟨gb837, 2, none⟩ = some (.int .i64 t832) ∧ w50.cell? ⟨gb837, 3, none⟩ = some (.int .i64 t833) ∧ w50.cell? ⟨gb837, 4, none⟩ = some (.int .i64 t834) ∧ w50.cell? ⟨gb837, 5, none⟩ = some (.int .i64 t835) ∧ w50.cell? ⟨gb817, 0, none⟩ = some (.int .i64 a3_0) ∧ w50.cell? ⟨gb817, 1, none⟩ = some (.int .i64 a3_1) ∧ w50.cell? ⟨gb817, 2, none⟩ = some (.int .i64 a3_2) ∧ w50.cell? ⟨gb817, 3, none⟩ = some (.int .i64 a3_3) ∧ w50.cell? ⟨gb817, 4, none⟩ = some (.int .i64 a3_4) ∧ w50.cell? ⟨gb817, 5, none⟩ = some (.int .i64 a3_5) := hS_
       refine norm_ (a' := ?_) ?_ ?_
       rotate_left
       ·simp only [putAll, Act.put, List.setIfInBounds_toArray, List.set_cons_zero, List.set_cons_succ]
        rfl
       refine one_ (i := 5) (N := some 61) #[true, true, true, true, true, true, false, false, false, false, false, true, true, false, false, false, false] rfl rfl (one_of HT_.out (by kernel_rfl)) (by decide) (fun K hK => ?_)
       refine goes_ Try.func32 (by kernel_rfl) rfl #[.agg #[.int .i64 a0_0, .int .i64 a0_1, .int .i64 a0_2], .agg #[.int .i64 a1_0, .int .i64 a1_1, .int .i64 a1_2], .agg #[.int .i64 t838, .int .i64 t839, .int .i64 t840, .int .i64 t841, .int .i64 t842, .int .i64 t843]] (by rfl) rfl rfl (by (try simp only [List.map_toArray, List.map_cons, List.map_nil]); first | done | rfl | (simp only [List.length_drop, List.length_take]; rfl)) ?_
       with_reducible refine (slab_Range.calls kj26 a0_0 a0_1 a0_2 a1_0 a1_1 a1_2 t838 t839 t840 t841 t842 t843 t844 t845 t846 t847 t848 t849 _ A31.out).mono ?_
       rintro e w51 ⟨rfl, hb⟩
       refine ⟨_, rfl, ?_⟩
       replace HO829 := Aside0.mk (Kd.R_below (by (with_reducible repeat (first | apply Kd.R_alloc | apply Kd.R_drewN | apply Kd.R_drew)); exact HO829.out) hb)
       replace BK814 := cB hb BK814
       replace BK815 := cB hb BK815
       replace BK817 := cB hb BK817
       replace BK826 := cB hb BK826
       replace BK837 := cB hb BK837
       replace BK850 := cB hb BK850
       replace BK851 := cB hb BK851
       replace HB := Aside0.mk (below_step (HB.out) hb)
       (try clear hb)
       (try clear hb2)
       (try clear hk)
       (try clear hi)
       refine hK.out _ _ ⟨(blk_cell BK814.out 0).trans rfl, (blk_cell BK814.out 1).trans rfl, (blk_cell BK814.out 2).trans rfl, (blk_cell BK815.out 0).trans rfl, (blk_cell BK815.out 1).trans rfl, (blk_cell BK815.out 2).trans rfl, (blk_cell BK837.out 0).trans rfl, (blk_cell BK837.out 1).trans rfl, (blk_cell BK837.out 2).trans rfl, (blk_cell BK837.out 3).trans rfl, (blk_cell BK837.out 4).trans rfl, (blk_cell BK837.out 5).trans rfl, (blk_cell BK817.out 0).trans rfl, (blk_cell BK817.out 1).trans rfl, (blk_cell BK817.out 2).trans rfl, (blk_cell BK817.out 3).trans rfl, (blk_cell BK817.out 4).trans rfl, (blk_cell BK817.out 5).trans rfl⟩ (fun hHeld => ?_)
       clear hK K
       refine norm_ (a' := ?_) ?_ ?_
       rotate_left
       ·show Act.put _ (some 61) _ = _
        simp only [Act.put, List.setIfInBounds_toArray, List.set_cons_zero, List.set_cons_succ, i64_w, i32_w]
        rfl
       refine pure_ (i := 6) (N := some 55) (v := ?_) (a' := ?_) #[true, true, true, true, true, true, true, false, false, false, false, true, true, false, false, false, false] rfl rfl (any_of HT_.out (by kernel_rfl)) (fun _ _ _ h => h) (Or.inl ⟨by rfl, ?_⟩) ?_ ?_
       rotate_left
       ·intro w'
        go_simp
        with_reducible rfl
       rotate_left
       ·simp only [Act.put, List.setIfInBounds_toArray, List.set_cons_zero, List.set_cons_succ, i64_w, i32_w]
        rfl
       refine pure_ (i := 7) (N := some 62) (v := ?_) (a' := ?_) #[true, true, true, true, true, true, true, true, false, false, false, true, true, false, false, false, false] rfl rfl (any_of HT_.out (by kernel_rfl)) (fun _ _ _ h => h) (Or.inl ⟨by rfl, ?_⟩) ?_ ?_
       rotate_left
       ·intro w'
        go_simp
        with_reducible rfl
       rotate_left
       ·simp only [Act.put, List.setIfInBounds_toArray, List.set_cons_zero, List.set_cons_succ, i64_w, i32_w]
        rfl
       refine pure_ (i := 8) (N := some 63) (v := ?_) (a' := ?_) #[true, true, true, true, true, true, true, true, true, false, false, true, true, false, false, false, false] rfl rfl (any_of HT_.out (by kernel_rfl)) (fun _ _ _ h => h) (Or.inl ⟨by rfl, ?_⟩) ?_ ?_
       rotate_left
       ·intro w'
        go_simp
        with_reducible rfl
       rotate_left
       ·simp only [Act.put, List.setIfInBounds_toArray, List.set_cons_zero, List.set_cons_succ, i64_w, i32_w]
        rfl
       refine pure_ (i := 9) (N := some 64) (v := ?_) (a' := ?_) #[true, true, true, true, true, true, true, true, true, true, false, true, true, false, false, false, false] rfl rfl (any_of HT_.out (by kernel_rfl)) (fun _ _ _ h => h) (Or.inl ⟨by rfl, ?_⟩) ?_ ?_
       rotate_left
       ·intro w'
        go_simp
        with_reducible rfl
       rotate_left
       ·simp only [Act.put, List.setIfInBounds_toArray, List.set_cons_zero, List.set_cons_succ, i64_w, i32_w]
        rfl
       refine pure_ (i := 10) (N := some 65) (v := ?_) (a' := ?_) #[true, true, true, true, true, true, true, true, true, true, true, true, true, false, false, false, false] rfl rfl (any_of HT_.out (by kernel_rfl)) (fun _ _ _ h => h) (Or.inl ⟨by rfl, ?_⟩) ?_ ?_
       rotate_left
       ·intro w'
        go_simp
        with_reducible rfl
       rotate_left
       ·simp only [Act.put, List.setIfInBounds_toArray, List.set_cons_zero, List.set_cons_succ, i64_w, i32_w]
        rfl
       exact norm_ (by simp only [putAll, Act.put, List.setIfInBounds_toArray, List.set_cons_zero, List.set_cons_succ] <;> rfl) (hJ4_5_11_12 (gb850, gb851) _ ⟨hHeld, (by (with_reducible repeat (first | apply Kd.R_alloc | apply Kd.R_drewN | apply Kd.R_drew)); exact HO829.out), (BK814.out), (BK815.out), (BK817.out), (BK826.out), (BK837.out), (BK850.out), (BK851.out), GE850.out, NB814_850.out, NB850_814.out, NB815_850.out, NB850_815.out, NB817_850.out, NB850_817.out, NB826_850.out, NB850_826.out, NB837_850.out, NB850_837.out, NB851_850.out, NB850_851.out, GE851.out, NB814_851.out, NB851_814.out, NB815_851.out, NB851_815.out, NB817_851.out, NB851_817.out, NB826_851.out, NB851_826.out, NB837_851.out, NB851_837.out, (HB.out)⟩)
      skip
      rintro gb851 w50 ⟨hS_, h0_, h1_, h2_, h3_, h4_, h5_, h6_, h7_, h8_, h9_, h10_, h11_, h12_, h13_, h14_, h15_, h16_, h17_, h18_⟩
      have n0_ : Aside0 (Kd.R k23 23 w50 w.heap.size (fun k_ => k_ ≠ gb814 ∧ k_ ≠ gb815) (.slice Ao36 y827.length co36) y827) := ⟨h0_⟩
      have n1_ : Aside0 (w50.heap[gb814]? = some (.cells #[.int .i64 a0_0, .int .i64 a0_1, .int .i64 a0_2] 23 (0, 0))) := ⟨h1_⟩
      have n2_ : Aside0 (w50.heap[gb815]? = some (.cells #[.int .i64 a1_0, .int .i64 a1_1, .int .i64 a1_2] 23 (0, 0))) := ⟨h2_⟩
      have n3_ : Aside0 (w50.heap[gb817]? = some (.cells #[.int .i64 a3_0, .int .i64 a3_1, .int .i64 a3_2, .int .i64 a3_3, .int .i64 a3_4, .int .i64 a3_5] 56 (0, 0))) := ⟨h3_⟩
      have n4_ : Aside0 (w50.heap[gb826]? = some (.cells #[.int .i64 t819, .int .i64 t820, .bool t821, .int .i64 t822, .int .i64 t823] 30 (0, 0))) := ⟨h4_⟩
      have n5_ : Aside0 (w50.heap[gb837]? = some (.cells #[.int .i64 t830, .int .i64 t831, .int .i64 t832, .int .i64 t833, .int .i64 t834, .int .i64 t835] 56 (0, 0))) := ⟨h5_⟩
      have n6_ : Aside0 (w50.heap[gb851]? = some (.cells #[.int .i64 0, .int .i64 0] 28 (0, 0))) := ⟨h6_⟩
      have GE851 : Aside0 (w.heap.size ≤ gb851) := ⟨h7_⟩
      have NB814_851 : Aside0 (gb814 ≠ gb851) := ⟨h8_⟩
      have NB851_814 : Aside0 (gb851 ≠ gb814) := ⟨h9_⟩
      have NB815_851 : Aside0 (gb815 ≠ gb851) := ⟨h10_⟩
      have NB851_815 : Aside0 (gb851 ≠ gb815) := ⟨h11_⟩
      have NB817_851 : Aside0 (gb817 ≠ gb851) := ⟨h12_⟩
      have NB851_817 : Aside0 (gb851 ≠ gb817) := ⟨h13_⟩
      have NB826_851 : Aside0 (gb826 ≠ gb851) := ⟨h14_⟩
      have NB851_826 : Aside0 (gb851 ≠ gb826) := ⟨h15_⟩
      have NB837_851 : Aside0 (gb837 ≠ gb851) := ⟨h16_⟩
      have NB851_837 : Aside0 (gb851 ≠ gb837) := ⟨h17_⟩
      have n18_ : Aside0 (Below w.heap.size w w50) := ⟨h18_⟩
      clear HO829
      clear BK814
      clear BK815
      clear BK817
      clear BK826
      clear BK837
      clear HB
      clear h0_ h1_ h2_ h3_ h4_ h5_ h6_ h7_ h8_ h9_ h10_ h11_ h12_ h13_ h14_ h15_ h16_ h17_ h18_
      have HO829 := n0_
      have BK814 := n1_
      have BK815 := n2_
      have BK817 := n3_
      have BK826 := n4_
      have BK837 := n5_
      have BK851 := n6_
      have HB := n18_
      clear n0_ n1_ n2_ n3_ n4_ n5_ n6_ n18_
      have hHeld : w50.cell? ⟨gb814, 0, none⟩ = some (.int .i64 a0_0) ∧ w50.cell? ⟨gb814, 1, none⟩ = some (.int .i64 a0_1) ∧ w50.cell? ⟨gb814, 2, none⟩ = some (.int .i64 a0_2) ∧ w50.cell? ⟨gb815, 0, none⟩ = some (.int .i64 a1_0) ∧ w50.cell? ⟨gb815, 1, none⟩ = some (.int .i64 a1_1) ∧ w50.cell? ⟨gb815, 2, none⟩ = some (.int .i64 a1_2) ∧ w50.cell? ⟨gb837, 0, none⟩ = some (.int .i64 t830) ∧ w50.cell? ⟨gb837, 1, none⟩ = some (.int .i64 t831) ∧ w50.cell? ⟨gb837, 2, none⟩ = some (.int .i64 t832) ∧ w50.cell? ⟨gb837, 3, none⟩ = some (.int .i64 t833) ∧ w50.cell? ⟨gb837, 4, none⟩ = some (.int .i64 t834) ∧ w50.cell? ⟨gb837, 5, none⟩ = some (.int .i64 t835) ∧ w50.cell? ⟨gb817, 0, none⟩ = some (.int .i64 a3_0) ∧ w50.cell? ⟨gb817, 1, none⟩ = some (.int .i64 a3_1) ∧ w50.cell? ⟨gb817, 2, none⟩ = some (.int .i64 a3_2) ∧ w50.cell? ⟨gb817, 3, none⟩ = some (.int .i64 a3_3) ∧ w50.cell? ⟨gb817, 4, none⟩ = some (.int .i64 a3_4) ∧ w50.cell? ⟨gb817, 5, none⟩ = some (.int .i64 a3_5) := hS_
      refine norm_ (a' := ?_) ?_ ?_
      rotate_left
      ·simp only [putAll, Act.put, List.setIfInBounds_toArray, List.set_cons_zero, List.set_cons_succ]
       rfl
      refine one_ (i := 11) (N := some 14) #[true, true, true, true, true, true, true, true, true, true, true, true, true, false, false, false, false] rfl rfl (one_of HT_.out (by kernel_rfl)) (by decide) (fun K hK => ?_)
      refine box_step ?hg (N := 14) ?hd (cs := #[.int .i64 0, .int .i64 0]) (t := 28) ?hr ?_; (case hd => rfl); (case hg => rfl); (case hr => first | (go_simp; done) | (go_simp; rfl))
      intro gb850 hg w51 hbox hb
      have BK850 := Aside0.mk (hbox)
      have GE850 := Aside0.mk (bG hg (HB.out))
      have NB814_850 := cN hg BK814
      have NB850_814 := cM hg BK814
      have NB815_850 := cN hg BK815
      have NB850_815 := cM hg BK815
      have NB817_850 := cN hg BK817
      have NB850_817 := cM hg BK817
      have NB826_850 := cN hg BK826
      have NB850_826 := cM hg BK826
      have NB837_850 := cN hg BK837
      have NB850_837 := cM hg BK837
      have NB851_850 := cN hg BK851
      have NB850_851 := cM hg BK851
      replace HO829 := Aside0.mk (Kd.R_below (by (with_reducible repeat (first | apply Kd.R_alloc | apply Kd.R_drewN | apply Kd.R_drew)); exact HO829.out) hb)
      replace BK814 := cB hb BK814
      replace BK815 := cB hb BK815
      replace BK817 := cB hb BK817
      replace BK826 := cB hb BK826
      replace BK837 := cB hb BK837
      replace BK851 := cB hb BK851
      replace HB := Aside0.mk (below_step (HB.out) hb)
      clear hb hbox hg
      refine hK.out _ _ ⟨(blk_cell BK814.out 0).trans rfl, (blk_cell BK814.out 1).trans rfl, (blk_cell BK814.out 2).trans rfl, (blk_cell BK815.out 0).trans rfl, (blk_cell BK815.out 1).trans rfl, (blk_cell BK815.out 2).trans rfl, (blk_cell BK837.out 0).trans rfl, (blk_cell BK837.out 1).trans rfl, (blk_cell BK837.out 2).trans rfl, (blk_cell BK837.out 3).trans rfl, (blk_cell BK837.out 4).trans rfl, (blk_cell BK837.out 5).trans rfl, (blk_cell BK817.out 0).trans rfl, (blk_cell BK817.out 1).trans rfl, (blk_cell BK817.out 2).trans rfl, (blk_cell BK817.out 3).trans rfl, (blk_cell BK817.out 4).trans rfl, (blk_cell BK817.out 5).trans rfl⟩ (fun hHeld => ?_)
      clear hK K
      refine norm_ (a' := ?_) ?_ ?_
      rotate_left
      ·show Act.put _ (some 14) _ = _
       simp only [Act.put, List.setIfInBounds_toArray, List.set_cons_zero, List.set_cons_succ, i64_w, i32_w]
       rfl
      exact norm_ (by simp only [putAll, Act.put, List.setIfInBounds_toArray, List.set_cons_zero, List.set_cons_succ] <;> rfl) (hJ4_5_11_12 (gb850, gb851) _ ⟨hHeld, (by (with_reducible repeat (first | apply Kd.R_alloc | apply Kd.R_drewN | apply Kd.R_drew)); exact HO829.out), (BK814.out), (BK815.out), (BK817.out), (BK826.out), (BK837.out), (BK850.out), (BK851.out), GE850.out, NB814_850.out, NB850_814.out, NB815_850.out, NB850_815.out, NB817_850.out, NB850_817.out, NB826_850.out, NB850_826.out, NB837_850.out, NB850_837.out, NB851_850.out, NB850_851.out, GE851.out, NB814_851.out, NB851_814.out, NB815_851.out, NB851_815.out, NB817_851.out, NB851_817.out, NB826_851.out, NB851_826.out, NB837_851.out, NB851_837.out, (HB.out)⟩)
     skip
     rintro gb850 w50 ⟨hS_, h0_, h1_, h2_, h3_, h4_, h5_, h6_, h7_, h8_, h9_, h10_, h11_, h12_, h13_, h14_, h15_, h16_, h17_, h18_⟩
     have n0_ : Aside0 (Kd.R k23 23 w50 w.heap.size (fun k_ => k_ ≠ gb814 ∧ k_ ≠ gb815) (.slice Ao36 y827.length co36) y827) := ⟨h0_⟩
     have n1_ : Aside0 (w50.heap[gb814]? = some (.cells #[.int .i64 a0_0, .int .i64 a0_1, .int .i64 a0_2] 23 (0, 0))) := ⟨h1_⟩
     have n2_ : Aside0 (w50.heap[gb815]? = some (.cells #[.int .i64 a1_0, .int .i64 a1_1, .int .i64 a1_2] 23 (0, 0))) := ⟨h2_⟩
     have n3_ : Aside0 (w50.heap[gb817]? = some (.cells #[.int .i64 a3_0, .int .i64 a3_1, .int .i64 a3_2, .int .i64 a3_3, .int .i64 a3_4, .int .i64 a3_5] 56 (0, 0))) := ⟨h3_⟩
     have n4_ : Aside0 (w50.heap[gb826]? = some (.cells #[.int .i64 t819, .int .i64 t820, .bool t821, .int .i64 t822, .int .i64 t823] 30 (0, 0))) := ⟨h4_⟩
     have n5_ : Aside0 (w50.heap[gb837]? = some (.cells #[.int .i64 t830, .int .i64 t831, .int .i64 t832, .int .i64 t833, .int .i64 t834, .int .i64 t835] 56 (0, 0))) := ⟨h5_⟩
     have n6_ : Aside0 (w50.heap[gb850]? = some (.cells #[.int .i64 0, .int .i64 0] 28 (0, 0))) := ⟨h6_⟩
     have GE850 : Aside0 (w.heap.size ≤ gb850) := ⟨h7_⟩
     have NB814_850 : Aside0 (gb814 ≠ gb850) := ⟨h8_⟩
     have NB850_814 : Aside0 (gb850 ≠ gb814) := ⟨h9_⟩
     have NB815_850 : Aside0 (gb815 ≠ gb850) := ⟨h10_⟩
     have NB850_815 : Aside0 (gb850 ≠ gb815) := ⟨h11_⟩
     have NB817_850 : Aside0 (gb817 ≠ gb850) := ⟨h12_⟩
     have NB850_817 : Aside0 (gb850 ≠ gb817) := ⟨h13_⟩
     have NB826_850 : Aside0 (gb826 ≠ gb850) := ⟨h14_⟩
     have NB850_826 : Aside0 (gb850 ≠ gb826) := ⟨h15_⟩
     have NB837_850 : Aside0 (gb837 ≠ gb850) := ⟨h16_⟩
     have NB850_837 : Aside0 (gb850 ≠ gb837) := ⟨h17_⟩
     have n18_ : Aside0 (Below w.heap.size w w50) := ⟨h18_⟩
     clear HO829
     clear BK814
     clear BK815
     clear BK817
     clear BK826
     clear BK837
     clear HB
     clear h0_ h1_ h2_ h3_ h4_ h5_ h6_ h7_ h8_ h9_ h10_ h11_ h12_ h13_ h14_ h15_ h16_ h17_ h18_
     have HO829 := n0_
     have BK814 := n1_
     have BK815 := n2_
     have BK817 := n3_
     have BK826 := n4_
     have BK837 := n5_
     have BK850 := n6_
     have HB := n18_
     clear n0_ n1_ n2_ n3_ n4_ n5_ n6_ n18_
     have hHeld : w50.cell? ⟨gb814, 0, none⟩ = some (.int .i64 a0_0) ∧ w50.cell? ⟨gb814, 1, none⟩ = some (.int .i64 a0_1) ∧ w50.cell? ⟨gb814, 2, none⟩ = some (.int .i64 a0_2) ∧ w50.cell? ⟨gb815, 0, none⟩ = some (.int .i64 a1_0) ∧ w50.cell? ⟨gb815, 1, none⟩ = some (.int .i64 a1_1) ∧ w50.cell? ⟨gb815, 2, none⟩ = some (.int .i64 a1_2) ∧ w50.cell? ⟨gb837, 0, none⟩ = some (.int .i64 t830) ∧ w50.cell? ⟨gb837, 1, none⟩ = some (.int .i64 t831) ∧ w50.cell? ⟨gb837, 2, none⟩ = some (.int .i64 t832) ∧ w50.cell? ⟨gb837, 3, none⟩ = some (.int .i64 t833) ∧ w50.cell? ⟨gb837, 4, none⟩ = some (.int .i64 t834) ∧ w50.cell? ⟨gb837, 5, none⟩ = some (.int .i64 t835) ∧ w50.cell? ⟨gb817, 0, none⟩ = some (.int .i64 a3_0) ∧ w50.cell? ⟨gb817, 1, none⟩ = some (.int .i64 a3_1) ∧ w50.cell? ⟨gb817, 2, none⟩ = some (.int .i64 a3_2) ∧ w50.cell? ⟨gb817, 3, none⟩ = some (.int .i64 a3_3) ∧ w50.cell? ⟨gb817, 4, none⟩ = some (.int .i64 a3_4) ∧ w50.cell? ⟨gb817, 5, none⟩ = some (.int .i64 a3_5) := hS_
     refine norm_ (a' := ?_) ?_ ?_
     rotate_left
     ·simp only [putAll, Act.put, List.setIfInBounds_toArray, List.set_cons_zero, List.set_cons_succ]
      rfl
     refine one_ (i := 12) (N := some 15) #[true, true, true, true, true, true, true, true, true, true, true, true, true, false, false, false, false] rfl rfl (one_of HT_.out (by kernel_rfl)) (by decide) (fun K hK => ?_)
     refine box_step ?hg (N := 15) ?hd (cs := #[.int .i64 0, .int .i64 0]) (t := 28) ?hr ?_; (case hd => rfl); (case hg => rfl); (case hr => first | (go_simp; done) | (go_simp; rfl))
     intro gb851 hg w51 hbox hb
     have BK851 := Aside0.mk (hbox)
     have GE851 := Aside0.mk (bG hg (HB.out))
     have NB814_851 := cN hg BK814
     have NB851_814 := cM hg BK814
     have NB815_851 := cN hg BK815
     have NB851_815 := cM hg BK815
     have NB817_851 := cN hg BK817
     have NB851_817 := cM hg BK817
     have NB826_851 := cN hg BK826
     have NB851_826 := cM hg BK826
     have NB837_851 := cN hg BK837
     have NB851_837 := cM hg BK837
     have NB850_851 := cN hg BK850
     have NB851_850 := cM hg BK850
     replace HO829 := Aside0.mk (Kd.R_below (by (with_reducible repeat (first | apply Kd.R_alloc | apply Kd.R_drewN | apply Kd.R_drew)); exact HO829.out) hb)
     replace BK814 := cB hb BK814
     replace BK815 := cB hb BK815
     replace BK817 := cB hb BK817
     replace BK826 := cB hb BK826
     replace BK837 := cB hb BK837
     replace BK850 := cB hb BK850
     replace HB := Aside0.mk (below_step (HB.out) hb)
     clear hb hbox hg
     refine hK.out _ _ ⟨(blk_cell BK814.out 0).trans rfl, (blk_cell BK814.out 1).trans rfl, (blk_cell BK814.out 2).trans rfl, (blk_cell BK815.out 0).trans rfl, (blk_cell BK815.out 1).trans rfl, (blk_cell BK815.out 2).trans rfl, (blk_cell BK837.out 0).trans rfl, (blk_cell BK837.out 1).trans rfl, (blk_cell BK837.out 2).trans rfl, (blk_cell BK837.out 3).trans rfl, (blk_cell BK837.out 4).trans rfl, (blk_cell BK837.out 5).trans rfl, (blk_cell BK817.out 0).trans rfl, (blk_cell BK817.out 1).trans rfl, (blk_cell BK817.out 2).trans rfl, (blk_cell BK817.out 3).trans rfl, (blk_cell BK817.out 4).trans rfl, (blk_cell BK817.out 5).trans rfl⟩ (fun hHeld => ?_)
     clear hK K
     refine norm_ (a' := ?_) ?_ ?_
     rotate_left
     ·show Act.put _ (some 15) _ = _
      simp only [Act.put, List.setIfInBounds_toArray, List.set_cons_zero, List.set_cons_succ, i64_w, i32_w]
      rfl
     exact norm_ (by simp only [putAll, Act.put, List.setIfInBounds_toArray, List.set_cons_zero, List.set_cons_succ] <;> rfl) (hJ4_5_11_12 (gb850, gb851) _ ⟨hHeld, (by (with_reducible repeat (first | apply Kd.R_alloc | apply Kd.R_drewN | apply Kd.R_drew)); exact HO829.out), (BK814.out), (BK815.out), (BK817.out), (BK826.out), (BK837.out), (BK850.out), (BK851.out), GE850.out, NB814_850.out, NB850_814.out, NB815_850.out, NB850_815.out, NB817_850.out, NB850_817.out, NB826_850.out, NB850_826.out, NB837_850.out, NB850_837.out, NB851_850.out, NB850_851.out, GE851.out, NB814_851.out, NB851_814.out, NB815_851.out, NB851_815.out, NB817_851.out, NB851_817.out, NB826_851.out, NB851_826.out, NB837_851.out, NB851_837.out, (HB.out)⟩)
    rintro ⟨gb850, gb851⟩ w51 ⟨hS_, h0_, h1_, h2_, h3_, h4_, h5_, h6_, h7_, h8_, h9_, h10_, h11_, h12_, h13_, h14_, h15_, h16_, h17_, h18_, h19_, h20_, h21_, h22_, h23_, h24_, h25_, h26_, h27_, h28_, h29_, h30_, h31_, h32_⟩
    have n0_ : Aside0 (Kd.R k23 23 w51 w.heap.size (fun k_ => k_ ≠ gb814 ∧ k_ ≠ gb815) (.slice Ao36 y827.length co36) y827) := ⟨h0_⟩
    have n1_ : Aside0 (w51.heap[gb814]? = some (.cells #[.int .i64 a0_0, .int .i64 a0_1, .int .i64 a0_2] 23 (0, 0))) := ⟨h1_⟩
    have n2_ : Aside0 (w51.heap[gb815]? = some (.cells #[.int .i64 a1_0, .int .i64 a1_1, .int .i64 a1_2] 23 (0, 0))) := ⟨h2_⟩
    have n3_ : Aside0 (w51.heap[gb817]? = some (.cells #[.int .i64 a3_0, .int .i64 a3_1, .int .i64 a3_2, .int .i64 a3_3, .int .i64 a3_4, .int .i64 a3_5] 56 (0, 0))) := ⟨h3_⟩
    have n4_ : Aside0 (w51.heap[gb826]? = some (.cells #[.int .i64 t819, .int .i64 t820, .bool t821, .int .i64 t822, .int .i64 t823] 30 (0, 0))) := ⟨h4_⟩
    have n5_ : Aside0 (w51.heap[gb837]? = some (.cells #[.int .i64 t830, .int .i64 t831, .int .i64 t832, .int .i64 t833, .int .i64 t834, .int .i64 t835] 56 (0, 0))) := ⟨h5_⟩
    have n6_ : Aside0 (w51.heap[gb850]? = some (.cells #[.int .i64 0, .int .i64 0] 28 (0, 0))) := ⟨h6_⟩
    have n7_ : Aside0 (w51.heap[gb851]? = some (.cells #[.int .i64 0, .int .i64 0] 28 (0, 0))) := ⟨h7_⟩
    have GE850 : Aside0 (w.heap.size ≤ gb850) := ⟨h8_⟩
    have NB814_850 : Aside0 (gb814 ≠ gb850) := ⟨h9_⟩
    have NB850_814 : Aside0 (gb850 ≠ gb814) := ⟨h10_⟩
    have NB815_850 : Aside0 (gb815 ≠ gb850) := ⟨h11_⟩
    have NB850_815 : Aside0 (gb850 ≠ gb815) := ⟨h12_⟩
    have NB817_850 : Aside0 (gb817 ≠ gb850) := ⟨h13_⟩
    have NB850_817 : Aside0 (gb850 ≠ gb817) := ⟨h14_⟩
    have NB826_850 : Aside0 (gb826 ≠ gb850) := ⟨h15_⟩
    have NB850_826 : Aside0 (gb850 ≠ gb826) := ⟨h16_⟩
    have NB837_850 : Aside0 (gb837 ≠ gb850) := ⟨h17_⟩
    have NB850_837 : Aside0 (gb850 ≠ gb837) := ⟨h18_⟩
    have NB851_850 : Aside0 (gb851 ≠ gb850) := ⟨h19_⟩
    have NB850_851 : Aside0 (gb850 ≠ gb851) := ⟨h20_⟩
    have GE851 : Aside0 (w.heap.size ≤ gb851) := ⟨h21_⟩
    have NB814_851 : Aside0 (gb814 ≠ gb851) := ⟨h22_⟩
    have NB851_814 : Aside0 (gb851 ≠ gb814) := ⟨h23_⟩
    have NB815_851 : Aside0 (gb815 ≠ gb851) := ⟨h24_⟩
    have NB851_815 : Aside0 (gb851 ≠ gb815) := ⟨h25_⟩
    have NB817_851 : Aside0 (gb817 ≠ gb851) := ⟨h26_⟩
    have NB851_817 : Aside0 (gb851 ≠ gb817) := ⟨h27_⟩
    have NB826_851 : Aside0 (gb826 ≠ gb851) := ⟨h28_⟩
    have NB851_826 : Aside0 (gb851 ≠ gb826) := ⟨h29_⟩
    have NB837_851 : Aside0 (gb837 ≠ gb851) := ⟨h30_⟩
    have NB851_837 : Aside0 (gb851 ≠ gb837) := ⟨h31_⟩
    have n32_ : Aside0 (Below w.heap.size w w51) := ⟨h32_⟩
    clear HO829
    clear BK814
    clear BK815
    clear BK817
    clear BK826
    clear BK837
    clear HB
    clear h0_ h1_ h2_ h3_ h4_ h5_ h6_ h7_ h8_ h9_ h10_ h11_ h12_ h13_ h14_ h15_ h16_ h17_ h18_ h19_ h20_ h21_ h22_ h23_ h24_ h25_ h26_ h27_ h28_ h29_ h30_ h31_ h32_
    have HO829 := n0_
    have BK814 := n1_
    have BK815 := n2_
    have BK817 := n3_
    have BK826 := n4_
    have BK837 := n5_
    have BK850 := n6_
    have BK851 := n7_
    have HB := n32_
    clear n0_ n1_ n2_ n3_ n4_ n5_ n6_ n7_ n32_
    have hHeld : w51.cell? ⟨gb814, 0, none⟩ = some (.int .i64 a0_0) ∧ w51.cell? ⟨gb814, 1, none⟩ = some (.int .i64 a0_1) ∧ w51.cell? ⟨gb814, 2, none⟩ = some (.int .i64 a0_2) ∧ w51.cell? ⟨gb815, 0, none⟩ = some (.int .i64 a1_0) ∧ w51.cell? ⟨gb815, 1, none⟩ = some (.int .i64 a1_1) ∧ w51.cell? ⟨gb815, 2, none⟩ = some (.int .i64 a1_2) ∧ w51.cell? ⟨gb837, 0, none⟩ = some (.int .i64 t830) ∧ w51.cell? ⟨gb837, 1, none⟩ = some (.int .i64 t831) ∧ w51.cell? ⟨gb837, 2, none⟩ = some (.int .i64 t832) ∧ w51.cell? ⟨gb837, 3, none⟩ = some (.int .i64 t833) ∧ w51.cell? ⟨gb837, 4, none⟩ = some (.int .i64 t834) ∧ w51.cell? ⟨gb837, 5, none⟩ = some (.int .i64 t835) ∧ w51.cell? ⟨gb817, 0, none⟩ = some (.int .i64 a3_0) ∧ w51.cell? ⟨gb817, 1, none⟩ = some (.int .i64 a3_1) ∧ w51.cell? ⟨gb817, 2, none⟩ = some (.int .i64 a3_2) ∧ w51.cell? ⟨gb817, 3, none⟩ = some (.int .i64 a3_3) ∧ w51.cell? ⟨gb817, 4, none⟩ = some (.int .i64 a3_4) ∧ w51.cell? ⟨gb817, 5, none⟩ = some (.int .i64 a3_5) := hS_
    refine norm_ (a' := ?_) ?_ ?_
    rotate_left
    ·simp only [putAll, Act.put, List.setIfInBounds_toArray, List.set_cons_zero, List.set_cons_succ]
     rfl
    refine one_ (i := 13) (N := none) #[true, true, true, true, true, true, true, true, true, true, true, true, true, true, false, false, false] rfl rfl (one_of HT_.out (by kernel_rfl)) (by decide) (fun K hK => ?_)
    have hs52 : w51.cell? ⟨gb850, 0, none⟩ = some (.int .i64 0) := (blk_cell BK850.out 0).trans rfl
    have hfs52 := blk_frozen BK850.out 0
    have hns52_0 := NB814_850.out
    have hns52_1 := NB815_850.out
    have hns52_2 := NB817_850.out
    have hns52_3 := NB826_850.out
    have hns52_4 := NB837_850.out
    have hns52_6 := NB851_850.out
    have hms52_0 := NB850_814.out
    have hms52_1 := NB850_815.out
    have hms52_2 := NB850_817.out
    have hms52_3 := NB850_826.out
    have hms52_4 := NB850_837.out
    have hms52_6 := NB850_851.out
    have hs53 : w51.cell? ⟨gb850, 1, none⟩ = some (.int .i64 0) := (blk_cell BK850.out 1).trans rfl
    have hfs53 := blk_frozen BK850.out 1
    have hns53_0 := NB814_850.out
    have hns53_1 := NB815_850.out
    have hns53_2 := NB817_850.out
    have hns53_3 := NB826_850.out
    have hns53_4 := NB837_850.out
    have hns53_6 := NB851_850.out
    have hms53_0 := NB850_814.out
    have hms53_1 := NB850_815.out
    have hms53_2 := NB850_817.out
    have hms53_3 := NB850_826.out
    have hms53_4 := NB850_837.out
    have hms53_6 := NB850_851.out
    refine skip_ (w1 := ?_) (by rfl) rfl ?_ ?_
    rotate_left
    ·go_simp
     rfl
    refine hK.out _ _ ⟨(cf NB814_850.out (cf NB814_850.out hHeld.1)), (cf NB814_850.out (cf NB814_850.out hHeld.2.1)), (cf NB814_850.out (cf NB814_850.out hHeld.2.2.1)), (cf NB815_850.out (cf NB815_850.out hHeld.2.2.2.1)), (cf NB815_850.out (cf NB815_850.out hHeld.2.2.2.2.1)), (cf NB815_850.out (cf NB815_850.out hHeld.2.2.2.2.2.1)), (cf NB837_850.out (cf NB837_850.out hHeld.2.2.2.2.2.2.1)), (cf NB837_850.out (cf NB837_850.out hHeld.2.2.2.2.2.2.2.1)), (cf NB837_850.out (cf NB837_850.out hHeld.2.2.2.2.2.2.2.2.1)), (cf NB837_850.out (cf NB837_850.out hHeld.2.2.2.2.2.2.2.2.2.1)), (cf NB837_850.out (cf NB837_850.out hHeld.2.2.2.2.2.2.2.2.2.2.1)), (cf NB837_850.out (cf NB837_850.out hHeld.2.2.2.2.2.2.2.2.2.2.2.1)), (cf NB817_850.out (cf NB817_850.out hHeld.2.2.2.2.2.2.2.2.2.2.2.2.1)), (cf NB817_850.out (cf NB817_850.out hHeld.2.2.2.2.2.2.2.2.2.2.2.2.2.1)), (cf NB817_850.out (cf NB817_850.out hHeld.2.2.2.2.2.2.2.2.2.2.2.2.2.2.1)), (cf NB817_850.out (cf NB817_850.out hHeld.2.2.2.2.2.2.2.2.2.2.2.2.2.2.2.1)), (cf NB817_850.out (cf NB817_850.out hHeld.2.2.2.2.2.2.2.2.2.2.2.2.2.2.2.2.1)), (cf NB817_850.out (cf NB817_850.out hHeld.2.2.2.2.2.2.2.2.2.2.2.2.2.2.2.2.2))⟩ (fun hHeld => ?_)
    clear hK K
    refine one_ (i := 14) (N := none) #[true, true, true, true, true, true, true, true, true, true, true, true, true, true, true, false, false] rfl rfl (one_of HT_.out (by kernel_rfl)) (by decide) (fun K hK => ?_)
    have hs54 : w51.cell? ⟨gb851, 0, none⟩ = some (.int .i64 0) := (blk_cell BK851.out 0).trans rfl
    have hfs54 := blk_frozen BK851.out 0
    have hns54_0 := NB814_851.out
    have hns54_1 := NB815_851.out
    have hns54_2 := NB817_851.out
    have hns54_3 := NB826_851.out
    have hns54_4 := NB837_851.out
    have hns54_5 := NB850_851.out
    have hms54_0 := NB851_814.out
    have hms54_1 := NB851_815.out
    have hms54_2 := NB851_817.out
    have hms54_3 := NB851_826.out
    have hms54_4 := NB851_837.out
    have hms54_5 := NB851_850.out
    have hs55 : w51.cell? ⟨gb851, 1, none⟩ = some (.int .i64 0) := (blk_cell BK851.out 1).trans rfl
    have hfs55 := blk_frozen BK851.out 1
    have hns55_0 := NB814_851.out
    have hns55_1 := NB815_851.out
    have hns55_2 := NB817_851.out
    have hns55_3 := NB826_851.out
    have hns55_4 := NB837_851.out
    have hns55_5 := NB850_851.out
    have hms55_0 := NB851_814.out
    have hms55_1 := NB851_815.out
    have hms55_2 := NB851_817.out
    have hms55_3 := NB851_826.out
    have hms55_4 := NB851_837.out
    have hms55_5 := NB851_850.out
    refine skip_ (w1 := ?_) (by rfl) rfl ?_ ?_
    rotate_left
    ·go_simp
     rfl
    refine hK.out _ _ ⟨(cf NB814_851.out (cf NB814_851.out hHeld.1)), (cf NB814_851.out (cf NB814_851.out hHeld.2.1)), (cf NB814_851.out (cf NB814_851.out hHeld.2.2.1)), (cf NB815_851.out (cf NB815_851.out hHeld.2.2.2.1)), (cf NB815_851.out (cf NB815_851.out hHeld.2.2.2.2.1)), (cf NB815_851.out (cf NB815_851.out hHeld.2.2.2.2.2.1)), (cf NB837_851.out (cf NB837_851.out hHeld.2.2.2.2.2.2.1)), (cf NB837_851.out (cf NB837_851.out hHeld.2.2.2.2.2.2.2.1)), (cf NB837_851.out (cf NB837_851.out hHeld.2.2.2.2.2.2.2.2.1)), (cf NB837_851.out (cf NB837_851.out hHeld.2.2.2.2.2.2.2.2.2.1)), (cf NB837_851.out (cf NB837_851.out hHeld.2.2.2.2.2.2.2.2.2.2.1)), (cf NB837_851.out (cf NB837_851.out hHeld.2.2.2.2.2.2.2.2.2.2.2.1)), (cf NB817_851.out (cf NB817_851.out hHeld.2.2.2.2.2.2.2.2.2.2.2.2.1)), (cf NB817_851.out (cf NB817_851.out hHeld.2.2.2.2.2.2.2.2.2.2.2.2.2.1)), (cf NB817_851.out (cf NB817_851.out hHeld.2.2.2.2.2.2.2.2.2.2.2.2.2.2.1)), (cf NB817_851.out (cf NB817_851.out hHeld.2.2.2.2.2.2.2.2.2.2.2.2.2.2.2.1)), (cf NB817_851.out (cf NB817_851.out hHeld.2.2.2.2.2.2.2.2.2.2.2.2.2.2.2.2.1)), (cf NB817_851.out (cf NB817_851.out hHeld.2.2.2.2.2.2.2.2.2.2.2.2.2.2.2.2.2))⟩ (fun hHeld => ?_)
    clear hK K
    refine pure_ (i := 15) (N := some 16) (v := ?_) (a' := ?_) #[true, true, true, true, true, true, true, true, true, true, true, true, true, true, true, true, false] rfl rfl (any_of HT_.out (by kernel_rfl)) (fun _ _ _ h => h) (Or.inl ⟨by rfl, ?_⟩) ?_ ?_
    rotate_left
    ·intro w'
     go_simp
     with_reducible rfl
    rotate_left
    ·simp only [Act.put, List.setIfInBounds_toArray, List.set_cons_zero, List.set_cons_succ, i64_w, i32_w]
     rfl
    refine pure_ (i := 16) (N := some 17) (v := ?_) (a' := ?_) #[true, true, true, true, true, true, true, true, true, true, true, true, true, true, true, true, true] rfl rfl (any_of HT_.out (by kernel_rfl)) (fun _ _ _ h => h) (Or.inl ⟨by rfl, ?_⟩) ?_ ?_
    rotate_left
    ·intro w'
     go_simp
     with_reducible rfl
    rotate_left
    ·simp only [Act.put, List.setIfInBounds_toArray, List.set_cons_zero, List.set_cons_succ, i64_w, i32_w]
     rfl
    refine done_ (done_of HT_.out (by kernel_rfl)) ?_
    go_upto_if 67 with (fail)
    go_cut [] (fun wc => ∃ (kq : Nat), Aside0 (relievolaw04_SlabHolds.j2 kq t848 t819 t820 t821 t822 t823 t844 t845 t846 t847 = some r) ∧ Aside0 (kq ≤ kj26) ∧ Aside0 (wc.heap[gb826]? = some (.cells #[.int .i64 t819, .int .i64 t820, .bool t821, .int .i64 t822, .int .i64 t823] 30 (0, 0))) ∧ Aside0 (wc.heap[gb850]? = some (.cells #[.int .i64 t844, .int .i64 t845] 28 (0, 0))) ∧ Aside0 (wc.heap[gb851]? = some (.cells #[.int .i64 t846, .int .i64 t847] 28 (0, 0))) ∧ Aside0 (Below w.heap.size w wc))
    case first =>
     have H := HC32.out
     clear HC32
     by_cases c56 : t849 = 0
     ·rw [if_pos c56] at H
      have c56b0 : (t849 == 0) = true := beq_iff_eq.mpr c56
      have c56b1 : (t849 != 0) = false := bne_eq_false_iff_eq.mpr c56
      clear c56
      (first | rw [c56b0] | (simp only [i64_w, i32_w]; rw [c56b0]) | skip)
      have H' := Aside0.mk H
      clear H
      go_wp2
      go_meet
      case rel => exact ⟨_, H', ⟨by have := HJ7.out; have := HJ26.out; first | omega | exact Nat.le_refl _⟩, ⟨(blk_far (blk_far (blk_far (blk_far BK826.out NB826_850.out _) NB826_850.out _) NB826_851.out _) NB826_851.out _)⟩, ⟨(blk_far (blk_far (blk_put (cs' := #[.int .i64 t844, .int .i64 t845]) (blk_put BK850.out 0 _ rfl) 1 _ rfl) NB850_851.out _) NB850_851.out _)⟩, ⟨(blk_put (cs' := #[.int .i64 t846, .int .i64 t847]) (blk_put (blk_far (blk_far BK851.out NB851_850.out _) NB851_850.out _) 0 _ rfl) 1 _ rfl)⟩, ⟨(below_set (below_set (below_set (below_set HB.out GE850.out) GE850.out) GE851.out) GE851.out)⟩⟩
     rw [if_neg c56] at H
     have c56b0 : (t849 == 0) = false := beq_eq_false_iff_ne.mpr c56
     have c56b1 : (t849 != 0) = true := bne_iff_ne.mpr c56
     (first | rw [c56b0] | (simp only [i64_w, i32_w]; rw [c56b0]) | skip)
     obtain rfl := Option.some.inj H
     go_wp2
     go_ret
     exact ⟨by first | rfl | (simp [errW_none, errW_some] <;> rfl) | (simp [*, errW_none, errW_some] <;> rfl), (below_set (below_set (below_set (below_set HB.out GE850.out) GE850.out) GE851.out) GE851.out)⟩
    clear HC32
    try clear c3
    try clear hcz33_0
    try clear hcz33_1
    try clear hcz33_2
    try clear hcz33_3
    try clear hcz33_4
    try clear hcz33_5
    try clear hcz33_6
    try clear hcz33_7
    try clear hcz33_8
    try clear hcz44_0
    try clear hcz44_1
    try clear hcz44_2
    try clear hcz44_3
    try clear hcz44_4
    try clear hcz44_5
    try clear hfz44_0
    try clear hfz44_1
    try clear hfz44_2
    try clear hfz44_3
    try clear hfz44_4
    try clear hfz44_5
    obtain ⟨kq, HA, HJ31, BK826, BK850, BK851, HB⟩ := hcut
    cases kq with
    | zero => exact absurd HA.out (by simp [relievolaw04_SlabHolds.j2])
    | succ kj31 =>
     have H := HA.out
     clear HA
     simp only [relievolaw04_SlabHolds.j2] at H
     replace H := Option.bind_eq_some_iff.mp H
     obtain ⟨⟨t852, t853⟩, A570, H⟩ := H
     replace H : ((wide_Order.f kj31 t819 t820 t846 t847).bind fun bt854 => (if t848 = true then (if t852 ≤ 0 then (relievolaw04_SlabHolds.j3 kj31 (decide (bt854.1 ≤ 0))) else (relievolaw04_SlabHolds.j3 kj31 false)) else (relievolaw04_SlabHolds.j3 kj31 false))) = some r := H
     have A57 := Aside0.mk A570
     clear A570
     replace H := Option.bind_eq_some_iff.mp H
     obtain ⟨⟨t854, t855⟩, A580, H⟩ := H
     replace H : (if t848 = true then (if t852 ≤ 0 then (relievolaw04_SlabHolds.j3 kj31 (decide (t854 ≤ 0))) else (relievolaw04_SlabHolds.j3 kj31 false)) else (relievolaw04_SlabHolds.j3 kj31 false)) = some r := H
     have A58 := Aside0.mk A580
     clear A580
     have HC59 := Aside0.mk H
     clear H
     obtain ⟨hcz60_0, hcz60_1⟩ := cells2 BK850.out
     obtain ⟨hcz61_0, hcz61_1, hcz61_2, hcz61_3, hcz61_4⟩ := cells5 BK826.out
     go_upto_region 12 with (first | ((with_reducible refine gate_callee (f := 35) rfl ?_); refine goesL_ (some 74) rfl rfl Try.func35 (by kernel_rfl) rfl #[.agg #[.int .i64 t844, .int .i64 t845], .agg #[.int .i64 t819, .int .i64 t820]] rfl (by (try simp only [List.map_toArray, List.map_cons, List.map_nil]); first | done | rfl | (simp only [List.length_drop, List.length_take]; rfl)) ?_; (with_reducible refine (wide_Order.calls kj31 t844 t845 t819 t820 t852 t853 _ A57.out).mono ?_); rintro e w62 ⟨rfl, hb⟩; refine ⟨_, rfl, ?_⟩; replace BK826 := cB hb BK826; replace BK850 := cB hb BK850; replace BK851 := cB hb BK851; replace HB := Aside0.mk (below_step (HB.out) hb); (try clear hb); (try clear hb2); (try clear hk); (try clear hi); obtain ⟨hcz63_0, hcz63_1, hcz63_2, hcz63_3, hcz63_4⟩ := cells5 BK826.out; obtain ⟨hcz64_0, hcz64_1⟩ := cells2 BK851.out) | ((with_reducible refine gate_callee (f := 35) rfl ?_); refine goesL_ (some 81) rfl rfl Try.func35 (by kernel_rfl) rfl #[.agg #[.int .i64 t819, .int .i64 t820], .agg #[.int .i64 t846, .int .i64 t847]] rfl (by (try simp only [List.map_toArray, List.map_cons, List.map_nil]); first | done | rfl | (simp only [List.length_drop, List.length_take]; rfl)) ?_; (with_reducible refine (wide_Order.calls kj31 t819 t820 t846 t847 t854 t855 _ A58.out).mono ?_); rintro e w65 ⟨rfl, hb⟩; refine ⟨_, rfl, ?_⟩; replace BK826 := cB hb BK826; replace BK851 := cB hb BK851; replace HB := Aside0.mk (below_step (HB.out) hb); (try clear hb); (try clear hb2); (try clear hk); (try clear hi)))
     (try simp only [Act.put, List.setIfInBounds_toArray, List.set_cons_zero, List.set_cons_succ])
     go_cut [8] (fun v8 wc => ∃ (kq : Nat) (x8_58 : Bool), v8 = .bool x8_58 ∧ Aside0 (relievolaw04_SlabHolds.j3 kq x8_58 = some r) ∧ Aside0 (kq ≤ kj31) ∧ Aside0 (Below w.heap.size w wc))
     case first =>
      have H := HC59.out
      clear HC59
      by_cases c66 : t848 = true
      ·subst c66
       have H1 : (if t852 ≤ 0 then (relievolaw04_SlabHolds.j3 kj31 (decide (t854 ≤ 0))) else (relievolaw04_SlabHolds.j3 kj31 false)) = some r := by rw [if_pos rfl] at H; exact H
       clear H
       have H := H1
       clear H1
       by_cases c67 : t852 ≤ 0
       ·rw [if_pos c67] at H
        have c67b0 : decide (t852 ≤ 0) = true := decide_eq_true c67
        clear c67
        (first | rw [c67b0] | (simp only [i64_w, i32_w]; rw [c67b0]) | skip)
        have H' := Aside0.mk H
        clear H
        go_wp2
        go_meet
        case rel => exact ⟨_, (decide (t854 ≤ 0)), (by first | rfl | (simp; done) | (simp [*]; done)), H', ⟨by have := HJ7.out; have := HJ26.out; have := HJ31.out; first | omega | exact Nat.le_refl _⟩, ⟨HB.out⟩⟩
       rw [if_neg c67] at H
       have c67b0 : decide (t852 ≤ 0) = false := decide_eq_false c67
       clear c67
       (first | rw [c67b0] | (simp only [i64_w, i32_w]; rw [c67b0]) | skip)
       have H' := Aside0.mk H
       clear H
       go_wp2
       go_meet
       case rel => exact ⟨_, (false), (by first | rfl | (simp; done) | (simp [*]; done)), H', ⟨by have := HJ7.out; have := HJ26.out; have := HJ31.out; first | omega | exact Nat.le_refl _⟩, ⟨HB.out⟩⟩
      replace c66 := Bool.eq_false_iff.mpr c66
      subst c66
      have H1 : (relievolaw04_SlabHolds.j3 kj31 false) = some r := by rw [if_neg (show ¬ (false = true) by decide)] at H; exact H
      clear H
      have H := H1
      clear H1
      have H' := Aside0.mk H
      clear H
      go_wp2
      go_meet
      case rel => exact ⟨_, (false), (by first | rfl | (simp; done) | (simp [*]; done)), H', ⟨by have := HJ7.out; have := HJ26.out; have := HJ31.out; first | omega | exact Nat.le_refl _⟩, ⟨HB.out⟩⟩
     clear HC59
     try clear hcz60_0
     try clear hcz60_1
     try clear hcz61_0
     try clear hcz61_1
     try clear hcz61_2
     try clear hcz61_3
     try clear hcz61_4
     try clear hcz63_0
     try clear hcz63_1
     try clear hcz63_2
     try clear hcz63_3
     try clear hcz63_4
     try clear hcz64_0
     try clear hcz64_1
     obtain ⟨kq, x8_58, rfl, HA, HJ58, HB⟩ := hcut
     cases kq with
     | zero => exact absurd HA.out (by simp [relievolaw04_SlabHolds.j3])
     | succ kj58 =>
      have H := HA.out
      clear HA
      simp only [relievolaw04_SlabHolds.j3] at H
      obtain rfl := Option.some.inj H
      go_wp2
      go_ret
      exact ⟨by first | rfl | (simp [errW_none, errW_some] <;> rfl) | (simp [*, errW_none, errW_some] <;> rfl), HB.out⟩
 replace c6 := Bool.eq_false_iff.mpr c6
 subst c6
 have H1 : (some false) = some r := by rw [if_neg (show ¬ (false = true) by decide)] at H; exact H
 clear H
 have H := H1
 clear H1
 obtain rfl := Option.some.inj H
 go_enter Try.func17, Try.ntmps17
 go_wp2_with (first | ((with_reducible refine gate_dst (N := 4) rfl ?_); refine box_event ?hg (N := 4) ?hd (cs := #[.int .i64 a0_0, .int .i64 a0_1, .int .i64 a0_2]) (t := 23) ?hr ?_; (case hd => rfl); (case hg => rfl); (case hr => first | (go_simp; done) | (go_simp; rfl)); intro gb814 hg w68 hbox hb; have BK814 := Aside0.mk (hbox); have GE814 := Aside0.mk (bG hg (HB.out)); replace HB := Aside0.mk (below_step (HB.out) hb); clear hb hbox hg) | ((with_reducible refine gate_dst (N := 5) rfl ?_); refine box_event ?hg (N := 5) ?hd (cs := #[.int .i64 a1_0, .int .i64 a1_1, .int .i64 a1_2]) (t := 23) ?hr ?_; (case hd => rfl); (case hg => rfl); (case hr => first | (go_simp; done) | (go_simp; rfl)); intro gb815 hg w69 hbox hb; have BK815 := Aside0.mk (hbox); have GE815 := Aside0.mk (bG hg (HB.out)); have NB814_815 := cN hg BK814; have NB815_814 := cM hg BK814; replace BK814 := cB hb BK814; replace HB := Aside0.mk (below_step (HB.out) hb); clear hb hbox hg) | ((with_reducible refine gate_dst (N := 6) rfl ?_); refine box_event ?hg (N := 6) ?hd (cs := #[.int .i64 a2_0, .int .i64 a2_1, .int .i64 a2_2, .int .i64 a2_3, .int .i64 a2_4, .int .i64 a2_5, .int .i64 a2_6, .int .i64 a2_7, .int .i64 a2_8]) (t := 25) ?hr ?_; (case hd => rfl); (case hg => rfl); (case hr => first | (go_simp; done) | (go_simp; rfl)); intro gb816 hg w70 hbox hb; have BK816 := Aside0.mk (hbox); have GE816 := Aside0.mk (bG hg (HB.out)); have NB814_816 := cN hg BK814; have NB816_814 := cM hg BK814; have NB815_816 := cN hg BK815; have NB816_815 := cM hg BK815; replace BK814 := cB hb BK814; replace BK815 := cB hb BK815; replace HB := Aside0.mk (below_step (HB.out) hb); clear hb hbox hg) | ((with_reducible refine gate_dst (N := 7) rfl ?_); refine box_event ?hg (N := 7) ?hd (cs := #[.int .i64 a3_0, .int .i64 a3_1, .int .i64 a3_2, .int .i64 a3_3, .int .i64 a3_4, .int .i64 a3_5]) (t := 56) ?hr ?_; (case hd => rfl); (case hg => rfl); (case hr => first | (go_simp; done) | (go_simp; rfl)); intro gb817 hg w71 hbox hb; have BK817 := Aside0.mk (hbox); have GE817 := Aside0.mk (bG hg (HB.out)); have NB814_817 := cN hg BK814; have NB817_814 := cM hg BK814; have NB815_817 := cN hg BK815; have NB817_815 := cM hg BK815; have NB816_817 := cN hg BK816; have NB817_816 := cM hg BK816; replace BK814 := cB hb BK814; replace BK815 := cB hb BK815; replace BK816 := cB hb BK816; replace HB := Aside0.mk (below_step (HB.out) hb); clear hb hbox hg) | ((with_reducible refine gate_callee (f := 31) rfl ?_); refine goesL_ (some 22) rfl rfl Try.func31 (by kernel_rfl) rfl #[] rfl (by (try simp only [List.map_toArray, List.map_cons, List.map_nil]); first | done | rfl | (simp only [List.length_drop, List.length_take]; rfl)) ?_; (with_reducible refine (relievolaw04_alive.calls k  false _ A5.out).mono ?_); rintro e w72 ⟨rfl, hb⟩; refine ⟨_, rfl, ?_⟩; replace BK814 := cB hb BK814; replace BK815 := cB hb BK815; replace BK816 := cB hb BK816; replace BK817 := cB hb BK817; replace HB := Aside0.mk (below_step (HB.out) hb); (try clear hb); (try clear hb2); (try clear hk); (try clear hi)))
 go_ret
 exact ⟨by first | rfl | (simp [errW_none, errW_some] <;> rfl) | (simp [*, errW_none, errW_some] <;> rfl), HB.out⟩

end Go.Proofs.Ytihklolcnfbbjaa.G
