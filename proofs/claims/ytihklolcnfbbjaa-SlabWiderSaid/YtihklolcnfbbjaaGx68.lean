-- Written by a program of this session (wip/gen), out of the translation; Lean checks it.
import Derived.Test.YtihklolcnfbbjaaGx0
import Derived.Test.YtihklolcnfbbjaaGx51
import Derived.Test.YtihklolcnfbbjaaGx53
import Derived.Test.YtihklolcnfbbjaaGx54
import Derived.Test.YtihklolcnfbbjaaGx67
namespace Go.Proofs.Ytihklolcnfbbjaa.G
open Go.RowKit Go.Proofs.YtihklolcnfbbjaaW.PrintWords Go.Proofs.YtihklolcnfbbjaaW.PrintLast Go.Proofs.YtihklolcnfbbjaaW.PrintMore
attribute [local go_sem high] idx35_0 idx35_1 idx35_2 idx35_3 idx41_0 idx41_1 idx41_2 idx84_0 idx84_1 idx84_2 idx88_0 idx88_1 idx88_2 wl0 wl1 wl2 wl3 wl4 wl5 tm0_3 tm1_3 tm2_3 tm3_3 tm4_3 tm5_3
attribute [local go_sem] max2_int min2_int max_two min_two max_three min_three max_four min_four   -- for this text's walks alone
set_option linter.unusedVariables false
set_option linter.unusedSimpArgs false

/-! ### relievolaw04_SlabWider: function 16 -/
mutual
def relievolaw04_SlabWider.j0 : Nat → Bool → Int → Int → Int → Int → Int → Int → Int → Int → Int → Int → Int → Int → Int → Int → Int → Int → Int → Int → Int → Int → Int → Int → Option (Bool)
  | 0, _, _, _, _, _, _, _, _, _, _, _, _, _, _, _, _, _, _, _, _, _, _, _ => none
  | k + 1, x37, x768000, x768001, x768002, x769000, x769001, x769002, x770000, x770001, x770002, x770003, x770004, x770005, x771000, x771001, x771002, x771003, x771004, x771005, x779000, x779001, x780000, x780001 => if x37 = true then (some true) else (relievolaw04_SlabWider.j1 k x768000 x768001 x768002 x769000 x769001 x769002 x770000 x770001 x770002 x770003 x770004 x770005 x771000 x771001 x771002 x771003 x771004 x771005 x779000 x779001 x780000 x780001)
def relievolaw04_SlabWider.j1 : Nat → Int → Int → Int → Int → Int → Int → Int → Int → Int → Int → Int → Int → Int → Int → Int → Int → Int → Int → Int → Int → Int → Int → Option (Bool)
  | 0, _, _, _, _, _, _, _, _, _, _, _, _, _, _, _, _, _, _, _, _, _, _ => none
  | k + 1, x768000, x768001, x768002, x769000, x769001, x769002, x770000, x770001, x770002, x770003, x770004, x770005, x771000, x771001, x771002, x771003, x771004, x771005, x779000, x779001, x780000, x780001 => (vec_Join.f x770000 x770001 x770002 x770003 x770004 x770005 x771000 x771001 x771002 x771003 x771004 x771005).bind fun bt780 => ((slab_Range.f k x768000 x768001 x768002 x769000 x769001 x769002 bt780.1 bt780.2.1 bt780.2.2.1 bt780.2.2.2.1 bt780.2.2.2.2.1 bt780.2.2.2.2.2).bind fun bt786 => (if bt786.2.2.2.2.2 = 0 then (relievolaw04_SlabWider.j2 k bt786.2.2.2.2.1 x779000 x779001 x780000 x780001 bt786.1 bt786.2.1 bt786.2.2.1 bt786.2.2.2.1) else (some (bt786.2.2.2.2.2 == 21))))
def relievolaw04_SlabWider.j2 : Nat → Bool → Int → Int → Int → Int → Int → Int → Int → Int → Option (Bool)
  | 0, _, _, _, _, _, _, _, _, _ => none
  | k + 1, x15, x779000, x779001, x780000, x780001, x793000, x793001, x794000, x794001 => (wide_Order.f k x793000 x793001 x779000 x779001).bind fun bt794 => ((wide_Order.f k x780000 x780001 x794000 x794001).bind fun bt796 => (if x15 = true then (if bt794.1 ≤ 0 then (relievolaw04_SlabWider.j3 k (decide (bt796.1 ≤ 0))) else (relievolaw04_SlabWider.j3 k false)) else (relievolaw04_SlabWider.j3 k false)))
def relievolaw04_SlabWider.j3 : Nat → Bool → Option (Bool)
  | 0, _ => none
  | k + 1, x8 => some x8
end
def relievolaw04_SlabWider.f (k : Nat) (a0_0 : Int) (a0_1 : Int) (a0_2 : Int) (a1_0 : Int) (a1_1 : Int) (a1_2 : Int) (a2_0 : Int) (a2_1 : Int) (a2_2 : Int) (a2_3 : Int) (a2_4 : Int) (a2_5 : Int) (a3_0 : Int) (a3_1 : Int) (a3_2 : Int) (a3_3 : Int) (a3_4 : Int) (a3_5 : Int) : Option (Bool) := (relievolaw04_alive.f k).bind fun t771 => (if t771 = true then ((slab_Range.f k a0_0 a0_1 a0_2 a1_0 a1_1 a1_2 a2_0 a2_1 a2_2 a2_3 a2_4 a2_5).bind fun bt772 => (if bt772.2.2.2.2.2 = 0 then (relievolaw04_SlabWider.j0 k (!bt772.2.2.2.2.1) a0_0 a0_1 a0_2 a1_0 a1_1 a1_2 a2_0 a2_1 a2_2 a2_3 a2_4 a2_5 a3_0 a3_1 a3_2 a3_3 a3_4 a3_5 bt772.1 bt772.2.1 bt772.2.2.1 bt772.2.2.2.1) else (relievolaw04_SlabWider.j0 k true a0_0 a0_1 a0_2 a1_0 a1_1 a1_2 a2_0 a2_1 a2_2 a2_3 a2_4 a2_5 a3_0 a3_1 a3_2 a3_3 a3_4 a3_5 bt772.1 bt772.2.1 bt772.2.2.1 bt772.2.2.2.1))) else (some false))
def relievolaw04_SlabWider.T6 : Bool × List (List Nat × List Nat) := (true, [([], []), ([], []), ([], []), ([], []), ([2, 3], [2, 3]), ([0, 1, 4, 4], [0, 1, 4]), ([5], [5]), ([6], [6]), ([6], [6]), ([6], [6]), ([6], [6]), ([], []), ([], []), ([11, 7, 5, 0, 1, 2, 3, 4, 5, 6, 7, 11, 12], [7, 11]), ([12, 8, 13, 0, 1, 2, 3, 4, 5, 6, 7, 8, 11, 12, 13], [8, 12]), ([9, 14, 0, 1, 2, 3, 4, 5, 6, 7, 8, 9, 11, 12, 13, 14], [9]), ([10, 15, 0, 1, 2, 3, 4, 5, 6, 7, 8, 9, 10, 11, 12, 13, 14, 15], [10])])
def relievolaw04_SlabWider.B6 : List Nat := [0, 0, 0, 0, 12, 31, 63, 127, 127, 127, 127, 0, 0, 6399, 14847, 31743, 65535]
theorem relievolaw04_SlabWider.tab6 : rtab .any (opsOf Try.f16 6) = relievolaw04_SlabWider.T6 := by kernel_rfl
theorem relievolaw04_SlabWider.bits6 : waitsOk relievolaw04_SlabWider.T6.2 relievolaw04_SlabWider.B6 = true := by kernel_rfl
set_option maxHeartbeats 8000000 in
set_option maxRecDepth 100000 in
theorem relievolaw04_SlabWider.calls (k : Nat) (a0_0 : Int) (a0_1 : Int) (a0_2 : Int) (a1_0 : Int) (a1_1 : Int) (a1_2 : Int) (a2_0 : Int) (a2_1 : Int) (a2_2 : Int) (a2_3 : Int) (a2_4 : Int) (a2_5 : Int) (a3_0 : Int) (a3_1 : Int) (a3_2 : Int) (a3_3 : Int) (a3_4 : Int) (a3_5 : Int) (r : Bool) (w : World) (h : relievolaw04_SlabWider.f k a0_0 a0_1 a0_2 a1_0 a1_1 a1_2 a2_0 a2_1 a2_2 a2_3 a2_4 a2_5 a3_0 a3_1 a3_2 a3_3 a3_4 a3_5 = some r) :
    Calls Try.prog 16 #[.agg #[.int .i64 a0_0, .int .i64 a0_1, .int .i64 a0_2], .agg #[.int .i64 a1_0, .int .i64 a1_1, .int .i64 a1_2], .agg #[.int .i64 a2_0, .int .i64 a2_1, .int .i64 a2_2, .int .i64 a2_3, .int .i64 a2_4, .int .i64 a2_5], .agg #[.int .i64 a3_0, .int .i64 a3_1, .int .i64 a3_2, .int .i64 a3_3, .int .i64 a3_4, .int .i64 a3_5]] w fun e w' => e = .returned (.bool r) ∧ Below w.heap.size w w' := by
 have hu23 := Try.underlying23
 have hu56 := Try.underlying56
 have hu28 := Try.underlying28
 have HB := Aside0.mk (Below.refl w.heap.size w)
 have H : ((relievolaw04_alive.f k).bind fun t771 => (if t771 = true then ((slab_Range.f k a0_0 a0_1 a0_2 a1_0 a1_1 a1_2 a2_0 a2_1 a2_2 a2_3 a2_4 a2_5).bind fun bt772 => (if bt772.2.2.2.2.2 = 0 then (relievolaw04_SlabWider.j0 k (!bt772.2.2.2.2.1) a0_0 a0_1 a0_2 a1_0 a1_1 a1_2 a2_0 a2_1 a2_2 a2_3 a2_4 a2_5 a3_0 a3_1 a3_2 a3_3 a3_4 a3_5 bt772.1 bt772.2.1 bt772.2.2.1 bt772.2.2.2.1) else (relievolaw04_SlabWider.j0 k true a0_0 a0_1 a0_2 a1_0 a1_1 a1_2 a2_0 a2_1 a2_2 a2_3 a2_4 a2_5 a3_0 a3_1 a3_2 a3_3 a3_4 a3_5 bt772.1 bt772.2.1 bt772.2.2.1 bt772.2.2.2.1))) else (some false))) = some r := h
 clear h
 replace H := Option.bind_eq_some_iff.mp H
 obtain ⟨t771, A50, H⟩ := H
 replace H : (if t771 = true then ((slab_Range.f k a0_0 a0_1 a0_2 a1_0 a1_1 a1_2 a2_0 a2_1 a2_2 a2_3 a2_4 a2_5).bind fun bt772 => (if bt772.2.2.2.2.2 = 0 then (relievolaw04_SlabWider.j0 k (!bt772.2.2.2.2.1) a0_0 a0_1 a0_2 a1_0 a1_1 a1_2 a2_0 a2_1 a2_2 a2_3 a2_4 a2_5 a3_0 a3_1 a3_2 a3_3 a3_4 a3_5 bt772.1 bt772.2.1 bt772.2.2.1 bt772.2.2.2.1) else (relievolaw04_SlabWider.j0 k true a0_0 a0_1 a0_2 a1_0 a1_1 a1_2 a2_0 a2_1 a2_2 a2_3 a2_4 a2_5 a3_0 a3_1 a3_2 a3_3 a3_4 a3_5 bt772.1 bt772.2.1 bt772.2.2.1 bt772.2.2.2.1))) else (some false)) = some r := H
 have A5 := Aside0.mk A50
 clear A50
 by_cases c6 : t771 = true
 ·subst c6
  have H1 : ((slab_Range.f k a0_0 a0_1 a0_2 a1_0 a1_1 a1_2 a2_0 a2_1 a2_2 a2_3 a2_4 a2_5).bind fun bt772 => (if bt772.2.2.2.2.2 = 0 then (relievolaw04_SlabWider.j0 k (!bt772.2.2.2.2.1) a0_0 a0_1 a0_2 a1_0 a1_1 a1_2 a2_0 a2_1 a2_2 a2_3 a2_4 a2_5 a3_0 a3_1 a3_2 a3_3 a3_4 a3_5 bt772.1 bt772.2.1 bt772.2.2.1 bt772.2.2.2.1) else (relievolaw04_SlabWider.j0 k true a0_0 a0_1 a0_2 a1_0 a1_1 a1_2 a2_0 a2_1 a2_2 a2_3 a2_4 a2_5 a3_0 a3_1 a3_2 a3_3 a3_4 a3_5 bt772.1 bt772.2.1 bt772.2.2.1 bt772.2.2.2.1))) = some r := by rw [if_pos rfl] at H; exact H
  clear H
  have H := H1
  clear H1
  replace H := Option.bind_eq_some_iff.mp H
  obtain ⟨⟨t772, t773, t774, t775, t776, t777⟩, A70, H⟩ := H
  replace H : (if t777 = 0 then (relievolaw04_SlabWider.j0 k (!t776) a0_0 a0_1 a0_2 a1_0 a1_1 a1_2 a2_0 a2_1 a2_2 a2_3 a2_4 a2_5 a3_0 a3_1 a3_2 a3_3 a3_4 a3_5 t772 t773 t774 t775) else (relievolaw04_SlabWider.j0 k true a0_0 a0_1 a0_2 a1_0 a1_1 a1_2 a2_0 a2_1 a2_2 a2_3 a2_4 a2_5 a3_0 a3_1 a3_2 a3_3 a3_4 a3_5 t772 t773 t774 t775)) = some r := H
  have A7 := Aside0.mk A70
  clear A70
  have HC8 := Aside0.mk H
  clear H
  go_enter Try.func16, Try.ntmps16
  go_upto_region 4 with (first | ((with_reducible refine gate_dst (N := 4) rfl ?_); refine box_event ?hg (N := 4) ?hd (cs := #[.int .i64 a0_0, .int .i64 a0_1, .int .i64 a0_2]) (t := 23) ?hr ?_; (case hd => rfl); (case hg => rfl); (case hr => first | (go_simp; done) | (go_simp; rfl)); intro gb767 hg w9 hbox hb; have BK767 := Aside0.mk (hbox); have GE767 := Aside0.mk (bG hg (HB.out)); replace HB := Aside0.mk (below_step (HB.out) hb); clear hb hbox hg) | ((with_reducible refine gate_dst (N := 5) rfl ?_); refine box_event ?hg (N := 5) ?hd (cs := #[.int .i64 a1_0, .int .i64 a1_1, .int .i64 a1_2]) (t := 23) ?hr ?_; (case hd => rfl); (case hg => rfl); (case hr => first | (go_simp; done) | (go_simp; rfl)); intro gb768 hg w10 hbox hb; have BK768 := Aside0.mk (hbox); have GE768 := Aside0.mk (bG hg (HB.out)); have NB767_768 := cN hg BK767; have NB768_767 := cM hg BK767; replace BK767 := cB hb BK767; replace HB := Aside0.mk (below_step (HB.out) hb); clear hb hbox hg) | ((with_reducible refine gate_dst (N := 6) rfl ?_); refine box_event ?hg (N := 6) ?hd (cs := #[.int .i64 a2_0, .int .i64 a2_1, .int .i64 a2_2, .int .i64 a2_3, .int .i64 a2_4, .int .i64 a2_5]) (t := 56) ?hr ?_; (case hd => rfl); (case hg => rfl); (case hr => first | (go_simp; done) | (go_simp; rfl)); intro gb769 hg w11 hbox hb; have BK769 := Aside0.mk (hbox); have GE769 := Aside0.mk (bG hg (HB.out)); have NB767_769 := cN hg BK767; have NB769_767 := cM hg BK767; have NB768_769 := cN hg BK768; have NB769_768 := cM hg BK768; replace BK767 := cB hb BK767; replace BK768 := cB hb BK768; replace HB := Aside0.mk (below_step (HB.out) hb); clear hb hbox hg) | ((with_reducible refine gate_dst (N := 7) rfl ?_); refine box_event ?hg (N := 7) ?hd (cs := #[.int .i64 a3_0, .int .i64 a3_1, .int .i64 a3_2, .int .i64 a3_3, .int .i64 a3_4, .int .i64 a3_5]) (t := 56) ?hr ?_; (case hd => rfl); (case hg => rfl); (case hr => first | (go_simp; done) | (go_simp; rfl)); intro gb770 hg w12 hbox hb; have BK770 := Aside0.mk (hbox); have GE770 := Aside0.mk (bG hg (HB.out)); have NB767_770 := cN hg BK767; have NB770_767 := cM hg BK767; have NB768_770 := cN hg BK768; have NB770_768 := cM hg BK768; have NB769_770 := cN hg BK769; have NB770_769 := cM hg BK769; replace BK767 := cB hb BK767; replace BK768 := cB hb BK768; replace BK769 := cB hb BK769; replace HB := Aside0.mk (below_step (HB.out) hb); clear hb hbox hg) | ((with_reducible refine gate_callee (f := 31) rfl ?_); refine goesL_ (some 21) rfl rfl Try.func31 (by kernel_rfl) rfl #[] rfl (by (try simp only [List.map_toArray, List.map_cons, List.map_nil]); first | done | rfl | (simp only [List.length_drop, List.length_take]; rfl)) ?_; (with_reducible refine (relievolaw04_alive.calls k  true _ A5.out).mono ?_); rintro e w13 ⟨rfl, hb⟩; refine ⟨_, rfl, ?_⟩; replace BK767 := cB hb BK767; replace BK768 := cB hb BK768; replace BK769 := cB hb BK769; replace BK770 := cB hb BK770; replace HB := Aside0.mk (below_step (HB.out) hb); (try clear hb); (try clear hb2); (try clear hk); (try clear hi); obtain ⟨hcz14_0, hcz14_1, hcz14_2⟩ := cells3 BK767.out; obtain ⟨hcz15_0, hcz15_1, hcz15_2⟩ := cells3 BK768.out; obtain ⟨hcz16_0, hcz16_1, hcz16_2, hcz16_3, hcz16_4, hcz16_5⟩ := cells6 BK769.out) | ((with_reducible refine gate_callee (f := 32) rfl ?_); refine goesL_ (some 27) rfl rfl Try.func32 (by kernel_rfl) rfl #[.agg #[.int .i64 a0_0, .int .i64 a0_1, .int .i64 a0_2], .agg #[.int .i64 a1_0, .int .i64 a1_1, .int .i64 a1_2], .agg #[.int .i64 a2_0, .int .i64 a2_1, .int .i64 a2_2, .int .i64 a2_3, .int .i64 a2_4, .int .i64 a2_5]] rfl (by (try simp only [List.map_toArray, List.map_cons, List.map_nil]); first | done | rfl | (simp only [List.length_drop, List.length_take]; rfl)) ?_; (with_reducible refine (slab_Range.calls k a0_0 a0_1 a0_2 a1_0 a1_1 a1_2 a2_0 a2_1 a2_2 a2_3 a2_4 a2_5 t772 t773 t774 t775 t776 t777 _ A7.out).mono ?_); rintro e w17 ⟨rfl, hb⟩; refine ⟨_, rfl, ?_⟩; replace BK767 := cB hb BK767; replace BK768 := cB hb BK768; replace BK769 := cB hb BK769; replace BK770 := cB hb BK770; replace HB := Aside0.mk (below_step (HB.out) hb); (try clear hb); (try clear hb2); (try clear hk); (try clear hi)) | ((with_reducible refine gate_dst (N := 9) rfl ?_); refine box_event ?hg (N := 9) ?hd (cs := #[.int .i64 0, .int .i64 0]) (t := 28) ?hr ?_; (case hd => rfl); (case hg => rfl); (case hr => first | (go_simp; done) | (go_simp; rfl)); intro gb778 hg w18 hbox hb; have BK778 := Aside0.mk (hbox); have GE778 := Aside0.mk (bG hg (HB.out)); have NB767_778 := cN hg BK767; have NB778_767 := cM hg BK767; have NB768_778 := cN hg BK768; have NB778_768 := cM hg BK768; have NB769_778 := cN hg BK769; have NB778_769 := cM hg BK769; have NB770_778 := cN hg BK770; have NB778_770 := cM hg BK770; replace BK767 := cB hb BK767; replace BK768 := cB hb BK768; replace BK769 := cB hb BK769; replace BK770 := cB hb BK770; replace HB := Aside0.mk (below_step (HB.out) hb); clear hb hbox hg) | ((with_reducible refine gate_dst (N := 10) rfl ?_); refine box_event ?hg (N := 10) ?hd (cs := #[.int .i64 0, .int .i64 0]) (t := 28) ?hr ?_; (case hd => rfl); (case hg => rfl); (case hr => first | (go_simp; done) | (go_simp; rfl)); intro gb779 hg w19 hbox hb; have BK779 := Aside0.mk (hbox); have GE779 := Aside0.mk (bG hg (HB.out)); have NB767_779 := cN hg BK767; have NB779_767 := cM hg BK767; have NB768_779 := cN hg BK768; have NB779_768 := cM hg BK768; have NB769_779 := cN hg BK769; have NB779_769 := cM hg BK769; have NB770_779 := cN hg BK770; have NB779_770 := cM hg BK770; have NB778_779 := cN hg BK778; have NB779_778 := cM hg BK778; replace BK767 := cB hb BK767; replace BK768 := cB hb BK768; replace BK769 := cB hb BK769; replace BK770 := cB hb BK770; replace BK778 := cB hb BK778; replace HB := Aside0.mk (below_step (HB.out) hb); clear hb hbox hg; have hnb20 := NB778_767.out; have hnc20 := NB767_778.out; have hnb21 := NB778_768.out; have hnc21 := NB768_778.out; have hnb22 := NB778_769.out; have hnc22 := NB769_778.out; have hnb23 := NB778_770.out; have hnc23 := NB770_778.out; have hnb24 := NB778_779.out; have hnc24 := NB779_778.out; obtain ⟨hcz25_0, hcz25_1⟩ := cells2 BK778.out; have hfz25_0 := blk_frozen BK778.out 0; have hfz25_1 := blk_frozen BK778.out 1; have hnb26 := NB779_767.out; have hnc26 := NB767_779.out; have hnb27 := NB779_768.out; have hnc27 := NB768_779.out; have hnb28 := NB779_769.out; have hnc28 := NB769_779.out; have hnb29 := NB779_770.out; have hnc29 := NB770_779.out; obtain ⟨hcz30_0, hcz30_1⟩ := cells2 BK779.out; have hfz30_0 := blk_frozen BK779.out 0; have hfz30_1 := blk_frozen BK779.out 1))
  (try simp only [Act.put, List.setIfInBounds_toArray, List.set_cons_zero, List.set_cons_succ])
  go_cut [37] (fun v37 wc => ∃ (kq : Nat) (x37_7 : Bool), v37 = .bool x37_7 ∧ Aside0 (relievolaw04_SlabWider.j0 kq x37_7 a0_0 a0_1 a0_2 a1_0 a1_1 a1_2 a2_0 a2_1 a2_2 a2_3 a2_4 a2_5 a3_0 a3_1 a3_2 a3_3 a3_4 a3_5 t772 t773 t774 t775 = some r) ∧ Aside0 (kq ≤ k) ∧ Aside0 (wc.heap[gb767]? = some (.cells #[.int .i64 a0_0, .int .i64 a0_1, .int .i64 a0_2] 23 (0, 0))) ∧ Aside0 (wc.heap[gb768]? = some (.cells #[.int .i64 a1_0, .int .i64 a1_1, .int .i64 a1_2] 23 (0, 0))) ∧ Aside0 (wc.heap[gb769]? = some (.cells #[.int .i64 a2_0, .int .i64 a2_1, .int .i64 a2_2, .int .i64 a2_3, .int .i64 a2_4, .int .i64 a2_5] 56 (0, 0))) ∧ Aside0 (wc.heap[gb770]? = some (.cells #[.int .i64 a3_0, .int .i64 a3_1, .int .i64 a3_2, .int .i64 a3_3, .int .i64 a3_4, .int .i64 a3_5] 56 (0, 0))) ∧ Aside0 (wc.heap[gb778]? = some (.cells #[.int .i64 t772, .int .i64 t773] 28 (0, 0))) ∧ Aside0 (wc.heap[gb779]? = some (.cells #[.int .i64 t774, .int .i64 t775] 28 (0, 0))) ∧ Aside0 (Below w.heap.size w wc))
  case first =>
   have H := HC8.out
   clear HC8
   by_cases c31 : t777 = 0
   ·rw [if_pos c31] at H
    have c31b0 : (t777 == 0) = true := beq_iff_eq.mpr c31
    have c31b1 : (t777 != 0) = false := bne_eq_false_iff_eq.mpr c31
    clear c31
    (first | rw [c31b0] | (simp only [i64_w, i32_w]; rw [c31b0]) | skip)
    have H' := Aside0.mk H
    clear H
    go_wp2
    go_meet
    case rel => exact ⟨_, (!t776), (by first | rfl | (simp; done) | (simp [*]; done)), H', ⟨by first | omega | exact Nat.le_refl _⟩, ⟨(blk_far (blk_far (blk_far (blk_far BK767.out NB767_778.out _) NB767_778.out _) NB767_779.out _) NB767_779.out _)⟩, ⟨(blk_far (blk_far (blk_far (blk_far BK768.out NB768_778.out _) NB768_778.out _) NB768_779.out _) NB768_779.out _)⟩, ⟨(blk_far (blk_far (blk_far (blk_far BK769.out NB769_778.out _) NB769_778.out _) NB769_779.out _) NB769_779.out _)⟩, ⟨(blk_far (blk_far (blk_far (blk_far BK770.out NB770_778.out _) NB770_778.out _) NB770_779.out _) NB770_779.out _)⟩, ⟨(blk_far (blk_far (blk_put (cs' := #[.int .i64 t772, .int .i64 t773]) (blk_put BK778.out 0 _ rfl) 1 _ rfl) NB778_779.out _) NB778_779.out _)⟩, ⟨(blk_put (cs' := #[.int .i64 t774, .int .i64 t775]) (blk_put (blk_far (blk_far BK779.out NB779_778.out _) NB779_778.out _) 0 _ rfl) 1 _ rfl)⟩, ⟨(below_set (below_set (below_set (below_set HB.out GE778.out) GE778.out) GE779.out) GE779.out)⟩⟩
   rw [if_neg c31] at H
   have c31b0 : (t777 == 0) = false := beq_eq_false_iff_ne.mpr c31
   have c31b1 : (t777 != 0) = true := bne_iff_ne.mpr c31
   (first | rw [c31b0] | (simp only [i64_w, i32_w]; rw [c31b0]) | skip)
   have H' := Aside0.mk H
   clear H
   go_wp2
   go_meet
   case rel => exact ⟨_, (true), (by first | rfl | (simp; done) | (simp [*]; done)), H', ⟨by first | omega | exact Nat.le_refl _⟩, ⟨(blk_far (blk_far (blk_far (blk_far BK767.out NB767_778.out _) NB767_778.out _) NB767_779.out _) NB767_779.out _)⟩, ⟨(blk_far (blk_far (blk_far (blk_far BK768.out NB768_778.out _) NB768_778.out _) NB768_779.out _) NB768_779.out _)⟩, ⟨(blk_far (blk_far (blk_far (blk_far BK769.out NB769_778.out _) NB769_778.out _) NB769_779.out _) NB769_779.out _)⟩, ⟨(blk_far (blk_far (blk_far (blk_far BK770.out NB770_778.out _) NB770_778.out _) NB770_779.out _) NB770_779.out _)⟩, ⟨(blk_far (blk_far (blk_put (cs' := #[.int .i64 t772, .int .i64 t773]) (blk_put BK778.out 0 _ rfl) 1 _ rfl) NB778_779.out _) NB778_779.out _)⟩, ⟨(blk_put (cs' := #[.int .i64 t774, .int .i64 t775]) (blk_put (blk_far (blk_far BK779.out NB779_778.out _) NB779_778.out _) 0 _ rfl) 1 _ rfl)⟩, ⟨(below_set (below_set (below_set (below_set HB.out GE778.out) GE778.out) GE779.out) GE779.out)⟩⟩
  clear HC8
  try clear c6
  try clear hcz14_0
  try clear hcz14_1
  try clear hcz14_2
  try clear hcz15_0
  try clear hcz15_1
  try clear hcz15_2
  try clear hcz16_0
  try clear hcz16_1
  try clear hcz16_2
  try clear hcz16_3
  try clear hcz16_4
  try clear hcz16_5
  try clear hcz25_0
  try clear hcz25_1
  try clear hcz30_0
  try clear hcz30_1
  try clear hfz25_0
  try clear hfz25_1
  try clear hfz30_0
  try clear hfz30_1
  obtain ⟨kq, x37_7, rfl, HA, HJ7, BK767, BK768, BK769, BK770, BK778, BK779, HB⟩ := hcut
  cases kq with
  | zero => exact absurd HA.out (by simp [relievolaw04_SlabWider.j0])
  | succ kj7 =>
   have H := HA.out
   clear HA
   simp only [relievolaw04_SlabWider.j0] at H
   have HC32 := Aside0.mk H
   clear H
   go_upto_if 37 with (fail)
   go_cut [] (fun wc => ∃ (kq : Nat), Aside0 (relievolaw04_SlabWider.j1 kq a0_0 a0_1 a0_2 a1_0 a1_1 a1_2 a2_0 a2_1 a2_2 a2_3 a2_4 a2_5 a3_0 a3_1 a3_2 a3_3 a3_4 a3_5 t772 t773 t774 t775 = some r) ∧ Aside0 (kq ≤ kj7) ∧ Aside0 (wc.heap[gb767]? = some (.cells #[.int .i64 a0_0, .int .i64 a0_1, .int .i64 a0_2] 23 (0, 0))) ∧ Aside0 (wc.heap[gb768]? = some (.cells #[.int .i64 a1_0, .int .i64 a1_1, .int .i64 a1_2] 23 (0, 0))) ∧ Aside0 (wc.heap[gb769]? = some (.cells #[.int .i64 a2_0, .int .i64 a2_1, .int .i64 a2_2, .int .i64 a2_3, .int .i64 a2_4, .int .i64 a2_5] 56 (0, 0))) ∧ Aside0 (wc.heap[gb770]? = some (.cells #[.int .i64 a3_0, .int .i64 a3_1, .int .i64 a3_2, .int .i64 a3_3, .int .i64 a3_4, .int .i64 a3_5] 56 (0, 0))) ∧ Aside0 (wc.heap[gb778]? = some (.cells #[.int .i64 t772, .int .i64 t773] 28 (0, 0))) ∧ Aside0 (wc.heap[gb779]? = some (.cells #[.int .i64 t774, .int .i64 t775] 28 (0, 0))) ∧ Aside0 (Below w.heap.size w wc))
   case first =>
    have H := HC32.out
    clear HC32
    by_cases c33 : x37_7 = true
    ·subst c33
     have H1 : (some true) = some r := by rw [if_pos rfl] at H; exact H
     clear H
     have H := H1
     clear H1
     obtain rfl := Option.some.inj H
     go_wp2
     go_ret
     exact ⟨by first | rfl | (simp [errW_none, errW_some] <;> rfl) | (simp [*, errW_none, errW_some] <;> rfl), HB.out⟩
    replace c33 := Bool.eq_false_iff.mpr c33
    subst c33
    have H1 : (relievolaw04_SlabWider.j1 kj7 a0_0 a0_1 a0_2 a1_0 a1_1 a1_2 a2_0 a2_1 a2_2 a2_3 a2_4 a2_5 a3_0 a3_1 a3_2 a3_3 a3_4 a3_5 t772 t773 t774 t775) = some r := by rw [if_neg (show ¬ (false = true) by decide)] at H; exact H
    clear H
    have H := H1
    clear H1
    have H' := Aside0.mk H
    clear H
    go_wp2
    go_meet
    case rel => exact ⟨_, H', ⟨by have := HJ7.out; first | omega | exact Nat.le_refl _⟩, ⟨BK767.out⟩, ⟨BK768.out⟩, ⟨BK769.out⟩, ⟨BK770.out⟩, ⟨BK778.out⟩, ⟨BK779.out⟩, ⟨HB.out⟩⟩
   clear HC32
   obtain ⟨kq, HA, HJ31, BK767, BK768, BK769, BK770, BK778, BK779, HB⟩ := hcut
   cases kq with
   | zero => exact absurd HA.out (by simp [relievolaw04_SlabWider.j1])
   | succ kj31 =>
    have H := HA.out
    clear HA
    simp only [relievolaw04_SlabWider.j1] at H
    replace H := Option.bind_eq_some_iff.mp H
    obtain ⟨⟨t780, t781, t782, t783, t784, t785⟩, A340, H⟩ := H
    replace H : ((slab_Range.f kj31 a0_0 a0_1 a0_2 a1_0 a1_1 a1_2 t780 t781 t782 t783 t784 t785).bind fun bt786 => (if bt786.2.2.2.2.2 = 0 then (relievolaw04_SlabWider.j2 kj31 bt786.2.2.2.2.1 t772 t773 t774 t775 bt786.1 bt786.2.1 bt786.2.2.1 bt786.2.2.2.1) else (some (bt786.2.2.2.2.2 == 21)))) = some r := H
    have A34 := Aside0.mk A340
    clear A340
    replace H := Option.bind_eq_some_iff.mp H
    obtain ⟨⟨t786, t787, t788, t789, t790, t791⟩, A350, H⟩ := H
    replace H : (if t791 = 0 then (relievolaw04_SlabWider.j2 kj31 t790 t772 t773 t774 t775 t786 t787 t788 t789) else (some (t791 == 21))) = some r := H
    have A35 := Aside0.mk A350
    clear A350
    have HC36 := Aside0.mk H
    clear H
    try go_wp2
    replace BK767 := Aside0.mk (blk_drew BK767.out)
    replace BK768 := Aside0.mk (blk_drew BK768.out)
    replace BK769 := Aside0.mk (blk_drew BK769.out)
    replace BK770 := Aside0.mk (blk_drew BK770.out)
    replace BK778 := Aside0.mk (blk_drew BK778.out)
    replace BK779 := Aside0.mk (blk_drew BK779.out)
    replace HB := Aside0.mk (below_drew1 HB.out)
    refine start_ (n := 17) (S := fun w' => w'.cell? ⟨gb767, 0, none⟩ = some (.int .i64 a0_0) ∧ w'.cell? ⟨gb767, 1, none⟩ = some (.int .i64 a0_1) ∧ w'.cell? ⟨gb767, 2, none⟩ = some (.int .i64 a0_2) ∧ w'.cell? ⟨gb768, 0, none⟩ = some (.int .i64 a1_0) ∧ w'.cell? ⟨gb768, 1, none⟩ = some (.int .i64 a1_1) ∧ w'.cell? ⟨gb768, 2, none⟩ = some (.int .i64 a1_2) ∧ w'.cell? ⟨gb769, 0, none⟩ = some (.int .i64 a2_0) ∧ w'.cell? ⟨gb769, 1, none⟩ = some (.int .i64 a2_1) ∧ w'.cell? ⟨gb769, 2, none⟩ = some (.int .i64 a2_2) ∧ w'.cell? ⟨gb769, 3, none⟩ = some (.int .i64 a2_3) ∧ w'.cell? ⟨gb769, 4, none⟩ = some (.int .i64 a2_4) ∧ w'.cell? ⟨gb769, 5, none⟩ = some (.int .i64 a2_5) ∧ w'.cell? ⟨gb770, 0, none⟩ = some (.int .i64 a3_0) ∧ w'.cell? ⟨gb770, 1, none⟩ = some (.int .i64 a3_1) ∧ w'.cell? ⟨gb770, 2, none⟩ = some (.int .i64 a3_2) ∧ w'.cell? ⟨gb770, 3, none⟩ = some (.int .i64 a3_3) ∧ w'.cell? ⟨gb770, 4, none⟩ = some (.int .i64 a3_4) ∧ w'.cell? ⟨gb770, 5, none⟩ = some (.int .i64 a3_5)) (ds := []) #[false, false, false, false, false, false, false, false, false, false, false, false, false, false, false, false, false] (by kernel_rfl) rfl rfl ⟨(blk_cell BK767.out 0).trans rfl, (blk_cell BK767.out 1).trans rfl, (blk_cell BK767.out 2).trans rfl, (blk_cell BK768.out 0).trans rfl, (blk_cell BK768.out 1).trans rfl, (blk_cell BK768.out 2).trans rfl, (blk_cell BK769.out 0).trans rfl, (blk_cell BK769.out 1).trans rfl, (blk_cell BK769.out 2).trans rfl, (blk_cell BK769.out 3).trans rfl, (blk_cell BK769.out 4).trans rfl, (blk_cell BK769.out 5).trans rfl, (blk_cell BK770.out 0).trans rfl, (blk_cell BK770.out 1).trans rfl, (blk_cell BK770.out 2).trans rfl, (blk_cell BK770.out 3).trans rfl, (blk_cell BK770.out 4).trans rfl, (blk_cell BK770.out 5).trans rfl⟩ (fun hHeld => ?_); refine with_tabW relievolaw04_SlabWider.tab6 relievolaw04_SlabWider.bits6 (fun HT_ HW_ => ?_)
    generalize wc.drew = w37 at BK767 BK768 BK769 BK770 BK778 BK779 HB hHeld ⊢
    refine take_ (i := 0) (N := some 39) (v := ?_) (a' := ?_) #[true, false, false, false, false, false, false, false, false, false, false, false, false, false, false, false, false] rfl rfl (take_ofW HT_.out HW_.out (by kernel_rfl)) (fun _ _ _ h => h) (Or.inl ⟨by rfl, ?_⟩) hHeld ?_ ?_
    rotate_left
    ·rintro w' ⟨s0, s1, s2, s3, s4, s5, s6, s7, s8, s9, s10, s11, s12, s13, s14, s15, s16, s17⟩
     go_simp
     with_reducible rfl
    rotate_left
    ·simp only [Act.put, List.setIfInBounds_toArray, List.set_cons_zero, List.set_cons_succ, i64_w, i32_w]
     rfl
    refine take_ (i := 1) (N := some 40) (v := ?_) (a' := ?_) #[true, true, false, false, false, false, false, false, false, false, false, false, false, false, false, false, false] rfl rfl (take_ofW HT_.out HW_.out (by kernel_rfl)) (fun _ _ _ h => h) (Or.inl ⟨by rfl, ?_⟩) hHeld ?_ ?_
    rotate_left
    ·rintro w' ⟨s0, s1, s2, s3, s4, s5, s6, s7, s8, s9, s10, s11, s12, s13, s14, s15, s16, s17⟩
     go_simp
     with_reducible rfl
    rotate_left
    ·simp only [Act.put, List.setIfInBounds_toArray, List.set_cons_zero, List.set_cons_succ, i64_w, i32_w]
     rfl
    refine take_ (i := 2) (N := some 41) (v := ?_) (a' := ?_) #[true, true, true, false, false, false, false, false, false, false, false, false, false, false, false, false, false] rfl rfl (take_ofW HT_.out HW_.out (by kernel_rfl)) (fun _ _ _ h => h) (Or.inl ⟨by rfl, ?_⟩) hHeld ?_ ?_
    rotate_left
    ·rintro w' ⟨s0, s1, s2, s3, s4, s5, s6, s7, s8, s9, s10, s11, s12, s13, s14, s15, s16, s17⟩
     go_simp
     with_reducible rfl
    rotate_left
    ·simp only [Act.put, List.setIfInBounds_toArray, List.set_cons_zero, List.set_cons_succ, i64_w, i32_w]
     rfl
    refine take_ (i := 3) (N := some 42) (v := ?_) (a' := ?_) #[true, true, true, true, false, false, false, false, false, false, false, false, false, false, false, false, false] rfl rfl (take_ofW HT_.out HW_.out (by kernel_rfl)) (fun _ _ _ h => h) (Or.inl ⟨by rfl, ?_⟩) hHeld ?_ ?_
    rotate_left
    ·rintro w' ⟨s0, s1, s2, s3, s4, s5, s6, s7, s8, s9, s10, s11, s12, s13, s14, s15, s16, s17⟩
     go_simp
     with_reducible rfl
    rotate_left
    ·simp only [Act.put, List.setIfInBounds_toArray, List.set_cons_zero, List.set_cons_succ, i64_w, i32_w]
     rfl
    refine join_ (σ := Nat × Nat) 4 #[true, true, true, true, true, true, true, true, true, true, true, true, true, false, false, false, false] (fun s_ => [(43, .agg #[.int .i64 t780, .int .i64 t781, .int .i64 t782, .int .i64 t783, .int .i64 t784, .int .i64 t785]), (44, .tuple #[.agg #[.int .i64 t786, .int .i64 t787], .agg #[.int .i64 t788, .int .i64 t789], .bool t790, .int .i64 t791]), (13, .pointer (some ⟨s_.1, 0, none⟩)), (14, .pointer (some ⟨s_.2, 0, none⟩)), (38, .tuple #[.agg #[.int .i64 t786, .int .i64 t787], .agg #[.int .i64 t788, .int .i64 t789], .bool t790, .int .i64 t791]), (45, .agg #[.int .i64 t786, .int .i64 t787]), (46, .agg #[.int .i64 t788, .int .i64 t789]), (47, .bool t790), (48, .int .i64 t791)]) (fun s_ w' => (w'.cell? ⟨gb767, 0, none⟩ = some (.int .i64 a0_0) ∧ w'.cell? ⟨gb767, 1, none⟩ = some (.int .i64 a0_1) ∧ w'.cell? ⟨gb767, 2, none⟩ = some (.int .i64 a0_2) ∧ w'.cell? ⟨gb768, 0, none⟩ = some (.int .i64 a1_0) ∧ w'.cell? ⟨gb768, 1, none⟩ = some (.int .i64 a1_1) ∧ w'.cell? ⟨gb768, 2, none⟩ = some (.int .i64 a1_2) ∧ w'.cell? ⟨gb769, 0, none⟩ = some (.int .i64 a2_0) ∧ w'.cell? ⟨gb769, 1, none⟩ = some (.int .i64 a2_1) ∧ w'.cell? ⟨gb769, 2, none⟩ = some (.int .i64 a2_2) ∧ w'.cell? ⟨gb769, 3, none⟩ = some (.int .i64 a2_3) ∧ w'.cell? ⟨gb769, 4, none⟩ = some (.int .i64 a2_4) ∧ w'.cell? ⟨gb769, 5, none⟩ = some (.int .i64 a2_5) ∧ w'.cell? ⟨gb770, 0, none⟩ = some (.int .i64 a3_0) ∧ w'.cell? ⟨gb770, 1, none⟩ = some (.int .i64 a3_1) ∧ w'.cell? ⟨gb770, 2, none⟩ = some (.int .i64 a3_2) ∧ w'.cell? ⟨gb770, 3, none⟩ = some (.int .i64 a3_3) ∧ w'.cell? ⟨gb770, 4, none⟩ = some (.int .i64 a3_4) ∧ w'.cell? ⟨gb770, 5, none⟩ = some (.int .i64 a3_5)) ∧ (w'.heap[gb767]? = some (.cells #[.int .i64 a0_0, .int .i64 a0_1, .int .i64 a0_2] 23 (0, 0))) ∧ (w'.heap[gb768]? = some (.cells #[.int .i64 a1_0, .int .i64 a1_1, .int .i64 a1_2] 23 (0, 0))) ∧ (w'.heap[gb769]? = some (.cells #[.int .i64 a2_0, .int .i64 a2_1, .int .i64 a2_2, .int .i64 a2_3, .int .i64 a2_4, .int .i64 a2_5] 56 (0, 0))) ∧ (w'.heap[gb770]? = some (.cells #[.int .i64 a3_0, .int .i64 a3_1, .int .i64 a3_2, .int .i64 a3_3, .int .i64 a3_4, .int .i64 a3_5] 56 (0, 0))) ∧ (w'.heap[gb778]? = some (.cells #[.int .i64 t772, .int .i64 t773] 28 (0, 0))) ∧ (w'.heap[gb779]? = some (.cells #[.int .i64 t774, .int .i64 t775] 28 (0, 0))) ∧ (w'.heap[s_.1]? = some (.cells #[.int .i64 0, .int .i64 0] 28 (0, 0))) ∧ (w'.heap[s_.2]? = some (.cells #[.int .i64 0, .int .i64 0] 28 (0, 0))) ∧ (w.heap.size ≤ s_.1) ∧ (gb767 ≠ s_.1) ∧ (s_.1 ≠ gb767) ∧ (gb768 ≠ s_.1) ∧ (s_.1 ≠ gb768) ∧ (gb769 ≠ s_.1) ∧ (s_.1 ≠ gb769) ∧ (gb770 ≠ s_.1) ∧ (s_.1 ≠ gb770) ∧ (gb778 ≠ s_.1) ∧ (s_.1 ≠ gb778) ∧ (gb779 ≠ s_.1) ∧ (s_.1 ≠ gb779) ∧ (s_.2 ≠ s_.1) ∧ (s_.1 ≠ s_.2) ∧ (w.heap.size ≤ s_.2) ∧ (gb767 ≠ s_.2) ∧ (s_.2 ≠ gb767) ∧ (gb768 ≠ s_.2) ∧ (s_.2 ≠ gb768) ∧ (gb769 ≠ s_.2) ∧ (s_.2 ≠ gb769) ∧ (gb770 ≠ s_.2) ∧ (s_.2 ≠ gb770) ∧ (gb778 ≠ s_.2) ∧ (s_.2 ≠ gb778) ∧ (gb779 ≠ s_.2) ∧ (s_.2 ≠ gb779) ∧ (Below w.heap.size w w')) ?_ ?_
    rotate_left
    ·intro hJ4_5_11_12
     refine join_ (σ := Nat) 5 #[true, true, true, true, true, true, true, true, true, true, true, true, false, false, false, false, false] (fun s_ => [(43, .agg #[.int .i64 t780, .int .i64 t781, .int .i64 t782, .int .i64 t783, .int .i64 t784, .int .i64 t785]), (44, .tuple #[.agg #[.int .i64 t786, .int .i64 t787], .agg #[.int .i64 t788, .int .i64 t789], .bool t790, .int .i64 t791]), (13, .pointer (some ⟨s_, 0, none⟩)), (38, .tuple #[.agg #[.int .i64 t786, .int .i64 t787], .agg #[.int .i64 t788, .int .i64 t789], .bool t790, .int .i64 t791]), (45, .agg #[.int .i64 t786, .int .i64 t787]), (46, .agg #[.int .i64 t788, .int .i64 t789]), (47, .bool t790), (48, .int .i64 t791)]) (fun s_ w' => (w'.cell? ⟨gb767, 0, none⟩ = some (.int .i64 a0_0) ∧ w'.cell? ⟨gb767, 1, none⟩ = some (.int .i64 a0_1) ∧ w'.cell? ⟨gb767, 2, none⟩ = some (.int .i64 a0_2) ∧ w'.cell? ⟨gb768, 0, none⟩ = some (.int .i64 a1_0) ∧ w'.cell? ⟨gb768, 1, none⟩ = some (.int .i64 a1_1) ∧ w'.cell? ⟨gb768, 2, none⟩ = some (.int .i64 a1_2) ∧ w'.cell? ⟨gb769, 0, none⟩ = some (.int .i64 a2_0) ∧ w'.cell? ⟨gb769, 1, none⟩ = some (.int .i64 a2_1) ∧ w'.cell? ⟨gb769, 2, none⟩ = some (.int .i64 a2_2) ∧ w'.cell? ⟨gb769, 3, none⟩ = some (.int .i64 a2_3) ∧ w'.cell? ⟨gb769, 4, none⟩ = some (.int .i64 a2_4) ∧ w'.cell? ⟨gb769, 5, none⟩ = some (.int .i64 a2_5) ∧ w'.cell? ⟨gb770, 0, none⟩ = some (.int .i64 a3_0) ∧ w'.cell? ⟨gb770, 1, none⟩ = some (.int .i64 a3_1) ∧ w'.cell? ⟨gb770, 2, none⟩ = some (.int .i64 a3_2) ∧ w'.cell? ⟨gb770, 3, none⟩ = some (.int .i64 a3_3) ∧ w'.cell? ⟨gb770, 4, none⟩ = some (.int .i64 a3_4) ∧ w'.cell? ⟨gb770, 5, none⟩ = some (.int .i64 a3_5)) ∧ (w'.heap[gb767]? = some (.cells #[.int .i64 a0_0, .int .i64 a0_1, .int .i64 a0_2] 23 (0, 0))) ∧ (w'.heap[gb768]? = some (.cells #[.int .i64 a1_0, .int .i64 a1_1, .int .i64 a1_2] 23 (0, 0))) ∧ (w'.heap[gb769]? = some (.cells #[.int .i64 a2_0, .int .i64 a2_1, .int .i64 a2_2, .int .i64 a2_3, .int .i64 a2_4, .int .i64 a2_5] 56 (0, 0))) ∧ (w'.heap[gb770]? = some (.cells #[.int .i64 a3_0, .int .i64 a3_1, .int .i64 a3_2, .int .i64 a3_3, .int .i64 a3_4, .int .i64 a3_5] 56 (0, 0))) ∧ (w'.heap[gb778]? = some (.cells #[.int .i64 t772, .int .i64 t773] 28 (0, 0))) ∧ (w'.heap[gb779]? = some (.cells #[.int .i64 t774, .int .i64 t775] 28 (0, 0))) ∧ (w'.heap[s_]? = some (.cells #[.int .i64 0, .int .i64 0] 28 (0, 0))) ∧ (w.heap.size ≤ s_) ∧ (gb767 ≠ s_) ∧ (s_ ≠ gb767) ∧ (gb768 ≠ s_) ∧ (s_ ≠ gb768) ∧ (gb769 ≠ s_) ∧ (s_ ≠ gb769) ∧ (gb770 ≠ s_) ∧ (s_ ≠ gb770) ∧ (gb778 ≠ s_) ∧ (s_ ≠ gb778) ∧ (gb779 ≠ s_) ∧ (s_ ≠ gb779) ∧ (Below w.heap.size w w')) ?_ ?_
     rotate_left
     ·intro hJ4_5_11
      refine join_ (σ := Nat) 5 #[true, true, true, true, true, true, true, true, true, true, true, false, true, false, false, false, false] (fun s_ => [(43, .agg #[.int .i64 t780, .int .i64 t781, .int .i64 t782, .int .i64 t783, .int .i64 t784, .int .i64 t785]), (44, .tuple #[.agg #[.int .i64 t786, .int .i64 t787], .agg #[.int .i64 t788, .int .i64 t789], .bool t790, .int .i64 t791]), (14, .pointer (some ⟨s_, 0, none⟩)), (38, .tuple #[.agg #[.int .i64 t786, .int .i64 t787], .agg #[.int .i64 t788, .int .i64 t789], .bool t790, .int .i64 t791]), (45, .agg #[.int .i64 t786, .int .i64 t787]), (46, .agg #[.int .i64 t788, .int .i64 t789]), (47, .bool t790), (48, .int .i64 t791)]) (fun s_ w' => (w'.cell? ⟨gb767, 0, none⟩ = some (.int .i64 a0_0) ∧ w'.cell? ⟨gb767, 1, none⟩ = some (.int .i64 a0_1) ∧ w'.cell? ⟨gb767, 2, none⟩ = some (.int .i64 a0_2) ∧ w'.cell? ⟨gb768, 0, none⟩ = some (.int .i64 a1_0) ∧ w'.cell? ⟨gb768, 1, none⟩ = some (.int .i64 a1_1) ∧ w'.cell? ⟨gb768, 2, none⟩ = some (.int .i64 a1_2) ∧ w'.cell? ⟨gb769, 0, none⟩ = some (.int .i64 a2_0) ∧ w'.cell? ⟨gb769, 1, none⟩ = some (.int .i64 a2_1) ∧ w'.cell? ⟨gb769, 2, none⟩ = some (.int .i64 a2_2) ∧ w'.cell? ⟨gb769, 3, none⟩ = some (.int .i64 a2_3) ∧ w'.cell? ⟨gb769, 4, none⟩ = some (.int .i64 a2_4) ∧ w'.cell? ⟨gb769, 5, none⟩ = some (.int .i64 a2_5) ∧ w'.cell? ⟨gb770, 0, none⟩ = some (.int .i64 a3_0) ∧ w'.cell? ⟨gb770, 1, none⟩ = some (.int .i64 a3_1) ∧ w'.cell? ⟨gb770, 2, none⟩ = some (.int .i64 a3_2) ∧ w'.cell? ⟨gb770, 3, none⟩ = some (.int .i64 a3_3) ∧ w'.cell? ⟨gb770, 4, none⟩ = some (.int .i64 a3_4) ∧ w'.cell? ⟨gb770, 5, none⟩ = some (.int .i64 a3_5)) ∧ (w'.heap[gb767]? = some (.cells #[.int .i64 a0_0, .int .i64 a0_1, .int .i64 a0_2] 23 (0, 0))) ∧ (w'.heap[gb768]? = some (.cells #[.int .i64 a1_0, .int .i64 a1_1, .int .i64 a1_2] 23 (0, 0))) ∧ (w'.heap[gb769]? = some (.cells #[.int .i64 a2_0, .int .i64 a2_1, .int .i64 a2_2, .int .i64 a2_3, .int .i64 a2_4, .int .i64 a2_5] 56 (0, 0))) ∧ (w'.heap[gb770]? = some (.cells #[.int .i64 a3_0, .int .i64 a3_1, .int .i64 a3_2, .int .i64 a3_3, .int .i64 a3_4, .int .i64 a3_5] 56 (0, 0))) ∧ (w'.heap[gb778]? = some (.cells #[.int .i64 t772, .int .i64 t773] 28 (0, 0))) ∧ (w'.heap[gb779]? = some (.cells #[.int .i64 t774, .int .i64 t775] 28 (0, 0))) ∧ (w'.heap[s_]? = some (.cells #[.int .i64 0, .int .i64 0] 28 (0, 0))) ∧ (w.heap.size ≤ s_) ∧ (gb767 ≠ s_) ∧ (s_ ≠ gb767) ∧ (gb768 ≠ s_) ∧ (s_ ≠ gb768) ∧ (gb769 ≠ s_) ∧ (s_ ≠ gb769) ∧ (gb770 ≠ s_) ∧ (s_ ≠ gb770) ∧ (gb778 ≠ s_) ∧ (s_ ≠ gb778) ∧ (gb779 ≠ s_) ∧ (s_ ≠ gb779) ∧ (Below w.heap.size w w')) ?_ ?_
      rotate_left
      ·intro hJ4_5_12
       refine join_ (σ := Nat × Nat) 10 #[true, true, true, true, true, false, false, false, false, false, false, true, true, false, false, false, false] (fun s_ => [(43, .agg #[.int .i64 t780, .int .i64 t781, .int .i64 t782, .int .i64 t783, .int .i64 t784, .int .i64 t785]), (13, .pointer (some ⟨s_.1, 0, none⟩)), (14, .pointer (some ⟨s_.2, 0, none⟩))]) (fun s_ w' => (w'.cell? ⟨gb767, 0, none⟩ = some (.int .i64 a0_0) ∧ w'.cell? ⟨gb767, 1, none⟩ = some (.int .i64 a0_1) ∧ w'.cell? ⟨gb767, 2, none⟩ = some (.int .i64 a0_2) ∧ w'.cell? ⟨gb768, 0, none⟩ = some (.int .i64 a1_0) ∧ w'.cell? ⟨gb768, 1, none⟩ = some (.int .i64 a1_1) ∧ w'.cell? ⟨gb768, 2, none⟩ = some (.int .i64 a1_2) ∧ w'.cell? ⟨gb769, 0, none⟩ = some (.int .i64 a2_0) ∧ w'.cell? ⟨gb769, 1, none⟩ = some (.int .i64 a2_1) ∧ w'.cell? ⟨gb769, 2, none⟩ = some (.int .i64 a2_2) ∧ w'.cell? ⟨gb769, 3, none⟩ = some (.int .i64 a2_3) ∧ w'.cell? ⟨gb769, 4, none⟩ = some (.int .i64 a2_4) ∧ w'.cell? ⟨gb769, 5, none⟩ = some (.int .i64 a2_5) ∧ w'.cell? ⟨gb770, 0, none⟩ = some (.int .i64 a3_0) ∧ w'.cell? ⟨gb770, 1, none⟩ = some (.int .i64 a3_1) ∧ w'.cell? ⟨gb770, 2, none⟩ = some (.int .i64 a3_2) ∧ w'.cell? ⟨gb770, 3, none⟩ = some (.int .i64 a3_3) ∧ w'.cell? ⟨gb770, 4, none⟩ = some (.int .i64 a3_4) ∧ w'.cell? ⟨gb770, 5, none⟩ = some (.int .i64 a3_5)) ∧ (w'.heap[gb767]? = some (.cells #[.int .i64 a0_0, .int .i64 a0_1, .int .i64 a0_2] 23 (0, 0))) ∧ (w'.heap[gb768]? = some (.cells #[.int .i64 a1_0, .int .i64 a1_1, .int .i64 a1_2] 23 (0, 0))) ∧ (w'.heap[gb769]? = some (.cells #[.int .i64 a2_0, .int .i64 a2_1, .int .i64 a2_2, .int .i64 a2_3, .int .i64 a2_4, .int .i64 a2_5] 56 (0, 0))) ∧ (w'.heap[gb770]? = some (.cells #[.int .i64 a3_0, .int .i64 a3_1, .int .i64 a3_2, .int .i64 a3_3, .int .i64 a3_4, .int .i64 a3_5] 56 (0, 0))) ∧ (w'.heap[gb778]? = some (.cells #[.int .i64 t772, .int .i64 t773] 28 (0, 0))) ∧ (w'.heap[gb779]? = some (.cells #[.int .i64 t774, .int .i64 t775] 28 (0, 0))) ∧ (w'.heap[s_.1]? = some (.cells #[.int .i64 0, .int .i64 0] 28 (0, 0))) ∧ (w'.heap[s_.2]? = some (.cells #[.int .i64 0, .int .i64 0] 28 (0, 0))) ∧ (w.heap.size ≤ s_.1) ∧ (gb767 ≠ s_.1) ∧ (s_.1 ≠ gb767) ∧ (gb768 ≠ s_.1) ∧ (s_.1 ≠ gb768) ∧ (gb769 ≠ s_.1) ∧ (s_.1 ≠ gb769) ∧ (gb770 ≠ s_.1) ∧ (s_.1 ≠ gb770) ∧ (gb778 ≠ s_.1) ∧ (s_.1 ≠ gb778) ∧ (gb779 ≠ s_.1) ∧ (s_.1 ≠ gb779) ∧ (s_.2 ≠ s_.1) ∧ (s_.1 ≠ s_.2) ∧ (w.heap.size ≤ s_.2) ∧ (gb767 ≠ s_.2) ∧ (s_.2 ≠ gb767) ∧ (gb768 ≠ s_.2) ∧ (s_.2 ≠ gb768) ∧ (gb769 ≠ s_.2) ∧ (s_.2 ≠ gb769) ∧ (gb770 ≠ s_.2) ∧ (s_.2 ≠ gb770) ∧ (gb778 ≠ s_.2) ∧ (s_.2 ≠ gb778) ∧ (gb779 ≠ s_.2) ∧ (s_.2 ≠ gb779) ∧ (Below w.heap.size w w')) ?_ ?_
       rotate_left
       ·intro hJ4_11_12
        refine join_ (σ := Unit) 6 #[true, true, true, true, true, true, true, true, true, true, true, false, false, false, false, false, false] (fun s_ => [(43, .agg #[.int .i64 t780, .int .i64 t781, .int .i64 t782, .int .i64 t783, .int .i64 t784, .int .i64 t785]), (44, .tuple #[.agg #[.int .i64 t786, .int .i64 t787], .agg #[.int .i64 t788, .int .i64 t789], .bool t790, .int .i64 t791]), (38, .tuple #[.agg #[.int .i64 t786, .int .i64 t787], .agg #[.int .i64 t788, .int .i64 t789], .bool t790, .int .i64 t791]), (45, .agg #[.int .i64 t786, .int .i64 t787]), (46, .agg #[.int .i64 t788, .int .i64 t789]), (47, .bool t790), (48, .int .i64 t791)]) (fun s_ w' => (w'.cell? ⟨gb767, 0, none⟩ = some (.int .i64 a0_0) ∧ w'.cell? ⟨gb767, 1, none⟩ = some (.int .i64 a0_1) ∧ w'.cell? ⟨gb767, 2, none⟩ = some (.int .i64 a0_2) ∧ w'.cell? ⟨gb768, 0, none⟩ = some (.int .i64 a1_0) ∧ w'.cell? ⟨gb768, 1, none⟩ = some (.int .i64 a1_1) ∧ w'.cell? ⟨gb768, 2, none⟩ = some (.int .i64 a1_2) ∧ w'.cell? ⟨gb769, 0, none⟩ = some (.int .i64 a2_0) ∧ w'.cell? ⟨gb769, 1, none⟩ = some (.int .i64 a2_1) ∧ w'.cell? ⟨gb769, 2, none⟩ = some (.int .i64 a2_2) ∧ w'.cell? ⟨gb769, 3, none⟩ = some (.int .i64 a2_3) ∧ w'.cell? ⟨gb769, 4, none⟩ = some (.int .i64 a2_4) ∧ w'.cell? ⟨gb769, 5, none⟩ = some (.int .i64 a2_5) ∧ w'.cell? ⟨gb770, 0, none⟩ = some (.int .i64 a3_0) ∧ w'.cell? ⟨gb770, 1, none⟩ = some (.int .i64 a3_1) ∧ w'.cell? ⟨gb770, 2, none⟩ = some (.int .i64 a3_2) ∧ w'.cell? ⟨gb770, 3, none⟩ = some (.int .i64 a3_3) ∧ w'.cell? ⟨gb770, 4, none⟩ = some (.int .i64 a3_4) ∧ w'.cell? ⟨gb770, 5, none⟩ = some (.int .i64 a3_5)) ∧ (w'.heap[gb767]? = some (.cells #[.int .i64 a0_0, .int .i64 a0_1, .int .i64 a0_2] 23 (0, 0))) ∧ (w'.heap[gb768]? = some (.cells #[.int .i64 a1_0, .int .i64 a1_1, .int .i64 a1_2] 23 (0, 0))) ∧ (w'.heap[gb769]? = some (.cells #[.int .i64 a2_0, .int .i64 a2_1, .int .i64 a2_2, .int .i64 a2_3, .int .i64 a2_4, .int .i64 a2_5] 56 (0, 0))) ∧ (w'.heap[gb770]? = some (.cells #[.int .i64 a3_0, .int .i64 a3_1, .int .i64 a3_2, .int .i64 a3_3, .int .i64 a3_4, .int .i64 a3_5] 56 (0, 0))) ∧ (w'.heap[gb778]? = some (.cells #[.int .i64 t772, .int .i64 t773] 28 (0, 0))) ∧ (w'.heap[gb779]? = some (.cells #[.int .i64 t774, .int .i64 t775] 28 (0, 0))) ∧ (Below w.heap.size w w')) ?_ ?_
        rotate_left
        ·intro hJ4_5
         refine join_ (σ := Nat) 11 #[true, true, true, true, true, false, false, false, false, false, false, true, false, false, false, false, false] (fun s_ => [(43, .agg #[.int .i64 t780, .int .i64 t781, .int .i64 t782, .int .i64 t783, .int .i64 t784, .int .i64 t785]), (13, .pointer (some ⟨s_, 0, none⟩))]) (fun s_ w' => (w'.cell? ⟨gb767, 0, none⟩ = some (.int .i64 a0_0) ∧ w'.cell? ⟨gb767, 1, none⟩ = some (.int .i64 a0_1) ∧ w'.cell? ⟨gb767, 2, none⟩ = some (.int .i64 a0_2) ∧ w'.cell? ⟨gb768, 0, none⟩ = some (.int .i64 a1_0) ∧ w'.cell? ⟨gb768, 1, none⟩ = some (.int .i64 a1_1) ∧ w'.cell? ⟨gb768, 2, none⟩ = some (.int .i64 a1_2) ∧ w'.cell? ⟨gb769, 0, none⟩ = some (.int .i64 a2_0) ∧ w'.cell? ⟨gb769, 1, none⟩ = some (.int .i64 a2_1) ∧ w'.cell? ⟨gb769, 2, none⟩ = some (.int .i64 a2_2) ∧ w'.cell? ⟨gb769, 3, none⟩ = some (.int .i64 a2_3) ∧ w'.cell? ⟨gb769, 4, none⟩ = some (.int .i64 a2_4) ∧ w'.cell? ⟨gb769, 5, none⟩ = some (.int .i64 a2_5) ∧ w'.cell? ⟨gb770, 0, none⟩ = some (.int .i64 a3_0) ∧ w'.cell? ⟨gb770, 1, none⟩ = some (.int .i64 a3_1) ∧ w'.cell? ⟨gb770, 2, none⟩ = some (.int .i64 a3_2) ∧ w'.cell? ⟨gb770, 3, none⟩ = some (.int .i64 a3_3) ∧ w'.cell? ⟨gb770, 4, none⟩ = some (.int .i64 a3_4) ∧ w'.cell? ⟨gb770, 5, none⟩ = some (.int .i64 a3_5)) ∧ (w'.heap[gb767]? = some (.cells #[.int .i64 a0_0, .int .i64 a0_1, .int .i64 a0_2] 23 (0, 0))) ∧ (w'.heap[gb768]? = some (.cells #[.int .i64 a1_0, .int .i64 a1_1, .int .i64 a1_2] 23 (0, 0))) ∧ (w'.heap[gb769]? = some (.cells #[.int .i64 a2_0, .int .i64 a2_1, .int .i64 a2_2, .int .i64 a2_3, .int .i64 a2_4, .int .i64 a2_5] 56 (0, 0))) ∧ (w'.heap[gb770]? = some (.cells #[.int .i64 a3_0, .int .i64 a3_1, .int .i64 a3_2, .int .i64 a3_3, .int .i64 a3_4, .int .i64 a3_5] 56 (0, 0))) ∧ (w'.heap[gb778]? = some (.cells #[.int .i64 t772, .int .i64 t773] 28 (0, 0))) ∧ (w'.heap[gb779]? = some (.cells #[.int .i64 t774, .int .i64 t775] 28 (0, 0))) ∧ (w'.heap[s_]? = some (.cells #[.int .i64 0, .int .i64 0] 28 (0, 0))) ∧ (w.heap.size ≤ s_) ∧ (gb767 ≠ s_) ∧ (s_ ≠ gb767) ∧ (gb768 ≠ s_) ∧ (s_ ≠ gb768) ∧ (gb769 ≠ s_) ∧ (s_ ≠ gb769) ∧ (gb770 ≠ s_) ∧ (s_ ≠ gb770) ∧ (gb778 ≠ s_) ∧ (s_ ≠ gb778) ∧ (gb779 ≠ s_) ∧ (s_ ≠ gb779) ∧ (Below w.heap.size w w')) ?_ ?_
         rotate_left
         ·intro hJ4_11
          refine join_ (σ := Nat) 11 #[true, true, true, true, true, false, false, false, false, false, false, false, true, false, false, false, false] (fun s_ => [(43, .agg #[.int .i64 t780, .int .i64 t781, .int .i64 t782, .int .i64 t783, .int .i64 t784, .int .i64 t785]), (14, .pointer (some ⟨s_, 0, none⟩))]) (fun s_ w' => (w'.cell? ⟨gb767, 0, none⟩ = some (.int .i64 a0_0) ∧ w'.cell? ⟨gb767, 1, none⟩ = some (.int .i64 a0_1) ∧ w'.cell? ⟨gb767, 2, none⟩ = some (.int .i64 a0_2) ∧ w'.cell? ⟨gb768, 0, none⟩ = some (.int .i64 a1_0) ∧ w'.cell? ⟨gb768, 1, none⟩ = some (.int .i64 a1_1) ∧ w'.cell? ⟨gb768, 2, none⟩ = some (.int .i64 a1_2) ∧ w'.cell? ⟨gb769, 0, none⟩ = some (.int .i64 a2_0) ∧ w'.cell? ⟨gb769, 1, none⟩ = some (.int .i64 a2_1) ∧ w'.cell? ⟨gb769, 2, none⟩ = some (.int .i64 a2_2) ∧ w'.cell? ⟨gb769, 3, none⟩ = some (.int .i64 a2_3) ∧ w'.cell? ⟨gb769, 4, none⟩ = some (.int .i64 a2_4) ∧ w'.cell? ⟨gb769, 5, none⟩ = some (.int .i64 a2_5) ∧ w'.cell? ⟨gb770, 0, none⟩ = some (.int .i64 a3_0) ∧ w'.cell? ⟨gb770, 1, none⟩ = some (.int .i64 a3_1) ∧ w'.cell? ⟨gb770, 2, none⟩ = some (.int .i64 a3_2) ∧ w'.cell? ⟨gb770, 3, none⟩ = some (.int .i64 a3_3) ∧ w'.cell? ⟨gb770, 4, none⟩ = some (.int .i64 a3_4) ∧ w'.cell? ⟨gb770, 5, none⟩ = some (.int .i64 a3_5)) ∧ (w'.heap[gb767]? = some (.cells #[.int .i64 a0_0, .int .i64 a0_1, .int .i64 a0_2] 23 (0, 0))) ∧ (w'.heap[gb768]? = some (.cells #[.int .i64 a1_0, .int .i64 a1_1, .int .i64 a1_2] 23 (0, 0))) ∧ (w'.heap[gb769]? = some (.cells #[.int .i64 a2_0, .int .i64 a2_1, .int .i64 a2_2, .int .i64 a2_3, .int .i64 a2_4, .int .i64 a2_5] 56 (0, 0))) ∧ (w'.heap[gb770]? = some (.cells #[.int .i64 a3_0, .int .i64 a3_1, .int .i64 a3_2, .int .i64 a3_3, .int .i64 a3_4, .int .i64 a3_5] 56 (0, 0))) ∧ (w'.heap[gb778]? = some (.cells #[.int .i64 t772, .int .i64 t773] 28 (0, 0))) ∧ (w'.heap[gb779]? = some (.cells #[.int .i64 t774, .int .i64 t775] 28 (0, 0))) ∧ (w'.heap[s_]? = some (.cells #[.int .i64 0, .int .i64 0] 28 (0, 0))) ∧ (w.heap.size ≤ s_) ∧ (gb767 ≠ s_) ∧ (s_ ≠ gb767) ∧ (gb768 ≠ s_) ∧ (s_ ≠ gb768) ∧ (gb769 ≠ s_) ∧ (s_ ≠ gb769) ∧ (gb770 ≠ s_) ∧ (s_ ≠ gb770) ∧ (gb778 ≠ s_) ∧ (s_ ≠ gb778) ∧ (gb779 ≠ s_) ∧ (s_ ≠ gb779) ∧ (Below w.heap.size w w')) ?_ ?_
          rotate_left
          ·intro hJ4_12
           refine join_ (σ := Nat × Nat) 11 #[true, true, true, true, false, false, false, false, false, false, false, true, true, false, false, false, false] (fun s_ => [(13, .pointer (some ⟨s_.1, 0, none⟩)), (14, .pointer (some ⟨s_.2, 0, none⟩))]) (fun s_ w' => (w'.cell? ⟨gb767, 0, none⟩ = some (.int .i64 a0_0) ∧ w'.cell? ⟨gb767, 1, none⟩ = some (.int .i64 a0_1) ∧ w'.cell? ⟨gb767, 2, none⟩ = some (.int .i64 a0_2) ∧ w'.cell? ⟨gb768, 0, none⟩ = some (.int .i64 a1_0) ∧ w'.cell? ⟨gb768, 1, none⟩ = some (.int .i64 a1_1) ∧ w'.cell? ⟨gb768, 2, none⟩ = some (.int .i64 a1_2) ∧ w'.cell? ⟨gb769, 0, none⟩ = some (.int .i64 a2_0) ∧ w'.cell? ⟨gb769, 1, none⟩ = some (.int .i64 a2_1) ∧ w'.cell? ⟨gb769, 2, none⟩ = some (.int .i64 a2_2) ∧ w'.cell? ⟨gb769, 3, none⟩ = some (.int .i64 a2_3) ∧ w'.cell? ⟨gb769, 4, none⟩ = some (.int .i64 a2_4) ∧ w'.cell? ⟨gb769, 5, none⟩ = some (.int .i64 a2_5) ∧ w'.cell? ⟨gb770, 0, none⟩ = some (.int .i64 a3_0) ∧ w'.cell? ⟨gb770, 1, none⟩ = some (.int .i64 a3_1) ∧ w'.cell? ⟨gb770, 2, none⟩ = some (.int .i64 a3_2) ∧ w'.cell? ⟨gb770, 3, none⟩ = some (.int .i64 a3_3) ∧ w'.cell? ⟨gb770, 4, none⟩ = some (.int .i64 a3_4) ∧ w'.cell? ⟨gb770, 5, none⟩ = some (.int .i64 a3_5)) ∧ (w'.heap[gb767]? = some (.cells #[.int .i64 a0_0, .int .i64 a0_1, .int .i64 a0_2] 23 (0, 0))) ∧ (w'.heap[gb768]? = some (.cells #[.int .i64 a1_0, .int .i64 a1_1, .int .i64 a1_2] 23 (0, 0))) ∧ (w'.heap[gb769]? = some (.cells #[.int .i64 a2_0, .int .i64 a2_1, .int .i64 a2_2, .int .i64 a2_3, .int .i64 a2_4, .int .i64 a2_5] 56 (0, 0))) ∧ (w'.heap[gb770]? = some (.cells #[.int .i64 a3_0, .int .i64 a3_1, .int .i64 a3_2, .int .i64 a3_3, .int .i64 a3_4, .int .i64 a3_5] 56 (0, 0))) ∧ (w'.heap[gb778]? = some (.cells #[.int .i64 t772, .int .i64 t773] 28 (0, 0))) ∧ (w'.heap[gb779]? = some (.cells #[.int .i64 t774, .int .i64 t775] 28 (0, 0))) ∧ (w'.heap[s_.1]? = some (.cells #[.int .i64 0, .int .i64 0] 28 (0, 0))) ∧ (w'.heap[s_.2]? = some (.cells #[.int .i64 0, .int .i64 0] 28 (0, 0))) ∧ (w.heap.size ≤ s_.1) ∧ (gb767 ≠ s_.1) ∧ (s_.1 ≠ gb767) ∧ (gb768 ≠ s_.1) ∧ (s_.1 ≠ gb768) ∧ (gb769 ≠ s_.1) ∧ (s_.1 ≠ gb769) ∧ (gb770 ≠ s_.1) ∧ (s_.1 ≠ gb770) ∧ (gb778 ≠ s_.1) ∧ (s_.1 ≠ gb778) ∧ (gb779 ≠ s_.1) ∧ (s_.1 ≠ gb779) ∧ (s_.2 ≠ s_.1) ∧ (s_.1 ≠ s_.2) ∧ (w.heap.size ≤ s_.2) ∧ (gb767 ≠ s_.2) ∧ (s_.2 ≠ gb767) ∧ (gb768 ≠ s_.2) ∧ (s_.2 ≠ gb768) ∧ (gb769 ≠ s_.2) ∧ (s_.2 ≠ gb769) ∧ (gb770 ≠ s_.2) ∧ (s_.2 ≠ gb770) ∧ (gb778 ≠ s_.2) ∧ (s_.2 ≠ gb778) ∧ (gb779 ≠ s_.2) ∧ (s_.2 ≠ gb779) ∧ (Below w.heap.size w w')) ?_ ?_
           rotate_left
           ·intro hJ11_12
            refine join_ (σ := Unit) 12 #[true, true, true, true, true, false, false, false, false, false, false, false, false, false, false, false, false] (fun s_ => [(43, .agg #[.int .i64 t780, .int .i64 t781, .int .i64 t782, .int .i64 t783, .int .i64 t784, .int .i64 t785])]) (fun s_ w' => (w'.cell? ⟨gb767, 0, none⟩ = some (.int .i64 a0_0) ∧ w'.cell? ⟨gb767, 1, none⟩ = some (.int .i64 a0_1) ∧ w'.cell? ⟨gb767, 2, none⟩ = some (.int .i64 a0_2) ∧ w'.cell? ⟨gb768, 0, none⟩ = some (.int .i64 a1_0) ∧ w'.cell? ⟨gb768, 1, none⟩ = some (.int .i64 a1_1) ∧ w'.cell? ⟨gb768, 2, none⟩ = some (.int .i64 a1_2) ∧ w'.cell? ⟨gb769, 0, none⟩ = some (.int .i64 a2_0) ∧ w'.cell? ⟨gb769, 1, none⟩ = some (.int .i64 a2_1) ∧ w'.cell? ⟨gb769, 2, none⟩ = some (.int .i64 a2_2) ∧ w'.cell? ⟨gb769, 3, none⟩ = some (.int .i64 a2_3) ∧ w'.cell? ⟨gb769, 4, none⟩ = some (.int .i64 a2_4) ∧ w'.cell? ⟨gb769, 5, none⟩ = some (.int .i64 a2_5) ∧ w'.cell? ⟨gb770, 0, none⟩ = some (.int .i64 a3_0) ∧ w'.cell? ⟨gb770, 1, none⟩ = some (.int .i64 a3_1) ∧ w'.cell? ⟨gb770, 2, none⟩ = some (.int .i64 a3_2) ∧ w'.cell? ⟨gb770, 3, none⟩ = some (.int .i64 a3_3) ∧ w'.cell? ⟨gb770, 4, none⟩ = some (.int .i64 a3_4) ∧ w'.cell? ⟨gb770, 5, none⟩ = some (.int .i64 a3_5)) ∧ (w'.heap[gb767]? = some (.cells #[.int .i64 a0_0, .int .i64 a0_1, .int .i64 a0_2] 23 (0, 0))) ∧ (w'.heap[gb768]? = some (.cells #[.int .i64 a1_0, .int .i64 a1_1, .int .i64 a1_2] 23 (0, 0))) ∧ (w'.heap[gb769]? = some (.cells #[.int .i64 a2_0, .int .i64 a2_1, .int .i64 a2_2, .int .i64 a2_3, .int .i64 a2_4, .int .i64 a2_5] 56 (0, 0))) ∧ (w'.heap[gb770]? = some (.cells #[.int .i64 a3_0, .int .i64 a3_1, .int .i64 a3_2, .int .i64 a3_3, .int .i64 a3_4, .int .i64 a3_5] 56 (0, 0))) ∧ (w'.heap[gb778]? = some (.cells #[.int .i64 t772, .int .i64 t773] 28 (0, 0))) ∧ (w'.heap[gb779]? = some (.cells #[.int .i64 t774, .int .i64 t775] 28 (0, 0))) ∧ (Below w.heap.size w w')) ?_ ?_
            rotate_left
            ·intro hJ4
             refine join_ (σ := Nat) 12 #[true, true, true, true, false, false, false, false, false, false, false, true, false, false, false, false, false] (fun s_ => [(13, .pointer (some ⟨s_, 0, none⟩))]) (fun s_ w' => (w'.cell? ⟨gb767, 0, none⟩ = some (.int .i64 a0_0) ∧ w'.cell? ⟨gb767, 1, none⟩ = some (.int .i64 a0_1) ∧ w'.cell? ⟨gb767, 2, none⟩ = some (.int .i64 a0_2) ∧ w'.cell? ⟨gb768, 0, none⟩ = some (.int .i64 a1_0) ∧ w'.cell? ⟨gb768, 1, none⟩ = some (.int .i64 a1_1) ∧ w'.cell? ⟨gb768, 2, none⟩ = some (.int .i64 a1_2) ∧ w'.cell? ⟨gb769, 0, none⟩ = some (.int .i64 a2_0) ∧ w'.cell? ⟨gb769, 1, none⟩ = some (.int .i64 a2_1) ∧ w'.cell? ⟨gb769, 2, none⟩ = some (.int .i64 a2_2) ∧ w'.cell? ⟨gb769, 3, none⟩ = some (.int .i64 a2_3) ∧ w'.cell? ⟨gb769, 4, none⟩ = some (.int .i64 a2_4) ∧ w'.cell? ⟨gb769, 5, none⟩ = some (.int .i64 a2_5) ∧ w'.cell? ⟨gb770, 0, none⟩ = some (.int .i64 a3_0) ∧ w'.cell? ⟨gb770, 1, none⟩ = some (.int .i64 a3_1) ∧ w'.cell? ⟨gb770, 2, none⟩ = some (.int .i64 a3_2) ∧ w'.cell? ⟨gb770, 3, none⟩ = some (.int .i64 a3_3) ∧ w'.cell? ⟨gb770, 4, none⟩ = some (.int .i64 a3_4) ∧ w'.cell? ⟨gb770, 5, none⟩ = some (.int .i64 a3_5)) ∧ (w'.heap[gb767]? = some (.cells #[.int .i64 a0_0, .int .i64 a0_1, .int .i64 a0_2] 23 (0, 0))) ∧ (w'.heap[gb768]? = some (.cells #[.int .i64 a1_0, .int .i64 a1_1, .int .i64 a1_2] 23 (0, 0))) ∧ (w'.heap[gb769]? = some (.cells #[.int .i64 a2_0, .int .i64 a2_1, .int .i64 a2_2, .int .i64 a2_3, .int .i64 a2_4, .int .i64 a2_5] 56 (0, 0))) ∧ (w'.heap[gb770]? = some (.cells #[.int .i64 a3_0, .int .i64 a3_1, .int .i64 a3_2, .int .i64 a3_3, .int .i64 a3_4, .int .i64 a3_5] 56 (0, 0))) ∧ (w'.heap[gb778]? = some (.cells #[.int .i64 t772, .int .i64 t773] 28 (0, 0))) ∧ (w'.heap[gb779]? = some (.cells #[.int .i64 t774, .int .i64 t775] 28 (0, 0))) ∧ (w'.heap[s_]? = some (.cells #[.int .i64 0, .int .i64 0] 28 (0, 0))) ∧ (w.heap.size ≤ s_) ∧ (gb767 ≠ s_) ∧ (s_ ≠ gb767) ∧ (gb768 ≠ s_) ∧ (s_ ≠ gb768) ∧ (gb769 ≠ s_) ∧ (s_ ≠ gb769) ∧ (gb770 ≠ s_) ∧ (s_ ≠ gb770) ∧ (gb778 ≠ s_) ∧ (s_ ≠ gb778) ∧ (gb779 ≠ s_) ∧ (s_ ≠ gb779) ∧ (Below w.heap.size w w')) ?_ ?_
             rotate_left
             ·intro hJ11
              refine join_ (σ := Nat) 12 #[true, true, true, true, false, false, false, false, false, false, false, false, true, false, false, false, false] (fun s_ => [(14, .pointer (some ⟨s_, 0, none⟩))]) (fun s_ w' => (w'.cell? ⟨gb767, 0, none⟩ = some (.int .i64 a0_0) ∧ w'.cell? ⟨gb767, 1, none⟩ = some (.int .i64 a0_1) ∧ w'.cell? ⟨gb767, 2, none⟩ = some (.int .i64 a0_2) ∧ w'.cell? ⟨gb768, 0, none⟩ = some (.int .i64 a1_0) ∧ w'.cell? ⟨gb768, 1, none⟩ = some (.int .i64 a1_1) ∧ w'.cell? ⟨gb768, 2, none⟩ = some (.int .i64 a1_2) ∧ w'.cell? ⟨gb769, 0, none⟩ = some (.int .i64 a2_0) ∧ w'.cell? ⟨gb769, 1, none⟩ = some (.int .i64 a2_1) ∧ w'.cell? ⟨gb769, 2, none⟩ = some (.int .i64 a2_2) ∧ w'.cell? ⟨gb769, 3, none⟩ = some (.int .i64 a2_3) ∧ w'.cell? ⟨gb769, 4, none⟩ = some (.int .i64 a2_4) ∧ w'.cell? ⟨gb769, 5, none⟩ = some (.int .i64 a2_5) ∧ w'.cell? ⟨gb770, 0, none⟩ = some (.int .i64 a3_0) ∧ w'.cell? ⟨gb770, 1, none⟩ = some (.int .i64 a3_1) ∧ w'.cell? ⟨gb770, 2, none⟩ = some (.int .i64 a3_2) ∧ w'.cell? ⟨gb770, 3, none⟩ = some (.int .i64 a3_3) ∧ w'.cell? ⟨gb770, 4, none⟩ = some (.int .i64 a3_4) ∧ w'.cell? ⟨gb770, 5, none⟩ = some (.int .i64 a3_5)) ∧ (w'.heap[gb767]? = some (.cells #[.int .i64 a0_0, .int .i64 a0_1, .int .i64 a0_2] 23 (0, 0))) ∧ (w'.heap[gb768]? = some (.cells #[.int .i64 a1_0, .int .i64 a1_1, .int .i64 a1_2] 23 (0, 0))) ∧ (w'.heap[gb769]? = some (.cells #[.int .i64 a2_0, .int .i64 a2_1, .int .i64 a2_2, .int .i64 a2_3, .int .i64 a2_4, .int .i64 a2_5] 56 (0, 0))) ∧ (w'.heap[gb770]? = some (.cells #[.int .i64 a3_0, .int .i64 a3_1, .int .i64 a3_2, .int .i64 a3_3, .int .i64 a3_4, .int .i64 a3_5] 56 (0, 0))) ∧ (w'.heap[gb778]? = some (.cells #[.int .i64 t772, .int .i64 t773] 28 (0, 0))) ∧ (w'.heap[gb779]? = some (.cells #[.int .i64 t774, .int .i64 t775] 28 (0, 0))) ∧ (w'.heap[s_]? = some (.cells #[.int .i64 0, .int .i64 0] 28 (0, 0))) ∧ (w.heap.size ≤ s_) ∧ (gb767 ≠ s_) ∧ (s_ ≠ gb767) ∧ (gb768 ≠ s_) ∧ (s_ ≠ gb768) ∧ (gb769 ≠ s_) ∧ (s_ ≠ gb769) ∧ (gb770 ≠ s_) ∧ (s_ ≠ gb770) ∧ (gb778 ≠ s_) ∧ (s_ ≠ gb778) ∧ (gb779 ≠ s_) ∧ (s_ ≠ gb779) ∧ (Below w.heap.size w w')) ?_ ?_
              rotate_left
              ·intro hJ12
               refine three_ (i := 4) (j := 11) (k := 12) (Ni := some 43) (Nj := some 13) (Nk := some 14) #[true, true, true, true, true, false, false, false, false, false, false, false, false, false, false, false, false] #[true, true, true, true, false, false, false, false, false, false, false, true, false, false, false, false, false] #[true, true, true, true, false, false, false, false, false, false, false, false, true, false, false, false, false] rfl rfl rfl rfl rfl rfl (three_of HT_.out (by kernel_rfl)) (by decide) (by decide) (by decide) (fun K hK => ?_) (fun K hK => ?_) (fun K hK => ?_)
               ·skip
                refine goes_ Try.func37 (by kernel_rfl) rfl #[.agg #[.int .i64 a2_0, .int .i64 a2_1, .int .i64 a2_2, .int .i64 a2_3, .int .i64 a2_4, .int .i64 a2_5], .agg #[.int .i64 a3_0, .int .i64 a3_1, .int .i64 a3_2, .int .i64 a3_3, .int .i64 a3_4, .int .i64 a3_5]] (by rfl) rfl rfl (by (try simp only [List.map_toArray, List.map_cons, List.map_nil]); first | done | rfl | (simp only [List.length_drop, List.length_take]; rfl)) ?_
                with_reducible refine (vec_Join.calls a2_0 a2_1 a2_2 a2_3 a2_4 a2_5 a3_0 a3_1 a3_2 a3_3 a3_4 a3_5 t780 t781 t782 t783 t784 t785 _ A34.out).mono ?_
                rintro e w38 ⟨rfl, hb⟩
                refine ⟨_, rfl, ?_⟩
                replace BK767 := cB hb BK767
                replace BK768 := cB hb BK768
                replace BK769 := cB hb BK769
                replace BK770 := cB hb BK770
                replace BK778 := cB hb BK778
                replace BK779 := cB hb BK779
                replace HB := Aside0.mk (below_step (HB.out) hb)
                (try clear hb)
                (try clear hb2)
                (try clear hk)
                (try clear hi)
                refine hK.out _ _ ⟨(blk_cell BK767.out 0).trans rfl, (blk_cell BK767.out 1).trans rfl, (blk_cell BK767.out 2).trans rfl, (blk_cell BK768.out 0).trans rfl, (blk_cell BK768.out 1).trans rfl, (blk_cell BK768.out 2).trans rfl, (blk_cell BK769.out 0).trans rfl, (blk_cell BK769.out 1).trans rfl, (blk_cell BK769.out 2).trans rfl, (blk_cell BK769.out 3).trans rfl, (blk_cell BK769.out 4).trans rfl, (blk_cell BK769.out 5).trans rfl, (blk_cell BK770.out 0).trans rfl, (blk_cell BK770.out 1).trans rfl, (blk_cell BK770.out 2).trans rfl, (blk_cell BK770.out 3).trans rfl, (blk_cell BK770.out 4).trans rfl, (blk_cell BK770.out 5).trans rfl⟩ (fun hHeld => ?_)
                clear hK K
                refine norm_ (a' := ?_) ?_ ?_
                rotate_left
                ·show Act.put _ (some 43) _ = _
                 simp only [Act.put, List.setIfInBounds_toArray, List.set_cons_zero, List.set_cons_succ, i64_w, i32_w]
                 rfl
                exact norm_ (by simp only [putAll, Act.put, List.setIfInBounds_toArray, List.set_cons_zero, List.set_cons_succ] <;> rfl) (hJ4 () _ ⟨hHeld, (BK767.out), (BK768.out), (BK769.out), (BK770.out), (BK778.out), (BK779.out), (HB.out)⟩)
               ·skip
                refine box_step ?hg (N := 13) ?hd (cs := #[.int .i64 0, .int .i64 0]) (t := 28) ?hr ?_; (case hd => rfl); (case hg => rfl); (case hr => first | (go_simp; done) | (go_simp; rfl))
                intro gb792 hg w38 hbox hb
                have BK792 := Aside0.mk (hbox)
                have GE792 := Aside0.mk (bG hg (HB.out))
                have NB767_792 := cN hg BK767
                have NB792_767 := cM hg BK767
                have NB768_792 := cN hg BK768
                have NB792_768 := cM hg BK768
                have NB769_792 := cN hg BK769
                have NB792_769 := cM hg BK769
                have NB770_792 := cN hg BK770
                have NB792_770 := cM hg BK770
                have NB778_792 := cN hg BK778
                have NB792_778 := cM hg BK778
                have NB779_792 := cN hg BK779
                have NB792_779 := cM hg BK779
                replace BK767 := cB hb BK767
                replace BK768 := cB hb BK768
                replace BK769 := cB hb BK769
                replace BK770 := cB hb BK770
                replace BK778 := cB hb BK778
                replace BK779 := cB hb BK779
                replace HB := Aside0.mk (below_step (HB.out) hb)
                clear hb hbox hg
                refine hK.out _ _ ⟨(blk_cell BK767.out 0).trans rfl, (blk_cell BK767.out 1).trans rfl, (blk_cell BK767.out 2).trans rfl, (blk_cell BK768.out 0).trans rfl, (blk_cell BK768.out 1).trans rfl, (blk_cell BK768.out 2).trans rfl, (blk_cell BK769.out 0).trans rfl, (blk_cell BK769.out 1).trans rfl, (blk_cell BK769.out 2).trans rfl, (blk_cell BK769.out 3).trans rfl, (blk_cell BK769.out 4).trans rfl, (blk_cell BK769.out 5).trans rfl, (blk_cell BK770.out 0).trans rfl, (blk_cell BK770.out 1).trans rfl, (blk_cell BK770.out 2).trans rfl, (blk_cell BK770.out 3).trans rfl, (blk_cell BK770.out 4).trans rfl, (blk_cell BK770.out 5).trans rfl⟩ (fun hHeld => ?_)
                clear hK K
                refine norm_ (a' := ?_) ?_ ?_
                rotate_left
                ·show Act.put _ (some 13) _ = _
                 simp only [Act.put, List.setIfInBounds_toArray, List.set_cons_zero, List.set_cons_succ, i64_w, i32_w]
                 rfl
                exact norm_ (by simp only [putAll, Act.put, List.setIfInBounds_toArray, List.set_cons_zero, List.set_cons_succ] <;> rfl) (hJ11 (gb792) _ ⟨hHeld, (BK767.out), (BK768.out), (BK769.out), (BK770.out), (BK778.out), (BK779.out), (BK792.out), GE792.out, NB767_792.out, NB792_767.out, NB768_792.out, NB792_768.out, NB769_792.out, NB792_769.out, NB770_792.out, NB792_770.out, NB778_792.out, NB792_778.out, NB779_792.out, NB792_779.out, (HB.out)⟩)
               skip
               refine box_step ?hg (N := 14) ?hd (cs := #[.int .i64 0, .int .i64 0]) (t := 28) ?hr ?_; (case hd => rfl); (case hg => rfl); (case hr => first | (go_simp; done) | (go_simp; rfl))
               intro gb793 hg w38 hbox hb
               have BK793 := Aside0.mk (hbox)
               have GE793 := Aside0.mk (bG hg (HB.out))
               have NB767_793 := cN hg BK767
               have NB793_767 := cM hg BK767
               have NB768_793 := cN hg BK768
               have NB793_768 := cM hg BK768
               have NB769_793 := cN hg BK769
               have NB793_769 := cM hg BK769
               have NB770_793 := cN hg BK770
               have NB793_770 := cM hg BK770
               have NB778_793 := cN hg BK778
               have NB793_778 := cM hg BK778
               have NB779_793 := cN hg BK779
               have NB793_779 := cM hg BK779
               replace BK767 := cB hb BK767
               replace BK768 := cB hb BK768
               replace BK769 := cB hb BK769
               replace BK770 := cB hb BK770
               replace BK778 := cB hb BK778
               replace BK779 := cB hb BK779
               replace HB := Aside0.mk (below_step (HB.out) hb)
               clear hb hbox hg
               refine hK.out _ _ ⟨(blk_cell BK767.out 0).trans rfl, (blk_cell BK767.out 1).trans rfl, (blk_cell BK767.out 2).trans rfl, (blk_cell BK768.out 0).trans rfl, (blk_cell BK768.out 1).trans rfl, (blk_cell BK768.out 2).trans rfl, (blk_cell BK769.out 0).trans rfl, (blk_cell BK769.out 1).trans rfl, (blk_cell BK769.out 2).trans rfl, (blk_cell BK769.out 3).trans rfl, (blk_cell BK769.out 4).trans rfl, (blk_cell BK769.out 5).trans rfl, (blk_cell BK770.out 0).trans rfl, (blk_cell BK770.out 1).trans rfl, (blk_cell BK770.out 2).trans rfl, (blk_cell BK770.out 3).trans rfl, (blk_cell BK770.out 4).trans rfl, (blk_cell BK770.out 5).trans rfl⟩ (fun hHeld => ?_)
               clear hK K
               refine norm_ (a' := ?_) ?_ ?_
               rotate_left
               ·show Act.put _ (some 14) _ = _
                simp only [Act.put, List.setIfInBounds_toArray, List.set_cons_zero, List.set_cons_succ, i64_w, i32_w]
                rfl
               exact norm_ (by simp only [putAll, Act.put, List.setIfInBounds_toArray, List.set_cons_zero, List.set_cons_succ] <;> rfl) (hJ12 (gb793) _ ⟨hHeld, (BK767.out), (BK768.out), (BK769.out), (BK770.out), (BK778.out), (BK779.out), (BK793.out), GE793.out, NB767_793.out, NB793_767.out, NB768_793.out, NB793_768.out, NB769_793.out, NB793_769.out, NB770_793.out, NB793_770.out, NB778_793.out, NB793_778.out, NB779_793.out, NB793_779.out, (HB.out)⟩)
              skip
              rintro gb793 w39 ⟨hS_, h0_, h1_, h2_, h3_, h4_, h5_, h6_, h7_, h8_, h9_, h10_, h11_, h12_, h13_, h14_, h15_, h16_, h17_, h18_, h19_, h20_⟩
              have n0_ : Aside0 (w39.heap[gb767]? = some (.cells #[.int .i64 a0_0, .int .i64 a0_1, .int .i64 a0_2] 23 (0, 0))) := ⟨h0_⟩
              have n1_ : Aside0 (w39.heap[gb768]? = some (.cells #[.int .i64 a1_0, .int .i64 a1_1, .int .i64 a1_2] 23 (0, 0))) := ⟨h1_⟩
              have n2_ : Aside0 (w39.heap[gb769]? = some (.cells #[.int .i64 a2_0, .int .i64 a2_1, .int .i64 a2_2, .int .i64 a2_3, .int .i64 a2_4, .int .i64 a2_5] 56 (0, 0))) := ⟨h2_⟩
              have n3_ : Aside0 (w39.heap[gb770]? = some (.cells #[.int .i64 a3_0, .int .i64 a3_1, .int .i64 a3_2, .int .i64 a3_3, .int .i64 a3_4, .int .i64 a3_5] 56 (0, 0))) := ⟨h3_⟩
              have n4_ : Aside0 (w39.heap[gb778]? = some (.cells #[.int .i64 t772, .int .i64 t773] 28 (0, 0))) := ⟨h4_⟩
              have n5_ : Aside0 (w39.heap[gb779]? = some (.cells #[.int .i64 t774, .int .i64 t775] 28 (0, 0))) := ⟨h5_⟩
              have n6_ : Aside0 (w39.heap[gb793]? = some (.cells #[.int .i64 0, .int .i64 0] 28 (0, 0))) := ⟨h6_⟩
              have GE793 : Aside0 (w.heap.size ≤ gb793) := ⟨h7_⟩
              have NB767_793 : Aside0 (gb767 ≠ gb793) := ⟨h8_⟩
              have NB793_767 : Aside0 (gb793 ≠ gb767) := ⟨h9_⟩
              have NB768_793 : Aside0 (gb768 ≠ gb793) := ⟨h10_⟩
              have NB793_768 : Aside0 (gb793 ≠ gb768) := ⟨h11_⟩
              have NB769_793 : Aside0 (gb769 ≠ gb793) := ⟨h12_⟩
              have NB793_769 : Aside0 (gb793 ≠ gb769) := ⟨h13_⟩
              have NB770_793 : Aside0 (gb770 ≠ gb793) := ⟨h14_⟩
              have NB793_770 : Aside0 (gb793 ≠ gb770) := ⟨h15_⟩
              have NB778_793 : Aside0 (gb778 ≠ gb793) := ⟨h16_⟩
              have NB793_778 : Aside0 (gb793 ≠ gb778) := ⟨h17_⟩
              have NB779_793 : Aside0 (gb779 ≠ gb793) := ⟨h18_⟩
              have NB793_779 : Aside0 (gb793 ≠ gb779) := ⟨h19_⟩
              have n20_ : Aside0 (Below w.heap.size w w39) := ⟨h20_⟩
              clear BK767
              clear BK768
              clear BK769
              clear BK770
              clear BK778
              clear BK779
              clear HB
              clear h0_ h1_ h2_ h3_ h4_ h5_ h6_ h7_ h8_ h9_ h10_ h11_ h12_ h13_ h14_ h15_ h16_ h17_ h18_ h19_ h20_
              have BK767 := n0_
              have BK768 := n1_
              have BK769 := n2_
              have BK770 := n3_
              have BK778 := n4_
              have BK779 := n5_
              have BK793 := n6_
              have HB := n20_
              clear n0_ n1_ n2_ n3_ n4_ n5_ n6_ n20_
              have hHeld : w39.cell? ⟨gb767, 0, none⟩ = some (.int .i64 a0_0) ∧ w39.cell? ⟨gb767, 1, none⟩ = some (.int .i64 a0_1) ∧ w39.cell? ⟨gb767, 2, none⟩ = some (.int .i64 a0_2) ∧ w39.cell? ⟨gb768, 0, none⟩ = some (.int .i64 a1_0) ∧ w39.cell? ⟨gb768, 1, none⟩ = some (.int .i64 a1_1) ∧ w39.cell? ⟨gb768, 2, none⟩ = some (.int .i64 a1_2) ∧ w39.cell? ⟨gb769, 0, none⟩ = some (.int .i64 a2_0) ∧ w39.cell? ⟨gb769, 1, none⟩ = some (.int .i64 a2_1) ∧ w39.cell? ⟨gb769, 2, none⟩ = some (.int .i64 a2_2) ∧ w39.cell? ⟨gb769, 3, none⟩ = some (.int .i64 a2_3) ∧ w39.cell? ⟨gb769, 4, none⟩ = some (.int .i64 a2_4) ∧ w39.cell? ⟨gb769, 5, none⟩ = some (.int .i64 a2_5) ∧ w39.cell? ⟨gb770, 0, none⟩ = some (.int .i64 a3_0) ∧ w39.cell? ⟨gb770, 1, none⟩ = some (.int .i64 a3_1) ∧ w39.cell? ⟨gb770, 2, none⟩ = some (.int .i64 a3_2) ∧ w39.cell? ⟨gb770, 3, none⟩ = some (.int .i64 a3_3) ∧ w39.cell? ⟨gb770, 4, none⟩ = some (.int .i64 a3_4) ∧ w39.cell? ⟨gb770, 5, none⟩ = some (.int .i64 a3_5) := hS_
              refine norm_ (a' := ?_) ?_ ?_
              rotate_left
              ·simp only [putAll, Act.put, List.setIfInBounds_toArray, List.set_cons_zero, List.set_cons_succ]
               rfl
              refine two_ (i := 4) (j := 11) (Ni := some 43) (Nj := some 13) #[true, true, true, true, true, false, false, false, false, false, false, false, true, false, false, false, false] #[true, true, true, true, false, false, false, false, false, false, false, true, true, false, false, false, false] rfl rfl rfl rfl (two_of HT_.out (by kernel_rfl)) (by decide) (by decide) (fun K hK => ?_) (fun K hK => ?_)
              ·skip
               refine goes_ Try.func37 (by kernel_rfl) rfl #[.agg #[.int .i64 a2_0, .int .i64 a2_1, .int .i64 a2_2, .int .i64 a2_3, .int .i64 a2_4, .int .i64 a2_5], .agg #[.int .i64 a3_0, .int .i64 a3_1, .int .i64 a3_2, .int .i64 a3_3, .int .i64 a3_4, .int .i64 a3_5]] (by rfl) rfl rfl (by (try simp only [List.map_toArray, List.map_cons, List.map_nil]); first | done | rfl | (simp only [List.length_drop, List.length_take]; rfl)) ?_
               with_reducible refine (vec_Join.calls a2_0 a2_1 a2_2 a2_3 a2_4 a2_5 a3_0 a3_1 a3_2 a3_3 a3_4 a3_5 t780 t781 t782 t783 t784 t785 _ A34.out).mono ?_
               rintro e w40 ⟨rfl, hb⟩
               refine ⟨_, rfl, ?_⟩
               replace BK767 := cB hb BK767
               replace BK768 := cB hb BK768
               replace BK769 := cB hb BK769
               replace BK770 := cB hb BK770
               replace BK778 := cB hb BK778
               replace BK779 := cB hb BK779
               replace BK793 := cB hb BK793
               replace HB := Aside0.mk (below_step (HB.out) hb)
               (try clear hb)
               (try clear hb2)
               (try clear hk)
               (try clear hi)
               refine hK.out _ _ ⟨(blk_cell BK767.out 0).trans rfl, (blk_cell BK767.out 1).trans rfl, (blk_cell BK767.out 2).trans rfl, (blk_cell BK768.out 0).trans rfl, (blk_cell BK768.out 1).trans rfl, (blk_cell BK768.out 2).trans rfl, (blk_cell BK769.out 0).trans rfl, (blk_cell BK769.out 1).trans rfl, (blk_cell BK769.out 2).trans rfl, (blk_cell BK769.out 3).trans rfl, (blk_cell BK769.out 4).trans rfl, (blk_cell BK769.out 5).trans rfl, (blk_cell BK770.out 0).trans rfl, (blk_cell BK770.out 1).trans rfl, (blk_cell BK770.out 2).trans rfl, (blk_cell BK770.out 3).trans rfl, (blk_cell BK770.out 4).trans rfl, (blk_cell BK770.out 5).trans rfl⟩ (fun hHeld => ?_)
               clear hK K
               refine norm_ (a' := ?_) ?_ ?_
               rotate_left
               ·show Act.put _ (some 43) _ = _
                simp only [Act.put, List.setIfInBounds_toArray, List.set_cons_zero, List.set_cons_succ, i64_w, i32_w]
                rfl
               exact norm_ (by simp only [putAll, Act.put, List.setIfInBounds_toArray, List.set_cons_zero, List.set_cons_succ] <;> rfl) (hJ4_12 (gb793) _ ⟨hHeld, (BK767.out), (BK768.out), (BK769.out), (BK770.out), (BK778.out), (BK779.out), (BK793.out), GE793.out, NB767_793.out, NB793_767.out, NB768_793.out, NB793_768.out, NB769_793.out, NB793_769.out, NB770_793.out, NB793_770.out, NB778_793.out, NB793_778.out, NB779_793.out, NB793_779.out, (HB.out)⟩)
              skip
              refine box_step ?hg (N := 13) ?hd (cs := #[.int .i64 0, .int .i64 0]) (t := 28) ?hr ?_; (case hd => rfl); (case hg => rfl); (case hr => first | (go_simp; done) | (go_simp; rfl))
              intro gb792 hg w40 hbox hb
              have BK792 := Aside0.mk (hbox)
              have GE792 := Aside0.mk (bG hg (HB.out))
              have NB767_792 := cN hg BK767
              have NB792_767 := cM hg BK767
              have NB768_792 := cN hg BK768
              have NB792_768 := cM hg BK768
              have NB769_792 := cN hg BK769
              have NB792_769 := cM hg BK769
              have NB770_792 := cN hg BK770
              have NB792_770 := cM hg BK770
              have NB778_792 := cN hg BK778
              have NB792_778 := cM hg BK778
              have NB779_792 := cN hg BK779
              have NB792_779 := cM hg BK779
              have NB793_792 := cN hg BK793
              have NB792_793 := cM hg BK793
              replace BK767 := cB hb BK767
              replace BK768 := cB hb BK768
              replace BK769 := cB hb BK769
              replace BK770 := cB hb BK770
              replace BK778 := cB hb BK778
              replace BK779 := cB hb BK779
              replace BK793 := cB hb BK793
              replace HB := Aside0.mk (below_step (HB.out) hb)
              clear hb hbox hg
              refine hK.out _ _ ⟨(blk_cell BK767.out 0).trans rfl, (blk_cell BK767.out 1).trans rfl, (blk_cell BK767.out 2).trans rfl, (blk_cell BK768.out 0).trans rfl, (blk_cell BK768.out 1).trans rfl, (blk_cell BK768.out 2).trans rfl, (blk_cell BK769.out 0).trans rfl, (blk_cell BK769.out 1).trans rfl, (blk_cell BK769.out 2).trans rfl, (blk_cell BK769.out 3).trans rfl, (blk_cell BK769.out 4).trans rfl, (blk_cell BK769.out 5).trans rfl, (blk_cell BK770.out 0).trans rfl, (blk_cell BK770.out 1).trans rfl, (blk_cell BK770.out 2).trans rfl, (blk_cell BK770.out 3).trans rfl, (blk_cell BK770.out 4).trans rfl, (blk_cell BK770.out 5).trans rfl⟩ (fun hHeld => ?_)
              clear hK K
              refine norm_ (a' := ?_) ?_ ?_
              rotate_left
              ·show Act.put _ (some 13) _ = _
               simp only [Act.put, List.setIfInBounds_toArray, List.set_cons_zero, List.set_cons_succ, i64_w, i32_w]
               rfl
              exact norm_ (by simp only [putAll, Act.put, List.setIfInBounds_toArray, List.set_cons_zero, List.set_cons_succ] <;> rfl) (hJ11_12 (gb792, gb793) _ ⟨hHeld, (BK767.out), (BK768.out), (BK769.out), (BK770.out), (BK778.out), (BK779.out), (BK792.out), (BK793.out), GE792.out, NB767_792.out, NB792_767.out, NB768_792.out, NB792_768.out, NB769_792.out, NB792_769.out, NB770_792.out, NB792_770.out, NB778_792.out, NB792_778.out, NB779_792.out, NB792_779.out, NB793_792.out, NB792_793.out, GE793.out, NB767_793.out, NB793_767.out, NB768_793.out, NB793_768.out, NB769_793.out, NB793_769.out, NB770_793.out, NB793_770.out, NB778_793.out, NB793_778.out, NB779_793.out, NB793_779.out, (HB.out)⟩)
             skip
             rintro gb792 w39 ⟨hS_, h0_, h1_, h2_, h3_, h4_, h5_, h6_, h7_, h8_, h9_, h10_, h11_, h12_, h13_, h14_, h15_, h16_, h17_, h18_, h19_, h20_⟩
             have n0_ : Aside0 (w39.heap[gb767]? = some (.cells #[.int .i64 a0_0, .int .i64 a0_1, .int .i64 a0_2] 23 (0, 0))) := ⟨h0_⟩
             have n1_ : Aside0 (w39.heap[gb768]? = some (.cells #[.int .i64 a1_0, .int .i64 a1_1, .int .i64 a1_2] 23 (0, 0))) := ⟨h1_⟩
             have n2_ : Aside0 (w39.heap[gb769]? = some (.cells #[.int .i64 a2_0, .int .i64 a2_1, .int .i64 a2_2, .int .i64 a2_3, .int .i64 a2_4, .int .i64 a2_5] 56 (0, 0))) := ⟨h2_⟩
             have n3_ : Aside0 (w39.heap[gb770]? = some (.cells #[.int .i64 a3_0, .int .i64 a3_1, .int .i64 a3_2, .int .i64 a3_3, .int .i64 a3_4, .int .i64 a3_5] 56 (0, 0))) := ⟨h3_⟩
             have n4_ : Aside0 (w39.heap[gb778]? = some (.cells #[.int .i64 t772, .int .i64 t773] 28 (0, 0))) := ⟨h4_⟩
             have n5_ : Aside0 (w39.heap[gb779]? = some (.cells #[.int .i64 t774, .int .i64 t775] 28 (0, 0))) := ⟨h5_⟩
             have n6_ : Aside0 (w39.heap[gb792]? = some (.cells #[.int .i64 0, .int .i64 0] 28 (0, 0))) := ⟨h6_⟩
             have GE792 : Aside0 (w.heap.size ≤ gb792) := ⟨h7_⟩
             have NB767_792 : Aside0 (gb767 ≠ gb792) := ⟨h8_⟩
             have NB792_767 : Aside0 (gb792 ≠ gb767) := ⟨h9_⟩
             have NB768_792 : Aside0 (gb768 ≠ gb792) := ⟨h10_⟩
             have NB792_768 : Aside0 (gb792 ≠ gb768) := ⟨h11_⟩
             have NB769_792 : Aside0 (gb769 ≠ gb792) := ⟨h12_⟩
             have NB792_769 : Aside0 (gb792 ≠ gb769) := ⟨h13_⟩
             have NB770_792 : Aside0 (gb770 ≠ gb792) := ⟨h14_⟩
             have NB792_770 : Aside0 (gb792 ≠ gb770) := ⟨h15_⟩
             have NB778_792 : Aside0 (gb778 ≠ gb792) := ⟨h16_⟩
             have NB792_778 : Aside0 (gb792 ≠ gb778) := ⟨h17_⟩
             have NB779_792 : Aside0 (gb779 ≠ gb792) := ⟨h18_⟩
             have NB792_779 : Aside0 (gb792 ≠ gb779) := ⟨h19_⟩
             have n20_ : Aside0 (Below w.heap.size w w39) := ⟨h20_⟩
             clear BK767
             clear BK768
             clear BK769
             clear BK770
             clear BK778
             clear BK779
             clear HB
             clear h0_ h1_ h2_ h3_ h4_ h5_ h6_ h7_ h8_ h9_ h10_ h11_ h12_ h13_ h14_ h15_ h16_ h17_ h18_ h19_ h20_
             have BK767 := n0_
             have BK768 := n1_
             have BK769 := n2_
             have BK770 := n3_
             have BK778 := n4_
             have BK779 := n5_
             have BK792 := n6_
             have HB := n20_
             clear n0_ n1_ n2_ n3_ n4_ n5_ n6_ n20_
             have hHeld : w39.cell? ⟨gb767, 0, none⟩ = some (.int .i64 a0_0) ∧ w39.cell? ⟨gb767, 1, none⟩ = some (.int .i64 a0_1) ∧ w39.cell? ⟨gb767, 2, none⟩ = some (.int .i64 a0_2) ∧ w39.cell? ⟨gb768, 0, none⟩ = some (.int .i64 a1_0) ∧ w39.cell? ⟨gb768, 1, none⟩ = some (.int .i64 a1_1) ∧ w39.cell? ⟨gb768, 2, none⟩ = some (.int .i64 a1_2) ∧ w39.cell? ⟨gb769, 0, none⟩ = some (.int .i64 a2_0) ∧ w39.cell? ⟨gb769, 1, none⟩ = some (.int .i64 a2_1) ∧ w39.cell? ⟨gb769, 2, none⟩ = some (.int .i64 a2_2) ∧ w39.cell? ⟨gb769, 3, none⟩ = some (.int .i64 a2_3) ∧ w39.cell? ⟨gb769, 4, none⟩ = some (.int .i64 a2_4) ∧ w39.cell? ⟨gb769, 5, none⟩ = some (.int .i64 a2_5) ∧ w39.cell? ⟨gb770, 0, none⟩ = some (.int .i64 a3_0) ∧ w39.cell? ⟨gb770, 1, none⟩ = some (.int .i64 a3_1) ∧ w39.cell? ⟨gb770, 2, none⟩ = some (.int .i64 a3_2) ∧ w39.cell? ⟨gb770, 3, none⟩ = some (.int .i64 a3_3) ∧ w39.cell? ⟨gb770, 4, none⟩ = some (.int .i64 a3_4) ∧ w39.cell? ⟨gb770, 5, none⟩ = some (.int .i64 a3_5) := hS_
             refine norm_ (a' := ?_) ?_ ?_
             rotate_left
             ·simp only [putAll, Act.put, List.setIfInBounds_toArray, List.set_cons_zero, List.set_cons_succ]
              rfl
             refine two_ (i := 4) (j := 12) (Ni := some 43) (Nj := some 14) #[true, true, true, true, true, false, false, false, false, false, false, true, false, false, false, false, false] #[true, true, true, true, false, false, false, false, false, false, false, true, true, false, false, false, false] rfl rfl rfl rfl (two_of HT_.out (by kernel_rfl)) (by decide) (by decide) (fun K hK => ?_) (fun K hK => ?_)
             ·skip
              refine goes_ Try.func37 (by kernel_rfl) rfl #[.agg #[.int .i64 a2_0, .int .i64 a2_1, .int .i64 a2_2, .int .i64 a2_3, .int .i64 a2_4, .int .i64 a2_5], .agg #[.int .i64 a3_0, .int .i64 a3_1, .int .i64 a3_2, .int .i64 a3_3, .int .i64 a3_4, .int .i64 a3_5]] (by rfl) rfl rfl (by (try simp only [List.map_toArray, List.map_cons, List.map_nil]); first | done | rfl | (simp only [List.length_drop, List.length_take]; rfl)) ?_
              with_reducible refine (vec_Join.calls a2_0 a2_1 a2_2 a2_3 a2_4 a2_5 a3_0 a3_1 a3_2 a3_3 a3_4 a3_5 t780 t781 t782 t783 t784 t785 _ A34.out).mono ?_
              rintro e w40 ⟨rfl, hb⟩
              refine ⟨_, rfl, ?_⟩
              replace BK767 := cB hb BK767
              replace BK768 := cB hb BK768
              replace BK769 := cB hb BK769
              replace BK770 := cB hb BK770
              replace BK778 := cB hb BK778
              replace BK779 := cB hb BK779
              replace BK792 := cB hb BK792
              replace HB := Aside0.mk (below_step (HB.out) hb)
              (try clear hb)
              (try clear hb2)
              (try clear hk)
              (try clear hi)
              refine hK.out _ _ ⟨(blk_cell BK767.out 0).trans rfl, (blk_cell BK767.out 1).trans rfl, (blk_cell BK767.out 2).trans rfl, (blk_cell BK768.out 0).trans rfl, (blk_cell BK768.out 1).trans rfl, (blk_cell BK768.out 2).trans rfl, (blk_cell BK769.out 0).trans rfl, (blk_cell BK769.out 1).trans rfl, (blk_cell BK769.out 2).trans rfl, (blk_cell BK769.out 3).trans rfl, (blk_cell BK769.out 4).trans rfl, (blk_cell BK769.out 5).trans rfl, (blk_cell BK770.out 0).trans rfl, (blk_cell BK770.out 1).trans rfl, (blk_cell BK770.out 2).trans rfl, (blk_cell BK770.out 3).trans rfl, (blk_cell BK770.out 4).trans rfl, (blk_cell BK770.out 5).trans rfl⟩ (fun hHeld => ?_)
              clear hK K
              refine norm_ (a' := ?_) ?_ ?_
              rotate_left
              ·show Act.put _ (some 43) _ = _
               simp only [Act.put, List.setIfInBounds_toArray, List.set_cons_zero, List.set_cons_succ, i64_w, i32_w]
               rfl
              exact norm_ (by simp only [putAll, Act.put, List.setIfInBounds_toArray, List.set_cons_zero, List.set_cons_succ] <;> rfl) (hJ4_11 (gb792) _ ⟨hHeld, (BK767.out), (BK768.out), (BK769.out), (BK770.out), (BK778.out), (BK779.out), (BK792.out), GE792.out, NB767_792.out, NB792_767.out, NB768_792.out, NB792_768.out, NB769_792.out, NB792_769.out, NB770_792.out, NB792_770.out, NB778_792.out, NB792_778.out, NB779_792.out, NB792_779.out, (HB.out)⟩)
             skip
             refine box_step ?hg (N := 14) ?hd (cs := #[.int .i64 0, .int .i64 0]) (t := 28) ?hr ?_; (case hd => rfl); (case hg => rfl); (case hr => first | (go_simp; done) | (go_simp; rfl))
             intro gb793 hg w40 hbox hb
             have BK793 := Aside0.mk (hbox)
             have GE793 := Aside0.mk (bG hg (HB.out))
             have NB767_793 := cN hg BK767
             have NB793_767 := cM hg BK767
             have NB768_793 := cN hg BK768
             have NB793_768 := cM hg BK768
             have NB769_793 := cN hg BK769
             have NB793_769 := cM hg BK769
             have NB770_793 := cN hg BK770
             have NB793_770 := cM hg BK770
             have NB778_793 := cN hg BK778
             have NB793_778 := cM hg BK778
             have NB779_793 := cN hg BK779
             have NB793_779 := cM hg BK779
             have NB792_793 := cN hg BK792
             have NB793_792 := cM hg BK792
             replace BK767 := cB hb BK767
             replace BK768 := cB hb BK768
             replace BK769 := cB hb BK769
             replace BK770 := cB hb BK770
             replace BK778 := cB hb BK778
             replace BK779 := cB hb BK779
             replace BK792 := cB hb BK792
             replace HB := Aside0.mk (below_step (HB.out) hb)
             clear hb hbox hg
             refine hK.out _ _ ⟨(blk_cell BK767.out 0).trans rfl, (blk_cell BK767.out 1).trans rfl, (blk_cell BK767.out 2).trans rfl, (blk_cell BK768.out 0).trans rfl, (blk_cell BK768.out 1).trans rfl, (blk_cell BK768.out 2).trans rfl, (blk_cell BK769.out 0).trans rfl, (blk_cell BK769.out 1).trans rfl, (blk_cell BK769.out 2).trans rfl, (blk_cell BK769.out 3).trans rfl, (blk_cell BK769.out 4).trans rfl, (blk_cell BK769.out 5).trans rfl, (blk_cell BK770.out 0).trans rfl, (blk_cell BK770.out 1).trans rfl, (blk_cell BK770.out 2).trans rfl, (blk_cell BK770.out 3).trans rfl, (blk_cell BK770.out 4).trans rfl, (blk_cell BK770.out 5).trans rfl⟩ (fun hHeld => ?_)
             clear hK K
             refine norm_ (a' := ?_) ?_ ?_
             rotate_left
             ·show Act.put _ (some 14) _ = _
              simp only [Act.put, List.setIfInBounds_toArray, List.set_cons_zero, List.set_cons_succ, i64_w, i32_w]
              rfl
             exact norm_ (by simp only [putAll, Act.put, List.setIfInBounds_toArray, List.set_cons_zero, List.set_cons_succ] <;> rfl) (hJ11_12 (gb792, gb793) _ ⟨hHeld, (BK767.out), (BK768.out), (BK769.out), (BK770.out), (BK778.out), (BK779.out), (BK792.out), (BK793.out), GE792.out, NB767_792.out, NB792_767.out, NB768_792.out, NB792_768.out, NB769_792.out, NB792_769.out, NB770_792.out, NB792_770.out, NB778_792.out, NB792_778.out, NB779_792.out, NB792_779.out, NB793_792.out, NB792_793.out, GE793.out, NB767_793.out, NB793_767.out, NB768_793.out, NB793_768.out, NB769_793.out, NB793_769.out, NB770_793.out, NB793_770.out, NB778_793.out, NB793_778.out, NB779_793.out, NB793_779.out, (HB.out)⟩)
            skip
            rintro _ w39 ⟨hS_, h0_, h1_, h2_, h3_, h4_, h5_, h6_⟩
            have n0_ : Aside0 (w39.heap[gb767]? = some (.cells #[.int .i64 a0_0, .int .i64 a0_1, .int .i64 a0_2] 23 (0, 0))) := ⟨h0_⟩
            have n1_ : Aside0 (w39.heap[gb768]? = some (.cells #[.int .i64 a1_0, .int .i64 a1_1, .int .i64 a1_2] 23 (0, 0))) := ⟨h1_⟩
            have n2_ : Aside0 (w39.heap[gb769]? = some (.cells #[.int .i64 a2_0, .int .i64 a2_1, .int .i64 a2_2, .int .i64 a2_3, .int .i64 a2_4, .int .i64 a2_5] 56 (0, 0))) := ⟨h2_⟩
            have n3_ : Aside0 (w39.heap[gb770]? = some (.cells #[.int .i64 a3_0, .int .i64 a3_1, .int .i64 a3_2, .int .i64 a3_3, .int .i64 a3_4, .int .i64 a3_5] 56 (0, 0))) := ⟨h3_⟩
            have n4_ : Aside0 (w39.heap[gb778]? = some (.cells #[.int .i64 t772, .int .i64 t773] 28 (0, 0))) := ⟨h4_⟩
            have n5_ : Aside0 (w39.heap[gb779]? = some (.cells #[.int .i64 t774, .int .i64 t775] 28 (0, 0))) := ⟨h5_⟩
            have n6_ : Aside0 (Below w.heap.size w w39) := ⟨h6_⟩
            clear BK767
            clear BK768
            clear BK769
            clear BK770
            clear BK778
            clear BK779
            clear HB
            clear h0_ h1_ h2_ h3_ h4_ h5_ h6_
            have BK767 := n0_
            have BK768 := n1_
            have BK769 := n2_
            have BK770 := n3_
            have BK778 := n4_
            have BK779 := n5_
            have HB := n6_
            clear n0_ n1_ n2_ n3_ n4_ n5_ n6_
            have hHeld : w39.cell? ⟨gb767, 0, none⟩ = some (.int .i64 a0_0) ∧ w39.cell? ⟨gb767, 1, none⟩ = some (.int .i64 a0_1) ∧ w39.cell? ⟨gb767, 2, none⟩ = some (.int .i64 a0_2) ∧ w39.cell? ⟨gb768, 0, none⟩ = some (.int .i64 a1_0) ∧ w39.cell? ⟨gb768, 1, none⟩ = some (.int .i64 a1_1) ∧ w39.cell? ⟨gb768, 2, none⟩ = some (.int .i64 a1_2) ∧ w39.cell? ⟨gb769, 0, none⟩ = some (.int .i64 a2_0) ∧ w39.cell? ⟨gb769, 1, none⟩ = some (.int .i64 a2_1) ∧ w39.cell? ⟨gb769, 2, none⟩ = some (.int .i64 a2_2) ∧ w39.cell? ⟨gb769, 3, none⟩ = some (.int .i64 a2_3) ∧ w39.cell? ⟨gb769, 4, none⟩ = some (.int .i64 a2_4) ∧ w39.cell? ⟨gb769, 5, none⟩ = some (.int .i64 a2_5) ∧ w39.cell? ⟨gb770, 0, none⟩ = some (.int .i64 a3_0) ∧ w39.cell? ⟨gb770, 1, none⟩ = some (.int .i64 a3_1) ∧ w39.cell? ⟨gb770, 2, none⟩ = some (.int .i64 a3_2) ∧ w39.cell? ⟨gb770, 3, none⟩ = some (.int .i64 a3_3) ∧ w39.cell? ⟨gb770, 4, none⟩ = some (.int .i64 a3_4) ∧ w39.cell? ⟨gb770, 5, none⟩ = some (.int .i64 a3_5) := hS_
            refine norm_ (a' := ?_) ?_ ?_
            rotate_left
            ·simp only [putAll, Act.put, List.setIfInBounds_toArray, List.set_cons_zero, List.set_cons_succ]
             rfl
            refine three_ (i := 5) (j := 11) (k := 12) (Ni := some 44) (Nj := some 13) (Nk := some 14) #[true, true, true, true, true, true, false, false, false, false, false, false, false, false, false, false, false] #[true, true, true, true, true, false, false, false, false, false, false, true, false, false, false, false, false] #[true, true, true, true, true, false, false, false, false, false, false, false, true, false, false, false, false] rfl rfl rfl rfl rfl rfl (three_of HT_.out (by kernel_rfl)) (by decide) (by decide) (by decide) (fun K hK => ?_) (fun K hK => ?_) (fun K hK => ?_)
            ·skip
             refine goes_ Try.func32 (by kernel_rfl) rfl #[.agg #[.int .i64 a0_0, .int .i64 a0_1, .int .i64 a0_2], .agg #[.int .i64 a1_0, .int .i64 a1_1, .int .i64 a1_2], .agg #[.int .i64 t780, .int .i64 t781, .int .i64 t782, .int .i64 t783, .int .i64 t784, .int .i64 t785]] (by rfl) rfl rfl (by (try simp only [List.map_toArray, List.map_cons, List.map_nil]); first | done | rfl | (simp only [List.length_drop, List.length_take]; rfl)) ?_
             with_reducible refine (slab_Range.calls kj31 a0_0 a0_1 a0_2 a1_0 a1_1 a1_2 t780 t781 t782 t783 t784 t785 t786 t787 t788 t789 t790 t791 _ A35.out).mono ?_
             rintro e w40 ⟨rfl, hb⟩
             refine ⟨_, rfl, ?_⟩
             replace BK767 := cB hb BK767
             replace BK768 := cB hb BK768
             replace BK769 := cB hb BK769
             replace BK770 := cB hb BK770
             replace BK778 := cB hb BK778
             replace BK779 := cB hb BK779
             replace HB := Aside0.mk (below_step (HB.out) hb)
             (try clear hb)
             (try clear hb2)
             (try clear hk)
             (try clear hi)
             refine hK.out _ _ ⟨(blk_cell BK767.out 0).trans rfl, (blk_cell BK767.out 1).trans rfl, (blk_cell BK767.out 2).trans rfl, (blk_cell BK768.out 0).trans rfl, (blk_cell BK768.out 1).trans rfl, (blk_cell BK768.out 2).trans rfl, (blk_cell BK769.out 0).trans rfl, (blk_cell BK769.out 1).trans rfl, (blk_cell BK769.out 2).trans rfl, (blk_cell BK769.out 3).trans rfl, (blk_cell BK769.out 4).trans rfl, (blk_cell BK769.out 5).trans rfl, (blk_cell BK770.out 0).trans rfl, (blk_cell BK770.out 1).trans rfl, (blk_cell BK770.out 2).trans rfl, (blk_cell BK770.out 3).trans rfl, (blk_cell BK770.out 4).trans rfl, (blk_cell BK770.out 5).trans rfl⟩ (fun hHeld => ?_)
             clear hK K
             refine norm_ (a' := ?_) ?_ ?_
             rotate_left
             ·show Act.put _ (some 44) _ = _
              simp only [Act.put, List.setIfInBounds_toArray, List.set_cons_zero, List.set_cons_succ, i64_w, i32_w]
              rfl
             refine pure_ (i := 6) (N := some 38) (v := ?_) (a' := ?_) #[true, true, true, true, true, true, true, false, false, false, false, false, false, false, false, false, false] rfl rfl (any_of HT_.out (by kernel_rfl)) (fun _ _ _ h => h) (Or.inl ⟨by rfl, ?_⟩) ?_ ?_
             rotate_left
             ·intro w'
              go_simp
              with_reducible rfl
             rotate_left
             ·simp only [Act.put, List.setIfInBounds_toArray, List.set_cons_zero, List.set_cons_succ, i64_w, i32_w]
              rfl
             refine pure_ (i := 7) (N := some 45) (v := ?_) (a' := ?_) #[true, true, true, true, true, true, true, true, false, false, false, false, false, false, false, false, false] rfl rfl (any_of HT_.out (by kernel_rfl)) (fun _ _ _ h => h) (Or.inl ⟨by rfl, ?_⟩) ?_ ?_
             rotate_left
             ·intro w'
              go_simp
              with_reducible rfl
             rotate_left
             ·simp only [Act.put, List.setIfInBounds_toArray, List.set_cons_zero, List.set_cons_succ, i64_w, i32_w]
              rfl
             refine pure_ (i := 8) (N := some 46) (v := ?_) (a' := ?_) #[true, true, true, true, true, true, true, true, true, false, false, false, false, false, false, false, false] rfl rfl (any_of HT_.out (by kernel_rfl)) (fun _ _ _ h => h) (Or.inl ⟨by rfl, ?_⟩) ?_ ?_
             rotate_left
             ·intro w'
              go_simp
              with_reducible rfl
             rotate_left
             ·simp only [Act.put, List.setIfInBounds_toArray, List.set_cons_zero, List.set_cons_succ, i64_w, i32_w]
              rfl
             refine pure_ (i := 9) (N := some 47) (v := ?_) (a' := ?_) #[true, true, true, true, true, true, true, true, true, true, false, false, false, false, false, false, false] rfl rfl (any_of HT_.out (by kernel_rfl)) (fun _ _ _ h => h) (Or.inl ⟨by rfl, ?_⟩) ?_ ?_
             rotate_left
             ·intro w'
              go_simp
              with_reducible rfl
             rotate_left
             ·simp only [Act.put, List.setIfInBounds_toArray, List.set_cons_zero, List.set_cons_succ, i64_w, i32_w]
              rfl
             refine pure_ (i := 10) (N := some 48) (v := ?_) (a' := ?_) #[true, true, true, true, true, true, true, true, true, true, true, false, false, false, false, false, false] rfl rfl (any_of HT_.out (by kernel_rfl)) (fun _ _ _ h => h) (Or.inl ⟨by rfl, ?_⟩) ?_ ?_
             rotate_left
             ·intro w'
              go_simp
              with_reducible rfl
             rotate_left
             ·simp only [Act.put, List.setIfInBounds_toArray, List.set_cons_zero, List.set_cons_succ, i64_w, i32_w]
              rfl
             exact norm_ (by simp only [putAll, Act.put, List.setIfInBounds_toArray, List.set_cons_zero, List.set_cons_succ] <;> rfl) (hJ4_5 () _ ⟨hHeld, (BK767.out), (BK768.out), (BK769.out), (BK770.out), (BK778.out), (BK779.out), (HB.out)⟩)
            ·skip
             refine box_step ?hg (N := 13) ?hd (cs := #[.int .i64 0, .int .i64 0]) (t := 28) ?hr ?_; (case hd => rfl); (case hg => rfl); (case hr => first | (go_simp; done) | (go_simp; rfl))
             intro gb792 hg w40 hbox hb
             have BK792 := Aside0.mk (hbox)
             have GE792 := Aside0.mk (bG hg (HB.out))
             have NB767_792 := cN hg BK767
             have NB792_767 := cM hg BK767
             have NB768_792 := cN hg BK768
             have NB792_768 := cM hg BK768
             have NB769_792 := cN hg BK769
             have NB792_769 := cM hg BK769
             have NB770_792 := cN hg BK770
             have NB792_770 := cM hg BK770
             have NB778_792 := cN hg BK778
             have NB792_778 := cM hg BK778
             have NB779_792 := cN hg BK779
             have NB792_779 := cM hg BK779
             replace BK767 := cB hb BK767
             replace BK768 := cB hb BK768
             replace BK769 := cB hb BK769
             replace BK770 := cB hb BK770
             replace BK778 := cB hb BK778
             replace BK779 := cB hb BK779
             replace HB := Aside0.mk (below_step (HB.out) hb)
             clear hb hbox hg
             refine hK.out _ _ ⟨(blk_cell BK767.out 0).trans rfl, (blk_cell BK767.out 1).trans rfl, (blk_cell BK767.out 2).trans rfl, (blk_cell BK768.out 0).trans rfl, (blk_cell BK768.out 1).trans rfl, (blk_cell BK768.out 2).trans rfl, (blk_cell BK769.out 0).trans rfl, (blk_cell BK769.out 1).trans rfl, (blk_cell BK769.out 2).trans rfl, (blk_cell BK769.out 3).trans rfl, (blk_cell BK769.out 4).trans rfl, (blk_cell BK769.out 5).trans rfl, (blk_cell BK770.out 0).trans rfl, (blk_cell BK770.out 1).trans rfl, (blk_cell BK770.out 2).trans rfl, (blk_cell BK770.out 3).trans rfl, (blk_cell BK770.out 4).trans rfl, (blk_cell BK770.out 5).trans rfl⟩ (fun hHeld => ?_)
             clear hK K
             refine norm_ (a' := ?_) ?_ ?_
             rotate_left
             ·show Act.put _ (some 13) _ = _
              simp only [Act.put, List.setIfInBounds_toArray, List.set_cons_zero, List.set_cons_succ, i64_w, i32_w]
              rfl
             exact norm_ (by simp only [putAll, Act.put, List.setIfInBounds_toArray, List.set_cons_zero, List.set_cons_succ] <;> rfl) (hJ4_11 (gb792) _ ⟨hHeld, (BK767.out), (BK768.out), (BK769.out), (BK770.out), (BK778.out), (BK779.out), (BK792.out), GE792.out, NB767_792.out, NB792_767.out, NB768_792.out, NB792_768.out, NB769_792.out, NB792_769.out, NB770_792.out, NB792_770.out, NB778_792.out, NB792_778.out, NB779_792.out, NB792_779.out, (HB.out)⟩)
            skip
            refine box_step ?hg (N := 14) ?hd (cs := #[.int .i64 0, .int .i64 0]) (t := 28) ?hr ?_; (case hd => rfl); (case hg => rfl); (case hr => first | (go_simp; done) | (go_simp; rfl))
            intro gb793 hg w40 hbox hb
            have BK793 := Aside0.mk (hbox)
            have GE793 := Aside0.mk (bG hg (HB.out))
            have NB767_793 := cN hg BK767
            have NB793_767 := cM hg BK767
            have NB768_793 := cN hg BK768
            have NB793_768 := cM hg BK768
            have NB769_793 := cN hg BK769
            have NB793_769 := cM hg BK769
            have NB770_793 := cN hg BK770
            have NB793_770 := cM hg BK770
            have NB778_793 := cN hg BK778
            have NB793_778 := cM hg BK778
            have NB779_793 := cN hg BK779
            have NB793_779 := cM hg BK779
            replace BK767 := cB hb BK767
            replace BK768 := cB hb BK768
            replace BK769 := cB hb BK769
            replace BK770 := cB hb BK770
            replace BK778 := cB hb BK778
            replace BK779 := cB hb BK779
            replace HB := Aside0.mk (below_step (HB.out) hb)
            clear hb hbox hg
            refine hK.out _ _ ⟨(blk_cell BK767.out 0).trans rfl, (blk_cell BK767.out 1).trans rfl, (blk_cell BK767.out 2).trans rfl, (blk_cell BK768.out 0).trans rfl, (blk_cell BK768.out 1).trans rfl, (blk_cell BK768.out 2).trans rfl, (blk_cell BK769.out 0).trans rfl, (blk_cell BK769.out 1).trans rfl, (blk_cell BK769.out 2).trans rfl, (blk_cell BK769.out 3).trans rfl, (blk_cell BK769.out 4).trans rfl, (blk_cell BK769.out 5).trans rfl, (blk_cell BK770.out 0).trans rfl, (blk_cell BK770.out 1).trans rfl, (blk_cell BK770.out 2).trans rfl, (blk_cell BK770.out 3).trans rfl, (blk_cell BK770.out 4).trans rfl, (blk_cell BK770.out 5).trans rfl⟩ (fun hHeld => ?_)
            clear hK K
            refine norm_ (a' := ?_) ?_ ?_
            rotate_left
            ·show Act.put _ (some 14) _ = _
             simp only [Act.put, List.setIfInBounds_toArray, List.set_cons_zero, List.set_cons_succ, i64_w, i32_w]
             rfl
            exact norm_ (by simp only [putAll, Act.put, List.setIfInBounds_toArray, List.set_cons_zero, List.set_cons_succ] <;> rfl) (hJ4_12 (gb793) _ ⟨hHeld, (BK767.out), (BK768.out), (BK769.out), (BK770.out), (BK778.out), (BK779.out), (BK793.out), GE793.out, NB767_793.out, NB793_767.out, NB768_793.out, NB793_768.out, NB769_793.out, NB793_769.out, NB770_793.out, NB793_770.out, NB778_793.out, NB793_778.out, NB779_793.out, NB793_779.out, (HB.out)⟩)
           skip
           rintro ⟨gb792, gb793⟩ w40 ⟨hS_, h0_, h1_, h2_, h3_, h4_, h5_, h6_, h7_, h8_, h9_, h10_, h11_, h12_, h13_, h14_, h15_, h16_, h17_, h18_, h19_, h20_, h21_, h22_, h23_, h24_, h25_, h26_, h27_, h28_, h29_, h30_, h31_, h32_, h33_, h34_, h35_, h36_⟩
           have n0_ : Aside0 (w40.heap[gb767]? = some (.cells #[.int .i64 a0_0, .int .i64 a0_1, .int .i64 a0_2] 23 (0, 0))) := ⟨h0_⟩
           have n1_ : Aside0 (w40.heap[gb768]? = some (.cells #[.int .i64 a1_0, .int .i64 a1_1, .int .i64 a1_2] 23 (0, 0))) := ⟨h1_⟩
           have n2_ : Aside0 (w40.heap[gb769]? = some (.cells #[.int .i64 a2_0, .int .i64 a2_1, .int .i64 a2_2, .int .i64 a2_3, .int .i64 a2_4, .int .i64 a2_5] 56 (0, 0))) := ⟨h2_⟩
           have n3_ : Aside0 (w40.heap[gb770]? = some (.cells #[.int .i64 a3_0, .int .i64 a3_1, .int .i64 a3_2, .int .i64 a3_3, .int .i64 a3_4, .int .i64 a3_5] 56 (0, 0))) := ⟨h3_⟩
           have n4_ : Aside0 (w40.heap[gb778]? = some (.cells #[.int .i64 t772, .int .i64 t773] 28 (0, 0))) := ⟨h4_⟩
           have n5_ : Aside0 (w40.heap[gb779]? = some (.cells #[.int .i64 t774, .int .i64 t775] 28 (0, 0))) := ⟨h5_⟩
           have n6_ : Aside0 (w40.heap[gb792]? = some (.cells #[.int .i64 0, .int .i64 0] 28 (0, 0))) := ⟨h6_⟩
           have n7_ : Aside0 (w40.heap[gb793]? = some (.cells #[.int .i64 0, .int .i64 0] 28 (0, 0))) := ⟨h7_⟩
           have GE792 : Aside0 (w.heap.size ≤ gb792) := ⟨h8_⟩
           have NB767_792 : Aside0 (gb767 ≠ gb792) := ⟨h9_⟩
           have NB792_767 : Aside0 (gb792 ≠ gb767) := ⟨h10_⟩
           have NB768_792 : Aside0 (gb768 ≠ gb792) := ⟨h11_⟩
           have NB792_768 : Aside0 (gb792 ≠ gb768) := ⟨h12_⟩
           have NB769_792 : Aside0 (gb769 ≠ gb792) := ⟨h13_⟩
           have NB792_769 : Aside0 (gb792 ≠ gb769) := ⟨h14_⟩
           have NB770_792 : Aside0 (gb770 ≠ gb792) := ⟨h15_⟩
           have NB792_770 : Aside0 (gb792 ≠ gb770) := ⟨h16_⟩
           have NB778_792 : Aside0 (gb778 ≠ gb792) := ⟨h17_⟩
           have NB792_778 : Aside0 (gb792 ≠ gb778) := ⟨h18_⟩
           have NB779_792 : Aside0 (gb779 ≠ gb792) := ⟨h19_⟩
           have NB792_779 : Aside0 (gb792 ≠ gb779) := ⟨h20_⟩
           have NB793_792 : Aside0 (gb793 ≠ gb792) := ⟨h21_⟩
           have NB792_793 : Aside0 (gb792 ≠ gb793) := ⟨h22_⟩
           have GE793 : Aside0 (w.heap.size ≤ gb793) := ⟨h23_⟩
           have NB767_793 : Aside0 (gb767 ≠ gb793) := ⟨h24_⟩
           have NB793_767 : Aside0 (gb793 ≠ gb767) := ⟨h25_⟩
           have NB768_793 : Aside0 (gb768 ≠ gb793) := ⟨h26_⟩
           have NB793_768 : Aside0 (gb793 ≠ gb768) := ⟨h27_⟩
           have NB769_793 : Aside0 (gb769 ≠ gb793) := ⟨h28_⟩
           have NB793_769 : Aside0 (gb793 ≠ gb769) := ⟨h29_⟩
           have NB770_793 : Aside0 (gb770 ≠ gb793) := ⟨h30_⟩
           have NB793_770 : Aside0 (gb793 ≠ gb770) := ⟨h31_⟩
           have NB778_793 : Aside0 (gb778 ≠ gb793) := ⟨h32_⟩
           have NB793_778 : Aside0 (gb793 ≠ gb778) := ⟨h33_⟩
           have NB779_793 : Aside0 (gb779 ≠ gb793) := ⟨h34_⟩
           have NB793_779 : Aside0 (gb793 ≠ gb779) := ⟨h35_⟩
           have n36_ : Aside0 (Below w.heap.size w w40) := ⟨h36_⟩
           clear BK767
           clear BK768
           clear BK769
           clear BK770
           clear BK778
           clear BK779
           clear HB
           clear h0_ h1_ h2_ h3_ h4_ h5_ h6_ h7_ h8_ h9_ h10_ h11_ h12_ h13_ h14_ h15_ h16_ h17_ h18_ h19_ h20_ h21_ h22_ h23_ h24_ h25_ h26_ h27_ h28_ h29_ h30_ h31_ h32_ h33_ h34_ h35_ h36_
           have BK767 := n0_
           have BK768 := n1_
           have BK769 := n2_
           have BK770 := n3_
           have BK778 := n4_
           have BK779 := n5_
           have BK792 := n6_
           have BK793 := n7_
           have HB := n36_
           clear n0_ n1_ n2_ n3_ n4_ n5_ n6_ n7_ n36_
           have hHeld : w40.cell? ⟨gb767, 0, none⟩ = some (.int .i64 a0_0) ∧ w40.cell? ⟨gb767, 1, none⟩ = some (.int .i64 a0_1) ∧ w40.cell? ⟨gb767, 2, none⟩ = some (.int .i64 a0_2) ∧ w40.cell? ⟨gb768, 0, none⟩ = some (.int .i64 a1_0) ∧ w40.cell? ⟨gb768, 1, none⟩ = some (.int .i64 a1_1) ∧ w40.cell? ⟨gb768, 2, none⟩ = some (.int .i64 a1_2) ∧ w40.cell? ⟨gb769, 0, none⟩ = some (.int .i64 a2_0) ∧ w40.cell? ⟨gb769, 1, none⟩ = some (.int .i64 a2_1) ∧ w40.cell? ⟨gb769, 2, none⟩ = some (.int .i64 a2_2) ∧ w40.cell? ⟨gb769, 3, none⟩ = some (.int .i64 a2_3) ∧ w40.cell? ⟨gb769, 4, none⟩ = some (.int .i64 a2_4) ∧ w40.cell? ⟨gb769, 5, none⟩ = some (.int .i64 a2_5) ∧ w40.cell? ⟨gb770, 0, none⟩ = some (.int .i64 a3_0) ∧ w40.cell? ⟨gb770, 1, none⟩ = some (.int .i64 a3_1) ∧ w40.cell? ⟨gb770, 2, none⟩ = some (.int .i64 a3_2) ∧ w40.cell? ⟨gb770, 3, none⟩ = some (.int .i64 a3_3) ∧ w40.cell? ⟨gb770, 4, none⟩ = some (.int .i64 a3_4) ∧ w40.cell? ⟨gb770, 5, none⟩ = some (.int .i64 a3_5) := hS_
           refine norm_ (a' := ?_) ?_ ?_
           rotate_left
           ·simp only [putAll, Act.put, List.setIfInBounds_toArray, List.set_cons_zero, List.set_cons_succ]
            rfl
           refine one_ (i := 4) (N := some 43) #[true, true, true, true, true, false, false, false, false, false, false, true, true, false, false, false, false] rfl rfl (one_of HT_.out (by kernel_rfl)) (by decide) (fun K hK => ?_)
           refine goes_ Try.func37 (by kernel_rfl) rfl #[.agg #[.int .i64 a2_0, .int .i64 a2_1, .int .i64 a2_2, .int .i64 a2_3, .int .i64 a2_4, .int .i64 a2_5], .agg #[.int .i64 a3_0, .int .i64 a3_1, .int .i64 a3_2, .int .i64 a3_3, .int .i64 a3_4, .int .i64 a3_5]] (by rfl) rfl rfl (by (try simp only [List.map_toArray, List.map_cons, List.map_nil]); first | done | rfl | (simp only [List.length_drop, List.length_take]; rfl)) ?_
           with_reducible refine (vec_Join.calls a2_0 a2_1 a2_2 a2_3 a2_4 a2_5 a3_0 a3_1 a3_2 a3_3 a3_4 a3_5 t780 t781 t782 t783 t784 t785 _ A34.out).mono ?_
           rintro e w41 ⟨rfl, hb⟩
           refine ⟨_, rfl, ?_⟩
           replace BK767 := cB hb BK767
           replace BK768 := cB hb BK768
           replace BK769 := cB hb BK769
           replace BK770 := cB hb BK770
           replace BK778 := cB hb BK778
           replace BK779 := cB hb BK779
           replace BK792 := cB hb BK792
           replace BK793 := cB hb BK793
           replace HB := Aside0.mk (below_step (HB.out) hb)
           (try clear hb)
           (try clear hb2)
           (try clear hk)
           (try clear hi)
           refine hK.out _ _ ⟨(blk_cell BK767.out 0).trans rfl, (blk_cell BK767.out 1).trans rfl, (blk_cell BK767.out 2).trans rfl, (blk_cell BK768.out 0).trans rfl, (blk_cell BK768.out 1).trans rfl, (blk_cell BK768.out 2).trans rfl, (blk_cell BK769.out 0).trans rfl, (blk_cell BK769.out 1).trans rfl, (blk_cell BK769.out 2).trans rfl, (blk_cell BK769.out 3).trans rfl, (blk_cell BK769.out 4).trans rfl, (blk_cell BK769.out 5).trans rfl, (blk_cell BK770.out 0).trans rfl, (blk_cell BK770.out 1).trans rfl, (blk_cell BK770.out 2).trans rfl, (blk_cell BK770.out 3).trans rfl, (blk_cell BK770.out 4).trans rfl, (blk_cell BK770.out 5).trans rfl⟩ (fun hHeld => ?_)
           clear hK K
           refine norm_ (a' := ?_) ?_ ?_
           rotate_left
           ·show Act.put _ (some 43) _ = _
            simp only [Act.put, List.setIfInBounds_toArray, List.set_cons_zero, List.set_cons_succ, i64_w, i32_w]
            rfl
           exact norm_ (by simp only [putAll, Act.put, List.setIfInBounds_toArray, List.set_cons_zero, List.set_cons_succ] <;> rfl) (hJ4_11_12 (gb792, gb793) _ ⟨hHeld, (BK767.out), (BK768.out), (BK769.out), (BK770.out), (BK778.out), (BK779.out), (BK792.out), (BK793.out), GE792.out, NB767_792.out, NB792_767.out, NB768_792.out, NB792_768.out, NB769_792.out, NB792_769.out, NB770_792.out, NB792_770.out, NB778_792.out, NB792_778.out, NB779_792.out, NB792_779.out, NB793_792.out, NB792_793.out, GE793.out, NB767_793.out, NB793_767.out, NB768_793.out, NB793_768.out, NB769_793.out, NB793_769.out, NB770_793.out, NB793_770.out, NB778_793.out, NB793_778.out, NB779_793.out, NB793_779.out, (HB.out)⟩)
          skip
          rintro gb793 w40 ⟨hS_, h0_, h1_, h2_, h3_, h4_, h5_, h6_, h7_, h8_, h9_, h10_, h11_, h12_, h13_, h14_, h15_, h16_, h17_, h18_, h19_, h20_⟩
          have n0_ : Aside0 (w40.heap[gb767]? = some (.cells #[.int .i64 a0_0, .int .i64 a0_1, .int .i64 a0_2] 23 (0, 0))) := ⟨h0_⟩
          have n1_ : Aside0 (w40.heap[gb768]? = some (.cells #[.int .i64 a1_0, .int .i64 a1_1, .int .i64 a1_2] 23 (0, 0))) := ⟨h1_⟩
          have n2_ : Aside0 (w40.heap[gb769]? = some (.cells #[.int .i64 a2_0, .int .i64 a2_1, .int .i64 a2_2, .int .i64 a2_3, .int .i64 a2_4, .int .i64 a2_5] 56 (0, 0))) := ⟨h2_⟩
          have n3_ : Aside0 (w40.heap[gb770]? = some (.cells #[.int .i64 a3_0, .int .i64 a3_1, .int .i64 a3_2, .int .i64 a3_3, .int .i64 a3_4, .int .i64 a3_5] 56 (0, 0))) := ⟨h3_⟩
          have n4_ : Aside0 (w40.heap[gb778]? = some (.cells #[.int .i64 t772, .int .i64 t773] 28 (0, 0))) := ⟨h4_⟩
          have n5_ : Aside0 (w40.heap[gb779]? = some (.cells #[.int .i64 t774, .int .i64 t775] 28 (0, 0))) := ⟨h5_⟩
          have n6_ : Aside0 (w40.heap[gb793]? = some (.cells #[.int .i64 0, .int .i64 0] 28 (0, 0))) := ⟨h6_⟩
          have GE793 : Aside0 (w.heap.size ≤ gb793) := ⟨h7_⟩
          have NB767_793 : Aside0 (gb767 ≠ gb793) := ⟨h8_⟩
          have NB793_767 : Aside0 (gb793 ≠ gb767) := ⟨h9_⟩
          have NB768_793 : Aside0 (gb768 ≠ gb793) := ⟨h10_⟩
          have NB793_768 : Aside0 (gb793 ≠ gb768) := ⟨h11_⟩
          have NB769_793 : Aside0 (gb769 ≠ gb793) := ⟨h12_⟩
          have NB793_769 : Aside0 (gb793 ≠ gb769) := ⟨h13_⟩
          have NB770_793 : Aside0 (gb770 ≠ gb793) := ⟨h14_⟩
          have NB793_770 : Aside0 (gb793 ≠ gb770) := ⟨h15_⟩
          have NB778_793 : Aside0 (gb778 ≠ gb793) := ⟨h16_⟩
          have NB793_778 : Aside0 (gb793 ≠ gb778) := ⟨h17_⟩
          have NB779_793 : Aside0 (gb779 ≠ gb793) := ⟨h18_⟩
          have NB793_779 : Aside0 (gb793 ≠ gb779) := ⟨h19_⟩
          have n20_ : Aside0 (Below w.heap.size w w40) := ⟨h20_⟩
          clear BK767
          clear BK768
          clear BK769
          clear BK770
          clear BK778
          clear BK779
          clear HB
          clear h0_ h1_ h2_ h3_ h4_ h5_ h6_ h7_ h8_ h9_ h10_ h11_ h12_ h13_ h14_ h15_ h16_ h17_ h18_ h19_ h20_
          have BK767 := n0_
          have BK768 := n1_
          have BK769 := n2_
          have BK770 := n3_
          have BK778 := n4_
          have BK779 := n5_
          have BK793 := n6_
          have HB := n20_
          clear n0_ n1_ n2_ n3_ n4_ n5_ n6_ n20_
          have hHeld : w40.cell? ⟨gb767, 0, none⟩ = some (.int .i64 a0_0) ∧ w40.cell? ⟨gb767, 1, none⟩ = some (.int .i64 a0_1) ∧ w40.cell? ⟨gb767, 2, none⟩ = some (.int .i64 a0_2) ∧ w40.cell? ⟨gb768, 0, none⟩ = some (.int .i64 a1_0) ∧ w40.cell? ⟨gb768, 1, none⟩ = some (.int .i64 a1_1) ∧ w40.cell? ⟨gb768, 2, none⟩ = some (.int .i64 a1_2) ∧ w40.cell? ⟨gb769, 0, none⟩ = some (.int .i64 a2_0) ∧ w40.cell? ⟨gb769, 1, none⟩ = some (.int .i64 a2_1) ∧ w40.cell? ⟨gb769, 2, none⟩ = some (.int .i64 a2_2) ∧ w40.cell? ⟨gb769, 3, none⟩ = some (.int .i64 a2_3) ∧ w40.cell? ⟨gb769, 4, none⟩ = some (.int .i64 a2_4) ∧ w40.cell? ⟨gb769, 5, none⟩ = some (.int .i64 a2_5) ∧ w40.cell? ⟨gb770, 0, none⟩ = some (.int .i64 a3_0) ∧ w40.cell? ⟨gb770, 1, none⟩ = some (.int .i64 a3_1) ∧ w40.cell? ⟨gb770, 2, none⟩ = some (.int .i64 a3_2) ∧ w40.cell? ⟨gb770, 3, none⟩ = some (.int .i64 a3_3) ∧ w40.cell? ⟨gb770, 4, none⟩ = some (.int .i64 a3_4) ∧ w40.cell? ⟨gb770, 5, none⟩ = some (.int .i64 a3_5) := hS_
          refine norm_ (a' := ?_) ?_ ?_
          rotate_left
          ·simp only [putAll, Act.put, List.setIfInBounds_toArray, List.set_cons_zero, List.set_cons_succ]
           rfl
          refine two_ (i := 5) (j := 11) (Ni := some 44) (Nj := some 13) #[true, true, true, true, true, true, false, false, false, false, false, false, true, false, false, false, false] #[true, true, true, true, true, false, false, false, false, false, false, true, true, false, false, false, false] rfl rfl rfl rfl (two_of HT_.out (by kernel_rfl)) (by decide) (by decide) (fun K hK => ?_) (fun K hK => ?_)
          ·skip
           refine goes_ Try.func32 (by kernel_rfl) rfl #[.agg #[.int .i64 a0_0, .int .i64 a0_1, .int .i64 a0_2], .agg #[.int .i64 a1_0, .int .i64 a1_1, .int .i64 a1_2], .agg #[.int .i64 t780, .int .i64 t781, .int .i64 t782, .int .i64 t783, .int .i64 t784, .int .i64 t785]] (by rfl) rfl rfl (by (try simp only [List.map_toArray, List.map_cons, List.map_nil]); first | done | rfl | (simp only [List.length_drop, List.length_take]; rfl)) ?_
           with_reducible refine (slab_Range.calls kj31 a0_0 a0_1 a0_2 a1_0 a1_1 a1_2 t780 t781 t782 t783 t784 t785 t786 t787 t788 t789 t790 t791 _ A35.out).mono ?_
           rintro e w41 ⟨rfl, hb⟩
           refine ⟨_, rfl, ?_⟩
           replace BK767 := cB hb BK767
           replace BK768 := cB hb BK768
           replace BK769 := cB hb BK769
           replace BK770 := cB hb BK770
           replace BK778 := cB hb BK778
           replace BK779 := cB hb BK779
           replace BK793 := cB hb BK793
           replace HB := Aside0.mk (below_step (HB.out) hb)
           (try clear hb)
           (try clear hb2)
           (try clear hk)
           (try clear hi)
           refine hK.out _ _ ⟨(blk_cell BK767.out 0).trans rfl, (blk_cell BK767.out 1).trans rfl, (blk_cell BK767.out 2).trans rfl, (blk_cell BK768.out 0).trans rfl, (blk_cell BK768.out 1).trans rfl, (blk_cell BK768.out 2).trans rfl, (blk_cell BK769.out 0).trans rfl, (blk_cell BK769.out 1).trans rfl, (blk_cell BK769.out 2).trans rfl, (blk_cell BK769.out 3).trans rfl, (blk_cell BK769.out 4).trans rfl, (blk_cell BK769.out 5).trans rfl, (blk_cell BK770.out 0).trans rfl, (blk_cell BK770.out 1).trans rfl, (blk_cell BK770.out 2).trans rfl, (blk_cell BK770.out 3).trans rfl, (blk_cell BK770.out 4).trans rfl, (blk_cell BK770.out 5).trans rfl⟩ (fun hHeld => ?_)
           clear hK K
           refine norm_ (a' := ?_) ?_ ?_
           rotate_left
           ·show Act.put _ (some 44) _ = _
            simp only [Act.put, List.setIfInBounds_toArray, List.set_cons_zero, List.set_cons_succ, i64_w, i32_w]
            rfl
           refine pure_ (i := 6) (N := some 38) (v := ?_) (a' := ?_) #[true, true, true, true, true, true, true, false, false, false, false, false, true, false, false, false, false] rfl rfl (any_of HT_.out (by kernel_rfl)) (fun _ _ _ h => h) (Or.inl ⟨by rfl, ?_⟩) ?_ ?_
           rotate_left
           ·intro w'
            go_simp
            with_reducible rfl
           rotate_left
           ·simp only [Act.put, List.setIfInBounds_toArray, List.set_cons_zero, List.set_cons_succ, i64_w, i32_w]
            rfl
           refine pure_ (i := 7) (N := some 45) (v := ?_) (a' := ?_) #[true, true, true, true, true, true, true, true, false, false, false, false, true, false, false, false, false] rfl rfl (any_of HT_.out (by kernel_rfl)) (fun _ _ _ h => h) (Or.inl ⟨by rfl, ?_⟩) ?_ ?_
           rotate_left
           ·intro w'
            go_simp
            with_reducible rfl
           rotate_left
           ·simp only [Act.put, List.setIfInBounds_toArray, List.set_cons_zero, List.set_cons_succ, i64_w, i32_w]
            rfl
           refine pure_ (i := 8) (N := some 46) (v := ?_) (a' := ?_) #[true, true, true, true, true, true, true, true, true, false, false, false, true, false, false, false, false] rfl rfl (any_of HT_.out (by kernel_rfl)) (fun _ _ _ h => h) (Or.inl ⟨by rfl, ?_⟩) ?_ ?_
           rotate_left
           ·intro w'
            go_simp
            with_reducible rfl
           rotate_left
           ·simp only [Act.put, List.setIfInBounds_toArray, List.set_cons_zero, List.set_cons_succ, i64_w, i32_w]
            rfl
           refine pure_ (i := 9) (N := some 47) (v := ?_) (a' := ?_) #[true, true, true, true, true, true, true, true, true, true, false, false, true, false, false, false, false] rfl rfl (any_of HT_.out (by kernel_rfl)) (fun _ _ _ h => h) (Or.inl ⟨by rfl, ?_⟩) ?_ ?_
           rotate_left
           ·intro w'
            go_simp
            with_reducible rfl
           rotate_left
           ·simp only [Act.put, List.setIfInBounds_toArray, List.set_cons_zero, List.set_cons_succ, i64_w, i32_w]
            rfl
           refine pure_ (i := 10) (N := some 48) (v := ?_) (a' := ?_) #[true, true, true, true, true, true, true, true, true, true, true, false, true, false, false, false, false] rfl rfl (any_of HT_.out (by kernel_rfl)) (fun _ _ _ h => h) (Or.inl ⟨by rfl, ?_⟩) ?_ ?_
           rotate_left
           ·intro w'
            go_simp
            with_reducible rfl
           rotate_left
           ·simp only [Act.put, List.setIfInBounds_toArray, List.set_cons_zero, List.set_cons_succ, i64_w, i32_w]
            rfl
           exact norm_ (by simp only [putAll, Act.put, List.setIfInBounds_toArray, List.set_cons_zero, List.set_cons_succ] <;> rfl) (hJ4_5_12 (gb793) _ ⟨hHeld, (BK767.out), (BK768.out), (BK769.out), (BK770.out), (BK778.out), (BK779.out), (BK793.out), GE793.out, NB767_793.out, NB793_767.out, NB768_793.out, NB793_768.out, NB769_793.out, NB793_769.out, NB770_793.out, NB793_770.out, NB778_793.out, NB793_778.out, NB779_793.out, NB793_779.out, (HB.out)⟩)
          skip
          refine box_step ?hg (N := 13) ?hd (cs := #[.int .i64 0, .int .i64 0]) (t := 28) ?hr ?_; (case hd => rfl); (case hg => rfl); (case hr => first | (go_simp; done) | (go_simp; rfl))
          intro gb792 hg w41 hbox hb
          have BK792 := Aside0.mk (hbox)
          have GE792 := Aside0.mk (bG hg (HB.out))
          have NB767_792 := cN hg BK767
          have NB792_767 := cM hg BK767
          have NB768_792 := cN hg BK768
          have NB792_768 := cM hg BK768
          have NB769_792 := cN hg BK769
          have NB792_769 := cM hg BK769
          have NB770_792 := cN hg BK770
          have NB792_770 := cM hg BK770
          have NB778_792 := cN hg BK778
          have NB792_778 := cM hg BK778
          have NB779_792 := cN hg BK779
          have NB792_779 := cM hg BK779
          have NB793_792 := cN hg BK793
          have NB792_793 := cM hg BK793
          replace BK767 := cB hb BK767
          replace BK768 := cB hb BK768
          replace BK769 := cB hb BK769
          replace BK770 := cB hb BK770
          replace BK778 := cB hb BK778
          replace BK779 := cB hb BK779
          replace BK793 := cB hb BK793
          replace HB := Aside0.mk (below_step (HB.out) hb)
          clear hb hbox hg
          refine hK.out _ _ ⟨(blk_cell BK767.out 0).trans rfl, (blk_cell BK767.out 1).trans rfl, (blk_cell BK767.out 2).trans rfl, (blk_cell BK768.out 0).trans rfl, (blk_cell BK768.out 1).trans rfl, (blk_cell BK768.out 2).trans rfl, (blk_cell BK769.out 0).trans rfl, (blk_cell BK769.out 1).trans rfl, (blk_cell BK769.out 2).trans rfl, (blk_cell BK769.out 3).trans rfl, (blk_cell BK769.out 4).trans rfl, (blk_cell BK769.out 5).trans rfl, (blk_cell BK770.out 0).trans rfl, (blk_cell BK770.out 1).trans rfl, (blk_cell BK770.out 2).trans rfl, (blk_cell BK770.out 3).trans rfl, (blk_cell BK770.out 4).trans rfl, (blk_cell BK770.out 5).trans rfl⟩ (fun hHeld => ?_)
          clear hK K
          refine norm_ (a' := ?_) ?_ ?_
          rotate_left
          ·show Act.put _ (some 13) _ = _
           simp only [Act.put, List.setIfInBounds_toArray, List.set_cons_zero, List.set_cons_succ, i64_w, i32_w]
           rfl
          exact norm_ (by simp only [putAll, Act.put, List.setIfInBounds_toArray, List.set_cons_zero, List.set_cons_succ] <;> rfl) (hJ4_11_12 (gb792, gb793) _ ⟨hHeld, (BK767.out), (BK768.out), (BK769.out), (BK770.out), (BK778.out), (BK779.out), (BK792.out), (BK793.out), GE792.out, NB767_792.out, NB792_767.out, NB768_792.out, NB792_768.out, NB769_792.out, NB792_769.out, NB770_792.out, NB792_770.out, NB778_792.out, NB792_778.out, NB779_792.out, NB792_779.out, NB793_792.out, NB792_793.out, GE793.out, NB767_793.out, NB793_767.out, NB768_793.out, NB793_768.out, NB769_793.out, NB793_769.out, NB770_793.out, NB793_770.out, NB778_793.out, NB793_778.out, NB779_793.out, NB793_779.out, (HB.out)⟩)
         skip
         rintro gb792 w40 ⟨hS_, h0_, h1_, h2_, h3_, h4_, h5_, h6_, h7_, h8_, h9_, h10_, h11_, h12_, h13_, h14_, h15_, h16_, h17_, h18_, h19_, h20_⟩
         have n0_ : Aside0 (w40.heap[gb767]? = some (.cells #[.int .i64 a0_0, .int .i64 a0_1, .int .i64 a0_2] 23 (0, 0))) := ⟨h0_⟩
         have n1_ : Aside0 (w40.heap[gb768]? = some (.cells #[.int .i64 a1_0, .int .i64 a1_1, .int .i64 a1_2] 23 (0, 0))) := ⟨h1_⟩
         have n2_ : Aside0 (w40.heap[gb769]? = some (.cells #[.int .i64 a2_0, .int .i64 a2_1, .int .i64 a2_2, .int .i64 a2_3, .int .i64 a2_4, .int .i64 a2_5] 56 (0, 0))) := ⟨h2_⟩
         have n3_ : Aside0 (w40.heap[gb770]? = some (.cells #[.int .i64 a3_0, .int .i64 a3_1, .int .i64 a3_2, .int .i64 a3_3, .int .i64 a3_4, .int .i64 a3_5] 56 (0, 0))) := ⟨h3_⟩
         have n4_ : Aside0 (w40.heap[gb778]? = some (.cells #[.int .i64 t772, .int .i64 t773] 28 (0, 0))) := ⟨h4_⟩
         have n5_ : Aside0 (w40.heap[gb779]? = some (.cells #[.int .i64 t774, .int .i64 t775] 28 (0, 0))) := ⟨h5_⟩
         have n6_ : Aside0 (w40.heap[gb792]? = some (.cells #[.int .i64 0, .int .i64 0] 28 (0, 0))) := ⟨h6_⟩
         have GE792 : Aside0 (w.heap.size ≤ gb792) := ⟨h7_⟩
         have NB767_792 : Aside0 (gb767 ≠ gb792) := ⟨h8_⟩
         have NB792_767 : Aside0 (gb792 ≠ gb767) := ⟨h9_⟩
         have NB768_792 : Aside0 (gb768 ≠ gb792) := ⟨h10_⟩
         have NB792_768 : Aside0 (gb792 ≠ gb768) := ⟨h11_⟩
         have NB769_792 : Aside0 (gb769 ≠ gb792) := ⟨h12_⟩
         have NB792_769 : Aside0 (gb792 ≠ gb769) := ⟨h13_⟩
         have NB770_792 : Aside0 (gb770 ≠ gb792) := ⟨h14_⟩
         have NB792_770 : Aside0 (gb792 ≠ gb770) := ⟨h15_⟩
         have NB778_792 : Aside0 (gb778 ≠ gb792) := ⟨h16_⟩
         have NB792_778 : Aside0 (gb792 ≠ gb778) := ⟨h17_⟩
         have NB779_792 : Aside0 (gb779 ≠ gb792) := ⟨h18_⟩
         have NB792_779 : Aside0 (gb792 ≠ gb779) := ⟨h19_⟩
         have n20_ : Aside0 (Below w.heap.size w w40) := ⟨h20_⟩
         clear BK767
         clear BK768
         clear BK769
         clear BK770
         clear BK778
         clear BK779
         clear HB
         clear h0_ h1_ h2_ h3_ h4_ h5_ h6_ h7_ h8_ h9_ h10_ h11_ h12_ h13_ h14_ h15_ h16_ h17_ h18_ h19_ h20_
         have BK767 := n0_
         have BK768 := n1_
         have BK769 := n2_
         have BK770 := n3_
         have BK778 := n4_
         have BK779 := n5_
         have BK792 := n6_
         have HB := n20_
         clear n0_ n1_ n2_ n3_ n4_ n5_ n6_ n20_
         have hHeld : w40.cell? ⟨gb767, 0, none⟩ = some (.int .i64 a0_0) ∧ w40.cell? ⟨gb767, 1, none⟩ = some (.int .i64 a0_1) ∧ w40.cell? ⟨gb767, 2, none⟩ = some (.int .i64 a0_2) ∧ w40.cell? ⟨gb768, 0, none⟩ = some (.int .i64 a1_0) ∧ w40.cell? ⟨gb768, 1, none⟩ = some (.int .i64 a1_1) ∧ w40.cell? ⟨gb768, 2, none⟩ = some (.int .i64 a1_2) ∧ w40.cell? ⟨gb769, 0, none⟩ = some (.int .i64 a2_0) ∧ w40.cell? ⟨gb769, 1, none⟩ = some (.int .i64 a2_1) ∧ w40.cell? ⟨gb769, 2, none⟩ = some (.int .i64 a2_2) ∧ w40.cell? ⟨gb769, 3, none⟩ = some (.int .i64 a2_3) ∧ w40.cell? ⟨gb769, 4, none⟩ = some (.int .i64 a2_4) ∧ w40.cell? ⟨gb769, 5, none⟩ = some (.int .i64 a2_5) ∧ w40.cell? ⟨gb770, 0, none⟩ = some (.int .i64 a3_0) ∧ w40.cell? ⟨gb770, 1, none⟩ = some (.int .i64 a3_1) ∧ w40.cell? ⟨gb770, 2, none⟩ = some (.int .i64 a3_2) ∧ w40.cell? ⟨gb770, 3, none⟩ = some (.int .i64 a3_3) ∧ w40.cell? ⟨gb770, 4, none⟩ = some (.int .i64 a3_4) ∧ w40.cell? ⟨gb770, 5, none⟩ = some (.int .i64 a3_5) := hS_
         refine norm_ (a' := ?_) ?_ ?_
         rotate_left
         ·simp only [putAll, Act.put, List.setIfInBounds_toArray, List.set_cons_zero, List.set_cons_succ]
          rfl
         refine two_ (i := 5) (j := 12) (Ni := some 44) (Nj := some 14) #[true, true, true, true, true, true, false, false, false, false, false, true, false, false, false, false, false] #[true, true, true, true, true, false, false, false, false, false, false, true, true, false, false, false, false] rfl rfl rfl rfl (two_of HT_.out (by kernel_rfl)) (by decide) (by decide) (fun K hK => ?_) (fun K hK => ?_)
         ·skip
          refine goes_ Try.func32 (by kernel_rfl) rfl #[.agg #[.int .i64 a0_0, .int .i64 a0_1, .int .i64 a0_2], .agg #[.int .i64 a1_0, .int .i64 a1_1, .int .i64 a1_2], .agg #[.int .i64 t780, .int .i64 t781, .int .i64 t782, .int .i64 t783, .int .i64 t784, .int .i64 t785]] (by rfl) rfl rfl (by (try simp only [List.map_toArray, List.map_cons, List.map_nil]); first | done | rfl | (simp only [List.length_drop, List.length_take]; rfl)) ?_
          with_reducible refine (slab_Range.calls kj31 a0_0 a0_1 a0_2 a1_0 a1_1 a1_2 t780 t781 t782 t783 t784 t785 t786 t787 t788 t789 t790 t791 _ A35.out).mono ?_
          rintro e w41 ⟨rfl, hb⟩
          refine ⟨_, rfl, ?_⟩
          replace BK767 := cB hb BK767
          replace BK768 := cB hb BK768
          replace BK769 := cB hb BK769
          replace BK770 := cB hb BK770
          replace BK778 := cB hb BK778
          replace BK779 := cB hb BK779
          replace BK792 := cB hb BK792
          replace HB := Aside0.mk (below_step (HB.out) hb)
          (try clear hb)
          (try clear hb2)
          (try clear hk)
          (try clear hi)
          refine hK.out _ _ ⟨(blk_cell BK767.out 0).trans rfl, (blk_cell BK767.out 1).trans rfl, (blk_cell BK767.out 2).trans rfl, (blk_cell BK768.out 0).trans rfl, (blk_cell BK768.out 1).trans rfl, (blk_cell BK768.out 2).trans rfl, (blk_cell BK769.out 0).trans rfl, (blk_cell BK769.out 1).trans rfl, (blk_cell BK769.out 2).trans rfl, (blk_cell BK769.out 3).trans rfl, (blk_cell BK769.out 4).trans rfl, (blk_cell BK769.out 5).trans rfl, (blk_cell BK770.out 0).trans rfl, (blk_cell BK770.out 1).trans rfl, (blk_cell BK770.out 2).trans rfl, (blk_cell BK770.out 3).trans rfl, (blk_cell BK770.out 4).trans rfl, (blk_cell BK770.out 5).trans rfl⟩ (fun hHeld => ?_)
          clear hK K
          refine norm_ (a' := ?_) ?_ ?_
          rotate_left
          ·show Act.put _ (some 44) _ = _
           simp only [Act.put, List.setIfInBounds_toArray, List.set_cons_zero, List.set_cons_succ, i64_w, i32_w]
           rfl
          refine pure_ (i := 6) (N := some 38) (v := ?_) (a' := ?_) #[true, true, true, true, true, true, true, false, false, false, false, true, false, false, false, false, false] rfl rfl (any_of HT_.out (by kernel_rfl)) (fun _ _ _ h => h) (Or.inl ⟨by rfl, ?_⟩) ?_ ?_
          rotate_left
          ·intro w'
           go_simp
           with_reducible rfl
          rotate_left
          ·simp only [Act.put, List.setIfInBounds_toArray, List.set_cons_zero, List.set_cons_succ, i64_w, i32_w]
           rfl
          refine pure_ (i := 7) (N := some 45) (v := ?_) (a' := ?_) #[true, true, true, true, true, true, true, true, false, false, false, true, false, false, false, false, false] rfl rfl (any_of HT_.out (by kernel_rfl)) (fun _ _ _ h => h) (Or.inl ⟨by rfl, ?_⟩) ?_ ?_
          rotate_left
          ·intro w'
           go_simp
           with_reducible rfl
          rotate_left
          ·simp only [Act.put, List.setIfInBounds_toArray, List.set_cons_zero, List.set_cons_succ, i64_w, i32_w]
           rfl
          refine pure_ (i := 8) (N := some 46) (v := ?_) (a' := ?_) #[true, true, true, true, true, true, true, true, true, false, false, true, false, false, false, false, false] rfl rfl (any_of HT_.out (by kernel_rfl)) (fun _ _ _ h => h) (Or.inl ⟨by rfl, ?_⟩) ?_ ?_
          rotate_left
          ·intro w'
           go_simp
           with_reducible rfl
          rotate_left
          ·simp only [Act.put, List.setIfInBounds_toArray, List.set_cons_zero, List.set_cons_succ, i64_w, i32_w]
           rfl
          refine pure_ (i := 9) (N := some 47) (v := ?_) (a' := ?_) #[true, true, true, true, true, true, true, true, true, true, false, true, false, false, false, false, false] rfl rfl (any_of HT_.out (by kernel_rfl)) (fun _ _ _ h => h) (Or.inl ⟨by rfl, ?_⟩) ?_ ?_
          rotate_left
          ·intro w'
           go_simp
           with_reducible rfl
          rotate_left
          ·simp only [Act.put, List.setIfInBounds_toArray, List.set_cons_zero, List.set_cons_succ, i64_w, i32_w]
           rfl
          refine pure_ (i := 10) (N := some 48) (v := ?_) (a' := ?_) #[true, true, true, true, true, true, true, true, true, true, true, true, false, false, false, false, false] rfl rfl (any_of HT_.out (by kernel_rfl)) (fun _ _ _ h => h) (Or.inl ⟨by rfl, ?_⟩) ?_ ?_
          rotate_left
          ·intro w'
           go_simp
           with_reducible rfl
          rotate_left
          ·simp only [Act.put, List.setIfInBounds_toArray, List.set_cons_zero, List.set_cons_succ, i64_w, i32_w]
           rfl
          exact norm_ (by simp only [putAll, Act.put, List.setIfInBounds_toArray, List.set_cons_zero, List.set_cons_succ] <;> rfl) (hJ4_5_11 (gb792) _ ⟨hHeld, (BK767.out), (BK768.out), (BK769.out), (BK770.out), (BK778.out), (BK779.out), (BK792.out), GE792.out, NB767_792.out, NB792_767.out, NB768_792.out, NB792_768.out, NB769_792.out, NB792_769.out, NB770_792.out, NB792_770.out, NB778_792.out, NB792_778.out, NB779_792.out, NB792_779.out, (HB.out)⟩)
         skip
         refine box_step ?hg (N := 14) ?hd (cs := #[.int .i64 0, .int .i64 0]) (t := 28) ?hr ?_; (case hd => rfl); (case hg => rfl); (case hr => first | (go_simp; done) | (go_simp; rfl))
         intro gb793 hg w41 hbox hb
         have BK793 := Aside0.mk (hbox)
         have GE793 := Aside0.mk (bG hg (HB.out))
         have NB767_793 := cN hg BK767
         have NB793_767 := cM hg BK767
         have NB768_793 := cN hg BK768
         have NB793_768 := cM hg BK768
         have NB769_793 := cN hg BK769
         have NB793_769 := cM hg BK769
         have NB770_793 := cN hg BK770
         have NB793_770 := cM hg BK770
         have NB778_793 := cN hg BK778
         have NB793_778 := cM hg BK778
         have NB779_793 := cN hg BK779
         have NB793_779 := cM hg BK779
         have NB792_793 := cN hg BK792
         have NB793_792 := cM hg BK792
         replace BK767 := cB hb BK767
         replace BK768 := cB hb BK768
         replace BK769 := cB hb BK769
         replace BK770 := cB hb BK770
         replace BK778 := cB hb BK778
         replace BK779 := cB hb BK779
         replace BK792 := cB hb BK792
         replace HB := Aside0.mk (below_step (HB.out) hb)
         clear hb hbox hg
         refine hK.out _ _ ⟨(blk_cell BK767.out 0).trans rfl, (blk_cell BK767.out 1).trans rfl, (blk_cell BK767.out 2).trans rfl, (blk_cell BK768.out 0).trans rfl, (blk_cell BK768.out 1).trans rfl, (blk_cell BK768.out 2).trans rfl, (blk_cell BK769.out 0).trans rfl, (blk_cell BK769.out 1).trans rfl, (blk_cell BK769.out 2).trans rfl, (blk_cell BK769.out 3).trans rfl, (blk_cell BK769.out 4).trans rfl, (blk_cell BK769.out 5).trans rfl, (blk_cell BK770.out 0).trans rfl, (blk_cell BK770.out 1).trans rfl, (blk_cell BK770.out 2).trans rfl, (blk_cell BK770.out 3).trans rfl, (blk_cell BK770.out 4).trans rfl, (blk_cell BK770.out 5).trans rfl⟩ (fun hHeld => ?_)
         clear hK K
         refine norm_ (a' := ?_) ?_ ?_
         rotate_left
         ·show Act.put _ (some 14) _ = _
          simp only [Act.put, List.setIfInBounds_toArray, List.set_cons_zero, List.set_cons_succ, i64_w, i32_w]
          rfl
         exact norm_ (by simp only [putAll, Act.put, List.setIfInBounds_toArray, List.set_cons_zero, List.set_cons_succ] <;> rfl) (hJ4_11_12 (gb792, gb793) _ ⟨hHeld, (BK767.out), (BK768.out), (BK769.out), (BK770.out), (BK778.out), (BK779.out), (BK792.out), (BK793.out), GE792.out, NB767_792.out, NB792_767.out, NB768_792.out, NB792_768.out, NB769_792.out, NB792_769.out, NB770_792.out, NB792_770.out, NB778_792.out, NB792_778.out, NB779_792.out, NB792_779.out, NB793_792.out, NB792_793.out, GE793.out, NB767_793.out, NB793_767.out, NB768_793.out, NB793_768.out, NB769_793.out, NB793_769.out, NB770_793.out, NB793_770.out, NB778_793.out, NB793_778.out, NB779_793.out, NB793_779.out, (HB.out)⟩)
        skip
        rintro _ w40 ⟨hS_, h0_, h1_, h2_, h3_, h4_, h5_, h6_⟩
        have n0_ : Aside0 (w40.heap[gb767]? = some (.cells #[.int .i64 a0_0, .int .i64 a0_1, .int .i64 a0_2] 23 (0, 0))) := ⟨h0_⟩
        have n1_ : Aside0 (w40.heap[gb768]? = some (.cells #[.int .i64 a1_0, .int .i64 a1_1, .int .i64 a1_2] 23 (0, 0))) := ⟨h1_⟩
        have n2_ : Aside0 (w40.heap[gb769]? = some (.cells #[.int .i64 a2_0, .int .i64 a2_1, .int .i64 a2_2, .int .i64 a2_3, .int .i64 a2_4, .int .i64 a2_5] 56 (0, 0))) := ⟨h2_⟩
        have n3_ : Aside0 (w40.heap[gb770]? = some (.cells #[.int .i64 a3_0, .int .i64 a3_1, .int .i64 a3_2, .int .i64 a3_3, .int .i64 a3_4, .int .i64 a3_5] 56 (0, 0))) := ⟨h3_⟩
        have n4_ : Aside0 (w40.heap[gb778]? = some (.cells #[.int .i64 t772, .int .i64 t773] 28 (0, 0))) := ⟨h4_⟩
        have n5_ : Aside0 (w40.heap[gb779]? = some (.cells #[.int .i64 t774, .int .i64 t775] 28 (0, 0))) := ⟨h5_⟩
        have n6_ : Aside0 (Below w.heap.size w w40) := ⟨h6_⟩
        clear BK767
        clear BK768
        clear BK769
        clear BK770
        clear BK778
        clear BK779
        clear HB
        clear h0_ h1_ h2_ h3_ h4_ h5_ h6_
        have BK767 := n0_
        have BK768 := n1_
        have BK769 := n2_
        have BK770 := n3_
        have BK778 := n4_
        have BK779 := n5_
        have HB := n6_
        clear n0_ n1_ n2_ n3_ n4_ n5_ n6_
        have hHeld : w40.cell? ⟨gb767, 0, none⟩ = some (.int .i64 a0_0) ∧ w40.cell? ⟨gb767, 1, none⟩ = some (.int .i64 a0_1) ∧ w40.cell? ⟨gb767, 2, none⟩ = some (.int .i64 a0_2) ∧ w40.cell? ⟨gb768, 0, none⟩ = some (.int .i64 a1_0) ∧ w40.cell? ⟨gb768, 1, none⟩ = some (.int .i64 a1_1) ∧ w40.cell? ⟨gb768, 2, none⟩ = some (.int .i64 a1_2) ∧ w40.cell? ⟨gb769, 0, none⟩ = some (.int .i64 a2_0) ∧ w40.cell? ⟨gb769, 1, none⟩ = some (.int .i64 a2_1) ∧ w40.cell? ⟨gb769, 2, none⟩ = some (.int .i64 a2_2) ∧ w40.cell? ⟨gb769, 3, none⟩ = some (.int .i64 a2_3) ∧ w40.cell? ⟨gb769, 4, none⟩ = some (.int .i64 a2_4) ∧ w40.cell? ⟨gb769, 5, none⟩ = some (.int .i64 a2_5) ∧ w40.cell? ⟨gb770, 0, none⟩ = some (.int .i64 a3_0) ∧ w40.cell? ⟨gb770, 1, none⟩ = some (.int .i64 a3_1) ∧ w40.cell? ⟨gb770, 2, none⟩ = some (.int .i64 a3_2) ∧ w40.cell? ⟨gb770, 3, none⟩ = some (.int .i64 a3_3) ∧ w40.cell? ⟨gb770, 4, none⟩ = some (.int .i64 a3_4) ∧ w40.cell? ⟨gb770, 5, none⟩ = some (.int .i64 a3_5) := hS_
        refine norm_ (a' := ?_) ?_ ?_
        rotate_left
        ·simp only [putAll, Act.put, List.setIfInBounds_toArray, List.set_cons_zero, List.set_cons_succ]
         rfl
        refine two_ (i := 11) (j := 12) (Ni := some 13) (Nj := some 14) #[true, true, true, true, true, true, true, true, true, true, true, true, false, false, false, false, false] #[true, true, true, true, true, true, true, true, true, true, true, false, true, false, false, false, false] rfl rfl rfl rfl (two_of HT_.out (by kernel_rfl)) (by decide) (by decide) (fun K hK => ?_) (fun K hK => ?_)
        ·skip
         refine box_step ?hg (N := 13) ?hd (cs := #[.int .i64 0, .int .i64 0]) (t := 28) ?hr ?_; (case hd => rfl); (case hg => rfl); (case hr => first | (go_simp; done) | (go_simp; rfl))
         intro gb792 hg w41 hbox hb
         have BK792 := Aside0.mk (hbox)
         have GE792 := Aside0.mk (bG hg (HB.out))
         have NB767_792 := cN hg BK767
         have NB792_767 := cM hg BK767
         have NB768_792 := cN hg BK768
         have NB792_768 := cM hg BK768
         have NB769_792 := cN hg BK769
         have NB792_769 := cM hg BK769
         have NB770_792 := cN hg BK770
         have NB792_770 := cM hg BK770
         have NB778_792 := cN hg BK778
         have NB792_778 := cM hg BK778
         have NB779_792 := cN hg BK779
         have NB792_779 := cM hg BK779
         replace BK767 := cB hb BK767
         replace BK768 := cB hb BK768
         replace BK769 := cB hb BK769
         replace BK770 := cB hb BK770
         replace BK778 := cB hb BK778
         replace BK779 := cB hb BK779
         replace HB := Aside0.mk (below_step (HB.out) hb)
         clear hb hbox hg
         refine hK.out _ _ ⟨(blk_cell BK767.out 0).trans rfl, (blk_cell BK767.out 1).trans rfl, (blk_cell BK767.out 2).trans rfl, (blk_cell BK768.out 0).trans rfl, (blk_cell BK768.out 1).trans rfl, (blk_cell BK768.out 2).trans rfl, (blk_cell BK769.out 0).trans rfl, (blk_cell BK769.out 1).trans rfl, (blk_cell BK769.out 2).trans rfl, (blk_cell BK769.out 3).trans rfl, (blk_cell BK769.out 4).trans rfl, (blk_cell BK769.out 5).trans rfl, (blk_cell BK770.out 0).trans rfl, (blk_cell BK770.out 1).trans rfl, (blk_cell BK770.out 2).trans rfl, (blk_cell BK770.out 3).trans rfl, (blk_cell BK770.out 4).trans rfl, (blk_cell BK770.out 5).trans rfl⟩ (fun hHeld => ?_)
         clear hK K
         refine norm_ (a' := ?_) ?_ ?_
         rotate_left
         ·show Act.put _ (some 13) _ = _
          simp only [Act.put, List.setIfInBounds_toArray, List.set_cons_zero, List.set_cons_succ, i64_w, i32_w]
          rfl
         exact norm_ (by simp only [putAll, Act.put, List.setIfInBounds_toArray, List.set_cons_zero, List.set_cons_succ] <;> rfl) (hJ4_5_11 (gb792) _ ⟨hHeld, (BK767.out), (BK768.out), (BK769.out), (BK770.out), (BK778.out), (BK779.out), (BK792.out), GE792.out, NB767_792.out, NB792_767.out, NB768_792.out, NB792_768.out, NB769_792.out, NB792_769.out, NB770_792.out, NB792_770.out, NB778_792.out, NB792_778.out, NB779_792.out, NB792_779.out, (HB.out)⟩)
        skip
        refine box_step ?hg (N := 14) ?hd (cs := #[.int .i64 0, .int .i64 0]) (t := 28) ?hr ?_; (case hd => rfl); (case hg => rfl); (case hr => first | (go_simp; done) | (go_simp; rfl))
        intro gb793 hg w41 hbox hb
        have BK793 := Aside0.mk (hbox)
        have GE793 := Aside0.mk (bG hg (HB.out))
        have NB767_793 := cN hg BK767
        have NB793_767 := cM hg BK767
        have NB768_793 := cN hg BK768
        have NB793_768 := cM hg BK768
        have NB769_793 := cN hg BK769
        have NB793_769 := cM hg BK769
        have NB770_793 := cN hg BK770
        have NB793_770 := cM hg BK770
        have NB778_793 := cN hg BK778
        have NB793_778 := cM hg BK778
        have NB779_793 := cN hg BK779
        have NB793_779 := cM hg BK779
        replace BK767 := cB hb BK767
        replace BK768 := cB hb BK768
        replace BK769 := cB hb BK769
        replace BK770 := cB hb BK770
        replace BK778 := cB hb BK778
        replace BK779 := cB hb BK779
        replace HB := Aside0.mk (below_step (HB.out) hb)
        clear hb hbox hg
        refine hK.out _ _ ⟨(blk_cell BK767.out 0).trans rfl, (blk_cell BK767.out 1).trans rfl, (blk_cell BK767.out 2).trans rfl, (blk_cell BK768.out 0).trans rfl, (blk_cell BK768.out 1).trans rfl, (blk_cell BK768.out 2).trans rfl, (blk_cell BK769.out 0).trans rfl, (blk_cell BK769.out 1).trans rfl, (blk_cell BK769.out 2).trans rfl, (blk_cell BK769.out 3).trans rfl, (blk_cell BK769.out 4).trans rfl, (blk_cell BK769.out 5).trans rfl, (blk_cell BK770.out 0).trans rfl, (blk_cell BK770.out 1).trans rfl, (blk_cell BK770.out 2).trans rfl, (blk_cell BK770.out 3).trans rfl, (blk_cell BK770.out 4).trans rfl, (blk_cell BK770.out 5).trans rfl⟩ (fun hHeld => ?_)
        clear hK K
        refine norm_ (a' := ?_) ?_ ?_
        rotate_left
        ·show Act.put _ (some 14) _ = _
         simp only [Act.put, List.setIfInBounds_toArray, List.set_cons_zero, List.set_cons_succ, i64_w, i32_w]
         rfl
        exact norm_ (by simp only [putAll, Act.put, List.setIfInBounds_toArray, List.set_cons_zero, List.set_cons_succ] <;> rfl) (hJ4_5_12 (gb793) _ ⟨hHeld, (BK767.out), (BK768.out), (BK769.out), (BK770.out), (BK778.out), (BK779.out), (BK793.out), GE793.out, NB767_793.out, NB793_767.out, NB768_793.out, NB793_768.out, NB769_793.out, NB793_769.out, NB770_793.out, NB793_770.out, NB778_793.out, NB793_778.out, NB779_793.out, NB793_779.out, (HB.out)⟩)
       skip
       rintro ⟨gb792, gb793⟩ w41 ⟨hS_, h0_, h1_, h2_, h3_, h4_, h5_, h6_, h7_, h8_, h9_, h10_, h11_, h12_, h13_, h14_, h15_, h16_, h17_, h18_, h19_, h20_, h21_, h22_, h23_, h24_, h25_, h26_, h27_, h28_, h29_, h30_, h31_, h32_, h33_, h34_, h35_, h36_⟩
       have n0_ : Aside0 (w41.heap[gb767]? = some (.cells #[.int .i64 a0_0, .int .i64 a0_1, .int .i64 a0_2] 23 (0, 0))) := ⟨h0_⟩
       have n1_ : Aside0 (w41.heap[gb768]? = some (.cells #[.int .i64 a1_0, .int .i64 a1_1, .int .i64 a1_2] 23 (0, 0))) := ⟨h1_⟩
       have n2_ : Aside0 (w41.heap[gb769]? = some (.cells #[.int .i64 a2_0, .int .i64 a2_1, .int .i64 a2_2, .int .i64 a2_3, .int .i64 a2_4, .int .i64 a2_5] 56 (0, 0))) := ⟨h2_⟩
       have n3_ : Aside0 (w41.heap[gb770]? = some (.cells #[.int .i64 a3_0, .int .i64 a3_1, .int .i64 a3_2, .int .i64 a3_3, .int .i64 a3_4, .int .i64 a3_5] 56 (0, 0))) := ⟨h3_⟩
       have n4_ : Aside0 (w41.heap[gb778]? = some (.cells #[.int .i64 t772, .int .i64 t773] 28 (0, 0))) := ⟨h4_⟩
       have n5_ : Aside0 (w41.heap[gb779]? = some (.cells #[.int .i64 t774, .int .i64 t775] 28 (0, 0))) := ⟨h5_⟩
       have n6_ : Aside0 (w41.heap[gb792]? = some (.cells #[.int .i64 0, .int .i64 0] 28 (0, 0))) := ⟨h6_⟩
       have n7_ : Aside0 (w41.heap[gb793]? = some (.cells #[.int .i64 0, .int .i64 0] 28 (0, 0))) := ⟨h7_⟩
       have GE792 : Aside0 (w.heap.size ≤ gb792) := ⟨h8_⟩
       have NB767_792 : Aside0 (gb767 ≠ gb792) := ⟨h9_⟩
       have NB792_767 : Aside0 (gb792 ≠ gb767) := ⟨h10_⟩
       have NB768_792 : Aside0 (gb768 ≠ gb792) := ⟨h11_⟩
       have NB792_768 : Aside0 (gb792 ≠ gb768) := ⟨h12_⟩
       have NB769_792 : Aside0 (gb769 ≠ gb792) := ⟨h13_⟩
       have NB792_769 : Aside0 (gb792 ≠ gb769) := ⟨h14_⟩
       have NB770_792 : Aside0 (gb770 ≠ gb792) := ⟨h15_⟩
       have NB792_770 : Aside0 (gb792 ≠ gb770) := ⟨h16_⟩
       have NB778_792 : Aside0 (gb778 ≠ gb792) := ⟨h17_⟩
       have NB792_778 : Aside0 (gb792 ≠ gb778) := ⟨h18_⟩
       have NB779_792 : Aside0 (gb779 ≠ gb792) := ⟨h19_⟩
       have NB792_779 : Aside0 (gb792 ≠ gb779) := ⟨h20_⟩
       have NB793_792 : Aside0 (gb793 ≠ gb792) := ⟨h21_⟩
       have NB792_793 : Aside0 (gb792 ≠ gb793) := ⟨h22_⟩
       have GE793 : Aside0 (w.heap.size ≤ gb793) := ⟨h23_⟩
       have NB767_793 : Aside0 (gb767 ≠ gb793) := ⟨h24_⟩
       have NB793_767 : Aside0 (gb793 ≠ gb767) := ⟨h25_⟩
       have NB768_793 : Aside0 (gb768 ≠ gb793) := ⟨h26_⟩
       have NB793_768 : Aside0 (gb793 ≠ gb768) := ⟨h27_⟩
       have NB769_793 : Aside0 (gb769 ≠ gb793) := ⟨h28_⟩
       have NB793_769 : Aside0 (gb793 ≠ gb769) := ⟨h29_⟩
       have NB770_793 : Aside0 (gb770 ≠ gb793) := ⟨h30_⟩
       have NB793_770 : Aside0 (gb793 ≠ gb770) := ⟨h31_⟩
       have NB778_793 : Aside0 (gb778 ≠ gb793) := ⟨h32_⟩
       have NB793_778 : Aside0 (gb793 ≠ gb778) := ⟨h33_⟩
       have NB779_793 : Aside0 (gb779 ≠ gb793) := ⟨h34_⟩
       have NB793_779 : Aside0 (gb793 ≠ gb779) := ⟨h35_⟩
       have n36_ : Aside0 (Below w.heap.size w w41) := ⟨h36_⟩
       clear BK767
       clear BK768
       clear BK769
       clear BK770
       clear BK778
       clear BK779
       clear HB
       clear h0_ h1_ h2_ h3_ h4_ h5_ h6_ h7_ h8_ h9_ h10_ h11_ h12_ h13_ h14_ h15_ h16_ h17_ h18_ h19_ h20_ h21_ h22_ h23_ h24_ h25_ h26_ h27_ h28_ h29_ h30_ h31_ h32_ h33_ h34_ h35_ h36_
       have BK767 := n0_
       have BK768 := n1_
       have BK769 := n2_
       have BK770 := n3_
       have BK778 := n4_
       have BK779 := n5_
       have BK792 := n6_
       have BK793 := n7_
       have HB := n36_
       clear n0_ n1_ n2_ n3_ n4_ n5_ n6_ n7_ n36_
       have hHeld : w41.cell? ⟨gb767, 0, none⟩ = some (.int .i64 a0_0) ∧ w41.cell? ⟨gb767, 1, none⟩ = some (.int .i64 a0_1) ∧ w41.cell? ⟨gb767, 2, none⟩ = some (.int .i64 a0_2) ∧ w41.cell? ⟨gb768, 0, none⟩ = some (.int .i64 a1_0) ∧ w41.cell? ⟨gb768, 1, none⟩ = some (.int .i64 a1_1) ∧ w41.cell? ⟨gb768, 2, none⟩ = some (.int .i64 a1_2) ∧ w41.cell? ⟨gb769, 0, none⟩ = some (.int .i64 a2_0) ∧ w41.cell? ⟨gb769, 1, none⟩ = some (.int .i64 a2_1) ∧ w41.cell? ⟨gb769, 2, none⟩ = some (.int .i64 a2_2) ∧ w41.cell? ⟨gb769, 3, none⟩ = some (.int .i64 a2_3) ∧ w41.cell? ⟨gb769, 4, none⟩ = some (.int .i64 a2_4) ∧ w41.cell? ⟨gb769, 5, none⟩ = some (.int .i64 a2_5) ∧ w41.cell? ⟨gb770, 0, none⟩ = some (.int .i64 a3_0) ∧ w41.cell? ⟨gb770, 1, none⟩ = some (.int .i64 a3_1) ∧ w41.cell? ⟨gb770, 2, none⟩ = some (.int .i64 a3_2) ∧ w41.cell? ⟨gb770, 3, none⟩ = some (.int .i64 a3_3) ∧ w41.cell? ⟨gb770, 4, none⟩ = some (.int .i64 a3_4) ∧ w41.cell? ⟨gb770, 5, none⟩ = some (.int .i64 a3_5) := hS_
       refine norm_ (a' := ?_) ?_ ?_
       rotate_left
       ·simp only [putAll, Act.put, List.setIfInBounds_toArray, List.set_cons_zero, List.set_cons_succ]
        rfl
       refine one_ (i := 5) (N := some 44) #[true, true, true, true, true, true, false, false, false, false, false, true, true, false, false, false, false] rfl rfl (one_of HT_.out (by kernel_rfl)) (by decide) (fun K hK => ?_)
       refine goes_ Try.func32 (by kernel_rfl) rfl #[.agg #[.int .i64 a0_0, .int .i64 a0_1, .int .i64 a0_2], .agg #[.int .i64 a1_0, .int .i64 a1_1, .int .i64 a1_2], .agg #[.int .i64 t780, .int .i64 t781, .int .i64 t782, .int .i64 t783, .int .i64 t784, .int .i64 t785]] (by rfl) rfl rfl (by (try simp only [List.map_toArray, List.map_cons, List.map_nil]); first | done | rfl | (simp only [List.length_drop, List.length_take]; rfl)) ?_
       with_reducible refine (slab_Range.calls kj31 a0_0 a0_1 a0_2 a1_0 a1_1 a1_2 t780 t781 t782 t783 t784 t785 t786 t787 t788 t789 t790 t791 _ A35.out).mono ?_
       rintro e w42 ⟨rfl, hb⟩
       refine ⟨_, rfl, ?_⟩
       replace BK767 := cB hb BK767
       replace BK768 := cB hb BK768
       replace BK769 := cB hb BK769
       replace BK770 := cB hb BK770
       replace BK778 := cB hb BK778
       replace BK779 := cB hb BK779
       replace BK792 := cB hb BK792
       replace BK793 := cB hb BK793
       replace HB := Aside0.mk (below_step (HB.out) hb)
       (try clear hb)
       (try clear hb2)
       (try clear hk)
       (try clear hi)
       refine hK.out _ _ ⟨(blk_cell BK767.out 0).trans rfl, (blk_cell BK767.out 1).trans rfl, (blk_cell BK767.out 2).trans rfl, (blk_cell BK768.out 0).trans rfl, (blk_cell BK768.out 1).trans rfl, (blk_cell BK768.out 2).trans rfl, (blk_cell BK769.out 0).trans rfl, (blk_cell BK769.out 1).trans rfl, (blk_cell BK769.out 2).trans rfl, (blk_cell BK769.out 3).trans rfl, (blk_cell BK769.out 4).trans rfl, (blk_cell BK769.out 5).trans rfl, (blk_cell BK770.out 0).trans rfl, (blk_cell BK770.out 1).trans rfl, (blk_cell BK770.out 2).trans rfl, (blk_cell BK770.out 3).trans rfl, (blk_cell BK770.out 4).trans rfl, (blk_cell BK770.out 5).trans rfl⟩ (fun hHeld => ?_)
       clear hK K
       refine norm_ (a' := ?_) ?_ ?_
       rotate_left
       ·show Act.put _ (some 44) _ = _
        simp only [Act.put, List.setIfInBounds_toArray, List.set_cons_zero, List.set_cons_succ, i64_w, i32_w]
        rfl
       refine pure_ (i := 6) (N := some 38) (v := ?_) (a' := ?_) #[true, true, true, true, true, true, true, false, false, false, false, true, true, false, false, false, false] rfl rfl (any_of HT_.out (by kernel_rfl)) (fun _ _ _ h => h) (Or.inl ⟨by rfl, ?_⟩) ?_ ?_
       rotate_left
       ·intro w'
        go_simp
        with_reducible rfl
       rotate_left
       ·simp only [Act.put, List.setIfInBounds_toArray, List.set_cons_zero, List.set_cons_succ, i64_w, i32_w]
        rfl
       refine pure_ (i := 7) (N := some 45) (v := ?_) (a' := ?_) #[true, true, true, true, true, true, true, true, false, false, false, true, true, false, false, false, false] rfl rfl (any_of HT_.out (by kernel_rfl)) (fun _ _ _ h => h) (Or.inl ⟨by rfl, ?_⟩) ?_ ?_
       rotate_left
       ·intro w'
        go_simp
        with_reducible rfl
       rotate_left
       ·simp only [Act.put, List.setIfInBounds_toArray, List.set_cons_zero, List.set_cons_succ, i64_w, i32_w]
        rfl
       refine pure_ (i := 8) (N := some 46) (v := ?_) (a' := ?_) #[true, true, true, true, true, true, true, true, true, false, false, true, true, false, false, false, false] rfl rfl (any_of HT_.out (by kernel_rfl)) (fun _ _ _ h => h) (Or.inl ⟨by rfl, ?_⟩) ?_ ?_
       rotate_left
       ·intro w'
        go_simp
        with_reducible rfl
       rotate_left
       ·simp only [Act.put, List.setIfInBounds_toArray, List.set_cons_zero, List.set_cons_succ, i64_w, i32_w]
        rfl
       refine pure_ (i := 9) (N := some 47) (v := ?_) (a' := ?_) #[true, true, true, true, true, true, true, true, true, true, false, true, true, false, false, false, false] rfl rfl (any_of HT_.out (by kernel_rfl)) (fun _ _ _ h => h) (Or.inl ⟨by rfl, ?_⟩) ?_ ?_
       rotate_left
       ·intro w'
        go_simp
        with_reducible rfl
       rotate_left
       ·simp only [Act.put, List.setIfInBounds_toArray, List.set_cons_zero, List.set_cons_succ, i64_w, i32_w]
        rfl
       refine pure_ (i := 10) (N := some 48) (v := ?_) (a' := ?_) #[true, true, true, true, true, true, true, true, true, true, true, true, true, false, false, false, false] rfl rfl (any_of HT_.out (by kernel_rfl)) (fun _ _ _ h => h) (Or.inl ⟨by rfl, ?_⟩) ?_ ?_
       rotate_left
       ·intro w'
        go_simp
        with_reducible rfl
       rotate_left
       ·simp only [Act.put, List.setIfInBounds_toArray, List.set_cons_zero, List.set_cons_succ, i64_w, i32_w]
        rfl
       exact norm_ (by simp only [putAll, Act.put, List.setIfInBounds_toArray, List.set_cons_zero, List.set_cons_succ] <;> rfl) (hJ4_5_11_12 (gb792, gb793) _ ⟨hHeld, (BK767.out), (BK768.out), (BK769.out), (BK770.out), (BK778.out), (BK779.out), (BK792.out), (BK793.out), GE792.out, NB767_792.out, NB792_767.out, NB768_792.out, NB792_768.out, NB769_792.out, NB792_769.out, NB770_792.out, NB792_770.out, NB778_792.out, NB792_778.out, NB779_792.out, NB792_779.out, NB793_792.out, NB792_793.out, GE793.out, NB767_793.out, NB793_767.out, NB768_793.out, NB793_768.out, NB769_793.out, NB793_769.out, NB770_793.out, NB793_770.out, NB778_793.out, NB793_778.out, NB779_793.out, NB793_779.out, (HB.out)⟩)
      skip
      rintro gb793 w41 ⟨hS_, h0_, h1_, h2_, h3_, h4_, h5_, h6_, h7_, h8_, h9_, h10_, h11_, h12_, h13_, h14_, h15_, h16_, h17_, h18_, h19_, h20_⟩
      have n0_ : Aside0 (w41.heap[gb767]? = some (.cells #[.int .i64 a0_0, .int .i64 a0_1, .int .i64 a0_2] 23 (0, 0))) := ⟨h0_⟩
      have n1_ : Aside0 (w41.heap[gb768]? = some (.cells #[.int .i64 a1_0, .int .i64 a1_1, .int .i64 a1_2] 23 (0, 0))) := ⟨h1_⟩
      have n2_ : Aside0 (w41.heap[gb769]? = some (.cells #[.int .i64 a2_0, .int .i64 a2_1, .int .i64 a2_2, .int .i64 a2_3, .int .i64 a2_4, .int .i64 a2_5] 56 (0, 0))) := ⟨h2_⟩
      have n3_ : Aside0 (w41.heap[gb770]? = some (.cells #[.int .i64 a3_0, .int .i64 a3_1, .int .i64 a3_2, .int .i64 a3_3, .int .i64 a3_4, .int .i64 a3_5] 56 (0, 0))) := ⟨h3_⟩
      have n4_ : Aside0 (w41.heap[gb778]? = some (.cells #[.int .i64 t772, .int .i64 t773] 28 (0, 0))) := ⟨h4_⟩
      have n5_ : Aside0 (w41.heap[gb779]? = some (.cells #[.int .i64 t774, .int .i64 t775] 28 (0, 0))) := ⟨h5_⟩
      have n6_ : Aside0 (w41.heap[gb793]? = some (.cells #[.int .i64 0, .int .i64 0] 28 (0, 0))) := ⟨h6_⟩
      have GE793 : Aside0 (w.heap.size ≤ gb793) := ⟨h7_⟩
      have NB767_793 : Aside0 (gb767 ≠ gb793) := ⟨h8_⟩
      have NB793_767 : Aside0 (gb793 ≠ gb767) := ⟨h9_⟩
      have NB768_793 : Aside0 (gb768 ≠ gb793) := ⟨h10_⟩
      have NB793_768 : Aside0 (gb793 ≠ gb768) := ⟨h11_⟩
      have NB769_793 : Aside0 (gb769 ≠ gb793) := ⟨h12_⟩
      have NB793_769 : Aside0 (gb793 ≠ gb769) := ⟨h13_⟩
      have NB770_793 : Aside0 (gb770 ≠ gb793) := ⟨h14_⟩
      have NB793_770 : Aside0 (gb793 ≠ gb770) := ⟨h15_⟩
      have NB778_793 : Aside0 (gb778 ≠ gb793) := ⟨h16_⟩
      have NB793_778 : Aside0 (gb793 ≠ gb778) := ⟨h17_⟩
      have NB779_793 : Aside0 (gb779 ≠ gb793) := ⟨h18_⟩
      have NB793_779 : Aside0 (gb793 ≠ gb779) := ⟨h19_⟩
      have n20_ : Aside0 (Below w.heap.size w w41) := ⟨h20_⟩
      clear BK767
      clear BK768
      clear BK769
      clear BK770
      clear BK778
      clear BK779
      clear HB
      clear h0_ h1_ h2_ h3_ h4_ h5_ h6_ h7_ h8_ h9_ h10_ h11_ h12_ h13_ h14_ h15_ h16_ h17_ h18_ h19_ h20_
      have BK767 := n0_
      have BK768 := n1_
      have BK769 := n2_
      have BK770 := n3_
      have BK778 := n4_
      have BK779 := n5_
      have BK793 := n6_
      have HB := n20_
      clear n0_ n1_ n2_ n3_ n4_ n5_ n6_ n20_
      have hHeld : w41.cell? ⟨gb767, 0, none⟩ = some (.int .i64 a0_0) ∧ w41.cell? ⟨gb767, 1, none⟩ = some (.int .i64 a0_1) ∧ w41.cell? ⟨gb767, 2, none⟩ = some (.int .i64 a0_2) ∧ w41.cell? ⟨gb768, 0, none⟩ = some (.int .i64 a1_0) ∧ w41.cell? ⟨gb768, 1, none⟩ = some (.int .i64 a1_1) ∧ w41.cell? ⟨gb768, 2, none⟩ = some (.int .i64 a1_2) ∧ w41.cell? ⟨gb769, 0, none⟩ = some (.int .i64 a2_0) ∧ w41.cell? ⟨gb769, 1, none⟩ = some (.int .i64 a2_1) ∧ w41.cell? ⟨gb769, 2, none⟩ = some (.int .i64 a2_2) ∧ w41.cell? ⟨gb769, 3, none⟩ = some (.int .i64 a2_3) ∧ w41.cell? ⟨gb769, 4, none⟩ = some (.int .i64 a2_4) ∧ w41.cell? ⟨gb769, 5, none⟩ = some (.int .i64 a2_5) ∧ w41.cell? ⟨gb770, 0, none⟩ = some (.int .i64 a3_0) ∧ w41.cell? ⟨gb770, 1, none⟩ = some (.int .i64 a3_1) ∧ w41.cell? ⟨gb770, 2, none⟩ = some (.int .i64 a3_2) ∧ w41.cell? ⟨gb770, 3, none⟩ = some (.int .i64 a3_3) ∧ w41.cell? ⟨gb770, 4, none⟩ = some (.int .i64 a3_4) ∧ w41.cell? ⟨gb770, 5, none⟩ = some (.int .i64 a3_5) := hS_
      refine norm_ (a' := ?_) ?_ ?_
      rotate_left
      ·simp only [putAll, Act.put, List.setIfInBounds_toArray, List.set_cons_zero, List.set_cons_succ]
       rfl
      refine one_ (i := 11) (N := some 13) #[true, true, true, true, true, true, true, true, true, true, true, true, true, false, false, false, false] rfl rfl (one_of HT_.out (by kernel_rfl)) (by decide) (fun K hK => ?_)
      refine box_step ?hg (N := 13) ?hd (cs := #[.int .i64 0, .int .i64 0]) (t := 28) ?hr ?_; (case hd => rfl); (case hg => rfl); (case hr => first | (go_simp; done) | (go_simp; rfl))
      intro gb792 hg w42 hbox hb
      have BK792 := Aside0.mk (hbox)
      have GE792 := Aside0.mk (bG hg (HB.out))
      have NB767_792 := cN hg BK767
      have NB792_767 := cM hg BK767
      have NB768_792 := cN hg BK768
      have NB792_768 := cM hg BK768
      have NB769_792 := cN hg BK769
      have NB792_769 := cM hg BK769
      have NB770_792 := cN hg BK770
      have NB792_770 := cM hg BK770
      have NB778_792 := cN hg BK778
      have NB792_778 := cM hg BK778
      have NB779_792 := cN hg BK779
      have NB792_779 := cM hg BK779
      have NB793_792 := cN hg BK793
      have NB792_793 := cM hg BK793
      replace BK767 := cB hb BK767
      replace BK768 := cB hb BK768
      replace BK769 := cB hb BK769
      replace BK770 := cB hb BK770
      replace BK778 := cB hb BK778
      replace BK779 := cB hb BK779
      replace BK793 := cB hb BK793
      replace HB := Aside0.mk (below_step (HB.out) hb)
      clear hb hbox hg
      refine hK.out _ _ ⟨(blk_cell BK767.out 0).trans rfl, (blk_cell BK767.out 1).trans rfl, (blk_cell BK767.out 2).trans rfl, (blk_cell BK768.out 0).trans rfl, (blk_cell BK768.out 1).trans rfl, (blk_cell BK768.out 2).trans rfl, (blk_cell BK769.out 0).trans rfl, (blk_cell BK769.out 1).trans rfl, (blk_cell BK769.out 2).trans rfl, (blk_cell BK769.out 3).trans rfl, (blk_cell BK769.out 4).trans rfl, (blk_cell BK769.out 5).trans rfl, (blk_cell BK770.out 0).trans rfl, (blk_cell BK770.out 1).trans rfl, (blk_cell BK770.out 2).trans rfl, (blk_cell BK770.out 3).trans rfl, (blk_cell BK770.out 4).trans rfl, (blk_cell BK770.out 5).trans rfl⟩ (fun hHeld => ?_)
      clear hK K
      refine norm_ (a' := ?_) ?_ ?_
      rotate_left
      ·show Act.put _ (some 13) _ = _
       simp only [Act.put, List.setIfInBounds_toArray, List.set_cons_zero, List.set_cons_succ, i64_w, i32_w]
       rfl
      exact norm_ (by simp only [putAll, Act.put, List.setIfInBounds_toArray, List.set_cons_zero, List.set_cons_succ] <;> rfl) (hJ4_5_11_12 (gb792, gb793) _ ⟨hHeld, (BK767.out), (BK768.out), (BK769.out), (BK770.out), (BK778.out), (BK779.out), (BK792.out), (BK793.out), GE792.out, NB767_792.out, NB792_767.out, NB768_792.out, NB792_768.out, NB769_792.out, NB792_769.out, NB770_792.out, NB792_770.out, NB778_792.out, NB792_778.out, NB779_792.out, NB792_779.out, NB793_792.out, NB792_793.out, GE793.out, NB767_793.out, NB793_767.out, NB768_793.out, NB793_768.out, NB769_793.out, NB793_769.out, NB770_793.out, NB793_770.out, NB778_793.out, NB793_778.out, NB779_793.out, NB793_779.out, (HB.out)⟩)
     skip
     rintro gb792 w41 ⟨hS_, h0_, h1_, h2_, h3_, h4_, h5_, h6_, h7_, h8_, h9_, h10_, h11_, h12_, h13_, h14_, h15_, h16_, h17_, h18_, h19_, h20_⟩
     have n0_ : Aside0 (w41.heap[gb767]? = some (.cells #[.int .i64 a0_0, .int .i64 a0_1, .int .i64 a0_2] 23 (0, 0))) := ⟨h0_⟩
     have n1_ : Aside0 (w41.heap[gb768]? = some (.cells #[.int .i64 a1_0, .int .i64 a1_1, .int .i64 a1_2] 23 (0, 0))) := ⟨h1_⟩
     have n2_ : Aside0 (w41.heap[gb769]? = some (.cells #[.int .i64 a2_0, .int .i64 a2_1, .int .i64 a2_2, .int .i64 a2_3, .int .i64 a2_4, .int .i64 a2_5] 56 (0, 0))) := ⟨h2_⟩
     have n3_ : Aside0 (w41.heap[gb770]? = some (.cells #[.int .i64 a3_0, .int .i64 a3_1, .int .i64 a3_2, .int .i64 a3_3, .int .i64 a3_4, .int .i64 a3_5] 56 (0, 0))) := ⟨h3_⟩
     have n4_ : Aside0 (w41.heap[gb778]? = some (.cells #[.int .i64 t772, .int .i64 t773] 28 (0, 0))) := ⟨h4_⟩
     have n5_ : Aside0 (w41.heap[gb779]? = some (.cells #[.int .i64 t774, .int .i64 t775] 28 (0, 0))) := ⟨h5_⟩
     have n6_ : Aside0 (w41.heap[gb792]? = some (.cells #[.int .i64 0, .int .i64 0] 28 (0, 0))) := ⟨h6_⟩
     have GE792 : Aside0 (w.heap.size ≤ gb792) := ⟨h7_⟩
     have NB767_792 : Aside0 (gb767 ≠ gb792) := ⟨h8_⟩
     have NB792_767 : Aside0 (gb792 ≠ gb767) := ⟨h9_⟩
     have NB768_792 : Aside0 (gb768 ≠ gb792) := ⟨h10_⟩
     have NB792_768 : Aside0 (gb792 ≠ gb768) := ⟨h11_⟩
     have NB769_792 : Aside0 (gb769 ≠ gb792) := ⟨h12_⟩
     have NB792_769 : Aside0 (gb792 ≠ gb769) := ⟨h13_⟩
     have NB770_792 : Aside0 (gb770 ≠ gb792) := ⟨h14_⟩
     have NB792_770 : Aside0 (gb792 ≠ gb770) := ⟨h15_⟩
     have NB778_792 : Aside0 (gb778 ≠ gb792) := ⟨h16_⟩
     have NB792_778 : Aside0 (gb792 ≠ gb778) := ⟨h17_⟩
     have NB779_792 : Aside0 (gb779 ≠ gb792) := ⟨h18_⟩
     have NB792_779 : Aside0 (gb792 ≠ gb779) := ⟨h19_⟩
     have n20_ : Aside0 (Below w.heap.size w w41) := ⟨h20_⟩
     clear BK767
     clear BK768
     clear BK769
     clear BK770
     clear BK778
     clear BK779
     clear HB
     clear h0_ h1_ h2_ h3_ h4_ h5_ h6_ h7_ h8_ h9_ h10_ h11_ h12_ h13_ h14_ h15_ h16_ h17_ h18_ h19_ h20_
     have BK767 := n0_
     have BK768 := n1_
     have BK769 := n2_
     have BK770 := n3_
     have BK778 := n4_
     have BK779 := n5_
     have BK792 := n6_
     have HB := n20_
     clear n0_ n1_ n2_ n3_ n4_ n5_ n6_ n20_
     have hHeld : w41.cell? ⟨gb767, 0, none⟩ = some (.int .i64 a0_0) ∧ w41.cell? ⟨gb767, 1, none⟩ = some (.int .i64 a0_1) ∧ w41.cell? ⟨gb767, 2, none⟩ = some (.int .i64 a0_2) ∧ w41.cell? ⟨gb768, 0, none⟩ = some (.int .i64 a1_0) ∧ w41.cell? ⟨gb768, 1, none⟩ = some (.int .i64 a1_1) ∧ w41.cell? ⟨gb768, 2, none⟩ = some (.int .i64 a1_2) ∧ w41.cell? ⟨gb769, 0, none⟩ = some (.int .i64 a2_0) ∧ w41.cell? ⟨gb769, 1, none⟩ = some (.int .i64 a2_1) ∧ w41.cell? ⟨gb769, 2, none⟩ = some (.int .i64 a2_2) ∧ w41.cell? ⟨gb769, 3, none⟩ = some (.int .i64 a2_3) ∧ w41.cell? ⟨gb769, 4, none⟩ = some (.int .i64 a2_4) ∧ w41.cell? ⟨gb769, 5, none⟩ = some (.int .i64 a2_5) ∧ w41.cell? ⟨gb770, 0, none⟩ = some (.int .i64 a3_0) ∧ w41.cell? ⟨gb770, 1, none⟩ = some (.int .i64 a3_1) ∧ w41.cell? ⟨gb770, 2, none⟩ = some (.int .i64 a3_2) ∧ w41.cell? ⟨gb770, 3, none⟩ = some (.int .i64 a3_3) ∧ w41.cell? ⟨gb770, 4, none⟩ = some (.int .i64 a3_4) ∧ w41.cell? ⟨gb770, 5, none⟩ = some (.int .i64 a3_5) := hS_
     refine norm_ (a' := ?_) ?_ ?_
     rotate_left
     ·simp only [putAll, Act.put, List.setIfInBounds_toArray, List.set_cons_zero, List.set_cons_succ]
      rfl
     refine one_ (i := 12) (N := some 14) #[true, true, true, true, true, true, true, true, true, true, true, true, true, false, false, false, false] rfl rfl (one_of HT_.out (by kernel_rfl)) (by decide) (fun K hK => ?_)
     refine box_step ?hg (N := 14) ?hd (cs := #[.int .i64 0, .int .i64 0]) (t := 28) ?hr ?_; (case hd => rfl); (case hg => rfl); (case hr => first | (go_simp; done) | (go_simp; rfl))
     intro gb793 hg w42 hbox hb
     have BK793 := Aside0.mk (hbox)
     have GE793 := Aside0.mk (bG hg (HB.out))
     have NB767_793 := cN hg BK767
     have NB793_767 := cM hg BK767
     have NB768_793 := cN hg BK768
     have NB793_768 := cM hg BK768
     have NB769_793 := cN hg BK769
     have NB793_769 := cM hg BK769
     have NB770_793 := cN hg BK770
     have NB793_770 := cM hg BK770
     have NB778_793 := cN hg BK778
     have NB793_778 := cM hg BK778
     have NB779_793 := cN hg BK779
     have NB793_779 := cM hg BK779
     have NB792_793 := cN hg BK792
     have NB793_792 := cM hg BK792
     replace BK767 := cB hb BK767
     replace BK768 := cB hb BK768
     replace BK769 := cB hb BK769
     replace BK770 := cB hb BK770
     replace BK778 := cB hb BK778
     replace BK779 := cB hb BK779
     replace BK792 := cB hb BK792
     replace HB := Aside0.mk (below_step (HB.out) hb)
     clear hb hbox hg
     refine hK.out _ _ ⟨(blk_cell BK767.out 0).trans rfl, (blk_cell BK767.out 1).trans rfl, (blk_cell BK767.out 2).trans rfl, (blk_cell BK768.out 0).trans rfl, (blk_cell BK768.out 1).trans rfl, (blk_cell BK768.out 2).trans rfl, (blk_cell BK769.out 0).trans rfl, (blk_cell BK769.out 1).trans rfl, (blk_cell BK769.out 2).trans rfl, (blk_cell BK769.out 3).trans rfl, (blk_cell BK769.out 4).trans rfl, (blk_cell BK769.out 5).trans rfl, (blk_cell BK770.out 0).trans rfl, (blk_cell BK770.out 1).trans rfl, (blk_cell BK770.out 2).trans rfl, (blk_cell BK770.out 3).trans rfl, (blk_cell BK770.out 4).trans rfl, (blk_cell BK770.out 5).trans rfl⟩ (fun hHeld => ?_)
     clear hK K
     refine norm_ (a' := ?_) ?_ ?_
     rotate_left
     ·show Act.put _ (some 14) _ = _
      simp only [Act.put, List.setIfInBounds_toArray, List.set_cons_zero, List.set_cons_succ, i64_w, i32_w]
      rfl
     exact norm_ (by simp only [putAll, Act.put, List.setIfInBounds_toArray, List.set_cons_zero, List.set_cons_succ] <;> rfl) (hJ4_5_11_12 (gb792, gb793) _ ⟨hHeld, (BK767.out), (BK768.out), (BK769.out), (BK770.out), (BK778.out), (BK779.out), (BK792.out), (BK793.out), GE792.out, NB767_792.out, NB792_767.out, NB768_792.out, NB792_768.out, NB769_792.out, NB792_769.out, NB770_792.out, NB792_770.out, NB778_792.out, NB792_778.out, NB779_792.out, NB792_779.out, NB793_792.out, NB792_793.out, GE793.out, NB767_793.out, NB793_767.out, NB768_793.out, NB793_768.out, NB769_793.out, NB793_769.out, NB770_793.out, NB793_770.out, NB778_793.out, NB793_778.out, NB779_793.out, NB793_779.out, (HB.out)⟩)
    rintro ⟨gb792, gb793⟩ w42 ⟨hS_, h0_, h1_, h2_, h3_, h4_, h5_, h6_, h7_, h8_, h9_, h10_, h11_, h12_, h13_, h14_, h15_, h16_, h17_, h18_, h19_, h20_, h21_, h22_, h23_, h24_, h25_, h26_, h27_, h28_, h29_, h30_, h31_, h32_, h33_, h34_, h35_, h36_⟩
    have n0_ : Aside0 (w42.heap[gb767]? = some (.cells #[.int .i64 a0_0, .int .i64 a0_1, .int .i64 a0_2] 23 (0, 0))) := ⟨h0_⟩
    have n1_ : Aside0 (w42.heap[gb768]? = some (.cells #[.int .i64 a1_0, .int .i64 a1_1, .int .i64 a1_2] 23 (0, 0))) := ⟨h1_⟩
    have n2_ : Aside0 (w42.heap[gb769]? = some (.cells #[.int .i64 a2_0, .int .i64 a2_1, .int .i64 a2_2, .int .i64 a2_3, .int .i64 a2_4, .int .i64 a2_5] 56 (0, 0))) := ⟨h2_⟩
    have n3_ : Aside0 (w42.heap[gb770]? = some (.cells #[.int .i64 a3_0, .int .i64 a3_1, .int .i64 a3_2, .int .i64 a3_3, .int .i64 a3_4, .int .i64 a3_5] 56 (0, 0))) := ⟨h3_⟩
    have n4_ : Aside0 (w42.heap[gb778]? = some (.cells #[.int .i64 t772, .int .i64 t773] 28 (0, 0))) := ⟨h4_⟩
    have n5_ : Aside0 (w42.heap[gb779]? = some (.cells #[.int .i64 t774, .int .i64 t775] 28 (0, 0))) := ⟨h5_⟩
    have n6_ : Aside0 (w42.heap[gb792]? = some (.cells #[.int .i64 0, .int .i64 0] 28 (0, 0))) := ⟨h6_⟩
    have n7_ : Aside0 (w42.heap[gb793]? = some (.cells #[.int .i64 0, .int .i64 0] 28 (0, 0))) := ⟨h7_⟩
    have GE792 : Aside0 (w.heap.size ≤ gb792) := ⟨h8_⟩
    have NB767_792 : Aside0 (gb767 ≠ gb792) := ⟨h9_⟩
    have NB792_767 : Aside0 (gb792 ≠ gb767) := ⟨h10_⟩
    have NB768_792 : Aside0 (gb768 ≠ gb792) := ⟨h11_⟩
    have NB792_768 : Aside0 (gb792 ≠ gb768) := ⟨h12_⟩
    have NB769_792 : Aside0 (gb769 ≠ gb792) := ⟨h13_⟩
    have NB792_769 : Aside0 (gb792 ≠ gb769) := ⟨h14_⟩
    have NB770_792 : Aside0 (gb770 ≠ gb792) := ⟨h15_⟩
    have NB792_770 : Aside0 (gb792 ≠ gb770) := ⟨h16_⟩
    have NB778_792 : Aside0 (gb778 ≠ gb792) := ⟨h17_⟩
    have NB792_778 : Aside0 (gb792 ≠ gb778) := ⟨h18_⟩
    have NB779_792 : Aside0 (gb779 ≠ gb792) := ⟨h19_⟩
    have NB792_779 : Aside0 (gb792 ≠ gb779) := ⟨h20_⟩
    have NB793_792 : Aside0 (gb793 ≠ gb792) := ⟨h21_⟩
    have NB792_793 : Aside0 (gb792 ≠ gb793) := ⟨h22_⟩
    have GE793 : Aside0 (w.heap.size ≤ gb793) := ⟨h23_⟩
    have NB767_793 : Aside0 (gb767 ≠ gb793) := ⟨h24_⟩
    have NB793_767 : Aside0 (gb793 ≠ gb767) := ⟨h25_⟩
    have NB768_793 : Aside0 (gb768 ≠ gb793) := ⟨h26_⟩
    have NB793_768 : Aside0 (gb793 ≠ gb768) := ⟨h27_⟩
    have NB769_793 : Aside0 (gb769 ≠ gb793) := ⟨h28_⟩
    have NB793_769 : Aside0 (gb793 ≠ gb769) := ⟨h29_⟩
    have NB770_793 : Aside0 (gb770 ≠ gb793) := ⟨h30_⟩
    have NB793_770 : Aside0 (gb793 ≠ gb770) := ⟨h31_⟩
    have NB778_793 : Aside0 (gb778 ≠ gb793) := ⟨h32_⟩
    have NB793_778 : Aside0 (gb793 ≠ gb778) := ⟨h33_⟩
    have NB779_793 : Aside0 (gb779 ≠ gb793) := ⟨h34_⟩
    have NB793_779 : Aside0 (gb793 ≠ gb779) := ⟨h35_⟩
    have n36_ : Aside0 (Below w.heap.size w w42) := ⟨h36_⟩
    clear BK767
    clear BK768
    clear BK769
    clear BK770
    clear BK778
    clear BK779
    clear HB
    clear h0_ h1_ h2_ h3_ h4_ h5_ h6_ h7_ h8_ h9_ h10_ h11_ h12_ h13_ h14_ h15_ h16_ h17_ h18_ h19_ h20_ h21_ h22_ h23_ h24_ h25_ h26_ h27_ h28_ h29_ h30_ h31_ h32_ h33_ h34_ h35_ h36_
    have BK767 := n0_
    have BK768 := n1_
    have BK769 := n2_
    have BK770 := n3_
    have BK778 := n4_
    have BK779 := n5_
    have BK792 := n6_
    have BK793 := n7_
    have HB := n36_
    clear n0_ n1_ n2_ n3_ n4_ n5_ n6_ n7_ n36_
    have hHeld : w42.cell? ⟨gb767, 0, none⟩ = some (.int .i64 a0_0) ∧ w42.cell? ⟨gb767, 1, none⟩ = some (.int .i64 a0_1) ∧ w42.cell? ⟨gb767, 2, none⟩ = some (.int .i64 a0_2) ∧ w42.cell? ⟨gb768, 0, none⟩ = some (.int .i64 a1_0) ∧ w42.cell? ⟨gb768, 1, none⟩ = some (.int .i64 a1_1) ∧ w42.cell? ⟨gb768, 2, none⟩ = some (.int .i64 a1_2) ∧ w42.cell? ⟨gb769, 0, none⟩ = some (.int .i64 a2_0) ∧ w42.cell? ⟨gb769, 1, none⟩ = some (.int .i64 a2_1) ∧ w42.cell? ⟨gb769, 2, none⟩ = some (.int .i64 a2_2) ∧ w42.cell? ⟨gb769, 3, none⟩ = some (.int .i64 a2_3) ∧ w42.cell? ⟨gb769, 4, none⟩ = some (.int .i64 a2_4) ∧ w42.cell? ⟨gb769, 5, none⟩ = some (.int .i64 a2_5) ∧ w42.cell? ⟨gb770, 0, none⟩ = some (.int .i64 a3_0) ∧ w42.cell? ⟨gb770, 1, none⟩ = some (.int .i64 a3_1) ∧ w42.cell? ⟨gb770, 2, none⟩ = some (.int .i64 a3_2) ∧ w42.cell? ⟨gb770, 3, none⟩ = some (.int .i64 a3_3) ∧ w42.cell? ⟨gb770, 4, none⟩ = some (.int .i64 a3_4) ∧ w42.cell? ⟨gb770, 5, none⟩ = some (.int .i64 a3_5) := hS_
    refine norm_ (a' := ?_) ?_ ?_
    rotate_left
    ·simp only [putAll, Act.put, List.setIfInBounds_toArray, List.set_cons_zero, List.set_cons_succ]
     rfl
    refine one_ (i := 13) (N := none) #[true, true, true, true, true, true, true, true, true, true, true, true, true, true, false, false, false] rfl rfl (one_of HT_.out (by kernel_rfl)) (by decide) (fun K hK => ?_)
    have hs43 : w42.cell? ⟨gb792, 0, none⟩ = some (.int .i64 0) := (blk_cell BK792.out 0).trans rfl
    have hfs43 := blk_frozen BK792.out 0
    have hns43_0 := NB767_792.out
    have hns43_1 := NB768_792.out
    have hns43_2 := NB769_792.out
    have hns43_3 := NB770_792.out
    have hns43_4 := NB778_792.out
    have hns43_5 := NB779_792.out
    have hns43_7 := NB793_792.out
    have hms43_0 := NB792_767.out
    have hms43_1 := NB792_768.out
    have hms43_2 := NB792_769.out
    have hms43_3 := NB792_770.out
    have hms43_4 := NB792_778.out
    have hms43_5 := NB792_779.out
    have hms43_7 := NB792_793.out
    have hs44 : w42.cell? ⟨gb792, 1, none⟩ = some (.int .i64 0) := (blk_cell BK792.out 1).trans rfl
    have hfs44 := blk_frozen BK792.out 1
    have hns44_0 := NB767_792.out
    have hns44_1 := NB768_792.out
    have hns44_2 := NB769_792.out
    have hns44_3 := NB770_792.out
    have hns44_4 := NB778_792.out
    have hns44_5 := NB779_792.out
    have hns44_7 := NB793_792.out
    have hms44_0 := NB792_767.out
    have hms44_1 := NB792_768.out
    have hms44_2 := NB792_769.out
    have hms44_3 := NB792_770.out
    have hms44_4 := NB792_778.out
    have hms44_5 := NB792_779.out
    have hms44_7 := NB792_793.out
    refine skip_ (w1 := ?_) (by rfl) rfl ?_ ?_
    rotate_left
    ·go_simp
     rfl
    refine hK.out _ _ ⟨(cf NB767_792.out (cf NB767_792.out hHeld.1)), (cf NB767_792.out (cf NB767_792.out hHeld.2.1)), (cf NB767_792.out (cf NB767_792.out hHeld.2.2.1)), (cf NB768_792.out (cf NB768_792.out hHeld.2.2.2.1)), (cf NB768_792.out (cf NB768_792.out hHeld.2.2.2.2.1)), (cf NB768_792.out (cf NB768_792.out hHeld.2.2.2.2.2.1)), (cf NB769_792.out (cf NB769_792.out hHeld.2.2.2.2.2.2.1)), (cf NB769_792.out (cf NB769_792.out hHeld.2.2.2.2.2.2.2.1)), (cf NB769_792.out (cf NB769_792.out hHeld.2.2.2.2.2.2.2.2.1)), (cf NB769_792.out (cf NB769_792.out hHeld.2.2.2.2.2.2.2.2.2.1)), (cf NB769_792.out (cf NB769_792.out hHeld.2.2.2.2.2.2.2.2.2.2.1)), (cf NB769_792.out (cf NB769_792.out hHeld.2.2.2.2.2.2.2.2.2.2.2.1)), (cf NB770_792.out (cf NB770_792.out hHeld.2.2.2.2.2.2.2.2.2.2.2.2.1)), (cf NB770_792.out (cf NB770_792.out hHeld.2.2.2.2.2.2.2.2.2.2.2.2.2.1)), (cf NB770_792.out (cf NB770_792.out hHeld.2.2.2.2.2.2.2.2.2.2.2.2.2.2.1)), (cf NB770_792.out (cf NB770_792.out hHeld.2.2.2.2.2.2.2.2.2.2.2.2.2.2.2.1)), (cf NB770_792.out (cf NB770_792.out hHeld.2.2.2.2.2.2.2.2.2.2.2.2.2.2.2.2.1)), (cf NB770_792.out (cf NB770_792.out hHeld.2.2.2.2.2.2.2.2.2.2.2.2.2.2.2.2.2))⟩ (fun hHeld => ?_)
    clear hK K
    refine one_ (i := 14) (N := none) #[true, true, true, true, true, true, true, true, true, true, true, true, true, true, true, false, false] rfl rfl (one_of HT_.out (by kernel_rfl)) (by decide) (fun K hK => ?_)
    have hs45 : w42.cell? ⟨gb793, 0, none⟩ = some (.int .i64 0) := (blk_cell BK793.out 0).trans rfl
    have hfs45 := blk_frozen BK793.out 0
    have hns45_0 := NB767_793.out
    have hns45_1 := NB768_793.out
    have hns45_2 := NB769_793.out
    have hns45_3 := NB770_793.out
    have hns45_4 := NB778_793.out
    have hns45_5 := NB779_793.out
    have hns45_6 := NB792_793.out
    have hms45_0 := NB793_767.out
    have hms45_1 := NB793_768.out
    have hms45_2 := NB793_769.out
    have hms45_3 := NB793_770.out
    have hms45_4 := NB793_778.out
    have hms45_5 := NB793_779.out
    have hms45_6 := NB793_792.out
    have hs46 : w42.cell? ⟨gb793, 1, none⟩ = some (.int .i64 0) := (blk_cell BK793.out 1).trans rfl
    have hfs46 := blk_frozen BK793.out 1
    have hns46_0 := NB767_793.out
    have hns46_1 := NB768_793.out
    have hns46_2 := NB769_793.out
    have hns46_3 := NB770_793.out
    have hns46_4 := NB778_793.out
    have hns46_5 := NB779_793.out
    have hns46_6 := NB792_793.out
    have hms46_0 := NB793_767.out
    have hms46_1 := NB793_768.out
    have hms46_2 := NB793_769.out
    have hms46_3 := NB793_770.out
    have hms46_4 := NB793_778.out
    have hms46_5 := NB793_779.out
    have hms46_6 := NB793_792.out
    refine skip_ (w1 := ?_) (by rfl) rfl ?_ ?_
    rotate_left
    ·go_simp
     rfl
    refine hK.out _ _ ⟨(cf NB767_793.out (cf NB767_793.out hHeld.1)), (cf NB767_793.out (cf NB767_793.out hHeld.2.1)), (cf NB767_793.out (cf NB767_793.out hHeld.2.2.1)), (cf NB768_793.out (cf NB768_793.out hHeld.2.2.2.1)), (cf NB768_793.out (cf NB768_793.out hHeld.2.2.2.2.1)), (cf NB768_793.out (cf NB768_793.out hHeld.2.2.2.2.2.1)), (cf NB769_793.out (cf NB769_793.out hHeld.2.2.2.2.2.2.1)), (cf NB769_793.out (cf NB769_793.out hHeld.2.2.2.2.2.2.2.1)), (cf NB769_793.out (cf NB769_793.out hHeld.2.2.2.2.2.2.2.2.1)), (cf NB769_793.out (cf NB769_793.out hHeld.2.2.2.2.2.2.2.2.2.1)), (cf NB769_793.out (cf NB769_793.out hHeld.2.2.2.2.2.2.2.2.2.2.1)), (cf NB769_793.out (cf NB769_793.out hHeld.2.2.2.2.2.2.2.2.2.2.2.1)), (cf NB770_793.out (cf NB770_793.out hHeld.2.2.2.2.2.2.2.2.2.2.2.2.1)), (cf NB770_793.out (cf NB770_793.out hHeld.2.2.2.2.2.2.2.2.2.2.2.2.2.1)), (cf NB770_793.out (cf NB770_793.out hHeld.2.2.2.2.2.2.2.2.2.2.2.2.2.2.1)), (cf NB770_793.out (cf NB770_793.out hHeld.2.2.2.2.2.2.2.2.2.2.2.2.2.2.2.1)), (cf NB770_793.out (cf NB770_793.out hHeld.2.2.2.2.2.2.2.2.2.2.2.2.2.2.2.2.1)), (cf NB770_793.out (cf NB770_793.out hHeld.2.2.2.2.2.2.2.2.2.2.2.2.2.2.2.2.2))⟩ (fun hHeld => ?_)
    clear hK K
    refine pure_ (i := 15) (N := some 15) (v := ?_) (a' := ?_) #[true, true, true, true, true, true, true, true, true, true, true, true, true, true, true, true, false] rfl rfl (any_of HT_.out (by kernel_rfl)) (fun _ _ _ h => h) (Or.inl ⟨by rfl, ?_⟩) ?_ ?_
    rotate_left
    ·intro w'
     go_simp
     with_reducible rfl
    rotate_left
    ·simp only [Act.put, List.setIfInBounds_toArray, List.set_cons_zero, List.set_cons_succ, i64_w, i32_w]
     rfl
    refine pure_ (i := 16) (N := some 16) (v := ?_) (a' := ?_) #[true, true, true, true, true, true, true, true, true, true, true, true, true, true, true, true, true] rfl rfl (any_of HT_.out (by kernel_rfl)) (fun _ _ _ h => h) (Or.inl ⟨by rfl, ?_⟩) ?_ ?_
    rotate_left
    ·intro w'
     go_simp
     with_reducible rfl
    rotate_left
    ·simp only [Act.put, List.setIfInBounds_toArray, List.set_cons_zero, List.set_cons_succ, i64_w, i32_w]
     rfl
    refine done_ (done_of HT_.out (by kernel_rfl)) ?_
    go_upto_if 50 with (fail)
    go_cut [] (fun wc => ∃ (kq : Nat), Aside0 (relievolaw04_SlabWider.j2 kq t790 t772 t773 t774 t775 t786 t787 t788 t789 = some r) ∧ Aside0 (kq ≤ kj31) ∧ Aside0 (wc.heap[gb778]? = some (.cells #[.int .i64 t772, .int .i64 t773] 28 (0, 0))) ∧ Aside0 (wc.heap[gb779]? = some (.cells #[.int .i64 t774, .int .i64 t775] 28 (0, 0))) ∧ Aside0 (wc.heap[gb792]? = some (.cells #[.int .i64 t786, .int .i64 t787] 28 (0, 0))) ∧ Aside0 (wc.heap[gb793]? = some (.cells #[.int .i64 t788, .int .i64 t789] 28 (0, 0))) ∧ Aside0 (Below w.heap.size w wc))
    case first =>
     have H := HC36.out
     clear HC36
     by_cases c47 : t791 = 0
     ·rw [if_pos c47] at H
      have c47b0 : (t791 == 0) = true := beq_iff_eq.mpr c47
      have c47b1 : (t791 != 0) = false := bne_eq_false_iff_eq.mpr c47
      clear c47
      (first | rw [c47b0] | (simp only [i64_w, i32_w]; rw [c47b0]) | skip)
      have H' := Aside0.mk H
      clear H
      go_wp2
      go_meet
      case rel => exact ⟨_, H', ⟨by have := HJ7.out; have := HJ31.out; first | omega | exact Nat.le_refl _⟩, ⟨(blk_far (blk_far (blk_far (blk_far BK778.out NB778_792.out _) NB778_792.out _) NB778_793.out _) NB778_793.out _)⟩, ⟨(blk_far (blk_far (blk_far (blk_far BK779.out NB779_792.out _) NB779_792.out _) NB779_793.out _) NB779_793.out _)⟩, ⟨(blk_far (blk_far (blk_put (cs' := #[.int .i64 t786, .int .i64 t787]) (blk_put BK792.out 0 _ rfl) 1 _ rfl) NB792_793.out _) NB792_793.out _)⟩, ⟨(blk_put (cs' := #[.int .i64 t788, .int .i64 t789]) (blk_put (blk_far (blk_far BK793.out NB793_792.out _) NB793_792.out _) 0 _ rfl) 1 _ rfl)⟩, ⟨(below_set (below_set (below_set (below_set HB.out GE792.out) GE792.out) GE793.out) GE793.out)⟩⟩
     rw [if_neg c47] at H
     have c47b0 : (t791 == 0) = false := beq_eq_false_iff_ne.mpr c47
     have c47b1 : (t791 != 0) = true := bne_iff_ne.mpr c47
     (first | rw [c47b0] | (simp only [i64_w, i32_w]; rw [c47b0]) | skip)
     obtain rfl := Option.some.inj H
     go_wp2
     go_ret
     exact ⟨by first | rfl | (simp [errW_none, errW_some] <;> rfl) | (simp [*, errW_none, errW_some] <;> rfl), (below_set (below_set (below_set (below_set HB.out GE792.out) GE792.out) GE793.out) GE793.out)⟩
    clear HC36
    obtain ⟨kq, HA, HJ35, BK778, BK779, BK792, BK793, HB⟩ := hcut
    cases kq with
    | zero => exact absurd HA.out (by simp [relievolaw04_SlabWider.j2])
    | succ kj35 =>
     have H := HA.out
     clear HA
     simp only [relievolaw04_SlabWider.j2] at H
     replace H := Option.bind_eq_some_iff.mp H
     obtain ⟨⟨t794, t795⟩, A480, H⟩ := H
     replace H : ((wide_Order.f kj35 t774 t775 t788 t789).bind fun bt796 => (if t790 = true then (if t794 ≤ 0 then (relievolaw04_SlabWider.j3 kj35 (decide (bt796.1 ≤ 0))) else (relievolaw04_SlabWider.j3 kj35 false)) else (relievolaw04_SlabWider.j3 kj35 false))) = some r := H
     have A48 := Aside0.mk A480
     clear A480
     replace H := Option.bind_eq_some_iff.mp H
     obtain ⟨⟨t796, t797⟩, A490, H⟩ := H
     replace H : (if t790 = true then (if t794 ≤ 0 then (relievolaw04_SlabWider.j3 kj35 (decide (t796 ≤ 0))) else (relievolaw04_SlabWider.j3 kj35 false)) else (relievolaw04_SlabWider.j3 kj35 false)) = some r := H
     have A49 := Aside0.mk A490
     clear A490
     have HC50 := Aside0.mk H
     clear H
     obtain ⟨hcz51_0, hcz51_1⟩ := cells2 BK792.out
     obtain ⟨hcz52_0, hcz52_1⟩ := cells2 BK778.out
     go_upto_region 11 with (first | ((with_reducible refine gate_callee (f := 35) rfl ?_); refine goesL_ (some 56) rfl rfl Try.func35 (by kernel_rfl) rfl #[.agg #[.int .i64 t786, .int .i64 t787], .agg #[.int .i64 t772, .int .i64 t773]] rfl (by (try simp only [List.map_toArray, List.map_cons, List.map_nil]); first | done | rfl | (simp only [List.length_drop, List.length_take]; rfl)) ?_; (with_reducible refine (wide_Order.calls kj35 t786 t787 t772 t773 t794 t795 _ A48.out).mono ?_); rintro e w53 ⟨rfl, hb⟩; refine ⟨_, rfl, ?_⟩; replace BK778 := cB hb BK778; replace BK779 := cB hb BK779; replace BK792 := cB hb BK792; replace BK793 := cB hb BK793; replace HB := Aside0.mk (below_step (HB.out) hb); (try clear hb); (try clear hb2); (try clear hk); (try clear hi); obtain ⟨hcz54_0, hcz54_1⟩ := cells2 BK779.out; obtain ⟨hcz55_0, hcz55_1⟩ := cells2 BK793.out) | ((with_reducible refine gate_callee (f := 35) rfl ?_); refine goesL_ (some 62) rfl rfl Try.func35 (by kernel_rfl) rfl #[.agg #[.int .i64 t774, .int .i64 t775], .agg #[.int .i64 t788, .int .i64 t789]] rfl (by (try simp only [List.map_toArray, List.map_cons, List.map_nil]); first | done | rfl | (simp only [List.length_drop, List.length_take]; rfl)) ?_; (with_reducible refine (wide_Order.calls kj35 t774 t775 t788 t789 t796 t797 _ A49.out).mono ?_); rintro e w56 ⟨rfl, hb⟩; refine ⟨_, rfl, ?_⟩; replace BK779 := cB hb BK779; replace BK793 := cB hb BK793; replace HB := Aside0.mk (below_step (HB.out) hb); (try clear hb); (try clear hb2); (try clear hk); (try clear hi)))
     (try simp only [Act.put, List.setIfInBounds_toArray, List.set_cons_zero, List.set_cons_succ])
     go_cut [8] (fun v8 wc => ∃ (kq : Nat) (x8_49 : Bool), v8 = .bool x8_49 ∧ Aside0 (relievolaw04_SlabWider.j3 kq x8_49 = some r) ∧ Aside0 (kq ≤ kj35) ∧ Aside0 (Below w.heap.size w wc))
     case first =>
      have H := HC50.out
      clear HC50
      by_cases c57 : t790 = true
      ·subst c57
       have H1 : (if t794 ≤ 0 then (relievolaw04_SlabWider.j3 kj35 (decide (t796 ≤ 0))) else (relievolaw04_SlabWider.j3 kj35 false)) = some r := by rw [if_pos rfl] at H; exact H
       clear H
       have H := H1
       clear H1
       by_cases c58 : t794 ≤ 0
       ·rw [if_pos c58] at H
        have c58b0 : decide (t794 ≤ 0) = true := decide_eq_true c58
        clear c58
        (first | rw [c58b0] | (simp only [i64_w, i32_w]; rw [c58b0]) | skip)
        have H' := Aside0.mk H
        clear H
        go_wp2
        go_meet
        case rel => exact ⟨_, (decide (t796 ≤ 0)), (by first | rfl | (simp; done) | (simp [*]; done)), H', ⟨by have := HJ7.out; have := HJ31.out; have := HJ35.out; first | omega | exact Nat.le_refl _⟩, ⟨HB.out⟩⟩
       rw [if_neg c58] at H
       have c58b0 : decide (t794 ≤ 0) = false := decide_eq_false c58
       clear c58
       (first | rw [c58b0] | (simp only [i64_w, i32_w]; rw [c58b0]) | skip)
       have H' := Aside0.mk H
       clear H
       go_wp2
       go_meet
       case rel => exact ⟨_, (false), (by first | rfl | (simp; done) | (simp [*]; done)), H', ⟨by have := HJ7.out; have := HJ31.out; have := HJ35.out; first | omega | exact Nat.le_refl _⟩, ⟨HB.out⟩⟩
      replace c57 := Bool.eq_false_iff.mpr c57
      subst c57
      have H1 : (relievolaw04_SlabWider.j3 kj35 false) = some r := by rw [if_neg (show ¬ (false = true) by decide)] at H; exact H
      clear H
      have H := H1
      clear H1
      have H' := Aside0.mk H
      clear H
      go_wp2
      go_meet
      case rel => exact ⟨_, (false), (by first | rfl | (simp; done) | (simp [*]; done)), H', ⟨by have := HJ7.out; have := HJ31.out; have := HJ35.out; first | omega | exact Nat.le_refl _⟩, ⟨HB.out⟩⟩
     clear HC50
     try clear hcz51_0
     try clear hcz51_1
     try clear hcz52_0
     try clear hcz52_1
     try clear hcz54_0
     try clear hcz54_1
     try clear hcz55_0
     try clear hcz55_1
     obtain ⟨kq, x8_49, rfl, HA, HJ49, HB⟩ := hcut
     cases kq with
     | zero => exact absurd HA.out (by simp [relievolaw04_SlabWider.j3])
     | succ kj49 =>
      have H := HA.out
      clear HA
      simp only [relievolaw04_SlabWider.j3] at H
      obtain rfl := Option.some.inj H
      go_wp2
      go_ret
      exact ⟨by first | rfl | (simp [errW_none, errW_some] <;> rfl) | (simp [*, errW_none, errW_some] <;> rfl), HB.out⟩
 replace c6 := Bool.eq_false_iff.mpr c6
 subst c6
 have H1 : (some false) = some r := by rw [if_neg (show ¬ (false = true) by decide)] at H; exact H
 clear H
 have H := H1
 clear H1
 obtain rfl := Option.some.inj H
 go_enter Try.func16, Try.ntmps16
 go_wp2_with (first | ((with_reducible refine gate_dst (N := 4) rfl ?_); refine box_event ?hg (N := 4) ?hd (cs := #[.int .i64 a0_0, .int .i64 a0_1, .int .i64 a0_2]) (t := 23) ?hr ?_; (case hd => rfl); (case hg => rfl); (case hr => first | (go_simp; done) | (go_simp; rfl)); intro gb767 hg w59 hbox hb; have BK767 := Aside0.mk (hbox); have GE767 := Aside0.mk (bG hg (HB.out)); replace HB := Aside0.mk (below_step (HB.out) hb); clear hb hbox hg) | ((with_reducible refine gate_dst (N := 5) rfl ?_); refine box_event ?hg (N := 5) ?hd (cs := #[.int .i64 a1_0, .int .i64 a1_1, .int .i64 a1_2]) (t := 23) ?hr ?_; (case hd => rfl); (case hg => rfl); (case hr => first | (go_simp; done) | (go_simp; rfl)); intro gb768 hg w60 hbox hb; have BK768 := Aside0.mk (hbox); have GE768 := Aside0.mk (bG hg (HB.out)); have NB767_768 := cN hg BK767; have NB768_767 := cM hg BK767; replace BK767 := cB hb BK767; replace HB := Aside0.mk (below_step (HB.out) hb); clear hb hbox hg) | ((with_reducible refine gate_dst (N := 6) rfl ?_); refine box_event ?hg (N := 6) ?hd (cs := #[.int .i64 a2_0, .int .i64 a2_1, .int .i64 a2_2, .int .i64 a2_3, .int .i64 a2_4, .int .i64 a2_5]) (t := 56) ?hr ?_; (case hd => rfl); (case hg => rfl); (case hr => first | (go_simp; done) | (go_simp; rfl)); intro gb769 hg w61 hbox hb; have BK769 := Aside0.mk (hbox); have GE769 := Aside0.mk (bG hg (HB.out)); have NB767_769 := cN hg BK767; have NB769_767 := cM hg BK767; have NB768_769 := cN hg BK768; have NB769_768 := cM hg BK768; replace BK767 := cB hb BK767; replace BK768 := cB hb BK768; replace HB := Aside0.mk (below_step (HB.out) hb); clear hb hbox hg) | ((with_reducible refine gate_dst (N := 7) rfl ?_); refine box_event ?hg (N := 7) ?hd (cs := #[.int .i64 a3_0, .int .i64 a3_1, .int .i64 a3_2, .int .i64 a3_3, .int .i64 a3_4, .int .i64 a3_5]) (t := 56) ?hr ?_; (case hd => rfl); (case hg => rfl); (case hr => first | (go_simp; done) | (go_simp; rfl)); intro gb770 hg w62 hbox hb; have BK770 := Aside0.mk (hbox); have GE770 := Aside0.mk (bG hg (HB.out)); have NB767_770 := cN hg BK767; have NB770_767 := cM hg BK767; have NB768_770 := cN hg BK768; have NB770_768 := cM hg BK768; have NB769_770 := cN hg BK769; have NB770_769 := cM hg BK769; replace BK767 := cB hb BK767; replace BK768 := cB hb BK768; replace BK769 := cB hb BK769; replace HB := Aside0.mk (below_step (HB.out) hb); clear hb hbox hg) | ((with_reducible refine gate_callee (f := 31) rfl ?_); refine goesL_ (some 21) rfl rfl Try.func31 (by kernel_rfl) rfl #[] rfl (by (try simp only [List.map_toArray, List.map_cons, List.map_nil]); first | done | rfl | (simp only [List.length_drop, List.length_take]; rfl)) ?_; (with_reducible refine (relievolaw04_alive.calls k  false _ A5.out).mono ?_); rintro e w63 ⟨rfl, hb⟩; refine ⟨_, rfl, ?_⟩; replace BK767 := cB hb BK767; replace BK768 := cB hb BK768; replace BK769 := cB hb BK769; replace BK770 := cB hb BK770; replace HB := Aside0.mk (below_step (HB.out) hb); (try clear hb); (try clear hb2); (try clear hk); (try clear hi)))
 go_ret
 exact ⟨by first | rfl | (simp [errW_none, errW_some] <;> rfl) | (simp [*, errW_none, errW_some] <;> rfl), HB.out⟩

end Go.Proofs.Ytihklolcnfbbjaa.G
