-- Written by a program of this session (wip/gen), out of the translation; Lean checks it.
import Derived.Test.YtihklolcnfbbjaaNumD
import Derived.Test.YtihklolcnfbbjaaGx0
import Derived.Test.YtihklolcnfbbjaaGx3
import Derived.Test.YtihklolcnfbbjaaGx4
import Derived.Test.YtihklolcnfbbjaaGx15
import Derived.Test.YtihklolcnfbbjaaGx16
import Derived.Test.YtihklolcnfbbjaaGx21
import Derived.Test.YtihklolcnfbbjaaGx24
import Derived.Test.YtihklolcnfbbjaaGx25
import Derived.Test.YtihklolcnfbbjaaGx26
namespace Go.Proofs.Ytihklolcnfbbjaa.G
open Go.RowKit Go.Proofs.YtihklolcnfbbjaaW.PrintWords Go.Proofs.YtihklolcnfbbjaaW.PrintLast Go.Proofs.YtihklolcnfbbjaaW.PrintMore
attribute [local go_sem high] idx35_0 idx35_1 idx35_2 idx35_3 idx41_0 idx41_1 idx41_2 idx84_0 idx84_1 idx84_2 idx88_0 idx88_1 idx88_2 wl0 wl1 wl2 wl3 wl4 wl5 tm0_3 tm1_3 tm2_3 tm3_3 tm4_3 tm5_3
attribute [local go_sem] max2_int min2_int max_two min_two max_three min_three max_four min_four   -- for this text's walks alone
set_option linter.unusedVariables false
set_option linter.unusedSimpArgs false

attribute [local go_sem high] eqA30 eqA46
/-! ### relievolaw03_SideWithin: function 6 -/
def relievolaw03_SideWithin.j0 : Nat → Bool → Int → Bool → Int → Int → Int → Int → Int → Int → Int → Int → Int → Int → Int → Int → Int → Int → Int → Int → Int → Bool → Int → Int → Option (Bool)
  | 0, _, _, _, _, _, _, _, _, _, _, _, _, _, _, _, _, _, _, _, _, _, _, _ => none
  | k + 1, x8, x9, x33, x335000, x335001, x335002, x336000, x336001, x336002, x337000, x337001, x337002, x337003, x337004, x337005, x337006, x337007, x337008, x346000, x346001, x346002, x346003, x346004 => if x33 = true then (if x9 = 0 then (some true) else (if x8 = true then (some false) else (some ((x346000 == 0 && (x346001 == 0)) && (!x346002 && (x346003 == 0 && (x346004 == 0))))))) else ((relievoref02_Sub.f x337000 x337001 x337002 x335000 x335001 x335002).bind fun bt348 => ((relievoref02_Sub.f x337003 x337004 x337005 x335000 x335001 x335002).bind fun bt351 => ((relievoref02_Cross.f bt348.1 bt348.2.1 bt348.2.2 bt351.1 bt351.2.1 bt351.2.2).bind fun bt354 => ((relievoref02_Dot.f x336000 x336001 x336002 bt354.1 bt354.2.1 bt354.2.2).bind fun t357 => ((relievoref02_Sub.f x337003 x337004 x337005 x335000 x335001 x335002).bind fun bt358 => ((relievoref02_Sub.f x337006 x337007 x337008 x335000 x335001 x335002).bind fun bt361 => ((relievoref02_Cross.f bt358.1 bt358.2.1 bt358.2.2 bt361.1 bt361.2.1 bt361.2.2).bind fun bt364 => ((relievoref02_Dot.f x336000 x336001 x336002 bt364.1 bt364.2.1 bt364.2.2).bind fun t367 => ((relievoref02_Sub.f x337006 x337007 x337008 x335000 x335001 x335002).bind fun bt368 => ((relievoref02_Sub.f x337000 x337001 x337002 x335000 x335001 x335002).bind fun bt371 => ((relievoref02_Cross.f bt368.1 bt368.2.1 bt368.2.2 bt371.1 bt371.2.1 bt371.2.2).bind fun bt374 => ((relievoref02_Dot.f x336000 x336001 x336002 bt374.1 bt374.2.1 bt374.2.2).bind fun t377 => ((relievoref03_Normal.f x337000 x337001 x337002 x337003 x337004 x337005 x337006 x337007 x337008).bind fun bt378 => ((relievoref02_Dot.f bt378.1 bt378.2.1 bt378.2.2 x336000 x336001 x336002).bind fun t382 => ((relievoref01_Mul.f t382 x346000).bind fun bt383 => ((relievoref02_Sub.f x337000 x337001 x337002 x335000 x335001 x335002).bind fun bt386 => ((relievoref02_Dot.f bt378.1 bt378.2.1 bt378.2.2 bt386.1 bt386.2.1 bt386.2.2).bind fun t389 => ((relievoref01_Mul.f t389 x346001).bind fun bt390 => (if (mn (mn (mn 0 t357) t367) t377) = 0 then (if x346001 > 0 then (some (bt383.1 == bt390.1 && (bt383.2 == bt390.2))) else (some false)) else (if (mx (mx (mx 0 t357) t367) t377) = 0 then (if x346001 > 0 then (some (bt383.1 == bt390.1 && (bt383.2 == bt390.2))) else (some false)) else (some false)))))))))))))))))))))
def relievolaw03_SideWithin.f (k : Nat) (a0_0 : Int) (a0_1 : Int) (a0_2 : Int) (a1_0 : Int) (a1_1 : Int) (a1_2 : Int) (a2_0 : Int) (a2_1 : Int) (a2_2 : Int) (a2_3 : Int) (a2_4 : Int) (a2_5 : Int) (a2_6 : Int) (a2_7 : Int) (a2_8 : Int) : Option (Bool) := (relievolaw03_alive.f k).bind fun t337 => (if t337 = true then ((side_Meet.f k a0_0 a0_1 a0_2 a1_0 a1_1 a1_2 a2_0 a2_1 a2_2 a2_3 a2_4 a2_5 a2_6 a2_7 a2_8).bind fun bt338 => (if bt338.2.2.2.2.2.2 = 0 then (relievolaw03_SideWithin.j0 k bt338.2.2.2.2.2.1 bt338.2.2.2.2.2.2 (!bt338.2.2.2.2.2.1) a0_0 a0_1 a0_2 a1_0 a1_1 a1_2 a2_0 a2_1 a2_2 a2_3 a2_4 a2_5 a2_6 a2_7 a2_8 bt338.1 bt338.2.1 bt338.2.2.1 bt338.2.2.2.1 bt338.2.2.2.2.1) else (relievolaw03_SideWithin.j0 k bt338.2.2.2.2.2.1 bt338.2.2.2.2.2.2 true a0_0 a0_1 a0_2 a1_0 a1_1 a1_2 a2_0 a2_1 a2_2 a2_3 a2_4 a2_5 a2_6 a2_7 a2_8 bt338.1 bt338.2.1 bt338.2.2.1 bt338.2.2.2.1 bt338.2.2.2.2.1))) else (some false))
def relievolaw03_SideWithin.T12 : Bool × List (List Nat × List Nat) := (true, [([], []), ([], []), ([1], [1]), ([2], [2]), ([], []), ([3, 4], [3, 4]), ([], []), ([6], [6]), ([7], [7]), ([8], [8]), ([9], [9]), ([], []), ([10, 11, 5], [10, 11]), ([5, 12, 12], [5, 12]), ([0, 13, 13], [0, 13]), ([14, 14, 0, 1, 2, 3, 4, 5, 6, 7, 8, 9, 10, 11, 12, 13, 14], [14])])
def relievolaw03_SideWithin.B12 : List Nat := [0, 0, 2, 6, 0, 30, 0, 64, 192, 448, 960, 0, 4094, 8190, 16383, 32767]
theorem relievolaw03_SideWithin.tab12 : rtab .any (opsOf Try.f6 12) = relievolaw03_SideWithin.T12 := by kernel_rfl
theorem relievolaw03_SideWithin.bits12 : waitsOk relievolaw03_SideWithin.T12.2 relievolaw03_SideWithin.B12 = true := by kernel_rfl
def relievolaw03_SideWithin.T16 : Bool × List (List Nat × List Nat) := (true, [([], []), ([], []), ([0, 1], [0, 1]), ([], []), ([3], [3]), ([4], [4]), ([2, 5, 2], [2, 5]), ([], []), ([7, 6, 6, 0, 1, 2, 3, 4, 5, 6, 7], [6, 7])])
def relievolaw03_SideWithin.B16 : List Nat := [0, 0, 3, 0, 8, 24, 63, 0, 255]
theorem relievolaw03_SideWithin.tab16 : rtab .any (opsOf Try.f6 16) = relievolaw03_SideWithin.T16 := by kernel_rfl
theorem relievolaw03_SideWithin.bits16 : waitsOk relievolaw03_SideWithin.T16.2 relievolaw03_SideWithin.B16 = true := by kernel_rfl
def relievolaw03_SideWithin.T17 : Bool × List (List Nat × List Nat) := (true, [([], []), ([], []), ([1], [1]), ([], []), ([2, 3], [2, 3]), ([0, 4, 4], [0, 4]), ([], []), ([6], [6]), ([7], [7]), ([5, 8, 5], [5, 8]), ([], []), ([10, 9, 9, 0, 1, 2, 3, 4, 5, 6, 7, 8, 9, 10], [9, 10])])
def relievolaw03_SideWithin.B17 : List Nat := [0, 0, 2, 0, 14, 31, 0, 64, 192, 511, 0, 2047]
theorem relievolaw03_SideWithin.tab17 : rtab .any (opsOf Try.f6 17) = relievolaw03_SideWithin.T17 := by kernel_rfl
theorem relievolaw03_SideWithin.bits17 : waitsOk relievolaw03_SideWithin.T17.2 relievolaw03_SideWithin.B17 = true := by kernel_rfl
set_option maxHeartbeats 8000000 in
set_option maxRecDepth 100000 in
theorem relievolaw03_SideWithin.calls (k : Nat) (a0_0 : Int) (a0_1 : Int) (a0_2 : Int) (a1_0 : Int) (a1_1 : Int) (a1_2 : Int) (a2_0 : Int) (a2_1 : Int) (a2_2 : Int) (a2_3 : Int) (a2_4 : Int) (a2_5 : Int) (a2_6 : Int) (a2_7 : Int) (a2_8 : Int) (r : Bool) (w : World) (h : relievolaw03_SideWithin.f k a0_0 a0_1 a0_2 a1_0 a1_1 a1_2 a2_0 a2_1 a2_2 a2_3 a2_4 a2_5 a2_6 a2_7 a2_8 = some r) :
    Calls Try.prog 6 #[.agg #[.int .i64 a0_0, .int .i64 a0_1, .int .i64 a0_2], .agg #[.int .i64 a1_0, .int .i64 a1_1, .int .i64 a1_2], .agg #[.int .i64 a2_0, .int .i64 a2_1, .int .i64 a2_2, .int .i64 a2_3, .int .i64 a2_4, .int .i64 a2_5, .int .i64 a2_6, .int .i64 a2_7, .int .i64 a2_8]] w fun e w' => e = .returned (.bool r) ∧ Below w.heap.size w w' := by
 have hu23 := Try.underlying23
 have hu25 := Try.underlying25
 have hu30 := Try.underlying30
 have hu41 := Try.underlying41
 have hu46 := Try.underlying46
 have HB := Aside0.mk (Below.refl w.heap.size w)
 have H : ((relievolaw03_alive.f k).bind fun t337 => (if t337 = true then ((side_Meet.f k a0_0 a0_1 a0_2 a1_0 a1_1 a1_2 a2_0 a2_1 a2_2 a2_3 a2_4 a2_5 a2_6 a2_7 a2_8).bind fun bt338 => (if bt338.2.2.2.2.2.2 = 0 then (relievolaw03_SideWithin.j0 k bt338.2.2.2.2.2.1 bt338.2.2.2.2.2.2 (!bt338.2.2.2.2.2.1) a0_0 a0_1 a0_2 a1_0 a1_1 a1_2 a2_0 a2_1 a2_2 a2_3 a2_4 a2_5 a2_6 a2_7 a2_8 bt338.1 bt338.2.1 bt338.2.2.1 bt338.2.2.2.1 bt338.2.2.2.2.1) else (relievolaw03_SideWithin.j0 k bt338.2.2.2.2.2.1 bt338.2.2.2.2.2.2 true a0_0 a0_1 a0_2 a1_0 a1_1 a1_2 a2_0 a2_1 a2_2 a2_3 a2_4 a2_5 a2_6 a2_7 a2_8 bt338.1 bt338.2.1 bt338.2.2.1 bt338.2.2.2.1 bt338.2.2.2.2.1))) else (some false))) = some r := h
 clear h
 replace H := Option.bind_eq_some_iff.mp H
 obtain ⟨t337, A40, H⟩ := H
 replace H : (if t337 = true then ((side_Meet.f k a0_0 a0_1 a0_2 a1_0 a1_1 a1_2 a2_0 a2_1 a2_2 a2_3 a2_4 a2_5 a2_6 a2_7 a2_8).bind fun bt338 => (if bt338.2.2.2.2.2.2 = 0 then (relievolaw03_SideWithin.j0 k bt338.2.2.2.2.2.1 bt338.2.2.2.2.2.2 (!bt338.2.2.2.2.2.1) a0_0 a0_1 a0_2 a1_0 a1_1 a1_2 a2_0 a2_1 a2_2 a2_3 a2_4 a2_5 a2_6 a2_7 a2_8 bt338.1 bt338.2.1 bt338.2.2.1 bt338.2.2.2.1 bt338.2.2.2.2.1) else (relievolaw03_SideWithin.j0 k bt338.2.2.2.2.2.1 bt338.2.2.2.2.2.2 true a0_0 a0_1 a0_2 a1_0 a1_1 a1_2 a2_0 a2_1 a2_2 a2_3 a2_4 a2_5 a2_6 a2_7 a2_8 bt338.1 bt338.2.1 bt338.2.2.1 bt338.2.2.2.1 bt338.2.2.2.2.1))) else (some false)) = some r := H
 have A4 := Aside0.mk A40
 clear A40
 by_cases c5 : t337 = true
 ·subst c5
  have H1 : ((side_Meet.f k a0_0 a0_1 a0_2 a1_0 a1_1 a1_2 a2_0 a2_1 a2_2 a2_3 a2_4 a2_5 a2_6 a2_7 a2_8).bind fun bt338 => (if bt338.2.2.2.2.2.2 = 0 then (relievolaw03_SideWithin.j0 k bt338.2.2.2.2.2.1 bt338.2.2.2.2.2.2 (!bt338.2.2.2.2.2.1) a0_0 a0_1 a0_2 a1_0 a1_1 a1_2 a2_0 a2_1 a2_2 a2_3 a2_4 a2_5 a2_6 a2_7 a2_8 bt338.1 bt338.2.1 bt338.2.2.1 bt338.2.2.2.1 bt338.2.2.2.2.1) else (relievolaw03_SideWithin.j0 k bt338.2.2.2.2.2.1 bt338.2.2.2.2.2.2 true a0_0 a0_1 a0_2 a1_0 a1_1 a1_2 a2_0 a2_1 a2_2 a2_3 a2_4 a2_5 a2_6 a2_7 a2_8 bt338.1 bt338.2.1 bt338.2.2.1 bt338.2.2.2.1 bt338.2.2.2.2.1))) = some r := by rw [if_pos rfl] at H; exact H
  clear H
  have H := H1
  clear H1
  replace H := Option.bind_eq_some_iff.mp H
  obtain ⟨⟨t338, t339, t340, t341, t342, t343, t344⟩, A60, H⟩ := H
  replace H : (if t344 = 0 then (relievolaw03_SideWithin.j0 k t343 t344 (!t343) a0_0 a0_1 a0_2 a1_0 a1_1 a1_2 a2_0 a2_1 a2_2 a2_3 a2_4 a2_5 a2_6 a2_7 a2_8 t338 t339 t340 t341 t342) else (relievolaw03_SideWithin.j0 k t343 t344 true a0_0 a0_1 a0_2 a1_0 a1_1 a1_2 a2_0 a2_1 a2_2 a2_3 a2_4 a2_5 a2_6 a2_7 a2_8 t338 t339 t340 t341 t342)) = some r := H
  have A6 := Aside0.mk A60
  clear A60
  have HC7 := Aside0.mk H
  clear H
  go_enter Try.func6, Try.ntmps6
  go_upto_region 4 with (first | ((with_reducible refine gate_dst (N := 3) rfl ?_); refine box_event ?hg (N := 3) ?hd (cs := #[.int .i64 a0_0, .int .i64 a0_1, .int .i64 a0_2]) (t := 23) ?hr ?_; (case hd => rfl); (case hg => rfl); (case hr => first | (go_simp; done) | (go_simp; rfl)); intro gb334 hg w8 hbox hb; have BK334 := Aside0.mk (hbox); have GE334 := Aside0.mk (bG hg (HB.out)); replace HB := Aside0.mk (below_step (HB.out) hb); clear hb hbox hg) | ((with_reducible refine gate_dst (N := 4) rfl ?_); refine box_event ?hg (N := 4) ?hd (cs := #[.int .i64 a1_0, .int .i64 a1_1, .int .i64 a1_2]) (t := 23) ?hr ?_; (case hd => rfl); (case hg => rfl); (case hr => first | (go_simp; done) | (go_simp; rfl)); intro gb335 hg w9 hbox hb; have BK335 := Aside0.mk (hbox); have GE335 := Aside0.mk (bG hg (HB.out)); have NB334_335 := cN hg BK334; have NB335_334 := cM hg BK334; replace BK334 := cB hb BK334; replace HB := Aside0.mk (below_step (HB.out) hb); clear hb hbox hg) | ((with_reducible refine gate_dst (N := 5) rfl ?_); refine box_event ?hg (N := 5) ?hd (cs := #[.int .i64 a2_0, .int .i64 a2_1, .int .i64 a2_2, .int .i64 a2_3, .int .i64 a2_4, .int .i64 a2_5, .int .i64 a2_6, .int .i64 a2_7, .int .i64 a2_8]) (t := 25) ?hr ?_; (case hd => rfl); (case hg => rfl); (case hr => first | (go_simp; done) | (go_simp; rfl)); intro gb336 hg w10 hbox hb; have BK336 := Aside0.mk (hbox); have GE336 := Aside0.mk (bG hg (HB.out)); have NB334_336 := cN hg BK334; have NB336_334 := cM hg BK334; have NB335_336 := cN hg BK335; have NB336_335 := cM hg BK335; replace BK334 := cB hb BK334; replace BK335 := cB hb BK335; replace HB := Aside0.mk (below_step (HB.out) hb); clear hb hbox hg) | ((with_reducible refine gate_callee (f := 19) rfl ?_); refine goesL_ (some 18) rfl rfl Try.func19 (by kernel_rfl) rfl #[] rfl (by (try simp only [List.map_toArray, List.map_cons, List.map_nil]); first | done | rfl | (simp only [List.length_drop, List.length_take]; rfl)) ?_; (with_reducible refine (relievolaw03_alive.calls k  true _ A4.out).mono ?_); rintro e w11 ⟨rfl, hb⟩; refine ⟨_, rfl, ?_⟩; replace BK334 := cB hb BK334; replace BK335 := cB hb BK335; replace BK336 := cB hb BK336; replace HB := Aside0.mk (below_step (HB.out) hb); (try clear hb); (try clear hb2); (try clear hk); (try clear hi); obtain ⟨hcz12_0, hcz12_1, hcz12_2⟩ := cells3 BK334.out; obtain ⟨hcz13_0, hcz13_1, hcz13_2⟩ := cells3 BK335.out; obtain ⟨hcz14_0, hcz14_1, hcz14_2, hcz14_3, hcz14_4, hcz14_5, hcz14_6, hcz14_7, hcz14_8⟩ := cells9 BK336.out) | ((with_reducible refine gate_callee (f := 20) rfl ?_); refine goesL_ (some 24) rfl rfl Try.func20 (by kernel_rfl) rfl #[.agg #[.int .i64 a0_0, .int .i64 a0_1, .int .i64 a0_2], .agg #[.int .i64 a1_0, .int .i64 a1_1, .int .i64 a1_2], .agg #[.int .i64 a2_0, .int .i64 a2_1, .int .i64 a2_2, .int .i64 a2_3, .int .i64 a2_4, .int .i64 a2_5, .int .i64 a2_6, .int .i64 a2_7, .int .i64 a2_8]] rfl (by (try simp only [List.map_toArray, List.map_cons, List.map_nil]); first | done | rfl | (simp only [List.length_drop, List.length_take]; rfl)) ?_; (with_reducible refine (side_Meet.calls k a0_0 a0_1 a0_2 a1_0 a1_1 a1_2 a2_0 a2_1 a2_2 a2_3 a2_4 a2_5 a2_6 a2_7 a2_8 t338 t339 t340 t341 t342 t343 t344 _ A6.out).mono ?_); rintro e w15 ⟨rfl, hb⟩; refine ⟨_, rfl, ?_⟩; replace BK334 := cB hb BK334; replace BK335 := cB hb BK335; replace BK336 := cB hb BK336; replace HB := Aside0.mk (below_step (HB.out) hb); (try clear hb); (try clear hb2); (try clear hk); (try clear hi)) | ((with_reducible refine gate_dst (N := 7) rfl ?_); refine box_event ?hg (N := 7) ?hd (cs := #[.int .i64 0, .int .i64 0, .bool false, .int .i64 0, .int .i64 0]) (t := 30) ?hr ?_; (case hd => rfl); (case hg => rfl); (case hr => first | (go_simp; done) | (go_simp; rfl)); intro gb345 hg w16 hbox hb; have BK345 := Aside0.mk (hbox); have GE345 := Aside0.mk (bG hg (HB.out)); have NB334_345 := cN hg BK334; have NB345_334 := cM hg BK334; have NB335_345 := cN hg BK335; have NB345_335 := cM hg BK335; have NB336_345 := cN hg BK336; have NB345_336 := cM hg BK336; replace BK334 := cB hb BK334; replace BK335 := cB hb BK335; replace BK336 := cB hb BK336; replace HB := Aside0.mk (below_step (HB.out) hb); clear hb hbox hg; have hnb17 := NB345_334.out; have hnc17 := NB334_345.out; have hnb18 := NB345_335.out; have hnc18 := NB335_345.out; have hnb19 := NB345_336.out; have hnc19 := NB336_345.out; obtain ⟨hcz20_0, hcz20_1, hcz20_2, hcz20_3, hcz20_4⟩ := cells5 BK345.out; have hfz20_0 := blk_frozen BK345.out 0; have hfz20_1 := blk_frozen BK345.out 1; have hfz20_2 := blk_frozen BK345.out 2; have hfz20_3 := blk_frozen BK345.out 3; have hfz20_4 := blk_frozen BK345.out 4))
  (try simp only [Act.put, List.setIfInBounds_toArray, List.set_cons_zero, List.set_cons_succ])
  go_cut [33] (fun v33 wc => ∃ (kq : Nat) (x33_6 : Bool), v33 = .bool x33_6 ∧ Aside0 (relievolaw03_SideWithin.j0 kq t343 t344 x33_6 a0_0 a0_1 a0_2 a1_0 a1_1 a1_2 a2_0 a2_1 a2_2 a2_3 a2_4 a2_5 a2_6 a2_7 a2_8 t338 t339 t340 t341 t342 = some r) ∧ Aside0 (kq ≤ k) ∧ Aside0 (wc.heap[gb334]? = some (.cells #[.int .i64 a0_0, .int .i64 a0_1, .int .i64 a0_2] 23 (0, 0))) ∧ Aside0 (wc.heap[gb335]? = some (.cells #[.int .i64 a1_0, .int .i64 a1_1, .int .i64 a1_2] 23 (0, 0))) ∧ Aside0 (wc.heap[gb336]? = some (.cells #[.int .i64 a2_0, .int .i64 a2_1, .int .i64 a2_2, .int .i64 a2_3, .int .i64 a2_4, .int .i64 a2_5, .int .i64 a2_6, .int .i64 a2_7, .int .i64 a2_8] 25 (0, 0))) ∧ Aside0 (wc.heap[gb345]? = some (.cells #[.int .i64 t338, .int .i64 t339, .bool t340, .int .i64 t341, .int .i64 t342] 30 (0, 0))) ∧ Aside0 (Below w.heap.size w wc))
  case first =>
   have H := HC7.out
   clear HC7
   by_cases c21 : t344 = 0
   ·rw [if_pos c21] at H
    have c21b0 : (t344 == 0) = true := beq_iff_eq.mpr c21
    have c21b1 : (t344 != 0) = false := bne_eq_false_iff_eq.mpr c21
    clear c21
    (first | rw [c21b0] | (simp only [i64_w, i32_w]; rw [c21b0]) | skip)
    have H' := Aside0.mk H
    clear H
    go_wp2
    go_meet
    case rel => exact ⟨_, (!t343), (by first | rfl | (simp; done) | (simp [*]; done)), H', ⟨by first | omega | exact Nat.le_refl _⟩, ⟨(blk_far (blk_far (blk_far (blk_far (blk_far BK334.out NB334_345.out _) NB334_345.out _) NB334_345.out _) NB334_345.out _) NB334_345.out _)⟩, ⟨(blk_far (blk_far (blk_far (blk_far (blk_far BK335.out NB335_345.out _) NB335_345.out _) NB335_345.out _) NB335_345.out _) NB335_345.out _)⟩, ⟨(blk_far (blk_far (blk_far (blk_far (blk_far BK336.out NB336_345.out _) NB336_345.out _) NB336_345.out _) NB336_345.out _) NB336_345.out _)⟩, ⟨(blk_put (cs' := #[.int .i64 t338, .int .i64 t339, .bool t340, .int .i64 t341, .int .i64 t342]) (blk_put (blk_put (blk_put (blk_put BK345.out 0 _ rfl) 1 _ rfl) 2 _ rfl) 3 _ rfl) 4 _ rfl)⟩, ⟨(below_set (below_set (below_set (below_set (below_set HB.out GE345.out) GE345.out) GE345.out) GE345.out) GE345.out)⟩⟩
   rw [if_neg c21] at H
   have c21b0 : (t344 == 0) = false := beq_eq_false_iff_ne.mpr c21
   have c21b1 : (t344 != 0) = true := bne_iff_ne.mpr c21
   (first | rw [c21b0] | (simp only [i64_w, i32_w]; rw [c21b0]) | skip)
   have H' := Aside0.mk H
   clear H
   go_wp2
   go_meet
   case rel => exact ⟨_, (true), (by first | rfl | (simp; done) | (simp [*]; done)), H', ⟨by first | omega | exact Nat.le_refl _⟩, ⟨(blk_far (blk_far (blk_far (blk_far (blk_far BK334.out NB334_345.out _) NB334_345.out _) NB334_345.out _) NB334_345.out _) NB334_345.out _)⟩, ⟨(blk_far (blk_far (blk_far (blk_far (blk_far BK335.out NB335_345.out _) NB335_345.out _) NB335_345.out _) NB335_345.out _) NB335_345.out _)⟩, ⟨(blk_far (blk_far (blk_far (blk_far (blk_far BK336.out NB336_345.out _) NB336_345.out _) NB336_345.out _) NB336_345.out _) NB336_345.out _)⟩, ⟨(blk_put (cs' := #[.int .i64 t338, .int .i64 t339, .bool t340, .int .i64 t341, .int .i64 t342]) (blk_put (blk_put (blk_put (blk_put BK345.out 0 _ rfl) 1 _ rfl) 2 _ rfl) 3 _ rfl) 4 _ rfl)⟩, ⟨(below_set (below_set (below_set (below_set (below_set HB.out GE345.out) GE345.out) GE345.out) GE345.out) GE345.out)⟩⟩
  clear HC7
  try clear c5
  try clear hcz12_0
  try clear hcz12_1
  try clear hcz12_2
  try clear hcz13_0
  try clear hcz13_1
  try clear hcz13_2
  try clear hcz14_0
  try clear hcz14_1
  try clear hcz14_2
  try clear hcz14_3
  try clear hcz14_4
  try clear hcz14_5
  try clear hcz14_6
  try clear hcz14_7
  try clear hcz14_8
  try clear hcz20_0
  try clear hcz20_1
  try clear hcz20_2
  try clear hcz20_3
  try clear hcz20_4
  try clear hfz20_0
  try clear hfz20_1
  try clear hfz20_2
  try clear hfz20_3
  try clear hfz20_4
  obtain ⟨kq, x33_6, rfl, HA, HJ6, BK334, BK335, BK336, BK345, HB⟩ := hcut
  cases kq with
  | zero => exact absurd HA.out (by simp [relievolaw03_SideWithin.j0])
  | succ kj6 =>
   have H := HA.out
   clear HA
   simp only [relievolaw03_SideWithin.j0] at H
   by_cases c22 : x33_6 = true
   ·subst c22
    have H1 : (if t344 = 0 then (some true) else (if t343 = true then (some false) else (some ((t338 == 0 && (t339 == 0)) && (!t340 && (t341 == 0 && (t342 == 0))))))) = some r := by rw [if_pos rfl] at H; exact H
    clear H
    have H := H1
    clear H1
    by_cases c23 : t344 = 0
    ·rw [if_pos c23] at H
     have c23b0 : (t344 == 0) = true := beq_iff_eq.mpr c23
     have c23b1 : (t344 != 0) = false := bne_eq_false_iff_eq.mpr c23
     clear c23
     obtain rfl := Option.some.inj H
     go_wp2
     go_ret
     exact ⟨by first | rfl | (simp [errW_none, errW_some] <;> rfl) | (simp [*, errW_none, errW_some] <;> rfl), HB.out⟩
    rw [if_neg c23] at H
    have c23b0 : (t344 == 0) = false := beq_eq_false_iff_ne.mpr c23
    have c23b1 : (t344 != 0) = true := bne_iff_ne.mpr c23
    by_cases c24 : t343 = true
    ·subst c24
     have H1 : (some false) = some r := by rw [if_pos rfl] at H; exact H
     clear H
     have H := H1
     clear H1
     obtain rfl := Option.some.inj H
     go_wp2
     go_ret
     exact ⟨by first | rfl | (simp [errW_none, errW_some] <;> rfl) | (simp [*, errW_none, errW_some] <;> rfl), HB.out⟩
    replace c24 := Bool.eq_false_iff.mpr c24
    subst c24
    have H1 : (some ((t338 == 0 && (t339 == 0)) && (!t340 && (t341 == 0 && (t342 == 0))))) = some r := by rw [if_neg (show ¬ (false = true) by decide)] at H; exact H
    clear H
    have H := H1
    clear H1
    obtain rfl := Option.some.inj H
    obtain ⟨hcz25_0, hcz25_1, hcz25_2, hcz25_3, hcz25_4⟩ := cells5 BK345.out
    go_wp2
    go_ret
    exact ⟨by first | rfl | (simp [errW_none, errW_some] <;> rfl) | (simp [*, errW_none, errW_some] <;> rfl), HB.out⟩
   replace c22 := Bool.eq_false_iff.mpr c22
   subst c22
   have H1 : ((relievoref02_Sub.f a2_0 a2_1 a2_2 a0_0 a0_1 a0_2).bind fun bt348 => ((relievoref02_Sub.f a2_3 a2_4 a2_5 a0_0 a0_1 a0_2).bind fun bt351 => ((relievoref02_Cross.f bt348.1 bt348.2.1 bt348.2.2 bt351.1 bt351.2.1 bt351.2.2).bind fun bt354 => ((relievoref02_Dot.f a1_0 a1_1 a1_2 bt354.1 bt354.2.1 bt354.2.2).bind fun t357 => ((relievoref02_Sub.f a2_3 a2_4 a2_5 a0_0 a0_1 a0_2).bind fun bt358 => ((relievoref02_Sub.f a2_6 a2_7 a2_8 a0_0 a0_1 a0_2).bind fun bt361 => ((relievoref02_Cross.f bt358.1 bt358.2.1 bt358.2.2 bt361.1 bt361.2.1 bt361.2.2).bind fun bt364 => ((relievoref02_Dot.f a1_0 a1_1 a1_2 bt364.1 bt364.2.1 bt364.2.2).bind fun t367 => ((relievoref02_Sub.f a2_6 a2_7 a2_8 a0_0 a0_1 a0_2).bind fun bt368 => ((relievoref02_Sub.f a2_0 a2_1 a2_2 a0_0 a0_1 a0_2).bind fun bt371 => ((relievoref02_Cross.f bt368.1 bt368.2.1 bt368.2.2 bt371.1 bt371.2.1 bt371.2.2).bind fun bt374 => ((relievoref02_Dot.f a1_0 a1_1 a1_2 bt374.1 bt374.2.1 bt374.2.2).bind fun t377 => ((relievoref03_Normal.f a2_0 a2_1 a2_2 a2_3 a2_4 a2_5 a2_6 a2_7 a2_8).bind fun bt378 => ((relievoref02_Dot.f bt378.1 bt378.2.1 bt378.2.2 a1_0 a1_1 a1_2).bind fun t382 => ((relievoref01_Mul.f t382 t338).bind fun bt383 => ((relievoref02_Sub.f a2_0 a2_1 a2_2 a0_0 a0_1 a0_2).bind fun bt386 => ((relievoref02_Dot.f bt378.1 bt378.2.1 bt378.2.2 bt386.1 bt386.2.1 bt386.2.2).bind fun t389 => ((relievoref01_Mul.f t389 t339).bind fun bt390 => (if (mn (mn (mn 0 t357) t367) t377) = 0 then (if t339 > 0 then (some (bt383.1 == bt390.1 && (bt383.2 == bt390.2))) else (some false)) else (if (mx (mx (mx 0 t357) t367) t377) = 0 then (if t339 > 0 then (some (bt383.1 == bt390.1 && (bt383.2 == bt390.2))) else (some false)) else (some false))))))))))))))))))))) = some r := by rw [if_neg (show ¬ (false = true) by decide)] at H; exact H
   clear H
   have H := H1
   clear H1
   replace H := Option.bind_eq_some_iff.mp H
   obtain ⟨⟨t348, t349, t350⟩, A260, H⟩ := H
   replace H : ((relievoref02_Sub.f a2_3 a2_4 a2_5 a0_0 a0_1 a0_2).bind fun bt351 => ((relievoref02_Cross.f t348 t349 t350 bt351.1 bt351.2.1 bt351.2.2).bind fun bt354 => ((relievoref02_Dot.f a1_0 a1_1 a1_2 bt354.1 bt354.2.1 bt354.2.2).bind fun t357 => ((relievoref02_Sub.f a2_3 a2_4 a2_5 a0_0 a0_1 a0_2).bind fun bt358 => ((relievoref02_Sub.f a2_6 a2_7 a2_8 a0_0 a0_1 a0_2).bind fun bt361 => ((relievoref02_Cross.f bt358.1 bt358.2.1 bt358.2.2 bt361.1 bt361.2.1 bt361.2.2).bind fun bt364 => ((relievoref02_Dot.f a1_0 a1_1 a1_2 bt364.1 bt364.2.1 bt364.2.2).bind fun t367 => ((relievoref02_Sub.f a2_6 a2_7 a2_8 a0_0 a0_1 a0_2).bind fun bt368 => ((relievoref02_Sub.f a2_0 a2_1 a2_2 a0_0 a0_1 a0_2).bind fun bt371 => ((relievoref02_Cross.f bt368.1 bt368.2.1 bt368.2.2 bt371.1 bt371.2.1 bt371.2.2).bind fun bt374 => ((relievoref02_Dot.f a1_0 a1_1 a1_2 bt374.1 bt374.2.1 bt374.2.2).bind fun t377 => ((relievoref03_Normal.f a2_0 a2_1 a2_2 a2_3 a2_4 a2_5 a2_6 a2_7 a2_8).bind fun bt378 => ((relievoref02_Dot.f bt378.1 bt378.2.1 bt378.2.2 a1_0 a1_1 a1_2).bind fun t382 => ((relievoref01_Mul.f t382 t338).bind fun bt383 => ((relievoref02_Sub.f a2_0 a2_1 a2_2 a0_0 a0_1 a0_2).bind fun bt386 => ((relievoref02_Dot.f bt378.1 bt378.2.1 bt378.2.2 bt386.1 bt386.2.1 bt386.2.2).bind fun t389 => ((relievoref01_Mul.f t389 t339).bind fun bt390 => (if (mn (mn (mn 0 t357) t367) t377) = 0 then (if t339 > 0 then (some (bt383.1 == bt390.1 && (bt383.2 == bt390.2))) else (some false)) else (if (mx (mx (mx 0 t357) t367) t377) = 0 then (if t339 > 0 then (some (bt383.1 == bt390.1 && (bt383.2 == bt390.2))) else (some false)) else (some false)))))))))))))))))))) = some r := H
   have A26 := Aside0.mk A260
   clear A260
   replace H := Option.bind_eq_some_iff.mp H
   obtain ⟨⟨t351, t352, t353⟩, A270, H⟩ := H
   replace H : ((relievoref02_Cross.f t348 t349 t350 t351 t352 t353).bind fun bt354 => ((relievoref02_Dot.f a1_0 a1_1 a1_2 bt354.1 bt354.2.1 bt354.2.2).bind fun t357 => ((relievoref02_Sub.f a2_3 a2_4 a2_5 a0_0 a0_1 a0_2).bind fun bt358 => ((relievoref02_Sub.f a2_6 a2_7 a2_8 a0_0 a0_1 a0_2).bind fun bt361 => ((relievoref02_Cross.f bt358.1 bt358.2.1 bt358.2.2 bt361.1 bt361.2.1 bt361.2.2).bind fun bt364 => ((relievoref02_Dot.f a1_0 a1_1 a1_2 bt364.1 bt364.2.1 bt364.2.2).bind fun t367 => ((relievoref02_Sub.f a2_6 a2_7 a2_8 a0_0 a0_1 a0_2).bind fun bt368 => ((relievoref02_Sub.f a2_0 a2_1 a2_2 a0_0 a0_1 a0_2).bind fun bt371 => ((relievoref02_Cross.f bt368.1 bt368.2.1 bt368.2.2 bt371.1 bt371.2.1 bt371.2.2).bind fun bt374 => ((relievoref02_Dot.f a1_0 a1_1 a1_2 bt374.1 bt374.2.1 bt374.2.2).bind fun t377 => ((relievoref03_Normal.f a2_0 a2_1 a2_2 a2_3 a2_4 a2_5 a2_6 a2_7 a2_8).bind fun bt378 => ((relievoref02_Dot.f bt378.1 bt378.2.1 bt378.2.2 a1_0 a1_1 a1_2).bind fun t382 => ((relievoref01_Mul.f t382 t338).bind fun bt383 => ((relievoref02_Sub.f a2_0 a2_1 a2_2 a0_0 a0_1 a0_2).bind fun bt386 => ((relievoref02_Dot.f bt378.1 bt378.2.1 bt378.2.2 bt386.1 bt386.2.1 bt386.2.2).bind fun t389 => ((relievoref01_Mul.f t389 t339).bind fun bt390 => (if (mn (mn (mn 0 t357) t367) t377) = 0 then (if t339 > 0 then (some (bt383.1 == bt390.1 && (bt383.2 == bt390.2))) else (some false)) else (if (mx (mx (mx 0 t357) t367) t377) = 0 then (if t339 > 0 then (some (bt383.1 == bt390.1 && (bt383.2 == bt390.2))) else (some false)) else (some false))))))))))))))))))) = some r := H
   have A27 := Aside0.mk A270
   clear A270
   replace H := Option.bind_eq_some_iff.mp H
   obtain ⟨⟨t354, t355, t356⟩, A280, H⟩ := H
   replace H : ((relievoref02_Dot.f a1_0 a1_1 a1_2 t354 t355 t356).bind fun t357 => ((relievoref02_Sub.f a2_3 a2_4 a2_5 a0_0 a0_1 a0_2).bind fun bt358 => ((relievoref02_Sub.f a2_6 a2_7 a2_8 a0_0 a0_1 a0_2).bind fun bt361 => ((relievoref02_Cross.f bt358.1 bt358.2.1 bt358.2.2 bt361.1 bt361.2.1 bt361.2.2).bind fun bt364 => ((relievoref02_Dot.f a1_0 a1_1 a1_2 bt364.1 bt364.2.1 bt364.2.2).bind fun t367 => ((relievoref02_Sub.f a2_6 a2_7 a2_8 a0_0 a0_1 a0_2).bind fun bt368 => ((relievoref02_Sub.f a2_0 a2_1 a2_2 a0_0 a0_1 a0_2).bind fun bt371 => ((relievoref02_Cross.f bt368.1 bt368.2.1 bt368.2.2 bt371.1 bt371.2.1 bt371.2.2).bind fun bt374 => ((relievoref02_Dot.f a1_0 a1_1 a1_2 bt374.1 bt374.2.1 bt374.2.2).bind fun t377 => ((relievoref03_Normal.f a2_0 a2_1 a2_2 a2_3 a2_4 a2_5 a2_6 a2_7 a2_8).bind fun bt378 => ((relievoref02_Dot.f bt378.1 bt378.2.1 bt378.2.2 a1_0 a1_1 a1_2).bind fun t382 => ((relievoref01_Mul.f t382 t338).bind fun bt383 => ((relievoref02_Sub.f a2_0 a2_1 a2_2 a0_0 a0_1 a0_2).bind fun bt386 => ((relievoref02_Dot.f bt378.1 bt378.2.1 bt378.2.2 bt386.1 bt386.2.1 bt386.2.2).bind fun t389 => ((relievoref01_Mul.f t389 t339).bind fun bt390 => (if (mn (mn (mn 0 t357) t367) t377) = 0 then (if t339 > 0 then (some (bt383.1 == bt390.1 && (bt383.2 == bt390.2))) else (some false)) else (if (mx (mx (mx 0 t357) t367) t377) = 0 then (if t339 > 0 then (some (bt383.1 == bt390.1 && (bt383.2 == bt390.2))) else (some false)) else (some false)))))))))))))))))) = some r := H
   have A28 := Aside0.mk A280
   clear A280
   replace H := Option.bind_eq_some_iff.mp H
   obtain ⟨t357, A290, H⟩ := H
   replace H : ((relievoref02_Sub.f a2_3 a2_4 a2_5 a0_0 a0_1 a0_2).bind fun bt358 => ((relievoref02_Sub.f a2_6 a2_7 a2_8 a0_0 a0_1 a0_2).bind fun bt361 => ((relievoref02_Cross.f bt358.1 bt358.2.1 bt358.2.2 bt361.1 bt361.2.1 bt361.2.2).bind fun bt364 => ((relievoref02_Dot.f a1_0 a1_1 a1_2 bt364.1 bt364.2.1 bt364.2.2).bind fun t367 => ((relievoref02_Sub.f a2_6 a2_7 a2_8 a0_0 a0_1 a0_2).bind fun bt368 => ((relievoref02_Sub.f a2_0 a2_1 a2_2 a0_0 a0_1 a0_2).bind fun bt371 => ((relievoref02_Cross.f bt368.1 bt368.2.1 bt368.2.2 bt371.1 bt371.2.1 bt371.2.2).bind fun bt374 => ((relievoref02_Dot.f a1_0 a1_1 a1_2 bt374.1 bt374.2.1 bt374.2.2).bind fun t377 => ((relievoref03_Normal.f a2_0 a2_1 a2_2 a2_3 a2_4 a2_5 a2_6 a2_7 a2_8).bind fun bt378 => ((relievoref02_Dot.f bt378.1 bt378.2.1 bt378.2.2 a1_0 a1_1 a1_2).bind fun t382 => ((relievoref01_Mul.f t382 t338).bind fun bt383 => ((relievoref02_Sub.f a2_0 a2_1 a2_2 a0_0 a0_1 a0_2).bind fun bt386 => ((relievoref02_Dot.f bt378.1 bt378.2.1 bt378.2.2 bt386.1 bt386.2.1 bt386.2.2).bind fun t389 => ((relievoref01_Mul.f t389 t339).bind fun bt390 => (if (mn (mn (mn 0 t357) t367) t377) = 0 then (if t339 > 0 then (some (bt383.1 == bt390.1 && (bt383.2 == bt390.2))) else (some false)) else (if (mx (mx (mx 0 t357) t367) t377) = 0 then (if t339 > 0 then (some (bt383.1 == bt390.1 && (bt383.2 == bt390.2))) else (some false)) else (some false))))))))))))))))) = some r := H
   have A29 := Aside0.mk A290
   clear A290
   obtain ⟨ji30, hji30⟩ : ∃ j_ : Int, (mn 0 t357) = j_ := ⟨_, rfl⟩
   replace H : ((relievoref02_Sub.f a2_3 a2_4 a2_5 a0_0 a0_1 a0_2).bind fun bt358 => ((relievoref02_Sub.f a2_6 a2_7 a2_8 a0_0 a0_1 a0_2).bind fun bt361 => ((relievoref02_Cross.f bt358.1 bt358.2.1 bt358.2.2 bt361.1 bt361.2.1 bt361.2.2).bind fun bt364 => ((relievoref02_Dot.f a1_0 a1_1 a1_2 bt364.1 bt364.2.1 bt364.2.2).bind fun t367 => ((relievoref02_Sub.f a2_6 a2_7 a2_8 a0_0 a0_1 a0_2).bind fun bt368 => ((relievoref02_Sub.f a2_0 a2_1 a2_2 a0_0 a0_1 a0_2).bind fun bt371 => ((relievoref02_Cross.f bt368.1 bt368.2.1 bt368.2.2 bt371.1 bt371.2.1 bt371.2.2).bind fun bt374 => ((relievoref02_Dot.f a1_0 a1_1 a1_2 bt374.1 bt374.2.1 bt374.2.2).bind fun t377 => ((relievoref03_Normal.f a2_0 a2_1 a2_2 a2_3 a2_4 a2_5 a2_6 a2_7 a2_8).bind fun bt378 => ((relievoref02_Dot.f bt378.1 bt378.2.1 bt378.2.2 a1_0 a1_1 a1_2).bind fun t382 => ((relievoref01_Mul.f t382 t338).bind fun bt383 => ((relievoref02_Sub.f a2_0 a2_1 a2_2 a0_0 a0_1 a0_2).bind fun bt386 => ((relievoref02_Dot.f bt378.1 bt378.2.1 bt378.2.2 bt386.1 bt386.2.1 bt386.2.2).bind fun t389 => ((relievoref01_Mul.f t389 t339).bind fun bt390 => (if (mn (mn (ji30) t367) t377) = 0 then (if t339 > 0 then (some (bt383.1 == bt390.1 && (bt383.2 == bt390.2))) else (some false)) else (if (mx (mx (mx 0 t357) t367) t377) = 0 then (if t339 > 0 then (some (bt383.1 == bt390.1 && (bt383.2 == bt390.2))) else (some false)) else (some false))))))))))))))))) = some r := by first | (rw [hji30] at H; exact H) | (simp only [hji30] at H ⊢; exact H)
   (try rw [hji30] at A26)
   (try rw [hji30] at A27)
   (try rw [hji30] at A28)
   (try rw [hji30] at A29)
   (try (have hji30h : ji30 ≤ 0 := by (rw [← hji30]; unfold mn; (repeat' split) <;> omega)))
   (try (have hji30g : ji30 ≤ 64 := by omega))
   have hji30_ : (if t357 < 0 then t357 else 0) = ji30 := hji30
   obtain ⟨ji31, hji31⟩ : ∃ j_ : Int, (mx 0 t357) = j_ := ⟨_, rfl⟩
   replace H : ((relievoref02_Sub.f a2_3 a2_4 a2_5 a0_0 a0_1 a0_2).bind fun bt358 => ((relievoref02_Sub.f a2_6 a2_7 a2_8 a0_0 a0_1 a0_2).bind fun bt361 => ((relievoref02_Cross.f bt358.1 bt358.2.1 bt358.2.2 bt361.1 bt361.2.1 bt361.2.2).bind fun bt364 => ((relievoref02_Dot.f a1_0 a1_1 a1_2 bt364.1 bt364.2.1 bt364.2.2).bind fun t367 => ((relievoref02_Sub.f a2_6 a2_7 a2_8 a0_0 a0_1 a0_2).bind fun bt368 => ((relievoref02_Sub.f a2_0 a2_1 a2_2 a0_0 a0_1 a0_2).bind fun bt371 => ((relievoref02_Cross.f bt368.1 bt368.2.1 bt368.2.2 bt371.1 bt371.2.1 bt371.2.2).bind fun bt374 => ((relievoref02_Dot.f a1_0 a1_1 a1_2 bt374.1 bt374.2.1 bt374.2.2).bind fun t377 => ((relievoref03_Normal.f a2_0 a2_1 a2_2 a2_3 a2_4 a2_5 a2_6 a2_7 a2_8).bind fun bt378 => ((relievoref02_Dot.f bt378.1 bt378.2.1 bt378.2.2 a1_0 a1_1 a1_2).bind fun t382 => ((relievoref01_Mul.f t382 t338).bind fun bt383 => ((relievoref02_Sub.f a2_0 a2_1 a2_2 a0_0 a0_1 a0_2).bind fun bt386 => ((relievoref02_Dot.f bt378.1 bt378.2.1 bt378.2.2 bt386.1 bt386.2.1 bt386.2.2).bind fun t389 => ((relievoref01_Mul.f t389 t339).bind fun bt390 => (if (mn (mn (ji30) t367) t377) = 0 then (if t339 > 0 then (some (bt383.1 == bt390.1 && (bt383.2 == bt390.2))) else (some false)) else (if (mx (mx (ji31) t367) t377) = 0 then (if t339 > 0 then (some (bt383.1 == bt390.1 && (bt383.2 == bt390.2))) else (some false)) else (some false))))))))))))))))) = some r := by first | (rw [hji31] at H; exact H) | (simp only [hji31] at H ⊢; exact H)
   (try rw [hji31] at A26)
   (try rw [hji31] at A27)
   (try rw [hji31] at A28)
   (try rw [hji31] at A29)
   (try (have hji31l : 0 ≤ ji31 := by (rw [← hji31]; unfold mx; (repeat' split) <;> omega)))
   (try (have hji31m : 0 ≤ ji31 := by omega))
   have hji31_ : (if 0 < t357 then t357 else 0) = ji31 := hji31
   replace H := Option.bind_eq_some_iff.mp H
   obtain ⟨⟨t358, t359, t360⟩, A320, H⟩ := H
   replace H : ((relievoref02_Sub.f a2_6 a2_7 a2_8 a0_0 a0_1 a0_2).bind fun bt361 => ((relievoref02_Cross.f t358 t359 t360 bt361.1 bt361.2.1 bt361.2.2).bind fun bt364 => ((relievoref02_Dot.f a1_0 a1_1 a1_2 bt364.1 bt364.2.1 bt364.2.2).bind fun t367 => ((relievoref02_Sub.f a2_6 a2_7 a2_8 a0_0 a0_1 a0_2).bind fun bt368 => ((relievoref02_Sub.f a2_0 a2_1 a2_2 a0_0 a0_1 a0_2).bind fun bt371 => ((relievoref02_Cross.f bt368.1 bt368.2.1 bt368.2.2 bt371.1 bt371.2.1 bt371.2.2).bind fun bt374 => ((relievoref02_Dot.f a1_0 a1_1 a1_2 bt374.1 bt374.2.1 bt374.2.2).bind fun t377 => ((relievoref03_Normal.f a2_0 a2_1 a2_2 a2_3 a2_4 a2_5 a2_6 a2_7 a2_8).bind fun bt378 => ((relievoref02_Dot.f bt378.1 bt378.2.1 bt378.2.2 a1_0 a1_1 a1_2).bind fun t382 => ((relievoref01_Mul.f t382 t338).bind fun bt383 => ((relievoref02_Sub.f a2_0 a2_1 a2_2 a0_0 a0_1 a0_2).bind fun bt386 => ((relievoref02_Dot.f bt378.1 bt378.2.1 bt378.2.2 bt386.1 bt386.2.1 bt386.2.2).bind fun t389 => ((relievoref01_Mul.f t389 t339).bind fun bt390 => (if (mn (mn (ji30) t367) t377) = 0 then (if t339 > 0 then (some (bt383.1 == bt390.1 && (bt383.2 == bt390.2))) else (some false)) else (if (mx (mx (ji31) t367) t377) = 0 then (if t339 > 0 then (some (bt383.1 == bt390.1 && (bt383.2 == bt390.2))) else (some false)) else (some false)))))))))))))))) = some r := H
   have A32 := Aside0.mk A320
   clear A320
   replace H := Option.bind_eq_some_iff.mp H
   obtain ⟨⟨t361, t362, t363⟩, A330, H⟩ := H
   replace H : ((relievoref02_Cross.f t358 t359 t360 t361 t362 t363).bind fun bt364 => ((relievoref02_Dot.f a1_0 a1_1 a1_2 bt364.1 bt364.2.1 bt364.2.2).bind fun t367 => ((relievoref02_Sub.f a2_6 a2_7 a2_8 a0_0 a0_1 a0_2).bind fun bt368 => ((relievoref02_Sub.f a2_0 a2_1 a2_2 a0_0 a0_1 a0_2).bind fun bt371 => ((relievoref02_Cross.f bt368.1 bt368.2.1 bt368.2.2 bt371.1 bt371.2.1 bt371.2.2).bind fun bt374 => ((relievoref02_Dot.f a1_0 a1_1 a1_2 bt374.1 bt374.2.1 bt374.2.2).bind fun t377 => ((relievoref03_Normal.f a2_0 a2_1 a2_2 a2_3 a2_4 a2_5 a2_6 a2_7 a2_8).bind fun bt378 => ((relievoref02_Dot.f bt378.1 bt378.2.1 bt378.2.2 a1_0 a1_1 a1_2).bind fun t382 => ((relievoref01_Mul.f t382 t338).bind fun bt383 => ((relievoref02_Sub.f a2_0 a2_1 a2_2 a0_0 a0_1 a0_2).bind fun bt386 => ((relievoref02_Dot.f bt378.1 bt378.2.1 bt378.2.2 bt386.1 bt386.2.1 bt386.2.2).bind fun t389 => ((relievoref01_Mul.f t389 t339).bind fun bt390 => (if (mn (mn (ji30) t367) t377) = 0 then (if t339 > 0 then (some (bt383.1 == bt390.1 && (bt383.2 == bt390.2))) else (some false)) else (if (mx (mx (ji31) t367) t377) = 0 then (if t339 > 0 then (some (bt383.1 == bt390.1 && (bt383.2 == bt390.2))) else (some false)) else (some false))))))))))))))) = some r := H
   have A33 := Aside0.mk A330
   clear A330
   replace H := Option.bind_eq_some_iff.mp H
   obtain ⟨⟨t364, t365, t366⟩, A340, H⟩ := H
   replace H : ((relievoref02_Dot.f a1_0 a1_1 a1_2 t364 t365 t366).bind fun t367 => ((relievoref02_Sub.f a2_6 a2_7 a2_8 a0_0 a0_1 a0_2).bind fun bt368 => ((relievoref02_Sub.f a2_0 a2_1 a2_2 a0_0 a0_1 a0_2).bind fun bt371 => ((relievoref02_Cross.f bt368.1 bt368.2.1 bt368.2.2 bt371.1 bt371.2.1 bt371.2.2).bind fun bt374 => ((relievoref02_Dot.f a1_0 a1_1 a1_2 bt374.1 bt374.2.1 bt374.2.2).bind fun t377 => ((relievoref03_Normal.f a2_0 a2_1 a2_2 a2_3 a2_4 a2_5 a2_6 a2_7 a2_8).bind fun bt378 => ((relievoref02_Dot.f bt378.1 bt378.2.1 bt378.2.2 a1_0 a1_1 a1_2).bind fun t382 => ((relievoref01_Mul.f t382 t338).bind fun bt383 => ((relievoref02_Sub.f a2_0 a2_1 a2_2 a0_0 a0_1 a0_2).bind fun bt386 => ((relievoref02_Dot.f bt378.1 bt378.2.1 bt378.2.2 bt386.1 bt386.2.1 bt386.2.2).bind fun t389 => ((relievoref01_Mul.f t389 t339).bind fun bt390 => (if (mn (mn (ji30) t367) t377) = 0 then (if t339 > 0 then (some (bt383.1 == bt390.1 && (bt383.2 == bt390.2))) else (some false)) else (if (mx (mx (ji31) t367) t377) = 0 then (if t339 > 0 then (some (bt383.1 == bt390.1 && (bt383.2 == bt390.2))) else (some false)) else (some false)))))))))))))) = some r := H
   have A34 := Aside0.mk A340
   clear A340
   replace H := Option.bind_eq_some_iff.mp H
   obtain ⟨t367, A350, H⟩ := H
   replace H : ((relievoref02_Sub.f a2_6 a2_7 a2_8 a0_0 a0_1 a0_2).bind fun bt368 => ((relievoref02_Sub.f a2_0 a2_1 a2_2 a0_0 a0_1 a0_2).bind fun bt371 => ((relievoref02_Cross.f bt368.1 bt368.2.1 bt368.2.2 bt371.1 bt371.2.1 bt371.2.2).bind fun bt374 => ((relievoref02_Dot.f a1_0 a1_1 a1_2 bt374.1 bt374.2.1 bt374.2.2).bind fun t377 => ((relievoref03_Normal.f a2_0 a2_1 a2_2 a2_3 a2_4 a2_5 a2_6 a2_7 a2_8).bind fun bt378 => ((relievoref02_Dot.f bt378.1 bt378.2.1 bt378.2.2 a1_0 a1_1 a1_2).bind fun t382 => ((relievoref01_Mul.f t382 t338).bind fun bt383 => ((relievoref02_Sub.f a2_0 a2_1 a2_2 a0_0 a0_1 a0_2).bind fun bt386 => ((relievoref02_Dot.f bt378.1 bt378.2.1 bt378.2.2 bt386.1 bt386.2.1 bt386.2.2).bind fun t389 => ((relievoref01_Mul.f t389 t339).bind fun bt390 => (if (mn (mn (ji30) t367) t377) = 0 then (if t339 > 0 then (some (bt383.1 == bt390.1 && (bt383.2 == bt390.2))) else (some false)) else (if (mx (mx (ji31) t367) t377) = 0 then (if t339 > 0 then (some (bt383.1 == bt390.1 && (bt383.2 == bt390.2))) else (some false)) else (some false))))))))))))) = some r := H
   have A35 := Aside0.mk A350
   clear A350
   obtain ⟨ji36, hji36⟩ : ∃ j_ : Int, (mn (ji30) t367) = j_ := ⟨_, rfl⟩
   replace H : ((relievoref02_Sub.f a2_6 a2_7 a2_8 a0_0 a0_1 a0_2).bind fun bt368 => ((relievoref02_Sub.f a2_0 a2_1 a2_2 a0_0 a0_1 a0_2).bind fun bt371 => ((relievoref02_Cross.f bt368.1 bt368.2.1 bt368.2.2 bt371.1 bt371.2.1 bt371.2.2).bind fun bt374 => ((relievoref02_Dot.f a1_0 a1_1 a1_2 bt374.1 bt374.2.1 bt374.2.2).bind fun t377 => ((relievoref03_Normal.f a2_0 a2_1 a2_2 a2_3 a2_4 a2_5 a2_6 a2_7 a2_8).bind fun bt378 => ((relievoref02_Dot.f bt378.1 bt378.2.1 bt378.2.2 a1_0 a1_1 a1_2).bind fun t382 => ((relievoref01_Mul.f t382 t338).bind fun bt383 => ((relievoref02_Sub.f a2_0 a2_1 a2_2 a0_0 a0_1 a0_2).bind fun bt386 => ((relievoref02_Dot.f bt378.1 bt378.2.1 bt378.2.2 bt386.1 bt386.2.1 bt386.2.2).bind fun t389 => ((relievoref01_Mul.f t389 t339).bind fun bt390 => (if (mn (ji36) t377) = 0 then (if t339 > 0 then (some (bt383.1 == bt390.1 && (bt383.2 == bt390.2))) else (some false)) else (if (mx (mx (ji31) t367) t377) = 0 then (if t339 > 0 then (some (bt383.1 == bt390.1 && (bt383.2 == bt390.2))) else (some false)) else (some false))))))))))))) = some r := by first | (rw [hji36] at H; exact H) | (simp only [hji36] at H ⊢; exact H)
   (try rw [hji36] at A26)
   (try rw [hji36] at A27)
   (try rw [hji36] at A28)
   (try rw [hji36] at A29)
   (try rw [hji36] at A32)
   (try rw [hji36] at A33)
   (try rw [hji36] at A34)
   (try rw [hji36] at A35)
   have hji36_ : (if t367 < (ji30) then t367 else (ji30)) = ji36 := hji36
   obtain ⟨ji37, hji37⟩ : ∃ j_ : Int, (mx (ji31) t367) = j_ := ⟨_, rfl⟩
   replace H : ((relievoref02_Sub.f a2_6 a2_7 a2_8 a0_0 a0_1 a0_2).bind fun bt368 => ((relievoref02_Sub.f a2_0 a2_1 a2_2 a0_0 a0_1 a0_2).bind fun bt371 => ((relievoref02_Cross.f bt368.1 bt368.2.1 bt368.2.2 bt371.1 bt371.2.1 bt371.2.2).bind fun bt374 => ((relievoref02_Dot.f a1_0 a1_1 a1_2 bt374.1 bt374.2.1 bt374.2.2).bind fun t377 => ((relievoref03_Normal.f a2_0 a2_1 a2_2 a2_3 a2_4 a2_5 a2_6 a2_7 a2_8).bind fun bt378 => ((relievoref02_Dot.f bt378.1 bt378.2.1 bt378.2.2 a1_0 a1_1 a1_2).bind fun t382 => ((relievoref01_Mul.f t382 t338).bind fun bt383 => ((relievoref02_Sub.f a2_0 a2_1 a2_2 a0_0 a0_1 a0_2).bind fun bt386 => ((relievoref02_Dot.f bt378.1 bt378.2.1 bt378.2.2 bt386.1 bt386.2.1 bt386.2.2).bind fun t389 => ((relievoref01_Mul.f t389 t339).bind fun bt390 => (if (mn (ji36) t377) = 0 then (if t339 > 0 then (some (bt383.1 == bt390.1 && (bt383.2 == bt390.2))) else (some false)) else (if (mx (ji37) t377) = 0 then (if t339 > 0 then (some (bt383.1 == bt390.1 && (bt383.2 == bt390.2))) else (some false)) else (some false))))))))))))) = some r := by first | (rw [hji37] at H; exact H) | (simp only [hji37] at H ⊢; exact H)
   (try rw [hji37] at A26)
   (try rw [hji37] at A27)
   (try rw [hji37] at A28)
   (try rw [hji37] at A29)
   (try rw [hji37] at A32)
   (try rw [hji37] at A33)
   (try rw [hji37] at A34)
   (try rw [hji37] at A35)
   have hji37_ : (if (ji31) < t367 then t367 else (ji31)) = ji37 := hji37
   replace H := Option.bind_eq_some_iff.mp H
   obtain ⟨⟨t368, t369, t370⟩, A380, H⟩ := H
   replace H : ((relievoref02_Sub.f a2_0 a2_1 a2_2 a0_0 a0_1 a0_2).bind fun bt371 => ((relievoref02_Cross.f t368 t369 t370 bt371.1 bt371.2.1 bt371.2.2).bind fun bt374 => ((relievoref02_Dot.f a1_0 a1_1 a1_2 bt374.1 bt374.2.1 bt374.2.2).bind fun t377 => ((relievoref03_Normal.f a2_0 a2_1 a2_2 a2_3 a2_4 a2_5 a2_6 a2_7 a2_8).bind fun bt378 => ((relievoref02_Dot.f bt378.1 bt378.2.1 bt378.2.2 a1_0 a1_1 a1_2).bind fun t382 => ((relievoref01_Mul.f t382 t338).bind fun bt383 => ((relievoref02_Sub.f a2_0 a2_1 a2_2 a0_0 a0_1 a0_2).bind fun bt386 => ((relievoref02_Dot.f bt378.1 bt378.2.1 bt378.2.2 bt386.1 bt386.2.1 bt386.2.2).bind fun t389 => ((relievoref01_Mul.f t389 t339).bind fun bt390 => (if (mn (ji36) t377) = 0 then (if t339 > 0 then (some (bt383.1 == bt390.1 && (bt383.2 == bt390.2))) else (some false)) else (if (mx (ji37) t377) = 0 then (if t339 > 0 then (some (bt383.1 == bt390.1 && (bt383.2 == bt390.2))) else (some false)) else (some false)))))))))))) = some r := H
   have A38 := Aside0.mk A380
   clear A380
   replace H := Option.bind_eq_some_iff.mp H
   obtain ⟨⟨t371, t372, t373⟩, A390, H⟩ := H
   replace H : ((relievoref02_Cross.f t368 t369 t370 t371 t372 t373).bind fun bt374 => ((relievoref02_Dot.f a1_0 a1_1 a1_2 bt374.1 bt374.2.1 bt374.2.2).bind fun t377 => ((relievoref03_Normal.f a2_0 a2_1 a2_2 a2_3 a2_4 a2_5 a2_6 a2_7 a2_8).bind fun bt378 => ((relievoref02_Dot.f bt378.1 bt378.2.1 bt378.2.2 a1_0 a1_1 a1_2).bind fun t382 => ((relievoref01_Mul.f t382 t338).bind fun bt383 => ((relievoref02_Sub.f a2_0 a2_1 a2_2 a0_0 a0_1 a0_2).bind fun bt386 => ((relievoref02_Dot.f bt378.1 bt378.2.1 bt378.2.2 bt386.1 bt386.2.1 bt386.2.2).bind fun t389 => ((relievoref01_Mul.f t389 t339).bind fun bt390 => (if (mn (ji36) t377) = 0 then (if t339 > 0 then (some (bt383.1 == bt390.1 && (bt383.2 == bt390.2))) else (some false)) else (if (mx (ji37) t377) = 0 then (if t339 > 0 then (some (bt383.1 == bt390.1 && (bt383.2 == bt390.2))) else (some false)) else (some false))))))))))) = some r := H
   have A39 := Aside0.mk A390
   clear A390
   replace H := Option.bind_eq_some_iff.mp H
   obtain ⟨⟨t374, t375, t376⟩, A400, H⟩ := H
   replace H : ((relievoref02_Dot.f a1_0 a1_1 a1_2 t374 t375 t376).bind fun t377 => ((relievoref03_Normal.f a2_0 a2_1 a2_2 a2_3 a2_4 a2_5 a2_6 a2_7 a2_8).bind fun bt378 => ((relievoref02_Dot.f bt378.1 bt378.2.1 bt378.2.2 a1_0 a1_1 a1_2).bind fun t382 => ((relievoref01_Mul.f t382 t338).bind fun bt383 => ((relievoref02_Sub.f a2_0 a2_1 a2_2 a0_0 a0_1 a0_2).bind fun bt386 => ((relievoref02_Dot.f bt378.1 bt378.2.1 bt378.2.2 bt386.1 bt386.2.1 bt386.2.2).bind fun t389 => ((relievoref01_Mul.f t389 t339).bind fun bt390 => (if (mn (ji36) t377) = 0 then (if t339 > 0 then (some (bt383.1 == bt390.1 && (bt383.2 == bt390.2))) else (some false)) else (if (mx (ji37) t377) = 0 then (if t339 > 0 then (some (bt383.1 == bt390.1 && (bt383.2 == bt390.2))) else (some false)) else (some false)))))))))) = some r := H
   have A40 := Aside0.mk A400
   clear A400
   replace H := Option.bind_eq_some_iff.mp H
   obtain ⟨t377, A410, H⟩ := H
   replace H : ((relievoref03_Normal.f a2_0 a2_1 a2_2 a2_3 a2_4 a2_5 a2_6 a2_7 a2_8).bind fun bt378 => ((relievoref02_Dot.f bt378.1 bt378.2.1 bt378.2.2 a1_0 a1_1 a1_2).bind fun t382 => ((relievoref01_Mul.f t382 t338).bind fun bt383 => ((relievoref02_Sub.f a2_0 a2_1 a2_2 a0_0 a0_1 a0_2).bind fun bt386 => ((relievoref02_Dot.f bt378.1 bt378.2.1 bt378.2.2 bt386.1 bt386.2.1 bt386.2.2).bind fun t389 => ((relievoref01_Mul.f t389 t339).bind fun bt390 => (if (mn (ji36) t377) = 0 then (if t339 > 0 then (some (bt383.1 == bt390.1 && (bt383.2 == bt390.2))) else (some false)) else (if (mx (ji37) t377) = 0 then (if t339 > 0 then (some (bt383.1 == bt390.1 && (bt383.2 == bt390.2))) else (some false)) else (some false))))))))) = some r := H
   have A41 := Aside0.mk A410
   clear A410
   obtain ⟨ji42, hji42⟩ : ∃ j_ : Int, (mn (ji36) t377) = j_ := ⟨_, rfl⟩
   replace H : ((relievoref03_Normal.f a2_0 a2_1 a2_2 a2_3 a2_4 a2_5 a2_6 a2_7 a2_8).bind fun bt378 => ((relievoref02_Dot.f bt378.1 bt378.2.1 bt378.2.2 a1_0 a1_1 a1_2).bind fun t382 => ((relievoref01_Mul.f t382 t338).bind fun bt383 => ((relievoref02_Sub.f a2_0 a2_1 a2_2 a0_0 a0_1 a0_2).bind fun bt386 => ((relievoref02_Dot.f bt378.1 bt378.2.1 bt378.2.2 bt386.1 bt386.2.1 bt386.2.2).bind fun t389 => ((relievoref01_Mul.f t389 t339).bind fun bt390 => (if (ji42) = 0 then (if t339 > 0 then (some (bt383.1 == bt390.1 && (bt383.2 == bt390.2))) else (some false)) else (if (mx (ji37) t377) = 0 then (if t339 > 0 then (some (bt383.1 == bt390.1 && (bt383.2 == bt390.2))) else (some false)) else (some false))))))))) = some r := by first | (rw [hji42] at H; exact H) | (simp only [hji42] at H ⊢; exact H)
   (try rw [hji42] at A26)
   (try rw [hji42] at A27)
   (try rw [hji42] at A28)
   (try rw [hji42] at A29)
   (try rw [hji42] at A32)
   (try rw [hji42] at A33)
   (try rw [hji42] at A34)
   (try rw [hji42] at A35)
   (try rw [hji42] at A38)
   (try rw [hji42] at A39)
   (try rw [hji42] at A40)
   (try rw [hji42] at A41)
   have hji42_ : (if t377 < (ji36) then t377 else (ji36)) = ji42 := hji42
   obtain ⟨ji43, hji43⟩ : ∃ j_ : Int, (mx (ji37) t377) = j_ := ⟨_, rfl⟩
   replace H : ((relievoref03_Normal.f a2_0 a2_1 a2_2 a2_3 a2_4 a2_5 a2_6 a2_7 a2_8).bind fun bt378 => ((relievoref02_Dot.f bt378.1 bt378.2.1 bt378.2.2 a1_0 a1_1 a1_2).bind fun t382 => ((relievoref01_Mul.f t382 t338).bind fun bt383 => ((relievoref02_Sub.f a2_0 a2_1 a2_2 a0_0 a0_1 a0_2).bind fun bt386 => ((relievoref02_Dot.f bt378.1 bt378.2.1 bt378.2.2 bt386.1 bt386.2.1 bt386.2.2).bind fun t389 => ((relievoref01_Mul.f t389 t339).bind fun bt390 => (if (ji42) = 0 then (if t339 > 0 then (some (bt383.1 == bt390.1 && (bt383.2 == bt390.2))) else (some false)) else (if (ji43) = 0 then (if t339 > 0 then (some (bt383.1 == bt390.1 && (bt383.2 == bt390.2))) else (some false)) else (some false))))))))) = some r := by first | (rw [hji43] at H; exact H) | (simp only [hji43] at H ⊢; exact H)
   (try rw [hji43] at A26)
   (try rw [hji43] at A27)
   (try rw [hji43] at A28)
   (try rw [hji43] at A29)
   (try rw [hji43] at A32)
   (try rw [hji43] at A33)
   (try rw [hji43] at A34)
   (try rw [hji43] at A35)
   (try rw [hji43] at A38)
   (try rw [hji43] at A39)
   (try rw [hji43] at A40)
   (try rw [hji43] at A41)
   have hji43_ : (if (ji37) < t377 then t377 else (ji37)) = ji43 := hji43
   replace H := Option.bind_eq_some_iff.mp H
   obtain ⟨⟨t378, t379, t380⟩, A440, H⟩ := H
   replace H : ((relievoref02_Dot.f t378 t379 t380 a1_0 a1_1 a1_2).bind fun t382 => ((relievoref01_Mul.f t382 t338).bind fun bt383 => ((relievoref02_Sub.f a2_0 a2_1 a2_2 a0_0 a0_1 a0_2).bind fun bt386 => ((relievoref02_Dot.f t378 t379 t380 bt386.1 bt386.2.1 bt386.2.2).bind fun t389 => ((relievoref01_Mul.f t389 t339).bind fun bt390 => (if (ji42) = 0 then (if t339 > 0 then (some (bt383.1 == bt390.1 && (bt383.2 == bt390.2))) else (some false)) else (if (ji43) = 0 then (if t339 > 0 then (some (bt383.1 == bt390.1 && (bt383.2 == bt390.2))) else (some false)) else (some false)))))))) = some r := H
   have A44 := Aside0.mk A440
   clear A440
   replace H := Option.bind_eq_some_iff.mp H
   obtain ⟨t382, A450, H⟩ := H
   replace H : ((relievoref01_Mul.f t382 t338).bind fun bt383 => ((relievoref02_Sub.f a2_0 a2_1 a2_2 a0_0 a0_1 a0_2).bind fun bt386 => ((relievoref02_Dot.f t378 t379 t380 bt386.1 bt386.2.1 bt386.2.2).bind fun t389 => ((relievoref01_Mul.f t389 t339).bind fun bt390 => (if (ji42) = 0 then (if t339 > 0 then (some (bt383.1 == bt390.1 && (bt383.2 == bt390.2))) else (some false)) else (if (ji43) = 0 then (if t339 > 0 then (some (bt383.1 == bt390.1 && (bt383.2 == bt390.2))) else (some false)) else (some false))))))) = some r := H
   have A45 := Aside0.mk A450
   clear A450
   replace H := Option.bind_eq_some_iff.mp H
   obtain ⟨⟨t383, t384⟩, A460, H⟩ := H
   replace H : ((relievoref02_Sub.f a2_0 a2_1 a2_2 a0_0 a0_1 a0_2).bind fun bt386 => ((relievoref02_Dot.f t378 t379 t380 bt386.1 bt386.2.1 bt386.2.2).bind fun t389 => ((relievoref01_Mul.f t389 t339).bind fun bt390 => (if (ji42) = 0 then (if t339 > 0 then (some (t383 == bt390.1 && (t384 == bt390.2))) else (some false)) else (if (ji43) = 0 then (if t339 > 0 then (some (t383 == bt390.1 && (t384 == bt390.2))) else (some false)) else (some false)))))) = some r := H
   have A46 := Aside0.mk A460
   clear A460
   replace H := Option.bind_eq_some_iff.mp H
   obtain ⟨⟨t386, t387, t388⟩, A470, H⟩ := H
   replace H : ((relievoref02_Dot.f t378 t379 t380 t386 t387 t388).bind fun t389 => ((relievoref01_Mul.f t389 t339).bind fun bt390 => (if (ji42) = 0 then (if t339 > 0 then (some (t383 == bt390.1 && (t384 == bt390.2))) else (some false)) else (if (ji43) = 0 then (if t339 > 0 then (some (t383 == bt390.1 && (t384 == bt390.2))) else (some false)) else (some false))))) = some r := H
   have A47 := Aside0.mk A470
   clear A470
   replace H := Option.bind_eq_some_iff.mp H
   obtain ⟨t389, A480, H⟩ := H
   replace H : ((relievoref01_Mul.f t389 t339).bind fun bt390 => (if (ji42) = 0 then (if t339 > 0 then (some (t383 == bt390.1 && (t384 == bt390.2))) else (some false)) else (if (ji43) = 0 then (if t339 > 0 then (some (t383 == bt390.1 && (t384 == bt390.2))) else (some false)) else (some false)))) = some r := H
   have A48 := Aside0.mk A480
   clear A480
   replace H := Option.bind_eq_some_iff.mp H
   obtain ⟨⟨t390, t391⟩, A490, H⟩ := H
   replace H : (if (ji42) = 0 then (if t339 > 0 then (some (t383 == t390 && (t384 == t391))) else (some false)) else (if (ji43) = 0 then (if t339 > 0 then (some (t383 == t390 && (t384 == t391))) else (some false)) else (some false))) = some r := H
   have A49 := Aside0.mk A490
   clear A490
   have HCX_ := Aside0.mk H
   clear H
   obtain ⟨hcz52_0, hcz52_1, hcz52_2, hcz52_3, hcz52_4, hcz52_5, hcz52_6, hcz52_7, hcz52_8⟩ := cells9 BK336.out
   try go_wp2_with (first | ((with_reducible refine gate_dst (N := 10) rfl ?_); refine box_event ?hg (N := 10) ?hd (cs := #[.int .i64 0, .int .i64 0, .int .i64 0, .int .i64 0, .int .i64 0, .int .i64 0, .int .i64 0, .int .i64 0, .int .i64 0]) (t := 41) ?hr ?_; (case hd => rfl); (case hg => rfl); (case hr => first | (go_simp; done) | (go_simp; rfl)); intro gb347 hg w53 hbox hb; have BK347 := Aside0.mk (hbox); have GE347 := Aside0.mk (bG hg (HB.out)); have NB334_347 := cN hg BK334; have NB347_334 := cM hg BK334; have NB335_347 := cN hg BK335; have NB347_335 := cM hg BK335; have NB336_347 := cN hg BK336; have NB347_336 := cM hg BK336; have NB345_347 := cN hg BK345; have NB347_345 := cM hg BK345; replace BK334 := cB hb BK334; replace BK335 := cB hb BK335; replace BK336 := cB hb BK336; replace BK345 := cB hb BK345; replace HB := Aside0.mk (below_step (HB.out) hb); clear hb hbox hg; have hnb54 := NB347_334.out; have hnc54 := NB334_347.out; have hnb55 := NB347_335.out; have hnc55 := NB335_347.out; have hnb56 := NB347_336.out; have hnc56 := NB336_347.out; have hnb57 := NB347_345.out; have hnc57 := NB345_347.out; obtain ⟨hcz58_0, hcz58_1, hcz58_2, hcz58_3, hcz58_4, hcz58_5, hcz58_6, hcz58_7, hcz58_8⟩ := cells9 BK347.out; have hfz58_0 := blk_frozen BK347.out 0; have hfz58_1 := blk_frozen BK347.out 1; have hfz58_2 := blk_frozen BK347.out 2; have hfz58_3 := blk_frozen BK347.out 3; have hfz58_4 := blk_frozen BK347.out 4; have hfz58_5 := blk_frozen BK347.out 5; have hfz58_6 := blk_frozen BK347.out 6; have hfz58_7 := blk_frozen BK347.out 7; have hfz58_8 := blk_frozen BK347.out 8))
   refine wp_loop_rounds 4 ?_
   rw [rounds_succ]
   try go_wp2
   generalize hw_ : (((((((((w53.setCell ⟨gb347, 0, none⟩ (.int .i64 a2_0)).setCell ⟨gb347, 1, none⟩ (.int .i64 a2_1)).setCell ⟨gb347, 2, none⟩ (.int .i64 a2_2)).setCell ⟨gb347, 3, none⟩ (.int .i64 a2_3)).setCell ⟨gb347, 4, none⟩ (.int .i64 a2_4)).setCell ⟨gb347, 5, none⟩ (.int .i64 a2_5)).setCell ⟨gb347, 6, none⟩ (.int .i64 a2_6)).setCell ⟨gb347, 7, none⟩ (.int .i64 a2_7)).setCell ⟨gb347, 8, none⟩ (.int .i64 a2_8)) = w59
   replace BK334 := Aside0.mk (bF hw_ (blk_far (blk_far (blk_far (blk_far (blk_far (blk_far (blk_far (blk_far (blk_far BK334.out NB334_347.out _) NB334_347.out _) NB334_347.out _) NB334_347.out _) NB334_347.out _) NB334_347.out _) NB334_347.out _) NB334_347.out _) NB334_347.out _))
   replace BK335 := Aside0.mk (bF hw_ (blk_far (blk_far (blk_far (blk_far (blk_far (blk_far (blk_far (blk_far (blk_far BK335.out NB335_347.out _) NB335_347.out _) NB335_347.out _) NB335_347.out _) NB335_347.out _) NB335_347.out _) NB335_347.out _) NB335_347.out _) NB335_347.out _))
   replace BK336 := Aside0.mk (bF hw_ (blk_far (blk_far (blk_far (blk_far (blk_far (blk_far (blk_far (blk_far (blk_far BK336.out NB336_347.out _) NB336_347.out _) NB336_347.out _) NB336_347.out _) NB336_347.out _) NB336_347.out _) NB336_347.out _) NB336_347.out _) NB336_347.out _))
   replace BK345 := Aside0.mk (bF hw_ (blk_far (blk_far (blk_far (blk_far (blk_far (blk_far (blk_far (blk_far (blk_far BK345.out NB345_347.out _) NB345_347.out _) NB345_347.out _) NB345_347.out _) NB345_347.out _) NB345_347.out _) NB345_347.out _) NB345_347.out _) NB345_347.out _))
   replace BK347 := Aside0.mk (bF hw_ (blk_put (cs' := #[.int .i64 a2_0, .int .i64 a2_1, .int .i64 a2_2, .int .i64 a2_3, .int .i64 a2_4, .int .i64 a2_5, .int .i64 a2_6, .int .i64 a2_7, .int .i64 a2_8]) (blk_put (blk_put (blk_put (cs' := #[.int .i64 a2_0, .int .i64 a2_1, .int .i64 a2_2, .int .i64 a2_3, .int .i64 a2_4, .int .i64 a2_5, .int .i64 0, .int .i64 0, .int .i64 0]) (blk_put (blk_put (blk_put (blk_put (blk_put BK347.out 0 _ rfl) 1 _ rfl) 2 _ rfl) 3 _ rfl) 4 _ rfl) 5 _ rfl) 6 _ rfl) 7 _ rfl) 8 _ rfl))
   replace HB := Aside0.mk (bH hw_ (below_set (below_set (below_set (below_set (below_set (below_set (below_set (below_set (below_set HB.out GE347.out) GE347.out) GE347.out) GE347.out) GE347.out) GE347.out) GE347.out) GE347.out) GE347.out))
   clear hw_
   replace BK334 := Aside0.mk (blk_drew BK334.out)
   replace BK335 := Aside0.mk (blk_drew BK335.out)
   replace BK336 := Aside0.mk (blk_drew BK336.out)
   replace BK345 := Aside0.mk (blk_drew BK345.out)
   replace BK347 := Aside0.mk (blk_drew BK347.out)
   replace HB := Aside0.mk (below_drew1 HB.out)
   refine start_ (n := 16) (S := fun w' => w'.cell? ⟨gb335, 0, none⟩ = some (.int .i64 a1_0) ∧ w'.cell? ⟨gb335, 1, none⟩ = some (.int .i64 a1_1) ∧ w'.cell? ⟨gb335, 2, none⟩ = some (.int .i64 a1_2) ∧ w'.cell? ⟨gb347, 0, none⟩ = some (.int .i64 a2_0) ∧ w'.cell? ⟨gb347, 1, none⟩ = some (.int .i64 a2_1) ∧ w'.cell? ⟨gb347, 2, none⟩ = some (.int .i64 a2_2) ∧ w'.cell? ⟨gb347, 3, none⟩ = some (.int .i64 a2_3) ∧ w'.cell? ⟨gb347, 4, none⟩ = some (.int .i64 a2_4) ∧ w'.cell? ⟨gb347, 5, none⟩ = some (.int .i64 a2_5) ∧ w'.cell? ⟨gb347, 6, none⟩ = some (.int .i64 a2_6) ∧ w'.cell? ⟨gb347, 7, none⟩ = some (.int .i64 a2_7) ∧ w'.cell? ⟨gb347, 8, none⟩ = some (.int .i64 a2_8) ∧ w'.cell? ⟨gb334, 0, none⟩ = some (.int .i64 a0_0) ∧ w'.cell? ⟨gb334, 1, none⟩ = some (.int .i64 a0_1) ∧ w'.cell? ⟨gb334, 2, none⟩ = some (.int .i64 a0_2)) (ds := []) #[false, false, false, false, false, false, false, false, false, false, false, false, false, false, false, false] (by kernel_rfl) rfl rfl ⟨(blk_cell BK335.out 0).trans rfl, (blk_cell BK335.out 1).trans rfl, (blk_cell BK335.out 2).trans rfl, (blk_cell BK347.out 0).trans rfl, (blk_cell BK347.out 1).trans rfl, (blk_cell BK347.out 2).trans rfl, (blk_cell BK347.out 3).trans rfl, (blk_cell BK347.out 4).trans rfl, (blk_cell BK347.out 5).trans rfl, (blk_cell BK347.out 6).trans rfl, (blk_cell BK347.out 7).trans rfl, (blk_cell BK347.out 8).trans rfl, (blk_cell BK334.out 0).trans rfl, (blk_cell BK334.out 1).trans rfl, (blk_cell BK334.out 2).trans rfl⟩ (fun hHeld => ?_); refine with_tabW relievolaw03_SideWithin.tab12 relievolaw03_SideWithin.bits12 (fun HT_ HW_ => ?_)
   generalize w59.drew = w60 at BK334 BK335 BK336 BK345 BK347 HB hHeld ⊢
   refine pure_ (i := 1) (N := some 57) (v := ?_) (a' := ?_) #[false, true, false, false, false, false, false, false, false, false, false, false, false, false, false, false] rfl rfl (any_of HT_.out (by kernel_rfl)) (fun _ _ _ h => h) (Or.inl ⟨by rfl, ?_⟩) ?_ ?_
   rotate_left
   ·intro w'
    go_simp
    with_reducible rfl
   rotate_left
   ·simp only [Act.put, List.setIfInBounds_toArray, List.set_cons_zero, List.set_cons_succ, i64_w, i32_w]
    rfl
   refine pure_ (i := 2) (N := some 58) (v := ?_) (a' := ?_) #[false, true, true, false, false, false, false, false, false, false, false, false, false, false, false, false] rfl rfl (any_of HT_.out (by kernel_rfl)) (fun _ _ _ h => h) (Or.inl ⟨by rfl, ?_⟩) ?_ ?_
   rotate_left
   ·intro w'
    go_simp
    with_reducible rfl
   rotate_left
   ·simp only [Act.put, List.setIfInBounds_toArray, List.set_cons_zero, List.set_cons_succ, i64_w, i32_w]
    rfl
   refine pure_ (i := 6) (N := some 62) (v := ?_) (a' := ?_) #[false, true, true, false, false, false, true, false, false, false, false, false, false, false, false, false] rfl rfl (any_of HT_.out (by kernel_rfl)) (fun _ _ _ h => h) (Or.inl ⟨by rfl, ?_⟩) ?_ ?_
   rotate_left
   ·intro w'
    go_simp
    with_reducible rfl
   rotate_left
   ·simp only [Act.put, List.setIfInBounds_toArray, List.set_cons_zero, List.set_cons_succ, i64_w, i32_w]
    rfl
   refine pure_ (i := 7) (N := some 63) (v := ?_) (a' := ?_) #[false, true, true, false, false, false, true, true, false, false, false, false, false, false, false, false] rfl rfl (any_of HT_.out (by kernel_rfl)) (fun _ _ _ h => h) (Or.inl ⟨by rfl, ?_⟩) ?_ ?_
   rotate_left
   ·intro w'
    go_simp
    with_reducible rfl
   rotate_left
   ·simp only [Act.put, List.setIfInBounds_toArray, List.set_cons_zero, List.set_cons_succ, i64_w, i32_w]
    rfl
   refine pure_ (i := 8) (N := some 64) (v := ?_) (a' := ?_) #[false, true, true, false, false, false, true, true, true, false, false, false, false, false, false, false] rfl rfl (any_of HT_.out (by kernel_rfl)) (fun _ _ _ h => h) (Or.inl ⟨by rfl, ?_⟩) ?_ ?_
   rotate_left
   ·intro w'
    go_simp
    with_reducible rfl
   rotate_left
   ·simp only [Act.put, List.setIfInBounds_toArray, List.set_cons_zero, List.set_cons_succ, i64_w, i32_w]
    rfl
   refine pure_ (i := 9) (N := some 65) (v := ?_) (a' := ?_) #[false, true, true, false, false, false, true, true, true, true, false, false, false, false, false, false] rfl rfl (any_of HT_.out (by kernel_rfl)) (fun _ _ _ h => h) (Or.inl ⟨by rfl, ?_⟩) ?_ ?_
   rotate_left
   ·intro w'
    go_simp
    with_reducible rfl
   rotate_left
   ·simp only [Act.put, List.setIfInBounds_toArray, List.set_cons_zero, List.set_cons_succ, i64_w, i32_w]
    rfl
   refine take_ (i := 0) (N := some 56) (v := ?_) (a' := ?_) #[true, true, true, false, false, false, true, true, true, true, false, false, false, false, false, false] rfl rfl (take_ofW HT_.out HW_.out (by kernel_rfl)) (fun _ _ _ h => h) (Or.inl ⟨by rfl, ?_⟩) hHeld ?_ ?_
   rotate_left
   ·rintro w' ⟨s0, s1, s2, s3, s4, s5, s6, s7, s8, s9, s10, s11, s12, s13, s14⟩
    go_simp
    with_reducible rfl
   rotate_left
   ·simp only [Act.put, List.setIfInBounds_toArray, List.set_cons_zero, List.set_cons_succ, i64_w, i32_w]
    rfl
   refine take_ (i := 3) (N := some 59) (v := ?_) (a' := ?_) #[true, true, true, true, false, false, true, true, true, true, false, false, false, false, false, false] rfl rfl (take_ofW HT_.out HW_.out (by kernel_rfl)) (fun _ _ _ h => h) (Or.inl ⟨by rfl, ?_⟩) hHeld ?_ ?_
   rotate_left
   ·rintro w' ⟨s0, s1, s2, s3, s4, s5, s6, s7, s8, s9, s10, s11, s12, s13, s14⟩
    go_simp
    with_reducible rfl
   rotate_left
   ·simp only [Act.put, List.setIfInBounds_toArray, List.set_cons_zero, List.set_cons_succ, i64_w, i32_w]
    rfl
   refine take_ (i := 4) (N := some 60) (v := ?_) (a' := ?_) #[true, true, true, true, true, false, true, true, true, true, false, false, false, false, false, false] rfl rfl (take_ofW HT_.out HW_.out (by kernel_rfl)) (fun _ _ _ h => h) (Or.inl ⟨by rfl, ?_⟩) hHeld ?_ ?_
   rotate_left
   ·rintro w' ⟨s0, s1, s2, s3, s4, s5, s6, s7, s8, s9, s10, s11, s12, s13, s14⟩
    go_simp
    with_reducible rfl
   rotate_left
   ·simp only [Act.put, List.setIfInBounds_toArray, List.set_cons_zero, List.set_cons_succ, i64_w, i32_w]
    rfl
   refine take_ (i := 10) (N := some 66) (v := ?_) (a' := ?_) #[true, true, true, true, true, false, true, true, true, true, true, false, false, false, false, false] rfl rfl (take_ofW HT_.out HW_.out (by kernel_rfl)) (fun _ _ _ h => h) (Or.inl ⟨by rfl, ?_⟩) hHeld ?_ ?_
   rotate_left
   ·rintro w' ⟨s0, s1, s2, s3, s4, s5, s6, s7, s8, s9, s10, s11, s12, s13, s14⟩
    go_simp
    with_reducible rfl
   rotate_left
   ·simp only [Act.put, List.setIfInBounds_toArray, List.set_cons_zero, List.set_cons_succ, i64_w, i32_w]
    rfl
   refine take_ (i := 11) (N := some 67) (v := ?_) (a' := ?_) #[true, true, true, true, true, false, true, true, true, true, true, true, false, false, false, false] rfl rfl (take_ofW HT_.out HW_.out (by kernel_rfl)) (fun _ _ _ h => h) (Or.inl ⟨by rfl, ?_⟩) hHeld ?_ ?_
   rotate_left
   ·rintro w' ⟨s0, s1, s2, s3, s4, s5, s6, s7, s8, s9, s10, s11, s12, s13, s14⟩
    go_simp
    with_reducible rfl
   rotate_left
   ·simp only [Act.put, List.setIfInBounds_toArray, List.set_cons_zero, List.set_cons_succ, i64_w, i32_w]
    rfl
   refine one_ (i := 5) (N := some 61) #[true, true, true, true, true, true, true, true, true, true, true, true, false, false, false, false] rfl rfl (one_of HT_.out (by kernel_rfl)) (by decide) (fun K hK => ?_)
   refine goes_ Try.func23 (by kernel_rfl) rfl #[.agg #[.int .i64 a2_0, .int .i64 a2_1, .int .i64 a2_2], .agg #[.int .i64 a0_0, .int .i64 a0_1, .int .i64 a0_2]] (by rfl) rfl rfl (by (try simp only [List.map_toArray, List.map_cons, List.map_nil]); first | done | rfl | (simp only [List.length_drop, List.length_take]; rfl)) ?_
   with_reducible refine (relievoref02_Sub.calls a2_0 a2_1 a2_2 a0_0 a0_1 a0_2 t348 t349 t350 _ A26.out).mono ?_
   rintro e w61 ⟨rfl, hb⟩
   refine ⟨_, rfl, ?_⟩
   replace BK334 := cB hb BK334
   replace BK335 := cB hb BK335
   replace BK336 := cB hb BK336
   replace BK345 := cB hb BK345
   replace BK347 := cB hb BK347
   replace HB := Aside0.mk (below_step (HB.out) hb)
   (try clear hb)
   (try clear hb2)
   (try clear hk)
   (try clear hi)
   refine hK.out _ _ ⟨(blk_cell BK335.out 0).trans rfl, (blk_cell BK335.out 1).trans rfl, (blk_cell BK335.out 2).trans rfl, (blk_cell BK347.out 0).trans rfl, (blk_cell BK347.out 1).trans rfl, (blk_cell BK347.out 2).trans rfl, (blk_cell BK347.out 3).trans rfl, (blk_cell BK347.out 4).trans rfl, (blk_cell BK347.out 5).trans rfl, (blk_cell BK347.out 6).trans rfl, (blk_cell BK347.out 7).trans rfl, (blk_cell BK347.out 8).trans rfl, (blk_cell BK334.out 0).trans rfl, (blk_cell BK334.out 1).trans rfl, (blk_cell BK334.out 2).trans rfl⟩ (fun hHeld => ?_)
   clear hK K
   refine norm_ (a' := ?_) ?_ ?_
   rotate_left
   ·show Act.put _ (some 61) _ = _
    simp only [Act.put, List.setIfInBounds_toArray, List.set_cons_zero, List.set_cons_succ, i64_w, i32_w]
    rfl
   refine one_ (i := 12) (N := some 68) #[true, true, true, true, true, true, true, true, true, true, true, true, true, false, false, false] rfl rfl (one_of HT_.out (by kernel_rfl)) (by decide) (fun K hK => ?_)
   refine goes_ Try.func23 (by kernel_rfl) rfl #[.agg #[.int .i64 a2_3, .int .i64 a2_4, .int .i64 a2_5], .agg #[.int .i64 a0_0, .int .i64 a0_1, .int .i64 a0_2]] (by rfl) rfl rfl (by (try simp only [List.map_toArray, List.map_cons, List.map_nil]); first | done | rfl | (simp only [List.length_drop, List.length_take]; rfl)) ?_
   with_reducible refine (relievoref02_Sub.calls a2_3 a2_4 a2_5 a0_0 a0_1 a0_2 t351 t352 t353 _ A27.out).mono ?_
   rintro e w62 ⟨rfl, hb⟩
   refine ⟨_, rfl, ?_⟩
   replace BK334 := cB hb BK334
   replace BK335 := cB hb BK335
   replace BK336 := cB hb BK336
   replace BK345 := cB hb BK345
   replace BK347 := cB hb BK347
   replace HB := Aside0.mk (below_step (HB.out) hb)
   (try clear hb)
   (try clear hb2)
   (try clear hk)
   (try clear hi)
   refine hK.out _ _ ⟨(blk_cell BK335.out 0).trans rfl, (blk_cell BK335.out 1).trans rfl, (blk_cell BK335.out 2).trans rfl, (blk_cell BK347.out 0).trans rfl, (blk_cell BK347.out 1).trans rfl, (blk_cell BK347.out 2).trans rfl, (blk_cell BK347.out 3).trans rfl, (blk_cell BK347.out 4).trans rfl, (blk_cell BK347.out 5).trans rfl, (blk_cell BK347.out 6).trans rfl, (blk_cell BK347.out 7).trans rfl, (blk_cell BK347.out 8).trans rfl, (blk_cell BK334.out 0).trans rfl, (blk_cell BK334.out 1).trans rfl, (blk_cell BK334.out 2).trans rfl⟩ (fun hHeld => ?_)
   clear hK K
   refine norm_ (a' := ?_) ?_ ?_
   rotate_left
   ·show Act.put _ (some 68) _ = _
    simp only [Act.put, List.setIfInBounds_toArray, List.set_cons_zero, List.set_cons_succ, i64_w, i32_w]
    rfl
   refine one_ (i := 13) (N := some 69) #[true, true, true, true, true, true, true, true, true, true, true, true, true, true, false, false] rfl rfl (one_of HT_.out (by kernel_rfl)) (by decide) (fun K hK => ?_)
   refine goes_ Try.func26 (by kernel_rfl) rfl #[.agg #[.int .i64 t348, .int .i64 t349, .int .i64 t350], .agg #[.int .i64 t351, .int .i64 t352, .int .i64 t353]] (by rfl) rfl rfl (by (try simp only [List.map_toArray, List.map_cons, List.map_nil]); first | done | rfl | (simp only [List.length_drop, List.length_take]; rfl)) ?_
   with_reducible refine (relievoref02_Cross.calls t348 t349 t350 t351 t352 t353 t354 t355 t356 _ A28.out).mono ?_
   rintro e w63 ⟨rfl, hb⟩
   refine ⟨_, rfl, ?_⟩
   replace BK334 := cB hb BK334
   replace BK335 := cB hb BK335
   replace BK336 := cB hb BK336
   replace BK345 := cB hb BK345
   replace BK347 := cB hb BK347
   replace HB := Aside0.mk (below_step (HB.out) hb)
   (try clear hb)
   (try clear hb2)
   (try clear hk)
   (try clear hi)
   refine hK.out _ _ ⟨(blk_cell BK335.out 0).trans rfl, (blk_cell BK335.out 1).trans rfl, (blk_cell BK335.out 2).trans rfl, (blk_cell BK347.out 0).trans rfl, (blk_cell BK347.out 1).trans rfl, (blk_cell BK347.out 2).trans rfl, (blk_cell BK347.out 3).trans rfl, (blk_cell BK347.out 4).trans rfl, (blk_cell BK347.out 5).trans rfl, (blk_cell BK347.out 6).trans rfl, (blk_cell BK347.out 7).trans rfl, (blk_cell BK347.out 8).trans rfl, (blk_cell BK334.out 0).trans rfl, (blk_cell BK334.out 1).trans rfl, (blk_cell BK334.out 2).trans rfl⟩ (fun hHeld => ?_)
   clear hK K
   refine norm_ (a' := ?_) ?_ ?_
   rotate_left
   ·show Act.put _ (some 69) _ = _
    simp only [Act.put, List.setIfInBounds_toArray, List.set_cons_zero, List.set_cons_succ, i64_w, i32_w]
    rfl
   refine one_ (i := 14) (N := some 70) #[true, true, true, true, true, true, true, true, true, true, true, true, true, true, true, false] rfl rfl (one_of HT_.out (by kernel_rfl)) (by decide) (fun K hK => ?_)
   refine goes_ Try.func25 (by kernel_rfl) rfl #[.agg #[.int .i64 a1_0, .int .i64 a1_1, .int .i64 a1_2], .agg #[.int .i64 t354, .int .i64 t355, .int .i64 t356]] (by rfl) rfl rfl (by (try simp only [List.map_toArray, List.map_cons, List.map_nil]); first | done | rfl | (simp only [List.length_drop, List.length_take]; rfl)) ?_
   with_reducible refine (relievoref02_Dot.calls a1_0 a1_1 a1_2 t354 t355 t356 t357 _ A29.out).mono ?_
   rintro e w64 ⟨rfl, hb⟩
   refine ⟨_, rfl, ?_⟩
   replace BK334 := cB hb BK334
   replace BK335 := cB hb BK335
   replace BK336 := cB hb BK336
   replace BK345 := cB hb BK345
   replace BK347 := cB hb BK347
   replace HB := Aside0.mk (below_step (HB.out) hb)
   (try clear hb)
   (try clear hb2)
   (try clear hk)
   (try clear hi)
   refine hK.out _ _ ⟨(blk_cell BK335.out 0).trans rfl, (blk_cell BK335.out 1).trans rfl, (blk_cell BK335.out 2).trans rfl, (blk_cell BK347.out 0).trans rfl, (blk_cell BK347.out 1).trans rfl, (blk_cell BK347.out 2).trans rfl, (blk_cell BK347.out 3).trans rfl, (blk_cell BK347.out 4).trans rfl, (blk_cell BK347.out 5).trans rfl, (blk_cell BK347.out 6).trans rfl, (blk_cell BK347.out 7).trans rfl, (blk_cell BK347.out 8).trans rfl, (blk_cell BK334.out 0).trans rfl, (blk_cell BK334.out 1).trans rfl, (blk_cell BK334.out 2).trans rfl⟩ (fun hHeld => ?_)
   clear hK K
   refine norm_ (a' := ?_) ?_ ?_
   rotate_left
   ·show Act.put _ (some 70) _ = _
    simp only [Act.put, List.setIfInBounds_toArray, List.set_cons_zero, List.set_cons_succ, i64_w, i32_w]
    rfl
   refine pure_ (i := 15) (N := some 14) (v := ?_) (a' := ?_) #[true, true, true, true, true, true, true, true, true, true, true, true, true, true, true, true] rfl rfl (any_of HT_.out (by kernel_rfl)) (fun _ _ _ h => h) (Or.inl ⟨by rfl, ?_⟩) ?_ ?_
   rotate_left
   ·intro w'
    go_simp
    with_reducible rfl
   rotate_left
   ·simp only [Act.put, List.setIfInBounds_toArray, List.set_cons_zero, List.set_cons_succ, i64_w, i32_w]
    rfl
   refine done_ (done_of HT_.out (by kernel_rfl)) ?_
   try go_wp2
   rw [rounds_succ]
   try go_wp2
   replace BK334 := Aside0.mk (blk_drew BK334.out)
   replace BK335 := Aside0.mk (blk_drew BK335.out)
   replace BK336 := Aside0.mk (blk_drew BK336.out)
   replace BK345 := Aside0.mk (blk_drew BK345.out)
   replace BK347 := Aside0.mk (blk_drew BK347.out)
   replace HB := Aside0.mk (below_drew1 HB.out)
   refine start_ (n := 16) (S := fun w' => w'.cell? ⟨gb335, 0, none⟩ = some (.int .i64 a1_0) ∧ w'.cell? ⟨gb335, 1, none⟩ = some (.int .i64 a1_1) ∧ w'.cell? ⟨gb335, 2, none⟩ = some (.int .i64 a1_2) ∧ w'.cell? ⟨gb347, 0, none⟩ = some (.int .i64 a2_0) ∧ w'.cell? ⟨gb347, 1, none⟩ = some (.int .i64 a2_1) ∧ w'.cell? ⟨gb347, 2, none⟩ = some (.int .i64 a2_2) ∧ w'.cell? ⟨gb347, 3, none⟩ = some (.int .i64 a2_3) ∧ w'.cell? ⟨gb347, 4, none⟩ = some (.int .i64 a2_4) ∧ w'.cell? ⟨gb347, 5, none⟩ = some (.int .i64 a2_5) ∧ w'.cell? ⟨gb347, 6, none⟩ = some (.int .i64 a2_6) ∧ w'.cell? ⟨gb347, 7, none⟩ = some (.int .i64 a2_7) ∧ w'.cell? ⟨gb347, 8, none⟩ = some (.int .i64 a2_8) ∧ w'.cell? ⟨gb334, 0, none⟩ = some (.int .i64 a0_0) ∧ w'.cell? ⟨gb334, 1, none⟩ = some (.int .i64 a0_1) ∧ w'.cell? ⟨gb334, 2, none⟩ = some (.int .i64 a0_2)) (ds := []) #[false, false, false, false, false, false, false, false, false, false, false, false, false, false, false, false] (by kernel_rfl) rfl rfl ⟨(blk_cell BK335.out 0).trans rfl, (blk_cell BK335.out 1).trans rfl, (blk_cell BK335.out 2).trans rfl, (blk_cell BK347.out 0).trans rfl, (blk_cell BK347.out 1).trans rfl, (blk_cell BK347.out 2).trans rfl, (blk_cell BK347.out 3).trans rfl, (blk_cell BK347.out 4).trans rfl, (blk_cell BK347.out 5).trans rfl, (blk_cell BK347.out 6).trans rfl, (blk_cell BK347.out 7).trans rfl, (blk_cell BK347.out 8).trans rfl, (blk_cell BK334.out 0).trans rfl, (blk_cell BK334.out 1).trans rfl, (blk_cell BK334.out 2).trans rfl⟩ (fun hHeld => ?_); refine with_tabW relievolaw03_SideWithin.tab12 relievolaw03_SideWithin.bits12 (fun HT_ HW_ => ?_)
   generalize w64.drew = w65 at BK334 BK335 BK336 BK345 BK347 HB hHeld ⊢
   refine pure_ (i := 1) (N := some 57) (v := ?_) (a' := ?_) #[false, true, false, false, false, false, false, false, false, false, false, false, false, false, false, false] rfl rfl (any_of HT_.out (by kernel_rfl)) (fun _ _ _ h => h) (Or.inl ⟨by rfl, ?_⟩) ?_ ?_
   rotate_left
   ·intro w'
    go_simp
    with_reducible rfl
   rotate_left
   ·simp only [Act.put, List.setIfInBounds_toArray, List.set_cons_zero, List.set_cons_succ, i64_w, i32_w]
    rfl
   refine pure_ (i := 2) (N := some 58) (v := ?_) (a' := ?_) #[false, true, true, false, false, false, false, false, false, false, false, false, false, false, false, false] rfl rfl (any_of HT_.out (by kernel_rfl)) (fun _ _ _ h => h) (Or.inl ⟨by rfl, ?_⟩) ?_ ?_
   rotate_left
   ·intro w'
    go_simp
    with_reducible rfl
   rotate_left
   ·simp only [Act.put, List.setIfInBounds_toArray, List.set_cons_zero, List.set_cons_succ, i64_w, i32_w]
    rfl
   refine pure_ (i := 6) (N := some 62) (v := ?_) (a' := ?_) #[false, true, true, false, false, false, true, false, false, false, false, false, false, false, false, false] rfl rfl (any_of HT_.out (by kernel_rfl)) (fun _ _ _ h => h) (Or.inl ⟨by rfl, ?_⟩) ?_ ?_
   rotate_left
   ·intro w'
    go_simp
    with_reducible rfl
   rotate_left
   ·simp only [Act.put, List.setIfInBounds_toArray, List.set_cons_zero, List.set_cons_succ, i64_w, i32_w]
    rfl
   refine pure_ (i := 7) (N := some 63) (v := ?_) (a' := ?_) #[false, true, true, false, false, false, true, true, false, false, false, false, false, false, false, false] rfl rfl (any_of HT_.out (by kernel_rfl)) (fun _ _ _ h => h) (Or.inl ⟨by rfl, ?_⟩) ?_ ?_
   rotate_left
   ·intro w'
    go_simp
    with_reducible rfl
   rotate_left
   ·simp only [Act.put, List.setIfInBounds_toArray, List.set_cons_zero, List.set_cons_succ, i64_w, i32_w]
    rfl
   refine pure_ (i := 8) (N := some 64) (v := ?_) (a' := ?_) #[false, true, true, false, false, false, true, true, true, false, false, false, false, false, false, false] rfl rfl (any_of HT_.out (by kernel_rfl)) (fun _ _ _ h => h) (Or.inl ⟨by rfl, ?_⟩) ?_ ?_
   rotate_left
   ·intro w'
    go_simp
    with_reducible rfl
   rotate_left
   ·simp only [Act.put, List.setIfInBounds_toArray, List.set_cons_zero, List.set_cons_succ, i64_w, i32_w]
    rfl
   refine pure_ (i := 9) (N := some 65) (v := ?_) (a' := ?_) #[false, true, true, false, false, false, true, true, true, true, false, false, false, false, false, false] rfl rfl (any_of HT_.out (by kernel_rfl)) (fun _ _ _ h => h) (Or.inl ⟨by rfl, ?_⟩) ?_ ?_
   rotate_left
   ·intro w'
    go_simp
    with_reducible rfl
   rotate_left
   ·simp only [Act.put, List.setIfInBounds_toArray, List.set_cons_zero, List.set_cons_succ, i64_w, i32_w]
    rfl
   refine take_ (i := 0) (N := some 56) (v := ?_) (a' := ?_) #[true, true, true, false, false, false, true, true, true, true, false, false, false, false, false, false] rfl rfl (take_ofW HT_.out HW_.out (by kernel_rfl)) (fun _ _ _ h => h) (Or.inl ⟨by rfl, ?_⟩) hHeld ?_ ?_
   rotate_left
   ·rintro w' ⟨s0, s1, s2, s3, s4, s5, s6, s7, s8, s9, s10, s11, s12, s13, s14⟩
    go_simp
    with_reducible rfl
   rotate_left
   ·simp only [Act.put, List.setIfInBounds_toArray, List.set_cons_zero, List.set_cons_succ, i64_w, i32_w]
    rfl
   refine take_ (i := 3) (N := some 59) (v := ?_) (a' := ?_) #[true, true, true, true, false, false, true, true, true, true, false, false, false, false, false, false] rfl rfl (take_ofW HT_.out HW_.out (by kernel_rfl)) (fun _ _ _ h => h) (Or.inl ⟨by rfl, ?_⟩) hHeld ?_ ?_
   rotate_left
   ·rintro w' ⟨s0, s1, s2, s3, s4, s5, s6, s7, s8, s9, s10, s11, s12, s13, s14⟩
    go_simp
    with_reducible rfl
   rotate_left
   ·simp only [Act.put, List.setIfInBounds_toArray, List.set_cons_zero, List.set_cons_succ, i64_w, i32_w]
    rfl
   refine take_ (i := 4) (N := some 60) (v := ?_) (a' := ?_) #[true, true, true, true, true, false, true, true, true, true, false, false, false, false, false, false] rfl rfl (take_ofW HT_.out HW_.out (by kernel_rfl)) (fun _ _ _ h => h) (Or.inl ⟨by rfl, ?_⟩) hHeld ?_ ?_
   rotate_left
   ·rintro w' ⟨s0, s1, s2, s3, s4, s5, s6, s7, s8, s9, s10, s11, s12, s13, s14⟩
    go_simp
    with_reducible rfl
   rotate_left
   ·simp only [Act.put, List.setIfInBounds_toArray, List.set_cons_zero, List.set_cons_succ, i64_w, i32_w]
    rfl
   refine take_ (i := 10) (N := some 66) (v := ?_) (a' := ?_) #[true, true, true, true, true, false, true, true, true, true, true, false, false, false, false, false] rfl rfl (take_ofW HT_.out HW_.out (by kernel_rfl)) (fun _ _ _ h => h) (Or.inl ⟨by rfl, ?_⟩) hHeld ?_ ?_
   rotate_left
   ·rintro w' ⟨s0, s1, s2, s3, s4, s5, s6, s7, s8, s9, s10, s11, s12, s13, s14⟩
    go_simp
    with_reducible rfl
   rotate_left
   ·simp only [Act.put, List.setIfInBounds_toArray, List.set_cons_zero, List.set_cons_succ, i64_w, i32_w]
    rfl
   refine take_ (i := 11) (N := some 67) (v := ?_) (a' := ?_) #[true, true, true, true, true, false, true, true, true, true, true, true, false, false, false, false] rfl rfl (take_ofW HT_.out HW_.out (by kernel_rfl)) (fun _ _ _ h => h) (Or.inl ⟨by rfl, ?_⟩) hHeld ?_ ?_
   rotate_left
   ·rintro w' ⟨s0, s1, s2, s3, s4, s5, s6, s7, s8, s9, s10, s11, s12, s13, s14⟩
    go_simp
    with_reducible rfl
   rotate_left
   ·simp only [Act.put, List.setIfInBounds_toArray, List.set_cons_zero, List.set_cons_succ, i64_w, i32_w]
    rfl
   refine one_ (i := 5) (N := some 61) #[true, true, true, true, true, true, true, true, true, true, true, true, false, false, false, false] rfl rfl (one_of HT_.out (by kernel_rfl)) (by decide) (fun K hK => ?_)
   refine goes_ Try.func23 (by kernel_rfl) rfl #[.agg #[.int .i64 a2_3, .int .i64 a2_4, .int .i64 a2_5], .agg #[.int .i64 a0_0, .int .i64 a0_1, .int .i64 a0_2]] (by rfl) rfl rfl (by (try simp only [List.map_toArray, List.map_cons, List.map_nil]); first | done | rfl | (simp only [List.length_drop, List.length_take]; rfl)) ?_
   with_reducible refine (relievoref02_Sub.calls a2_3 a2_4 a2_5 a0_0 a0_1 a0_2 t358 t359 t360 _ A32.out).mono ?_
   rintro e w66 ⟨rfl, hb⟩
   refine ⟨_, rfl, ?_⟩
   replace BK334 := cB hb BK334
   replace BK335 := cB hb BK335
   replace BK336 := cB hb BK336
   replace BK345 := cB hb BK345
   replace BK347 := cB hb BK347
   replace HB := Aside0.mk (below_step (HB.out) hb)
   (try clear hb)
   (try clear hb2)
   (try clear hk)
   (try clear hi)
   refine hK.out _ _ ⟨(blk_cell BK335.out 0).trans rfl, (blk_cell BK335.out 1).trans rfl, (blk_cell BK335.out 2).trans rfl, (blk_cell BK347.out 0).trans rfl, (blk_cell BK347.out 1).trans rfl, (blk_cell BK347.out 2).trans rfl, (blk_cell BK347.out 3).trans rfl, (blk_cell BK347.out 4).trans rfl, (blk_cell BK347.out 5).trans rfl, (blk_cell BK347.out 6).trans rfl, (blk_cell BK347.out 7).trans rfl, (blk_cell BK347.out 8).trans rfl, (blk_cell BK334.out 0).trans rfl, (blk_cell BK334.out 1).trans rfl, (blk_cell BK334.out 2).trans rfl⟩ (fun hHeld => ?_)
   clear hK K
   refine norm_ (a' := ?_) ?_ ?_
   rotate_left
   ·show Act.put _ (some 61) _ = _
    simp only [Act.put, List.setIfInBounds_toArray, List.set_cons_zero, List.set_cons_succ, i64_w, i32_w]
    rfl
   refine one_ (i := 12) (N := some 68) #[true, true, true, true, true, true, true, true, true, true, true, true, true, false, false, false] rfl rfl (one_of HT_.out (by kernel_rfl)) (by decide) (fun K hK => ?_)
   refine goes_ Try.func23 (by kernel_rfl) rfl #[.agg #[.int .i64 a2_6, .int .i64 a2_7, .int .i64 a2_8], .agg #[.int .i64 a0_0, .int .i64 a0_1, .int .i64 a0_2]] (by rfl) rfl rfl (by (try simp only [List.map_toArray, List.map_cons, List.map_nil]); first | done | rfl | (simp only [List.length_drop, List.length_take]; rfl)) ?_
   with_reducible refine (relievoref02_Sub.calls a2_6 a2_7 a2_8 a0_0 a0_1 a0_2 t361 t362 t363 _ A33.out).mono ?_
   rintro e w67 ⟨rfl, hb⟩
   refine ⟨_, rfl, ?_⟩
   replace BK334 := cB hb BK334
   replace BK335 := cB hb BK335
   replace BK336 := cB hb BK336
   replace BK345 := cB hb BK345
   replace BK347 := cB hb BK347
   replace HB := Aside0.mk (below_step (HB.out) hb)
   (try clear hb)
   (try clear hb2)
   (try clear hk)
   (try clear hi)
   refine hK.out _ _ ⟨(blk_cell BK335.out 0).trans rfl, (blk_cell BK335.out 1).trans rfl, (blk_cell BK335.out 2).trans rfl, (blk_cell BK347.out 0).trans rfl, (blk_cell BK347.out 1).trans rfl, (blk_cell BK347.out 2).trans rfl, (blk_cell BK347.out 3).trans rfl, (blk_cell BK347.out 4).trans rfl, (blk_cell BK347.out 5).trans rfl, (blk_cell BK347.out 6).trans rfl, (blk_cell BK347.out 7).trans rfl, (blk_cell BK347.out 8).trans rfl, (blk_cell BK334.out 0).trans rfl, (blk_cell BK334.out 1).trans rfl, (blk_cell BK334.out 2).trans rfl⟩ (fun hHeld => ?_)
   clear hK K
   refine norm_ (a' := ?_) ?_ ?_
   rotate_left
   ·show Act.put _ (some 68) _ = _
    simp only [Act.put, List.setIfInBounds_toArray, List.set_cons_zero, List.set_cons_succ, i64_w, i32_w]
    rfl
   refine one_ (i := 13) (N := some 69) #[true, true, true, true, true, true, true, true, true, true, true, true, true, true, false, false] rfl rfl (one_of HT_.out (by kernel_rfl)) (by decide) (fun K hK => ?_)
   refine goes_ Try.func26 (by kernel_rfl) rfl #[.agg #[.int .i64 t358, .int .i64 t359, .int .i64 t360], .agg #[.int .i64 t361, .int .i64 t362, .int .i64 t363]] (by rfl) rfl rfl (by (try simp only [List.map_toArray, List.map_cons, List.map_nil]); first | done | rfl | (simp only [List.length_drop, List.length_take]; rfl)) ?_
   with_reducible refine (relievoref02_Cross.calls t358 t359 t360 t361 t362 t363 t364 t365 t366 _ A34.out).mono ?_
   rintro e w68 ⟨rfl, hb⟩
   refine ⟨_, rfl, ?_⟩
   replace BK334 := cB hb BK334
   replace BK335 := cB hb BK335
   replace BK336 := cB hb BK336
   replace BK345 := cB hb BK345
   replace BK347 := cB hb BK347
   replace HB := Aside0.mk (below_step (HB.out) hb)
   (try clear hb)
   (try clear hb2)
   (try clear hk)
   (try clear hi)
   refine hK.out _ _ ⟨(blk_cell BK335.out 0).trans rfl, (blk_cell BK335.out 1).trans rfl, (blk_cell BK335.out 2).trans rfl, (blk_cell BK347.out 0).trans rfl, (blk_cell BK347.out 1).trans rfl, (blk_cell BK347.out 2).trans rfl, (blk_cell BK347.out 3).trans rfl, (blk_cell BK347.out 4).trans rfl, (blk_cell BK347.out 5).trans rfl, (blk_cell BK347.out 6).trans rfl, (blk_cell BK347.out 7).trans rfl, (blk_cell BK347.out 8).trans rfl, (blk_cell BK334.out 0).trans rfl, (blk_cell BK334.out 1).trans rfl, (blk_cell BK334.out 2).trans rfl⟩ (fun hHeld => ?_)
   clear hK K
   refine norm_ (a' := ?_) ?_ ?_
   rotate_left
   ·show Act.put _ (some 69) _ = _
    simp only [Act.put, List.setIfInBounds_toArray, List.set_cons_zero, List.set_cons_succ, i64_w, i32_w]
    rfl
   refine one_ (i := 14) (N := some 70) #[true, true, true, true, true, true, true, true, true, true, true, true, true, true, true, false] rfl rfl (one_of HT_.out (by kernel_rfl)) (by decide) (fun K hK => ?_)
   refine goes_ Try.func25 (by kernel_rfl) rfl #[.agg #[.int .i64 a1_0, .int .i64 a1_1, .int .i64 a1_2], .agg #[.int .i64 t364, .int .i64 t365, .int .i64 t366]] (by rfl) rfl rfl (by (try simp only [List.map_toArray, List.map_cons, List.map_nil]); first | done | rfl | (simp only [List.length_drop, List.length_take]; rfl)) ?_
   with_reducible refine (relievoref02_Dot.calls a1_0 a1_1 a1_2 t364 t365 t366 t367 _ A35.out).mono ?_
   rintro e w69 ⟨rfl, hb⟩
   refine ⟨_, rfl, ?_⟩
   replace BK334 := cB hb BK334
   replace BK335 := cB hb BK335
   replace BK336 := cB hb BK336
   replace BK345 := cB hb BK345
   replace BK347 := cB hb BK347
   replace HB := Aside0.mk (below_step (HB.out) hb)
   (try clear hb)
   (try clear hb2)
   (try clear hk)
   (try clear hi)
   refine hK.out _ _ ⟨(blk_cell BK335.out 0).trans rfl, (blk_cell BK335.out 1).trans rfl, (blk_cell BK335.out 2).trans rfl, (blk_cell BK347.out 0).trans rfl, (blk_cell BK347.out 1).trans rfl, (blk_cell BK347.out 2).trans rfl, (blk_cell BK347.out 3).trans rfl, (blk_cell BK347.out 4).trans rfl, (blk_cell BK347.out 5).trans rfl, (blk_cell BK347.out 6).trans rfl, (blk_cell BK347.out 7).trans rfl, (blk_cell BK347.out 8).trans rfl, (blk_cell BK334.out 0).trans rfl, (blk_cell BK334.out 1).trans rfl, (blk_cell BK334.out 2).trans rfl⟩ (fun hHeld => ?_)
   clear hK K
   refine norm_ (a' := ?_) ?_ ?_
   rotate_left
   ·show Act.put _ (some 70) _ = _
    simp only [Act.put, List.setIfInBounds_toArray, List.set_cons_zero, List.set_cons_succ, i64_w, i32_w]
    rfl
   refine pure_ (i := 15) (N := some 14) (v := ?_) (a' := ?_) #[true, true, true, true, true, true, true, true, true, true, true, true, true, true, true, true] rfl rfl (any_of HT_.out (by kernel_rfl)) (fun _ _ _ h => h) (Or.inl ⟨by rfl, ?_⟩) ?_ ?_
   rotate_left
   ·intro w'
    go_simp
    with_reducible rfl
   rotate_left
   ·simp only [Act.put, List.setIfInBounds_toArray, List.set_cons_zero, List.set_cons_succ, i64_w, i32_w]
    rfl
   refine done_ (done_of HT_.out (by kernel_rfl)) ?_
   try go_wp2
   rw [rounds_succ]
   try go_wp2
   replace BK334 := Aside0.mk (blk_drew BK334.out)
   replace BK335 := Aside0.mk (blk_drew BK335.out)
   replace BK336 := Aside0.mk (blk_drew BK336.out)
   replace BK345 := Aside0.mk (blk_drew BK345.out)
   replace BK347 := Aside0.mk (blk_drew BK347.out)
   replace HB := Aside0.mk (below_drew1 HB.out)
   refine start_ (n := 16) (S := fun w' => w'.cell? ⟨gb335, 0, none⟩ = some (.int .i64 a1_0) ∧ w'.cell? ⟨gb335, 1, none⟩ = some (.int .i64 a1_1) ∧ w'.cell? ⟨gb335, 2, none⟩ = some (.int .i64 a1_2) ∧ w'.cell? ⟨gb347, 0, none⟩ = some (.int .i64 a2_0) ∧ w'.cell? ⟨gb347, 1, none⟩ = some (.int .i64 a2_1) ∧ w'.cell? ⟨gb347, 2, none⟩ = some (.int .i64 a2_2) ∧ w'.cell? ⟨gb347, 3, none⟩ = some (.int .i64 a2_3) ∧ w'.cell? ⟨gb347, 4, none⟩ = some (.int .i64 a2_4) ∧ w'.cell? ⟨gb347, 5, none⟩ = some (.int .i64 a2_5) ∧ w'.cell? ⟨gb347, 6, none⟩ = some (.int .i64 a2_6) ∧ w'.cell? ⟨gb347, 7, none⟩ = some (.int .i64 a2_7) ∧ w'.cell? ⟨gb347, 8, none⟩ = some (.int .i64 a2_8) ∧ w'.cell? ⟨gb334, 0, none⟩ = some (.int .i64 a0_0) ∧ w'.cell? ⟨gb334, 1, none⟩ = some (.int .i64 a0_1) ∧ w'.cell? ⟨gb334, 2, none⟩ = some (.int .i64 a0_2)) (ds := []) #[false, false, false, false, false, false, false, false, false, false, false, false, false, false, false, false] (by kernel_rfl) rfl rfl ⟨(blk_cell BK335.out 0).trans rfl, (blk_cell BK335.out 1).trans rfl, (blk_cell BK335.out 2).trans rfl, (blk_cell BK347.out 0).trans rfl, (blk_cell BK347.out 1).trans rfl, (blk_cell BK347.out 2).trans rfl, (blk_cell BK347.out 3).trans rfl, (blk_cell BK347.out 4).trans rfl, (blk_cell BK347.out 5).trans rfl, (blk_cell BK347.out 6).trans rfl, (blk_cell BK347.out 7).trans rfl, (blk_cell BK347.out 8).trans rfl, (blk_cell BK334.out 0).trans rfl, (blk_cell BK334.out 1).trans rfl, (blk_cell BK334.out 2).trans rfl⟩ (fun hHeld => ?_); refine with_tabW relievolaw03_SideWithin.tab12 relievolaw03_SideWithin.bits12 (fun HT_ HW_ => ?_)
   generalize w69.drew = w70 at BK334 BK335 BK336 BK345 BK347 HB hHeld ⊢
   refine pure_ (i := 1) (N := some 57) (v := ?_) (a' := ?_) #[false, true, false, false, false, false, false, false, false, false, false, false, false, false, false, false] rfl rfl (any_of HT_.out (by kernel_rfl)) (fun _ _ _ h => h) (Or.inl ⟨by rfl, ?_⟩) ?_ ?_
   rotate_left
   ·intro w'
    go_simp
    with_reducible rfl
   rotate_left
   ·simp only [Act.put, List.setIfInBounds_toArray, List.set_cons_zero, List.set_cons_succ, i64_w, i32_w]
    rfl
   refine pure_ (i := 2) (N := some 58) (v := ?_) (a' := ?_) #[false, true, true, false, false, false, false, false, false, false, false, false, false, false, false, false] rfl rfl (any_of HT_.out (by kernel_rfl)) (fun _ _ _ h => h) (Or.inl ⟨by rfl, ?_⟩) ?_ ?_
   rotate_left
   ·intro w'
    go_simp
    with_reducible rfl
   rotate_left
   ·simp only [Act.put, List.setIfInBounds_toArray, List.set_cons_zero, List.set_cons_succ, i64_w, i32_w]
    rfl
   refine pure_ (i := 6) (N := some 62) (v := ?_) (a' := ?_) #[false, true, true, false, false, false, true, false, false, false, false, false, false, false, false, false] rfl rfl (any_of HT_.out (by kernel_rfl)) (fun _ _ _ h => h) (Or.inl ⟨by rfl, ?_⟩) ?_ ?_
   rotate_left
   ·intro w'
    go_simp
    with_reducible rfl
   rotate_left
   ·simp only [Act.put, List.setIfInBounds_toArray, List.set_cons_zero, List.set_cons_succ, i64_w, i32_w]
    rfl
   refine pure_ (i := 7) (N := some 63) (v := ?_) (a' := ?_) #[false, true, true, false, false, false, true, true, false, false, false, false, false, false, false, false] rfl rfl (any_of HT_.out (by kernel_rfl)) (fun _ _ _ h => h) (Or.inl ⟨by rfl, ?_⟩) ?_ ?_
   rotate_left
   ·intro w'
    go_simp
    with_reducible rfl
   rotate_left
   ·simp only [Act.put, List.setIfInBounds_toArray, List.set_cons_zero, List.set_cons_succ, i64_w, i32_w]
    rfl
   refine pure_ (i := 8) (N := some 64) (v := ?_) (a' := ?_) #[false, true, true, false, false, false, true, true, true, false, false, false, false, false, false, false] rfl rfl (any_of HT_.out (by kernel_rfl)) (fun _ _ _ h => h) (Or.inl ⟨by rfl, ?_⟩) ?_ ?_
   rotate_left
   ·intro w'
    go_simp
    with_reducible rfl
   rotate_left
   ·simp only [Act.put, List.setIfInBounds_toArray, List.set_cons_zero, List.set_cons_succ, i64_w, i32_w]
    rfl
   refine pure_ (i := 9) (N := some 65) (v := ?_) (a' := ?_) #[false, true, true, false, false, false, true, true, true, true, false, false, false, false, false, false] rfl rfl (any_of HT_.out (by kernel_rfl)) (fun _ _ _ h => h) (Or.inl ⟨by rfl, ?_⟩) ?_ ?_
   rotate_left
   ·intro w'
    go_simp
    with_reducible rfl
   rotate_left
   ·simp only [Act.put, List.setIfInBounds_toArray, List.set_cons_zero, List.set_cons_succ, i64_w, i32_w]
    rfl
   refine take_ (i := 0) (N := some 56) (v := ?_) (a' := ?_) #[true, true, true, false, false, false, true, true, true, true, false, false, false, false, false, false] rfl rfl (take_ofW HT_.out HW_.out (by kernel_rfl)) (fun _ _ _ h => h) (Or.inl ⟨by rfl, ?_⟩) hHeld ?_ ?_
   rotate_left
   ·rintro w' ⟨s0, s1, s2, s3, s4, s5, s6, s7, s8, s9, s10, s11, s12, s13, s14⟩
    go_simp
    with_reducible rfl
   rotate_left
   ·simp only [Act.put, List.setIfInBounds_toArray, List.set_cons_zero, List.set_cons_succ, i64_w, i32_w]
    rfl
   refine take_ (i := 3) (N := some 59) (v := ?_) (a' := ?_) #[true, true, true, true, false, false, true, true, true, true, false, false, false, false, false, false] rfl rfl (take_ofW HT_.out HW_.out (by kernel_rfl)) (fun _ _ _ h => h) (Or.inl ⟨by rfl, ?_⟩) hHeld ?_ ?_
   rotate_left
   ·rintro w' ⟨s0, s1, s2, s3, s4, s5, s6, s7, s8, s9, s10, s11, s12, s13, s14⟩
    go_simp
    with_reducible rfl
   rotate_left
   ·simp only [Act.put, List.setIfInBounds_toArray, List.set_cons_zero, List.set_cons_succ, i64_w, i32_w]
    rfl
   refine take_ (i := 4) (N := some 60) (v := ?_) (a' := ?_) #[true, true, true, true, true, false, true, true, true, true, false, false, false, false, false, false] rfl rfl (take_ofW HT_.out HW_.out (by kernel_rfl)) (fun _ _ _ h => h) (Or.inl ⟨by rfl, ?_⟩) hHeld ?_ ?_
   rotate_left
   ·rintro w' ⟨s0, s1, s2, s3, s4, s5, s6, s7, s8, s9, s10, s11, s12, s13, s14⟩
    go_simp
    with_reducible rfl
   rotate_left
   ·simp only [Act.put, List.setIfInBounds_toArray, List.set_cons_zero, List.set_cons_succ, i64_w, i32_w]
    rfl
   refine take_ (i := 10) (N := some 66) (v := ?_) (a' := ?_) #[true, true, true, true, true, false, true, true, true, true, true, false, false, false, false, false] rfl rfl (take_ofW HT_.out HW_.out (by kernel_rfl)) (fun _ _ _ h => h) (Or.inl ⟨by rfl, ?_⟩) hHeld ?_ ?_
   rotate_left
   ·rintro w' ⟨s0, s1, s2, s3, s4, s5, s6, s7, s8, s9, s10, s11, s12, s13, s14⟩
    go_simp
    with_reducible rfl
   rotate_left
   ·simp only [Act.put, List.setIfInBounds_toArray, List.set_cons_zero, List.set_cons_succ, i64_w, i32_w]
    rfl
   refine take_ (i := 11) (N := some 67) (v := ?_) (a' := ?_) #[true, true, true, true, true, false, true, true, true, true, true, true, false, false, false, false] rfl rfl (take_ofW HT_.out HW_.out (by kernel_rfl)) (fun _ _ _ h => h) (Or.inl ⟨by rfl, ?_⟩) hHeld ?_ ?_
   rotate_left
   ·rintro w' ⟨s0, s1, s2, s3, s4, s5, s6, s7, s8, s9, s10, s11, s12, s13, s14⟩
    go_simp
    with_reducible rfl
   rotate_left
   ·simp only [Act.put, List.setIfInBounds_toArray, List.set_cons_zero, List.set_cons_succ, i64_w, i32_w]
    rfl
   refine one_ (i := 5) (N := some 61) #[true, true, true, true, true, true, true, true, true, true, true, true, false, false, false, false] rfl rfl (one_of HT_.out (by kernel_rfl)) (by decide) (fun K hK => ?_)
   refine goes_ Try.func23 (by kernel_rfl) rfl #[.agg #[.int .i64 a2_6, .int .i64 a2_7, .int .i64 a2_8], .agg #[.int .i64 a0_0, .int .i64 a0_1, .int .i64 a0_2]] (by rfl) rfl rfl (by (try simp only [List.map_toArray, List.map_cons, List.map_nil]); first | done | rfl | (simp only [List.length_drop, List.length_take]; rfl)) ?_
   with_reducible refine (relievoref02_Sub.calls a2_6 a2_7 a2_8 a0_0 a0_1 a0_2 t368 t369 t370 _ A38.out).mono ?_
   rintro e w71 ⟨rfl, hb⟩
   refine ⟨_, rfl, ?_⟩
   replace BK334 := cB hb BK334
   replace BK335 := cB hb BK335
   replace BK336 := cB hb BK336
   replace BK345 := cB hb BK345
   replace BK347 := cB hb BK347
   replace HB := Aside0.mk (below_step (HB.out) hb)
   (try clear hb)
   (try clear hb2)
   (try clear hk)
   (try clear hi)
   refine hK.out _ _ ⟨(blk_cell BK335.out 0).trans rfl, (blk_cell BK335.out 1).trans rfl, (blk_cell BK335.out 2).trans rfl, (blk_cell BK347.out 0).trans rfl, (blk_cell BK347.out 1).trans rfl, (blk_cell BK347.out 2).trans rfl, (blk_cell BK347.out 3).trans rfl, (blk_cell BK347.out 4).trans rfl, (blk_cell BK347.out 5).trans rfl, (blk_cell BK347.out 6).trans rfl, (blk_cell BK347.out 7).trans rfl, (blk_cell BK347.out 8).trans rfl, (blk_cell BK334.out 0).trans rfl, (blk_cell BK334.out 1).trans rfl, (blk_cell BK334.out 2).trans rfl⟩ (fun hHeld => ?_)
   clear hK K
   refine norm_ (a' := ?_) ?_ ?_
   rotate_left
   ·show Act.put _ (some 61) _ = _
    simp only [Act.put, List.setIfInBounds_toArray, List.set_cons_zero, List.set_cons_succ, i64_w, i32_w]
    rfl
   refine one_ (i := 12) (N := some 68) #[true, true, true, true, true, true, true, true, true, true, true, true, true, false, false, false] rfl rfl (one_of HT_.out (by kernel_rfl)) (by decide) (fun K hK => ?_)
   refine goes_ Try.func23 (by kernel_rfl) rfl #[.agg #[.int .i64 a2_0, .int .i64 a2_1, .int .i64 a2_2], .agg #[.int .i64 a0_0, .int .i64 a0_1, .int .i64 a0_2]] (by rfl) rfl rfl (by (try simp only [List.map_toArray, List.map_cons, List.map_nil]); first | done | rfl | (simp only [List.length_drop, List.length_take]; rfl)) ?_
   with_reducible refine (relievoref02_Sub.calls a2_0 a2_1 a2_2 a0_0 a0_1 a0_2 t371 t372 t373 _ A39.out).mono ?_
   rintro e w72 ⟨rfl, hb⟩
   refine ⟨_, rfl, ?_⟩
   replace BK334 := cB hb BK334
   replace BK335 := cB hb BK335
   replace BK336 := cB hb BK336
   replace BK345 := cB hb BK345
   replace BK347 := cB hb BK347
   replace HB := Aside0.mk (below_step (HB.out) hb)
   (try clear hb)
   (try clear hb2)
   (try clear hk)
   (try clear hi)
   refine hK.out _ _ ⟨(blk_cell BK335.out 0).trans rfl, (blk_cell BK335.out 1).trans rfl, (blk_cell BK335.out 2).trans rfl, (blk_cell BK347.out 0).trans rfl, (blk_cell BK347.out 1).trans rfl, (blk_cell BK347.out 2).trans rfl, (blk_cell BK347.out 3).trans rfl, (blk_cell BK347.out 4).trans rfl, (blk_cell BK347.out 5).trans rfl, (blk_cell BK347.out 6).trans rfl, (blk_cell BK347.out 7).trans rfl, (blk_cell BK347.out 8).trans rfl, (blk_cell BK334.out 0).trans rfl, (blk_cell BK334.out 1).trans rfl, (blk_cell BK334.out 2).trans rfl⟩ (fun hHeld => ?_)
   clear hK K
   refine norm_ (a' := ?_) ?_ ?_
   rotate_left
   ·show Act.put _ (some 68) _ = _
    simp only [Act.put, List.setIfInBounds_toArray, List.set_cons_zero, List.set_cons_succ, i64_w, i32_w]
    rfl
   refine one_ (i := 13) (N := some 69) #[true, true, true, true, true, true, true, true, true, true, true, true, true, true, false, false] rfl rfl (one_of HT_.out (by kernel_rfl)) (by decide) (fun K hK => ?_)
   refine goes_ Try.func26 (by kernel_rfl) rfl #[.agg #[.int .i64 t368, .int .i64 t369, .int .i64 t370], .agg #[.int .i64 t371, .int .i64 t372, .int .i64 t373]] (by rfl) rfl rfl (by (try simp only [List.map_toArray, List.map_cons, List.map_nil]); first | done | rfl | (simp only [List.length_drop, List.length_take]; rfl)) ?_
   with_reducible refine (relievoref02_Cross.calls t368 t369 t370 t371 t372 t373 t374 t375 t376 _ A40.out).mono ?_
   rintro e w73 ⟨rfl, hb⟩
   refine ⟨_, rfl, ?_⟩
   replace BK334 := cB hb BK334
   replace BK335 := cB hb BK335
   replace BK336 := cB hb BK336
   replace BK345 := cB hb BK345
   replace BK347 := cB hb BK347
   replace HB := Aside0.mk (below_step (HB.out) hb)
   (try clear hb)
   (try clear hb2)
   (try clear hk)
   (try clear hi)
   refine hK.out _ _ ⟨(blk_cell BK335.out 0).trans rfl, (blk_cell BK335.out 1).trans rfl, (blk_cell BK335.out 2).trans rfl, (blk_cell BK347.out 0).trans rfl, (blk_cell BK347.out 1).trans rfl, (blk_cell BK347.out 2).trans rfl, (blk_cell BK347.out 3).trans rfl, (blk_cell BK347.out 4).trans rfl, (blk_cell BK347.out 5).trans rfl, (blk_cell BK347.out 6).trans rfl, (blk_cell BK347.out 7).trans rfl, (blk_cell BK347.out 8).trans rfl, (blk_cell BK334.out 0).trans rfl, (blk_cell BK334.out 1).trans rfl, (blk_cell BK334.out 2).trans rfl⟩ (fun hHeld => ?_)
   clear hK K
   refine norm_ (a' := ?_) ?_ ?_
   rotate_left
   ·show Act.put _ (some 69) _ = _
    simp only [Act.put, List.setIfInBounds_toArray, List.set_cons_zero, List.set_cons_succ, i64_w, i32_w]
    rfl
   refine one_ (i := 14) (N := some 70) #[true, true, true, true, true, true, true, true, true, true, true, true, true, true, true, false] rfl rfl (one_of HT_.out (by kernel_rfl)) (by decide) (fun K hK => ?_)
   refine goes_ Try.func25 (by kernel_rfl) rfl #[.agg #[.int .i64 a1_0, .int .i64 a1_1, .int .i64 a1_2], .agg #[.int .i64 t374, .int .i64 t375, .int .i64 t376]] (by rfl) rfl rfl (by (try simp only [List.map_toArray, List.map_cons, List.map_nil]); first | done | rfl | (simp only [List.length_drop, List.length_take]; rfl)) ?_
   with_reducible refine (relievoref02_Dot.calls a1_0 a1_1 a1_2 t374 t375 t376 t377 _ A41.out).mono ?_
   rintro e w74 ⟨rfl, hb⟩
   refine ⟨_, rfl, ?_⟩
   replace BK334 := cB hb BK334
   replace BK335 := cB hb BK335
   replace BK336 := cB hb BK336
   replace BK345 := cB hb BK345
   replace BK347 := cB hb BK347
   replace HB := Aside0.mk (below_step (HB.out) hb)
   (try clear hb)
   (try clear hb2)
   (try clear hk)
   (try clear hi)
   refine hK.out _ _ ⟨(blk_cell BK335.out 0).trans rfl, (blk_cell BK335.out 1).trans rfl, (blk_cell BK335.out 2).trans rfl, (blk_cell BK347.out 0).trans rfl, (blk_cell BK347.out 1).trans rfl, (blk_cell BK347.out 2).trans rfl, (blk_cell BK347.out 3).trans rfl, (blk_cell BK347.out 4).trans rfl, (blk_cell BK347.out 5).trans rfl, (blk_cell BK347.out 6).trans rfl, (blk_cell BK347.out 7).trans rfl, (blk_cell BK347.out 8).trans rfl, (blk_cell BK334.out 0).trans rfl, (blk_cell BK334.out 1).trans rfl, (blk_cell BK334.out 2).trans rfl⟩ (fun hHeld => ?_)
   clear hK K
   refine norm_ (a' := ?_) ?_ ?_
   rotate_left
   ·show Act.put _ (some 70) _ = _
    simp only [Act.put, List.setIfInBounds_toArray, List.set_cons_zero, List.set_cons_succ, i64_w, i32_w]
    rfl
   refine pure_ (i := 15) (N := some 14) (v := ?_) (a' := ?_) #[true, true, true, true, true, true, true, true, true, true, true, true, true, true, true, true] rfl rfl (any_of HT_.out (by kernel_rfl)) (fun _ _ _ h => h) (Or.inl ⟨by rfl, ?_⟩) ?_ ?_
   rotate_left
   ·intro w'
    go_simp
    with_reducible rfl
   rotate_left
   ·simp only [Act.put, List.setIfInBounds_toArray, List.set_cons_zero, List.set_cons_succ, i64_w, i32_w]
    rfl
   refine done_ (done_of HT_.out (by kernel_rfl)) ?_
   obtain ⟨hcz75_0, hcz75_1, hcz75_2, hcz75_3, hcz75_4, hcz75_5, hcz75_6, hcz75_7, hcz75_8⟩ := cells9 BK336.out
   try go_wp2
   rw [rounds_succ]
   try go_wp2_with (first | ((with_reducible refine gate_callee (f := 27) rfl ?_); refine goesL_ (some 78) rfl rfl Try.func27 (by kernel_rfl) rfl #[.agg #[.int .i64 a2_0, .int .i64 a2_1, .int .i64 a2_2, .int .i64 a2_3, .int .i64 a2_4, .int .i64 a2_5, .int .i64 a2_6, .int .i64 a2_7, .int .i64 a2_8]] rfl (by (try simp only [List.map_toArray, List.map_cons, List.map_nil]); first | done | rfl | (simp only [List.length_drop, List.length_take]; rfl)) ?_; (with_reducible refine (relievoref03_Normal.calls a2_0 a2_1 a2_2 a2_3 a2_4 a2_5 a2_6 a2_7 a2_8 t378 t379 t380 _ A44.out).mono ?_); rintro e w76 ⟨rfl, hb⟩; refine ⟨_, rfl, ?_⟩; replace BK334 := cB hb BK334; replace BK335 := cB hb BK335; replace BK336 := cB hb BK336; replace BK345 := cB hb BK345; replace HB := Aside0.mk (below_step (HB.out) hb); (try clear hb); (try clear hb2); (try clear hk); (try clear hi)) | ((with_reducible refine gate_dst (N := 15) rfl ?_); refine box_event ?hg (N := 15) ?hd (cs := #[.int .i64 0, .int .i64 0, .int .i64 0]) (t := 23) ?hr ?_; (case hd => rfl); (case hg => rfl); (case hr => first | (go_simp; done) | (go_simp; rfl)); intro gb381 hg w77 hbox hb; have BK381 := Aside0.mk (hbox); have GE381 := Aside0.mk (bG hg (HB.out)); have NB334_381 := cN hg BK334; have NB381_334 := cM hg BK334; have NB335_381 := cN hg BK335; have NB381_335 := cM hg BK335; have NB336_381 := cN hg BK336; have NB381_336 := cM hg BK336; have NB345_381 := cN hg BK345; have NB381_345 := cM hg BK345; replace BK334 := cB hb BK334; replace BK335 := cB hb BK335; replace BK336 := cB hb BK336; replace BK345 := cB hb BK345; replace HB := Aside0.mk (below_step (HB.out) hb); clear hb hbox hg; have hnb78 := NB381_334.out; have hnc78 := NB334_381.out; have hnb79 := NB381_335.out; have hnc79 := NB335_381.out; have hnb80 := NB381_336.out; have hnc80 := NB336_381.out; have hnb81 := NB381_345.out; have hnc81 := NB345_381.out; obtain ⟨hcz82_0, hcz82_1, hcz82_2⟩ := cells3 BK381.out; have hfz82_0 := blk_frozen BK381.out 0; have hfz82_1 := blk_frozen BK381.out 1; have hfz82_2 := blk_frozen BK381.out 2))
   generalize hw_ : (((w77.setCell ⟨gb381, 0, none⟩ (.int .i64 t378)).setCell ⟨gb381, 1, none⟩ (.int .i64 t379)).setCell ⟨gb381, 2, none⟩ (.int .i64 t380)) = w83
   replace BK334 := Aside0.mk (bF hw_ (blk_far (blk_far (blk_far BK334.out NB334_381.out _) NB334_381.out _) NB334_381.out _))
   replace BK335 := Aside0.mk (bF hw_ (blk_far (blk_far (blk_far BK335.out NB335_381.out _) NB335_381.out _) NB335_381.out _))
   replace BK336 := Aside0.mk (bF hw_ (blk_far (blk_far (blk_far BK336.out NB336_381.out _) NB336_381.out _) NB336_381.out _))
   replace BK345 := Aside0.mk (bF hw_ (blk_far (blk_far (blk_far BK345.out NB345_381.out _) NB345_381.out _) NB345_381.out _))
   replace BK381 := Aside0.mk (bF hw_ (blk_put (cs' := #[.int .i64 t378, .int .i64 t379, .int .i64 t380]) (blk_put (blk_put BK381.out 0 _ rfl) 1 _ rfl) 2 _ rfl))
   replace HB := Aside0.mk (bH hw_ (below_set (below_set (below_set HB.out GE381.out) GE381.out) GE381.out))
   clear hw_
   replace BK334 := Aside0.mk (blk_drew BK334.out)
   replace BK335 := Aside0.mk (blk_drew BK335.out)
   replace BK336 := Aside0.mk (blk_drew BK336.out)
   replace BK345 := Aside0.mk (blk_drew BK345.out)
   replace BK381 := Aside0.mk (blk_drew BK381.out)
   replace HB := Aside0.mk (below_drew1 HB.out)
   refine start_ (n := 9) (S := fun w' => w'.cell? ⟨gb381, 0, none⟩ = some (.int .i64 t378) ∧ w'.cell? ⟨gb381, 1, none⟩ = some (.int .i64 t379) ∧ w'.cell? ⟨gb381, 2, none⟩ = some (.int .i64 t380) ∧ w'.cell? ⟨gb335, 0, none⟩ = some (.int .i64 a1_0) ∧ w'.cell? ⟨gb335, 1, none⟩ = some (.int .i64 a1_1) ∧ w'.cell? ⟨gb335, 2, none⟩ = some (.int .i64 a1_2) ∧ w'.cell? ⟨gb345, 0, none⟩ = some (.int .i64 t338) ∧ w'.cell? ⟨gb345, 1, none⟩ = some (.int .i64 t339) ∧ w'.cell? ⟨gb345, 2, none⟩ = some (.bool t340) ∧ w'.cell? ⟨gb345, 3, none⟩ = some (.int .i64 t341) ∧ w'.cell? ⟨gb345, 4, none⟩ = some (.int .i64 t342)) (ds := []) #[false, false, false, false, false, false, false, false, false] (by kernel_rfl) rfl rfl ⟨(blk_cell BK381.out 0).trans rfl, (blk_cell BK381.out 1).trans rfl, (blk_cell BK381.out 2).trans rfl, (blk_cell BK335.out 0).trans rfl, (blk_cell BK335.out 1).trans rfl, (blk_cell BK335.out 2).trans rfl, (blk_cell BK345.out 0).trans rfl, (blk_cell BK345.out 1).trans rfl, (blk_cell BK345.out 2).trans rfl, (blk_cell BK345.out 3).trans rfl, (blk_cell BK345.out 4).trans rfl⟩ (fun hHeld => ?_); refine with_tabW relievolaw03_SideWithin.tab16 relievolaw03_SideWithin.bits16 (fun HT_ HW_ => ?_)
   generalize w83.drew = w84 at BK334 BK335 BK336 BK345 BK381 HB hHeld ⊢
   refine pure_ (i := 3) (N := some 82) (v := ?_) (a' := ?_) #[false, false, false, true, false, false, false, false, false] rfl rfl (any_of HT_.out (by kernel_rfl)) (fun _ _ _ h => h) (Or.inl ⟨by rfl, ?_⟩) ?_ ?_
   rotate_left
   ·intro w'
    go_simp
    with_reducible rfl
   rotate_left
   ·simp only [Act.put, List.setIfInBounds_toArray, List.set_cons_zero, List.set_cons_succ, i64_w, i32_w]
    rfl
   refine pure_ (i := 4) (N := some 83) (v := ?_) (a' := ?_) #[false, false, false, true, true, false, false, false, false] rfl rfl (any_of HT_.out (by kernel_rfl)) (fun _ _ _ h => h) (Or.inl ⟨by rfl, ?_⟩) ?_ ?_
   rotate_left
   ·intro w'
    go_simp
    with_reducible rfl
   rotate_left
   ·simp only [Act.put, List.setIfInBounds_toArray, List.set_cons_zero, List.set_cons_succ, i64_w, i32_w]
    rfl
   refine take_ (i := 0) (N := some 79) (v := ?_) (a' := ?_) #[true, false, false, true, true, false, false, false, false] rfl rfl (take_ofW HT_.out HW_.out (by kernel_rfl)) (fun _ _ _ h => h) (Or.inl ⟨by rfl, ?_⟩) hHeld ?_ ?_
   rotate_left
   ·rintro w' ⟨s0, s1, s2, s3, s4, s5, s6, s7, s8, s9, s10⟩
    go_simp
    with_reducible rfl
   rotate_left
   ·simp only [Act.put, List.setIfInBounds_toArray, List.set_cons_zero, List.set_cons_succ, i64_w, i32_w]
    rfl
   refine take_ (i := 1) (N := some 80) (v := ?_) (a' := ?_) #[true, true, false, true, true, false, false, false, false] rfl rfl (take_ofW HT_.out HW_.out (by kernel_rfl)) (fun _ _ _ h => h) (Or.inl ⟨by rfl, ?_⟩) hHeld ?_ ?_
   rotate_left
   ·rintro w' ⟨s0, s1, s2, s3, s4, s5, s6, s7, s8, s9, s10⟩
    go_simp
    with_reducible rfl
   rotate_left
   ·simp only [Act.put, List.setIfInBounds_toArray, List.set_cons_zero, List.set_cons_succ, i64_w, i32_w]
    rfl
   refine take_ (i := 5) (N := some 84) (v := ?_) (a' := ?_) #[true, true, false, true, true, true, false, false, false] rfl rfl (take_ofW HT_.out HW_.out (by kernel_rfl)) (fun _ _ _ h => h) (Or.inl ⟨by rfl, ?_⟩) hHeld ?_ ?_
   rotate_left
   ·rintro w' ⟨s0, s1, s2, s3, s4, s5, s6, s7, s8, s9, s10⟩
    go_simp
    with_reducible rfl
   rotate_left
   ·simp only [Act.put, List.setIfInBounds_toArray, List.set_cons_zero, List.set_cons_succ, i64_w, i32_w]
    rfl
   refine join_ (σ := Nat) 1 #[true, true, true, true, true, true, true, true, false] (fun s_ => [(81, .int .i64 t382), (85, .agg #[.int .i64 t383, .int .u64 t384]), (16, .pointer (some ⟨s_, 0, none⟩))]) (fun s_ w' => (w'.cell? ⟨gb381, 0, none⟩ = some (.int .i64 t378) ∧ w'.cell? ⟨gb381, 1, none⟩ = some (.int .i64 t379) ∧ w'.cell? ⟨gb381, 2, none⟩ = some (.int .i64 t380) ∧ w'.cell? ⟨gb335, 0, none⟩ = some (.int .i64 a1_0) ∧ w'.cell? ⟨gb335, 1, none⟩ = some (.int .i64 a1_1) ∧ w'.cell? ⟨gb335, 2, none⟩ = some (.int .i64 a1_2) ∧ w'.cell? ⟨gb345, 0, none⟩ = some (.int .i64 t338) ∧ w'.cell? ⟨gb345, 1, none⟩ = some (.int .i64 t339) ∧ w'.cell? ⟨gb345, 2, none⟩ = some (.bool t340) ∧ w'.cell? ⟨gb345, 3, none⟩ = some (.int .i64 t341) ∧ w'.cell? ⟨gb345, 4, none⟩ = some (.int .i64 t342)) ∧ (w'.heap[gb334]? = some (.cells #[.int .i64 a0_0, .int .i64 a0_1, .int .i64 a0_2] 23 (0, 0))) ∧ (w'.heap[gb335]? = some (.cells #[.int .i64 a1_0, .int .i64 a1_1, .int .i64 a1_2] 23 (0, 0))) ∧ (w'.heap[gb336]? = some (.cells #[.int .i64 a2_0, .int .i64 a2_1, .int .i64 a2_2, .int .i64 a2_3, .int .i64 a2_4, .int .i64 a2_5, .int .i64 a2_6, .int .i64 a2_7, .int .i64 a2_8] 25 (0, 0))) ∧ (w'.heap[gb345]? = some (.cells #[.int .i64 t338, .int .i64 t339, .bool t340, .int .i64 t341, .int .i64 t342] 30 (0, 0))) ∧ (w'.heap[gb381]? = some (.cells #[.int .i64 t378, .int .i64 t379, .int .i64 t380] 23 (0, 0))) ∧ (w'.heap[s_]? = some (.cells #[.int .i64 0, .int .u64 0] 46 (0, 0))) ∧ (w.heap.size ≤ s_) ∧ (gb334 ≠ s_) ∧ (s_ ≠ gb334) ∧ (gb335 ≠ s_) ∧ (s_ ≠ gb335) ∧ (gb336 ≠ s_) ∧ (s_ ≠ gb336) ∧ (gb345 ≠ s_) ∧ (s_ ≠ gb345) ∧ (gb381 ≠ s_) ∧ (s_ ≠ gb381) ∧ (Below w.heap.size w w')) ?_ ?_
   rotate_left
   ·intro hCont
    refine two_ (i := 2) (j := 7) (Ni := some 81) (Nj := some 16) #[true, true, true, true, true, true, false, false, false] #[true, true, false, true, true, true, false, true, false] rfl rfl rfl rfl (two_of HT_.out (by kernel_rfl)) (by decide) (by decide) (fun K hK => ?_) (fun K hK => ?_)
    ·skip
     refine goes_ Try.func25 (by kernel_rfl) rfl #[.agg #[.int .i64 t378, .int .i64 t379, .int .i64 t380], .agg #[.int .i64 a1_0, .int .i64 a1_1, .int .i64 a1_2]] (by rfl) rfl rfl (by (try simp only [List.map_toArray, List.map_cons, List.map_nil]); first | done | rfl | (simp only [List.length_drop, List.length_take]; rfl)) ?_
     with_reducible refine (relievoref02_Dot.calls t378 t379 t380 a1_0 a1_1 a1_2 t382 _ A45.out).mono ?_
     rintro e w85 ⟨rfl, hb⟩
     refine ⟨_, rfl, ?_⟩
     replace BK334 := cB hb BK334
     replace BK335 := cB hb BK335
     replace BK336 := cB hb BK336
     replace BK345 := cB hb BK345
     replace BK381 := cB hb BK381
     replace HB := Aside0.mk (below_step (HB.out) hb)
     (try clear hb)
     (try clear hb2)
     (try clear hk)
     (try clear hi)
     refine hK.out _ _ ⟨(blk_cell BK381.out 0).trans rfl, (blk_cell BK381.out 1).trans rfl, (blk_cell BK381.out 2).trans rfl, (blk_cell BK335.out 0).trans rfl, (blk_cell BK335.out 1).trans rfl, (blk_cell BK335.out 2).trans rfl, (blk_cell BK345.out 0).trans rfl, (blk_cell BK345.out 1).trans rfl, (blk_cell BK345.out 2).trans rfl, (blk_cell BK345.out 3).trans rfl, (blk_cell BK345.out 4).trans rfl⟩ (fun hHeld => ?_)
     clear hK K
     refine norm_ (a' := ?_) ?_ ?_
     rotate_left
     ·show Act.put _ (some 81) _ = _
      simp only [Act.put, List.setIfInBounds_toArray, List.set_cons_zero, List.set_cons_succ, i64_w, i32_w]
      rfl
     refine two_ (i := 6) (j := 7) (Ni := some 85) (Nj := some 16) #[true, true, true, true, true, true, true, false, false] #[true, true, true, true, true, true, false, true, false] rfl rfl rfl rfl (two_of HT_.out (by kernel_rfl)) (by decide) (by decide) (fun K hK => ?_) (fun K hK => ?_)
     ·skip
      refine goes_ Try.func28 (by kernel_rfl) rfl #[.int .i64 t382, .int .i64 t338] (by rfl) rfl rfl (by (try simp only [List.map_toArray, List.map_cons, List.map_nil]); first | done | rfl | (simp only [List.length_drop, List.length_take]; rfl)) ?_
      with_reducible refine (relievoref01_Mul.calls t382 t338 t383 t384 _ A46.out).mono ?_
      rintro e w86 ⟨rfl, hb⟩
      refine ⟨_, rfl, ?_⟩
      replace BK334 := cB hb BK334
      replace BK335 := cB hb BK335
      replace BK336 := cB hb BK336
      replace BK345 := cB hb BK345
      replace BK381 := cB hb BK381
      replace HB := Aside0.mk (below_step (HB.out) hb)
      (try clear hb)
      (try clear hb2)
      (try clear hk)
      (try clear hi)
      refine hK.out _ _ ⟨(blk_cell BK381.out 0).trans rfl, (blk_cell BK381.out 1).trans rfl, (blk_cell BK381.out 2).trans rfl, (blk_cell BK335.out 0).trans rfl, (blk_cell BK335.out 1).trans rfl, (blk_cell BK335.out 2).trans rfl, (blk_cell BK345.out 0).trans rfl, (blk_cell BK345.out 1).trans rfl, (blk_cell BK345.out 2).trans rfl, (blk_cell BK345.out 3).trans rfl, (blk_cell BK345.out 4).trans rfl⟩ (fun hHeld => ?_)
      clear hK K
      refine norm_ (a' := ?_) ?_ ?_
      rotate_left
      ·show Act.put _ (some 85) _ = _
       simp only [Act.put, List.setIfInBounds_toArray, List.set_cons_zero, List.set_cons_succ, i64_w, i32_w]
       rfl
      refine one_ (i := 7) (N := some 16) #[true, true, true, true, true, true, true, true, false] rfl rfl (one_of HT_.out (by kernel_rfl)) (by decide) (fun K hK => ?_)
      refine box_step ?hg (N := 16) ?hd (cs := #[.int .i64 0, .int .u64 0]) (t := 46) ?hr ?_; (case hd => rfl); (case hg => rfl); (case hr => first | (go_simp; done) | (go_simp; rfl))
      intro gb385 hg w87 hbox hb
      have BK385 := Aside0.mk (hbox)
      have GE385 := Aside0.mk (bG hg (HB.out))
      have NB334_385 := cN hg BK334
      have NB385_334 := cM hg BK334
      have NB335_385 := cN hg BK335
      have NB385_335 := cM hg BK335
      have NB336_385 := cN hg BK336
      have NB385_336 := cM hg BK336
      have NB345_385 := cN hg BK345
      have NB385_345 := cM hg BK345
      have NB381_385 := cN hg BK381
      have NB385_381 := cM hg BK381
      replace BK334 := cB hb BK334
      replace BK335 := cB hb BK335
      replace BK336 := cB hb BK336
      replace BK345 := cB hb BK345
      replace BK381 := cB hb BK381
      replace HB := Aside0.mk (below_step (HB.out) hb)
      clear hb hbox hg
      refine hK.out _ _ ⟨(blk_cell BK381.out 0).trans rfl, (blk_cell BK381.out 1).trans rfl, (blk_cell BK381.out 2).trans rfl, (blk_cell BK335.out 0).trans rfl, (blk_cell BK335.out 1).trans rfl, (blk_cell BK335.out 2).trans rfl, (blk_cell BK345.out 0).trans rfl, (blk_cell BK345.out 1).trans rfl, (blk_cell BK345.out 2).trans rfl, (blk_cell BK345.out 3).trans rfl, (blk_cell BK345.out 4).trans rfl⟩ (fun hHeld => ?_)
      clear hK K
      refine norm_ (a' := ?_) ?_ ?_
      rotate_left
      ·show Act.put _ (some 16) _ = _
       simp only [Act.put, List.setIfInBounds_toArray, List.set_cons_zero, List.set_cons_succ, i64_w, i32_w]
       rfl
      exact norm_ (by simp only [putAll, Act.put, List.setIfInBounds_toArray, List.set_cons_zero, List.set_cons_succ]) (hCont (gb385) _ ⟨hHeld, (BK334.out), (BK335.out), (BK336.out), (BK345.out), (BK381.out), (BK385.out), GE385.out, NB334_385.out, NB385_334.out, NB335_385.out, NB385_335.out, NB336_385.out, NB385_336.out, NB345_385.out, NB385_345.out, NB381_385.out, NB385_381.out, (HB.out)⟩)
     skip
     refine box_step ?hg (N := 16) ?hd (cs := #[.int .i64 0, .int .u64 0]) (t := 46) ?hr ?_; (case hd => rfl); (case hg => rfl); (case hr => first | (go_simp; done) | (go_simp; rfl))
     intro gb385 hg w86 hbox hb
     have BK385 := Aside0.mk (hbox)
     have GE385 := Aside0.mk (bG hg (HB.out))
     have NB334_385 := cN hg BK334
     have NB385_334 := cM hg BK334
     have NB335_385 := cN hg BK335
     have NB385_335 := cM hg BK335
     have NB336_385 := cN hg BK336
     have NB385_336 := cM hg BK336
     have NB345_385 := cN hg BK345
     have NB385_345 := cM hg BK345
     have NB381_385 := cN hg BK381
     have NB385_381 := cM hg BK381
     replace BK334 := cB hb BK334
     replace BK335 := cB hb BK335
     replace BK336 := cB hb BK336
     replace BK345 := cB hb BK345
     replace BK381 := cB hb BK381
     replace HB := Aside0.mk (below_step (HB.out) hb)
     clear hb hbox hg
     refine hK.out _ _ ⟨(blk_cell BK381.out 0).trans rfl, (blk_cell BK381.out 1).trans rfl, (blk_cell BK381.out 2).trans rfl, (blk_cell BK335.out 0).trans rfl, (blk_cell BK335.out 1).trans rfl, (blk_cell BK335.out 2).trans rfl, (blk_cell BK345.out 0).trans rfl, (blk_cell BK345.out 1).trans rfl, (blk_cell BK345.out 2).trans rfl, (blk_cell BK345.out 3).trans rfl, (blk_cell BK345.out 4).trans rfl⟩ (fun hHeld => ?_)
     clear hK K
     refine norm_ (a' := ?_) ?_ ?_
     rotate_left
     ·show Act.put _ (some 16) _ = _
      simp only [Act.put, List.setIfInBounds_toArray, List.set_cons_zero, List.set_cons_succ, i64_w, i32_w]
      rfl
     refine one_ (i := 6) (N := some 85) #[true, true, true, true, true, true, true, true, false] rfl rfl (one_of HT_.out (by kernel_rfl)) (by decide) (fun K hK => ?_)
     refine goes_ Try.func28 (by kernel_rfl) rfl #[.int .i64 t382, .int .i64 t338] (by rfl) rfl rfl (by (try simp only [List.map_toArray, List.map_cons, List.map_nil]); first | done | rfl | (simp only [List.length_drop, List.length_take]; rfl)) ?_
     with_reducible refine (relievoref01_Mul.calls t382 t338 t383 t384 _ A46.out).mono ?_
     rintro e w87 ⟨rfl, hb⟩
     refine ⟨_, rfl, ?_⟩
     replace BK334 := cB hb BK334
     replace BK335 := cB hb BK335
     replace BK336 := cB hb BK336
     replace BK345 := cB hb BK345
     replace BK381 := cB hb BK381
     replace BK385 := cB hb BK385
     replace HB := Aside0.mk (below_step (HB.out) hb)
     (try clear hb)
     (try clear hb2)
     (try clear hk)
     (try clear hi)
     refine hK.out _ _ ⟨(blk_cell BK381.out 0).trans rfl, (blk_cell BK381.out 1).trans rfl, (blk_cell BK381.out 2).trans rfl, (blk_cell BK335.out 0).trans rfl, (blk_cell BK335.out 1).trans rfl, (blk_cell BK335.out 2).trans rfl, (blk_cell BK345.out 0).trans rfl, (blk_cell BK345.out 1).trans rfl, (blk_cell BK345.out 2).trans rfl, (blk_cell BK345.out 3).trans rfl, (blk_cell BK345.out 4).trans rfl⟩ (fun hHeld => ?_)
     clear hK K
     refine norm_ (a' := ?_) ?_ ?_
     rotate_left
     ·show Act.put _ (some 85) _ = _
      simp only [Act.put, List.setIfInBounds_toArray, List.set_cons_zero, List.set_cons_succ, i64_w, i32_w]
      rfl
     exact norm_ (by simp only [putAll, Act.put, List.setIfInBounds_toArray, List.set_cons_zero, List.set_cons_succ]) (hCont (gb385) _ ⟨hHeld, (BK334.out), (BK335.out), (BK336.out), (BK345.out), (BK381.out), (BK385.out), GE385.out, NB334_385.out, NB385_334.out, NB335_385.out, NB385_335.out, NB336_385.out, NB385_336.out, NB345_385.out, NB385_345.out, NB381_385.out, NB385_381.out, (HB.out)⟩)
    skip
    refine box_step ?hg (N := 16) ?hd (cs := #[.int .i64 0, .int .u64 0]) (t := 46) ?hr ?_; (case hd => rfl); (case hg => rfl); (case hr => first | (go_simp; done) | (go_simp; rfl))
    intro gb385 hg w85 hbox hb
    have BK385 := Aside0.mk (hbox)
    have GE385 := Aside0.mk (bG hg (HB.out))
    have NB334_385 := cN hg BK334
    have NB385_334 := cM hg BK334
    have NB335_385 := cN hg BK335
    have NB385_335 := cM hg BK335
    have NB336_385 := cN hg BK336
    have NB385_336 := cM hg BK336
    have NB345_385 := cN hg BK345
    have NB385_345 := cM hg BK345
    have NB381_385 := cN hg BK381
    have NB385_381 := cM hg BK381
    replace BK334 := cB hb BK334
    replace BK335 := cB hb BK335
    replace BK336 := cB hb BK336
    replace BK345 := cB hb BK345
    replace BK381 := cB hb BK381
    replace HB := Aside0.mk (below_step (HB.out) hb)
    clear hb hbox hg
    refine hK.out _ _ ⟨(blk_cell BK381.out 0).trans rfl, (blk_cell BK381.out 1).trans rfl, (blk_cell BK381.out 2).trans rfl, (blk_cell BK335.out 0).trans rfl, (blk_cell BK335.out 1).trans rfl, (blk_cell BK335.out 2).trans rfl, (blk_cell BK345.out 0).trans rfl, (blk_cell BK345.out 1).trans rfl, (blk_cell BK345.out 2).trans rfl, (blk_cell BK345.out 3).trans rfl, (blk_cell BK345.out 4).trans rfl⟩ (fun hHeld => ?_)
    clear hK K
    refine norm_ (a' := ?_) ?_ ?_
    rotate_left
    ·show Act.put _ (some 16) _ = _
     simp only [Act.put, List.setIfInBounds_toArray, List.set_cons_zero, List.set_cons_succ, i64_w, i32_w]
     rfl
    refine one_ (i := 2) (N := some 81) #[true, true, true, true, true, true, false, true, false] rfl rfl (one_of HT_.out (by kernel_rfl)) (by decide) (fun K hK => ?_)
    refine goes_ Try.func25 (by kernel_rfl) rfl #[.agg #[.int .i64 t378, .int .i64 t379, .int .i64 t380], .agg #[.int .i64 a1_0, .int .i64 a1_1, .int .i64 a1_2]] (by rfl) rfl rfl (by (try simp only [List.map_toArray, List.map_cons, List.map_nil]); first | done | rfl | (simp only [List.length_drop, List.length_take]; rfl)) ?_
    with_reducible refine (relievoref02_Dot.calls t378 t379 t380 a1_0 a1_1 a1_2 t382 _ A45.out).mono ?_
    rintro e w86 ⟨rfl, hb⟩
    refine ⟨_, rfl, ?_⟩
    replace BK334 := cB hb BK334
    replace BK335 := cB hb BK335
    replace BK336 := cB hb BK336
    replace BK345 := cB hb BK345
    replace BK381 := cB hb BK381
    replace BK385 := cB hb BK385
    replace HB := Aside0.mk (below_step (HB.out) hb)
    (try clear hb)
    (try clear hb2)
    (try clear hk)
    (try clear hi)
    refine hK.out _ _ ⟨(blk_cell BK381.out 0).trans rfl, (blk_cell BK381.out 1).trans rfl, (blk_cell BK381.out 2).trans rfl, (blk_cell BK335.out 0).trans rfl, (blk_cell BK335.out 1).trans rfl, (blk_cell BK335.out 2).trans rfl, (blk_cell BK345.out 0).trans rfl, (blk_cell BK345.out 1).trans rfl, (blk_cell BK345.out 2).trans rfl, (blk_cell BK345.out 3).trans rfl, (blk_cell BK345.out 4).trans rfl⟩ (fun hHeld => ?_)
    clear hK K
    refine norm_ (a' := ?_) ?_ ?_
    rotate_left
    ·show Act.put _ (some 81) _ = _
     simp only [Act.put, List.setIfInBounds_toArray, List.set_cons_zero, List.set_cons_succ, i64_w, i32_w]
     rfl
    refine one_ (i := 6) (N := some 85) #[true, true, true, true, true, true, true, true, false] rfl rfl (one_of HT_.out (by kernel_rfl)) (by decide) (fun K hK => ?_)
    refine goes_ Try.func28 (by kernel_rfl) rfl #[.int .i64 t382, .int .i64 t338] (by rfl) rfl rfl (by (try simp only [List.map_toArray, List.map_cons, List.map_nil]); first | done | rfl | (simp only [List.length_drop, List.length_take]; rfl)) ?_
    with_reducible refine (relievoref01_Mul.calls t382 t338 t383 t384 _ A46.out).mono ?_
    rintro e w87 ⟨rfl, hb⟩
    refine ⟨_, rfl, ?_⟩
    replace BK334 := cB hb BK334
    replace BK335 := cB hb BK335
    replace BK336 := cB hb BK336
    replace BK345 := cB hb BK345
    replace BK381 := cB hb BK381
    replace BK385 := cB hb BK385
    replace HB := Aside0.mk (below_step (HB.out) hb)
    (try clear hb)
    (try clear hb2)
    (try clear hk)
    (try clear hi)
    refine hK.out _ _ ⟨(blk_cell BK381.out 0).trans rfl, (blk_cell BK381.out 1).trans rfl, (blk_cell BK381.out 2).trans rfl, (blk_cell BK335.out 0).trans rfl, (blk_cell BK335.out 1).trans rfl, (blk_cell BK335.out 2).trans rfl, (blk_cell BK345.out 0).trans rfl, (blk_cell BK345.out 1).trans rfl, (blk_cell BK345.out 2).trans rfl, (blk_cell BK345.out 3).trans rfl, (blk_cell BK345.out 4).trans rfl⟩ (fun hHeld => ?_)
    clear hK K
    refine norm_ (a' := ?_) ?_ ?_
    rotate_left
    ·show Act.put _ (some 85) _ = _
     simp only [Act.put, List.setIfInBounds_toArray, List.set_cons_zero, List.set_cons_succ, i64_w, i32_w]
     rfl
    exact norm_ (by simp only [putAll, Act.put, List.setIfInBounds_toArray, List.set_cons_zero, List.set_cons_succ]) (hCont (gb385) _ ⟨hHeld, (BK334.out), (BK335.out), (BK336.out), (BK345.out), (BK381.out), (BK385.out), GE385.out, NB334_385.out, NB385_334.out, NB335_385.out, NB385_335.out, NB336_385.out, NB385_336.out, NB345_385.out, NB385_345.out, NB381_385.out, NB385_381.out, (HB.out)⟩)
   rintro gb385 w88 ⟨hS_, h0_, h1_, h2_, h3_, h4_, h5_, h6_, h7_, h8_, h9_, h10_, h11_, h12_, h13_, h14_, h15_, h16_, h17_⟩
   have n0_ : Aside0 (w88.heap[gb334]? = some (.cells #[.int .i64 a0_0, .int .i64 a0_1, .int .i64 a0_2] 23 (0, 0))) := ⟨h0_⟩
   have n1_ : Aside0 (w88.heap[gb335]? = some (.cells #[.int .i64 a1_0, .int .i64 a1_1, .int .i64 a1_2] 23 (0, 0))) := ⟨h1_⟩
   have n2_ : Aside0 (w88.heap[gb336]? = some (.cells #[.int .i64 a2_0, .int .i64 a2_1, .int .i64 a2_2, .int .i64 a2_3, .int .i64 a2_4, .int .i64 a2_5, .int .i64 a2_6, .int .i64 a2_7, .int .i64 a2_8] 25 (0, 0))) := ⟨h2_⟩
   have n3_ : Aside0 (w88.heap[gb345]? = some (.cells #[.int .i64 t338, .int .i64 t339, .bool t340, .int .i64 t341, .int .i64 t342] 30 (0, 0))) := ⟨h3_⟩
   have n4_ : Aside0 (w88.heap[gb381]? = some (.cells #[.int .i64 t378, .int .i64 t379, .int .i64 t380] 23 (0, 0))) := ⟨h4_⟩
   have n5_ : Aside0 (w88.heap[gb385]? = some (.cells #[.int .i64 0, .int .u64 0] 46 (0, 0))) := ⟨h5_⟩
   have GE385 : Aside0 (w.heap.size ≤ gb385) := ⟨h6_⟩
   have NB334_385 : Aside0 (gb334 ≠ gb385) := ⟨h7_⟩
   have NB385_334 : Aside0 (gb385 ≠ gb334) := ⟨h8_⟩
   have NB335_385 : Aside0 (gb335 ≠ gb385) := ⟨h9_⟩
   have NB385_335 : Aside0 (gb385 ≠ gb335) := ⟨h10_⟩
   have NB336_385 : Aside0 (gb336 ≠ gb385) := ⟨h11_⟩
   have NB385_336 : Aside0 (gb385 ≠ gb336) := ⟨h12_⟩
   have NB345_385 : Aside0 (gb345 ≠ gb385) := ⟨h13_⟩
   have NB385_345 : Aside0 (gb385 ≠ gb345) := ⟨h14_⟩
   have NB381_385 : Aside0 (gb381 ≠ gb385) := ⟨h15_⟩
   have NB385_381 : Aside0 (gb385 ≠ gb381) := ⟨h16_⟩
   have n17_ : Aside0 (Below w.heap.size w w88) := ⟨h17_⟩
   clear BK334
   clear BK335
   clear BK336
   clear BK345
   clear BK381
   clear HB
   clear h0_ h1_ h2_ h3_ h4_ h5_ h6_ h7_ h8_ h9_ h10_ h11_ h12_ h13_ h14_ h15_ h16_ h17_
   have BK334 := n0_
   have BK335 := n1_
   have BK336 := n2_
   have BK345 := n3_
   have BK381 := n4_
   have BK385 := n5_
   have HB := n17_
   clear n0_ n1_ n2_ n3_ n4_ n5_ n17_
   have hHeld : w88.cell? ⟨gb381, 0, none⟩ = some (.int .i64 t378) ∧ w88.cell? ⟨gb381, 1, none⟩ = some (.int .i64 t379) ∧ w88.cell? ⟨gb381, 2, none⟩ = some (.int .i64 t380) ∧ w88.cell? ⟨gb335, 0, none⟩ = some (.int .i64 a1_0) ∧ w88.cell? ⟨gb335, 1, none⟩ = some (.int .i64 a1_1) ∧ w88.cell? ⟨gb335, 2, none⟩ = some (.int .i64 a1_2) ∧ w88.cell? ⟨gb345, 0, none⟩ = some (.int .i64 t338) ∧ w88.cell? ⟨gb345, 1, none⟩ = some (.int .i64 t339) ∧ w88.cell? ⟨gb345, 2, none⟩ = some (.bool t340) ∧ w88.cell? ⟨gb345, 3, none⟩ = some (.int .i64 t341) ∧ w88.cell? ⟨gb345, 4, none⟩ = some (.int .i64 t342) := hS_
   refine norm_ (a' := ?_) ?_ ?_
   rotate_left
   ·simp only [putAll, Act.put, List.setIfInBounds_toArray, List.set_cons_zero, List.set_cons_succ]
    rfl
   refine one_ (i := 8) (N := none) #[true, true, true, true, true, true, true, true, true] rfl rfl (one_of HT_.out (by kernel_rfl)) (by decide) (fun K hK => ?_)
   have hs89 : w88.cell? ⟨gb385, 0, none⟩ = some (.int .i64 0) := (blk_cell BK385.out 0).trans rfl
   have hfs89 := blk_frozen BK385.out 0
   have hns89_0 := NB334_385.out
   have hns89_1 := NB335_385.out
   have hns89_2 := NB336_385.out
   have hns89_3 := NB345_385.out
   have hns89_4 := NB381_385.out
   have hms89_0 := NB385_334.out
   have hms89_1 := NB385_335.out
   have hms89_2 := NB385_336.out
   have hms89_3 := NB385_345.out
   have hms89_4 := NB385_381.out
   have hs90 : w88.cell? ⟨gb385, 1, none⟩ = some (.int .u64 0) := (blk_cell BK385.out 1).trans rfl
   have hfs90 := blk_frozen BK385.out 1
   have hns90_0 := NB334_385.out
   have hns90_1 := NB335_385.out
   have hns90_2 := NB336_385.out
   have hns90_3 := NB345_385.out
   have hns90_4 := NB381_385.out
   have hms90_0 := NB385_334.out
   have hms90_1 := NB385_335.out
   have hms90_2 := NB385_336.out
   have hms90_3 := NB385_345.out
   have hms90_4 := NB385_381.out
   refine skip_ (w1 := ?_) (by rfl) rfl ?_ ?_
   rotate_left
   ·go_simp
    rfl
   refine hK.out _ _ ⟨(cf NB381_385.out (cf NB381_385.out hHeld.1)), (cf NB381_385.out (cf NB381_385.out hHeld.2.1)), (cf NB381_385.out (cf NB381_385.out hHeld.2.2.1)), (cf NB335_385.out (cf NB335_385.out hHeld.2.2.2.1)), (cf NB335_385.out (cf NB335_385.out hHeld.2.2.2.2.1)), (cf NB335_385.out (cf NB335_385.out hHeld.2.2.2.2.2.1)), (cf NB345_385.out (cf NB345_385.out hHeld.2.2.2.2.2.2.1)), (cf NB345_385.out (cf NB345_385.out hHeld.2.2.2.2.2.2.2.1)), (cf NB345_385.out (cf NB345_385.out hHeld.2.2.2.2.2.2.2.2.1)), (cf NB345_385.out (cf NB345_385.out hHeld.2.2.2.2.2.2.2.2.2.1)), (cf NB345_385.out (cf NB345_385.out hHeld.2.2.2.2.2.2.2.2.2.2))⟩ (fun hHeld => ?_)
   clear hK K
   refine done_ (done_of HT_.out (by kernel_rfl)) ?_
   try go_wp2
   generalize hw_ : ((w88.setCell ⟨gb385, 0, none⟩ (.int .i64 t383)).setCell ⟨gb385, 1, none⟩ (.int .u64 t384)) = w91
   replace BK334 := Aside0.mk (bF hw_ (blk_far (blk_far BK334.out NB334_385.out _) NB334_385.out _))
   replace BK336 := Aside0.mk (bF hw_ (blk_far (blk_far BK336.out NB336_385.out _) NB336_385.out _))
   replace BK345 := Aside0.mk (bF hw_ (blk_far (blk_far BK345.out NB345_385.out _) NB345_385.out _))
   replace BK381 := Aside0.mk (bF hw_ (blk_far (blk_far BK381.out NB381_385.out _) NB381_385.out _))
   replace BK385 := Aside0.mk (bF hw_ (blk_put (cs' := #[.int .i64 t383, .int .u64 t384]) (blk_put BK385.out 0 _ rfl) 1 _ rfl))
   replace HB := Aside0.mk (bH hw_ (below_set (below_set HB.out GE385.out) GE385.out))
   clear hw_
   replace BK334 := Aside0.mk (blk_drew BK334.out)
   replace BK336 := Aside0.mk (blk_drew BK336.out)
   replace BK345 := Aside0.mk (blk_drew BK345.out)
   replace BK381 := Aside0.mk (blk_drew BK381.out)
   replace BK385 := Aside0.mk (blk_drew BK385.out)
   replace HB := Aside0.mk (below_drew1 HB.out)
   refine start_ (n := 12) (S := fun w' => w'.cell? ⟨gb381, 0, none⟩ = some (.int .i64 t378) ∧ w'.cell? ⟨gb381, 1, none⟩ = some (.int .i64 t379) ∧ w'.cell? ⟨gb381, 2, none⟩ = some (.int .i64 t380) ∧ w'.cell? ⟨gb336, 0, none⟩ = some (.int .i64 a2_0) ∧ w'.cell? ⟨gb336, 1, none⟩ = some (.int .i64 a2_1) ∧ w'.cell? ⟨gb336, 2, none⟩ = some (.int .i64 a2_2) ∧ w'.cell? ⟨gb336, 3, none⟩ = some (.int .i64 a2_3) ∧ w'.cell? ⟨gb336, 4, none⟩ = some (.int .i64 a2_4) ∧ w'.cell? ⟨gb336, 5, none⟩ = some (.int .i64 a2_5) ∧ w'.cell? ⟨gb336, 6, none⟩ = some (.int .i64 a2_6) ∧ w'.cell? ⟨gb336, 7, none⟩ = some (.int .i64 a2_7) ∧ w'.cell? ⟨gb336, 8, none⟩ = some (.int .i64 a2_8) ∧ w'.cell? ⟨gb334, 0, none⟩ = some (.int .i64 a0_0) ∧ w'.cell? ⟨gb334, 1, none⟩ = some (.int .i64 a0_1) ∧ w'.cell? ⟨gb334, 2, none⟩ = some (.int .i64 a0_2) ∧ w'.cell? ⟨gb345, 0, none⟩ = some (.int .i64 t338) ∧ w'.cell? ⟨gb345, 1, none⟩ = some (.int .i64 t339) ∧ w'.cell? ⟨gb345, 2, none⟩ = some (.bool t340) ∧ w'.cell? ⟨gb345, 3, none⟩ = some (.int .i64 t341) ∧ w'.cell? ⟨gb345, 4, none⟩ = some (.int .i64 t342)) (ds := []) #[false, false, false, false, false, false, false, false, false, false, false, false] (by kernel_rfl) rfl rfl ⟨(blk_cell BK381.out 0).trans rfl, (blk_cell BK381.out 1).trans rfl, (blk_cell BK381.out 2).trans rfl, (blk_cell BK336.out 0).trans rfl, (blk_cell BK336.out 1).trans rfl, (blk_cell BK336.out 2).trans rfl, (blk_cell BK336.out 3).trans rfl, (blk_cell BK336.out 4).trans rfl, (blk_cell BK336.out 5).trans rfl, (blk_cell BK336.out 6).trans rfl, (blk_cell BK336.out 7).trans rfl, (blk_cell BK336.out 8).trans rfl, (blk_cell BK334.out 0).trans rfl, (blk_cell BK334.out 1).trans rfl, (blk_cell BK334.out 2).trans rfl, (blk_cell BK345.out 0).trans rfl, (blk_cell BK345.out 1).trans rfl, (blk_cell BK345.out 2).trans rfl, (blk_cell BK345.out 3).trans rfl, (blk_cell BK345.out 4).trans rfl⟩ (fun hHeld => ?_); refine with_tabW relievolaw03_SideWithin.tab17 relievolaw03_SideWithin.bits17 (fun HT_ HW_ => ?_)
   generalize w91.drew = w92 at BK334 BK336 BK345 BK381 BK385 HB hHeld ⊢
   refine pure_ (i := 1) (N := some 87) (v := ?_) (a' := ?_) #[false, true, false, false, false, false, false, false, false, false, false, false] rfl rfl (any_of HT_.out (by kernel_rfl)) (fun _ _ _ h => h) (Or.inl ⟨by rfl, ?_⟩) ?_ ?_
   rotate_left
   ·intro w'
    go_simp
    with_reducible rfl
   rotate_left
   ·simp only [Act.put, List.setIfInBounds_toArray, List.set_cons_zero, List.set_cons_succ, i64_w, i32_w]
    rfl
   refine pure_ (i := 6) (N := some 92) (v := ?_) (a' := ?_) #[false, true, false, false, false, false, true, false, false, false, false, false] rfl rfl (any_of HT_.out (by kernel_rfl)) (fun _ _ _ h => h) (Or.inl ⟨by rfl, ?_⟩) ?_ ?_
   rotate_left
   ·intro w'
    go_simp
    with_reducible rfl
   rotate_left
   ·simp only [Act.put, List.setIfInBounds_toArray, List.set_cons_zero, List.set_cons_succ, i64_w, i32_w]
    rfl
   refine pure_ (i := 7) (N := some 93) (v := ?_) (a' := ?_) #[false, true, false, false, false, false, true, true, false, false, false, false] rfl rfl (any_of HT_.out (by kernel_rfl)) (fun _ _ _ h => h) (Or.inl ⟨by rfl, ?_⟩) ?_ ?_
   rotate_left
   ·intro w'
    go_simp
    with_reducible rfl
   rotate_left
   ·simp only [Act.put, List.setIfInBounds_toArray, List.set_cons_zero, List.set_cons_succ, i64_w, i32_w]
    rfl
   refine take_ (i := 0) (N := some 86) (v := ?_) (a' := ?_) #[true, true, false, false, false, false, true, true, false, false, false, false] rfl rfl (take_ofW HT_.out HW_.out (by kernel_rfl)) (fun _ _ _ h => h) (Or.inl ⟨by rfl, ?_⟩) hHeld ?_ ?_
   rotate_left
   ·rintro w' ⟨s0, s1, s2, s3, s4, s5, s6, s7, s8, s9, s10, s11, s12, s13, s14, s15, s16, s17, s18, s19⟩
    go_simp
    with_reducible rfl
   rotate_left
   ·simp only [Act.put, List.setIfInBounds_toArray, List.set_cons_zero, List.set_cons_succ, i64_w, i32_w]
    rfl
   refine take_ (i := 2) (N := some 88) (v := ?_) (a' := ?_) #[true, true, true, false, false, false, true, true, false, false, false, false] rfl rfl (take_ofW HT_.out HW_.out (by kernel_rfl)) (fun _ _ _ h => h) (Or.inl ⟨by rfl, ?_⟩) hHeld ?_ ?_
   rotate_left
   ·rintro w' ⟨s0, s1, s2, s3, s4, s5, s6, s7, s8, s9, s10, s11, s12, s13, s14, s15, s16, s17, s18, s19⟩
    go_simp
    with_reducible rfl
   rotate_left
   ·simp only [Act.put, List.setIfInBounds_toArray, List.set_cons_zero, List.set_cons_succ, i64_w, i32_w]
    rfl
   refine take_ (i := 3) (N := some 89) (v := ?_) (a' := ?_) #[true, true, true, true, false, false, true, true, false, false, false, false] rfl rfl (take_ofW HT_.out HW_.out (by kernel_rfl)) (fun _ _ _ h => h) (Or.inl ⟨by rfl, ?_⟩) hHeld ?_ ?_
   rotate_left
   ·rintro w' ⟨s0, s1, s2, s3, s4, s5, s6, s7, s8, s9, s10, s11, s12, s13, s14, s15, s16, s17, s18, s19⟩
    go_simp
    with_reducible rfl
   rotate_left
   ·simp only [Act.put, List.setIfInBounds_toArray, List.set_cons_zero, List.set_cons_succ, i64_w, i32_w]
    rfl
   refine take_ (i := 8) (N := some 94) (v := ?_) (a' := ?_) #[true, true, true, true, false, false, true, true, true, false, false, false] rfl rfl (take_ofW HT_.out HW_.out (by kernel_rfl)) (fun _ _ _ h => h) (Or.inl ⟨by rfl, ?_⟩) hHeld ?_ ?_
   rotate_left
   ·rintro w' ⟨s0, s1, s2, s3, s4, s5, s6, s7, s8, s9, s10, s11, s12, s13, s14, s15, s16, s17, s18, s19⟩
    go_simp
    with_reducible rfl
   rotate_left
   ·simp only [Act.put, List.setIfInBounds_toArray, List.set_cons_zero, List.set_cons_succ, i64_w, i32_w]
    rfl
   refine join_ (σ := Nat) 1 #[true, true, true, true, true, true, true, true, true, true, true, false] (fun s_ => [(90, .agg #[.int .i64 t386, .int .i64 t387, .int .i64 t388]), (91, .int .i64 t389), (95, .agg #[.int .i64 t390, .int .u64 t391]), (17, .pointer (some ⟨s_, 0, none⟩))]) (fun s_ w' => (w'.cell? ⟨gb381, 0, none⟩ = some (.int .i64 t378) ∧ w'.cell? ⟨gb381, 1, none⟩ = some (.int .i64 t379) ∧ w'.cell? ⟨gb381, 2, none⟩ = some (.int .i64 t380) ∧ w'.cell? ⟨gb336, 0, none⟩ = some (.int .i64 a2_0) ∧ w'.cell? ⟨gb336, 1, none⟩ = some (.int .i64 a2_1) ∧ w'.cell? ⟨gb336, 2, none⟩ = some (.int .i64 a2_2) ∧ w'.cell? ⟨gb336, 3, none⟩ = some (.int .i64 a2_3) ∧ w'.cell? ⟨gb336, 4, none⟩ = some (.int .i64 a2_4) ∧ w'.cell? ⟨gb336, 5, none⟩ = some (.int .i64 a2_5) ∧ w'.cell? ⟨gb336, 6, none⟩ = some (.int .i64 a2_6) ∧ w'.cell? ⟨gb336, 7, none⟩ = some (.int .i64 a2_7) ∧ w'.cell? ⟨gb336, 8, none⟩ = some (.int .i64 a2_8) ∧ w'.cell? ⟨gb334, 0, none⟩ = some (.int .i64 a0_0) ∧ w'.cell? ⟨gb334, 1, none⟩ = some (.int .i64 a0_1) ∧ w'.cell? ⟨gb334, 2, none⟩ = some (.int .i64 a0_2) ∧ w'.cell? ⟨gb345, 0, none⟩ = some (.int .i64 t338) ∧ w'.cell? ⟨gb345, 1, none⟩ = some (.int .i64 t339) ∧ w'.cell? ⟨gb345, 2, none⟩ = some (.bool t340) ∧ w'.cell? ⟨gb345, 3, none⟩ = some (.int .i64 t341) ∧ w'.cell? ⟨gb345, 4, none⟩ = some (.int .i64 t342)) ∧ (w'.heap[gb334]? = some (.cells #[.int .i64 a0_0, .int .i64 a0_1, .int .i64 a0_2] 23 (0, 0))) ∧ (w'.heap[gb336]? = some (.cells #[.int .i64 a2_0, .int .i64 a2_1, .int .i64 a2_2, .int .i64 a2_3, .int .i64 a2_4, .int .i64 a2_5, .int .i64 a2_6, .int .i64 a2_7, .int .i64 a2_8] 25 (0, 0))) ∧ (w'.heap[gb345]? = some (.cells #[.int .i64 t338, .int .i64 t339, .bool t340, .int .i64 t341, .int .i64 t342] 30 (0, 0))) ∧ (w'.heap[gb381]? = some (.cells #[.int .i64 t378, .int .i64 t379, .int .i64 t380] 23 (0, 0))) ∧ (w'.heap[gb385]? = some (.cells #[.int .i64 t383, .int .u64 t384] 46 (0, 0))) ∧ (w'.heap[s_]? = some (.cells #[.int .i64 0, .int .u64 0] 46 (0, 0))) ∧ (w.heap.size ≤ s_) ∧ (gb334 ≠ s_) ∧ (s_ ≠ gb334) ∧ (gb336 ≠ s_) ∧ (s_ ≠ gb336) ∧ (gb345 ≠ s_) ∧ (s_ ≠ gb345) ∧ (gb381 ≠ s_) ∧ (s_ ≠ gb381) ∧ (gb385 ≠ s_) ∧ (s_ ≠ gb385) ∧ (Below w.heap.size w w')) ?_ ?_
   rotate_left
   ·intro hCont
    refine two_ (i := 4) (j := 10) (Ni := some 90) (Nj := some 17) #[true, true, true, true, true, false, true, true, true, false, false, false] #[true, true, true, true, false, false, true, true, true, false, true, false] rfl rfl rfl rfl (two_of HT_.out (by kernel_rfl)) (by decide) (by decide) (fun K hK => ?_) (fun K hK => ?_)
    ·skip
     refine goes_ Try.func23 (by kernel_rfl) rfl #[.agg #[.int .i64 a2_0, .int .i64 a2_1, .int .i64 a2_2], .agg #[.int .i64 a0_0, .int .i64 a0_1, .int .i64 a0_2]] (by rfl) rfl rfl (by (try simp only [List.map_toArray, List.map_cons, List.map_nil]); first | done | rfl | (simp only [List.length_drop, List.length_take]; rfl)) ?_
     with_reducible refine (relievoref02_Sub.calls a2_0 a2_1 a2_2 a0_0 a0_1 a0_2 t386 t387 t388 _ A47.out).mono ?_
     rintro e w93 ⟨rfl, hb⟩
     refine ⟨_, rfl, ?_⟩
     replace BK334 := cB hb BK334
     replace BK336 := cB hb BK336
     replace BK345 := cB hb BK345
     replace BK381 := cB hb BK381
     replace BK385 := cB hb BK385
     replace HB := Aside0.mk (below_step (HB.out) hb)
     (try clear hb)
     (try clear hb2)
     (try clear hk)
     (try clear hi)
     refine hK.out _ _ ⟨(blk_cell BK381.out 0).trans rfl, (blk_cell BK381.out 1).trans rfl, (blk_cell BK381.out 2).trans rfl, (blk_cell BK336.out 0).trans rfl, (blk_cell BK336.out 1).trans rfl, (blk_cell BK336.out 2).trans rfl, (blk_cell BK336.out 3).trans rfl, (blk_cell BK336.out 4).trans rfl, (blk_cell BK336.out 5).trans rfl, (blk_cell BK336.out 6).trans rfl, (blk_cell BK336.out 7).trans rfl, (blk_cell BK336.out 8).trans rfl, (blk_cell BK334.out 0).trans rfl, (blk_cell BK334.out 1).trans rfl, (blk_cell BK334.out 2).trans rfl, (blk_cell BK345.out 0).trans rfl, (blk_cell BK345.out 1).trans rfl, (blk_cell BK345.out 2).trans rfl, (blk_cell BK345.out 3).trans rfl, (blk_cell BK345.out 4).trans rfl⟩ (fun hHeld => ?_)
     clear hK K
     refine norm_ (a' := ?_) ?_ ?_
     rotate_left
     ·show Act.put _ (some 90) _ = _
      simp only [Act.put, List.setIfInBounds_toArray, List.set_cons_zero, List.set_cons_succ, i64_w, i32_w]
      rfl
     refine two_ (i := 5) (j := 10) (Ni := some 91) (Nj := some 17) #[true, true, true, true, true, true, true, true, true, false, false, false] #[true, true, true, true, true, false, true, true, true, false, true, false] rfl rfl rfl rfl (two_of HT_.out (by kernel_rfl)) (by decide) (by decide) (fun K hK => ?_) (fun K hK => ?_)
     ·skip
      refine goes_ Try.func25 (by kernel_rfl) rfl #[.agg #[.int .i64 t378, .int .i64 t379, .int .i64 t380], .agg #[.int .i64 t386, .int .i64 t387, .int .i64 t388]] (by rfl) rfl rfl (by (try simp only [List.map_toArray, List.map_cons, List.map_nil]); first | done | rfl | (simp only [List.length_drop, List.length_take]; rfl)) ?_
      with_reducible refine (relievoref02_Dot.calls t378 t379 t380 t386 t387 t388 t389 _ A48.out).mono ?_
      rintro e w94 ⟨rfl, hb⟩
      refine ⟨_, rfl, ?_⟩
      replace BK334 := cB hb BK334
      replace BK336 := cB hb BK336
      replace BK345 := cB hb BK345
      replace BK381 := cB hb BK381
      replace BK385 := cB hb BK385
      replace HB := Aside0.mk (below_step (HB.out) hb)
      (try clear hb)
      (try clear hb2)
      (try clear hk)
      (try clear hi)
      refine hK.out _ _ ⟨(blk_cell BK381.out 0).trans rfl, (blk_cell BK381.out 1).trans rfl, (blk_cell BK381.out 2).trans rfl, (blk_cell BK336.out 0).trans rfl, (blk_cell BK336.out 1).trans rfl, (blk_cell BK336.out 2).trans rfl, (blk_cell BK336.out 3).trans rfl, (blk_cell BK336.out 4).trans rfl, (blk_cell BK336.out 5).trans rfl, (blk_cell BK336.out 6).trans rfl, (blk_cell BK336.out 7).trans rfl, (blk_cell BK336.out 8).trans rfl, (blk_cell BK334.out 0).trans rfl, (blk_cell BK334.out 1).trans rfl, (blk_cell BK334.out 2).trans rfl, (blk_cell BK345.out 0).trans rfl, (blk_cell BK345.out 1).trans rfl, (blk_cell BK345.out 2).trans rfl, (blk_cell BK345.out 3).trans rfl, (blk_cell BK345.out 4).trans rfl⟩ (fun hHeld => ?_)
      clear hK K
      refine norm_ (a' := ?_) ?_ ?_
      rotate_left
      ·show Act.put _ (some 91) _ = _
       simp only [Act.put, List.setIfInBounds_toArray, List.set_cons_zero, List.set_cons_succ, i64_w, i32_w]
       rfl
      refine two_ (i := 9) (j := 10) (Ni := some 95) (Nj := some 17) #[true, true, true, true, true, true, true, true, true, true, false, false] #[true, true, true, true, true, true, true, true, true, false, true, false] rfl rfl rfl rfl (two_of HT_.out (by kernel_rfl)) (by decide) (by decide) (fun K hK => ?_) (fun K hK => ?_)
      ·skip
       refine goes_ Try.func28 (by kernel_rfl) rfl #[.int .i64 t389, .int .i64 t339] (by rfl) rfl rfl (by (try simp only [List.map_toArray, List.map_cons, List.map_nil]); first | done | rfl | (simp only [List.length_drop, List.length_take]; rfl)) ?_
       with_reducible refine (relievoref01_Mul.calls t389 t339 t390 t391 _ A49.out).mono ?_
       rintro e w95 ⟨rfl, hb⟩
       refine ⟨_, rfl, ?_⟩
       replace BK334 := cB hb BK334
       replace BK336 := cB hb BK336
       replace BK345 := cB hb BK345
       replace BK381 := cB hb BK381
       replace BK385 := cB hb BK385
       replace HB := Aside0.mk (below_step (HB.out) hb)
       (try clear hb)
       (try clear hb2)
       (try clear hk)
       (try clear hi)
       refine hK.out _ _ ⟨(blk_cell BK381.out 0).trans rfl, (blk_cell BK381.out 1).trans rfl, (blk_cell BK381.out 2).trans rfl, (blk_cell BK336.out 0).trans rfl, (blk_cell BK336.out 1).trans rfl, (blk_cell BK336.out 2).trans rfl, (blk_cell BK336.out 3).trans rfl, (blk_cell BK336.out 4).trans rfl, (blk_cell BK336.out 5).trans rfl, (blk_cell BK336.out 6).trans rfl, (blk_cell BK336.out 7).trans rfl, (blk_cell BK336.out 8).trans rfl, (blk_cell BK334.out 0).trans rfl, (blk_cell BK334.out 1).trans rfl, (blk_cell BK334.out 2).trans rfl, (blk_cell BK345.out 0).trans rfl, (blk_cell BK345.out 1).trans rfl, (blk_cell BK345.out 2).trans rfl, (blk_cell BK345.out 3).trans rfl, (blk_cell BK345.out 4).trans rfl⟩ (fun hHeld => ?_)
       clear hK K
       refine norm_ (a' := ?_) ?_ ?_
       rotate_left
       ·show Act.put _ (some 95) _ = _
        simp only [Act.put, List.setIfInBounds_toArray, List.set_cons_zero, List.set_cons_succ, i64_w, i32_w]
        rfl
       refine one_ (i := 10) (N := some 17) #[true, true, true, true, true, true, true, true, true, true, true, false] rfl rfl (one_of HT_.out (by kernel_rfl)) (by decide) (fun K hK => ?_)
       refine box_step ?hg (N := 17) ?hd (cs := #[.int .i64 0, .int .u64 0]) (t := 46) ?hr ?_; (case hd => rfl); (case hg => rfl); (case hr => first | (go_simp; done) | (go_simp; rfl))
       intro gb392 hg w96 hbox hb
       have BK392 := Aside0.mk (hbox)
       have GE392 := Aside0.mk (bG hg (HB.out))
       have NB334_392 := cN hg BK334
       have NB392_334 := cM hg BK334
       have NB336_392 := cN hg BK336
       have NB392_336 := cM hg BK336
       have NB345_392 := cN hg BK345
       have NB392_345 := cM hg BK345
       have NB381_392 := cN hg BK381
       have NB392_381 := cM hg BK381
       have NB385_392 := cN hg BK385
       have NB392_385 := cM hg BK385
       replace BK334 := cB hb BK334
       replace BK336 := cB hb BK336
       replace BK345 := cB hb BK345
       replace BK381 := cB hb BK381
       replace BK385 := cB hb BK385
       replace HB := Aside0.mk (below_step (HB.out) hb)
       clear hb hbox hg
       refine hK.out _ _ ⟨(blk_cell BK381.out 0).trans rfl, (blk_cell BK381.out 1).trans rfl, (blk_cell BK381.out 2).trans rfl, (blk_cell BK336.out 0).trans rfl, (blk_cell BK336.out 1).trans rfl, (blk_cell BK336.out 2).trans rfl, (blk_cell BK336.out 3).trans rfl, (blk_cell BK336.out 4).trans rfl, (blk_cell BK336.out 5).trans rfl, (blk_cell BK336.out 6).trans rfl, (blk_cell BK336.out 7).trans rfl, (blk_cell BK336.out 8).trans rfl, (blk_cell BK334.out 0).trans rfl, (blk_cell BK334.out 1).trans rfl, (blk_cell BK334.out 2).trans rfl, (blk_cell BK345.out 0).trans rfl, (blk_cell BK345.out 1).trans rfl, (blk_cell BK345.out 2).trans rfl, (blk_cell BK345.out 3).trans rfl, (blk_cell BK345.out 4).trans rfl⟩ (fun hHeld => ?_)
       clear hK K
       refine norm_ (a' := ?_) ?_ ?_
       rotate_left
       ·show Act.put _ (some 17) _ = _
        simp only [Act.put, List.setIfInBounds_toArray, List.set_cons_zero, List.set_cons_succ, i64_w, i32_w]
        rfl
       exact norm_ (by simp only [putAll, Act.put, List.setIfInBounds_toArray, List.set_cons_zero, List.set_cons_succ]) (hCont (gb392) _ ⟨hHeld, (BK334.out), (BK336.out), (BK345.out), (BK381.out), (BK385.out), (BK392.out), GE392.out, NB334_392.out, NB392_334.out, NB336_392.out, NB392_336.out, NB345_392.out, NB392_345.out, NB381_392.out, NB392_381.out, NB385_392.out, NB392_385.out, (HB.out)⟩)
      skip
      refine box_step ?hg (N := 17) ?hd (cs := #[.int .i64 0, .int .u64 0]) (t := 46) ?hr ?_; (case hd => rfl); (case hg => rfl); (case hr => first | (go_simp; done) | (go_simp; rfl))
      intro gb392 hg w95 hbox hb
      have BK392 := Aside0.mk (hbox)
      have GE392 := Aside0.mk (bG hg (HB.out))
      have NB334_392 := cN hg BK334
      have NB392_334 := cM hg BK334
      have NB336_392 := cN hg BK336
      have NB392_336 := cM hg BK336
      have NB345_392 := cN hg BK345
      have NB392_345 := cM hg BK345
      have NB381_392 := cN hg BK381
      have NB392_381 := cM hg BK381
      have NB385_392 := cN hg BK385
      have NB392_385 := cM hg BK385
      replace BK334 := cB hb BK334
      replace BK336 := cB hb BK336
      replace BK345 := cB hb BK345
      replace BK381 := cB hb BK381
      replace BK385 := cB hb BK385
      replace HB := Aside0.mk (below_step (HB.out) hb)
      clear hb hbox hg
      refine hK.out _ _ ⟨(blk_cell BK381.out 0).trans rfl, (blk_cell BK381.out 1).trans rfl, (blk_cell BK381.out 2).trans rfl, (blk_cell BK336.out 0).trans rfl, (blk_cell BK336.out 1).trans rfl, (blk_cell BK336.out 2).trans rfl, (blk_cell BK336.out 3).trans rfl, (blk_cell BK336.out 4).trans rfl, (blk_cell BK336.out 5).trans rfl, (blk_cell BK336.out 6).trans rfl, (blk_cell BK336.out 7).trans rfl, (blk_cell BK336.out 8).trans rfl, (blk_cell BK334.out 0).trans rfl, (blk_cell BK334.out 1).trans rfl, (blk_cell BK334.out 2).trans rfl, (blk_cell BK345.out 0).trans rfl, (blk_cell BK345.out 1).trans rfl, (blk_cell BK345.out 2).trans rfl, (blk_cell BK345.out 3).trans rfl, (blk_cell BK345.out 4).trans rfl⟩ (fun hHeld => ?_)
      clear hK K
      refine norm_ (a' := ?_) ?_ ?_
      rotate_left
      ·show Act.put _ (some 17) _ = _
       simp only [Act.put, List.setIfInBounds_toArray, List.set_cons_zero, List.set_cons_succ, i64_w, i32_w]
       rfl
      refine one_ (i := 9) (N := some 95) #[true, true, true, true, true, true, true, true, true, true, true, false] rfl rfl (one_of HT_.out (by kernel_rfl)) (by decide) (fun K hK => ?_)
      refine goes_ Try.func28 (by kernel_rfl) rfl #[.int .i64 t389, .int .i64 t339] (by rfl) rfl rfl (by (try simp only [List.map_toArray, List.map_cons, List.map_nil]); first | done | rfl | (simp only [List.length_drop, List.length_take]; rfl)) ?_
      with_reducible refine (relievoref01_Mul.calls t389 t339 t390 t391 _ A49.out).mono ?_
      rintro e w96 ⟨rfl, hb⟩
      refine ⟨_, rfl, ?_⟩
      replace BK334 := cB hb BK334
      replace BK336 := cB hb BK336
      replace BK345 := cB hb BK345
      replace BK381 := cB hb BK381
      replace BK385 := cB hb BK385
      replace BK392 := cB hb BK392
      replace HB := Aside0.mk (below_step (HB.out) hb)
      (try clear hb)
      (try clear hb2)
      (try clear hk)
      (try clear hi)
      refine hK.out _ _ ⟨(blk_cell BK381.out 0).trans rfl, (blk_cell BK381.out 1).trans rfl, (blk_cell BK381.out 2).trans rfl, (blk_cell BK336.out 0).trans rfl, (blk_cell BK336.out 1).trans rfl, (blk_cell BK336.out 2).trans rfl, (blk_cell BK336.out 3).trans rfl, (blk_cell BK336.out 4).trans rfl, (blk_cell BK336.out 5).trans rfl, (blk_cell BK336.out 6).trans rfl, (blk_cell BK336.out 7).trans rfl, (blk_cell BK336.out 8).trans rfl, (blk_cell BK334.out 0).trans rfl, (blk_cell BK334.out 1).trans rfl, (blk_cell BK334.out 2).trans rfl, (blk_cell BK345.out 0).trans rfl, (blk_cell BK345.out 1).trans rfl, (blk_cell BK345.out 2).trans rfl, (blk_cell BK345.out 3).trans rfl, (blk_cell BK345.out 4).trans rfl⟩ (fun hHeld => ?_)
      clear hK K
      refine norm_ (a' := ?_) ?_ ?_
      rotate_left
      ·show Act.put _ (some 95) _ = _
       simp only [Act.put, List.setIfInBounds_toArray, List.set_cons_zero, List.set_cons_succ, i64_w, i32_w]
       rfl
      exact norm_ (by simp only [putAll, Act.put, List.setIfInBounds_toArray, List.set_cons_zero, List.set_cons_succ]) (hCont (gb392) _ ⟨hHeld, (BK334.out), (BK336.out), (BK345.out), (BK381.out), (BK385.out), (BK392.out), GE392.out, NB334_392.out, NB392_334.out, NB336_392.out, NB392_336.out, NB345_392.out, NB392_345.out, NB381_392.out, NB392_381.out, NB385_392.out, NB392_385.out, (HB.out)⟩)
     skip
     refine box_step ?hg (N := 17) ?hd (cs := #[.int .i64 0, .int .u64 0]) (t := 46) ?hr ?_; (case hd => rfl); (case hg => rfl); (case hr => first | (go_simp; done) | (go_simp; rfl))
     intro gb392 hg w94 hbox hb
     have BK392 := Aside0.mk (hbox)
     have GE392 := Aside0.mk (bG hg (HB.out))
     have NB334_392 := cN hg BK334
     have NB392_334 := cM hg BK334
     have NB336_392 := cN hg BK336
     have NB392_336 := cM hg BK336
     have NB345_392 := cN hg BK345
     have NB392_345 := cM hg BK345
     have NB381_392 := cN hg BK381
     have NB392_381 := cM hg BK381
     have NB385_392 := cN hg BK385
     have NB392_385 := cM hg BK385
     replace BK334 := cB hb BK334
     replace BK336 := cB hb BK336
     replace BK345 := cB hb BK345
     replace BK381 := cB hb BK381
     replace BK385 := cB hb BK385
     replace HB := Aside0.mk (below_step (HB.out) hb)
     clear hb hbox hg
     refine hK.out _ _ ⟨(blk_cell BK381.out 0).trans rfl, (blk_cell BK381.out 1).trans rfl, (blk_cell BK381.out 2).trans rfl, (blk_cell BK336.out 0).trans rfl, (blk_cell BK336.out 1).trans rfl, (blk_cell BK336.out 2).trans rfl, (blk_cell BK336.out 3).trans rfl, (blk_cell BK336.out 4).trans rfl, (blk_cell BK336.out 5).trans rfl, (blk_cell BK336.out 6).trans rfl, (blk_cell BK336.out 7).trans rfl, (blk_cell BK336.out 8).trans rfl, (blk_cell BK334.out 0).trans rfl, (blk_cell BK334.out 1).trans rfl, (blk_cell BK334.out 2).trans rfl, (blk_cell BK345.out 0).trans rfl, (blk_cell BK345.out 1).trans rfl, (blk_cell BK345.out 2).trans rfl, (blk_cell BK345.out 3).trans rfl, (blk_cell BK345.out 4).trans rfl⟩ (fun hHeld => ?_)
     clear hK K
     refine norm_ (a' := ?_) ?_ ?_
     rotate_left
     ·show Act.put _ (some 17) _ = _
      simp only [Act.put, List.setIfInBounds_toArray, List.set_cons_zero, List.set_cons_succ, i64_w, i32_w]
      rfl
     refine one_ (i := 5) (N := some 91) #[true, true, true, true, true, true, true, true, true, false, true, false] rfl rfl (one_of HT_.out (by kernel_rfl)) (by decide) (fun K hK => ?_)
     refine goes_ Try.func25 (by kernel_rfl) rfl #[.agg #[.int .i64 t378, .int .i64 t379, .int .i64 t380], .agg #[.int .i64 t386, .int .i64 t387, .int .i64 t388]] (by rfl) rfl rfl (by (try simp only [List.map_toArray, List.map_cons, List.map_nil]); first | done | rfl | (simp only [List.length_drop, List.length_take]; rfl)) ?_
     with_reducible refine (relievoref02_Dot.calls t378 t379 t380 t386 t387 t388 t389 _ A48.out).mono ?_
     rintro e w95 ⟨rfl, hb⟩
     refine ⟨_, rfl, ?_⟩
     replace BK334 := cB hb BK334
     replace BK336 := cB hb BK336
     replace BK345 := cB hb BK345
     replace BK381 := cB hb BK381
     replace BK385 := cB hb BK385
     replace BK392 := cB hb BK392
     replace HB := Aside0.mk (below_step (HB.out) hb)
     (try clear hb)
     (try clear hb2)
     (try clear hk)
     (try clear hi)
     refine hK.out _ _ ⟨(blk_cell BK381.out 0).trans rfl, (blk_cell BK381.out 1).trans rfl, (blk_cell BK381.out 2).trans rfl, (blk_cell BK336.out 0).trans rfl, (blk_cell BK336.out 1).trans rfl, (blk_cell BK336.out 2).trans rfl, (blk_cell BK336.out 3).trans rfl, (blk_cell BK336.out 4).trans rfl, (blk_cell BK336.out 5).trans rfl, (blk_cell BK336.out 6).trans rfl, (blk_cell BK336.out 7).trans rfl, (blk_cell BK336.out 8).trans rfl, (blk_cell BK334.out 0).trans rfl, (blk_cell BK334.out 1).trans rfl, (blk_cell BK334.out 2).trans rfl, (blk_cell BK345.out 0).trans rfl, (blk_cell BK345.out 1).trans rfl, (blk_cell BK345.out 2).trans rfl, (blk_cell BK345.out 3).trans rfl, (blk_cell BK345.out 4).trans rfl⟩ (fun hHeld => ?_)
     clear hK K
     refine norm_ (a' := ?_) ?_ ?_
     rotate_left
     ·show Act.put _ (some 91) _ = _
      simp only [Act.put, List.setIfInBounds_toArray, List.set_cons_zero, List.set_cons_succ, i64_w, i32_w]
      rfl
     refine one_ (i := 9) (N := some 95) #[true, true, true, true, true, true, true, true, true, true, true, false] rfl rfl (one_of HT_.out (by kernel_rfl)) (by decide) (fun K hK => ?_)
     refine goes_ Try.func28 (by kernel_rfl) rfl #[.int .i64 t389, .int .i64 t339] (by rfl) rfl rfl (by (try simp only [List.map_toArray, List.map_cons, List.map_nil]); first | done | rfl | (simp only [List.length_drop, List.length_take]; rfl)) ?_
     with_reducible refine (relievoref01_Mul.calls t389 t339 t390 t391 _ A49.out).mono ?_
     rintro e w96 ⟨rfl, hb⟩
     refine ⟨_, rfl, ?_⟩
     replace BK334 := cB hb BK334
     replace BK336 := cB hb BK336
     replace BK345 := cB hb BK345
     replace BK381 := cB hb BK381
     replace BK385 := cB hb BK385
     replace BK392 := cB hb BK392
     replace HB := Aside0.mk (below_step (HB.out) hb)
     (try clear hb)
     (try clear hb2)
     (try clear hk)
     (try clear hi)
     refine hK.out _ _ ⟨(blk_cell BK381.out 0).trans rfl, (blk_cell BK381.out 1).trans rfl, (blk_cell BK381.out 2).trans rfl, (blk_cell BK336.out 0).trans rfl, (blk_cell BK336.out 1).trans rfl, (blk_cell BK336.out 2).trans rfl, (blk_cell BK336.out 3).trans rfl, (blk_cell BK336.out 4).trans rfl, (blk_cell BK336.out 5).trans rfl, (blk_cell BK336.out 6).trans rfl, (blk_cell BK336.out 7).trans rfl, (blk_cell BK336.out 8).trans rfl, (blk_cell BK334.out 0).trans rfl, (blk_cell BK334.out 1).trans rfl, (blk_cell BK334.out 2).trans rfl, (blk_cell BK345.out 0).trans rfl, (blk_cell BK345.out 1).trans rfl, (blk_cell BK345.out 2).trans rfl, (blk_cell BK345.out 3).trans rfl, (blk_cell BK345.out 4).trans rfl⟩ (fun hHeld => ?_)
     clear hK K
     refine norm_ (a' := ?_) ?_ ?_
     rotate_left
     ·show Act.put _ (some 95) _ = _
      simp only [Act.put, List.setIfInBounds_toArray, List.set_cons_zero, List.set_cons_succ, i64_w, i32_w]
      rfl
     exact norm_ (by simp only [putAll, Act.put, List.setIfInBounds_toArray, List.set_cons_zero, List.set_cons_succ]) (hCont (gb392) _ ⟨hHeld, (BK334.out), (BK336.out), (BK345.out), (BK381.out), (BK385.out), (BK392.out), GE392.out, NB334_392.out, NB392_334.out, NB336_392.out, NB392_336.out, NB345_392.out, NB392_345.out, NB381_392.out, NB392_381.out, NB385_392.out, NB392_385.out, (HB.out)⟩)
    skip
    refine box_step ?hg (N := 17) ?hd (cs := #[.int .i64 0, .int .u64 0]) (t := 46) ?hr ?_; (case hd => rfl); (case hg => rfl); (case hr => first | (go_simp; done) | (go_simp; rfl))
    intro gb392 hg w93 hbox hb
    have BK392 := Aside0.mk (hbox)
    have GE392 := Aside0.mk (bG hg (HB.out))
    have NB334_392 := cN hg BK334
    have NB392_334 := cM hg BK334
    have NB336_392 := cN hg BK336
    have NB392_336 := cM hg BK336
    have NB345_392 := cN hg BK345
    have NB392_345 := cM hg BK345
    have NB381_392 := cN hg BK381
    have NB392_381 := cM hg BK381
    have NB385_392 := cN hg BK385
    have NB392_385 := cM hg BK385
    replace BK334 := cB hb BK334
    replace BK336 := cB hb BK336
    replace BK345 := cB hb BK345
    replace BK381 := cB hb BK381
    replace BK385 := cB hb BK385
    replace HB := Aside0.mk (below_step (HB.out) hb)
    clear hb hbox hg
    refine hK.out _ _ ⟨(blk_cell BK381.out 0).trans rfl, (blk_cell BK381.out 1).trans rfl, (blk_cell BK381.out 2).trans rfl, (blk_cell BK336.out 0).trans rfl, (blk_cell BK336.out 1).trans rfl, (blk_cell BK336.out 2).trans rfl, (blk_cell BK336.out 3).trans rfl, (blk_cell BK336.out 4).trans rfl, (blk_cell BK336.out 5).trans rfl, (blk_cell BK336.out 6).trans rfl, (blk_cell BK336.out 7).trans rfl, (blk_cell BK336.out 8).trans rfl, (blk_cell BK334.out 0).trans rfl, (blk_cell BK334.out 1).trans rfl, (blk_cell BK334.out 2).trans rfl, (blk_cell BK345.out 0).trans rfl, (blk_cell BK345.out 1).trans rfl, (blk_cell BK345.out 2).trans rfl, (blk_cell BK345.out 3).trans rfl, (blk_cell BK345.out 4).trans rfl⟩ (fun hHeld => ?_)
    clear hK K
    refine norm_ (a' := ?_) ?_ ?_
    rotate_left
    ·show Act.put _ (some 17) _ = _
     simp only [Act.put, List.setIfInBounds_toArray, List.set_cons_zero, List.set_cons_succ, i64_w, i32_w]
     rfl
    refine one_ (i := 4) (N := some 90) #[true, true, true, true, true, false, true, true, true, false, true, false] rfl rfl (one_of HT_.out (by kernel_rfl)) (by decide) (fun K hK => ?_)
    refine goes_ Try.func23 (by kernel_rfl) rfl #[.agg #[.int .i64 a2_0, .int .i64 a2_1, .int .i64 a2_2], .agg #[.int .i64 a0_0, .int .i64 a0_1, .int .i64 a0_2]] (by rfl) rfl rfl (by (try simp only [List.map_toArray, List.map_cons, List.map_nil]); first | done | rfl | (simp only [List.length_drop, List.length_take]; rfl)) ?_
    with_reducible refine (relievoref02_Sub.calls a2_0 a2_1 a2_2 a0_0 a0_1 a0_2 t386 t387 t388 _ A47.out).mono ?_
    rintro e w94 ⟨rfl, hb⟩
    refine ⟨_, rfl, ?_⟩
    replace BK334 := cB hb BK334
    replace BK336 := cB hb BK336
    replace BK345 := cB hb BK345
    replace BK381 := cB hb BK381
    replace BK385 := cB hb BK385
    replace BK392 := cB hb BK392
    replace HB := Aside0.mk (below_step (HB.out) hb)
    (try clear hb)
    (try clear hb2)
    (try clear hk)
    (try clear hi)
    refine hK.out _ _ ⟨(blk_cell BK381.out 0).trans rfl, (blk_cell BK381.out 1).trans rfl, (blk_cell BK381.out 2).trans rfl, (blk_cell BK336.out 0).trans rfl, (blk_cell BK336.out 1).trans rfl, (blk_cell BK336.out 2).trans rfl, (blk_cell BK336.out 3).trans rfl, (blk_cell BK336.out 4).trans rfl, (blk_cell BK336.out 5).trans rfl, (blk_cell BK336.out 6).trans rfl, (blk_cell BK336.out 7).trans rfl, (blk_cell BK336.out 8).trans rfl, (blk_cell BK334.out 0).trans rfl, (blk_cell BK334.out 1).trans rfl, (blk_cell BK334.out 2).trans rfl, (blk_cell BK345.out 0).trans rfl, (blk_cell BK345.out 1).trans rfl, (blk_cell BK345.out 2).trans rfl, (blk_cell BK345.out 3).trans rfl, (blk_cell BK345.out 4).trans rfl⟩ (fun hHeld => ?_)
    clear hK K
    refine norm_ (a' := ?_) ?_ ?_
    rotate_left
    ·show Act.put _ (some 90) _ = _
     simp only [Act.put, List.setIfInBounds_toArray, List.set_cons_zero, List.set_cons_succ, i64_w, i32_w]
     rfl
    refine one_ (i := 5) (N := some 91) #[true, true, true, true, true, true, true, true, true, false, true, false] rfl rfl (one_of HT_.out (by kernel_rfl)) (by decide) (fun K hK => ?_)
    refine goes_ Try.func25 (by kernel_rfl) rfl #[.agg #[.int .i64 t378, .int .i64 t379, .int .i64 t380], .agg #[.int .i64 t386, .int .i64 t387, .int .i64 t388]] (by rfl) rfl rfl (by (try simp only [List.map_toArray, List.map_cons, List.map_nil]); first | done | rfl | (simp only [List.length_drop, List.length_take]; rfl)) ?_
    with_reducible refine (relievoref02_Dot.calls t378 t379 t380 t386 t387 t388 t389 _ A48.out).mono ?_
    rintro e w95 ⟨rfl, hb⟩
    refine ⟨_, rfl, ?_⟩
    replace BK334 := cB hb BK334
    replace BK336 := cB hb BK336
    replace BK345 := cB hb BK345
    replace BK381 := cB hb BK381
    replace BK385 := cB hb BK385
    replace BK392 := cB hb BK392
    replace HB := Aside0.mk (below_step (HB.out) hb)
    (try clear hb)
    (try clear hb2)
    (try clear hk)
    (try clear hi)
    refine hK.out _ _ ⟨(blk_cell BK381.out 0).trans rfl, (blk_cell BK381.out 1).trans rfl, (blk_cell BK381.out 2).trans rfl, (blk_cell BK336.out 0).trans rfl, (blk_cell BK336.out 1).trans rfl, (blk_cell BK336.out 2).trans rfl, (blk_cell BK336.out 3).trans rfl, (blk_cell BK336.out 4).trans rfl, (blk_cell BK336.out 5).trans rfl, (blk_cell BK336.out 6).trans rfl, (blk_cell BK336.out 7).trans rfl, (blk_cell BK336.out 8).trans rfl, (blk_cell BK334.out 0).trans rfl, (blk_cell BK334.out 1).trans rfl, (blk_cell BK334.out 2).trans rfl, (blk_cell BK345.out 0).trans rfl, (blk_cell BK345.out 1).trans rfl, (blk_cell BK345.out 2).trans rfl, (blk_cell BK345.out 3).trans rfl, (blk_cell BK345.out 4).trans rfl⟩ (fun hHeld => ?_)
    clear hK K
    refine norm_ (a' := ?_) ?_ ?_
    rotate_left
    ·show Act.put _ (some 91) _ = _
     simp only [Act.put, List.setIfInBounds_toArray, List.set_cons_zero, List.set_cons_succ, i64_w, i32_w]
     rfl
    refine one_ (i := 9) (N := some 95) #[true, true, true, true, true, true, true, true, true, true, true, false] rfl rfl (one_of HT_.out (by kernel_rfl)) (by decide) (fun K hK => ?_)
    refine goes_ Try.func28 (by kernel_rfl) rfl #[.int .i64 t389, .int .i64 t339] (by rfl) rfl rfl (by (try simp only [List.map_toArray, List.map_cons, List.map_nil]); first | done | rfl | (simp only [List.length_drop, List.length_take]; rfl)) ?_
    with_reducible refine (relievoref01_Mul.calls t389 t339 t390 t391 _ A49.out).mono ?_
    rintro e w96 ⟨rfl, hb⟩
    refine ⟨_, rfl, ?_⟩
    replace BK334 := cB hb BK334
    replace BK336 := cB hb BK336
    replace BK345 := cB hb BK345
    replace BK381 := cB hb BK381
    replace BK385 := cB hb BK385
    replace BK392 := cB hb BK392
    replace HB := Aside0.mk (below_step (HB.out) hb)
    (try clear hb)
    (try clear hb2)
    (try clear hk)
    (try clear hi)
    refine hK.out _ _ ⟨(blk_cell BK381.out 0).trans rfl, (blk_cell BK381.out 1).trans rfl, (blk_cell BK381.out 2).trans rfl, (blk_cell BK336.out 0).trans rfl, (blk_cell BK336.out 1).trans rfl, (blk_cell BK336.out 2).trans rfl, (blk_cell BK336.out 3).trans rfl, (blk_cell BK336.out 4).trans rfl, (blk_cell BK336.out 5).trans rfl, (blk_cell BK336.out 6).trans rfl, (blk_cell BK336.out 7).trans rfl, (blk_cell BK336.out 8).trans rfl, (blk_cell BK334.out 0).trans rfl, (blk_cell BK334.out 1).trans rfl, (blk_cell BK334.out 2).trans rfl, (blk_cell BK345.out 0).trans rfl, (blk_cell BK345.out 1).trans rfl, (blk_cell BK345.out 2).trans rfl, (blk_cell BK345.out 3).trans rfl, (blk_cell BK345.out 4).trans rfl⟩ (fun hHeld => ?_)
    clear hK K
    refine norm_ (a' := ?_) ?_ ?_
    rotate_left
    ·show Act.put _ (some 95) _ = _
     simp only [Act.put, List.setIfInBounds_toArray, List.set_cons_zero, List.set_cons_succ, i64_w, i32_w]
     rfl
    exact norm_ (by simp only [putAll, Act.put, List.setIfInBounds_toArray, List.set_cons_zero, List.set_cons_succ]) (hCont (gb392) _ ⟨hHeld, (BK334.out), (BK336.out), (BK345.out), (BK381.out), (BK385.out), (BK392.out), GE392.out, NB334_392.out, NB392_334.out, NB336_392.out, NB392_336.out, NB345_392.out, NB392_345.out, NB381_392.out, NB392_381.out, NB385_392.out, NB392_385.out, (HB.out)⟩)
   rintro gb392 w97 ⟨hS_, h0_, h1_, h2_, h3_, h4_, h5_, h6_, h7_, h8_, h9_, h10_, h11_, h12_, h13_, h14_, h15_, h16_, h17_⟩
   have n0_ : Aside0 (w97.heap[gb334]? = some (.cells #[.int .i64 a0_0, .int .i64 a0_1, .int .i64 a0_2] 23 (0, 0))) := ⟨h0_⟩
   have n1_ : Aside0 (w97.heap[gb336]? = some (.cells #[.int .i64 a2_0, .int .i64 a2_1, .int .i64 a2_2, .int .i64 a2_3, .int .i64 a2_4, .int .i64 a2_5, .int .i64 a2_6, .int .i64 a2_7, .int .i64 a2_8] 25 (0, 0))) := ⟨h1_⟩
   have n2_ : Aside0 (w97.heap[gb345]? = some (.cells #[.int .i64 t338, .int .i64 t339, .bool t340, .int .i64 t341, .int .i64 t342] 30 (0, 0))) := ⟨h2_⟩
   have n3_ : Aside0 (w97.heap[gb381]? = some (.cells #[.int .i64 t378, .int .i64 t379, .int .i64 t380] 23 (0, 0))) := ⟨h3_⟩
   have n4_ : Aside0 (w97.heap[gb385]? = some (.cells #[.int .i64 t383, .int .u64 t384] 46 (0, 0))) := ⟨h4_⟩
   have n5_ : Aside0 (w97.heap[gb392]? = some (.cells #[.int .i64 0, .int .u64 0] 46 (0, 0))) := ⟨h5_⟩
   have GE392 : Aside0 (w.heap.size ≤ gb392) := ⟨h6_⟩
   have NB334_392 : Aside0 (gb334 ≠ gb392) := ⟨h7_⟩
   have NB392_334 : Aside0 (gb392 ≠ gb334) := ⟨h8_⟩
   have NB336_392 : Aside0 (gb336 ≠ gb392) := ⟨h9_⟩
   have NB392_336 : Aside0 (gb392 ≠ gb336) := ⟨h10_⟩
   have NB345_392 : Aside0 (gb345 ≠ gb392) := ⟨h11_⟩
   have NB392_345 : Aside0 (gb392 ≠ gb345) := ⟨h12_⟩
   have NB381_392 : Aside0 (gb381 ≠ gb392) := ⟨h13_⟩
   have NB392_381 : Aside0 (gb392 ≠ gb381) := ⟨h14_⟩
   have NB385_392 : Aside0 (gb385 ≠ gb392) := ⟨h15_⟩
   have NB392_385 : Aside0 (gb392 ≠ gb385) := ⟨h16_⟩
   have n17_ : Aside0 (Below w.heap.size w w97) := ⟨h17_⟩
   clear BK334
   clear BK336
   clear BK345
   clear BK381
   clear BK385
   clear HB
   clear h0_ h1_ h2_ h3_ h4_ h5_ h6_ h7_ h8_ h9_ h10_ h11_ h12_ h13_ h14_ h15_ h16_ h17_
   have BK334 := n0_
   have BK336 := n1_
   have BK345 := n2_
   have BK381 := n3_
   have BK385 := n4_
   have BK392 := n5_
   have HB := n17_
   clear n0_ n1_ n2_ n3_ n4_ n5_ n17_
   have hHeld : w97.cell? ⟨gb381, 0, none⟩ = some (.int .i64 t378) ∧ w97.cell? ⟨gb381, 1, none⟩ = some (.int .i64 t379) ∧ w97.cell? ⟨gb381, 2, none⟩ = some (.int .i64 t380) ∧ w97.cell? ⟨gb336, 0, none⟩ = some (.int .i64 a2_0) ∧ w97.cell? ⟨gb336, 1, none⟩ = some (.int .i64 a2_1) ∧ w97.cell? ⟨gb336, 2, none⟩ = some (.int .i64 a2_2) ∧ w97.cell? ⟨gb336, 3, none⟩ = some (.int .i64 a2_3) ∧ w97.cell? ⟨gb336, 4, none⟩ = some (.int .i64 a2_4) ∧ w97.cell? ⟨gb336, 5, none⟩ = some (.int .i64 a2_5) ∧ w97.cell? ⟨gb336, 6, none⟩ = some (.int .i64 a2_6) ∧ w97.cell? ⟨gb336, 7, none⟩ = some (.int .i64 a2_7) ∧ w97.cell? ⟨gb336, 8, none⟩ = some (.int .i64 a2_8) ∧ w97.cell? ⟨gb334, 0, none⟩ = some (.int .i64 a0_0) ∧ w97.cell? ⟨gb334, 1, none⟩ = some (.int .i64 a0_1) ∧ w97.cell? ⟨gb334, 2, none⟩ = some (.int .i64 a0_2) ∧ w97.cell? ⟨gb345, 0, none⟩ = some (.int .i64 t338) ∧ w97.cell? ⟨gb345, 1, none⟩ = some (.int .i64 t339) ∧ w97.cell? ⟨gb345, 2, none⟩ = some (.bool t340) ∧ w97.cell? ⟨gb345, 3, none⟩ = some (.int .i64 t341) ∧ w97.cell? ⟨gb345, 4, none⟩ = some (.int .i64 t342) := hS_
   refine norm_ (a' := ?_) ?_ ?_
   rotate_left
   ·simp only [putAll, Act.put, List.setIfInBounds_toArray, List.set_cons_zero, List.set_cons_succ]
    rfl
   refine one_ (i := 11) (N := none) #[true, true, true, true, true, true, true, true, true, true, true, true] rfl rfl (one_of HT_.out (by kernel_rfl)) (by decide) (fun K hK => ?_)
   have hs98 : w97.cell? ⟨gb392, 0, none⟩ = some (.int .i64 0) := (blk_cell BK392.out 0).trans rfl
   have hfs98 := blk_frozen BK392.out 0
   have hns98_0 := NB334_392.out
   have hns98_1 := NB336_392.out
   have hns98_2 := NB345_392.out
   have hns98_3 := NB381_392.out
   have hns98_4 := NB385_392.out
   have hms98_0 := NB392_334.out
   have hms98_1 := NB392_336.out
   have hms98_2 := NB392_345.out
   have hms98_3 := NB392_381.out
   have hms98_4 := NB392_385.out
   have hs99 : w97.cell? ⟨gb392, 1, none⟩ = some (.int .u64 0) := (blk_cell BK392.out 1).trans rfl
   have hfs99 := blk_frozen BK392.out 1
   have hns99_0 := NB334_392.out
   have hns99_1 := NB336_392.out
   have hns99_2 := NB345_392.out
   have hns99_3 := NB381_392.out
   have hns99_4 := NB385_392.out
   have hms99_0 := NB392_334.out
   have hms99_1 := NB392_336.out
   have hms99_2 := NB392_345.out
   have hms99_3 := NB392_381.out
   have hms99_4 := NB392_385.out
   refine skip_ (w1 := ?_) (by rfl) rfl ?_ ?_
   rotate_left
   ·go_simp
    rfl
   refine hK.out _ _ ⟨(cf NB381_392.out (cf NB381_392.out hHeld.1)), (cf NB381_392.out (cf NB381_392.out hHeld.2.1)), (cf NB381_392.out (cf NB381_392.out hHeld.2.2.1)), (cf NB336_392.out (cf NB336_392.out hHeld.2.2.2.1)), (cf NB336_392.out (cf NB336_392.out hHeld.2.2.2.2.1)), (cf NB336_392.out (cf NB336_392.out hHeld.2.2.2.2.2.1)), (cf NB336_392.out (cf NB336_392.out hHeld.2.2.2.2.2.2.1)), (cf NB336_392.out (cf NB336_392.out hHeld.2.2.2.2.2.2.2.1)), (cf NB336_392.out (cf NB336_392.out hHeld.2.2.2.2.2.2.2.2.1)), (cf NB336_392.out (cf NB336_392.out hHeld.2.2.2.2.2.2.2.2.2.1)), (cf NB336_392.out (cf NB336_392.out hHeld.2.2.2.2.2.2.2.2.2.2.1)), (cf NB336_392.out (cf NB336_392.out hHeld.2.2.2.2.2.2.2.2.2.2.2.1)), (cf NB334_392.out (cf NB334_392.out hHeld.2.2.2.2.2.2.2.2.2.2.2.2.1)), (cf NB334_392.out (cf NB334_392.out hHeld.2.2.2.2.2.2.2.2.2.2.2.2.2.1)), (cf NB334_392.out (cf NB334_392.out hHeld.2.2.2.2.2.2.2.2.2.2.2.2.2.2.1)), (cf NB345_392.out (cf NB345_392.out hHeld.2.2.2.2.2.2.2.2.2.2.2.2.2.2.2.1)), (cf NB345_392.out (cf NB345_392.out hHeld.2.2.2.2.2.2.2.2.2.2.2.2.2.2.2.2.1)), (cf NB345_392.out (cf NB345_392.out hHeld.2.2.2.2.2.2.2.2.2.2.2.2.2.2.2.2.2.1)), (cf NB345_392.out (cf NB345_392.out hHeld.2.2.2.2.2.2.2.2.2.2.2.2.2.2.2.2.2.2.1)), (cf NB345_392.out (cf NB345_392.out hHeld.2.2.2.2.2.2.2.2.2.2.2.2.2.2.2.2.2.2.2))⟩ (fun hHeld => ?_)
   clear hK K
   refine done_ (done_of HT_.out (by kernel_rfl)) ?_
   have H := HCX_.out
   clear HCX_
   by_cases c50 : (ji42) = 0
   ·rw [if_pos c50] at H
    have c50b0 : ((ji42) == 0) = true := beq_iff_eq.mpr c50
    have c50b1 : ((ji42) != 0) = false := bne_eq_false_iff_eq.mpr c50
    clear c50
    by_cases c51 : t339 > 0
    ·rw [if_pos c51] at H
     have c51b0 : decide (0 < t339) = true := decide_eq_true c51
     clear c51
     obtain rfl := Option.some.inj H
     have hnb100 := NB345_385.out
     have hnc100 := NB385_345.out
     have hnb101 := NB345_392.out
     have hnc101 := NB392_345.out
     obtain ⟨hcz102_0, hcz102_1, hcz102_2, hcz102_3, hcz102_4⟩ := cells5 BK345.out
     have hnb103 := NB385_392.out
     have hnc103 := NB392_385.out
     obtain ⟨hcz104_0, hcz104_1⟩ := cells2 BK385.out
     have hfz104_0 := blk_frozen BK385.out 0
     have hfz104_1 := blk_frozen BK385.out 1
     obtain ⟨hcz105_0, hcz105_1⟩ := cells2 BK392.out
     have hfz105_0 := blk_frozen BK392.out 0
     have hfz105_1 := blk_frozen BK392.out 1
     try go_wp2
     go_ret
     exact ⟨by first | rfl | (simp [errW_none, errW_some] <;> rfl) | (simp only [← hji30, ← hji31, ← hji36, ← hji37, ← hji42, ← hji43]; first | rfl | (simp [errW_none, errW_some] <;> rfl)) | (simp [*, errW_none, errW_some] <;> rfl), (below_set (below_set HB.out GE392.out) GE392.out)⟩
    rw [if_neg c51] at H
    have c51b0 : decide (0 < t339) = false := decide_eq_false c51
    clear c51
    obtain rfl := Option.some.inj H
    have hnb154 := NB345_385.out
    have hnc154 := NB385_345.out
    have hnb155 := NB345_392.out
    have hnc155 := NB392_345.out
    obtain ⟨hcz156_0, hcz156_1, hcz156_2, hcz156_3, hcz156_4⟩ := cells5 BK345.out
    try go_wp2
    go_ret
    exact ⟨by first | rfl | (simp [errW_none, errW_some] <;> rfl) | (simp only [← hji30, ← hji31, ← hji36, ← hji37, ← hji42, ← hji43]; first | rfl | (simp [errW_none, errW_some] <;> rfl)) | (simp [*, errW_none, errW_some] <;> rfl), (below_set (below_set HB.out GE392.out) GE392.out)⟩
   rw [if_neg c50] at H
   have c50b0 : ((ji42) == 0) = false := beq_eq_false_iff_ne.mpr c50
   have c50b1 : ((ji42) != 0) = true := bne_iff_ne.mpr c50
   by_cases c157 : (ji43) = 0
   ·rw [if_pos c157] at H
    have c157b0 : ((ji43) == 0) = true := beq_iff_eq.mpr c157
    have c157b1 : ((ji43) != 0) = false := bne_eq_false_iff_eq.mpr c157
    clear c157
    by_cases c158 : t339 > 0
    ·rw [if_pos c158] at H
     have c158b0 : decide (0 < t339) = true := decide_eq_true c158
     clear c158
     obtain rfl := Option.some.inj H
     have hnb207 := NB345_385.out
     have hnc207 := NB385_345.out
     have hnb208 := NB345_392.out
     have hnc208 := NB392_345.out
     obtain ⟨hcz209_0, hcz209_1, hcz209_2, hcz209_3, hcz209_4⟩ := cells5 BK345.out
     have hnb210 := NB385_392.out
     have hnc210 := NB392_385.out
     obtain ⟨hcz211_0, hcz211_1⟩ := cells2 BK385.out
     have hfz211_0 := blk_frozen BK385.out 0
     have hfz211_1 := blk_frozen BK385.out 1
     obtain ⟨hcz212_0, hcz212_1⟩ := cells2 BK392.out
     have hfz212_0 := blk_frozen BK392.out 0
     have hfz212_1 := blk_frozen BK392.out 1
     try go_wp2
     go_ret
     exact ⟨by first | rfl | (simp [errW_none, errW_some] <;> rfl) | (simp only [← hji30, ← hji31, ← hji36, ← hji37, ← hji42, ← hji43]; first | rfl | (simp [errW_none, errW_some] <;> rfl)) | (simp [*, errW_none, errW_some] <;> rfl), (below_set (below_set HB.out GE392.out) GE392.out)⟩
    rw [if_neg c158] at H
    have c158b0 : decide (0 < t339) = false := decide_eq_false c158
    clear c158
    obtain rfl := Option.some.inj H
    have hnb261 := NB345_385.out
    have hnc261 := NB385_345.out
    have hnb262 := NB345_392.out
    have hnc262 := NB392_345.out
    obtain ⟨hcz263_0, hcz263_1, hcz263_2, hcz263_3, hcz263_4⟩ := cells5 BK345.out
    try go_wp2
    go_ret
    exact ⟨by first | rfl | (simp [errW_none, errW_some] <;> rfl) | (simp only [← hji30, ← hji31, ← hji36, ← hji37, ← hji42, ← hji43]; first | rfl | (simp [errW_none, errW_some] <;> rfl)) | (simp [*, errW_none, errW_some] <;> rfl), (below_set (below_set HB.out GE392.out) GE392.out)⟩
   rw [if_neg c157] at H
   have c157b0 : ((ji43) == 0) = false := beq_eq_false_iff_ne.mpr c157
   have c157b1 : ((ji43) != 0) = true := bne_iff_ne.mpr c157
   obtain rfl := Option.some.inj H
   try go_wp2
   go_ret
   exact ⟨by first | rfl | (simp [errW_none, errW_some] <;> rfl) | (simp only [← hji30, ← hji31, ← hji36, ← hji37, ← hji42, ← hji43]; first | rfl | (simp [errW_none, errW_some] <;> rfl)) | (simp [*, errW_none, errW_some] <;> rfl), (below_set (below_set HB.out GE392.out) GE392.out)⟩
 replace c5 := Bool.eq_false_iff.mpr c5
 subst c5
 have H1 : (some false) = some r := by rw [if_neg (show ¬ (false = true) by decide)] at H; exact H
 clear H
 have H := H1
 clear H1
 obtain rfl := Option.some.inj H
 go_enter Try.func6, Try.ntmps6
 go_wp2_with (first | ((with_reducible refine gate_dst (N := 3) rfl ?_); refine box_event ?hg (N := 3) ?hd (cs := #[.int .i64 a0_0, .int .i64 a0_1, .int .i64 a0_2]) (t := 23) ?hr ?_; (case hd => rfl); (case hg => rfl); (case hr => first | (go_simp; done) | (go_simp; rfl)); intro gb334 hg w312 hbox hb; have BK334 := Aside0.mk (hbox); have GE334 := Aside0.mk (bG hg (HB.out)); replace HB := Aside0.mk (below_step (HB.out) hb); clear hb hbox hg) | ((with_reducible refine gate_dst (N := 4) rfl ?_); refine box_event ?hg (N := 4) ?hd (cs := #[.int .i64 a1_0, .int .i64 a1_1, .int .i64 a1_2]) (t := 23) ?hr ?_; (case hd => rfl); (case hg => rfl); (case hr => first | (go_simp; done) | (go_simp; rfl)); intro gb335 hg w313 hbox hb; have BK335 := Aside0.mk (hbox); have GE335 := Aside0.mk (bG hg (HB.out)); have NB334_335 := cN hg BK334; have NB335_334 := cM hg BK334; replace BK334 := cB hb BK334; replace HB := Aside0.mk (below_step (HB.out) hb); clear hb hbox hg) | ((with_reducible refine gate_dst (N := 5) rfl ?_); refine box_event ?hg (N := 5) ?hd (cs := #[.int .i64 a2_0, .int .i64 a2_1, .int .i64 a2_2, .int .i64 a2_3, .int .i64 a2_4, .int .i64 a2_5, .int .i64 a2_6, .int .i64 a2_7, .int .i64 a2_8]) (t := 25) ?hr ?_; (case hd => rfl); (case hg => rfl); (case hr => first | (go_simp; done) | (go_simp; rfl)); intro gb336 hg w314 hbox hb; have BK336 := Aside0.mk (hbox); have GE336 := Aside0.mk (bG hg (HB.out)); have NB334_336 := cN hg BK334; have NB336_334 := cM hg BK334; have NB335_336 := cN hg BK335; have NB336_335 := cM hg BK335; replace BK334 := cB hb BK334; replace BK335 := cB hb BK335; replace HB := Aside0.mk (below_step (HB.out) hb); clear hb hbox hg) | ((with_reducible refine gate_callee (f := 19) rfl ?_); refine goesL_ (some 18) rfl rfl Try.func19 (by kernel_rfl) rfl #[] rfl (by (try simp only [List.map_toArray, List.map_cons, List.map_nil]); first | done | rfl | (simp only [List.length_drop, List.length_take]; rfl)) ?_; (with_reducible refine (relievolaw03_alive.calls k  false _ A4.out).mono ?_); rintro e w315 ⟨rfl, hb⟩; refine ⟨_, rfl, ?_⟩; replace BK334 := cB hb BK334; replace BK335 := cB hb BK335; replace BK336 := cB hb BK336; replace HB := Aside0.mk (below_step (HB.out) hb); (try clear hb); (try clear hb2); (try clear hk); (try clear hi)))
 go_ret
 exact ⟨by first | rfl | (simp [errW_none, errW_some] <;> rfl) | (simp [*, errW_none, errW_some] <;> rfl), HB.out⟩

end Go.Proofs.Ytihklolcnfbbjaa.G
