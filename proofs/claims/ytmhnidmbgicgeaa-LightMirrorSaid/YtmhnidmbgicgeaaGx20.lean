-- Written by a program of this session (wip/gen), out of the translation; Lean checks it.
import Derived.Test.YtmhnidmbgicgeaaLitReflect
import Derived.Test.YtmhnidmbgicgeaaGx0
import Derived.Test.YtmhnidmbgicgeaaGx1
import Derived.Test.YtmhnidmbgicgeaaGx5
import Derived.Test.YtmhnidmbgicgeaaGx18
namespace Go.Proofs.Ytmhnidmbgicgeaa.G
open Go.RowKit Go.Proofs.YtmhnidmbgicgeaaW.PrintWords Go.Proofs.YtmhnidmbgicgeaaW.PrintLast Go.Proofs.YtmhnidmbgicgeaaW.PrintMore
attribute [local go_sem] max2_int min2_int max_two min_two max_three min_three max_four min_four   -- for this text's walks alone
set_option linter.unusedVariables false
set_option linter.unusedSimpArgs false

attribute [local go_sem high] eqA26
/-! ### relievolaw19_LightMirror: function 4 -/
def relievolaw19_LightMirror.j0 : Nat → Int → Int → Bool → Int → Int → Int → Option (Bool)
  | 0, _, _, _, _, _, _ => none
  | k + 1, x1, x2, x22, x149000, x149001, x149002 => if x22 = true then (some true) else (if (Go.bits .and .i64 x1 1) = 1 then ((light_Reflect.f k x149000 x149001 x149002 0 (wrap64 (-x2)) 0).bind fun bt153 => (if (bt153.1 == x149000 && (bt153.2.1 == (wrap64 (-x149001)) && (bt153.2.2 == x149002))) = true then ((light_Reflect.f k bt153.1 bt153.2.1 bt153.2.2 0 (wrap64 (-x2)) 0).bind fun bt157 => (some (bt157.1 == x149000 && (bt157.2.1 == x149001 && (bt157.2.2 == x149002))))) else (some false))) else ((light_Reflect.f k x149000 x149001 x149002 x2 0 0).bind fun bt160 => (if (bt160.1 == (wrap64 (-x149000)) && (bt160.2.1 == x149001 && (bt160.2.2 == x149002))) = true then ((light_Reflect.f k bt160.1 bt160.2.1 bt160.2.2 x2 0 0).bind fun bt164 => (some (bt164.1 == x149000 && (bt164.2.1 == x149001 && (bt164.2.2 == x149002))))) else (some false))))
def relievolaw19_LightMirror.f (k : Nat) (a0_0 : Int) (a0_1 : Int) (a0_2 : Int) (a1 : Int) (a2 : Int) : Option (Bool) := (relievolaw19_alive.f k).bind fun t149 => (if t149 = true then (if a2 < 1 then (relievolaw19_LightMirror.j0 k a1 a2 true a0_0 a0_1 a0_2) else (if a2 > 1023 then (relievolaw19_LightMirror.j0 k a1 a2 true a0_0 a0_1 a0_2) else ((vec_Within.f a0_0 a0_1 a0_2 32768).bind fun t150 => (relievolaw19_LightMirror.j0 k a1 a2 (!t150) a0_0 a0_1 a0_2)))) else (some false))
def relievolaw19_LightMirror.T11 : Bool × List (List Nat × List Nat) := (true, [([], []), ([], []), ([0, 1], [0, 1]), ([2], [2]), ([3], [3]), ([3], [3]), ([4, 5, 3, 3], [3, 4, 5]), ([3], [3]), ([6, 7, 3], [3, 6, 7]), ([3, 8], [3, 8]), ([9, 6, 0, 1, 2, 3, 4, 5, 6, 7, 8, 9], [9])])
def relievolaw19_LightMirror.B11 : List Nat := [0, 0, 3, 7, 15, 15, 63, 15, 255, 511, 1023]
theorem relievolaw19_LightMirror.tab11 : rtab .any (opsOf Try.f4 11) = relievolaw19_LightMirror.T11 := by kernel_rfl
theorem relievolaw19_LightMirror.bits11 : waitsOk relievolaw19_LightMirror.T11.2 relievolaw19_LightMirror.B11 = true := by kernel_rfl
set_option maxHeartbeats 8000000 in
set_option maxRecDepth 100000 in
theorem relievolaw19_LightMirror.calls (k : Nat) (a0_0 : Int) (a0_1 : Int) (a0_2 : Int) (a1 : Int) (a2 : Int) (r : Bool) (w : World) (h : relievolaw19_LightMirror.f k a0_0 a0_1 a0_2 a1 a2 = some r) :
    Calls Try.prog 4 #[.agg #[.int .i64 a0_0, .int .i64 a0_1, .int .i64 a0_2], .int .i64 a1, .int .i64 a2] w fun e w' => e = .returned (.bool r) ∧ Below w.heap.size w w' := by
 have hu26 := Try.underlying26
 have HB := Aside0.mk (Below.refl w.heap.size w)
 have H : ((relievolaw19_alive.f k).bind fun t149 => (if t149 = true then (if a2 < 1 then (relievolaw19_LightMirror.j0 k a1 a2 true a0_0 a0_1 a0_2) else (if a2 > 1023 then (relievolaw19_LightMirror.j0 k a1 a2 true a0_0 a0_1 a0_2) else ((vec_Within.f a0_0 a0_1 a0_2 32768).bind fun t150 => (relievolaw19_LightMirror.j0 k a1 a2 (!t150) a0_0 a0_1 a0_2)))) else (some false))) = some r := h
 clear h
 replace H := Option.bind_eq_some_iff.mp H
 obtain ⟨t149, A40, H⟩ := H
 replace H : (if t149 = true then (if a2 < 1 then (relievolaw19_LightMirror.j0 k a1 a2 true a0_0 a0_1 a0_2) else (if a2 > 1023 then (relievolaw19_LightMirror.j0 k a1 a2 true a0_0 a0_1 a0_2) else ((vec_Within.f a0_0 a0_1 a0_2 32768).bind fun t150 => (relievolaw19_LightMirror.j0 k a1 a2 (!t150) a0_0 a0_1 a0_2)))) else (some false)) = some r := H
 have A4 := Aside0.mk A40
 clear A40
 by_cases c5 : t149 = true
 ·subst c5
  have H1 : (if a2 < 1 then (relievolaw19_LightMirror.j0 k a1 a2 true a0_0 a0_1 a0_2) else (if a2 > 1023 then (relievolaw19_LightMirror.j0 k a1 a2 true a0_0 a0_1 a0_2) else ((vec_Within.f a0_0 a0_1 a0_2 32768).bind fun t150 => (relievolaw19_LightMirror.j0 k a1 a2 (!t150) a0_0 a0_1 a0_2)))) = some r := by rw [if_pos rfl] at H; exact H
  clear H
  have H := H1
  clear H1
  have HC6 := Aside0.mk H
  clear H
  go_enter Try.func4, Try.ntmps4
  go_upto_region 3 with (first | ((with_reducible refine gate_dst (N := 3) rfl ?_); refine box_event ?hg (N := 3) ?hd (cs := #[.int .i64 a0_0, .int .i64 a0_1, .int .i64 a0_2]) (t := 26) ?hr ?_; (case hd => rfl); (case hg => rfl); (case hr => first | (go_simp; done) | (go_simp; rfl)); intro gb148 hg w7 hbox hb; have BK148 := Aside0.mk (hbox); have GE148 := Aside0.mk (bG hg (HB.out)); replace HB := Aside0.mk (below_step (HB.out) hb); clear hb hbox hg) | ((with_reducible refine gate_callee (f := 11) rfl ?_); refine goesL_ (some 10) rfl rfl Try.func11 (by kernel_rfl) rfl #[] rfl (by (try simp only [List.map_toArray, List.map_cons, List.map_nil]); first | done | rfl | (simp only [List.length_drop, List.length_take]; rfl)) ?_; (with_reducible refine (relievolaw19_alive.calls k  true _ A4.out).mono ?_); rintro e w8 ⟨rfl, hb⟩; refine ⟨_, rfl, ?_⟩; replace BK148 := cB hb BK148; replace HB := Aside0.mk (below_step (HB.out) hb); (try clear hb); (try clear hb2); (try clear hk); (try clear hi)))
  (try simp only [Act.put, List.setIfInBounds_toArray, List.set_cons_zero, List.set_cons_succ])
  go_cut [22] (fun v22 wc => ∃ (kq : Nat) (x22_5 : Bool), v22 = .bool x22_5 ∧ Aside0 (relievolaw19_LightMirror.j0 kq a1 a2 x22_5 a0_0 a0_1 a0_2 = some r) ∧ Aside0 (kq ≤ k) ∧ Aside0 (wc.heap[gb148]? = some (.cells #[.int .i64 a0_0, .int .i64 a0_1, .int .i64 a0_2] 26 (0, 0))) ∧ Aside0 (Below w.heap.size w wc))
  case first =>
   have H := HC6.out
   clear HC6
   by_cases c9 : a2 < 1
   ·rw [if_pos c9] at H
    have c9b0 : decide (a2 < 1) = true := decide_eq_true c9
    clear c9
    (first | rw [c9b0] | (simp only [i64_w, i32_w]; rw [c9b0]) | skip)
    have H' := Aside0.mk H
    clear H
    go_wp2
    go_meet
    case rel => exact ⟨_, (true), (by first | rfl | (simp; done) | (simp [*]; done)), H', ⟨by first | omega | exact Nat.le_refl _⟩, ⟨BK148.out⟩, ⟨HB.out⟩⟩
   rw [if_neg c9] at H
   have c9b0 : decide (a2 < 1) = false := decide_eq_false c9
   clear c9
   (first | rw [c9b0] | (simp only [i64_w, i32_w]; rw [c9b0]) | skip)
   by_cases c10 : a2 > 1023
   ·rw [if_pos c10] at H
    have c10b0 : decide (1023 < a2) = true := decide_eq_true c10
    clear c10
    have H' := Aside0.mk H
    clear H
    go_wp2
    go_meet
    case rel => exact ⟨_, (true), (by first | rfl | (simp; done) | (simp [*]; done)), H', ⟨by first | omega | exact Nat.le_refl _⟩, ⟨BK148.out⟩, ⟨HB.out⟩⟩
   rw [if_neg c10] at H
   have c10b0 : decide (1023 < a2) = false := decide_eq_false c10
   clear c10
   replace H := Option.bind_eq_some_iff.mp H
   obtain ⟨t150, A110, H⟩ := H
   replace H : (relievolaw19_LightMirror.j0 k a1 a2 (!t150) a0_0 a0_1 a0_2) = some r := H
   have A11 := Aside0.mk A110
   clear A110
   have H' := Aside0.mk H
   clear H
   obtain ⟨hcz12_0, hcz12_1, hcz12_2⟩ := cells3 BK148.out
   go_wp2_with (first | (go_at_call 13; (with_reducible refine (vec_Within.calls a0_0 a0_1 a0_2 32768 t150 _ A11.out).mono ?_); rintro e w13 ⟨rfl, hb⟩; replace BK148 := cB hb BK148; replace HB := Aside0.mk (below_step (HB.out) hb); (try clear hb); (try clear hb2); (try clear hk); (try clear hi)))
   go_meet
   case rel => exact ⟨_, (!t150), (by first | rfl | (simp; done) | (simp [*]; done)), H', ⟨by first | omega | exact Nat.le_refl _⟩, ⟨BK148.out⟩, ⟨HB.out⟩⟩
  clear HC6
  try clear c5
  obtain ⟨kq, x22_5, rfl, HA, HJ5, BK148, HB⟩ := hcut
  cases kq with
  | zero => exact absurd HA.out (by simp [relievolaw19_LightMirror.j0])
  | succ kj5 =>
   have H := HA.out
   clear HA
   simp only [relievolaw19_LightMirror.j0] at H
   by_cases c14 : x22_5 = true
   ·subst c14
    have H1 : (some true) = some r := by rw [if_pos rfl] at H; exact H
    clear H
    have H := H1
    clear H1
    obtain rfl := Option.some.inj H
    go_wp2
    go_ret
    exact ⟨by first | rfl | (simp [errW_none, errW_some] <;> rfl) | (simp [*, errW_none, errW_some] <;> rfl), HB.out⟩
   replace c14 := Bool.eq_false_iff.mpr c14
   subst c14
   have H1 : (if (Go.bits .and .i64 a1 1) = 1 then ((light_Reflect.f kj5 a0_0 a0_1 a0_2 0 (wrap64 (-a2)) 0).bind fun bt153 => (if (bt153.1 == a0_0 && (bt153.2.1 == (wrap64 (-a0_1)) && (bt153.2.2 == a0_2))) = true then ((light_Reflect.f kj5 bt153.1 bt153.2.1 bt153.2.2 0 (wrap64 (-a2)) 0).bind fun bt157 => (some (bt157.1 == a0_0 && (bt157.2.1 == a0_1 && (bt157.2.2 == a0_2))))) else (some false))) else ((light_Reflect.f kj5 a0_0 a0_1 a0_2 a2 0 0).bind fun bt160 => (if (bt160.1 == (wrap64 (-a0_0)) && (bt160.2.1 == a0_1 && (bt160.2.2 == a0_2))) = true then ((light_Reflect.f kj5 bt160.1 bt160.2.1 bt160.2.2 a2 0 0).bind fun bt164 => (some (bt164.1 == a0_0 && (bt164.2.1 == a0_1 && (bt164.2.2 == a0_2))))) else (some false)))) = some r := by rw [if_neg (show ¬ (false = true) by decide)] at H; exact H
   clear H
   have H := H1
   clear H1
   by_cases c15 : (Go.bits .and .i64 a1 1) = 1
   ·rw [if_pos c15] at H
    have c15b0 : ((Go.bits .and .i64 a1 1) == 1) = true := beq_iff_eq.mpr c15
    have c15b1 : ((Go.bits .and .i64 a1 1) != 1) = false := bne_eq_false_iff_eq.mpr c15
    clear c15
    replace H := Option.bind_eq_some_iff.mp H
    obtain ⟨⟨t153, t154, t155⟩, A160, H⟩ := H
    replace H : (if (t153 == a0_0 && (t154 == (wrap64 (-a0_1)) && (t155 == a0_2))) = true then ((light_Reflect.f kj5 t153 t154 t155 0 (wrap64 (-a2)) 0).bind fun bt157 => (some (bt157.1 == a0_0 && (bt157.2.1 == a0_1 && (bt157.2.2 == a0_2))))) else (some false)) = some r := H
    have A16 := Aside0.mk A160
    clear A160
    by_cases c17 : (t153 == a0_0 && (t154 == (wrap64 (-a0_1)) && (t155 == a0_2))) = true
    ·rw [if_pos c17] at H
     have c17b0 : (t153 == a0_0 && (t154 == (wrap64 (-a0_1)) && (t155 == a0_2))) = true := c17
     (try (have c17b1 : decide (t153 = a0_0 && (t154 == (wrap64 (-a0_1)) && (t155 == a0_2))) = true := by simpa using c17))
     (try (have c17b2 : (t153 == a0_0 && (t154 == (wrap64 (-a0_1)) && (t155 == a0_2))) = true := by simpa using c17))
     clear c17
     replace H := Option.bind_eq_some_iff.mp H
     obtain ⟨⟨t157, t158, t159⟩, A180, H⟩ := H
     replace H : (some (t157 == a0_0 && (t158 == a0_1 && (t159 == a0_2)))) = some r := H
     have A18 := Aside0.mk A180
     clear A180
     obtain rfl := Option.some.inj H
     try go_wp2_with (first | ((with_reducible refine gate_dst (N := 7) rfl ?_); refine box_event ?hg (N := 7) ?hd (cs := #[.int .i64 0, .int .i64 0, .int .i64 0]) (t := 26) ?hr ?_; (case hd => rfl); (case hg => rfl); (case hr => first | (go_simp; done) | (go_simp; rfl)); intro gb151 hg w19 hbox hb; have BK151 := Aside0.mk (hbox); have GE151 := Aside0.mk (bG hg (HB.out)); have NB148_151 := cN hg BK148; have NB151_148 := cM hg BK148; replace BK148 := cB hb BK148; replace HB := Aside0.mk (below_step (HB.out) hb); clear hb hbox hg; have hnb20 := NB151_148.out; have hnc20 := NB148_151.out; obtain ⟨hcz21_0, hcz21_1, hcz21_2⟩ := cells3 BK151.out; have hfz21_0 := blk_frozen BK151.out 0; have hfz21_1 := blk_frozen BK151.out 1; have hfz21_2 := blk_frozen BK151.out 2) | ((with_reducible refine gate_store (t := 26) (p := 7) rfl ?_); refine store_event (t := 26) (p := 7) (v := ?vo_w22) (w1 := (((w19.setCell ⟨gb151, 0, none⟩ (.int .i64 a2)).setCell ⟨gb151, 1, none⟩ (.int .i64 0)).setCell ⟨gb151, 2, none⟩ (.int .i64 0))) ?hg ?ho ?hn ?hr ?_; (case ho => rfl); (case hg => rfl); (case hn => rfl); (case hr => first | (go_simp; done) | (go_simp; rfl)); intro w22 hw; have n0_ : Aside0 (w22.heap[gb148]? = some (.cells #[.int .i64 a0_0, .int .i64 a0_1, .int .i64 a0_2] 26 (0, 0))) := ⟨(by rw [hw]; exact ((blk_far (blk_far (blk_far BK148.out NB148_151.out _) NB148_151.out _) NB148_151.out _)))⟩; have n1_ : Aside0 (w22.heap[gb151]? = some (.cells #[.int .i64 a2, .int .i64 0, .int .i64 0] 26 (0, 0))) := ⟨(by rw [hw]; exact ((blk_put (cs' := #[.int .i64 a2, .int .i64 0, .int .i64 0]) (blk_put (blk_put BK151.out 0 _ rfl) 1 _ rfl) 2 _ rfl)))⟩; have n2_ : Aside0 (Below w.heap.size w w22) := ⟨(by rw [hw]; exact ((below_set (below_set (below_set HB.out GE151.out) GE151.out) GE151.out)))⟩; clear hw; clear BK148; clear BK151; clear HB; have BK148 := n0_; have BK151 := n1_; have HB := n2_; clear n0_ n1_ n2_; obtain ⟨hcz23_0, hcz23_1, hcz23_2⟩ := cells3 BK148.out) | ((with_reducible refine gate_dst (N := 8) rfl ?_); refine box_event ?hg (N := 8) ?hd (cs := #[.int .i64 0, .int .i64 0, .int .i64 0]) (t := 26) ?hr ?_; (case hd => rfl); (case hg => rfl); (case hr => first | (go_simp; done) | (go_simp; rfl)); intro gb152 hg w24 hbox hb; have BK152 := Aside0.mk (hbox); have GE152 := Aside0.mk (bG hg (HB.out)); have NB148_152 := cN hg BK148; have NB152_148 := cM hg BK148; have NB151_152 := cN hg BK151; have NB152_151 := cM hg BK151; replace BK148 := cB hb BK148; replace BK151 := cB hb BK151; replace HB := Aside0.mk (below_step (HB.out) hb); clear hb hbox hg; have hnb25 := NB152_148.out; have hnc25 := NB148_152.out; have hnb26 := NB152_151.out; have hnc26 := NB151_152.out; obtain ⟨hcz27_0, hcz27_1, hcz27_2⟩ := cells3 BK152.out; have hfz27_0 := blk_frozen BK152.out 0; have hfz27_1 := blk_frozen BK152.out 1; have hfz27_2 := blk_frozen BK152.out 2) | ((with_reducible refine gate_store (t := 26) (p := 8) rfl ?_); refine store_event (t := 26) (p := 8) (v := ?vo_w28) (w1 := (((w24.setCell ⟨gb152, 0, none⟩ (.int .i64 (wrap64 (-a0_0)))).setCell ⟨gb152, 1, none⟩ (.int .i64 a0_1)).setCell ⟨gb152, 2, none⟩ (.int .i64 a0_2))) ?hg ?ho ?hn ?hr ?_; (case ho => rfl); (case hg => rfl); (case hn => rfl); (case hr => first | (go_simp; done) | (go_simp; rfl)); intro w28 hw; have n0_ : Aside0 (w28.heap[gb148]? = some (.cells #[.int .i64 a0_0, .int .i64 a0_1, .int .i64 a0_2] 26 (0, 0))) := ⟨(by rw [hw]; exact ((blk_far (blk_far (blk_far BK148.out NB148_152.out _) NB148_152.out _) NB148_152.out _)))⟩; have n1_ : Aside0 (w28.heap[gb151]? = some (.cells #[.int .i64 a2, .int .i64 0, .int .i64 0] 26 (0, 0))) := ⟨(by rw [hw]; exact ((blk_far (blk_far (blk_far BK151.out NB151_152.out _) NB151_152.out _) NB151_152.out _)))⟩; have n2_ : Aside0 (w28.heap[gb152]? = some (.cells #[.int .i64 (wrap64 (-a0_0)), .int .i64 a0_1, .int .i64 a0_2] 26 (0, 0))) := ⟨(by rw [hw]; exact ((blk_put (cs' := #[.int .i64 (wrap64 (-a0_0)), .int .i64 a0_1, .int .i64 a0_2]) (blk_put (blk_put BK152.out 0 _ rfl) 1 _ rfl) 2 _ rfl)))⟩; have n3_ : Aside0 (Below w.heap.size w w28) := ⟨(by rw [hw]; exact ((below_set (below_set (below_set HB.out GE152.out) GE152.out) GE152.out)))⟩; clear hw; clear BK148; clear BK151; clear BK152; clear HB; have BK148 := n0_; have BK151 := n1_; have BK152 := n2_; have HB := n3_; clear n0_ n1_ n2_ n3_; obtain ⟨hcz29_0, hcz29_1, hcz29_2⟩ := cells3 BK151.out; have hfz29_0 := blk_frozen BK151.out 0; have hfz29_1 := blk_frozen BK151.out 1; have hfz29_2 := blk_frozen BK151.out 2; obtain ⟨hcz30_0, hcz30_1, hcz30_2⟩ := cells3 BK148.out; obtain ⟨hcz31_0, hcz31_1, hcz31_2⟩ := cells3 BK152.out; have hfz31_0 := blk_frozen BK152.out 0; have hfz31_1 := blk_frozen BK152.out 1; have hfz31_2 := blk_frozen BK152.out 2) | ((with_reducible refine gate_callee (f := 14) rfl ?_); refine goesL_ (some 49) rfl rfl Try.func14 (by kernel_rfl) rfl #[.agg #[.int .i64 a0_0, .int .i64 a0_1, .int .i64 a0_2], .agg #[.int .i64 0, .int .i64 (wrap64 (-a2)), .int .i64 0]] rfl (by (try simp only [List.map_toArray, List.map_cons, List.map_nil]); first | done | rfl | (simp only [List.length_drop, List.length_take]; rfl)) ?_; (with_reducible refine (light_Reflect.calls kj5 a0_0 a0_1 a0_2 0 (wrap64 (-a2)) 0 t153 t154 t155 _ A16.out).mono ?_); rintro e w32 ⟨rfl, hb⟩; refine ⟨_, rfl, ?_⟩; replace BK148 := Aside0.mk (bB hb ((blk_far (blk_far (blk_far (blk_far (blk_far (blk_far BK148.out NB148_151.out _) NB148_151.out _) NB148_151.out _) NB148_152.out _) NB148_152.out _) NB148_152.out _))); replace BK151 := Aside0.mk (bB hb ((blk_far (blk_far (blk_far (blk_put (cs' := #[.int .i64 0, .int .i64 (wrap64 (-a2)), .int .i64 0]) (blk_put (blk_put BK151.out 0 _ rfl) 1 _ rfl) 2 _ rfl) NB151_152.out _) NB151_152.out _) NB151_152.out _))); replace BK152 := Aside0.mk (bB hb ((blk_put (cs' := #[.int .i64 a0_0, .int .i64 (wrap64 (-a0_1)), .int .i64 a0_2]) (blk_put (blk_put (blk_far (blk_far (blk_far BK152.out NB152_151.out _) NB152_151.out _) NB152_151.out _) 0 _ rfl) 1 _ rfl) 2 _ rfl))); replace HB := Aside0.mk (below_step ((below_set (below_set (below_set (below_set (below_set (below_set HB.out GE151.out) GE151.out) GE151.out) GE152.out) GE152.out) GE152.out)) hb); (try clear hb); (try clear hb2); (try clear hk); (try clear hi)) | ((with_reducible refine gate_dst (N := 9) rfl ?_); refine box_event ?hg (N := 9) ?hd (cs := #[.int .i64 0, .int .i64 0, .int .i64 0]) (t := 26) ?hr ?_; (case hd => rfl); (case hg => rfl); (case hr => first | (go_simp; done) | (go_simp; rfl)); intro gb156 hg w33 hbox hb; have BK156 := Aside0.mk (hbox); have GE156 := Aside0.mk (bG hg (HB.out)); have NB148_156 := cN hg BK148; have NB156_148 := cM hg BK148; have NB151_156 := cN hg BK151; have NB156_151 := cM hg BK151; have NB152_156 := cN hg BK152; have NB156_152 := cM hg BK152; replace BK148 := cB hb BK148; replace BK151 := cB hb BK151; replace BK152 := cB hb BK152; replace HB := Aside0.mk (below_step (HB.out) hb); clear hb hbox hg; have hnb34 := NB156_148.out; have hnc34 := NB148_156.out; have hnb35 := NB156_151.out; have hnc35 := NB151_156.out; have hnb36 := NB156_152.out; have hnc36 := NB152_156.out; obtain ⟨hcz37_0, hcz37_1, hcz37_2⟩ := cells3 BK156.out; have hfz37_0 := blk_frozen BK156.out 0; have hfz37_1 := blk_frozen BK156.out 1; have hfz37_2 := blk_frozen BK156.out 2))
     generalize hw_ : (((w33.setCell ⟨gb156, 0, none⟩ (.int .i64 t153)).setCell ⟨gb156, 1, none⟩ (.int .i64 t154)).setCell ⟨gb156, 2, none⟩ (.int .i64 t155)) = w38
     replace BK148 := Aside0.mk (bF hw_ (blk_far (blk_far (blk_far BK148.out NB148_156.out _) NB148_156.out _) NB148_156.out _))
     replace BK151 := Aside0.mk (bF hw_ (blk_far (blk_far (blk_far BK151.out NB151_156.out _) NB151_156.out _) NB151_156.out _))
     replace BK152 := Aside0.mk (bF hw_ (blk_far (blk_far (blk_far BK152.out NB152_156.out _) NB152_156.out _) NB152_156.out _))
     replace BK156 := Aside0.mk (bF hw_ (blk_put (cs' := #[.int .i64 t153, .int .i64 t154, .int .i64 t155]) (blk_put (blk_put BK156.out 0 _ rfl) 1 _ rfl) 2 _ rfl))
     replace HB := Aside0.mk (bH hw_ (below_set (below_set (below_set HB.out GE156.out) GE156.out) GE156.out))
     clear hw_
     replace BK148 := Aside0.mk (blk_drew BK148.out)
     replace BK151 := Aside0.mk (blk_drew BK151.out)
     replace BK152 := Aside0.mk (blk_drew BK152.out)
     replace BK156 := Aside0.mk (blk_drew BK156.out)
     replace HB := Aside0.mk (below_drew1 HB.out)
     refine start_ (n := 11) (S := fun w' => w'.cell? ⟨gb156, 0, none⟩ = some (.int .i64 t153) ∧ w'.cell? ⟨gb156, 1, none⟩ = some (.int .i64 t154) ∧ w'.cell? ⟨gb156, 2, none⟩ = some (.int .i64 t155) ∧ w'.cell? ⟨gb152, 0, none⟩ = some (.int .i64 a0_0) ∧ w'.cell? ⟨gb152, 1, none⟩ = some (.int .i64 (wrap64 (-a0_1))) ∧ w'.cell? ⟨gb152, 2, none⟩ = some (.int .i64 a0_2) ∧ w'.cell? ⟨gb151, 0, none⟩ = some (.int .i64 0) ∧ w'.cell? ⟨gb151, 1, none⟩ = some (.int .i64 (wrap64 (-a2))) ∧ w'.cell? ⟨gb151, 2, none⟩ = some (.int .i64 0) ∧ w'.cell? ⟨gb148, 0, none⟩ = some (.int .i64 a0_0) ∧ w'.cell? ⟨gb148, 1, none⟩ = some (.int .i64 a0_1) ∧ w'.cell? ⟨gb148, 2, none⟩ = some (.int .i64 a0_2)) (ds := []) #[false, false, false, false, false, false, false, false, false, false, false] (by kernel_rfl) rfl rfl ⟨(blk_cell BK156.out 0).trans rfl, (blk_cell BK156.out 1).trans rfl, (blk_cell BK156.out 2).trans rfl, (blk_cell BK152.out 0).trans rfl, (blk_cell BK152.out 1).trans rfl, (blk_cell BK152.out 2).trans rfl, (blk_cell BK151.out 0).trans rfl, (blk_cell BK151.out 1).trans rfl, (blk_cell BK151.out 2).trans rfl, (blk_cell BK148.out 0).trans rfl, (blk_cell BK148.out 1).trans rfl, (blk_cell BK148.out 2).trans rfl⟩ (fun hHeld => ?_); refine with_tabW relievolaw19_LightMirror.tab11 relievolaw19_LightMirror.bits11 (fun HT_ HW_ => ?_)
     generalize w38.drew = w39 at BK148 BK151 BK152 BK156 HB hHeld ⊢
     refine take_ (i := 0) (N := some 50) (v := ?_) (a' := ?_) #[true, false, false, false, false, false, false, false, false, false, false] rfl rfl (take_ofW HT_.out HW_.out (by kernel_rfl)) (fun _ _ _ h => h) (Or.inl ⟨by rfl, ?_⟩) hHeld ?_ ?_
     rotate_left
     ·rintro w' ⟨s0, s1, s2, s3, s4, s5, s6, s7, s8, s9, s10, s11⟩
      go_simp
      with_reducible rfl
     rotate_left
     ·simp only [Act.put, List.setIfInBounds_toArray, List.set_cons_zero, List.set_cons_succ, i64_w, i32_w]
      rfl
     refine take_ (i := 1) (N := some 51) (v := ?_) (a' := ?_) #[true, true, false, false, false, false, false, false, false, false, false] rfl rfl (take_ofW HT_.out HW_.out (by kernel_rfl)) (fun _ _ _ h => h) (Or.inl ⟨by rfl, ?_⟩) hHeld ?_ ?_
     rotate_left
     ·rintro w' ⟨s0, s1, s2, s3, s4, s5, s6, s7, s8, s9, s10, s11⟩
      go_simp
      with_reducible rfl
     rotate_left
     ·simp only [Act.put, List.setIfInBounds_toArray, List.set_cons_zero, List.set_cons_succ, i64_w, i32_w]
      rfl
     refine pure_ (i := 2) (N := some 52) (v := ?_) (a' := ?_) #[true, true, true, false, false, false, false, false, false, false, false] rfl rfl (any_of HT_.out (by kernel_rfl)) (fun _ _ _ h => h) (Or.inl ⟨by rfl, ?_⟩) ?_ ?_
     rotate_left
     ·intro w'
      go_simp
      with_reducible rfl
     rotate_left
     ·simp only [Act.put, List.setIfInBounds_toArray, List.set_cons_zero, List.set_cons_succ, i64_w, i32_w]
      rfl
     refine pure_ (i := 3) (N := some 53) (v := ?_) (a' := ?_) #[true, true, true, true, false, false, false, false, false, false, false] rfl rfl (any_of HT_.out (by kernel_rfl)) (fun _ _ _ h => h) (Or.inl ⟨by rfl, ?_⟩) ?_ ?_
     rotate_left
     ·intro w'
      go_simp
      with_reducible rfl
     rotate_left
     ·simp only [Act.put, List.setIfInBounds_toArray, List.set_cons_zero, List.set_cons_succ, i64_w, i32_w]
      rfl
     refine take_ (i := 4) (N := some 54) (v := ?_) (a' := ?_) #[true, true, true, true, true, false, false, false, false, false, false] rfl rfl (take_ofW HT_.out HW_.out (by kernel_rfl)) (fun _ _ _ h => h) (Or.inl ⟨by rfl, ?_⟩) hHeld ?_ ?_
     rotate_left
     ·rintro w' ⟨s0, s1, s2, s3, s4, s5, s6, s7, s8, s9, s10, s11⟩
      go_simp
      with_reducible rfl
     rotate_left
     ·simp only [Act.put, List.setIfInBounds_toArray, List.set_cons_zero, List.set_cons_succ, i64_w, i32_w]
      rfl
     refine take_ (i := 5) (N := some 55) (v := ?_) (a' := ?_) #[true, true, true, true, true, true, false, false, false, false, false] rfl rfl (take_ofW HT_.out HW_.out (by kernel_rfl)) (fun _ _ _ h => h) (Or.inl ⟨by rfl, ?_⟩) hHeld ?_ ?_
     rotate_left
     ·rintro w' ⟨s0, s1, s2, s3, s4, s5, s6, s7, s8, s9, s10, s11⟩
      go_simp
      with_reducible rfl
     rotate_left
     ·simp only [Act.put, List.setIfInBounds_toArray, List.set_cons_zero, List.set_cons_succ, i64_w, i32_w]
      rfl
     refine take_ (i := 7) (N := some 57) (v := ?_) (a' := ?_) #[true, true, true, true, true, true, false, true, false, false, false] rfl rfl (take_ofW HT_.out HW_.out (by kernel_rfl)) (fun _ _ _ h => h) (Or.inl ⟨by rfl, ?_⟩) hHeld ?_ ?_
     rotate_left
     ·rintro w' ⟨s0, s1, s2, s3, s4, s5, s6, s7, s8, s9, s10, s11⟩
      go_simp
      with_reducible rfl
     rotate_left
     ·simp only [Act.put, List.setIfInBounds_toArray, List.set_cons_zero, List.set_cons_succ, i64_w, i32_w]
      rfl
     refine one_ (i := 6) (N := some 56) #[true, true, true, true, true, true, true, true, false, false, false] rfl rfl (one_of HT_.out (by kernel_rfl)) (by decide) (fun K hK => ?_)
     refine goes_ Try.func14 (by kernel_rfl) rfl #[.agg #[.int .i64 t153, .int .i64 t154, .int .i64 t155], .agg #[.int .i64 0, .int .i64 (wrap64 (-a2)), .int .i64 0]] (by rfl) rfl rfl (by (try simp only [List.map_toArray, List.map_cons, List.map_nil]); first | done | rfl | (simp only [List.length_drop, List.length_take]; rfl)) ?_
     with_reducible refine (light_Reflect.calls kj5 t153 t154 t155 0 (wrap64 (-a2)) 0 t157 t158 t159 _ A18.out).mono ?_
     rintro e w40 ⟨rfl, hb⟩
     refine ⟨_, rfl, ?_⟩
     replace BK148 := cB hb BK148
     replace BK151 := cB hb BK151
     replace BK152 := cB hb BK152
     replace BK156 := cB hb BK156
     replace HB := Aside0.mk (below_step (HB.out) hb)
     (try clear hb)
     (try clear hb2)
     (try clear hk)
     (try clear hi)
     refine hK.out _ _ ⟨(blk_cell BK156.out 0).trans rfl, (blk_cell BK156.out 1).trans rfl, (blk_cell BK156.out 2).trans rfl, (blk_cell BK152.out 0).trans rfl, (blk_cell BK152.out 1).trans rfl, (blk_cell BK152.out 2).trans rfl, (blk_cell BK151.out 0).trans rfl, (blk_cell BK151.out 1).trans rfl, (blk_cell BK151.out 2).trans rfl, (blk_cell BK148.out 0).trans rfl, (blk_cell BK148.out 1).trans rfl, (blk_cell BK148.out 2).trans rfl⟩ (fun hHeld => ?_)
     clear hK K
     refine norm_ (a' := ?_) ?_ ?_
     rotate_left
     ·show Act.put _ (some 56) _ = _
      simp only [Act.put, List.setIfInBounds_toArray, List.set_cons_zero, List.set_cons_succ, i64_w, i32_w]
      rfl
     refine pure_ (i := 8) (N := some 58) (v := ?_) (a' := ?_) #[true, true, true, true, true, true, true, true, true, false, false] rfl rfl (any_of HT_.out (by kernel_rfl)) (fun _ _ _ h => h) (Or.inl ⟨by rfl, ?_⟩) ?_ ?_
     rotate_left
     ·intro w'
      go_simp
      with_reducible rfl
     rotate_left
     ·simp only [Act.put, List.setIfInBounds_toArray, List.set_cons_zero, List.set_cons_succ, i64_w, i32_w]
      rfl
     refine pure_ (i := 9) (N := some 59) (v := ?_) (a' := ?_) #[true, true, true, true, true, true, true, true, true, true, false] rfl rfl (any_of HT_.out (by kernel_rfl)) (fun _ _ _ h => h) (Or.inl ⟨by rfl, ?_⟩) ?_ ?_
     rotate_left
     ·intro w'
      go_simp
      with_reducible rfl
     rotate_left
     ·simp only [Act.put, List.setIfInBounds_toArray, List.set_cons_zero, List.set_cons_succ, i64_w, i32_w]
      rfl
     refine pure_ (i := 10) (N := some 6) (v := ?_) (a' := ?_) #[true, true, true, true, true, true, true, true, true, true, true] rfl rfl (any_of HT_.out (by kernel_rfl)) (fun _ _ _ h => h) (Or.inl ⟨by rfl, ?_⟩) ?_ ?_
     rotate_left
     ·intro w'
      go_simp
      with_reducible rfl
     rotate_left
     ·simp only [Act.put, List.setIfInBounds_toArray, List.set_cons_zero, List.set_cons_succ, i64_w, i32_w]
      rfl
     refine done_ (done_of HT_.out (by kernel_rfl)) ?_
     try go_wp2
     go_ret
     exact ⟨by first | rfl | (simp [errW_none, errW_some] <;> rfl) | (simp [*, errW_none, errW_some] <;> rfl), HB.out⟩
    rw [if_neg c17] at H
    have c17b0 : (t153 == a0_0 && (t154 == (wrap64 (-a0_1)) && (t155 == a0_2))) = false := by simpa using c17
    (try (have c17b1 : decide (t153 = a0_0 && (t154 == (wrap64 (-a0_1)) && (t155 == a0_2))) = false := by simpa using c17))
    (try (have c17b2 : (t153 == a0_0 && (t154 == (wrap64 (-a0_1)) && (t155 == a0_2))) = false := by simpa using c17))
    (try (have c17b3 : ¬ (t153 = a0_0 && (t154 == (wrap64 (-a0_1)) && (t155 == a0_2))) := by simpa using c17))
    clear c17
    obtain rfl := Option.some.inj H
    try go_wp2_with (first | ((with_reducible refine gate_dst (N := 7) rfl ?_); refine box_event ?hg (N := 7) ?hd (cs := #[.int .i64 0, .int .i64 0, .int .i64 0]) (t := 26) ?hr ?_; (case hd => rfl); (case hg => rfl); (case hr => first | (go_simp; done) | (go_simp; rfl)); intro gb151 hg w41 hbox hb; have BK151 := Aside0.mk (hbox); have GE151 := Aside0.mk (bG hg (HB.out)); have NB148_151 := cN hg BK148; have NB151_148 := cM hg BK148; replace BK148 := cB hb BK148; replace HB := Aside0.mk (below_step (HB.out) hb); clear hb hbox hg; have hnb42 := NB151_148.out; have hnc42 := NB148_151.out; obtain ⟨hcz43_0, hcz43_1, hcz43_2⟩ := cells3 BK151.out; have hfz43_0 := blk_frozen BK151.out 0; have hfz43_1 := blk_frozen BK151.out 1; have hfz43_2 := blk_frozen BK151.out 2) | ((with_reducible refine gate_store (t := 26) (p := 7) rfl ?_); refine store_event (t := 26) (p := 7) (v := ?vo_w44) (w1 := (((w41.setCell ⟨gb151, 0, none⟩ (.int .i64 a2)).setCell ⟨gb151, 1, none⟩ (.int .i64 0)).setCell ⟨gb151, 2, none⟩ (.int .i64 0))) ?hg ?ho ?hn ?hr ?_; (case ho => rfl); (case hg => rfl); (case hn => rfl); (case hr => first | (go_simp; done) | (go_simp; rfl)); intro w44 hw; have n0_ : Aside0 (w44.heap[gb148]? = some (.cells #[.int .i64 a0_0, .int .i64 a0_1, .int .i64 a0_2] 26 (0, 0))) := ⟨(by rw [hw]; exact ((blk_far (blk_far (blk_far BK148.out NB148_151.out _) NB148_151.out _) NB148_151.out _)))⟩; have n1_ : Aside0 (w44.heap[gb151]? = some (.cells #[.int .i64 a2, .int .i64 0, .int .i64 0] 26 (0, 0))) := ⟨(by rw [hw]; exact ((blk_put (cs' := #[.int .i64 a2, .int .i64 0, .int .i64 0]) (blk_put (blk_put BK151.out 0 _ rfl) 1 _ rfl) 2 _ rfl)))⟩; have n2_ : Aside0 (Below w.heap.size w w44) := ⟨(by rw [hw]; exact ((below_set (below_set (below_set HB.out GE151.out) GE151.out) GE151.out)))⟩; clear hw; clear BK148; clear BK151; clear HB; have BK148 := n0_; have BK151 := n1_; have HB := n2_; clear n0_ n1_ n2_; obtain ⟨hcz45_0, hcz45_1, hcz45_2⟩ := cells3 BK148.out) | ((with_reducible refine gate_dst (N := 8) rfl ?_); refine box_event ?hg (N := 8) ?hd (cs := #[.int .i64 0, .int .i64 0, .int .i64 0]) (t := 26) ?hr ?_; (case hd => rfl); (case hg => rfl); (case hr => first | (go_simp; done) | (go_simp; rfl)); intro gb152 hg w46 hbox hb; have BK152 := Aside0.mk (hbox); have GE152 := Aside0.mk (bG hg (HB.out)); have NB148_152 := cN hg BK148; have NB152_148 := cM hg BK148; have NB151_152 := cN hg BK151; have NB152_151 := cM hg BK151; replace BK148 := cB hb BK148; replace BK151 := cB hb BK151; replace HB := Aside0.mk (below_step (HB.out) hb); clear hb hbox hg; have hnb47 := NB152_148.out; have hnc47 := NB148_152.out; have hnb48 := NB152_151.out; have hnc48 := NB151_152.out; obtain ⟨hcz49_0, hcz49_1, hcz49_2⟩ := cells3 BK152.out; have hfz49_0 := blk_frozen BK152.out 0; have hfz49_1 := blk_frozen BK152.out 1; have hfz49_2 := blk_frozen BK152.out 2) | ((with_reducible refine gate_store (t := 26) (p := 8) rfl ?_); refine store_event (t := 26) (p := 8) (v := ?vo_w50) (w1 := (((w46.setCell ⟨gb152, 0, none⟩ (.int .i64 (wrap64 (-a0_0)))).setCell ⟨gb152, 1, none⟩ (.int .i64 a0_1)).setCell ⟨gb152, 2, none⟩ (.int .i64 a0_2))) ?hg ?ho ?hn ?hr ?_; (case ho => rfl); (case hg => rfl); (case hn => rfl); (case hr => first | (go_simp; done) | (go_simp; rfl)); intro w50 hw; have n0_ : Aside0 (w50.heap[gb148]? = some (.cells #[.int .i64 a0_0, .int .i64 a0_1, .int .i64 a0_2] 26 (0, 0))) := ⟨(by rw [hw]; exact ((blk_far (blk_far (blk_far BK148.out NB148_152.out _) NB148_152.out _) NB148_152.out _)))⟩; have n1_ : Aside0 (w50.heap[gb151]? = some (.cells #[.int .i64 a2, .int .i64 0, .int .i64 0] 26 (0, 0))) := ⟨(by rw [hw]; exact ((blk_far (blk_far (blk_far BK151.out NB151_152.out _) NB151_152.out _) NB151_152.out _)))⟩; have n2_ : Aside0 (w50.heap[gb152]? = some (.cells #[.int .i64 (wrap64 (-a0_0)), .int .i64 a0_1, .int .i64 a0_2] 26 (0, 0))) := ⟨(by rw [hw]; exact ((blk_put (cs' := #[.int .i64 (wrap64 (-a0_0)), .int .i64 a0_1, .int .i64 a0_2]) (blk_put (blk_put BK152.out 0 _ rfl) 1 _ rfl) 2 _ rfl)))⟩; have n3_ : Aside0 (Below w.heap.size w w50) := ⟨(by rw [hw]; exact ((below_set (below_set (below_set HB.out GE152.out) GE152.out) GE152.out)))⟩; clear hw; clear BK148; clear BK151; clear BK152; clear HB; have BK148 := n0_; have BK151 := n1_; have BK152 := n2_; have HB := n3_; clear n0_ n1_ n2_ n3_; obtain ⟨hcz51_0, hcz51_1, hcz51_2⟩ := cells3 BK151.out; have hfz51_0 := blk_frozen BK151.out 0; have hfz51_1 := blk_frozen BK151.out 1; have hfz51_2 := blk_frozen BK151.out 2; obtain ⟨hcz52_0, hcz52_1, hcz52_2⟩ := cells3 BK148.out; obtain ⟨hcz53_0, hcz53_1, hcz53_2⟩ := cells3 BK152.out; have hfz53_0 := blk_frozen BK152.out 0; have hfz53_1 := blk_frozen BK152.out 1; have hfz53_2 := blk_frozen BK152.out 2) | ((with_reducible refine gate_callee (f := 14) rfl ?_); refine goesL_ (some 49) rfl rfl Try.func14 (by kernel_rfl) rfl #[.agg #[.int .i64 a0_0, .int .i64 a0_1, .int .i64 a0_2], .agg #[.int .i64 0, .int .i64 (wrap64 (-a2)), .int .i64 0]] rfl (by (try simp only [List.map_toArray, List.map_cons, List.map_nil]); first | done | rfl | (simp only [List.length_drop, List.length_take]; rfl)) ?_; (with_reducible refine (light_Reflect.calls kj5 a0_0 a0_1 a0_2 0 (wrap64 (-a2)) 0 t153 t154 t155 _ A16.out).mono ?_); rintro e w54 ⟨rfl, hb⟩; refine ⟨_, rfl, ?_⟩; replace BK148 := Aside0.mk (bB hb ((blk_far (blk_far (blk_far (blk_far (blk_far (blk_far BK148.out NB148_151.out _) NB148_151.out _) NB148_151.out _) NB148_152.out _) NB148_152.out _) NB148_152.out _))); replace BK151 := Aside0.mk (bB hb ((blk_far (blk_far (blk_far (blk_put (cs' := #[.int .i64 0, .int .i64 (wrap64 (-a2)), .int .i64 0]) (blk_put (blk_put BK151.out 0 _ rfl) 1 _ rfl) 2 _ rfl) NB151_152.out _) NB151_152.out _) NB151_152.out _))); replace BK152 := Aside0.mk (bB hb ((blk_put (cs' := #[.int .i64 a0_0, .int .i64 (wrap64 (-a0_1)), .int .i64 a0_2]) (blk_put (blk_put (blk_far (blk_far (blk_far BK152.out NB152_151.out _) NB152_151.out _) NB152_151.out _) 0 _ rfl) 1 _ rfl) 2 _ rfl))); replace HB := Aside0.mk (below_step ((below_set (below_set (below_set (below_set (below_set (below_set HB.out GE151.out) GE151.out) GE151.out) GE152.out) GE152.out) GE152.out)) hb); (try clear hb); (try clear hb2); (try clear hk); (try clear hi)) | ((with_reducible refine gate_dst (N := 9) rfl ?_); refine box_event ?hg (N := 9) ?hd (cs := #[.int .i64 0, .int .i64 0, .int .i64 0]) (t := 26) ?hr ?_; (case hd => rfl); (case hg => rfl); (case hr => first | (go_simp; done) | (go_simp; rfl)); intro gb156 hg w55 hbox hb; have BK156 := Aside0.mk (hbox); have GE156 := Aside0.mk (bG hg (HB.out)); have NB148_156 := cN hg BK148; have NB156_148 := cM hg BK148; have NB151_156 := cN hg BK151; have NB156_151 := cM hg BK151; have NB152_156 := cN hg BK152; have NB156_152 := cM hg BK152; replace BK148 := cB hb BK148; replace BK151 := cB hb BK151; replace BK152 := cB hb BK152; replace HB := Aside0.mk (below_step (HB.out) hb); clear hb hbox hg; have hnb56 := NB156_148.out; have hnc56 := NB148_156.out; have hnb57 := NB156_151.out; have hnc57 := NB151_156.out; have hnb58 := NB156_152.out; have hnc58 := NB152_156.out; obtain ⟨hcz59_0, hcz59_1, hcz59_2⟩ := cells3 BK156.out; have hfz59_0 := blk_frozen BK156.out 0; have hfz59_1 := blk_frozen BK156.out 1; have hfz59_2 := blk_frozen BK156.out 2))
    generalize hw_ : (((w55.setCell ⟨gb156, 0, none⟩ (.int .i64 t153)).setCell ⟨gb156, 1, none⟩ (.int .i64 t154)).setCell ⟨gb156, 2, none⟩ (.int .i64 t155)) = w60
    replace BK148 := Aside0.mk (bF hw_ (blk_far (blk_far (blk_far BK148.out NB148_156.out _) NB148_156.out _) NB148_156.out _))
    replace BK151 := Aside0.mk (bF hw_ (blk_far (blk_far (blk_far BK151.out NB151_156.out _) NB151_156.out _) NB151_156.out _))
    replace BK152 := Aside0.mk (bF hw_ (blk_far (blk_far (blk_far BK152.out NB152_156.out _) NB152_156.out _) NB152_156.out _))
    replace BK156 := Aside0.mk (bF hw_ (blk_put (cs' := #[.int .i64 t153, .int .i64 t154, .int .i64 t155]) (blk_put (blk_put BK156.out 0 _ rfl) 1 _ rfl) 2 _ rfl))
    replace HB := Aside0.mk (bH hw_ (below_set (below_set (below_set HB.out GE156.out) GE156.out) GE156.out))
    clear hw_
    replace BK148 := Aside0.mk (blk_drew BK148.out)
    replace BK151 := Aside0.mk (blk_drew BK151.out)
    replace BK152 := Aside0.mk (blk_drew BK152.out)
    replace BK156 := Aside0.mk (blk_drew BK156.out)
    replace HB := Aside0.mk (below_drew1 HB.out)
    refine start_ (n := 11) (S := fun w' => w'.cell? ⟨gb156, 0, none⟩ = some (.int .i64 t153) ∧ w'.cell? ⟨gb156, 1, none⟩ = some (.int .i64 t154) ∧ w'.cell? ⟨gb156, 2, none⟩ = some (.int .i64 t155) ∧ w'.cell? ⟨gb152, 0, none⟩ = some (.int .i64 a0_0) ∧ w'.cell? ⟨gb152, 1, none⟩ = some (.int .i64 (wrap64 (-a0_1))) ∧ w'.cell? ⟨gb152, 2, none⟩ = some (.int .i64 a0_2)) (ds := []) #[false, false, false, false, false, false, false, false, false, false, false] (by kernel_rfl) rfl rfl ⟨(blk_cell BK156.out 0).trans rfl, (blk_cell BK156.out 1).trans rfl, (blk_cell BK156.out 2).trans rfl, (blk_cell BK152.out 0).trans rfl, (blk_cell BK152.out 1).trans rfl, (blk_cell BK152.out 2).trans rfl⟩ (fun hHeld => ?_); refine with_tabW relievolaw19_LightMirror.tab11 relievolaw19_LightMirror.bits11 (fun HT_ HW_ => ?_)
    generalize w60.drew = w61 at BK148 BK151 BK152 BK156 HB hHeld ⊢
    refine take_ (i := 0) (N := some 50) (v := ?_) (a' := ?_) #[true, false, false, false, false, false, false, false, false, false, false] rfl rfl (take_ofW HT_.out HW_.out (by kernel_rfl)) (fun _ _ _ h => h) (Or.inl ⟨by rfl, ?_⟩) hHeld ?_ ?_
    rotate_left
    ·rintro w' ⟨s0, s1, s2, s3, s4, s5⟩
     go_simp
     with_reducible rfl
    rotate_left
    ·simp only [Act.put, List.setIfInBounds_toArray, List.set_cons_zero, List.set_cons_succ, i64_w, i32_w]
     rfl
    refine take_ (i := 1) (N := some 51) (v := ?_) (a' := ?_) #[true, true, false, false, false, false, false, false, false, false, false] rfl rfl (take_ofW HT_.out HW_.out (by kernel_rfl)) (fun _ _ _ h => h) (Or.inl ⟨by rfl, ?_⟩) hHeld ?_ ?_
    rotate_left
    ·rintro w' ⟨s0, s1, s2, s3, s4, s5⟩
     go_simp
     with_reducible rfl
    rotate_left
    ·simp only [Act.put, List.setIfInBounds_toArray, List.set_cons_zero, List.set_cons_succ, i64_w, i32_w]
     rfl
    refine pure_ (i := 2) (N := some 52) (v := ?_) (a' := ?_) #[true, true, true, false, false, false, false, false, false, false, false] rfl rfl (any_of HT_.out (by kernel_rfl)) (fun _ _ _ h => h) (Or.inl ⟨by rfl, ?_⟩) ?_ ?_
    rotate_left
    ·intro w'
     go_simp
     with_reducible rfl
    rotate_left
    ·simp only [Act.put, List.setIfInBounds_toArray, List.set_cons_zero, List.set_cons_succ, i64_w, i32_w]
     rfl
    refine pure_ (i := 3) (N := some 53) (v := ?_) (a' := ?_) #[true, true, true, true, false, false, false, false, false, false, false] rfl rfl (any_of HT_.out (by kernel_rfl)) (fun _ _ _ h => h) (Or.inl ⟨by rfl, ?_⟩) ?_ ?_
    rotate_left
    ·intro w'
     go_simp
     with_reducible rfl
    rotate_left
    ·simp only [Act.put, List.setIfInBounds_toArray, List.set_cons_zero, List.set_cons_succ, i64_w, i32_w]
     rfl
    refine pure_ (i := 4) (N := some 54) (v := undef) (a' := ?_) #[true, true, true, true, true, false, false, false, false, false, false] rfl rfl (any_of HT_.out (by kernel_rfl)) (fun _ _ _ h => h) (Or.inr ⟨by rfl, rfl⟩) ?_ ?_
    rotate_left
    ·simp only [Act.put, List.setIfInBounds_toArray, List.set_cons_zero, List.set_cons_succ, i64_w, i32_w]
     rfl
    refine pure_ (i := 5) (N := some 55) (v := undef) (a' := ?_) #[true, true, true, true, true, true, false, false, false, false, false] rfl rfl (any_of HT_.out (by kernel_rfl)) (fun _ _ _ h => h) (Or.inr ⟨by rfl, rfl⟩) ?_ ?_
    rotate_left
    ·simp only [Act.put, List.setIfInBounds_toArray, List.set_cons_zero, List.set_cons_succ, i64_w, i32_w]
     rfl
    refine pure_ (i := 6) (N := some 56) (v := undef) (a' := ?_) #[true, true, true, true, true, true, true, false, false, false, false] rfl rfl (any_of HT_.out (by kernel_rfl)) (fun _ _ _ h => h) (Or.inr ⟨by rfl, rfl⟩) ?_ ?_
    rotate_left
    ·simp only [Act.put, List.setIfInBounds_toArray, List.set_cons_zero, List.set_cons_succ, i64_w, i32_w]
     rfl
    refine pure_ (i := 7) (N := some 57) (v := undef) (a' := ?_) #[true, true, true, true, true, true, true, true, false, false, false] rfl rfl (any_of HT_.out (by kernel_rfl)) (fun _ _ _ h => h) (Or.inr ⟨by rfl, rfl⟩) ?_ ?_
    rotate_left
    ·simp only [Act.put, List.setIfInBounds_toArray, List.set_cons_zero, List.set_cons_succ, i64_w, i32_w]
     rfl
    refine pure_ (i := 8) (N := some 58) (v := undef) (a' := ?_) #[true, true, true, true, true, true, true, true, true, false, false] rfl rfl (any_of HT_.out (by kernel_rfl)) (fun _ _ _ h => h) (Or.inr ⟨by rfl, rfl⟩) ?_ ?_
    rotate_left
    ·simp only [Act.put, List.setIfInBounds_toArray, List.set_cons_zero, List.set_cons_succ, i64_w, i32_w]
     rfl
    refine pure_ (i := 9) (N := some 59) (v := ?_) (a' := ?_) #[true, true, true, true, true, true, true, true, true, true, false] rfl rfl (any_of HT_.out (by kernel_rfl)) (fun _ _ _ h => h) (Or.inl ⟨by rfl, ?_⟩) ?_ ?_
    rotate_left
    ·intro w'
     go_simp
     with_reducible rfl
    rotate_left
    ·simp only [Act.put, List.setIfInBounds_toArray, List.set_cons_zero, List.set_cons_succ, i64_w, i32_w]
     rfl
    refine pure_ (i := 10) (N := some 6) (v := ?_) (a' := ?_) #[true, true, true, true, true, true, true, true, true, true, true] rfl rfl (any_of HT_.out (by kernel_rfl)) (fun _ _ _ h => h) (Or.inl ⟨by rfl, ?_⟩) ?_ ?_
    rotate_left
    ·intro w'
     go_simp
     with_reducible rfl
    rotate_left
    ·simp only [Act.put, List.setIfInBounds_toArray, List.set_cons_zero, List.set_cons_succ, i64_w, i32_w]
     rfl
    refine done_ (done_of HT_.out (by kernel_rfl)) ?_
    try go_wp2
    go_ret
    exact ⟨by first | rfl | (simp [errW_none, errW_some] <;> rfl) | (simp [*, errW_none, errW_some] <;> rfl), HB.out⟩
   rw [if_neg c15] at H
   have c15b0 : ((Go.bits .and .i64 a1 1) == 1) = false := beq_eq_false_iff_ne.mpr c15
   have c15b1 : ((Go.bits .and .i64 a1 1) != 1) = true := bne_iff_ne.mpr c15
   replace H := Option.bind_eq_some_iff.mp H
   obtain ⟨⟨t160, t161, t162⟩, A620, H⟩ := H
   replace H : (if (t160 == (wrap64 (-a0_0)) && (t161 == a0_1 && (t162 == a0_2))) = true then ((light_Reflect.f kj5 t160 t161 t162 a2 0 0).bind fun bt164 => (some (bt164.1 == a0_0 && (bt164.2.1 == a0_1 && (bt164.2.2 == a0_2))))) else (some false)) = some r := H
   have A62 := Aside0.mk A620
   clear A620
   by_cases c63 : (t160 == (wrap64 (-a0_0)) && (t161 == a0_1 && (t162 == a0_2))) = true
   ·rw [if_pos c63] at H
    have c63b0 : (t160 == (wrap64 (-a0_0)) && (t161 == a0_1 && (t162 == a0_2))) = true := c63
    (try (have c63b1 : decide (t160 = (wrap64 (-a0_0)) && (t161 == a0_1 && (t162 == a0_2))) = true := by simpa using c63))
    (try (have c63b2 : (t160 == (wrap64 (-a0_0)) && (t161 == a0_1 && (t162 == a0_2))) = true := by simpa using c63))
    clear c63
    replace H := Option.bind_eq_some_iff.mp H
    obtain ⟨⟨t164, t165, t166⟩, A640, H⟩ := H
    replace H : (some (t164 == a0_0 && (t165 == a0_1 && (t166 == a0_2)))) = some r := H
    have A64 := Aside0.mk A640
    clear A640
    obtain rfl := Option.some.inj H
    try go_wp2_with (first | ((with_reducible refine gate_dst (N := 7) rfl ?_); refine box_event ?hg (N := 7) ?hd (cs := #[.int .i64 0, .int .i64 0, .int .i64 0]) (t := 26) ?hr ?_; (case hd => rfl); (case hg => rfl); (case hr => first | (go_simp; done) | (go_simp; rfl)); intro gb151 hg w65 hbox hb; have BK151 := Aside0.mk (hbox); have GE151 := Aside0.mk (bG hg (HB.out)); have NB148_151 := cN hg BK148; have NB151_148 := cM hg BK148; replace BK148 := cB hb BK148; replace HB := Aside0.mk (below_step (HB.out) hb); clear hb hbox hg; have hnb66 := NB151_148.out; have hnc66 := NB148_151.out; obtain ⟨hcz67_0, hcz67_1, hcz67_2⟩ := cells3 BK151.out; have hfz67_0 := blk_frozen BK151.out 0; have hfz67_1 := blk_frozen BK151.out 1; have hfz67_2 := blk_frozen BK151.out 2; obtain ⟨hcz68_0, hcz68_1, hcz68_2⟩ := cells3 BK148.out) | ((with_reducible refine gate_dst (N := 8) rfl ?_); refine box_event ?hg (N := 8) ?hd (cs := #[.int .i64 0, .int .i64 0, .int .i64 0]) (t := 26) ?hr ?_; (case hd => rfl); (case hg => rfl); (case hr => first | (go_simp; done) | (go_simp; rfl)); intro gb152 hg w69 hbox hb; have BK152 := Aside0.mk (hbox); have GE152 := Aside0.mk (bG hg ((below_set (below_set (below_set HB.out GE151.out) GE151.out) GE151.out))); have NB148_152 := Aside0.mk (bN hg ((blk_far (blk_far (blk_far BK148.out NB148_151.out _) NB148_151.out _) NB148_151.out _))); have NB152_148 := Aside0.mk (bM hg ((blk_far (blk_far (blk_far BK148.out NB148_151.out _) NB148_151.out _) NB148_151.out _))); have NB151_152 := Aside0.mk (bN hg ((blk_put (cs' := #[.int .i64 a2, .int .i64 0, .int .i64 0]) (blk_put (blk_put BK151.out 0 _ rfl) 1 _ rfl) 2 _ rfl))); have NB152_151 := Aside0.mk (bM hg ((blk_put (cs' := #[.int .i64 a2, .int .i64 0, .int .i64 0]) (blk_put (blk_put BK151.out 0 _ rfl) 1 _ rfl) 2 _ rfl))); replace BK148 := Aside0.mk (bB hb ((blk_far (blk_far (blk_far BK148.out NB148_151.out _) NB148_151.out _) NB148_151.out _))); replace BK151 := Aside0.mk (bB hb ((blk_put (cs' := #[.int .i64 a2, .int .i64 0, .int .i64 0]) (blk_put (blk_put BK151.out 0 _ rfl) 1 _ rfl) 2 _ rfl))); replace HB := Aside0.mk (below_step ((below_set (below_set (below_set HB.out GE151.out) GE151.out) GE151.out)) hb); clear hb hbox hg; have hnb70 := NB152_148.out; have hnc70 := NB148_152.out; have hnb71 := NB152_151.out; have hnc71 := NB151_152.out; obtain ⟨hcz72_0, hcz72_1, hcz72_2⟩ := cells3 BK152.out; have hfz72_0 := blk_frozen BK152.out 0; have hfz72_1 := blk_frozen BK152.out 1; have hfz72_2 := blk_frozen BK152.out 2; obtain ⟨hcz73_0, hcz73_1, hcz73_2⟩ := cells3 BK148.out; obtain ⟨hcz74_0, hcz74_1, hcz74_2⟩ := cells3 BK151.out; have hfz74_0 := blk_frozen BK151.out 0; have hfz74_1 := blk_frozen BK151.out 1; have hfz74_2 := blk_frozen BK151.out 2) | ((with_reducible refine gate_callee (f := 14) rfl ?_); refine goesL_ (some 49) rfl rfl Try.func14 (by kernel_rfl) rfl #[.agg #[.int .i64 a0_0, .int .i64 a0_1, .int .i64 a0_2], .agg #[.int .i64 a2, .int .i64 0, .int .i64 0]] rfl (by (try simp only [List.map_toArray, List.map_cons, List.map_nil]); first | done | rfl | (simp only [List.length_drop, List.length_take]; rfl)) ?_; (with_reducible refine (light_Reflect.calls kj5 a0_0 a0_1 a0_2 a2 0 0 t160 t161 t162 _ A62.out).mono ?_); rintro e w75 ⟨rfl, hb⟩; refine ⟨_, rfl, ?_⟩; replace BK148 := Aside0.mk (bB hb ((blk_far (blk_far (blk_far BK148.out NB148_152.out _) NB148_152.out _) NB148_152.out _))); replace BK151 := Aside0.mk (bB hb ((blk_far (blk_far (blk_far BK151.out NB151_152.out _) NB151_152.out _) NB151_152.out _))); replace BK152 := Aside0.mk (bB hb ((blk_put (cs' := #[.int .i64 (wrap64 (-a0_0)), .int .i64 a0_1, .int .i64 a0_2]) (blk_put (blk_put BK152.out 0 _ rfl) 1 _ rfl) 2 _ rfl))); replace HB := Aside0.mk (below_step ((below_set (below_set (below_set HB.out GE152.out) GE152.out) GE152.out)) hb); (try clear hb); (try clear hb2); (try clear hk); (try clear hi)) | ((with_reducible refine gate_dst (N := 9) rfl ?_); refine box_event ?hg (N := 9) ?hd (cs := #[.int .i64 0, .int .i64 0, .int .i64 0]) (t := 26) ?hr ?_; (case hd => rfl); (case hg => rfl); (case hr => first | (go_simp; done) | (go_simp; rfl)); intro gb163 hg w76 hbox hb; have BK163 := Aside0.mk (hbox); have GE163 := Aside0.mk (bG hg (HB.out)); have NB148_163 := cN hg BK148; have NB163_148 := cM hg BK148; have NB151_163 := cN hg BK151; have NB163_151 := cM hg BK151; have NB152_163 := cN hg BK152; have NB163_152 := cM hg BK152; replace BK148 := cB hb BK148; replace BK151 := cB hb BK151; replace BK152 := cB hb BK152; replace HB := Aside0.mk (below_step (HB.out) hb); clear hb hbox hg; have hnb77 := NB163_148.out; have hnc77 := NB148_163.out; have hnb78 := NB163_151.out; have hnc78 := NB151_163.out; have hnb79 := NB163_152.out; have hnc79 := NB152_163.out; obtain ⟨hcz80_0, hcz80_1, hcz80_2⟩ := cells3 BK163.out; have hfz80_0 := blk_frozen BK163.out 0; have hfz80_1 := blk_frozen BK163.out 1; have hfz80_2 := blk_frozen BK163.out 2))
    generalize hw_ : (((w76.setCell ⟨gb163, 0, none⟩ (.int .i64 t160)).setCell ⟨gb163, 1, none⟩ (.int .i64 t161)).setCell ⟨gb163, 2, none⟩ (.int .i64 t162)) = w81
    replace BK148 := Aside0.mk (bF hw_ (blk_far (blk_far (blk_far BK148.out NB148_163.out _) NB148_163.out _) NB148_163.out _))
    replace BK151 := Aside0.mk (bF hw_ (blk_far (blk_far (blk_far BK151.out NB151_163.out _) NB151_163.out _) NB151_163.out _))
    replace BK152 := Aside0.mk (bF hw_ (blk_far (blk_far (blk_far BK152.out NB152_163.out _) NB152_163.out _) NB152_163.out _))
    replace BK163 := Aside0.mk (bF hw_ (blk_put (cs' := #[.int .i64 t160, .int .i64 t161, .int .i64 t162]) (blk_put (blk_put BK163.out 0 _ rfl) 1 _ rfl) 2 _ rfl))
    replace HB := Aside0.mk (bH hw_ (below_set (below_set (below_set HB.out GE163.out) GE163.out) GE163.out))
    clear hw_
    replace BK148 := Aside0.mk (blk_drew BK148.out)
    replace BK151 := Aside0.mk (blk_drew BK151.out)
    replace BK152 := Aside0.mk (blk_drew BK152.out)
    replace BK163 := Aside0.mk (blk_drew BK163.out)
    replace HB := Aside0.mk (below_drew1 HB.out)
    refine start_ (n := 11) (S := fun w' => w'.cell? ⟨gb163, 0, none⟩ = some (.int .i64 t160) ∧ w'.cell? ⟨gb163, 1, none⟩ = some (.int .i64 t161) ∧ w'.cell? ⟨gb163, 2, none⟩ = some (.int .i64 t162) ∧ w'.cell? ⟨gb152, 0, none⟩ = some (.int .i64 (wrap64 (-a0_0))) ∧ w'.cell? ⟨gb152, 1, none⟩ = some (.int .i64 a0_1) ∧ w'.cell? ⟨gb152, 2, none⟩ = some (.int .i64 a0_2) ∧ w'.cell? ⟨gb151, 0, none⟩ = some (.int .i64 a2) ∧ w'.cell? ⟨gb151, 1, none⟩ = some (.int .i64 0) ∧ w'.cell? ⟨gb151, 2, none⟩ = some (.int .i64 0) ∧ w'.cell? ⟨gb148, 0, none⟩ = some (.int .i64 a0_0) ∧ w'.cell? ⟨gb148, 1, none⟩ = some (.int .i64 a0_1) ∧ w'.cell? ⟨gb148, 2, none⟩ = some (.int .i64 a0_2)) (ds := []) #[false, false, false, false, false, false, false, false, false, false, false] (by kernel_rfl) rfl rfl ⟨(blk_cell BK163.out 0).trans rfl, (blk_cell BK163.out 1).trans rfl, (blk_cell BK163.out 2).trans rfl, (blk_cell BK152.out 0).trans rfl, (blk_cell BK152.out 1).trans rfl, (blk_cell BK152.out 2).trans rfl, (blk_cell BK151.out 0).trans rfl, (blk_cell BK151.out 1).trans rfl, (blk_cell BK151.out 2).trans rfl, (blk_cell BK148.out 0).trans rfl, (blk_cell BK148.out 1).trans rfl, (blk_cell BK148.out 2).trans rfl⟩ (fun hHeld => ?_); refine with_tabW relievolaw19_LightMirror.tab11 relievolaw19_LightMirror.bits11 (fun HT_ HW_ => ?_)
    generalize w81.drew = w82 at BK148 BK151 BK152 BK163 HB hHeld ⊢
    refine take_ (i := 0) (N := some 50) (v := ?_) (a' := ?_) #[true, false, false, false, false, false, false, false, false, false, false] rfl rfl (take_ofW HT_.out HW_.out (by kernel_rfl)) (fun _ _ _ h => h) (Or.inl ⟨by rfl, ?_⟩) hHeld ?_ ?_
    rotate_left
    ·rintro w' ⟨s0, s1, s2, s3, s4, s5, s6, s7, s8, s9, s10, s11⟩
     go_simp
     with_reducible rfl
    rotate_left
    ·simp only [Act.put, List.setIfInBounds_toArray, List.set_cons_zero, List.set_cons_succ, i64_w, i32_w]
     rfl
    refine take_ (i := 1) (N := some 51) (v := ?_) (a' := ?_) #[true, true, false, false, false, false, false, false, false, false, false] rfl rfl (take_ofW HT_.out HW_.out (by kernel_rfl)) (fun _ _ _ h => h) (Or.inl ⟨by rfl, ?_⟩) hHeld ?_ ?_
    rotate_left
    ·rintro w' ⟨s0, s1, s2, s3, s4, s5, s6, s7, s8, s9, s10, s11⟩
     go_simp
     with_reducible rfl
    rotate_left
    ·simp only [Act.put, List.setIfInBounds_toArray, List.set_cons_zero, List.set_cons_succ, i64_w, i32_w]
     rfl
    refine pure_ (i := 2) (N := some 52) (v := ?_) (a' := ?_) #[true, true, true, false, false, false, false, false, false, false, false] rfl rfl (any_of HT_.out (by kernel_rfl)) (fun _ _ _ h => h) (Or.inl ⟨by rfl, ?_⟩) ?_ ?_
    rotate_left
    ·intro w'
     go_simp
     with_reducible rfl
    rotate_left
    ·simp only [Act.put, List.setIfInBounds_toArray, List.set_cons_zero, List.set_cons_succ, i64_w, i32_w]
     rfl
    refine pure_ (i := 3) (N := some 53) (v := ?_) (a' := ?_) #[true, true, true, true, false, false, false, false, false, false, false] rfl rfl (any_of HT_.out (by kernel_rfl)) (fun _ _ _ h => h) (Or.inl ⟨by rfl, ?_⟩) ?_ ?_
    rotate_left
    ·intro w'
     go_simp
     with_reducible rfl
    rotate_left
    ·simp only [Act.put, List.setIfInBounds_toArray, List.set_cons_zero, List.set_cons_succ, i64_w, i32_w]
     rfl
    refine take_ (i := 4) (N := some 54) (v := ?_) (a' := ?_) #[true, true, true, true, true, false, false, false, false, false, false] rfl rfl (take_ofW HT_.out HW_.out (by kernel_rfl)) (fun _ _ _ h => h) (Or.inl ⟨by rfl, ?_⟩) hHeld ?_ ?_
    rotate_left
    ·rintro w' ⟨s0, s1, s2, s3, s4, s5, s6, s7, s8, s9, s10, s11⟩
     go_simp
     with_reducible rfl
    rotate_left
    ·simp only [Act.put, List.setIfInBounds_toArray, List.set_cons_zero, List.set_cons_succ, i64_w, i32_w]
     rfl
    refine take_ (i := 5) (N := some 55) (v := ?_) (a' := ?_) #[true, true, true, true, true, true, false, false, false, false, false] rfl rfl (take_ofW HT_.out HW_.out (by kernel_rfl)) (fun _ _ _ h => h) (Or.inl ⟨by rfl, ?_⟩) hHeld ?_ ?_
    rotate_left
    ·rintro w' ⟨s0, s1, s2, s3, s4, s5, s6, s7, s8, s9, s10, s11⟩
     go_simp
     with_reducible rfl
    rotate_left
    ·simp only [Act.put, List.setIfInBounds_toArray, List.set_cons_zero, List.set_cons_succ, i64_w, i32_w]
     rfl
    refine take_ (i := 7) (N := some 57) (v := ?_) (a' := ?_) #[true, true, true, true, true, true, false, true, false, false, false] rfl rfl (take_ofW HT_.out HW_.out (by kernel_rfl)) (fun _ _ _ h => h) (Or.inl ⟨by rfl, ?_⟩) hHeld ?_ ?_
    rotate_left
    ·rintro w' ⟨s0, s1, s2, s3, s4, s5, s6, s7, s8, s9, s10, s11⟩
     go_simp
     with_reducible rfl
    rotate_left
    ·simp only [Act.put, List.setIfInBounds_toArray, List.set_cons_zero, List.set_cons_succ, i64_w, i32_w]
     rfl
    refine one_ (i := 6) (N := some 56) #[true, true, true, true, true, true, true, true, false, false, false] rfl rfl (one_of HT_.out (by kernel_rfl)) (by decide) (fun K hK => ?_)
    refine goes_ Try.func14 (by kernel_rfl) rfl #[.agg #[.int .i64 t160, .int .i64 t161, .int .i64 t162], .agg #[.int .i64 a2, .int .i64 0, .int .i64 0]] (by rfl) rfl rfl (by (try simp only [List.map_toArray, List.map_cons, List.map_nil]); first | done | rfl | (simp only [List.length_drop, List.length_take]; rfl)) ?_
    with_reducible refine (light_Reflect.calls kj5 t160 t161 t162 a2 0 0 t164 t165 t166 _ A64.out).mono ?_
    rintro e w83 ⟨rfl, hb⟩
    refine ⟨_, rfl, ?_⟩
    replace BK148 := cB hb BK148
    replace BK151 := cB hb BK151
    replace BK152 := cB hb BK152
    replace BK163 := cB hb BK163
    replace HB := Aside0.mk (below_step (HB.out) hb)
    (try clear hb)
    (try clear hb2)
    (try clear hk)
    (try clear hi)
    refine hK.out _ _ ⟨(blk_cell BK163.out 0).trans rfl, (blk_cell BK163.out 1).trans rfl, (blk_cell BK163.out 2).trans rfl, (blk_cell BK152.out 0).trans rfl, (blk_cell BK152.out 1).trans rfl, (blk_cell BK152.out 2).trans rfl, (blk_cell BK151.out 0).trans rfl, (blk_cell BK151.out 1).trans rfl, (blk_cell BK151.out 2).trans rfl, (blk_cell BK148.out 0).trans rfl, (blk_cell BK148.out 1).trans rfl, (blk_cell BK148.out 2).trans rfl⟩ (fun hHeld => ?_)
    clear hK K
    refine norm_ (a' := ?_) ?_ ?_
    rotate_left
    ·show Act.put _ (some 56) _ = _
     simp only [Act.put, List.setIfInBounds_toArray, List.set_cons_zero, List.set_cons_succ, i64_w, i32_w]
     rfl
    refine pure_ (i := 8) (N := some 58) (v := ?_) (a' := ?_) #[true, true, true, true, true, true, true, true, true, false, false] rfl rfl (any_of HT_.out (by kernel_rfl)) (fun _ _ _ h => h) (Or.inl ⟨by rfl, ?_⟩) ?_ ?_
    rotate_left
    ·intro w'
     go_simp
     with_reducible rfl
    rotate_left
    ·simp only [Act.put, List.setIfInBounds_toArray, List.set_cons_zero, List.set_cons_succ, i64_w, i32_w]
     rfl
    refine pure_ (i := 9) (N := some 59) (v := ?_) (a' := ?_) #[true, true, true, true, true, true, true, true, true, true, false] rfl rfl (any_of HT_.out (by kernel_rfl)) (fun _ _ _ h => h) (Or.inl ⟨by rfl, ?_⟩) ?_ ?_
    rotate_left
    ·intro w'
     go_simp
     with_reducible rfl
    rotate_left
    ·simp only [Act.put, List.setIfInBounds_toArray, List.set_cons_zero, List.set_cons_succ, i64_w, i32_w]
     rfl
    refine pure_ (i := 10) (N := some 6) (v := ?_) (a' := ?_) #[true, true, true, true, true, true, true, true, true, true, true] rfl rfl (any_of HT_.out (by kernel_rfl)) (fun _ _ _ h => h) (Or.inl ⟨by rfl, ?_⟩) ?_ ?_
    rotate_left
    ·intro w'
     go_simp
     with_reducible rfl
    rotate_left
    ·simp only [Act.put, List.setIfInBounds_toArray, List.set_cons_zero, List.set_cons_succ, i64_w, i32_w]
     rfl
    refine done_ (done_of HT_.out (by kernel_rfl)) ?_
    try go_wp2
    go_ret
    exact ⟨by first | rfl | (simp [errW_none, errW_some] <;> rfl) | (simp [*, errW_none, errW_some] <;> rfl), HB.out⟩
   rw [if_neg c63] at H
   have c63b0 : (t160 == (wrap64 (-a0_0)) && (t161 == a0_1 && (t162 == a0_2))) = false := by simpa using c63
   (try (have c63b1 : decide (t160 = (wrap64 (-a0_0)) && (t161 == a0_1 && (t162 == a0_2))) = false := by simpa using c63))
   (try (have c63b2 : (t160 == (wrap64 (-a0_0)) && (t161 == a0_1 && (t162 == a0_2))) = false := by simpa using c63))
   (try (have c63b3 : ¬ (t160 = (wrap64 (-a0_0)) && (t161 == a0_1 && (t162 == a0_2))) := by simpa using c63))
   clear c63
   obtain rfl := Option.some.inj H
   try go_wp2_with (first | ((with_reducible refine gate_dst (N := 7) rfl ?_); refine box_event ?hg (N := 7) ?hd (cs := #[.int .i64 0, .int .i64 0, .int .i64 0]) (t := 26) ?hr ?_; (case hd => rfl); (case hg => rfl); (case hr => first | (go_simp; done) | (go_simp; rfl)); intro gb151 hg w84 hbox hb; have BK151 := Aside0.mk (hbox); have GE151 := Aside0.mk (bG hg (HB.out)); have NB148_151 := cN hg BK148; have NB151_148 := cM hg BK148; replace BK148 := cB hb BK148; replace HB := Aside0.mk (below_step (HB.out) hb); clear hb hbox hg; have hnb85 := NB151_148.out; have hnc85 := NB148_151.out; obtain ⟨hcz86_0, hcz86_1, hcz86_2⟩ := cells3 BK151.out; have hfz86_0 := blk_frozen BK151.out 0; have hfz86_1 := blk_frozen BK151.out 1; have hfz86_2 := blk_frozen BK151.out 2; obtain ⟨hcz87_0, hcz87_1, hcz87_2⟩ := cells3 BK148.out) | ((with_reducible refine gate_dst (N := 8) rfl ?_); refine box_event ?hg (N := 8) ?hd (cs := #[.int .i64 0, .int .i64 0, .int .i64 0]) (t := 26) ?hr ?_; (case hd => rfl); (case hg => rfl); (case hr => first | (go_simp; done) | (go_simp; rfl)); intro gb152 hg w88 hbox hb; have BK152 := Aside0.mk (hbox); have GE152 := Aside0.mk (bG hg ((below_set (below_set (below_set HB.out GE151.out) GE151.out) GE151.out))); have NB148_152 := Aside0.mk (bN hg ((blk_far (blk_far (blk_far BK148.out NB148_151.out _) NB148_151.out _) NB148_151.out _))); have NB152_148 := Aside0.mk (bM hg ((blk_far (blk_far (blk_far BK148.out NB148_151.out _) NB148_151.out _) NB148_151.out _))); have NB151_152 := Aside0.mk (bN hg ((blk_put (cs' := #[.int .i64 a2, .int .i64 0, .int .i64 0]) (blk_put (blk_put BK151.out 0 _ rfl) 1 _ rfl) 2 _ rfl))); have NB152_151 := Aside0.mk (bM hg ((blk_put (cs' := #[.int .i64 a2, .int .i64 0, .int .i64 0]) (blk_put (blk_put BK151.out 0 _ rfl) 1 _ rfl) 2 _ rfl))); replace BK148 := Aside0.mk (bB hb ((blk_far (blk_far (blk_far BK148.out NB148_151.out _) NB148_151.out _) NB148_151.out _))); replace BK151 := Aside0.mk (bB hb ((blk_put (cs' := #[.int .i64 a2, .int .i64 0, .int .i64 0]) (blk_put (blk_put BK151.out 0 _ rfl) 1 _ rfl) 2 _ rfl))); replace HB := Aside0.mk (below_step ((below_set (below_set (below_set HB.out GE151.out) GE151.out) GE151.out)) hb); clear hb hbox hg; have hnb89 := NB152_148.out; have hnc89 := NB148_152.out; have hnb90 := NB152_151.out; have hnc90 := NB151_152.out; obtain ⟨hcz91_0, hcz91_1, hcz91_2⟩ := cells3 BK152.out; have hfz91_0 := blk_frozen BK152.out 0; have hfz91_1 := blk_frozen BK152.out 1; have hfz91_2 := blk_frozen BK152.out 2; obtain ⟨hcz92_0, hcz92_1, hcz92_2⟩ := cells3 BK148.out; obtain ⟨hcz93_0, hcz93_1, hcz93_2⟩ := cells3 BK151.out; have hfz93_0 := blk_frozen BK151.out 0; have hfz93_1 := blk_frozen BK151.out 1; have hfz93_2 := blk_frozen BK151.out 2) | ((with_reducible refine gate_callee (f := 14) rfl ?_); refine goesL_ (some 49) rfl rfl Try.func14 (by kernel_rfl) rfl #[.agg #[.int .i64 a0_0, .int .i64 a0_1, .int .i64 a0_2], .agg #[.int .i64 a2, .int .i64 0, .int .i64 0]] rfl (by (try simp only [List.map_toArray, List.map_cons, List.map_nil]); first | done | rfl | (simp only [List.length_drop, List.length_take]; rfl)) ?_; (with_reducible refine (light_Reflect.calls kj5 a0_0 a0_1 a0_2 a2 0 0 t160 t161 t162 _ A62.out).mono ?_); rintro e w94 ⟨rfl, hb⟩; refine ⟨_, rfl, ?_⟩; replace BK148 := Aside0.mk (bB hb ((blk_far (blk_far (blk_far BK148.out NB148_152.out _) NB148_152.out _) NB148_152.out _))); replace BK151 := Aside0.mk (bB hb ((blk_far (blk_far (blk_far BK151.out NB151_152.out _) NB151_152.out _) NB151_152.out _))); replace BK152 := Aside0.mk (bB hb ((blk_put (cs' := #[.int .i64 (wrap64 (-a0_0)), .int .i64 a0_1, .int .i64 a0_2]) (blk_put (blk_put BK152.out 0 _ rfl) 1 _ rfl) 2 _ rfl))); replace HB := Aside0.mk (below_step ((below_set (below_set (below_set HB.out GE152.out) GE152.out) GE152.out)) hb); (try clear hb); (try clear hb2); (try clear hk); (try clear hi)) | ((with_reducible refine gate_dst (N := 9) rfl ?_); refine box_event ?hg (N := 9) ?hd (cs := #[.int .i64 0, .int .i64 0, .int .i64 0]) (t := 26) ?hr ?_; (case hd => rfl); (case hg => rfl); (case hr => first | (go_simp; done) | (go_simp; rfl)); intro gb163 hg w95 hbox hb; have BK163 := Aside0.mk (hbox); have GE163 := Aside0.mk (bG hg (HB.out)); have NB148_163 := cN hg BK148; have NB163_148 := cM hg BK148; have NB151_163 := cN hg BK151; have NB163_151 := cM hg BK151; have NB152_163 := cN hg BK152; have NB163_152 := cM hg BK152; replace BK148 := cB hb BK148; replace BK151 := cB hb BK151; replace BK152 := cB hb BK152; replace HB := Aside0.mk (below_step (HB.out) hb); clear hb hbox hg; have hnb96 := NB163_148.out; have hnc96 := NB148_163.out; have hnb97 := NB163_151.out; have hnc97 := NB151_163.out; have hnb98 := NB163_152.out; have hnc98 := NB152_163.out; obtain ⟨hcz99_0, hcz99_1, hcz99_2⟩ := cells3 BK163.out; have hfz99_0 := blk_frozen BK163.out 0; have hfz99_1 := blk_frozen BK163.out 1; have hfz99_2 := blk_frozen BK163.out 2))
   generalize hw_ : (((w95.setCell ⟨gb163, 0, none⟩ (.int .i64 t160)).setCell ⟨gb163, 1, none⟩ (.int .i64 t161)).setCell ⟨gb163, 2, none⟩ (.int .i64 t162)) = w100
   replace BK148 := Aside0.mk (bF hw_ (blk_far (blk_far (blk_far BK148.out NB148_163.out _) NB148_163.out _) NB148_163.out _))
   replace BK151 := Aside0.mk (bF hw_ (blk_far (blk_far (blk_far BK151.out NB151_163.out _) NB151_163.out _) NB151_163.out _))
   replace BK152 := Aside0.mk (bF hw_ (blk_far (blk_far (blk_far BK152.out NB152_163.out _) NB152_163.out _) NB152_163.out _))
   replace BK163 := Aside0.mk (bF hw_ (blk_put (cs' := #[.int .i64 t160, .int .i64 t161, .int .i64 t162]) (blk_put (blk_put BK163.out 0 _ rfl) 1 _ rfl) 2 _ rfl))
   replace HB := Aside0.mk (bH hw_ (below_set (below_set (below_set HB.out GE163.out) GE163.out) GE163.out))
   clear hw_
   replace BK148 := Aside0.mk (blk_drew BK148.out)
   replace BK151 := Aside0.mk (blk_drew BK151.out)
   replace BK152 := Aside0.mk (blk_drew BK152.out)
   replace BK163 := Aside0.mk (blk_drew BK163.out)
   replace HB := Aside0.mk (below_drew1 HB.out)
   refine start_ (n := 11) (S := fun w' => w'.cell? ⟨gb163, 0, none⟩ = some (.int .i64 t160) ∧ w'.cell? ⟨gb163, 1, none⟩ = some (.int .i64 t161) ∧ w'.cell? ⟨gb163, 2, none⟩ = some (.int .i64 t162) ∧ w'.cell? ⟨gb152, 0, none⟩ = some (.int .i64 (wrap64 (-a0_0))) ∧ w'.cell? ⟨gb152, 1, none⟩ = some (.int .i64 a0_1) ∧ w'.cell? ⟨gb152, 2, none⟩ = some (.int .i64 a0_2)) (ds := []) #[false, false, false, false, false, false, false, false, false, false, false] (by kernel_rfl) rfl rfl ⟨(blk_cell BK163.out 0).trans rfl, (blk_cell BK163.out 1).trans rfl, (blk_cell BK163.out 2).trans rfl, (blk_cell BK152.out 0).trans rfl, (blk_cell BK152.out 1).trans rfl, (blk_cell BK152.out 2).trans rfl⟩ (fun hHeld => ?_); refine with_tabW relievolaw19_LightMirror.tab11 relievolaw19_LightMirror.bits11 (fun HT_ HW_ => ?_)
   generalize w100.drew = w101 at BK148 BK151 BK152 BK163 HB hHeld ⊢
   refine take_ (i := 0) (N := some 50) (v := ?_) (a' := ?_) #[true, false, false, false, false, false, false, false, false, false, false] rfl rfl (take_ofW HT_.out HW_.out (by kernel_rfl)) (fun _ _ _ h => h) (Or.inl ⟨by rfl, ?_⟩) hHeld ?_ ?_
   rotate_left
   ·rintro w' ⟨s0, s1, s2, s3, s4, s5⟩
    go_simp
    with_reducible rfl
   rotate_left
   ·simp only [Act.put, List.setIfInBounds_toArray, List.set_cons_zero, List.set_cons_succ, i64_w, i32_w]
    rfl
   refine take_ (i := 1) (N := some 51) (v := ?_) (a' := ?_) #[true, true, false, false, false, false, false, false, false, false, false] rfl rfl (take_ofW HT_.out HW_.out (by kernel_rfl)) (fun _ _ _ h => h) (Or.inl ⟨by rfl, ?_⟩) hHeld ?_ ?_
   rotate_left
   ·rintro w' ⟨s0, s1, s2, s3, s4, s5⟩
    go_simp
    with_reducible rfl
   rotate_left
   ·simp only [Act.put, List.setIfInBounds_toArray, List.set_cons_zero, List.set_cons_succ, i64_w, i32_w]
    rfl
   refine pure_ (i := 2) (N := some 52) (v := ?_) (a' := ?_) #[true, true, true, false, false, false, false, false, false, false, false] rfl rfl (any_of HT_.out (by kernel_rfl)) (fun _ _ _ h => h) (Or.inl ⟨by rfl, ?_⟩) ?_ ?_
   rotate_left
   ·intro w'
    go_simp
    with_reducible rfl
   rotate_left
   ·simp only [Act.put, List.setIfInBounds_toArray, List.set_cons_zero, List.set_cons_succ, i64_w, i32_w]
    rfl
   refine pure_ (i := 3) (N := some 53) (v := ?_) (a' := ?_) #[true, true, true, true, false, false, false, false, false, false, false] rfl rfl (any_of HT_.out (by kernel_rfl)) (fun _ _ _ h => h) (Or.inl ⟨by rfl, ?_⟩) ?_ ?_
   rotate_left
   ·intro w'
    go_simp
    with_reducible rfl
   rotate_left
   ·simp only [Act.put, List.setIfInBounds_toArray, List.set_cons_zero, List.set_cons_succ, i64_w, i32_w]
    rfl
   refine pure_ (i := 4) (N := some 54) (v := undef) (a' := ?_) #[true, true, true, true, true, false, false, false, false, false, false] rfl rfl (any_of HT_.out (by kernel_rfl)) (fun _ _ _ h => h) (Or.inr ⟨by rfl, rfl⟩) ?_ ?_
   rotate_left
   ·simp only [Act.put, List.setIfInBounds_toArray, List.set_cons_zero, List.set_cons_succ, i64_w, i32_w]
    rfl
   refine pure_ (i := 5) (N := some 55) (v := undef) (a' := ?_) #[true, true, true, true, true, true, false, false, false, false, false] rfl rfl (any_of HT_.out (by kernel_rfl)) (fun _ _ _ h => h) (Or.inr ⟨by rfl, rfl⟩) ?_ ?_
   rotate_left
   ·simp only [Act.put, List.setIfInBounds_toArray, List.set_cons_zero, List.set_cons_succ, i64_w, i32_w]
    rfl
   refine pure_ (i := 6) (N := some 56) (v := undef) (a' := ?_) #[true, true, true, true, true, true, true, false, false, false, false] rfl rfl (any_of HT_.out (by kernel_rfl)) (fun _ _ _ h => h) (Or.inr ⟨by rfl, rfl⟩) ?_ ?_
   rotate_left
   ·simp only [Act.put, List.setIfInBounds_toArray, List.set_cons_zero, List.set_cons_succ, i64_w, i32_w]
    rfl
   refine pure_ (i := 7) (N := some 57) (v := undef) (a' := ?_) #[true, true, true, true, true, true, true, true, false, false, false] rfl rfl (any_of HT_.out (by kernel_rfl)) (fun _ _ _ h => h) (Or.inr ⟨by rfl, rfl⟩) ?_ ?_
   rotate_left
   ·simp only [Act.put, List.setIfInBounds_toArray, List.set_cons_zero, List.set_cons_succ, i64_w, i32_w]
    rfl
   refine pure_ (i := 8) (N := some 58) (v := undef) (a' := ?_) #[true, true, true, true, true, true, true, true, true, false, false] rfl rfl (any_of HT_.out (by kernel_rfl)) (fun _ _ _ h => h) (Or.inr ⟨by rfl, rfl⟩) ?_ ?_
   rotate_left
   ·simp only [Act.put, List.setIfInBounds_toArray, List.set_cons_zero, List.set_cons_succ, i64_w, i32_w]
    rfl
   refine pure_ (i := 9) (N := some 59) (v := ?_) (a' := ?_) #[true, true, true, true, true, true, true, true, true, true, false] rfl rfl (any_of HT_.out (by kernel_rfl)) (fun _ _ _ h => h) (Or.inl ⟨by rfl, ?_⟩) ?_ ?_
   rotate_left
   ·intro w'
    go_simp
    with_reducible rfl
   rotate_left
   ·simp only [Act.put, List.setIfInBounds_toArray, List.set_cons_zero, List.set_cons_succ, i64_w, i32_w]
    rfl
   refine pure_ (i := 10) (N := some 6) (v := ?_) (a' := ?_) #[true, true, true, true, true, true, true, true, true, true, true] rfl rfl (any_of HT_.out (by kernel_rfl)) (fun _ _ _ h => h) (Or.inl ⟨by rfl, ?_⟩) ?_ ?_
   rotate_left
   ·intro w'
    go_simp
    with_reducible rfl
   rotate_left
   ·simp only [Act.put, List.setIfInBounds_toArray, List.set_cons_zero, List.set_cons_succ, i64_w, i32_w]
    rfl
   refine done_ (done_of HT_.out (by kernel_rfl)) ?_
   try go_wp2
   go_ret
   exact ⟨by first | rfl | (simp [errW_none, errW_some] <;> rfl) | (simp [*, errW_none, errW_some] <;> rfl), HB.out⟩
 replace c5 := Bool.eq_false_iff.mpr c5
 subst c5
 have H1 : (some false) = some r := by rw [if_neg (show ¬ (false = true) by decide)] at H; exact H
 clear H
 have H := H1
 clear H1
 obtain rfl := Option.some.inj H
 go_enter Try.func4, Try.ntmps4
 go_wp2_with (first | ((with_reducible refine gate_dst (N := 3) rfl ?_); refine box_event ?hg (N := 3) ?hd (cs := #[.int .i64 a0_0, .int .i64 a0_1, .int .i64 a0_2]) (t := 26) ?hr ?_; (case hd => rfl); (case hg => rfl); (case hr => first | (go_simp; done) | (go_simp; rfl)); intro gb148 hg w102 hbox hb; have BK148 := Aside0.mk (hbox); have GE148 := Aside0.mk (bG hg (HB.out)); replace HB := Aside0.mk (below_step (HB.out) hb); clear hb hbox hg) | ((with_reducible refine gate_callee (f := 11) rfl ?_); refine goesL_ (some 10) rfl rfl Try.func11 (by kernel_rfl) rfl #[] rfl (by (try simp only [List.map_toArray, List.map_cons, List.map_nil]); first | done | rfl | (simp only [List.length_drop, List.length_take]; rfl)) ?_; (with_reducible refine (relievolaw19_alive.calls k  false _ A4.out).mono ?_); rintro e w103 ⟨rfl, hb⟩; refine ⟨_, rfl, ?_⟩; replace BK148 := cB hb BK148; replace HB := Aside0.mk (below_step (HB.out) hb); (try clear hb); (try clear hb2); (try clear hk); (try clear hi)))
 go_ret
 exact ⟨by first | rfl | (simp [errW_none, errW_some] <;> rfl) | (simp [*, errW_none, errW_some] <;> rfl), HB.out⟩

end Go.Proofs.Ytmhnidmbgicgeaa.G
