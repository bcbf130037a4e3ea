-- Written by a program of this session (wip/gen), out of the translation; Lean checks it.
import Derived.Test.YtmkdnoikbefimaaTurned
import Derived.Test.YtmkdnoikbefimaaSum
import Derived.Test.YtmkdnoikbefimaaGx0
import Derived.Test.YtmkdnoikbefimaaGx13
import Derived.Test.YtmkdnoikbefimaaGx17
import Derived.Test.YtmkdnoikbefimaaGx20
namespace Go.Proofs.Ytmkdnoikbefimaa.G
open Go.RowKit Go.Proofs.YtmkdnoikbefimaaW.PrintWords Go.Proofs.YtmkdnoikbefimaaW.PrintLast Go.Proofs.YtmkdnoikbefimaaW.PrintMore
attribute [local go_sem] max2_int min2_int max_two min_two max_three min_three max_four min_four   -- for this text's walks alone
set_option linter.unusedVariables false
set_option linter.unusedSimpArgs false

/-! ### wide_Div: function 18 -/
def wide_Div.f (k : Nat) (a0_0 : Int) (a0_1 : Int) (a1 : Int) : Option (Int × Int × Int × Bool) := if a1 < 1 then (some (0, 0, 0, false)) else ((wide_size.f a0_0 a0_1).bind fun bt134 => ((bits_Div64.f k 0 bt134.1 (IntKind.u64.wrap (a1))).bind fun bt136 => ((bits_Div64.f k bt136.2 bt134.2 (IntKind.u64.wrap (a1))).bind fun bt138 => (if a0_0 < 0 then ((wide_turned.f (wrap64 (bt136.1)) bt138.1).bind fun bt141 => (if (wrap64 (bt138.2)) > 0 then ((wide_Of.f (-1)).bind fun bt143 => ((wide_sum.f bt141.1 bt141.2 bt143.1 bt143.2).bind fun bt145 => (some (bt145.1, bt145.2, wrap64 (a1 - (wrap64 (bt138.2))), true)))) else (some (bt141.1, bt141.2, wrap64 (bt138.2), true)))) else (some (wrap64 (bt136.1), bt138.1, wrap64 (bt138.2), true))))))
theorem wide_Div.mono : ∀ a0 a1 a2 k, LeO (wide_Div.f k a0 a1 a2) (wide_Div.f (k + 1) a0 a1 a2) := by
  intro a0 a1 a2 k
  unfold wide_Div.f
  repeat' first
      | (with_reducible exact bits_Div64.mono _ _ _ _)
      | (with_reducible exact LeO.refl _)
      | (with_reducible exact LeO.none _)
      | (with_reducible refine LeO.ite ?_ ?_)
      | (with_reducible refine LeO.bind ?_ (fun _ => ?_))
      | exact bits_Div64.mono _ _ _ _
      | exact LeO.none _
      | refine LeO.ite ?_ ?_
      | refine LeO.bind ?_ (fun _ => ?_)
def wide_Div.T10 : Bool × List (List Nat × List Nat) := (true, [([], []), ([], []), ([0, 1, 1], [0, 1]), ([], []), ([], []), ([3, 4], [3, 4]), ([2, 2, 0, 1, 2], [2]), ([5, 6, 0, 1, 2, 3, 4, 5, 6], [4, 5])])
def wide_Div.B10 : List Nat := [0, 0, 3, 0, 0, 24, 7, 127]
theorem wide_Div.tab10 : rtab .any (opsOf Try.f18 10) = wide_Div.T10 := by kernel_rfl
theorem wide_Div.bits10 : waitsOk wide_Div.T10.2 wide_Div.B10 = true := by kernel_rfl
set_option maxHeartbeats 8000000 in
set_option maxRecDepth 100000 in
theorem wide_Div.calls (k : Nat) (a0_0 : Int) (a0_1 : Int) (a1 : Int) (r1 : Int) (r2 : Int) (r3 : Int) (r4 : Bool) (w : World) (h : wide_Div.f k a0_0 a0_1 a1 = some (r1, r2, r3, r4)) :
    Calls Try.prog 18 #[.agg #[.int .i64 a0_0, .int .u64 a0_1], .int .i64 a1] w fun e w' => e = .returned (.tuple #[.agg #[.int .i64 r1, .int .u64 r2], .int .i64 r3, .bool r4]) ∧ Below w.heap.size w w' := by
 have hu30 := Try.underlying30
 have HB := Aside0.mk (Below.refl w.heap.size w)
 have H : (if a1 < 1 then (some (0, 0, 0, false)) else ((wide_size.f a0_0 a0_1).bind fun bt134 => ((bits_Div64.f k 0 bt134.1 (IntKind.u64.wrap (a1))).bind fun bt136 => ((bits_Div64.f k bt136.2 bt134.2 (IntKind.u64.wrap (a1))).bind fun bt138 => (if a0_0 < 0 then ((wide_turned.f (wrap64 (bt136.1)) bt138.1).bind fun bt141 => (if (wrap64 (bt138.2)) > 0 then ((wide_Of.f (-1)).bind fun bt143 => ((wide_sum.f bt141.1 bt141.2 bt143.1 bt143.2).bind fun bt145 => (some (bt145.1, bt145.2, wrap64 (a1 - (wrap64 (bt138.2))), true)))) else (some (bt141.1, bt141.2, wrap64 (bt138.2), true)))) else (some (wrap64 (bt136.1), bt138.1, wrap64 (bt138.2), true))))))) = some (r1, r2, r3, r4) := h
 clear h
 by_cases c3 : a1 < 1
 ·rw [if_pos c3] at H
  have c3b0 : decide (a1 < 1) = true := decide_eq_true c3
  clear c3
  simp only [Option.some.injEq, Prod.mk.injEq] at H
  obtain ⟨rfl, rfl, rfl, rfl⟩ := H
  go_enter Try.func18, Try.ntmps18
  go_wp2_with (first | ((with_reducible refine gate_dst (N := 2) rfl ?_); refine box_event ?hg (N := 2) ?hd (cs := #[.int .i64 a0_0, .int .u64 a0_1]) (t := 30) ?hr ?_; (case hd => rfl); (case hg => rfl); (case hr => first | (go_simp; done) | (go_simp; rfl)); intro gb132 hg w4 hbox hb; have BK132 := Aside0.mk (hbox); have GE132 := Aside0.mk (bG hg (HB.out)); replace HB := Aside0.mk (below_step (HB.out) hb); clear hb hbox hg) | ((with_reducible refine gate_dst (N := 4) rfl ?_); refine box_event ?hg (N := 4) ?hd (cs := #[.int .i64 0, .int .u64 0]) (t := 30) ?hr ?_; (case hd => rfl); (case hg => rfl); (case hr => first | (go_simp; done) | (go_simp; rfl)); intro gb133 hg w5 hbox hb; have BK133 := Aside0.mk (hbox); have GE133 := Aside0.mk (bG hg (HB.out)); have NB132_133 := cN hg BK132; have NB133_132 := cM hg BK132; replace BK132 := cB hb BK132; replace HB := Aside0.mk (below_step (HB.out) hb); clear hb hbox hg; have hnb6 := NB133_132.out; have hnc6 := NB132_133.out; obtain ⟨hcz7_0, hcz7_1⟩ := cells2 BK133.out; have hfz7_0 := blk_frozen BK133.out 0; have hfz7_1 := blk_frozen BK133.out 1))
  refine bodyPost_ret (results_ctt rfl _ _ gb133 30 #[.int .i64 0, .int .u64 0] (0, 0) _ rfl ((blk_put (cs' := #[.int .i64 0, .int .u64 0]) (blk_put BK133.out 0 _ rfl) 1 _ rfl)) Try.underlying30 rfl (by kernel_rfl)) rfl ?_
  exact ⟨by first | rfl | (simp [errW_none, errW_some] <;> rfl) | (simp [*, errW_none, errW_some] <;> rfl), (below_set (below_set HB.out GE133.out) GE133.out)⟩
 rw [if_neg c3] at H
 have c3b0 : decide (a1 < 1) = false := decide_eq_false c3
 clear c3
 replace H := Option.bind_eq_some_iff.mp H
 obtain ⟨⟨t134, t135⟩, A80, H⟩ := H
 replace H : ((bits_Div64.f k 0 t134 (IntKind.u64.wrap (a1))).bind fun bt136 => ((bits_Div64.f k bt136.2 t135 (IntKind.u64.wrap (a1))).bind fun bt138 => (if a0_0 < 0 then ((wide_turned.f (wrap64 (bt136.1)) bt138.1).bind fun bt141 => (if (wrap64 (bt138.2)) > 0 then ((wide_Of.f (-1)).bind fun bt143 => ((wide_sum.f bt141.1 bt141.2 bt143.1 bt143.2).bind fun bt145 => (some (bt145.1, bt145.2, wrap64 (a1 - (wrap64 (bt138.2))), true)))) else (some (bt141.1, bt141.2, wrap64 (bt138.2), true)))) else (some (wrap64 (bt136.1), bt138.1, wrap64 (bt138.2), true))))) = some (r1, r2, r3, r4) := H
 have A8 := Aside0.mk A80
 clear A80
 replace H := Option.bind_eq_some_iff.mp H
 obtain ⟨⟨t136, t137⟩, A90, H⟩ := H
 replace H : ((bits_Div64.f k t137 t135 (IntKind.u64.wrap (a1))).bind fun bt138 => (if a0_0 < 0 then ((wide_turned.f (wrap64 (t136)) bt138.1).bind fun bt141 => (if (wrap64 (bt138.2)) > 0 then ((wide_Of.f (-1)).bind fun bt143 => ((wide_sum.f bt141.1 bt141.2 bt143.1 bt143.2).bind fun bt145 => (some (bt145.1, bt145.2, wrap64 (a1 - (wrap64 (bt138.2))), true)))) else (some (bt141.1, bt141.2, wrap64 (bt138.2), true)))) else (some (wrap64 (t136), bt138.1, wrap64 (bt138.2), true)))) = some (r1, r2, r3, r4) := H
 have A9 := Aside0.mk A90
 clear A90
 replace H := Option.bind_eq_some_iff.mp H
 obtain ⟨⟨t138, t139⟩, A100, H⟩ := H
 replace H : (if a0_0 < 0 then ((wide_turned.f (wrap64 (t136)) t138).bind fun bt141 => (if (wrap64 (t139)) > 0 then ((wide_Of.f (-1)).bind fun bt143 => ((wide_sum.f bt141.1 bt141.2 bt143.1 bt143.2).bind fun bt145 => (some (bt145.1, bt145.2, wrap64 (a1 - (wrap64 (t139))), true)))) else (some (bt141.1, bt141.2, wrap64 (t139), true)))) else (some (wrap64 (t136), t138, wrap64 (t139), true))) = some (r1, r2, r3, r4) := H
 have A10 := Aside0.mk A100
 clear A100
 by_cases c11 : a0_0 < 0
 ·rw [if_pos c11] at H
  have c11b0 : decide (a0_0 < 0) = true := decide_eq_true c11
  clear c11
  replace H := Option.bind_eq_some_iff.mp H
  obtain ⟨⟨t141, t142⟩, A120, H⟩ := H
  replace H : (if (wrap64 (t139)) > 0 then ((wide_Of.f (-1)).bind fun bt143 => ((wide_sum.f t141 t142 bt143.1 bt143.2).bind fun bt145 => (some (bt145.1, bt145.2, wrap64 (a1 - (wrap64 (t139))), true)))) else (some (t141, t142, wrap64 (t139), true))) = some (r1, r2, r3, r4) := H
  have A12 := Aside0.mk A120
  clear A120
  by_cases c13 : (wrap64 (t139)) > 0
  ·rw [if_pos c13] at H
   have c13b0 : decide (0 < (wrap64 (t139))) = true := decide_eq_true c13
   clear c13
   replace H := Option.bind_eq_some_iff.mp H
   obtain ⟨⟨t143, t144⟩, A140, H⟩ := H
   replace H : ((wide_sum.f t141 t142 t143 t144).bind fun bt145 => (some (bt145.1, bt145.2, wrap64 (a1 - (wrap64 (t139))), true))) = some (r1, r2, r3, r4) := H
   have A14 := Aside0.mk A140
   clear A140
   replace H := Option.bind_eq_some_iff.mp H
   obtain ⟨⟨t145, t146⟩, A150, H⟩ := H
   replace H : (some (t145, t146, wrap64 (a1 - (wrap64 (t139))), true)) = some (r1, r2, r3, r4) := H
   have A15 := Aside0.mk A150
   clear A150
   simp only [Option.some.injEq, Prod.mk.injEq] at H
   obtain ⟨rfl, rfl, rfl, rfl⟩ := H
   go_enter Try.func18, Try.ntmps18
   try go_wp2_with (first | ((with_reducible refine gate_dst (N := 2) rfl ?_); refine box_event ?hg (N := 2) ?hd (cs := #[.int .i64 a0_0, .int .u64 a0_1]) (t := 30) ?hr ?_; (case hd => rfl); (case hg => rfl); (case hr => first | (go_simp; done) | (go_simp; rfl)); intro gb132 hg w16 hbox hb; have BK132 := Aside0.mk (hbox); have GE132 := Aside0.mk (bG hg (HB.out)); replace HB := Aside0.mk (below_step (HB.out) hb); clear hb hbox hg) | ((with_reducible refine gate_dst (N := 4) rfl ?_); refine box_event ?hg (N := 4) ?hd (cs := #[.int .i64 0, .int .u64 0]) (t := 30) ?hr ?_; (case hd => rfl); (case hg => rfl); (case hr => first | (go_simp; done) | (go_simp; rfl)); intro gb133 hg w17 hbox hb; have BK133 := Aside0.mk (hbox); have GE133 := Aside0.mk (bG hg (HB.out)); have NB132_133 := cN hg BK132; have NB133_132 := cM hg BK132; replace BK132 := cB hb BK132; replace HB := Aside0.mk (below_step (HB.out) hb); clear hb hbox hg; have hnb18 := NB132_133.out; have hnc18 := NB133_132.out; obtain ⟨hcz19_0, hcz19_1⟩ := cells2 BK132.out) | ((with_reducible refine gate_callee (f := 39) rfl ?_); refine goesL_ (some 19) rfl rfl Try.func39 (by kernel_rfl) rfl #[.agg #[.int .i64 a0_0, .int .u64 a0_1]] rfl (by (try simp only [List.map_toArray, List.map_cons, List.map_nil]); first | done | rfl | (simp only [List.length_drop, List.length_take]; rfl)) ?_; (with_reducible refine (wide_size.calls a0_0 a0_1 t134 t135 _ A8.out).mono ?_); rintro e w20 ⟨rfl, hb⟩; refine ⟨_, rfl, ?_⟩; replace BK132 := cB hb BK132; replace BK133 := cB hb BK133; replace HB := Aside0.mk (below_step (HB.out) hb); (try clear hb); (try clear hb2); (try clear hk); (try clear hi)) | ((with_reducible refine gate_callee (f := 40) rfl ?_); refine goesL_ (some 26) rfl rfl Try.func40 (by kernel_rfl) rfl #[.int .u64 0, .int .u64 t134, .int .u64 (IntKind.u64.wrap (a1))] rfl (by (try simp only [List.map_toArray, List.map_cons, List.map_nil]); first | done | rfl | (simp only [List.length_drop, List.length_take]; rfl)) ?_; (with_reducible refine (bits_Div64.calls k 0 t134 (IntKind.u64.wrap (a1)) t136 t137 _ A9.out).mono ?_); rintro e w21 ⟨rfl, hb⟩; refine ⟨_, rfl, ?_⟩; replace BK132 := cB hb BK132; replace BK133 := cB hb BK133; replace HB := Aside0.mk (below_step (HB.out) hb); (try clear hb); (try clear hb2); (try clear hk); (try clear hi)) | ((with_reducible refine gate_callee (f := 40) rfl ?_); refine goesL_ (some 34) rfl rfl Try.func40 (by kernel_rfl) rfl #[.int .u64 t137, .int .u64 t135, .int .u64 (IntKind.u64.wrap (a1))] rfl (by (try simp only [List.map_toArray, List.map_cons, List.map_nil]); first | done | rfl | (simp only [List.length_drop, List.length_take]; rfl)) ?_; (with_reducible refine (bits_Div64.calls k t137 t135 (IntKind.u64.wrap (a1)) t138 t139 _ A10.out).mono ?_); rintro e w22 ⟨rfl, hb⟩; refine ⟨_, rfl, ?_⟩; replace BK132 := cB hb BK132; replace BK133 := cB hb BK133; replace HB := Aside0.mk (below_step (HB.out) hb); (try clear hb); (try clear hb2); (try clear hk); (try clear hi)) | ((with_reducible refine gate_dst (N := 12) rfl ?_); refine box_event ?hg (N := 12) ?hd (cs := #[.int .i64 0, .int .u64 0]) (t := 30) ?hr ?_; (case hd => rfl); (case hg => rfl); (case hr => first | (go_simp; done) | (go_simp; rfl)); intro gb140 hg w23 hbox hb; have BK140 := Aside0.mk (hbox); have GE140 := Aside0.mk (bG hg (HB.out)); have NB132_140 := cN hg BK132; have NB140_132 := cM hg BK132; have NB133_140 := cN hg BK133; have NB140_133 := cM hg BK133; replace BK132 := cB hb BK132; replace BK133 := cB hb BK133; replace HB := Aside0.mk (below_step (HB.out) hb); clear hb hbox hg; have hnb24 := NB140_132.out; have hnc24 := NB132_140.out; have hnb25 := NB140_133.out; have hnc25 := NB133_140.out; obtain ⟨hcz26_0, hcz26_1⟩ := cells2 BK140.out; have hfz26_0 := blk_frozen BK140.out 0; have hfz26_1 := blk_frozen BK140.out 1) | ((with_reducible refine gate_store (t := 30) (p := 12) rfl ?_); refine store_event (t := 30) (p := 12) (v := ?vo_w27) (w1 := ((w23.setCell ⟨gb140, 0, none⟩ (.int .i64 (wrap64 (t136)))).setCell ⟨gb140, 1, none⟩ (.int .u64 t138))) ?hg ?ho ?hn ?hr ?_; (case ho => rfl); (case hg => rfl); (case hn => rfl); (case hr => first | (go_simp; done) | (go_simp; rfl)); intro w27 hw; have n0_ : Aside0 (w27.heap[gb132]? = some (.cells #[.int .i64 a0_0, .int .u64 a0_1] 30 (0, 0))) := ⟨(by rw [hw]; exact ((blk_far (blk_far BK132.out NB132_140.out _) NB132_140.out _)))⟩; have n1_ : Aside0 (w27.heap[gb133]? = some (.cells #[.int .i64 0, .int .u64 0] 30 (0, 0))) := ⟨(by rw [hw]; exact ((blk_far (blk_far BK133.out NB133_140.out _) NB133_140.out _)))⟩; have n2_ : Aside0 (w27.heap[gb140]? = some (.cells #[.int .i64 (wrap64 (t136)), .int .u64 t138] 30 (0, 0))) := ⟨(by rw [hw]; exact ((blk_put (cs' := #[.int .i64 (wrap64 (t136)), .int .u64 t138]) (blk_put BK140.out 0 _ rfl) 1 _ rfl)))⟩; have n3_ : Aside0 (Below w.heap.size w w27) := ⟨(by rw [hw]; exact ((below_set (below_set HB.out GE140.out) GE140.out)))⟩; clear hw; clear BK132; clear BK133; clear BK140; clear HB; have BK132 := n0_; have BK133 := n1_; have BK140 := n2_; have HB := n3_; clear n0_ n1_ n2_ n3_; obtain ⟨hcz28_0, hcz28_1⟩ := cells2 BK132.out; obtain ⟨hcz29_0, hcz29_1⟩ := cells2 BK140.out; have hfz29_0 := blk_frozen BK140.out 0; have hfz29_1 := blk_frozen BK140.out 1) | ((with_reducible refine gate_callee (f := 37) rfl ?_); refine goesL_ (some 47) rfl rfl Try.func37 (by kernel_rfl) rfl #[.agg #[.int .i64 (wrap64 (t136)), .int .u64 t138]] rfl (by (try simp only [List.map_toArray, List.map_cons, List.map_nil]); first | done | rfl | (simp only [List.length_drop, List.length_take]; rfl)) ?_; (with_reducible refine (wide_turned.calls (wrap64 (t136)) t138 t141 t142 _ A12.out).mono ?_); rintro e w30 ⟨rfl, hb⟩; refine ⟨_, rfl, ?_⟩; replace BK133 := cB hb BK133; replace BK140 := cB hb BK140; replace HB := Aside0.mk (below_step (HB.out) hb); (try clear hb); (try clear hb2); (try clear hk); (try clear hi); obtain ⟨hcz31_0, hcz31_1⟩ := cells2 BK140.out; have hfz31_0 := blk_frozen BK140.out 0; have hfz31_1 := blk_frozen BK140.out 1) | ((with_reducible refine gate_store (t := 30) (p := 12) rfl ?_); refine store_event (t := 30) (p := 12) (v := ?vo_w32) (w1 := ((w30.setCell ⟨gb140, 0, none⟩ (.int .i64 t141)).setCell ⟨gb140, 1, none⟩ (.int .u64 t142))) ?hg ?ho ?hn ?hr ?_; (case ho => rfl); (case hg => rfl); (case hn => rfl); (case hr => first | (go_simp; done) | (go_simp; rfl)); intro w32 hw; have n0_ : Aside0 (w32.heap[gb133]? = some (.cells #[.int .i64 0, .int .u64 0] 30 (0, 0))) := ⟨(by rw [hw]; exact ((blk_far (blk_far BK133.out NB133_140.out _) NB133_140.out _)))⟩; have n1_ : Aside0 (w32.heap[gb140]? = some (.cells #[.int .i64 t141, .int .u64 t142] 30 (0, 0))) := ⟨(by rw [hw]; exact ((blk_put (cs' := #[.int .i64 t141, .int .u64 t142]) (blk_put BK140.out 0 _ rfl) 1 _ rfl)))⟩; have n2_ : Aside0 (Below w.heap.size w w32) := ⟨(by rw [hw]; exact ((below_set (below_set HB.out GE140.out) GE140.out)))⟩; clear hw; clear BK133; clear BK140; clear HB; have BK133 := n0_; have BK140 := n1_; have HB := n2_; clear n0_ n1_ n2_))
   replace BK133 := Aside0.mk (blk_drew BK133.out)
   replace BK140 := Aside0.mk (blk_drew BK140.out)
   replace HB := Aside0.mk (below_drew1 HB.out)
   refine start_ (n := 8) (S := fun w' => w'.cell? ⟨gb140, 0, none⟩ = some (.int .i64 t141) ∧ w'.cell? ⟨gb140, 1, none⟩ = some (.int .u64 t142)) (ds := [6]) #[false, false, false, false, false, false, false, false] (by kernel_rfl) rfl rfl ⟨(blk_cell BK140.out 0).trans rfl, (blk_cell BK140.out 1).trans rfl⟩ (fun hHeld => ?_); refine with_tabW wide_Div.tab10 wide_Div.bits10 (fun HT_ HW_ => ?_)
   generalize w32.drew = w33 at BK133 BK140 HB hHeld ⊢
   refine pure_ (i := 3) (N := some 53) (v := ?_) (a' := ?_) #[false, false, false, true, false, false, false, false] rfl rfl (any_of HT_.out (by kernel_rfl)) (fun _ _ _ h => h) (Or.inl ⟨by rfl, ?_⟩) ?_ ?_
   rotate_left
   ·intro w'
    go_simp
    with_reducible rfl
   rotate_left
   ·simp only [Act.put, List.setIfInBounds_toArray, List.set_cons_zero, List.set_cons_succ, i64_w, i32_w]
    rfl
   refine pure_ (i := 4) (N := some 54) (v := ?_) (a' := ?_) #[false, false, false, true, true, false, false, false] rfl rfl (any_of HT_.out (by kernel_rfl)) (fun _ _ _ h => h) (Or.inl ⟨by rfl, ?_⟩) ?_ ?_
   rotate_left
   ·intro w'
    go_simp
    with_reducible rfl
   rotate_left
   ·simp only [Act.put, List.setIfInBounds_toArray, List.set_cons_zero, List.set_cons_succ, i64_w, i32_w]
    rfl
   refine pure_ (i := 5) (N := some 55) (v := ?_) (a' := ?_) #[false, false, false, true, true, true, false, false] rfl rfl (any_of HT_.out (by kernel_rfl)) (fun _ _ _ h => h) (Or.inl ⟨by rfl, ?_⟩) ?_ ?_
   rotate_left
   ·intro w'
    go_simp
    with_reducible rfl
   rotate_left
   ·simp only [Act.put, List.setIfInBounds_toArray, List.set_cons_zero, List.set_cons_succ, i64_w, i32_w]
    rfl
   refine take_ (i := 0) (N := some 50) (v := ?_) (a' := ?_) #[true, false, false, true, true, true, false, false] rfl rfl (take_ofW HT_.out HW_.out (by kernel_rfl)) (fun _ _ _ h => h) (Or.inl ⟨by rfl, ?_⟩) hHeld ?_ ?_
   rotate_left
   ·rintro w' ⟨s0, s1⟩
    go_simp
    with_reducible rfl
   rotate_left
   ·simp only [Act.put, List.setIfInBounds_toArray, List.set_cons_zero, List.set_cons_succ, i64_w, i32_w]
    rfl
   refine one_ (i := 1) (N := some 51) #[true, true, false, true, true, true, false, false] rfl rfl (one_of HT_.out (by kernel_rfl)) (by decide) (fun K hK => ?_)
   refine goes_ Try.func15 (by kernel_rfl) rfl #[.int .i64 (-1)] (by rfl) rfl rfl (by (try simp only [List.map_toArray, List.map_cons, List.map_nil]); first | done | rfl | (simp only [List.length_drop, List.length_take]; rfl)) ?_
   with_reducible refine (wide_Of.calls (-1) t143 t144 _ A14.out).mono ?_
   rintro e w34 ⟨rfl, hb⟩
   refine ⟨_, rfl, ?_⟩
   replace BK133 := cB hb BK133
   replace BK140 := cB hb BK140
   replace HB := Aside0.mk (below_step (HB.out) hb)
   (try clear hb)
   (try clear hb2)
   (try clear hk)
   (try clear hi)
   refine hK.out _ _ ⟨(blk_cell BK140.out 0).trans rfl, (blk_cell BK140.out 1).trans rfl⟩ (fun hHeld => ?_)
   clear hK K
   refine norm_ (a' := ?_) ?_ ?_
   rotate_left
   ·show Act.put _ (some 51) _ = _
    simp only [Act.put, List.setIfInBounds_toArray, List.set_cons_zero, List.set_cons_succ, i64_w, i32_w]
    rfl
   refine one_ (i := 2) (N := some 52) #[true, true, true, true, true, true, false, false] rfl rfl (one_of HT_.out (by kernel_rfl)) (by decide) (fun K hK => ?_)
   refine goes_ Try.func38 (by kernel_rfl) rfl #[.agg #[.int .i64 t141, .int .u64 t142], .agg #[.int .i64 t143, .int .u64 t144]] (by rfl) rfl rfl (by (try simp only [List.map_toArray, List.map_cons, List.map_nil]); first | done | rfl | (simp only [List.length_drop, List.length_take]; rfl)) ?_
   with_reducible refine (wide_sum.calls t141 t142 t143 t144 t145 t146 _ A15.out).mono ?_
   rintro e w35 ⟨rfl, hb⟩
   refine ⟨_, rfl, ?_⟩
   replace BK133 := cB hb BK133
   replace BK140 := cB hb BK140
   replace HB := Aside0.mk (below_step (HB.out) hb)
   (try clear hb)
   (try clear hb2)
   (try clear hk)
   (try clear hi)
   refine hK.out _ _ ⟨(blk_cell BK140.out 0).trans rfl, (blk_cell BK140.out 1).trans rfl⟩ (fun hHeld => ?_)
   clear hK K
   refine norm_ (a' := ?_) ?_ ?_
   rotate_left
   ·show Act.put _ (some 52) _ = _
    simp only [Act.put, List.setIfInBounds_toArray, List.set_cons_zero, List.set_cons_succ, i64_w, i32_w]
    rfl
   refine last_ (i := 6) (N := none) #[true, true, true, true, true, true, true, false] rfl rfl (one_of HT_.out (by kernel_rfl)) (by decide) (fun K hK => ?_)
   have hs36 : w35.cell? ⟨gb140, 0, none⟩ = some (.int .i64 t141) := (blk_cell BK140.out 0).trans rfl
   have hfs36 := blk_frozen BK140.out 0
   have hns36_0 := NB133_140.out
   have hms36_0 := NB140_133.out
   have hs37 : w35.cell? ⟨gb140, 1, none⟩ = some (.int .u64 t142) := (blk_cell BK140.out 1).trans rfl
   have hfs37 := blk_frozen BK140.out 1
   have hns37_0 := NB133_140.out
   have hms37_0 := NB140_133.out
   refine skip_ (w1 := ?_) (by rfl) rfl ?_ ?_
   rotate_left
   ·go_simp
    rfl
   refine hK.out _ _ ?_
   clear hK K
   refine pure_ (i := 7) (N := some 13) (v := ?_) (a' := ?_) #[true, true, true, true, true, true, true, true] rfl rfl (any_of HT_.out (by kernel_rfl)) (fun _ _ _ h => h) (Or.inl ⟨by rfl, ?_⟩) ?_ ?_
   rotate_left
   ·intro w'
    go_simp
    with_reducible rfl
   rotate_left
   ·simp only [Act.put, List.setIfInBounds_toArray, List.set_cons_zero, List.set_cons_succ, i64_w, i32_w]
    rfl
   refine done_ (done_of HT_.out (by kernel_rfl)) ?_
   obtain ⟨hcz38_0, hcz38_1⟩ := cells2 BK140.out
   have hfz38_0 := blk_frozen BK140.out 0
   have hfz38_1 := blk_frozen BK140.out 1
   obtain ⟨hcz39_0, hcz39_1⟩ := cells2 BK133.out
   have hfz39_0 := blk_frozen BK133.out 0
   have hfz39_1 := blk_frozen BK133.out 1
   try go_wp2
   refine bodyPost_ret (results_ctt rfl _ _ gb133 30 #[.int .i64 t145, .int .u64 t146] (0, 0) _ rfl ((blk_put (cs' := #[.int .i64 t145, .int .u64 t146]) (blk_put (blk_far (blk_far BK133.out NB133_140.out _) NB133_140.out _) 0 _ rfl) 1 _ rfl)) Try.underlying30 rfl (by kernel_rfl)) rfl ?_
   exact ⟨by first | rfl | (simp [errW_none, errW_some] <;> rfl) | (simp [*, errW_none, errW_some] <;> rfl), (below_set (below_set (below_set (below_set HB.out GE140.out) GE140.out) GE133.out) GE133.out)⟩
  rw [if_neg c13] at H
  have c13b0 : decide (0 < (wrap64 (t139))) = false := decide_eq_false c13
  clear c13
  simp only [Option.some.injEq, Prod.mk.injEq] at H
  obtain ⟨rfl, rfl, rfl, rfl⟩ := H
  go_enter Try.func18, Try.ntmps18
  go_wp2_with (first | ((with_reducible refine gate_dst (N := 2) rfl ?_); refine box_event ?hg (N := 2) ?hd (cs := #[.int .i64 a0_0, .int .u64 a0_1]) (t := 30) ?hr ?_; (case hd => rfl); (case hg => rfl); (case hr => first | (go_simp; done) | (go_simp; rfl)); intro gb132 hg w40 hbox hb; have BK132 := Aside0.mk (hbox); have GE132 := Aside0.mk (bG hg (HB.out)); replace HB := Aside0.mk (below_step (HB.out) hb); clear hb hbox hg) | ((with_reducible refine gate_dst (N := 4) rfl ?_); refine box_event ?hg (N := 4) ?hd (cs := #[.int .i64 0, .int .u64 0]) (t := 30) ?hr ?_; (case hd => rfl); (case hg => rfl); (case hr => first | (go_simp; done) | (go_simp; rfl)); intro gb133 hg w41 hbox hb; have BK133 := Aside0.mk (hbox); have GE133 := Aside0.mk (bG hg (HB.out)); have NB132_133 := cN hg BK132; have NB133_132 := cM hg BK132; replace BK132 := cB hb BK132; replace HB := Aside0.mk (below_step (HB.out) hb); clear hb hbox hg; have hnb42 := NB132_133.out; have hnc42 := NB133_132.out; obtain ⟨hcz43_0, hcz43_1⟩ := cells2 BK132.out) | ((with_reducible refine gate_callee (f := 39) rfl ?_); refine goesL_ (some 19) rfl rfl Try.func39 (by kernel_rfl) rfl #[.agg #[.int .i64 a0_0, .int .u64 a0_1]] rfl (by (try simp only [List.map_toArray, List.map_cons, List.map_nil]); first | done | rfl | (simp only [List.length_drop, List.length_take]; rfl)) ?_; (with_reducible refine (wide_size.calls a0_0 a0_1 t134 t135 _ A8.out).mono ?_); rintro e w44 ⟨rfl, hb⟩; refine ⟨_, rfl, ?_⟩; replace BK132 := cB hb BK132; replace BK133 := cB hb BK133; replace HB := Aside0.mk (below_step (HB.out) hb); (try clear hb); (try clear hb2); (try clear hk); (try clear hi)) | ((with_reducible refine gate_callee (f := 40) rfl ?_); refine goesL_ (some 26) rfl rfl Try.func40 (by kernel_rfl) rfl #[.int .u64 0, .int .u64 t134, .int .u64 (IntKind.u64.wrap (a1))] rfl (by (try simp only [List.map_toArray, List.map_cons, List.map_nil]); first | done | rfl | (simp only [List.length_drop, List.length_take]; rfl)) ?_; (with_reducible refine (bits_Div64.calls k 0 t134 (IntKind.u64.wrap (a1)) t136 t137 _ A9.out).mono ?_); rintro e w45 ⟨rfl, hb⟩; refine ⟨_, rfl, ?_⟩; replace BK132 := cB hb BK132; replace BK133 := cB hb BK133; replace HB := Aside0.mk (below_step (HB.out) hb); (try clear hb); (try clear hb2); (try clear hk); (try clear hi)) | ((with_reducible refine gate_callee (f := 40) rfl ?_); refine goesL_ (some 34) rfl rfl Try.func40 (by kernel_rfl) rfl #[.int .u64 t137, .int .u64 t135, .int .u64 (IntKind.u64.wrap (a1))] rfl (by (try simp only [List.map_toArray, List.map_cons, List.map_nil]); first | done | rfl | (simp only [List.length_drop, List.length_take]; rfl)) ?_; (with_reducible refine (bits_Div64.calls k t137 t135 (IntKind.u64.wrap (a1)) t138 t139 _ A10.out).mono ?_); rintro e w46 ⟨rfl, hb⟩; refine ⟨_, rfl, ?_⟩; replace BK132 := cB hb BK132; replace BK133 := cB hb BK133; replace HB := Aside0.mk (below_step (HB.out) hb); (try clear hb); (try clear hb2); (try clear hk); (try clear hi)) | ((with_reducible refine gate_dst (N := 12) rfl ?_); refine box_event ?hg (N := 12) ?hd (cs := #[.int .i64 0, .int .u64 0]) (t := 30) ?hr ?_; (case hd => rfl); (case hg => rfl); (case hr => first | (go_simp; done) | (go_simp; rfl)); intro gb140 hg w47 hbox hb; have BK140 := Aside0.mk (hbox); have GE140 := Aside0.mk (bG hg (HB.out)); have NB132_140 := cN hg BK132; have NB140_132 := cM hg BK132; have NB133_140 := cN hg BK133; have NB140_133 := cM hg BK133; replace BK132 := cB hb BK132; replace BK133 := cB hb BK133; replace HB := Aside0.mk (below_step (HB.out) hb); clear hb hbox hg; have hnb48 := NB140_132.out; have hnc48 := NB132_140.out; have hnb49 := NB140_133.out; have hnc49 := NB133_140.out; obtain ⟨hcz50_0, hcz50_1⟩ := cells2 BK140.out; have hfz50_0 := blk_frozen BK140.out 0; have hfz50_1 := blk_frozen BK140.out 1) | ((with_reducible refine gate_store (t := 30) (p := 12) rfl ?_); refine store_event (t := 30) (p := 12) (v := ?vo_w51) (w1 := ((w47.setCell ⟨gb140, 0, none⟩ (.int .i64 (wrap64 (t136)))).setCell ⟨gb140, 1, none⟩ (.int .u64 t138))) ?hg ?ho ?hn ?hr ?_; (case ho => rfl); (case hg => rfl); (case hn => rfl); (case hr => first | (go_simp; done) | (go_simp; rfl)); intro w51 hw; have n0_ : Aside0 (w51.heap[gb132]? = some (.cells #[.int .i64 a0_0, .int .u64 a0_1] 30 (0, 0))) := ⟨(by rw [hw]; exact ((blk_far (blk_far BK132.out NB132_140.out _) NB132_140.out _)))⟩; have n1_ : Aside0 (w51.heap[gb133]? = some (.cells #[.int .i64 0, .int .u64 0] 30 (0, 0))) := ⟨(by rw [hw]; exact ((blk_far (blk_far BK133.out NB133_140.out _) NB133_140.out _)))⟩; have n2_ : Aside0 (w51.heap[gb140]? = some (.cells #[.int .i64 (wrap64 (t136)), .int .u64 t138] 30 (0, 0))) := ⟨(by rw [hw]; exact ((blk_put (cs' := #[.int .i64 (wrap64 (t136)), .int .u64 t138]) (blk_put BK140.out 0 _ rfl) 1 _ rfl)))⟩; have n3_ : Aside0 (Below w.heap.size w w51) := ⟨(by rw [hw]; exact ((below_set (below_set HB.out GE140.out) GE140.out)))⟩; clear hw; clear BK132; clear BK133; clear BK140; clear HB; have BK132 := n0_; have BK133 := n1_; have BK140 := n2_; have HB := n3_; clear n0_ n1_ n2_ n3_; obtain ⟨hcz52_0, hcz52_1⟩ := cells2 BK132.out; obtain ⟨hcz53_0, hcz53_1⟩ := cells2 BK140.out; have hfz53_0 := blk_frozen BK140.out 0; have hfz53_1 := blk_frozen BK140.out 1) | ((with_reducible refine gate_callee (f := 37) rfl ?_); refine goesL_ (some 47) rfl rfl Try.func37 (by kernel_rfl) rfl #[.agg #[.int .i64 (wrap64 (t136)), .int .u64 t138]] rfl (by (try simp only [List.map_toArray, List.map_cons, List.map_nil]); first | done | rfl | (simp only [List.length_drop, List.length_take]; rfl)) ?_; (with_reducible refine (wide_turned.calls (wrap64 (t136)) t138 t141 t142 _ A12.out).mono ?_); rintro e w54 ⟨rfl, hb⟩; refine ⟨_, rfl, ?_⟩; replace BK133 := cB hb BK133; replace BK140 := cB hb BK140; replace HB := Aside0.mk (below_step (HB.out) hb); (try clear hb); (try clear hb2); (try clear hk); (try clear hi); obtain ⟨hcz55_0, hcz55_1⟩ := cells2 BK140.out; have hfz55_0 := blk_frozen BK140.out 0; have hfz55_1 := blk_frozen BK140.out 1; obtain ⟨hcz56_0, hcz56_1⟩ := cells2 BK133.out; have hfz56_0 := blk_frozen BK133.out 0; have hfz56_1 := blk_frozen BK133.out 1))
  refine bodyPost_ret (results_ctt rfl _ _ gb133 30 #[.int .i64 t141, .int .u64 t142] (0, 0) _ rfl ((blk_put (cs' := #[.int .i64 t141, .int .u64 t142]) (blk_put (blk_far (blk_far BK133.out NB133_140.out _) NB133_140.out _) 0 _ rfl) 1 _ rfl)) Try.underlying30 rfl (by kernel_rfl)) rfl ?_
  exact ⟨by first | rfl | (simp [errW_none, errW_some] <;> rfl) | (simp [*, errW_none, errW_some] <;> rfl), (below_set (below_set (below_set (below_set HB.out GE140.out) GE140.out) GE133.out) GE133.out)⟩
 rw [if_neg c11] at H
 have c11b0 : decide (a0_0 < 0) = false := decide_eq_false c11
 clear c11
 simp only [Option.some.injEq, Prod.mk.injEq] at H
 obtain ⟨rfl, rfl, rfl, rfl⟩ := H
 go_enter Try.func18, Try.ntmps18
 go_wp2_with (first | ((with_reducible refine gate_dst (N := 2) rfl ?_); refine box_event ?hg (N := 2) ?hd (cs := #[.int .i64 a0_0, .int .u64 a0_1]) (t := 30) ?hr ?_; (case hd => rfl); (case hg => rfl); (case hr => first | (go_simp; done) | (go_simp; rfl)); intro gb132 hg w57 hbox hb; have BK132 := Aside0.mk (hbox); have GE132 := Aside0.mk (bG hg (HB.out)); replace HB := Aside0.mk (below_step (HB.out) hb); clear hb hbox hg) | ((with_reducible refine gate_dst (N := 4) rfl ?_); refine box_event ?hg (N := 4) ?hd (cs := #[.int .i64 0, .int .u64 0]) (t := 30) ?hr ?_; (case hd => rfl); (case hg => rfl); (case hr => first | (go_simp; done) | (go_simp; rfl)); intro gb133 hg w58 hbox hb; have BK133 := Aside0.mk (hbox); have GE133 := Aside0.mk (bG hg (HB.out)); have NB132_133 := cN hg BK132; have NB133_132 := cM hg BK132; replace BK132 := cB hb BK132; replace HB := Aside0.mk (below_step (HB.out) hb); clear hb hbox hg; have hnb59 := NB132_133.out; have hnc59 := NB133_132.out; obtain ⟨hcz60_0, hcz60_1⟩ := cells2 BK132.out) | ((with_reducible refine gate_callee (f := 39) rfl ?_); refine goesL_ (some 19) rfl rfl Try.func39 (by kernel_rfl) rfl #[.agg #[.int .i64 a0_0, .int .u64 a0_1]] rfl (by (try simp only [List.map_toArray, List.map_cons, List.map_nil]); first | done | rfl | (simp only [List.length_drop, List.length_take]; rfl)) ?_; (with_reducible refine (wide_size.calls a0_0 a0_1 t134 t135 _ A8.out).mono ?_); rintro e w61 ⟨rfl, hb⟩; refine ⟨_, rfl, ?_⟩; replace BK132 := cB hb BK132; replace BK133 := cB hb BK133; replace HB := Aside0.mk (below_step (HB.out) hb); (try clear hb); (try clear hb2); (try clear hk); (try clear hi)) | ((with_reducible refine gate_callee (f := 40) rfl ?_); refine goesL_ (some 26) rfl rfl Try.func40 (by kernel_rfl) rfl #[.int .u64 0, .int .u64 t134, .int .u64 (IntKind.u64.wrap (a1))] rfl (by (try simp only [List.map_toArray, List.map_cons, List.map_nil]); first | done | rfl | (simp only [List.length_drop, List.length_take]; rfl)) ?_; (with_reducible refine (bits_Div64.calls k 0 t134 (IntKind.u64.wrap (a1)) t136 t137 _ A9.out).mono ?_); rintro e w62 ⟨rfl, hb⟩; refine ⟨_, rfl, ?_⟩; replace BK132 := cB hb BK132; replace BK133 := cB hb BK133; replace HB := Aside0.mk (below_step (HB.out) hb); (try clear hb); (try clear hb2); (try clear hk); (try clear hi)) | ((with_reducible refine gate_callee (f := 40) rfl ?_); refine goesL_ (some 34) rfl rfl Try.func40 (by kernel_rfl) rfl #[.int .u64 t137, .int .u64 t135, .int .u64 (IntKind.u64.wrap (a1))] rfl (by (try simp only [List.map_toArray, List.map_cons, List.map_nil]); first | done | rfl | (simp only [List.length_drop, List.length_take]; rfl)) ?_; (with_reducible refine (bits_Div64.calls k t137 t135 (IntKind.u64.wrap (a1)) t138 t139 _ A10.out).mono ?_); rintro e w63 ⟨rfl, hb⟩; refine ⟨_, rfl, ?_⟩; replace BK132 := cB hb BK132; replace BK133 := cB hb BK133; replace HB := Aside0.mk (below_step (HB.out) hb); (try clear hb); (try clear hb2); (try clear hk); (try clear hi)) | ((with_reducible refine gate_dst (N := 12) rfl ?_); refine box_event ?hg (N := 12) ?hd (cs := #[.int .i64 0, .int .u64 0]) (t := 30) ?hr ?_; (case hd => rfl); (case hg => rfl); (case hr => first | (go_simp; done) | (go_simp; rfl)); intro gb140 hg w64 hbox hb; have BK140 := Aside0.mk (hbox); have GE140 := Aside0.mk (bG hg (HB.out)); have NB132_140 := cN hg BK132; have NB140_132 := cM hg BK132; have NB133_140 := cN hg BK133; have NB140_133 := cM hg BK133; replace BK132 := cB hb BK132; replace BK133 := cB hb BK133; replace HB := Aside0.mk (below_step (HB.out) hb); clear hb hbox hg; have hnb65 := NB140_132.out; have hnc65 := NB132_140.out; have hnb66 := NB140_133.out; have hnc66 := NB133_140.out; obtain ⟨hcz67_0, hcz67_1⟩ := cells2 BK140.out; have hfz67_0 := blk_frozen BK140.out 0; have hfz67_1 := blk_frozen BK140.out 1; obtain ⟨hcz68_0, hcz68_1⟩ := cells2 BK132.out; obtain ⟨hcz69_0, hcz69_1⟩ := cells2 BK133.out; have hfz69_0 := blk_frozen BK133.out 0; have hfz69_1 := blk_frozen BK133.out 1))
 refine bodyPost_ret (results_ctt rfl _ _ gb133 30 #[.int .i64 (wrap64 (t136)), .int .u64 t138] (0, 0) _ rfl ((blk_put (cs' := #[.int .i64 (wrap64 (t136)), .int .u64 t138]) (blk_put (blk_far (blk_far BK133.out NB133_140.out _) NB133_140.out _) 0 _ rfl) 1 _ rfl)) Try.underlying30 rfl (by kernel_rfl)) rfl ?_
 exact ⟨by first | rfl | (simp [errW_none, errW_some] <;> rfl) | (simp [*, errW_none, errW_some] <;> rfl), (below_set (below_set (below_set (below_set HB.out GE140.out) GE140.out) GE133.out) GE133.out)⟩

end Go.Proofs.Ytmkdnoikbefimaa.G
