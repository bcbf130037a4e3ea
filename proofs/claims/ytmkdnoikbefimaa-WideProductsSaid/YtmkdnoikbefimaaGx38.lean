-- Written by a program of this session (wip/gen), out of the translation; Lean checks it.
import Derived.Test.YtmkdnoikbefimaaGx0
import Derived.Test.YtmkdnoikbefimaaGx3
namespace Go.Proofs.Ytmkdnoikbefimaa.G
open Go.RowKit Go.Proofs.YtmkdnoikbefimaaW.PrintWords Go.Proofs.YtmkdnoikbefimaaW.PrintLast Go.Proofs.YtmkdnoikbefimaaW.PrintMore
attribute [local go_sem] max2_int min2_int max_two min_two max_three min_three max_four min_four   -- for this text's walks alone
set_option linter.unusedVariables false
set_option linter.unusedSimpArgs false

/-! ### wide_Sqrt: function 21 -/
def wide_Sqrt.l0 : Nat → Int → Int → Int → Int → Option (Int × Bool)
  | 0, _, _, _, _ => none
  | k + 1, x4, x5, x228000, x228001 => if x5 > 0 then ((bits_Mul64.f (Go.bits .or .u64 x4 x5) (Go.bits .or .u64 x4 x5)).bind fun bt228 => (if bt228.1 < (IntKind.u64.wrap (x228000)) then (wide_Sqrt.l0 k (Go.bits .or .u64 x4 x5) (x5 / 2) x228000 x228001) else (if bt228.1 = (IntKind.u64.wrap (x228000)) then (if bt228.2 ≤ x228001 then (wide_Sqrt.l0 k (Go.bits .or .u64 x4 x5) (x5 / 2) x228000 x228001) else (wide_Sqrt.l0 k x4 (x5 / 2) x228000 x228001)) else (wide_Sqrt.l0 k x4 (x5 / 2) x228000 x228001)))) else (if x4 > 9223372036854775807 then (some (0, false)) else (some (wrap64 (x4), true)))
def wide_Sqrt.f (k : Nat) (a0_0 : Int) (a0_1 : Int) : Option (Int × Bool) := if a0_0 < 0 then (some (0, false)) else (wide_Sqrt.l0 k 0 9223372036854775808 a0_0 a0_1)
theorem wide_Sqrt.mono_l : ∀ k, (∀ y0 y1 y2 y3, LeO (wide_Sqrt.l0 k y0 y1 y2 y3) (wide_Sqrt.l0 (k + 1) y0 y1 y2 y3))
  | 0 => fun _ _ _ _ r h => by simp [wide_Sqrt.l0] at h
  | k + 1 => by
    have ih0 := wide_Sqrt.mono_l k
    · intro y0 y1 y2 y3
      unfold wide_Sqrt.l0
      repeat' first
      | (with_reducible exact ih0 _ _ _ _)
      | (with_reducible exact LeO.refl _)
      | (with_reducible exact LeO.none _)
      | (with_reducible refine LeO.ite ?_ ?_)
      | (with_reducible refine LeO.bind ?_ (fun _ => ?_))
      | exact ih0 _ _ _ _
      | exact LeO.none _
      | refine LeO.ite ?_ ?_
      | refine LeO.bind ?_ (fun _ => ?_)
theorem wide_Sqrt.mono : ∀ a0 a1 k, LeO (wide_Sqrt.f k a0 a1) (wide_Sqrt.f (k + 1) a0 a1) := by
  intro a0 a1 k
  have ih0 := wide_Sqrt.mono_l k
  unfold wide_Sqrt.f
  repeat' first
      | (with_reducible exact ih0 _ _ _ _)
      | (with_reducible exact LeO.refl _)
      | (with_reducible exact LeO.none _)
      | (with_reducible refine LeO.ite ?_ ?_)
      | (with_reducible refine LeO.bind ?_ (fun _ => ?_))
      | exact ih0 _ _ _ _
      | exact LeO.none _
      | refine LeO.ite ?_ ?_
      | refine LeO.bind ?_ (fun _ => ?_)
set_option maxHeartbeats 8000000 in
set_option maxRecDepth 100000 in
theorem wide_Sqrt.calls (k : Nat) (a0_0 : Int) (a0_1 : Int) (r1 : Int) (r2 : Bool) (w : World) (h : wide_Sqrt.f k a0_0 a0_1 = some (r1, r2)) :
    Calls Try.prog 21 #[.agg #[.int .i64 a0_0, .int .u64 a0_1]] w fun e w' => e = .returned (.tuple #[.int .i64 r1, .bool r2]) ∧ Below w.heap.size w w' := by
 have hu30 := Try.underlying30
 have HB := Aside0.mk (Below.refl w.heap.size w)
 have H : (if a0_0 < 0 then (some (0, false)) else (wide_Sqrt.l0 k 0 9223372036854775808 a0_0 a0_1)) = some (r1, r2) := h
 clear h
 by_cases c2 : a0_0 < 0
 ·rw [if_pos c2] at H
  have c2b0 : decide (a0_0 < 0) = true := decide_eq_true c2
  clear c2
  simp only [Option.some.injEq, Prod.mk.injEq] at H
  obtain ⟨rfl, rfl⟩ := H
  go_enter Try.func21, Try.ntmps21
  go_wp2_with (first | ((with_reducible refine gate_dst (N := 1) rfl ?_); refine box_event ?hg (N := 1) ?hd (cs := #[.int .i64 a0_0, .int .u64 a0_1]) (t := 30) ?hr ?_; (case hd => rfl); (case hg => rfl); (case hr => first | (go_simp; done) | (go_simp; rfl)); intro gb227 hg w3 hbox hb; have BK227 := Aside0.mk (hbox); have GE227 := Aside0.mk (bG hg (by first | exact HB.out | (repeat (first | exact HB.out | apply pw_below_drewN | apply below_drew1 | apply below_alloc)))); replace HB := Aside0.mk (below_step (by first | exact HB.out | (repeat (first | exact HB.out | apply pw_below_drewN | apply below_drew1 | apply below_alloc))) hb); clear hb hbox hg; obtain ⟨hcz4_0, hcz4_1⟩ := cells2 BK227.out))
  go_ret2
  exact ⟨by first | rfl | (simp [errW_none, errW_some] <;> rfl) | (simp [*, errW_none, errW_some] <;> rfl), by first | exact HB.out | (repeat (first | exact HB.out | apply pw_below_drewN | apply below_drew1 | apply below_alloc))⟩
 rw [if_neg c2] at H
 have c2b0 : decide (a0_0 < 0) = false := decide_eq_false c2
 clear c2
 have H' := Aside0.mk H
 clear H
 go_enter Try.func21, Try.ntmps21
 go_wp2_with (first | ((with_reducible refine gate_dst (N := 1) rfl ?_); refine box_event ?hg (N := 1) ?hd (cs := #[.int .i64 a0_0, .int .u64 a0_1]) (t := 30) ?hr ?_; (case hd => rfl); (case hg => rfl); (case hr => first | (go_simp; done) | (go_simp; rfl)); intro gb227 hg w5 hbox hb; have BK227 := Aside0.mk (hbox); have GE227 := Aside0.mk (bG hg (by first | exact HB.out | (repeat (first | exact HB.out | apply pw_below_drewN | apply below_drew1 | apply below_alloc)))); replace HB := Aside0.mk (below_step (by first | exact HB.out | (repeat (first | exact HB.out | apply pw_below_drewN | apply below_drew1 | apply below_alloc))) hb); clear hb hbox hg; obtain ⟨hcz6_0, hcz6_1⟩ := cells2 BK227.out))
 go_loopg [4, 5] k (fun kq v4 v5 w' => ∃ (x4_1 : Int) (x5_1 : Int), v4 = .int .u64 x4_1 ∧ v5 = .int .u64 x5_1 ∧ Aside0 (wide_Sqrt.l0 kq x4_1 x5_1 a0_0 a0_1 = some (r1, r2)) ∧ Aside0 (kq ≤ k) ∧ Aside0 (w'.heap[gb227]? = some (.cells #[.int .i64 a0_0, .int .u64 a0_1] 30 (0, 0))) ∧ Aside0 (Below w.heap.size w w'))
 case atStart => exact ⟨(0), (9223372036854775808), (by first | rfl | (simp; done) | (simp [*]; done)), (by first | rfl | (simp; done) | (simp [*]; done)), H', ⟨Nat.le_refl _⟩, ⟨BK227.out⟩, ⟨by first | exact HB.out | (repeat (first | exact HB.out | apply pw_below_drewN | apply below_drew1 | apply below_alloc))⟩⟩
 case round =>
  clear H'
  try clear c2
  try clear c2b0
  try clear hcz6_0
  try clear hcz6_1
  obtain ⟨x4_1, x5_1, rfl, rfl, HA, HK1, BK227, HB⟩ := hrel
  cases gk with
  | zero => exact absurd HA.out (by simp [wide_Sqrt.l0])
  | succ k1 =>
   have H := HA.out
   clear HA
   simp only [wide_Sqrt.l0] at H
   by_cases c7 : x5_1 > 0
   ·rw [if_pos c7] at H
    have c7b0 : decide (0 < x5_1) = true := decide_eq_true c7
    clear c7
    replace H := Option.bind_eq_some_iff.mp H
    obtain ⟨⟨t228, t229⟩, A80, H⟩ := H
    replace H : (if t228 < (IntKind.u64.wrap (a0_0)) then (wide_Sqrt.l0 k1 (Go.bits .or .u64 x4_1 x5_1) (x5_1 / 2) a0_0 a0_1) else (if t228 = (IntKind.u64.wrap (a0_0)) then (if t229 ≤ a0_1 then (wide_Sqrt.l0 k1 (Go.bits .or .u64 x4_1 x5_1) (x5_1 / 2) a0_0 a0_1) else (wide_Sqrt.l0 k1 x4_1 (x5_1 / 2) a0_0 a0_1)) else (wide_Sqrt.l0 k1 x4_1 (x5_1 / 2) a0_0 a0_1))) = some (r1, r2) := H
    have A8 := Aside0.mk A80
    clear A80
    by_cases c9 : t228 < (IntKind.u64.wrap (a0_0))
    ·rw [if_pos c9] at H
     have c9b0 : decide (t228 < (IntKind.u64.wrap (a0_0))) = true := decide_eq_true c9
     clear c9
     have H' := Aside0.mk H
     clear H
     go_wp2_with (first | ((with_reducible refine gate_callee (f := 33) rfl ?_); refine goesL_ (some 22) rfl rfl Try.func33 (by kernel_rfl) rfl #[.int .u64 (Go.bits .or .u64 x4_1 x5_1), .int .u64 (Go.bits .or .u64 x4_1 x5_1)] rfl (by (try simp only [List.map_toArray, List.map_cons, List.map_nil]); first | done | rfl | (simp only [List.length_drop, List.length_take]; rfl)) ?_; (with_reducible refine (bits_Mul64.calls (Go.bits .or .u64 x4_1 x5_1) (Go.bits .or .u64 x4_1 x5_1) t228 t229 _ A8.out).mono ?_); rintro e w' ⟨rfl, ⟨nd, rfl⟩⟩; refine ⟨_, rfl, ?_⟩; obtain ⟨hcz10_0, hcz10_1⟩ := cells2 BK227.out))
     go_roundg k1
     case measure => have := HK1.out; omega
     case rel => exact ⟨(Go.bits .or .u64 x4_1 x5_1), (x5_1 / 2), (by first | rfl | (simp; done) | (simp [*]; done)), (by first | rfl | (simp; done) | (simp [*]; done)), H', ⟨by have := HK1.out; omega⟩, ⟨BK227.out⟩, ⟨by first | exact HB.out | (repeat (first | exact HB.out | apply pw_below_drewN | apply below_drew1 | apply below_alloc))⟩⟩
    rw [if_neg c9] at H
    have c9b0 : decide (t228 < (IntKind.u64.wrap (a0_0))) = false := decide_eq_false c9
    clear c9
    by_cases c11 : t228 = (IntKind.u64.wrap (a0_0))
    ·rw [if_pos c11] at H
     have c11b0 : (t228 == (IntKind.u64.wrap (a0_0))) = true := beq_iff_eq.mpr c11
     have c11b1 : (t228 != (IntKind.u64.wrap (a0_0))) = false := bne_eq_false_iff_eq.mpr c11
     clear c11
     by_cases c12 : t229 ≤ a0_1
     ·rw [if_pos c12] at H
      have c12b0 : decide (t229 ≤ a0_1) = true := decide_eq_true c12
      clear c12
      have H' := Aside0.mk H
      clear H
      go_wp2_with (first | ((with_reducible refine gate_callee (f := 33) rfl ?_); refine goesL_ (some 22) rfl rfl Try.func33 (by kernel_rfl) rfl #[.int .u64 (Go.bits .or .u64 x4_1 x5_1), .int .u64 (Go.bits .or .u64 x4_1 x5_1)] rfl (by (try simp only [List.map_toArray, List.map_cons, List.map_nil]); first | done | rfl | (simp only [List.length_drop, List.length_take]; rfl)) ?_; (with_reducible refine (bits_Mul64.calls (Go.bits .or .u64 x4_1 x5_1) (Go.bits .or .u64 x4_1 x5_1) t228 t229 _ A8.out).mono ?_); rintro e w' ⟨rfl, ⟨nd, rfl⟩⟩; refine ⟨_, rfl, ?_⟩; obtain ⟨hcz13_0, hcz13_1⟩ := cells2 BK227.out))
      go_roundg k1
      case measure => have := HK1.out; omega
      case rel => exact ⟨(Go.bits .or .u64 x4_1 x5_1), (x5_1 / 2), (by first | rfl | (simp; done) | (simp [*]; done)), (by first | rfl | (simp; done) | (simp [*]; done)), H', ⟨by have := HK1.out; omega⟩, ⟨BK227.out⟩, ⟨by first | exact HB.out | (repeat (first | exact HB.out | apply pw_below_drewN | apply below_drew1 | apply below_alloc))⟩⟩
     rw [if_neg c12] at H
     have c12b0 : decide (t229 ≤ a0_1) = false := decide_eq_false c12
     clear c12
     have H' := Aside0.mk H
     clear H
     go_wp2_with (first | ((with_reducible refine gate_callee (f := 33) rfl ?_); refine goesL_ (some 22) rfl rfl Try.func33 (by kernel_rfl) rfl #[.int .u64 (Go.bits .or .u64 x4_1 x5_1), .int .u64 (Go.bits .or .u64 x4_1 x5_1)] rfl (by (try simp only [List.map_toArray, List.map_cons, List.map_nil]); first | done | rfl | (simp only [List.length_drop, List.length_take]; rfl)) ?_; (with_reducible refine (bits_Mul64.calls (Go.bits .or .u64 x4_1 x5_1) (Go.bits .or .u64 x4_1 x5_1) t228 t229 _ A8.out).mono ?_); rintro e w' ⟨rfl, ⟨nd, rfl⟩⟩; refine ⟨_, rfl, ?_⟩; obtain ⟨hcz14_0, hcz14_1⟩ := cells2 BK227.out))
     go_roundg k1
     case measure => have := HK1.out; omega
     case rel => exact ⟨(x4_1), (x5_1 / 2), (by first | rfl | (simp; done) | (simp [*]; done)), (by first | rfl | (simp; done) | (simp [*]; done)), H', ⟨by have := HK1.out; omega⟩, ⟨BK227.out⟩, ⟨by first | exact HB.out | (repeat (first | exact HB.out | apply pw_below_drewN | apply below_drew1 | apply below_alloc))⟩⟩
    rw [if_neg c11] at H
    have c11b0 : (t228 == (IntKind.u64.wrap (a0_0))) = false := beq_eq_false_iff_ne.mpr c11
    have c11b1 : (t228 != (IntKind.u64.wrap (a0_0))) = true := bne_iff_ne.mpr c11
    have H' := Aside0.mk H
    clear H
    go_wp2_with (first | ((with_reducible refine gate_callee (f := 33) rfl ?_); refine goesL_ (some 22) rfl rfl Try.func33 (by kernel_rfl) rfl #[.int .u64 (Go.bits .or .u64 x4_1 x5_1), .int .u64 (Go.bits .or .u64 x4_1 x5_1)] rfl (by (try simp only [List.map_toArray, List.map_cons, List.map_nil]); first | done | rfl | (simp only [List.length_drop, List.length_take]; rfl)) ?_; (with_reducible refine (bits_Mul64.calls (Go.bits .or .u64 x4_1 x5_1) (Go.bits .or .u64 x4_1 x5_1) t228 t229 _ A8.out).mono ?_); rintro e w' ⟨rfl, ⟨nd, rfl⟩⟩; refine ⟨_, rfl, ?_⟩; obtain ⟨hcz15_0, hcz15_1⟩ := cells2 BK227.out))
    go_roundg k1
    case measure => have := HK1.out; omega
    case rel => exact ⟨(x4_1), (x5_1 / 2), (by first | rfl | (simp; done) | (simp [*]; done)), (by first | rfl | (simp; done) | (simp [*]; done)), H', ⟨by have := HK1.out; omega⟩, ⟨BK227.out⟩, ⟨by first | exact HB.out | (repeat (first | exact HB.out | apply pw_below_drewN | apply below_drew1 | apply below_alloc))⟩⟩
   rw [if_neg c7] at H
   have c7b0 : decide (0 < x5_1) = false := decide_eq_false c7
   clear c7
   by_cases c16 : x4_1 > 9223372036854775807
   ·rw [if_pos c16] at H
    have c16b0 : decide (9223372036854775807 < x4_1) = true := decide_eq_true c16
    clear c16
    simp only [Option.some.injEq, Prod.mk.injEq] at H
    obtain ⟨rfl, rfl⟩ := H
    go_wp2
    go_ret2
    exact ⟨by first | rfl | (simp [errW_none, errW_some] <;> rfl) | (simp [*, errW_none, errW_some] <;> rfl), by first | exact HB.out | (repeat (first | exact HB.out | apply pw_below_drewN | apply below_drew1 | apply below_alloc))⟩
   rw [if_neg c16] at H
   have c16b0 : decide (9223372036854775807 < x4_1) = false := decide_eq_false c16
   clear c16
   simp only [Option.some.injEq, Prod.mk.injEq] at H
   obtain ⟨rfl, rfl⟩ := H
   go_wp2
   go_ret2
   exact ⟨by first | rfl | (simp [errW_none, errW_some] <;> rfl) | (simp [*, errW_none, errW_some] <;> rfl), by first | exact HB.out | (repeat (first | exact HB.out | apply pw_below_drewN | apply below_drew1 | apply below_alloc))⟩

end Go.Proofs.Ytmkdnoikbefimaa.G
