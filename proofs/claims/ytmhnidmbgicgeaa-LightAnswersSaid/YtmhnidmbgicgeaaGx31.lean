-- Written by a program of this session (wip/gen), out of the translation; Lean checks it.
import Derived.Test.YtmhnidmbgicgeaaGx0
import Derived.Test.YtmhnidmbgicgeaaGx1
import Derived.Test.YtmhnidmbgicgeaaGx30
namespace Go.Proofs.Ytmhnidmbgicgeaa.G
open Go.RowKit Go.Proofs.YtmhnidmbgicgeaaW.PrintWords Go.Proofs.YtmhnidmbgicgeaaW.PrintLast Go.Proofs.YtmhnidmbgicgeaaW.PrintMore
attribute [local go_sem] max2_int min2_int max_two min_two max_three min_three max_four min_four   -- for this text's walks alone
set_option linter.unusedVariables false
set_option linter.unusedSimpArgs false

attribute [local go_sem high] eqA26
/-! ### relievoref19_fine: function 35 -/
def relievoref19_fine.f (a0_0 : Int) (a0_1 : Int) (a0_2 : Int) (a1_0 : Int) (a1_1 : Int) (a1_2 : Int) : Option (Bool) := if (!(a1_0 == 0) || (!(a1_1 == 0) || (!(a1_2 == 0)))) = true then ((relievoref00_Within.f a1_0 a1_1 a1_2 1023).bind fun t272 => (if t272 = true then ((relievoref00_Within.f a0_0 a0_1 a0_2 32768).bind fun t273 => (some t273)) else (some false))) else (some false)
set_option maxHeartbeats 8000000 in
set_option maxRecDepth 100000 in
theorem relievoref19_fine.calls (a0_0 : Int) (a0_1 : Int) (a0_2 : Int) (a1_0 : Int) (a1_1 : Int) (a1_2 : Int) (r : Bool) (w : World) (h : relievoref19_fine.f a0_0 a0_1 a0_2 a1_0 a1_1 a1_2 = some r) :
    Calls Try.prog 35 #[.agg #[.int .i64 a0_0, .int .i64 a0_1, .int .i64 a0_2], .agg #[.int .i64 a1_0, .int .i64 a1_1, .int .i64 a1_2]] w fun e w' => e = .returned (.bool r) ∧ Below w.heap.size w w' := by
 have hu26 := Try.underlying26
 have HB := Aside0.mk (Below.refl w.heap.size w)
 have H : (if (!(a1_0 == 0) || (!(a1_1 == 0) || (!(a1_2 == 0)))) = true then ((relievoref00_Within.f a1_0 a1_1 a1_2 1023).bind fun t272 => (if t272 = true then ((relievoref00_Within.f a0_0 a0_1 a0_2 32768).bind fun t273 => (some t273)) else (some false))) else (some false)) = some r := h
 clear h
 by_cases c3 : (!(a1_0 == 0) || (!(a1_1 == 0) || (!(a1_2 == 0)))) = true
 ·rw [if_pos c3] at H
  have c3b0 : (!(a1_0 == 0) || (!(a1_1 == 0) || (!(a1_2 == 0)))) = true := c3
  clear c3
  replace H := Option.bind_eq_some_iff.mp H
  obtain ⟨t272, A40, H⟩ := H
  replace H : (if t272 = true then ((relievoref00_Within.f a0_0 a0_1 a0_2 32768).bind fun t273 => (some t273)) else (some false)) = some r := H
  have A4 := Aside0.mk A40
  clear A40
  by_cases c5 : t272 = true
  ·subst c5
   have H1 : ((relievoref00_Within.f a0_0 a0_1 a0_2 32768).bind fun t273 => (some t273)) = some r := by rw [if_pos rfl] at H; exact H
   clear H
   have H := H1
   clear H1
   replace H := Option.bind_eq_some_iff.mp H
   obtain ⟨t273, A60, H⟩ := H
   replace H : (some t273) = some r := H
   have A6 := Aside0.mk A60
   clear A60
   obtain rfl := Option.some.inj H
   go_enter Try.func35, Try.ntmps35
   go_wp2_with (first | ((with_reducible refine gate_dst (N := 2) rfl ?_); refine box_event ?hg (N := 2) ?hd (cs := #[.int .i64 a0_0, .int .i64 a0_1, .int .i64 a0_2]) (t := 26) ?hr ?_; (case hd => rfl); (case hg => rfl); (case hr => first | (go_simp; done) | (go_simp; rfl)); intro gb270 hg w7 hbox hb; have BK270 := Aside0.mk (hbox); have GE270 := Aside0.mk (bG hg (HB.out)); replace HB := Aside0.mk (below_step (HB.out) hb); clear hb hbox hg) | ((with_reducible refine gate_dst (N := 3) rfl ?_); refine box_event ?hg (N := 3) ?hd (cs := #[.int .i64 a1_0, .int .i64 a1_1, .int .i64 a1_2]) (t := 26) ?hr ?_; (case hd => rfl); (case hg => rfl); (case hr => first | (go_simp; done) | (go_simp; rfl)); intro gb271 hg w8 hbox hb; have BK271 := Aside0.mk (hbox); have GE271 := Aside0.mk (bG hg (HB.out)); have NB270_271 := cN hg BK270; have NB271_270 := cM hg BK270; replace BK270 := cB hb BK270; replace HB := Aside0.mk (below_step (HB.out) hb); clear hb hbox hg; obtain ⟨hcz9_0, hcz9_1, hcz9_2⟩ := cells3 BK271.out) | (go_at_call 42; (with_reducible refine (relievoref00_Within.calls a1_0 a1_1 a1_2 1023 true _ A4.out).mono ?_); rintro e w10 ⟨rfl, hb⟩; replace BK270 := cB hb BK270; replace BK271 := cB hb BK271; replace HB := Aside0.mk (below_step (HB.out) hb); (try clear hb); (try clear hb2); (try clear hk); (try clear hi); obtain ⟨hcz11_0, hcz11_1, hcz11_2⟩ := cells3 BK270.out) | (go_at_call 42; (with_reducible refine (relievoref00_Within.calls a0_0 a0_1 a0_2 32768 t273 _ A6.out).mono ?_); rintro e w12 ⟨rfl, hb⟩; replace BK270 := cB hb BK270; replace BK271 := cB hb BK271; replace HB := Aside0.mk (below_step (HB.out) hb); (try clear hb); (try clear hb2); (try clear hk); (try clear hi)))
   go_ret
   exact ⟨by first | rfl | (simp [errW_none, errW_some] <;> rfl) | (simp [*, errW_none, errW_some] <;> rfl), HB.out⟩
  replace c5 := Bool.eq_false_iff.mpr c5
  subst c5
  have H1 : (some false) = some r := by rw [if_neg (show ¬ (false = true) by decide)] at H; exact H
  clear H
  have H := H1
  clear H1
  obtain rfl := Option.some.inj H
  go_enter Try.func35, Try.ntmps35
  go_wp2_with (first | ((with_reducible refine gate_dst (N := 2) rfl ?_); refine box_event ?hg (N := 2) ?hd (cs := #[.int .i64 a0_0, .int .i64 a0_1, .int .i64 a0_2]) (t := 26) ?hr ?_; (case hd => rfl); (case hg => rfl); (case hr => first | (go_simp; done) | (go_simp; rfl)); intro gb270 hg w13 hbox hb; have BK270 := Aside0.mk (hbox); have GE270 := Aside0.mk (bG hg (HB.out)); replace HB := Aside0.mk (below_step (HB.out) hb); clear hb hbox hg) | ((with_reducible refine gate_dst (N := 3) rfl ?_); refine box_event ?hg (N := 3) ?hd (cs := #[.int .i64 a1_0, .int .i64 a1_1, .int .i64 a1_2]) (t := 26) ?hr ?_; (case hd => rfl); (case hg => rfl); (case hr => first | (go_simp; done) | (go_simp; rfl)); intro gb271 hg w14 hbox hb; have BK271 := Aside0.mk (hbox); have GE271 := Aside0.mk (bG hg (HB.out)); have NB270_271 := cN hg BK270; have NB271_270 := cM hg BK270; replace BK270 := cB hb BK270; replace HB := Aside0.mk (below_step (HB.out) hb); clear hb hbox hg; obtain ⟨hcz15_0, hcz15_1, hcz15_2⟩ := cells3 BK271.out) | (go_at_call 42; (with_reducible refine (relievoref00_Within.calls a1_0 a1_1 a1_2 1023 false _ A4.out).mono ?_); rintro e w16 ⟨rfl, hb⟩; replace BK270 := cB hb BK270; replace BK271 := cB hb BK271; replace HB := Aside0.mk (below_step (HB.out) hb); (try clear hb); (try clear hb2); (try clear hk); (try clear hi)))
  go_ret
  exact ⟨by first | rfl | (simp [errW_none, errW_some] <;> rfl) | (simp [*, errW_none, errW_some] <;> rfl), HB.out⟩
 rw [if_neg c3] at H
 have c3b0 : (!(a1_0 == 0) || (!(a1_1 == 0) || (!(a1_2 == 0)))) = false := by simpa using c3
 clear c3
 obtain rfl := Option.some.inj H
 go_enter Try.func35, Try.ntmps35
 go_wp2_with (first | ((with_reducible refine gate_dst (N := 2) rfl ?_); refine box_event ?hg (N := 2) ?hd (cs := #[.int .i64 a0_0, .int .i64 a0_1, .int .i64 a0_2]) (t := 26) ?hr ?_; (case hd => rfl); (case hg => rfl); (case hr => first | (go_simp; done) | (go_simp; rfl)); intro gb270 hg w17 hbox hb; have BK270 := Aside0.mk (hbox); have GE270 := Aside0.mk (bG hg (HB.out)); replace HB := Aside0.mk (below_step (HB.out) hb); clear hb hbox hg) | ((with_reducible refine gate_dst (N := 3) rfl ?_); refine box_event ?hg (N := 3) ?hd (cs := #[.int .i64 a1_0, .int .i64 a1_1, .int .i64 a1_2]) (t := 26) ?hr ?_; (case hd => rfl); (case hg => rfl); (case hr => first | (go_simp; done) | (go_simp; rfl)); intro gb271 hg w18 hbox hb; have BK271 := Aside0.mk (hbox); have GE271 := Aside0.mk (bG hg (HB.out)); have NB270_271 := cN hg BK270; have NB271_270 := cM hg BK270; replace BK270 := cB hb BK270; replace HB := Aside0.mk (below_step (HB.out) hb); clear hb hbox hg; obtain ⟨hcz19_0, hcz19_1, hcz19_2⟩ := cells3 BK271.out))
 go_ret
 exact ⟨by first | rfl | (simp [errW_none, errW_some] <;> rfl) | (simp [*, errW_none, errW_some] <;> rfl), HB.out⟩

end Go.Proofs.Ytmhnidmbgicgeaa.G
