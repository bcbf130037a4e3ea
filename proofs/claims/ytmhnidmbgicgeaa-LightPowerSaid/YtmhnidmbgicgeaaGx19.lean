-- Written by a program of this session (wip/gen), out of the translation; Lean checks it.
import Derived.Test.YtmhnidmbgicgeaaGx0
import Derived.Test.YtmhnidmbgicgeaaGx3
import Derived.Test.YtmhnidmbgicgeaaGx18
namespace Go.Proofs.Ytmhnidmbgicgeaa.G
open Go.RowKit Go.Proofs.YtmhnidmbgicgeaaW.PrintWords Go.Proofs.YtmhnidmbgicgeaaW.PrintLast Go.Proofs.YtmhnidmbgicgeaaW.PrintMore
attribute [local go_sem] max2_int min2_int max_two min_two max_three min_three max_four min_four   -- for this text's walks alone
set_option linter.unusedVariables false
set_option linter.unusedSimpArgs false

/-! ### relievolaw19_LightPower: function 3 -/
def relievolaw19_LightPower.j0 : Nat → Int → Int → Bool → Option (Bool)
  | 0, _, _, _ => none
  | k + 1, x0, x1, x20 => if x20 = true then (some true) else ((light_Power.f k x0 (wrap64 (x1 + 1))).bind fun t143 => ((light_Power.f k x0 x1).bind fun t144 => (if t143 ≤ t144 then ((light_Power.f k 256 x1).bind fun t145 => (if t145 = 256 then ((light_Power.f k 0 x1).bind fun t146 => (if t146 = 0 then ((light_Power.f k x0 1).bind fun t147 => (some (t147 == x0))) else (some false))) else (some false))) else (some false))))
def relievolaw19_LightPower.f (k : Nat) (a0 : Int) (a1 : Int) : Option (Bool) := (relievolaw19_alive.f k).bind fun t142 => (if t142 = true then (if a0 < 0 then (relievolaw19_LightPower.j0 k a0 a1 true) else (if a0 > 256 then (relievolaw19_LightPower.j0 k a0 a1 true) else (if a1 < 1 then (relievolaw19_LightPower.j0 k a0 a1 true) else (relievolaw19_LightPower.j0 k a0 a1 (decide (a1 > 63)))))) else (some false))
set_option maxHeartbeats 8000000 in
set_option maxRecDepth 100000 in
theorem relievolaw19_LightPower.calls (k : Nat) (a0 : Int) (a1 : Int) (r : Bool) (w : World) (h : relievolaw19_LightPower.f k a0 a1 = some r) :
    Calls Try.prog 3 #[.int .i64 a0, .int .i64 a1] w fun e w' => e = .returned (.bool r) ∧ Below w.heap.size w w' := by
 have HB := Aside0.mk (Below.refl w.heap.size w)
 have H : ((relievolaw19_alive.f k).bind fun t142 => (if t142 = true then (if a0 < 0 then (relievolaw19_LightPower.j0 k a0 a1 true) else (if a0 > 256 then (relievolaw19_LightPower.j0 k a0 a1 true) else (if a1 < 1 then (relievolaw19_LightPower.j0 k a0 a1 true) else (relievolaw19_LightPower.j0 k a0 a1 (decide (a1 > 63)))))) else (some false))) = some r := h
 clear h
 replace H := Option.bind_eq_some_iff.mp H
 obtain ⟨t142, A30, H⟩ := H
 replace H : (if t142 = true then (if a0 < 0 then (relievolaw19_LightPower.j0 k a0 a1 true) else (if a0 > 256 then (relievolaw19_LightPower.j0 k a0 a1 true) else (if a1 < 1 then (relievolaw19_LightPower.j0 k a0 a1 true) else (relievolaw19_LightPower.j0 k a0 a1 (decide (a1 > 63)))))) else (some false)) = some r := H
 have A3 := Aside0.mk A30
 clear A30
 by_cases c4 : t142 = true
 ·subst c4
  have H1 : (if a0 < 0 then (relievolaw19_LightPower.j0 k a0 a1 true) else (if a0 > 256 then (relievolaw19_LightPower.j0 k a0 a1 true) else (if a1 < 1 then (relievolaw19_LightPower.j0 k a0 a1 true) else (relievolaw19_LightPower.j0 k a0 a1 (decide (a1 > 63)))))) = some r := by rw [if_pos rfl] at H; exact H
  clear H
  have H := H1
  clear H1
  have HC5 := Aside0.mk H
  clear H
  go_enter Try.func3, Try.ntmps3
  go_upto_region 3 with (first | ((with_reducible refine gate_callee (f := 11) rfl ?_); refine goesL_ (some 5) rfl rfl Try.func11 (by kernel_rfl) rfl #[] rfl (by (try simp only [List.map_toArray, List.map_cons, List.map_nil]); first | done | rfl | (simp only [List.length_drop, List.length_take]; rfl)) ?_; (with_reducible refine (relievolaw19_alive.calls k  true _ A3.out).mono ?_); rintro e w6 ⟨rfl, hb⟩; refine ⟨_, rfl, ?_⟩; replace HB := Aside0.mk (below_step (by first | exact HB.out | (repeat (first | exact HB.out | apply pw_below_drewN | apply below_drew1 | apply below_alloc))) hb); (try clear hb); (try clear hb2); (try clear hk); (try clear hi)))
  (try simp only [Act.put, List.setIfInBounds_toArray, List.set_cons_zero, List.set_cons_succ])
  go_cut [20] (fun v20 wc => ∃ (kq : Nat) (x20_4 : Bool), v20 = .bool x20_4 ∧ Aside0 (relievolaw19_LightPower.j0 kq a0 a1 x20_4 = some r) ∧ Aside0 (kq ≤ k) ∧ Aside0 (Below w.heap.size w wc))
  case first =>
   have H := HC5.out
   clear HC5
   by_cases c7 : a0 < 0
   ·rw [if_pos c7] at H
    have c7b0 : decide (a0 < 0) = true := decide_eq_true c7
    clear c7
    (first | rw [c7b0] | (simp only [i64_w, i32_w]; rw [c7b0]) | skip)
    have H' := Aside0.mk H
    clear H
    go_wp2
    go_meet
    case rel => exact ⟨_, (true), (by first | rfl | (simp; done) | (simp [*]; done)), H', ⟨by first | omega | exact Nat.le_refl _⟩, ⟨by first | exact HB.out | (repeat (first | exact HB.out | apply pw_below_drewN | apply below_drew1 | apply below_alloc))⟩⟩
   rw [if_neg c7] at H
   have c7b0 : decide (a0 < 0) = false := decide_eq_false c7
   clear c7
   (first | rw [c7b0] | (simp only [i64_w, i32_w]; rw [c7b0]) | skip)
   by_cases c8 : a0 > 256
   ·rw [if_pos c8] at H
    have c8b0 : decide (256 < a0) = true := decide_eq_true c8
    clear c8
    have H' := Aside0.mk H
    clear H
    go_wp2
    go_meet
    case rel => exact ⟨_, (true), (by first | rfl | (simp; done) | (simp [*]; done)), H', ⟨by first | omega | exact Nat.le_refl _⟩, ⟨by first | exact HB.out | (repeat (first | exact HB.out | apply pw_below_drewN | apply below_drew1 | apply below_alloc))⟩⟩
   rw [if_neg c8] at H
   have c8b0 : decide (256 < a0) = false := decide_eq_false c8
   clear c8
   by_cases c9 : a1 < 1
   ·rw [if_pos c9] at H
    have c9b0 : decide (a1 < 1) = true := decide_eq_true c9
    clear c9
    have H' := Aside0.mk H
    clear H
    go_wp2
    go_meet
    case rel => exact ⟨_, (true), (by first | rfl | (simp; done) | (simp [*]; done)), H', ⟨by first | omega | exact Nat.le_refl _⟩, ⟨by first | exact HB.out | (repeat (first | exact HB.out | apply pw_below_drewN | apply below_drew1 | apply below_alloc))⟩⟩
   rw [if_neg c9] at H
   have c9b0 : decide (a1 < 1) = false := decide_eq_false c9
   clear c9
   have H' := Aside0.mk H
   clear H
   go_wp2
   go_meet
   case rel => exact ⟨_, (decide (a1 > 63)), (by first | rfl | (simp; done) | (simp [*]; done)), H', ⟨by first | omega | exact Nat.le_refl _⟩, ⟨by first | exact HB.out | (repeat (first | exact HB.out | apply pw_below_drewN | apply below_drew1 | apply below_alloc))⟩⟩
  clear HC5
  try clear c4
  obtain ⟨kq, x20_4, rfl, HA, HJ4, HB⟩ := hcut
  cases kq with
  | zero => exact absurd HA.out (by simp [relievolaw19_LightPower.j0])
  | succ kj4 =>
   have H := HA.out
   clear HA
   simp only [relievolaw19_LightPower.j0] at H
   by_cases c10 : x20_4 = true
   ·subst c10
    have H1 : (some true) = some r := by rw [if_pos rfl] at H; exact H
    clear H
    have H := H1
    clear H1
    obtain rfl := Option.some.inj H
    go_wp2
    go_ret
    exact ⟨by first | rfl | (simp [errW_none, errW_some] <;> rfl) | (simp [*, errW_none, errW_some] <;> rfl), by first | exact HB.out | (repeat (first | exact HB.out | apply pw_below_drewN | apply below_drew1 | apply below_alloc))⟩
   replace c10 := Bool.eq_false_iff.mpr c10
   subst c10
   have H1 : ((light_Power.f kj4 a0 (wrap64 (a1 + 1))).bind fun t143 => ((light_Power.f kj4 a0 a1).bind fun t144 => (if t143 ≤ t144 then ((light_Power.f kj4 256 a1).bind fun t145 => (if t145 = 256 then ((light_Power.f kj4 0 a1).bind fun t146 => (if t146 = 0 then ((light_Power.f kj4 a0 1).bind fun t147 => (some (t147 == a0))) else (some false))) else (some false))) else (some false)))) = some r := by rw [if_neg (show ¬ (false = true) by decide)] at H; exact H
   clear H
   have H := H1
   clear H1
   replace H := Option.bind_eq_some_iff.mp H
   obtain ⟨t143, A110, H⟩ := H
   replace H : ((light_Power.f kj4 a0 a1).bind fun t144 => (if t143 ≤ t144 then ((light_Power.f kj4 256 a1).bind fun t145 => (if t145 = 256 then ((light_Power.f kj4 0 a1).bind fun t146 => (if t146 = 0 then ((light_Power.f kj4 a0 1).bind fun t147 => (some (t147 == a0))) else (some false))) else (some false))) else (some false))) = some r := H
   have A11 := Aside0.mk A110
   clear A110
   replace H := Option.bind_eq_some_iff.mp H
   obtain ⟨t144, A120, H⟩ := H
   replace H : (if t143 ≤ t144 then ((light_Power.f kj4 256 a1).bind fun t145 => (if t145 = 256 then ((light_Power.f kj4 0 a1).bind fun t146 => (if t146 = 0 then ((light_Power.f kj4 a0 1).bind fun t147 => (some (t147 == a0))) else (some false))) else (some false))) else (some false)) = some r := H
   have A12 := Aside0.mk A120
   clear A120
   by_cases c13 : t143 ≤ t144
   ·rw [if_pos c13] at H
    have c13b0 : decide (t143 ≤ t144) = true := decide_eq_true c13
    clear c13
    replace H := Option.bind_eq_some_iff.mp H
    obtain ⟨t145, A140, H⟩ := H
    replace H : (if t145 = 256 then ((light_Power.f kj4 0 a1).bind fun t146 => (if t146 = 0 then ((light_Power.f kj4 a0 1).bind fun t147 => (some (t147 == a0))) else (some false))) else (some false)) = some r := H
    have A14 := Aside0.mk A140
    clear A140
    by_cases c15 : t145 = 256
    ·rw [if_pos c15] at H
     have c15b0 : (t145 == 256) = true := beq_iff_eq.mpr c15
     have c15b1 : (t145 != 256) = false := bne_eq_false_iff_eq.mpr c15
     clear c15
     replace H := Option.bind_eq_some_iff.mp H
     obtain ⟨t146, A160, H⟩ := H
     replace H : (if t146 = 0 then ((light_Power.f kj4 a0 1).bind fun t147 => (some (t147 == a0))) else (some false)) = some r := H
     have A16 := Aside0.mk A160
     clear A160
     by_cases c17 : t146 = 0
     ·rw [if_pos c17] at H
      have c17b0 : (t146 == 0) = true := beq_iff_eq.mpr c17
      have c17b1 : (t146 != 0) = false := bne_eq_false_iff_eq.mpr c17
      clear c17
      replace H := Option.bind_eq_some_iff.mp H
      obtain ⟨t147, A180, H⟩ := H
      replace H : (some (t147 == a0)) = some r := H
      have A18 := Aside0.mk A180
      clear A180
      obtain rfl := Option.some.inj H
      go_wp2_with (first | ((with_reducible refine gate_callee (f := 12) rfl ?_); refine goesL_ (some 24) rfl rfl Try.func12 (by kernel_rfl) rfl #[.int .i64 a0, .int .i64 (wrap64 (a1 + 1))] rfl (by (try simp only [List.map_toArray, List.map_cons, List.map_nil]); first | done | rfl | (simp only [List.length_drop, List.length_take]; rfl)) ?_; (with_reducible refine (light_Power.calls kj4 a0 (wrap64 (a1 + 1)) t143 _ A11.out).mono ?_); rintro e w' ⟨rfl, ⟨nd, rfl⟩⟩; refine ⟨_, rfl, ?_⟩) | ((with_reducible refine gate_callee (f := 12) rfl ?_); refine goesL_ (some 27) rfl rfl Try.func12 (by kernel_rfl) rfl #[.int .i64 a0, .int .i64 a1] rfl (by (try simp only [List.map_toArray, List.map_cons, List.map_nil]); first | done | rfl | (simp only [List.length_drop, List.length_take]; rfl)) ?_; (with_reducible refine (light_Power.calls kj4 a0 a1 t144 _ A12.out).mono ?_); rintro e w' ⟨rfl, ⟨nd, rfl⟩⟩; refine ⟨_, rfl, ?_⟩) | (go_at_call 12; (with_reducible refine (light_Power.calls kj4 256 a1 t145 _ A14.out).mono ?_); rintro e w' ⟨rfl, ⟨nd, rfl⟩⟩) | (go_at_call 12; (with_reducible refine (light_Power.calls kj4 0 a1 t146 _ A16.out).mono ?_); rintro e w' ⟨rfl, ⟨nd, rfl⟩⟩) | (go_at_call 12; (with_reducible refine (light_Power.calls kj4 a0 1 t147 _ A18.out).mono ?_); rintro e w' ⟨rfl, ⟨nd, rfl⟩⟩))
      go_ret
      exact ⟨by first | rfl | (simp [errW_none, errW_some] <;> rfl) | (simp [*, errW_none, errW_some] <;> rfl), by first | exact HB.out | (repeat (first | exact HB.out | apply pw_below_drewN | apply below_drew1 | apply below_alloc))⟩
     rw [if_neg c17] at H
     have c17b0 : (t146 == 0) = false := beq_eq_false_iff_ne.mpr c17
     have c17b1 : (t146 != 0) = true := bne_iff_ne.mpr c17
     obtain rfl := Option.some.inj H
     go_wp2_with (first | ((with_reducible refine gate_callee (f := 12) rfl ?_); refine goesL_ (some 24) rfl rfl Try.func12 (by kernel_rfl) rfl #[.int .i64 a0, .int .i64 (wrap64 (a1 + 1))] rfl (by (try simp only [List.map_toArray, List.map_cons, List.map_nil]); first | done | rfl | (simp only [List.length_drop, List.length_take]; rfl)) ?_; (with_reducible refine (light_Power.calls kj4 a0 (wrap64 (a1 + 1)) t143 _ A11.out).mono ?_); rintro e w' ⟨rfl, ⟨nd, rfl⟩⟩; refine ⟨_, rfl, ?_⟩) | ((with_reducible refine gate_callee (f := 12) rfl ?_); refine goesL_ (some 27) rfl rfl Try.func12 (by kernel_rfl) rfl #[.int .i64 a0, .int .i64 a1] rfl (by (try simp only [List.map_toArray, List.map_cons, List.map_nil]); first | done | rfl | (simp only [List.length_drop, List.length_take]; rfl)) ?_; (with_reducible refine (light_Power.calls kj4 a0 a1 t144 _ A12.out).mono ?_); rintro e w' ⟨rfl, ⟨nd, rfl⟩⟩; refine ⟨_, rfl, ?_⟩) | (go_at_call 12; (with_reducible refine (light_Power.calls kj4 256 a1 t145 _ A14.out).mono ?_); rintro e w' ⟨rfl, ⟨nd, rfl⟩⟩) | (go_at_call 12; (with_reducible refine (light_Power.calls kj4 0 a1 t146 _ A16.out).mono ?_); rintro e w' ⟨rfl, ⟨nd, rfl⟩⟩))
     go_ret
     exact ⟨by first | rfl | (simp [errW_none, errW_some] <;> rfl) | (simp [*, errW_none, errW_some] <;> rfl), by first | exact HB.out | (repeat (first | exact HB.out | apply pw_below_drewN | apply below_drew1 | apply below_alloc))⟩
    rw [if_neg c15] at H
    have c15b0 : (t145 == 256) = false := beq_eq_false_iff_ne.mpr c15
    have c15b1 : (t145 != 256) = true := bne_iff_ne.mpr c15
    obtain rfl := Option.some.inj H
    go_wp2_with (first | ((with_reducible refine gate_callee (f := 12) rfl ?_); refine goesL_ (some 24) rfl rfl Try.func12 (by kernel_rfl) rfl #[.int .i64 a0, .int .i64 (wrap64 (a1 + 1))] rfl (by (try simp only [List.map_toArray, List.map_cons, List.map_nil]); first | done | rfl | (simp only [List.length_drop, List.length_take]; rfl)) ?_; (with_reducible refine (light_Power.calls kj4 a0 (wrap64 (a1 + 1)) t143 _ A11.out).mono ?_); rintro e w' ⟨rfl, ⟨nd, rfl⟩⟩; refine ⟨_, rfl, ?_⟩) | ((with_reducible refine gate_callee (f := 12) rfl ?_); refine goesL_ (some 27) rfl rfl Try.func12 (by kernel_rfl) rfl #[.int .i64 a0, .int .i64 a1] rfl (by (try simp only [List.map_toArray, List.map_cons, List.map_nil]); first | done | rfl | (simp only [List.length_drop, List.length_take]; rfl)) ?_; (with_reducible refine (light_Power.calls kj4 a0 a1 t144 _ A12.out).mono ?_); rintro e w' ⟨rfl, ⟨nd, rfl⟩⟩; refine ⟨_, rfl, ?_⟩) | (go_at_call 12; (with_reducible refine (light_Power.calls kj4 256 a1 t145 _ A14.out).mono ?_); rintro e w' ⟨rfl, ⟨nd, rfl⟩⟩))
    go_ret
    exact ⟨by first | rfl | (simp [errW_none, errW_some] <;> rfl) | (simp [*, errW_none, errW_some] <;> rfl), by first | exact HB.out | (repeat (first | exact HB.out | apply pw_below_drewN | apply below_drew1 | apply below_alloc))⟩
   rw [if_neg c13] at H
   have c13b0 : decide (t143 ≤ t144) = false := decide_eq_false c13
   clear c13
   obtain rfl := Option.some.inj H
   go_wp2_with (first | ((with_reducible refine gate_callee (f := 12) rfl ?_); refine goesL_ (some 24) rfl rfl Try.func12 (by kernel_rfl) rfl #[.int .i64 a0, .int .i64 (wrap64 (a1 + 1))] rfl (by (try simp only [List.map_toArray, List.map_cons, List.map_nil]); first | done | rfl | (simp only [List.length_drop, List.length_take]; rfl)) ?_; (with_reducible refine (light_Power.calls kj4 a0 (wrap64 (a1 + 1)) t143 _ A11.out).mono ?_); rintro e w' ⟨rfl, ⟨nd, rfl⟩⟩; refine ⟨_, rfl, ?_⟩) | ((with_reducible refine gate_callee (f := 12) rfl ?_); refine goesL_ (some 27) rfl rfl Try.func12 (by kernel_rfl) rfl #[.int .i64 a0, .int .i64 a1] rfl (by (try simp only [List.map_toArray, List.map_cons, List.map_nil]); first | done | rfl | (simp only [List.length_drop, List.length_take]; rfl)) ?_; (with_reducible refine (light_Power.calls kj4 a0 a1 t144 _ A12.out).mono ?_); rintro e w' ⟨rfl, ⟨nd, rfl⟩⟩; refine ⟨_, rfl, ?_⟩))
   go_ret
   exact ⟨by first | rfl | (simp [errW_none, errW_some] <;> rfl) | (simp [*, errW_none, errW_some] <;> rfl), by first | exact HB.out | (repeat (first | exact HB.out | apply pw_below_drewN | apply below_drew1 | apply below_alloc))⟩
 replace c4 := Bool.eq_false_iff.mpr c4
 subst c4
 have H1 : (some false) = some r := by rw [if_neg (show ¬ (false = true) by decide)] at H; exact H
 clear H
 have H := H1
 clear H1
 obtain rfl := Option.some.inj H
 go_enter Try.func3, Try.ntmps3
 go_wp2_with (first | ((with_reducible refine gate_callee (f := 11) rfl ?_); refine goesL_ (some 5) rfl rfl Try.func11 (by kernel_rfl) rfl #[] rfl (by (try simp only [List.map_toArray, List.map_cons, List.map_nil]); first | done | rfl | (simp only [List.length_drop, List.length_take]; rfl)) ?_; (with_reducible refine (relievolaw19_alive.calls k  false _ A3.out).mono ?_); rintro e w19 ⟨rfl, hb⟩; refine ⟨_, rfl, ?_⟩; replace HB := Aside0.mk (below_step (by first | exact HB.out | (repeat (first | exact HB.out | apply pw_below_drewN | apply below_drew1 | apply below_alloc))) hb); (try clear hb); (try clear hb2); (try clear hk); (try clear hi)))
 go_ret
 exact ⟨by first | rfl | (simp [errW_none, errW_some] <;> rfl) | (simp [*, errW_none, errW_some] <;> rfl), by first | exact HB.out | (repeat (first | exact HB.out | apply pw_below_drewN | apply below_drew1 | apply below_alloc))⟩

/-- THE ONE PURE STATEMENT of relievolaw19_LightPower: yours. -/
def relievolaw19_LightPower.Pure : Prop := ∀ (a0 : Int) (a1 : Int), (Lit.int .i64 a0).wf = true → (Lit.int .i64 a1).wf = true → ∃ k, relievolaw19_LightPower.f k a0 a1 = some true
theorem relievolaw19_LightPower.walk (P : relievolaw19_LightPower.Pure) (a0 : Int) (a1 : Int) (w : World) (w0 : (Lit.int .i64 a0).wf = true) (w1 : (Lit.int .i64 a1).wf = true) :
  Calls Try.prog 3 #[.int .i64 a0, .int .i64 a1] w fun e w' => e = .returned (.bool true) ∧ Below w.heap.size w w' := by
 obtain ⟨k, h⟩ := P a0 a1 w0 w1
 refine (relievolaw19_LightPower.calls k a0 a1 true w h).mono ?_
 rintro e w' ⟨rfl, hd⟩
 exact ⟨rfl, hd⟩

end Go.Proofs.Ytmhnidmbgicgeaa.G
